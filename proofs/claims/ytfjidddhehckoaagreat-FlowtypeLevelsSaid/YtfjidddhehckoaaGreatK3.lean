/- Part 3: contracts of functions of the program and of the reference, and plain facts about what they compute; used by the proof of the claimed statement. Conditions: as each theorem states. -/
import Derived.Test.YtfjidddhehckoaaGreatK2
import Derived.Test.YtfjidddhehckoaaGreatK1
set_option linter.unusedSimpArgs false
set_option linter.unusedVariables false
set_option linter.unnecessarySimpa false
set_option maxRecDepth 100000
set_option maxHeartbeats 2000000
namespace Go.Proofs.YtfjidddhehckoaaGreat
open Go Go.Hl
@[simp] theorem take_encV (l:List Vr) (i:Nat):(encVs l).take i=encVs (l.take i):=by simp[encVs]
@[simp] theorem encV_snoc (l:List Vr) (v:Vr):encVs (l++[v])=encVs l++[v.enc]:=by simp[encVs]
theorem take_snoc {α:Type} {l:List α} {k:Nat} {x:α} (h:l[k]? =some x):l.take (k+1)=l.take k++[x]:=by
 rw[List.take_add_one,h];rfl
theorem nameR_con (s:ByteArray) (d:Nat):Con Tryz.prog 49 true [sv s] (.v (lb (nameB s))) none d:=by
 refine con_of_HTA Tryz.func49 ?_;simp only[Tryz.f49];refine HT_sA ?_;refine HT_seq<|HT_seq<|HT_runA ?_;refine(HT_cs rfl (fun h2=>?_) fun h2=>?_)
 · try simp only[BN]at h2
   have hz:nameB s=false:=by
    unfold nameB;rw[Bool.and_eq_false_iff,Bool.and_eq_false_iff];simp only[decide_eq_false_iff_not];omega
   refine HT_sA ?_;exact HT_rA
 (try simp only[BN]at h2);have h1:1≤s.size:=by omega
 have h40:s.size≤40:=by omega
 refine HT_seq<|HT_seq<|HT_runA ?_;refine HT_block<|(HT_loopU [0] (fun(x:Nat)=>[(3,.v (li x))]) (fun x=>[]) (fun x=>x≤s.size∧∀j:Nat,j<x→chOk s j=true) (fun x=>s.size - x) (0:Nat) ⟨Nat.zero_le _,fun j hj=>absurd hj (Nat.not_lt_zero j)⟩ ?_ ?_)
 · exact le_mkA (fun n=>n) []
 rintro k ⟨hk,hall⟩;simp only[upS,keepS,insS]
 try simp only[keepS,KN,Nat.reduceBEq,if_true,if_false,ins,Nat.reduceLT]
 refine HT_seq<|HT_seq<|HT_runA ?_;refine(HT_cond rfl (fun h8=>HT_skip ?_) (fun h8=>?_))
 · (try simp only[BN]at h8);have hlt:k<s.size:=by omega
   obtain⟨b,hb⟩:=get_bytes hlt;have hw:=wrap1 hlt (by omega);have hk1:k+1≤s.size:=hlt;clear hlt h8;refine HT_seq<|HT_block<|HT_seq<|HT_runA ?_;refine HT_sA ?_;refine HT_sA ?_;refine HT_sA ?_;refine(HT_cs rfl (fun h13=>?_) fun h13=>?_)
   · try simp only[BN]at h13
     have hbad:chOk s k=false:=by
      unfold chOk;rw[hb];simp only[Bool.or_eq_false_iff,Bool.and_eq_false_iff,decide_eq_false_iff_not];omega
     have hz:=nameB_bad hk1 hbad;refine HT_sA ?_;exact HT_rA
   try simp only[BN]at h13
   have hgood:chOk s k=true:=by
    unfold chOk;rw[hb];simp only[Bool.or_eq_true,Bool.and_eq_true,decide_eq_true_eq];omega
   refine HT_runA ?_;exact⟨k+1,⟨by omega,fun j hj=>(Nat.lt_succ_iff_lt_or_eq.1 hj).elim (hall j) (fun e=>e▸hgood)⟩,by omega,le_mkA (fun n=>n) []⟩
 (try simp only[BN]at h8);have hz:=nameB_good h1 h40 (fun j hj=>hall j (by omega));refine(HT_exit ?_);refine HT_sA ?_;exact HT_rA
def sz (v:Vr):Int:=v.high - v.low+1
def prV:List Vr→Int→Int
 |[],n=>n
 |v::l,n=>if 4096<n*sz v then 4097 else prV l (n*sz v)
def spc (vars:List Vr) (kind:Int):Int:=prV (vars.filter fun v=>decide (v.kind=kind)) 1
def goodV' (vars:List Vr):Prop:=∀v∈vars,v.low≤v.high∧-1048576≤v.low∧v.high≤1048576
theorem sz_in {vars:List Vr} (h:goodV' vars) {v:Vr} (hv:v∈vars):1≤sz v∧sz v≤2097153:=by
 have:=h v hv;unfold sz;omega
theorem mul_in {n s:Int} (h1:1≤n∧n≤4096) (h2:1≤s∧s≤2097153):1≤n*s∧n*s≤8589938688:=by
 have h3:n.natAbs*s.natAbs≤4096*2097153:=Nat.mul_le_mul (by omega) (by omega);have h4:1*1≤n.natAbs*s.natAbs:=Nat.mul_le_mul (by omega) (by omega);rw[←Int.natAbs_mul]at h3 h4;have h5:0≤n*s:=Int.mul_nonneg (by omega) (by omega);omega
theorem prV_in {vars:List Vr} (h:goodV' vars):∀(l:List Vr) (n:Int),(∀v∈l,v∈vars)→1≤n∧n≤4096→1≤prV l n∧prV l n≤4097
 |[],n,_,hn=>by simp only[prV];omega
 | v::l,n,hl,hn=>by
   simp only[prV];have:=mul_in hn (sz_in h (hl v (by simp)));split
   · omega
   exact prV_in h l _ (fun w hw=>hl w (List.mem_cons_of_mem _ hw)) (by omega)
theorem spaceR_con (vars:List Vr) (kind:Int) (hv:goodV' vars) (hl:vars.length≤1000000000) (d:Nat):Con Tryz.prog 88 true [lV vars,li kind] (.v (li (spc vars kind))) none d:=by
 obtain⟨res,hres⟩:∃r,spc vars kind=r:=⟨_,rfl⟩;rw[hres];unfold spc at hres;refine con_of_HTA Tryz.func88 ?_;simp only[Tryz.f88];refine HT_sA ?_;refine HT_sA ?_;refine HT_seq<|HT_seq<|HT_runA ?_;refine HT_block<|(HT_loopU [0,1] (fun(x:Nat×Int)=>[(5,.v (li x.2)),(6,.v (li x.1))]) (fun x=>[]) (fun x=>x.1≤vars.length∧prV ((vars.drop x.1).filter fun v=>decide (v.kind=kind)) x.2=res∧1≤x.2∧x.2≤4096) (fun x=>vars.length - x.1) (0,1) ⟨Nat.zero_le _,hres,by decide,by decide⟩ ?_ ?_)
 · exact le_mkA (fun n=>n) []
 rintro⟨k,n⟩ ⟨hk,hJ,hn1,hn2⟩;simp only[upS,keepS,insS]
 try simp only[keepS,KN,Nat.reduceBEq,if_true,if_false,ins,Nat.reduceLT]
 simp only at hk hJ hn1 hn2;clear hres;refine HT_seq<|HT_seq<|HT_runA ?_;refine(HT_cond rfl (fun h5=>HT_skip ?_) (fun h5=>?_))
 · (try simp only[BN]at h5);have hlt:k<vars.length:=by omega
   obtain⟨v,he,hd⟩:=at_lt hlt;have hw1:=wrap1 hlt (by omega);have hk1:k+1≤vars.length:=hlt;have hmem:v∈vars:=List.mem_of_getElem? he;have hs:=sz_in hv hmem;have hm:=mul_in ⟨hn1,hn2⟩ hs;have hb:=hv v hmem;have hw2:IntKind.i64.wrap (v.high - v.low)=v.high - v.low:=wrap_in (by omega) (by omega);have hw3:IntKind.i64.wrap (v.high - v.low+1)=sz v:=by rw[wrap_in (by omega) (by omega)];rfl
   have hw4:IntKind.i64.wrap (n*sz v)=n*sz v:=wrap_in (by omega) (by omega);rw[hd]at hJ;clear hlt h5 hv;refine HT_seq<|HT_block<|HT_seq<|HT_seq<|HT_runA ?_;refine(HT_cs rfl (fun h7=>?_) fun h7=>?_)
   · (try simp only[BN]at h7);rw[List.filter_cons_of_neg (by simpa using h7)]at hJ;refine(HT_exit ?_);refine HT_runA ?_;exact⟨(k+1,n),⟨hk1,hJ,hn1,hn2⟩,by simp only;omega,le_mkA (fun n=>n) []⟩
   (try simp only[BN]at h7);rw[List.filter_cons_of_pos (by simpa using h7)]at hJ;simp only[prV]at hJ;refine HT_seq<|(HT_drun (by kernel_rfl) (by kernel_rfl) (by rfl) (by simp[*];rfl) ?_);refine HT_sA ?_;refine(HT_cs rfl (fun h12=>?_) fun h12=>?_)
   · (try simp only[BN]at h12);rw[if_pos h12]at hJ;subst hJ;refine HT_sA ?_;exact HT_rA
   (try simp only[BN]at h12);rw[if_neg h12]at hJ;refine HT_runA ?_;exact⟨(k+1,n*sz v),⟨hk1,hJ,hm.1,by simp only;omega⟩,by simp only;omega,le_mkA (fun n=>n) []⟩
 (try simp only[BN]at h5);have hkl:k=vars.length:=by omega
 rw[hkl,List.drop_length]at hJ;simp only[List.filter_nil,prV]at hJ;refine(HT_exit ?_);refine HT_sA ?_;exact(HT_retE (fun h=>⟨.inr rfl,h⟩) _ (by simp[*];rfl) (by subst hJ;rfl) (by simp))
theorem sizeD_con (v:Vr) (hv:-1048576≤v.low∧v.low≤v.high∧v.high≤1048576) (d:Nat):Con Tryz.prog 199 true [aV v] (.v (li (sz v))) none d:=by
 have hw2:IntKind.i64.wrap (v.high - v.low)=v.high - v.low:=wrap_in (by omega) (by omega);have hw3:IntKind.i64.wrap (v.high - v.low+1)=sz v:=by rw[wrap_in (by omega) (by omega)];rfl
 refine con_of_HTA Tryz.func199 ?_;simp only[Tryz.f199];refine HT_sA ?_;refine HT_sA ?_;exact HT_rA
def chR (vars:List Vr) (kind:Int):RV:=if spc vars kind≤4096 then .tup [.one (.c (.sl 5 (encVs (vars.filter fun v=>decide (v.kind=kind))))),li (spc vars kind),li 0] else .tup [.one (.c (.lit nilS)),li 0,li 4]
theorem chosen_con (vars:List Vr) (kind:Int) (hkd:1≤kind∧kind≤3) (hv:goodV' vars) (hl:vars.length≤1000000) (d:Nat):Con Tryz.prog 189 false [lV vars,li kind] (chR vars kind) none d:=by
 obtain⟨S,hS⟩:∃S,vars.filter (fun v=>decide (v.kind=kind))=S:=⟨_,rfl⟩;obtain⟨res,hres⟩:∃r,spc vars kind=r:=⟨_,rfl⟩;unfold chR;rw[hres,hS];unfold spc at hres;rw[hS]at hres;refine con_of_HTA Tryz.func189 ?_;simp only[Tryz.f189];refine HT_sA ?_;refine(HT_cutU [0,1] (fun(z:Unit)=>[]) (fun(z:Unit)=>[]) (fun(z:Unit)=>True) ?_ ?_)
 ·
  refine HT_sA ?_;refine HT_block<|(HT_cutU [0,1] (fun(z:Bool)=>[(14,.v (lb z))]) (fun(z:Bool)=>[]) (fun(z:Bool)=>z=true) ?_ ?_)
  ·
   refine HT_sA ?_;refine(HT_cond rfl (fun h5=>HT_skip ?_) (fun h5=>?_))
   · (try simp only[BN]at h5);exact⟨true,rfl,le_mkA (fun n=>n) []⟩
   (try simp only[BN]at h5);refine HT_sA ?_;refine(HT_cond rfl (fun h8=>HT_skip ?_) (fun h8=>?_))
   · (try simp only[BN]at h8);exact⟨true,rfl,le_mkA (fun n=>n) []⟩
   (try simp only[BN]at h8);refine HT_sA ?_;refine(HT_cond rfl (fun h11=>HT_skip ?_) (fun h11=>?_))
   · (try simp only[BN]at h11);exact⟨true,rfl,le_mkA (fun n=>n) []⟩
   (try simp only[BN]at h11);refine HT_runA ?_;have hz:decide (kind=3)=true:=by rw[decide_eq_true_eq];omega
   exact⟨true,rfl,le_mkA (fun n=>n) []⟩
  rintro _ rfl;simp only[upS,keepS,insS]
  try simp only[keepS,KN,Nat.reduceBEq,if_true,if_false,ins,Nat.reduceLT]
  refine(HT_cond rfl (fun h15=>HT_skip ?_) (fun h15=>?_))
  · (try simp only[BN]at h15);exact⟨(),trivial,le_mkA (fun n=>n) []⟩
  exact absurd h15 (by simp)
 rintro z hz;simp only[upS,keepS,insS]
 try simp only[keepS,KN,Nat.reduceBEq,if_true,if_false,ins,Nat.reduceLT]
 refine HT_sA ?_;refine HT_seq<|HT_seq<|HT_runA ?_;refine HT_block<|(HT_loopU [1,19,20] (fun(x:Nat×List Vr)=>[(7,.v (.one (.own 1007))),(21,.v (li x.1))]) (fun x=>[(1007,.row 88 5 (encVs x.2))]) (fun x=>x.1≤vars.length∧x.2=(vars.take x.1).filter fun v=>decide (v.kind=kind)) (fun x=>vars.length - x.1) (0,[]) ⟨Nat.zero_le _,by simp⟩ ?_ ?_)
 · exact le_mk (fun n=>n) [1007] rfl (by simp[upS,keepS]) (by simp[upS,encVs]) (by simp[upS])
 rintro⟨k,acc⟩ ⟨hk,hJ⟩;simp only[upS,keepS,insS]
 try simp only[keepS,KN,Nat.reduceBEq,if_true,if_false,ins,Nat.reduceLT]
 simp only at hk hJ;replace hJ:=hJ.symm;refine HT_sA ?_;refine HT_seq<|(HT_cond rfl (fun h23=>HT_skip ?_) (fun h23=>?_))
 · (try simp only[BN]at h23);have hlt:k<vars.length:=by omega
   obtain⟨v,he,hd⟩:=at_lt hlt;have hw1:=wrap1 hlt (by omega);have hk1:k+1≤vars.length:=hlt;have hmem:v∈vars:=List.mem_of_getElem? he;have hb:=hv v hmem;have ht:=take_snoc he;generalize hT:(vars.take k).filter (fun v=>decide (v.kind=kind))=T at hJ
   have hal:acc.length≤k:=by
    rw[←hJ,←hT];exact Nat.le_trans (List.length_filter_le _ _) (by rw[List.length_take];omega)
   have hroom:room (acc.length+1) 48:=room_of (by omega) (by omega);clear hlt h23 hv;refine HT_seq<|HT_block<|HT_seq<|HT_runA ?_;refine HT_seq<|HT_seq<|HT_runA ?_;refine(HT_cs rfl (fun h26=>?_) fun h26=>?_)
   · (try simp only[BN]at h26);have hf:(vars.take (k+1)).filter (fun v=>decide (v.kind=kind))=acc:=by rw[ht,List.filter_append,hT,hJ,List.filter_cons_of_neg (by simpa using h26)];simp
     clear hS;refine(HT_exit ?_);refine HT_runA ?_;exact⟨(k+1,acc),⟨hk1,hf.symm⟩,by simp only;omega,le_mkA (fun n=>n) []⟩
   (try simp only[BN]at h26);have hf:(vars.take (k+1)).filter (fun v=>decide (v.kind=kind))=acc++[v]:=by rw[ht,List.filter_append,hT,hJ,List.filter_cons_of_pos (by simpa using h26)];simp
   clear hS;refine HT_seq<|HT_seq<|HT_runA ?_;refine(HT_cs rfl (fun h30=>?_) fun h30=>?_)
   · exfalso;simp only[Bool.or_eq_true,decide_eq_true_eq]at h30;omega
   (try simp only[BN]at h30);refine HT_runA ?_;refine HT_runA ?_;exact⟨(k+1,acc++[v]),⟨hk1,hf.symm⟩,by simp only;omega,le_mkA (fun n=>if n=1007 then 47 else n) []⟩
 (try simp only[BN]at h23);have hkl:k=vars.length:=by omega
 rw[hkl,List.take_length,hS]at hJ;subst hJ;have hSl:S.length≤1000000:=by rw[←hS];exact Nat.le_trans (List.length_filter_le _ _) hl
 have hSv:∀v∈S,v.low≤v.high∧-1048576≤v.low∧v.high≤1048576:=fun v h=>hv v (by rw[←hS]at h;exact(List.mem_filter.1 h).1);clear hS hv hk hl h23 hkl;refine(HT_exit ?_);refine HT_sA ?_;refine HT_seq<|HT_seq<|HT_runA ?_;refine HT_block<|(HT_loopU [7,49,50] (fun(x:Nat×Int)=>[(10,.v (li x.2)),(51,.v (li x.1))]) (fun x=>[(1007,.row 88 5 (encVs S))]) (fun x=>x.1≤S.length∧prV (S.drop x.1) x.2=res∧1≤x.2∧x.2≤4096) (fun x=>S.length - x.1) (0,1) ⟨Nat.zero_le _,hres,by decide,by decide⟩ ?_ ?_)
 · exact le_mkA (fun n=>n) []
 rintro⟨k2,n⟩ ⟨hk2,hJ,hn1,hn2⟩;simp only[upS,keepS,insS]
 try simp only[keepS,KN,Nat.reduceBEq,if_true,if_false,ins,Nat.reduceLT]
 simp only at hk2 hJ hn1 hn2;clear hres;refine HT_sA ?_;refine HT_seq<|(HT_cond rfl (fun h40=>HT_skip ?_) (fun h40=>?_))
 · (try simp only[BN]at h40);have hlt:k2<S.length:=by omega
   obtain⟨v,he,hd⟩:=at_lt hlt;have hw1:=wrap1 hlt (by omega);have hk1:k2+1≤S.length:=hlt;have hb:=hSv v (List.mem_of_getElem? he);have hs:1≤sz v∧sz v≤2097153:=by unfold sz;omega
   have hm:=mul_in ⟨hn1,hn2⟩ hs;have hw4:IntKind.i64.wrap (n*sz v)=n*sz v:=wrap_in (by omega) (by omega);rw[hd]at hJ;simp only[prV]at hJ;clear hlt h40;refine HT_seq<|HT_block<|HT_seq<|HT_runA ?_;refine HT_scA [⟨true,.v (li (sz v)),none⟩] ?_ ?_
   · first|exact sizeD_con v ⟨hb.2.1,hb.1,hb.2.2⟩ _|exact trivial|simpa[*]using sizeD_con v ⟨hb.2.1,hb.1,hb.2.2⟩ _
   refine HT_sA ?_;refine(HT_cs rfl (fun h44=>?_) fun h44=>?_)
   · (try simp only[BN]at h44);rw[if_pos h44]at hJ;subst hJ;refine HT_sA ?_;exact HT_ret ⟨.inr rfl,_,le_refl _,⟨⟨_,by simp;rfl,by simp[resR]⟩,by simp,fun h=>by cases h⟩⟩
   (try simp only[BN]at h44);rw[if_neg h44]at hJ;refine HT_runA ?_;exact⟨(k2+1,n*sz v),⟨hk1,hJ,hm.1,by simp only;omega⟩,by simp only;omega,le_mkA (fun n=>n) []⟩
 (try simp only[BN]at h40);have hkl:k2=S.length:=by omega
 rw[hkl,List.drop_length]at hJ;simp only[prV]at hJ;subst hJ;refine(HT_exit ?_);refine HT_sA ?_;exact HT_ret ⟨.inr rfl,_,le_frz 1007 rfl,⟨⟨_,by simp;rfl,by simp[resR,hn2]⟩,by simp,fun h=>by cases h⟩⟩
theorem spaceP_con (vars:List Vr) (kind:Int) (hkd:1≤kind∧kind≤3) (hv:goodV' vars) (hl:vars.length≤1000000) (d:Nat):Con Tryz.prog 175 true [lV vars,li kind]
  (.tup [li (if spc vars kind≤4096 then spc vars kind else 0),li (if spc vars kind≤4096 then 0 else 4)]) none d:=by
 have c:=chosen_con vars kind hkd hv hl;unfold chR at c;obtain⟨res,hres⟩:∃r,spc vars kind=r:=⟨_,rfl⟩;rw[hres]at c⊢;clear hres;by_cases h:res≤4096
 · rw[if_pos h]at c;rw[if_pos h,if_pos h];refine con_of_HTA Tryz.func175 ?_;simp only[Tryz.f175];refine HT_sA ?_;refine HT_scA [⟨false,.tup [.one (.c (.sl 5 (encVs (vars.filter fun v=>decide (v.kind=kind))))),li res,li 0],none⟩] ?_ ?_
   · first|exact c _|exact trivial|simpa[*]using c _
   refine HT_sA ?_;exact HT_rA
 rw[if_neg h]at c;rw[if_neg h,if_neg h];refine con_of_HTA Tryz.func175 ?_;simp only[Tryz.f175];refine HT_sA ?_;refine HT_scA [⟨false,.tup [.one (.c (.lit nilS)),li 0,li 4],none⟩] ?_ ?_
 · first|exact c _|exact trivial|simpa[*]using c _
 refine HT_sA ?_;exact HT_rA
end Go.Proofs.YtfjidddhehckoaaGreat

namespace Go.Proofs.YtfjidddhehckoaaGreat
open Go Go.Hl
def risAt (l:List Int) (i:Nat):Bool:=
 match l[i]?,l[i+1]? with
 |some a,some b=>decide (a<b)
 |_,_=>true
def risB (l:List Int):Bool:=(List.range l.length).all (risAt l)
theorem ris_bad {l:List Int} {i:Nat} (hi:i<l.length) (h:risAt l i=false):risB l=false:=by
 unfold risB;rw[List.all_eq_false];exact⟨i,by simpa using hi,by simp[h]⟩
theorem ris_good {l:List Int} (h:∀i:Nat,i+1<l.length→risAt l i=true):risB l=true:=by
 unfold risB;rw[List.all_eq_true];intro i hi;simp only[List.mem_range]at hi;by_cases h2:i+1<l.length
 · exact h i h2
 unfold risAt;rw[List.getElem?_eq_none (i:=i+1) (by omega)];cases l[i]? <;>rfl
theorem get_I {l:List Int} {k:Nat} (h:k<l.length):∃b,l[k]? =some b:=⟨l[k],by simp[h]⟩
theorem risingP_con (l:List Int) (hl:l.length≤1000000000) (d:Nat):Con Tryz.prog 196 true [lI l] (.v (lb (risB l))) none d:=by
 refine con_of_HTA Tryz.func196 ?_;simp only[Tryz.f196];refine HT_sA ?_;refine HT_seq<|HT_seq<|HT_runA ?_;refine HT_block<|(HT_loopU [0,5] (fun(x:Nat)=>[(6,.v (li x))]) (fun x=>[]) (fun x=>x≤l.length∧∀j:Nat,j+1<x→risAt l j=true) (fun x=>l.length - x) (0:Nat) ⟨Nat.zero_le _,fun j hj=>absurd hj (by omega)⟩ ?_ ?_)
 · exact le_mkA (fun n=>n) []
 rintro k ⟨hk,hJ⟩;simp only[upS,keepS,insS]
 try simp only[keepS,KN,Nat.reduceBEq,if_true,if_false,ins,Nat.reduceLT]
 refine HT_sA ?_;refine HT_seq<|(HT_cond rfl (fun h4=>HT_skip ?_) (fun h4=>?_))
 · (try simp only[BN]at h4);have hlt:k<l.length:=by omega
   obtain⟨b,hb⟩:=get_I hlt;have hw:=wrap1 hlt hl;have hk1:k+1≤l.length:=hlt;have hk9:k≤1000000000:=by omega
   clear hlt h4;refine HT_seq<|HT_block<|HT_seq<|HT_runA ?_;rcases k with _|j
   · have hw1:IntKind.i64.wrap 1=1:=wrap_in (by omega) (by omega);refine HT_seq<|(HT_drun (by kernel_rfl) (by kernel_rfl) (by rfl) (by simp[*];rfl) ?_);refine(HT_cs rfl (fun h7=>?_) fun h7=>?_)
     · exact absurd h7 (by simp)
     (try simp only[BN]at h7);refine HT_runA ?_;exact⟨1,⟨hk1,fun j hj=>absurd hj (by omega)⟩,by omega,le_mkA (fun n=>n) []⟩
   have hw1:IntKind.i64.wrap ((j:Int)+1+1)=(j:Int)+1+1:=wrap_in (by omega) (by omega);obtain⟨a,ha⟩:=get_I (show j<l.length by omega);have hwj:IntKind.i64.wrap (j:Int)=j:=wrap_in (by omega) (by omega);have hri:risAt l j=decide (a<b):=by unfold risAt;rw[ha,hb]
   have hj0:(0:Int)<(j:Int)+1:=by omega
   have hj1:0≤(j:Int)+1:=by omega
   have hj2:((j:Int)+1).toNat=j+1:=by omega
   refine HT_seq<|(HT_drun (by kernel_rfl) (by kernel_rfl) (by rfl) (by simp[*];rfl) ?_);refine(HT_cs rfl (fun h7=>?_) fun h7=>?_)
   · (try simp only[BN]at h7);have hz:risB l=false:=ris_bad (i:=j) (by omega) (by rw[hri];simpa using h7);refine HT_sA ?_;exact HT_rA
   (try simp only[BN]at h7);refine HT_runA ?_
   exact⟨j+1+1,⟨hk1,fun i hi=>by
    rcases Nat.lt_or_eq_of_le (Nat.le_of_lt_succ hi)with h|h
    · exact hJ i (by omega)
    have:i=j:=by omega
    rw[this,hri]
    simpa using h7⟩,by omega,le_mkA (fun n=>n) []⟩
 (try simp only[BN]at h4);have hz:risB l=true:=ris_good fun i hi=>hJ i (by omega);refine(HT_exit ?_);refine HT_sA ?_;exact HT_rA
def head0 (l:List Int):Bool:=
 match l[0]? with
 |some b=>decide (0≤b)
 |none=>false
def riseB (l:List Int):Bool:=(decide (1≤l.length)&&(decide (l.length≤32)&&head0 l))&&risB l
theorem nil_or (l:List Int):l=[]∨∃b0,l[0]? =some b0:=by
 cases l with
 |nil=>exact .inl rfl
 |cons b r=>exact .inr ⟨b,rfl⟩
theorem risingR_con (l:List Int) (hl:l.length≤1000000000) (d:Nat):Con Tryz.prog 125 true [lI l] (.v (lb (riseB l))) none d:=by
 obtain⟨res,hres⟩:∃r,riseB l=r:=⟨_,rfl⟩;rw[hres];refine con_of_HTA Tryz.func125 ?_;simp only[Tryz.f125];refine HT_sA ?_;rcases nil_or l with h0|⟨b0,hb0⟩
 · subst h0;replace hres:false=res:=hres;refine HT_seq<|HT_seq<|HT_runA ?_;refine(HT_cs rfl (fun h2=>?_) fun h2=>?_)
   · (try simp only[BN]at h2);subst hres;refine HT_sA ?_;exact HT_rA
   exact absurd h2 (by simp)
 have hh:head0 l=decide (0≤b0):=by unfold head0;rw[hb0]
 have hpos:1≤l.length:=(List.getElem?_eq_some_iff.1 hb0).1;refine HT_seq<|HT_seq<|HT_runA ?_;refine(HT_cs rfl (fun h2=>?_) fun h2=>?_)
 · try simp only[BN]at h2
   have hz:riseB l=false:=by
    unfold riseB;rw[hh];simp only[Bool.and_eq_false_iff,decide_eq_false_iff_not];omega
   rw[hz]at hres;subst hres;refine HT_sA ?_;exact HT_rA
 try simp only[BN]at h2
 have hz:riseB l=risB l:=by
  unfold riseB;rw[hh];rw[decide_eq_true (by omega),decide_eq_true (by omega),decide_eq_true (by omega)];rfl
 rw[hz]at hres;have hl32:l.length≤32:=by omega
 clear hz hh h2 hb0;refine HT_seq<|HT_seq<|HT_runA ?_;refine HT_block<|(HT_loopU [0] (fun(x:Nat)=>[(3,.v (li ((x:Int)+1)))]) (fun x=>[]) (fun x=>x+1≤l.length∧∀j:Nat,j<x→risAt l j=true) (fun x=>l.length - x) (0:Nat) ⟨hpos,fun j hj=>absurd hj (Nat.not_lt_zero j)⟩ ?_ ?_)
 · exact le_mkA (fun n=>n) []
 rintro k ⟨hk,hJ⟩;simp only[upS,keepS,insS]
 try simp only[keepS,KN,Nat.reduceBEq,if_true,if_false,ins,Nat.reduceLT]
 refine HT_seq<|HT_seq<|HT_runA ?_;refine(HT_cond rfl (fun h8=>HT_skip ?_) (fun h8=>?_))
 · (try simp only[BN]at h8);have hlt:k+1<l.length:=by omega
   obtain⟨b,hb⟩:=get_I hlt;obtain⟨a,ha⟩:=get_I (show k<l.length by omega);have hw:IntKind.i64.wrap ((k:Int)+1+1)=(k:Int)+1+1:=wrap_in (by omega) (by omega);have hwj:IntKind.i64.wrap (k:Int)=k:=wrap_in (by omega) (by omega);have hri:risAt l k=decide (a<b):=by unfold risAt;rw[ha,hb]
   have hj1:0≤(k:Int)+1:=by omega
   have hj2:((k:Int)+1).toNat=k+1:=by omega
   have hk1:k+1+1≤l.length:=hlt;clear hlt h8;refine HT_seq<|HT_block<|HT_seq<|(HT_drun (by kernel_rfl) (by kernel_rfl) (by rfl) (by simp[*];rfl) ?_);refine(HT_cs rfl (fun h10=>?_) fun h10=>?_)
   · (try simp only[BN]at h10);have hz:risB l=false:=ris_bad (i:=k) (by omega) (by rw[hri];simpa using h10);refine HT_sA ?_;exact HT_rA
   (try simp only[BN]at h10);refine HT_runA ?_
   exact⟨k+1,⟨hk1,fun i hi=>by
    rcases Nat.lt_or_eq_of_le (Nat.le_of_lt_succ hi)with h|h
    · exact hJ i h
    rw[h,hri]
    simpa using h10⟩,by omega,le_mkA (fun n=>n) []⟩
 (try simp only[BN]at h8);have hz:risB l=true:=ris_good fun i hi=>hJ i (by omega);refine(HT_exit ?_);refine HT_sA ?_;exact HT_rA
end Go.Proofs.YtfjidddhehckoaaGreat

namespace Go.Proofs.YtfjidddhehckoaaGreat
open Go Go.Hl
def stlL:List Int→Int→Int→Bool→Int
 |[],_,best,_=>best
 |b::l,t,best,found=>if t≤b∧(found=false∨b<best)then stlL l t b true else stlL l t best found
end Go.Proofs.YtfjidddhehckoaaGreat

namespace Go.Proofs.YtfjidddhehckoaaGreat
open Go Go.Hl Go.RowKit
inductive CWk:CV→CV→Prop where
 |refl (x:CV):CWk x x
 |nil (s:Nat):CWk (.c (.lit nilS)) (.c (.sl s []))
inductive LWk:List CV→List CV→Prop where
 |nil:LWk [] []
 |cons {x y:CV} {l m:List CV}:CWk x y→LWk l m→LWk (x::l) (y::m)
theorem CWk.rel {F:Nat→Prop} {γ:Nat→Value} {w:World} {x y:CV} (h:CWk x y) {v:Value} (hr:CVRel F γ w x v):CVRel F γ w y v:=by
 cases h with
 |refl=>exact hr
 | nil s=>
   have:v=nilS:=RVRel.lit_eq (γ:=γ) (F:=F) (w:=w) (r:=.v (.one (.c (.lit nilS)))) rfl hr;rw[this];exact CRel.nil s
theorem LWk.len {l m:List CV} (h:LWk l m):m.length=l.length:=by
 induction h with
 |nil=>rfl
 |cons _ _ ih=>simp[ih]
theorem LWk.get {l m:List CV} (h:LWk l m):∀(j:Nat) y,m[j]? =some y→∃x,l[j]? =some x∧CWk x y:=by
 induction h with
 |nil=>simp
 | cons hc _ ih=>
   intro j y hj;cases j with
   |zero=>cases hj;exact⟨_,rfl,hc⟩
   |succ j=>exact ih j y hj
theorem LWk.rel {F:Nat→Prop} {γ:Nat→Value} {w:World} {l m:List CV} (h:LWk l m) {vs:Array Value} (hr:cellsRel F γ w l vs):cellsRel F γ w m vs:=by
 refine⟨hr.1.trans h.len.symm,fun j y u hy hu=>?_⟩;obtain⟨x,hx,hc⟩:=h.get j y hy;exact hc.rel (hr.2 j x u hx hu)
theorem le_reg {s:HS} (k:Nat) {r r':RV} (hl:lkp s.regs k=some r) (hw:∀(F:Nat→Prop) (γ:Nat→Value) (w:World) v,RVRel F γ w r v→RVRel F γ w r' v):le s {s with regs:=ins k r' s.regs}:=by
 intro w0 B π F γ a w hr;refine⟨F,γ,fun _ h=>h,fun _ h=>.inl h,hr.heap,hr.defers,hr.nt,fun j x hj=>?_⟩;rw[look_ins]at hj;split at hj
 · rename_i e;cases hj;subst e;exact hw _ _ _ _ (hr.regs j r hl)
 exact hr.regs j x hj
theorem le_agg {s:HS} (k:Nat) {xs:List CV} (ys:List CV) (hl:lkp s.regs k=some (.v (.agg xs))) (h:LWk xs ys):le s {s with regs:=ins k (.v (.agg ys)) s.regs}:=by
 refine le_reg k hl fun F γ w v hv=>?_;obtain⟨vs,rfl,hc⟩:=hv;exact⟨vs,rfl,h.rel hc⟩
theorem le_one {s:HS} (k sz:Nat) (hl:lkp s.regs k=some (.v (.one (.c (.lit nilS))))):le s {s with regs:=ins k (.v (.one (.c (.sl sz [])))) s.regs}:=
 le_reg k hl fun F γ w v hv=>CWk.rel (γ:=γ) (CWk.nil sz) hv
theorem le_emp {s:HS} (k sz:Nat) {a:Addr} {cap:Nat} (hl:lkp s.regs k=some (.v (.one (.c (.lit (.slice (some a) 0 cap)))))):le s {s with regs:=ins k (.v (.one (.c (.sl sz [])))) s.regs}:=by
 refine le_reg k hl fun F γ w v hv=>?_;have:v=.slice (some a) 0 cap:=RVRel.lit_eq rfl hv;rw[this];exact CRel.emp sz a cap
theorem le_box {s:HS} (n:Nat) {xs:List CV} (ys:List CV) (hl:lkp s.objs n=some (.box xs)) (h:LWk xs ys):le s {s with objs:=ins n (.box ys) s.objs}:=by
 intro w0 B π F γ a w hr
 have hlk:∀m o,lkp (ins n (.box ys) s.objs) m=some o→(m=n∧o=.box ys)∨(m≠n∧lkp s.objs m=some o):=by
  intro m o hm;rw[look_ins]at hm;split at hm
  · rename_i e;cases hm;exact .inl ⟨e,rfl⟩
  rename_i e;exact .inr ⟨e,hm⟩
 have hex:∀m o,lkp (ins n (.box ys) s.objs) m=some o→∃o',lkp s.objs m=some o':=by
  intro m o hm;rcases hlk m o hm with⟨rfl,_⟩|⟨_,h2⟩
  · exact⟨_,hl⟩
  exact⟨_,h2⟩
 refine⟨F,γ,fun _ h=>h,fun _ h=>.inl h,⟨hr.heap.below,hr.heap.hB,hr.heap.fsz,fun m o hm=>?_,fun m o hm=>?_,fun m k om ok hm hk hne=>?_,hr.heap.pin⟩,hr.defers,hr.nt,hr.regs⟩
 · rcases hlk m o hm with⟨rfl,rfl⟩|⟨_,h2⟩
   · obtain⟨b,e,vs,hx,hB,hh,hc⟩:=hr.heap.ob m _ hl;exact⟨b,e,vs,hx,hB,hh,h.rel hc⟩
   exact hr.heap.ob m o h2
 · obtain⟨o',ho'⟩:=hex m o hm;exact hr.heap.apart m o' ho'
 obtain⟨o1,h1⟩:=hex m om hm;obtain⟨o2,h2⟩:=hex k ok hk;exact hr.heap.sep m k o1 o2 h1 h2 hne
theorem le_name {s:HS} (t n d:Nat) {e:TypeId} {sz:Nat} {rows:List (List CD)} (hl:opd s.regs (.tmp t)=.v (.one (.own n))) (ho:lkp s.objs n=some (.row e sz rows)) (hd:d<1000000):
  le s ⟨s.nt,[(t,.v (.one (.own d)))],[(d,.row e sz rows)]⟩:=by
 have hp:pinR (fun _=>n) d=n:=by unfold pinR;rw[if_neg (by omega)]
 refine le_mk (fun _=>n) [] rfl ?_ ?_ ?_
 · refine⟨⟨rfl,?_⟩,trivial⟩;rw[hl];simp only[RV.ren,TV.ren,CV.ren,hp,List.contains_nil,Bool.false_eq_true,if_false]
 · simp only[allL,List.contains_nil,Bool.false_eq_true,if_false,Ob.okNil,hp,ho,Ob.ren,and_self]
 simp only[allL,true_or,and_self]
theorem le_nameN {s:HS} (t d:Nat) (e:TypeId) (sz:Nat) (hl:opd s.regs (.tmp t)=.v (.one (.c (.lit nilS)))) (hs:0<sz) (hd:d<1000000):
  le s ⟨s.nt,[(t,.v (.one (.own d)))],[(d,.row e sz [])]⟩:=by
 refine le_mk (fun n=>n) [d] rfl ?_ ?_ ?_ (by simpa using hd)
 · refine⟨⟨by simp[RV.okNil,TV.okNil,CV.okNil],?_⟩,trivial⟩;rw[hl];simp[RV.ren,TV.ren,CV.ren]
 · simp[allL,hs]
 simp[allL]
theorem con_emp {P:Program} {f:FuncId} {fresh:Bool} {r:RV} {ob:Option Ob} {d s:Nat} (h1:Con P f fresh [.one (.c (.lit nilS))] r ob d) (h2:∀a cap,Con P f fresh [.one (.c (.lit (.slice (some a) 0 cap)))] r ob d):Con P f fresh [.one (.c (.sl s []))] r ob d:=by
 refine⟨h1.1,fun F w vs hF hsz hargs=>?_⟩;have hv:∃u,vs[0]? =some u:=⟨vs[0]'(by rw[hsz];simp),by simp[hsz]⟩;obtain⟨u,hu⟩:=hv;have hr:CRel F w (.sl s []) u:=hargs 0 _ u rfl hu
 have go:∀(v:Value),u=v→Con P f fresh [.one (.c (.lit v))] r ob d→_:=fun v hv hc=>hc.2 F w vs hF (by simpa using hsz) fun j t u' ht hu'=>by
  cases j with
  | zero=>
    cases ht;rw[hu]at hu';cases hu';subst hv;exact CRel.lit u
  |succ j=>cases ht
 rcases CRel.sl_inv hr with⟨_,hv|⟨a,cap,hv⟩⟩|⟨b,o,cap,cells,hv,_⟩
 · exact go _ hv h1
 · exact go _ hv (h2 a cap)
 exact go _ hv (h2 _ cap)
end Go.Proofs.YtfjidddhehckoaaGreat

namespace Go.Proofs.YtfjidddhehckoaaGreat
open Go Go.Hl
theorem cloneI_con (l:List Int) (hl:l.length≤1000000000) (d:Nat):Con Tryz.prog 36 false [lI l] (.v (lI l)) none d:=by
 have hroom:room l.length 8:=⟨by unfold maxLen;omega,by omega⟩;cases l with
 | nil=>
   refine con_emp ?_ ?_
   · refine con_of_HTA Tryz.func36 ?_;simp only[Tryz.f36];refine HT_sA ?_;refine HT_seq<|HT_seq<|HT_runA ?_;refine(HT_cs rfl (fun h2=>?_) fun h2=>?_)
     · (try simp only[BN]at h2);refine HT_sA ?_;exact HT_ret ⟨.inr rfl,_,le_one 2 1 rfl,⟨⟨_,by simp;rfl,by simp[resR]⟩,by simp,fun h=>by cases h⟩⟩
     exact absurd h2 (by simp)
   intro a cap;refine con_of_HTA Tryz.func36 ?_;simp only[Tryz.f36];refine HT_sA ?_;refine HT_seq<|HT_seq<|HT_runA ?_;refine(HT_cs rfl (fun h2=>?_) fun h2=>?_)
   · exact absurd h2 (by simp)
   (try simp only[BN]at h2);refine HT_le (le_emp 0 1 rfl) ?_;refine HT_sA ?_;exact HT_ret ⟨.inr rfl,_,le_frz 7 rfl,⟨⟨_,by simp;rfl,by simp[resR]⟩,by simp,fun h=>by cases h⟩⟩
 | cons v r=>
   refine con_of_HTA Tryz.func36 ?_;simp only[Tryz.f36];rw[List.length_cons]at hroom;refine HT_sA ?_;refine HT_seq<|HT_seq<|HT_runA ?_;refine(HT_cs rfl (fun h2=>?_) fun h2=>?_)
   · exact absurd h2 (by simp)
   (try simp only[BN]at h2);refine HT_sA ?_;exact HT_ret ⟨.inr rfl,_,le_frz 7 rfl,⟨⟨_,by simp;rfl,by simp[resR]⟩,by simp,fun h=>by cases h⟩⟩
end Go.Proofs.YtfjidddhehckoaaGreat

namespace Go.Proofs.YtfjidddhehckoaaGreat
open Go Go.Hl
@[simp] theorem encI_app (a b:List Int):encIs (a++b)=encIs a++encIs b:=by simp[encIs]
@[simp] theorem encI_one (x:Int):encIs [x]=[[iC x]]:=rfl
structure Inp where
 s:List Int
 p:List Int
 r:List Int
structure Pk where
 n:Int
 is_:Bool
 a:Nat
 b:Nat
 c:Nat
end Go.Proofs.YtfjidddhehckoaaGreat

namespace Go.Proofs.YtfjidddhehckoaaGreat
open Go Go.Hl
theorem kids_eq (o:Int) (len:Nat):(!decide (kidsR o=-1)&&((!decide (0≤kidsR o)||decide ((len:Int)=kidsR o))&&(!decide (kidsR o=-2)||(!decide ((len:Int)<2)&& !decide (33<(len:Int))))))=(!decide ((kidsP o).1<0)&&(!decide ((len:Int)<(kidsP o).1)&& !decide ((kidsP o).2<(len:Int)))):=by
 unfold kidsR kidsP
 (repeat' split)<;>simp<;>(try omega)
 all_goals(rw[Bool.eq_iff_iff];simp only[Bool.and_eq_true,Bool.or_eq_true,Bool.not_eq_true',decide_eq_true_eq,decide_eq_false_iff_not];omega)
theorem formR_con (vars:List Vr) (inp:Bool) (hv:vars.length≤1000000000) (t:Tm):t.nodes≤1000000000→∀d:Nat,
  Con Tryz.prog 89 true [lV vars,aT t,lb inp] (.v (lb (formB vars inp t))) none d:=by
 induction t using Tm.ind with
 |h o n ks ih=>
 intro hn d;simp only[Tm.nodes]at hn;have hlen:=len_nodesT ks;obtain⟨res,hres⟩:∃r,formB vars inp (.mk o n ks)=r:=⟨_,rfl⟩;rw[hres];simp only[formB]at hres;have ih':∀t∈ks,∀d,Con Tryz.prog 89 true [lV vars,aT t,lb inp] (.v (lb (formB vars inp t))) none d:=fun t ht d=>ih t ht (by have:=nodes_mem ht;omega) d;clear ih;have hke:=kids_eq o ks.length;refine con_of_HTA Tryz.func89 ?_;simp only[Tryz.f89];simp only[aT,Tm.enc];refine HT_sA ?_;refine HT_scA [⟨true,.v (li (kidsR o)),none⟩] ?_ ?_
 · first|exact kidsR_con o _|exact trivial|simpa[*]using kidsR_con o _
 refine HT_seq<|HT_seq<|HT_runA ?_;refine(HT_cs rfl (fun h3=>?_) fun h3=>?_)
 · try simp only[BN]at h3
   have hz:nodeB vars inp o n ks.length=false:=by
    unfold nodeB;rw[←hke,Bool.and_eq_false_iff];refine .inl ?_;simp only[Bool.and_eq_false_iff,Bool.or_eq_false_iff,Bool.not_eq_false',decide_eq_true_eq,decide_eq_false_iff_not];omega
   rw[hz,Bool.false_and]at hres;refine HT_sA ?_;exact(HT_retE (fun h=>⟨.inr rfl,h⟩) _ (by simp[*];rfl) (by first|rfl|simp[*]) (by simp))
 try simp only[BN]at h3
 have hz:(!decide ((kidsP o).1<0)&&(!decide ((ks.length:Int)<(kidsP o).1)&& !decide ((kidsP o).2<(ks.length:Int))))=true:=by
  rw[←hke];simp only[Bool.and_eq_true,Bool.or_eq_true,Bool.not_eq_true',decide_eq_false_iff_not,decide_eq_true_eq];omega
 clear hke;refine(HT_cutU [0,2,4] (fun(z:Unit)=>[]) (fun(z:Unit)=>[(4,.box [.c (iC o),.c (iC n),.c (.sl 3 (encTs ks))])]) (fun(z:Unit)=>nodeB vars inp o n ks.length=true) ?_ ?_)
 ·
  refine HT_sA ?_;refine(HT_cond rfl (fun h8=>?_) (fun h8=>?_))
  · (try simp only[BN]at h8);by_cases hn0:0≤n
    · by_cases hn3:n<vars.length
      · obtain⟨v,hv1⟩:=get_vars ⟨hn0,hn3⟩;have hn1:¬(vars.length:Int)≤n:=by omega
        have hn2:¬n<0:=by omega
        clear hn3;refine HT_sA ?_;refine(HT_cs rfl (fun h10=>?_) fun h10=>?_)
        · try simp only[BN]at h10
          have hz3:nodeB vars inp o n ks.length=false:=by
           unfold nodeB refB;rw[hz,Bool.true_and,if_neg (by omega),if_pos h8,hv1];simp[h10]
          rw[hz3,Bool.false_and]at hres;refine HT_sA ?_;exact(HT_retE (fun h=>⟨.inr rfl,h⟩) _ (by simp[*];rfl) (by first|rfl|simp[*]) (by simp))
        try simp only[BN]at h10
        exact⟨(),by
         unfold nodeB refB;rw[hz,Bool.true_and,if_neg (by omega),if_pos h8,hv1];simp only[Bool.and_eq_true,Bool.not_eq_true',Bool.and_eq_false_iff,decide_eq_true_eq,decide_eq_false_iff_not]
         exact⟨hn0,h10⟩,le_mkA (fun n=>n) []⟩
      cases inp
      · have hv1:=get_none hn0 hn3;have hn1:(vars.length:Int)≤n:=by omega
        have hn2:¬n<0:=by omega
        have hz2:∀i,refB vars i n=false:=by intro i;simp[refB,hv1]
        clear hn3;refine HT_sA ?_;refine(HT_cs rfl (fun h10=>?_) fun h10=>?_)
        · try simp only[BN]at h10
          have hz3:∀i,nodeB vars i o n ks.length=false:=by
           intro i;unfold nodeB;rw[hz,Bool.true_and,if_neg (by omega),if_pos h8,hz2]
          rw[hz3,Bool.false_and]at hres;refine HT_sA ?_;exact(HT_retE (fun h=>⟨.inr rfl,h⟩) _ (by simp[*];rfl) (by first|rfl|simp[*]) (by simp))
        exact absurd h10 (by simp)
      have hv1:=get_none hn0 hn3;have hn1:(vars.length:Int)≤n:=by omega
      have hn2:¬n<0:=by omega
      have hz2:∀i,refB vars i n=false:=by intro i;simp[refB,hv1]
      clear hn3;refine HT_sA ?_;refine(HT_cs rfl (fun h10=>?_) fun h10=>?_)
      · try simp only[BN]at h10
        have hz3:∀i,nodeB vars i o n ks.length=false:=by
         intro i;unfold nodeB;rw[hz,Bool.true_and,if_neg (by omega),if_pos h8,hz2]
        rw[hz3,Bool.false_and]at hres;refine HT_sA ?_;exact(HT_retE (fun h=>⟨.inr rfl,h⟩) _ (by simp[*];rfl) (by first|rfl|simp[*]) (by simp))
      exact absurd h10 (by simp)
    cases inp
    · have hn2:n<0:=by omega
      have hz2:∀i,refB vars i n=false:=by intro i;simp[refB,hn0]
      refine HT_sA ?_;refine(HT_cs rfl (fun h10=>?_) fun h10=>?_)
      · try simp only[BN]at h10
        have hz3:∀i,nodeB vars i o n ks.length=false:=by
         intro i;unfold nodeB;rw[hz,Bool.true_and,if_neg (by omega),if_pos h8,hz2]
        rw[hz3,Bool.false_and]at hres;refine HT_sA ?_;exact(HT_retE (fun h=>⟨.inr rfl,h⟩) _ (by simp[*];rfl) (by first|rfl|simp[*]) (by simp))
      exact absurd h10 (by simp)
    have hn2:n<0:=by omega
    have hz2:∀i,refB vars i n=false:=by intro i;simp[refB,hn0]
    refine HT_sA ?_;refine(HT_cs rfl (fun h10=>?_) fun h10=>?_)
    · try simp only[BN]at h10
      have hz3:∀i,nodeB vars i o n ks.length=false:=by
       intro i;unfold nodeB;rw[hz,Bool.true_and,if_neg (by omega),if_pos h8,hz2]
      rw[hz3,Bool.false_and]at hres;refine HT_sA ?_;exact(HT_retE (fun h=>⟨.inr rfl,h⟩) _ (by simp[*];rfl) (by first|rfl|simp[*]) (by simp))
    exact absurd h10 (by simp)
  (try simp only[BN]at h8);refine HT_sA ?_;refine(HT_cs rfl (fun h15=>?_) fun h15=>?_)
  · try simp only[BN]at h15
    have hz3:nodeB vars inp o n ks.length=false:=by
     unfold nodeB;rw[hz,Bool.true_and,if_neg (by omega),if_neg h8];simp only[decide_eq_false_iff_not];omega
    rw[hz3,Bool.false_and]at hres;refine HT_sA ?_;exact(HT_retE (fun h=>⟨.inr rfl,h⟩) _ (by simp[*];rfl) (by first|rfl|simp[*]) (by simp))
  try simp only[BN]at h15
  exact⟨(),by
   unfold nodeB;rw[hz,Bool.true_and];split
   · rfl
   simp only[decide_eq_true_eq]
   omega,le_mkA (fun n=>n) []⟩
 rintro z hz;simp only[upS,keepS,insS]
 try simp only[keepS,KN,Nat.reduceBEq,if_true,if_false,ins,Nat.reduceLT]
 rw[hz,Bool.true_and]at hres;refine HT_seq<|HT_seq<|HT_runA ?_;refine HT_block<|(HT_loopU [0,2,4] (fun(x:Nat)=>[(8,.v (li x))]) (fun x=>[(4,.box [.c (iC o),.c (iC n),.c (.sl 3 (encTs ks))])]) (fun x=>x≤ks.length∧formBs vars inp (ks.drop x)=res) (fun x=>ks.length - x) (0:Nat) ⟨Nat.zero_le _,hres⟩ ?_ ?_)
 · exact le_mkA (fun n=>n) []
 rintro k ⟨hk,hJ⟩;simp only[upS,keepS,insS]
 try simp only[keepS,KN,Nat.reduceBEq,if_true,if_false,ins,Nat.reduceLT]
 refine HT_seq<|HT_seq<|HT_runA ?_;refine(HT_cond rfl (fun h22=>HT_skip ?_) (fun h22=>?_))
 · (try simp only[BN]at h22);have hlt:k<ks.length:=by omega
   obtain⟨⟨eo,en,ek⟩,he,hd⟩:=at_lt hlt;have he':=get_encT he;simp only[Tm.enc]at he';have hw1:=wrap1 hlt (by omega);rw[hd]at hJ;simp only[formBs]at hJ;have hk1:k+1≤ks.length:=hlt;have hmem:Tm.mk eo en ek∈ks:=List.mem_of_getElem? he;clear hlt h22;refine HT_seq<|HT_block<|HT_seq<|(HT_runcA [⟨true,.v (lb (formB vars inp (.mk eo en ek))),none⟩] ?_ ?_)
   · first|exact ih' _ hmem _|exact trivial|simpa[*]using ih' _ hmem _
   refine(HT_cs rfl (fun h24=>?_) fun h24=>?_)
   · (try simp only[BN]at h24);rw[h24,Bool.false_and]at hJ;subst hJ;refine HT_sA ?_;exact(HT_retE (fun h=>⟨.inr rfl,h⟩) _ (by simp[*];rfl) (by first|rfl|simp[*]) (by simp))
   (try simp only[BN]at h24);rw[h24,Bool.true_and]at hJ;refine HT_runA ?_;exact⟨k+1,⟨hk1,hJ⟩,by omega,le_mkA (fun n=>n) []⟩
 (try simp only[BN]at h22);have hkl:k=ks.length:=by omega
 subst hkl;rw[List.drop_length]at hJ;simp only[formBs]at hJ;subst hJ;refine(HT_exit ?_);refine HT_sA ?_;exact(HT_retE (fun h=>⟨.inr rfl,h⟩) _ (by simp[*];rfl) (by first|rfl|simp[*]) (by simp))
end Go.Proofs.YtfjidddhehckoaaGreat
