/- Part 2: contracts of functions of the program and of the reference, and plain facts about what they compute; used by the proof of the claimed statement. Conditions: as each theorem states. -/
import Derived.Test.YtppjennamodfdaaGreatK1
set_option linter.unusedSimpArgs false
set_option linter.unusedVariables false
set_option linter.unnecessarySimpa false
set_option maxRecDepth 100000
set_option maxHeartbeats 2000000
namespace Go.Proofs.YtppjennamodfdaaGreat
open Go Go.Hl
def boundedB (a b:Int):Bool:=decide (a≤b)&&(decide (-1048576≤a)&&decide (b≤1048576))
theorem boundedP_con (a b:Int) (d:Nat):Con Tryz.prog 176 true [li a,li b] (.v (lb (boundedB a b))) none d:=by
 refine con_of_HTA Tryz.func176 ?_;simp only[Tryz.f176];refine HT_sA ?_;refine HT_sA ?_;exact(HT_retE (fun h=>⟨.inr rfl,h⟩) _ (by simp[*];rfl) (by first|rfl|(simp[*,boundedB,Bool.and_assoc];done)|(simp only[resR,boundedB,Bool.and_assoc];(repeat' split)<;>first|rfl|(exfalso;omega)|simp_all)) (by simp))
theorem boundedR_con (a b:Int) (d:Nat):Con Tryz.prog 63 true [li a,li b] (.v (lb (boundedB a b))) none d:=by
 refine con_of_HTA Tryz.func63 ?_;simp only[Tryz.f63];refine HT_sA ?_;refine HT_sA ?_;exact(HT_retE (fun h=>⟨.inr rfl,h⟩) _ (by simp[*];rfl) (by first|rfl|(simp[*,boundedB,Bool.and_assoc];done)|(simp only[resR,boundedB,Bool.and_assoc];(repeat' split)<;>first|rfl|(exfalso;omega)|simp_all)) (by simp))
def kidsP (o:Int):Int×Int:=if o=0∨o=24 then(0,0)else if o=6∨o=7 then(1,1)else if 8≤o∧o≤22 then(2,2)else if o=23 then(3,3)else if o=25 then(2,33)else(-1,-1)
theorem kidsP_con (o:Int) (d:Nat):Con Tryz.prog 198 true [li o] (.tup [li (kidsP o).1,li (kidsP o).2]) none d:=by
 refine con_of_HTA Tryz.func198 ?_;simp only[Tryz.f198];refine HT_sA ?_;refine HT_seq<|HT_block<|HT_seq<|HT_runA ?_;refine(HT_cond rfl (fun h2=>?_) (fun h2=>?_))
 · (try simp only[BN]at h2);refine HT_sA ?_;exact(HT_retE (fun h=>⟨.inr rfl,h⟩) _ (by simp[*];rfl) (by first|rfl|(simp[*,kidsP];done)|(simp only[resR,kidsP];(repeat' split)<;>first|rfl|(exfalso;omega)|simp_all)) (by simp))
 (try simp only[BN]at h2);refine HT_sA ?_;refine(HT_cond rfl (fun h6=>?_) (fun h6=>?_))
 · (try simp only[BN]at h6);refine HT_sA ?_;exact(HT_retE (fun h=>⟨.inr rfl,h⟩) _ (by simp[*];rfl) (by first|rfl|(simp[*,kidsP];done)|(simp only[resR,kidsP];(repeat' split)<;>first|rfl|(exfalso;omega)|simp_all)) (by simp))
 (try simp only[BN]at h6);refine HT_sA ?_;refine(HT_cond rfl (fun h10=>?_) (fun h10=>?_))
 · (try simp only[BN]at h10);refine HT_sA ?_;exact(HT_retE (fun h=>⟨.inr rfl,h⟩) _ (by simp[*];rfl) (by first|rfl|(simp[*,kidsP];done)|(simp only[resR,kidsP];(repeat' split)<;>first|rfl|(exfalso;omega)|simp_all)) (by simp))
 (try simp only[BN]at h10);refine HT_sA ?_;refine(HT_cond rfl (fun h14=>?_) (fun h14=>?_))
 · (try simp only[BN]at h14);refine HT_sA ?_;exact(HT_retE (fun h=>⟨.inr rfl,h⟩) _ (by simp[*];rfl) (by first|rfl|(simp[*,kidsP];done)|(simp only[resR,kidsP];(repeat' split)<;>first|rfl|(exfalso;omega)|simp_all)) (by simp))
 (try simp only[BN]at h14);refine HT_sA ?_;refine(HT_cs rfl (fun h18=>?_) fun h18=>?_)
 · (try simp only[BN]at h18);refine HT_sA ?_;exact(HT_retE (fun h=>⟨.inr rfl,h⟩) _ (by simp[*];rfl) (by first|rfl|(simp[*,kidsP];done)|(simp only[resR,kidsP];(repeat' split)<;>first|rfl|(exfalso;omega)|simp_all)) (by simp))
 (try simp only[BN]at h18);refine HT_sA ?_;exact(HT_retE (fun h=>⟨.inr rfl,h⟩) _ (by simp[*];rfl) (by first|rfl|(simp[*,kidsP];done)|(simp only[resR,kidsP];(repeat' split)<;>first|rfl|(exfalso;omega)|simp_all)) (by simp))
theorem overP_con (n:Int) (b:Bool) (d:Nat):Con Tryz.prog 162 true [.one (.c (.ptr [iC n,bC b]))] (.v (lb (b||decide (1024<n)))) none d:=by
 refine con_of_HTA Tryz.func162 ?_;simp only[Tryz.f162];refine HT_sA ?_;refine HT_sA ?_;exact HT_rA
def chOk (s:ByteArray) (i:Nat):Bool:=
 match s[i]? with
 |some b=>(decide (97≤(b.toNat:Int))&&decide ((b.toNat:Int)≤122))||(decide (i≠0)&&((decide (48≤(b.toNat:Int))&&decide ((b.toNat:Int)≤57))||decide ((b.toNat:Int)=46)||decide ((b.toNat:Int)=95)))
 |none=>false
def nameB (s:ByteArray):Bool:=decide (1≤s.size)&&decide (s.size≤40)&&(List.range s.size).all (chOk s)
theorem get_bytes {s:ByteArray} {k:Nat} (h:k<s.size):∃b,s[k]? =some b:=⟨s[k],by simp[h]⟩
theorem size_pos {s:ByteArray}:s=⟨#[]⟩↔s.size=0:=by
 obtain⟨a⟩:=s;constructor
 · intro h;cases h;rfl
 intro h;have:a= #[]:=Array.eq_empty_of_size_eq_zero h;rw[this]
theorem nameB_bad {s:ByteArray} {k:Nat} (hk:k<s.size) (h:chOk s k=false):nameB s=false:=by
 unfold nameB;rw[Bool.and_eq_false_iff];refine .inr ?_;rw[List.all_eq_false];exact⟨k,by simpa using hk,by simp[h]⟩
theorem nameB_good {s:ByteArray} (h1:1≤s.size) (h2:s.size≤40) (h:∀j:Nat,j<s.size→chOk s j=true):nameB s=true:=by
 unfold nameB;simp only[h1,h2,decide_true,Bool.true_and,List.all_eq_true,List.mem_range];exact h
theorem nameP_con (s:ByteArray) (d:Nat):Con Tryz.prog 174 true [sv s] (.v (lb (nameB s))) none d:=by
 refine con_of_HTA Tryz.func174 ?_;simp only[Tryz.f174];refine HT_sA ?_;refine HT_seq<|HT_seq<|HT_runA ?_;refine(HT_cs rfl (fun h2=>?_) fun h2=>?_)
 · try simp only[BN]at h2
   have hz:nameB s=false:=by
    unfold nameB;simp only[size_pos]at h2;rw[Bool.and_eq_false_iff,Bool.and_eq_false_iff];simp only[decide_eq_false_iff_not];omega
   refine HT_sA ?_;exact HT_rA
 (try simp only[BN]at h2);simp only[size_pos]at h2;have h1:1≤s.size:=by omega
 have h40:s.size≤40:=by omega
 refine HT_seq<|HT_seq<|HT_runA ?_;refine HT_block<|(HT_loopU [0,14] (fun(x:Nat)=>[(15,.v (li x))]) (fun x=>[]) (fun x=>x≤s.size∧∀j:Nat,j<x→chOk s j=true) (fun x=>s.size - x) (0:Nat) ⟨Nat.zero_le _,fun j hj=>absurd hj (Nat.not_lt_zero j)⟩ ?_ ?_)
 · exact le_mkA (fun n=>n) []
 rintro k ⟨hk,hall⟩;simp only[upS,keepS,insS]
 try simp only[keepS,KN,Nat.reduceBEq,if_true,if_false,ins,Nat.reduceLT]
 refine HT_sA ?_;refine HT_seq<|(HT_cond rfl (fun h8=>HT_skip ?_) (fun h8=>?_))
 · (try simp only[BN]at h8);have hlt:k<s.size:=by omega
   obtain⟨b,hb⟩:=get_bytes hlt;have hw:=wrap1 hlt (by omega);have hk1:k+1≤s.size:=hlt;clear hlt h8;refine HT_seq<|HT_block<|HT_seq<|HT_runA ?_;refine HT_sA ?_;refine HT_sA ?_;refine HT_sA ?_;refine(HT_cs rfl (fun h13=>?_) fun h13=>?_)
   · try simp only[BN]at h13
     have hbad:chOk s k=false:=by
      unfold chOk;rw[hb];simp only[Bool.or_eq_false_iff,Bool.and_eq_false_iff,decide_eq_false_iff_not];omega
     have hz:=nameB_bad hk1 hbad;refine HT_sA ?_;exact HT_rA
   try simp only[BN]at h13
   have hgood:chOk s k=true:=by
    unfold chOk;rw[hb];simp only[Bool.or_eq_true,Bool.and_eq_true,decide_eq_true_eq];omega
   refine HT_runA ?_;exact⟨k+1,⟨by omega,fun j hj=>(Nat.lt_succ_iff_lt_or_eq.1 hj).elim (hall j) (fun e=>e▸hgood)⟩,by omega,le_mkA (fun n=>n) []⟩
 (try simp only[BN]at h8);have hz:=nameB_good h1 h40 (fun j hj=>hall j (by omega));refine(HT_exit ?_);refine HT_sA ?_;exact HT_rA
end Go.Proofs.YtppjennamodfdaaGreat

namespace Go.Proofs.YtppjennamodfdaaGreat
open Go Go.Hl
mutual
def Tm.nodes:Tm→Nat
 | .mk _ _ ks=>1+nodesT ks
def nodesT:List Tm→Nat
 |[]=>0
 |t::l=>t.nodes+nodesT l
end
mutual
def St.nodes:St→Nat
 | .mk _ _ _ _ t a b bs=>1+t.nodes+nodesS a+nodesS b
def nodesS:List St→Nat
 |[]=>0
 |s::l=>s.nodes+nodesS l
end
theorem nodes_pos (t:Tm):1≤t.nodes:=by cases t;simp[Tm.nodes]
theorem nodesS_pos (t:St):1≤t.nodes:=by cases t;simp[St.nodes];omega
theorem len_nodesT:∀l:List Tm,l.length≤nodesT l
 |[]=>by simp[nodesT]
 |t::l=>by have:=len_nodesT l;have:=nodes_pos t;simp only[nodesT,List.length_cons];omega
theorem len_nodesS:∀l:List St,l.length≤nodesS l
 |[]=>by simp[nodesS]
 |t::l=>by have:=len_nodesS l;have:=nodesS_pos t;simp only[nodesS,List.length_cons];omega
mutual
def mTm:Tm→Int→Int×Bool→Int×Bool
 | .mk _ _ ks,dep,s=>if((s.2||decide (12<dep))||decide (1024<s.1+1))=true then(s.1+1,s.2||decide (12<dep))else mTms ks (dep+1) (s.1+1,s.2||decide (12<dep))
def mTms:List Tm→Int→Int×Bool→Int×Bool
 |[],_,s=>s
 |t::l,dep,s=>mTms l dep (mTm t dep s)
end
mutual
theorem mTm_le:∀(t:Tm) (dep:Int) (s:Int×Bool),s.1≤(mTm t dep s).1∧(mTm t dep s).1≤s.1+t.nodes
 | .mk o n ks,dep,s=>by
   have:=mTms_le ks (dep+1) (s.1+1,s.2||decide (12<dep));simp only[mTm,Tm.nodes];split
   · simp only;omega
   simp only at this;omega
theorem mTms_le:∀(l:List Tm) (dep:Int) (s:Int×Bool),s.1≤(mTms l dep s).1∧(mTms l dep s).1≤s.1+nodesT l
 |[],dep,s=>by simp[mTms,nodesT]
 | t::l,dep,s=>by
   have h1:=mTm_le t dep s;have h2:=mTms_le l dep (mTm t dep s);simp only[mTms,nodesT];omega
end
theorem mterm_con (t:Tm):∀(dep c:Int) (b:Bool),0≤dep→0≤c→c+t.nodes≤1000000000→
  ConIO Tryz.prog 163 [iC c,bC b] [aT t,li dep] (.tup []) [iC (mTm t dep (c,b)).1,bC (mTm t dep (c,b)).2]:=by
 induction t using Tm.ind with
 |h o n ks ih=>
 intro dep c b hdep hc hn;simp only[Tm.nodes]at hn;obtain⟨res,hres⟩:∃r,mTm (.mk o n ks) dep (c,b)=r:=⟨_,rfl⟩;rw[hres];simp only[mTm]at hres;have hlen:=len_nodesT ks;have hw:IntKind.i64.wrap (c+1)=c+1:=wrap_in (by omega) (by omega);refine con_io_of_HT Tryz.func163 rfl (by kernel_rfl) (Nat.le_of_ble_eq_true rfl) ?_;simp only[Tryz.f163,aT,Tm.enc];refine HT_sA ?_;refine HT_sA ?_;refine HT_sA ?_;refine HT_seq<|HT_seq<|(HT_runcA [⟨true,.v (lb ((b||decide (12<dep))||decide (1024<c+1))),none⟩] ?_ ?_)
 · first|exact overP_con _ _ _|exact trivial|simpa[*]using overP_con _ _ _
 refine(HT_cs rfl (fun h4=>?_) fun h4=>?_)
 · (try simp only[BN]at h4);rw[if_pos (by simpa using h4)]at hres;subst hres;exact HT_ret (⟨.inr rfl,_,le_refl _,⟨_,by simp[*];rfl,by simp[resR]⟩,by simp[*]⟩)
 (try simp only[BN]at h4);rw[if_neg (by simpa using h4)]at hres;have hdep2:dep≤12:=by omega
 have hwd:IntKind.i64.wrap (dep+1)=dep+1:=wrap_in (by omega) (by omega);refine HT_sA ?_;refine HT_block<|(HT_loopU [0,2,29,30] (fun(x:Nat×Int×Bool)=>[(31,.v (li x.1))]) (fun x=>[(1000000,.box [.c (iC x.2.1),.c (bC x.2.2)])]) (fun x=>x.1≤ks.length∧mTms (ks.drop x.1) (dep+1) x.2=res∧0≤x.2.1∧x.2.1+nodesT (ks.drop x.1)≤1000000000) (fun x=>ks.length - x.1) (0,c+1,b||decide (12<dep)) ⟨Nat.zero_le _,hres,by simp only;omega,by simp only[List.drop_zero];omega⟩ ?_ ?_)
 · exact le_mkA (fun n=>n) []
 rintro⟨k,m,q⟩ ⟨hk,hJ,hm,hb⟩;simp only[upS,keepS,insS]
 try simp only[keepS,KN,Nat.reduceBEq,if_true,if_false,ins,Nat.reduceLT]
 simp only at hk hJ hm hb;refine HT_sA ?_;refine HT_seq<|(HT_cond rfl (fun h9=>HT_skip ?_) (fun h9=>?_))
 · (try simp only[BN]at h9);have hlt:k<ks.length:=by omega
   obtain⟨⟨eo,en,ek⟩,he,hd⟩:=at_lt hlt;have he':=get_encT he;simp only[Tm.enc]at he';have hw1:=wrap1 hlt (by omega);rw[hd]at hJ hb;simp only[mTms,nodesT]at hJ hb;have hk1:k+1≤ks.length:=hlt;have hmem:Tm.mk eo en ek∈ks:=List.mem_of_getElem? he;have hle:=mTm_le (.mk eo en ek) (dep+1) (m,q);clear hlt h9;refine HT_seq<|HT_block<|HT_seq<|HT_runA ?_;refine(HT_runIO 4 (.tup []) ([iC (mTm (.mk eo en ek) (dep+1) (m,q)).1,bC (mTm (.mk eo en ek) (dep+1) (m,q)).2]) rfl (by simp[*];rfl) (by simp[ioOf, *];first|exact⟨rfl,rfl,rfl,rfl,rfl⟩|exact⟨rfl,rfl,rfl,rfl⟩|exact⟨rfl,rfl,rfl⟩|exact⟨rfl,rfl⟩|rfl) (ih _ hmem (dep+1) m q (by omega) hm (by omega)) (by simp) (by simp[*];rfl) ?_);refine HT_runA ?_;exact⟨(k+1,mTm (.mk eo en ek) (dep+1) (m,q)),⟨hk1,hJ,by simp only at hle⊢;omega,by simp only at hle⊢;omega⟩,by simp only;omega,le_mkA (fun n=>n) []⟩
 (try simp only[BN]at h9);have hkl:k=ks.length:=by omega
 subst hkl;rw[List.drop_length]at hJ;simp only[mTms]at hJ;subst hJ;refine(HT_exit ?_);exact(⟨.inl rfl,_,le_refl _,⟨_,by simp[*];rfl,by simp[resR]⟩,by simp[*]⟩)
end Go.Proofs.YtppjennamodfdaaGreat

namespace Go.Proofs.YtppjennamodfdaaGreat
open Go Go.Hl
def encPs (k:List (Int×Int)):List (List CD):=k.map fun p=>[iC p.1,iC p.2]
@[simp] theorem len_encP (k:List (Int×Int)):(encPs k).length=k.length:=by simp[encPs]
@[simp] theorem get_encP (k:List (Int×Int)) (i:Nat):(encPs k)[i]? =k[i]?.map fun p=>[iC p.1,iC p.2]:=by simp[encPs]
@[simp] theorem encP_nil:encPs []=[]:=rfl
abbrev aP (p:Int×Int):TV:=.agg [.c (iC p.1),.c (iC p.2)]
def mn (a b:Int):Int:=if b<a then b else a
def mx (a b:Int):Int:=if a<b then b else a
def hullP (p q:Int×Int):Int×Int:=(mn p.1 q.1,mx p.2 q.2)
def hullL:List (Int×Int)→Int×Int→Int×Int
 |[],p=>p
 |q::l,p=>hullL l (hullP p q)
def mulP (a b:Int×Int):Int×Int:=hullP (hullP (hullP (a.1*b.1,a.1*b.1) (a.1*b.2,a.1*b.2)) (a.2*b.1,a.2*b.1)) (a.2*b.2,a.2*b.2)
def bnd (p:Int×Int):Prop:=-1048576≤p.1∧p.1≤p.2∧p.2≤1048576
theorem hull_con (p q:Int×Int) (d:Nat):Con Tryz.prog 203 true [aP p,aP q] (.v (aP (hullP p q))) none d:=by
 refine con_of_HTA Tryz.func203 ?_;simp only[Tryz.f203];refine HT_sA ?_;refine HT_sA ?_;exact(HT_retE (fun h=>⟨.inr rfl,h⟩) _ (by simp[*];rfl) (by simp[resR,hullP,mn,mx]) (by simp))
theorem mul_le {x y:Int} (hx:-1048576≤x∧x≤1048576) (hy:-1048576≤y∧y≤1048576):-1099511627776≤x*y∧x*y≤1099511627776:=by
 have h1:x.natAbs≤1048576:=by omega
 have h2:y.natAbs≤1048576:=by omega
 have h3:=Nat.mul_le_mul h1 h2;rw[←Int.natAbs_mul]at h3;omega
theorem mul_con (x y:Int) (hx:-1048576≤x∧x≤1048576) (hy:-1048576≤y∧y≤1048576) (d:Nat):Con Tryz.prog 202 true [li x,li y] (.v (li (x*y))) none d:=by
 have hm:=mul_le hx hy;have hw:IntKind.i64.wrap (x*y)=x*y:=wrap_in (by omega) (by omega);refine con_of_HTA Tryz.func202 ?_;simp only[Tryz.f202];refine HT_sA ?_;refine HT_sA ?_;exact HT_rA
def hullI:List Int→Int×Int→Int×Int
 |[],p=>p
 |q::l,p=>hullI l (hullP p (q,q))
theorem corners_con (a b:Int×Int) (ha:bnd a) (hb:bnd b) (d:Nat):Con Tryz.prog 201 true [aP a,aP b,.one (.fn 202 [])] (.v (aP (mulP a b))) none d:=by
 obtain⟨a1,a2⟩:=a;obtain⟨b1,b2⟩:=b;simp only[bnd]at ha hb;refine con_of_HTA Tryz.func201 ?_;simp only[Tryz.f201];obtain⟨L,hL⟩:∃L,L=[a1*b2,a2*b1,a2*b2]:=⟨_,rfl⟩;have hlen:L.length=3:=by rw[hL];rfl
 obtain⟨res,hres⟩:∃res,mulP (a1,a2) (b1,b2)=res:=⟨_,rfl⟩;rw[hres];have hres2:hullI L (a1*b1,a1*b1)=res:=by rw[←hres,hL];rfl
 clear hres;refine HT_sA ?_;refine HT_scA [⟨true,.v (li (a1*b1)),none⟩] ?_ ?_
 · first|exact mul_con _ _ (by omega) (by omega) _|exact trivial|simpa[*]using mul_con _ _ (by omega) (by omega) _
 refine HT_sA ?_;refine HT_seq<|HT_seq<|(HT_drunc [⟨true,.v (li (a1*b2)),none⟩,⟨true,.v (li (a2*b1)),none⟩,⟨true,.v (li (a2*b2)),none⟩] (by kernel_rfl) (by kernel_rfl) (by rfl) (by simp[*];first|exact⟨rfl,Iff.rfl⟩|exact⟨rfl,trivial⟩|rfl) ?_ ?_)
 · first|exact trivial|exact trivial|(repeat' first|exact trivial|exact mul_con _ _ (by omega) (by omega) _|exact mul_con _ _ (by omega) (by omega) _|exact mul_con _ _ (by omega) (by omega) _|apply And.intro)
 refine HT_block<|(HT_loopU [6,8,38,39] (fun(x:Nat×Int×Int)=>[(40,.v (li x.1))]) (fun x=>[(6,.box [.c (iC 0),.c (iC 0)]),(8,.box [.c (iC x.2.1),.c (iC x.2.2)]),(38,.row 3 1 (encIs L))]) (fun x=>x.1≤3∧hullI (L.drop x.1) x.2=res) (fun x=>3 - x.1) (0,a1*b1,a1*b1) ⟨Nat.zero_le _,hres2⟩ ?_ ?_)
 · exact le_mk (fun n=>n) [] rfl (by simp[*,upS,keepS]) (by simp[upS,encIs,hL]) (by simp[upS])
 rintro⟨k,m,q⟩ ⟨hk,hJ⟩;simp only[upS,keepS,insS]
 try simp only[keepS,KN,Nat.reduceBEq,if_true,if_false,ins,Nat.reduceLT]
 simp only at hk hJ;clear hres2 hL;refine HT_sA ?_;refine HT_seq<|(HT_cond rfl (fun h6=>HT_skip ?_) (fun h6=>?_))
 · (try simp only[BN]at h6);have hlt:k<L.length:=by omega
   obtain⟨e,he,hd⟩:=at_lt hlt;have hw1:=wrap1 hlt (by omega);rw[hd]at hJ;simp only[hullI]at hJ;have hk1:k+1≤3:=by omega
   clear hlt h6;refine HT_seq<|HT_block<|HT_seq<|HT_runA ?_;refine(HT_runcA [⟨true,.v (aP (hullP (m,q) (e,e))),none⟩] ?_ ?_)
   · first|exact hull_con (m,q) (e,e) _|exact trivial|simpa[*]using hull_con (m,q) (e,e) _
   refine HT_runA ?_;exact⟨(k+1,hullP (m,q) (e,e)),⟨hk1,hJ⟩,by simp only;omega,le_mkA (fun n=>n) []⟩
 (try simp only[BN]at h6);have hkl:k=L.length:=by omega
 rw[hkl,List.drop_length]at hJ;simp only[hullI]at hJ;refine(HT_exit ?_);refine HT_sA ?_;exact(HT_retE (fun h=>⟨.inr rfl,h⟩) _ (by simp[*];rfl) (by subst hJ;rfl) (by simp))
end Go.Proofs.YtppjennamodfdaaGreat

namespace Go.Proofs.YtppjennamodfdaaGreat
open Go Go.Hl
def refB (vars:List Vr) (inp:Bool) (n:Int):Bool:=
 decide (0≤n)&&match vars[n.toNat]? with
  |some v=> !(inp&&decide (v.kind=0))
  |none=>false
def nodeB (vars:List Vr) (inp:Bool) (o n:Int) (len:Nat):Bool:=
 (!decide ((kidsP o).1<0)&&(!decide ((len:Int)<(kidsP o).1)&& !decide ((kidsP o).2<(len:Int))))&&(if o=0 then true else if o=24 then refB vars inp n else decide (n=0))
mutual
def formB (vars:List Vr) (inp:Bool):Tm→Bool
 | .mk o n ks=>nodeB vars inp o n ks.length&&formBs vars inp ks
def formBs (vars:List Vr) (inp:Bool):List Tm→Bool
 |[]=>true
 |t::l=>formB vars inp t&&formBs vars inp l
end
theorem formBs_mem {vars:List Vr} {inp:Bool}:∀{l:List Tm},formBs vars inp l=true→∀t∈l,formB vars inp t=true
 |[],_,t,ht=>by cases ht
 | a::l,h,t,ht=>by
   simp only[formBs,Bool.and_eq_true]at h;rcases List.mem_cons.1 ht with rfl|h1
   · exact h.1
   exact formBs_mem h.2 t h1
theorem get_vars {vars:List Vr} {n:Int}:(0≤n∧n<vars.length)→∃v,vars[n.toNat]? =some v:=by
 rintro⟨h1,h2⟩;have:n.toNat<vars.length:=by omega
 exact⟨vars[n.toNat],by simp[this]⟩
theorem get_none {vars:List Vr} {n:Int} (h1:0≤n) (h2:¬n<vars.length):vars[n.toNat]? =none:=by
 rw[List.getElem?_eq_none];omega
theorem formP_con (vars:List Vr) (inp:Bool) (hv:vars.length≤1000000000) (t:Tm):t.nodes≤1000000000→∀d:Nat,
  Con Tryz.prog 188 true [lV vars,aT t,lb inp] (.v (lb (formB vars inp t))) none d:=by
 induction t using Tm.ind with
 |h o n ks ih=>
 intro hn d;simp only[Tm.nodes]at hn;have hlen:=len_nodesT ks;obtain⟨res,hres⟩:∃r,formB vars inp (.mk o n ks)=r:=⟨_,rfl⟩;rw[hres];simp only[formB]at hres
 have ih':∀t∈ks,∀d,Con Tryz.prog 188 true [lV vars,aT t,lb inp] (.v (lb (formB vars inp t))) none d:=by
  intro t ht d;refine ih t ht ?_ d
  have:t.nodes≤nodesT ks:=by
   clear hres ih hn hlen
   induction ks with
   |nil=>cases ht
   | cons a l ih=>
     simp only[nodesT];rcases List.mem_cons.1 ht with rfl|h
     · omega
     have:=ih h;omega
  omega
 clear ih;refine con_of_HTA Tryz.func188 ?_;simp only[Tryz.f188];simp only[aT,Tm.enc];refine HT_sA ?_;refine HT_scA [⟨true,.tup [li (kidsP o).1,li (kidsP o).2],none⟩] ?_ ?_
 · first|exact kidsP_con o _|exact trivial|simpa[*]using kidsP_con o _
 refine HT_seq<|HT_seq<|HT_runA ?_;refine(HT_cs rfl (fun h3=>?_) fun h3=>?_)
 · try simp only[BN]at h3
   have hz:nodeB vars inp o n ks.length=false:=by
    unfold nodeB;rw[Bool.and_eq_false_iff];refine .inl ?_;simp only[Bool.and_eq_false_iff,Bool.not_eq_false',decide_eq_true_eq];omega
   rw[hz,Bool.false_and]at hres;refine HT_sA ?_;exact(HT_retE (fun h=>⟨.inr rfl,h⟩) _ (by simp[*];rfl) (by first|rfl|simp[*]) (by simp))
 try simp only[BN]at h3
 have hz:(!decide ((kidsP o).1<0)&&(!decide ((ks.length:Int)<(kidsP o).1)&& !decide ((kidsP o).2<(ks.length:Int))))=true:=by
  simp only[Bool.and_eq_true,Bool.not_eq_true',decide_eq_false_iff_not];omega
 refine(HT_cutU [0,2,4] (fun(z:Unit)=>[]) (fun(z:Unit)=>[(4,.box [.c (iC o),.c (iC n),.c (.sl 3 (encTs ks))])]) (fun(z:Unit)=>nodeB vars inp o n ks.length=true) ?_ ?_)
 ·
  refine HT_sA ?_;refine HT_block<|HT_seq<|HT_runA ?_;refine(HT_cond rfl (fun h9=>HT_skip ?_) (fun h9=>?_))
  · (try simp only[BN]at h9);exact⟨(),by unfold nodeB;rw[hz,Bool.true_and,if_pos h9],le_mkA (fun n=>n) []⟩
  (try simp only[BN]at h9);refine HT_sA ?_;refine(HT_cond rfl (fun h12=>?_) (fun h12=>?_))
  · (try simp only[BN]at h12);by_cases hn0:0≤n
    · by_cases hn3:n<vars.length
      · obtain⟨v,hv1⟩:=get_vars ⟨hn0,hn3⟩;have hn1:¬(vars.length:Int)≤n:=by omega
        have hn2:¬n<0:=by omega
        clear hn3;refine HT_sA ?_;refine(HT_cs rfl (fun h14=>?_) fun h14=>?_)
        · try simp only[BN]at h14
          have hz3:nodeB vars inp o n ks.length=false:=by
           unfold nodeB refB;rw[hz,Bool.true_and,if_neg h9,if_pos h12,hv1];simp[h14]
          rw[hz3,Bool.false_and]at hres;refine HT_sA ?_;exact(HT_retE (fun h=>⟨.inr rfl,h⟩) _ (by simp[*];rfl) (by first|rfl|simp[*]) (by simp))
        try simp only[BN]at h14
        exact⟨(),by
         unfold nodeB refB;rw[hz,Bool.true_and,if_neg h9,if_pos h12,hv1];simp only[Bool.and_eq_true,Bool.not_eq_true',Bool.and_eq_false_iff,decide_eq_true_eq,decide_eq_false_iff_not]
         exact⟨hn0,h14⟩,le_mkA (fun n=>n) []⟩
      cases inp
      · have hv1:=get_none hn0 hn3;have hn1:(vars.length:Int)≤n:=by omega
        have hn2:¬n<0:=by omega
        have hz2:∀i,refB vars i n=false:=by intro i;simp[refB,hv1]
        clear hn3;refine HT_sA ?_;refine(HT_cs rfl (fun h14=>?_) fun h14=>?_)
        · try simp only[BN]at h14
          have hz3:∀i,nodeB vars i o n ks.length=false:=by
           intro i;unfold nodeB;rw[hz,Bool.true_and,if_neg h9,if_pos h12,hz2]
          rw[hz3,Bool.false_and]at hres;refine HT_sA ?_;exact(HT_retE (fun h=>⟨.inr rfl,h⟩) _ (by simp[*];rfl) (by first|rfl|simp[*]) (by simp))
        exact absurd h14 (by simp)
      have hv1:=get_none hn0 hn3;have hn1:(vars.length:Int)≤n:=by omega
      have hn2:¬n<0:=by omega
      have hz2:∀i,refB vars i n=false:=by intro i;simp[refB,hv1]
      clear hn3;refine HT_sA ?_;refine(HT_cs rfl (fun h14=>?_) fun h14=>?_)
      · try simp only[BN]at h14
        have hz3:∀i,nodeB vars i o n ks.length=false:=by
         intro i;unfold nodeB;rw[hz,Bool.true_and,if_neg h9,if_pos h12,hz2]
        rw[hz3,Bool.false_and]at hres;refine HT_sA ?_;exact(HT_retE (fun h=>⟨.inr rfl,h⟩) _ (by simp[*];rfl) (by first|rfl|simp[*]) (by simp))
      exact absurd h14 (by simp)
    cases inp
    · have hn2:n<0:=by omega
      have hz2:∀i,refB vars i n=false:=by intro i;simp[refB,hn0]
      refine HT_sA ?_;refine(HT_cs rfl (fun h14=>?_) fun h14=>?_)
      · try simp only[BN]at h14
        have hz3:∀i,nodeB vars i o n ks.length=false:=by
         intro i;unfold nodeB;rw[hz,Bool.true_and,if_neg h9,if_pos h12,hz2]
        rw[hz3,Bool.false_and]at hres;refine HT_sA ?_;exact(HT_retE (fun h=>⟨.inr rfl,h⟩) _ (by simp[*];rfl) (by first|rfl|simp[*]) (by simp))
      exact absurd h14 (by simp)
    have hn2:n<0:=by omega
    have hz2:∀i,refB vars i n=false:=by intro i;simp[refB,hn0]
    refine HT_sA ?_;refine(HT_cs rfl (fun h14=>?_) fun h14=>?_)
    · try simp only[BN]at h14
      have hz3:∀i,nodeB vars i o n ks.length=false:=by
       intro i;unfold nodeB;rw[hz,Bool.true_and,if_neg h9,if_pos h12,hz2]
      rw[hz3,Bool.false_and]at hres;refine HT_sA ?_;exact(HT_retE (fun h=>⟨.inr rfl,h⟩) _ (by simp[*];rfl) (by first|rfl|simp[*]) (by simp))
    exact absurd h14 (by simp)
  (try simp only[BN]at h12);refine HT_sA ?_;refine(HT_cs rfl (fun h19=>?_) fun h19=>?_)
  · try simp only[BN]at h19
    have hz3:nodeB vars inp o n ks.length=false:=by
     unfold nodeB;rw[hz,Bool.true_and,if_neg h9,if_neg h12];simpa using h19
    rw[hz3,Bool.false_and]at hres;refine HT_sA ?_;exact(HT_retE (fun h=>⟨.inr rfl,h⟩) _ (by simp[*];rfl) (by first|rfl|simp[*]) (by simp))
  try simp only[BN]at h19
  exact⟨(),by
   unfold nodeB;rw[hz,Bool.true_and,if_neg h9,if_neg h12]
   simpa using h19,le_mkA (fun n=>n) []⟩
 rintro z hz;simp only[upS,keepS,insS]
 try simp only[keepS,KN,Nat.reduceBEq,if_true,if_false,ins,Nat.reduceLT]
 rw[hz,Bool.true_and]at hres;refine HT_seq<|HT_seq<|HT_runA ?_;refine HT_block<|(HT_loopU [0,2,65,66] (fun(x:Nat)=>[(67,.v (li x))]) (fun x=>[]) (fun x=>x≤ks.length∧formBs vars inp (ks.drop x)=res) (fun x=>ks.length - x) (0:Nat) ⟨Nat.zero_le _,hres⟩ ?_ ?_)
 · exact le_mkA (fun n=>n) []
 rintro k ⟨hk,hJ⟩;simp only[upS,keepS,insS]
 try simp only[keepS,KN,Nat.reduceBEq,if_true,if_false,ins,Nat.reduceLT]
 refine HT_sA ?_;refine HT_seq<|(HT_cond rfl (fun h26=>HT_skip ?_) (fun h26=>?_))
 · (try simp only[BN]at h26);have hlt:k<ks.length:=by omega
   obtain⟨⟨eo,en,ek⟩,he,hd⟩:=at_lt hlt;have he':=get_encT he;simp only[Tm.enc]at he';have hw1:=wrap1 hlt (by omega);rw[hd]at hJ;simp only[formBs]at hJ;have hk1:k+1≤ks.length:=hlt;have hmem:Tm.mk eo en ek∈ks:=List.mem_of_getElem? he;clear hlt h26;refine HT_seq<|HT_block<|HT_seq<|HT_runA ?_;refine HT_scA [⟨true,.v (lb (formB vars inp (.mk eo en ek))),none⟩] ?_ ?_
   · first|exact ih' _ hmem _|exact trivial|simpa[*]using ih' _ hmem _
   refine(HT_cs rfl (fun h29=>?_) fun h29=>?_)
   · (try simp only[BN]at h29);rw[h29,Bool.false_and]at hJ;subst hJ;refine HT_sA ?_;exact(HT_retE (fun h=>⟨.inr rfl,h⟩) _ (by simp[*];rfl) (by first|rfl|simp[*]) (by simp))
   (try simp only[BN]at h29);rw[h29,Bool.true_and]at hJ;refine HT_runA ?_;exact⟨k+1,⟨hk1,hJ⟩,by omega,le_mkA (fun n=>n) []⟩
 (try simp only[BN]at h26);have hkl:k=ks.length:=by omega
 subst hkl;rw[List.drop_length]at hJ;simp only[formBs]at hJ;subst hJ;refine(HT_exit ?_);refine HT_sA ?_;exact(HT_retE (fun h=>⟨.inr rfl,h⟩) _ (by simp[*];rfl) (by first|rfl|simp[*]) (by simp))
end Go.Proofs.YtppjennamodfdaaGreat

namespace Go.Proofs.YtppjennamodfdaaGreat
open Go Go.Hl
theorem takeM {α β:Type} (f:α→β) (l:List α):(l.map f).take l.length=l.map f:=by
 rw[List.take_of_length_le (by simp)]
def modL (b:Int×Int):Int:=if b.1<0 then mn (b.1+1) 0 else 0
def modH (b:Int×Int):Int:=if 0<b.2 then mx (b.2 - 1) 0 else 0
@[simp] def g2 (k:List (Int×Int)) (i:Nat):Int×Int:=k[i]?.getD ((0:Int),(0:Int))
def ruleP (vars:List Vr) (o n:Int) (k:List (Int×Int)):Int×Int:=
 if o=0 then(n,n)else if o=24 then(match vars[n.toNat]? with|some v=>(v.low,v.high)|none=>(0,0))
 else if o=6 then(-(g2 k 0).2,-(g2 k 0).1)
 else if o=8 then((g2 k 0).1+(g2 k 1).1,(g2 k 0).2+(g2 k 1).2)
 else if o=9 then((g2 k 0).1 - (g2 k 1).2,(g2 k 0).2 - (g2 k 1).1)
 else if o=10 then mulP (g2 k 0) (g2 k 1)
 else if o=11 then(if 0≤(g2 k 0).1∧0≤(g2 k 1).1 then(0,mx (g2 k 0).2 (-(g2 k 0).1))else(-(mx (g2 k 0).2 (-(g2 k 0).1)),mx (g2 k 0).2 (-(g2 k 0).1)))
 else if o=12 then(modL (g2 k 1),modH (g2 k 1))
 else if o=21 then(mn (g2 k 0).1 (g2 k 1).1,mn (g2 k 0).2 (g2 k 1).2)
 else if o=22 then(mx (g2 k 0).1 (g2 k 1).1,mx (g2 k 0).2 (g2 k 1).2)
 else if o=23∨o=25 then hullL (k.drop 2) (g2 k 1)else(0,1)
theorem kid {k:List (Int×Int)} (hk:∀p∈k,bnd p) {i:Nat} (h:i+1≤k.length):∃a1 a2,k[i]? =some (a1,a2)∧-1048576≤a1∧a1≤a2∧a2≤1048576:=by
 have:k[i]? =some k[i]:=by simp[show i<k.length from h]
 have h2:=hk k[i] (List.getElem_mem _);exact⟨k[i].1,k[i].2,this,h2⟩
theorem node_ar {vars:List Vr} {inp:Bool} {o n:Int} {len:Nat} (h:nodeB vars inp o n len=true):0≤(kidsP o).1∧(kidsP o).1≤len∧(len:Int)≤(kidsP o).2:=by
 unfold nodeB at h;simp only[Bool.and_eq_true,Bool.not_eq_true',decide_eq_false_iff_not]at h;omega
theorem node_ref {vars:List Vr} {inp:Bool} {n:Int} {len:Nat} (h:nodeB vars inp 24 n len=true):0≤n∧∃v,vars[n.toNat]? =some v∧(inp=true→v.kind≠0):=by
 unfold nodeB refB at h;simp only[Bool.and_eq_true,Int.reduceEq,if_false,if_true,decide_eq_true_eq]at h;obtain⟨_,h0,h⟩:=h;refine⟨h0,?_⟩;split at h
 · rename_i v hv;refine⟨v,hv,fun hi hk=>?_⟩;simp[hi,hk]at h
 cases h
theorem kids1 {o:Int} (h:o=6∨o=7):kidsP o=(1,1):=by
 unfold kidsP;rw[if_neg (by omega),if_pos h]
theorem kids2 {o:Int} (h:8≤o∧o≤22):kidsP o=(2,2):=by
 unfold kidsP;rw[if_neg (by omega),if_neg (by omega),if_pos h]
theorem kids3:kidsP 23=(3,3):=by decide
theorem kids4:kidsP 25=(2,33):=by decide
theorem rule_con (vars:List Vr) (inp:Bool) (o n:Int) (K:CD) (k:List (Int×Int)) (hf:nodeB vars inp o n k.length=true) (hk:∀p∈k,bnd p) (d:Nat):
  Con Tryz.prog 199 true [lV vars,.agg [.c (iC o),.c (iC n),.c K],.one (.c (.sl 2 (encPs k)))] (.v (aP (ruleP vars o n k))) none d:=by
 have har:=node_ar hf;have hrf:o=24→0≤n∧∃v,vars[n.toNat]? =some v∧(inp=true→v.kind≠0):=fun h=>node_ref (by rw[←h];exact hf);clear hf;have ar1:o=6→0+1≤k.length:=fun h=>by have:=kids1 (.inl h);rw[this]at har;simp only at har;omega
 have ar2:8≤o∧o≤22→0+1≤k.length∧1+1≤k.length:=fun h=>by have:=kids2 h;rw[this]at har;simp only at har;omega
 have ar3:o=23∨o=25→2≤k.length∧k.length≤33:=fun h=>by
  rcases h with h|h
  · have:=kids3;rw[h,this]at har;simp only at har;omega
  have:=kids4;rw[h,this]at har;simp only at har;omega
 clear har;refine con_of_HTA Tryz.func199 ?_;simp only[Tryz.f199];refine HT_sA ?_;refine HT_seq<|HT_seq<|HT_runA ?_;refine HT_block<|HT_seq<|HT_runA ?_;refine(HT_cond rfl (fun h3=>?_) (fun h3=>?_))
 · (try simp only[BN]at h3);refine HT_sA ?_;exact(HT_retE (fun h=>⟨.inr rfl,h⟩) _ (by simp[*];rfl) (by first|rfl|(simp[*,ruleP];done)|(simp only[resR,ruleP];(repeat' split)<;>first|rfl|(exfalso;omega)|simp_all)) (by simp))
 (try simp only[BN]at h3);refine HT_sA ?_;refine(HT_cond rfl (fun h7=>?_) (fun h7=>?_))
 · (try simp only[BN]at h7);obtain⟨hn0,v,hv,_⟩:=hrf h7;clear hrf;refine HT_seq<|(HT_drun (by kernel_rfl) (by kernel_rfl) (by rfl) (by simp[*];rfl) ?_);exact(HT_retE (fun h=>⟨.inr rfl,h⟩) _ (by simp[*];rfl) (by first|rfl|(simp[*,ruleP];done)|(simp only[resR,ruleP];(repeat' split)<;>first|rfl|(exfalso;omega)|simp_all)) (by simp))
 (try simp only[BN]at h7);refine HT_sA ?_;refine(HT_cond rfl (fun h11=>?_) (fun h11=>?_))
 · (try simp only[BN]at h11);obtain⟨a1,a2,ha,hb1,hb2,hb3⟩:=kid hk (ar1 h11);have hw1:IntKind.i64.wrap (-a1)=-a1:=wrap_in (by omega) (by omega);have hw2:IntKind.i64.wrap (-a2)=-a2:=wrap_in (by omega) (by omega);clear ar1 ar2 ar3;refine HT_seq<|(HT_drun (by kernel_rfl) (by kernel_rfl) (by rfl) (by simp[*];rfl) ?_);exact(HT_retE (fun h=>⟨.inr rfl,h⟩) _ (by simp[*];rfl) (by first|rfl|(simp[*,ruleP];done)|(simp only[resR,ruleP];(repeat' split)<;>first|rfl|(exfalso;omega)|simp_all)) (by simp))
 (try simp only[BN]at h11);refine HT_sA ?_;refine(HT_cond rfl (fun h15=>?_) (fun h15=>?_))
 · (try simp only[BN]at h15);obtain⟨a1,a2,ha,hb1,hb2,hb3⟩:=kid hk (ar2 (by omega)).1;obtain⟨c1,c2,hc,hc1,hc2,hc3⟩:=kid hk (ar2 (by omega)).2;have hw1:IntKind.i64.wrap (a1+c1)=a1+c1:=wrap_in (by omega) (by omega);have hw2:IntKind.i64.wrap (a2+c2)=a2+c2:=wrap_in (by omega) (by omega);clear ar1 ar2 ar3;refine HT_seq<|(HT_drun (by kernel_rfl) (by kernel_rfl) (by rfl) (by simp[*];rfl) ?_);exact(HT_retE (fun h=>⟨.inr rfl,h⟩) _ (by simp[*];rfl) (by first|rfl|(simp[*,ruleP];done)|(simp only[resR,ruleP];(repeat' split)<;>first|rfl|(exfalso;omega)|simp_all)) (by simp))
 (try simp only[BN]at h15);refine HT_sA ?_;refine(HT_cond rfl (fun h19=>?_) (fun h19=>?_))
 · (try simp only[BN]at h19);obtain⟨a1,a2,ha,hb1,hb2,hb3⟩:=kid hk (ar2 (by omega)).1;obtain⟨c1,c2,hc,hc1,hc2,hc3⟩:=kid hk (ar2 (by omega)).2;have hw1:IntKind.i64.wrap (a1 - c2)=a1 - c2:=wrap_in (by omega) (by omega);have hw2:IntKind.i64.wrap (a2 - c1)=a2 - c1:=wrap_in (by omega) (by omega);clear ar1 ar2 ar3;refine HT_seq<|(HT_drun (by kernel_rfl) (by kernel_rfl) (by rfl) (by simp[*];rfl) ?_);exact(HT_retE (fun h=>⟨.inr rfl,h⟩) _ (by simp[*];rfl) (by first|rfl|(simp[*,ruleP];done)|(simp only[resR,ruleP];(repeat' split)<;>first|rfl|(exfalso;omega)|simp_all)) (by simp))
 (try simp only[BN]at h19);refine HT_sA ?_;refine(HT_cond rfl (fun h23=>?_) (fun h23=>?_))
 · (try simp only[BN]at h23);obtain⟨a1,a2,ha,hb1,hb2,hb3⟩:=kid hk (ar2 (by omega)).1;obtain⟨c1,c2,hc,hc1,hc2,hc3⟩:=kid hk (ar2 (by omega)).2;clear ar1 ar2 ar3;refine HT_seq<|(HT_drunc [⟨true,.v (aP (mulP (a1,a2) (c1,c2))),none⟩] (by kernel_rfl) (by kernel_rfl) (by rfl) (by simp[*];first|exact⟨rfl,Iff.rfl⟩|exact⟨rfl,trivial⟩|rfl) ?_ ?_)
   · first|exact corners_con (a1,a2) (c1,c2) ⟨hb1,hb2,hb3⟩ ⟨hc1,hc2,hc3⟩ _|exact trivial|simpa[*]using corners_con (a1,a2) (c1,c2) ⟨hb1,hb2,hb3⟩ ⟨hc1,hc2,hc3⟩ _
   exact(HT_retE (fun h=>⟨.inr rfl,h⟩) _ (by simp[*];rfl) (by first|rfl|(simp[*,ruleP];done)|(simp only[resR,ruleP];(repeat' split)<;>first|rfl|(exfalso;omega)|simp_all)) (by simp))
 (try simp only[BN]at h23);refine HT_sA ?_;refine(HT_cond rfl (fun h27=>?_) (fun h27=>?_))
 · (try simp only[BN]at h27);obtain⟨a1,a2,ha,hb1,hb2,hb3⟩:=kid hk (ar2 (by omega)).1;obtain⟨c1,c2,hc,hc1,hc2,hc3⟩:=kid hk (ar2 (by omega)).2;have hw1:IntKind.i64.wrap (-a1)=-a1:=wrap_in (by omega) (by omega);have hm:-1048576≤mx a2 (-a1)∧mx a2 (-a1)≤1048576:=by unfold mx;split<;>omega
   have hw2:IntKind.i64.wrap (-(mx a2 (-a1)))=-(mx a2 (-a1)):=wrap_in (by omega) (by omega);have hmx:(if a2< -a1 then -a1 else a2)=mx a2 (-a1):=rfl;clear ar1 ar2 ar3;refine HT_seq<|(HT_drun (by kernel_rfl) (by kernel_rfl) (by rfl) (by simp[*];rfl) ?_);refine HT_seq<|HT_seq<|HT_runA ?_;refine(HT_cs rfl (fun h30=>?_) fun h30=>?_)
   · (try simp only[BN]at h30);refine HT_sA ?_;exact(HT_retE (fun h=>⟨.inr rfl,h⟩) _ (by simp[*];rfl) (by first|rfl|(simp[*,ruleP];done)|(simp only[resR,ruleP];(repeat' split)<;>first|rfl|(exfalso;omega)|simp_all)) (by simp))
   (try simp only[BN]at h30);have hng:¬(0≤a1∧0≤c1):=by omega
   refine HT_sA ?_;exact(HT_retE (fun h=>⟨.inr rfl,h⟩) _ (by simp[*];rfl) (by first|rfl|(simp[*,ruleP];done)|(simp only[resR,ruleP];(repeat' split)<;>first|rfl|(exfalso;omega)|simp_all)) (by simp))
 (try simp only[BN]at h27);refine HT_sA ?_;refine(HT_cond rfl (fun h36=>?_) (fun h36=>?_))
 · (try simp only[BN]at h36);obtain⟨c1,c2,hc,hc1,hc2,hc3⟩:=kid hk (ar2 (by omega)).2;have hw1:IntKind.i64.wrap (c1+1)=c1+1:=wrap_in (by omega) (by omega);have hw2:IntKind.i64.wrap (c2 - 1)=c2 - 1:=wrap_in (by omega) (by omega);have hmn:(if 0<c1+1 then 0 else c1+1)=mn (c1+1) 0:=rfl;have hmx:(if c2 - 1<0 then 0 else c2 - 1)=mx (c2 - 1) 0:=rfl;clear ar1 ar2 ar3;refine HT_sA ?_;refine(HT_cutU [2,6,8] (fun(z:Int)=>[]) (fun(z:Int)=>[(6,.box [.c (iC 0),.c (iC 0)]),(8,.box [.c (iC z),.c (iC 0)])]) (fun(z:Int)=>z=modL (c1,c2)) ?_ ?_)
   ·
    refine HT_sA ?_;refine(HT_cs rfl (fun h40=>?_) fun h40=>?_)
    · (try simp only[BN]at h40);have hml:mn (c1+1) 0=modL (c1,c2):=by simp only[modL];rw[if_pos h40]
      refine HT_runA ?_;exact⟨modL (c1,c2),rfl,le_mkA (fun n=>n) []⟩
    (try simp only[BN]at h40);have hml:(0:Int)=modL (c1,c2):=by simp only[modL];rw[if_neg h40]
    exact⟨modL (c1,c2),rfl,le_mkA (fun n=>n) []⟩
   rintro _ rfl;simp only[upS,keepS,insS]
   try simp only[keepS,KN,Nat.reduceBEq,if_true,if_false,ins,Nat.reduceLT]
   refine HT_seq<|HT_seq<|HT_runA ?_;refine(HT_cs rfl (fun h45=>?_) fun h45=>?_)
   · (try simp only[BN]at h45);have hmh:mx (c2 - 1) 0=modH (c1,c2):=by simp only[modH];rw[if_pos h45]
     refine HT_runA ?_;refine HT_sA ?_;exact(HT_retE (fun h=>⟨.inr rfl,h⟩) _ (by simp[*];rfl) (by first|rfl|(simp[*,ruleP];done)|(simp only[resR,ruleP];(repeat' split)<;>first|rfl|(exfalso;omega)|simp_all)) (by simp))
   (try simp only[BN]at h45);have hmh:modH (c1,c2)=0:=by simp only[modH];rw[if_neg h45]
   refine HT_sA ?_;exact(HT_retE (fun h=>⟨.inr rfl,h⟩) _ (by simp[*];rfl) (by first|rfl|(simp[*,ruleP];done)|(simp only[resR,ruleP];(repeat' split)<;>first|rfl|(exfalso;omega)|simp_all)) (by simp))
 (try simp only[BN]at h36);refine HT_sA ?_;refine(HT_cond rfl (fun h52=>?_) (fun h52=>?_))
 · (try simp only[BN]at h52);obtain⟨a1,a2,ha,hb1,hb2,hb3⟩:=kid hk (ar2 (by omega)).1;obtain⟨c1,c2,hc,hc1,hc2,hc3⟩:=kid hk (ar2 (by omega)).2;clear ar1 ar2 ar3;refine HT_seq<|(HT_drun (by kernel_rfl) (by kernel_rfl) (by rfl) (by simp[*];rfl) ?_);exact(HT_retE (fun h=>⟨.inr rfl,h⟩) _ (by simp[*];rfl) (by simp[*,ruleP,resR,mn]) (by simp))
 (try simp only[BN]at h52);refine HT_sA ?_;refine(HT_cond rfl (fun h56=>?_) (fun h56=>?_))
 · (try simp only[BN]at h56);obtain⟨a1,a2,ha,hb1,hb2,hb3⟩:=kid hk (ar2 (by omega)).1;obtain⟨c1,c2,hc,hc1,hc2,hc3⟩:=kid hk (ar2 (by omega)).2;clear ar1 ar2 ar3;refine HT_seq<|(HT_drun (by kernel_rfl) (by kernel_rfl) (by rfl) (by simp[*];rfl) ?_);exact(HT_retE (fun h=>⟨.inr rfl,h⟩) _ (by simp[*];rfl) (by simp[*,ruleP,resR,mx]) (by simp))
 (try simp only[BN]at h56);refine(HT_cutU [2,6] (fun(z:Bool)=>[(200,.v (lb z))]) (fun(z:Bool)=>[(6,.box [.c (iC 0),.c (iC 0)])]) (fun(z:Bool)=>z=decide (o=23∨o=25)) ?_ ?_)
 ·
  refine HT_sA ?_;refine(HT_cond rfl (fun h61=>HT_skip ?_) (fun h61=>?_))
  · (try simp only[BN]at h61);exact⟨true,by simp[h61],le_mkA (fun n=>n) []⟩
  (try simp only[BN]at h61);refine HT_runA ?_;exact⟨decide (o=25),by simp[h61],le_mkA (fun n=>n) []⟩
 rintro z hz;simp only[upS,keepS,insS]
 try simp only[keepS,KN,Nat.reduceBEq,if_true,if_false,ins,Nat.reduceLT]
 subst hz;obtain⟨res,hres⟩:∃r,ruleP vars o n k=r:=⟨_,rfl⟩;rw[hres];simp only[ruleP,h3,h7,h11,h15,h19,h23,h27,h36,h52,h56,if_false]at hres;refine(HT_cs rfl (fun h65=>?_) fun h65=>?_)
 · (try simp only[BN]at h65);have h2:=ar3 h65;rw[if_pos h65]at hres;clear ar1 ar2 ar3 h65;rcases k with _|⟨a,_|⟨c,r⟩⟩
   · simp at h2
   · simp at h2
   have hr33:r.length≤31:=by simp only[List.length_cons]at h2;omega
   clear h2;simp at hres;refine HT_seq<|(HT_run (by simp[*,encPs];rfl) ?_);refine HT_seq<|HT_seq<|(HT_run (by simp[*,encPs,takeM];rfl) ?_);refine HT_block<|(HT_loopU [6,9,207,208] (fun(x:Nat×Int×Int)=>[(209,.v (li x.1))]) (fun x=>[(6,.box [.c (iC 0),.c (iC 0)]),(9,.box [.c (iC x.2.1),.c (iC x.2.2)])]) (fun x=>x.1≤r.length∧hullL (r.drop x.1) x.2=res) (fun x=>r.length - x.1) (0,c) ⟨Nat.zero_le _,hres⟩ ?_ ?_)
   · exact le_mkA (fun n=>n) []
   rintro⟨k,m,q⟩ ⟨hk',hJ⟩;simp only[upS,keepS,insS]
   try simp only[keepS,KN,Nat.reduceBEq,if_true,if_false,ins,Nat.reduceLT]
   simp only at hk' hJ;clear hres;refine HT_sA ?_;refine HT_seq<|(HT_cond rfl (fun h70=>HT_skip ?_) (fun h70=>?_))
   · (try simp only[BN]at h70);have hlt:k<r.length:=by omega
     obtain⟨⟨e1,e2⟩,he,hd⟩:=at_lt hlt;have hw1:=wrap1 hlt (by omega);rw[hd]at hJ;simp only[hullL]at hJ;have hk1:k+1≤r.length:=hlt;clear hlt h70;refine HT_seq<|HT_block<|HT_seq<|HT_runA ?_;refine(HT_runcA [⟨true,.v (aP (hullP (m,q) (e1,e2))),none⟩] ?_ ?_)
     · first|exact hull_con (m,q) (e1,e2) _|exact trivial|simpa[*]using hull_con (m,q) (e1,e2) _
     refine HT_runA ?_;exact⟨(k+1,hullP (m,q) (e1,e2)),⟨hk1,hJ⟩,by simp only;omega,le_mkA (fun n=>n) []⟩
   (try simp only[BN]at h70);have hkl:k=r.length:=by omega
   rw[hkl,List.drop_length]at hJ;simp only[hullL]at hJ;refine(HT_exit ?_);refine HT_sA ?_;exact(HT_retE (fun h=>⟨.inr rfl,h⟩) _ (by simp[*];rfl) (by subst hJ;rfl) (by simp))
 (try simp only[BN]at h65);rw[if_neg h65]at hres;subst hres;refine HT_sA ?_;exact(HT_retE (fun h=>⟨.inr rfl,h⟩) _ (by simp[*];rfl) (by first|rfl|(simp[*,ruleP];done)|(simp only[resR,ruleP];(repeat' split)<;>first|rfl|(exfalso;omega)|simp_all)) (by simp))
end Go.Proofs.YtppjennamodfdaaGreat

namespace Go.Proofs.YtppjennamodfdaaGreat
open Go Go.Hl
theorem nodes_mem {ks:List Tm} {t:Tm} (ht:t∈ks):t.nodes≤nodesT ks:=by
 induction ks with
 |nil=>cases ht
 | cons a l ih=>
   simp only[nodesT];rcases List.mem_cons.1 ht with rfl|h
   · omega
   have:=ih h;omega
theorem least_con (a b:Int) (d:Nat):Con Tryz.prog 100 true [li a,li b] (.v (li (mn a b))) none d:=by
 refine con_of_HTA Tryz.func100 ?_;simp only[Tryz.f100];refine HT_sA ?_;refine HT_seq<|HT_seq<|HT_runA ?_;refine(HT_cs rfl (fun h2=>?_) fun h2=>?_)
 · (try simp only[BN]at h2);have hz:mn a b=a:=by unfold mn;split<;>omega
   refine HT_sA ?_;exact HT_rA
 (try simp only[BN]at h2);have hz:mn a b=b:=by unfold mn;split<;>omega
 refine HT_sA ?_;exact HT_rA
theorem most_con (a b:Int) (d:Nat):Con Tryz.prog 99 true [li a,li b] (.v (li (mx a b))) none d:=by
 refine con_of_HTA Tryz.func99 ?_;simp only[Tryz.f99];refine HT_sA ?_;refine HT_seq<|HT_seq<|HT_runA ?_;refine(HT_cs rfl (fun h2=>?_) fun h2=>?_)
 · (try simp only[BN]at h2);have hz:mx a b=a:=by unfold mx;split<;>omega
   refine HT_sA ?_;exact HT_rA
 (try simp only[BN]at h2);have hz:mx a b=b:=by unfold mx;split<;>omega
 refine HT_sA ?_;exact HT_rA
def absI (a:Int):Int:=if a<0 then -a else a
theorem size_con (a:Int) (h:-1048576≤a∧a≤1048576) (d:Nat):Con Tryz.prog 155 true [li a] (.v (li (absI a))) none d:=by
 have hw:IntKind.i64.wrap (-a)=-a:=wrap_in (by omega) (by omega);refine con_of_HTA Tryz.func155 ?_;simp only[Tryz.f155];refine HT_sA ?_;refine HT_seq<|HT_seq<|HT_runA ?_;refine(HT_cs rfl (fun h2=>?_) fun h2=>?_)
 · (try simp only[BN]at h2);refine HT_sA ?_;exact(HT_retE (fun h=>⟨.inr rfl,h⟩) _ (by simp[*];rfl) (by first|rfl|(simp[*,absI];done)|(simp only[resR,absI];(repeat' split)<;>first|rfl|(exfalso;omega)|simp_all)) (by simp))
 (try simp only[BN]at h2);refine HT_sA ?_;exact(HT_retE (fun h=>⟨.inr rfl,h⟩) _ (by simp[*];rfl) (by first|rfl|(simp[*,absI];done)|(simp only[resR,absI];(repeat' split)<;>first|rfl|(exfalso;omega)|simp_all)) (by simp))
def kidsR (o:Int):Int:=if o=0∨o=24 then 0 else if o=6∨o=7 then 1 else if 8≤o∧o≤22 then 2 else if o=23 then 3 else if o=25 then -2 else -1
theorem kidsR_con (o:Int) (d:Nat):Con Tryz.prog 128 true [li o] (.v (li (kidsR o))) none d:=by
 refine con_of_HTA Tryz.func128 ?_;simp only[Tryz.f128];refine HT_sA ?_;refine HT_seq<|HT_seq<|HT_runA ?_;refine HT_block<|(HT_cutU [3] (fun(z:Bool)=>[(4,.v (lb z))]) (fun(z:Bool)=>[]) (fun(z:Bool)=>z=decide (o=0∨o=24)) ?_ ?_)
 ·
  refine HT_sA ?_;refine(HT_cond rfl (fun h4=>HT_skip ?_) (fun h4=>?_))
  · (try simp only[BN]at h4);exact⟨decide (o=0∨o=24),rfl,le_mkA (fun n=>n) []⟩
  (try simp only[BN]at h4);refine HT_runA ?_;exact⟨decide (o=0∨o=24),rfl,le_mkA (fun n=>n) []⟩
 rintro _ rfl;simp only[upS,keepS,insS]
 try simp only[keepS,KN,Nat.reduceBEq,if_true,if_false,ins,Nat.reduceLT]
 refine(HT_cond rfl (fun h8=>?_) (fun h8=>?_))
 · (try simp only[BN]at h8);refine HT_sA ?_;exact(HT_retE (fun h=>⟨.inr rfl,h⟩) _ (by simp[*];rfl) (by first|rfl|(simp[*,kidsR];done)|(simp only[resR,kidsR];(repeat' split)<;>first|rfl|(exfalso;omega)|simp_all)) (by simp))
 (try simp only[BN]at h8);refine(HT_cutU [3] (fun(z:Bool)=>[(7,.v (lb z))]) (fun(z:Bool)=>[]) (fun(z:Bool)=>z=decide (o=6∨o=7)) ?_ ?_)
 ·
  refine HT_sA ?_;refine(HT_cond rfl (fun h13=>HT_skip ?_) (fun h13=>?_))
  · (try simp only[BN]at h13);exact⟨decide (o=6∨o=7),rfl,le_mkA (fun n=>n) []⟩
  (try simp only[BN]at h13);refine HT_runA ?_;exact⟨decide (o=6∨o=7),rfl,le_mkA (fun n=>n) []⟩
 rintro _ rfl;simp only[upS,keepS,insS]
 try simp only[keepS,KN,Nat.reduceBEq,if_true,if_false,ins,Nat.reduceLT]
 refine(HT_cond rfl (fun h17=>?_) (fun h17=>?_))
 · (try simp only[BN]at h17);refine HT_sA ?_;exact(HT_retE (fun h=>⟨.inr rfl,h⟩) _ (by simp[*];rfl) (by first|rfl|(simp[*,kidsR];done)|(simp only[resR,kidsR];(repeat' split)<;>first|rfl|(exfalso;omega)|simp_all)) (by simp))
 (try simp only[BN]at h17);refine(HT_cutU [3] (fun(z:Bool)=>[(10,.v (lb z))]) (fun(z:Bool)=>[]) (fun(z:Bool)=>z=decide (8≤o∧o≤22)) ?_ ?_)
 ·
  refine HT_sA ?_;refine(HT_cond rfl (fun h22=>HT_skip ?_) (fun h22=>?_))
  · (try simp only[BN]at h22);exact⟨decide (8≤o∧o≤22),rfl,le_mkA (fun n=>n) []⟩
  (try simp only[BN]at h22);refine HT_sA ?_;refine(HT_cond rfl (fun h25=>HT_skip ?_) (fun h25=>?_))
  · (try simp only[BN]at h25);exact⟨decide (8≤o∧o≤22),rfl,le_mkA (fun n=>n) []⟩
  (try simp only[BN]at h25);refine HT_sA ?_;refine(HT_cond rfl (fun h28=>HT_skip ?_) (fun h28=>?_))
  · (try simp only[BN]at h28);exact⟨decide (8≤o∧o≤22),rfl,le_mkA (fun n=>n) []⟩
  (try simp only[BN]at h28);refine HT_sA ?_;refine(HT_cond rfl (fun h31=>HT_skip ?_) (fun h31=>?_))
  · (try simp only[BN]at h31);exact⟨decide (8≤o∧o≤22),rfl,le_mkA (fun n=>n) []⟩
  (try simp only[BN]at h31);refine HT_sA ?_;refine(HT_cond rfl (fun h34=>HT_skip ?_) (fun h34=>?_))
  · (try simp only[BN]at h34);exact⟨decide (8≤o∧o≤22),rfl,le_mkA (fun n=>n) []⟩
  (try simp only[BN]at h34);refine HT_sA ?_;refine(HT_cond rfl (fun h37=>HT_skip ?_) (fun h37=>?_))
  · (try simp only[BN]at h37);exact⟨decide (8≤o∧o≤22),rfl,le_mkA (fun n=>n) []⟩
  (try simp only[BN]at h37);refine HT_sA ?_;refine(HT_cond rfl (fun h40=>HT_skip ?_) (fun h40=>?_))
  · (try simp only[BN]at h40);exact⟨decide (8≤o∧o≤22),rfl,le_mkA (fun n=>n) []⟩
  (try simp only[BN]at h40);refine HT_sA ?_;refine(HT_cond rfl (fun h43=>HT_skip ?_) (fun h43=>?_))
  · (try simp only[BN]at h43);exact⟨decide (8≤o∧o≤22),rfl,le_mkA (fun n=>n) []⟩
  (try simp only[BN]at h43);refine HT_sA ?_;refine(HT_cond rfl (fun h46=>HT_skip ?_) (fun h46=>?_))
  · (try simp only[BN]at h46);exact⟨decide (8≤o∧o≤22),rfl,le_mkA (fun n=>n) []⟩
  (try simp only[BN]at h46);refine HT_sA ?_;refine(HT_cond rfl (fun h49=>HT_skip ?_) (fun h49=>?_))
  · (try simp only[BN]at h49);exact⟨decide (8≤o∧o≤22),rfl,le_mkA (fun n=>n) []⟩
  (try simp only[BN]at h49);refine HT_sA ?_;refine(HT_cond rfl (fun h52=>HT_skip ?_) (fun h52=>?_))
  · (try simp only[BN]at h52);exact⟨decide (8≤o∧o≤22),rfl,le_mkA (fun n=>n) []⟩
  (try simp only[BN]at h52);refine HT_sA ?_;refine(HT_cond rfl (fun h55=>HT_skip ?_) (fun h55=>?_))
  · (try simp only[BN]at h55);exact⟨decide (8≤o∧o≤22),rfl,le_mkA (fun n=>n) []⟩
  (try simp only[BN]at h55);refine HT_sA ?_;refine(HT_cond rfl (fun h58=>HT_skip ?_) (fun h58=>?_))
  · (try simp only[BN]at h58);exact⟨decide (8≤o∧o≤22),rfl,le_mkA (fun n=>n) []⟩
  (try simp only[BN]at h58);refine HT_sA ?_;refine(HT_cond rfl (fun h61=>HT_skip ?_) (fun h61=>?_))
  · (try simp only[BN]at h61);exact⟨decide (8≤o∧o≤22),rfl,le_mkA (fun n=>n) []⟩
  (try simp only[BN]at h61);refine HT_runA ?_;have hz:decide (o=22)=(decide (8≤o)&&decide (o≤22)):=by rw[←Bool.decide_and,decide_eq_decide];omega
  exact⟨decide (8≤o∧o≤22),rfl,le_mkA (fun n=>n) []⟩
 rintro _ rfl;simp only[upS,keepS,insS]
 try simp only[keepS,KN,Nat.reduceBEq,if_true,if_false,ins,Nat.reduceLT]
 refine(HT_cond rfl (fun h65=>?_) (fun h65=>?_))
 · (try simp only[BN]at h65);refine HT_sA ?_;exact(HT_retE (fun h=>⟨.inr rfl,h⟩) _ (by simp[*];rfl) (by first|rfl|(simp[*,kidsR];done)|(simp only[resR,kidsR];(repeat' split)<;>first|rfl|(exfalso;omega)|simp_all)) (by simp))
 (try simp only[BN]at h65);refine HT_sA ?_;refine(HT_cond rfl (fun h69=>?_) (fun h69=>?_))
 · (try simp only[BN]at h69);refine HT_sA ?_;exact(HT_retE (fun h=>⟨.inr rfl,h⟩) _ (by simp[*];rfl) (by first|rfl|(simp[*,kidsR];done)|(simp only[resR,kidsR];(repeat' split)<;>first|rfl|(exfalso;omega)|simp_all)) (by simp))
 (try simp only[BN]at h69);refine HT_sA ?_;refine(HT_cs rfl (fun h73=>?_) fun h73=>?_)
 · (try simp only[BN]at h73);refine HT_sA ?_;exact(HT_retE (fun h=>⟨.inr rfl,h⟩) _ (by simp[*];rfl) (by first|rfl|(simp[*,kidsR];done)|(simp only[resR,kidsR];(repeat' split)<;>first|rfl|(exfalso;omega)|simp_all)) (by simp))
 (try simp only[BN]at h73);refine HT_sA ?_;exact(HT_retE (fun h=>⟨.inr rfl,h⟩) _ (by simp[*];rfl) (by first|rfl|(simp[*,kidsR];done)|(simp only[resR,kidsR];(repeat' split)<;>first|rfl|(exfalso;omega)|simp_all)) (by simp))
end Go.Proofs.YtppjennamodfdaaGreat

namespace Go.Proofs.YtppjennamodfdaaGreat
open Go Go.Hl
theorem kids_eq (o:Int) (len:Nat):(!decide (kidsR o=-1)&&((!decide (0≤kidsR o)||decide ((len:Int)=kidsR o))&&(!decide (kidsR o=-2)||(!decide ((len:Int)<2)&& !decide (33<(len:Int))))))=(!decide ((kidsP o).1<0)&&(!decide ((len:Int)<(kidsP o).1)&& !decide ((kidsP o).2<(len:Int)))):=by
 unfold kidsR kidsP
 (repeat' split)<;>simp<;>(try omega)
 all_goals(rw[Bool.eq_iff_iff];simp only[Bool.and_eq_true,Bool.or_eq_true,Bool.not_eq_true',decide_eq_true_eq,decide_eq_false_iff_not];omega)
theorem formR_con (vars:List Vr) (inp:Bool) (hv:vars.length≤1000000000) (t:Tm):t.nodes≤1000000000→∀d:Nat,
  Con Tryz.prog 96 true [lV vars,aT t,lb inp] (.v (lb (formB vars inp t))) none d:=by
 induction t using Tm.ind with
 |h o n ks ih=>
 intro hn d;simp only[Tm.nodes]at hn;have hlen:=len_nodesT ks;obtain⟨res,hres⟩:∃r,formB vars inp (.mk o n ks)=r:=⟨_,rfl⟩;rw[hres];simp only[formB]at hres;have ih':∀t∈ks,∀d,Con Tryz.prog 96 true [lV vars,aT t,lb inp] (.v (lb (formB vars inp t))) none d:=fun t ht d=>ih t ht (by have:=nodes_mem ht;omega) d;clear ih;have hke:=kids_eq o ks.length;refine con_of_HTA Tryz.func96 ?_;simp only[Tryz.f96];simp only[aT,Tm.enc];refine HT_sA ?_;refine HT_scA [⟨true,.v (li (kidsR o)),none⟩] ?_ ?_
 · first|exact kidsR_con o _|exact trivial|simpa[*]using kidsR_con o _
 refine HT_seq<|HT_seq<|HT_runA ?_;refine(HT_cs rfl (fun h3=>?_) fun h3=>?_)
 · try simp only[BN]at h3
   have hz:nodeB vars inp o n ks.length=false:=by
    unfold nodeB;rw[←hke,Bool.and_eq_false_iff];refine .inl ?_;simp only[Bool.and_eq_false_iff,Bool.or_eq_false_iff,Bool.not_eq_false',decide_eq_true_eq,decide_eq_false_iff_not];omega
   rw[hz,Bool.false_and]at hres;refine HT_sA ?_;exact(HT_retE (fun h=>⟨.inr rfl,h⟩) _ (by simp[*];rfl) (by first|rfl|simp[*]) (by simp))
 try simp only[BN]at h3
 have hz:(!decide ((kidsP o).1<0)&&(!decide ((ks.length:Int)<(kidsP o).1)&& !decide ((kidsP o).2<(ks.length:Int))))=true:=by
  rw[←hke];simp only[Bool.and_eq_true,Bool.or_eq_true,Bool.not_eq_true',decide_eq_false_iff_not,decide_eq_true_eq];omega
 clear hke;refine(HT_cutU [0,2,4] (fun(z:Unit)=>[]) (fun(z:Unit)=>[(4,.box [.c (iC o),.c (iC n),.c (.sl 3 (encTs ks))])]) (fun(z:Unit)=>nodeB vars inp o n ks.length=true) ?_ ?_)
 ·
  refine HT_sA ?_;refine(HT_cond rfl (fun h8=>?_) (fun h8=>?_))
  · (try simp only[BN]at h8);by_cases hn0:0≤n
    · by_cases hn3:n<vars.length
      · obtain⟨v,hv1⟩:=get_vars ⟨hn0,hn3⟩;have hn1:¬(vars.length:Int)≤n:=by omega
        have hn2:¬n<0:=by omega
        clear hn3;refine HT_sA ?_;refine(HT_cs rfl (fun h10=>?_) fun h10=>?_)
        · try simp only[BN]at h10
          have hz3:nodeB vars inp o n ks.length=false:=by
           unfold nodeB refB;rw[hz,Bool.true_and,if_neg (by omega),if_pos h8,hv1];simp[h10]
          rw[hz3,Bool.false_and]at hres;refine HT_sA ?_;exact(HT_retE (fun h=>⟨.inr rfl,h⟩) _ (by simp[*];rfl) (by first|rfl|simp[*]) (by simp))
        try simp only[BN]at h10
        exact⟨(),by
         unfold nodeB refB;rw[hz,Bool.true_and,if_neg (by omega),if_pos h8,hv1];simp only[Bool.and_eq_true,Bool.not_eq_true',Bool.and_eq_false_iff,decide_eq_true_eq,decide_eq_false_iff_not]
         exact⟨hn0,h10⟩,le_mkA (fun n=>n) []⟩
      cases inp
      · have hv1:=get_none hn0 hn3;have hn1:(vars.length:Int)≤n:=by omega
        have hn2:¬n<0:=by omega
        have hz2:∀i,refB vars i n=false:=by intro i;simp[refB,hv1]
        clear hn3;refine HT_sA ?_;refine(HT_cs rfl (fun h10=>?_) fun h10=>?_)
        · try simp only[BN]at h10
          have hz3:∀i,nodeB vars i o n ks.length=false:=by
           intro i;unfold nodeB;rw[hz,Bool.true_and,if_neg (by omega),if_pos h8,hz2]
          rw[hz3,Bool.false_and]at hres;refine HT_sA ?_;exact(HT_retE (fun h=>⟨.inr rfl,h⟩) _ (by simp[*];rfl) (by first|rfl|simp[*]) (by simp))
        exact absurd h10 (by simp)
      have hv1:=get_none hn0 hn3;have hn1:(vars.length:Int)≤n:=by omega
      have hn2:¬n<0:=by omega
      have hz2:∀i,refB vars i n=false:=by intro i;simp[refB,hv1]
      clear hn3;refine HT_sA ?_;refine(HT_cs rfl (fun h10=>?_) fun h10=>?_)
      · try simp only[BN]at h10
        have hz3:∀i,nodeB vars i o n ks.length=false:=by
         intro i;unfold nodeB;rw[hz,Bool.true_and,if_neg (by omega),if_pos h8,hz2]
        rw[hz3,Bool.false_and]at hres;refine HT_sA ?_;exact(HT_retE (fun h=>⟨.inr rfl,h⟩) _ (by simp[*];rfl) (by first|rfl|simp[*]) (by simp))
      exact absurd h10 (by simp)
    cases inp
    · have hn2:n<0:=by omega
      have hz2:∀i,refB vars i n=false:=by intro i;simp[refB,hn0]
      refine HT_sA ?_;refine(HT_cs rfl (fun h10=>?_) fun h10=>?_)
      · try simp only[BN]at h10
        have hz3:∀i,nodeB vars i o n ks.length=false:=by
         intro i;unfold nodeB;rw[hz,Bool.true_and,if_neg (by omega),if_pos h8,hz2]
        rw[hz3,Bool.false_and]at hres;refine HT_sA ?_;exact(HT_retE (fun h=>⟨.inr rfl,h⟩) _ (by simp[*];rfl) (by first|rfl|simp[*]) (by simp))
      exact absurd h10 (by simp)
    have hn2:n<0:=by omega
    have hz2:∀i,refB vars i n=false:=by intro i;simp[refB,hn0]
    refine HT_sA ?_;refine(HT_cs rfl (fun h10=>?_) fun h10=>?_)
    · try simp only[BN]at h10
      have hz3:∀i,nodeB vars i o n ks.length=false:=by
       intro i;unfold nodeB;rw[hz,Bool.true_and,if_neg (by omega),if_pos h8,hz2]
      rw[hz3,Bool.false_and]at hres;refine HT_sA ?_;exact(HT_retE (fun h=>⟨.inr rfl,h⟩) _ (by simp[*];rfl) (by first|rfl|simp[*]) (by simp))
    exact absurd h10 (by simp)
  (try simp only[BN]at h8);refine HT_sA ?_;refine(HT_cs rfl (fun h15=>?_) fun h15=>?_)
  · try simp only[BN]at h15
    have hz3:nodeB vars inp o n ks.length=false:=by
     unfold nodeB;rw[hz,Bool.true_and,if_neg (by omega),if_neg h8];simp only[decide_eq_false_iff_not];omega
    rw[hz3,Bool.false_and]at hres;refine HT_sA ?_;exact(HT_retE (fun h=>⟨.inr rfl,h⟩) _ (by simp[*];rfl) (by first|rfl|simp[*]) (by simp))
  try simp only[BN]at h15
  exact⟨(),by
   unfold nodeB;rw[hz,Bool.true_and];split
   · rfl
   simp only[decide_eq_true_eq]
   omega,le_mkA (fun n=>n) []⟩
 rintro z hz;simp only[upS,keepS,insS]
 try simp only[keepS,KN,Nat.reduceBEq,if_true,if_false,ins,Nat.reduceLT]
 rw[hz,Bool.true_and]at hres;refine HT_seq<|HT_seq<|HT_runA ?_;refine HT_block<|(HT_loopU [0,2,4] (fun(x:Nat)=>[(8,.v (li x))]) (fun x=>[(4,.box [.c (iC o),.c (iC n),.c (.sl 3 (encTs ks))])]) (fun x=>x≤ks.length∧formBs vars inp (ks.drop x)=res) (fun x=>ks.length - x) (0:Nat) ⟨Nat.zero_le _,hres⟩ ?_ ?_)
 · exact le_mkA (fun n=>n) []
 rintro k ⟨hk,hJ⟩;simp only[upS,keepS,insS]
 try simp only[keepS,KN,Nat.reduceBEq,if_true,if_false,ins,Nat.reduceLT]
 refine HT_seq<|HT_seq<|HT_runA ?_;refine(HT_cond rfl (fun h22=>HT_skip ?_) (fun h22=>?_))
 · (try simp only[BN]at h22);have hlt:k<ks.length:=by omega
   obtain⟨⟨eo,en,ek⟩,he,hd⟩:=at_lt hlt;have he':=get_encT he;simp only[Tm.enc]at he';have hw1:=wrap1 hlt (by omega);rw[hd]at hJ;simp only[formBs]at hJ;have hk1:k+1≤ks.length:=hlt;have hmem:Tm.mk eo en ek∈ks:=List.mem_of_getElem? he;clear hlt h22;refine HT_seq<|HT_block<|HT_seq<|(HT_runcA [⟨true,.v (lb (formB vars inp (.mk eo en ek))),none⟩] ?_ ?_)
   · first|exact ih' _ hmem _|exact trivial|simpa[*]using ih' _ hmem _
   refine(HT_cs rfl (fun h24=>?_) fun h24=>?_)
   · (try simp only[BN]at h24);rw[h24,Bool.false_and]at hJ;subst hJ;refine HT_sA ?_;exact(HT_retE (fun h=>⟨.inr rfl,h⟩) _ (by simp[*];rfl) (by first|rfl|simp[*]) (by simp))
   (try simp only[BN]at h24);rw[h24,Bool.true_and]at hJ;refine HT_runA ?_;exact⟨k+1,⟨hk1,hJ⟩,by omega,le_mkA (fun n=>n) []⟩
 (try simp only[BN]at h22);have hkl:k=ks.length:=by omega
 subst hkl;rw[List.drop_length]at hJ;simp only[formBs]at hJ;subst hJ;refine(HT_exit ?_);refine HT_sA ?_;exact(HT_retE (fun h=>⟨.inr rfl,h⟩) _ (by simp[*];rfl) (by first|rfl|simp[*]) (by simp))
end Go.Proofs.YtppjennamodfdaaGreat
