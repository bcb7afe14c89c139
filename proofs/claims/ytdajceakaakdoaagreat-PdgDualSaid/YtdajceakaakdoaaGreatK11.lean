/- Part 11: contracts of functions of the program and of the reference, and plain facts about what they compute; used by the proof of the claimed statement. Conditions: as each theorem states. -/
import Derived.Test.YtdajceakaakdoaaGreatK9
set_option linter.unusedSimpArgs false
set_option linter.unusedVariables false
set_option linter.unnecessarySimpa false
set_option maxRecDepth 100000
set_option maxHeartbeats 2000000
namespace Go.Proofs.YtdajceakaakdoaaGreat
open Go Go.Hl
structure Mk (N:Nat) (R:List Int) (y:Nat) (S:List Bool):Prop where
 len:S.length=N
 snd:∀n:Nat,S[n]? =some true→(n:Int)∈R
 base:∀x∈R.take y,S[x.toNat]? =some true
theorem Mk.init (N:Nat) (R:List Int):Mk N R 0 (List.replicate N false) where
 len:=by simp
 snd:=fun n h=>by have:=List.mem_of_getElem? h;simp at this
 base:=fun x hx=>by simp at hx
theorem Mk.add {N:Nat} {R:List Int} {y k:Nat} {S:List Bool} (h:Mk N R y S) (hx:R[y]? =some (k:Int)) (hk:k<N):Mk N R (y+1) (S.set k true) where
 len:=by rw[List.length_set];exact h.len
 snd:=fun n hn=>by
  rcases(WB (by rw[h.len];exact hk) n).1 hn with rfl|hn
  · exact List.mem_of_getElem? hx
  exact h.snd n hn
 base:=fun x hx2=>by
  rw[List.take_add_one,hx]at hx2;simp only[Option.toList_some,List.mem_append,List.mem_singleton]at hx2;refine(WB (by rw[h.len];exact hk) _).2 ?_;rcases hx2 with hx2|rfl
  · exact .inr (h.base x hx2)
  exact .inl (by simp)
theorem Mk.rn {N:Nat} {P:List (Int×Int)} {R:List Int} {S:List Bool} (h:Mk N R R.length S):Rn N P R S where
 len:=h.len
 snd:=fun n hn=>.base (h.snd n hn)
 base:=fun x hx=>h.base x (by rw[List.take_length];exact hx)
set_option maxHeartbeats 32000000 in
theorem X5E (ns nv:Int) (E:List Dp) (nodes:List Int) (back rel:Bool) (N:Nat) (hN:ns+nv+1=N) (n0:0≤ns) (v0:0≤nv) (hN2:N≤100000) (hl:E.length≤20000000) (hE:∀e∈E,(0≤e.f∧e.f<N)∧(0≤e.t∧e.t<N)) (hnl:nodes.length≤1000000) (hR:∀x∈nodes,0≤x∧x<N) (d:Nat):Con Tryz.prog 35 false [aPd ns nv E,lI nodes,lb back,lb rel] (.v (lBl (czL (prs back rel E) nodes N))) none d:=by
 have hP:=prs_in (back:=back) (rel:=rel) hE;obtain⟨P,hPP⟩:∃p,prs back rel E=p:=⟨_,rfl⟩
 have hmem:∀x∈E,(rel||decide (x.k≠2))=true→(if back=true then(x.t,x.f)else(x.f,x.t))∈P:=by
  intro x hx hr;rw[←hPP];exact X0G.2 ⟨x,hx,by simpa using hr,rfl⟩
 have hdone:=fun S0 S=>Ri.done (N:=N) (P:=P) (R:=nodes) (S0:=S0) (S:=S);have htk:=fun(y:Nat) (x:Dp) (hx:E[y]? =some x)=>X7G hx back rel;rw[hPP]at hP⊢;obtain⟨res,hres⟩:∃r,czL P nodes N=r:=⟨_,rfl⟩;simp only[hres]at hdone⊢;have hw1:IntKind.i64.wrap (ns+nv)=ns+nv:=Xc (by omega) (by omega);have hw2:IntKind.i64.wrap (ns+nv+1)=N:=by rw[hN];exact Xc (by omega) (by omega)
 have hwN:IntKind.i64.wrap (N:Int)=N:=Xc (by omega) (by omega);have hbig:(1:Int)*N≤281474976710656:=by omega
 have hbig2:(N:Int)≤281474976710656:=by omega
 have hmx:N≤maxLen:=by unfold maxLen;omega
 have hrep:=X60 N;have hmk0:=Mk.init N nodes;unfold aPd;refine X4 Tryz.func35 ?_;simp only[Tryz.f35];refine X2 ?_;refine X2 ?_;refine X0<|X0<|X1 ?_;refine X3<|(Xe [2,3,4,9,24,25] (fun(y:Nat×List Bool)=>[(26,.v (li y.1))]) (fun y=>[(4,.box [.c (iC ns),.c (iC nv),.c (.sl 3 (XV E))]),(23,.row 4 1 (ZU y.2))]) (fun y=>y.1≤nodes.length∧Mk N nodes y.1 y.2) (fun y=>nodes.length - y.1) (0,List.replicate N false) ⟨Nat.zero_le _,hmk0⟩ ?_ ?_)
 · exact X5 (fun n=>n) []
 rintro⟨y,S⟩ ⟨hy,hm⟩;simp only[upS,X6,XL]
 try simp only[X6,KN,Nat.reduceBEq,if_true,if_false,ins,Nat.reduceLT]
 simp only at hy hm;refine X2 ?_;refine X0<|(X9 rfl (fun h5=>Xd ?_) (fun h5=>?_))
 · (try simp only[BN]at h5);have hlt:y<nodes.length:=by omega
   have hw3:=XN hlt (by omega);obtain⟨x,hx,_⟩:=Xr hlt;obtain⟨x0,x1⟩:=hR x (List.mem_of_getElem? hx);obtain⟨k,rfl⟩:∃k:Nat,x=k:=⟨x.toNat,by omega⟩;have hkl:k+1≤S.length:=by rw[hm.len];omega
   obtain⟨b0,hb0,hd0⟩:=Xr (show k<S.length by omega);have hbe0:=QN hb0;clear hd0;have hm2:=hm.add hx (show k<N by omega);have hset:=X3l S k true;have hlt2:y+1≤nodes.length:=hlt;clear h5 hlt hm x1;refine X0<|X3<|X0<|X1 ?_;refine X1 ?_;refine X1 ?_;exact⟨(y+1,S.set k true),⟨hlt2,hm2⟩,by simp only;omega,X5 (fun n=>n) []⟩
 (try simp only[BN]at h5);obtain rfl:y=nodes.length:=by omega
 have hrn:=Mk.rn (P:=P) hm;clear h5 hm;refine(Xi ?_);refine X0<|X0<|X1 ?_;refine X3<|(Xe [2,3,4,9] (fun(y:Bool×List Bool)=>[(12,.v (lb y.1))]) (fun y=>[(4,.box [.c (iC ns),.c (iC nv),.c (.sl 3 (XV E))]),(23,.row 4 1 (ZU y.2))]) (fun y=>Rn N P nodes y.2∧(y.1=false→y.2=res)) (fun y=>2*cfS y.2+(if y.1=true then 1 else 0)) (true,S) ⟨hrn,fun h=>by cases h⟩ ?_ ?_)
 · exact X5 (fun n=>n) []
 rintro⟨g0,S0⟩ ⟨hr0,hf0⟩;simp only[upS,X6,XL]
 try simp only[X6,KN,Nat.reduceBEq,if_true,if_false,ins,Nat.reduceLT]
 simp only at hr0 hf0;refine X0<|X0<|X1 ?_;refine(X9 rfl (fun h13=>Xd ?_) (fun h13=>?_))
 · (try simp only[BN]at h13);have hg:g0=true:=by simpa using h13
   subst hg;clear h13 hf0;refine X3<|X0<|X1 ?_;refine X2 ?_;refine X3<|(Xe [2,3,4,9,36,37] (fun(y:Nat×Bool×List Bool)=>[(12,.v (lb y.2.1)),(38,.v (li y.1))]) (fun y=>[(4,.box [.c (iC ns),.c (iC nv),.c (.sl 3 (XV E))]),(23,.row 4 1 (ZU y.2.2))]) (fun y=>y.1≤E.length∧Ri N P nodes S0 y.2.2 y.2.1 (prs back rel (E.take y.1))) (fun y=>E.length - y.1) (0,false,S0) ⟨Nat.zero_le _,hr0,Nat.le_refl _,fun h=>(by cases h),fun _=>⟨rfl,fun a b hab=>by simp[prs]at hab⟩⟩ ?_ ?_)
   · exact X5 (fun n=>n) []
   rintro⟨i,g,S1⟩ ⟨hi,hj⟩;simp only[upS,X6,XL]
   try simp only[X6,KN,Nat.reduceBEq,if_true,if_false,ins,Nat.reduceLT]
   simp only at hi hj;refine X2 ?_;refine X0<|(X9 rfl (fun h18=>Xd ?_) (fun h18=>?_))
   · (try simp only[BN]at h18);have hlt:i<E.length:=by omega
     have hw3:=XN hlt (by omega);obtain⟨x,hx,_⟩:=Xr hlt;have hxe:=Wc hx;have htp:=htk i x hx;have hmm:=hmem x (List.mem_of_getElem? hx);obtain⟨⟨f0,f1⟩,t0,t1⟩:=hE x (List.mem_of_getElem? hx);obtain⟨xf,xt,xk⟩:=x;simp only at f0 f1 t0 t1 htp hmm;obtain⟨f,rfl⟩:∃f:Nat,xf=f:=⟨xf.toNat,by omega⟩;obtain⟨t,rfl⟩:∃t:Nat,xt=t:=⟨xt.toNat,by omega⟩;simp only[Dp.enc]at hxe;have hlt2:i+1≤E.length:=hlt;clear h18 hlt;refine X0<|X3<|X0<|X1 ?_;refine X0<|(QH (by kernel_rfl) (by kernel_rfl) (by rfl) (by simp[*];rfl) ?_);refine(Qe [2,3,4,9,12,14,36,37,38] (fun(q:Nat×Nat)=>[(15,.v (li q.1)),(16,.v (li q.2))]) (fun(q:Nat×Nat)=>[(4,.box [.c (iC ns),.c (iC nv),.c (.sl 3 (XV E))]),(14,.box [.c (iC f),.c (iC t),.c (iC xk)]),(23,.row 4 1 (ZU S1))]) (fun(q:Nat×Nat)=>q=if back=true then(t,f)else(f,t)) ?_ ?_)
     ·
      refine X2 ?_;refine(Xb rfl (fun h23=>?_) fun h23=>?_)
      · (try simp only[BN]at h23);have hb:back=true:=by simpa using h23
        refine X1 ?_;exact⟨(t,f),by rw[if_pos hb],X5 (fun n=>n) []⟩
      (try simp only[BN]at h23);have hb:¬back=true:=by simpa using h23
      exact⟨(f,t),by rw[if_neg hb],X5 (fun n=>n) []⟩
     rintro⟨a,b⟩ hq;simp only[upS,X6,XL]
     try simp only[X6,KN,Nat.reduceBEq,if_true,if_false,ins,Nat.reduceLT]
     have hab:(if back=true then((t:Int),(f:Int))else((f:Int),(t:Int)))=((a:Int),(b:Int)):=by
      cases back
      · simp only[Bool.false_eq_true,if_false]at hq⊢;cases hq;rfl
      simp only[if_true]at hq⊢;cases hq;rfl
     rw[hab]at htp hmm
     have haN:a<N∧b<N:=by
      cases back
      · simp only[Bool.false_eq_true,if_false]at hq;cases hq;omega
      simp only[if_true]at hq;cases hq;omega
     obtain⟨A,hA,_⟩:=Xr (show a<S1.length by rw[hj.rn.len];exact haN.1);obtain⟨B,hB,_⟩:=Xr (show b<S1.length by rw[hj.rn.len];exact haN.2);have hAe:=QN hA;have hBe:=QN hB;have hbl:b+1≤S1.length:=by rw[hj.rn.len];omega
     have hset:=X3l S1 b true;clear hq hab haN f1 t1;refine X2 ?_;refine(Xb rfl (fun h28=>?_) fun h28=>?_)
     · (try simp only[BN]at h28);have hu:(A=true∧B=false)∧(rel||decide (xk≠2))=true:=by simpa using h28
       obtain⟨⟨hA1,hB1⟩,hu⟩:=hu;subst hA1;subst hB1;have hj2:=hj.add (Q':=prs back rel (E.take (i+1))) hP (hmm hu) (by simpa using hA) (by simpa using hB);simp only[Int.toNat_natCast]at hj2;clear hj;refine X2 ?_;refine X1 ?_;refine X1 ?_;exact⟨(i+1,true,S1.set b true),⟨hlt2,hj2⟩,by simp only;omega,X5 (fun n=>n) []⟩
     try simp only[BN]at h28
     have hj2:Ri N P nodes S0 S1 g (prs back rel (E.take (i+1))):=by
      refine hj.mono fun a' b' hab'=>?_;rw[htp]at hab';rcases List.mem_append.1 hab' with h1|h1
      · exact .inl h1
      right;split at h1
      · rename_i hu;rw[List.mem_singleton]at h1;cases h1
        have hu2:¬(A=true∧B=false):=by
         rintro⟨e1,e2⟩;rcases h28 with(h|h)|h
         · rw[e1]at h;cases h
         · rw[e2]at h;cases h
         rw[h.1,h.2]at hu;simp at hu
        simp only[Int.toNat_natCast,hA,hB];cases A<;>cases B<;>simp_all
      cases h1
     clear hj;refine X1 ?_;exact⟨(i+1,g,S1),⟨hlt2,hj2⟩,by simp only;omega,X5 (fun n=>n) []⟩
   (try simp only[BN]at h18);obtain rfl:i=E.length:=by omega
   rw[List.take_length,hPP]at hj;have hrn1:=hj.rn;have hle1:=hj.le;have hup1:=hj.up;have hfin1:g=false→S1=res:=fun e=>by subst e;exact hdone S0 S1 hj
   clear h18 hj;refine(Xi ?_)
   exact⟨(g,S1),⟨hrn1,hfin1⟩,by
    simp only;cases g
    · simp;omega
    have:=hup1 rfl
    simp;omega,X5 (fun n=>n) []⟩
 (try simp only[BN]at h13);have hg:g0=false:=by simpa using h13
 have hS:=hf0 hg;subst hS;refine(Xi ?_);refine XD (Qr 23 rfl) ?_;refine X2 ?_;exact Xf
end Go.Proofs.YtdajceakaakdoaaGreat

namespace Go.Proofs.YtdajceakaakdoaaGreat
open Go Go.Hl
def wkC (N:Int) (w:Int):List Int→Int
 |[]=>w
 |x::l=>wkC N (if w=0∧¬(0≤x∧x<N)then 3 else w) l
theorem wkC_ne {N w:Int} (h:w≠0):∀l,wkC N w l=w
 |[]=>rfl
 |x::l=>by rw[wkC,if_neg fun h1=>h h1.1,wkC_ne h l]
theorem X8v {N:Int}:∀l:List Int,wkC N 0 l=if ZR N l=true then 0 else 3
 |[]=>rfl
 | x ::l=>by
   rw[wkC];by_cases h:0≤x∧x<N
   · rw[if_neg fun h1=>h1.2 h,X8v l];have:ZR N (x::l)=ZR N l:=by simp[ZR,h.1,h.2]
     rw[this]
   rw[if_pos ⟨rfl,h⟩,wkC_ne (by decide)]
   have:ZR N (x::l)=false:=by
    rw[←Bool.not_eq_true];intro h2;exact h (X5e h2 x (by simp))
   rw[this];rfl
set_option maxHeartbeats 32000000 in
theorem X7g (ns nv :Int) (E:List Dp) (nodes:List Int) (d:Nat):Con Tryz.prog 8 true [aPd ns nv E,lI nodes] (.v (lb true)) none d:=by
 have ck:=X1n;have cf:=X5D ns nv E;by_cases hfew:((decide (ns≤60)&&decide (nv≤40))&&decide ((E.length:Int)≤300))=true
 · rw [hfew] at cf;have hfew2:=hfew;simp only[Bool.and_eq_true,decide_eq_true_eq]at hfew2;by_cases hnl:nodes.length≤20
   · have cr := X59 ns nv E (by omega);have cB:=X84 ns nv E nodes (by omega) (by omega);have cF:=X5N ns nv E nodes (by omega) (by omega);unfold wkR at cB cF;by_cases h0:chF ns nv E=0
     · obtain ⟨⟨n0, n1⟩, v0,v1⟩:=X5p (X86 h0);obtain⟨N,hN⟩:∃N:Nat,ns+nv+1=N:=⟨(ns+nv+1).toNat,by omega⟩;have hEi:=ch_in hN h0;have hw1:IntKind.i64.wrap (ns+nv)=ns+nv:=Xc (by omega) (by omega);simp only[h0,if_true,true_and,hN,Int.toNat_natCast]at cr cB cF;have hz:=X8v (N:=(N:Int)) nodes;have hmem:=X5e (N:=(N:Int)) (l:=nodes);obtain⟨B,hB⟩:∃b,ZR (N:Int) nodes=b:=⟨_,rfl⟩;rw[hB]at hz hmem cB cF;have c1:=fun hR=>X5E ns nv E nodes true true N hN n0 v0 (by omega) (by omega) hEi (by omega) hR;have c2:=fun hR=>X5E ns nv E nodes false true N hN n0 v0 (by omega) (by omega) hEi (by omega) hR;obtain⟨X,hX⟩:∃z,czL (prs true true E) nodes N=z:=⟨_,rfl⟩;obtain⟨Y,hY⟩:∃z,czL (prs false true E) nodes N=z:=⟨_,rfl⟩;have hXl:X.length=N:=by rw[←hX,X0M]
       have hYl:Y.length=N:=by rw[←hY,X0M]
       rw[hX]at cB c1;rw[hY]at cF c2;have e1:=X7v X X (by omega) (by omega);have e2:=X7v Y Y (by omega) (by omega);simp only[decide_true]at e1 e2;clear hfew hEi hX hY h0 hB hXl hYl;unfold aPd at*;cases B with
       | true=>
         simp only[if_true]at cB cF hz;have c1:=c1 (hmem rfl);have c2:=c2 (hmem rfl);have hm:=hmem rfl;clear hz hmem;refine X4 Tryz.func8 ?_;simp only[Tryz.f8];refine X2 ?_;refine X0<|X0<|(Xm [⟨false,.v (lb true),none⟩] ?_ ?_)
         · first|exact ck _|exact trivial|simpa[*]using ck _
         refine(Xb rfl (fun h2=>?_) fun h2=>?_)
         · exact absurd h2 (by simp)
         (try simp only[BN]at h2);refine X0<|X0<|(Xm [⟨true,.v (lb true),none⟩] ?_ ?_)
         · first|exact cf _|exact trivial|simpa[*]using cf _
         refine(Xb rfl (fun h6=>?_) fun h6=>?_)
         · exfalso;simp at h6<;>omega
         (try simp only[BN]at h6);refine Xp [⟨false,.tup [lBl X,li 0],none⟩] ?_ ?_
         · first|exact cB _|exact trivial|simpa[*]using cB _
         refine Xp [⟨false,.tup [lBl Y,li 0],none⟩] ?_ ?_
         · first|exact cF _|exact trivial|simpa[*]using cF _
         refine Xp [⟨true,.v (li 0),none⟩] ?_ ?_
         · first|exact cr _|exact trivial|simpa[*]using cr _
         refine(Qe [1,2,5,6,7,8] (fun(z:Int)=>[(9,.v (li z))]) (fun(z:Int)=>[(2,.box [.c (iC ns),.c (iC nv),.c (.sl 3 (XV E))])]) (fun(z:Int)=>z=0) ?_ ?_)
         ·
          refine X2 ?_;refine(Xb rfl (fun h14=>?_) fun h14=>?_)
          · exact absurd h14 (by simp)
          (try simp only[BN]at h14);exact⟨0,rfl,X5 (fun n=>n) []⟩
         rintro z hz;simp only[upS,X6,XL]
         try simp only[X6,KN,Nat.reduceBEq,if_true,if_false,ins,Nat.reduceLT]
         subst hz;refine X0<|X0<|X1 ?_;refine X3<|(Xe [1,2,5,6,7,8,38,39] (fun(y:Nat)=>[(9,.v (li 0)),(40,.v (li y))]) (fun y=>[(2,.box [.c (iC ns),.c (iC nv),.c (.sl 3 (XV E))])]) (fun y=>y≤nodes.length) (fun y=>nodes.length - y) (0:Nat) (Nat.zero_le _) ?_ ?_)
         · exact X5 (fun n=>n) []
         rintro y hy;simp only[upS,X6,XL]
         try simp only[X6,KN,Nat.reduceBEq,if_true,if_false,ins,Nat.reduceLT]
         refine X2 ?_;refine X0<|(X9 rfl (fun h21=>Xd ?_) (fun h21=>?_))
         · (try simp only[BN]at h21);have hlt:y<nodes.length:=by omega
           have hw3:=XN hlt (by omega);obtain⟨x,hx,_⟩:=Xr hlt;have hxr:=hm x (List.mem_of_getElem? hx);have hlt2:y+1≤nodes.length:=hlt;clear h21 hlt;refine X0<|X3<|X0<|X1 ?_;refine X2 ?_;refine(Xb rfl (fun h24=>?_) fun h24=>?_)
           · exfalso;simp at h24<;>omega
           (try simp only[BN]at h24);refine X1 ?_;exact⟨y+1,hlt2,by omega,X5 (fun n=>n) []⟩
         (try simp only[BN]at h21);refine(Xi ?_);refine X0<|X0<|X1 ?_;refine(Xb rfl (fun h31=>?_) fun h31=>?_)
         · exact absurd h31 (by simp)
         (try simp only[BN]at h31);refine Xp [⟨false,.v (lBl X),none⟩,⟨true,.v (lb true),none⟩,⟨false,.v (lBl Y),none⟩,⟨true,.v (lb true),none⟩] ?_ ?_
         · first|exact⟨c1 _,e1 _,c2 _,e2 _⟩|exact trivial|(repeat' first|exact trivial|exact c1 _|exact e1 _|exact c2 _|exact e2 _|apply And.intro)
         exact Xf
       | false=>
         simp only[Bool.false_eq_true,if_false]at cB cF hz;clear hmem c1 c2 e1 e2;refine X4 Tryz.func8 ?_;simp only[Tryz.f8];refine X2 ?_;refine X0<|X0<|(Xm [⟨false,.v (lb true),none⟩] ?_ ?_)
         · first|exact ck _|exact trivial|simpa[*]using ck _
         refine(Xb rfl (fun h2=>?_) fun h2=>?_)
         · exact absurd h2 (by simp)
         (try simp only[BN]at h2);refine X0<|X0<|(Xm [⟨true,.v (lb true),none⟩] ?_ ?_)
         · first|exact cf _|exact trivial|simpa[*]using cf _
         refine(Xb rfl (fun h6=>?_) fun h6=>?_)
         · exfalso;simp at h6<;>omega
         (try simp only[BN]at h6);refine Xp [⟨false,.tup [.one (.c (.lit XO)),li 3],none⟩] ?_ ?_
         · first|exact cB _|exact trivial|simpa[*]using cB _
         refine Xp [⟨false,.tup [.one (.c (.lit XO)),li 3],none⟩] ?_ ?_
         · first|exact cF _|exact trivial|simpa[*]using cF _
         refine Xp [⟨true,.v (li 0),none⟩] ?_ ?_
         · first|exact cr _|exact trivial|simpa[*]using cr _
         refine(Qe [1,2,5,6,7,8] (fun(z:Int)=>[(9,.v (li z))]) (fun(z:Int)=>[(2,.box [.c (iC ns),.c (iC nv),.c (.sl 3 (XV E))])]) (fun(z:Int)=>z=0) ?_ ?_)
         ·
          refine X2 ?_;refine(Xb rfl (fun h14=>?_) fun h14=>?_)
          · exact absurd h14 (by simp)
          (try simp only[BN]at h14);exact⟨0,rfl,X5 (fun n=>n) []⟩
         rintro z hz0;simp only[upS,X6,XL]
         try simp only[X6,KN,Nat.reduceBEq,if_true,if_false,ins,Nat.reduceLT]
         subst hz0;refine X0<|X0<|X1 ?_;refine X3<|(Xe [1,2,5,6,7,8,38,39] (fun(y:Nat×Int)=>[(9,.v (li y.2)),(40,.v (li y.1))]) (fun y=>[(2,.box [.c (iC ns),.c (iC nv),.c (.sl 3 (XV E))])]) (fun y=>y.1≤nodes.length∧wkC (N:Int) y.2 (nodes.drop y.1)=3) (fun y=>nodes.length - y.1) (0,0) ⟨Nat.zero_le _,hz⟩ ?_ ?_)
         · exact X5 (fun n=>n) []
         rintro⟨y,w⟩ ⟨hy,hj⟩;simp only[upS,X6,XL]
         try simp only[X6,KN,Nat.reduceBEq,if_true,if_false,ins,Nat.reduceLT]
         simp only at hy hj;refine X2 ?_;refine X0<|(X9 rfl (fun h21=>Xd ?_) (fun h21=>?_))
         · (try simp only[BN]at h21);have hlt:y<nodes.length:=by omega
           have hw3:=XN hlt (by omega);obtain⟨x,hx,hdr⟩:=Xr hlt;rw[hdr,wkC]at hj;have hlt2:y+1≤nodes.length:=hlt;clear h21 hlt hdr;refine X0<|X3<|X0<|X1 ?_;refine X2 ?_;refine(Xb rfl (fun h24=>?_) fun h24=>?_)
           · try simp only[BN]at h24
             rw [if_pos (by try simp at h24
                            omega)]at hj
             refine X1 ?_;refine X1 ?_;exact⟨(y+1,3),⟨hlt2,hj⟩,by simp only;omega,X5 (fun n=>n) []⟩
           try simp only[BN]at h24
           rw [if_neg (by try simp at h24
                          omega)]at hj
           refine X1 ?_;exact⟨(y+1,w),⟨hlt2,hj⟩,by simp only;omega,X5 (fun n=>n) []⟩
         (try simp only[BN]at h21);rw[List.drop_eq_nil_of_le (by omega),wkC]at hj;subst hj;refine(Xi ?_);refine X0<|X0<|X1 ?_;refine(Xb rfl (fun h31=>?_) fun h31=>?_)
         · (try simp only[BN]at h31);refine X2 ?_;exact Xf
         exact absurd h31 (by simp)
     obtain⟨C,hC⟩:∃x,chF ns nv E=x:=⟨_,rfl⟩;rw[hC]at h0;simp only[hC,if_neg h0,h0,false_and,if_false]at cB cF cr;clear hC;unfold aPd at*;refine X4 Tryz.func8 ?_;simp only[Tryz.f8];refine X2 ?_;refine X0<|X0<|(Xm [⟨false,.v (lb true),none⟩] ?_ ?_)
     · first|exact ck _|exact trivial|simpa[*]using ck _
     refine(Xb rfl (fun h2=>?_) fun h2=>?_)
     · exact absurd h2 (by simp)
     (try simp only[BN]at h2);refine X0<|X0<|(Xm [⟨true,.v (lb true),none⟩] ?_ ?_)
     · first|exact cf _|exact trivial|simpa[*]using cf _
     refine(Xb rfl (fun h6=>?_) fun h6=>?_)
     · exfalso;simp at h6<;>omega
     (try simp only[BN]at h6);refine Xp [⟨false,.tup [.one (.c (.lit XO)),li 1],none⟩] ?_ ?_
     · first|exact cB _|exact trivial|simpa[*]using cB _
     refine Xp [⟨false,.tup [.one (.c (.lit XO)),li 1],none⟩] ?_ ?_
     · first|exact cF _|exact trivial|simpa[*]using cF _
     refine Xp [⟨true,.v (li C),none⟩] ?_ ?_
     · first|exact cr _|exact trivial|simpa[*]using cr _
     refine(Qe [1,2,5,6,7,8] (fun(z:Int)=>[(9,.v (li z))]) (fun(z:Int)=>[(2,.box [.c (iC ns),.c (iC nv),.c (.sl 3 (XV E))])]) (fun(z:Int)=>z=1) ?_ ?_)
     ·
      refine X2 ?_;refine(Xb rfl (fun h14=>?_) fun h14=>?_)
      · (try simp only[BN]at h14);refine X1 ?_;exact⟨1,rfl,X5 (fun n=>n) []⟩
      exact absurd (by simpa using h14) h0
     rintro z hz0;simp only[upS,X6,XL]
     try simp only[X6,KN,Nat.reduceBEq,if_true,if_false,ins,Nat.reduceLT]
     subst hz0;refine X0<|X0<|X1 ?_;refine X3<|(Xe [1,2,5,6,7,8,38,39] (fun(y:Nat)=>[(9,.v (li 1)),(40,.v (li y))]) (fun y=>[(2,.box [.c (iC ns),.c (iC nv),.c (.sl 3 (XV E))])]) (fun y=>y≤nodes.length) (fun y=>nodes.length - y) (0:Nat) (Nat.zero_le _) ?_ ?_)
     · exact X5 (fun n=>n) []
     rintro y hy;simp only[upS,X6,XL]
     try simp only[X6,KN,Nat.reduceBEq,if_true,if_false,ins,Nat.reduceLT]
     refine X2 ?_;refine X0<|(X9 rfl (fun h21=>Xd ?_) (fun h21=>?_))
     · (try simp only[BN]at h21);have hlt:y<nodes.length:=by omega
       have hw3:=XN hlt (by omega);obtain⟨x,hx,_⟩:=Xr hlt;have hlt2:y+1≤nodes.length:=hlt;clear h21 hlt;refine X0<|X3<|X0<|X1 ?_;refine X2 ?_;refine(Xb rfl (fun h24=>?_) fun h24=>?_)
       · exact absurd h24 (by simp)
       (try simp only[BN]at h24);refine X1 ?_;exact⟨y+1,hlt2,by omega,X5 (fun n=>n) []⟩
     (try simp only[BN]at h21);refine(Xi ?_);refine X0<|X0<|X1 ?_;refine(Xb rfl (fun h31=>?_) fun h31=>?_)
     · (try simp only[BN]at h31);refine X2 ?_;exact Xf
     exact absurd h31 (by simp)
   unfold aPd at*;refine X4 Tryz.func8 ?_;simp only[Tryz.f8];refine X2 ?_;refine X0<|X0<|(Xm [⟨false,.v (lb true),none⟩] ?_ ?_)
   · first|exact ck _|exact trivial|simpa[*]using ck _
   refine(Xb rfl (fun h2=>?_) fun h2=>?_)
   · exact absurd h2 (by simp)
   (try simp only[BN]at h2);refine X0<|X0<|(Xm [⟨true,.v (lb true),none⟩] ?_ ?_)
   · first|exact cf _|exact trivial|simpa[*]using cf _
   refine(Xb rfl (fun h6=>?_) fun h6=>?_)
   · (try simp only[BN]at h6);refine X2 ?_;exact Xf
   exfalso;simp at h6<;>omega
 have hfew:((decide (ns≤60)&&decide (nv≤40))&&decide ((E.length:Int)≤300))=false:=by simpa using hfew
 rw[hfew]at cf;unfold aPd at*;refine X4 Tryz.func8 ?_;simp only[Tryz.f8];refine X2 ?_;refine X0<|X0<|(Xm [⟨false,.v (lb true),none⟩] ?_ ?_)
 · first|exact ck _|exact trivial|simpa[*]using ck _
 refine(Xb rfl (fun h2=>?_) fun h2=>?_)
 · exact absurd h2 (by simp)
 (try simp only[BN]at h2);refine X0<|X0<|(Xm [⟨true,.v (lb false),none⟩] ?_ ?_)
 · first|exact cf _|exact trivial|simpa[*]using cf _
 refine(Xb rfl (fun h6=>?_) fun h6=>?_)
 · (try simp only[BN]at h6);refine X2 ?_;exact Xf
 exact absurd h6 (by simp)
end Go.Proofs.YtdajceakaakdoaaGreat

namespace Go.Proofs.YtdajceakaakdoaaGreat
open Go Go.Hl
theorem one_eq (b:Int):(fun x:Int=>x∈[b])=fun n=>n=b:=by funext x;simp
theorem czL_dual {E:List Dp} {rel:Bool} {N a b:Nat} (ha:a<N) (hb:b<N):(czL (prs true rel E) [(b:Int)] N)[a]? =some true↔(czL (prs false rel E) [(a:Int)] N)[b]? =some true:=by
 rw[X30 ha,X30 hb,one_eq,one_eq];exact⟨cz_dual,cz_dual'⟩
set_option maxHeartbeats 32000000 in
theorem X98 (ns nv:Int) (E:List Dp) (a b:Int) (d:Nat):Con Tryz.prog 9 true [aPd ns nv E,li a,li b] (.v (lb true)) none d:=by
 have ck:=X1n;have cf:=X5D ns nv E;by_cases hfew:((decide (ns≤60)&&decide (nv≤40))&&decide ((E.length:Int)≤300))=true
 · rw [hfew]at cf;have hfew2:=hfew;simp only[Bool.and_eq_true,decide_eq_true_eq]at hfew2;have cr:=X59 ns nv E (by omega);by_cases h0:chF ns nv E=0
   · obtain⟨⟨n0,n1⟩,v0,v1⟩:=X5p (X86 h0);obtain⟨N,hN⟩:∃N:Nat,ns+nv+1=N:=⟨(ns+nv+1).toNat,by omega⟩;have hw1:IntKind.i64.wrap (ns+nv)=ns+nv:=Xc (by omega) (by omega);have hw2:IntKind.i64.wrap (ns+nv+1)=N:=by rw[hN];exact Xc (by omega) (by omega)
     have hwN:IntKind.i64.wrap (N:Int)=N:=Xc (by omega) (by omega);by_cases hab:(0≤a∧a≤ns+nv)∧(0≤b∧b≤ns+nv)
     · obtain⟨a,rfl⟩:∃n:Nat,a=n:=⟨a.toNat,by omega⟩;obtain⟨b,rfl⟩:∃n:Nat,b=n:=⟨b.toNat,by omega⟩;have cB:=X84 ns nv E [(b:Int)] (by omega) (by simp);have cF:=X5N ns nv E [(a:Int)] (by omega) (by simp);unfold wkR at cB cF;have hbn:ZR (N:Int) [(b:Int)]=true:=by simp[ZR];omega
       have han:ZR (N:Int) [(a:Int)]=true:=by simp[ZR];omega
       simp only[h0,hN,hbn,han,and_self,if_true,Int.toNat_natCast]at cr cB cF;have hd:=czL_dual (E:=E) (rel:=true) (N:=N) (a:=a) (b:=b) (by omega) (by omega);have hxb:=(X30 (P:=prs true true E) (R:=[(b:Int)]) (show b<N by omega)).2 (.base (by simp));have hya:=(X30 (P:=prs false true E) (R:=[(a:Int)]) (show a<N by omega)).2 (.base (by simp));have hXl:(czL (prs true true E) [(b:Int)] N).length=N:=X0M ..;have hYl:(czL (prs false true E) [(a:Int)] N).length=N:=X0M ..;obtain⟨X,hX⟩:∃z,czL (prs true true E) [(b:Int)] N=z:=⟨_,rfl⟩;obtain⟨Y,hY⟩:∃z,czL (prs false true E) [(a:Int)] N=z:=⟨_,rfl⟩;rw[hX]at cB hd hxb hXl;rw[hY]at cF hd hya hYl;obtain⟨p,hp,hp2⟩:=Xr (show a<X.length by omega);obtain⟨q,hq,hq2⟩:=Xr (show b<Y.length by omega)
       have hpq:p=q:=by
        rw[hp,hq]at hd;cases p<;>cases q<;>simp_all
       subst hpq;have e1:=QN hp;have e2:=QN hq;have e3:=QN hxb;have e4:=QN hya;have hna:Xg [(a:Int)]=[[iC (a:Int)]]:=rfl;have hnb:Xg [(b:Int)]=[[iC (b:Int)]]:=rfl;simp only[lI,hna,hnb]at cB cF;have k1:¬(a:Int)<0:=by omega
       have k2:¬(b:Int)<0:=by omega
       have k3:¬ns+nv<(a:Int):=by omega
       have k4:¬ns+nv<(b:Int):=by omega
       have hnp:ns+nv+1=(N:Int):=hN;clear hd hX hY hp hq hp2 hq2 hxb hya h0 hfew hbn han hab hN;unfold aPd at*;refine X4 Tryz.func9 ?_;simp only[Tryz.f9];refine X2 ?_;refine X0<|X0<|(Xm [⟨false,.v (lb true),none⟩] ?_ ?_)
       · first|exact ck _|exact trivial|simpa[*]using ck _
       refine(Xb rfl (fun h2=>?_) fun h2=>?_)
       · exact absurd h2 (by simp)
       (try simp only[BN]at h2);refine X0<|X0<|(Xm [⟨true,.v (lb true),none⟩,⟨true,.v (li 0),none⟩] ?_ ?_)
       · first|exact⟨cf _,cr _⟩|exact trivial|(repeat' first|exact trivial|exact cf _|exact cr _|apply And.intro)
       refine(Xb rfl (fun h6=>?_) fun h6=>?_)
       · exact Bool.noConfusion h6
       (try simp only[BN]at h6);refine X0<|(X4l 3 [] [⟨false,.tup [lBl X,li 0],none⟩] (by simp[*];rfl) trivial (Qr 50 rfl) (by simp[*];first|exact⟨rfl,Iff.rfl⟩|exact⟨rfl,trivial⟩|rfl) ?_ ?_)
       · first|exact cB _|simpa using cB _
       refine X0<|(X4l 3 [] [⟨false,.tup [lBl Y,li 0],none⟩] (by simp[*];rfl) trivial (Qr 57 rfl) (by simp[*];first|exact⟨rfl,Iff.rfl⟩|exact⟨rfl,trivial⟩|rfl) ?_ ?_)
       · first|exact cF _|simpa using cF _
       refine X0<|(QH (by kernel_rfl) (by kernel_rfl) (by rfl) (by simp[*];rfl) ?_);exact Xf
     simp only[h0]at cr;clear hwN hw2 h0;unfold aPd at*;refine X4 Tryz.func9 ?_;simp only[Tryz.f9];refine X2 ?_;refine X0<|X0<|(Xm [⟨false,.v (lb true),none⟩] ?_ ?_)
     · first|exact ck _|exact trivial|simpa[*]using ck _
     refine(Xb rfl (fun h2=>?_) fun h2=>?_)
     · exact absurd h2 (by simp)
     (try simp only[BN]at h2);refine X0<|X0<|(Xm [⟨true,.v (lb true),none⟩,⟨true,.v (li 0),none⟩] ?_ ?_)
     · first|exact⟨cf _,cr _⟩|exact trivial|(repeat' first|exact trivial|exact cf _|exact cr _|apply And.intro)
     refine(Xb rfl (fun h6=>?_) fun h6=>?_)
     · (try simp only[BN]at h6);refine X2 ?_;exact Xf
     exfalso;simp at h6<;>omega
   obtain⟨C,hC⟩:∃x,chF ns nv E=x:=⟨_,rfl⟩;rw[hC]at h0 cr;clear hC;unfold aPd at*;refine X4 Tryz.func9 ?_;simp only[Tryz.f9];refine X2 ?_;refine X0<|X0<|(Xm [⟨false,.v (lb true),none⟩] ?_ ?_)
   · first|exact ck _|exact trivial|simpa[*]using ck _
   refine(Xb rfl (fun h2=>?_) fun h2=>?_)
   · exact absurd h2 (by simp)
   (try simp only[BN]at h2);refine X0<|X0<|(Xm [⟨true,.v (lb true),none⟩,⟨true,.v (li C),none⟩] ?_ ?_)
   · first|exact⟨cf _,cr _⟩|exact trivial|(repeat' first|exact trivial|exact cf _|exact cr _|apply And.intro)
   refine(Xb rfl (fun h6=>?_) fun h6=>?_)
   · (try simp only[BN]at h6);refine X2 ?_;exact Xf
   exact absurd h6 (by simp[h0])
 have hfew:((decide (ns≤60)&&decide (nv≤40))&&decide ((E.length:Int)≤300))=false:=by simpa using hfew
 rw[hfew]at cf;unfold aPd at*;refine X4 Tryz.func9 ?_;simp only[Tryz.f9];refine X2 ?_;refine X0<|X0<|(Xm [⟨false,.v (lb true),none⟩] ?_ ?_)
 · first|exact ck _|exact trivial|simpa[*]using ck _
 refine(Xb rfl (fun h2=>?_) fun h2=>?_)
 · exact absurd h2 (by simp)
 (try simp only[BN]at h2);refine X0<|X0<|(X8r [some ⟨true,.v (lb false),none⟩,none] (by simp[*];first|exact⟨rfl,Iff.rfl⟩|exact⟨rfl,trivial⟩|rfl) ?_ ?_)
 · first|exact trivial|exact cf _|simpa using cf _
 refine(Xb rfl (fun h6=>?_) fun h6=>?_)
 · (try simp only[BN]at h6);refine X2 ?_;exact Xf
 exact absurd h6 (by simp)
end Go.Proofs.YtdajceakaakdoaaGreat
