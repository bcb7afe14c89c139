/- Contracts of functions and plain facts about what they compute. Conditions: as each theorem states. -/
import Derived.Test.YtdajceakaakdoaaGreatB20
import Derived.Test.YtdajceakaakdoaaGreatB18
import Derived.Test.YtdajceakaakdoaaGreatB13
set_option linter.unusedSimpArgs false
set_option linter.unusedVariables false
set_option linter.unnecessarySimpa false
set_option maxRecDepth 100000
set_option maxHeartbeats 2000000
namespace Go.Hl
open Go Go.RowKit
section
variable {P:Program} {k:Nat} {t:TypeId} {ds:List CD}
theorem tvOf_one {d:CD} (ha:aggT P t=false):tvOf P t [d]=.one (.c d):=by
 unfold tvOf;rw[N7 (by simp[ha])]
end
end Go.Hl
namespace Go.Proofs.YtdajceakaakdoaaGreat
open Go Go.Hl
theorem findR_con (l:List St):Xh l<=1000000->∀(i:Int) (s:St),0<=i->i<=5000000->Zr l i=some s->∀d:Nat,Con Tryz.prog 27 false [lS l,li i] (.tup [aS s,lb true]) none d:=by
 revert l
 apply St.lists;intro l ih hn i s hi0 hi1 hf d;have hlen:=Qm l;have hneg:¬i<0:=by omega
 obtain⟨rd,rc,rv,rn,⟨ro,rtn,rks⟩,ra,rb,rbs⟩:=s;refine X6 Tryz.func27 ?_;simp only[Tryz.f27];simp only[aS,St.enc,Tm.enc,Ni,Nr,List.cons_append,List.nil_append];refine X1 ?_;refine X0<|X0<|X2 ?_;refine(Xc rfl (fun h2=>?_) fun h2=>?_)
 .exact absurd h2 (by simp[hneg])
 (try simp only[BN]at h2);refine X0<|X0<|X2 ?_;refine X3<|(Xd [0,4] (fun(x:Nat×Int)=>[(1,.v (li x.2)),(6,.v (li x.1))]) (fun x=>[(4,.box [.c (iC 0),.c (iC 0),.c (iC 0),.c (iC 0),.c (iC 0),.c (iC 0),.c (.lit XY),.c (.lit XY),.c (.lit XY),.c (.lit XY)])]) (fun x=>x.1<=l.length/\Zr (l.drop x.1) x.2=some (.mk rd rc rv rn (.mk ro rtn rks) ra rb rbs)/\0<=x.2/\x.2<=5000000) (fun x=>l.length - x.1) (0,i) ⟨Nq _,hf,hi0,hi1⟩ ?_ ?_)
 .exact X4 (fun n=>n) []
 rintro⟨k,c⟩ ⟨hk,hJ,hc0,hc1⟩;simp only[upS,X5,Xy]
 try simp only[X5,KN,Nat.reduceBEq,Nf,Nc,ins,Nat.reduceLT]
 simp only at hk hJ hc0 hc1;clear hf hi0 hi1 hneg h2;refine X0<|X0<|X2 ?_;refine(X8 rfl (fun h8=>Xb ?_) (fun h8=>?_))
 ·(try simp only[BN]at h8);have hlt:k<l.length:=by omega
  obtain⟨s,he,hd⟩:=Xu hlt;have hw1:=XE hlt (by omega);have hk1:k+1<=l.length:=hlt;have hmem:s∈l:=N3 he;have hnm:=Qz hmem;rw[hd]at hJ;have he':=Q2 he;have iha:=(ih s hmem).1 (by omega);have ihb:=(ih s hmem).2 (by omega);obtain⟨sd,sc,sv,sn,⟨so,stn,sks⟩,sa,sb,sbs⟩:=s;simp only[St.then_,St.else_,St.term]at iha ihb hnm;have ca:=Xcz sa (by omega);have cb:=Xcz sb (by omega);have hga:=X0v sa (c - 1);have hna:=ZJ sa (c - 1);have hla:=X09 sa;have hlb:=X09 sb;have hsa:=X3O sa (c - 1);have hsb:=X3O sb (c - 1 - (szL sa:Int));have hgb:=X0v sb (c - 1 - (szL sa:Int));rw[X0G]at hJ;simp only[St.enc,Tm.enc,List.cons_append,List.nil_append]at he';simp only[aS,St.enc,Tm.enc,Ni,Nr,List.cons_append,List.nil_append]at iha ihb;generalize szL sa=na at*;generalize szL sb=nb at*;clear hlt h8 ih hmem hd he;refine X0<|X3<|X0<|X0<|X2 ?_;refine(Xc rfl (fun h10=>?_) fun h10=>?_)
  ·(try simp only[BN]at h10);rw[Na (by simpa using h10)]at hJ;cases hJ;clear h10;refine X1 ?_;exact Qe ⟨.inr rfl,_,le_refl _,⟨⟨_,by simp;rfl,by simp[XL]⟩,by simp,fun h=>by cases h⟩⟩
  (try simp only[BN]at h10);have hne:¬c=0:=by simpa using h10
  rw[N7 hne]at hJ;have hwa:IntKind.i64.wrap (c - 1)=c - 1:=X9 (by omega) (by omega);have hwb:IntKind.i64.wrap (c - 1 - (na:Int))=c - 1 - (na:Int):=X9 (by omega) (by omega);have hwc:IntKind.i64.wrap (c - 1 - (na:Int) - (nb:Int))=c - 1 - (na:Int) - (nb:Int):=X9 (by omega) (by omega);clear h10;refine X1 ?_;refine Xk [⟨true,.v (li (na:Int)),none⟩] ?_ ?_
  .first|exact ca _|exact trivial|simpa[*]using ca _
  refine X0<|X0<|X2 ?_;refine(Xc rfl (fun h16=>?_) fun h16=>?_)
  .try simp only[BN]at h16
   have h16':c - 1<(na:Int):=by
    first|omega|(simp at h16;omega)
   obtain⟨y,hy,_⟩:=hsa (by omega) h16';rw[hy]at hJ;simp only[Option.some.injEq]at hJ;subst hJ;have ci:=iha _ _ (by omega) (by omega) hy;clear h16 hna hga hgb hsb hsa hy iha ihb;refine Xk [⟨false,.tup [.agg [.c (iC rd),.c (iC rc),.c (iC rv),.c (iC rn),.c (iC ro),.c (iC rtn),.c (.sl 3 (XA rks)),.c (.sl 10 (X7 ra)),.c (.sl 10 (X7 rb)),.c (.sl 1 (Xi rbs))],lb true],none⟩] ?_ ?_
   .first|exact ci _|exact trivial|simpa[*]using ci _
   exact Qe ⟨.inr rfl,_,le_refl _,⟨⟨_,by simp;rfl,by simp[XL]⟩,by simp,fun h=>by cases h⟩⟩
  try simp only[BN]at h16
  have h16':(na:Int)<=c - 1:=by
   first|omega|(simp at h16;omega)
  rw[hga h16']at hJ;simp only at hJ;clear h16;refine X1 ?_;refine Xk [⟨true,.v (li (nb:Int)),none⟩] ?_ ?_
  .first|exact cb _|exact trivial|simpa[*]using cb _
  refine X0<|X0<|X2 ?_;refine(Xc rfl (fun h22=>?_) fun h22=>?_)
  .try simp only[BN]at h22
   have h22':c - 1 - (na:Int)<(nb:Int):=by
    first|omega|(simp at h22;omega)
   obtain⟨y,hy,_⟩:=hsb (by omega) h22';rw[hy]at hJ;simp only[Option.some.injEq]at hJ;subst hJ;have ci:=ihb _ _ (by omega) (by omega) hy;clear h22 hna hga hgb hsb hsa hy iha ihb;refine Xk [⟨false,.tup [.agg [.c (iC rd),.c (iC rc),.c (iC rv),.c (iC rn),.c (iC ro),.c (iC rtn),.c (.sl 3 (XA rks)),.c (.sl 10 (X7 ra)),.c (.sl 10 (X7 rb)),.c (.sl 1 (Xi rbs))],lb true],none⟩] ?_ ?_
   .first|exact ci _|exact trivial|simpa[*]using ci _
   exact Qe ⟨.inr rfl,_,le_refl _,⟨⟨_,by simp;rfl,by simp[XL]⟩,by simp,fun h=>by cases h⟩⟩
  try simp only[BN]at h22
  have h22':(nb:Int)<=c - 1 - (na:Int):=by
   first|omega|(simp at h22;omega)
  rw[hgb h22']at hJ;simp only at hJ;clear h22 hna hga hgb hsb hsa iha ihb;refine X2 ?_;refine X2 ?_;exact⟨(k+1,c - 1 - (na:Int) - (nb:Int)),⟨hk1,hJ,by simp only;omega,by simp only;omega⟩,by simp only;omega,X4 (fun n=>n) []⟩
 exfalso;simp only[BN]at h8;have hkl:k=l.length:=by omega
 rw[hkl,Nt,X3Y]at hJ;cases hJ
variable {n:Nat} {L:List (List Nat)}
theorem compact_upto {s:List Int} (hs:s.Pairwise (· <= ·)):∀m:Nat,m<=s.length->(Lib.compactUpTo s.toArray m).Pairwise (· < ·)/\∀x,x∈Lib.compactUpTo s.toArray m↔∃j,j<m/\s[j]? =some x
 | 0,_=>by
   have:Lib.compactUpTo s.toArray 0=[]:=rfl;rw[this];exact⟨List.Pairwise.nil,fun x=>⟨fun h=>by simp at h,fun⟨j,h,_⟩=>absurd h (Dy _)⟩⟩
 | m + 1,hm=>by
   obtain⟨h1,h2⟩:=compact_upto hs m (by omega);have hle:∀i j (hi:i<s.length) (hj:j<s.length),i<j->s[i]<=s[j]:=fun i j hi hj hij=>List.pairwise_iff_getElem.1 hs i j hi hj hij;have hd:∀j (hj:j<s.length),s.toArray[j]! =s[j]:=fun j hj=>by simp[hj]
   rw[Lib.compactUpTo_succ,hd m (by omega)];by_cases hk:Lib.keeps s.toArray m=true
   .rw [Na hk];refine⟨List.pairwise_append.2 ⟨h1,List.pairwise_singleton ..,fun a ha b hb=>?_⟩,fun x=>?_⟩
    .obtain⟨j,hj,he⟩:=(h2 a).1 ha;have hb':b=s[m]:=by simpa using hb
     subst hb';obtain⟨hj',rfl⟩:=N5.1 he
     have hk':m=0\/s[m]≠s[m - 1]:=by
      unfold Lib.keeps at hk;rw[hd m (by omega),hd (m - 1) (by omega)]at hk;simpa using hk
     rcases hk' with hk'|hk'
     .omega
     have a1:=hle (m - 1) m (by omega) (by omega) (by omega);rcases Nat.lt_or_ge j (m - 1)with h3|h3
     .have:=hle j (m - 1) hj' (by omega) h3;omega
     have:j=m - 1:=by omega
     subst this;omega
    simp only[Ng,Nk,h2 x];constructor
    .rintro(⟨j,hj,he⟩|rfl)
     .exact⟨j,by omega,he⟩
     exact⟨m,by omega,NA _⟩
    rintro⟨j,hj,he⟩;rcases Nat.lt_or_ge j m with h3|h3
    .exact .inl ⟨j,h3,he⟩
    have:j=m:=by omega
    subst this;obtain⟨_,rfl⟩:=N5.1 he;exact .inr rfl
   rw[N7 hk,Dq];refine⟨h1,fun x=>?_⟩;rw[h2 x];constructor
   .rintro⟨j,hj,he⟩;exact⟨j,by omega,he⟩
   rintro⟨j,hj,he⟩;rcases Nat.lt_or_ge j m with h3|h3
   .exact⟨j,h3,he⟩
   have:j=m:=by omega
   subst this
   have hk':¬(j=0\/s[j]≠s[j - 1]):=by
    unfold Lib.keeps at hk;rw[hd j (by omega),hd (j - 1) (by omega)]at hk;simpa using hk
   obtain⟨_,rfl⟩:=N5.1 he;have h0:j≠0:=fun h=>hk' (.inl h);refine⟨j - 1,by omega,?_⟩;rw[NA (by omega)];exact congrArg some (Classical.byContradiction fun h=>hk' (.inr fun k=>h k.symm))
theorem compact_sorted {s:List Int} (hs:s.Pairwise (· <= ·)):(Lib.compact s).Pairwise (· < ·)/\∀x,x∈Lib.compact s↔x∈s:=by
 obtain⟨h1,h2⟩:=compact_upto hs s.length (NK _);unfold Lib.compact;refine⟨h1,fun x=>?_⟩;rw[h2 x,NL];exact⟨fun⟨j,_,h⟩=>⟨j,h⟩,fun⟨j,h⟩=>⟨j,(N5.1 h).1,h⟩⟩
theorem sort_pair (l:List Int):(l.mergeSort fun x y=>decide (x<=y)).Pairwise (· <= ·):=by
 have:=List.pairwise_mergeSort (le:=fun x y:Int=>decide (x<=y)) (fun a b c h1 h2=>by simp only[N6]at*;omega) (fun a b=>by simp only[Nl,N6];omega) l;exact this.imp fun h=>by simpa using h
end Go.Proofs.YtdajceakaakdoaaGreat
namespace Go.Proofs.YtdajceakaakdoaaGreat
open Go Go.Hl
theorem hatC_mem (l:List Int) (x:Int):x∈hatC l↔x∈l:=by
 unfold hatC;rw[(compact_sorted (sort_pair l)).2,List.mem_mergeSort]
theorem hatC_asc (l:List Int):(hatC l).Pairwise (· < ·):=(compact_sorted (sort_pair l)).1
theorem hatS_mem {st:List St} {S:List Bool} {y:Nat} {x:Int}:x∈X49 st S y↔∃(i:Nat) (s:St),i<y/\st[i]? =some s/\s.do_=5/\S[i]? =some true/\x=s.n:=by
 unfold X49;simp only[NF,NR,List.mem_range];constructor
 .rintro⟨i,⟨h1,h2⟩,rfl⟩;unfold rlS at h2;split at h2
  .rename_i s hs;simp only[N4,N6]at h2;refine⟨i,s,h1,hs,h2.1,?_,by unfold stN;rw[hs]⟩;cases hS:S[i]? with
   |none=>rw[hS]at h2;exact absurd h2.2 (by simp)
   |some b=>rw[hS]at h2;simpa using h2.2
  cases h2
 rintro⟨i,s,h1,hs,h5,hS,rfl⟩;refine⟨i,⟨h1,?_⟩,by unfold stN;rw[hs]⟩;unfold rlS;rw[hs,hS];simp[h5]
theorem hat_rng {f:Fl} (h0:Qa f=0) {i:Nat} {s:St} (hs:(flL f.body)[i]? =some s) (h5:s.do_=5):0<=s.n/\s.n<f.hats.length:=by
 obtain⟨last,h1⟩:=X2U f.body true (W6 h0).2.2.2.1 s (N3 hs);exact sh_hat' h1 h5
theorem hats_rng {f:Fl} (h0:Qa f=0) {k:Int}:∀y∈hatC (X49 (flL f.body) (dirZ f k) (flL f.body).length),0<=y/\y<f.hats.length:=by
 intro y hy;obtain⟨i,s,hi,hs,h5,hS,rfl⟩:=hatS_mem.1 ((hatC_mem _ _).1 hy);exact hat_rng h0 hs h5
structure Mk (N:Nat) (R:List Int) (y:Nat) (S:List Bool):Prop where
 len:S.length=N
 snd:∀n:Nat,S[n]? =some true->(n:Int)∈R
 base:∀x∈R.take y,S[x.toNat]? =some true
theorem Mk.init (N:Nat) (R:List Int):Mk N R 0 (List.replicate N false) where
 len:=by simp
 snd:=fun n h=>by have:=N3 h;simp at this
 base:=fun x hx=>by simp at hx
theorem Mk.add {N:Nat} {R:List Int} {y k:Nat} {S:List Bool} (h:Mk N R y S) (hx:R[y]? =some (k:Int)) (hk:k<N):Mk N R (y+1) (S.set k true) where
 len:=by rw[DF];exact h.len
 snd:=fun n hn=>by
  rcases(ZL (by rw[h.len];exact hk) n).1 hn with rfl|hn
  .exact N3 hx
  exact h.snd n hn
 base:=fun x hx2=>by
  rw[List.take_add_one,hx]at hx2;simp only[Option.toList_some,Ng,Nk]at hx2;refine(ZL (by rw[h.len];exact hk) _).2 ?_;rcases hx2 with hx2|rfl
  .exact .inr (h.base x hx2)
  exact .inl (by simp)
theorem Mk.rn {N:Nat} {P:List (Int×Int)} {R:List Int} {S:List Bool} (h:Mk N R R.length S):Rn N P R S where
 len:=h.len
 snd:=fun n hn=>.base (h.snd n hn)
 base:=fun x hx=>h.base x (by rw[List.take_length];exact hx)
set_option maxHeartbeats 32000000 in
theorem closR_con (ns nv:Int) (E:List Dp) (nodes:List Int) (back rel:Bool) (N:Nat) (hN:ns+nv+1=N) (n0:0<=ns) (v0:0<=nv) (hN2:N<=100000) (hl:E.length<=20000000) (hE:∀e∈E,(0<=e.f/\e.f<N)/\(0<=e.t/\e.t<N)) (hnl:nodes.length<=1000000) (hR:∀x∈nodes,0<=x/\x<N) (d:Nat):Con Tryz.prog 35 false [aPd ns nv E,lI nodes,lb back,lb rel] (.v (lBl (czL (prs back rel E) nodes N))) none d:=by
 have hP:=prs_in (back:=back) (rel:=rel) hE;obtain⟨P,hPP⟩:∃p,prs back rel E=p:=⟨_,rfl⟩
 have hmem:∀x∈E,(rel||decide (x.k≠2))=true->(if back=true then(x.t,x.f)else(x.f,x.t))∈P:=by
  intro x hx hr;rw[<-hPP];exact Xbo.2 ⟨x,hx,by simpa using hr,rfl⟩
 have hdone:=fun S0 S=>Ri.done (N:=N) (P:=P) (R:=nodes) (S0:=S0) (S:=S);have htk:=fun(y:Nat) (x:Dp) (hx:E[y]? =some x)=>take_prs hx back rel;rw[hPP]at hP⊢;obtain⟨res,hres⟩:∃r,czL P nodes N=r:=⟨_,rfl⟩;simp only[hres]at hdone⊢;have hw1:IntKind.i64.wrap (ns+nv)=ns+nv:=X9 (by omega) (by omega);have hw2:IntKind.i64.wrap (ns+nv+1)=N:=by rw[hN];exact X9 (by omega) (by omega)
 have hwN:IntKind.i64.wrap (N:Int)=N:=X9 (by omega) (by omega);have hbig:(1:Int)*N<=281474976710656:=by omega
 have hbig2:(N:Int)<=281474976710656:=by omega
 have hmx:N<=maxLen:=by unfold maxLen;omega
 have hrep:=XcK N;have hmk0:=Mk.init N nodes;unfold aPd;refine X6 Tryz.func35 ?_;simp only[Tryz.f35];refine X1 ?_;refine X1 ?_;refine X0<|X0<|X2 ?_;refine X3<|(Xd [2,3,4,9,24,25] (fun(y:Nat×List Bool)=>[(26,.v (li y.1))]) (fun y=>[(4,.box [.c (iC ns),.c (iC nv),.c (.sl 3 (XG E))]),(23,.row 4 1 (X1B y.2))]) (fun y=>y.1<=nodes.length/\Mk N nodes y.1 y.2) (fun y=>nodes.length - y.1) (0,List.replicate N false) ⟨Nq _,hmk0⟩ ?_ ?_)
 .exact X4 (fun n=>n) []
 rintro⟨y,S⟩ ⟨hy,hm⟩;simp only[upS,X5,Xy]
 try simp only[X5,KN,Nat.reduceBEq,Nf,Nc,ins,Nat.reduceLT]
 simp only at hy hm;refine X1 ?_;refine X0<|(X8 rfl (fun h5=>Xb ?_) (fun h5=>?_))
 ·(try simp only[BN]at h5);have hlt:y<nodes.length:=by omega
  have hw3:=XE hlt (by omega);obtain⟨x,hx,_⟩:=Xu hlt;obtain⟨x0,x1⟩:=hR x (N3 hx);obtain⟨k,rfl⟩:∃k:Nat,x=k:=⟨x.toNat,by omega⟩;have hkl:k+1<=S.length:=by rw[hm.len];omega
  obtain⟨b0,hb0,hd0⟩:=Xu (show k<S.length by omega);have hbe0:=X4z hb0;clear hd0;have hm2:=hm.add hx (show k<N by omega);have hset:=Xc7 S k true;have hlt2:y+1<=nodes.length:=hlt;clear h5 hlt hm x1;refine X0<|X3<|X0<|X2 ?_;refine X2 ?_;refine X2 ?_;exact⟨(y+1,S.set k true),⟨hlt2,hm2⟩,by simp only;omega,X4 (fun n=>n) []⟩
 (try simp only[BN]at h5);obtain rfl:y=nodes.length:=by omega
 have hrn:=Mk.rn (P:=P) hm;clear h5 hm;refine(Xg ?_);refine X0<|X0<|X2 ?_;refine X3<|(Xd [2,3,4,9] (fun(y:Bool×List Bool)=>[(12,.v (lb y.1))]) (fun y=>[(4,.box [.c (iC ns),.c (iC nv),.c (.sl 3 (XG E))]),(23,.row 4 1 (X1B y.2))]) (fun y=>Rn N P nodes y.2/\(y.1=false->y.2=res)) (fun y=>2*cfS y.2+(if y.1=true then 1 else 0)) (true,S) ⟨hrn,fun h=>by cases h⟩ ?_ ?_)
 .exact X4 (fun n=>n) []
 rintro⟨g0,S0⟩ ⟨hr0,hf0⟩;simp only[upS,X5,Xy]
 try simp only[X5,KN,Nat.reduceBEq,Nf,Nc,ins,Nat.reduceLT]
 simp only at hr0 hf0;refine X0<|X0<|X2 ?_;refine(X8 rfl (fun h13=>Xb ?_) (fun h13=>?_))
 ·(try simp only[BN]at h13);have hg:g0=true:=by simpa using h13
  subst hg;clear h13 hf0;refine X3<|X0<|X2 ?_;refine X1 ?_;refine X3<|(Xd [2,3,4,9,36,37] (fun(y:Nat×Bool×List Bool)=>[(12,.v (lb y.2.1)),(38,.v (li y.1))]) (fun y=>[(4,.box [.c (iC ns),.c (iC nv),.c (.sl 3 (XG E))]),(23,.row 4 1 (X1B y.2.2))]) (fun y=>y.1<=E.length/\Ri N P nodes S0 y.2.2 y.2.1 (prs back rel (E.take y.1))) (fun y=>E.length - y.1) (0,false,S0) ⟨Nq _,hr0,NK _,fun h=>(by cases h),fun _=>⟨rfl,fun a b hab=>by simp[prs]at hab⟩⟩ ?_ ?_)
  .exact X4 (fun n=>n) []
  rintro⟨i,g,S1⟩ ⟨hi,hj⟩;simp only[upS,X5,Xy]
  try simp only[X5,KN,Nat.reduceBEq,Nf,Nc,ins,Nat.reduceLT]
  simp only at hi hj;refine X1 ?_;refine X0<|(X8 rfl (fun h18=>Xb ?_) (fun h18=>?_))
  ·(try simp only[BN]at h18);have hlt:i<E.length:=by omega
   have hw3:=XE hlt (by omega);obtain⟨x,hx,_⟩:=Xu hlt;have hxe:=X02 hx;have htp:=htk i x hx;have hmm:=hmem x (N3 hx);obtain⟨⟨f0,f1⟩,t0,t1⟩:=hE x (N3 hx);obtain⟨xf,xt,xk⟩:=x;simp only at f0 f1 t0 t1 htp hmm;obtain⟨f,rfl⟩:∃f:Nat,xf=f:=⟨xf.toNat,by omega⟩;obtain⟨t,rfl⟩:∃t:Nat,xt=t:=⟨xt.toNat,by omega⟩;simp only[Dp.enc]at hxe;have hlt2:i+1<=E.length:=hlt;clear h18 hlt;refine X0<|X3<|X0<|X2 ?_;refine X0<|(Q7 (by kernel_rfl) (by kernel_rfl) (by rfl) (by simp[*];rfl) ?_);refine(XM [2,3,4,9,12,14,36,37,38] (fun(q:Nat×Nat)=>[(15,.v (li q.1)),(16,.v (li q.2))]) (fun(q:Nat×Nat)=>[(4,.box [.c (iC ns),.c (iC nv),.c (.sl 3 (XG E))]),(14,.box [.c (iC f),.c (iC t),.c (iC xk)]),(23,.row 4 1 (X1B S1))]) (fun(q:Nat×Nat)=>q=if back=true then(t,f)else(f,t)) ?_ ?_)
   ·
    refine X1 ?_;refine(Xc rfl (fun h23=>?_) fun h23=>?_)
    ·(try simp only[BN]at h23);have hb:back=true:=by simpa using h23
     refine X2 ?_;exact⟨(t,f),by rw[Na hb],X4 (fun n=>n) []⟩
    (try simp only[BN]at h23);have hb:¬back=true:=by simpa using h23
    exact⟨(f,t),by rw[N7 hb],X4 (fun n=>n) []⟩
   rintro⟨a,b⟩ hq;simp only[upS,X5,Xy]
   try simp only[X5,KN,Nat.reduceBEq,Nf,Nc,ins,Nat.reduceLT]
   have hab:(if back=true then((t:Int),(f:Int))else((f:Int),(t:Int)))=((a:Int),(b:Int)):=by
    cases back
    .simp only[Nz,Nc]at hq⊢;cases hq;rfl
    simp only[Nf]at hq⊢;cases hq;rfl
   rw[hab]at htp hmm
   have haN:a<N/\b<N:=by
    cases back
    .simp only[Nz,Nc]at hq;cases hq;omega
    simp only[Nf]at hq;cases hq;omega
   obtain⟨A,hA,_⟩:=Xu (show a<S1.length by rw[hj.rn.len];exact haN.1);obtain⟨B,hB,_⟩:=Xu (show b<S1.length by rw[hj.rn.len];exact haN.2);have hAe:=X4z hA;have hBe:=X4z hB;have hbl:b+1<=S1.length:=by rw[hj.rn.len];omega
   have hset:=Xc7 S1 b true;clear hq hab haN f1 t1;refine X1 ?_;refine(Xc rfl (fun h28=>?_) fun h28=>?_)
   ·(try simp only[BN]at h28);have hu:(A=true/\B=false)/\(rel||decide (xk≠2))=true:=by simpa using h28
    obtain⟨⟨hA1,hB1⟩,hu⟩:=hu;subst hA1;subst hB1;have hj2:=hj.add (Q':=prs back rel (E.take (i+1))) hP (hmm hu) (by simpa using hA) (by simpa using hB);simp only[Int.toNat_natCast]at hj2;clear hj;refine X1 ?_;refine X2 ?_;refine X2 ?_;exact⟨(i+1,true,S1.set b true),⟨hlt2,hj2⟩,by simp only;omega,X4 (fun n=>n) []⟩
   try simp only[BN]at h28
   have hj2:Ri N P nodes S0 S1 g (prs back rel (E.take (i+1))):=by
    refine hj.mono fun a' b' hab'=>?_;rw[htp]at hab';rcases Ng.1 hab' with h1|h1
    .exact .inl h1
    right;split at h1
    .rename_i hu;rw[Nk]at h1;cases h1
     have hu2:¬(A=true/\B=false):=by
      rintro⟨e1,e2⟩;rcases h28 with(h|h)|h
      .rw[e1]at h;cases h
      .rw[e2]at h;cases h
      rw[h.1,h.2]at hu;simp at hu
     simp only[Int.toNat_natCast,hA,hB];cases A<;>cases B<;>simp_all
    cases h1
   clear hj;refine X2 ?_;exact⟨(i+1,g,S1),⟨hlt2,hj2⟩,by simp only;omega,X4 (fun n=>n) []⟩
  (try simp only[BN]at h18);obtain rfl:i=E.length:=by omega
  rw[List.take_length,hPP]at hj;have hrn1:=hj.rn;have hle1:=hj.le;have hup1:=hj.up;have hfin1:g=false->S1=res:=fun e=>by subst e;exact hdone S0 S1 hj
  clear h18 hj;refine(Xg ?_)
  exact⟨(g,S1),⟨hrn1,hfin1⟩,by
   simp only;cases g
   .simp;omega
   have:=hup1 rfl
   simp;omega,X4 (fun n=>n) []⟩
 (try simp only[BN]at h13);have hg:g0=false:=by simpa using h13
 have hS:=hf0 hg;subst hS;refine(Xg ?_);refine XB (Qs 23 rfl) ?_;refine X1 ?_;exact Xf
def hatM (l:List Int) (y:Nat):List Int:=((List.range y).filter fun h:Nat=>decide ((h:Int)∈l)).map fun h:Nat=>(h:Int)
theorem hatM_succ (l:List Int) (y:Nat):hatM l (y+1)=hatM l y++(if(y:Int)∈l then [(y:Int)] else []):=by
 unfold hatM;rw[List.range_succ,Dl,Dr];congr 1;by_cases h:(y:Int)∈l
 .simp[h]
 simp[h]
theorem hatM_len (l:List Int) (y:Nat):(hatM l y).length<=y:=by
 unfold hatM;rw[NO];exact Dx (DC _ _) (by simp)
theorem hatM_lt {l:List Int} {y:Nat} {x:Int} (h:x∈hatM l y):0<=x/\x<y:=by
 unfold hatM at h;obtain⟨a,ha,rfl⟩:=NF.1 h;have:=List.mem_range.1 (NR.1 ha).1;omega
theorem hatM_asc (l:List Int) (y:Nat):(hatM l y).Pairwise (· < ·):=by
 unfold hatM;rw[List.pairwise_map];exact(List.Pairwise.filter _ (List.pairwise_lt_range (n:=y))).imp fun {a b} h=>by omega
theorem asc_extI:∀{l m:List Int},l.Pairwise (· < ·)->m.Pairwise (· < ·)->(∀x,x∈l↔x∈m)->l=m
 |[],[],_,_,_=>rfl
 |[],b::m,_,_,h=>by have:=(h b).2 (by simp);cases this
 |a::l,[],_,_,h=>by have:=(h a).1 (by simp);cases this
 | a ::l,b::m,hl,hm,h=>by
   have h1:=NQ.1 hl;have h2:=NQ.1 hm
   have hab:a=b:=by
    rcases Nh.1 ((h a).1 (by simp))with e|e
    .exact e
    rcases Nh.1 ((h b).2 (by simp))with e2|e2
    .exact e2.symm
    have:=h2.1 a e;have:=h1.1 b e2;omega
   subst hab;congr 1;refine asc_extI h1.2 h2.2 fun x=>?_;have hx:=h x;simp only[Nh]at hx;constructor
   .intro hxl;rcases hx.1 (.inr hxl)with e|e
    .subst e;have:=h1.1 x hxl;omega
    exact e
   intro hxm;rcases hx.2 (.inr hxm)with e|e
   .subst e;have:=h2.1 x hxm;omega
   exact e
theorem hatM_eq {l:List Int} {H:Nat} (h:∀y∈hatC l,0<=y/\y<H):hatM l H=hatC l:=by
 refine asc_extI (hatM_asc l H) (hatC_asc l) fun x=>?_;rw[hatC_mem];constructor
 .intro hx;unfold hatM at hx;obtain⟨a,ha,rfl⟩:=NF.1 hx;simpa using(NR.1 ha).2
 intro hx;have:=h x ((hatC_mem l x).2 hx);unfold hatM;refine NF.2 ⟨x.toNat,NR.2 ⟨List.mem_range.2 (by omega),?_⟩,by omega⟩;rw[N6,Int.toNat_of_nonneg this.1];exact hx
set_option maxHeartbeats 32000000 in
theorem srcM_con (vars:List Vr) (hats:List Ht) (body:List St) (n:Nat) (E:List Dp) (node:Int) (Z:List Bool) (hn:n<=1000) (hv:vars.length<=1000) (hh:hats.length<=1000) (hst:(flL body).length=n) (hZ:Z.length=n+vars.length+1)
  (hat:∀(i:Nat) (s:St),(flL body)[i]? =some s->∀d,Con Tryz.prog 27 false [lS body,li i] (.tup [aS s,lb true]) none d)
  (cz:∀d,Con Tryz.prog 35 false [aPd n vars.length E,lI [node],lb true,lb false] (.v (lBl Z)) none d) (d:Nat):
  Con Tryz.prog 17 false [aF ⟨vars,hats,body⟩,aPd n vars.length E,li node] (.tup [lI (X4b vars Z n vars.length),lI (hatM (X49 (flL body) Z n) hats.length)]) none d:=by
 obtain⟨st,hst2⟩:∃z,flL body=z:=⟨_,rfl⟩;rw[hst2]at hat hst⊢;obtain⟨V,hV⟩:∃n,vars.length=n:=⟨_,rfl⟩;obtain⟨H,hH⟩:∃n,hats.length=n:=⟨_,rfl⟩;rw[hV]at cz hZ hv⊢;rw[hH]at hh⊢;have hwn:IntKind.i64.wrap ((n:Int)+V)=n+V:=X9 (by omega) (by omega);simp only[aF,Fl.enc,Ni,Nr,aPd]at*;clear hst2;refine X6 Tryz.func17 ?_;simp only[Tryz.f17];refine X1 ?_;have hnd:Xi [node]=[[iC node]]:=rfl;refine X0<|(X2g 3 [] [⟨false,.v (lBl Z),none⟩] (by simp[*];rfl) trivial (Qs 19 rfl) (by simp[*];first|exact⟨rfl,Iff.rfl⟩|exact⟨rfl,trivial⟩|rfl) ?_ ?_)
 .first|exact cz _|simpa using cz _
 refine X1 ?_;refine X0<|X0<|X2 ?_;refine X3<|(Xd [3,4,8,10,24,25] (fun(y:Nat)=>[(9,.v (.one (.own 1009))),(26,.v (li y))]) (fun y=>[(3,.box [.c (.sl 5 (Xm vars)),.c (.sl 6 (Xn hats)),.c (.sl 10 (X7 body))]),(4,.box [.c (iC n),.c (iC V),.c (.sl 3 (XG E))]),(22,.row 3 1 []),(1009,.row 3 1 (Xi (X4b vars Z n y)))]) (fun y=>y<=V) (fun y=>V - y) (0:Nat) (Nq _) ?_ ?_)
 .exact X4 (fun n=>if n=1009 then 21 else n) []
 rintro y hy;simp only[upS,X5,Xy]
 try simp only[X5,KN,Nat.reduceBEq,Nf,Nc,ins,Nat.reduceLT]
 refine X1 ?_;refine X0<|(X8 rfl (fun h6=>Xb ?_) (fun h6=>?_))
 ·(try simp only[BN]at h6);have hlt:y<V:=by first|omega|simpa using h6
  have hw3:=XE hlt (by omega);obtain⟨x,hx,_⟩:=Xu (show y<vars.length by omega);obtain⟨b,hb,_⟩:=Xu (show n+y<Z.length by omega);have hbe:=X4z hb;have hw4:IntKind.i64.wrap ((n:Int)+y)=((n+y:Nat):Int):=by rw[X9 (by omega) (by omega)];omega
  have hsc:=XcB vars Z n y;have hkd:kdV vars y=decide (x.kind≠0):=by unfold kdV;rw[hx]
  rw[hkd,hb]at hsc;simp only[Option.getD_some]at hsc;have hll:=srcI_len vars Z n y;have hroom:W4 ((X4b vars Z n y).length+1) 8:=XX (by omega) (by decide);have hlt2:y+1<=V:=hlt;obtain⟨k,hk⟩:∃k,n+y=k:=⟨_,rfl⟩;rw[hk]at hw4 hbe;obtain⟨xn,xk,xl,xh,xi⟩:=x;replace hsc:X4b vars Z n (y+1)=X4b vars Z n y++(if(decide (xk≠0)&&b)=true then [(y:Int)] else []):=hsc;have hsn:Xi [(y:Int)]=[[iC y]]:=rfl;clear h6 hlt hb hk hkd hll cz hat;refine X0<|X3<|X0<|X2 ?_;refine X1 ?_;refine(Xc rfl (fun h9=>?_) fun h9=>?_)
  ·(try simp only[BN]at h9);have hu:(decide (xk≠0)&&b)=true:=by simpa using h9
   simp only[hu,Nf]at hsc;refine X2 ?_;refine X2 ?_;exact⟨y+1,hlt2,by omega,X4 (fun n=>if n=1009 then 46 else n) []⟩
  (try simp only[BN]at h9);have hu:(decide (xk≠0)&&b)=false:=by rcases h9 with e|e<;>simp[e]
  simp only[hu,Nz,Nc,Dq]at hsc;refine X2 ?_;exact⟨y+1,hlt2,by omega,X4 (fun n=>n) []⟩
 try simp only[BN]at h6
 obtain rfl:y=V:=by
  have:¬y<V:=by first|omega|simpa using h6
  omega
 clear h6;refine(Xg ?_);refine X0<|X0<|X2 ?_;refine X3<|(Xd [3,4,8,9,50] (fun(y2:Nat)=>[(10,.v (.one (.own 1010))),(51,.v (li y2))]) (fun y2=>[(3,.box [.c (.sl 5 (Xm vars)),.c (.sl 6 (Xn hats)),.c (.sl 10 (X7 body))]),(4,.box [.c (iC n),.c (iC y),.c (.sl 3 (XG E))]),(1009,.row 3 1 (Xi (X4b vars Z n y))),(1010,.row 3 1 (Xi (hatM (X49 st Z n) y2)))]) (fun y2=>y2<=H) (fun y2=>H - y2) (0:Nat) (Nq _) ?_ ?_)
 .exact Xl (fun n=>if n=1010 then 22 else n) [] rfl (by simp[*,upS,X5]) (by simp[*,upS,hatM]) (by simp[upS])
 rintro k hk;simp only[upS,X5,Xy]
 try simp only[X5,KN,Nat.reduceBEq,Nf,Nc,ins,Nat.reduceLT]
 refine X1 ?_;refine X0<|(X8 rfl (fun h18=>Xb ?_) (fun h18=>?_))
 ·(try simp only[BN]at h18);have hlt:k<H:=by first|omega|simpa using h18
  have hwk:=XE hlt (by omega);have hk1:k+1<=H:=hlt;have hml:=hatM_len (X49 st Z n) k;have hmn:¬(k:Int)∈hatM (X49 st Z n) k:=fun h=>by have:=hatM_lt h;omega
  have hms:=hatM_succ (X49 st Z n) k;obtain⟨L,hL⟩:∃x,hatM (X49 st Z n) k=x:=⟨_,rfl⟩;rw[hL]at hml hmn hms;clear h18 hlt;rw[hL];refine X0<|X3<|X0<|X2 ?_;refine X1 ?_;refine X3<|(Xd [3,4,8,9,13,50,51,55] (fun(z:Nat)=>[(10,.v (.one (.own 1011))),(56,.v (li z))]) (fun z=>[(3,.box [.c (.sl 5 (Xm vars)),.c (.sl 6 (Xn hats)),.c (.sl 10 (X7 body))]),(4,.box [.c (iC n),.c (iC y),.c (.sl 3 (XG E))]),(1009,.row 3 1 (Xi (X4b vars Z n y))),(1011,.row 3 1 (Xi (L++if(k:Int)∈X49 st Z z then [(k:Int)] else [])))]) (fun z=>z<=n) (fun z=>n - z) (0:Nat) (Nq _) ?_ ?_)
  .exact X4 (fun n=>if n=1011 then 1010 else n) []
  rintro z hz;simp only[upS,X5,Xy]
  try simp only[X5,KN,Nat.reduceBEq,Nf,Nc,ins,Nat.reduceLT]
  refine X1 ?_;refine X0<|(X8 rfl (fun h23=>Xb ?_) (fun h23=>?_))
  ·(try simp only[BN]at h23);have hlt:z<n:=by first|omega|simpa using h23
   have hwz:=XE hlt (by omega);obtain⟨s,hs,_⟩:=Xu (show z<st.length by omega);have ca:=hat z s hs;obtain⟨b,hb,_⟩:=Xu (show z<Z.length by omega);have hbe:=X4z hb;have hsc:=Xck st Z z;have hkd:rlS st Z z=(decide (s.do_=5)&&b):=by unfold rlS;rw[hs,hb];rfl
   have hkn:stN st z=s.n:=by unfold stN;rw[hs]
   rw[hkd,hkn]at hsc;have hlt2:z+1<=n:=hlt;obtain⟨so,sc,sv,sn,⟨po,tn,tk⟩,sa,sb,sbs⟩:=s;simp only[aS,St.enc,Tm.enc,List.cons_append,List.nil_append,Ni,Nr]at ca;replace hsc:X49 st Z (z+1)=X49 st Z z++(if(decide (so=5)&&b)=true then [sn] else []):=hsc;obtain⟨inB,hin⟩:∃q:Bool,decide ((k:Int)∈X49 st Z z)=q:=⟨_,rfl⟩
   have hcur:(if(k:Int)∈X49 st Z z then [(k:Int)] else [])=if inB=true then [(k:Int)] else []:=by
    rw[<-hin];by_cases h:(k:Int)∈X49 st Z z<;>simp[h]
   have hnxt:(if(k:Int)∈X49 st Z (z+1)then [(k:Int)] else [])=if(inB||((decide (so=5)&&b)&&decide (sn=k)))=true then [(k:Int)] else []:=by
    have:((k:Int)∈X49 st Z (z+1))↔(inB||((decide (so=5)&&b)&&decide (sn=k)))=true:=by
     rw[hsc,Ng,<-hin,Nl,N6];refine or_congr Iff.rfl ?_;by_cases h:(decide (so=5)&&b)=true
     .rw[Na h,h];simp[eq_comm]
     rw[N7 h];have:(decide (so=5)&&b)=false:=by simpa using h
     rw[this];simp
    by_cases h:(k:Int)∈X49 st Z (z+1)
    .rw[Na h,Na (this.1 h)]
    rw[N7 h,N7 (fun h2=>h (this.2 h2))]
   have chs:=has_con (L++if inB=true then [(k:Int)] else []) k (by simp only[N9];split<;>simp<;>omega)
   have hch:decide ((k:Int)∈L++if inB=true then [(k:Int)] else [])=inB:=by
    cases inB
    .simpa using hmn
    simp
   rw[hch]at chs;simp only[lI,encIs_app]at chs;rw[hcur];have hroom:W4 (L.length+1) 8:=XX (by omega) (by decide);clear h23 hlt hs hb hkd hkn hat cz hsc hin hcur hch hms;refine X0<|X3<|X0<|X2 ?_;refine Xk [⟨false,.tup [.agg [.c (iC so),.c (iC sc),.c (iC sv),.c (iC sn),.c (iC po),.c (iC tn),.c (.sl 3 (XA tk)),.c (.sl 10 (X7 sa)),.c (.sl 10 (X7 sb)),.c (.sl 1 (Xi sbs))],lb true],none⟩] ?_ ?_
   .first|exact ca _|exact trivial|simpa[*]using ca _
   cases b
   .refine X0<|(X37 [none] (by simp[*];first|exact⟨rfl,trivial⟩|exact⟨rfl,Iff.rfl⟩|rfl) ?_ ?_)
    .trivial
    refine(Xc rfl (fun h27=>?_) fun h27=>?_)
    .exfalso;simp at h27
    (try simp only[BN]at h27);refine X2 ?_;exact⟨z+1,hlt2,by omega,X4 (fun n=>n) []⟩
   by_cases h5:so=5
   .by_cases hk2:sn=(k:Int)
    .subst h5;subst hk2;have hsn:Xi [(k:Int)]=[[iC k]]:=rfl;refine Xk [⟨true,.v (lb inB),none⟩] ?_ ?_
     .first|exact chs _|exact trivial|simpa[*]using chs _
     refine(Xc rfl (fun h27=>?_) fun h27=>?_)
     ·(try simp only[BN]at h27);have hiB:inB=false:=by simpa using h27
      subst hiB;refine X2 ?_;refine X2 ?_;exact⟨z+1,hlt2,by omega,X4 (fun n=>if n=1011 then 90 else n) []⟩
     (try simp only[BN]at h27);have hiB:inB=true:=by simpa using h27
     subst hiB;refine X2 ?_;exact⟨z+1,hlt2,by omega,X4 (fun n=>n) []⟩
    refine X0<|(X37 [none] (by simp[*];first|exact⟨rfl,trivial⟩|exact⟨rfl,Iff.rfl⟩|rfl) ?_ ?_)
    .trivial
    refine(Xc rfl (fun h27=>?_) fun h27=>?_)
    .exfalso;simp at h27
    (try simp only[BN]at h27);refine X2 ?_;exact⟨z+1,hlt2,by omega,X4 (fun n=>n) []⟩
   refine X0<|(X37 [none] (by simp[*];first|exact⟨rfl,trivial⟩|exact⟨rfl,Iff.rfl⟩|rfl) ?_ ?_)
   .trivial
   refine(Xc rfl (fun h27=>?_) fun h27=>?_)
   .exfalso;simp at h27
   (try simp only[BN]at h27);refine X2 ?_;exact⟨z+1,hlt2,by omega,X4 (fun n=>n) []⟩
  try simp only[BN]at h23
  obtain rfl:z=n:=by
   have:¬z<n:=by first|omega|simpa using h23
   omega
  have hms2:=congrArg Xi hms;rw[encIs_app]at hms2;rw[<-hms2];refine(Xg ?_);refine X2 ?_;exact⟨k+1,hk1,by omega,X4 (fun n=>if n=1010 then 1011 else n) []⟩
 try simp only[BN]at h18
 obtain rfl:k=H:=by
  have:¬k<H:=by first|omega|simpa using h18
  omega
 refine(Xg ?_);refine X1 ?_;refine XB (Qs 1009 rfl) ?_;refine XB (Qs 1010 rfl) ?_;exact Xf
theorem srcM_all {f:Fl} (h:Sm f) (h0:Qa f=0) {k:Int} (hk:0<=k/\k<=((flL f.body).length:Int)+f.vars.length) (d:Nat):
  Con Tryz.prog 17 false [aF f,aPd (flL f.body).length f.vars.length (X1L f),li k] (.tup [lI (X4b f.vars (dirZ f k) (flL f.body).length f.vars.length),lI (hatC (X49 (flL f.body) (dirZ f k) (flL f.body).length))]) none d:=by
 have hv:=h.vars;have hh:=h.hats;have hsz:=h.sz;have hfl:=Q6 f.body;have hns:=h.nodes;have hcl:=closR_con ((flL f.body).length:Int) f.vars.length (X1L f) [k] true false ((flL f.body).length+f.vars.length+1) (by omega) (by omega) (by omega) (by omega) (X9V h h0) (depL_in h h0) (by simp) (by intro x hx;rw[Nk.1 hx];omega);have hdz:czL (prs true false (X1L f)) [k] ((flL f.body).length+f.vars.length+1)=dirZ f k:=rfl;rw[hdz]at hcl;have hZl:(dirZ f k).length=(flL f.body).length+f.vars.length+1:=X7r ..
 have hat:∀(i:Nat) (s:St),(flL f.body)[i]? =some s->∀d,Con Tryz.prog 27 false [lS f.body,li i] (.tup [aS s,lb true]) none d:=fun i s hs=>
  findR_con f.body (by omega) i s (by omega) (by have:=(N5.1 hs).1;omega) (by rw[fnd_flL f.body i (by omega)];simpa using hs)
 have:=srcM_con f.vars f.hats f.body (flL f.body).length (X1L f) k (dirZ f k) (by omega) hv hh rfl hZl hat hcl d;rw[hatM_eq (hats_rng h0)]at this;exact this
theorem src_ok23 {f:Fl} (h0:Qa f=0) {k:Int} (hk:0<=k/\k<=((flL f.body).length:Int)+f.vars.length):srcR f k=.tup [lI (X4b f.vars (dirZ f k) (flL f.body).length f.vars.length),lI (hatC (X49 (flL f.body) (dirZ f k) (flL f.body).length)),li 0]:=by
 unfold srcR;rw[Na h0,Na hk]
theorem hatC_le (l:List Int):(hatC l).length<=l.length:=by
 unfold hatC Lib.compact Lib.compactUpTo;rw[NO];exact Dx (DC _ _) (by simp)
set_option maxHeartbeats 32000000 in
theorem sources_law23 (f:Fl) (k:Int) (d:Nat):Con Tryz.prog 3 true [aF f,li k] (.v (lb true)) none d:=by
 have ck:=X9D;have cf:=few_con f 12 120 (by omega) (by omega);by_cases hfew:fewB f 12 120=true
 .rw [hfew]at cf;obtain⟨hS,hv1,hh1,hn1⟩:=few_sm23 hfew;have cc:=XaD f (by omega) (by omega) (by omega) hS.bnd;have cs:=X6t f hS k;by_cases h0:Qa f=0
  .rw [h0]at cc;have hfl:=Q6 f.body;have hsn:=X09 f.body;have csz:=Xcz f.body (by omega);by_cases hk:0<=k/\k<=((flL f.body).length:Int)+f.vars.length
   .rw[src_ok23 h0 hk]at cs;have cb:=XaR hS h0 hv1 hn1;have cm:=srcM_all hS h0 hk;have hIl:=srcI_len f.vars (dirZ f k) (flL f.body).length f.vars.length;have hHl:=hatC_le (X49 (flL f.body) (dirZ f k) (flL f.body).length);have hHl2:=X9R (flL f.body) (dirZ f k) (flL f.body).length;obtain⟨I,hI⟩:∃z,X4b f.vars (dirZ f k) (flL f.body).length f.vars.length=z:=⟨_,rfl⟩;obtain⟨H,hH⟩:∃z,hatC (X49 (flL f.body) (dirZ f k) (flL f.body).length)=z:=⟨_,rfl⟩;rw[hI]at cs cm hIl;rw[hH]at cs cm hHl;have e1:=X8p I I (by omega) (by omega);have e2:=X8p H H (by omega) (by omega);simp only[decide_true,lI]at e1 e2;obtain⟨E,hE⟩:∃z,X1L f=z:=⟨_,rfl⟩;rw[hE]at cb cm;rw[<-hfl]at csz;obtain⟨n,hn⟩:∃n,(flL f.body).length=n:=⟨_,rfl⟩;rw[hn]at cb cm csz hk;have hn2:n<=1000:=by omega
    clear hfew hS h0 hfl hsn hE hn hI hH hIl hHl hHl2 hn1 hh1;obtain⟨vars,hats,body⟩:=f;simp only[aF,Fl.enc,Ni,Nr,aPd]at*;obtain⟨V,hV⟩:∃n,vars.length=n:=⟨_,rfl⟩;rw[hV]at cb cm hk hv1;have hw1:IntKind.i64.wrap ((n:Int)+(V:Int))=n+V:=X9 (by omega) (by omega);have hk1:¬k<0:=by omega
    have hk2:¬((n:Int)+V<k):=by omega
    refine X6 Tryz.func3 ?_;simp only[Tryz.f3];refine X1 ?_;refine X0<|X0<|(Xo [⟨false,.v (lb true),none⟩] ?_ ?_)
    .first|exact ck _|exact trivial|simpa[*]using ck _
    refine(Xc rfl (fun h2=>?_) fun h2=>?_)
    .exact absurd h2 (by simp)
    (try simp only[BN]at h2);refine X0<|X0<|(Xo [⟨true,.v (lb true),none⟩] ?_ ?_)
    .first|exact cf _|exact trivial|simpa[*]using cf _
    refine(Xc rfl (fun h6=>?_) fun h6=>?_)
    .exact absurd h6 (by simp)
    (try simp only[BN]at h6);refine Xk [⟨false,.tup [lI I,lI H,li 0],none⟩] ?_ ?_
    .first|exact cs _|exact trivial|simpa[*]using cs _
    refine Xk [⟨true,.v (li 0),none⟩] ?_ ?_
    .first|exact cc _|exact trivial|simpa[*]using cc _
    refine(XM [1,2,5,6,7] (fun(z:Unit)=>[(8,.v (li 0))]) (fun(z:Unit)=>[(2,.box [.c (.sl 5 (Xm vars)),.c (.sl 6 (Xn hats)),.c (.sl 10 (X7 body))])]) (fun(z:Unit)=>True) ?_ ?_)
    ·
     refine X0<|(X0Z [some ⟨true,.v (li n),none⟩] (by kernel_rfl) (by kernel_rfl) (by rfl) (by simp[*];first|exact⟨rfl,Iff.rfl⟩|exact⟨rfl,trivial⟩|rfl) ?_ ?_)
     .first|exact csz _|simpa using csz _
     refine(Xc rfl (fun h13=>?_) fun h13=>?_)
     .exfalso;simp[hk1,hk2]at h13
     (try simp only[BN]at h13);exact⟨(),trivial,X4 (fun n=>n) []⟩
    rintro⟨⟩ hz;simp only[upS,X5,Xy]
    try simp only[X5,KN,Nat.reduceBEq,Nf,Nc,ins,Nat.reduceLT]
    refine X0<|X0<|X2 ?_;refine(Xc rfl (fun h18=>?_) fun h18=>?_)
    .exact absurd h18 (by simp)
    (try simp only[BN]at h18);refine X0<|(QC [⟨false,.v (.agg [.c (iC n),.c (iC V),.c (.sl 3 (XG E))]),none⟩,⟨false,.tup [lI I,lI H],none⟩] (by kernel_rfl) (by kernel_rfl) (by rfl) (by simp[*];first|exact⟨rfl,Iff.rfl⟩|exact⟨rfl,trivial⟩|rfl) ?_ ?_)
    .first|exact⟨cb _,cm _⟩|exact trivial|(repeat' first|exact trivial|exact cb _|exact cm _|apply And.intro)
    refine Xk [⟨true,.v (lb true),none⟩,⟨true,.v (lb true),none⟩] ?_ ?_
    .first|exact⟨e1 _,e2 _⟩|exact trivial|(repeat' first|exact trivial|exact e1 _|exact e2 _|apply And.intro)
    exact Xf
   have hs:srcR f k=.tup [.one (.c (.lit XY)),.one (.c (.lit XY)),li 3]:=by
    unfold srcR;rw[Na h0,N7 hk]
   rw[hs]at cs;rw[<-hfl]at csz;obtain⟨n,hn⟩:∃n,(flL f.body).length=n:=⟨_,rfl⟩;rw[hn]at csz hk;have hn2:n<=1000:=by omega
   clear hfew hS h0 hfl hsn hn hn1 hh1 hs;obtain⟨vars,hats,body⟩:=f;simp only[aF,Fl.enc,Ni,Nr]at*;obtain⟨V,hV⟩:∃n,vars.length=n:=⟨_,rfl⟩;rw[hV]at hk hv1;have hw1:IntKind.i64.wrap ((n:Int)+(V:Int))=n+V:=X9 (by omega) (by omega);refine X6 Tryz.func3 ?_;simp only[Tryz.f3];refine X1 ?_;refine X0<|X0<|(Xo [⟨false,.v (lb true),none⟩] ?_ ?_)
   .first|exact ck _|exact trivial|simpa[*]using ck _
   refine(Xc rfl (fun h2=>?_) fun h2=>?_)
   .exact absurd h2 (by simp)
   (try simp only[BN]at h2);refine X0<|X0<|(Xo [⟨true,.v (lb true),none⟩] ?_ ?_)
   .first|exact cf _|exact trivial|simpa[*]using cf _
   refine(Xc rfl (fun h6=>?_) fun h6=>?_)
   .exact absurd h6 (by simp)
   (try simp only[BN]at h6);refine Xk [⟨false,.tup [.one (.c (.lit XY)),.one (.c (.lit XY)),li 3],none⟩] ?_ ?_
   .first|exact cs _|exact trivial|simpa[*]using cs _
   refine Xk [⟨true,.v (li 0),none⟩] ?_ ?_
   .first|exact cc _|exact trivial|simpa[*]using cc _
   refine(XM [1,2,5,6,7] (fun(z:Unit)=>[(8,.v (li 3))]) (fun(z:Unit)=>[(2,.box [.c (.sl 5 (Xm vars)),.c (.sl 6 (Xn hats)),.c (.sl 10 (X7 body))])]) (fun(z:Unit)=>True) ?_ ?_)
   ·
    by_cases hneg:k<0
    .refine X0<|(X0Z [none] (by kernel_rfl) (by kernel_rfl) (by rfl) (by simp[*];first|exact⟨rfl,Iff.rfl⟩|exact⟨rfl,trivial⟩|rfl) ?_ ?_)
     .exact trivial
     refine(Xc rfl (fun h13=>?_) fun h13=>?_)
     ·(try simp only[BN]at h13);refine X2 ?_;exact⟨(),trivial,X4 (fun n=>n) []⟩
     exfalso;simp at h13
    refine X0<|(X0Z [some ⟨true,.v (li n),none⟩] (by kernel_rfl) (by kernel_rfl) (by rfl) (by simp[*];first|exact⟨rfl,Iff.rfl⟩|exact⟨rfl,trivial⟩|rfl) ?_ ?_)
    .first|exact csz _|simpa using csz _
    refine(Xc rfl (fun h13=>?_) fun h13=>?_)
    ·(try simp only[BN]at h13);refine X2 ?_;exact⟨(),trivial,X4 (fun n=>n) []⟩
    exfalso;have:=h13;simp at this;omega
   rintro⟨⟩ hz;simp only[upS,X5,Xy]
   try simp only[X5,KN,Nat.reduceBEq,Nf,Nc,ins,Nat.reduceLT]
   refine X0<|X0<|X2 ?_;refine(Xc rfl (fun h18=>?_) fun h18=>?_)
   ·(try simp only[BN]at h18);refine X1 ?_;exact Xf
   exact absurd h18 (by simp)
  obtain⟨C,hC⟩:∃x,Qa f=x:=⟨_,rfl⟩
  have hs:srcR f k=.tup [.one (.c (.lit XY)),.one (.c (.lit XY)),li C]:=by
   unfold srcR;rw[N7 h0,hC]
  rw[hs]at cs;rw[hC]at h0 cc;clear hC hfew hS hv1 hh1 hn1 hs;obtain⟨vars,hats,body⟩:=f;simp only[aF,Fl.enc,Ni,Nr]at*;refine X6 Tryz.func3 ?_;simp only[Tryz.f3];refine X1 ?_;refine X0<|X0<|(Xo [⟨false,.v (lb true),none⟩] ?_ ?_)
  .first|exact ck _|exact trivial|simpa[*]using ck _
  refine(Xc rfl (fun h2=>?_) fun h2=>?_)
  .exact absurd h2 (by simp)
  (try simp only[BN]at h2);refine X0<|X0<|(Xo [⟨true,.v (lb true),none⟩] ?_ ?_)
  .first|exact cf _|exact trivial|simpa[*]using cf _
  refine(Xc rfl (fun h6=>?_) fun h6=>?_)
  .exact absurd h6 (by simp)
  (try simp only[BN]at h6);refine Xk [⟨false,.tup [.one (.c (.lit XY)),.one (.c (.lit XY)),li C],none⟩] ?_ ?_
  .first|exact cs _|exact trivial|simpa[*]using cs _
  refine Xk [⟨true,.v (li C),none⟩] ?_ ?_
  .first|exact cc _|exact trivial|simpa[*]using cc _
  refine(XM [1,2,5,6,7] (fun(z:Unit)=>[(8,.v (li C))]) (fun(z:Unit)=>[(2,.box [.c (.sl 5 (Xm vars)),.c (.sl 6 (Xn hats)),.c (.sl 10 (X7 body))])]) (fun(z:Unit)=>True) ?_ ?_)
  ·
   by_cases hneg:k<0
   .refine X0<|(X0Z [none] (by kernel_rfl) (by kernel_rfl) (by rfl) (by simp[*];first|exact⟨rfl,Iff.rfl⟩|exact⟨rfl,trivial⟩|rfl) ?_ ?_)
    .exact trivial
    refine(Xc rfl (fun h13=>?_) fun h13=>?_)
    .exfalso;simp[h0]at h13
    (try simp only[BN]at h13);exact⟨(),trivial,X4 (fun n=>n) []⟩
   refine X0<|(X0Z [none] (by kernel_rfl) (by kernel_rfl) (by rfl) (by simp[*];first|exact⟨rfl,Iff.rfl⟩|exact⟨rfl,trivial⟩|rfl) ?_ ?_)
   .exact trivial
   refine(Xc rfl (fun h13=>?_) fun h13=>?_)
   .exfalso;simp[h0]at h13
   (try simp only[BN]at h13);exact⟨(),trivial,X4 (fun n=>n) []⟩
  rintro⟨⟩ hz;simp only[upS,X5,Xy]
  try simp only[X5,KN,Nat.reduceBEq,Nf,Nc,ins,Nat.reduceLT]
  refine X0<|X0<|X2 ?_;refine(Xc rfl (fun h18=>?_) fun h18=>?_)
  ·(try simp only[BN]at h18);refine X1 ?_;exact Xf
  exact absurd h18 (by simp[h0])
 have hfew:fewB f 12 120=false:=by simpa using hfew
 rw[hfew]at cf;obtain⟨vars,hats,body⟩:=f;simp only[aF,Fl.enc,Ni,Nr]at*;refine X6 Tryz.func3 ?_;simp only[Tryz.f3];refine X1 ?_;refine X0<|X0<|(Xo [⟨false,.v (lb true),none⟩] ?_ ?_)
 .first|exact ck _|exact trivial|simpa[*]using ck _
 refine(Xc rfl (fun h2=>?_) fun h2=>?_)
 .exact absurd h2 (by simp)
 (try simp only[BN]at h2);refine X0<|X0<|(Xo [⟨true,.v (lb false),none⟩] ?_ ?_)
 .first|exact cf _|exact trivial|simpa[*]using cf _
 refine(Xc rfl (fun h6=>?_) fun h6=>?_)
 ·(try simp only[BN]at h6);refine X1 ?_;exact Xf
 exact absurd h6 (by simp)
end Go.Proofs.YtdajceakaakdoaaGreat
