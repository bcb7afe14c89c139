/- Part 14: contracts of functions of the program and of the reference, and plain facts about what they compute; used by the proof of the claimed statement. Conditions: as each theorem states. -/
import Derived.Test.YtppjennamodfdaaGreatK13
import Derived.Test.YtppjennamodfdaaGreatK6
import Derived.Test.YtppjennamodfdaaGreatRows
set_option linter.unusedSimpArgs false
set_option linter.unusedVariables false
set_option linter.unnecessarySimpa false
set_option maxRecDepth 100000
set_option maxHeartbeats 2000000
namespace Go.Proofs.YtppjennamodfdaaGreat
open Go Go.Hl
def toI (l:List Nat):List Int:=l.map Int.ofNat
theorem natL_toI (l:List Nat):QG (toI l)=l:=by simp[QG,toI,Function.comp_def]
theorem X5S (l:List Nat):XW l=Xe (toI l):=Xao l
theorem ZP (l:List Nat) (s:Int):s∈toI l↔0≤s∧s.toNat∈l:=by
 simp only[toI,List.mem_map];constructor
 · rintro⟨n,hn,rfl⟩;exact⟨Int.natCast_nonneg n,by simpa using hn⟩
 rintro⟨h,hs⟩;exact⟨_,hs,Int.toNat_of_nonneg h⟩
theorem Xc3 (l:List Nat):(toI l).length=l.length:=by simp[toI]
noncomputable def slF (n:Nat) (L:List (List Nat)) (q:List Int):List Nat:=X2G n (ZM L (QG q))
theorem X5Y (f:Fl) (q:List Int):bwL f q=slF (Q4 f).length (Q4 f) q:=rfl
theorem fwL_sl (f:Fl) (q:List Int):fwL f q=slF (Q4 f).length (X1k (Q4 f)) q:=rfl
structure Lk (n:Nat) (L:List (List Nat)):Prop where
 ok:okLk L
 len:L.length=n
theorem lk_bw {f:Fl} (h:Sm f):Lk (Q4 f).length (Q4 f):=⟨X4x h,rfl⟩
theorem lk_fw {f:Fl} (h:Sm f):Lk (Q4 f).length (X1k (Q4 f)):=by
 have hl:(Q4 f).length≤1000:=by rw[QN];exact(Z6 h).hn
 exact⟨X7P hl (X0b h),by rw[X0U]⟩
variable {n:Nat} {L:List (List Nat)}
def okQ (n:Nat) (q:List Int):Prop:=∀x∈q,0≤x∧x<n
theorem okQ.nat {q:List Int} (h:okQ n q):∀d∈QG q,d<n:=by
 intro d hd;obtain⟨x,hx,rfl⟩:=List.mem_map.1 hd;have:=h x hx;omega
theorem okQ.app {p q:List Int} (h:okQ n p) (h2:okQ n q):okQ n (p++q):=fun x hx=>(List.mem_append.1 hx).elim (h x) (h2 x)
theorem X1K (h:Lk n L) {q:List Int} (hq:okQ n q) (d:Nat):d∈slF n L q↔Cl L (QG q) d:=by
 obtain⟨h1,h2⟩:=WG h.ok (l0:=QG q) (by rw[h.len];exact hq.nat);rw[slF,X0K,←h2];exact⟨fun h=>h.2,fun h3=>⟨by have:=h1.lt d h3;rwa [h.len]at this,h3⟩⟩
theorem X4w (q:List Int):okQ n (toI (slF n L q)):=by
 intro x hx;obtain⟨h0,hx⟩:=(ZP _ _).1 hx;have:=((X0K _ _ _).1 hx).1;omega
theorem srtF_pw (n:Nat) (t:List Nat):(X2G n t).Pairwise (· < ·):=List.pairwise_lt_range.filter _
theorem sl_pw (q:List Int):(toI (slF n L q)).Pairwise (· < ·):=by
 unfold toI;rw[List.pairwise_map];exact(srtF_pw n _).imp fun h=>by simpa using h
theorem Cl.mono {l m:List Nat} (h:∀d∈l,Cl L m d) {d:Nat} (hd:Cl L l d):Cl L m d:=by
 induction hd with
 |base h1=>exact h _ h1
 |step _ h2 ih=>exact .step ih h2
theorem cl_app (l m:List Nat) (d:Nat):Cl L (l++m) d↔Cl L l d∨Cl L m d:=by
 constructor
 · intro h
   induction h with
   |base h1=>exact(List.mem_append.1 h1).imp .base .base
   |step _ h2 ih=>exact ih.imp (fun h=>.step h h2) (fun h=>.step h h2)
 rintro(h|h)
 · exact Cl.mono (fun d hd=>.base (List.mem_append.2 (.inl hd))) h
 exact Cl.mono (fun d hd=>.base (List.mem_append.2 (.inr hd))) h
theorem XaO {n:Nat} {s t:List Nat} (h:∀d,d<n→(d∈s↔d∈t)):X2G n s=X2G n t:=by
 unfold X2G;exact List.filter_congr fun d hd=>decide_eq_decide.2 (h d (List.mem_range.1 hd))
theorem X9q (h:Lk n L) {q:List Int} (hq:okQ n q):slF n L (toI (slF n L q))=slF n L q:=by
 have h1:∀d,d∈slF n L (toI (slF n L q))↔d∈slF n L q:=fun d=>by
  rw[X1K h (X4w q),natL_toI];constructor
  · intro hd;exact(X1K h hq d).2 (Cl.mono (fun d hd=>(X1K h hq d).1 hd) hd)
  exact .base
 unfold slF;refine XaO fun d hd=>?_;have:=h1 d;unfold slF at this;rw[X0K,X0K]at this;exact⟨fun h=>(this.1 ⟨hd,h⟩).2,fun h=>(this.2 ⟨hd,h⟩).2⟩
theorem sl_has (h:Lk n L) {q:List Int} (hq:okQ n q) {s:Int} (hs:s∈q):s∈toI (slF n L q):=
 (ZP _ _).2 ⟨(hq s hs).1,(X1K h hq _).2 (.base (List.mem_map.2 ⟨s,hs,rfl⟩))⟩
theorem X6z:∀{l m:List Int},l.Pairwise (· < ·)→m.Pairwise (· < ·)→(∀x,x∈l↔x∈m)→l=m
 |[],[],_,_,_=>rfl
 |[],y::m,_,_,h=>absurd ((h y).2 (List.mem_cons_self ..)) (by simp)
 |x::l,[],_,_,h=>absurd ((h x).1 (List.mem_cons_self ..)) (by simp)
 | x ::l,y::m,hl,hm,h=>by
   rw[List.pairwise_cons]at hl hm
   have hxy:x=y:=by
    have h1:=(h x).1 (List.mem_cons_self ..);have h2:=(h y).2 (List.mem_cons_self ..);rcases List.mem_cons.1 h1 with h1|h1
    · exact h1
    rcases List.mem_cons.1 h2 with h2|h2
    · exact h2.symm
    have:=hm.1 x h1;have:=hl.1 y h2;omega
   subst hxy;rw[X6z hl.2 hm.2 fun z=>?_];constructor
   · intro hz;rcases List.mem_cons.1 ((h z).1 (List.mem_cons_of_mem _ hz))with h1|h1
     · have:=hl.1 z hz;omega
     exact h1
   intro hz;rcases List.mem_cons.1 ((h z).2 (List.mem_cons_of_mem _ hz))with h1|h1
   · have:=hm.1 z hz;omega
   exact h1
theorem X3q {s:List Int} (hs:s.Pairwise (· ≤ ·)):∀m:Nat,m≤s.length→(Lib.compactUpTo s.toArray m).Pairwise (· < ·)∧∀x,x∈Lib.compactUpTo s.toArray m↔∃j,j<m∧s[j]? =some x
 | 0,_=>by
   have:Lib.compactUpTo s.toArray 0=[]:=rfl;rw[this];exact⟨List.Pairwise.nil,fun x=>⟨fun h=>by simp at h,fun⟨j,h,_⟩=>absurd h (Nat.not_lt_zero _)⟩⟩
 | m + 1,hm=>by
   obtain⟨h1,h2⟩:=X3q hs m (by omega);have hle:∀i j (hi:i<s.length) (hj:j<s.length),i<j→s[i]≤s[j]:=fun i j hi hj hij=>List.pairwise_iff_getElem.1 hs i j hi hj hij;have hd:∀j (hj:j<s.length),s.toArray[j]! =s[j]:=fun j hj=>by simp[hj]
   rw[Lib.compactUpTo_succ,hd m (by omega)];by_cases hk:Lib.keeps s.toArray m=true
   · rw [if_pos hk];refine⟨List.pairwise_append.2 ⟨h1,List.pairwise_singleton ..,fun a ha b hb=>?_⟩,fun x=>?_⟩
     · obtain⟨j,hj,he⟩:=(h2 a).1 ha;have hb':b=s[m]:=by simpa using hb
       subst hb';obtain⟨hj',rfl⟩:=List.getElem?_eq_some_iff.1 he
       have hk':m=0∨s[m]≠s[m - 1]:=by
        unfold Lib.keeps at hk;rw[hd m (by omega),hd (m - 1) (by omega)]at hk;simpa using hk
       rcases hk' with hk'|hk'
       · omega
       have a1:=hle (m - 1) m (by omega) (by omega) (by omega);rcases Nat.lt_or_ge j (m - 1)with h3|h3
       · have:=hle j (m - 1) hj' (by omega) h3;omega
       have:j=m - 1:=by omega
       subst this;omega
     simp only[List.mem_append,List.mem_singleton,h2 x];constructor
     · rintro(⟨j,hj,he⟩|rfl)
       · exact⟨j,by omega,he⟩
       exact⟨m,by omega,List.getElem?_eq_getElem _⟩
     rintro⟨j,hj,he⟩;rcases Nat.lt_or_ge j m with h3|h3
     · exact .inl ⟨j,h3,he⟩
     have:j=m:=by omega
     subst this;obtain⟨_,rfl⟩:=List.getElem?_eq_some_iff.1 he;exact .inr rfl
   rw[if_neg hk,List.append_nil];refine⟨h1,fun x=>?_⟩;rw[h2 x];constructor
   · rintro⟨j,hj,he⟩;exact⟨j,by omega,he⟩
   rintro⟨j,hj,he⟩;rcases Nat.lt_or_ge j m with h3|h3
   · exact⟨j,h3,he⟩
   have:j=m:=by omega
   subst this
   have hk':¬(j=0∨s[j]≠s[j - 1]):=by
    unfold Lib.keeps at hk;rw[hd j (by omega),hd (j - 1) (by omega)]at hk;simpa using hk
   obtain⟨_,rfl⟩:=List.getElem?_eq_some_iff.1 he;have h0:j≠0:=fun h=>hk' (.inl h);refine⟨j - 1,by omega,?_⟩;rw[List.getElem?_eq_getElem (by omega)];exact congrArg some (Classical.byContradiction fun h=>hk' (.inr fun k=>h k.symm))
theorem X6C {s:List Int} (hs:s.Pairwise (· ≤ ·)):(Lib.compact s).Pairwise (· < ·)∧∀x,x∈Lib.compact s↔x∈s:=by
 obtain⟨h1,h2⟩:=X3q hs s.length (Nat.le_refl _);unfold Lib.compact;refine⟨h1,fun x=>?_⟩;rw[h2 x,List.mem_iff_getElem?];exact⟨fun⟨j,_,h⟩=>⟨j,h⟩,fun⟨j,h⟩=>⟨j,(List.getElem?_eq_some_iff.1 h).1,h⟩⟩
theorem XcW (l:List Int):(l.mergeSort fun x y=>decide (x≤y)).Pairwise (· ≤ ·):=by
 have:=List.pairwise_mergeSort (le:=fun x y:Int=>decide (x≤y)) (fun a b c h1 h2=>by simp only[decide_eq_true_eq]at*;omega) (fun a b=>by simp only[Bool.or_eq_true,decide_eq_true_eq];omega) l;exact this.imp fun h=>by simpa using h
theorem sl_union (h:Lk n L) {a b:List Int} (ha:okQ n a) (hb:okQ n b):Lib.compact ((toI (slF n L a)++toI (slF n L b)).mergeSort fun x y=>decide (x≤y))=toI (slF n L (a++b)):=by
 obtain⟨h1,h2⟩:=X6C (XcW (toI (slF n L a)++toI (slF n L b)));refine X6z h1 (sl_pw _) fun x=>?_;rw[h2,List.mem_mergeSort,List.mem_append,ZP,ZP,ZP,X1K h ha,X1K h hb,X1K h (ha.app hb)];rw[show QG (a++b)=QG a++QG b by simp[QG],cl_app];exact⟨fun h=>h.elim (fun h=>⟨h.1,.inl h.2⟩) fun h=>⟨h.1,.inr h.2⟩,fun h=>h.2.elim (fun k=>.inl ⟨h.1,k⟩) fun k=>.inr ⟨h.1,k⟩⟩
theorem clB_sl {f:Fl} (h:Sm f) {q:List Int} (hq:okQ (Q4 f).length q):clB f (toI (bwL f q))=true:=by
 unfold clB;rw[List.all_eq_true];intro d hd;have hL:=lk_bw h;have hq2:=X4w (n:=(Q4 f).length) (L:=Q4 f) q;have h1:=X9q hL hq;rw[decide_eq_true_eq,ZP];refine⟨Int.natCast_nonneg d,?_⟩;obtain⟨h3,h4⟩:=WG hL.ok (l0:=QG (toI (bwL f q))) hq2.nat;rw[X5Y,←h1,X1K hL hq2];exact(h4 d).1 hd
theorem X7Z {f:Fl} (h0:Q0 f=0) {q:List Int} (hq:okQ (szL f.body) q):Zm f [q]=0:=by
 have:askB (flL f.body).length [q]=true:=by
  simp only[askB,inB,XO,List.all_cons,List.all_nil,Bool.and_true,List.all_eq_true,decide_eq_true_eq];exact hq
 rw[Zm,if_pos h0,if_pos this]
def X1u (n:Nat) (l:List Int):List Int:=if n=0 then [] else l.map fun x=>x.emod n
theorem X7L (n:Nat) (l:List Int):okQ n (X1u n l):=by
 unfold X1u;split
 · intro x hx;cases hx
 intro x hx;obtain⟨y,_,rfl⟩:=List.mem_map.1 hx;rename_i h0;have hn:(0:Int)<(n:Int):=by omega
 exact⟨Int.emod_nonneg y (by omega),Int.emod_lt_of_pos y hn⟩
theorem X3l (n:Nat) (l:List Int):(X1u n l).length≤l.length:=by
 unfold X1u;split<;>simp
end Go.Proofs.YtppjennamodfdaaGreat

namespace Go.Proofs.YtppjennamodfdaaGreat
open Go Go.Hl
theorem emod_go (x:Int) {n:Nat} (hn:0<n):(x.tmod n+n).tmod n=x.emod n∧-(n:Int)<x.tmod n∧x.tmod n<n:=by
 have h0:(0:Int)<(n:Int):=by omega
 have h1:x.tmod n<n:=Int.tmod_lt_of_pos x h0
 have h2:-(n:Int)<x.tmod n:=by
  have:=Int.lt_tmod_of_pos x h0;omega
 refine⟨?_,h2,h1⟩;rw[Int.tmod_eq_emod_of_nonneg (by omega),Int.add_emod_right];have h3:=Int.mul_tdiv_add_tmod x n;have h4:x.tmod n=x+n*(-(x.tdiv n)):=by rw[Int.mul_neg];omega
 rw[h4,Int.add_mul_emod_self_left];rfl
theorem Xdn {n:Nat} {l:List Int} {k:Nat} {x:Int} (hn:n≠0) (h:l[k]? =some x):X1u n (l.take (k+1))=X1u n (l.take k)++[x.emod n]:=by
 unfold X1u;rw[if_neg hn,if_neg hn,List.take_add_one,h];simp
theorem X74 (l:List Int):X1u 0 l=[]:=rfl
set_option maxHeartbeats 8000000 in
theorem X2A (f:Fl) (hb:Xk f.body≤1000000) (l:List Int) (hl:l.length≤1000000) (d:Nat):Con Tryz.prog 31 false [aF f,lI l] (.v (lI (X1u (szL f.body) l))) none d:=by
 have cs:=Zt f.body (by omega);have hnl:=QV f.body;obtain⟨n,hn⟩:∃x,szL f.body=x:=⟨_,rfl⟩;rw[hn]at cs hnl⊢;clear hn;obtain⟨vars,hats,body⟩:=f;simp only at cs hnl hb;simp only[aF,Fl.enc,List.map_cons,List.map_nil];have hz0:X1u n []=[]:=by unfold X1u;split<;>rfl
 have hz1:Xe []=[]:=rfl;refine X5 Tryz.func31 ?_;simp only[Tryz.f31];refine X3 ?_;refine X3 ?_;refine Xj [⟨true,.v (li n),none⟩] ?_ ?_
 · first|exact cs _|exact trivial|simpa[*]using cs _
 refine X1<|X1<|X2 ?_;refine X4<|(Xf [6,12,13] (fun(k:Nat)=>[(5,.v (.one (.own 1003))),(14,.v (li k))]) (fun k=>[(1003,.row 3 1 (Xe (X1u n (l.take k))))]) (fun k=>k≤l.length) (fun k=>l.length - k) (0:Nat) (Nat.zero_le _) ?_ ?_)
 · exact X6 (fun n=>n) [1003]
 rintro k hk;simp only[upS,X8,Xw]
 try simp only[X8,KN,Nat.reduceBEq,if_true,if_false,ins,Nat.reduceLT]
 refine X3 ?_;refine X1<|(X7 rfl (fun h6=>Xb ?_) (fun h6=>?_))
 · (try simp only[BN]at h6);have hlt:k<l.length:=by first|omega|simpa using h6
   obtain⟨x,he,hd⟩:=Xs hlt;have he2:=X4A he;have hw1:=XA hlt (by omega);have hk1:k+1≤l.length:=hlt;have hml:(X1u n (l.take k)).length≤k:=by have:=X3l n (l.take k);rw[List.length_take]at this;omega
   have htk:=fun h=>@Xdn n l k x h he;have htz:=X74 (l.take (k+1));have htz2:=X74 (l.take k);clear hlt h6 hd he;refine X1<|X4<|X1<|X2 ?_;refine X3 ?_;refine(Xa rfl (fun h9=>?_) fun h9=>?_)
   · (try simp only[BN]at h9);have hn0:0<n:=by simpa using h9
     have hn1:¬(n:Int)=0:=by omega
     have hn2:¬n=0:=by omega
     obtain⟨e1,e2,e3⟩:=emod_go x hn0;have e4:0≤x.emod n:=Int.emod_nonneg x hn1;have e5:x.emod n<n:=Int.emod_lt_of_pos x (by omega);have htk2:=htk hn2;obtain⟨m,hm⟩:∃y,X1u n (l.take k)=y:=⟨_,rfl⟩;rw[hm]at hml htk2;have hek:Xe (X1u n (l.take (k+1)))=Xe m++[[iC (x.emod n)]]:=by rw[htk2];simp[Xe]
     obtain⟨A,hA⟩:∃y,x.tmod n=y:=⟨_,rfl⟩;obtain⟨E,hE⟩:∃y,x.emod n=y:=⟨_,rfl⟩;rw[hA]at e1 e2 e3;rw[hE]at e1 e4 e5 hek;have w1:IntKind.i64.wrap A=A:=Xd (by omega) (by omega);have w2:IntKind.i64.wrap (A+(n:Int))=A+(n:Int):=Xd (by omega) (by omega);have w3:IntKind.i64.wrap E=E:=Xd (by omega) (by omega);have hroom:Qq (m.length+1) 8:=XB (by omega) (by decide);clear htk htk2 h9 htz htz2 hE e2 e3 e4 e5;refine X2 ?_;refine X2 ?_;exact⟨k+1,hk1,by omega,X6 (fun n=>if n=1003 then 29 else n) []⟩
   try simp only[BN]at h9
   have hn0:n=0:=by
    have:¬0<n:=by simpa using h9
    omega
   subst hn0;clear h9 htk;refine X2 ?_;exact⟨k+1,hk1,by omega,X6 (fun n=>n) []⟩
 (try simp only[BN]at h6);have hkl:k=l.length:=by first|omega|(have:¬k<l.length:=by simpa using h6;omega)
 subst hkl;rw[List.take_length];clear h6;refine(Xi ?_);refine X3 ?_;exact XF ⟨.inr rfl,_,XJ 1003 rfl,⟨⟨_,by simp;rfl,by simp[XD]⟩,by simp,fun h=>by cases h⟩⟩
theorem X6t (n:Nat) (L:List (List Nat)) (q:List Int):(toI (slF n L q)).length≤n:=by rw[Xc3];exact X8N _ _
structure Cut (f:Fl) (n:Nat) (g:FuncId) (L:List (List Nat)):Prop where
 lk:Lk n L
 con:∀q:List Int,q.length≤100000→okQ n q→∀d,Con Tryz.prog g false [aF f,lI q] (.tup [lI (toI (slF n L q)),li 0]) none d
theorem XaG {f:Fl} (h:Sm f) (h0:Q0 f=0):Cut f (szL f.body) 12 (Q4 f):=by
 have hn:(Q4 f).length=szL f.body:=by rw[QN,XO]
 refine⟨hn▸lk_bw h,fun q hl hq d=>?_⟩;have:=X3Q f h q hl d;rw[X7Z h0 hq,slR,if_pos rfl,X5Y,X5S,hn]at this;exact this
theorem cut_fw {f:Fl} (h:Sm f) (h0:Q0 f=0):Cut f (szL f.body) 13 (X1k (Q4 f)):=by
 have hn:(Q4 f).length=szL f.body:=by rw[QN,XO]
 refine⟨hn▸lk_fw h,fun q hl hq d=>?_⟩;have:=X4H f h q hl d;rw[X7Z h0 hq,slR,if_pos rfl,fwL_sl,X5S,hn]at this;exact this
end Go.Proofs.YtppjennamodfdaaGreat

namespace Go.Proofs.YtppjennamodfdaaGreat
open Go Go.Hl
end Go.Proofs.YtppjennamodfdaaGreat

namespace Go.Proofs.YtppjennamodfdaaGreat
open Go Go.Hl
theorem XbS (f:Fl) (q:List Int):pgF f q=⟨f.vars,f.hats,prL (kp q) f.body 0⟩:=by
 unfold pgF;rw[pgL_eq];rfl
theorem X1V {f:Fl} {qs:List (List Int)} (h:fitQ f qs=true):X1w f 70 300=true∧∀q∈qs,q.length≤40:=by
 unfold fitQ at h;simp only[Bool.and_eq_true,Bool.not_eq_true',List.any_eq_false,decide_eq_true_eq]at h;refine⟨h.2.1,fun q hq=>?_⟩;have:=h.1 q hq;omega
end Go.Proofs.YtppjennamodfdaaGreat

namespace Go.Proofs.YtppjennamodfdaaGreat
open Go Go.Hl Go.RowKit Go.ChangeShapes Go.Proofs.YtppjennamodfdaaGreat
theorem tiled:X8T Tryz.prog:=tiled_mk (by kernel_rfl)
theorem own:ownKnob Tryz.prog.godebug=none:=by kernel_rfl
theorem XbW:laidOutB Tryz.prog=true:=by kernel_rfl
section
variable {P:Program} {k:Nat} {t:TypeId} {ds:List CD}
theorem Zo {α:Type} {enc:α→List CD} {e:TypeId} {c:Nat} (hu:P.underlying t=some (.slice e)) (hc:P.cellsOf e=c) (he:∀k',k'<k→∀r,Qz P k' e r→∃x,r=enc x) (h:Qz P k t ds):∃xs:List α,ds=[.sl c (xs.map enc)]:=by
 cases k with
 |zero=>exact h.elim
 | succ k=>
   unfold Qz at h;rw[hu]at h;obtain⟨rows,h1,_,h3⟩:=h;obtain⟨xs,hxs⟩:=Xa6 (enc:=enc) fun r hr=>he k (Nat.lt_succ_self k) r (h3 r hr).2;subst hxs;exact⟨xs,by rw[h1,hc]⟩
theorem Wr {fs:Array Field} {l:List (Nat×Nat×TypeId)} {c:Nat} (hu:P.underlying t=some (.struct fs)) (hl:X98 P fs=l) (hc:P.cellsOf t=c) (h:Qz P k t ds):ds.length=c∧∃k',k'<k∧∀x∈l,Qz P k' x.2.2 ((ds.drop x.1).take x.2.1):=by
 cases k with
 |zero=>exact h.elim
 | succ k=>
   unfold Qz at h;rw[hu]at h;have h':ds.length=P.cellsOf t∧∀x∈X98 P fs,Qz P k x.2.2 ((ds.drop x.1).take x.2.1):=h;exact⟨hc▸h'.1,k,Nat.lt_succ_self k,fun x hx=>h'.2 x (hl▸hx)⟩
end
theorem X0N {k:Nat} {t:TypeId} {ds:List CD} (hu:Tryz.prog.underlying t=some (.int .i64)) (h:Qz Tryz.prog k t ds):∃n:Int,ds=[iC n]:=by
 obtain⟨n,h1,_⟩:=Xch hu h;exact⟨n,h1⟩
theorem dec_s {k:Nat} {ds:List CD} (h:Qz Tryz.prog k 9 ds):∃s:ByteArray,ds=[sC s]:=by
 obtain⟨s,h1,_⟩:=XcY Tryz.underlying9 h;exact⟨s,h1⟩
theorem X6A {k:Nat} {ds:List CD} (h:Qz Tryz.prog k 27 ds):∃l:List Int,ds=[.sl 1 (Xe l)]:=
 Zo (enc:=fun x=>[iC x]) Tryz.underlying27 (by kernel_rfl:Tryz.prog.cellsOf 3=1) (fun _ _ _ hr=>X0N Tryz.underlying3 hr) h
theorem dec_T:∀(k:Nat) (ds:List CD),Qz Tryz.prog k 74 ds→∃t:Tm,ds=t.enc:=by
 intro k
 induction k using Nat.strongRecOn with
 | ind k ih=>
   intro ds h;obtain⟨hl,k1,hk1,hx⟩:=Wr (l:=[(0,1,71),(1,1,3),(2,1,72)]) Tryz.underlying74 (by kernel_rfl) (by kernel_rfl:Tryz.prog.cellsOf 74=3) h
   match ds,hl with
   | [a,b,c],_=>
     obtain⟨n1,h1⟩:=X0N Tryz.underlying71 (hx (0,1,71) (by simp));obtain⟨n2,h2⟩:=X0N Tryz.underlying3 (hx (1,1,3) (by simp));obtain⟨ks,h3⟩:=Zo (enc:=Tm.enc) Tryz.underlying72 (by kernel_rfl:Tryz.prog.cellsOf 74=3) (fun k' hk' r hr=>ih k' (by omega) r hr) (hx (2,1,72) (by simp));simp only[List.drop,List.take,List.cons.injEq,and_true]at h1 h2 h3;subst h1 h2 h3;exact⟨.mk n1 n2 ks,by simp only[Tm.enc,X0Q]⟩
theorem dec_S:∀(k:Nat) (ds:List CD),Qz Tryz.prog k 76 ds→∃s:St,ds=s.enc:=by
 intro k
 induction k using Nat.strongRecOn with
 | ind k ih=>
   intro ds h;obtain⟨hl,k1,hk1,hx⟩:=Wr (l:=[(0,1,70),(1,1,3),(2,1,3),(3,1,3),(4,3,74),(7,1,24),(8,1,24),(9,1,27)]) Tryz.underlying76 (by kernel_rfl) (by kernel_rfl:Tryz.prog.cellsOf 76=10) h
   match ds,hl with
   | [a0,a1,a2,a3,a4,a5,a6,a7,a8,a9],_=>
     obtain⟨n0,h0⟩:=X0N Tryz.underlying70 (hx (0,1,70) (by simp));obtain⟨n1,h1⟩:=X0N Tryz.underlying3 (hx (1,1,3) (by simp));obtain⟨n2,h2⟩:=X0N Tryz.underlying3 (hx (2,1,3) (by simp));obtain⟨n3,h3⟩:=X0N Tryz.underlying3 (hx (3,1,3) (by simp));obtain⟨t,h4⟩:=dec_T _ _ (hx (4,3,74) (by simp));obtain⟨la,h7⟩:=Zo (enc:=St.enc) Tryz.underlying24 (by kernel_rfl:Tryz.prog.cellsOf 76=10) (fun k' hk' r hr=>ih k' (by omega) r hr) (hx (7,1,24) (by simp));obtain⟨lb',h8⟩:=Zo (enc:=St.enc) Tryz.underlying24 (by kernel_rfl:Tryz.prog.cellsOf 76=10) (fun k' hk' r hr=>ih k' (by omega) r hr) (hx (8,1,24) (by simp));obtain⟨lc,h9⟩:=X6A (hx (9,1,27) (by simp));simp only[List.drop,List.take,List.cons.injEq,and_true]at h0 h1 h2 h3 h4 h7 h8 h9;subst h0 h1 h2 h3 h7 h8 h9;refine⟨.mk n0 n1 n2 n3 t la lb' lc,?_⟩;simp only[St.enc,W0,←h4,List.cons_append,List.nil_append]
theorem dec_V {k:Nat} {ds:List CD} (h:Qz Tryz.prog k 64 ds):∃v:Vr,ds=v.enc:=by
 obtain⟨hl,k1,_,hx⟩:=Wr (l:=[(0,1,9),(1,1,62),(2,1,3),(3,1,3),(4,1,3)]) Tryz.underlying64 (by kernel_rfl) (by kernel_rfl:Tryz.prog.cellsOf 64=5) h
 match ds,hl with
 | [a0,a1,a2,a3,a4],_=>
   obtain⟨n0,h0⟩:=dec_s (hx (0,1,9) (by simp));obtain⟨n1,h1⟩:=X0N Tryz.underlying62 (hx (1,1,62) (by simp));obtain⟨n2,h2⟩:=X0N Tryz.underlying3 (hx (2,1,3) (by simp));obtain⟨n3,h3⟩:=X0N Tryz.underlying3 (hx (3,1,3) (by simp));obtain⟨n4,h4⟩:=X0N Tryz.underlying3 (hx (4,1,3) (by simp));simp only[List.drop,List.take,List.cons.injEq,and_true]at h0 h1 h2 h3 h4;subst h0 h1 h2 h3 h4;exact⟨⟨n0,n1,n2,n3,n4⟩,rfl⟩
theorem dec_H {k:Nat} {ds:List CD} (h:Qz Tryz.prog k 99 ds):∃v:Ht,ds=v.enc:=by
 obtain⟨hl,k1,_,hx⟩:=Wr (l:=[(0,1,9),(1,1,3),(2,1,3),(3,3,74)]) Tryz.underlying99 (by kernel_rfl) (by kernel_rfl:Tryz.prog.cellsOf 99=6) h
 match ds,hl with
 | [a0,a1,a2,a3,a4,a5],_=>
   obtain⟨n0,h0⟩:=dec_s (hx (0,1,9) (by simp));obtain⟨n1,h1⟩:=X0N Tryz.underlying3 (hx (1,1,3) (by simp));obtain⟨n2,h2⟩:=X0N Tryz.underlying3 (hx (2,1,3) (by simp));obtain⟨t,h3⟩:=dec_T _ _ (hx (3,3,74) (by simp));simp only[List.drop,List.take,List.cons.injEq,and_true]at h0 h1 h2 h3;subst h0 h1 h2;exact⟨⟨n0,n1,n2,t⟩,by simp only[Ht.enc,←h3,List.cons_append,List.nil_append]⟩
theorem dec_F {k:Nat} {ds:List CD} (h:Qz Tryz.prog k 26 ds):∃f:Fl,ds=f.enc:=by
 obtain⟨hl,k1,_,hx⟩:=Wr (l:=[(0,1,22),(1,1,23),(2,1,24)]) Tryz.underlying26 (by kernel_rfl) (by kernel_rfl:Tryz.prog.cellsOf 26=3) h
 match ds,hl with
 | [a0,a1,a2],_=>
   obtain⟨lv,h0⟩:=Zo (enc:=Vr.enc) Tryz.underlying22 (by kernel_rfl:Tryz.prog.cellsOf 64=5) (fun _ _ _ hr=>dec_V hr) (hx (0,1,22) (by simp));obtain⟨lh,h1⟩:=Zo (enc:=Ht.enc) Tryz.underlying23 (by kernel_rfl:Tryz.prog.cellsOf 99=6) (fun _ _ _ hr=>dec_H hr) (hx (1,1,23) (by simp));obtain⟨ls,h2⟩:=Zo (enc:=St.enc) Tryz.underlying24 (by kernel_rfl:Tryz.prog.cellsOf 76=10) (fun k' _ r hr=>dec_S k' r hr) (hx (2,1,24) (by simp));simp only[List.drop,List.take,List.cons.injEq,and_true]at h0 h1 h2;subst h0 h1 h2;exact⟨⟨lv,lh,ls⟩,by simp only[Fl.enc,Xv,Xu,W0]⟩
theorem aggF:X37 Tryz.prog 26=true:=by unfold X37;rw[Tryz.underlying26]
end Go.Proofs.YtppjennamodfdaaGreat
