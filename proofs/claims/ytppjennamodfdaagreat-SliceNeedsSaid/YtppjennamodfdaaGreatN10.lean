/- Part 10: contracts of functions of the program and of the reference, and plain facts about what they compute; used by the proof of the claimed statement. Conditions: as each theorem states. -/
import Derived.Test.YtppjennamodfdaaGreatProg
import Derived.Test.YtppjennamodfdaaGreatNHmZ
import Derived.KernelRfl
import Derived.Test.YtppjennamodfdaaGreatN1
import Derived.Test.YtppjennamodfdaaGreatN2
import Derived.Test.YtppjennamodfdaaGreatNHmZI
import Derived.Test.YtppjennamodfdaaGreatNHmZJ
import Derived.Test.YtppjennamodfdaaGreatNHmZK
import Derived.Lib.SlicesCompact
import Derived.Shelf.Slices.CompactI
import Derived.Shelf.Sort.Plain
import Derived.Shelf.Slices.In.SortNone
import Derived.Test.YtppjennamodfdaaGreatNHmZL
import Derived.Test.YtppjennamodfdaaGreatN3
import Derived.Test.YtppjennamodfdaaGreatN4
import Derived.Test.YtppjennamodfdaaGreatN6
import Derived.Test.YtppjennamodfdaaGreatN5
import Derived.Test.YtppjennamodfdaaGreatN8
import Derived.Test.YtppjennamodfdaaGreatRows
set_option linter.unusedSimpArgs false
set_option linter.unusedVariables false
set_option linter.unnecessarySimpa false
set_option maxRecDepth 100000
set_option maxHeartbeats 2000000
namespace Go.Proofs.YtppjennamodfdaaGreat
open Go Go.Hl
theorem eqG2 (a b:List Int) (h:a.length=b.length) (hall:∀k:Nat,k<a.length→a[k]? =b[k]?):a=b:=by
 apply List.ext_getElem?;intro k;by_cases hk:k<a.length
 · exact hall k hk
 rw[List.getElem?_eq_none (by omega),List.getElem?_eq_none (by omega)]
theorem X3G (a b:List Int) (ha:a.length≤1000000000) (hb:b.length≤1000000000) (d:Nat):Con Tryz.prog 19 true [lI a,lI b] (.v (lb (decide (a=b)))) none d:=by
 obtain⟨res,hres⟩:∃r,decide (a=b)=r:=⟨_,rfl⟩;rw[hres];refine X7 Tryz.func19 ?_;simp only[Tryz.f19];refine X4 ?_;refine X0<|X0<|X3 ?_;refine(Xe rfl (fun h2=>?_) fun h2=>?_)
 · try simp only[BN]at h2
   have hz:res=false:=by
    rw[←hres,decide_eq_false_iff_not];intro h;subst h;simp at h2
   subst hz;refine X4 ?_;exact Xh
 (try simp only[BN]at h2);have hle:a.length=b.length:=by omega
 clear h2;refine X0<|X0<|X3 ?_;refine X5<|(Xd [0,1,12] (fun(z:Nat)=>[(13,.v (li z))]) (fun z=>[]) (fun z=>z≤a.length∧∀k:Nat,k<z→a[k]? =b[k]?) (fun z=>a.length - z) (0:Nat) ⟨Nat.zero_le _,fun k hk=>absurd hk (Nat.not_lt_zero k)⟩ ?_ ?_)
 · exact X6 (fun n=>n) []
 rintro k ⟨hk,hall⟩;simp only[upS,X8,Xy]
 try simp only[X8,KN,Nat.reduceBEq,if_true,if_false,ins,Nat.reduceLT]
 refine X4 ?_;refine X0<|(X9 rfl (fun h8=>Xb ?_) (fun h8=>?_))
 · (try simp only[BN]at h8);have hlt:k<a.length:=by omega
   obtain⟨x,he,_⟩:=Xq hlt;obtain⟨y,hey,_⟩:=Xq (show k<b.length by omega);have hw1:=XA hlt (by omega);have hk1:k+1≤a.length:=hlt;clear hlt h8;refine X0<|X5<|X0<|X3 ?_;refine X0<|(Q6 (by kernel_rfl) (by kernel_rfl) (by rfl) (by simp[*];rfl) ?_);refine(Xe rfl (fun h11=>?_) fun h11=>?_)
   · try simp only[BN]at h11
     have hz:res=false:=by
      rw[←hres,decide_eq_false_iff_not];intro h;subst h;rw[he]at hey;cases hey;simp at h11
     subst hz;refine X4 ?_;exact Xh
   (try simp only[BN]at h11);refine X3 ?_
   exact⟨k+1,⟨hk1,fun j hj=>by
    rcases Nat.lt_or_eq_of_le (Nat.le_of_lt_succ hj)with h|h
    · exact hall j h
    rw[h,he,hey];have:x=y:=by simpa using h11
    rw[this]⟩,by omega,X6 (fun n=>n) []⟩
 try simp only[BN]at h8
 have hz:res=true:=by
  rw[←hres,decide_eq_true_eq];exact eqG2 a b hle fun j hj=>hall j (by omega)
 subst hz;refine(Xg ?_);refine X4 ?_;exact Xh
end Go.Proofs.YtppjennamodfdaaGreat

namespace Go.Proofs.YtppjennamodfdaaGreat
open Go Go.Hl
def X9F (f:Fl) (S:List St) (Rd:List (List Nat)) (W seen:List Nat) (m:List Int):Prop:=∀v,v∈m↔∃j∈seen,∃s,W[j]? =some s∧v∈ndA f S Rd s
def msN:List (Nat×List Nat):=[(511,[0,1,2]),(510,[1,2]),(509,[0,2]),(507,[0,1,3]),(508,[2]),(506,[1,3]),(505,[0,3]),(499,[0,1,4]),(504,[3]),(498,[1,4]),(497,[0,4]),(483,[0,1,5]),(496,[4]),(482,[1,5]),(481,[0,5]),(451,[0,1,6]),(480,[5]),(450,[1,6]),(449,[0,6]),(387,[0,1]),(448,[6]),(386,[1]),(385,[0,7]),(384,[7]),(257,[0]),(256,[8])]
def nxN (regs:List (Nat×RV)) (o0 o1:List (Nat×Ob)) (outs:List (Nat×Nat×RV)) (R:List Nat):HS:=
 {trS ⟨⟨78,none⟩,regs,[]⟩ outs R with objs:=if R.contains 8 then o0 else o1}
set_option maxHeartbeats 16000000 in
theorem X6Z (f:Fl) (h:Sm f) (q:List Int) (hq:q.length≤100000) (d:Nat):Con Tryz.prog 20 false [aF f,.one (.c (.sl 1 (Xj q)))] (.tup [.one (.c (if WN f [q]=0 then .sl 1 (Xj (neL f q))else .lit XY)),li (WN f [q])]) none d:=by
 have ca:=ZU f h [q] (by simp) (fun q' hq'=>by rw[List.mem_singleton.1 hq'];omega);have cd:=X04 f _ _ _ (Wl h);have hd0:X2B (flL f.body) (arL f.body (-1) 0) (rdT f)=Q5 f:=rfl;rw[hd0]at cd;have hok:=X10 h;have hDl:(Q5 f).length≤1000:=by rw[Qy];exact(Wl h).hn
 have hDS:=Qy f;obtain⟨C,hC⟩:∃x,WN f [q]=x:=⟨_,rfl⟩;have hask:=fun hz=>@X4x f [q] (hC.trans hz) q (by simp);have hz0:=fun hz=>(@X5P f [q] (hC.trans hz)).1;unfold askT at ca;simp only[X41,List.map_cons,List.map_nil]at ca;rw[hC]at ca⊢;by_cases hz:C=0
 · subst hz;have hssC:=(Wn (hz0 rfl)).2.2.2.1;obtain⟨h0,hlt⟩:=hask rfl;have cc:=Z6 (Q5 f) (QL q) (by omega) hok (by simp only[QL,List.length_map];omega) hlt;have hN:=(We hok hlt).1;have hWl:=hN.len;have hWn:=hN.nd;have hWlt:=hN.lt;rw[←ZY h0]at cc;obtain⟨res,hres⟩:∃x,Xj (neL f q)=x:=⟨_,rfl⟩;have hT:=Wl h
   have hfin:∀m:List Int,m.Nodup→X9F f (flL f.body) (rdT f) (Zh (Q5 f) (QL q)) (List.range (Zh (Q5 f) (QL q)).length) m→Xj (m.mergeSort fun x y=>decide (x≤y))=res:=by
    intro m h1 h2;rw[←hres,neL];refine congrArg Xj (X6G h1 (X3t _ List.nodup_nil) fun v=>?_);rw[h2,neA,Zx,List.mem_flatMap];constructor
    · rintro⟨j,_,s,h3,h4⟩;exact .inr ⟨s,List.mem_of_getElem? h3,h4⟩
    rintro(h3|⟨s,h3,h4⟩)
    · cases h3
    obtain⟨j,hj⟩:=List.mem_iff_getElem?.1 h3;exact⟨j,by simpa using(List.getElem?_eq_some_iff.1 hj).1,s,hj,h4⟩
   have hsh:=fun q hq=>X4a f.body true hssC q hq;have hrow:=Xbo f;have hnv:=h.vars;have hno:=h.nodes;have csr:=X4Q f (flL f.body) (arL f.body (-1) 0) (rdT f);have hTab:X6f f=ZH f (flL f.body) (arL f.body (-1) 0) (rdT f):=rfl;rw[hTab]at ca;rw[hres];obtain⟨W,hW⟩:∃x,Zh (Q5 f) (QL q)=x:=⟨_,rfl⟩;obtain⟨D,hD⟩:∃x,Q5 f=x:=⟨_,rfl⟩;rw[hW]at cc hWl hWn hWlt hfin;rw[hD]at cc cd hWl hWlt hDS hDl;obtain⟨S,hS⟩:∃x,flL f.body=x:=⟨_,rfl⟩;obtain⟨A,hA⟩:∃x,arL f.body (-1) 0=x:=⟨_,rfl⟩;obtain⟨Rd,hRd⟩:∃x,rdT f=x:=⟨_,rfl⟩;rw[hS,hA,hRd]at ca cd csr hT;rw[hS,hRd]at hfin hrow;rw[hS]at hsh hDS;simp only[if_true]at ca⊢;obtain⟨hTn,hTa,hTr,hTnod,hTrd⟩:=hT;obtain⟨vars,hats,body⟩:=f;simp only at hsh hrow hnv hno;simp only[aF,Fl.enc,List.map_cons,List.map_nil]at ca⊢;simp only[ZH]at ca cd csr;clear hask hz0 hC h hres hssC h0 hlt hN hok hd0 hTab hW hD hS hA hRd;refine X7 Tryz.func20 ?_;simp only[Tryz.f20];refine X4 ?_;refine X0<|(QQ 3 [] [⟨false,.tup [.one (.c (ZH ⟨vars,hats,body⟩ S A Rd)),li 0],none⟩] (by simp[*];rfl) trivial (XR 16 rfl) (by simp[*];first|exact⟨rfl,Iff.rfl⟩|exact⟨rfl,trivial⟩|rfl) ?_ ?_)
   · first|exact ca _|simpa using ca _
   refine X0<|X0<|X3 ?_;refine(Xe rfl (fun h3=>?_) fun h3=>?_)
   · exact absurd h3 (by simp)
   (try simp only[BN]at h3);refine X4 ?_;refine X0<|X0<|(Xp [⟨false,.v (.one (.c (.sl 1 (Q7 D)))),none⟩,⟨false,.v (.one (.c (.mp (mpI W)))),none⟩] ?_ ?_)
   · first|exact⟨cd _,cc _⟩|exact trivial|(repeat' first|exact trivial|exact cd _|exact cc _|apply And.intro)
   refine X5<|(Xd [2,6,8,28] (fun(y:List Nat×List Int)=>[]) (fun y=>[(2,.box [.c (.sl 5 (Xs vars)),.c (.sl 6 (Xt hats)),.c (.sl 10 (Xa body))]),(8,.box [.own 900001]),(28,.it (mpI W) y.1),(900001,.mp (mpZ y.2))]) (fun y=>y.1.Nodup∧X01 y.1 W.length∧y.2.Nodup∧X9F ⟨vars,hats,body⟩ S Rd W y.1 y.2∧y.2.length≤6000*y.1.length) (fun y=>W.length - y.1.length) ([],[]) ⟨List.nodup_nil,by simp[X01],List.nodup_nil,by simp[X9F],Nat.le_refl _⟩ ?_ ?_)
   · exact X6 (fun n=>if n=900001 then 23 else n) []
   rintro⟨seen,m⟩ ⟨j1,j2,j3,j4,j5⟩;simp only[upS,X8,Xy]
   try simp only[X8,KN,Nat.reduceBEq,if_true,if_false,ins,Nat.reduceLT]
   simp only at j1 j2 j3 j4 j5;clear ca cc cd;refine X1K (fun j k v hj hn=>?_) (fun hall=>?_)
   skip
   · (try simp only[BN]at h10);obtain⟨s,hd,rfl,rfl⟩:=X5c hj;have hjl:j<W.length:=(List.getElem?_eq_some_iff.1 hd).1
     have hnd2:(seen++[j]).Nodup:=by
      rw[List.nodup_append];exact⟨j1,by simp,fun a ha b hb=>by rw[List.mem_singleton.1 hb];exact fun e=>hn (e▸ha)⟩
     have hin:X01 (seen++[j]) W.length:=fun i hi=>by
      rcases List.mem_append.1 hi with h|h
      · exact j2 i h
      rw[List.mem_singleton.1 h];exact hjl
     have hle:=QD hnd2 hin;simp only[List.length_append,List.length_singleton]at hle;have hsn:s<S.length:=by have:=hWlt s (List.mem_of_getElem? hd);omega
     obtain⟨q0,hq0,_⟩:=Xq hsn;obtain⟨l,hl0,_⟩:=Xq (show s<Rd.length by omega);have hmq:=List.mem_of_getElem? hq0;have hml:=List.mem_of_getElem? hl0;have hll:=hTrd l hml;have cs:=csr s q0 l hq0 hl0 (hTnod q0 hmq) hll.1 hll.2 (by omega);have hXl:=Nat.le_trans (X9O S q0 l) hll.1;have hXb:∀x∈X1s S q0 l,x<2000:=fun x hx=>by have:=(hrow l hml).2.1 x (List.mem_filter.1 hx).1;omega
     have hnx:∀m2,m2.Nodup→(∀v,v∈m2↔v∈m∨v∈ndA ⟨vars,hats,body⟩ S Rd s)→X9F ⟨vars,hats,body⟩ S Rd W (seen++[j]) m2:=by
      intro m2 _ h2 v;rw[h2,j4];constructor
      · rintro(⟨i,h3,s',h4,h5⟩|h3)
        · exact⟨i,List.mem_append_left _ h3,s',h4,h5⟩
        exact⟨j,by simp,s,hd,h3⟩
      rintro⟨i,h3,s',h4,h5⟩;rcases List.mem_append.1 h3 with h3|h3
      · exact .inl ⟨i,h3,s',h4,h5⟩
      rw[List.mem_singleton.1 h3,hd]at h4;cases h4;exact .inr h5
     have hnda:ndA ⟨vars,hats,body⟩ S Rd s=X2x S.length (X1s S q0 l)++(if q0.do_=5 then hatV hats q0.n.toNat else []):=by simp only[ndA,hq0,hl0]
     obtain⟨E,hE⟩:∃x,(if q0.do_=5 then hatV hats q0.n.toNat else [])=x:=⟨_,rfl⟩;rw[hnda,hE]at hnx;have hE5:q0.do_=5→E=hatV hats q0.n.toNat:=fun h=>by rw[←hE,if_pos h]
     have hE0:¬q0.do_=5→E=[]:=fun h=>by rw[←hE,if_neg h]
     have hhat:q0.do_=5→∃(i:Nat) (h:Ht),q0.n=i∧hats[i]? =some h:=by
      intro h5;obtain⟨last,hs⟩:=hsh q0 hmq;have h6:=sh_hat hs h5;obtain⟨h,hh,_⟩:=Xq (show q0.n.toNat<hats.length by omega);exact⟨q0.n.toNat,h,by omega,hh⟩
     obtain⟨X,hX⟩:∃x,X1s S q0 l=x:=⟨_,rfl⟩;rw[hX]at cs hXl hXb hnx;have he':=XX hq0;clear hjl hsn hq0 hl0 hmq hml hll hX hE hnda csr j4 hWlt hsh hrow hTrd hTnod hn hd;refine X5<|X0<|X3 ?_;refine X0<|X0<|(Xp [⟨false,.v (.one (.c (.sl 1 (XB X)))),none⟩] ?_ ?_)
     · first|exact cs _|exact trivial|simpa[*]using cs _
     refine X5<|(Xd [2,6,8,9,28,35,36] (fun(u:Nat×List Int)=>[(37,.v (li u.1))]) (fun u=>[(2,.box [.c (.sl 5 (Xs vars)),.c (.sl 6 (Xt hats)),.c (.sl 10 (Xa body))]),(8,.box [.own 900001]),(28,.it (mpI W) (seen++[j])),(900001,.mp (mpZ u.2))]) (fun u=>u.1≤X.length∧Ze (X2x S.length (X.drop u.1)) u.2=Ze (X2x S.length X) m) (fun u=>X.length - u.1) (0,m) ⟨Nat.zero_le _,by simp⟩ ?_ ?_)
     · exact X6 (fun n=>n) []
     rintro⟨k,m1⟩ ⟨hk,hJ⟩;simp only[upS,X8,Xy]
     try simp only[X8,KN,Nat.reduceBEq,if_true,if_false,ins,Nat.reduceLT]
     simp only at hk hJ;clear cs;refine X4 ?_;refine X0<|(X9 rfl (fun h15=>Xb ?_) (fun h15=>?_))
     · (try simp only[BN]at h15);have hlt:k<X.length:=by simpa using h15
       obtain⟨x,he,hd⟩:=Xq hlt;have hw1:=XA hlt (by omega);have hk1:k+1≤X.length:=hlt;have hxe:(XB X)[k]? =some [iC x]:=by simp[XB,he]
       have hxb:=hXb x (List.mem_of_getElem? he);rw[hd,XbX]at hJ;clear hlt h15 he hd hXb;refine X0<|X5<|X0<|X3 ?_;refine X4 ?_;refine(Xe rfl (fun h18=>?_) fun h18=>?_)
       · (try simp only[BN]at h18);have hge:S.length≤x:=by simpa using h18
         rw[if_pos hge]at hJ;simp only[Ze]at hJ;obtain⟨v,hv⟩:∃v,(x:Int) - S.length=v:=⟨_,rfl⟩;have hw:IntKind.i64.wrap ((x:Int) - S.length)=v:=by rw[←hv];exact Xc (by omega) (by omega)
         rw[hv]at hJ;have hf:=X1Q v m1;unfold X2P at hJ;clear h18 hge hxb;rcases Classical.em (v∈m1)with hin|hin
         · rw[if_pos hin]at hf hJ;have hs:=X57 v m1 hin;refine XC (s':=⟨⟨78,none⟩,[(2,.v (.one (.at_ 2 0))),(6,.v (.one (.c (ZH ⟨vars,hats,body⟩ S A Rd)))),(8,.v (.one (.at_ 8 0))),(9,.v (li s)),(11,.v (li x)),(28,.v (.one (.at_ 28 0))),(35,.v (.one (.c (.sl 1 (XB X))))),(36,.v (li X.length)),(37,.v (li k))],[(2,.box [.c (.sl 5 (Xs vars)),.c (.sl 6 (Xt hats)),.c (.sl 10 (Xa body))]),(8,.box [.own 900001]),(28,.it (mpI W) (seen++[j])),(900001,.mp (mpZ m1))]⟩) (Xu (fun n=>n) [] rfl (by simp) (by simp) (by simp)) ?_;refine(QU (nxN [(2,.v (.one (.at_ 2 0))),(6,.v (.one (.c (ZH ⟨vars,hats,body⟩ S A Rd)))),(8,.v (.one (.at_ 8 0))),(9,.v (li s)),(11,.v (li x)),(28,.v (.one (.at_ 28 0))),(35,.v (.one (.c (.sl 1 (XB X))))),(36,.v (li X.length)),(37,.v (li k))] [(2,.box [.c (.sl 5 (Xs vars)),.c (.sl 6 (Xt hats)),.c (.sl 10 (Xa body))]),(8,.box [.own 900001]),(28,.it (mpI W) (seen++[j])),(900001,.mp (mpZ m1))] [(2,.box [.c (.sl 5 (Xs vars)),.c (.sl 6 (Xt hats)),.c (.sl 10 (Xa body))]),(8,.box [.own 900001]),(28,.it (mpI W) (seen++[j])),(900001,.mp (mpZ m1))] [(0,48,.v (.one (.own 900001))),(1,49,.v (li x)),(2,50,.v (.one (.c (ZH ⟨vars,hats,body⟩ S A Rd)))),(3,51,.v (.one (.c (ZH ⟨vars,hats,body⟩ S A Rd)))),(4,52,.v (.one (.c (.ptr [.sl 10 (Xa S),.sl 1 (Xj A),.sl 1 (Q7 Rd)])))),(5,53,.v (.one (.c (.sl 10 (Xa S))))),(6,54,.v (li S.length)),(7,55,.v (li v))]) 9 511 msN rfl (by kernel_rfl) (by kernel_rfl) (by kernel_rfl) (by kernel_rfl) (by simp[nxN,trS]) ?_ ?_)
           · simp only[msN,X03]
             repeat' apply And.intro
             all_goals(refine XT.evE rfl ?_;simp[nxN,trS,ins,lkp,del,hw,hf,hs];done)
           refine XC (s':=⟨⟨78,none⟩,[(2,.v (.one (.at_ 2 0))),(6,.v (.one (.c (ZH ⟨vars,hats,body⟩ S A Rd)))),(8,.v (.one (.at_ 8 0))),(9,.v (li s)),(11,.v (li x)),(28,.v (.one (.at_ 28 0))),(35,.v (.one (.c (.sl 1 (XB X))))),(36,.v (li X.length)),(37,.v (li k))],[(2,.box [.c (.sl 5 (Xs vars)),.c (.sl 6 (Xt hats)),.c (.sl 10 (Xa body))]),(8,.box [.own 900001]),(28,.it (mpI W) (seen++[j])),(900001,.mp (mpZ m1))]⟩) (Xu (fun n=>n) [] rfl (by simp[nxN,trS]) (by simp[nxN,trS]) (by simp)) ?_;refine X3 ?_;exact⟨(k+1,m1),⟨hk1,hJ⟩,by simp only;omega,X6 (fun n=>n) []⟩
         rw[if_neg hin]at hf hJ;have hs:=X5F m1 v;refine XC (s':=⟨⟨78,none⟩,[(2,.v (.one (.at_ 2 0))),(6,.v (.one (.c (ZH ⟨vars,hats,body⟩ S A Rd)))),(8,.v (.one (.at_ 8 0))),(9,.v (li s)),(11,.v (li x)),(28,.v (.one (.at_ 28 0))),(35,.v (.one (.c (.sl 1 (XB X))))),(36,.v (li X.length)),(37,.v (li k))],[(2,.box [.c (.sl 5 (Xs vars)),.c (.sl 6 (Xt hats)),.c (.sl 10 (Xa body))]),(8,.box [.own 900001]),(28,.it (mpI W) (seen++[j])),(900001,.mp (mpZ m1))]⟩) (Xu (fun n=>n) [] rfl (by simp) (by simp) (by simp)) ?_;refine(QU (nxN [(2,.v (.one (.at_ 2 0))),(6,.v (.one (.c (ZH ⟨vars,hats,body⟩ S A Rd)))),(8,.v (.one (.at_ 8 0))),(9,.v (li s)),(11,.v (li x)),(28,.v (.one (.at_ 28 0))),(35,.v (.one (.c (.sl 1 (XB X))))),(36,.v (li X.length)),(37,.v (li k))] [(2,.box [.c (.sl 5 (Xs vars)),.c (.sl 6 (Xt hats)),.c (.sl 10 (Xa body))]),(8,.box [.own 900001]),(28,.it (mpI W) (seen++[j])),(900001,.mp (mpZ m1))] [(2,.box [.c (.sl 5 (Xs vars)),.c (.sl 6 (Xt hats)),.c (.sl 10 (Xa body))]),(8,.box [.own 900001]),(28,.it (mpI W) (seen++[j])),(900001,.mp (mpZ (m1++[v])))] [(0,48,.v (.one (.own 900001))),(1,49,.v (li x)),(2,50,.v (.one (.c (ZH ⟨vars,hats,body⟩ S A Rd)))),(3,51,.v (.one (.c (ZH ⟨vars,hats,body⟩ S A Rd)))),(4,52,.v (.one (.c (.ptr [.sl 10 (Xa S),.sl 1 (Xj A),.sl 1 (Q7 Rd)])))),(5,53,.v (.one (.c (.sl 10 (Xa S))))),(6,54,.v (li S.length)),(7,55,.v (li v))]) 9 511 msN rfl (by kernel_rfl) (by kernel_rfl) (by kernel_rfl) (by kernel_rfl) (by simp[nxN,trS]) ?_ ?_)
         · simp only[msN,X03]
           repeat' apply And.intro
           all_goals(refine XT.evE rfl ?_;simp[nxN,trS,ins,lkp,del,hw,hf,hs];done)
         refine XC (s':=⟨⟨78,none⟩,[(2,.v (.one (.at_ 2 0))),(6,.v (.one (.c (ZH ⟨vars,hats,body⟩ S A Rd)))),(8,.v (.one (.at_ 8 0))),(9,.v (li s)),(11,.v (li x)),(28,.v (.one (.at_ 28 0))),(35,.v (.one (.c (.sl 1 (XB X))))),(36,.v (li X.length)),(37,.v (li k))],[(2,.box [.c (.sl 5 (Xs vars)),.c (.sl 6 (Xt hats)),.c (.sl 10 (Xa body))]),(8,.box [.own 900001]),(28,.it (mpI W) (seen++[j])),(900001,.mp (mpZ (m1++[v])))]⟩) (Xu (fun n=>n) [] rfl (by simp[nxN,trS]) (by simp[nxN,trS]) (by simp)) ?_;refine X3 ?_;exact⟨(k+1,m1++[v]),⟨hk1,hJ⟩,by simp only;omega,X6 (fun n=>n) []⟩
       (try simp only[BN]at h18);have hge:¬S.length≤x:=by simpa using h18
       rw[if_neg hge]at hJ;clear h18 hge hxb;refine X3 ?_;exact⟨(k+1,m1),⟨hk1,hJ⟩,by simp only;omega,X6 (fun n=>n) []⟩
     try simp only[BN]at h15
     have hkl:k=X.length:=by
      have:¬k<X.length:=by simpa using h15
      omega
     subst hkl;simp only[List.drop_length,entL_nil,Ze]at hJ;clear h15;have hm1n:m1.Nodup:=by rw[hJ];exact X3t _ j3
     have hm1m:∀v,v∈m1↔v∈m∨v∈X2x S.length X:=fun v=>by rw[hJ];exact Zx _ _ _
     have hm1l:m1.length≤m.length+5000:=by
      rw[hJ];have:=X45 (X2x S.length X) m;have:=X9f S.length X;omega
     clear hJ hXb;obtain⟨so,sc,sv,sn,⟨to,tn,tk⟩,sa,sb,sbs⟩:=q0;simp only[St.enc,Tm.enc,List.cons_append,List.nil_append]at he';simp only[St.do_,St.n]at hE5 hE0 hhat;refine(Xg ?_);refine X4 ?_;refine X4 ?_;refine(Xe rfl (fun h26=>?_) fun h26=>?_)
     · (try simp only[BN]at h26);have h5:so=5:=by simpa using h26
       obtain⟨i,hh,hsn,hhi⟩:=hhat h5;subst hsn;rw[hE5 h5,hatV,Int.toNat_natCast,hhi]at hnx;simp only at hnx;have hv:vrT hh.term m1=Ze (tmV hh.term) m1:=X5J hh.term m1;have hvn:(vrT hh.term m1).Nodup:=by rw[hv];exact X3t _ hm1n
       have hN:=hnx (vrT hh.term m1) hvn (fun v=>by rw[hv,Zx,hm1m,List.mem_append,or_assoc]);have hnh:=Z5 (List.mem_of_getElem? hhi)
       have hvl:(vrT hh.term m1).length≤m1.length+1000:=by
        rw[hv];have:=X45 (tmV hh.term) m1;have:=X7B hh.term;omega
       have cvv:=X2i put2_con hh.term (by omega) m1;obtain⟨M2,hM2⟩:∃x,vrT hh.term m1=x:=⟨_,rfl⟩;rw[hM2]at hvn hN hvl cvv;obtain⟨hnm,hlo,hhg,⟨uo,un,uk⟩⟩:=hh;have hhe:(Xt hats)[i]? =some [sC hnm,iC hlo,iC hhg,iC uo,iC un,.sl 3 (Xo uk)]:=by simp[hhi,Ht.enc,Tm.enc]
       simp only[aT,Tm.enc,List.map_cons,List.map_nil]at cvv;clear hv hM2 hnx hhat hE5 hE0 hhi h26 hnh;refine(XS ?_);refine RunsN.cutE 8 [] (by simp[hhe];rfl) trivial (le_refl _) ?_;refine RunsN.callA (fun n=>if n=1000000 then 8 else n) (fun n=>if n=1000000 then 8 else if n=900001 then 30 else n) cvv fun _ _=>?_;refine RunsN.doneE [] rfl trivial ?_;exact⟨(seen++[j],M2),⟨hnd2,hin,hvn,hN,by simp only[List.length_append,List.length_singleton];omega⟩,by simp only[List.length_append,List.length_singleton];omega,Xu (fun n=>if n=900001 then 30 else n) [] rfl (by simp[upS,X8,Qj,QT,del,ins,CV.ren,Ob.ren]) (by simp[upS,Qj,QT,del,ins,CV.ren,Ob.ren]) (by simp[upS])⟩
     (try simp only[BN]at h26);have h5:¬so=5:=by simpa using h26
     rw[hE0 h5]at hnx;have hN:=hnx m1 hm1n (fun v=>by rw[hm1m,List.append_nil]);clear hnx hhat hE5 hE0 h26;exact⟨(seen++[j],m1),⟨hnd2,hin,hm1n,hN,by simp only[List.length_append,List.length_singleton];omega⟩,by simp only[List.length_append,List.length_singleton];omega,X6 (fun n=>n) []⟩
   try simp only[BN]at h10
   have hneed:X9F ⟨vars,hats,body⟩ S Rd W (List.range W.length) m:=by
    intro v;rw[j4];constructor
    · rintro⟨j,hj,h⟩;exact⟨j,by simpa using j2 j hj,h⟩
    rintro⟨j,hj,h⟩;exact⟨j,hall j (by rw[X56];simpa using hj),h⟩
   have hsl:=QD j1 j2;have cs:=X4P m (by omega) j3;rw[hfin m j3 hneed]at cs;clear hfin hneed hall j2 j4 csr hrow hsh;refine(Xg ?_);refine XC (Xbr 900001 rfl) ?_;refine Xk [⟨false,.v (.one (.c (.sl 1 res))),none⟩] ?_ ?_
   · first|exact cs _|exact trivial|simpa[*]using cs _
   exact Xh
 simp only[if_neg hz]at ca⊢;clear hask hok cd hz0 hDS;obtain⟨vars,hats,body⟩:=f;simp only[aF,Fl.enc,List.map_cons,List.map_nil]at ca⊢;refine X7 Tryz.func20 ?_;simp only[Tryz.f20];refine X4 ?_;refine X0<|(QQ 3 [] [⟨false,.tup [.one (.c (.lit (.pointer none))),li C],none⟩] (by simp[*];rfl) trivial (XR 16 rfl) (by simp[*];first|exact⟨rfl,Iff.rfl⟩|exact⟨rfl,trivial⟩|rfl) ?_ ?_)
 · first|exact ca _|simpa using ca _
 refine X0<|X0<|X3 ?_;refine(Xe rfl (fun h3=>?_) fun h3=>?_)
 · (try simp only[BN]at h3);refine X4 ?_;exact Xh
 exact absurd h3 (by simp[hz])
end Go.Proofs.YtppjennamodfdaaGreat

namespace Go.Proofs.YtppjennamodfdaaGreat
open Go Go.Hl Go.RowKit Go.ChangeShapes Go.Proofs.YtppjennamodfdaaGreat
theorem tiled:X9C Tryz.prog:=tiled_mk (by kernel_rfl)
theorem own:ownKnob Tryz.prog.godebug=none:=by kernel_rfl
theorem laidOut:laidOutB Tryz.prog=true:=by kernel_rfl
section
variable {P:Program} {k:Nat} {t:TypeId} {ds:List CD}
theorem Zy {α:Type} {enc:α→List CD} {e:TypeId} {c:Nat} (hu:P.underlying t=some (.slice e)) (hc:P.cellsOf e=c) (he:∀k',k'<k→∀r,QG P k' e r→∃x,r=enc x) (h:QG P k t ds):∃xs:List α,ds=[.sl c (xs.map enc)]:=by
 cases k with
 |zero=>exact h.elim
 | succ k=>
   unfold QG at h;rw[hu]at h;obtain⟨rows,h1,_,h3⟩:=h;obtain⟨xs,hxs⟩:=X9b (enc:=enc) fun r hr=>he k (Nat.lt_succ_self k) r (h3 r hr).2;subst hxs;exact⟨xs,by rw[h1,hc]⟩
theorem WV {fs:Array Field} {l:List (Nat×Nat×TypeId)} {c:Nat} (hu:P.underlying t=some (.struct fs)) (hl:X9Q P fs=l) (hc:P.cellsOf t=c) (h:QG P k t ds):ds.length=c∧∃k',k'<k∧∀x∈l,QG P k' x.2.2 ((ds.drop x.1).take x.2.1):=by
 cases k with
 |zero=>exact h.elim
 | succ k=>
   unfold QG at h;rw[hu]at h;have h':ds.length=P.cellsOf t∧∀x∈X9Q P fs,QG P k x.2.2 ((ds.drop x.1).take x.2.1):=h;exact⟨hc▸h'.1,k,Nat.lt_succ_self k,fun x hx=>h'.2 x (hl▸hx)⟩
end
theorem X0K {k:Nat} {t:TypeId} {ds:List CD} (hu:Tryz.prog.underlying t=some (.int .i64)) (h:QG Tryz.prog k t ds):∃n:Int,ds=[iC n]:=by
 obtain⟨n,h1,_⟩:=XbW hu h;exact⟨n,h1⟩
theorem dec_s {k:Nat} {ds:List CD} (h:QG Tryz.prog k 9 ds):∃s:ByteArray,ds=[sC s]:=by
 obtain⟨s,h1,_⟩:=XcN Tryz.underlying9 h;exact⟨s,h1⟩
theorem dec_I {k:Nat} {ds:List CD} (h:QG Tryz.prog k 27 ds):∃l:List Int,ds=[.sl 1 (Xj l)]:=
 Zy (enc:=fun x=>[iC x]) Tryz.underlying27 (by kernel_rfl:Tryz.prog.cellsOf 3=1) (fun _ _ _ hr=>X0K Tryz.underlying3 hr) h
theorem dec_T:∀(k:Nat) (ds:List CD),QG Tryz.prog k 74 ds→∃t:Tm,ds=t.enc:=by
 intro k
 induction k using Nat.strongRecOn with
 | ind k ih=>
   intro ds h;obtain⟨hl,k1,hk1,hx⟩:=WV (l:=[(0,1,71),(1,1,3),(2,1,72)]) Tryz.underlying74 (by kernel_rfl) (by kernel_rfl:Tryz.prog.cellsOf 74=3) h
   match ds,hl with
   | [a,b,c],_=>
     obtain⟨n1,h1⟩:=X0K Tryz.underlying71 (hx (0,1,71) (by simp));obtain⟨n2,h2⟩:=X0K Tryz.underlying3 (hx (1,1,3) (by simp));obtain⟨ks,h3⟩:=Zy (enc:=Tm.enc) Tryz.underlying72 (by kernel_rfl:Tryz.prog.cellsOf 74=3) (fun k' hk' r hr=>ih k' (by omega) r hr) (hx (2,1,72) (by simp));simp only[List.drop,List.take,List.cons.injEq,and_true]at h1 h2 h3;subst h1 h2 h3;exact⟨.mk n1 n2 ks,by simp only[Tm.enc,X0N]⟩
theorem dec_S:∀(k:Nat) (ds:List CD),QG Tryz.prog k 76 ds→∃s:St,ds=s.enc:=by
 intro k
 induction k using Nat.strongRecOn with
 | ind k ih=>
   intro ds h;obtain⟨hl,k1,hk1,hx⟩:=WV (l:=[(0,1,70),(1,1,3),(2,1,3),(3,1,3),(4,3,74),(7,1,24),(8,1,24),(9,1,27)]) Tryz.underlying76 (by kernel_rfl) (by kernel_rfl:Tryz.prog.cellsOf 76=10) h
   match ds,hl with
   | [a0,a1,a2,a3,a4,a5,a6,a7,a8,a9],_=>
     obtain⟨n0,h0⟩:=X0K Tryz.underlying70 (hx (0,1,70) (by simp));obtain⟨n1,h1⟩:=X0K Tryz.underlying3 (hx (1,1,3) (by simp));obtain⟨n2,h2⟩:=X0K Tryz.underlying3 (hx (2,1,3) (by simp));obtain⟨n3,h3⟩:=X0K Tryz.underlying3 (hx (3,1,3) (by simp));obtain⟨t,h4⟩:=dec_T _ _ (hx (4,3,74) (by simp));obtain⟨la,h7⟩:=Zy (enc:=St.enc) Tryz.underlying24 (by kernel_rfl:Tryz.prog.cellsOf 76=10) (fun k' hk' r hr=>ih k' (by omega) r hr) (hx (7,1,24) (by simp));obtain⟨lb',h8⟩:=Zy (enc:=St.enc) Tryz.underlying24 (by kernel_rfl:Tryz.prog.cellsOf 76=10) (fun k' hk' r hr=>ih k' (by omega) r hr) (hx (8,1,24) (by simp));obtain⟨lc,h9⟩:=dec_I (hx (9,1,27) (by simp));simp only[List.drop,List.take,List.cons.injEq,and_true]at h0 h1 h2 h3 h4 h7 h8 h9;subst h0 h1 h2 h3 h7 h8 h9;refine⟨.mk n0 n1 n2 n3 t la lb' lc,?_⟩;simp only[St.enc,W2,←h4,List.cons_append,List.nil_append]
theorem dec_V {k:Nat} {ds:List CD} (h:QG Tryz.prog k 64 ds):∃v:Vr,ds=v.enc:=by
 obtain⟨hl,k1,_,hx⟩:=WV (l:=[(0,1,9),(1,1,62),(2,1,3),(3,1,3),(4,1,3)]) Tryz.underlying64 (by kernel_rfl) (by kernel_rfl:Tryz.prog.cellsOf 64=5) h
 match ds,hl with
 | [a0,a1,a2,a3,a4],_=>
   obtain⟨n0,h0⟩:=dec_s (hx (0,1,9) (by simp));obtain⟨n1,h1⟩:=X0K Tryz.underlying62 (hx (1,1,62) (by simp));obtain⟨n2,h2⟩:=X0K Tryz.underlying3 (hx (2,1,3) (by simp));obtain⟨n3,h3⟩:=X0K Tryz.underlying3 (hx (3,1,3) (by simp));obtain⟨n4,h4⟩:=X0K Tryz.underlying3 (hx (4,1,3) (by simp));simp only[List.drop,List.take,List.cons.injEq,and_true]at h0 h1 h2 h3 h4;subst h0 h1 h2 h3 h4;exact⟨⟨n0,n1,n2,n3,n4⟩,rfl⟩
theorem dec_H {k:Nat} {ds:List CD} (h:QG Tryz.prog k 99 ds):∃v:Ht,ds=v.enc:=by
 obtain⟨hl,k1,_,hx⟩:=WV (l:=[(0,1,9),(1,1,3),(2,1,3),(3,3,74)]) Tryz.underlying99 (by kernel_rfl) (by kernel_rfl:Tryz.prog.cellsOf 99=6) h
 match ds,hl with
 | [a0,a1,a2,a3,a4,a5],_=>
   obtain⟨n0,h0⟩:=dec_s (hx (0,1,9) (by simp));obtain⟨n1,h1⟩:=X0K Tryz.underlying3 (hx (1,1,3) (by simp));obtain⟨n2,h2⟩:=X0K Tryz.underlying3 (hx (2,1,3) (by simp));obtain⟨t,h3⟩:=dec_T _ _ (hx (3,3,74) (by simp));simp only[List.drop,List.take,List.cons.injEq,and_true]at h0 h1 h2 h3;subst h0 h1 h2;exact⟨⟨n0,n1,n2,t⟩,by simp only[Ht.enc,←h3,List.cons_append,List.nil_append]⟩
theorem dec_F {k:Nat} {ds:List CD} (h:QG Tryz.prog k 26 ds):∃f:Fl,ds=f.enc:=by
 obtain⟨hl,k1,_,hx⟩:=WV (l:=[(0,1,22),(1,1,23),(2,1,24)]) Tryz.underlying26 (by kernel_rfl) (by kernel_rfl:Tryz.prog.cellsOf 26=3) h
 match ds,hl with
 | [a0,a1,a2],_=>
   obtain⟨lv,h0⟩:=Zy (enc:=Vr.enc) Tryz.underlying22 (by kernel_rfl:Tryz.prog.cellsOf 64=5) (fun _ _ _ hr=>dec_V hr) (hx (0,1,22) (by simp));obtain⟨lh,h1⟩:=Zy (enc:=Ht.enc) Tryz.underlying23 (by kernel_rfl:Tryz.prog.cellsOf 99=6) (fun _ _ _ hr=>dec_H hr) (hx (1,1,23) (by simp));obtain⟨ls,h2⟩:=Zy (enc:=St.enc) Tryz.underlying24 (by kernel_rfl:Tryz.prog.cellsOf 76=10) (fun k' _ r hr=>dec_S k' r hr) (hx (2,1,24) (by simp));simp only[List.drop,List.take,List.cons.injEq,and_true]at h0 h1 h2;subst h0 h1 h2;exact⟨⟨lv,lh,ls⟩,by simp only[Fl.enc,Xs,Xt,W2]⟩
theorem aggF:aggT Tryz.prog 26=true:=by unfold aggT;rw[Tryz.underlying26]
end Go.Proofs.YtppjennamodfdaaGreat
