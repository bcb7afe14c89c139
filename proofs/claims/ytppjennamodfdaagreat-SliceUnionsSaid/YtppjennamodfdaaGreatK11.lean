/- Part 11: contracts of functions of the program and of the reference, and plain facts about what they compute; used by the proof of the claimed statement. Conditions: as each theorem states. -/
import Derived.Test.YtppjennamodfdaaGreatK10
import Derived.Test.YtppjennamodfdaaGreatK7
set_option linter.unusedSimpArgs false
set_option linter.unusedVariables false
set_option linter.unnecessarySimpa false
set_option maxRecDepth 100000
set_option maxHeartbeats 2000000
namespace Go.Proofs.YtppjennamodfdaaGreat
open Go Go.Hl
set_option maxHeartbeats 8000000 in
theorem X4H (f:Fl) (h:Sm f) (q:List Int) (hq:q.length≤100000) (d:Nat):Con Tryz.prog 13 false [aF f,.one (.c (.sl 1 (Xe q)))] (slR (Zm f [q]) (fwL f q)) none d:=by
 have ca:=ZX f h [q] (by simp) (fun q' hq'=>by rw[List.mem_singleton.1 hq'];omega);have cd:=X0e f _ _ _ (Z6 h);have hd0:X2H (flL f.body) (arL f.body (-1) 0) (rdT f)=Q4 f:=rfl;rw[hd0]at cd;have hrow:=X0b h;have hDl:(Q4 f).length≤1000:=by rw[QN];exact(Z6 h).hn
 obtain⟨C,hC⟩:∃x,Zm f [q]=x:=⟨_,rfl⟩;have hask:=fun hz=>@X4G f [q] (hC.trans hz) q (by simp);unfold askT at ca;simp only[X3g,List.map_cons,List.map_nil]at ca;unfold slR fwL;rw[hC]at ca⊢;obtain⟨R,hR⟩:∃x,X2G (Q4 f).length (ZM (X1k (Q4 f)) (QG q))=x:=⟨_,rfl⟩;rw[hR];obtain⟨T,hT⟩:∃x,X5W f=x:=⟨_,rfl⟩;have hT2:ZF f (flL f.body) (arL f.body (-1) 0) (rdT f)=T:=hT;rw[hT]at ca;rw[hT2]at cd;obtain⟨D,hD⟩:∃x,Q4 f=x:=⟨_,rfl⟩;rw[hD]at cd hrow hDl hask hR;have cv:=X3Y D hDl hrow;have hok:=X7P hDl hrow;have hEl:=X0U D;obtain⟨E,hE⟩:∃x,X1k D=x:=⟨_,rfl⟩;rw[hE]at cv hok hEl hR;clear h hC hT hT2 hd0 hD hrow hE;rw[←hEl]at hask hR;by_cases hz:C=0
 · subst hz;obtain⟨h0,hlt⟩:=hask rfl;have cc:=WZ E (QG q) (by omega) hok (by simp only[QG,List.length_map];omega) hlt;have hN:=(WG hok hlt).1;have cs:=X2L E.length _ (by omega) hN;rw[hR]at cs;rw[ZW h0]at ca⊢;simp only[if_true]at ca⊢;clear hask hR h0 hlt hN hok;obtain⟨vars,hats,body⟩:=f;simp only[aF,Fl.enc,List.map_cons,List.map_nil]at ca⊢;refine X5 Tryz.func13 ?_;simp only[Tryz.f13];refine X3 ?_;refine X1<|(QO 3 [] [⟨false,.tup [.one (.c T),li 0],none⟩] (by simp[*];rfl) trivial (XJ 11 rfl) (by simp[*];first|exact⟨rfl,Iff.rfl⟩|exact⟨rfl,trivial⟩|rfl) ?_ ?_)
   · first|exact ca _|simpa using ca _
   refine X1<|X1<|X2 ?_;refine(Xa rfl (fun h3=>?_) fun h3=>?_)
   · exact absurd h3 (by simp)
   (try simp only[BN]at h3);refine Xj [⟨false,.v (.one (.c (.sl 1 (QB D)))),none⟩,⟨false,.v (.one (.c (.sl 1 (QB E)))),none⟩,⟨false,.v (.one (.c (.mp (mpI (ZM E (QG q)))))),none⟩,⟨false,.v (.one (.c (.sl 1 (XW R)))),none⟩] ?_ ?_
   · first|exact⟨cd _,cv _,cc _,cs _⟩|exact trivial|(repeat' first|exact trivial|exact cd _|exact cv _|exact cc _|exact cs _|apply And.intro)
   exact Xc
 simp only[if_neg hz]at ca⊢;clear hask hok hR cd cv;obtain⟨vars,hats,body⟩:=f;simp only[aF,Fl.enc,List.map_cons,List.map_nil]at ca⊢;refine X5 Tryz.func13 ?_;simp only[Tryz.f13];refine X3 ?_;refine X1<|(QO 3 [] [⟨false,.tup [.one (.c (.lit (.pointer none))),li C],none⟩] (by simp[*];rfl) trivial (XJ 11 rfl) (by simp[*];first|exact⟨rfl,Iff.rfl⟩|exact⟨rfl,trivial⟩|rfl) ?_ ?_)
 · first|exact ca _|simpa using ca _
 refine X1<|X1<|X2 ?_;refine(Xa rfl (fun h3=>?_) fun h3=>?_)
 · (try simp only[BN]at h3);refine X3 ?_;exact Xc
 exact absurd h3 (by simp[hz])
end Go.Proofs.YtppjennamodfdaaGreat

namespace Go.Proofs.YtppjennamodfdaaGreat
open Go Go.Hl
noncomputable def chL (f:Fl) (a b:List Int):List Nat:=(fwL f a).filter fun d=>decide (d∈ZM (Q4 f) (QG b))
set_option maxHeartbeats 8000000 in
theorem chop_con (f:Fl) (h:Sm f) (q q2:List Int) (hq:q.length≤100000) (hq2:q2.length≤100000) (d:Nat):Con Tryz.prog 14 false [aF f,.one (.c (.sl 1 (Xe q))),.one (.c (.sl 1 (Xe q2)))] (slR (Zm f [q,q2]) (chL f q q2)) none d:=by
 have ca:=ZX f h [q,q2] (by simp) (fun q' hq'=>by
  simp only[List.mem_cons,List.not_mem_nil,or_false]at hq'
  rcases hq' with rfl|rfl<;>omega)
 have cd:=X0e f _ _ _ (Z6 h);have hd0:X2H (flL f.body) (arL f.body (-1) 0) (rdT f)=Q4 f:=rfl;rw[hd0]at cd;have hrow:=X0b h;have hok1:=X4x h;have hDl:(Q4 f).length≤1000:=by rw[QN];exact(Z6 h).hn
 obtain⟨C,hC⟩:∃x,Zm f [q,q2]=x:=⟨_,rfl⟩;have hask:=fun hz=>@X4G f [q,q2] (hC.trans hz) q (by simp);have hask2:=fun hz=>@X4G f [q,q2] (hC.trans hz) q2 (by simp);unfold askT at ca;simp only[X3g,List.map_cons,List.map_nil]at ca;unfold slR chL fwL;rw[hC]at ca⊢;obtain⟨R,hR⟩:∃x,X2G (Q4 f).length (ZM (X1k (Q4 f)) (QG q))=x:=⟨_,rfl⟩;rw[hR];obtain⟨T,hT⟩:∃x,X5W f=x:=⟨_,rfl⟩;have hT2:ZF f (flL f.body) (arL f.body (-1) 0) (rdT f)=T:=hT;rw[hT]at ca;rw[hT2]at cd;obtain⟨D,hD⟩:∃x,Q4 f=x:=⟨_,rfl⟩;rw[hD]at cd hrow hDl hask hask2 hR hok1⊢;have cv:=X3Y D hDl hrow;have hok:=X7P hDl hrow;have hEl:=X0U D;obtain⟨E,hE⟩:∃x,X1k D=x:=⟨_,rfl⟩;rw[hE]at cv hok hEl hR;clear h hC hT hT2 hd0 hD hrow hE;rw[←hEl]at hask hR;have hRl:=X8N E.length (ZM E (QG q));rw[hR]at hRl;by_cases hz:C=0
 · subst hz;obtain⟨h0,hlt⟩:=hask rfl;obtain⟨h02,hlt2⟩:=hask2 rfl;have cc:=WZ E (QG q) (by omega) hok (by simp only[QG,List.length_map];omega) hlt;have cc2:=WZ D (QG q2) (by omega) hok1 (by simp only[QG,List.length_map];omega) hlt2;have hN:=(WG hok hlt).1;have cs:=X2L E.length _ (by omega) hN;rw[hR]at cs;rw[ZW h0,ZW h02]at ca⊢;simp only[if_true]at ca⊢;clear hask hask2 hR h0 hlt hN hok hok1 h02 hlt2;obtain⟨W,hW⟩:∃x,ZM D (QG q2)=x:=⟨_,rfl⟩;rw[hW]at cc2⊢;obtain⟨res,hres⟩:∃x,R.filter (fun d=>decide (d∈W))=x:=⟨_,rfl⟩;rw[hres];clear hW;obtain⟨vars,hats,body⟩:=f;simp only[aF,Fl.enc,List.map_cons,List.map_nil]at ca⊢;refine X5 Tryz.func14 ?_;simp only[Tryz.f14];refine X3 ?_;refine X1<|(QO 4 [] [⟨false,.tup [.one (.c T),li 0],none⟩] (by simp[*];rfl) trivial (XJ 19 rfl) (by simp[*];first|exact⟨rfl,Iff.rfl⟩|exact⟨rfl,trivial⟩|rfl) ?_ ?_)
   · first|exact ca _|simpa using ca _
   refine X1<|X1<|X2 ?_;refine(Xa rfl (fun h3=>?_) fun h3=>?_)
   · exact absurd h3 (by simp)
   (try simp only[BN]at h3);refine Xj [⟨false,.v (.one (.c (.sl 1 (QB D)))),none⟩] ?_ ?_
   · first|exact cd _|exact trivial|simpa[*]using cd _
   refine Xj [⟨false,.v (.one (.c (.mp (mpI W)))),none⟩] ?_ ?_
   · first|exact cc2 _|exact trivial|simpa[*]using cc2 _
   refine X3 ?_;refine X1<|X1<|(Xm [⟨false,.v (.one (.c (.sl 1 (QB E)))),none⟩,⟨false,.v (.one (.c (.mp (mpI (ZM E (QG q)))))),none⟩,⟨false,.v (.one (.c (.sl 1 (XW R)))),none⟩] ?_ ?_)
   · first|exact⟨cv _,cc _,cs _⟩|exact trivial|(repeat' first|exact trivial|exact cv _|exact cc _|exact cs _|apply And.intro)
   refine X4<|(Xf [11,35,36] (fun(u:Nat×List Nat)=>[(12,.v (.one (.own 1012))),(37,.v (li u.1))]) (fun u=>[(1012,.row 3 1 (XW u.2))]) (fun u=>u.1≤R.length∧u.2++(R.drop u.1).filter (fun d=>decide (d∈W))=res∧u.2.length≤u.1) (fun u=>R.length - u.1) (0,[]) ⟨Nat.zero_le _,by simpa using hres,Nat.le_refl _⟩ ?_ ?_)
   · exact X6 (fun n=>n) [1012]
   rintro⟨k,out⟩ ⟨hk,hJ,hol⟩;simp only[upS,X8,Xw]
   try simp only[X8,KN,Nat.reduceBEq,if_true,if_false,ins,Nat.reduceLT]
   simp only at hk hJ hol;clear hres ca cd cv cc cc2 cs;refine X3 ?_;refine X1<|(X7 rfl (fun h12=>Xb ?_) (fun h12=>?_))
   · (try simp only[BN]at h12);have hlt:k<R.length:=by simpa using h12
     obtain⟨x,he,hd⟩:=Xs hlt;have hw1:=XA hlt (by omega);have hk1:k+1≤R.length:=hlt;have hxe:(XW R)[k]? =some [iC x]:=by simp[XW,he]
     have hf:=X23 x W;have hroom:Qq (out.length+1) 8:=XB (by omega) (by decide);rw[hd]at hJ;clear hlt h12 he hd;refine X1<|X4<|X1<|X2 ?_;rcases Classical.em (x∈W)with hx|hx
     · rw[if_pos hx]at hf;rw[List.filter_cons,if_pos (by simpa using hx)]at hJ;refine X3 ?_;refine(Xa rfl (fun h15=>?_) fun h15=>?_)
       · (try simp only[BN]at h15);refine X2 ?_;refine X2 ?_;exact⟨(k+1,out++[x]),⟨hk1,by simpa using hJ,by simp;omega⟩,by simp only;omega,X6 (fun n=>if n=1012 then 47 else n) []⟩
       cases h15
     rw[if_neg hx]at hf;rw[List.filter_cons,if_neg (by simpa using hx)]at hJ;refine X3 ?_;refine(Xa rfl (fun h15=>?_) fun h15=>?_)
     · cases h15
     (try simp only[BN]at h15);refine X2 ?_;exact⟨(k+1,out),⟨hk1,hJ,by simp only;omega⟩,by simp only;omega,X6 (fun n=>n) []⟩
   try simp only[BN]at h12
   have hkl:k=R.length:=by
    have:¬k<R.length:=by simpa using h12
    omega
   subst hkl;simp only[List.drop_length,List.filter_nil,List.append_nil]at hJ;subst hJ;clear h12;refine(Xi ?_);refine XC (XJ 1012 rfl) ?_;refine X3 ?_;exact Xc
 simp only[if_neg hz]at ca⊢;clear hask hask2 hok hok1 hR hRl cd cv;obtain⟨vars,hats,body⟩:=f;simp only[aF,Fl.enc,List.map_cons,List.map_nil]at ca⊢;refine X5 Tryz.func14 ?_;simp only[Tryz.f14];refine X3 ?_;refine X1<|(QO 4 [] [⟨false,.tup [.one (.c (.lit (.pointer none))),li C],none⟩] (by simp[*];rfl) trivial (XJ 19 rfl) (by simp[*];first|exact⟨rfl,Iff.rfl⟩|exact⟨rfl,trivial⟩|rfl) ?_ ?_)
 · first|exact ca _|simpa using ca _
 refine X1<|X1<|X2 ?_;refine(Xa rfl (fun h3=>?_) fun h3=>?_)
 · (try simp only[BN]at h3);refine X3 ?_;exact Xc
 exact absurd h3 (by simp[hz])
end Go.Proofs.YtppjennamodfdaaGreat

namespace Go.Proofs.YtppjennamodfdaaGreat
open Go Go.Hl
theorem eqG2 (a b:List Int) (h:a.length=b.length) (hall:∀k:Nat,k<a.length→a[k]? =b[k]?):a=b:=by
 apply List.ext_getElem?;intro k;by_cases hk:k<a.length
 · exact hall k hk
 rw[List.getElem?_eq_none (by omega),List.getElem?_eq_none (by omega)]
theorem X0H (a b:List Int) (ha:a.length≤1000000000) (hb:b.length≤1000000000) (d:Nat):Con Tryz.prog 19 true [lI a,lI b] (.v (lb (decide (a=b)))) none d:=by
 obtain⟨res,hres⟩:∃r,decide (a=b)=r:=⟨_,rfl⟩;rw[hres];refine X5 Tryz.func19 ?_;simp only[Tryz.f19];refine X3 ?_;refine X1<|X1<|X2 ?_;refine(Xa rfl (fun h2=>?_) fun h2=>?_)
 · try simp only[BN]at h2
   have hz:res=false:=by
    rw[←hres,decide_eq_false_iff_not];intro h;subst h;simp at h2
   subst hz;refine X3 ?_;exact Xc
 (try simp only[BN]at h2);have hle:a.length=b.length:=by omega
 clear h2;refine X1<|X1<|X2 ?_;refine X4<|(Xf [0,1,12] (fun(z:Nat)=>[(13,.v (li z))]) (fun z=>[]) (fun z=>z≤a.length∧∀k:Nat,k<z→a[k]? =b[k]?) (fun z=>a.length - z) (0:Nat) ⟨Nat.zero_le _,fun k hk=>absurd hk (Nat.not_lt_zero k)⟩ ?_ ?_)
 · exact X6 (fun n=>n) []
 rintro k ⟨hk,hall⟩;simp only[upS,X8,Xw]
 try simp only[X8,KN,Nat.reduceBEq,if_true,if_false,ins,Nat.reduceLT]
 refine X3 ?_;refine X1<|(X7 rfl (fun h8=>Xb ?_) (fun h8=>?_))
 · (try simp only[BN]at h8);have hlt:k<a.length:=by omega
   obtain⟨x,he,_⟩:=Xs hlt;obtain⟨y,hey,_⟩:=Xs (show k<b.length by omega);have hw1:=XA hlt (by omega);have hk1:k+1≤a.length:=hlt;clear hlt h8;refine X1<|X4<|X1<|X2 ?_;refine X1<|(Qc (by kernel_rfl) (by kernel_rfl) (by rfl) (by simp[*];rfl) ?_);refine(Xa rfl (fun h11=>?_) fun h11=>?_)
   · try simp only[BN]at h11
     have hz:res=false:=by
      rw[←hres,decide_eq_false_iff_not];intro h;subst h;rw[he]at hey;cases hey;simp at h11
     subst hz;refine X3 ?_;exact Xc
   (try simp only[BN]at h11);refine X2 ?_
   exact⟨k+1,⟨hk1,fun j hj=>by
    rcases Nat.lt_or_eq_of_le (Nat.le_of_lt_succ hj)with h|h
    · exact hall j h
    rw[h,he,hey];have:x=y:=by simpa using h11
    rw[this]⟩,by omega,X6 (fun n=>n) []⟩
 try simp only[BN]at h8
 have hz:res=true:=by
  rw[←hres,decide_eq_true_eq];exact eqG2 a b hle fun j hj=>hall j (by omega)
 subst hz;refine(Xi ?_);refine X3 ?_;exact Xc
end Go.Proofs.YtppjennamodfdaaGreat

namespace Go.Proofs.YtppjennamodfdaaGreat
open Go Go.Hl
def X4C:List Int→Int→Nat→Int
 |[],_,_=>-1
 |y::l,x,k=>if x=y then k else X4C l x (k+1)
theorem Xae:∀(l:List Int) (x:Int) (k:Nat),x∈l→0≤X4C l x k
 |[],_,_,h=>by cases h
 | y::l,x,k,h=>by
   simp only[X4C];split
   · omega
   rename_i hne;rcases List.mem_cons.1 h with h|h
   · exact absurd h hne
   exact Xae l x _ h
theorem Xcx (l:List Int) (x:Int) (hl:l.length≤1000000000) (d:Nat):Con Tryz.prog 52 true [lI l,li x] (.v (li (X4C l x 0))) none d:=by
 obtain⟨res,hres⟩:∃r,X4C l x 0=r:=⟨_,rfl⟩;rw[hres];refine X5 Tryz.func52 ?_;simp only[Tryz.f52];refine X3 ?_;refine X1<|X1<|X2 ?_;refine X4<|(Xf [0,1,7] (fun(z:Nat)=>[(8,.v (li z))]) (fun z=>[]) (fun z=>z≤l.length∧X4C (l.drop z) x z=res) (fun z=>l.length - z) (0:Nat) ⟨Nat.zero_le _,hres⟩ ?_ ?_)
 · exact X6 (fun n=>n) []
 rintro k ⟨hk,hJ⟩;simp only[upS,X8,Xw]
 try simp only[X8,KN,Nat.reduceBEq,if_true,if_false,ins,Nat.reduceLT]
 clear hres;refine X3 ?_;refine X1<|(X7 rfl (fun h4=>Xb ?_) (fun h4=>?_))
 · (try simp only[BN]at h4);have hlt:k<l.length:=by omega
   obtain⟨b,he,hd⟩:=Xs hlt;have hw1:=XA hlt (by omega);have hk1:k+1≤l.length:=hlt;rw[hd]at hJ;simp only[X4C]at hJ;clear hlt h4 hd;refine X1<|X4<|X1<|X2 ?_;refine X3 ?_;refine(Xa rfl (fun h7=>?_) fun h7=>?_)
   · (try simp only[BN]at h7);rw[if_pos (by simpa using h7)]at hJ;subst hJ;refine X3 ?_;exact Xc
   (try simp only[BN]at h7);rw[if_neg (by simpa using h7)]at hJ;refine X2 ?_;exact⟨k+1,⟨hk1,hJ⟩,by omega,X6 (fun n=>n) []⟩
 (try simp only[BN]at h4);have hkl:k=l.length:=by omega
 rw[hkl,List.drop_length]at hJ;simp only[X4C]at hJ;subst hJ;refine(Xi ?_);refine X3 ?_;exact Xc
theorem X84 (l:List Int) (x:Int) (hl:l.length≤1000000000) (d:Nat):Con Tryz.prog 18 true [lI l,li x] (.v (lb (decide (0≤X4C l x 0)))) none d:=by
 have ci:=Xcx l x hl;obtain⟨res,hres⟩:∃r,X4C l x 0=r:=⟨_,rfl⟩;rw[hres]at ci⊢;clear hres;refine X5 Tryz.func18 ?_;simp only[Tryz.f18];refine X3 ?_;refine Xj [⟨true,.v (li res),none⟩] ?_ ?_
 · first|exact ci _|exact trivial|simpa[*]using ci _
 exact Xc
end Go.Proofs.YtppjennamodfdaaGreat

namespace Go.Proofs.YtppjennamodfdaaGreat
open Go Go.Hl
theorem Xa9:∀(l:List Int) (x:Int) (k:Nat),¬x∈l→X4C l x k=-1
 |[],_,_,_=>rfl
 | y::l,x,k,h=>by
   simp only[List.mem_cons,not_or]at h;simp only[X4C,h.1,if_false];exact Xa9 l x _ h.2
theorem idxF_iff (l:List Int) (x:Int):decide (0≤X4C l x 0)=decide (x∈l):=by
 by_cases h:x∈l
 · simp[h,Xae l x 0 h]
 simp[h,Xa9 l x 0 h]
theorem X3x (l:List Int) (x:Int) (hl:l.length≤1000000000) (d:Nat):Con Tryz.prog 18 true [lI l,li x] (.v (lb (decide (x∈l)))) none d:=by
 have:=X84 l x hl d
 rwa [idxF_iff]at this
noncomputable def clB (f:Fl) (q:List Int):Bool:=(ZM (Q4 f) (QG q)).all fun d=>decide ((d:Int)∈q)
set_option maxHeartbeats 8000000 in
theorem X6y (f:Fl) (h:Sm f) (q:List Int) (hq:q.length≤100000) (d:Nat):Con Tryz.prog 21 false [aF f,.one (.c (.sl 1 (Xe q)))] (.tup [lb (decide (Zm f [q]=0)&&clB f q),li (Zm f [q])]) none d:=by
 have ca:=ZX f h [q] (by simp) (fun q' hq'=>by rw[List.mem_singleton.1 hq'];omega);have cd:=X0e f _ _ _ (Z6 h);have hd0:X2H (flL f.body) (arL f.body (-1) 0) (rdT f)=Q4 f:=rfl;rw[hd0]at cd;have hok:=X4x h;have hDl:(Q4 f).length≤1000:=by rw[QN];exact(Z6 h).hn
 obtain⟨C,hC⟩:∃x,Zm f [q]=x:=⟨_,rfl⟩;have hask:=fun hz=>@X4G f [q] (hC.trans hz) q (by simp);unfold askT at ca;simp only[X3g,List.map_cons,List.map_nil]at ca;unfold clB;rw[hC]at ca⊢;obtain⟨T,hT⟩:∃x,X5W f=x:=⟨_,rfl⟩;have hT2:ZF f (flL f.body) (arL f.body (-1) 0) (rdT f)=T:=hT;rw[hT]at ca;rw[hT2]at cd;obtain⟨D,hD⟩:∃x,Q4 f=x:=⟨_,rfl⟩;rw[hD]at cd hok hDl hask⊢;clear h hC hT hT2 hd0 hD;by_cases hz:C=0
 · subst hz;obtain⟨h0,hlt⟩:=hask rfl;have cc:=WZ D (QG q) (by omega) hok (by simp only[QG,List.length_map];omega) hlt;have hN:=(WG hok hlt).1;have hWl:=hN.len;have hWn:=hN.nd;rw[←ZW h0]at cc;have cn:=fun x=>X3x q x (by omega);simp only[if_true]at ca⊢;clear hask h0 hlt hN hok;obtain⟨W,hW⟩:∃x,ZM D (QG q)=x:=⟨_,rfl⟩;rw[hW]at cc hWl hWn⊢;have hbad:∀x∈W,¬(x:Int)∈q→(W.all fun d=>decide ((d:Int)∈q))=false:=fun x hx hn=>List.all_eq_false.2 ⟨x,hx,by simpa using hn⟩;have hgood:(∀x∈W,(x:Int)∈q)→(W.all fun d=>decide ((d:Int)∈q))=true:=fun h=>List.all_eq_true.2 fun x hx=>by simpa using h x hx
   obtain⟨Z,hZ⟩:∃x,(W.all fun d=>decide ((d:Int)∈q))=x:=⟨_,rfl⟩;simp only[hZ]at hbad hgood⊢;clear hW hZ;obtain⟨vars,hats,body⟩:=f;simp only[aF,Fl.enc,List.map_cons,List.map_nil]at ca⊢;refine X5 Tryz.func21 ?_;simp only[Tryz.f21];refine X3 ?_;refine X1<|(QO 3 [] [⟨false,.tup [.one (.c T),li 0],none⟩] (by simp[*];rfl) trivial (XJ 12 rfl) (by simp[*];first|exact⟨rfl,Iff.rfl⟩|exact⟨rfl,trivial⟩|rfl) ?_ ?_)
   · first|exact ca _|simpa using ca _
   refine X1<|X1<|X2 ?_;refine(Xa rfl (fun h3=>?_) fun h3=>?_)
   · exact absurd h3 (by simp)
   (try simp only[BN]at h3);refine X1<|X1<|(Xm [⟨false,.v (.one (.c (.sl 1 (QB D)))),none⟩,⟨false,.v (.one (.c (.mp (mpI W)))),none⟩] ?_ ?_)
   · first|exact⟨cd _,cc _⟩|exact trivial|(repeat' first|exact trivial|exact cd _|exact cc _|apply And.intro)
   refine X4<|(Xf [1,23] (fun(y:List Nat)=>[]) (fun y=>[(23,.it (mpI W) y)]) (fun y=>y.Nodup∧X0k y W.length∧∀j∈y,∀x,W[j]? =some x→(x:Int)∈q) (fun y=>W.length - y.length) [] ⟨List.nodup_nil,by simp[X0k],by simp⟩ ?_ ?_)
   · exact X6 (fun n=>n) []
   rintro seen ⟨j1,j2,j3⟩;simp only[upS,X8,Xw]
   try simp only[X8,KN,Nat.reduceBEq,if_true,if_false,ins,Nat.reduceLT]
   refine X1N (fun j k v hj hn=>?_) (fun hall=>?_)
   skip
   · (try simp only[BN]at h9);obtain⟨x,hd,rfl,rfl⟩:=X5m hj;have hjl:j<W.length:=(List.getElem?_eq_some_iff.1 hd).1
     have hnd2:(seen++[j]).Nodup:=by
      rw[List.nodup_append];exact⟨j1,by simp,fun a ha b hb=>by rw[List.mem_singleton.1 hb];exact fun e=>hn (e▸ha)⟩
     have hin:X0k (seen++[j]) W.length:=fun i hi=>by
      rcases List.mem_append.1 hi with h|h
      · exact j2 i h
      rw[List.mem_singleton.1 h];exact hjl
     have hle:=QR hnd2 hin;simp only[List.length_append,List.length_singleton]at hle;have cnx:=cn x;have hbx:=hbad x (List.mem_of_getElem? hd)
     have hnx:(x:Int)∈q→∀i∈seen++[j],∀y,W[i]? =some y→(y:Int)∈q:=fun hx i hi y hy=>by
      rcases List.mem_append.1 hi with h|h
      · exact j3 i h y hy
      rw[List.mem_singleton.1 h,hd]at hy;cases hy;exact hx
     clear hjl hbad hgood j3 cn ca cd cc;obtain⟨z,hz⟩:∃z,decide ((x:Int)∈q)=z:=⟨_,rfl⟩;rw[hz]at cnx;refine X4<|X1<|X2 ?_;refine Xj [⟨true,.v (lb z),none⟩] ?_ ?_
     · first|exact cnx _|exact trivial|simpa[*]using cnx _
     refine(Xa rfl (fun h12=>?_) fun h12=>?_)
     · (try simp only[BN]at h12);have hzf:z=false:=by simpa using h12
       have hr:=hbx (by rw[hzf]at hz;simpa using hz);subst hr;clear h12 hbx hnx hz;refine X3 ?_;exact Xc
     (try simp only[BN]at h12);have hzt:z=true:=by simpa using h12
     have hnx:=hnx (by rw[hzt]at hz;simpa using hz);clear h12 hbx hz;exact⟨seen++[j],⟨hnd2,hin,hnx⟩,by simp only[List.length_append,List.length_singleton];omega,X6 (fun n=>n) []⟩
   try simp only[BN]at h9
   have hr:=hgood fun x hx=>by
    obtain⟨i,hi⟩:=List.mem_iff_getElem?.1 hx;exact j3 i (hall i (by rw[X5c];exact(List.getElem?_eq_some_iff.1 hi).1)) x hi
   subst hr;refine(Xi ?_);refine X3 ?_;exact Xc
 simp only[if_neg hz,hz,decide_false,Bool.false_and]at ca⊢;clear hask hok cd;obtain⟨vars,hats,body⟩:=f;simp only[aF,Fl.enc,List.map_cons,List.map_nil]at ca⊢;refine X5 Tryz.func21 ?_;simp only[Tryz.f21];refine X3 ?_;refine X1<|(QO 3 [] [⟨false,.tup [.one (.c (.lit (.pointer none))),li C],none⟩] (by simp[*];rfl) trivial (XJ 12 rfl) (by simp[*];first|exact⟨rfl,Iff.rfl⟩|exact⟨rfl,trivial⟩|rfl) ?_ ?_)
 · first|exact ca _|simpa using ca _
 refine X1<|X1<|X2 ?_;refine(Xa rfl (fun h3=>?_) fun h3=>?_)
 · (try simp only[BN]at h3);refine X3 ?_;exact Xc
 exact absurd h3 (by simp[hz])
end Go.Proofs.YtppjennamodfdaaGreat

namespace Go.Proofs.YtppjennamodfdaaGreat
open Go Go.Hl
theorem X8m {vars:List Vr} {nh:Nat}:∀(l:List St) (top:Bool),ssC vars nh l top=0→∀q∈flL l,∃last,shB vars nh q.do_ q.var q.n q.term q.then_.length q.else_.length q.bounds last=true
 |[],_,_,q,hq=>by simp[flL]at hq
 | .mk d c v n t a b bs::l,top,h,q,hq=>by
   have hs:shB vars nh d v n t a.length b.length bs (top&&l.isEmpty)=true:=by
    simp only[ssC]at h;split at h
    · rename_i h0;unfold stC at h0;split at h0
      · cases h0
      rename_i hs;simpa using hs
    rename_i h0;exact absurd h h0
   have hr:ssC vars nh a false=0∧ssC vars nh b false=0∧ssC vars nh l top=0:=by
    simp only[ssC]at h;split at h
    · split at h
      · split at h
        · rename_i ha hb;exact⟨ha,hb,h⟩
        rename_i hb;exact absurd h hb
      rename_i ha;exact absurd h ha
    rename_i h0;exact absurd h h0
   simp only[flL,flS,List.cons_append,List.mem_cons,List.mem_append]at hq;rcases hq with rfl|(hq|hq)|hq
   · exact⟨_,hs⟩
   · exact X8m a false hr.1 q hq
   · exact X8m b false hr.2.1 q hq
   exact X8m l top hr.2.2 q hq
theorem sh_hat {vars:List Vr} {nh:Nat} {q:St} {last:Bool} (h:shB vars nh q.do_ q.var q.n q.term q.then_.length q.else_.length q.bounds last=true) (h5:q.do_=5):0≤q.n∧q.n<nh:=by
 unfold shB at h;rw[h5]at h;simp only[show ¬(5:Int)=0 by decide,show ¬(5:Int)=1 by decide,show ¬(5:Int)=2 by decide,show ¬(5:Int)=3 by decide,show ¬(5:Int)=4 by decide,if_false,if_true,Bool.and_eq_true,decide_eq_true_eq]at h;exact⟨h.1.1.1.2,h.1.1.2⟩
def Za:List Int→List Int→List Int
 |[],m=>m
 |v::l,m=>Za l (X2N m v)
theorem addK_mem (m:List Int) (v x:Int):x∈X2N m v↔x∈m∨x=v:=by
 unfold X2N;split
 · rename_i h;constructor
   · exact .inl
   rintro(h1|rfl)
   · exact h1
   exact h
 simp
theorem addK_nd {m:List Int} (h:m.Nodup) (v:Int):(X2N m v).Nodup:=by
 unfold X2N;split
 · exact h
 rename_i hm;rw[List.nodup_append];exact⟨h,by simp,fun a ha b hb=>by rw[List.mem_singleton.1 hb];rintro rfl;exact hm ha⟩
theorem addK_len (m:List Int) (v:Int):(X2N m v).length≤m.length+1:=by
 unfold X2N;split
 · omega
 simp
theorem X2g (l:List Int):∀(m:List Int) (x:Int),x∈Za l m↔x∈m∨x∈l:=by
 induction l with
 |nil=>intro m x;simp[Za]
 |cons v l ih=>intro m x;rw[Za,ih,addK_mem,List.mem_cons,or_assoc]
theorem X68 (l:List Int):∀{m:List Int},m.Nodup→(Za l m).Nodup:=by
 induction l with
 |nil=>intro m h;exact h
 |cons v l ih=>intro m h;exact ih (addK_nd h v)
theorem X7F (l:List Int):∀(m:List Int),(Za l m).length≤m.length+l.length:=by
 induction l with
 |nil=>intro m;exact Nat.le_refl _
 |cons v l ih=>intro m;have:=ih (X2N m v);have:=addK_len m v;simp only[Za,List.length_cons];omega
mutual
def tmV:Tm→List Int
 | .mk o n ks=>(if o=24 then [n] else [])++X50 ks
def X50:List Tm→List Int
 |[]=>[]
 |t::l=>tmV t++X50 l
end
theorem X6Y (a b m:List Int):Za (a++b) m=Za b (Za a m):=by
 induction a generalizing m with
 |nil=>rfl
 |cons v a ih=>simp[Za,ih]
mutual
theorem XaE:∀(t:Tm) (m:List Int),vrT t m=Za (tmV t) m
 | .mk o n ks,m=>by
   rw[vrT,tmV,X6Y,Xc0 ks];split<;>rfl
theorem Xc0:∀(l:List Tm) (m:List Int),vrTs l m=Za (X50 l) m
 |[],_=>rfl
 |t::l,m=>by rw[vrTs,X50,X6Y,XaE t,Xc0 l]
end
mutual
theorem Xc7:∀t:Tm,(tmV t).length≤t.nodes
 | .mk o n ks=>by
   have:=X8Y ks;simp only[tmV,List.length_append,Tm.nodes];split
   · simp only[List.length_singleton];omega
   simp only[List.length_nil];omega
theorem X8Y:∀l:List Tm,(X50 l).length≤Qk l
 |[]=>by simp[X50]
 |t::l=>by have:=Xc7 t;have:=X8Y l;simp only[X50,List.length_append,Qk];omega
end
def X4s (n:Nat) (l:List Nat):List Int:=(l.filter fun d=>decide (n≤d)).map fun d:Nat=>(d:Int) - n
def hatV (hats:List Ht) (n:Nat):List Int:=match hats[n]? with
 |some h=>tmV h.term
 |none=>[]
def ndA (f:Fl) (steps:List St) (rd:List (List Nat)) (s:Nat):List Int:=match steps[s]?,rd[s]? with
 |some q,some l=>X4s steps.length (X2I steps q l)++(if q.do_=5 then hatV f.hats q.n.toNat else [])
 |_,_=>[]
noncomputable def neA (f:Fl) (q:List Int):List Int:=Za ((ZM (Q4 f) (QG q)).flatMap (ndA f (flL f.body) (rdT f))) []
noncomputable def neL (f:Fl) (q:List Int):List Int:=(neA f q).mergeSort fun x y=>decide (x≤y)
theorem entL_nil (n:Nat):X4s n []=[]:=rfl
theorem Xcv (n d:Nat) (l:List Nat):X4s n (d::l)=if n≤d then((d:Int) - n)::X4s n l else X4s n l:=by
 unfold X4s;rw[List.filter_cons];by_cases h:n≤d
 · simp[h]
 simp[h]
theorem XdH (n:Nat) (l:List Nat):(X4s n l).length≤l.length:=by
 unfold X4s;rw[List.length_map];exact List.length_filter_le _ _
theorem XdD (steps:List St) (q:St) (l:List Nat):(X2I steps q l).length≤l.length:=List.length_filter_le _ _
end Go.Proofs.YtppjennamodfdaaGreat

namespace Go.Proofs.YtppjennamodfdaaGreat
open Go Go.Hl
def X9W (f:Fl) (S:List St) (Rd:List (List Nat)) (W seen:List Nat) (m:List Int):Prop:=∀v,v∈m↔∃j∈seen,∃s,W[j]? =some s∧v∈ndA f S Rd s
def msN:List (Nat×List Nat):=[(511,[0,1,2]),(510,[1,2]),(509,[0,2]),(507,[0,1,3]),(508,[2]),(506,[1,3]),(505,[0,3]),(499,[0,1,4]),(504,[3]),(498,[1,4]),(497,[0,4]),(483,[0,1,5]),(496,[4]),(482,[1,5]),(481,[0,5]),(451,[0,1,6]),(480,[5]),(450,[1,6]),(449,[0,6]),(387,[0,1]),(448,[6]),(386,[1]),(385,[0,7]),(384,[7]),(257,[0]),(256,[8])]
def nxN (regs:List (Nat×RV)) (o0 o1:List (Nat×Ob)) (outs:List (Nat×Nat×RV)) (R:List Nat):HS:=
 {trS ⟨⟨78,none⟩,regs,[]⟩ outs R with objs:=if R.contains 8 then o0 else o1}
set_option maxHeartbeats 16000000 in
theorem Xco (f:Fl) (h:Sm f) (q:List Int) (hq:q.length≤100000) (d:Nat):Con Tryz.prog 20 false [aF f,.one (.c (.sl 1 (Xe q)))] (.tup [.one (.c (if Zm f [q]=0 then .sl 1 (Xe (neL f q))else .lit XP)),li (Zm f [q])]) none d:=by
 have ca:=ZX f h [q] (by simp) (fun q' hq'=>by rw[List.mem_singleton.1 hq'];omega);have cd:=X0e f _ _ _ (Z6 h);have hd0:X2H (flL f.body) (arL f.body (-1) 0) (rdT f)=Q4 f:=rfl;rw[hd0]at cd;have hok:=X4x h;have hDl:(Q4 f).length≤1000:=by rw[QN];exact(Z6 h).hn
 have hDS:=QN f;obtain⟨C,hC⟩:∃x,Zm f [q]=x:=⟨_,rfl⟩;have hask:=fun hz=>@X4G f [q] (hC.trans hz) q (by simp);have hz0:=fun hz=>(@X97 f [q] (hC.trans hz)).1;unfold askT at ca;simp only[X3g,List.map_cons,List.map_nil]at ca;rw[hC]at ca⊢;by_cases hz:C=0
 · subst hz;have hssC:=(WV (hz0 rfl)).2.2.2.1;obtain⟨h0,hlt⟩:=hask rfl;have cc:=WZ (Q4 f) (QG q) (by omega) hok (by simp only[QG,List.length_map];omega) hlt;have hN:=(WG hok hlt).1;have hWl:=hN.len;have hWn:=hN.nd;have hWlt:=hN.lt;rw[←ZW h0]at cc;obtain⟨res,hres⟩:∃x,Xe (neL f q)=x:=⟨_,rfl⟩;have hT:=Z6 h
   have hfin:∀m:List Int,m.Nodup→X9W f (flL f.body) (rdT f) (ZM (Q4 f) (QG q)) (List.range (ZM (Q4 f) (QG q)).length) m→Xe (m.mergeSort fun x y=>decide (x≤y))=res:=by
    intro m h1 h2;rw[←hres,neL];refine congrArg Xe (X7c h1 (X68 _ List.nodup_nil) fun v=>?_);rw[h2,neA,X2g,List.mem_flatMap];constructor
    · rintro⟨j,_,s,h3,h4⟩;exact .inr ⟨s,List.mem_of_getElem? h3,h4⟩
    rintro(h3|⟨s,h3,h4⟩)
    · cases h3
    obtain⟨j,hj⟩:=List.mem_iff_getElem?.1 h3;exact⟨j,by simpa using(List.getElem?_eq_some_iff.1 hj).1,s,hj,h4⟩
   have hsh:=fun q hq=>X8m f.body true hssC q hq;have hrow:=Xc5 f;have hnv:=h.vars;have hno:=h.nodes;have csr:=X4O f (flL f.body) (arL f.body (-1) 0) (rdT f);have hTab:X5W f=ZF f (flL f.body) (arL f.body (-1) 0) (rdT f):=rfl;rw[hTab]at ca;rw[hres];obtain⟨W,hW⟩:∃x,ZM (Q4 f) (QG q)=x:=⟨_,rfl⟩;obtain⟨D,hD⟩:∃x,Q4 f=x:=⟨_,rfl⟩;rw[hW]at cc hWl hWn hWlt hfin;rw[hD]at cc cd hWl hWlt hDS hDl;obtain⟨S,hS⟩:∃x,flL f.body=x:=⟨_,rfl⟩;obtain⟨A,hA⟩:∃x,arL f.body (-1) 0=x:=⟨_,rfl⟩;obtain⟨Rd,hRd⟩:∃x,rdT f=x:=⟨_,rfl⟩;rw[hS,hA,hRd]at ca cd csr hT;rw[hS,hRd]at hfin hrow;rw[hS]at hsh hDS;simp only[if_true]at ca⊢;obtain⟨hTn,hTa,hTr,hTnod,hTrd⟩:=hT;obtain⟨vars,hats,body⟩:=f;simp only at hsh hrow hnv hno;simp only[aF,Fl.enc,List.map_cons,List.map_nil]at ca⊢;simp only[ZF]at ca cd csr;clear hask hz0 hC h hres hssC h0 hlt hN hok hd0 hTab hW hD hS hA hRd;refine X5 Tryz.func20 ?_;simp only[Tryz.f20];refine X3 ?_;refine X1<|(QO 3 [] [⟨false,.tup [.one (.c (ZF ⟨vars,hats,body⟩ S A Rd)),li 0],none⟩] (by simp[*];rfl) trivial (XJ 16 rfl) (by simp[*];first|exact⟨rfl,Iff.rfl⟩|exact⟨rfl,trivial⟩|rfl) ?_ ?_)
   · first|exact ca _|simpa using ca _
   refine X1<|X1<|X2 ?_;refine(Xa rfl (fun h3=>?_) fun h3=>?_)
   · exact absurd h3 (by simp)
   (try simp only[BN]at h3);refine X3 ?_;refine X1<|X1<|(Xm [⟨false,.v (.one (.c (.sl 1 (QB D)))),none⟩,⟨false,.v (.one (.c (.mp (mpI W)))),none⟩] ?_ ?_)
   · first|exact⟨cd _,cc _⟩|exact trivial|(repeat' first|exact trivial|exact cd _|exact cc _|apply And.intro)
   refine X4<|(Xf [2,6,8,28] (fun(y:List Nat×List Int)=>[]) (fun y=>[(2,.box [.c (.sl 5 (Xv vars)),.c (.sl 6 (Xu hats)),.c (.sl 10 (X9 body))]),(8,.box [.own 900001]),(28,.it (mpI W) y.1),(900001,.mp (mpZ y.2))]) (fun y=>y.1.Nodup∧X0k y.1 W.length∧y.2.Nodup∧X9W ⟨vars,hats,body⟩ S Rd W y.1 y.2∧y.2.length≤6000*y.1.length) (fun y=>W.length - y.1.length) ([],[]) ⟨List.nodup_nil,by simp[X0k],List.nodup_nil,by simp[X9W],Nat.le_refl _⟩ ?_ ?_)
   · exact X6 (fun n=>if n=900001 then 23 else n) []
   rintro⟨seen,m⟩ ⟨j1,j2,j3,j4,j5⟩;simp only[upS,X8,Xw]
   try simp only[X8,KN,Nat.reduceBEq,if_true,if_false,ins,Nat.reduceLT]
   simp only at j1 j2 j3 j4 j5;clear ca cc cd;refine X1N (fun j k v hj hn=>?_) (fun hall=>?_)
   skip
   · (try simp only[BN]at h10);obtain⟨s,hd,rfl,rfl⟩:=X5m hj;have hjl:j<W.length:=(List.getElem?_eq_some_iff.1 hd).1
     have hnd2:(seen++[j]).Nodup:=by
      rw[List.nodup_append];exact⟨j1,by simp,fun a ha b hb=>by rw[List.mem_singleton.1 hb];exact fun e=>hn (e▸ha)⟩
     have hin:X0k (seen++[j]) W.length:=fun i hi=>by
      rcases List.mem_append.1 hi with h|h
      · exact j2 i h
      rw[List.mem_singleton.1 h];exact hjl
     have hle:=QR hnd2 hin;simp only[List.length_append,List.length_singleton]at hle;have hsn:s<S.length:=by have:=hWlt s (List.mem_of_getElem? hd);omega
     obtain⟨q0,hq0,_⟩:=Xs hsn;obtain⟨l,hl0,_⟩:=Xs (show s<Rd.length by omega);have hmq:=List.mem_of_getElem? hq0;have hml:=List.mem_of_getElem? hl0;have hll:=hTrd l hml;have cs:=csr s q0 l hq0 hl0 (hTnod q0 hmq) hll.1 hll.2 (by omega);have hXl:=Nat.le_trans (XdD S q0 l) hll.1;have hXb:∀x∈X2I S q0 l,x<2000:=fun x hx=>by have:=(hrow l hml).2.1 x (List.mem_filter.1 hx).1;omega
     have hnx:∀m2,m2.Nodup→(∀v,v∈m2↔v∈m∨v∈ndA ⟨vars,hats,body⟩ S Rd s)→X9W ⟨vars,hats,body⟩ S Rd W (seen++[j]) m2:=by
      intro m2 _ h2 v;rw[h2,j4];constructor
      · rintro(⟨i,h3,s',h4,h5⟩|h3)
        · exact⟨i,List.mem_append_left _ h3,s',h4,h5⟩
        exact⟨j,by simp,s,hd,h3⟩
      rintro⟨i,h3,s',h4,h5⟩;rcases List.mem_append.1 h3 with h3|h3
      · exact .inl ⟨i,h3,s',h4,h5⟩
      rw[List.mem_singleton.1 h3,hd]at h4;cases h4;exact .inr h5
     have hnda:ndA ⟨vars,hats,body⟩ S Rd s=X4s S.length (X2I S q0 l)++(if q0.do_=5 then hatV hats q0.n.toNat else []):=by simp only[ndA,hq0,hl0]
     obtain⟨E,hE⟩:∃x,(if q0.do_=5 then hatV hats q0.n.toNat else [])=x:=⟨_,rfl⟩;rw[hnda,hE]at hnx;have hE5:q0.do_=5→E=hatV hats q0.n.toNat:=fun h=>by rw[←hE,if_pos h]
     have hE0:¬q0.do_=5→E=[]:=fun h=>by rw[←hE,if_neg h]
     have hhat:q0.do_=5→∃(i:Nat) (h:Ht),q0.n=i∧hats[i]? =some h:=by
      intro h5;obtain⟨last,hs⟩:=hsh q0 hmq;have h6:=sh_hat hs h5;obtain⟨h,hh,_⟩:=Xs (show q0.n.toNat<hats.length by omega);exact⟨q0.n.toNat,h,by omega,hh⟩
     obtain⟨X,hX⟩:∃x,X2I S q0 l=x:=⟨_,rfl⟩;rw[hX]at cs hXl hXb hnx;have he':=Q1 hq0;clear hjl hsn hq0 hl0 hmq hml hll hX hE hnda csr j4 hWlt hsh hrow hTrd hTnod hn hd;refine X4<|X1<|X2 ?_;refine X1<|X1<|(Xm [⟨false,.v (.one (.c (.sl 1 (XW X)))),none⟩] ?_ ?_)
     · first|exact cs _|exact trivial|simpa[*]using cs _
     refine X4<|(Xf [2,6,8,9,28,35,36] (fun(u:Nat×List Int)=>[(37,.v (li u.1))]) (fun u=>[(2,.box [.c (.sl 5 (Xv vars)),.c (.sl 6 (Xu hats)),.c (.sl 10 (X9 body))]),(8,.box [.own 900001]),(28,.it (mpI W) (seen++[j])),(900001,.mp (mpZ u.2))]) (fun u=>u.1≤X.length∧Za (X4s S.length (X.drop u.1)) u.2=Za (X4s S.length X) m) (fun u=>X.length - u.1) (0,m) ⟨Nat.zero_le _,by simp⟩ ?_ ?_)
     · exact X6 (fun n=>n) []
     rintro⟨k,m1⟩ ⟨hk,hJ⟩;simp only[upS,X8,Xw]
     try simp only[X8,KN,Nat.reduceBEq,if_true,if_false,ins,Nat.reduceLT]
     simp only at hk hJ;clear cs;refine X3 ?_;refine X1<|(X7 rfl (fun h15=>Xb ?_) (fun h15=>?_))
     · (try simp only[BN]at h15);have hlt:k<X.length:=by simpa using h15
       obtain⟨x,he,hd⟩:=Xs hlt;have hw1:=XA hlt (by omega);have hk1:k+1≤X.length:=hlt;have hxe:(XW X)[k]? =some [iC x]:=by simp[XW,he]
       have hxb:=hXb x (List.mem_of_getElem? he);rw[hd,Xcv]at hJ;clear hlt h15 he hd hXb;refine X1<|X4<|X1<|X2 ?_;refine X3 ?_;refine(Xa rfl (fun h18=>?_) fun h18=>?_)
       · (try simp only[BN]at h18);have hge:S.length≤x:=by simpa using h18
         rw[if_pos hge]at hJ;simp only[Za]at hJ;obtain⟨v,hv⟩:∃v,(x:Int) - S.length=v:=⟨_,rfl⟩;have hw:IntKind.i64.wrap ((x:Int) - S.length)=v:=by rw[←hv];exact Xd (by omega) (by omega)
         rw[hv]at hJ;have hf:=X1U v m1;unfold X2N at hJ;clear h18 hge hxb;rcases Classical.em (v∈m1)with hin|hin
         · rw[if_pos hin]at hf hJ;have hs:=X5p v m1 hin;refine XC (s':=⟨⟨78,none⟩,[(2,.v (.one (.at_ 2 0))),(6,.v (.one (.c (ZF ⟨vars,hats,body⟩ S A Rd)))),(8,.v (.one (.at_ 8 0))),(9,.v (li s)),(11,.v (li x)),(28,.v (.one (.at_ 28 0))),(35,.v (.one (.c (.sl 1 (XW X))))),(36,.v (li X.length)),(37,.v (li k))],[(2,.box [.c (.sl 5 (Xv vars)),.c (.sl 6 (Xu hats)),.c (.sl 10 (X9 body))]),(8,.box [.own 900001]),(28,.it (mpI W) (seen++[j])),(900001,.mp (mpZ m1))]⟩) (Xx (fun n=>n) [] rfl (by simp) (by simp) (by simp)) ?_;refine(QZ (nxN [(2,.v (.one (.at_ 2 0))),(6,.v (.one (.c (ZF ⟨vars,hats,body⟩ S A Rd)))),(8,.v (.one (.at_ 8 0))),(9,.v (li s)),(11,.v (li x)),(28,.v (.one (.at_ 28 0))),(35,.v (.one (.c (.sl 1 (XW X))))),(36,.v (li X.length)),(37,.v (li k))] [(2,.box [.c (.sl 5 (Xv vars)),.c (.sl 6 (Xu hats)),.c (.sl 10 (X9 body))]),(8,.box [.own 900001]),(28,.it (mpI W) (seen++[j])),(900001,.mp (mpZ m1))] [(2,.box [.c (.sl 5 (Xv vars)),.c (.sl 6 (Xu hats)),.c (.sl 10 (X9 body))]),(8,.box [.own 900001]),(28,.it (mpI W) (seen++[j])),(900001,.mp (mpZ m1))] [(0,48,.v (.one (.own 900001))),(1,49,.v (li x)),(2,50,.v (.one (.c (ZF ⟨vars,hats,body⟩ S A Rd)))),(3,51,.v (.one (.c (ZF ⟨vars,hats,body⟩ S A Rd)))),(4,52,.v (.one (.c (.ptr [.sl 10 (X9 S),.sl 1 (Xe A),.sl 1 (QB Rd)])))),(5,53,.v (.one (.c (.sl 10 (X9 S))))),(6,54,.v (li S.length)),(7,55,.v (li v))]) 9 511 msN rfl (by kernel_rfl) (by kernel_rfl) (by kernel_rfl) (by kernel_rfl) (by simp[nxN,trS]) ?_ ?_)
           · simp only[msN,X19]
             repeat' apply And.intro
             all_goals(refine XT.evE rfl ?_;simp[nxN,trS,ins,lkp,del,hw,hf,hs];done)
           refine XC (s':=⟨⟨78,none⟩,[(2,.v (.one (.at_ 2 0))),(6,.v (.one (.c (ZF ⟨vars,hats,body⟩ S A Rd)))),(8,.v (.one (.at_ 8 0))),(9,.v (li s)),(11,.v (li x)),(28,.v (.one (.at_ 28 0))),(35,.v (.one (.c (.sl 1 (XW X))))),(36,.v (li X.length)),(37,.v (li k))],[(2,.box [.c (.sl 5 (Xv vars)),.c (.sl 6 (Xu hats)),.c (.sl 10 (X9 body))]),(8,.box [.own 900001]),(28,.it (mpI W) (seen++[j])),(900001,.mp (mpZ m1))]⟩) (Xx (fun n=>n) [] rfl (by simp[nxN,trS]) (by simp[nxN,trS]) (by simp)) ?_;refine X2 ?_;exact⟨(k+1,m1),⟨hk1,hJ⟩,by simp only;omega,X6 (fun n=>n) []⟩
         rw[if_neg hin]at hf hJ;have hs:=X6o m1 v;refine XC (s':=⟨⟨78,none⟩,[(2,.v (.one (.at_ 2 0))),(6,.v (.one (.c (ZF ⟨vars,hats,body⟩ S A Rd)))),(8,.v (.one (.at_ 8 0))),(9,.v (li s)),(11,.v (li x)),(28,.v (.one (.at_ 28 0))),(35,.v (.one (.c (.sl 1 (XW X))))),(36,.v (li X.length)),(37,.v (li k))],[(2,.box [.c (.sl 5 (Xv vars)),.c (.sl 6 (Xu hats)),.c (.sl 10 (X9 body))]),(8,.box [.own 900001]),(28,.it (mpI W) (seen++[j])),(900001,.mp (mpZ m1))]⟩) (Xx (fun n=>n) [] rfl (by simp) (by simp) (by simp)) ?_;refine(QZ (nxN [(2,.v (.one (.at_ 2 0))),(6,.v (.one (.c (ZF ⟨vars,hats,body⟩ S A Rd)))),(8,.v (.one (.at_ 8 0))),(9,.v (li s)),(11,.v (li x)),(28,.v (.one (.at_ 28 0))),(35,.v (.one (.c (.sl 1 (XW X))))),(36,.v (li X.length)),(37,.v (li k))] [(2,.box [.c (.sl 5 (Xv vars)),.c (.sl 6 (Xu hats)),.c (.sl 10 (X9 body))]),(8,.box [.own 900001]),(28,.it (mpI W) (seen++[j])),(900001,.mp (mpZ m1))] [(2,.box [.c (.sl 5 (Xv vars)),.c (.sl 6 (Xu hats)),.c (.sl 10 (X9 body))]),(8,.box [.own 900001]),(28,.it (mpI W) (seen++[j])),(900001,.mp (mpZ (m1++[v])))] [(0,48,.v (.one (.own 900001))),(1,49,.v (li x)),(2,50,.v (.one (.c (ZF ⟨vars,hats,body⟩ S A Rd)))),(3,51,.v (.one (.c (ZF ⟨vars,hats,body⟩ S A Rd)))),(4,52,.v (.one (.c (.ptr [.sl 10 (X9 S),.sl 1 (Xe A),.sl 1 (QB Rd)])))),(5,53,.v (.one (.c (.sl 10 (X9 S))))),(6,54,.v (li S.length)),(7,55,.v (li v))]) 9 511 msN rfl (by kernel_rfl) (by kernel_rfl) (by kernel_rfl) (by kernel_rfl) (by simp[nxN,trS]) ?_ ?_)
         · simp only[msN,X19]
           repeat' apply And.intro
           all_goals(refine XT.evE rfl ?_;simp[nxN,trS,ins,lkp,del,hw,hf,hs];done)
         refine XC (s':=⟨⟨78,none⟩,[(2,.v (.one (.at_ 2 0))),(6,.v (.one (.c (ZF ⟨vars,hats,body⟩ S A Rd)))),(8,.v (.one (.at_ 8 0))),(9,.v (li s)),(11,.v (li x)),(28,.v (.one (.at_ 28 0))),(35,.v (.one (.c (.sl 1 (XW X))))),(36,.v (li X.length)),(37,.v (li k))],[(2,.box [.c (.sl 5 (Xv vars)),.c (.sl 6 (Xu hats)),.c (.sl 10 (X9 body))]),(8,.box [.own 900001]),(28,.it (mpI W) (seen++[j])),(900001,.mp (mpZ (m1++[v])))]⟩) (Xx (fun n=>n) [] rfl (by simp[nxN,trS]) (by simp[nxN,trS]) (by simp)) ?_;refine X2 ?_;exact⟨(k+1,m1++[v]),⟨hk1,hJ⟩,by simp only;omega,X6 (fun n=>n) []⟩
       (try simp only[BN]at h18);have hge:¬S.length≤x:=by simpa using h18
       rw[if_neg hge]at hJ;clear h18 hge hxb;refine X2 ?_;exact⟨(k+1,m1),⟨hk1,hJ⟩,by simp only;omega,X6 (fun n=>n) []⟩
     try simp only[BN]at h15
     have hkl:k=X.length:=by
      have:¬k<X.length:=by simpa using h15
      omega
     subst hkl;simp only[List.drop_length,entL_nil,Za]at hJ;clear h15;have hm1n:m1.Nodup:=by rw[hJ];exact X68 _ j3
     have hm1m:∀v,v∈m1↔v∈m∨v∈X4s S.length X:=fun v=>by rw[hJ];exact X2g _ _ _
     have hm1l:m1.length≤m.length+5000:=by
      rw[hJ];have:=X7F (X4s S.length X) m;have:=XdH S.length X;omega
     clear hJ hXb;obtain⟨so,sc,sv,sn,⟨to,tn,tk⟩,sa,sb,sbs⟩:=q0;simp only[St.enc,Tm.enc,List.cons_append,List.nil_append]at he';simp only[St.do_,St.n]at hE5 hE0 hhat;refine(Xi ?_);refine X3 ?_;refine X3 ?_;refine(Xa rfl (fun h26=>?_) fun h26=>?_)
     · (try simp only[BN]at h26);have h5:so=5:=by simpa using h26
       obtain⟨i,hh,hsn,hhi⟩:=hhat h5;subst hsn;rw[hE5 h5,hatV,Int.toNat_natCast,hhi]at hnx;simp only at hnx;have hv:vrT hh.term m1=Za (tmV hh.term) m1:=XaE hh.term m1;have hvn:(vrT hh.term m1).Nodup:=by rw[hv];exact X68 _ hm1n
       have hN:=hnx (vrT hh.term m1) hvn (fun v=>by rw[hv,X2g,hm1m,List.mem_append,or_assoc]);have hnh:=X0l (List.mem_of_getElem? hhi)
       have hvl:(vrT hh.term m1).length≤m1.length+1000:=by
        rw[hv];have:=X7F (tmV hh.term) m1;have:=Xc7 hh.term;omega
       have cvv:=X2q put2_con hh.term (by omega) m1;obtain⟨M2,hM2⟩:∃x,vrT hh.term m1=x:=⟨_,rfl⟩;rw[hM2]at hvn hN hvl cvv;obtain⟨hnm,hlo,hhg,⟨uo,un,uk⟩⟩:=hh;have hhe:(Xu hats)[i]? =some [sC hnm,iC hlo,iC hhg,iC uo,iC un,.sl 3 (Xo uk)]:=by simp[hhi,Ht.enc,Tm.enc]
       simp only[aT,Tm.enc,List.map_cons,List.map_nil]at cvv;clear hv hM2 hnx hhat hE5 hE0 hhi h26 hnh;refine(XR ?_);refine RunsN.cutE 8 [] (by simp[hhe];rfl) trivial (le_refl _) ?_;refine RunsN.callA (fun n=>if n=1000000 then 8 else n) (fun n=>if n=1000000 then 8 else if n=900001 then 30 else n) cvv fun _ _=>?_;refine RunsN.doneE [] rfl trivial ?_;exact⟨(seen++[j],M2),⟨hnd2,hin,hvn,hN,by simp only[List.length_append,List.length_singleton];omega⟩,by simp only[List.length_append,List.length_singleton];omega,Xx (fun n=>if n=900001 then 30 else n) [] rfl (by simp[upS,X8,Qi,QW,del,ins,CV.ren,Ob.ren]) (by simp[upS,Qi,QW,del,ins,CV.ren,Ob.ren]) (by simp[upS])⟩
     (try simp only[BN]at h26);have h5:¬so=5:=by simpa using h26
     rw[hE0 h5]at hnx;have hN:=hnx m1 hm1n (fun v=>by rw[hm1m,List.append_nil]);clear hnx hhat hE5 hE0 h26;exact⟨(seen++[j],m1),⟨hnd2,hin,hm1n,hN,by simp only[List.length_append,List.length_singleton];omega⟩,by simp only[List.length_append,List.length_singleton];omega,X6 (fun n=>n) []⟩
   try simp only[BN]at h10
   have hneed:X9W ⟨vars,hats,body⟩ S Rd W (List.range W.length) m:=by
    intro v;rw[j4];constructor
    · rintro⟨j,hj,h⟩;exact⟨j,by simpa using j2 j hj,h⟩
    rintro⟨j,hj,h⟩;exact⟨j,hall j (by rw[X5c];simpa using hj),h⟩
   have hsl:=QR j1 j2;have cs:=X4P m (by omega) j3;rw[hfin m j3 hneed]at cs;clear hfin hneed hall j2 j4 csr hrow hsh;refine(Xi ?_);refine XC (Xc8 900001 rfl) ?_;refine Xj [⟨false,.v (.one (.c (.sl 1 res))),none⟩] ?_ ?_
   · first|exact cs _|exact trivial|simpa[*]using cs _
   exact Xc
 simp only[if_neg hz]at ca⊢;clear hask hok cd hz0 hDS;obtain⟨vars,hats,body⟩:=f;simp only[aF,Fl.enc,List.map_cons,List.map_nil]at ca⊢;refine X5 Tryz.func20 ?_;simp only[Tryz.f20];refine X3 ?_;refine X1<|(QO 3 [] [⟨false,.tup [.one (.c (.lit (.pointer none))),li C],none⟩] (by simp[*];rfl) trivial (XJ 16 rfl) (by simp[*];first|exact⟨rfl,Iff.rfl⟩|exact⟨rfl,trivial⟩|rfl) ?_ ?_)
 · first|exact ca _|simpa using ca _
 refine X1<|X1<|X2 ?_;refine(Xa rfl (fun h3=>?_) fun h3=>?_)
 · (try simp only[BN]at h3);refine X3 ?_;exact Xc
 exact absurd h3 (by simp[hz])
end Go.Proofs.YtppjennamodfdaaGreat

namespace Go.Proofs.YtppjennamodfdaaGreat
open Go Go.Hl
def msF:List (Nat×List Nat):=[(255,[0,2]),(254,[1,2]),(251,[0,3]),(252,[2]),(250,[1,3]),(243,[0,4]),(248,[3]),(242,[1,4]),(227,[0]),(240,[4]),(226,[1]),(224,[5]),(192,[6]),(128,[7])]
def nxT (regs:List (Nat×RV)) (o4 o5 o7 o8:List (Nat×Ob)) (outs:List (Nat×Nat×RV)) (R:List Nat):HS:=
 {trS ⟨⟨27,none⟩,regs,[]⟩ outs R with objs:=if R.contains 4 then o4 else if R.contains 5 then o5 else if R.contains 7 then o7 else o8}
theorem X7k:∀a b:List Tm,Xo (a++b)=Xo a++Xo b
 |[],_=>rfl
 |t::a,b=>by simp only[List.cons_append,Xo,X7k a b]
theorem X7D:∀a:List Tm,(Xo a).length=a.length
 |[]=>rfl
 |t::a=>by simp only[Xo,List.length_cons,X7D a]
theorem Xcq {ks:List Tm} {k:Nat} {t:Tm} (h:ks[k]? =some t):Xo (ks.take (k+1))=Xo (ks.take k)++[t.enc]:=by
 rw[List.take_add_one,h,X7k];rfl
set_option maxHeartbeats 8000000 in
theorem X2u (t:Tm):t.nodes≤1000000→∀d,Con Tryz.prog 106 false [aT t] (.v (aT t)) none d:=by
 revert t
 refine Tm.ind ?_;intro o n ks ih hn d;simp only[Tm.nodes]at hn;have hlen:=Wg ks;simp only[aT,Tm.enc,List.map_cons,List.map_nil];refine X5 Tryz.func106 ?_;simp only[Tryz.f106];refine X3 ?_;refine X3 ?_;refine X1<|X1<|X2 ?_;refine X4<|(Xf [2,3,12,13] (fun(y:Nat)=>[(14,.v (li y))]) (fun y=>[(2,.box [.c (iC 0),.c (iC 0),.c (.lit XP)]),(3,.box [.c (iC o),.c (iC n),.own 1003]),(1003,.row 74 3 (Xo (ks.take y)))]) (fun y=>y≤ks.length) (fun y=>ks.length - y) (0:Nat) (Nat.zero_le _) ?_ ?_)
 · exact X6 (fun n=>n) [1003]
 rintro y hy;simp only[upS,X8,Xw]
 try simp only[X8,KN,Nat.reduceBEq,if_true,if_false,ins,Nat.reduceLT]
 refine X3 ?_;refine X1<|(X7 rfl (fun h5=>Xb ?_) (fun h5=>?_))
 · (try simp only[BN]at h5);have hlt:y<ks.length:=by simpa using h5
   obtain⟨t,he,hd⟩:=Xs hlt;have hw1:=XA hlt (by omega);have hk1:y+1≤ks.length:=hlt;have hmem:t∈ks:=List.mem_of_getElem? he;have hnm:=X1z hmem;have ct:=ih t hmem (by omega);have he':=Wd he;have htk:=Xcq he;have hroom:Qq (y+1) 40:=XB (by omega) (by decide);have hml:min y ks.length=y:=by omega
   have hel:(Xo (ks.take y)).length=y:=by rw[X7D,List.length_take];exact hml
   obtain⟨so,stn,sks⟩:=t;simp only[Tm.enc]at he' htk;simp only[aT,Tm.enc,List.map_cons,List.map_nil]at ct;clear hlt h5 ih hmem hnm he hd;refine X1<|X4<|X1<|X2 ?_;refine XC (s':=⟨⟨27,none⟩,[(2,.v (.one (.at_ 2 0))),(3,.v (.one (.at_ 3 0))),(5,.v (.one (.at_ 5 0))),(12,.v (.one (.c (.sl 3 (Xo ks))))),(13,.v (li ks.length)),(14,.v (li y))],[(2,.box [.c (iC 0),.c (iC 0),.c (.lit XP)]),(3,.box [.c (iC o),.c (iC n),.own 1003]),(5,.box [.c (iC so),.c (iC stn),.c (.sl 3 (Xo sks))]),(1003,.row 74 3 (Xo (ks.take y)))]⟩) (Xx (fun n=>n) [] rfl (by simp) (by simp) (by simp)) ?_;refine(QZ (nxT [(2,.v (.one (.at_ 2 0))),(3,.v (.one (.at_ 3 0))),(5,.v (.one (.at_ 5 0))),(12,.v (.one (.c (.sl 3 (Xo ks))))),(13,.v (li ks.length)),(14,.v (li y))] [(2,.box [.c (iC 0),.c (iC 0),.c (.lit XP)]),(3,.box [.c (iC o),.c (iC n),.own 1003]),(5,.box [.c (iC so),.c (iC stn),.c (.sl 3 (Xo sks))]),(1003,.row 74 3 (Xo (ks.take y)))] [(2,.box [.c (iC 0),.c (iC 0),.c (.lit XP)]),(3,.box [.c (iC o),.c (iC n),.own 1003]),(5,.box [.c (iC so),.c (iC stn),.c (.sl 3 (Xo sks))]),(22,.row 74 3 [[iC so,iC stn,.sl 3 (Xo sks)]]),(1003,.row 74 3 (Xo (ks.take y)))] [(2,.box [.c (iC 0),.c (iC 0),.c (.lit XP)]),(3,.box [.c (iC o),.c (iC n),.own 1003]),(5,.box [.c (iC so),.c (iC stn),.c (.sl 3 (Xo sks))]),(22,.row 74 3 [[iC so,iC stn,.sl 3 (Xo sks)]]),(23,.row 74 3 (Xo (ks.take (y+1))))] [(2,.box [.c (iC 0),.c (iC 0),.c (.lit XP)]),(3,.box [.c (iC o),.c (iC n),.own 23]),(5,.box [.c (iC so),.c (iC stn),.c (.sl 3 (Xo sks))]),(22,.row 74 3 [[iC so,iC stn,.sl 3 (Xo sks)]]),(23,.row 74 3 (Xo (ks.take (y+1))))] [(0,18,.v (.one (.at_ 3 2))),(1,19,.v (.one (.own 1003))),(2,20,.v (.agg [.c (iC so),.c (iC stn),.c (.sl 3 (Xo sks))])),(3,21,.v (.agg [.c (iC so),.c (iC stn),.c (.sl 3 (Xo sks))])),(4,22,.v (.one (.own 22))),(5,23,.v (.one (.own 23))),(6,24,.v (.one (.at_ 3 2)))]) 8 255 msF rfl (by kernel_rfl) (by kernel_rfl) (by kernel_rfl) (by kernel_rfl) (by simp[nxT,trS]) ?_ ?_)
   · simp only[msF,X19]
     repeat' apply And.intro
     all_goals first
      |(refine XT.evE rfl ?_;simp[nxT,trS,ins,lkp,del,XI,Qp,XX,cellsOf,Qv,We,ZC,Ws,Wz,Wy,hroom,htk,hel,hml];done)
      |(refine XT.ev [⟨false,.v (.agg [.c (iC so),.c (iC stn),.c (.sl 3 (Xo sks))]),none⟩] rfl (by simp[nxT,trS,ins,lkp,del];first|exact⟨rfl,Iff.rfl⟩|exact⟨rfl,trivial⟩|rfl) ?_ (by simp[nxT,trS,ins]);first|exact ct _|simpa using ct _)
      |trivial
   refine XC (s':=⟨⟨27,none⟩,[(2,.v (.one (.at_ 2 0))),(3,.v (.one (.at_ 3 0))),(12,.v (.one (.c (.sl 3 (Xo ks))))),(13,.v (li ks.length)),(14,.v (li y))],[(2,.box [.c (iC 0),.c (iC 0),.c (.lit XP)]),(3,.box [.c (iC o),.c (iC n),.own 1003]),(1003,.row 74 3 (Xo (ks.take (y+1))))]⟩) (Xx (fun n=>if n=1003 then 23 else n) [] rfl (by simp[nxT,trS]) (by simp[nxT,trS]) (by simp)) ?_;refine X2 ?_;exact⟨y+1,hk1,by omega,X6 (fun n=>n) []⟩
 try simp only[BN]at h5
 have hyl:y=ks.length:=by
  have:¬y<ks.length:=by simpa using h5
  omega
 subst hyl;rw[List.take_length];clear h5;refine(Xi ?_);refine XC (XJ 1003 rfl) ?_;refine X3 ?_;exact Xc
end Go.Proofs.YtppjennamodfdaaGreat

namespace Go.Proofs.YtppjennamodfdaaGreat
open Go Go.Hl
def msGs:List (Nat×List Nat):=[(1023,[0,3]),(1022,[1,3]),(1015,[0,4]),(1020,[2,3]),(1014,[1,4]),(999,[0]),(1016,[3]),(1012,[2,4]),(998,[1]),(1008,[4]),(996,[2]),(992,[5,6]),(960,[6]),(928,[5]),(896,[7]),(768,[8]),(512,[9])]
def nxK (regs:List (Nat×RV)) (o:List (Nat×Ob)) (outs:List (Nat×Nat×RV)) (R:List Nat):HS:=
 {trS ⟨⟨34,none⟩,regs,[]⟩ outs R with objs:=o}
theorem X7o:∀a:List St,(X9 a).length=a.length:=fun a=>by rw[W0,List.length_map]
theorem X6P {ks:List St} {k:Nat} {t:St} (h:ks[k]? =some t):X9 (ks.take (k+1))=X9 (ks.take k)++[t.enc]:=by
 rw[List.take_add_one,h,Qo];rfl
set_option maxHeartbeats 16000000 in
theorem X6p (l:List St):Xk l≤1000000→QX l=true→∀d,Con Tryz.prog 105 false [lS l] (.v (lS l)) none d:=by
 revert l
 apply St.lists;intro l ih hn hb d;have hlen:=Qg l;refine X5 Tryz.func105 ?_;simp only[Tryz.f105];refine X3 ?_;refine X3 ?_;refine X1<|X1<|X2 ?_;refine X4<|(Xf [6,7] (fun(y:Nat)=>[(3,.v (.one (.own 1003))),(8,.v (li y))]) (fun y=>[(1003,.row 76 10 (X9 (l.take y)))]) (fun y=>y≤l.length) (fun y=>l.length - y) (0:Nat) (Nat.zero_le _) ?_ ?_)
 · exact X6 (fun n=>n) [1003]
 rintro y hy;simp only[upS,X8,Xw]
 try simp only[X8,KN,Nat.reduceBEq,if_true,if_false,ins,Nat.reduceLT]
 refine X3 ?_;refine X1<|(X7 rfl (fun h5=>Xb ?_) (fun h5=>?_))
 · (try simp only[BN]at h5);have hlt:y<l.length:=by simpa using h5
   obtain⟨q,he,hd⟩:=Xs hlt;have hw1:=XA hlt (by omega);have hk1:y+1≤l.length:=hlt;have hmem:q∈l:=List.mem_of_getElem? he;have hnm:=Qj hmem;have hbm:=X1C hb hmem;obtain⟨iha,ihb⟩:=ih q hmem;have he':=Q1 he;have htk:=X6P he;have hroom:Qq (y+1) 144:=XB (by omega) (by decide);have hel:(X9 (l.take y)).length=y:=by rw[X7o,List.length_take];omega
   obtain⟨so,sc,sv,sn,⟨to,tn,tk⟩,sa,sb,sbs⟩:=q;simp only[St.then_,St.else_,St.term]at iha ihb hnm;simp only[X0o,Bool.and_eq_true,decide_eq_true_eq]at hbm;simp only[St.enc,Tm.enc,List.cons_append,List.nil_append]at he' htk;have ca:=iha (by omega) hbm.2.1;have cb:=ihb (by omega) hbm.2.2;have ci:=X6G sbs hbm.1;have ct:=X2u ⟨to,tn,tk⟩ (by omega);simp only[aT,Tm.enc,List.map_cons,List.map_nil]at ct;have hml:min y l.length=y:=by omega
   clear hlt h5 ih hmem hnm he hd iha ihb hbm;refine X1<|X4<|X1<|X2 ?_;refine XC (s':=⟨⟨34,none⟩,[(3,.v (.one (.own 1003))),(5,.v (.one (.at_ 5 0))),(6,.v (lS l)),(7,.v (li l.length)),(8,.v (li y))],[(5,.box [.c (iC so),.c (iC sc),.c (iC sv),.c (iC sn),.c (iC to),.c (iC tn),.c (.sl 3 (Xo tk)),.c (.sl 10 (X9 sa)),.c (.sl 10 (X9 sb)),.c (.sl 1 (Xe sbs))]),(1003,.row 76 10 (X9 (l.take y)))]⟩) (Xx (fun n=>n) [] rfl (by simp) (by simp) (by simp)) ?_;refine X1<|(QZ (nxK [(3,.v (.one (.own 1003))),(5,.v (.one (.at_ 5 0))),(6,.v (lS l)),(7,.v (li l.length)),(8,.v (li y))] [(5,.box [.c (iC so),.c (iC sc),.c (iC sv),.c (iC sn),.c (iC to),.c (iC tn),.c (.sl 3 (Xo tk)),.c (.sl 10 (X9 sa)),.c (.sl 10 (X9 sb)),.c (.sl 1 (Xe sbs))]),(1003,.row 76 10 (X9 (l.take y)))] [(0,12,.v (.one (.at_ 5 4))),(1,13,.v (.agg [.c (iC to),.c (iC tn),.c (.sl 3 (Xo tk))])),(2,14,.v (.agg [.c (iC to),.c (iC tn),.c (.sl 3 (Xo tk))])),(3,15,.v (.one (.at_ 5 9))),(4,16,.v (.one (.c (.sl 1 (Xe sbs))))),(5,17,.v (.one (.c (.sl 1 (Xe sbs))))),(6,18,.v (.one (.at_ 5 4))),(8,19,.v (.one (.at_ 5 9)))]) 10 1023 msGs rfl (by kernel_rfl) (by kernel_rfl) (by kernel_rfl) (by kernel_rfl) (by simp[nxK,trS]) ?_ ?_)
   · simp only[msGs,X19]
     repeat' apply And.intro
     all_goals first
      |(refine XT.evE rfl ?_;simp[nxK,trS,ins,lkp,del,XI,Qp,XX,cellsOf,Qv,We,ZC,Ws,Wz];done)
      |(refine XT.ev [⟨false,.v (.agg [.c (iC to),.c (iC tn),.c (.sl 3 (Xo tk))]),none⟩] rfl (by simp[nxK,trS,ins,lkp,del];first|exact⟨rfl,Iff.rfl⟩|exact⟨rfl,trivial⟩|rfl) ?_ (by simp[nxK,trS,ins]);first|exact ct _|simpa using ct _)
      |(refine XT.ev [⟨false,.v (.one (.c (.sl 1 (Xe sbs)))),none⟩] rfl (by simp[nxK,trS,ins,lkp,del];first|exact⟨rfl,Iff.rfl⟩|exact⟨rfl,trivial⟩|rfl) ?_ (by simp[nxK,trS,ins]);first|exact ci _|simpa using ci _)
      |trivial
   refine XC (s':=⟨⟨34,none⟩,[(3,.v (.one (.own 1003))),(5,.v (.one (.at_ 5 0))),(6,.v (lS l)),(7,.v (li l.length)),(8,.v (li y))],[(5,.box [.c (iC so),.c (iC sc),.c (iC sv),.c (iC sn),.c (iC to),.c (iC tn),.c (.sl 3 (Xo tk)),.c (.sl 10 (X9 sa)),.c (.sl 10 (X9 sb)),.c (.sl 1 (Xe sbs))]),(1003,.row 76 10 (X9 (l.take y)))]⟩) (Xx (fun n=>n) [] rfl (by simp[nxK,trS]) (by simp[nxK,trS]) (by simp)) ?_;refine XC (s':=⟨⟨34,none⟩,[(3,.v (.one (.own 1003))),(5,.v (.one (.at_ 5 0))),(6,.v (lS l)),(7,.v (li l.length)),(8,.v (li y))],[(5,.box [.c (iC so),.c (iC sc),.c (iC sv),.c (iC sn),.c (iC to),.c (iC tn),.c (.sl 3 (Xo tk)),.c (.sl 10 (X9 sa)),.c (.sl 10 (X9 sb)),.c (.sl 1 (Xe sbs))]),(1003,.row 76 10 (X9 (l.take y)))]⟩) (Xx (fun n=>n) [] rfl (by simp) (by simp) (by simp)) ?_;refine X1<|(QZ (nxK [(3,.v (.one (.own 1003))),(5,.v (.one (.at_ 5 0))),(6,.v (lS l)),(7,.v (li l.length)),(8,.v (li y))] [(5,.box [.c (iC so),.c (iC sc),.c (iC sv),.c (iC sn),.c (iC to),.c (iC tn),.c (.sl 3 (Xo tk)),.c (.sl 10 (X9 sa)),.c (.sl 10 (X9 sb)),.c (.sl 1 (Xe sbs))]),(1003,.row 76 10 (X9 (l.take y)))] [(0,20,.v (.one (.at_ 5 7))),(1,21,.v (lS sa)),(2,22,.v (lS sa)),(3,23,.v (.one (.at_ 5 8))),(4,24,.v (lS sb)),(5,25,.v (lS sb)),(6,26,.v (.one (.at_ 5 7))),(8,27,.v (.one (.at_ 5 8)))]) 10 1023 msGs rfl (by kernel_rfl) (by kernel_rfl) (by kernel_rfl) (by kernel_rfl) (by simp[nxK,trS]) ?_ ?_)
   · simp only[msGs,X19]
     repeat' apply And.intro
     all_goals first
      |(refine XT.evE rfl ?_;simp[nxK,trS,ins,lkp,del,XI,Qp,XX,cellsOf,Qv,We,ZC,Ws,Wz];done)
      |(refine XT.ev [⟨false,.v (lS sa),none⟩] rfl (by simp[nxK,trS,ins,lkp,del];first|exact⟨rfl,Iff.rfl⟩|exact⟨rfl,trivial⟩|rfl) ?_ (by simp[nxK,trS,ins]);first|exact ca _|simpa using ca _)
      |(refine XT.ev [⟨false,.v (lS sb),none⟩] rfl (by simp[nxK,trS,ins,lkp,del];first|exact⟨rfl,Iff.rfl⟩|exact⟨rfl,trivial⟩|rfl) ?_ (by simp[nxK,trS,ins]);first|exact cb _|simpa using cb _)
      |trivial
   refine XC (s':=⟨⟨34,none⟩,[(3,.v (.one (.own 1003))),(5,.v (.one (.at_ 5 0))),(6,.v (lS l)),(7,.v (li l.length)),(8,.v (li y))],[(5,.box [.c (iC so),.c (iC sc),.c (iC sv),.c (iC sn),.c (iC to),.c (iC tn),.c (.sl 3 (Xo tk)),.c (.sl 10 (X9 sa)),.c (.sl 10 (X9 sb)),.c (.sl 1 (Xe sbs))]),(1003,.row 76 10 (X9 (l.take y)))]⟩) (Xx (fun n=>n) [] rfl (by simp[nxK,trS]) (by simp[nxK,trS]) (by simp)) ?_;refine X2 ?_;refine X2 ?_;exact⟨y+1,hk1,by omega,X6 (fun n=>if n=1003 then 31 else n) []⟩
 try simp only[BN]at h5
 have hyl:y=l.length:=by
  have:¬y<l.length:=by simpa using h5
  omega
 subst hyl;rw[List.take_length];clear h5;refine(Xi ?_);refine XC (XJ 1003 rfl) ?_;refine X3 ?_;exact Xc
end Go.Proofs.YtppjennamodfdaaGreat

namespace Go.Proofs.YtppjennamodfdaaGreat
open Go Go.Hl
def msV:List (Nat×List Nat):=[(511,[0,3,7]),(510,[1,3,7]),(503,[0,4,7]),(383,[0,3]),(508,[2,3,7]),(502,[1,4,7]),(382,[1,3]),(487,[0,7]),(375,[0,4]),(504,[3,7]),(500,[2,4,7]),(380,[2,3]),(486,[1,7]),(374,[1,4]),(359,[0]),(496,[4,7]),(376,[3]),(484,[2,7]),(372,[2,4]),(358,[1]),(480,[5,7]),(368,[4]),(356,[2]),(448,[6,7]),(352,[5]),(384,[7]),(320,[6]),(256,[8])]
def nxV (regs:List (Nat×RV)) (o7 o8 o9:List (Nat×Ob)) (outs:List (Nat×Nat×RV)) (R:List Nat):HS:=
 {trS ⟨⟨32,none⟩,regs,[]⟩ outs R with objs:=if R.contains 7 then o7 else if R.contains 8 then o8 else o9}
theorem X6Z (l:List Ht):Xu l=l.map Ht.enc:=rfl
theorem XcT (a:List Ht):(Xu a).length=a.length:=by rw[X6Z,List.length_map]
theorem Xav {ks:List Ht} {k:Nat} {t:Ht} (h:ks[k]? =some t):Xu (ks.take (k+1))=Xu (ks.take k)++[t.enc]:=by
 rw[List.take_add_one,h];simp[X6Z]
set_option maxHeartbeats 16000000 in
theorem XcK (f:Fl) (h:Sm f) (d:Nat):Con Tryz.prog 68 false [aF f] (.v (aF f)) none d:=by
 have hv:=h.vars;have hh:=h.hats;have hno:=h.nodes;have cv:=X6g f.vars (by omega);have cb:=X6p f.body (by omega) h.bnd;obtain⟨vars,hats,body⟩:=f;simp only at hv hh hno cv cb;simp only[aF,Fl.enc,List.map_cons,List.map_nil];clear h;refine X5 Tryz.func68 ?_;simp only[Tryz.f68];refine X3 ?_;refine XC (s':=⟨⟨32,none⟩,[(1,.v (.one (.at_ 1 0))),(2,.v (.one (.at_ 2 0)))],[(1,.box [.c (.sl 5 (Xv vars)),.c (.sl 6 (Xu hats)),.c (.sl 10 (X9 body))]),(2,.box [.c (.lit XP),.c (.lit XP),.c (.lit XP)])]⟩) (Xx (fun n=>n) [] rfl (by simp) (by simp) (by simp)) ?_;refine X1<|(QZ (nxV [(1,.v (.one (.at_ 1 0))),(2,.v (.one (.at_ 2 0)))] [(1,.box [.c (.sl 5 (Xv vars)),.c (.sl 6 (Xu hats)),.c (.sl 10 (X9 body))]),(2,.box [.c (.lit XP),.c (.lit XP),.c (.lit XP)])] [(1,.box [.c (.sl 5 (Xv vars)),.c (.sl 6 (Xu hats)),.c (.sl 10 (X9 body))]),(2,.box [.c (.lit XP),.c (.lit XP),.c (.lit XP)]),(3,.box [.c (.lit XP),.c (.lit XP),.c (.lit XP)])] [(1,.box [.c (.sl 5 (Xv vars)),.c (.sl 6 (Xu hats)),.c (.sl 10 (X9 body))]),(2,.box [.c (.lit XP),.c (.lit XP),.c (.lit XP)]),(3,.box [.c (.sl 5 (Xv vars)),.c (.lit XP),.c (.sl 10 (X9 body))])] [(0,6,.v (.one (.at_ 1 0))),(1,7,.v (lV vars)),(2,8,.v (lV vars)),(3,9,.v (.one (.at_ 1 2))),(4,10,.v (lS body)),(5,11,.v (lS body)),(6,12,.v (.agg [.c (.sl 5 (Xv vars)),.c (.lit XP),.c (.sl 10 (X9 body))])),(7,3,.v (.one (.at_ 3 0)))]) 9 511 msV rfl (by kernel_rfl) (by kernel_rfl) (by kernel_rfl) (by kernel_rfl) (by simp[nxV,trS]) ?_ ?_)
 · simp only[msV,X19]
   repeat' apply And.intro
   all_goals first
    |(refine XT.evE rfl ?_;simp[nxV,trS,ins,W3,lkp,del,XI,Qp,XX,cellsOf,Qv,We,ZC,Ws,Wz];done)
    |(refine XT.ev [⟨false,.v (lV vars),none⟩] rfl (by simp[nxV,trS,ins,lkp,del];first|exact⟨rfl,Iff.rfl⟩|exact⟨rfl,trivial⟩|rfl) ?_ (by simp[nxV,trS,ins]);first|exact cv _|simpa using cv _)
    |(refine XT.ev [⟨false,.v (lS body),none⟩] rfl (by simp[nxV,trS,ins,lkp,del];first|exact⟨rfl,Iff.rfl⟩|exact⟨rfl,trivial⟩|rfl) ?_ (by simp[nxV,trS,ins]);first|exact cb _|simpa using cb _)
    |trivial
 refine XC (s':=⟨⟨32,none⟩,[(1,.v (.one (.at_ 1 0))),(2,.v (.one (.at_ 2 0))),(3,.v (.one (.at_ 3 0)))],[(1,.box [.c (.sl 5 (Xv vars)),.c (.sl 6 (Xu hats)),.c (.sl 10 (X9 body))]),(2,.box [.c (.lit XP),.c (.lit XP),.c (.lit XP)]),(3,.box [.c (.sl 5 (Xv vars)),.c (.lit XP),.c (.sl 10 (X9 body))])]⟩) (Xx (fun n=>n) [] rfl (by simp[nxV,trS]) (by simp[nxV,trS]) (by simp)) ?_;refine X1<|X1<|X2 ?_;refine X4<|(Xf [2,3,14,15] (fun(y:Nat)=>[(16,.v (li y))]) (fun y=>[(2,.box [.c (.lit XP),.c (.lit XP),.c (.lit XP)]),(3,.box [.c (.sl 5 (Xv vars)),.own 1003,.c (.sl 10 (X9 body))]),(1003,.row 99 6 (Xu (hats.take y)))]) (fun y=>y≤hats.length) (fun y=>hats.length - y) (0:Nat) (Nat.zero_le _) ?_ ?_)
 · exact X6 (fun n=>n) [1003]
 rintro y hy;simp only[upS,X8,Xw]
 try simp only[X8,KN,Nat.reduceBEq,if_true,if_false,ins,Nat.reduceLT]
 clear cv cb;refine X3 ?_;refine X1<|(X7 rfl (fun h5=>Xb ?_) (fun h5=>?_))
 · (try simp only[BN]at h5);have hlt:y<hats.length:=by simpa using h5
   obtain⟨q,he,hd⟩:=Xs hlt;have hw1:=XA hlt (by omega);have hk1:y+1≤hats.length:=hlt;have hnm:=X0l (List.mem_of_getElem? he);have he':(Xu hats)[y]? =some q.enc:=by simp[he]
   have htk:=Xav he;have hroom:Qq (y+1) 72:=XB (by omega) (by decide);have hel:(Xu (hats.take y)).length=y:=by rw[XcT,List.length_take];omega
   have hml:min y hats.length=y:=by omega
   obtain⟨nm,lo,hg,⟨to,tn,tk⟩⟩:=q;have ct:=X2u ⟨to,tn,tk⟩ (by simp only at hnm;omega);simp only[Ht.enc,Tm.enc,List.cons_append,List.nil_append]at he' htk;simp only[aT,Tm.enc,List.map_cons,List.map_nil]at ct;clear hlt h5 hnm he hd;refine X1<|X4<|X1<|X2 ?_;refine X1<|(QU [⟨false,.v (.agg [.c (iC to),.c (iC tn),.c (.sl 3 (Xo tk))]),none⟩] (by simp[*,XI,Qp,XX,cellsOf,Qv];first|exact⟨rfl,Iff.rfl⟩|exact⟨rfl,trivial⟩|rfl) ?_ ?_)
   · first|exact ct _|exact trivial|simpa[*,XI,Qp,XX,cellsOf,Qv]using ct _
   refine X2 ?_;refine X2 ?_;exact⟨y+1,hk1,by omega,X6 (fun n=>if n=1003 then 28 else n) []⟩
 try simp only[BN]at h5
 have hyl:y=hats.length:=by
  have:¬y<hats.length:=by simpa using h5
  omega
 subst hyl;rw[List.take_length];clear h5;refine(Xi ?_);refine XC (XJ 1003 rfl) ?_;refine X3 ?_;exact Xc
end Go.Proofs.YtppjennamodfdaaGreat
