/- Part 11: contracts of functions of the program and of the reference, and plain facts about what they compute; used by the proof of the claimed statement. Conditions: as each theorem states. -/
import Derived.Test.YtppjennamodfdaaGreatProg
import Derived.Test.YtppjennamodfdaaGreatNHmZ
import Derived.KernelRfl
import Derived.Test.YtppjennamodfdaaGreatNHmZI
import Derived.Test.YtppjennamodfdaaGreatNHmZJ
import Derived.Test.YtppjennamodfdaaGreatNHmZK
import Derived.Lib.SlicesCompact
import Derived.Shelf.Slices.CompactI
import Derived.Shelf.Sort.Plain
import Derived.Shelf.Slices.In.SortNone
import Derived.Test.YtppjennamodfdaaGreatNHmZL
import Derived.Test.YtppjennamodfdaaGreatN1
import Derived.Test.YtppjennamodfdaaGreatN2
import Derived.Test.YtppjennamodfdaaGreatN4
import Derived.Test.YtppjennamodfdaaGreatN6
import Derived.Test.YtppjennamodfdaaGreatN8
import Derived.Test.YtppjennamodfdaaGreatN3
import Derived.Test.YtppjennamodfdaaGreatN5
import Derived.Test.YtppjennamodfdaaGreatN7
set_option linter.unusedSimpArgs false
set_option linter.unusedVariables false
set_option linter.unnecessarySimpa false
set_option maxRecDepth 100000
set_option maxHeartbeats 2000000
namespace Go.Proofs.YtppjennamodfdaaGreat
open Go Go.Hl
noncomputable def chL (f:Fl) (a b:List Int):List Nat:=(fwL f a).filter fun d=>decide (d∈Zh (Q5 f) (QL b))
set_option maxHeartbeats 8000000 in
theorem chop_con (f:Fl) (h:Sm f) (q q2:List Int) (hq:q.length≤100000) (hq2:q2.length≤100000) (d:Nat):Con Tryz.prog 14 false [aF f,.one (.c (.sl 1 (Xj q))),.one (.c (.sl 1 (Xj q2)))] (slR (WN f [q,q2]) (chL f q q2)) none d:=by
 have ca:=ZU f h [q,q2] (by simp) (fun q' hq'=>by
  simp only[List.mem_cons,List.not_mem_nil,or_false]at hq'
  rcases hq' with rfl|rfl<;>omega)
 have cd:=X04 f _ _ _ (Wl h);have hd0:X2B (flL f.body) (arL f.body (-1) 0) (rdT f)=Q5 f:=rfl;rw[hd0]at cd;have hrow:=X0k h;have hok1:=X10 h;have hDl:(Q5 f).length≤1000:=by rw[Qy];exact(Wl h).hn
 obtain⟨C,hC⟩:∃x,WN f [q,q2]=x:=⟨_,rfl⟩;have hask:=fun hz=>@X4x f [q,q2] (hC.trans hz) q (by simp);have hask2:=fun hz=>@X4x f [q,q2] (hC.trans hz) q2 (by simp);unfold askT at ca;simp only[X41,List.map_cons,List.map_nil]at ca;unfold slR chL fwL;rw[hC]at ca⊢;obtain⟨R,hR⟩:∃x,X4o (Q5 f).length (Zh (X2g (Q5 f)) (QL q))=x:=⟨_,rfl⟩;rw[hR];obtain⟨T,hT⟩:∃x,X6f f=x:=⟨_,rfl⟩;have hT2:ZH f (flL f.body) (arL f.body (-1) 0) (rdT f)=T:=hT;rw[hT]at ca;rw[hT2]at cd;obtain⟨D,hD⟩:∃x,Q5 f=x:=⟨_,rfl⟩;rw[hD]at cd hrow hDl hask hask2 hR hok1⊢;have cv:=X3f D hDl hrow;have hok:=XaM hDl hrow;have hEl:=X1w D;obtain⟨E,hE⟩:∃x,X2g D=x:=⟨_,rfl⟩;rw[hE]at cv hok hEl hR;clear h hC hT hT2 hd0 hD hrow hE;rw[←hEl]at hask hR;have hRl:=X8n E.length (Zh E (QL q));rw[hR]at hRl;by_cases hz:C=0
 · subst hz;obtain⟨h0,hlt⟩:=hask rfl;obtain⟨h02,hlt2⟩:=hask2 rfl;have cc:=Z6 E (QL q) (by omega) hok (by simp only[QL,List.length_map];omega) hlt;have cc2:=Z6 D (QL q2) (by omega) hok1 (by simp only[QL,List.length_map];omega) hlt2;have hN:=(We hok hlt).1;have cs:=X2F E.length _ (by omega) hN;rw[hR]at cs;rw[ZY h0,ZY h02]at ca⊢;simp only[if_true]at ca⊢;clear hask hask2 hR h0 hlt hN hok hok1 h02 hlt2;obtain⟨W,hW⟩:∃x,Zh D (QL q2)=x:=⟨_,rfl⟩;rw[hW]at cc2⊢;obtain⟨res,hres⟩:∃x,R.filter (fun d=>decide (d∈W))=x:=⟨_,rfl⟩;rw[hres];clear hW;obtain⟨vars,hats,body⟩:=f;simp only[aF,Fl.enc,List.map_cons,List.map_nil]at ca⊢;refine X7 Tryz.func14 ?_;simp only[Tryz.f14];refine X4 ?_;refine X0<|(QQ 4 [] [⟨false,.tup [.one (.c T),li 0],none⟩] (by simp[*];rfl) trivial (XR 19 rfl) (by simp[*];first|exact⟨rfl,Iff.rfl⟩|exact⟨rfl,trivial⟩|rfl) ?_ ?_)
   · first|exact ca _|simpa using ca _
   refine X0<|X0<|X3 ?_;refine(Xe rfl (fun h3=>?_) fun h3=>?_)
   · exact absurd h3 (by simp)
   (try simp only[BN]at h3);refine Xk [⟨false,.v (.one (.c (.sl 1 (Q7 D)))),none⟩] ?_ ?_
   · first|exact cd _|exact trivial|simpa[*]using cd _
   refine Xk [⟨false,.v (.one (.c (.mp (mpI W)))),none⟩] ?_ ?_
   · first|exact cc2 _|exact trivial|simpa[*]using cc2 _
   refine X4 ?_;refine X0<|X0<|(Xp [⟨false,.v (.one (.c (.sl 1 (Q7 E)))),none⟩,⟨false,.v (.one (.c (.mp (mpI (Zh E (QL q)))))),none⟩,⟨false,.v (.one (.c (.sl 1 (XB R)))),none⟩] ?_ ?_)
   · first|exact⟨cv _,cc _,cs _⟩|exact trivial|(repeat' first|exact trivial|exact cv _|exact cc _|exact cs _|apply And.intro)
   refine X5<|(Xd [11,35,36] (fun(u:Nat×List Nat)=>[(12,.v (.one (.own 1012))),(37,.v (li u.1))]) (fun u=>[(1012,.row 3 1 (XB u.2))]) (fun u=>u.1≤R.length∧u.2++(R.drop u.1).filter (fun d=>decide (d∈W))=res∧u.2.length≤u.1) (fun u=>R.length - u.1) (0,[]) ⟨Nat.zero_le _,by simpa using hres,Nat.le_refl _⟩ ?_ ?_)
   · exact X6 (fun n=>n) [1012]
   rintro⟨k,out⟩ ⟨hk,hJ,hol⟩;simp only[upS,X8,Xy]
   try simp only[X8,KN,Nat.reduceBEq,if_true,if_false,ins,Nat.reduceLT]
   simp only at hk hJ hol;clear hres ca cd cv cc cc2 cs;refine X4 ?_;refine X0<|(X9 rfl (fun h12=>Xb ?_) (fun h12=>?_))
   · (try simp only[BN]at h12);have hlt:k<R.length:=by simpa using h12
     obtain⟨x,he,hd⟩:=Xq hlt;have hw1:=XA hlt (by omega);have hk1:k+1≤R.length:=hlt;have hxe:(XB R)[k]? =some [iC x]:=by simp[XB,he]
     have hf:=X1C x W;have hroom:Qa (out.length+1) 8:=Xx (by omega) (by decide);rw[hd]at hJ;clear hlt h12 he hd;refine X0<|X5<|X0<|X3 ?_;rcases Classical.em (x∈W)with hx|hx
     · rw[if_pos hx]at hf;rw[List.filter_cons,if_pos (by simpa using hx)]at hJ;refine X4 ?_;refine(Xe rfl (fun h15=>?_) fun h15=>?_)
       · (try simp only[BN]at h15);refine X3 ?_;refine X3 ?_;exact⟨(k+1,out++[x]),⟨hk1,by simpa using hJ,by simp;omega⟩,by simp only;omega,X6 (fun n=>if n=1012 then 47 else n) []⟩
       cases h15
     rw[if_neg hx]at hf;rw[List.filter_cons,if_neg (by simpa using hx)]at hJ;refine X4 ?_;refine(Xe rfl (fun h15=>?_) fun h15=>?_)
     · cases h15
     (try simp only[BN]at h15);refine X3 ?_;exact⟨(k+1,out),⟨hk1,hJ,by simp only;omega⟩,by simp only;omega,X6 (fun n=>n) []⟩
   try simp only[BN]at h12
   have hkl:k=R.length:=by
    have:¬k<R.length:=by simpa using h12
    omega
   subst hkl;simp only[List.drop_length,List.filter_nil,List.append_nil]at hJ;subst hJ;clear h12;refine(Xg ?_);refine XC (XR 1012 rfl) ?_;refine X4 ?_;exact Xh
 simp only[if_neg hz]at ca⊢;clear hask hask2 hok hok1 hR hRl cd cv;obtain⟨vars,hats,body⟩:=f;simp only[aF,Fl.enc,List.map_cons,List.map_nil]at ca⊢;refine X7 Tryz.func14 ?_;simp only[Tryz.f14];refine X4 ?_;refine X0<|(QQ 4 [] [⟨false,.tup [.one (.c (.lit (.pointer none))),li C],none⟩] (by simp[*];rfl) trivial (XR 19 rfl) (by simp[*];first|exact⟨rfl,Iff.rfl⟩|exact⟨rfl,trivial⟩|rfl) ?_ ?_)
 · first|exact ca _|simpa using ca _
 refine X0<|X0<|X3 ?_;refine(Xe rfl (fun h3=>?_) fun h3=>?_)
 · (try simp only[BN]at h3);refine X4 ?_;exact Xh
 exact absurd h3 (by simp[hz])
end Go.Proofs.YtppjennamodfdaaGreat

namespace Go.Proofs.YtppjennamodfdaaGreat
open Go Go.Hl
theorem X8o:∀(l:List Int) (x:Int) (k:Nat),¬x∈l→X4s l x k=-1
 |[],_,_,_=>rfl
 | y::l,x,k,h=>by
   simp only[List.mem_cons,not_or]at h;simp only[X4s,h.1,if_false];exact X8o l x _ h.2
theorem idxF_iff (l:List Int) (x:Int):decide (0≤X4s l x 0)=decide (x∈l):=by
 by_cases h:x∈l
 · simp[h,X95 l x 0 h]
 simp[h,X8o l x 0 h]
theorem X59 (l:List Int) (x:Int) (hl:l.length≤1000000000) (d:Nat):Con Tryz.prog 18 true [lI l,li x] (.v (lb (decide (x∈l)))) none d:=by
 have:=X7S l x hl d
 rwa [idxF_iff]at this
noncomputable def clB (f:Fl) (q:List Int):Bool:=(Zh (Q5 f) (QL q)).all fun d=>decide ((d:Int)∈q)
set_option maxHeartbeats 8000000 in
theorem X5r (f:Fl) (h:Sm f) (q:List Int) (hq:q.length≤100000) (d:Nat):Con Tryz.prog 21 false [aF f,.one (.c (.sl 1 (Xj q)))] (.tup [lb (decide (WN f [q]=0)&&clB f q),li (WN f [q])]) none d:=by
 have ca:=ZU f h [q] (by simp) (fun q' hq'=>by rw[List.mem_singleton.1 hq'];omega);have cd:=X04 f _ _ _ (Wl h);have hd0:X2B (flL f.body) (arL f.body (-1) 0) (rdT f)=Q5 f:=rfl;rw[hd0]at cd;have hok:=X10 h;have hDl:(Q5 f).length≤1000:=by rw[Qy];exact(Wl h).hn
 obtain⟨C,hC⟩:∃x,WN f [q]=x:=⟨_,rfl⟩;have hask:=fun hz=>@X4x f [q] (hC.trans hz) q (by simp);unfold askT at ca;simp only[X41,List.map_cons,List.map_nil]at ca;unfold clB;rw[hC]at ca⊢;obtain⟨T,hT⟩:∃x,X6f f=x:=⟨_,rfl⟩;have hT2:ZH f (flL f.body) (arL f.body (-1) 0) (rdT f)=T:=hT;rw[hT]at ca;rw[hT2]at cd;obtain⟨D,hD⟩:∃x,Q5 f=x:=⟨_,rfl⟩;rw[hD]at cd hok hDl hask⊢;clear h hC hT hT2 hd0 hD;by_cases hz:C=0
 · subst hz;obtain⟨h0,hlt⟩:=hask rfl;have cc:=Z6 D (QL q) (by omega) hok (by simp only[QL,List.length_map];omega) hlt;have hN:=(We hok hlt).1;have hWl:=hN.len;have hWn:=hN.nd;rw[←ZY h0]at cc;have cn:=fun x=>X59 q x (by omega);simp only[if_true]at ca⊢;clear hask h0 hlt hN hok;obtain⟨W,hW⟩:∃x,Zh D (QL q)=x:=⟨_,rfl⟩;rw[hW]at cc hWl hWn⊢;have hbad:∀x∈W,¬(x:Int)∈q→(W.all fun d=>decide ((d:Int)∈q))=false:=fun x hx hn=>List.all_eq_false.2 ⟨x,hx,by simpa using hn⟩;have hgood:(∀x∈W,(x:Int)∈q)→(W.all fun d=>decide ((d:Int)∈q))=true:=fun h=>List.all_eq_true.2 fun x hx=>by simpa using h x hx
   obtain⟨Z,hZ⟩:∃x,(W.all fun d=>decide ((d:Int)∈q))=x:=⟨_,rfl⟩;simp only[hZ]at hbad hgood⊢;clear hW hZ;obtain⟨vars,hats,body⟩:=f;simp only[aF,Fl.enc,List.map_cons,List.map_nil]at ca⊢;refine X7 Tryz.func21 ?_;simp only[Tryz.f21];refine X4 ?_;refine X0<|(QQ 3 [] [⟨false,.tup [.one (.c T),li 0],none⟩] (by simp[*];rfl) trivial (XR 12 rfl) (by simp[*];first|exact⟨rfl,Iff.rfl⟩|exact⟨rfl,trivial⟩|rfl) ?_ ?_)
   · first|exact ca _|simpa using ca _
   refine X0<|X0<|X3 ?_;refine(Xe rfl (fun h3=>?_) fun h3=>?_)
   · exact absurd h3 (by simp)
   (try simp only[BN]at h3);refine X0<|X0<|(Xp [⟨false,.v (.one (.c (.sl 1 (Q7 D)))),none⟩,⟨false,.v (.one (.c (.mp (mpI W)))),none⟩] ?_ ?_)
   · first|exact⟨cd _,cc _⟩|exact trivial|(repeat' first|exact trivial|exact cd _|exact cc _|apply And.intro)
   refine X5<|(Xd [1,23] (fun(y:List Nat)=>[]) (fun y=>[(23,.it (mpI W) y)]) (fun y=>y.Nodup∧X01 y W.length∧∀j∈y,∀x,W[j]? =some x→(x:Int)∈q) (fun y=>W.length - y.length) [] ⟨List.nodup_nil,by simp[X01],by simp⟩ ?_ ?_)
   · exact X6 (fun n=>n) []
   rintro seen ⟨j1,j2,j3⟩;simp only[upS,X8,Xy]
   try simp only[X8,KN,Nat.reduceBEq,if_true,if_false,ins,Nat.reduceLT]
   refine X1K (fun j k v hj hn=>?_) (fun hall=>?_)
   skip
   · (try simp only[BN]at h9);obtain⟨x,hd,rfl,rfl⟩:=X5c hj;have hjl:j<W.length:=(List.getElem?_eq_some_iff.1 hd).1
     have hnd2:(seen++[j]).Nodup:=by
      rw[List.nodup_append];exact⟨j1,by simp,fun a ha b hb=>by rw[List.mem_singleton.1 hb];exact fun e=>hn (e▸ha)⟩
     have hin:X01 (seen++[j]) W.length:=fun i hi=>by
      rcases List.mem_append.1 hi with h|h
      · exact j2 i h
      rw[List.mem_singleton.1 h];exact hjl
     have hle:=QD hnd2 hin;simp only[List.length_append,List.length_singleton]at hle;have cnx:=cn x;have hbx:=hbad x (List.mem_of_getElem? hd)
     have hnx:(x:Int)∈q→∀i∈seen++[j],∀y,W[i]? =some y→(y:Int)∈q:=fun hx i hi y hy=>by
      rcases List.mem_append.1 hi with h|h
      · exact j3 i h y hy
      rw[List.mem_singleton.1 h,hd]at hy;cases hy;exact hx
     clear hjl hbad hgood j3 cn ca cd cc;obtain⟨z,hz⟩:∃z,decide ((x:Int)∈q)=z:=⟨_,rfl⟩;rw[hz]at cnx;refine X5<|X0<|X3 ?_;refine Xk [⟨true,.v (lb z),none⟩] ?_ ?_
     · first|exact cnx _|exact trivial|simpa[*]using cnx _
     refine(Xe rfl (fun h12=>?_) fun h12=>?_)
     · (try simp only[BN]at h12);have hzf:z=false:=by simpa using h12
       have hr:=hbx (by rw[hzf]at hz;simpa using hz);subst hr;clear h12 hbx hnx hz;refine X4 ?_;exact Xh
     (try simp only[BN]at h12);have hzt:z=true:=by simpa using h12
     have hnx:=hnx (by rw[hzt]at hz;simpa using hz);clear h12 hbx hz;exact⟨seen++[j],⟨hnd2,hin,hnx⟩,by simp only[List.length_append,List.length_singleton];omega,X6 (fun n=>n) []⟩
   try simp only[BN]at h9
   have hr:=hgood fun x hx=>by
    obtain⟨i,hi⟩:=List.mem_iff_getElem?.1 hx;exact j3 i (hall i (by rw[X56];exact(List.getElem?_eq_some_iff.1 hi).1)) x hi
   subst hr;refine(Xg ?_);refine X4 ?_;exact Xh
 simp only[if_neg hz,hz,decide_false,Bool.false_and]at ca⊢;clear hask hok cd;obtain⟨vars,hats,body⟩:=f;simp only[aF,Fl.enc,List.map_cons,List.map_nil]at ca⊢;refine X7 Tryz.func21 ?_;simp only[Tryz.f21];refine X4 ?_;refine X0<|(QQ 3 [] [⟨false,.tup [.one (.c (.lit (.pointer none))),li C],none⟩] (by simp[*];rfl) trivial (XR 12 rfl) (by simp[*];first|exact⟨rfl,Iff.rfl⟩|exact⟨rfl,trivial⟩|rfl) ?_ ?_)
 · first|exact ca _|simpa using ca _
 refine X0<|X0<|X3 ?_;refine(Xe rfl (fun h3=>?_) fun h3=>?_)
 · (try simp only[BN]at h3);refine X4 ?_;exact Xh
 exact absurd h3 (by simp[hz])
end Go.Proofs.YtppjennamodfdaaGreat

namespace Go.Proofs.YtppjennamodfdaaGreat
open Go Go.Hl
theorem Xc3 {vars:List Vr} (h:ZI vars=0):∀k,1≤k→k≤3→spc vars k≤4096:=by
 intro k h1 h2;unfold ZI at h;split at h
 · split at h
   · cases h
   rename_i hb;simp only[List.any_cons,List.any_nil,Bool.or_false,Bool.or_eq_true,X2M,decide_eq_true_eq,not_or]at hb;have:k=1∨k=2∨k=3:=by omega
   rcases this with rfl|rfl|rfl<;>omega
 rename_i h0;exact absurd h h0
def fitB (f:Fl) (a b c:Int):Bool:=X1p f 10 80&&(decide (Qb f=0)&&(((decide (spc f.vars 1≤a)&&decide (spc f.vars 2≤b))&&decide (spc f.vars 3≤c))&&decide ((bdL CR f.body ⟨0,0,0⟩).s≤400)))
theorem XcC (f:Fl) (a b c:Int) (d:Nat):Con Tryz.prog 42 true [aF f,li a,li b,li c] (.v (lb (fitB f a b c))) none d:=by
 have cf:=Xb8 f 10 80 (by decide) (by decide)
 have hin:X1p f 10 80=true→f.vars.length≤1000000∧f.hats.length≤1000000∧Xl f.body+QI f.hats≤80∧Wm f.body=true:=by
  intro h;have:=X7F (nodes:=80) (by decide) h;exact⟨by omega,by omega,by omega,this.2.2.2⟩
 have hcc:X1p f 10 80=true→∀d,Con Tryz.prog 25 true [aF f] (.v (li (Qb f))) none d:=fun h=>X2C f (hin h).1 (hin h).2.1 (by have:=(hin h).2.2.1;omega) (hin h).2.2.2
 have hsp:X1p f 10 80=true→Qb f=0→∀k,1≤k→k≤3→∀d,Con Tryz.prog 79 true [lV f.vars,li k] (.tup [li (spc f.vars k),li 0]) none d:=fun h h0 k k1 k2=>
  X9D f.vars k ⟨k1,k2⟩ (X2y (Wn h0).2.1) (hin h).1 (Xc3 (Wn h0).2.1 k k1 k2)
 have hbd:X1p f 10 80=true→Qb f=0→∀d,Con Tryz.prog 66 true [lS f.body] (.tup [li (bdL CR f.body ⟨0,0,0⟩).s,li (bdL CR f.body ⟨0,0,0⟩).o,li (bdL CR f.body ⟨0,0,0⟩).t]) none d:=fun h h0=>
  X4L f.body (by have:=(hin h).2.2.1;omega) (X2u _ _ (Wn h0).2.2.2.1)
 obtain⟨res,hres⟩:∃r,fitB f a b c=r:=⟨_,rfl⟩;rw[hres];unfold fitB at hres;obtain⟨vars,hats,body⟩:=f;simp only at hsp hbd hres;obtain⟨FW,hFW⟩:∃x,X1p ⟨vars,hats,body⟩ 10 80=x:=⟨_,rfl⟩;obtain⟨K,hK⟩:∃x,Qb ⟨vars,hats,body⟩=x:=⟨_,rfl⟩;obtain⟨S1,h1⟩:∃x,spc vars 1=x:=⟨_,rfl⟩;obtain⟨S2,h2⟩:∃x,spc vars 2=x:=⟨_,rfl⟩;obtain⟨S3,h3⟩:∃x,spc vars 3=x:=⟨_,rfl⟩;have q1:=fun h h0=>hsp h h0 1 (by decide) (by decide);have q2:=fun h h0=>hsp h h0 2 (by decide) (by decide);have q3:=fun h h0=>hsp h h0 3 (by decide) (by decide);obtain⟨⟨bs,bo,bt⟩,hB⟩:∃x,bdL CR body ⟨0,0,0⟩=x:=⟨_,rfl⟩;rw[hFW]at cf hcc q1 q2 q3 hbd hres;rw[hK]at hcc q1 q2 q3 hbd hres;rw[hB]at hbd hres;rw[h1]at q1 hres;rw[h2]at q2 hres;rw[h3]at q3 hres;simp only at hbd hres;clear hFW hK h1 h2 h3 hB hsp hin;refine X7 Tryz.func42 ?_;simp only[Tryz.f42];simp only[aF,Fl.enc,List.map_cons,List.map_nil]at cf hcc⊢;refine X4 ?_;rcases FW with _|_
 · clear hcc q1 q2 q3 hbd;subst hres;refine X0<|X0<|(Zl [some ⟨true,.v (lb false),none⟩,none] (by simp[*];first|exact⟨rfl,Iff.rfl⟩|exact⟨rfl,trivial⟩|rfl) ?_ ?_)
   · first|exact trivial|exact cf _|simpa using cf _
   refine(Xe rfl (fun h2=>?_) fun h2=>?_)
   · (try simp only[BN]at h2);refine X4 ?_;exact Xh
   exact absurd h2 (by simp)
 have hcc:=hcc rfl;simp only[Bool.true_and]at hres;refine X0<|X0<|(Xp [⟨true,.v (lb true),none⟩,⟨true,.v (li K),none⟩] ?_ ?_)
 · first|exact⟨cf _,hcc _⟩|exact trivial|(repeat' first|exact trivial|exact cf _|exact hcc _|apply And.intro)
 refine(Xe rfl (fun h2=>?_) fun h2=>?_)
 · (try simp only[BN]at h2);have hk:¬K=0:=by simpa using h2
   rw[decide_eq_false hk,Bool.false_and]at hres;subst hres;clear q1 q2 q3 hbd;refine X4 ?_;exact Xh
 (try simp only[BN]at h2);have hk:K=0:=by simpa using h2
 have q1:=q1 rfl hk;have q2:=q2 rfl hk;have q3:=q3 rfl hk;have hbd:=hbd rfl hk;rw[decide_eq_true hk,Bool.true_and]at hres;clear cf hcc h2 hk;refine Xk [⟨true,.tup [li S1,li 0],none⟩] ?_ ?_
 · first|exact q1 _|exact trivial|simpa[*]using q1 _
 refine Xk [⟨true,.tup [li S2,li 0],none⟩] ?_ ?_
 · first|exact q2 _|exact trivial|simpa[*]using q2 _
 refine Xk [⟨true,.tup [li S3,li 0],none⟩] ?_ ?_
 · first|exact q3 _|exact trivial|simpa[*]using q3 _
 refine Xk [⟨true,.tup [li bs,li bo,li bt],none⟩] ?_ ?_
 · first|exact hbd _|exact trivial|simpa[*]using hbd _
 refine X4 ?_;subst hres;exact Xh
structure Fit (f:Fl) (a b c:Int):Prop where
 hv:f.vars.length≤10
 hh:f.hats.length≤10
 hn:Xl f.body+QI f.hats≤80
 hb:Wm f.body=true
 code:Qb f=0
 good:X06 f.vars
 s1:spc f.vars 1≤a
 s2:spc f.vars 2≤b
 s3:spc f.vars 3≤c
end Go.Proofs.YtppjennamodfdaaGreat

namespace Go.Proofs.YtppjennamodfdaaGreat
open Go Go.Hl
abbrev lQ (l:List (List Int)):TV:=.one (.c (.sl 1 (X41 l)))
theorem idxQ_con (l:List (List Int)) (g:FuncId) (p:List Int→Bool) (hl:l.length≤1000000000) (hp:∀v∈l,∀d,Con Tryz.prog g true [lI v] (.v (lb (p v))) none d) (d:Nat):
  ∃r:Int,(∀d,Con Tryz.prog 76 true [lQ l,.one (.fn g [])] (.v (li r)) none d)∧(0≤r↔l.any p=true):=by
 let rec_:List (List Int)→Int→Int:=fun l k=>match l.findIdx? p with
  |some i=>k+i
  |none=>-1
 refine⟨(match l.findIdx? p with|some i=>(i:Int)|none=>-1),fun d=>?_,?_⟩
 · have hstep:∀k:Nat,(∀j:Nat,j<k→∀v,l[j]? =some v→p v=false)→∀v,l[k]? =some v→p v=true→l.findIdx? p=some k:=by
    intro k hno v hv hpv;rw[List.findIdx?_eq_some_iff_getElem];have hk:k<l.length:=(List.getElem?_eq_some_iff.1 hv).1;refine⟨hk,?_,fun j hj=>?_⟩
    · simp only[List.getElem?_eq_getElem hk,Option.some.injEq]at hv;rw[hv];exact hpv
    have:=hno j hj l[j] (by simp);simp[this]
   have hnone:(∀j:Nat,j<l.length→∀v,l[j]? =some v→p v=false)→l.findIdx? p=none:=by
    intro hno;rw[List.findIdx?_eq_none_iff];intro v hv;obtain⟨j,hj⟩:=List.mem_iff_getElem?.1 hv;exact hno j (List.getElem?_eq_some_iff.1 hj).1 v hj
   clear rec_;refine X7 Tryz.func76 ?_;simp only[Tryz.f76];refine X4 ?_;refine X0<|X0<|X3 ?_;refine X5<|(Xd [0,1,7] (fun(x:Nat)=>[(8,.v (li x))]) (fun x=>[]) (fun x=>x≤l.length∧∀j:Nat,j<x→∀v,l[j]? =some v→p v=false) (fun x=>l.length - x) (0:Nat) ⟨Nat.zero_le _,fun j hj=>absurd hj (Nat.not_lt_zero j)⟩ ?_ ?_)
   · exact X6 (fun n=>n) []
   rintro k ⟨hk,hJ⟩;simp only[upS,X8,Xy]
   try simp only[X8,KN,Nat.reduceBEq,if_true,if_false,ins,Nat.reduceLT]
   refine X4 ?_;refine X0<|(X9 rfl (fun h4=>Xb ?_) (fun h4=>?_))
   · (try simp only[BN]at h4);have hlt:k<l.length:=by first|omega|simpa using h4
     obtain⟨v,he,hd⟩:=Xq hlt;have he2:=X5O he;have hw1:=XA hlt (by omega);have hk1:k+1≤l.length:=hlt;have hpv:=hp v (List.mem_of_getElem? he);have hs:=hstep k hJ v he;clear hlt h4 hstep hnone hp;refine X0<|X5<|X0<|X3 ?_;refine Xk [⟨true,.v (lb (p v)),none⟩] ?_ ?_
     · first|exact hpv _|exact trivial|simpa[*]using hpv _
     refine(Xe rfl (fun h7=>?_) fun h7=>?_)
     · (try simp only[BN]at h7);rw[hs h7];refine X4 ?_;exact Xh
     (try simp only[BN]at h7);refine X3 ?_;exact⟨k+1,⟨hk1,fun j hj w hw=>(Nat.lt_succ_iff_lt_or_eq.1 hj).elim (fun h=>hJ j h w hw) (fun e=>by subst e;rw[he]at hw;cases hw;exact h7)⟩,by omega,X6 (fun n=>n) []⟩
   (try simp only[BN]at h4);rw[hnone fun j hj=>hJ j (by omega)];refine(Xg ?_);refine X4 ?_;exact Xh
 rw[List.any_eq];cases h:l.findIdx? p with
 | none=>
   rw[List.findIdx?_eq_none_iff]at h;simp only[decide_eq_true_eq];constructor
   · intro h;omega
   rintro⟨v,hv,hpv⟩;have:=h v hv;rw[hpv]at this;cases this
 | some i=>
   rw[List.findIdx?_eq_some_iff_getElem]at h;obtain⟨hi,hpi,_⟩:=h;simp only[decide_eq_true_eq];exact⟨fun _=>⟨l[i],List.getElem_mem _,hpi⟩,fun _=>by omega⟩
theorem conQ_con (l:List (List Int)) (g:FuncId) (p:List Int→Bool) (hl:l.length≤1000000000) (hp:∀v∈l,∀d,Con Tryz.prog g true [lI v] (.v (lb (p v))) none d) (d:Nat):
  Con Tryz.prog 39 true [lQ l,.one (.fn g [])] (.v (lb (l.any p))) none d:=by
 obtain⟨r,hr,hi⟩:=idxQ_con l g p hl hp 0;have hd:decide (0≤r)=l.any p:=by rw[Bool.eq_iff_iff,decide_eq_true_eq];exact hi
 clear hi hp;refine X7 Tryz.func39 ?_;simp only[Tryz.f39];refine X4 ?_;refine Xk [⟨true,.v (li r),none⟩] ?_ ?_
 · first|exact hr _|exact trivial|simpa[*]using hr _
 exact Xh
theorem long_con (l:List Int) (d:Nat):Con Tryz.prog 40 true [lI l] (.v (lb (decide ((40:Int)<l.length)))) none d:=by
 refine X7 Tryz.func40 ?_;simp only[Tryz.f40];refine X4 ?_;refine X4 ?_;exact Xh
def fitQ (f:Fl) (qs:List (List Int)):Bool:= !(qs.any fun l=>decide ((40:Int)<l.length))&&(X1p f 70 300&&(decide (Qb f≠0)||(fitB f 4096 4096 256&&decide ((szL f.body:Int)≤24))))
theorem few_sm {f:Fl} (h:X1p f 70 300=true):Sm f:=by
 obtain⟨h1,h2,h3,h4⟩:=X7F (nodes:=300) (by decide) h;exact⟨by omega,by omega,by omega,h4⟩
end Go.Proofs.YtppjennamodfdaaGreat

namespace Go.Proofs.YtppjennamodfdaaGreat
open Go Go.Hl
theorem X9N (l:List Nat) (i:Nat):decide ((i:Int)∈l.map Int.ofNat)=decide (i∈l):=by
 rw[Bool.eq_iff_iff];simp only[decide_eq_true_eq,List.mem_map];constructor
 · rintro⟨a,h1,h2⟩;have:a=i:=Int.ofNat.inj h2;exact this▸h1
 intro h;exact⟨i,h,rfl⟩
theorem X5K (l:List Nat) (i:Nat) (hl:l.length≤1000000) (d:Nat):Con Tryz.prog 18 true [.one (.c (.sl 1 (XB l))),li i] (.v (lb (decide (i∈l)))) none d:=by
 have:=X59 (l.map Int.ofNat) i (by simp only[List.length_map];omega) d;rw[X9N,show lI (l.map Int.ofNat)=.one (.c (.sl 1 (XB l))) by rw[X3O]]at this;exact this
end Go.Proofs.YtppjennamodfdaaGreat

namespace Go.Proofs.YtppjennamodfdaaGreat
open Go Go.Hl
theorem idxI_con (l:List Int) (g:FuncId) (cap:List CD) (p:Int→Bool) (hl:l.length≤1000000000) (hp:∀v∈l,∀d,Con Tryz.prog g true (li v::cap.map fun c=>.one (.c c)) (.v (lb (p v))) none d) (d:Nat):
  Con Tryz.prog 56 true [lI l,.one (.c (.fn g cap))] (.v (li (match l.findIdx? p with|some i=>(i:Int)|none=>-1))) none d:=by
 have hstep:∀k:Nat,(∀j:Nat,j<k→∀v,l[j]? =some v→p v=false)→∀v,l[k]? =some v→p v=true→l.findIdx? p=some k:=by
  intro k hno v hv hpv;rw[List.findIdx?_eq_some_iff_getElem];have hk:k<l.length:=(List.getElem?_eq_some_iff.1 hv).1;refine⟨hk,?_,fun j hj=>?_⟩
  · simp only[List.getElem?_eq_getElem hk,Option.some.injEq]at hv;rw[hv];exact hpv
  have:=hno j hj l[j] (by simp);simp[this]
 have hnone:(∀j:Nat,j<l.length→∀v,l[j]? =some v→p v=false)→l.findIdx? p=none:=by
  intro hno;rw[List.findIdx?_eq_none_iff];intro v hv;obtain⟨j,hj⟩:=List.mem_iff_getElem?.1 hv;exact hno j (List.getElem?_eq_some_iff.1 hj).1 v hj
 refine X7 Tryz.func56 ?_;simp only[Tryz.f56];refine X4 ?_;refine X0<|X0<|X3 ?_;refine X5<|(Xd [0,1,7] (fun(x:Nat)=>[(8,.v (li x))]) (fun x=>[]) (fun x=>x≤l.length∧∀j:Nat,j<x→∀v,l[j]? =some v→p v=false) (fun x=>l.length - x) (0:Nat) ⟨Nat.zero_le _,fun j hj=>absurd hj (Nat.not_lt_zero j)⟩ ?_ ?_)
 · exact X6 (fun n=>n) []
 rintro k ⟨hk,hJ⟩;simp only[upS,X8,Xy]
 try simp only[X8,KN,Nat.reduceBEq,if_true,if_false,ins,Nat.reduceLT]
 refine X4 ?_;refine X0<|(X9 rfl (fun h4=>Xb ?_) (fun h4=>?_))
 · (try simp only[BN]at h4);have hlt:k<l.length:=by first|omega|simpa using h4
   obtain⟨v,he,hd⟩:=Xq hlt;have he2:=X4i he;have hw1:=XA hlt (by omega);have hk1:k+1≤l.length:=hlt;have hpv:=hp v (List.mem_of_getElem? he);have hs:=hstep k hJ v he;clear hlt h4 hstep hnone hp;refine X0<|X5<|X0<|X3 ?_;refine Xk [⟨true,.v (lb (p v)),none⟩] ?_ ?_
   · first|exact hpv _|exact trivial|simpa[*]using hpv _
   refine(Xe rfl (fun h7=>?_) fun h7=>?_)
   · (try simp only[BN]at h7);rw[hs h7];refine X4 ?_;exact Xh
   (try simp only[BN]at h7);refine X3 ?_;exact⟨k+1,⟨hk1,fun j hj w hw=>(Nat.lt_succ_iff_lt_or_eq.1 hj).elim (fun h=>hJ j h w hw) (fun e=>by subst e;rw[he]at hw;cases hw;exact h7)⟩,by omega,X6 (fun n=>n) []⟩
 (try simp only[BN]at h4);rw[hnone fun j hj=>hJ j (by omega)];refine(Xg ?_);refine X4 ?_;exact Xh
theorem XbC {α:Type} (l:List α) (p:α→Bool):decide (0≤(match l.findIdx? p with|some i=>(i:Int)|none=>-1))=l.any p:=by
 rw[Bool.eq_iff_iff,decide_eq_true_eq,List.any_eq];cases h:l.findIdx? p with
 | none=>
   rw[List.findIdx?_eq_none_iff]at h;simp only[decide_eq_true_eq];constructor
   · intro h;omega
   rintro⟨v,hv,hpv⟩;have:=h v hv;rw[hpv]at this;cases this
 | some i=>
   rw[List.findIdx?_eq_some_iff_getElem]at h;obtain⟨hi,hpi,_⟩:=h;simp only[decide_eq_true_eq];exact⟨fun _=>⟨l[i],List.getElem_mem _,hpi⟩,fun _=>by omega⟩
theorem X64 (l:List Int) (g:FuncId) (cap:List CD) (p:Int→Bool) (hl:l.length≤1000000000) (hp:∀v∈l,∀d,Con Tryz.prog g true (li v::cap.map fun c=>.one (.c c)) (.v (lb (p v))) none d) (d:Nat):
  Con Tryz.prog 22 true [lI l,.one (.c (.fn g cap))] (.v (lb (l.any p))) none d:=by
 have hr:=idxI_con l g cap p hl hp;have hd:=XbC l p;obtain⟨r,hrr⟩:∃x:Int,(match l.findIdx? p with|some i=>(i:Int)|none=>-1)=x:=⟨_,rfl⟩;rw[hrr]at hr hd;clear hp hrr;refine X7 Tryz.func22 ?_;simp only[Tryz.f22];refine X4 ?_;refine Xk [⟨true,.v (li r),none⟩] ?_ ?_
 · first|exact hr _|exact trivial|simpa[*]using hr _
 exact Xh
theorem out_con (x n:Int) (d:Nat):Con Tryz.prog 48 true [li x,.one (.c (.ptr [iC n]))] (.v (lb (decide (x<0)||decide (n≤x)))) none d:=by
 refine X7 Tryz.func48 ?_;simp only[Tryz.f48];refine X4 ?_;refine X4 ?_;exact Xh
set_option maxHeartbeats 8000000 in
theorem X9K (f:Fl) (h:Sm f) (qs:List (List Int)) (hq:qs.length≤100) (hql:∀q∈qs,q.length≤1000000) (d:Nat):Con Tryz.prog 15 true [aF f,lQ qs] (.v (li (WN f qs))) none d:=by
 have cc:=X2C f (by have:=h.vars;omega) (by have:=h.hats;omega) (by have:=h.nodes;omega) h.bnd;have cs:=W1 f.body (by have:=h.nodes;omega);have hsl:szL f.body≤1000:=by have:=h.nodes;have:=Qw f.body;omega
 obtain⟨K,hK⟩:∃x,Qb f=x:=⟨_,rfl⟩;obtain⟨n,hn⟩:∃x,szL f.body=x:=⟨_,rfl⟩;obtain⟨res,hres⟩:∃x,WN f qs=x:=⟨_,rfl⟩;rw[hres];unfold WN at hres;rw[XK]at hres;rw[hK]at cc hres;rw[hn]at cs hres hsl;have ci:=fun q (hq:q∈qs)=>X64 q 48 [.ptr [iC n]] (fun x=>decide (x<0)||decide ((n:Int)≤x)) (by have:=hql q hq;omega) (fun x _ d=>out_con x n d)
 have hbad:∀q∈qs,q.any (fun x=>decide (x<0)||decide ((n:Int)≤x))=true→askB n qs=false:=by
  intro q hq hx;obtain⟨x,hx1,hx2⟩:=List.any_eq_true.1 hx;simp only[Bool.or_eq_true,decide_eq_true_eq]at hx2;exact X9w hq hx1 (by omega)
 have hgood:∀qs:List (List Int),(∀q∈qs,q.any (fun x=>decide (x<0)||decide ((n:Int)≤x))=false)→askB n qs=true:=by
  intro qs h;unfold askB;rw[List.all_eq_true];intro q hq;unfold inB;rw[List.all_eq_true];intro x hx;have:=(List.any_eq_false.1 (h q hq)) x hx;simp only[Bool.or_eq_true,decide_eq_true_eq,not_or]at this⊢;omega
 have hgood:=hgood qs;clear hK hn h;obtain⟨vars,hats,body⟩:=f;simp only[aF,Fl.enc,List.map_cons,List.map_nil]at cc cs⊢;refine X7 Tryz.func15 ?_;simp only[Tryz.f15];refine X4 ?_;refine X0<|X0<|(Xp [⟨true,.v (li K),none⟩] ?_ ?_)
 · first|exact cc _|exact trivial|simpa[*]using cc _
 refine X4 ?_;refine(Xe rfl (fun h3=>?_) fun h3=>?_)
 · (try simp only[BN]at h3);have hne:¬K=0:=by simpa using h3
   rw[if_neg hne]at hres;subst hres;clear h3;refine X4 ?_;exact Xh
 (try simp only[BN]at h3);have hz:K=0:=by simpa using h3
 rw[if_pos hz]at hres;clear h3 cc;refine Xk [⟨true,.v (li n),none⟩] ?_ ?_
 · first|exact cs _|exact trivial|simpa[*]using cs _
 refine X0<|X0<|X3 ?_;refine X5<|(Xd [6,17,18] (fun(k:Nat)=>[(19,.v (li k))]) (fun k=>[(6,.box [.c (iC n)])]) (fun k=>k≤qs.length∧∀j:Nat,j<k→∀q,qs[j]? =some q→q.any (fun x=>decide (x<0)||decide ((n:Int)≤x))=false) (fun k=>qs.length - k) (0:Nat) ⟨Nat.zero_le _,fun j hj=>absurd hj (Nat.not_lt_zero j)⟩ ?_ ?_)
 · exact X6 (fun n=>n) []
 rintro k ⟨hk,hJ⟩;simp only[upS,X8,Xy]
 try simp only[X8,KN,Nat.reduceBEq,if_true,if_false,ins,Nat.reduceLT]
 refine X4 ?_;refine X0<|(X9 rfl (fun h10=>Xb ?_) (fun h10=>?_))
 · (try simp only[BN]at h10);have hlt:k<qs.length:=by first|omega|simpa using h10
   obtain⟨q,he,hd⟩:=Xq hlt;have he2:=X5O he;have hw1:=XA hlt (by omega);have hk1:k+1≤qs.length:=hlt;have cq:=ci q (List.mem_of_getElem? he);have hb:=hbad q (List.mem_of_getElem? he);obtain⟨G,hG⟩:∃x,q.any (fun x=>decide (x<0)||decide ((n:Int)≤x))=x:=⟨_,rfl⟩;rw[hG]at cq hb;clear hlt h10 hgood hbad ci hd;refine X0<|X5<|X0<|X3 ?_;refine Xk [⟨true,.v (lb G),none⟩] ?_ ?_
   · first|exact cq _|exact trivial|simpa[*]using cq _
   refine(Xe rfl (fun h13=>?_) fun h13=>?_)
   · (try simp only[BN]at h13);have hGt:G=true:=by simpa using h13
     rw[if_neg (by rw[hb hGt];simp)]at hres;subst hres;refine X4 ?_;exact Xh
   (try simp only[BN]at h13);have hGf:G=false:=by simpa using h13
   refine X3 ?_;exact⟨k+1,⟨hk1,fun j hj w hw=>(Nat.lt_succ_iff_lt_or_eq.1 hj).elim (fun h=>hJ j h w hw) (fun e=>by subst e;rw[he]at hw;cases hw;rw[hG,hGf])⟩,by omega,X6 (fun n=>n) []⟩
 (try simp only[BN]at h10);have hkl:k=qs.length:=by first|omega|(have:¬k<qs.length:=by simpa using h10;omega)
 subst hkl
 have hg:=hgood fun q hq=>by
  obtain⟨j,hj⟩:=List.mem_iff_getElem?.1 hq;exact hJ j (List.getElem?_eq_some_iff.1 hj).1 q hj
 rw[if_pos hg]at hres;subst hres;refine(Xg ?_);refine X4 ?_;exact Xh
end Go.Proofs.YtppjennamodfdaaGreat

namespace Go.Proofs.YtppjennamodfdaaGreat
open Go Go.Hl
theorem X8u {f:Fl} {qs:List (List Int)} (h:fitQ f qs=true):X1p f 70 300=true∧∀q∈qs,q.length≤40:=by
 unfold fitQ at h;simp only[Bool.and_eq_true,Bool.not_eq_true',List.any_eq_false,decide_eq_true_eq]at h;refine⟨h.2.1,fun q hq=>?_⟩;have:=h.1 q hq;omega
end Go.Proofs.YtppjennamodfdaaGreat

namespace Go.Proofs.YtppjennamodfdaaGreat
open Go Go.Hl
mutual
def rvB (v:Int):Tm→Bool
 | .mk o n ks=>if o=24 then decide (n=v)else rvBs v ks
def rvBs (v:Int):List Tm→Bool
 |[]=>false
 |t::l=>rvB v t||rvBs v l
end
theorem X8T (v:Int):∀l:List Tm,l.any (rvB v)=rvBs v l
 |[]=>by simp[rvBs]
 |t::l=>by simp[rvBs,X8T v l]
mutual
theorem X52 {vars:List Vr} {inp:Bool} (v:Int):∀t:Tm,QS vars inp t=true→(rvB v t=true↔v∈tmV t)
 | .mk o n ks,h=>by
   simp only[QS,Bool.and_eq_true]at h;simp only[rvB,tmV];by_cases h24:o=24
   · subst h24;have h1:=h.1;unfold Qh at h1;simp only[Bool.and_eq_true,Bool.not_eq_true',decide_eq_false_iff_not]at h1
     have hk:ks=[]:=by
      have:=h1.1.2.2;have e:(Qn 24).2=0:=by decide
      rw[e]at this;exact List.eq_nil_of_length_eq_zero (by omega)
     subst hk;simp[X3m,eq_comm]
   rw[if_neg h24,if_neg h24,List.nil_append];exact X8x v ks h.2
theorem X8x {vars:List Vr} {inp:Bool} (v:Int):∀l:List Tm,WR vars inp l=true→(rvBs v l=true↔v∈X3m l)
 |[],_=>by simp[rvBs,X3m]
 | t::l,h=>by
   simp only[WR,Bool.and_eq_true]at h;simp only[rvBs,X3m,Bool.or_eq_true,List.mem_append];rw[X52 v t h.1,X8x v l h.2]
end
theorem idxT_con (l:List Tm) (g:FuncId) (cap:List CD) (p:Tm→Bool) (hl:l.length≤1000000000) (hp:∀v∈l,∀d,Con Tryz.prog g true (aT v::cap.map fun c=>.one (.c c)) (.v (lb (p v))) none d) (d:Nat):
  Con Tryz.prog 127 true [.one (.c (.sl 3 (Xo l))),.one (.c (.fn g cap))] (.v (li (match l.findIdx? p with|some i=>(i:Int)|none=>-1))) none d:=by
 have hstep:∀k:Nat,(∀j:Nat,j<k→∀v,l[j]? =some v→p v=false)→∀v,l[k]? =some v→p v=true→l.findIdx? p=some k:=by
  intro k hno v hv hpv;rw[List.findIdx?_eq_some_iff_getElem];have hk:k<l.length:=(List.getElem?_eq_some_iff.1 hv).1;refine⟨hk,?_,fun j hj=>?_⟩
  · simp only[List.getElem?_eq_getElem hk,Option.some.injEq]at hv;rw[hv];exact hpv
  have:=hno j hj l[j] (by simp);simp[this]
 have hnone:(∀j:Nat,j<l.length→∀v,l[j]? =some v→p v=false)→l.findIdx? p=none:=by
  intro hno;rw[List.findIdx?_eq_none_iff];intro v hv;obtain⟨j,hj⟩:=List.mem_iff_getElem?.1 hv;exact hno j (List.getElem?_eq_some_iff.1 hj).1 v hj
 refine X7 Tryz.func127 ?_;simp only[Tryz.f127];refine X4 ?_;refine X0<|X0<|X3 ?_;refine X5<|(Xd [0,1,7] (fun(x:Nat)=>[(8,.v (li x))]) (fun x=>[]) (fun x=>x≤l.length∧∀j:Nat,j<x→∀v,l[j]? =some v→p v=false) (fun x=>l.length - x) (0:Nat) ⟨Nat.zero_le _,fun j hj=>absurd hj (Nat.not_lt_zero j)⟩ ?_ ?_)
 · exact X6 (fun n=>n) []
 rintro k ⟨hk,hJ⟩;simp only[upS,X8,Xy]
 try simp only[X8,KN,Nat.reduceBEq,if_true,if_false,ins,Nat.reduceLT]
 refine X4 ?_;refine X0<|(X9 rfl (fun h4=>Xb ?_) (fun h4=>?_))
 · (try simp only[BN]at h4);have hlt:k<l.length:=by first|omega|simpa using h4
   obtain⟨⟨o,tn,ks⟩,he,hd⟩:=Xq hlt;have hw1:=XA hlt (by omega);have hk1:k+1≤l.length:=hlt;have hpv:=hp _ (List.mem_of_getElem? he);have hs:=hstep k hJ _ he;have he':=Wt he;simp only[Tm.enc]at he';clear hlt h4 hstep hnone hp;refine X0<|X5<|X0<|X3 ?_;refine Xk [⟨true,.v (lb (p (.mk o tn ks))),none⟩] ?_ ?_
   · first|exact hpv _|exact trivial|simpa[*]using hpv _
   refine(Xe rfl (fun h7=>?_) fun h7=>?_)
   · (try simp only[BN]at h7);rw[hs h7];refine X4 ?_;exact Xh
   (try simp only[BN]at h7);refine X3 ?_;exact⟨k+1,⟨hk1,fun j hj w hw=>(Nat.lt_succ_iff_lt_or_eq.1 hj).elim (fun h=>hJ j h w hw) (fun e=>by subst e;rw[he]at hw;cases hw;exact h7)⟩,by omega,X6 (fun n=>n) []⟩
 (try simp only[BN]at h4);rw[hnone fun j hj=>hJ j (by omega)];refine(Xg ?_);refine X4 ?_;exact Xh
theorem conT_con (l:List Tm) (g:FuncId) (cap:List CD) (p:Tm→Bool) (hl:l.length≤1000000000) (hp:∀v∈l,∀d,Con Tryz.prog g true (aT v::cap.map fun c=>.one (.c c)) (.v (lb (p v))) none d) (d:Nat):
  Con Tryz.prog 88 true [.one (.c (.sl 3 (Xo l))),.one (.c (.fn g cap))] (.v (lb (l.any p))) none d:=by
 have hr:=idxT_con l g cap p hl hp;have hd:decide (0≤(match l.findIdx? p with|some i=>(i:Int)|none=>-1))=l.any p:=XbC l p;obtain⟨r,hrr⟩:∃x:Int,(match l.findIdx? p with|some i=>(i:Int)|none=>-1)=x:=⟨_,rfl⟩;rw[hrr]at hr hd;clear hp hrr;refine X7 Tryz.func88 ?_;simp only[Tryz.f88];refine X4 ?_;refine Xk [⟨true,.v (li r),none⟩] ?_ ?_
 · first|exact hr _|exact trivial|simpa[*]using hr _
 exact Xh
theorem Xb1 (t:Tm) (v:Int) (r:Bool) (h:∀d,Con Tryz.prog 59 true [aT t,li v] (.v (lb r)) none d) (d:Nat):Con Tryz.prog 89 true [aT t,.one (.c (.ptr [iC v]))] (.v (lb r)) none d:=by
 obtain⟨o,n,ks⟩:=t;simp only[aT,Tm.enc,List.map_cons,List.map_nil]at h⊢;refine X7 Tryz.func89 ?_;simp only[Tryz.f89];refine X4 ?_;refine Xk [⟨true,.v (lb r),none⟩] ?_ ?_
 · first|exact h _|exact trivial|simpa[*]using h _
 exact Xh
theorem X3V (v:Int) (t:Tm):t.nodes≤1000000000→∀d:Nat,Con Tryz.prog 59 true [aT t,li v] (.v (lb (rvB v t))) none d:=by
 induction t using Tm.ind with
 |h o n ks ih=>
 intro hn d;simp only[Tm.nodes]at hn;have hlen:=W8 ks;have cc:=conT_con ks 89 [.ptr [iC v]] (rvB v) (by omega) (fun k hk d=>Xb1 k v _ (ih k hk (by have:=X0D hk;omega)) d);rw[X8T]at cc;obtain⟨res,hres⟩:∃r,rvB v (.mk o n ks)=r:=⟨_,rfl⟩;rw[hres];simp only[rvB]at hres;obtain⟨R,hR⟩:∃r,rvBs v ks=r:=⟨_,rfl⟩;rw[hR]at hres cc;clear ih hR;refine X7 Tryz.func59 ?_;simp only[Tryz.f59];simp only[aT,Tm.enc,List.map_cons,List.map_nil];refine X4 ?_;refine X0<|X0<|X3 ?_;refine(Xe rfl (fun h2=>?_) fun h2=>?_)
 · (try simp only[BN]at h2);have h24:o=24:=by simpa using h2
   rw[if_pos h24]at hres;subst hres;clear h2;refine X4 ?_;exact Xh
 (try simp only[BN]at h2);have h24:¬o=24:=by simpa using h2
 rw[if_neg h24]at hres;subst hres;clear h2;refine Xk [⟨true,.v (lb R),none⟩] ?_ ?_
 · first|exact cc _|exact trivial|simpa[*]using cc _
 exact Xh
theorem X74:∀l:List St,wdL l≤2*szL l:=by
 apply St.lind
 · simp[wdL]
 intro d c v n t a b bs l ia ib il;simp only[wdL,wdS,szL,szS];split<;>omega
theorem X4q (l:List St):Xl l≤1000000000→∀d:Nat,Con Tryz.prog 153 true [lS l] (.v (li (wdL l))) none d:=by
 revert l
 apply St.lists;intro l ih hn d;have hlen:=Q9 l;have hsl:=Qw l;have hwl:=X74 l;obtain⟨res,hres⟩:∃r,wdL l=r:=⟨_,rfl⟩;rw[hres]at hwl⊢;refine X7 Tryz.func153 ?_;simp only[Tryz.f153];refine X4 ?_;refine X4 ?_;refine X0<|X0<|X3 ?_;refine X5<|(Xd [6,7] (fun(x:Nat×Nat)=>[(3,.v (li ((x.2:Nat):Int))),(8,.v (li x.1))]) (fun x=>[]) (fun x=>x.1≤l.length∧x.2+wdL (l.drop x.1)=res) (fun x=>l.length - x.1) (0,0) ⟨Nat.zero_le _,by simpa using hres⟩ ?_ ?_)
 · exact X6 (fun n=>n) []
 rintro⟨k,m⟩ ⟨hk,hJ⟩;simp only[upS,X8,Xy]
 try simp only[X8,KN,Nat.reduceBEq,if_true,if_false,ins,Nat.reduceLT]
 simp only at hk hJ;refine X4 ?_;refine X0<|(X9 rfl (fun h5=>Xb ?_) (fun h5=>?_))
 · (try simp only[BN]at h5);have hlt:k<l.length:=by first|omega|simpa using h5
   obtain⟨s,he,hd⟩:=Xq hlt;have hmem:s∈l:=List.mem_of_getElem? he;have hnm:=Qm hmem;have iha:=(ih s hmem).1;have ihb:=(ih s hmem).2;have hw1:=XA hlt (by omega);have hk1:k+1≤l.length:=hlt;rw[hd]at hJ;obtain⟨sd,sc,sv,sn,⟨so,stn,sks⟩,sa,sb,sbs⟩:=s;simp only[St.then_,St.else_,St.term]at iha ihb hnm;simp only[wdL,wdS]at hJ;have ca:=iha (by omega);have cb:=ihb (by omega);have he':=XX he;simp only[St.enc,Tm.enc,List.cons_append,List.nil_append]at he';generalize wdL sa=na at*;generalize wdL sb=nb at*;have hw2:IntKind.i64.wrap (1+(na:Int))=1+(na:Int):=Xc (by omega) (by omega);have hw3:IntKind.i64.wrap (1+(na:Int)+(nb:Int))=1+(na:Int)+(nb:Int):=Xc (by omega) (by omega);have hw4:IntKind.i64.wrap ((m:Int)+(1+(na:Int)+(nb:Int)))=(m:Int)+(1+(na:Int)+(nb:Int)):=Xc (by omega) (by omega);have hw5:IntKind.i64.wrap ((m:Int)+(1+(na:Int)+(nb:Int))+1)=((m+(2+na+nb):Nat):Int):=by rw[Xc (by omega) (by omega)];omega
   clear hlt h5 ih hmem iha ihb hd he;refine X0<|X5<|X0<|X3 ?_;refine X0<|(Qk [⟨true,.v (li (na:Int)),none⟩,⟨true,.v (li (nb:Int)),none⟩] (by kernel_rfl) (by kernel_rfl) (by rfl) (by simp[*];first|exact⟨rfl,Iff.rfl⟩|exact⟨rfl,trivial⟩|rfl) ?_ ?_)
   · first|exact⟨ca _,cb _⟩|exact trivial|(repeat' first|exact trivial|exact ca _|exact cb _|apply And.intro)
   refine X4 ?_;refine(Xe rfl (fun h9=>?_) fun h9=>?_)
   · (try simp only[BN]at h9);have h4:sd=4:=by simpa using h9
     rw[if_pos h4]at hJ;clear h9;refine X3 ?_;refine X3 ?_;exact⟨(k+1,m+(2+na+nb)),⟨hk1,by simp only;omega⟩,by simp only;omega,X6 (fun n=>n) []⟩
   (try simp only[BN]at h9);have h4:¬sd=4:=by simpa using h9
   rw[if_neg h4]at hJ;clear h9;refine X3 ?_;exact⟨(k+1,m+(1+na+nb)),⟨hk1,by simp only;omega⟩,by simp only;omega,X6 (fun n=>n) []⟩
 (try simp only[BN]at h5);have hkl:k=l.length:=by first|omega|(have:¬k<l.length:=by simpa using h5;omega)
 rw[hkl,List.drop_length]at hJ;simp only[wdL,Nat.add_zero]at hJ;clear hres h5 ih hsl hlen hkl;subst hJ;refine(Xg ?_);refine X4 ?_;exact Xh
end Go.Proofs.YtppjennamodfdaaGreat

namespace Go.Proofs.YtppjennamodfdaaGreat
open Go Go.Hl
theorem Xcn (acc:List Int) (o:Int) (A B:List Int):Xj (acc++o::(A++B))=Xj acc++[iC o]::(Xj A++Xj B):=by simp[Xj]
set_option maxHeartbeats 16000000 in
theorem Xac (l:List St):Xl l≤1000000→∀(p:Nat) (outer:Int),p+szL l≤5000000→∀d:Nat,Con Tryz.prog 82 false [lS l,li p,li outer] (.v (lI (arL l outer p))) none d:=by
 revert l
 apply St.lists;intro l ih hn p0 outer hp0 d;have hlen:=Q9 l;have hszl:=Qw l;obtain⟨res,hres⟩:∃r,arL l outer p0=r:=⟨_,rfl⟩;rw[hres];refine X7 Tryz.func82 ?_;simp only[Tryz.f82];refine X4 ?_;refine X4 ?_;refine X0<|X0<|X3 ?_;refine X5<|(Xd [2,10,11] (fun(x:Nat×Nat×List Int)=>[(1,.v (li ((x.2.1:Nat):Int))),(7,.v (.one (.own 1003))),(12,.v (li x.1))]) (fun x=>[(1003,.row 3 1 (Xj x.2.2))]) (fun x=>x.1≤l.length∧x.2.2++arL (l.drop x.1) outer x.2.1=res∧x.2.1+szL (l.drop x.1)=p0+szL l∧x.2.2.length+szL (l.drop x.1)=szL l) (fun x=>l.length - x.1) (0,p0,[]) ⟨Nat.zero_le _,by simpa using hres,by simp,by simp⟩ ?_ ?_)
 · exact X6 (fun n=>n) [1003]
 rintro⟨k,p,acc⟩ ⟨hk,hJ,hp,hal⟩;simp only[upS,X8,Xy]
 try simp only[X8,KN,Nat.reduceBEq,if_true,if_false,ins,Nat.reduceLT]
 simp only at hk hJ hp hal;clear hres;refine X4 ?_;refine X0<|(X9 rfl (fun h5=>Xb ?_) (fun h5=>?_))
 · (try simp only[BN]at h5);have hlt:k<l.length:=by first|omega|simpa using h5
   obtain⟨s,he,hd⟩:=Xq hlt;have hw1:=XA hlt (by omega);have hk1:k+1≤l.length:=hlt;have hmem:s∈l:=List.mem_of_getElem? he;have hnm:=Qm hmem;rw[hd]at hJ hp hal;simp only[arL]at hJ;simp only[szL]at hp hal;have he':=XX he;have iha:=(ih s hmem).1;have ihb:=(ih s hmem).2;obtain⟨sd,sc,sv,sn,⟨so,stn,sks⟩,sa,sb,sbs⟩:=s;simp only[St.then_,St.else_,St.term]at iha ihb hnm;have ca:=W1 sa (by omega);have cb:=W1 sb (by omega);have hla:=Qw sa;have hlb:=Qw sb;rw[arS_eq]at hJ;simp only[szS,St.then_,St.else_]at hJ hp hal;simp only[St.enc,Tm.enc,List.cons_append,List.nil_append]at he';have lA:=Zg sa (p:Int) (p+1);have lB:=Zg sb (p:Int) (p+1+szL sa);have iha:=iha (by omega) (p+1) (p:Int) (by omega);have ihb:=ihb (by omega) (p+1+szL sa) (p:Int) (by omega);have eb:((p+1+szL sa:Nat):Int)=(p:Int)+1+(szL sa:Int):=by omega
   have ea:((p+1:Nat):Int)=(p:Int)+1:=by omega
   rw[eb]at ihb;rw[ea]at iha;obtain⟨A,hA⟩:∃x,arL sa (p:Int) (p+1)=x:=⟨_,rfl⟩;obtain⟨B,hB⟩:∃x,arL sb (p:Int) (p+1+szL sa)=x:=⟨_,rfl⟩;rw[hA]at iha hJ lA;rw[hB]at ihb hJ lB;generalize szL sa=na at*;generalize szL sb=nb at*;have hwa:IntKind.i64.wrap ((p:Int)+1)=(p:Int)+1:=Xc (by omega) (by omega);have hwb:IntKind.i64.wrap ((p:Int)+1+(na:Int))=(p:Int)+1+(na:Int):=Xc (by omega) (by omega);have hwc:IntKind.i64.wrap (1+(na:Int))=1+(na:Int):=Xc (by omega) (by omega);have hwd:IntKind.i64.wrap (1+(na:Int)+(nb:Int))=1+(na:Int)+(nb:Int):=Xc (by omega) (by omega);have hwe:IntKind.i64.wrap ((p:Int)+(1+(na:Int)+(nb:Int)))=(p:Int)+(1+(na:Int)+(nb:Int)):=Xc (by omega) (by omega);have room1:Qa (acc.length+1) 8:=Xx (by omega) (by decide);have room2:Qa (acc.length+1+na) 8:=Xx (by omega) (by decide);have room3:Qa (acc.length+1+na+nb) 8:=Xx (by omega) (by decide);have room2':Qa (acc.length+(na+1)) 8:=Xx (by omega) (by decide);have room3':Qa (acc.length+(na+1)+nb) 8:=Xx (by omega) (by decide);have room4:Qa (acc.length+(na+nb+1)) 8:=Xx (by omega) (by decide);have hsn:=Xcn acc outer A B;have hJ2:(acc++outer::(A++B))++arL (l.drop (k+1)) outer (p+(1+na+nb))=res:=by rw[←hJ];simp
   clear hlt h5 ih hmem hd he hA hB hnm hla hlb hJ eb ea;refine X0<|X5<|X0<|X3 ?_;refine X4 ?_;refine Xk [⟨false,.v (lI A),none⟩] ?_ ?_
   · first|exact iha _|exact trivial|simpa[*]using iha _
   refine X0<|(Z8 [(29,9),(33,9)] [⟨true,.v (li (na:Int)),none⟩,⟨false,.v (lI B),none⟩] (by kernel_rfl) (by kernel_rfl) (by rfl) (by simp[X3d,X2h,Qq, *];first|exact⟨rfl,Iff.rfl⟩|exact⟨rfl,trivial⟩|rfl) ?_ ?_)
   · first|exact⟨ca _,ihb _⟩|exact trivial|(repeat' first|exact trivial|exact ca _|exact ihb _|apply And.intro)
   refine(Z8 [(41,9),(45,9)] [⟨true,.v (li (na:Int)),none⟩,⟨true,.v (li (nb:Int)),none⟩] (by kernel_rfl) (by kernel_rfl) (by rfl) (by simp[X3d,X2h,Qq, *];first|exact⟨rfl,Iff.rfl⟩|exact⟨rfl,trivial⟩|rfl) ?_ ?_)
   · first|exact⟨ca _,cb _⟩|exact trivial|(repeat' first|exact trivial|exact ca _|exact cb _|apply And.intro)
   refine X3 ?_;exact⟨(k+1,p+(1+na+nb),acc++outer::(A++B)),⟨hk1,hJ2,by simp only;omega,by simp only[List.length_append,List.length_cons];omega⟩,by simp only;omega,X6 (fun n=>if n=1003 then 39 else n) []⟩
 (try simp only[BN]at h5);have hkl:k=l.length:=by first|omega|(have:¬k<l.length:=by simpa using h5;omega)
 rw[hkl,List.drop_length]at hJ;simp only[arL,List.append_nil]at hJ;subst hJ;refine(Xg ?_);refine X4 ?_;exact XU ⟨.inr rfl,_,XR 1003 rfl,⟨⟨_,by simp;rfl,by simp[XN]⟩,by simp,fun h=>by cases h⟩⟩
end Go.Proofs.YtppjennamodfdaaGreat

namespace Go.Proofs.YtppjennamodfdaaGreat
open Go Go.Hl
theorem matB_get {n t:Nat} {M:Nat→Nat→Bool} (h:t<n):((List.range n).map fun a=>[CD.sl 1 (WS n M a)])[t]? =some [.sl 1 (WS n M t)]:=by simp[h]
theorem Xcd (p:Nat→Bool) (k:Nat):XB ((List.range (k+1)).filter p)=XB ((List.range k).filter p)++(if p k=true then [[iC k]] else []):=by
 rw[List.range_succ,List.filter_append];simp only[List.filter_cons,List.filter_nil];split<;>simp[XB]
theorem filt_len (p:Nat→Bool) (k:Nat):(XB ((List.range k).filter p)).length≤k:=by
 rw[len_encD];exact Nat.le_trans (List.length_filter_le _ _) (by simp)
theorem XcS (n:Nat) (M:Nat→Nat→Bool) (t s:Nat) (ht:t<n) (hs:s<n) (d:Nat):Con Tryz.prog 50 true [li t,.one (.c (.ptr [matB n M])),.one (.c (.ptr [iC s]))] (.v (lb (M t s))) none d:=by
 have h1:=@matB_get n t M ht;have h2:=@X6d n M t s hs;unfold matB;obtain⟨MR,hMR⟩:∃x,((List.range n).map fun a=>[CD.sl 1 (WS n M a)])=x:=⟨_,rfl⟩;rw[hMR]at h1⊢;obtain⟨RW,hRW⟩:∃x,WS n M t=x:=⟨_,rfl⟩;rw[hRW]at h1 h2;clear hMR hRW ht hs;refine X7 Tryz.func50 ?_;simp only[Tryz.f50];refine X4 ?_;refine X0<|(Q6 (by kernel_rfl) (by kernel_rfl) (by rfl) (by simp[*];rfl) ?_);exact Xh
set_option maxHeartbeats 8000000 in
theorem X5I (f:Fl) (h:Sm f) (M:Nat→Nat→Bool) (hD:∀d,Con Tryz.prog 49 false [aF f] (.v (.one (.c (matB (szL f.body) M)))) none d) (q:List Int) (hq:okQ (szL f.body) q) (hql:q.length≤1000000) (d:Nat):
  Con Tryz.prog 16 false [aF f,lI q] (.v (.one (.c (.sl 1 (XB ((List.range (szL f.body)).filter fun s=>q.any fun t=>M t.toNat s)))))) none d:=by
 have cs:=W1 f.body (by have:=h.nodes;omega);have hnl:szL f.body≤1000:=by have:=Qw f.body;have:=h.nodes;omega
 obtain⟨n,hn⟩:∃x,szL f.body=x:=⟨_,rfl⟩;rw[hn]at cs hnl hq hD⊢
 have cI:=fun(s:Nat) (hs:s<n)=>X64 q 50 [.ptr [matB n M],.ptr [iC s]] (fun t=>M t.toNat s) (by omega) (fun v hv d=>by
  obtain⟨v0,v1⟩:=hq v hv;have:=XcS n M v.toNat s (by omega) hs d
  rwa [show((v.toNat:Nat):Int)=v by omega]at this)
 obtain⟨P,hP⟩:∃p:Nat→Bool,p=fun s=>q.any fun t=>M t.toNat s:=⟨_,rfl⟩;have hPs:∀s,(q.any fun t=>M t.toNat s)=P s:=fun s=>by rw[hP]
 simp only[hPs]at cI⊢;unfold matB at hD cI;obtain⟨MR,hMR⟩:∃x,((List.range n).map fun a=>[CD.sl 1 (WS n M a)])=x:=⟨_,rfl⟩;simp only[hMR]at hD cI;obtain⟨vars,hats,body⟩:=f;simp only at cs;clear h hn hq hql hP hPs hMR;simp only[aF,Fl.enc,List.map_cons,List.map_nil]at hD⊢;have hz0:XB ((List.range 0).filter P)=[]:=rfl;refine X7 Tryz.func16 ?_;simp only[Tryz.f16];refine X4 ?_;refine X4 ?_;refine Xk [⟨false,.v (.one (.c (.sl 1 MR))),none⟩] ?_ ?_
 · first|exact hD _|exact trivial|simpa[*]using hD _
 refine X0<|X0<|(Xp [⟨true,.v (li n),none⟩] ?_ ?_)
 · first|exact cs _|exact trivial|simpa[*]using cs _
 refine X5<|(Xd [1,6,12] (fun(k:Nat)=>[(5,.v (.one (.own 1003))),(13,.v (li k))]) (fun k=>[(6,.box [.c (.sl 1 MR)]),(1003,.row 3 1 (XB ((List.range k).filter P)))]) (fun k=>k≤n) (fun k=>n - k) (0:Nat) (Nat.zero_le _) ?_ ?_)
 · exact X6 (fun n=>n) [1003]
 rintro k hk;simp only[upS,X8,Xy]
 try simp only[X8,KN,Nat.reduceBEq,if_true,if_false,ins,Nat.reduceLT]
 refine X4 ?_;refine X0<|(X9 rfl (fun h6=>Xb ?_) (fun h6=>?_))
 · (try simp only[BN]at h6);have hlt:k<n:=by first|omega|simpa using h6
   have hw1:IntKind.i64.wrap ((k:Int)+1)=(k:Int)+1:=Xc (by omega) (by omega);have hk1:k+1≤n:=hlt;have cIk:=cI k hlt;have hsn:=Xcd P k;have hlk:=filt_len P k;obtain⟨E,hE⟩:∃x,XB ((List.range k).filter P)=x:=⟨_,rfl⟩;rw[hE]at hsn hlk⊢;have hroom:Qa (E.length+1) 8:=Xx (by omega) (by decide);obtain⟨G,hG⟩:∃x,P k=x:=⟨_,rfl⟩;rw[hG]at cIk hsn;clear hlt h6 hE hG cI;refine X0<|X5<|X0<|X3 ?_;refine Xk [⟨true,.v (lb G),none⟩] ?_ ?_
   · first|exact cIk _|exact trivial|simpa[*]using cIk _
   refine(Xe rfl (fun h9=>?_) fun h9=>?_)
   · (try simp only[BN]at h9);have hGt:G=true:=by simpa using h9
     rw[if_pos hGt]at hsn;refine X3 ?_;refine X3 ?_;exact⟨k+1,hk1,by omega,X6 (fun n=>if n=1003 then 22 else n) []⟩
   (try simp only[BN]at h9);have hGf:¬G=true:=by simpa using h9
   rw[if_neg hGf,List.append_nil]at hsn;refine X3 ?_;exact⟨k+1,hk1,by omega,X6 (fun n=>n) []⟩
 (try simp only[BN]at h6);have hkl:k=n:=by first|omega|(have:¬k<n:=by simpa using h6;omega)
 subst hkl;clear h6;refine(Xg ?_);refine X4 ?_;exact XU ⟨.inr rfl,_,XR 1003 rfl,⟨⟨_,by simp;rfl,by simp[XN]⟩,by simp,fun h=>by cases h⟩⟩
end Go.Proofs.YtppjennamodfdaaGreat
