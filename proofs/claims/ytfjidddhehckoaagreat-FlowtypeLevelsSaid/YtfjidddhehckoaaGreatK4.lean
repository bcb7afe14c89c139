/- Part 4: contracts of functions of the program and of the reference, and plain facts about what they compute; used by the proof of the claimed statement. Conditions: as each theorem states. -/
import Derived.Test.YtfjidddhehckoaaGreatK2
import Derived.Test.YtfjidddhehckoaaGreatK3
set_option linter.unusedSimpArgs false
set_option linter.unusedVariables false
set_option linter.unnecessarySimpa false
set_option maxRecDepth 100000
set_option maxHeartbeats 2000000
namespace Go.Proofs.YtfjidddhehckoaaGreat
open Go Go.Hl
theorem modS_con (b:Int×Int) (hb:-1048576≤b.1∧b.1≤b.2∧b.2≤1048576) (d:Nat):Con Tryz.prog 163 true [li b.1,li b.2] (.tup [li (modL b),li (modH b)]) none d:=by
 obtain⟨c1,c2⟩:=b;simp only at hb;have hw1:IntKind.i64.wrap (c1+1)=c1+1:=wrap_in (by omega) (by omega);have hw2:IntKind.i64.wrap (c2 - 1)=c2 - 1:=wrap_in (by omega) (by omega);refine con_of_HTA Tryz.func163 ?_;simp only[Tryz.f163];refine HT_sA ?_;refine HT_sA ?_;refine(HT_cutU [1,7] (fun(z:Int)=>[(6,.v (li z))]) (fun(z:Int)=>[]) (fun(z:Int)=>z=modL (c1,c2)) ?_ ?_)
 ·
  refine HT_sA ?_;refine(HT_cs rfl (fun h4=>?_) fun h4=>?_)
  · (try simp only[BN]at h4);have hml:mn 0 (c1+1)=modL (c1,c2):=by simp only[modL];rw[if_pos h4];unfold mn;(repeat' split)<;>omega
    refine(HT_runcA [⟨true,.v (li (mn 0 (c1+1))),none⟩] ?_ ?_)
    · first|exact least_con 0 (c1+1) _|exact trivial|simpa[*]using least_con 0 (c1+1) _
    exact⟨modL (c1,c2),rfl,le_mkA (fun n=>n) []⟩
  (try simp only[BN]at h4);have hml:(0:Int)=modL (c1,c2):=by simp only[modL];rw[if_neg h4]
  exact⟨modL (c1,c2),rfl,le_mkA (fun n=>n) []⟩
 rintro _ rfl;simp only[upS,keepS,insS]
 try simp only[keepS,KN,Nat.reduceBEq,if_true,if_false,ins,Nat.reduceLT]
 refine HT_seq<|HT_seq<|HT_runA ?_;refine(HT_cs rfl (fun h9=>?_) fun h9=>?_)
 · (try simp only[BN]at h9);have hmh:mx 0 (c2 - 1)=modH (c1,c2):=by simp only[modH];rw[if_pos h9];unfold mx;(repeat' split)<;>omega
   refine(HT_runcA [⟨true,.v (li (mx 0 (c2 - 1))),none⟩] ?_ ?_)
   · first|exact most_con 0 (c2 - 1) _|exact trivial|simpa[*]using most_con 0 (c2 - 1) _
   refine HT_sA ?_;exact HT_rA
 (try simp only[BN]at h9);have hmh:modH (c1,c2)=0:=by simp only[modH];rw[if_neg h9]
 refine HT_sA ?_;exact HT_rA
def lows (k:List (Int×Int)):List (List CD):=k.map fun p=>[iC p.1]
def highs (k:List (Int×Int)):List (List CD):=k.map fun p=>[iC p.2]
@[simp] theorem lows_nil:lows []=[]:=rfl
@[simp] theorem highs_nil:highs []=[]:=rfl
@[simp] theorem len_lows (k:List (Int×Int)):(lows k).length=k.length:=by simp[lows]
@[simp] theorem get_lows (k:List (Int×Int)) (i:Nat):(lows k)[i]? =k[i]?.map fun p=>[iC p.1]:=by simp[lows]
@[simp] theorem len_highs (k:List (Int×Int)):(highs k).length=k.length:=by simp[highs]
@[simp] theorem get_highs (k:List (Int×Int)) (i:Nat):(highs k)[i]? =k[i]?.map fun p=>[iC p.2]:=by simp[highs]
def spanR (vars:List Vr) (o n:Int) (k:List (Int×Int)):Int×Int:=
 if o=0 then(if n< -1048576∨1048576<n then(-1048577,1048577)else(n,n))else ruleP vars o n k
theorem span_con (vars:List Vr) (inp:Bool) (o n:Int) (K:CD) (k:List (Int×Int)) (hf:nodeB vars inp o n k.length=true) (hk:∀p∈k,bnd p) (d:Nat):
  Con Tryz.prog 123 true [lV vars,.agg [.c (iC o),.c (iC n),.c K],.one (.c (.sl 1 (lows k))),.one (.c (.sl 1 (highs k)))] (.tup [li (spanR vars o n k).1,li (spanR vars o n k).2]) none d:=by
 have har:=node_ar hf;have hrf:o=24→0≤n∧∃v,vars[n.toNat]? =some v∧(inp=true→v.kind≠0):=fun h=>node_ref (by rw[←h];exact hf);clear hf;have ar1:o=6→0+1≤k.length:=fun h=>by have:=kids1 (.inl h);rw[this]at har;simp only at har;omega
 have ar2:8≤o∧o≤22→0+1≤k.length∧1+1≤k.length:=fun h=>by have:=kids2 h;rw[this]at har;simp only at har;omega
 have ar3:o=23∨o=25→2≤k.length∧k.length≤33:=fun h=>by
  rcases h with h|h
  · have:=kids3;rw[h,this]at har;simp only at har;omega
  have:=kids4;rw[h,this]at har;simp only at har;omega
 clear har;obtain⟨res,hres⟩:∃r,spanR vars o n k=r:=⟨_,rfl⟩;rw[hres];simp only[spanR,ruleP]at hres;refine con_of_HTA Tryz.func123 ?_;simp only[Tryz.f123];refine HT_sA ?_;refine HT_seq<|HT_seq<|HT_runA ?_;refine HT_block<|HT_seq<|HT_runA ?_;refine(HT_cond rfl (fun h3=>?_) (fun h3=>?_))
 · (try simp only[BN]at h3);rw[if_pos h3]at hres;refine HT_seq<|HT_seq<|HT_runA ?_;refine(HT_cs rfl (fun h5=>?_) fun h5=>?_)
   · (try simp only[BN]at h5);rw[if_pos h5]at hres;subst hres;refine HT_sA ?_;exact HT_rA
   (try simp only[BN]at h5);rw[if_neg (by omega)]at hres;subst hres;refine HT_seq<|(HT_drun (by kernel_rfl) (by kernel_rfl) (by rfl) (by simp[*];rfl) ?_);exact HT_rA
 (try simp only[BN]at h3);rw[if_neg h3,if_neg h3]at hres;refine HT_sA ?_;refine(HT_cond rfl (fun h11=>?_) (fun h11=>?_))
 · (try simp only[BN]at h11);obtain⟨hn0,v,hv,_⟩:=hrf h11;rw[if_pos h11,hv]at hres;subst hres;clear hrf;refine HT_seq<|(HT_drun (by kernel_rfl) (by kernel_rfl) (by rfl) (by simp[*];rfl) ?_);exact HT_rA
 (try simp only[BN]at h11);rw[if_neg h11]at hres;refine HT_sA ?_;refine(HT_cond rfl (fun h15=>?_) (fun h15=>?_))
 · (try simp only[BN]at h15);obtain⟨a1,a2,ha,hb1,hb2,hb3⟩:=kid hk (ar1 h15);have hw1:IntKind.i64.wrap (-a1)=-a1:=wrap_in (by omega) (by omega);have hw2:IntKind.i64.wrap (-a2)=-a2:=wrap_in (by omega) (by omega);rw[if_pos h15]at hres;simp only[g2,ha,Option.getD_some]at hres;subst hres;clear ar1 ar2 ar3;refine HT_seq<|(HT_drun (by kernel_rfl) (by kernel_rfl) (by rfl) (by simp[*];rfl) ?_);exact HT_rA
 (try simp only[BN]at h15);rw[if_neg h15]at hres;refine HT_sA ?_;refine(HT_cond rfl (fun h19=>?_) (fun h19=>?_))
 · (try simp only[BN]at h19);obtain⟨a1,a2,ha,hb1,hb2,hb3⟩:=kid hk (ar2 (by omega)).1;obtain⟨c1,c2,hc,hc1,hc2,hc3⟩:=kid hk (ar2 (by omega)).2;have hw1:IntKind.i64.wrap (a1+c1)=a1+c1:=wrap_in (by omega) (by omega);have hw2:IntKind.i64.wrap (a2+c2)=a2+c2:=wrap_in (by omega) (by omega);rw[if_pos h19]at hres;simp only[g2,ha,hc,Option.getD_some]at hres;subst hres;clear ar1 ar2 ar3;refine HT_seq<|(HT_drun (by kernel_rfl) (by kernel_rfl) (by rfl) (by simp[*];rfl) ?_);exact HT_rA
 (try simp only[BN]at h19);rw[if_neg h19]at hres;refine HT_sA ?_;refine(HT_cond rfl (fun h23=>?_) (fun h23=>?_))
 · (try simp only[BN]at h23);obtain⟨a1,a2,ha,hb1,hb2,hb3⟩:=kid hk (ar2 (by omega)).1;obtain⟨c1,c2,hc,hc1,hc2,hc3⟩:=kid hk (ar2 (by omega)).2;have hw1:IntKind.i64.wrap (a1 - c2)=a1 - c2:=wrap_in (by omega) (by omega);have hw2:IntKind.i64.wrap (a2 - c1)=a2 - c1:=wrap_in (by omega) (by omega);rw[if_pos h23]at hres;simp only[g2,ha,hc,Option.getD_some]at hres;subst hres;clear ar1 ar2 ar3;refine HT_seq<|(HT_drun (by kernel_rfl) (by kernel_rfl) (by rfl) (by simp[*];rfl) ?_);exact HT_rA
 (try simp only[BN]at h23);rw[if_neg h23]at hres;refine HT_sA ?_;refine(HT_cond rfl (fun h27=>?_) (fun h27=>?_))
 · (try simp only[BN]at h27);obtain⟨a1,a2,ha,hb1,hb2,hb3⟩:=kid hk (ar2 (by omega)).1;obtain⟨c1,c2,hc,hc1,hc2,hc3⟩:=kid hk (ar2 (by omega)).2;rw[if_pos h27]at hres;simp only[g2,ha,hc,Option.getD_some]at hres;clear ar1 ar2 ar3;have hm1:=mul_le ⟨hb1,by omega⟩ ⟨hc1,by omega⟩ (x:=a1) (y:=c1);have hm2:=mul_le ⟨hb1,by omega⟩ ⟨by omega,hc3⟩ (x:=a1) (y:=c2);have hm3:=mul_le ⟨by omega,hb3⟩ ⟨hc1,by omega⟩ (x:=a2) (y:=c1);have hm4:=mul_le ⟨by omega,hb3⟩ ⟨by omega,hc3⟩ (x:=a2) (y:=c2);have hw1:IntKind.i64.wrap (a1*c1)=a1*c1:=wrap_in (by omega) (by omega);have hw2:IntKind.i64.wrap (a1*c2)=a1*c2:=wrap_in (by omega) (by omega);have hw3:IntKind.i64.wrap (a2*c1)=a2*c1:=wrap_in (by omega) (by omega);have hw4:IntKind.i64.wrap (a2*c2)=a2*c2:=wrap_in (by omega) (by omega)
   have he1:mn (mn (a1*c1) (a1*c2)) (mn (a2*c1) (a2*c2))=res.1:=by
    rw[←hres];simp only[mulP,hullP,mn];generalize a1*c1=p at*;generalize a1*c2=q at*;generalize a2*c1=r at*;generalize a2*c2=s at*
    (repeat' split)<;>omega
   have he2:mx (mx (a1*c1) (a1*c2)) (mx (a2*c1) (a2*c2))=res.2:=by
    rw[←hres];simp only[mulP,hullP,mx];generalize a1*c1=p at*;generalize a1*c2=q at*;generalize a2*c1=r at*;generalize a2*c2=s at*
    (repeat' split)<;>omega
   clear hres hm1 hm2 hm3 hm4;refine HT_seq<|(HT_drun (by kernel_rfl) (by kernel_rfl) (by rfl) (by simp[*];rfl) ?_);refine HT_scA [⟨true,.v (li (mn (a1*c1) (a1*c2))),none⟩,⟨true,.v (li (mn (a2*c1) (a2*c2))),none⟩,⟨true,.v (li (mn (mn (a1*c1) (a1*c2)) (mn (a2*c1) (a2*c2)))),none⟩,⟨true,.v (li (mx (a1*c1) (a1*c2))),none⟩,⟨true,.v (li (mx (a2*c1) (a2*c2))),none⟩,⟨true,.v (li (mx (mx (a1*c1) (a1*c2)) (mx (a2*c1) (a2*c2)))),none⟩] ?_ ?_
   · first|exact trivial|exact trivial|(repeat' first|exact trivial|exact least_con _ _ _|exact least_con _ _ _|(simpa[he1]using least_con (mn (a1*c1) (a1*c2)) (mn (a2*c1) (a2*c2)) _)|exact most_con _ _ _|exact most_con _ _ _|(simpa[he2]using most_con (mx (a1*c1) (a1*c2)) (mx (a2*c1) (a2*c2)) _)|apply And.intro)
   exact HT_rA
 (try simp only[BN]at h27);rw[if_neg h27]at hres;refine HT_sA ?_;refine(HT_cond rfl (fun h32=>?_) (fun h32=>?_))
 · (try simp only[BN]at h32);obtain⟨a1,a2,ha,hb1,hb2,hb3⟩:=kid hk (ar2 (by omega)).1;obtain⟨c1,c2,hc,hc1,hc2,hc3⟩:=kid hk (ar2 (by omega)).2;rw[if_pos h32]at hres;simp only[g2,ha,hc,Option.getD_some]at hres
   have hmm:mx (absI a1) (absI a2)=mx a2 (-a1):=by
    unfold mx absI
    (repeat' split)<;>omega
   have hm:-1048576≤mx a2 (-a1)∧mx a2 (-a1)≤1048576:=by unfold mx;split<;>omega
   have hw2:IntKind.i64.wrap (-(mx a2 (-a1)))=-(mx a2 (-a1)):=wrap_in (by omega) (by omega);clear ar1 ar2 ar3;refine HT_seq<|(HT_drunc [⟨true,.v (li (absI a1)),none⟩,⟨true,.v (li (absI a2)),none⟩,⟨true,.v (li (mx (absI a1) (absI a2))),none⟩] (by kernel_rfl) (by kernel_rfl) (by rfl) (by simp[*];first|exact⟨rfl,Iff.rfl⟩|exact⟨rfl,trivial⟩|rfl) ?_ ?_)
   · first|exact trivial|exact trivial|(repeat' first|exact trivial|exact size_con a1 (by omega) _|exact size_con a2 (by omega) _|(simpa[hmm]using most_con (absI a1) (absI a2) _)|apply And.intro)
   refine HT_seq<|HT_seq<|HT_runA ?_;refine(HT_cs rfl (fun h35=>?_) fun h35=>?_)
   · (try simp only[BN]at h35);rw[if_pos h35]at hres;subst hres;refine HT_sA ?_;exact HT_rA
   (try simp only[BN]at h35);rw[if_neg (by omega)]at hres;subst hres;refine HT_sA ?_;exact HT_rA
 (try simp only[BN]at h32);rw[if_neg h32]at hres;refine HT_sA ?_;refine(HT_cond rfl (fun h41=>?_) (fun h41=>?_))
 · (try simp only[BN]at h41);obtain⟨c1,c2,hc,hc1,hc2,hc3⟩:=kid hk (ar2 (by omega)).2;rw[if_pos h41]at hres;simp only[g2,hc,Option.getD_some]at hres;subst hres;clear ar1 ar2 ar3;refine HT_seq<|(HT_drunc [⟨true,.tup [li (modL (c1,c2)),li (modH (c1,c2))],none⟩] (by kernel_rfl) (by kernel_rfl) (by rfl) (by simp[*];first|exact⟨rfl,Iff.rfl⟩|exact⟨rfl,trivial⟩|rfl) ?_ ?_)
   · first|exact modS_con (c1,c2) ⟨hc1,hc2,hc3⟩ _|exact trivial|simpa[*]using modS_con (c1,c2) ⟨hc1,hc2,hc3⟩ _
   exact HT_rA
 (try simp only[BN]at h41);rw[if_neg h41]at hres;refine HT_sA ?_;refine(HT_cond rfl (fun h45=>?_) (fun h45=>?_))
 · (try simp only[BN]at h45);obtain⟨a1,a2,ha,hb1,hb2,hb3⟩:=kid hk (ar2 (by omega)).1;obtain⟨c1,c2,hc,hc1,hc2,hc3⟩:=kid hk (ar2 (by omega)).2;rw[if_pos h45]at hres;simp only[g2,ha,hc,Option.getD_some]at hres;subst hres;clear ar1 ar2 ar3;refine HT_seq<|(HT_drunc [⟨true,.v (li (mn a1 c1)),none⟩,⟨true,.v (li (mn a2 c2)),none⟩] (by kernel_rfl) (by kernel_rfl) (by rfl) (by simp[*];first|exact⟨rfl,Iff.rfl⟩|exact⟨rfl,trivial⟩|rfl) ?_ ?_)
   · first|exact⟨least_con _ _ _,least_con _ _ _⟩|exact trivial|(repeat' first|exact trivial|exact least_con _ _ _|exact least_con _ _ _|apply And.intro)
   exact HT_rA
 (try simp only[BN]at h45);rw[if_neg h45]at hres;refine HT_sA ?_;refine(HT_cond rfl (fun h49=>?_) (fun h49=>?_))
 · (try simp only[BN]at h49);obtain⟨a1,a2,ha,hb1,hb2,hb3⟩:=kid hk (ar2 (by omega)).1;obtain⟨c1,c2,hc,hc1,hc2,hc3⟩:=kid hk (ar2 (by omega)).2;rw[if_pos h49]at hres;simp only[g2,ha,hc,Option.getD_some]at hres;subst hres;clear ar1 ar2 ar3;refine HT_seq<|(HT_drunc [⟨true,.v (li (mx a1 c1)),none⟩,⟨true,.v (li (mx a2 c2)),none⟩] (by kernel_rfl) (by kernel_rfl) (by rfl) (by simp[*];first|exact⟨rfl,Iff.rfl⟩|exact⟨rfl,trivial⟩|rfl) ?_ ?_)
   · first|exact⟨most_con _ _ _,most_con _ _ _⟩|exact trivial|(repeat' first|exact trivial|exact most_con _ _ _|exact most_con _ _ _|apply And.intro)
   exact HT_rA
 (try simp only[BN]at h49);rw[if_neg h49]at hres;refine(HT_cutU [2,3] (fun(z:Bool)=>[(202,.v (lb z))]) (fun(z:Bool)=>[]) (fun(z:Bool)=>z=decide (o=23∨o=25)) ?_ ?_)
 ·
  refine HT_sA ?_;refine(HT_cond rfl (fun h54=>HT_skip ?_) (fun h54=>?_))
  · (try simp only[BN]at h54);exact⟨true,by simp[h54],le_mkA (fun n=>n) []⟩
  (try simp only[BN]at h54);refine HT_runA ?_;exact⟨decide (o=25),by simp[h54],le_mkA (fun n=>n) []⟩
 rintro z hz;simp only[upS,keepS,insS]
 try simp only[keepS,KN,Nat.reduceBEq,if_true,if_false,ins,Nat.reduceLT]
 subst hz;refine(HT_cs rfl (fun h58=>?_) fun h58=>?_)
 · (try simp only[BN]at h58);have h2:=ar3 h58;rw[if_pos h58]at hres;clear ar1 ar2 ar3 h58;rcases k with _|⟨⟨a1,a2⟩,_|⟨⟨c1,c2⟩,r⟩⟩
   · simp at h2
   · simp at h2
   have hr33:r.length≤31:=by simp only[List.length_cons]at h2;omega
   clear h2;simp at hres;refine HT_seq<|(HT_drun (by kernel_rfl) (by kernel_rfl) (by rfl) (by simp[*,lows,highs];rfl) ?_);refine HT_seq<|HT_seq<|HT_runA ?_;refine HT_block<|(HT_loopU [2,3] (fun(x:Nat×Int×Int)=>[(15,.v (li x.2.1)),(16,.v (li x.2.2)),(17,.v (li ((x.1+2:Nat):Int)))]) (fun x=>[]) (fun x=>x.1≤r.length∧hullL (r.drop x.1) x.2=res) (fun x=>r.length - x.1) (0,c1,c2) ⟨Nat.zero_le _,hres⟩ ?_ ?_)
   · exact le_mkA (fun n=>n) []
   rintro⟨k,m,q⟩ ⟨hk',hJ⟩;simp only[upS,keepS,insS]
   try simp only[keepS,KN,Nat.reduceBEq,if_true,if_false,ins,Nat.reduceLT]
   simp only at hk' hJ;clear hres;have hdec:decide (((k+2:Nat):Int)<((r.length+1+1:Nat):Int))=decide (k<r.length):=by rw[decide_eq_decide];omega
   refine HT_seq<|HT_seq<|(HT_run (by simp[*,lows,highs];rfl) ?_);refine(HT_cond rfl (fun h63=>HT_skip ?_) (fun h63=>?_))
   · (try simp only[BN]at h63);have hlt:k<r.length:=by omega
     obtain⟨⟨e1,e2⟩,he,hd⟩:=at_lt hlt;have hw1:IntKind.i64.wrap ((k:Int)+2+1)=(k:Int)+1+2:=by rw[wrap_in (by omega) (by omega)];omega
     have htn:((k:Int)+2).toNat=k+2:=by omega
     have h02:0≤(k:Int)+2:=by omega
     rw[hd]at hJ;simp only[hullL,hullP]at hJ;have hk1:k+1≤r.length:=hlt;clear hlt h63;refine HT_seq<|HT_block<|(HT_drunc [⟨true,.v (li (mn m e1)),none⟩,⟨true,.v (li (mx q e2)),none⟩] (by kernel_rfl) (by kernel_rfl) (by rfl) (by simp[*];first|exact⟨rfl,Iff.rfl⟩|exact⟨rfl,trivial⟩|rfl) ?_ ?_)
     · first|exact⟨least_con _ _ _,most_con _ _ _⟩|exact trivial|(repeat' first|exact trivial|exact least_con _ _ _|exact most_con _ _ _|apply And.intro)
     refine HT_runA ?_;exact⟨(k+1,mn m e1,mx q e2),⟨hk1,hJ⟩,by simp only;omega,le_mkA (fun n=>n) []⟩
   (try simp only[BN]at h63);have hkl:k=r.length:=by omega
   rw[hkl,List.drop_length]at hJ;simp only[hullL]at hJ;refine(HT_exit ?_);refine HT_sA ?_;exact(HT_retE (fun h=>⟨.inr rfl,h⟩) _ (by simp[*];rfl) (by subst hJ;rfl) (by simp))
 (try simp only[BN]at h58);rw[if_neg h58]at hres;subst hres;refine HT_sA ?_;exact HT_rA
end Go.Proofs.YtfjidddhehckoaaGreat

namespace Go.Proofs.YtfjidddhehckoaaGreat
open Go Go.Hl
def okR (p:Int×Int):Bool:=decide (-1048576≤p.1)&&decide (p.2≤1048576)
def rgV (vars:List Vr) (o n:Int):Option (List (Int×Int))→(Int×Int)×Bool
 |none=>((0,0),false)
 |some k=>(ruleP vars o n k,okR (ruleP vars o n k))
def rgW (vars:List Vr) (o n:Int):Option (List (Int×Int))→(Int×Int)×Bool
 |none=>((0,0),false)
 |some k=>(spanR vars o n k,okR (spanR vars o n k))
mutual
def rgP (vars:List Vr):Tm→(Int×Int)×Bool
 | .mk o n ks=>rgV vars o n (rgTs vars ks)
def rgTs (vars:List Vr):List Tm→Option (List (Int×Int))
 |[]=>some []
 |t::l=>if(rgP vars t).2=true then(rgTs vars l).map ((rgP vars t).1:: ·)else none
end
def rgQ (vars:List Vr):Tm→(Int×Int)×Bool
 | .mk o n ks=>rgW vars o n (rgTs vars ks)
theorem rgQ_ok (vars:List Vr) (t:Tm):(rgQ vars t).2=(rgP vars t).2∧((rgP vars t).2=true→(rgQ vars t).1=(rgP vars t).1):=by
 obtain⟨o,n,ks⟩:=t;simp only[rgQ,rgP];cases rgTs vars ks with
 |none=>simp[rgV,rgW]
 | some k=>
   simp only[rgV,rgW,spanR];by_cases h:o=0
   · subst h;simp only[if_true,ruleP];by_cases h2:n< -1048576∨1048576<n
     · rw[if_pos h2];have:okR (n,n)=false:=by simp only[okR,Bool.and_eq_false_iff,decide_eq_false_iff_not];omega
       rw[this];exact⟨by decide,fun h=>by cases h⟩
     rw[if_neg h2];exact⟨rfl,fun _=>rfl⟩
   simp only[if_neg h];exact⟨trivial,fun _=>trivial⟩
def goodV (vars:List Vr):Prop:=∀v∈vars,v.low≤v.high∧-1048576≤v.low∧v.high≤1048576
theorem hull_le {p q:Int×Int} (hp:p.1≤p.2) (hq:q.1≤q.2):(hullP p q).1≤(hullP p q).2:=by
 simp only[hullP,mn,mx]
 (repeat' split)<;>omega
theorem hullL_le:∀{l:List (Int×Int)} {p:Int×Int},(∀q∈l,bnd q)→p.1≤p.2→(hullL l p).1≤(hullL l p).2
 |[],p,_,hp=>hp
 |q::l,p,h,hp=>hullL_le (l:=l) (p:=hullP p q) (fun r hr=>h r (List.mem_cons_of_mem _ hr)) (hull_le hp (h q (by simp)).2.1)
theorem rule_le {vars:List Vr} {inp:Bool} {o n:Int} {k:List (Int×Int)} (hv:goodV vars) (hf:nodeB vars inp o n k.length=true) (hk:∀p∈k,bnd p):(ruleP vars o n k).1≤(ruleP vars o n k).2:=by
 have har:=node_ar hf;have hrf:o=24→0≤n∧∃v,vars[n.toNat]? =some v∧(inp=true→v.kind≠0):=fun h=>node_ref (by rw[←h];exact hf)
 have hg:∀i:Nat,(g2 k i).1≤(g2 k i).2∧-1048576≤(g2 k i).1∧(g2 k i).2≤1048576:=by
  intro i;unfold g2;cases hi:k[i]? with
  |none=>simp
  |some p=>have:=hk p (List.mem_of_getElem? hi);exact⟨this.2.1,this.1,this.2.2⟩
 have h0:=hg 0;have h1:=hg 1;unfold ruleP;generalize g2 k 0=a at*;generalize g2 k 1=b at*;split
 · exact Int.le_refl _
 split
 · rename_i h24;obtain⟨_,v,hv1,_⟩:=hrf h24;rw[hv1];exact(hv v (List.mem_of_getElem? hv1)).1
 split
 · simp only;omega
 split
 · simp only;omega
 split
 · simp only;omega
 split
 · unfold mulP;exact hull_le (hull_le (hull_le (Int.le_refl _) (Int.le_refl _)) (Int.le_refl _)) (Int.le_refl _)
 split
 · simp only[mx]
   (repeat' split)<;>simp only<;>omega
 split
 · simp only[modL,modH,mn,mx]
   (repeat' split)<;>omega
 split
 · simp only[mn]
   (repeat' split)<;>omega
 split
 · simp only[mx]
   (repeat' split)<;>omega
 split
 · exact hullL_le (fun q hq=>hk q (List.mem_of_mem_drop hq)) h1.1
 simp
theorem rgTs_len {vars:List Vr}:∀{l:List Tm} {k:List (Int×Int)},rgTs vars l=some k→k.length=l.length
 |[],k,h=>by simp only[rgTs]at h;cases h;rfl
 | t::l,k,h=>by
   simp only[rgTs]at h;split at h
   · simp only[Option.map_eq_some_iff]at h;obtain⟨k',h',rfl⟩:=h;simp[rgTs_len h']
   cases h
mutual
theorem rgP_bnd {vars:List Vr} {inp:Bool} (hv:goodV vars):∀(t:Tm),formB vars inp t=true→(rgP vars t).2=true→bnd (rgP vars t).1
 | .mk o n ks,hf,h=>by
   simp only[formB,Bool.and_eq_true]at hf;simp only[rgP]at h⊢;cases hk:rgTs vars ks with
   |none=>rw[hk]at h;cases h
   | some k=>
     rw[hk]at h;simp only[rgV,okR,Bool.and_eq_true,decide_eq_true_eq]at h⊢;have hb:=rgTs_bnd hv ks hf.2 k hk;have hl:=rgTs_len hk;have:=rule_le hv (by rw[hl];exact hf.1) hb;exact⟨h.1,this,h.2⟩
theorem rgTs_bnd {vars:List Vr} {inp:Bool} (hv:goodV vars):∀(l:List Tm),formBs vars inp l=true→∀k,rgTs vars l=some k→∀p∈k,bnd p
 |[],_,k,h,p,hp=>by simp only[rgTs]at h;cases h;cases hp
 | t ::l,hf,k,h,p,hp=>by
   simp only[formBs,Bool.and_eq_true]at hf;simp only[rgTs]at h;split at h
   · rename_i hok;simp only[Option.map_eq_some_iff]at h;obtain⟨k',h',rfl⟩:=h;rcases List.mem_cons.1 hp with rfl|hp
     · exact rgP_bnd hv t hf.1 hok
     exact rgTs_bnd hv l hf.2 k' h' p hp
   cases h
end
@[simp] theorem encP_snoc (a:List (Int×Int)) (r:Int×Int):encPs (a++[r])=encPs a++[[iC r.1,iC r.2]]:=by simp[encPs]
@[simp] theorem lows_snoc (a:List (Int×Int)) (r:Int×Int):lows (a++[r])=lows a++[[iC r.1]]:=by simp[lows]
@[simp] theorem highs_snoc (a:List (Int×Int)) (r:Int×Int):highs (a++[r])=highs a++[[iC r.2]]:=by simp[highs]
theorem ranged_con (vars:List Vr) (inp:Bool) (hv:goodV vars) (t:Tm):formB vars inp t=true→∀d:Nat,
  Con Tryz.prog 191 true [lV vars,aT t] (.tup [aP (rgP vars t).1,lb (rgP vars t).2]) none d:=by
 induction t using Tm.ind with
 |h o n ks ih=>
 intro hf d;simp only[formB,Bool.and_eq_true]at hf;have har:=node_ar hf.1
 have hlen:ks.length≤33:=by
  have:(kidsP o).2≤33:=by unfold kidsP;(repeat' split)<;>simp
  omega
 clear har;obtain⟨res,hres⟩:∃r,rgP vars (.mk o n ks)=r:=⟨_,rfl⟩;rw[hres];simp only[rgP]at hres;have ih':∀t∈ks,∀d,Con Tryz.prog 191 true [lV vars,aT t] (.tup [aP (rgP vars t).1,lb (rgP vars t).2]) none d:=fun t ht d=>ih t ht (formBs_mem hf.2 t ht) d;clear ih;refine con_of_HTA Tryz.func191 ?_;simp only[Tryz.f191];simp only[aT,Tm.enc];refine HT_sA ?_;refine HT_sA ?_;refine HT_seq<|HT_seq<|HT_runA ?_;refine HT_block<|(HT_loopU [0,3,4,13,14] (fun(x:Nat×List (Int×Int))=>[(6,.v (.one (.own 1006))),(15,.v (li x.1))]) (fun(x:Nat×List (Int×Int))=>[(3,.box [.c (iC o),.c (iC n),.c (.sl 3 (encTs ks))]),(4,.box [.c (iC 0),.c (iC 0)]),(1006,.row 234 2 (encPs x.2))]) (fun(x:Nat×List (Int×Int))=>x.1≤ks.length∧x.2.length=x.1∧rgTs vars ks=(rgTs vars (ks.drop x.1)).map (x.2++ ·)∧∀p∈x.2,bnd p) (fun(x:Nat×List (Int×Int))=>ks.length - x.1) (0,[]) ⟨Nat.zero_le _,rfl,by simp,by simp⟩ ?_ ?_)
 · exact le_mkA (fun n=>n) [1006]
 rintro⟨k,acc⟩ ⟨hk,hal,hJ,hb⟩;simp only[upS,keepS,insS]
 try simp only[keepS,KN,Nat.reduceBEq,if_true,if_false,ins,Nat.reduceLT]
 simp only at hk hal hJ hb;refine HT_sA ?_;refine HT_seq<|(HT_cond rfl (fun h5=>HT_skip ?_) (fun h5=>?_))
 · (try simp only[BN]at h5);have hlt:k<ks.length:=by omega
   obtain⟨⟨eo,en,ek⟩,he,hd⟩:=at_lt hlt;have he':=get_encT he;simp only[Tm.enc]at he';have hw1:=wrap1 hlt (by omega);rw[hd]at hJ;simp only[rgTs]at hJ;have hk1:k+1≤ks.length:=hlt;have hmem:Tm.mk eo en ek∈ks:=List.mem_of_getElem? he;have hpb:=rgP_bnd hv _ (formBs_mem hf.2 _ hmem);have hroom:room (k+1) 16:=room_of (by omega) (by omega);clear hlt h5;refine HT_seq<|HT_block<|HT_seq<|HT_runA ?_;refine HT_scA [⟨true,.tup [aP (rgP vars (.mk eo en ek)).1,lb (rgP vars (.mk eo en ek)).2],none⟩] ?_ ?_
   · first|exact ih' _ hmem _|exact trivial|simpa[*]using ih' _ hmem _
   refine HT_seq<|HT_seq<|HT_runA ?_;refine(HT_cs rfl (fun h9=>?_) fun h9=>?_)
   · (try simp only[BN]at h9);rw[h9]at hJ;simp only[Bool.false_eq_true,if_false,Option.map_none]at hJ;rw[hJ]at hres;subst hres;refine HT_sA ?_;exact HT_rA
   (try simp only[BN]at h9);rw[if_pos h9]at hJ;refine HT_runA ?_;refine HT_runA ?_
   exact⟨(k+1,acc++[(rgP vars (.mk eo en ek)).1]),⟨hk1,by simp[hal],by rw[hJ,Option.map_map];congr 1;funext z;simp,fun p hp=>by
    rcases List.mem_append.1 hp with h|h
    · exact hb p h
    simp only[List.mem_cons,List.not_mem_nil,or_false]at h;rw[h]
    exact hpb h9⟩,by simp only;omega,le_mkA (fun n=>if n=1006 then 31 else n) []⟩
 (try simp only[BN]at h5);have hkl:k=ks.length:=by omega
 rw[hkl,List.drop_length]at hJ;simp only[rgTs,Option.map_some,List.append_nil]at hJ;rw[hJ]at hres;subst hres;have hf1:nodeB vars inp o n acc.length=true:=by rw[hal,hkl];exact hf.1
 refine(HT_exit ?_);refine HT_scA [⟨true,.v (aP (ruleP vars o n acc)),none⟩] ?_ ?_
 · first|exact rule_con vars inp o n _ acc hf1 hb _|exact trivial|simpa[*]using rule_con vars inp o n _ acc hf1 hb _
 refine HT_seq<|(HT_drunH [(11,11),(38,11),(42,11),(4,4)] (by kernel_rfl) (by kernel_rfl) (by rfl) (by simp[evsH,hokB,hintOf, *];rfl) ?_);exact(HT_retE (fun h=>⟨.inr rfl,h⟩) _ (by simp[*];rfl) (by simp[resR,rgV,okR]) (by simp))
theorem Range_con (vars:List Vr) (inp:Bool) (hv:goodV vars) (t:Tm):formB vars inp t=true→∀d:Nat,
  Con Tryz.prog 90 true [lV vars,aT t] (.tup [li (rgQ vars t).1.1,li (rgQ vars t).1.2,lb (rgQ vars t).2]) none d:=by
 induction t using Tm.ind with
 |h o n ks ih=>
 intro hf d;simp only[formB,Bool.and_eq_true]at hf;have har:=node_ar hf.1
 have hlen:ks.length≤33:=by
  have:(kidsP o).2≤33:=by unfold kidsP;(repeat' split)<;>simp
  omega
 clear har;obtain⟨res,hres⟩:∃r,rgQ vars (.mk o n ks)=r:=⟨_,rfl⟩;rw[hres];simp only[rgQ]at hres;have ih':∀t∈ks,∀d,Con Tryz.prog 90 true [lV vars,aT t] (.tup [li (rgQ vars t).1.1,li (rgQ vars t).1.2,lb (rgQ vars t).2]) none d:=fun t ht d=>ih t ht (formBs_mem hf.2 t ht) d;clear ih;refine con_of_HTA Tryz.func90 ?_;simp only[Tryz.f90];simp only[aT,Tm.enc];refine HT_sA ?_;refine HT_sA ?_;refine HT_sA ?_;refine HT_seq<|HT_seq<|HT_runA ?_;refine HT_block<|(HT_loopU [0,3] (fun(x:Nat×List (Int×Int))=>[(7,.v (.one (.own 1007))),(8,.v (.one (.own 1008))),(9,.v (li x.1))]) (fun(x:Nat×List (Int×Int))=>[(3,.box [.c (iC o),.c (iC n),.c (.sl 3 (encTs ks))]),(1007,.row 3 1 (lows x.2)),(1008,.row 3 1 (highs x.2))]) (fun(x:Nat×List (Int×Int))=>x.1≤ks.length∧x.2.length=x.1∧rgTs vars ks=(rgTs vars (ks.drop x.1)).map (x.2++ ·)∧∀p∈x.2,bnd p) (fun(x:Nat×List (Int×Int))=>ks.length - x.1) (0,[]) ⟨Nat.zero_le _,rfl,by simp,by simp⟩ ?_ ?_)
 · exact le_mkA (fun n=>if n=1007 then 15 else if n=1008 then 16 else n) []
 rintro⟨k,acc⟩ ⟨hk,hal,hJ,hb⟩;simp only[upS,keepS,insS]
 try simp only[keepS,KN,Nat.reduceBEq,if_true,if_false,ins,Nat.reduceLT]
 simp only at hk hal hJ hb;refine HT_seq<|HT_seq<|HT_runA ?_;refine(HT_cond rfl (fun h6=>HT_skip ?_) (fun h6=>?_))
 · (try simp only[BN]at h6);have hlt:k<ks.length:=by omega
   obtain⟨⟨eo,en,ek⟩,he,hd⟩:=at_lt hlt;have he':=get_encT he;simp only[Tm.enc]at he';have hw1:=wrap1 hlt (by omega);rw[hd]at hJ;simp only[rgTs]at hJ;have hk1:k+1≤ks.length:=hlt;have hmem:Tm.mk eo en ek∈ks:=List.mem_of_getElem? he;have hpb:=rgP_bnd hv _ (formBs_mem hf.2 _ hmem);have hroom:room (k+1) 8:=room_of (by omega) (by omega);rw[←(rgQ_ok vars (.mk eo en ek)).1]at hJ hpb;clear hlt h6;refine HT_seq<|HT_block<|HT_seq<|(HT_runcA [⟨true,.tup [li (rgQ vars (.mk eo en ek)).1.1,li (rgQ vars (.mk eo en ek)).1.2,lb (rgQ vars (.mk eo en ek)).2],none⟩] ?_ ?_)
   · first|exact ih' _ hmem _|exact trivial|simpa[*]using ih' _ hmem _
   refine HT_seq<|HT_seq<|HT_runA ?_;refine(HT_cs rfl (fun h9=>?_) fun h9=>?_)
   · (try simp only[BN]at h9);rw[h9]at hJ;simp only[Bool.false_eq_true,if_false,Option.map_none]at hJ;rw[hJ]at hres;subst hres;refine HT_sA ?_;exact HT_rA
   (try simp only[BN]at h9);rw[if_pos h9]at hJ;have hq2:=(rgQ_ok vars (.mk eo en ek)).2 (by rw[←(rgQ_ok vars (.mk eo en ek)).1];exact h9);refine HT_sA ?_;refine HT_runA ?_;refine HT_runA ?_
   exact⟨(k+1,acc++[(rgP vars (.mk eo en ek)).1]),⟨hk1,by simp[hal],by rw[hJ,Option.map_map];congr 1;funext z;simp,fun p hp=>by
    rcases List.mem_append.1 hp with h|h
    · exact hb p h
    simp only[List.mem_cons,List.not_mem_nil,or_false]at h;rw[h]
    exact hpb h9⟩,by simp only;omega,le_mkA (fun n=>if n=1007 then 40 else if n=1008 then 44 else n) []⟩
 (try simp only[BN]at h6);have hkl:k=ks.length:=by omega
 rw[hkl,List.drop_length]at hJ;simp only[rgTs,Option.map_some,List.append_nil]at hJ;rw[hJ]at hres;subst hres;have hf1:nodeB vars inp o n acc.length=true:=by rw[hal,hkl];exact hf.1
 refine(HT_exit ?_);refine HT_scA [⟨true,.tup [li (spanR vars o n acc).1,li (spanR vars o n acc).2],none⟩] ?_ ?_
 · first|exact span_con vars inp o n _ acc hf1 hb _|exact trivial|simpa[*]using span_con vars inp o n _ acc hf1 hb _
 refine HT_sA ?_;exact(HT_retE (fun h=>⟨.inr rfl,h⟩) _ (by simp[*];rfl) (by simp[resR,rgW,okR]) (by simp))
def termC (vars:List Vr) (inp:Bool) (t:Tm):Int:=if formB vars inp t=true then(if(rgP vars t).2=true then 0 else 3)else 1
theorem termP_con (vars:List Vr) (inp:Bool) (hv:goodV vars) (hl:vars.length≤1000000000) (t:Tm) (hn:t.nodes≤1000000000) (d:Nat):
  Con Tryz.prog 178 true [lV vars,aT t,lb inp] (.v (li (termC vars inp t))) none d:=by
 have c1:=formP_con vars inp hl t hn;have c2:=ranged_con vars inp hv t;obtain⟨o,n,ks⟩:=t;obtain⟨F,hF⟩:∃F,formB vars inp (.mk o n ks)=F:=⟨_,rfl⟩;obtain⟨R,hR⟩:∃R,rgP vars (.mk o n ks)=R:=⟨_,rfl⟩;simp only[termC,hF,hR]at c1 c2⊢;clear hF hR;refine con_of_HTA Tryz.func178 ?_;simp only[Tryz.f178];simp only[aT,Tm.enc]at c1 c2⊢;refine HT_sA ?_;refine HT_seq<|HT_seq<|(HT_runcA [⟨true,.v (lb F),none⟩] ?_ ?_)
 · first|exact c1 _|exact trivial|simpa[*]using c1 _
 refine(HT_cs rfl (fun h2=>?_) fun h2=>?_)
 · (try simp only[BN]at h2);refine HT_sA ?_;exact HT_rA
 (try simp only[BN]at h2);refine HT_seq<|HT_seq<|(HT_runcA [⟨true,.tup [aP R.1,lb R.2],none⟩] ?_ ?_)
 · first|exact c2 h2 _|exact trivial|simpa[*]using c2 h2 _
 refine HT_sA ?_;refine(HT_cs rfl (fun h7=>?_) fun h7=>?_)
 · (try simp only[BN]at h7);refine HT_sA ?_;exact HT_rA
 (try simp only[BN]at h7);refine HT_sA ?_;exact HT_rA
theorem termR_con (vars:List Vr) (inp:Bool) (hv:goodV vars) (hl:vars.length≤1000000000) (t:Tm) (hn:t.nodes≤1000000000) (d:Nat):
  Con Tryz.prog 51 true [lV vars,aT t,lb inp] (.v (li (termC vars inp t))) none d:=by
 have c1:=formR_con vars inp hl t hn;have c2:=Range_con vars inp hv t;rw[(rgQ_ok vars t).1]at c2;obtain⟨o,n,ks⟩:=t;obtain⟨F,hF⟩:∃F,formB vars inp (.mk o n ks)=F:=⟨_,rfl⟩;obtain⟨R,hR⟩:∃R,(rgP vars (.mk o n ks)).2=R:=⟨_,rfl⟩;obtain⟨S,hS⟩:∃S,(rgQ vars (.mk o n ks)).1=S:=⟨_,rfl⟩;simp only[termC,hF,hR,hS]at c1 c2⊢;clear hF hR hS;refine con_of_HTA Tryz.func51 ?_;simp only[Tryz.f51];simp only[aT,Tm.enc]at c1 c2⊢;refine HT_sA ?_;refine HT_seq<|HT_seq<|(HT_runcA [⟨true,.v (lb F),none⟩] ?_ ?_)
 · first|exact c1 _|exact trivial|simpa[*]using c1 _
 refine(HT_cs rfl (fun h2=>?_) fun h2=>?_)
 · (try simp only[BN]at h2);refine HT_sA ?_;exact HT_rA
 (try simp only[BN]at h2);refine HT_scA [⟨true,.tup [li S.1,li S.2,lb R],none⟩] ?_ ?_
 · first|exact c2 h2 _|exact trivial|simpa[*]using c2 h2 _
 refine HT_seq<|HT_seq<|HT_runA ?_;refine(HT_cs rfl (fun h7=>?_) fun h7=>?_)
 · (try simp only[BN]at h7);refine HT_sA ?_;exact HT_rA
 (try simp only[BN]at h7);refine HT_sA ?_;exact HT_rA
end Go.Proofs.YtfjidddhehckoaaGreat

namespace Go.Proofs.YtfjidddhehckoaaGreat
open Go Go.Hl
def plainB:Tm→Bool
 | .mk o n ks=>decide (o=0)&&(decide (n=0)&&decide (ks.length=0))
theorem plainR_con (t:Tm) (d:Nat):Con Tryz.prog 124 true [aT t] (.v (lb (plainB t))) none d:=by
 obtain⟨o,n,ks⟩:=t;refine con_of_HTA Tryz.func124 ?_;simp only[Tryz.f124];simp only[aT,Tm.enc];refine HT_sA ?_;refine HT_sA ?_;exact(HT_retE (fun h=>⟨.inr rfl,h⟩) _ (by simp[*];rfl) (by first|rfl|(simp[*,plainB,Bool.and_assoc];done)|(simp only[resR,plainB,Bool.and_assoc];(repeat' split)<;>first|rfl|(exfalso;omega)|simp_all)) (by simp))
theorem plainP_con (t:Tm) (d:Nat):Con Tryz.prog 195 true [aT t] (.v (lb (plainB t))) none d:=by
 obtain⟨o,n,ks⟩:=t;refine con_of_HTA Tryz.func195 ?_;simp only[Tryz.f195];simp only[aT,Tm.enc];refine HT_sA ?_;refine HT_sA ?_;exact(HT_retE (fun h=>⟨.inr rfl,h⟩) _ (by simp[*];rfl) (by first|rfl|(simp[*,plainB,Bool.and_assoc];done)|(simp only[resR,plainB,Bool.and_assoc];(repeat' split)<;>first|rfl|(exfalso;omega)|simp_all)) (by simp))
def uVB (d:Int):Bool:=decide (d=0)||decide (d=5)
def uNB (d:Int):Bool:=decide (d=4)||decide (d=5)
def uTB (d:Int):Bool:=decide (d=0)||(decide (d=1)||(decide (d=3)||decide (d=4)))
theorem uV_con (a:Int) (d:Nat):Con Tryz.prog 192 true [li a] (.v (lb (uVB a))) none d:=by
 refine con_of_HTA Tryz.func192 ?_;simp only[Tryz.f192];refine HT_sA ?_;refine HT_sA ?_;exact(HT_retE (fun h=>⟨.inr rfl,h⟩) _ (by simp[*];rfl) (by first|rfl|(simp[*,uVB];done)|(simp only[resR,uVB];(repeat' split)<;>first|rfl|(exfalso;omega)|simp_all)) (by simp))
theorem uN_con (a:Int) (d:Nat):Con Tryz.prog 193 true [li a] (.v (lb (uNB a))) none d:=by
 refine con_of_HTA Tryz.func193 ?_;simp only[Tryz.f193];refine HT_sA ?_;refine HT_sA ?_;exact(HT_retE (fun h=>⟨.inr rfl,h⟩) _ (by simp[*];rfl) (by first|rfl|(simp[*,uNB];done)|(simp only[resR,uNB];(repeat' split)<;>first|rfl|(exfalso;omega)|simp_all)) (by simp))
theorem uT_con (a:Int) (d:Nat):Con Tryz.prog 194 true [li a] (.v (lb (uTB a))) none d:=by
 refine con_of_HTA Tryz.func194 ?_;simp only[Tryz.f194];refine HT_sA ?_;refine HT_sA ?_;exact(HT_retE (fun h=>⟨.inr rfl,h⟩) _ (by simp[*];rfl) (by first|rfl|(simp[*,uTB,Bool.or_assoc];done)|(simp only[resR,uTB,Bool.or_assoc];(repeat' split)<;>first|rfl|(exfalso;omega)|simp_all)) (by simp))
def localB (vars:List Vr) (v:Int):Bool:=decide (0≤v)&&(match vars[v.toNat]? with|some w=>decide (w.kind=0)|none=>false)
def shB (vars:List Vr) (nh:Nat) (d v n:Int) (t:Tm) (la lb_:Nat) (bs:List Int) (last:Bool):Bool:=
 if d=0 then((decide (la=0)&&decide (lb_=0))&&localB vars v&&decide (n=0))&&decide (bs.length=0)
 else if d=1 then((decide (la=0)&&decide (lb_=0))&&decide (v=0)&&decide (n=0))&&decide (bs.length=0)
 else if d=2 then(((decide (la=0)&&decide (lb_=0))&&decide (v=0)&&decide (n=0))&&decide (bs.length=0))&&plainB t
 else if d=3 then(decide (v=0)&&decide (n=0))&&decide (bs.length=0)
 else if d=4 then(decide (v=0)&&decide (lb_=0))&&decide (bs.length=0)
 else if d=5 then((((decide (la=0)&&decide (lb_=0))&&localB vars v&&decide (0≤n))&&decide (n<nh))&&decide (bs.length=0))&&plainB t
 else if d=6 then((((decide (la=0)&&decide (lb_=0))&&last&&decide (v=0))&&decide (n=0))&&plainB t)&&riseB bs
 else false
theorem shapedR_con (f:Fl) (s:St) (last:Bool) (hv:f.vars.length≤1000000000) (hb:s.bounds.length≤1000000000) (e:Nat):
  Con Tryz.prog 91 true [aF f,aS s,lb last] (.v (lb (shB f.vars f.hats.length s.do_ s.var s.n s.term s.then_.length s.else_.length s.bounds last))) none e:=by
 obtain⟨vars,hats,body⟩:=f;obtain⟨d,c,v,n,t,a,b,bs⟩:=s;simp only[St.do_,St.var,St.n,St.term,St.then_,St.else_,St.bounds]at hb⊢;simp only at hv;have c1:=plainR_con t;have c2:=risingR_con bs hb;obtain⟨P,hP⟩:∃p,plainB t=p:=⟨_,rfl⟩;obtain⟨R,hR⟩:∃p,riseB bs=p:=⟨_,rfl⟩;obtain⟨la,hla⟩:∃k,a.length=k:=⟨_,rfl⟩;obtain⟨lc,hlc⟩:∃k,b.length=k:=⟨_,rfl⟩;obtain⟨nb,hnb⟩:∃k,bs.length=k:=⟨_,rfl⟩;obtain⟨nv,hnv⟩:∃k,vars.length=k:=⟨_,rfl⟩;obtain⟨nh,hnh⟩:∃k,hats.length=k:=⟨_,rfl⟩;obtain⟨res,hres⟩:∃r,shB vars hats.length d v n t a.length b.length bs last=r:=⟨_,rfl⟩;rw[hres];simp only[shB,hP,hR,hla,hlc,hnb,hnh]at hres;rw[hP]at c1;rw[hR]at c2;obtain⟨o,tn,ks⟩:=t;clear hP hR;simp only[aT,Tm.enc,List.map_cons,List.map_nil]at c1;refine con_of_HTA Tryz.func91 ?_;simp only[Tryz.f91];simp only[aF,aS,Fl.enc,St.enc,Tm.enc,List.map_cons,List.map_nil,List.cons_append,List.nil_append];refine HT_sA ?_;refine HT_sA ?_;refine HT_cutU [2,3,4,7] (fun(z:Bool)=>[(8,.v (lb z))]) (fun(z:Bool)=>[(3,.box [.c (.sl 5 (encVs vars)),.c (.sl 6 (encHs hats)),.c (.sl 10 (encSs body))]),(4,.box [.c (iC d),.c (iC c),.c (iC v),.c (iC n),.c (iC o),.c (iC tn),.c (.sl 3 (encTs ks)),.c (.sl 10 (encSs a)),.c (.sl 10 (encSs b)),.c (.sl 1 (encIs bs))])]) (fun(z:Bool)=>z=localB vars v) ?_ ?_
 · by_cases h0:0≤v
   · by_cases h1:v<vars.length
     · obtain⟨w,hw⟩:=get_vars ⟨h0,h1⟩;have h2:decide (v<(nv:Int))=true:=decide_eq_true (by omega);have hz:localB vars v=decide (w.kind=0):=by unfold localB;rw[hw];simp[h0]
       clear h1;refine HT_run (by simp[*];rfl) ?_;exact⟨decide (w.kind=0),hz.symm,le_mkA (fun n=>n) []⟩
     have hw:=get_none h0 h1;have h2:¬v<(nv:Int):=by omega
     have hz:localB vars v=false:=by unfold localB;rw[hw];simp
     clear h1;refine HT_run (by simp[*];rfl) ?_;exact⟨false,hz.symm,le_mkA (fun n=>n) []⟩
   have hz:localB vars v=false:=by unfold localB;simp[h0]
   refine HT_run (by simp[*];rfl) ?_;exact⟨false,hz.symm,le_mkA (fun n=>n) []⟩
 rintro LO hLO;simp only[upS,keepS,insS]
 try simp only[keepS,KN,Nat.reduceBEq,if_true,if_false,ins,Nat.reduceLT]
 rw[←hLO]at hres;clear hLO;refine HT_seq<|HT_seq<|HT_runA ?_;refine HT_block<|HT_seq<|HT_runA ?_;refine(HT_cond rfl (fun h5=>?_) (fun h5=>?_))
 · (try simp only[BN]at h5);refine HT_sA ?_;exact(HT_retE (fun h=>⟨.inr rfl,h⟩) _ (by simp[*];rfl) (by rw[←hres];simp[*,resR,Bool.and_assoc]) (by simp))
 (try simp only[BN]at h5);refine HT_sA ?_;refine(HT_cond rfl (fun h9=>?_) (fun h9=>?_))
 · (try simp only[BN]at h9);refine HT_sA ?_;exact(HT_retE (fun h=>⟨.inr rfl,h⟩) _ (by simp[*];rfl) (by rw[←hres];simp[*,resR,Bool.and_assoc]) (by simp))
 (try simp only[BN]at h9);refine HT_sA ?_;refine(HT_cond rfl (fun h13=>?_) (fun h13=>?_))
 · (try simp only[BN]at h13);by_cases hg:(la=0∧lc=0)∧v=0∧n=0∧nb=0
   · obtain⟨⟨g1,g2⟩,g3,g4,g5⟩:=hg;refine HT_scA [⟨true,.v (lb P),none⟩] ?_ ?_
     · first|exact c1 _|exact trivial|simpa[*]using c1 _
     exact(HT_retE (fun h=>⟨.inr rfl,h⟩) _ (by simp[*];rfl) (by rw[←hres];simp[*,resR,Bool.and_assoc]) (by simp))
   have hgb:(decide (la=0)&&decide (lc=0)&&decide (v=0)&&decide (n=0)&&decide (nb=0))=false:=by simp only[Bool.and_eq_false_iff,decide_eq_false_iff_not];omega
   clear hg
   have hr:false=res:=by
    rw[←hres,if_neg h5,if_neg h9,if_pos h13];rw[hgb];rfl
   subst hr;refine HT_seq<|(HT_runcS [none] (by simp[*];first|exact⟨rfl,trivial⟩|exact⟨rfl,Iff.rfl⟩|rfl) ?_ ?_)
   · trivial
   exact(HT_retE (fun h=>⟨.inr rfl,h⟩) _ (by simp[*];rfl) (by rfl) (by simp))
 (try simp only[BN]at h13);refine HT_sA ?_;refine(HT_cond rfl (fun h17=>?_) (fun h17=>?_))
 · (try simp only[BN]at h17);refine HT_sA ?_;exact(HT_retE (fun h=>⟨.inr rfl,h⟩) _ (by simp[*];rfl) (by rw[←hres];simp[*,resR,Bool.and_assoc]) (by simp))
 (try simp only[BN]at h17);refine HT_sA ?_;refine(HT_cond rfl (fun h21=>?_) (fun h21=>?_))
 · (try simp only[BN]at h21);refine HT_sA ?_;exact(HT_retE (fun h=>⟨.inr rfl,h⟩) _ (by simp[*];rfl) (by rw[←hres];simp[*,resR,Bool.and_assoc]) (by simp))
 (try simp only[BN]at h21);refine HT_sA ?_;refine(HT_cond rfl (fun h25=>?_) (fun h25=>?_))
 · (try simp only[BN]at h25);by_cases hg:(la=0∧lc=0)∧LO=true∧0≤n∧n<nh∧nb=0
   · obtain⟨⟨g1,g2⟩,g3,g4,g5,g6⟩:=hg;refine HT_scA [⟨true,.v (lb P),none⟩] ?_ ?_
     · first|exact c1 _|exact trivial|simpa[*]using c1 _
     exact(HT_retE (fun h=>⟨.inr rfl,h⟩) _ (by simp[*];rfl) (by rw[←hres];simp[*,resR,Bool.and_assoc]) (by simp))
   have hgb:(decide (la=0)&&decide (lc=0)&&LO&&decide (0≤n)&&decide (n<(nh:Int))&&decide (nb=0))=false:=by
    cases LO
    · simp
    simp only[Bool.and_eq_false_iff,decide_eq_false_iff_not];simp only[true_and]at hg;omega
   clear hg
   have hr:false=res:=by
    rw[←hres,if_neg h5,if_neg h9,if_neg h13,if_neg h17,if_neg h21,if_pos h25];rw[hgb];rfl
   subst hr;refine HT_seq<|(HT_runcS [none] (by simp[*];first|exact⟨rfl,trivial⟩|exact⟨rfl,Iff.rfl⟩|rfl) ?_ ?_)
   · trivial
   exact(HT_retE (fun h=>⟨.inr rfl,h⟩) _ (by simp[*];rfl) (by rfl) (by simp))
 (try simp only[BN]at h25);refine HT_sA ?_;refine(HT_cs rfl (fun h29=>?_) fun h29=>?_)
 · (try simp only[BN]at h29);by_cases hg:(la=0∧lc=0)∧last=true∧v=0∧n=0
   · obtain⟨⟨g1,g2⟩,g3,g4,g5⟩:=hg;refine HT_scA [⟨true,.v (lb P),none⟩,⟨true,.v (lb R),none⟩] ?_ ?_
     · first|exact⟨c1 _,c2 _⟩|exact trivial|(repeat' first|exact trivial|exact c1 _|exact c2 _|apply And.intro)
     exact(HT_retE (fun h=>⟨.inr rfl,h⟩) _ (by simp[*];rfl) (by rw[←hres];simp[*,resR,Bool.and_assoc]) (by simp))
   have hgb:(decide (la=0)&&decide (lc=0)&&last&&decide (v=0)&&decide (n=0))=false:=by
    cases last
    · simp
    simp only[Bool.and_eq_false_iff,decide_eq_false_iff_not];simp only[true_and]at hg;omega
   clear hg
   have hr:false=res:=by
    rw[←hres,if_neg h5,if_neg h9,if_neg h13,if_neg h17,if_neg h21,if_neg h25,if_pos h29];rw[hgb];rfl
   subst hr;refine HT_seq<|(HT_runcS [none,none] (by simp[*];first|exact⟨rfl,trivial⟩|exact⟨rfl,Iff.rfl⟩|rfl) ?_ ?_)
   · trivial
   exact(HT_retE (fun h=>⟨.inr rfl,h⟩) _ (by simp[*];rfl) (by rfl) (by simp))
 (try simp only[BN]at h29);refine HT_sA ?_;exact(HT_retE (fun h=>⟨.inr rfl,h⟩) _ (by simp[*];rfl) (by rw[←hres];simp[*,resR,Bool.and_assoc]) (by simp))
end Go.Proofs.YtfjidddhehckoaaGreat

namespace Go.Proofs.YtfjidddhehckoaaGreat
open Go Go.Hl
def badP (UV UN UT P LO:Bool) (d v n:Int) (la lc nb nh:Nat):Prop:=
 d<0∨6<d∨(UV=false∧v≠0)∨(UN=false∧n≠0)∨(UT=false∧P=false)∨((d≠3∧d≠4)∧0<la)∨(d≠3∧0<lc)∨(d≠6∧0<nb)∨(UV=true∧LO=false)∨(d=5∧(n<0∨nh≤n))
instance (UV UN UT P LO:Bool) (d v n:Int) (la lc nb nh:Nat):Decidable (badP UV UN UT P LO d v n la lc nb nh):=by unfold badP;exact inferInstance
theorem sh_bad {vars:List Vr} {nh:Nat} {d v n:Int} {t:Tm} {la lc:Nat} {bs:List Int} {last:Bool} (h:badP (uVB d) (uNB d) (uTB d) (plainB t) (localB vars v) d v n la lc bs.length nh):shB vars nh d v n t la lc bs last=false:=by
 unfold shB;generalize plainB t=P at*;generalize localB vars v=LO at*
 have hr:riseB bs=true→1≤bs.length:=by
  intro h;unfold riseB at h;simp only[Bool.and_eq_true,decide_eq_true_eq]at h;omega
 generalize riseB bs=R at*;generalize bs.length=nb at*;unfold badP uVB uNB uTB at h
 (repeat' split)<;>(simp only[Bool.and_eq_false_iff,Bool.or_eq_false_iff,Bool.or_eq_true,decide_eq_true_eq,decide_eq_false_iff_not]at h⊢)<;>cases P<;>cases LO<;>cases last<;>cases R<;>simp at h hr⊢ <;>omega
theorem sh_good {vars:List Vr} {nh:Nat} {d v n:Int} {t:Tm} {la lc:Nat} {bs:List Int} {last:Bool} (h:¬badP (uVB d) (uNB d) (uTB d) (plainB t) (localB vars v) d v n la lc bs.length nh):shB vars nh d v n t la lc bs last=(decide (d≠6)||(last&&riseB bs)):=by
 unfold shB;generalize plainB t=P at*;generalize localB vars v=LO at*;generalize riseB bs=R at*;generalize bs.length=nb at*;unfold badP uVB uNB uTB at h;rw[Bool.eq_iff_iff]
 (repeat' split)<;>(simp only[not_or,not_and,Bool.or_eq_false_iff,Bool.or_eq_true,Bool.and_eq_true,decide_eq_true_eq,decide_eq_false_iff_not]at h⊢)<;>cases P<;>cases LO<;>cases last<;>cases R<;>simp at h⊢ <;>omega
end Go.Proofs.YtfjidddhehckoaaGreat
