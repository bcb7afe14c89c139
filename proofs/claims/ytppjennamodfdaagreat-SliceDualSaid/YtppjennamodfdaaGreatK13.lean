/- Part 13: contracts of functions of the program and of the reference, and plain facts about what they compute; used by the proof of the claimed statement. Conditions: as each theorem states. -/
import Derived.Test.YtppjennamodfdaaGreatK12
set_option linter.unusedSimpArgs false
set_option linter.unusedVariables false
set_option linter.unnecessarySimpa false
set_option maxRecDepth 100000
set_option maxHeartbeats 2000000
namespace Go.Proofs.YtppjennamodfdaaGreat
open Go Go.Hl
theorem fit0_con (f:Fl) (d:Nat):Con Tryz.prog 11 true [aF f,.one (.c (.lit nilS))] (.v (lb (fitQ f []))) none d:=by
 obtain⟨h1,h2⟩:=fit_con f [] (by simp) d;refine⟨h1,fun F w vs hF hsz hargs=>h2 F w vs hF hsz fun j t u ht hu=>?_⟩
 match j,ht with
 |0,ht=>exact hargs 0 t u ht hu
 | 1,ht=>
   cases ht;have a0:CRel F w (.lit nilS) u:=hargs 1 _ u rfl hu;cases a0;exact CRel.nil 1
 |j+2,ht=>simp at ht
end Go.Proofs.YtppjennamodfdaaGreat

namespace Go.Proofs.YtppjennamodfdaaGreat
open Go Go.Hl
def msDu:List (Nat×List Nat):=[(1023,[0,2,4,6]),(1022,[1,2,4,6]),(1019,[0,4,6]),(1007,[0,2,5,6]),(959,[0,2,4]),(1020,[2,4,6]),(1018,[1,4,6]),(1006,[1,2,5,6]),(958,[1,2,4]),(1003,[0,5,6]),(955,[0,4]),(975,[0,2,6]),(943,[0,2,5]),(1016,[3,4,6]),(1004,[2,5,6]),(956,[2,4]),(1002,[1,5,6]),(954,[1,4]),(974,[1,2,6]),(942,[1,2,5]),(971,[0,6]),(939,[0,5]),(911,[0,2,7]),(1008,[4,6,8]),(1000,[3,5,6]),(952,[3,4]),(972,[2,6]),(940,[2,5]),(970,[1,6]),(938,[1,5]),(910,[1,2,7]),(907,[0,7]),(783,[0,2]),(992,[5,6,8]),(944,[4,8]),(752,[4,6]),(968,[3,6]),(936,[3,5]),(908,[2,7]),(906,[1,7]),(782,[1,2]),(779,[0]),(960,[6,8]),(928,[5,8]),(736,[5,6]),(688,[4]),(904,[3,7]),(780,[2]),(778,[1]),(896,[7,8]),(704,[6]),(672,[5]),(776,[3]),(768,[8]),(640,[7]),(512,[9])]
def nxDu (regs:List (Nat×RV)) (o:List (Nat×Ob)) (outs:List (Nat×Nat×RV)) (R:List Nat):HS:=
 {trS ⟨⟨75,none⟩,regs,[]⟩ outs R with objs:=o}
set_option maxHeartbeats 8000000 in
theorem dual_law (f:Fl) (s t:Nat) (hs:s<256) (ht:t<256) (d:Nat):Con Tryz.prog 5 true [aF f,l8 s,l8 t] (.v (lb true)) none d:=by
 have ck:=known_con;have cf:=fit0_con f;have hfew:=@sub_few f;have hcc:=fun h:fewB f 70 300=true=>checkR_con f (by have:=(few_sm h).vars;omega) (by have:=(few_sm h).hats;omega) (by have:=(few_sm h).nodes;omega) (few_sm h).bnd
 have hfew2:fitQ f []=true→fewB f 70 300=true:=fun h=>by
  unfold fitQ at h;simp only[List.any_nil,Bool.not_false,Bool.true_and,Bool.and_eq_true]at h;exact h.1
 have hsz:=fun h:fewB f 70 300=true=>sizeR_con f.body (by have:=(few_sm h).nodes;omega);obtain⟨FQ,hFQ⟩:∃x,fitQ f []=x:=⟨_,rfl⟩;obtain⟨K,hK⟩:∃x,codeC f=x:=⟨_,rfl⟩;obtain⟨n,hn⟩:∃x,szL f.body=x:=⟨_,rfl⟩;have hb:=fun(h:FQ=true) (k:Nat)=>backward_con f (few_sm (hfew2 (hFQ.trans h))) [(k:Int)] (by simp);have hf:=fun(h:FQ=true) (k:Nat)=>forward_con f (few_sm (hfew2 (hFQ.trans h))) [(k:Int)] (by simp);have hd:=fun(h:FQ=true) (i k:Nat)=>@dual f (few_sm (hfew2 (hFQ.trans h))) i k;have hask:=fun(h:K=0) (k:Nat)=>@ask_one f (hK.trans h) k;have hlen:=fun(h:FQ=true) (k:Nat)=>srtF_len (dirT f).length (cloF (dirT f) (natL [(k:Int)]));rw[hFQ]at cf hfew2;simp only[hK]at hcc;simp only[hn]at hsz hd hask;clear hfew;obtain⟨vars,hats,body⟩:=f;simp only[aF,Fl.enc,List.map_cons,List.map_nil]at cf hcc hsz hb hf⊢;refine con_of_HTA Tryz.func5 ?_;simp only[Tryz.f5];refine HT_sA ?_;refine HT_seq<|HT_seq<|(HT_runcA [⟨false,.v (lb true),none⟩] ?_ ?_)
 · first|exact ck _|exact trivial|simpa[*]using ck _
 refine(HT_cs rfl (fun h2=>?_) fun h2=>?_)
 · exact absurd h2 (by simp)
 (try simp only[BN]at h2);refine HT_sA ?_;refine(HT_cutU [1,2,3] (fun(z:Nat)=>[(7,.v (li z))]) (fun(z:Nat)=>[(3,.box [.c (.sl 5 (encVs vars)),.c (.sl 6 (encHs hats)),.c (.sl 10 (encSs body))])]) (fun(z:Nat)=>z=0∨(FQ=true∧K=0∧z=n)) ?_ ?_)
 ·
  rcases FQ with _|_
  · refine HT_seq<|(HT_runcS [some ⟨true,.v (lb false),none⟩,none] (by simp[*];first|exact⟨rfl,Iff.rfl⟩|exact⟨rfl,trivial⟩|rfl) ?_ ?_)
    · first|exact trivial|exact cf _|simpa using cf _
    refine(HT_cs rfl (fun h8=>?_) fun h8=>?_)
    · exact absurd h8 (by simp)
    (try simp only[BN]at h8);exact⟨0,.inl rfl,le_mkA (fun n=>n) []⟩
  have hcc:=hcc (hfew2 rfl);have hsz:=hsz (hfew2 rfl);refine HT_scA [⟨true,.v (lb true),none⟩,⟨true,.v (li K),none⟩] ?_ ?_
  · first|exact⟨cf _,hcc _⟩|exact trivial|(repeat' first|exact trivial|exact cf _|exact hcc _|apply And.intro)
  refine(HT_cs rfl (fun h8=>?_) fun h8=>?_)
  · (try simp only[BN]at h8);have hk0:K=0:=by simpa using h8
    subst hk0;refine(HT_runcA [⟨true,.v (li n),none⟩] ?_ ?_)
    · first|exact hsz _|exact trivial|simpa[*]using hsz _
    exact⟨n,.inr ⟨rfl,rfl,rfl⟩,le_mkA (fun n=>n) []⟩
  (try simp only[BN]at h8);exact⟨0,.inl rfl,le_mkA (fun n=>n) []⟩
 rintro z hz;simp only[upS,keepS,insS]
 try simp only[keepS,KN,Nat.reduceBEq,if_true,if_false,ins,Nat.reduceLT]
 refine HT_seq<|HT_seq<|HT_runA ?_;refine(HT_cs rfl (fun h13=>?_) fun h13=>?_)
 · (try simp only[BN]at h13);refine HT_sA ?_;exact HT_rA
 (try simp only[BN]at h13);have hz0:¬z=0:=by simpa using h13
 obtain⟨hF,hK0,rfl⟩:=hz.resolve_left hz0;have hzn:z≤1000:=by have:=(few_sm (hfew2 hF)).nodes;have:=szL_le body;simp only at*;omega
 have m1:=emod_wrap (n:=z) hs (by omega) hzn;have m2:=emod_wrap (n:=z) ht (by omega) hzn;have w1:IntKind.i64.wrap (s:Int)=s:=wrap_in (by omega) (by omega);have w2:IntKind.i64.wrap (t:Int)=t:=wrap_in (by omega) (by omega);have hi:=Nat.mod_lt s (Nat.pos_of_ne_zero hz0);have hk:=Nat.mod_lt t (Nat.pos_of_ne_zero hz0);obtain⟨i,hie⟩:∃x,s%z=x:=⟨_,rfl⟩;obtain⟨k,hke⟩:∃x,t%z=x:=⟨_,rfl⟩;rw[hie]at m1 hi;rw[hke]at m2 hk;have w3:IntKind.i64.wrap (i:Int)=i:=wrap_in (by omega) (by omega);have w4:IntKind.i64.wrap (k:Int)=k:=wrap_in (by omega) (by omega);have hz1:¬(z:Int)=0:=by omega
 clear h13;refine HT_le (s':=⟨⟨75,none⟩,[(1,.v (l8 s)),(2,.v (l8 t)),(3,.v (.one (.at_ 3 0))),(7,.v (li z))],[(3,.box [.c (.sl 5 (encVs vars)),.c (.sl 6 (encHs hats)),.c (.sl 10 (encSs body))])]⟩) (le_mk (fun n=>n) [] rfl (by simp) (by simp) (by simp)) ?_;refine HT_seq<|(HT_bruteM (nxDu [(1,.v (l8 s)),(2,.v (l8 t)),(3,.v (.one (.at_ 3 0))),(7,.v (li z))] [(3,.box [.c (.sl 5 (encVs vars)),.c (.sl 6 (encHs hats)),.c (.sl 10 (encSs body))])] [(0,28,.v (l8 s)),(1,29,.v (li s)),(2,30,.v (li z)),(3,31,.v (li i)),(4,32,.v (l8 t)),(5,33,.v (li t)),(6,34,.v (li z)),(7,35,.v (li k)),(8,8,.v (li i)),(9,9,.v (li k))]) 10 1023 msDu rfl (by kernel_rfl) (by kernel_rfl) (by kernel_rfl) (by kernel_rfl) (by simp[nxDu,trS]) ?_ ?_)
 · simp only[msDu,allM]
   repeat' apply And.intro
   all_goals first
    |(refine StepW.evE rfl ?_;simp[nxDu,trS,ins,lkp,del,m1,m2,hz0,w3,w4];done)
    |(refine StepW.conv 5 3 _ .u8 s rfl rfl rfl (by first|(simp[nxDu,trS,ins,lkp];done)|(simp[nxDu,trS,ins,lkp];rfl)) (by first|(simp[nxDu,trS];done)|rfl) (by kernel_rfl) (by kernel_rfl) (by rw[show Tryz.prog.intKind 3=.i64 by kernel_rfl,w1];first|rfl|(simp[nxDu,trS,ins];done)))
    |(refine StepW.conv 5 3 _ .u8 t rfl rfl rfl (by first|(simp[nxDu,trS,ins,lkp];done)|(simp[nxDu,trS,ins,lkp];rfl)) (by first|(simp[nxDu,trS];done)|rfl) (by kernel_rfl) (by kernel_rfl) (by rw[show Tryz.prog.intKind 3=.i64 by kernel_rfl,w2];first|rfl|(simp[nxDu,trS,ins];done)))
    |trivial
 refine HT_le (s':=⟨⟨75,none⟩,[(3,.v (.one (.at_ 3 0))),(8,.v (li i)),(9,.v (li k))],[(3,.box [.c (.sl 5 (encVs vars)),.c (.sl 6 (encHs hats)),.c (.sl 10 (encSs body))])]⟩) (le_mk (fun n=>n) [] rfl (by simp[nxDu,trS]) (by simp[nxDu,trS]) (by simp)) ?_;have g1:=hb hF k;have g2:=hf hF i;obtain⟨d1,d2,d3⟩:=hd hF i k hi hk;rw[hask hK0 k hk,slR,if_pos rfl]at g1;rw[hask hK0 i hi,slR,if_pos rfl]at g2;have hl1:(bwL ⟨vars,hats,body⟩ [(k:Int)]).length≤1000000:=Nat.le_trans (srtF_len _ _) (by have:=(tab_ok (few_sm (hfew2 hF))).hn;rw[dirT_len];omega);have hl2:(fwL ⟨vars,hats,body⟩ [(i:Int)]).length≤1000000:=Nat.le_trans (srtF_len _ _) (by have:=(tab_ok (few_sm (hfew2 hF))).hn;rw[dirT_len];omega);obtain⟨X,hX⟩:∃x,bwL ⟨vars,hats,body⟩ [(k:Int)]=x:=⟨_,rfl⟩;obtain⟨Y,hY⟩:∃x,fwL ⟨vars,hats,body⟩ [(i:Int)]=x:=⟨_,rfl⟩;rw[hX]at g1 d1 d2 hl1;rw[hY]at g2 d1 d3 hl2;rw[show encIs [(k:Int)]=[[iC k]] from rfl]at g1;rw[show encIs [(i:Int)]=[[iC i]] from rfl]at g2;have e1:=hasD_con X i hl1;have e2:=hasD_con Y k hl2;have e3:=hasD_con X k hl1;have e4:=hasD_con Y i hl2;rw[decide_eq_true d2]at e3;rw[decide_eq_true d3]at e4;obtain⟨z1,hz1⟩:∃x,decide (i∈X)=x:=⟨_,rfl⟩;have hz2:decide (k∈Y)=z1:=by rw[←hz1];exact decide_eq_decide.2 d1.symm
 rw[hz1]at e1;rw[hz2]at e2;clear hb hf hd hask hlen hX hY d1 d2 d3 hz1 hz2 cf hcc hsz ck hfew2 hFQ hK hn;refine HT_seq<|(HT_runF 3 [] [⟨false,.tup [.one (.c (.sl 1 (encD X))),li 0],none⟩] (by simp;rfl) trivial (le_frz 39 rfl) (by simp;first|exact⟨rfl,Iff.rfl⟩|exact⟨rfl,trivial⟩|rfl) ?_ ?_)
 · first|exact g1 _|simpa using g1 _
 refine HT_seq<|(HT_runF 3 [] [⟨false,.tup [.one (.c (.sl 1 (encD Y))),li 0],none⟩] (by simp;rfl) trivial (le_frz 46 rfl) (by simp;first|exact⟨rfl,Iff.rfl⟩|exact⟨rfl,trivial⟩|rfl) ?_ ?_)
 · first|exact g2 _|simpa using g2 _
 refine HT_scA [⟨true,.v (lb z1),none⟩,⟨true,.v (lb z1),none⟩,⟨true,.v (lb true),none⟩,⟨true,.v (lb true),none⟩] ?_ ?_
 · first|exact⟨e1 _,e2 _,e3 _,e4 _⟩|exact trivial|(repeat' first|exact trivial|exact e1 _|exact e2 _|exact e3 _|exact e4 _|apply And.intro)
 exact HT_rA
end Go.Proofs.YtppjennamodfdaaGreat
