/- Part 10: contracts of functions of the program and of the reference, and plain facts about what they compute; used by the proof of the claimed statement. Conditions: as each theorem states. -/
import Derived.Test.YtppjennamodfdaaGreatK9
import Derived.Test.YtppjennamodfdaaGreatK6
set_option linter.unusedSimpArgs false
set_option linter.unusedVariables false
set_option linter.unnecessarySimpa false
set_option maxRecDepth 100000
set_option maxHeartbeats 2000000
namespace Go.Proofs.YtppjennamodfdaaGreat
open Go Go.Hl
inductive Cl (L:List (List Nat)) (l:List Nat):Nat→Prop where
 |base {d:Nat}:d∈l→Cl L l d
 |step {x d:Nat}:Cl L l x→d∈L[x]?.getD []→Cl L l d
theorem addN_mem (t:List Nat) (v d:Nat):d∈addN t v↔d∈t∨d=v:=by
 unfold addN;split
 · rename_i h;constructor
   · exact .inl
   rintro(h1|rfl)
   · exact h1
   exact h
 simp
theorem addAll_mem (l:List Nat):∀(t:List Nat) (d:Nat),d∈addAll l t↔d∈t∨d∈l:=by
 induction l with
 |nil=>intro t d;simp[addAll]
 |cons v l ih=>intro t d;rw[addAll,ih,addN_mem,List.mem_cons,or_assoc]
theorem addN_pre (t:List Nat) (v:Nat):t<+:addN t v:=by
 unfold addN;split
 · exact List.prefix_refl _
 exact List.prefix_append _ _
theorem addAll_pre (l:List Nat):∀t,t<+:addAll l t:=by
 induction l with
 |nil=>intro t;exact List.prefix_refl _
 |cons v l ih=>intro t;exact(addN_pre t v).trans (ih _)
theorem pre_get {a b:List Nat} (h:a<+:b) {i v:Nat} (hi:a[i]? =some v):b[i]? =some v:=by
 obtain⟨c,rfl⟩:=h;rw[List.getElem?_append_left (List.getElem?_eq_some_iff.1 hi).1];exact hi
theorem wl_spec {L:List (List Nat)} {n:Nat} {l0:List Nat} (hL:∀l∈L,∀d∈l,d<n):∀(k i:Nat) (t:List Nat),k+i=n+1→i≤t.length→Nb n t→
  (∀j v,j<i→t[j]? =some v→∀d∈L[v]?.getD [],d∈t)→(∀d∈t,Cl L l0 d)→(∀d∈l0,d∈t)→
  Nb n (wl L k i t)∧∀d,d∈wl L k i t↔Cl L l0 d
 |0,i,t,hk,hi,hN,_,_,_=>by have:=hN.len;omega
 | k + 1,i,t,hk,hi,hN,hc,hs,hl=>by
   unfold wl;split
   · rename_i v hv
     have hlv:∀d∈L[v]?.getD [],d<n:=by
      intro d hd;cases e:L[v]? with
      |none=>rw[e]at hd;cases hd
      |some l=>rw[e]at hd;exact hL l (List.mem_of_getElem? e) d hd
     have hp:=addAll_pre (L[v]?.getD []) t;have hil:i<t.length:=(List.getElem?_eq_some_iff.1 hv).1;have hle:=addAll_len (L[v]?.getD []) t;refine wl_spec hL k (i+1) _ (by omega) (by omega) (Nb.addAll _ hlv hN) ?_ ?_ fun d hd=>(addAll_mem _ _ _).2 (.inl (hl d hd))
     · intro j u hj hu d hd;rw[addAll_mem];by_cases hji:j=i
       · subst hji;rw[pre_get hp hv]at hu;cases hu;exact .inr hd
       refine .inl (hc j u (by omega) ?_ d hd);have:t[j]? =some t[j]:=by rw[List.getElem?_eq_getElem (by omega)]
       rw[pre_get hp this]at hu;rw[this,hu]
     intro d hd;rcases(addAll_mem _ _ _).1 hd with h|h
     · exact hs d h
     exact .step (hs v (List.mem_of_getElem? hv)) h
   rename_i hv
   have hil:t.length≤i:=by
    by_cases h:i<t.length
    · rw[List.getElem?_eq_getElem h]at hv;cases hv
    omega
   refine⟨hN,fun d=>⟨hs d,fun h=>?_⟩⟩
   induction h with
   |base h=>exact hl _ h
   | step _ h ih=>
     obtain⟨j,hj⟩:=List.mem_iff_getElem?.1 ih;exact hc j _ (by have:=(List.getElem?_eq_some_iff.1 hj).1;omega) hj _ h
theorem cloF_spec {L:List (List Nat)} {l0:List Nat} (hL:okLk L) (h0:∀d∈l0,d<L.length):Nb L.length (cloF L l0)∧∀d,d∈cloF L l0↔Cl L l0 d:=by
 unfold cloF;refine wl_spec (fun l hl=>(hL l hl).2) _ _ _ rfl (Nat.zero_le _) (Nb.addAll _ h0 (Nb.nil _)) (fun j v hj=>absurd hj (by omega)) (fun d hd=>?_) fun d hd=>(addAll_mem _ _ _).2 (.inr hd);rcases(addAll_mem _ _ _).1 hd with h|h
 · cases h
 exact .base h
def natL (q:List Int):List Nat:=q.map Int.toNat
theorem encIs_nat {q:List Int} (h:∀x∈q,0≤x):encIs q=encD (natL q):=by
 unfold encIs encD natL;rw[List.map_map];refine List.map_congr_left fun x hx=>?_;have:=h x hx;simp only[Function.comp,iC];rw[Int.toNat_of_nonneg this]
theorem ask_zero {f:Fl} {qs:List (List Int)} (h:askC f qs=0):codeC f=0∧∀q∈qs,∀x∈q,0≤x∧x<(flL f.body).length:=by
 unfold askC at h;split at h
 · rename_i hc;split at h
   · rename_i hb;refine⟨hc,fun q hq x hx=>?_⟩;have:=List.all_eq_true.1 (List.all_eq_true.1 hb q hq) x hx;simpa using this
   exact absurd h (by decide)
 rename_i hc;exact absurd h hc
theorem ask_lt {f:Fl} {qs:List (List Int)} (h:askC f qs=0) {q:List Int} (hq:q∈qs):(∀x∈q,0≤x)∧∀d∈natL q,d<(dirT f).length:=by
 have:=(ask_zero h).2 q hq;refine⟨fun x hx=>(this x hx).1,fun d hd=>?_⟩;obtain⟨x,hx,rfl⟩:=List.mem_map.1 hd;have:=this x hx;rw[dirT_len];omega
noncomputable def bwL (f:Fl) (q:List Int):List Nat:=srtF (dirT f).length (cloF (dirT f) (natL q))
noncomputable def fwL (f:Fl) (q:List Int):List Nat:=srtF (dirT f).length (cloF (revF (dirT f)) (natL q))
noncomputable def slR (C:Int) (l:List Nat):RV:=.tup [.one (.c (if C=0 then .sl 1 (encD l)else .lit nilS)),li C]
set_option maxHeartbeats 8000000 in
theorem backward_con (f:Fl) (h:Sm f) (q:List Int) (hq:q.length≤100000) (d:Nat):Con Tryz.prog 12 false [aF f,.one (.c (.sl 1 (encIs q)))] (slR (askC f [q]) (bwL f q)) none d:=by
 have ca:=asked_con f h [q] (by simp) (fun q' hq'=>by rw[List.mem_singleton.1 hq'];omega);have cd:=direct_con f _ _ _ (tab_ok h);have hd0:dirF (flL f.body) (arL f.body (-1) 0) (rdT f)=dirT f:=rfl;rw[hd0]at cd;have hok:=dir_ok h;have hDl:(dirT f).length≤1000:=by rw[dirT_len];exact(tab_ok h).hn
 obtain⟨C,hC⟩:∃x,askC f [q]=x:=⟨_,rfl⟩;have hask:=fun hz=>@ask_lt f [q] (hC.trans hz) q (by simp);unfold askT at ca;simp only[encQ,List.map_cons,List.map_nil]at ca;unfold slR bwL;rw[hC]at ca⊢;obtain⟨R,hR⟩:∃x,srtF (dirT f).length (cloF (dirT f) (natL q))=x:=⟨_,rfl⟩;rw[hR];obtain⟨T,hT⟩:∃x,tabC f=x:=⟨_,rfl⟩;have hT2:tabD f (flL f.body) (arL f.body (-1) 0) (rdT f)=T:=hT;rw[hT]at ca;rw[hT2]at cd;obtain⟨D,hD⟩:∃x,dirT f=x:=⟨_,rfl⟩;rw[hD]at cd hok hDl hask hR;clear h hC hT hT2 hd0 hD;by_cases hz:C=0
 · subst hz;obtain⟨h0,hlt⟩:=hask rfl;have cc:=closure_con D (natL q) (by omega) hok (by simp only[natL,List.length_map];omega) hlt;have hN:=(cloF_spec hok hlt).1;have cs:=sorted_con D.length _ (by omega) hN;rw[hR]at cs;rw[encIs_nat h0]at ca⊢;simp only[if_true]at ca⊢;clear hask hR h0 hlt hN hok;obtain⟨vars,hats,body⟩:=f;simp only[aF,Fl.enc,List.map_cons,List.map_nil]at ca⊢;refine con_of_HTA Tryz.func12 ?_;simp only[Tryz.f12];refine HT_sA ?_;refine HT_seq<|(HT_runF 3 [] [⟨false,.tup [.one (.c T),li 0],none⟩] (by simp[*];rfl) trivial (le_frz 11 rfl) (by simp[*];first|exact⟨rfl,Iff.rfl⟩|exact⟨rfl,trivial⟩|rfl) ?_ ?_)
   · first|exact ca _|simpa using ca _
   refine HT_seq<|HT_seq<|HT_runA ?_;refine(HT_cs rfl (fun h3=>?_) fun h3=>?_)
   · exact absurd h3 (by simp)
   (try simp only[BN]at h3);refine HT_scA [⟨false,.v (.one (.c (.sl 1 (encDD D)))),none⟩,⟨false,.v (.one (.c (.mp (mpI (cloF D (natL q)))))),none⟩,⟨false,.v (.one (.c (.sl 1 (encD R)))),none⟩] ?_ ?_
   · first|exact⟨cd _,cc _,cs _⟩|exact trivial|(repeat' first|exact trivial|exact cd _|exact cc _|exact cs _|apply And.intro)
   exact HT_rA
 simp only[if_neg hz]at ca⊢;clear hask hok hR cd;obtain⟨vars,hats,body⟩:=f;simp only[aF,Fl.enc,List.map_cons,List.map_nil]at ca⊢;refine con_of_HTA Tryz.func12 ?_;simp only[Tryz.f12];refine HT_sA ?_;refine HT_seq<|(HT_runF 3 [] [⟨false,.tup [.one (.c (.lit (.pointer none))),li C],none⟩] (by simp[*];rfl) trivial (le_frz 11 rfl) (by simp[*];first|exact⟨rfl,Iff.rfl⟩|exact⟨rfl,trivial⟩|rfl) ?_ ?_)
 · first|exact ca _|simpa using ca _
 refine HT_seq<|HT_seq<|HT_runA ?_;refine(HT_cs rfl (fun h3=>?_) fun h3=>?_)
 · (try simp only[BN]at h3);refine HT_sA ?_;exact HT_rA
 exact absurd h3 (by simp[hz])
end Go.Proofs.YtppjennamodfdaaGreat

namespace Go.Proofs.YtppjennamodfdaaGreat
open Go Go.Hl
set_option maxHeartbeats 8000000 in
theorem forward_con (f:Fl) (h:Sm f) (q:List Int) (hq:q.length≤100000) (d:Nat):Con Tryz.prog 13 false [aF f,.one (.c (.sl 1 (encIs q)))] (slR (askC f [q]) (fwL f q)) none d:=by
 have ca:=asked_con f h [q] (by simp) (fun q' hq'=>by rw[List.mem_singleton.1 hq'];omega);have cd:=direct_con f _ _ _ (tab_ok h);have hd0:dirF (flL f.body) (arL f.body (-1) 0) (rdT f)=dirT f:=rfl;rw[hd0]at cd;have hrow:=dirT_row h;have hDl:(dirT f).length≤1000:=by rw[dirT_len];exact(tab_ok h).hn
 obtain⟨C,hC⟩:∃x,askC f [q]=x:=⟨_,rfl⟩;have hask:=fun hz=>@ask_lt f [q] (hC.trans hz) q (by simp);unfold askT at ca;simp only[encQ,List.map_cons,List.map_nil]at ca;unfold slR fwL;rw[hC]at ca⊢;obtain⟨R,hR⟩:∃x,srtF (dirT f).length (cloF (revF (dirT f)) (natL q))=x:=⟨_,rfl⟩;rw[hR];obtain⟨T,hT⟩:∃x,tabC f=x:=⟨_,rfl⟩;have hT2:tabD f (flL f.body) (arL f.body (-1) 0) (rdT f)=T:=hT;rw[hT]at ca;rw[hT2]at cd;obtain⟨D,hD⟩:∃x,dirT f=x:=⟨_,rfl⟩;rw[hD]at cd hrow hDl hask hR;have cv:=reversed_con D hDl hrow;have hok:=rev_ok hDl hrow;have hEl:=revF_len D;obtain⟨E,hE⟩:∃x,revF D=x:=⟨_,rfl⟩;rw[hE]at cv hok hEl hR;clear h hC hT hT2 hd0 hD hrow hE;rw[←hEl]at hask hR;by_cases hz:C=0
 · subst hz;obtain⟨h0,hlt⟩:=hask rfl;have cc:=closure_con E (natL q) (by omega) hok (by simp only[natL,List.length_map];omega) hlt;have hN:=(cloF_spec hok hlt).1;have cs:=sorted_con E.length _ (by omega) hN;rw[hR]at cs;rw[encIs_nat h0]at ca⊢;simp only[if_true]at ca⊢;clear hask hR h0 hlt hN hok;obtain⟨vars,hats,body⟩:=f;simp only[aF,Fl.enc,List.map_cons,List.map_nil]at ca⊢;refine con_of_HTA Tryz.func13 ?_;simp only[Tryz.f13];refine HT_sA ?_;refine HT_seq<|(HT_runF 3 [] [⟨false,.tup [.one (.c T),li 0],none⟩] (by simp[*];rfl) trivial (le_frz 11 rfl) (by simp[*];first|exact⟨rfl,Iff.rfl⟩|exact⟨rfl,trivial⟩|rfl) ?_ ?_)
   · first|exact ca _|simpa using ca _
   refine HT_seq<|HT_seq<|HT_runA ?_;refine(HT_cs rfl (fun h3=>?_) fun h3=>?_)
   · exact absurd h3 (by simp)
   (try simp only[BN]at h3);refine HT_scA [⟨false,.v (.one (.c (.sl 1 (encDD D)))),none⟩,⟨false,.v (.one (.c (.sl 1 (encDD E)))),none⟩,⟨false,.v (.one (.c (.mp (mpI (cloF E (natL q)))))),none⟩,⟨false,.v (.one (.c (.sl 1 (encD R)))),none⟩] ?_ ?_
   · first|exact⟨cd _,cv _,cc _,cs _⟩|exact trivial|(repeat' first|exact trivial|exact cd _|exact cv _|exact cc _|exact cs _|apply And.intro)
   exact HT_rA
 simp only[if_neg hz]at ca⊢;clear hask hok hR cd cv;obtain⟨vars,hats,body⟩:=f;simp only[aF,Fl.enc,List.map_cons,List.map_nil]at ca⊢;refine con_of_HTA Tryz.func13 ?_;simp only[Tryz.f13];refine HT_sA ?_;refine HT_seq<|(HT_runF 3 [] [⟨false,.tup [.one (.c (.lit (.pointer none))),li C],none⟩] (by simp[*];rfl) trivial (le_frz 11 rfl) (by simp[*];first|exact⟨rfl,Iff.rfl⟩|exact⟨rfl,trivial⟩|rfl) ?_ ?_)
 · first|exact ca _|simpa using ca _
 refine HT_seq<|HT_seq<|HT_runA ?_;refine(HT_cs rfl (fun h3=>?_) fun h3=>?_)
 · (try simp only[BN]at h3);refine HT_sA ?_;exact HT_rA
 exact absurd h3 (by simp[hz])
end Go.Proofs.YtppjennamodfdaaGreat

namespace Go.Proofs.YtppjennamodfdaaGreat
open Go Go.Hl
noncomputable def chL (f:Fl) (a b:List Int):List Nat:=(fwL f a).filter fun d=>decide (d∈cloF (dirT f) (natL b))
set_option maxHeartbeats 8000000 in
theorem chop_con (f:Fl) (h:Sm f) (q q2:List Int) (hq:q.length≤100000) (hq2:q2.length≤100000) (d:Nat):Con Tryz.prog 14 false [aF f,.one (.c (.sl 1 (encIs q))),.one (.c (.sl 1 (encIs q2)))] (slR (askC f [q,q2]) (chL f q q2)) none d:=by
 have ca:=asked_con f h [q,q2] (by simp) (fun q' hq'=>by
  simp only[List.mem_cons,List.not_mem_nil,or_false]at hq'
  rcases hq' with rfl|rfl<;>omega)
 have cd:=direct_con f _ _ _ (tab_ok h);have hd0:dirF (flL f.body) (arL f.body (-1) 0) (rdT f)=dirT f:=rfl;rw[hd0]at cd;have hrow:=dirT_row h;have hok1:=dir_ok h;have hDl:(dirT f).length≤1000:=by rw[dirT_len];exact(tab_ok h).hn
 obtain⟨C,hC⟩:∃x,askC f [q,q2]=x:=⟨_,rfl⟩;have hask:=fun hz=>@ask_lt f [q,q2] (hC.trans hz) q (by simp);have hask2:=fun hz=>@ask_lt f [q,q2] (hC.trans hz) q2 (by simp);unfold askT at ca;simp only[encQ,List.map_cons,List.map_nil]at ca;unfold slR chL fwL;rw[hC]at ca⊢;obtain⟨R,hR⟩:∃x,srtF (dirT f).length (cloF (revF (dirT f)) (natL q))=x:=⟨_,rfl⟩;rw[hR];obtain⟨T,hT⟩:∃x,tabC f=x:=⟨_,rfl⟩;have hT2:tabD f (flL f.body) (arL f.body (-1) 0) (rdT f)=T:=hT;rw[hT]at ca;rw[hT2]at cd;obtain⟨D,hD⟩:∃x,dirT f=x:=⟨_,rfl⟩;rw[hD]at cd hrow hDl hask hask2 hR hok1⊢;have cv:=reversed_con D hDl hrow;have hok:=rev_ok hDl hrow;have hEl:=revF_len D;obtain⟨E,hE⟩:∃x,revF D=x:=⟨_,rfl⟩;rw[hE]at cv hok hEl hR;clear h hC hT hT2 hd0 hD hrow hE;rw[←hEl]at hask hR;have hRl:=srtF_len E.length (cloF E (natL q));rw[hR]at hRl;by_cases hz:C=0
 · subst hz;obtain⟨h0,hlt⟩:=hask rfl;obtain⟨h02,hlt2⟩:=hask2 rfl;have cc:=closure_con E (natL q) (by omega) hok (by simp only[natL,List.length_map];omega) hlt;have cc2:=closure_con D (natL q2) (by omega) hok1 (by simp only[natL,List.length_map];omega) hlt2;have hN:=(cloF_spec hok hlt).1;have cs:=sorted_con E.length _ (by omega) hN;rw[hR]at cs;rw[encIs_nat h0,encIs_nat h02]at ca⊢;simp only[if_true]at ca⊢;clear hask hask2 hR h0 hlt hN hok hok1 h02 hlt2;obtain⟨W,hW⟩:∃x,cloF D (natL q2)=x:=⟨_,rfl⟩;rw[hW]at cc2⊢;obtain⟨res,hres⟩:∃x,R.filter (fun d=>decide (d∈W))=x:=⟨_,rfl⟩;rw[hres];clear hW;obtain⟨vars,hats,body⟩:=f;simp only[aF,Fl.enc,List.map_cons,List.map_nil]at ca⊢;refine con_of_HTA Tryz.func14 ?_;simp only[Tryz.f14];refine HT_sA ?_;refine HT_seq<|(HT_runF 4 [] [⟨false,.tup [.one (.c T),li 0],none⟩] (by simp[*];rfl) trivial (le_frz 19 rfl) (by simp[*];first|exact⟨rfl,Iff.rfl⟩|exact⟨rfl,trivial⟩|rfl) ?_ ?_)
   · first|exact ca _|simpa using ca _
   refine HT_seq<|HT_seq<|HT_runA ?_;refine(HT_cs rfl (fun h3=>?_) fun h3=>?_)
   · exact absurd h3 (by simp)
   (try simp only[BN]at h3);refine HT_scA [⟨false,.v (.one (.c (.sl 1 (encDD D)))),none⟩] ?_ ?_
   · first|exact cd _|exact trivial|simpa[*]using cd _
   refine HT_scA [⟨false,.v (.one (.c (.mp (mpI W)))),none⟩] ?_ ?_
   · first|exact cc2 _|exact trivial|simpa[*]using cc2 _
   refine HT_sA ?_;refine HT_seq<|HT_seq<|(HT_runcA [⟨false,.v (.one (.c (.sl 1 (encDD E)))),none⟩,⟨false,.v (.one (.c (.mp (mpI (cloF E (natL q)))))),none⟩,⟨false,.v (.one (.c (.sl 1 (encD R)))),none⟩] ?_ ?_)
   · first|exact⟨cv _,cc _,cs _⟩|exact trivial|(repeat' first|exact trivial|exact cv _|exact cc _|exact cs _|apply And.intro)
   refine HT_block<|(HT_loopU [11,35,36] (fun(u:Nat×List Nat)=>[(12,.v (.one (.own 1012))),(37,.v (li u.1))]) (fun u=>[(1012,.row 3 1 (encD u.2))]) (fun u=>u.1≤R.length∧u.2++(R.drop u.1).filter (fun d=>decide (d∈W))=res∧u.2.length≤u.1) (fun u=>R.length - u.1) (0,[]) ⟨Nat.zero_le _,by simpa using hres,Nat.le_refl _⟩ ?_ ?_)
   · exact le_mkA (fun n=>n) [1012]
   rintro⟨k,out⟩ ⟨hk,hJ,hol⟩;simp only[upS,keepS,insS]
   try simp only[keepS,KN,Nat.reduceBEq,if_true,if_false,ins,Nat.reduceLT]
   simp only at hk hJ hol;clear hres ca cd cv cc cc2 cs;refine HT_sA ?_;refine HT_seq<|(HT_cond rfl (fun h12=>HT_skip ?_) (fun h12=>?_))
   · (try simp only[BN]at h12);have hlt:k<R.length:=by simpa using h12
     obtain⟨x,he,hd⟩:=at_lt hlt;have hw1:=wrap1 hlt (by omega);have hk1:k+1≤R.length:=hlt;have hxe:(encD R)[k]? =some [iC x]:=by simp[encD,he]
     have hf:=find_mpI x W;have hroom:room (out.length+1) 8:=room_of (by omega) (by decide);rw[hd]at hJ;clear hlt h12 he hd;refine HT_seq<|HT_block<|HT_seq<|HT_runA ?_;rcases Classical.em (x∈W)with hx|hx
     · rw[if_pos hx]at hf;rw[List.filter_cons,if_pos (by simpa using hx)]at hJ;refine HT_sA ?_;refine(HT_cs rfl (fun h15=>?_) fun h15=>?_)
       · (try simp only[BN]at h15);refine HT_runA ?_;refine HT_runA ?_;exact⟨(k+1,out++[x]),⟨hk1,by simpa using hJ,by simp;omega⟩,by simp only;omega,le_mkA (fun n=>if n=1012 then 47 else n) []⟩
       cases h15
     rw[if_neg hx]at hf;rw[List.filter_cons,if_neg (by simpa using hx)]at hJ;refine HT_sA ?_;refine(HT_cs rfl (fun h15=>?_) fun h15=>?_)
     · cases h15
     (try simp only[BN]at h15);refine HT_runA ?_;exact⟨(k+1,out),⟨hk1,hJ,by simp only;omega⟩,by simp only;omega,le_mkA (fun n=>n) []⟩
   try simp only[BN]at h12
   have hkl:k=R.length:=by
    have:¬k<R.length:=by simpa using h12
    omega
   subst hkl;simp only[List.drop_length,List.filter_nil,List.append_nil]at hJ;subst hJ;clear h12;refine(HT_exit ?_);refine HT_le (le_frz 1012 rfl) ?_;refine HT_sA ?_;exact HT_rA
 simp only[if_neg hz]at ca⊢;clear hask hask2 hok hok1 hR hRl cd cv;obtain⟨vars,hats,body⟩:=f;simp only[aF,Fl.enc,List.map_cons,List.map_nil]at ca⊢;refine con_of_HTA Tryz.func14 ?_;simp only[Tryz.f14];refine HT_sA ?_;refine HT_seq<|(HT_runF 4 [] [⟨false,.tup [.one (.c (.lit (.pointer none))),li C],none⟩] (by simp[*];rfl) trivial (le_frz 19 rfl) (by simp[*];first|exact⟨rfl,Iff.rfl⟩|exact⟨rfl,trivial⟩|rfl) ?_ ?_)
 · first|exact ca _|simpa using ca _
 refine HT_seq<|HT_seq<|HT_runA ?_;refine(HT_cs rfl (fun h3=>?_) fun h3=>?_)
 · (try simp only[BN]at h3);refine HT_sA ?_;exact HT_rA
 exact absurd h3 (by simp[hz])
end Go.Proofs.YtppjennamodfdaaGreat

namespace Go.Proofs.YtppjennamodfdaaGreat
open Go Go.Hl
theorem eqG2 (a b:List Int) (h:a.length=b.length) (hall:∀k:Nat,k<a.length→a[k]? =b[k]?):a=b:=by
 apply List.ext_getElem?;intro k;by_cases hk:k<a.length
 · exact hall k hk
 rw[List.getElem?_eq_none (by omega),List.getElem?_eq_none (by omega)]
theorem eqSl_con (a b:List Int) (ha:a.length≤1000000000) (hb:b.length≤1000000000) (d:Nat):Con Tryz.prog 19 true [lI a,lI b] (.v (lb (decide (a=b)))) none d:=by
 obtain⟨res,hres⟩:∃r,decide (a=b)=r:=⟨_,rfl⟩;rw[hres];refine con_of_HTA Tryz.func19 ?_;simp only[Tryz.f19];refine HT_sA ?_;refine HT_seq<|HT_seq<|HT_runA ?_;refine(HT_cs rfl (fun h2=>?_) fun h2=>?_)
 · try simp only[BN]at h2
   have hz:res=false:=by
    rw[←hres,decide_eq_false_iff_not];intro h;subst h;simp at h2
   subst hz;refine HT_sA ?_;exact HT_rA
 (try simp only[BN]at h2);have hle:a.length=b.length:=by omega
 clear h2;refine HT_seq<|HT_seq<|HT_runA ?_;refine HT_block<|(HT_loopU [0,1,12] (fun(z:Nat)=>[(13,.v (li z))]) (fun z=>[]) (fun z=>z≤a.length∧∀k:Nat,k<z→a[k]? =b[k]?) (fun z=>a.length - z) (0:Nat) ⟨Nat.zero_le _,fun k hk=>absurd hk (Nat.not_lt_zero k)⟩ ?_ ?_)
 · exact le_mkA (fun n=>n) []
 rintro k ⟨hk,hall⟩;simp only[upS,keepS,insS]
 try simp only[keepS,KN,Nat.reduceBEq,if_true,if_false,ins,Nat.reduceLT]
 refine HT_sA ?_;refine HT_seq<|(HT_cond rfl (fun h8=>HT_skip ?_) (fun h8=>?_))
 · (try simp only[BN]at h8);have hlt:k<a.length:=by omega
   obtain⟨x,he,_⟩:=at_lt hlt;obtain⟨y,hey,_⟩:=at_lt (show k<b.length by omega);have hw1:=wrap1 hlt (by omega);have hk1:k+1≤a.length:=hlt;clear hlt h8;refine HT_seq<|HT_block<|HT_seq<|HT_runA ?_;refine HT_seq<|(HT_drun (by kernel_rfl) (by kernel_rfl) (by rfl) (by simp[*];rfl) ?_);refine(HT_cs rfl (fun h11=>?_) fun h11=>?_)
   · try simp only[BN]at h11
     have hz:res=false:=by
      rw[←hres,decide_eq_false_iff_not];intro h;subst h;rw[he]at hey;cases hey;simp at h11
     subst hz;refine HT_sA ?_;exact HT_rA
   (try simp only[BN]at h11);refine HT_runA ?_
   exact⟨k+1,⟨hk1,fun j hj=>by
    rcases Nat.lt_or_eq_of_le (Nat.le_of_lt_succ hj)with h|h
    · exact hall j h
    rw[h,he,hey];have:x=y:=by simpa using h11
    rw[this]⟩,by omega,le_mkA (fun n=>n) []⟩
 try simp only[BN]at h8
 have hz:res=true:=by
  rw[←hres,decide_eq_true_eq];exact eqG2 a b hle fun j hj=>hall j (by omega)
 subst hz;refine(HT_exit ?_);refine HT_sA ?_;exact HT_rA
end Go.Proofs.YtppjennamodfdaaGreat

namespace Go.Proofs.YtppjennamodfdaaGreat
open Go Go.Hl
def idxF:List Int→Int→Nat→Int
 |[],_,_=>-1
 |y::l,x,k=>if x=y then k else idxF l x (k+1)
theorem idxF_mem:∀(l:List Int) (x:Int) (k:Nat),x∈l→0≤idxF l x k
 |[],_,_,h=>by cases h
 | y::l,x,k,h=>by
   simp only[idxF];split
   · omega
   rename_i hne;rcases List.mem_cons.1 h with h|h
   · exact absurd h hne
   exact idxF_mem l x _ h
theorem index_con (l:List Int) (x:Int) (hl:l.length≤1000000000) (d:Nat):Con Tryz.prog 52 true [lI l,li x] (.v (li (idxF l x 0))) none d:=by
 obtain⟨res,hres⟩:∃r,idxF l x 0=r:=⟨_,rfl⟩;rw[hres];refine con_of_HTA Tryz.func52 ?_;simp only[Tryz.f52];refine HT_sA ?_;refine HT_seq<|HT_seq<|HT_runA ?_;refine HT_block<|(HT_loopU [0,1,7] (fun(z:Nat)=>[(8,.v (li z))]) (fun z=>[]) (fun z=>z≤l.length∧idxF (l.drop z) x z=res) (fun z=>l.length - z) (0:Nat) ⟨Nat.zero_le _,hres⟩ ?_ ?_)
 · exact le_mkA (fun n=>n) []
 rintro k ⟨hk,hJ⟩;simp only[upS,keepS,insS]
 try simp only[keepS,KN,Nat.reduceBEq,if_true,if_false,ins,Nat.reduceLT]
 clear hres;refine HT_sA ?_;refine HT_seq<|(HT_cond rfl (fun h4=>HT_skip ?_) (fun h4=>?_))
 · (try simp only[BN]at h4);have hlt:k<l.length:=by omega
   obtain⟨b,he,hd⟩:=at_lt hlt;have hw1:=wrap1 hlt (by omega);have hk1:k+1≤l.length:=hlt;rw[hd]at hJ;simp only[idxF]at hJ;clear hlt h4 hd;refine HT_seq<|HT_block<|HT_seq<|HT_runA ?_;refine HT_sA ?_;refine(HT_cs rfl (fun h7=>?_) fun h7=>?_)
   · (try simp only[BN]at h7);rw[if_pos (by simpa using h7)]at hJ;subst hJ;refine HT_sA ?_;exact HT_rA
   (try simp only[BN]at h7);rw[if_neg (by simpa using h7)]at hJ;refine HT_runA ?_;exact⟨k+1,⟨hk1,hJ⟩,by omega,le_mkA (fun n=>n) []⟩
 (try simp only[BN]at h4);have hkl:k=l.length:=by omega
 rw[hkl,List.drop_length]at hJ;simp only[idxF]at hJ;subst hJ;refine(HT_exit ?_);refine HT_sA ?_;exact HT_rA
theorem contains_con (l:List Int) (x:Int) (hl:l.length≤1000000000) (d:Nat):Con Tryz.prog 18 true [lI l,li x] (.v (lb (decide (0≤idxF l x 0)))) none d:=by
 have ci:=index_con l x hl;obtain⟨res,hres⟩:∃r,idxF l x 0=r:=⟨_,rfl⟩;rw[hres]at ci⊢;clear hres;refine con_of_HTA Tryz.func18 ?_;simp only[Tryz.f18];refine HT_sA ?_;refine HT_scA [⟨true,.v (li res),none⟩] ?_ ?_
 · first|exact ci _|exact trivial|simpa[*]using ci _
 exact HT_rA
end Go.Proofs.YtppjennamodfdaaGreat

namespace Go.Proofs.YtppjennamodfdaaGreat
open Go Go.Hl
theorem idxF_out:∀(l:List Int) (x:Int) (k:Nat),¬x∈l→idxF l x k=-1
 |[],_,_,_=>rfl
 | y::l,x,k,h=>by
   simp only[List.mem_cons,not_or]at h;simp only[idxF,h.1,if_false];exact idxF_out l x _ h.2
theorem idxF_iff (l:List Int) (x:Int):decide (0≤idxF l x 0)=decide (x∈l):=by
 by_cases h:x∈l
 · simp[h,idxF_mem l x 0 h]
 simp[h,idxF_out l x 0 h]
theorem has_con (l:List Int) (x:Int) (hl:l.length≤1000000000) (d:Nat):Con Tryz.prog 18 true [lI l,li x] (.v (lb (decide (x∈l)))) none d:=by
 have:=contains_con l x hl d
 rwa [idxF_iff]at this
noncomputable def clB (f:Fl) (q:List Int):Bool:=(cloF (dirT f) (natL q)).all fun d=>decide ((d:Int)∈q)
set_option maxHeartbeats 8000000 in
theorem closed_con (f:Fl) (h:Sm f) (q:List Int) (hq:q.length≤100000) (d:Nat):Con Tryz.prog 21 false [aF f,.one (.c (.sl 1 (encIs q)))] (.tup [lb (decide (askC f [q]=0)&&clB f q),li (askC f [q])]) none d:=by
 have ca:=asked_con f h [q] (by simp) (fun q' hq'=>by rw[List.mem_singleton.1 hq'];omega);have cd:=direct_con f _ _ _ (tab_ok h);have hd0:dirF (flL f.body) (arL f.body (-1) 0) (rdT f)=dirT f:=rfl;rw[hd0]at cd;have hok:=dir_ok h;have hDl:(dirT f).length≤1000:=by rw[dirT_len];exact(tab_ok h).hn
 obtain⟨C,hC⟩:∃x,askC f [q]=x:=⟨_,rfl⟩;have hask:=fun hz=>@ask_lt f [q] (hC.trans hz) q (by simp);unfold askT at ca;simp only[encQ,List.map_cons,List.map_nil]at ca;unfold clB;rw[hC]at ca⊢;obtain⟨T,hT⟩:∃x,tabC f=x:=⟨_,rfl⟩;have hT2:tabD f (flL f.body) (arL f.body (-1) 0) (rdT f)=T:=hT;rw[hT]at ca;rw[hT2]at cd;obtain⟨D,hD⟩:∃x,dirT f=x:=⟨_,rfl⟩;rw[hD]at cd hok hDl hask⊢;clear h hC hT hT2 hd0 hD;by_cases hz:C=0
 · subst hz;obtain⟨h0,hlt⟩:=hask rfl;have cc:=closure_con D (natL q) (by omega) hok (by simp only[natL,List.length_map];omega) hlt;have hN:=(cloF_spec hok hlt).1;have hWl:=hN.len;have hWn:=hN.nd;rw[←encIs_nat h0]at cc;have cn:=fun x=>has_con q x (by omega);simp only[if_true]at ca⊢;clear hask h0 hlt hN hok;obtain⟨W,hW⟩:∃x,cloF D (natL q)=x:=⟨_,rfl⟩;rw[hW]at cc hWl hWn⊢;have hbad:∀x∈W,¬(x:Int)∈q→(W.all fun d=>decide ((d:Int)∈q))=false:=fun x hx hn=>List.all_eq_false.2 ⟨x,hx,by simpa using hn⟩;have hgood:(∀x∈W,(x:Int)∈q)→(W.all fun d=>decide ((d:Int)∈q))=true:=fun h=>List.all_eq_true.2 fun x hx=>by simpa using h x hx
   obtain⟨Z,hZ⟩:∃x,(W.all fun d=>decide ((d:Int)∈q))=x:=⟨_,rfl⟩;simp only[hZ]at hbad hgood⊢;clear hW hZ;obtain⟨vars,hats,body⟩:=f;simp only[aF,Fl.enc,List.map_cons,List.map_nil]at ca⊢;refine con_of_HTA Tryz.func21 ?_;simp only[Tryz.f21];refine HT_sA ?_;refine HT_seq<|(HT_runF 3 [] [⟨false,.tup [.one (.c T),li 0],none⟩] (by simp[*];rfl) trivial (le_frz 12 rfl) (by simp[*];first|exact⟨rfl,Iff.rfl⟩|exact⟨rfl,trivial⟩|rfl) ?_ ?_)
   · first|exact ca _|simpa using ca _
   refine HT_seq<|HT_seq<|HT_runA ?_;refine(HT_cs rfl (fun h3=>?_) fun h3=>?_)
   · exact absurd h3 (by simp)
   (try simp only[BN]at h3);refine HT_seq<|HT_seq<|(HT_runcA [⟨false,.v (.one (.c (.sl 1 (encDD D)))),none⟩,⟨false,.v (.one (.c (.mp (mpI W)))),none⟩] ?_ ?_)
   · first|exact⟨cd _,cc _⟩|exact trivial|(repeat' first|exact trivial|exact cd _|exact cc _|apply And.intro)
   refine HT_block<|(HT_loopU [1,23] (fun(y:List Nat)=>[]) (fun y=>[(23,.it (mpI W) y)]) (fun y=>y.Nodup∧allLt y W.length∧∀j∈y,∀x,W[j]? =some x→(x:Int)∈q) (fun y=>W.length - y.length) [] ⟨List.nodup_nil,by simp[allLt],by simp⟩ ?_ ?_)
   · exact le_mkA (fun n=>n) []
   rintro seen ⟨j1,j2,j3⟩;simp only[upS,keepS,insS]
   try simp only[keepS,KN,Nat.reduceBEq,if_true,if_false,ins,Nat.reduceLT]
   refine HT_nextA (fun j k v hj hn=>?_) (fun hall=>?_)
   skip
   · (try simp only[BN]at h9);obtain⟨x,hd,rfl,rfl⟩:=get_mpI hj;have hjl:j<W.length:=(List.getElem?_eq_some_iff.1 hd).1
     have hnd2:(seen++[j]).Nodup:=by
      rw[List.nodup_append];exact⟨j1,by simp,fun a ha b hb=>by rw[List.mem_singleton.1 hb];exact fun e=>hn (e▸ha)⟩
     have hin:allLt (seen++[j]) W.length:=fun i hi=>by
      rcases List.mem_append.1 hi with h|h
      · exact j2 i h
      rw[List.mem_singleton.1 h];exact hjl
     have hle:=nodup_len hnd2 hin;simp only[List.length_append,List.length_singleton]at hle;have cnx:=cn x;have hbx:=hbad x (List.mem_of_getElem? hd)
     have hnx:(x:Int)∈q→∀i∈seen++[j],∀y,W[i]? =some y→(y:Int)∈q:=fun hx i hi y hy=>by
      rcases List.mem_append.1 hi with h|h
      · exact j3 i h y hy
      rw[List.mem_singleton.1 h,hd]at hy;cases hy;exact hx
     clear hjl hbad hgood j3 cn ca cd cc;obtain⟨z,hz⟩:∃z,decide ((x:Int)∈q)=z:=⟨_,rfl⟩;rw[hz]at cnx;refine HT_block<|HT_seq<|HT_runA ?_;refine HT_scA [⟨true,.v (lb z),none⟩] ?_ ?_
     · first|exact cnx _|exact trivial|simpa[*]using cnx _
     refine(HT_cs rfl (fun h12=>?_) fun h12=>?_)
     · (try simp only[BN]at h12);have hzf:z=false:=by simpa using h12
       have hr:=hbx (by rw[hzf]at hz;simpa using hz);subst hr;clear h12 hbx hnx hz;refine HT_sA ?_;exact HT_rA
     (try simp only[BN]at h12);have hzt:z=true:=by simpa using h12
     have hnx:=hnx (by rw[hzt]at hz;simpa using hz);clear h12 hbx hz;exact⟨seen++[j],⟨hnd2,hin,hnx⟩,by simp only[List.length_append,List.length_singleton];omega,le_mkA (fun n=>n) []⟩
   try simp only[BN]at h9
   have hr:=hgood fun x hx=>by
    obtain⟨i,hi⟩:=List.mem_iff_getElem?.1 hx;exact j3 i (hall i (by rw[len_mpI];exact(List.getElem?_eq_some_iff.1 hi).1)) x hi
   subst hr;refine(HT_exit ?_);refine HT_sA ?_;exact HT_rA
 simp only[if_neg hz,hz,decide_false,Bool.false_and]at ca⊢;clear hask hok cd;obtain⟨vars,hats,body⟩:=f;simp only[aF,Fl.enc,List.map_cons,List.map_nil]at ca⊢;refine con_of_HTA Tryz.func21 ?_;simp only[Tryz.f21];refine HT_sA ?_;refine HT_seq<|(HT_runF 3 [] [⟨false,.tup [.one (.c (.lit (.pointer none))),li C],none⟩] (by simp[*];rfl) trivial (le_frz 12 rfl) (by simp[*];first|exact⟨rfl,Iff.rfl⟩|exact⟨rfl,trivial⟩|rfl) ?_ ?_)
 · first|exact ca _|simpa using ca _
 refine HT_seq<|HT_seq<|HT_runA ?_;refine(HT_cs rfl (fun h3=>?_) fun h3=>?_)
 · (try simp only[BN]at h3);refine HT_sA ?_;exact HT_rA
 exact absurd h3 (by simp[hz])
end Go.Proofs.YtppjennamodfdaaGreat

namespace Go.Proofs.YtppjennamodfdaaGreat
open Go Go.Hl
theorem ssC_sh {vars:List Vr} {nh:Nat}:∀(l:List St) (top:Bool),ssC vars nh l top=0→∀q∈flL l,∃last,shB vars nh q.do_ q.var q.n q.term q.then_.length q.else_.length q.bounds last=true
 |[],_,_,q,hq=>by simp[flL]at hq
 | .mk d c v n t a b bs::l,top,h,q,hq=>by
   have hs:shB vars nh d v n t a.length b.length bs (top&&l.isEmpty)=true:=by
    simp only[ssC]at h;split at h
    · rename_i h0;unfold stC at h0;split at h0
      · cases h0
      rename_i hs;simpa using hs
    rename_i h0;exact absurd h h0
   have hr:ssC vars nh a false=0∧ssC vars nh b false=0∧ssC vars nh l top=0:=by
    simp only[ssC]at h;split at h
    · split at h
      · split at h
        · rename_i ha hb;exact⟨ha,hb,h⟩
        rename_i hb;exact absurd h hb
      rename_i ha;exact absurd h ha
    rename_i h0;exact absurd h h0
   simp only[flL,flS,List.cons_append,List.mem_cons,List.mem_append]at hq;rcases hq with rfl|(hq|hq)|hq
   · exact⟨_,hs⟩
   · exact ssC_sh a false hr.1 q hq
   · exact ssC_sh b false hr.2.1 q hq
   exact ssC_sh l top hr.2.2 q hq
theorem sh_hat {vars:List Vr} {nh:Nat} {q:St} {last:Bool} (h:shB vars nh q.do_ q.var q.n q.term q.then_.length q.else_.length q.bounds last=true) (h5:q.do_=5):0≤q.n∧q.n<nh:=by
 unfold shB at h;rw[h5]at h;simp only[show ¬(5:Int)=0 by decide,show ¬(5:Int)=1 by decide,show ¬(5:Int)=2 by decide,show ¬(5:Int)=3 by decide,show ¬(5:Int)=4 by decide,if_false,if_true,Bool.and_eq_true,decide_eq_true_eq]at h;exact⟨h.1.1.1.2,h.1.1.2⟩
def addKs:List Int→List Int→List Int
 |[],m=>m
 |v::l,m=>addKs l (addK m v)
theorem addK_mem (m:List Int) (v x:Int):x∈addK m v↔x∈m∨x=v:=by
 unfold addK;split
 · rename_i h;constructor
   · exact .inl
   rintro(h1|rfl)
   · exact h1
   exact h
 simp
theorem addK_nd {m:List Int} (h:m.Nodup) (v:Int):(addK m v).Nodup:=by
 unfold addK;split
 · exact h
 rename_i hm;rw[List.nodup_append];exact⟨h,by simp,fun a ha b hb=>by rw[List.mem_singleton.1 hb];rintro rfl;exact hm ha⟩
theorem addK_len (m:List Int) (v:Int):(addK m v).length≤m.length+1:=by
 unfold addK;split
 · omega
 simp
theorem addKs_mem (l:List Int):∀(m:List Int) (x:Int),x∈addKs l m↔x∈m∨x∈l:=by
 induction l with
 |nil=>intro m x;simp[addKs]
 |cons v l ih=>intro m x;rw[addKs,ih,addK_mem,List.mem_cons,or_assoc]
theorem addKs_nd (l:List Int):∀{m:List Int},m.Nodup→(addKs l m).Nodup:=by
 induction l with
 |nil=>intro m h;exact h
 |cons v l ih=>intro m h;exact ih (addK_nd h v)
theorem addKs_len (l:List Int):∀(m:List Int),(addKs l m).length≤m.length+l.length:=by
 induction l with
 |nil=>intro m;exact Nat.le_refl _
 |cons v l ih=>intro m;have:=ih (addK m v);have:=addK_len m v;simp only[addKs,List.length_cons];omega
mutual
def tmV:Tm→List Int
 | .mk o n ks=>(if o=24 then [n] else [])++tmVs ks
def tmVs:List Tm→List Int
 |[]=>[]
 |t::l=>tmV t++tmVs l
end
theorem addKs_app (a b m:List Int):addKs (a++b) m=addKs b (addKs a m):=by
 induction a generalizing m with
 |nil=>rfl
 |cons v a ih=>simp[addKs,ih]
mutual
theorem vrT_eq:∀(t:Tm) (m:List Int),vrT t m=addKs (tmV t) m
 | .mk o n ks,m=>by
   rw[vrT,tmV,addKs_app,vrTs_eq ks];split<;>rfl
theorem vrTs_eq:∀(l:List Tm) (m:List Int),vrTs l m=addKs (tmVs l) m
 |[],_=>rfl
 |t::l,m=>by rw[vrTs,tmVs,addKs_app,vrT_eq t,vrTs_eq l]
end
mutual
theorem tmV_len:∀t:Tm,(tmV t).length≤t.nodes
 | .mk o n ks=>by
   have:=tmVs_len ks;simp only[tmV,List.length_append,Tm.nodes];split
   · simp only[List.length_singleton];omega
   simp only[List.length_nil];omega
theorem tmVs_len:∀l:List Tm,(tmVs l).length≤nodesT l
 |[]=>by simp[tmVs]
 |t::l=>by have:=tmV_len t;have:=tmVs_len l;simp only[tmVs,List.length_append,nodesT];omega
end
def entL (n:Nat) (l:List Nat):List Int:=(l.filter fun d=>decide (n≤d)).map fun d:Nat=>(d:Int) - n
def hatV (hats:List Ht) (n:Nat):List Int:=match hats[n]? with
 |some h=>tmV h.term
 |none=>[]
def ndA (f:Fl) (steps:List St) (rd:List (List Nat)) (s:Nat):List Int:=match steps[s]?,rd[s]? with
 |some q,some l=>entL steps.length (srcF steps q l)++(if q.do_=5 then hatV f.hats q.n.toNat else [])
 |_,_=>[]
noncomputable def neA (f:Fl) (q:List Int):List Int:=addKs ((cloF (dirT f) (natL q)).flatMap (ndA f (flL f.body) (rdT f))) []
noncomputable def neL (f:Fl) (q:List Int):List Int:=(neA f q).mergeSort fun x y=>decide (x≤y)
theorem entL_nil (n:Nat):entL n []=[]:=rfl
theorem entL_cons (n d:Nat) (l:List Nat):entL n (d::l)=if n≤d then((d:Int) - n)::entL n l else entL n l:=by
 unfold entL;rw[List.filter_cons];by_cases h:n≤d
 · simp[h]
 simp[h]
theorem entL_len (n:Nat) (l:List Nat):(entL n l).length≤l.length:=by
 unfold entL;rw[List.length_map];exact List.length_filter_le _ _
theorem srcF_len (steps:List St) (q:St) (l:List Nat):(srcF steps q l).length≤l.length:=List.length_filter_le _ _
end Go.Proofs.YtppjennamodfdaaGreat

namespace Go.Proofs.YtppjennamodfdaaGreat
open Go Go.Hl
def needW (f:Fl) (S:List St) (Rd:List (List Nat)) (W seen:List Nat) (m:List Int):Prop:=∀v,v∈m↔∃j∈seen,∃s,W[j]? =some s∧v∈ndA f S Rd s
def msN:List (Nat×List Nat):=[(511,[0,1,2]),(510,[1,2]),(509,[0,2]),(507,[0,1,3]),(508,[2]),(506,[1,3]),(505,[0,3]),(499,[0,1,4]),(504,[3]),(498,[1,4]),(497,[0,4]),(483,[0,1,5]),(496,[4]),(482,[1,5]),(481,[0,5]),(451,[0,1,6]),(480,[5]),(450,[1,6]),(449,[0,6]),(387,[0,1]),(448,[6]),(386,[1]),(385,[0,7]),(384,[7]),(257,[0]),(256,[8])]
def nxN (regs:List (Nat×RV)) (o0 o1:List (Nat×Ob)) (outs:List (Nat×Nat×RV)) (R:List Nat):HS:=
 {trS ⟨⟨78,none⟩,regs,[]⟩ outs R with objs:=if R.contains 8 then o0 else o1}
set_option maxHeartbeats 16000000 in
theorem needs_con (f:Fl) (h:Sm f) (q:List Int) (hq:q.length≤100000) (d:Nat):Con Tryz.prog 20 false [aF f,.one (.c (.sl 1 (encIs q)))] (.tup [.one (.c (if askC f [q]=0 then .sl 1 (encIs (neL f q))else .lit nilS)),li (askC f [q])]) none d:=by
 have ca:=asked_con f h [q] (by simp) (fun q' hq'=>by rw[List.mem_singleton.1 hq'];omega);have cd:=direct_con f _ _ _ (tab_ok h);have hd0:dirF (flL f.body) (arL f.body (-1) 0) (rdT f)=dirT f:=rfl;rw[hd0]at cd;have hok:=dir_ok h;have hDl:(dirT f).length≤1000:=by rw[dirT_len];exact(tab_ok h).hn
 have hDS:=dirT_len f;obtain⟨C,hC⟩:∃x,askC f [q]=x:=⟨_,rfl⟩;have hask:=fun hz=>@ask_lt f [q] (hC.trans hz) q (by simp);have hz0:=fun hz=>(@ask_zero f [q] (hC.trans hz)).1;unfold askT at ca;simp only[encQ,List.map_cons,List.map_nil]at ca;rw[hC]at ca⊢;by_cases hz:C=0
 · subst hz;have hssC:=(code_split (hz0 rfl)).2.2.2.1;obtain⟨h0,hlt⟩:=hask rfl;have cc:=closure_con (dirT f) (natL q) (by omega) hok (by simp only[natL,List.length_map];omega) hlt;have hN:=(cloF_spec hok hlt).1;have hWl:=hN.len;have hWn:=hN.nd;have hWlt:=hN.lt;rw[←encIs_nat h0]at cc;obtain⟨res,hres⟩:∃x,encIs (neL f q)=x:=⟨_,rfl⟩;have hT:=tab_ok h
   have hfin:∀m:List Int,m.Nodup→needW f (flL f.body) (rdT f) (cloF (dirT f) (natL q)) (List.range (cloF (dirT f) (natL q)).length) m→encIs (m.mergeSort fun x y=>decide (x≤y))=res:=by
    intro m h1 h2;rw[←hres,neL];refine congrArg encIs (sort_same h1 (addKs_nd _ List.nodup_nil) fun v=>?_);rw[h2,neA,addKs_mem,List.mem_flatMap];constructor
    · rintro⟨j,_,s,h3,h4⟩;exact .inr ⟨s,List.mem_of_getElem? h3,h4⟩
    rintro(h3|⟨s,h3,h4⟩)
    · cases h3
    obtain⟨j,hj⟩:=List.mem_iff_getElem?.1 h3;exact⟨j,by simpa using(List.getElem?_eq_some_iff.1 hj).1,s,hj,h4⟩
   have hsh:=fun q hq=>ssC_sh f.body true hssC q hq;have hrow:=rdT_row f;have hnv:=h.vars;have hno:=h.nodes;have csr:=sources_con f (flL f.body) (arL f.body (-1) 0) (rdT f);have hTab:tabC f=tabD f (flL f.body) (arL f.body (-1) 0) (rdT f):=rfl;rw[hTab]at ca;rw[hres];obtain⟨W,hW⟩:∃x,cloF (dirT f) (natL q)=x:=⟨_,rfl⟩;obtain⟨D,hD⟩:∃x,dirT f=x:=⟨_,rfl⟩;rw[hW]at cc hWl hWn hWlt hfin;rw[hD]at cc cd hWl hWlt hDS hDl;obtain⟨S,hS⟩:∃x,flL f.body=x:=⟨_,rfl⟩;obtain⟨A,hA⟩:∃x,arL f.body (-1) 0=x:=⟨_,rfl⟩;obtain⟨Rd,hRd⟩:∃x,rdT f=x:=⟨_,rfl⟩;rw[hS,hA,hRd]at ca cd csr hT;rw[hS,hRd]at hfin hrow;rw[hS]at hsh hDS;simp only[if_true]at ca⊢;obtain⟨hTn,hTa,hTr,hTnod,hTrd⟩:=hT;obtain⟨vars,hats,body⟩:=f;simp only at hsh hrow hnv hno;simp only[aF,Fl.enc,List.map_cons,List.map_nil]at ca⊢;simp only[tabD]at ca cd csr;clear hask hz0 hC h hres hssC h0 hlt hN hok hd0 hTab hW hD hS hA hRd;refine con_of_HTA Tryz.func20 ?_;simp only[Tryz.f20];refine HT_sA ?_;refine HT_seq<|(HT_runF 3 [] [⟨false,.tup [.one (.c (tabD ⟨vars,hats,body⟩ S A Rd)),li 0],none⟩] (by simp[*];rfl) trivial (le_frz 16 rfl) (by simp[*];first|exact⟨rfl,Iff.rfl⟩|exact⟨rfl,trivial⟩|rfl) ?_ ?_)
   · first|exact ca _|simpa using ca _
   refine HT_seq<|HT_seq<|HT_runA ?_;refine(HT_cs rfl (fun h3=>?_) fun h3=>?_)
   · exact absurd h3 (by simp)
   (try simp only[BN]at h3);refine HT_sA ?_;refine HT_seq<|HT_seq<|(HT_runcA [⟨false,.v (.one (.c (.sl 1 (encDD D)))),none⟩,⟨false,.v (.one (.c (.mp (mpI W)))),none⟩] ?_ ?_)
   · first|exact⟨cd _,cc _⟩|exact trivial|(repeat' first|exact trivial|exact cd _|exact cc _|apply And.intro)
   refine HT_block<|(HT_loopU [2,6,8,28] (fun(y:List Nat×List Int)=>[]) (fun y=>[(2,.box [.c (.sl 5 (encVs vars)),.c (.sl 6 (encHs hats)),.c (.sl 10 (encSs body))]),(8,.box [.own 900001]),(28,.it (mpI W) y.1),(900001,.mp (mpZ y.2))]) (fun y=>y.1.Nodup∧allLt y.1 W.length∧y.2.Nodup∧needW ⟨vars,hats,body⟩ S Rd W y.1 y.2∧y.2.length≤6000*y.1.length) (fun y=>W.length - y.1.length) ([],[]) ⟨List.nodup_nil,by simp[allLt],List.nodup_nil,by simp[needW],Nat.le_refl _⟩ ?_ ?_)
   · exact le_mkA (fun n=>if n=900001 then 23 else n) []
   rintro⟨seen,m⟩ ⟨j1,j2,j3,j4,j5⟩;simp only[upS,keepS,insS]
   try simp only[keepS,KN,Nat.reduceBEq,if_true,if_false,ins,Nat.reduceLT]
   simp only at j1 j2 j3 j4 j5;clear ca cc cd;refine HT_nextA (fun j k v hj hn=>?_) (fun hall=>?_)
   skip
   · (try simp only[BN]at h10);obtain⟨s,hd,rfl,rfl⟩:=get_mpI hj;have hjl:j<W.length:=(List.getElem?_eq_some_iff.1 hd).1
     have hnd2:(seen++[j]).Nodup:=by
      rw[List.nodup_append];exact⟨j1,by simp,fun a ha b hb=>by rw[List.mem_singleton.1 hb];exact fun e=>hn (e▸ha)⟩
     have hin:allLt (seen++[j]) W.length:=fun i hi=>by
      rcases List.mem_append.1 hi with h|h
      · exact j2 i h
      rw[List.mem_singleton.1 h];exact hjl
     have hle:=nodup_len hnd2 hin;simp only[List.length_append,List.length_singleton]at hle;have hsn:s<S.length:=by have:=hWlt s (List.mem_of_getElem? hd);omega
     obtain⟨q0,hq0,_⟩:=at_lt hsn;obtain⟨l,hl0,_⟩:=at_lt (show s<Rd.length by omega);have hmq:=List.mem_of_getElem? hq0;have hml:=List.mem_of_getElem? hl0;have hll:=hTrd l hml;have cs:=csr s q0 l hq0 hl0 (hTnod q0 hmq) hll.1 hll.2 (by omega);have hXl:=Nat.le_trans (srcF_len S q0 l) hll.1;have hXb:∀x∈srcF S q0 l,x<2000:=fun x hx=>by have:=(hrow l hml).2.1 x (List.mem_filter.1 hx).1;omega
     have hnx:∀m2,m2.Nodup→(∀v,v∈m2↔v∈m∨v∈ndA ⟨vars,hats,body⟩ S Rd s)→needW ⟨vars,hats,body⟩ S Rd W (seen++[j]) m2:=by
      intro m2 _ h2 v;rw[h2,j4];constructor
      · rintro(⟨i,h3,s',h4,h5⟩|h3)
        · exact⟨i,List.mem_append_left _ h3,s',h4,h5⟩
        exact⟨j,by simp,s,hd,h3⟩
      rintro⟨i,h3,s',h4,h5⟩;rcases List.mem_append.1 h3 with h3|h3
      · exact .inl ⟨i,h3,s',h4,h5⟩
      rw[List.mem_singleton.1 h3,hd]at h4;cases h4;exact .inr h5
     have hnda:ndA ⟨vars,hats,body⟩ S Rd s=entL S.length (srcF S q0 l)++(if q0.do_=5 then hatV hats q0.n.toNat else []):=by simp only[ndA,hq0,hl0]
     obtain⟨E,hE⟩:∃x,(if q0.do_=5 then hatV hats q0.n.toNat else [])=x:=⟨_,rfl⟩;rw[hnda,hE]at hnx;have hE5:q0.do_=5→E=hatV hats q0.n.toNat:=fun h=>by rw[←hE,if_pos h]
     have hE0:¬q0.do_=5→E=[]:=fun h=>by rw[←hE,if_neg h]
     have hhat:q0.do_=5→∃(i:Nat) (h:Ht),q0.n=i∧hats[i]? =some h:=by
      intro h5;obtain⟨last,hs⟩:=hsh q0 hmq;have h6:=sh_hat hs h5;obtain⟨h,hh,_⟩:=at_lt (show q0.n.toNat<hats.length by omega);exact⟨q0.n.toNat,h,by omega,hh⟩
     obtain⟨X,hX⟩:∃x,srcF S q0 l=x:=⟨_,rfl⟩;rw[hX]at cs hXl hXb hnx;have he':=get_encS hq0;clear hjl hsn hq0 hl0 hmq hml hll hX hE hnda csr j4 hWlt hsh hrow hTrd hTnod hn hd;refine HT_block<|HT_seq<|HT_runA ?_;refine HT_seq<|HT_seq<|(HT_runcA [⟨false,.v (.one (.c (.sl 1 (encD X)))),none⟩] ?_ ?_)
     · first|exact cs _|exact trivial|simpa[*]using cs _
     refine HT_block<|(HT_loopU [2,6,8,9,28,35,36] (fun(u:Nat×List Int)=>[(37,.v (li u.1))]) (fun u=>[(2,.box [.c (.sl 5 (encVs vars)),.c (.sl 6 (encHs hats)),.c (.sl 10 (encSs body))]),(8,.box [.own 900001]),(28,.it (mpI W) (seen++[j])),(900001,.mp (mpZ u.2))]) (fun u=>u.1≤X.length∧addKs (entL S.length (X.drop u.1)) u.2=addKs (entL S.length X) m) (fun u=>X.length - u.1) (0,m) ⟨Nat.zero_le _,by simp⟩ ?_ ?_)
     · exact le_mkA (fun n=>n) []
     rintro⟨k,m1⟩ ⟨hk,hJ⟩;simp only[upS,keepS,insS]
     try simp only[keepS,KN,Nat.reduceBEq,if_true,if_false,ins,Nat.reduceLT]
     simp only at hk hJ;clear cs;refine HT_sA ?_;refine HT_seq<|(HT_cond rfl (fun h15=>HT_skip ?_) (fun h15=>?_))
     · (try simp only[BN]at h15);have hlt:k<X.length:=by simpa using h15
       obtain⟨x,he,hd⟩:=at_lt hlt;have hw1:=wrap1 hlt (by omega);have hk1:k+1≤X.length:=hlt;have hxe:(encD X)[k]? =some [iC x]:=by simp[encD,he]
       have hxb:=hXb x (List.mem_of_getElem? he);rw[hd,entL_cons]at hJ;clear hlt h15 he hd hXb;refine HT_seq<|HT_block<|HT_seq<|HT_runA ?_;refine HT_sA ?_;refine(HT_cs rfl (fun h18=>?_) fun h18=>?_)
       · (try simp only[BN]at h18);have hge:S.length≤x:=by simpa using h18
         rw[if_pos hge]at hJ;simp only[addKs]at hJ;obtain⟨v,hv⟩:∃v,(x:Int) - S.length=v:=⟨_,rfl⟩;have hw:IntKind.i64.wrap ((x:Int) - S.length)=v:=by rw[←hv];exact wrap_in (by omega) (by omega)
         rw[hv]at hJ;have hf:=find_mpZ v m1;unfold addK at hJ;clear h18 hge hxb;rcases Classical.em (v∈m1)with hin|hin
         · rw[if_pos hin]at hf hJ;have hs:=set_mpZ v m1 hin;refine HT_le (s':=⟨⟨78,none⟩,[(2,.v (.one (.at_ 2 0))),(6,.v (.one (.c (tabD ⟨vars,hats,body⟩ S A Rd)))),(8,.v (.one (.at_ 8 0))),(9,.v (li s)),(11,.v (li x)),(28,.v (.one (.at_ 28 0))),(35,.v (.one (.c (.sl 1 (encD X))))),(36,.v (li X.length)),(37,.v (li k))],[(2,.box [.c (.sl 5 (encVs vars)),.c (.sl 6 (encHs hats)),.c (.sl 10 (encSs body))]),(8,.box [.own 900001]),(28,.it (mpI W) (seen++[j])),(900001,.mp (mpZ m1))]⟩) (le_mk (fun n=>n) [] rfl (by simp) (by simp) (by simp)) ?_;refine(HT_bruteM (nxN [(2,.v (.one (.at_ 2 0))),(6,.v (.one (.c (tabD ⟨vars,hats,body⟩ S A Rd)))),(8,.v (.one (.at_ 8 0))),(9,.v (li s)),(11,.v (li x)),(28,.v (.one (.at_ 28 0))),(35,.v (.one (.c (.sl 1 (encD X))))),(36,.v (li X.length)),(37,.v (li k))] [(2,.box [.c (.sl 5 (encVs vars)),.c (.sl 6 (encHs hats)),.c (.sl 10 (encSs body))]),(8,.box [.own 900001]),(28,.it (mpI W) (seen++[j])),(900001,.mp (mpZ m1))] [(2,.box [.c (.sl 5 (encVs vars)),.c (.sl 6 (encHs hats)),.c (.sl 10 (encSs body))]),(8,.box [.own 900001]),(28,.it (mpI W) (seen++[j])),(900001,.mp (mpZ m1))] [(0,48,.v (.one (.own 900001))),(1,49,.v (li x)),(2,50,.v (.one (.c (tabD ⟨vars,hats,body⟩ S A Rd)))),(3,51,.v (.one (.c (tabD ⟨vars,hats,body⟩ S A Rd)))),(4,52,.v (.one (.c (.ptr [.sl 10 (encSs S),.sl 1 (encIs A),.sl 1 (encDD Rd)])))),(5,53,.v (.one (.c (.sl 10 (encSs S))))),(6,54,.v (li S.length)),(7,55,.v (li v))]) 9 511 msN rfl (by kernel_rfl) (by kernel_rfl) (by kernel_rfl) (by kernel_rfl) (by simp[nxN,trS]) ?_ ?_)
           · simp only[msN,allM]
             repeat' apply And.intro
             all_goals(refine StepW.evE rfl ?_;simp[nxN,trS,ins,lkp,del,hw,hf,hs];done)
           refine HT_le (s':=⟨⟨78,none⟩,[(2,.v (.one (.at_ 2 0))),(6,.v (.one (.c (tabD ⟨vars,hats,body⟩ S A Rd)))),(8,.v (.one (.at_ 8 0))),(9,.v (li s)),(11,.v (li x)),(28,.v (.one (.at_ 28 0))),(35,.v (.one (.c (.sl 1 (encD X))))),(36,.v (li X.length)),(37,.v (li k))],[(2,.box [.c (.sl 5 (encVs vars)),.c (.sl 6 (encHs hats)),.c (.sl 10 (encSs body))]),(8,.box [.own 900001]),(28,.it (mpI W) (seen++[j])),(900001,.mp (mpZ m1))]⟩) (le_mk (fun n=>n) [] rfl (by simp[nxN,trS]) (by simp[nxN,trS]) (by simp)) ?_;refine HT_runA ?_;exact⟨(k+1,m1),⟨hk1,hJ⟩,by simp only;omega,le_mkA (fun n=>n) []⟩
         rw[if_neg hin]at hf hJ;have hs:=mpZ_snoc m1 v;refine HT_le (s':=⟨⟨78,none⟩,[(2,.v (.one (.at_ 2 0))),(6,.v (.one (.c (tabD ⟨vars,hats,body⟩ S A Rd)))),(8,.v (.one (.at_ 8 0))),(9,.v (li s)),(11,.v (li x)),(28,.v (.one (.at_ 28 0))),(35,.v (.one (.c (.sl 1 (encD X))))),(36,.v (li X.length)),(37,.v (li k))],[(2,.box [.c (.sl 5 (encVs vars)),.c (.sl 6 (encHs hats)),.c (.sl 10 (encSs body))]),(8,.box [.own 900001]),(28,.it (mpI W) (seen++[j])),(900001,.mp (mpZ m1))]⟩) (le_mk (fun n=>n) [] rfl (by simp) (by simp) (by simp)) ?_;refine(HT_bruteM (nxN [(2,.v (.one (.at_ 2 0))),(6,.v (.one (.c (tabD ⟨vars,hats,body⟩ S A Rd)))),(8,.v (.one (.at_ 8 0))),(9,.v (li s)),(11,.v (li x)),(28,.v (.one (.at_ 28 0))),(35,.v (.one (.c (.sl 1 (encD X))))),(36,.v (li X.length)),(37,.v (li k))] [(2,.box [.c (.sl 5 (encVs vars)),.c (.sl 6 (encHs hats)),.c (.sl 10 (encSs body))]),(8,.box [.own 900001]),(28,.it (mpI W) (seen++[j])),(900001,.mp (mpZ m1))] [(2,.box [.c (.sl 5 (encVs vars)),.c (.sl 6 (encHs hats)),.c (.sl 10 (encSs body))]),(8,.box [.own 900001]),(28,.it (mpI W) (seen++[j])),(900001,.mp (mpZ (m1++[v])))] [(0,48,.v (.one (.own 900001))),(1,49,.v (li x)),(2,50,.v (.one (.c (tabD ⟨vars,hats,body⟩ S A Rd)))),(3,51,.v (.one (.c (tabD ⟨vars,hats,body⟩ S A Rd)))),(4,52,.v (.one (.c (.ptr [.sl 10 (encSs S),.sl 1 (encIs A),.sl 1 (encDD Rd)])))),(5,53,.v (.one (.c (.sl 10 (encSs S))))),(6,54,.v (li S.length)),(7,55,.v (li v))]) 9 511 msN rfl (by kernel_rfl) (by kernel_rfl) (by kernel_rfl) (by kernel_rfl) (by simp[nxN,trS]) ?_ ?_)
         · simp only[msN,allM]
           repeat' apply And.intro
           all_goals(refine StepW.evE rfl ?_;simp[nxN,trS,ins,lkp,del,hw,hf,hs];done)
         refine HT_le (s':=⟨⟨78,none⟩,[(2,.v (.one (.at_ 2 0))),(6,.v (.one (.c (tabD ⟨vars,hats,body⟩ S A Rd)))),(8,.v (.one (.at_ 8 0))),(9,.v (li s)),(11,.v (li x)),(28,.v (.one (.at_ 28 0))),(35,.v (.one (.c (.sl 1 (encD X))))),(36,.v (li X.length)),(37,.v (li k))],[(2,.box [.c (.sl 5 (encVs vars)),.c (.sl 6 (encHs hats)),.c (.sl 10 (encSs body))]),(8,.box [.own 900001]),(28,.it (mpI W) (seen++[j])),(900001,.mp (mpZ (m1++[v])))]⟩) (le_mk (fun n=>n) [] rfl (by simp[nxN,trS]) (by simp[nxN,trS]) (by simp)) ?_;refine HT_runA ?_;exact⟨(k+1,m1++[v]),⟨hk1,hJ⟩,by simp only;omega,le_mkA (fun n=>n) []⟩
       (try simp only[BN]at h18);have hge:¬S.length≤x:=by simpa using h18
       rw[if_neg hge]at hJ;clear h18 hge hxb;refine HT_runA ?_;exact⟨(k+1,m1),⟨hk1,hJ⟩,by simp only;omega,le_mkA (fun n=>n) []⟩
     try simp only[BN]at h15
     have hkl:k=X.length:=by
      have:¬k<X.length:=by simpa using h15
      omega
     subst hkl;simp only[List.drop_length,entL_nil,addKs]at hJ;clear h15;have hm1n:m1.Nodup:=by rw[hJ];exact addKs_nd _ j3
     have hm1m:∀v,v∈m1↔v∈m∨v∈entL S.length X:=fun v=>by rw[hJ];exact addKs_mem _ _ _
     have hm1l:m1.length≤m.length+5000:=by
      rw[hJ];have:=addKs_len (entL S.length X) m;have:=entL_len S.length X;omega
     clear hJ hXb;obtain⟨so,sc,sv,sn,⟨to,tn,tk⟩,sa,sb,sbs⟩:=q0;simp only[St.enc,Tm.enc,List.cons_append,List.nil_append]at he';simp only[St.do_,St.n]at hE5 hE0 hhat;refine(HT_exit ?_);refine HT_sA ?_;refine HT_sA ?_;refine(HT_cs rfl (fun h26=>?_) fun h26=>?_)
     · (try simp only[BN]at h26);have h5:so=5:=by simpa using h26
       obtain⟨i,hh,hsn,hhi⟩:=hhat h5;subst hsn;rw[hE5 h5,hatV,Int.toNat_natCast,hhi]at hnx;simp only at hnx;have hv:vrT hh.term m1=addKs (tmV hh.term) m1:=vrT_eq hh.term m1;have hvn:(vrT hh.term m1).Nodup:=by rw[hv];exact addKs_nd _ hm1n
       have hN:=hnx (vrT hh.term m1) hvn (fun v=>by rw[hv,addKs_mem,hm1m,List.mem_append,or_assoc]);have hnh:=nodesH_mem (List.mem_of_getElem? hhi)
       have hvl:(vrT hh.term m1).length≤m1.length+1000:=by
        rw[hv];have:=addKs_len (tmV hh.term) m1;have:=tmV_len hh.term;omega
       have cvv:=variables_con put2_con hh.term (by omega) m1;obtain⟨M2,hM2⟩:∃x,vrT hh.term m1=x:=⟨_,rfl⟩;rw[hM2]at hvn hN hvl cvv;obtain⟨hnm,hlo,hhg,⟨uo,un,uk⟩⟩:=hh;have hhe:(encHs hats)[i]? =some [sC hnm,iC hlo,iC hhg,iC uo,iC un,.sl 3 (encTs uk)]:=by simp[hhi,Ht.enc,Tm.enc]
       simp only[aT,Tm.enc,List.map_cons,List.map_nil]at cvv;clear hv hM2 hnx hhat hE5 hE0 hhi h26 hnh;refine(HT_runsN ?_);refine RunsN.cutE 8 [] (by simp[hhe];rfl) trivial (le_refl _) ?_;refine RunsN.callA (fun n=>if n=1000000 then 8 else n) (fun n=>if n=1000000 then 8 else if n=900001 then 30 else n) cvv fun _ _=>?_;refine RunsN.doneE [] rfl trivial ?_;exact⟨(seen++[j],M2),⟨hnd2,hin,hvn,hN,by simp only[List.length_append,List.length_singleton];omega⟩,by simp only[List.length_append,List.length_singleton];omega,le_mk (fun n=>if n=900001 then 30 else n) [] rfl (by simp[upS,keepS,addS,dels,del,ins,CV.ren,Ob.ren]) (by simp[upS,addS,dels,del,ins,CV.ren,Ob.ren]) (by simp[upS])⟩
     (try simp only[BN]at h26);have h5:¬so=5:=by simpa using h26
     rw[hE0 h5]at hnx;have hN:=hnx m1 hm1n (fun v=>by rw[hm1m,List.append_nil]);clear hnx hhat hE5 hE0 h26;exact⟨(seen++[j],m1),⟨hnd2,hin,hm1n,hN,by simp only[List.length_append,List.length_singleton];omega⟩,by simp only[List.length_append,List.length_singleton];omega,le_mkA (fun n=>n) []⟩
   try simp only[BN]at h10
   have hneed:needW ⟨vars,hats,body⟩ S Rd W (List.range W.length) m:=by
    intro v;rw[j4];constructor
    · rintro⟨j,hj,h⟩;exact⟨j,by simpa using j2 j hj,h⟩
    rintro⟨j,hj,h⟩;exact⟨j,hall j (by rw[len_mpI];simpa using hj),h⟩
   have hsl:=nodup_len j1 j2;have cs:=sortedZ_con m (by omega) j3;rw[hfin m j3 hneed]at cs;clear hfin hneed hall j2 j4 csr hrow hsh;refine(HT_exit ?_);refine HT_le (le_frzP 900001 rfl) ?_;refine HT_scA [⟨false,.v (.one (.c (.sl 1 res))),none⟩] ?_ ?_
   · first|exact cs _|exact trivial|simpa[*]using cs _
   exact HT_rA
 simp only[if_neg hz]at ca⊢;clear hask hok cd hz0 hDS;obtain⟨vars,hats,body⟩:=f;simp only[aF,Fl.enc,List.map_cons,List.map_nil]at ca⊢;refine con_of_HTA Tryz.func20 ?_;simp only[Tryz.f20];refine HT_sA ?_;refine HT_seq<|(HT_runF 3 [] [⟨false,.tup [.one (.c (.lit (.pointer none))),li C],none⟩] (by simp[*];rfl) trivial (le_frz 16 rfl) (by simp[*];first|exact⟨rfl,Iff.rfl⟩|exact⟨rfl,trivial⟩|rfl) ?_ ?_)
 · first|exact ca _|simpa using ca _
 refine HT_seq<|HT_seq<|HT_runA ?_;refine(HT_cs rfl (fun h3=>?_) fun h3=>?_)
 · (try simp only[BN]at h3);refine HT_sA ?_;exact HT_rA
 exact absurd h3 (by simp[hz])
end Go.Proofs.YtppjennamodfdaaGreat

namespace Go.Proofs.YtppjennamodfdaaGreat
open Go Go.Hl
def msF:List (Nat×List Nat):=[(255,[0,2]),(254,[1,2]),(251,[0,3]),(252,[2]),(250,[1,3]),(243,[0,4]),(248,[3]),(242,[1,4]),(227,[0]),(240,[4]),(226,[1]),(224,[5]),(192,[6]),(128,[7])]
def nxT (regs:List (Nat×RV)) (o4 o5 o7 o8:List (Nat×Ob)) (outs:List (Nat×Nat×RV)) (R:List Nat):HS:=
 {trS ⟨⟨27,none⟩,regs,[]⟩ outs R with objs:=if R.contains 4 then o4 else if R.contains 5 then o5 else if R.contains 7 then o7 else o8}
theorem encTs_app:∀a b:List Tm,encTs (a++b)=encTs a++encTs b
 |[],_=>rfl
 |t::a,b=>by simp only[List.cons_append,encTs,encTs_app a b]
theorem encTs_len:∀a:List Tm,(encTs a).length=a.length
 |[]=>rfl
 |t::a=>by simp only[encTs,List.length_cons,encTs_len a]
theorem take_encT {ks:List Tm} {k:Nat} {t:Tm} (h:ks[k]? =some t):encTs (ks.take (k+1))=encTs (ks.take k)++[t.enc]:=by
 rw[List.take_add_one,h,encTs_app];rfl
set_option maxHeartbeats 8000000 in
theorem freshTerm_con (t:Tm):t.nodes≤1000000→∀d,Con Tryz.prog 106 false [aT t] (.v (aT t)) none d:=by
 revert t
 refine Tm.ind ?_;intro o n ks ih hn d;simp only[Tm.nodes]at hn;have hlen:=len_nodesT ks;simp only[aT,Tm.enc,List.map_cons,List.map_nil];refine con_of_HTA Tryz.func106 ?_;simp only[Tryz.f106];refine HT_sA ?_;refine HT_sA ?_;refine HT_seq<|HT_seq<|HT_runA ?_;refine HT_block<|(HT_loopU [2,3,12,13] (fun(y:Nat)=>[(14,.v (li y))]) (fun y=>[(2,.box [.c (iC 0),.c (iC 0),.c (.lit nilS)]),(3,.box [.c (iC o),.c (iC n),.own 1003]),(1003,.row 74 3 (encTs (ks.take y)))]) (fun y=>y≤ks.length) (fun y=>ks.length - y) (0:Nat) (Nat.zero_le _) ?_ ?_)
 · exact le_mkA (fun n=>n) [1003]
 rintro y hy;simp only[upS,keepS,insS]
 try simp only[keepS,KN,Nat.reduceBEq,if_true,if_false,ins,Nat.reduceLT]
 refine HT_sA ?_;refine HT_seq<|(HT_cond rfl (fun h5=>HT_skip ?_) (fun h5=>?_))
 · (try simp only[BN]at h5);have hlt:y<ks.length:=by simpa using h5
   obtain⟨t,he,hd⟩:=at_lt hlt;have hw1:=wrap1 hlt (by omega);have hk1:y+1≤ks.length:=hlt;have hmem:t∈ks:=List.mem_of_getElem? he;have hnm:=nodesT_mem' hmem;have ct:=ih t hmem (by omega);have he':=get_encT he;have htk:=take_encT he;have hroom:room (y+1) 40:=room_of (by omega) (by decide);have hml:min y ks.length=y:=by omega
   have hel:(encTs (ks.take y)).length=y:=by rw[encTs_len,List.length_take];exact hml
   obtain⟨so,stn,sks⟩:=t;simp only[Tm.enc]at he' htk;simp only[aT,Tm.enc,List.map_cons,List.map_nil]at ct;clear hlt h5 ih hmem hnm he hd;refine HT_seq<|HT_block<|HT_seq<|HT_runA ?_;refine HT_le (s':=⟨⟨27,none⟩,[(2,.v (.one (.at_ 2 0))),(3,.v (.one (.at_ 3 0))),(5,.v (.one (.at_ 5 0))),(12,.v (.one (.c (.sl 3 (encTs ks))))),(13,.v (li ks.length)),(14,.v (li y))],[(2,.box [.c (iC 0),.c (iC 0),.c (.lit nilS)]),(3,.box [.c (iC o),.c (iC n),.own 1003]),(5,.box [.c (iC so),.c (iC stn),.c (.sl 3 (encTs sks))]),(1003,.row 74 3 (encTs (ks.take y)))]⟩) (le_mk (fun n=>n) [] rfl (by simp) (by simp) (by simp)) ?_;refine(HT_bruteM (nxT [(2,.v (.one (.at_ 2 0))),(3,.v (.one (.at_ 3 0))),(5,.v (.one (.at_ 5 0))),(12,.v (.one (.c (.sl 3 (encTs ks))))),(13,.v (li ks.length)),(14,.v (li y))] [(2,.box [.c (iC 0),.c (iC 0),.c (.lit nilS)]),(3,.box [.c (iC o),.c (iC n),.own 1003]),(5,.box [.c (iC so),.c (iC stn),.c (.sl 3 (encTs sks))]),(1003,.row 74 3 (encTs (ks.take y)))] [(2,.box [.c (iC 0),.c (iC 0),.c (.lit nilS)]),(3,.box [.c (iC o),.c (iC n),.own 1003]),(5,.box [.c (iC so),.c (iC stn),.c (.sl 3 (encTs sks))]),(22,.row 74 3 [[iC so,iC stn,.sl 3 (encTs sks)]]),(1003,.row 74 3 (encTs (ks.take y)))] [(2,.box [.c (iC 0),.c (iC 0),.c (.lit nilS)]),(3,.box [.c (iC o),.c (iC n),.own 1003]),(5,.box [.c (iC so),.c (iC stn),.c (.sl 3 (encTs sks))]),(22,.row 74 3 [[iC so,iC stn,.sl 3 (encTs sks)]]),(23,.row 74 3 (encTs (ks.take (y+1))))] [(2,.box [.c (iC 0),.c (iC 0),.c (.lit nilS)]),(3,.box [.c (iC o),.c (iC n),.own 23]),(5,.box [.c (iC so),.c (iC stn),.c (.sl 3 (encTs sks))]),(22,.row 74 3 [[iC so,iC stn,.sl 3 (encTs sks)]]),(23,.row 74 3 (encTs (ks.take (y+1))))] [(0,18,.v (.one (.at_ 3 2))),(1,19,.v (.one (.own 1003))),(2,20,.v (.agg [.c (iC so),.c (iC stn),.c (.sl 3 (encTs sks))])),(3,21,.v (.agg [.c (iC so),.c (iC stn),.c (.sl 3 (encTs sks))])),(4,22,.v (.one (.own 22))),(5,23,.v (.one (.own 23))),(6,24,.v (.one (.at_ 3 2)))]) 8 255 msF rfl (by kernel_rfl) (by kernel_rfl) (by kernel_rfl) (by kernel_rfl) (by simp[nxT,trS]) ?_ ?_)
   · simp only[msF,allM]
     repeat' apply And.intro
     all_goals first
      |(refine StepW.evE rfl ?_;simp[nxT,trS,ins,lkp,del,allTyped,fillC,placeOf,cellsOf,dataOf,rowsOf,ownOf,baseOf,moreOf,matApp,hroom,htk,hel,hml];done)
      |(refine StepW.ev [⟨false,.v (.agg [.c (iC so),.c (iC stn),.c (.sl 3 (encTs sks))]),none⟩] rfl (by simp[nxT,trS,ins,lkp,del];first|exact⟨rfl,Iff.rfl⟩|exact⟨rfl,trivial⟩|rfl) ?_ (by simp[nxT,trS,ins]);first|exact ct _|simpa using ct _)
      |trivial
   refine HT_le (s':=⟨⟨27,none⟩,[(2,.v (.one (.at_ 2 0))),(3,.v (.one (.at_ 3 0))),(12,.v (.one (.c (.sl 3 (encTs ks))))),(13,.v (li ks.length)),(14,.v (li y))],[(2,.box [.c (iC 0),.c (iC 0),.c (.lit nilS)]),(3,.box [.c (iC o),.c (iC n),.own 1003]),(1003,.row 74 3 (encTs (ks.take (y+1))))]⟩) (le_mk (fun n=>if n=1003 then 23 else n) [] rfl (by simp[nxT,trS]) (by simp[nxT,trS]) (by simp)) ?_;refine HT_runA ?_;exact⟨y+1,hk1,by omega,le_mkA (fun n=>n) []⟩
 try simp only[BN]at h5
 have hyl:y=ks.length:=by
  have:¬y<ks.length:=by simpa using h5
  omega
 subst hyl;rw[List.take_length];clear h5;refine(HT_exit ?_);refine HT_le (le_frz 1003 rfl) ?_;refine HT_sA ?_;exact HT_rA
end Go.Proofs.YtppjennamodfdaaGreat
