/- Part 26: contracts of functions of the program and of the reference, and plain facts about what they compute; used by the proof of the claimed statement. Conditions: as each theorem states. -/
import Derived.Test.YtfjidddhehckoaaGreatK23
import Derived.Test.YtfjidddhehckoaaGreatK24
set_option linter.unusedSimpArgs false
set_option linter.unusedVariables false
set_option linter.unnecessarySimpa false
set_option maxRecDepth 100000
set_option maxHeartbeats 2000000
namespace Go.Proofs.YtfjidddhehckoaaGreat
open Go Go.Hl
theorem eqRow_con (a:List Int) (ha:a.length≤1000000) (d:Nat):Con Tryz.prog 31 true [lI a,lI a] (.v (lb true)) none d:=by
 have e1:=eqSl_con a a (by omega) (by omega);rw[decide_eq_true rfl]at e1;refine con_of_HTA Tryz.func31 ?_;simp only[Tryz.f31];refine HT_sA ?_;refine HT_scA [⟨true,.v (lb true),none⟩] ?_ ?_
 · first|exact e1 _|exact trivial|simpa[*]using e1 _
 exact HT_rA
theorem eqFn_con (l:List (List Int)) (hl:l.length≤1000000) (hs:∀a∈l,a.length≤1000000) (d:Nat):Con Tryz.prog 30 true [lLL l,lLL l,.one (.fn 31 [])] (.v (lb true)) none d:=by
 have hll:(encLL l).length=l.length:=by simp[encLL]
 refine con_of_HTA Tryz.func30 ?_;simp only[Tryz.f30];refine HT_sA ?_;refine HT_seq<|HT_seq<|HT_runA ?_;refine(HT_cs rfl (fun h2=>?_) fun h2=>?_)
 · exact absurd h2 (by simp)
 (try simp only[BN]at h2);refine HT_seq<|HT_seq<|HT_runA ?_;refine HT_block<|(HT_loopU [1,2,15,16] (fun(x:Nat)=>[(17,.v (li x))]) (fun x=>[]) (fun x=>x≤l.length) (fun x=>l.length - x) (0:Nat) (Nat.zero_le _) ?_ ?_)
 · exact le_mkA (fun n=>n) []
 rintro k hk;simp only[upS,keepS,insS]
 try simp only[keepS,KN,Nat.reduceBEq,if_true,if_false,ins,Nat.reduceLT]
 refine HT_sA ?_;refine HT_seq<|(HT_cond rfl (fun h8=>HT_skip ?_) (fun h8=>?_))
 · (try simp only[BN]at h8);have hlt:k<l.length:=by omega
   obtain⟨a,he,hd⟩:=at_lt hlt;have hw1:=wrap1 hlt (by omega);have hk1:k+1≤l.length:=hlt;have ce:=eqRow_con a (hs a (List.mem_of_getElem? he));have he':(encLL l)[k]? =some [.sl 1 (encIs a)]:=by simp[encLL,he]
   obtain⟨_,ea⟩:=List.getElem?_eq_some_iff.1 he;clear hs h8 hd;refine HT_seq<|HT_block<|HT_seq<|HT_runA ?_;refine HT_sA ?_;refine HT_scA [⟨true,.v (lb true),none⟩] ?_ ?_
   · first|exact ce _|exact trivial|simpa[*]using ce _
   refine(HT_cs rfl (fun h12=>?_) fun h12=>?_)
   · exact absurd h12 (by simp)
   (try simp only[BN]at h12);refine HT_runA ?_;exact⟨k+1,hk1,by omega,le_mkA (fun n=>n) []⟩
 (try simp only[BN]at h8);refine(HT_exit ?_);refine HT_sA ?_;exact HT_rA
theorem levels_law (f:Fl) (p:Po) (d:Nat):Con Tryz.prog 8 true [aF f,aPo p] (.v (lb true)) none d:=by
 have ck:=known_con;have cf:=fit_con f p;obtain⟨FP,hFP⟩:∃x,fitP f p=x:=⟨_,rfl⟩;have hsm:FP=true→Sm f p:=fun h=>fit_in (hFP.trans h);rw[hFP]at cf;have ca:=fun h=>asked_con f p (hsm h).sp (hsm h).sf;have cl:=fun(h:FP=true)=>levels_con (hsm h);have cn:=fun(h:FP=true)=>counters_con (hsm h);obtain⟨LA,LB,hL⟩:=lat_two p;have ct:=fun(h:FP=true) (h0:askC f p=0)=>typedR_con h0 (hsm h) hL;have hgd:askC f p=0→Gd0 f p:=ask_gd
 have hfl:FP=true→askC f p=0→(tyE f p).2.states.length≤80∧(tyE f p).2.counts.length≤80∧∀a∈(tyE f p).2.states,a.length≤1000000:=fun h h0=>by
  obtain⟨_,_,o3,o4,_⟩:=tyE_out (f:=f) (p:=p);obtain⟨_,_,_,r4,r5⟩:=tyR_lg (hgd h0);have h1:=lgE_len (hgd h0);have h2:=(hsm h).nn;have h3:=szL_le f.body;rw[o3,o4,r4,r5,List.length_map,List.length_map];refine⟨by omega,by omega,fun a ha=>?_⟩;obtain⟨x,hx,rfl⟩:=List.mem_map.1 ha;have:=(lgE_ok (hgd h0) x hx).2.2;have:=(hsm h).nv;omega
 unfold lvR at cl;unfold cnR at cn;obtain⟨A,hA⟩:∃x,askC f p=x:=⟨_,rfl⟩;obtain⟨⟨EV,⟨TM,FA,x3,x4,ST,CN⟩⟩,hT⟩:∃x,tyE f p=x:=⟨_,rfl⟩;simp only[hA,hT]at ca cl cn ct hfl;obtain⟨BOT,hBOT⟩:∃x,p.bot=x:=⟨_,rfl⟩;obtain⟨HL,hHL⟩:∃x,(phtF f p).1=x:=⟨_,rfl⟩;simp only[hBOT,hHL]at ct;clear hBOT hHL hT hA hFP hL hsm hgd;obtain⟨vars,hats,body⟩:=f;obtain⟨ls,os,is,hts,ob,tm⟩:=p;simp only at ct;refine con_of_HTA Tryz.func8 ?_;simp only[Tryz.f8];simp only[aF,Fl.enc,aPo,Po.enc,List.map_cons,List.map_nil]at cf ca cl cn ct⊢;refine HT_sA ?_;refine HT_seq<|HT_seq<|(HT_runcA [⟨true,.v (lb true),none⟩] ?_ ?_)
 · first|exact ck _|exact trivial|simpa[*]using ck _
 refine(HT_cs rfl (fun h2=>?_) fun h2=>?_)
 · exact absurd h2 (by simp)
 (try simp only[BN]at h2);rcases Bool.eq_false_or_eq_true FP with hfp|hfp
 · subst hfp;have ca:=ca rfl;have cl:=cl rfl;have cn:=cn rfl;have ct:=ct rfl;have hfl:=hfl rfl;refine HT_seq<|HT_seq<|(HT_runcA [⟨true,.v (lb true),none⟩] ?_ ?_)
   · first|exact cf _|exact trivial|simpa[*]using cf _
   refine(HT_cs rfl (fun h6=>?_) fun h6=>?_)
   · exact absurd h6 (by simp)
   (try simp only[BN]at h6);by_cases ha0:A=0
   · subst ha0;rw[if_pos rfl]at cl cn;have ct:=ct rfl;have hfl:=hfl rfl;refine HT_scA [⟨false,.tup [lLL ST,li 0],none⟩] ?_ ?_
     · first|exact cl _|exact trivial|simpa[*]using cl _
     refine HT_scA [⟨false,.tup [lI CN,li 0],none⟩] ?_ ?_
     · first|exact cn _|exact trivial|simpa[*]using cn _
     refine HT_seq<|HT_seq<|(HT_runcA [⟨true,.v (li 0),none⟩] ?_ ?_)
     · first|exact ca _|exact trivial|simpa[*]using ca _
     refine HT_sA ?_;refine(HT_cs rfl (fun h13=>?_) fun h13=>?_)
     · exact absurd h13 (by simp)
     (try simp only[BN]at h13);refine HT_scA [⟨false,.tup [ptR (.sl 5 (encVs vars)) (.sl 6 (encHs hats)) (.sl 10 (encSs body)) (.sl 1 LA) (.sl 1 LB) (iC BOT) (.sl 1 (encIs HL)) (iC ob) (.sl 1 (encLL ST)) (.sl 1 (encIs CN)) (.sl 1 (encIs FA)) (iC TM),lI EV],none⟩] ?_ ?_
     · first|exact ct _|exact trivial|simpa[*]using ct _
     have e1:=eqFn_con ST (by omega) hfl.2.2;have e2:=eqSl_con CN CN (by omega) (by omega);rw[decide_eq_true rfl]at e2;refine HT_scA [⟨true,.v (lb true),none⟩,⟨true,.v (lb true),none⟩] ?_ ?_
     · first|exact⟨e1 _,e2 _⟩|exact trivial|(repeat' first|exact trivial|exact e1 _|exact e2 _|apply And.intro)
     exact HT_rA
   rw[if_neg ha0]at cl cn;refine HT_scA [⟨false,.tup [lLL [],li A],none⟩] ?_ ?_
   · first|exact cl _|exact trivial|simpa[*]using cl _
   refine HT_scA [⟨false,.tup [lI [],li A],none⟩] ?_ ?_
   · first|exact cn _|exact trivial|simpa[*]using cn _
   refine HT_seq<|HT_seq<|(HT_runcA [⟨true,.v (li A),none⟩] ?_ ?_)
   · first|exact ca _|exact trivial|simpa[*]using ca _
   refine HT_sA ?_;refine(HT_cs rfl (fun h13=>?_) fun h13=>?_)
   · (try simp only[BN]at h13);refine HT_sA ?_;exact HT_rA
   exact absurd h13 (by simp[ha0])
 subst hfp;refine HT_seq<|HT_seq<|(HT_runcA [⟨true,.v (lb false),none⟩] ?_ ?_)
 · first|exact cf _|exact trivial|simpa[*]using cf _
 refine(HT_cs rfl (fun h6=>?_) fun h6=>?_)
 · (try simp only[BN]at h6);refine HT_sA ?_;exact HT_rA
 exact absurd h6 (by simp)
end Go.Proofs.YtfjidddhehckoaaGreat
