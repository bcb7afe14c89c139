/- Part 25: contracts of functions of the program and of the reference, and plain facts about what they compute; used by the proof of the claimed statement. Conditions: as each theorem states. -/
import Derived.Test.YtfjidddhehckoaaGreatK23
import Derived.Test.YtfjidddhehckoaaGreatK24
set_option linter.unusedSimpArgs false
set_option linter.unusedVariables false
set_option linter.unnecessarySimpa false
set_option maxRecDepth 100000
set_option maxHeartbeats 2000000
namespace Go.Proofs.YtfjidddhehckoaaGreat
open Go Go.Hl
theorem checks_law (f:Fl) (p:Po) (d:Nat):Con Tryz.prog 7 true [aF f,aPo p] (.v (lb true)) none d:=by
 have ck:=known_con;have cf:=fit_con f p;obtain⟨FP,hFP⟩:∃x,fitP f p=x:=⟨_,rfl⟩;have hsm:FP=true→Sm f p:=fun h=>fit_in (hFP.trans h);rw[hFP]at cf;have ca:=fun h=>asked_con f p (hsm h).sp (hsm h).sf;have cc:=fun(h:FP=true)=>chkS_con (hsm h);obtain⟨LA,LB,hL⟩:=lat_two p;have ct:=fun(h:FP=true) (h0:askC f p=0)=>typedR_con h0 (hsm h) hL;have hgd:askC f p=0→Gd0 f p:=ask_gd;have hB:=fun(h0:askC f p=0)=>B_get hL (time_ok (hgd h0)) (hgd h0).ho
 have hfl:FP=true→askC f p=0→(tyE f p).2.faults.length≤80∧(tyE f p).1.length≤10:=fun h h0=>by
  have h1:=fa_len (hgd h0);have h2:=(hsm h).nn;have h3:=(hsm h).nv;have h4:=fin_len (hgd h0);exact⟨by omega,by omega⟩
 unfold chkR accB at cc;obtain⟨A,hA⟩:∃x,askC f p=x:=⟨_,rfl⟩;obtain⟨⟨EV,⟨TM,FA,x3,x4,ST,CN⟩⟩,hT⟩:∃x,tyE f p=x:=⟨_,rfl⟩;simp only[hA,hT]at ca cc ct hB hfl;obtain⟨BV,hBV⟩:∃x,p.B TM p.observer=x:=⟨_,rfl⟩;rw[hBV]at cc hB;obtain⟨BOT,hBOT⟩:∃x,p.bot=x:=⟨_,rfl⟩;obtain⟨HL,hHL⟩:∃x,(phtF f p).1=x:=⟨_,rfl⟩;simp only[hBOT,hHL]at ct;clear hBOT hHL hT hA hFP hL hsm hgd hBV;obtain⟨AC,hAC⟩:∃x,(decide (FA.length=0)&&(!p.timed||BV))=x:=⟨_,rfl⟩;rw[hAC]at cc;obtain⟨vars,hats,body⟩:=f;obtain⟨ls,os,is,hts,ob,tm⟩:=p;simp only at hB hAC ct;refine con_of_HTA Tryz.func7 ?_;simp only[Tryz.f7];simp only[aF,Fl.enc,aPo,Po.enc,List.map_cons,List.map_nil]at cf ca cc ct⊢;refine HT_sA ?_;refine HT_seq<|HT_seq<|(HT_runcA [⟨true,.v (lb true),none⟩] ?_ ?_)
 · first|exact ck _|exact trivial|simpa[*]using ck _
 refine(HT_cs rfl (fun h2=>?_) fun h2=>?_)
 · exact absurd h2 (by simp)
 (try simp only[BN]at h2);rcases Bool.eq_false_or_eq_true FP with hfp|hfp
 · subst hfp;have ca:=ca rfl;have cc:=cc rfl;have ct:=ct rfl;have hfl:=hfl rfl;refine HT_seq<|HT_seq<|(HT_runcA [⟨true,.v (lb true),none⟩] ?_ ?_)
   · first|exact cf _|exact trivial|simpa[*]using cf _
   refine(HT_cs rfl (fun h6=>?_) fun h6=>?_)
   · exact absurd h6 (by simp)
   (try simp only[BN]at h6);by_cases ha0:A=0
   · subst ha0;rw[if_pos rfl]at cc;have ct:=ct rfl;have hfl:=hfl rfl;obtain⟨x,y,SS,hx,hy,hBx,hSy⟩:=hB rfl;subst hx hy;refine HT_scA [⟨false,.tup [.agg [.c (bC AC),.c (.sl 1 (encIs FA)),.c (iC (x:Int)),.c (.sl 1 (encIs EV))],li 0],none⟩] ?_ ?_
     · first|exact cc _|exact trivial|simpa[*]using cc _
     refine HT_seq<|HT_seq<|(HT_runcA [⟨true,.v (li 0),none⟩] ?_ ?_)
     · first|exact ca _|exact trivial|simpa[*]using ca _
     refine HT_sA ?_;refine(HT_cs rfl (fun h12=>?_) fun h12=>?_)
     · exact absurd h12 (by simp)
     (try simp only[BN]at h12);refine HT_scA [⟨false,.tup [ptR (.sl 5 (encVs vars)) (.sl 6 (encHs hats)) (.sl 10 (encSs body)) (.sl 1 LA) (.sl 1 LB) (iC BOT) (.sl 1 (encIs HL)) (iC (y:Int)) (.sl 1 (encLL ST)) (.sl 1 (encIs CN)) (.sl 1 (encIs FA)) (iC (x:Int)),lI EV],none⟩] ?_ ?_
     · first|exact ct _|exact trivial|simpa[*]using ct _
     refine HT_seq<|(HT_drunH [(66,3),(81,3)] (by kernel_rfl) (by kernel_rfl) (by rfl) (by simp[evsH,hokB,hintOf, *];rfl) ?_);have e1:=eqSl_con FA FA (by omega) (by omega);have e2:=eqSl_con EV EV (by omega) (by omega);rw[decide_eq_true rfl]at e1 e2;refine HT_seq<|(HT_druncH [(90,5),(96,5),(105,5),(114,5)] [⟨true,.v (lb true),none⟩,⟨true,.v (lb true),none⟩] (by kernel_rfl) (by kernel_rfl) (by rfl) (by simp[evcH,hokB,hintOf, *];first|exact⟨rfl,Iff.rfl⟩|exact⟨rfl,trivial⟩|rfl) ?_ ?_)
     · first|exact⟨e1 _,e2 _⟩|exact trivial|(repeat' first|exact trivial|exact e1 _|exact e2 _|apply And.intro)
     exact HT_rA
   rw[if_neg ha0]at cc;refine HT_scA [⟨false,.tup [.agg [.c (bC false),.c (.sl 1 []),.c (iC 0),.c (.sl 1 [])],li A],none⟩] ?_ ?_
   · first|exact cc _|exact trivial|simpa[*]using cc _
   refine HT_seq<|HT_seq<|(HT_runcA [⟨true,.v (li A),none⟩] ?_ ?_)
   · first|exact ca _|exact trivial|simpa[*]using ca _
   refine HT_sA ?_;refine(HT_cs rfl (fun h12=>?_) fun h12=>?_)
   · (try simp only[BN]at h12);refine HT_sA ?_;exact HT_rA
   exact absurd h12 (by simp[ha0])
 subst hfp;refine HT_seq<|HT_seq<|(HT_runcA [⟨true,.v (lb false),none⟩] ?_ ?_)
 · first|exact cf _|exact trivial|simpa[*]using cf _
 refine(HT_cs rfl (fun h6=>?_) fun h6=>?_)
 · (try simp only[BN]at h6);refine HT_sA ?_;exact HT_rA
 exact absurd h6 (by simp)
end Go.Proofs.YtfjidddhehckoaaGreat
