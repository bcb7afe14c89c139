/- Part 12: contracts of functions of the program and of the reference, and plain facts about what they compute; used by the proof of the claimed statement. Conditions: as each theorem states. -/
import Derived.Test.YtfjidddhehckoaaGreatK11
import Derived.Test.YtfjidddhehckoaaGreatK3
import Derived.Test.YtfjidddhehckoaaGreatK7
import Derived.Test.YtfjidddhehckoaaGreatK2
set_option linter.unusedSimpArgs false
set_option linter.unusedVariables false
set_option linter.unnecessarySimpa false
set_option maxRecDepth 100000
set_option maxHeartbeats 2000000
namespace Go.Proofs.YtfjidddhehckoaaGreat
open Go Go.Hl
def encBs (l:List Bool):List (List CD):=l.map fun b=>[bC b]
@[simp] theorem len_encBs (l:List Bool):(encBs l).length=l.length:=by simp[encBs]
theorem get_encBs {l:List Bool} {k:Nat} {b:Bool} (h:l[k]? =some b):(encBs l)[k]? =some [bC b]:=by simp[encBs,h]
@[simp] theorem encBs_get (l:List Bool) (i:Nat) (h:i<(encBs l).length):(encBs l)[i]'h=[bC (l[i]'(by simpa using h))]:=by simp[encBs]
theorem set_encBs (l:List Bool) (k:Nat) (b:Bool):(encBs l).set k [bC b]=encBs (l.set k b):=by simp[encBs,List.map_set]
theorem rep_encBs (is:List Lb):List.replicate is.length [bC false]=encBs (is.map (usB [])):=by
 have:∀l:List Lb,l.map (usB [])=List.replicate l.length false:=fun l=>by
  induction l with
  |nil=>rfl
  |cons x l ih=>rw[List.map_cons,List.length_cons,List.replicate_succ,ih];rfl
 rw[this];simp[encBs]
abbrev lBs (l:List Bool):TV:=.one (.c (.sl 1 (encBs l)))
def fiB (l:List Bool):Int:=match l.findIdx? (fun b=> !b)with|some i=>(i:Int)|none=>-1
theorem idxB_con (l:List Bool) (hl:l.length≤1000000000) (d:Nat):Con Tryz.prog 150 true [lBs l,lb false] (.v (li (fiB l))) none d:=by
 obtain⟨res,hres⟩:∃r,fiB l=r:=⟨_,rfl⟩;rw[hres]
 have hstep:∀k:Nat,(∀j:Nat,j<k→∀v,l[j]? =some v→v=true)→l[k]? =some false→res=k:=by
  intro k hno hv;have hk:k<l.length:=(List.getElem?_eq_some_iff.1 hv).1
  have:l.findIdx? (fun b=> !b)=some k:=by
   rw[List.findIdx?_eq_some_iff_getElem];refine⟨hk,?_,fun j hj=>?_⟩
   · rw[(List.getElem?_eq_some_iff.1 hv).2];rfl
   rw[hno j hj (l[j]'(by omega)) (by simp)];decide
  rw[←hres];unfold fiB;rw[this]
 have hnone:(∀j:Nat,j<l.length→∀v,l[j]? =some v→v=true)→res=-1:=by
  intro hno
  have:l.findIdx? (fun b=> !b)=none:=by
   rw[List.findIdx?_eq_none_iff];intro v hv;obtain⟨j,hj⟩:=List.mem_iff_getElem?.1 hv;rw[hno j (List.getElem?_eq_some_iff.1 hj).1 v hj];rfl
  rw[←hres];unfold fiB;rw[this]
 clear hres;refine con_of_HTA Tryz.func150 ?_;simp only[Tryz.f150];refine HT_sA ?_;refine HT_seq<|HT_seq<|HT_runA ?_;refine HT_block<|(HT_loopU [0,1,7] (fun(x:Nat)=>[(8,.v (li x))]) (fun x=>[]) (fun x=>x≤l.length∧∀j:Nat,j<x→∀v,l[j]? =some v→v=true) (fun x=>l.length - x) (0:Nat) ⟨Nat.zero_le _,fun j hj=>absurd hj (Nat.not_lt_zero j)⟩ ?_ ?_)
 · exact le_mkA (fun n=>n) []
 rintro k ⟨hk,hJ⟩;simp only[upS,keepS,insS]
 try simp only[keepS,KN,Nat.reduceBEq,if_true,if_false,ins,Nat.reduceLT]
 refine HT_sA ?_;refine HT_seq<|(HT_cond rfl (fun h4=>HT_skip ?_) (fun h4=>?_))
 · (try simp only[BN]at h4);have hlt:k<l.length:=by omega
   obtain⟨v,he,hd⟩:=at_lt hlt;have hw1:=wrap1 hlt (by omega);have hk1:k+1≤l.length:=hlt;have he':=get_encBs he;have hs:=fun e:v=false=>hstep k hJ (by rw[he,e]);clear hlt h4 hstep hnone;refine HT_seq<|HT_block<|HT_seq<|HT_runA ?_;refine HT_sA ?_;refine(HT_cs rfl (fun h7=>?_) fun h7=>?_)
   · (try simp only[BN]at h7);have hs:=hs (by cases v<;>simp_all);subst hs;refine HT_sA ?_;exact HT_rA
   (try simp only[BN]at h7);have hv:v=true:=by cases v<;>simp_all
   refine HT_runA ?_;exact⟨k+1,⟨hk1,fun j hj w hw=>(Nat.lt_succ_iff_lt_or_eq.1 hj).elim (fun h=>hJ j h w hw) (fun e=>by subst e;rw[he]at hw;cases hw;exact hv)⟩,by omega,le_mkA (fun n=>n) []⟩
 (try simp only[BN]at h4);have hs:=hnone fun j hj=>hJ j (by omega);subst hs;refine(HT_exit ?_);refine HT_sA ?_;exact HT_rA
theorem fiB_iff (l:List Bool):0≤fiB l↔¬l.all id=true:=by
 unfold fiB;cases h:l.findIdx? (fun b=> !b)with
 | none=>
   rw[List.findIdx?_eq_none_iff]at h;simp only[List.all_eq_true,id];constructor
   · intro h;omega
   intro h1;refine absurd (fun x hx=>?_) h1;have:=h x hx;simpa using this
 | some i=>
   rw[List.findIdx?_eq_some_iff_getElem]at h;obtain⟨hi,hpi,_⟩:=h;simp only[List.all_eq_true,id];refine⟨fun _ h=>?_,fun _=>by omega⟩;rw[h _ (List.getElem_mem hi)]at hpi;cases hpi
theorem conB_con (l:List Bool) (hl:l.length≤1000000000) (d:Nat):Con Tryz.prog 101 true [lBs l,lb false] (.v (lb (!l.all id))) none d:=by
 have hr:=idxB_con l hl
 have hd:decide (0≤fiB l)= !l.all id:=by
  rw[Bool.eq_iff_iff,decide_eq_true_eq,fiB_iff];cases l.all id<;>simp
 obtain⟨r,hR⟩:∃r,fiB l=r:=⟨_,rfl⟩;rw[hR]at hr hd;rw[←hd];clear hd hR;refine con_of_HTA Tryz.func101 ?_;simp only[Tryz.f101];refine HT_sA ?_;refine HT_scA [⟨true,.v (li r),none⟩] ?_ ?_
 · first|exact hr _|exact trivial|simpa[*]using hr _
 exact HT_rA
theorem pol_new {p:Po} (h:polC p=0):Lt.Lat p.n p.M∧0<p.n∧p.n≤12:=by
 have hn:=polC_new h;have h1:=Lt.new_out hn;exact⟨Lt.lat_of hn,by have:=h1.1;unfold Po.n;omega,by have:=h1.1;unfold Po.n;omega⟩
theorem botP_con (p:Po) (h:polC p=0) (d:Nat):Con Tryz.prog 68 true [.one (.c (Lt.latO p.levels p.order))] (.v (li p.bot)) none d:=
 Lt.bot_con p.levels p.M (pol_new h).1 (pol_new h).2 _ _ _ d
theorem topP_con (p:Po) (h:polC p=0) (d:Nat):Con Tryz.prog 99 true [.one (.c (Lt.latO p.levels p.order))] (.v (li p.top)) none d:=
 Lt.top_con p.levels p.M (pol_new h).1 (pol_new h).2 _ _ _ d
def mixF {α:Type} (f g:α→Bool) (l:List α) (i:Nat):List Bool:=(l.take i).map g++(l.drop i).map f
theorem mix_len {α:Type} (f g:α→Bool) (l:List α) (i:Nat):(mixF f g l i).length=l.length:=by
 simp only[mixF,List.length_append,List.length_map,List.length_take,List.length_drop];omega
theorem mix_set {α:Type} (f g:α→Bool):∀(l:List α) (i:Nat) (x:α),l[i]? =some x→mixF f g l (i+1)=(mixF f g l i).set i (g x)
 |[],i,x,h=>by simp at h
 | y::l,0,x,h=>by
   simp only[List.getElem?_cons_zero,Option.some.injEq]at h;subst h;simp[mixF]
 | y::l,i+1,x,h=>by
   have ih:=mix_set f g l i x (by simpa using h);simp only[mixF,List.take_succ_cons,List.map_cons,List.drop_succ_cons,List.cons_append,List.set_cons_succ]at ih⊢;rw[ih]
theorem mix_same {α:Type} (f g:α→Bool):∀(l:List α) (i:Nat) (x:α),l[i]? =some x→g x=f x→mixF f g l (i+1)=mixF f g l i
 |[],i,x,h,_=>by simp at h
 | y::l,0,x,h,e=>by
   simp only[List.getElem?_cons_zero,Option.some.injEq]at h;subst h;simp[mixF,e]
 | y::l,i+1,x,h,e=>by
   have ih:=mix_same f g l i x (by simpa using h) e;simp only[mixF,List.take_succ_cons,List.map_cons,List.drop_succ_cons,List.cons_append]at ih⊢;rw[ih]
theorem mix_zero {α:Type} (f g:α→Bool) (l:List α):mixF f g l 0=l.map f:=by simp[mixF]
theorem mix_all {α:Type} (f g:α→Bool) (l:List α):mixF f g l l.length=l.map g:=by simp[mixF]
theorem usB_snoc {vars:List Vr} {k:Nat} {v:Vr} (h:vars[k]? =some v) (x:Lb):usB (vars.take (k+1)) x=(usB (vars.take k) x||(decide (v.kind≠0)&&covB x.name v.name)):=by
 unfold usB;rw[List.take_add_one,h];simp
theorem polIn_con (f:Fl) (p:Po) (hs:smP p) (hv:f.vars.length≤1000000) (hh:f.hats.length≤1000000) (hn:nodesS f.body+nodesH f.hats≤900000000) (hb:bndL f.body=true) (d:Nat):
  Con Tryz.prog 64 false [aF f,aPo p] (.tup [lI (pinF f p).1,li (pinF f p).2]) none d:=by
 have co:=ord_con p hs;have cf:=checkP_con f hv hh hn hb;have cb:=botP_con p;have ct:=topP_con p;have hins:=hs.2.1;obtain⟨res,hres⟩:∃r,pinF f p=r:=⟨_,rfl⟩;rw[hres];unfold pinF at hres;unfold ordR at co;obtain⟨C,hC⟩:∃x,polC p=x:=⟨_,rfl⟩;obtain⟨D,hD⟩:∃x,codeC f=x:=⟨_,rfl⟩;obtain⟨L,hL⟩:∃x,Lt.latO p.levels p.order=x:=⟨_,rfl⟩;have hLp:∃cs,L=.ptr cs:=⟨_,hL.symm⟩;obtain⟨cs,hLp⟩:=hLp;rw[hC,hL]at co;rw[hC]at cb ct hres;rw[hL]at cb ct;rw[hD]at cf hres;subst hLp;obtain⟨vars,hats,body⟩:=f;obtain⟨ls,os,is,hts,ob,tm⟩:=p;simp only at hres hv hins;clear hC hD hL hs hh hn hb;refine con_of_HTA Tryz.func64 ?_;simp only[Tryz.f64];simp only[aF,Fl.enc,aPo,Po.enc,List.map_cons,List.map_nil]at co cf⊢;refine HT_sA ?_;rcases Classical.em (C=0)with hc0|hc0
 · subst hc0;simp only[if_true]at co;have cb:=cb rfl;have ct:=ct rfl;refine HT_scA [⟨false,.v (.one (.c (.ptr cs))),none⟩] ?_ ?_
   · first|exact co _|exact trivial|simpa[*]using co _
   refine HT_seq<|HT_seq<|(HT_runcA [⟨true,.v (li D),none⟩] ?_ ?_)
   · first|exact cf _|exact trivial|simpa[*]using cf _
   refine(HT_cs rfl (fun h3=>?_) fun h3=>?_)
   · (try simp only[BN]at h3);rw[if_pos (.inr (by simpa using h3))]at hres;subst hres;refine HT_sA ?_;exact HT_ret ⟨.inr rfl,_,le_one 4 1 rfl,⟨⟨_,by simp;rfl,by simp[resR]⟩,by simp,fun h=>by cases h⟩⟩
   (try simp only[BN]at h3);have hd0:D=0:=by simpa using h3
   subst hd0;rw[if_neg (by simp)]at hres;have hrep:=rep_encBs is;have hmk:is.length≤maxLen∧(is.length:Int)≤281474976710656:=⟨by unfold maxLen;omega,by omega⟩;refine HT_sA ?_;refine HT_sA ?_;refine HT_seq<|HT_seq<|HT_runA ?_;refine HT_block<|(HT_loopU [3,6,7,29,30] (fun(x:Nat)=>[(8,.v (.one (.own 900001))),(31,.v (li x))]) (fun x=>[(3,.box [.c (.sl 1 (encNs ls)),.c (.sl 2 (encPr os)),.c (.sl 2 (encLs is)),.c (.sl 2 (encLs hts)),.c (iC ob),.c (bC tm)]),(27,.row 4 1 (encBs (is.map (usB (vars.take x))))),(900001,.row 3 1 (encIs ((vars.map (levV ⟨ls,os,is,hts,ob,tm⟩)).take x)))]) (fun x=>x≤vars.length) (fun x=>vars.length - x) (0:Nat) (Nat.zero_le _) ?_ ?_)
   · exact le_mkA (fun n=>n) [900001]
   rintro k hk;simp only[upS,keepS,insS]
   try simp only[keepS,KN,Nat.reduceBEq,if_true,if_false,ins,Nat.reduceLT]
   refine HT_sA ?_;refine HT_seq<|(HT_cond rfl (fun h11=>HT_skip ?_) (fun h11=>?_))
   · (try simp only[BN]at h11);have hlt:k<vars.length:=by omega
     obtain⟨v,he,hd⟩:=at_lt hlt;have hw1:=wrap1 hlt (by omega);have hk1:k+1≤vars.length:=hlt;have hus:=fun x=>usB_snoc he x;obtain⟨nm,kd,lo,hi,ini⟩:=v;have hmz:=mix_zero (usB (vars.take k)) (usB (vars.take (k+1))) is;have hma:=mix_all (usB (vars.take k)) (usB (vars.take (k+1))) is;obtain⟨best,hbest⟩:∃x,levV ⟨ls,os,is,hts,ob,tm⟩ ⟨nm,kd,lo,hi,ini⟩=x:=⟨_,rfl⟩
     have hsn:encIs ((vars.map (levV ⟨ls,os,is,hts,ob,tm⟩)).take (k+1))=encIs ((vars.map (levV ⟨ls,os,is,hts,ob,tm⟩)).take k)++[[iC best]]:=by
      rw[List.take_add_one,List.getElem?_map,he,←hbest];simp[encIs]
     obtain⟨O,hO⟩:∃x,(vars.map (levV ⟨ls,os,is,hts,ob,tm⟩)).take k=x:=⟨_,rfl⟩;have hOl:O.length=k:=by rw[←hO,List.length_take,List.length_map];omega
     have hroom:room (k+1) 8:=room_of (by omega) (by omega);rw[hO]at hsn;unfold levV at hbest;obtain⟨BOT,hBOT⟩:∃x,Po.bot ⟨ls,os,is,hts,ob,tm⟩=x:=⟨_,rfl⟩;obtain⟨TOP,hTOP⟩:∃x,Po.top ⟨ls,os,is,hts,ob,tm⟩=x:=⟨_,rfl⟩;rw[hBOT]at cb;rw[hTOP]at ct;simp only[hBOT,hTOP]at hbest;clear hlt h11 hd cf co hBOT hTOP;refine HT_seq<|HT_block<|HT_seq<|HT_runA ?_;refine HT_scA [⟨true,.v (li BOT),none⟩] ?_ ?_
     · first|exact cb _|exact trivial|simpa[*]using cb _
     refine(HT_cutU [3,6,7,8,10,12,29,30,31] (fun z=>[(11,.v (li z))]) (fun z=>[(3,.box [.c (.sl 1 (encNs ls)),.c (.sl 2 (encPr os)),.c (.sl 2 (encLs is)),.c (.sl 2 (encLs hts)),.c (iC ob),.c (bC tm)]),(10,.box [.c (sC nm),.c (iC kd),.c (iC lo),.c (iC hi),.c (iC ini)]),(27,.row 4 1 (encBs (is.map (usB (vars.take k))))),(900001,.row 3 1 (encIs O))]) (fun z=>z=if kd=1 then TOP else BOT) ?_ ?_)
     ·
      refine HT_sA ?_;refine(HT_cs rfl (fun h16=>?_) fun h16=>?_)
      · (try simp only[BN]at h16);have hk1':kd=1:=by simpa using h16
        refine(HT_runcA [⟨true,.v (li TOP),none⟩] ?_ ?_)
        · first|exact ct _|exact trivial|simpa[*]using ct _
        exact⟨TOP,by rw[if_pos hk1'],le_mkA (fun n=>n) []⟩
      (try simp only[BN]at h16);have hk1':¬kd=1:=by simpa using h16
      exact⟨BOT,by rw[if_neg hk1'],le_mkA (fun n=>n) []⟩
     rintro z0 hz0;simp only[upS,keepS,insS]
     try simp only[keepS,KN,Nat.reduceBEq,if_true,if_false,ins,Nat.reduceLT]
     rw[←hz0]at hbest;clear cb ct hz0;refine HT_seq<|HT_seq<|HT_runA ?_;refine HT_block<|(HT_loopU [3,6,7,8,10,29,30,31,43,44] (fun(x:Nat×Int×Int)=>[(11,.v (li x.2.1)),(12,.v (li x.2.2)),(45,.v (li x.1))]) (fun x=>[(3,.box [.c (.sl 1 (encNs ls)),.c (.sl 2 (encPr os)),.c (.sl 2 (encLs is)),.c (.sl 2 (encLs hts)),.c (iC ob),.c (bC tm)]),(10,.box [.c (sC nm),.c (iC kd),.c (iC lo),.c (iC hi),.c (iC ini)]),(27,.row 4 1 (encBs (mixF (usB (vars.take k)) (usB (vars.take (k+1))) is x.1))),(900001,.row 3 1 (encIs O))]) (fun x=>x.1≤is.length∧(bestF ⟨nm,kd,lo,hi,ini⟩ (is.drop x.1) (x.2.1,x.2.2)).1=best) (fun x=>is.length - x.1) (0,z0,-1) ⟨Nat.zero_le _,by simpa using hbest⟩ ?_ ?_)
     · exact le_mkA (fun n=>n) []
     rintro⟨i,lv,lo2⟩ ⟨hi1,hJ⟩;simp only[upS,keepS,insS]
     try simp only[keepS,KN,Nat.reduceBEq,if_true,if_false,ins,Nat.reduceLT]
     simp only at hi1 hJ;clear hbest hmz;refine HT_sA ?_;refine HT_seq<|(HT_cond rfl (fun h23=>HT_skip ?_) (fun h23=>?_))
     · (try simp only[BN]at h23);have hlt:i<is.length:=by omega
       obtain⟨x,hx,hxd⟩:=at_lt hlt;have hw2:=wrap1 hlt (by omega);have hi2:i+1≤is.length:=hlt;have hx':=get_encL hx;rw[hxd]at hJ;simp only[bestF]at hJ;have hms:=mix_set (usB (vars.take k)) (usB (vars.take (k+1))) is i x hx;have hmm:=mix_same (usB (vars.take k)) (usB (vars.take (k+1))) is i x hx;have hml:=mix_len (usB (vars.take k)) (usB (vars.take (k+1))) is i;obtain⟨MX,hMX⟩:∃x,mixF (usB (vars.take k)) (usB (vars.take (k+1))) is i=x:=⟨_,rfl⟩;rw[hMX]at hms hmm hml;rw[hus]at hms hmm;have hlm:i<MX.length:=by omega
       obtain⟨xn,xl⟩:=x;have cc:=cov_con xn nm;simp only[Lb.enc]at hx' hJ hms hmm cc;obtain⟨Cv,hCV⟩:∃x,covB xn nm=x:=⟨_,rfl⟩;rw[hCV]at hJ hms hmm cc;clear hlt hml hxd h23 hCV hma hsn hus;refine HT_seq<|HT_block<|HT_seq<|HT_runA ?_;refine HT_seq<|HT_seq<|(HT_runcA [⟨true,.v (lb Cv),none⟩] ?_ ?_)
       · first|exact cc _|exact trivial|simpa[*]using cc _
       refine(HT_cs rfl (fun h26=>?_) fun h26=>?_)
       · try simp only[BN]at h26
         have hno:¬(kd≠0∧Cv=true):=by
          rintro⟨a,b⟩;rcases h26 with h|h
          · exact a (by simpa using h)
          rw[b]at h;simp at h
         rw[if_neg (fun h=>hno ⟨h.1,h.2.1⟩)]at hJ
         have hmm:=hmm (by
          have:(decide (kd≠0)&&Cv)=false:=by
           rw[Bool.and_eq_false_iff,decide_eq_false_iff_not];by_cases hk0:kd=0
           · exact .inl (fun h=>h hk0)
           exact .inr (by cases Cv with
            |false=>rfl
            |true=>exact absurd ⟨hk0,rfl⟩ hno)
          rw[this,Bool.or_false])
         refine(HT_exit ?_);refine HT_runA ?_;exact⟨(i+1,lv,lo2),⟨hi2,hJ⟩,by simp only;omega,le_mkA (fun n=>n) []⟩
       (try simp only[BN]at h26);have hyes:kd≠0∧Cv=true:=by simpa using h26
       have hms:mixF (usB (vars.take k)) (usB (vars.take (k+1))) is (i+1)=MX.set i true:=by
        rw[hms,decide_eq_true hyes.1,hyes.2];simp
       have hse:(encBs MX).set i [CD.lit (Value.bool true)]=encBs (MX.set i true):=set_encBs MX i true;refine HT_sA ?_;refine HT_sA ?_;refine(HT_cs rfl (fun h31=>?_) fun h31=>?_)
       · (try simp only[BN]at h31);rw[if_pos ⟨hyes.1,hyes.2,by simpa using h31⟩]at hJ;refine(HT_drun (by kernel_rfl) (by kernel_rfl) (by rfl) (by simp[*];rfl) ?_);refine HT_runA ?_;exact⟨(i+1,xl,(xn.size:Int)),⟨hi2,hJ⟩,by simp only;omega,le_mkA (fun n=>n) []⟩
       (try simp only[BN]at h31);rw[if_neg (fun h=>by have:=h.2.2;simp at h31;omega)]at hJ;refine HT_runA ?_;exact⟨(i+1,lv,lo2),⟨hi2,hJ⟩,by simp only;omega,le_mkA (fun n=>n) []⟩
     (try simp only[BN]at h23);have hil:i=is.length:=by omega
     rw[hil,List.drop_length]at hJ;simp only[bestF]at hJ;subst hJ;refine(HT_exit ?_);refine HT_runA ?_;refine HT_runA ?_;exact⟨k+1,hk1,by omega,le_mkA (fun n=>if n=900001 then 78 else n) []⟩
   (try simp only[BN]at h11);have hkl:k=vars.length:=by omega
   subst hkl;have ccb:=conB_con (is.map (usB (vars.take vars.length))) (by simpa using(by omega:is.length≤1000000000));rw[List.take_length]at ccb⊢;have htk:(vars.map (levV ⟨ls,os,is,hts,ob,tm⟩)).take vars.length=vars.map (levV ⟨ls,os,is,hts,ob,tm⟩):=List.take_of_length_le (by simp);have hal:(is.map (usB vars)).all id=is.all (usB vars):=by simp[List.all_map]
   rw[hal]at ccb;refine(HT_exit ?_);refine HT_seq<|HT_seq<|(HT_runcA [⟨true,.v (lb (!is.all (usB vars))),none⟩] ?_ ?_)
   · first|exact ccb _|exact trivial|simpa[*]using ccb _
   refine(HT_cs rfl (fun h41=>?_) fun h41=>?_)
   · (try simp only[BN]at h41);rw[if_neg (by simpa using h41)]at hres;subst hres;refine HT_sA ?_;exact HT_ret ⟨.inr rfl,_,le_one 4 1 rfl,⟨⟨_,by simp;rfl,by simp[resR]⟩,by simp,fun h=>by cases h⟩⟩
   (try simp only[BN]at h41);rw[if_pos (by simpa using h41)]at hres;subst hres;refine HT_sA ?_;exact HT_ret ⟨.inr rfl,_,le_frz 900001 rfl,⟨⟨_,by simp;rfl,by simp[resR]⟩,by simp,fun h=>by cases h⟩⟩
 rw[if_neg hc0]at co;rw[if_pos (.inl hc0)]at hres;subst hres;refine HT_scA [⟨false,.v (.one (.c (.lit (.pointer none)))),none⟩] ?_ ?_
 · first|exact co _|exact trivial|simpa[*]using co _
 refine HT_seq<|HT_seq<|(HT_runcS [none] (by simp[*];first|exact⟨rfl,trivial⟩|exact⟨rfl,Iff.rfl⟩|rfl) ?_ ?_)
 · trivial
 refine(HT_cs rfl (fun h3=>?_) fun h3=>?_)
 · (try simp only[BN]at h3);refine HT_sA ?_;exact HT_ret ⟨.inr rfl,_,le_one 4 1 rfl,⟨⟨_,by simp;rfl,by simp[resR]⟩,by simp,fun h=>by cases h⟩⟩
 exact absurd h3 (by simp)
end Go.Proofs.YtfjidddhehckoaaGreat

namespace Go.Proofs.YtfjidddhehckoaaGreat
open Go Go.Hl
attribute [simp] Ob.flat
theorem cloneO_con (l:List Int) (hl:l.length≤1000000000) (d:Nat) (hd:d<1000000):Con Tryz.prog 36 false [lI l] (.v (.one (.own d))) (some (.row 3 1 (encIs l))) d:=by
 have hroom:room l.length 8:=⟨by unfold maxLen;omega,by omega⟩;cases l with
 | nil=>
   refine con_emp ?_ ?_
   · refine con_of_HTA Tryz.func36 ?_;simp only[Tryz.f36];refine HT_sA ?_;refine HT_seq<|HT_seq<|HT_runA ?_;refine(HT_cs rfl (fun h2=>?_) fun h2=>?_)
     · (try simp only[BN]at h2);refine HT_sA ?_;exact HT_ret ⟨.inr rfl,_,le_nameN 2 d 3 1 rfl (by decide) hd,⟨⟨_,by simp;rfl,by simp[resR]⟩,by simp,fun h=>by cases h⟩⟩
     exact absurd h2 (by simp)
   intro a cap;refine con_of_HTA Tryz.func36 ?_;simp only[Tryz.f36];refine HT_sA ?_;refine HT_seq<|HT_seq<|HT_runA ?_;refine(HT_cs rfl (fun h2=>?_) fun h2=>?_)
   · exact absurd h2 (by simp)
   (try simp only[BN]at h2);refine HT_le (le_emp 0 1 rfl) ?_;refine HT_sA ?_;exact HT_ret ⟨.inr rfl,_,le_name 2 7 d rfl rfl hd,⟨⟨_,by simp;rfl,by simp[resR]⟩,by simp,fun h=>by cases h⟩⟩
 | cons v r=>
   refine con_of_HTA Tryz.func36 ?_;simp only[Tryz.f36];rw[List.length_cons]at hroom;refine HT_sA ?_;refine HT_seq<|HT_seq<|HT_runA ?_;refine(HT_cs rfl (fun h2=>?_) fun h2=>?_)
   · exact absurd h2 (by simp)
   (try simp only[BN]at h2);refine HT_sA ?_;exact HT_ret ⟨.inr rfl,_,le_name 2 7 d rfl rfl hd,⟨⟨_,by simp;rfl,by simp[resR]⟩,by simp,fun h=>by cases h⟩⟩
@[simp] theorem encIs_getE (l:List Int) (i:Nat) (h:i<(encIs l).length):(encIs l)[i]'h=[iC (l[i]'(by simpa using h))]:=by simp[encIs]
def repC (n:Nat):Prop:=∀d,d<1000000→Con Tryz.prog 103 false [lI [-1],li n] (.v (.one (.own d))) (some (.row 3 1 (encIs (List.replicate n (-1))))) d
theorem idxH2_con (l:List Ht) (g:FuncId) (cap:List CD) (p:Ht→Bool) (hl:l.length≤1000000000) (hp:∀v∈l,∀d,Con Tryz.prog g true (aH v::cap.map fun c=>.one (.c c)) (.v (lb (p v))) none d) (d:Nat):
  Con Tryz.prog 104 true [.one (.c (.sl 6 (encHs l))),.one (.c (.fn g cap))] (.v (li (match l.findIdx? p with|some i=>(i:Int)|none=>-1))) none d:=by
 have hstep:∀k:Nat,(∀j:Nat,j<k→∀v,l[j]? =some v→p v=false)→∀v,l[k]? =some v→p v=true→l.findIdx? p=some k:=by
  intro k hno v hv hpv;rw[List.findIdx?_eq_some_iff_getElem];have hk:k<l.length:=(List.getElem?_eq_some_iff.1 hv).1;refine⟨hk,?_,fun j hj=>?_⟩
  · simp only[List.getElem?_eq_getElem hk,Option.some.injEq]at hv;rw[hv];exact hpv
  have:=hno j hj l[j] (by simp);simp[this]
 have hnone:(∀j:Nat,j<l.length→∀v,l[j]? =some v→p v=false)→l.findIdx? p=none:=by
  intro hno;rw[List.findIdx?_eq_none_iff];intro v hv;obtain⟨j,hj⟩:=List.mem_iff_getElem?.1 hv;exact hno j (List.getElem?_eq_some_iff.1 hj).1 v hj
 refine con_of_HTA Tryz.func104 ?_;simp only[Tryz.f104];refine HT_sA ?_;refine HT_seq<|HT_seq<|HT_runA ?_;refine HT_block<|(HT_loopU [0,1,7] (fun(x:Nat)=>[(8,.v (li x))]) (fun x=>[]) (fun x=>x≤l.length∧∀j:Nat,j<x→∀v,l[j]? =some v→p v=false) (fun x=>l.length - x) (0:Nat) ⟨Nat.zero_le _,fun j hj=>absurd hj (Nat.not_lt_zero j)⟩ ?_ ?_)
 · exact le_mkA (fun n=>n) []
 rintro k ⟨hk,hJ⟩;simp only[upS,keepS,insS]
 try simp only[keepS,KN,Nat.reduceBEq,if_true,if_false,ins,Nat.reduceLT]
 refine HT_sA ?_;refine HT_seq<|(HT_cond rfl (fun h4=>HT_skip ?_) (fun h4=>?_))
 · (try simp only[BN]at h4);have hlt:k<l.length:=by omega
   obtain⟨⟨nm,lo,hi,⟨o,tn,ks⟩⟩,he,hd⟩:=at_lt hlt;have hw1:=wrap1 hlt (by omega);have hk1:k+1≤l.length:=hlt;have hpv:=hp _ (List.mem_of_getElem? he);have hs:=hstep k hJ _ he;clear hlt h4 hstep hnone hp;refine HT_seq<|HT_block<|HT_seq<|HT_runA ?_;refine HT_scA [⟨true,.v (lb (p ⟨nm,lo,hi,.mk o tn ks⟩)),none⟩] ?_ ?_
   · first|exact hpv _|exact trivial|simpa[*]using hpv _
   refine(HT_cs rfl (fun h7=>?_) fun h7=>?_)
   · (try simp only[BN]at h7);rw[hs h7];refine HT_sA ?_;exact HT_rA
   (try simp only[BN]at h7);refine HT_runA ?_;exact⟨k+1,⟨hk1,fun j hj w hw=>(Nat.lt_succ_iff_lt_or_eq.1 hj).elim (fun h=>hJ j h w hw) (fun e=>by subst e;rw[he]at hw;cases hw;exact h7)⟩,by omega,le_mkA (fun n=>n) []⟩
 (try simp only[BN]at h4);rw[hnone fun j hj=>hJ j (by omega)];refine(HT_exit ?_);refine HT_sA ?_;exact HT_rA
theorem sameL_con (w:Ht) (x:Lb) (d:Nat):Con Tryz.prog 105 true [aH w,.one (.c (.ptr x.enc))] (.v (lb (decide (w.name=x.name)))) none d:=by
 obtain⟨n1,l1,h1,⟨o1,t1,k1⟩⟩:=w;obtain⟨n2,l2⟩:=x;refine con_of_HTA Tryz.func105 ?_;simp only[Tryz.f105];simp only[aH,Ht.enc,Tm.enc,List.cons_append,List.nil_append];refine HT_sA ?_;refine HT_sA ?_;exact HT_rA
theorem htF_len (hats:List Ht):∀(l:List Lb) (out r:List Int),htF hats out l=some r→r.length=out.length
 |[],out,r,h=>by simp only[htF,Option.some.injEq]at h;rw[h]
 | x::l,out,r,h=>by
   simp only[htF]at h;split at h
   · cases h
   have:=htF_len hats l _ r h;simpa using this
def htR (r:Option (List Int)):List Int×Int:=match r with|none=>([],7)|some l=>(l,0)
theorem polHt_con (f:Fl) (p:Po) (hs:smP p) (hrep:repC f.hats.length) (hv:f.vars.length≤1000000) (hh:f.hats.length≤1000000) (hn:nodesS f.body+nodesH f.hats≤900000000) (hb:bndL f.body=true) (d:Nat):
  Con Tryz.prog 65 false [aF f,aPo p] (.tup [lI (phtF f p).1,li (phtF f p).2]) none d:=by
 have cp:=polC_con p hs;have cf:=checkP_con f hv hh hn hb;have hlh:=hs.2.2.1;unfold repC at hrep;obtain⟨res,hres⟩:∃r,phtF f p=r:=⟨_,rfl⟩;rw[hres];unfold phtF at hres;obtain⟨C,hC⟩:∃x,polC p=x:=⟨_,rfl⟩;obtain⟨D,hD⟩:∃x,codeC f=x:=⟨_,rfl⟩;rw[hC]at cp hres;rw[hD]at cf hres
 have hres:(if C≠0∨D≠0 then([],1)else htR (htF f.hats (List.replicate f.hats.length (-1)) p.hatches))=res:=by
  rw[←hres];split
  · rfl
  unfold htR;rfl
 obtain⟨vars,hats,body⟩:=f;obtain⟨ls,os,is,hts,ob,tm⟩:=p;simp only at hres hv hh hlh hrep;clear hC hD hs hn hb hv;refine con_of_HTA Tryz.func65 ?_;simp only[Tryz.f65];simp only[aF,Fl.enc,aPo,Po.enc,List.map_cons,List.map_nil]at cp cf⊢;refine HT_sA ?_;rcases Classical.em (C=0)with hc0|hc0
 · subst hc0;refine HT_seq<|HT_seq<|(HT_runcA [⟨true,.v (li 0),none⟩,⟨true,.v (li D),none⟩] ?_ ?_)
   · first|exact⟨cp _,cf _⟩|exact trivial|(repeat' first|exact trivial|exact cp _|exact cf _|apply And.intro)
   refine(HT_cs rfl (fun h2=>?_) fun h2=>?_)
   · (try simp only[BN]at h2);rw[if_pos (.inr (by simpa using h2))]at hres;subst hres;refine HT_sA ?_;exact HT_ret ⟨.inr rfl,_,le_one 4 1 rfl,⟨⟨_,by simp;rfl,by simp[resR]⟩,by simp,fun h=>by cases h⟩⟩
   (try simp only[BN]at h2);rw[if_neg (by simpa using h2)]at hres;clear cp cf h2;have hrep:=hrep 22 (by decide);refine HT_seq<|(HT_runF 1 [] [⟨false,.v (.one (.own 22)),some (.row 3 1 (encIs (List.replicate hats.length (-1))))⟩] (by simp[*];rfl) trivial (le_frz 18 rfl) (by simp[*];first|exact⟨rfl,hrep⟩|exact⟨rfl,Iff.rfl⟩|rfl) hrep ?_);clear hrep;refine HT_seq<|HT_seq<|HT_runA ?_;refine HT_block<|(HT_loopU [2,6,24,25] (fun(x:Nat×List Int)=>[(26,.v (li x.1))]) (fun x=>[(2,.box [.c (.sl 5 (encVs vars)),.c (.sl 6 (encHs hats)),.c (.sl 10 (encSs body))]),(22,.row 3 1 (encIs x.2))]) (fun x=>x.1≤hts.length∧htR (htF hats x.2 (hts.drop x.1))=res∧x.2.length=hats.length) (fun x=>hts.length - x.1) (0,List.replicate hats.length (-1)) ⟨Nat.zero_le _,hres,by simp⟩ ?_ ?_)
   · exact le_mkA (fun n=>n) []
   rintro⟨k,out⟩ ⟨hk,hJ,hol⟩;simp only[upS,keepS,insS]
   try simp only[keepS,KN,Nat.reduceBEq,if_true,if_false,ins,Nat.reduceLT]
   simp only at hk hJ hol;clear hres;refine HT_sA ?_;refine HT_seq<|(HT_cond rfl (fun h9=>HT_skip ?_) (fun h9=>?_))
   · (try simp only[BN]at h9);have hlt:k<hts.length:=by omega
     obtain⟨x,he,hd⟩:=at_lt hlt;have hw1:=wrap1 hlt (by omega);have hk1:k+1≤hts.length:=hlt;rw[hd]at hJ;simp only[htF]at hJ;have he':=get_encL he;have ci:=idxH2_con hats 105 [.ptr x.enc] (fun w=>decide (w.name=x.name)) (by omega) (fun w _ d=>sameL_con w x d);have hhi:hats.findIdx? (fun w=>decide (w.name=x.name))=hatI hats x.name:=rfl;rw[hhi]at ci
     have hil:∀i,hatI hats x.name=some i→i<hats.length:=by
      intro i hi;unfold hatI at hi;rw[List.findIdx?_eq_some_iff_getElem]at hi;exact hi.1
     obtain⟨Q,hQ⟩:∃q,hatI hats x.name=q:=⟨_,rfl⟩;rw[hQ]at hJ ci hil;obtain⟨xn,xl⟩:=x;simp only[Lb.enc]at he' hJ ci;clear hlt h9 hd he hhi hQ;refine HT_seq<|HT_block<|HT_seq<|HT_runA ?_;rcases Q with _|i
     · simp only at hJ ci;unfold htR at hJ;simp only at hJ;subst hJ;refine HT_scA [⟨true,.v (li (-1)),none⟩] ?_ ?_
       · first|exact ci _|exact trivial|simpa[*]using ci _
       refine HT_seq<|HT_seq<|HT_runA ?_;refine(HT_cs rfl (fun h13=>?_) fun h13=>?_)
       · (try simp only[BN]at h13);refine HT_sA ?_;exact HT_ret ⟨.inr rfl,_,le_one 4 1 rfl,⟨⟨_,by simp;rfl,by simp[resR]⟩,by simp,fun h=>by cases h⟩⟩
       exact absurd h13 (by simp)
     simp only at hJ ci;have hi:=hil i rfl;clear hil;have hset:(encIs out).set i [iC xl]=encIs (out.set i xl):=by simp[encIs,List.map_set]
     have hio:i<out.length:=by omega
     have hol2:(out.set i xl).length=hats.length:=by simp[hol]
     refine HT_scA [⟨true,.v (li (i:Int)),none⟩] ?_ ?_
     · first|exact ci _|exact trivial|simpa[*]using ci _
     refine HT_seq<|HT_seq<|HT_runA ?_;refine(HT_cs rfl (fun h13=>?_) fun h13=>?_)
     · exact absurd h13 (by simp)
     (try simp only[BN]at h13);refine HT_runA ?_;refine HT_runA ?_;exact⟨(k+1,out.set i xl),⟨hk1,hJ,hol2⟩,by simp only;omega,le_mkA (fun n=>n) []⟩
   (try simp only[BN]at h9);have hkl:k=hts.length:=by omega
   rw[hkl,List.drop_length]at hJ;simp only[htF,htR]at hJ;subst hJ;refine(HT_exit ?_);refine HT_sA ?_;exact HT_ret ⟨.inr rfl,_,le_frz 22 rfl,⟨⟨_,by simp;rfl,by simp[resR]⟩,by simp,fun h=>by cases h⟩⟩
 rw[if_pos (.inl hc0)]at hres;subst hres;refine HT_seq<|HT_seq<|(HT_runcS [some ⟨true,.v (li C),none⟩,none] (by simp[*];first|exact⟨rfl,Iff.rfl⟩|exact⟨rfl,trivial⟩|rfl) ?_ ?_)
 · first|exact trivial|exact cp _|simpa using cp _
 refine(HT_cs rfl (fun h2=>?_) fun h2=>?_)
 · (try simp only[BN]at h2);refine HT_sA ?_;exact HT_ret ⟨.inr rfl,_,le_one 4 1 rfl,⟨⟨_,by simp;rfl,by simp[resR]⟩,by simp,fun h=>by cases h⟩⟩
 exact absurd h2 (by simpa using hc0)
end Go.Proofs.YtfjidddhehckoaaGreat

namespace Go.Proofs.YtfjidddhehckoaaGreat
open Go Go.Hl
theorem idxS_con (l:List St) (g:FuncId) (cap:List CD) (p:St→Bool) (hl:l.length≤1000000000) (hp:∀v∈l,∀d,Con Tryz.prog g true (aS v::cap.map fun c=>.one (.c c)) (.v (lb (p v))) none d) (d:Nat):
  Con Tryz.prog 153 true [lS l,.one (.c (.fn g cap))] (.v (li (match l.findIdx? p with|some i=>(i:Int)|none=>-1))) none d:=by
 have hstep:∀k:Nat,(∀j:Nat,j<k→∀v,l[j]? =some v→p v=false)→∀v,l[k]? =some v→p v=true→l.findIdx? p=some k:=by
  intro k hno v hv hpv;rw[List.findIdx?_eq_some_iff_getElem];have hk:k<l.length:=(List.getElem?_eq_some_iff.1 hv).1;refine⟨hk,?_,fun j hj=>?_⟩
  · simp only[List.getElem?_eq_getElem hk,Option.some.injEq]at hv;rw[hv];exact hpv
  have:=hno j hj l[j] (by simp);simp[this]
 have hnone:(∀j:Nat,j<l.length→∀v,l[j]? =some v→p v=false)→l.findIdx? p=none:=by
  intro hno;rw[List.findIdx?_eq_none_iff];intro v hv;obtain⟨j,hj⟩:=List.mem_iff_getElem?.1 hv;exact hno j (List.getElem?_eq_some_iff.1 hj).1 v hj
 refine con_of_HTA Tryz.func153 ?_;simp only[Tryz.f153];refine HT_sA ?_;refine HT_seq<|HT_seq<|HT_runA ?_;refine HT_block<|(HT_loopU [0,1,7] (fun(x:Nat)=>[(8,.v (li x))]) (fun x=>[]) (fun x=>x≤l.length∧∀j:Nat,j<x→∀v,l[j]? =some v→p v=false) (fun x=>l.length - x) (0:Nat) ⟨Nat.zero_le _,fun j hj=>absurd hj (Nat.not_lt_zero j)⟩ ?_ ?_)
 · exact le_mkA (fun n=>n) []
 rintro k ⟨hk,hJ⟩;simp only[upS,keepS,insS]
 try simp only[keepS,KN,Nat.reduceBEq,if_true,if_false,ins,Nat.reduceLT]
 refine HT_sA ?_;refine HT_seq<|(HT_cond rfl (fun h4=>HT_skip ?_) (fun h4=>?_))
 · (try simp only[BN]at h4);have hlt:k<l.length:=by omega
   obtain⟨⟨sd,sc,sv,sn,⟨so,stn,sks⟩,sa,sb,sbs⟩,he,hd⟩:=at_lt hlt;have hw1:=wrap1 hlt (by omega);have hk1:k+1≤l.length:=hlt;have he':=get_encS he;simp only[St.enc,Tm.enc,List.cons_append,List.nil_append]at he';have hpv:=hp _ (List.mem_of_getElem? he);have hs:=hstep k hJ _ he;simp only[aS,St.enc,Tm.enc,List.map_cons,List.map_nil,List.cons_append,List.nil_append]at hpv;clear hlt h4 hstep hnone hp hd;refine HT_seq<|HT_block<|HT_seq<|HT_runA ?_;refine HT_scA [⟨true,.v (lb (p (.mk sd sc sv sn (.mk so stn sks) sa sb sbs))),none⟩] ?_ ?_
   · first|exact hpv _|exact trivial|simpa[*]using hpv _
   refine(HT_cs rfl (fun h7=>?_) fun h7=>?_)
   · (try simp only[BN]at h7);rw[hs h7];refine HT_sA ?_;exact HT_rA
   (try simp only[BN]at h7);refine HT_runA ?_;exact⟨k+1,⟨hk1,fun j hj w hw=>(Nat.lt_succ_iff_lt_or_eq.1 hj).elim (fun h=>hJ j h w hw) (fun e=>by subst e;rw[he]at hw;cases hw;exact h7)⟩,by omega,le_mkA (fun n=>n) []⟩
 (try simp only[BN]at h4);rw[hnone fun j hj=>hJ j (by omega)];refine(HT_exit ?_);refine HT_sA ?_;exact HT_rA
theorem fi_iff {α:Type} (l:List α) (p:α→Bool):0≤(match l.findIdx? p with|some i=>(i:Int)|none=>-1)↔l.any p=true:=by
 rw[List.any_eq];cases h:l.findIdx? p with
 | none=>
   rw[List.findIdx?_eq_none_iff]at h;simp only[decide_eq_true_eq];constructor
   · intro h;omega
   rintro⟨v,hv,hpv⟩;have:=h v hv;rw[hpv]at this;cases this
 | some i=>
   rw[List.findIdx?_eq_some_iff_getElem]at h;obtain⟨hi,hpi,_⟩:=h;simp only[decide_eq_true_eq];exact⟨fun _=>⟨l[i],List.getElem_mem _,hpi⟩,fun _=>by omega⟩
theorem conS_con (l:List St) (g:FuncId) (cap:List CD) (p:St→Bool) (hl:l.length≤1000000000) (hp:∀v∈l,∀d,Con Tryz.prog g true (aS v::cap.map fun c=>.one (.c c)) (.v (lb (p v))) none d) (d:Nat):
  Con Tryz.prog 106 true [lS l,.one (.c (.fn g cap))] (.v (lb (l.any p))) none d:=by
 have hr:=idxS_con l g cap p hl hp;have hi:=fi_iff l p;obtain⟨r,hR⟩:∃r:Int,(match l.findIdx? p with|some i=>(i:Int)|none=>-1)=r:=⟨_,rfl⟩;rw[hR]at hr hi;have hd:decide (0≤r)=l.any p:=by rw[Bool.eq_iff_iff,decide_eq_true_eq];exact hi
 clear hi hp hR;refine con_of_HTA Tryz.func106 ?_;simp only[Tryz.f106];refine HT_sA ?_;refine HT_scA [⟨true,.v (li r),none⟩] ?_ ?_
 · first|exact hr _|exact trivial|simpa[*]using hr _
 exact HT_rA
theorem relL_any (hv:List Int):∀l:List St,relL hv l= !l.any fun s=> !relS hv s
 |[]=>by simp[relL]
 | s::l=>by
   have:=relL_any hv l;simp only[relL,List.any_cons,this];cases relS hv s<;>simp
theorem rel1_con (hv:List Int) (s:St) (hh:s.do_=5→0≤s.n∧s.n.toNat<hv.length) (ha:∀d:Nat,Con Tryz.prog 66 true [lS s.then_,lI hv] (.v (lb (relL hv s.then_))) none d)
  (hb:∀d:Nat,Con Tryz.prog 66 true [lS s.else_,lI hv] (.v (lb (relL hv s.else_))) none d) (d:Nat):
  Con Tryz.prog 107 true [aS s,.one (.c (.ptr [.sl 1 (encIs hv)]))] (.v (lb (!relS hv s))) none d:=by
 obtain⟨sd,sc,sv,sn,⟨so,stn,sks⟩,sa,sb,sbs⟩:=s;simp only[St.then_,St.else_]at ha hb;simp only[St.do_,St.n]at hh;obtain⟨A,hA⟩:∃x,relL hv sa=x:=⟨_,rfl⟩;obtain⟨B,hB⟩:∃x,relL hv sb=x:=⟨_,rfl⟩;rw[hA]at ha;rw[hB]at hb;simp only[relS,hA,hB];clear hA hB
 have hcase:(¬0≤sn)∨(0≤sn∧hv[sn.toNat]? =none)∨(0≤sn∧∃y,hv[sn.toNat]? =some y):=by
  by_cases h0:0≤sn
  · cases hv[sn.toNat]? with
    |none=>exact .inr (.inl ⟨h0,rfl⟩)
    |some y=>exact .inr (.inr ⟨h0,y,rfl⟩)
  exact .inl h0
 rcases hcase with h0|⟨h0,hy⟩|⟨h0,y,hy⟩
 · have h5:¬sd=5:=fun h=>h0 (hh h).1;clear hh;refine con_of_HTA Tryz.func107 ?_;simp only[Tryz.f107];simp only[aS,St.enc,Tm.enc,List.map_cons,List.map_nil,List.cons_append,List.nil_append];refine HT_sA ?_;refine HT_scA [⟨true,.v (lb A),none⟩,⟨true,.v (lb B),none⟩] ?_ ?_
   · first|exact⟨ha _,hb _⟩|exact trivial|(repeat' first|exact trivial|exact ha _|exact hb _|apply And.intro)
   exact HT_rA
 · have h5:¬sd=5:=fun h=>by
    have:=(hh h).2;rw[List.getElem?_eq_none_iff]at hy;omega
   clear hh;refine con_of_HTA Tryz.func107 ?_;simp only[Tryz.f107];simp only[aS,St.enc,Tm.enc,List.map_cons,List.map_nil,List.cons_append,List.nil_append];refine HT_sA ?_;refine HT_scA [⟨true,.v (lb A),none⟩,⟨true,.v (lb B),none⟩] ?_ ?_
   · first|exact⟨ha _,hb _⟩|exact trivial|(repeat' first|exact trivial|exact ha _|exact hb _|apply And.intro)
   exact HT_rA
 clear hh;rw[hy];simp only[Option.getD_some];by_cases h5:sd=5
 · subst h5;by_cases hy0:y<0
   · skip
     refine con_of_HTA Tryz.func107 ?_;simp only[Tryz.f107];simp only[aS,St.enc,Tm.enc,List.map_cons,List.map_nil,List.cons_append,List.nil_append];refine HT_sA ?_;refine HT_seq<|(HT_runcS [none,none] (by simp[*];first|exact⟨rfl,trivial⟩|exact⟨rfl,Iff.rfl⟩|rfl) ?_ ?_)
     · trivial
     exact HT_rA
   skip
   refine con_of_HTA Tryz.func107 ?_;simp only[Tryz.f107];simp only[aS,St.enc,Tm.enc,List.map_cons,List.map_nil,List.cons_append,List.nil_append];refine HT_sA ?_;refine HT_scA [⟨true,.v (lb A),none⟩,⟨true,.v (lb B),none⟩] ?_ ?_
   · first|exact⟨ha _,hb _⟩|exact trivial|(repeat' first|exact trivial|exact ha _|exact hb _|apply And.intro)
   exact HT_rA
 skip
 refine con_of_HTA Tryz.func107 ?_;simp only[Tryz.f107];simp only[aS,St.enc,Tm.enc,List.map_cons,List.map_nil,List.cons_append,List.nil_append];refine HT_sA ?_;refine HT_scA [⟨true,.v (lb A),none⟩,⟨true,.v (lb B),none⟩] ?_ ?_
 · first|exact⟨ha _,hb _⟩|exact trivial|(repeat' first|exact trivial|exact ha _|exact hb _|apply And.intro)
 exact HT_rA
theorem rel_con (vars:List Vr) (hv:List Int) (l:List St):nodesS l≤1000000000→wfL vars hv.length l=true→∀d:Nat,Con Tryz.prog 66 true [lS l,lI hv] (.v (lb (relL hv l))) none d:=by
 revert l
 apply St.lists;intro l ih hn hw d;have hln:=len_nodesS l
 have cc:=conS_con l 107 [.ptr [.sl 1 (encIs hv)]] (fun s=> !relS hv s) (by omega) (fun s hm d=>by
  have hnm:=nodesS_mem hm;have hwm:=wfL_mem hw hm;have ia:=fun h1 h2=>(ih s hm).1 h1 h2;have ib:=fun h1 h2=>(ih s hm).2 h1 h2;obtain⟨sd,sc,sv,sn,t,sa,sb,sbs⟩:=s;simp only[St.then_,St.else_]at ia ib hnm;simp only[wfS,Bool.and_eq_true,Bool.or_eq_true,decide_eq_true_eq]at hwm;refine rel1_con hv (.mk sd sc sv sn t sa sb sbs) (fun h5=>?_) (ia (by omega) hwm.2.2.2.2.2.1) (ib (by omega) hwm.2.2.2.2.2.2) d;simp only[St.do_,St.n]at h5⊢;have:=hwm.2.2.1.resolve_left (by omega)
  omega)
 rw[relL_any];obtain⟨R,hR⟩:∃x,(l.any fun s=> !relS hv s)=x:=⟨_,rfl⟩;rw[hR]at cc⊢;clear ih hR;refine con_of_HTA Tryz.func66 ?_;simp only[Tryz.f66];refine HT_sA ?_;refine HT_scA [⟨true,.v (lb R),none⟩] ?_ ?_
 · first|exact cc _|exact trivial|simpa[*]using cc _
 exact HT_rA
end Go.Proofs.YtfjidddhehckoaaGreat

namespace Go.Proofs.YtfjidddhehckoaaGreat
open Go Go.Hl
theorem spanR_con (l:List St):nodesS l≤1000000000→∀d:Nat,Con Tryz.prog 129 true [lS l] (.tup [li (spL l (0,0)).1,li (spL l (0,0)).2]) none d:=by
 revert l
 apply St.lists;intro l ih hn d;have hlen:=len_nodesS l;obtain⟨res,hres⟩:∃r,spL l (0,0)=r:=⟨_,rfl⟩;rw[hres];refine con_of_HTA Tryz.func129 ?_;simp only[Tryz.f129];refine HT_sA ?_;refine HT_sA ?_;refine HT_seq<|HT_seq<|HT_runA ?_;refine HT_block<|(HT_loopU [0] (fun(x:Nat×Int×Int)=>[(4,.v (li x.2.1)),(5,.v (li x.2.2)),(6,.v (li x.1))]) (fun x=>[]) (fun x=>x.1≤l.length∧spL (l.drop x.1) x.2=res∧inT x.2) (fun x=>l.length - x.1) (0,0,0) ⟨Nat.zero_le _,hres,inT0⟩ ?_ ?_)
 · exact le_mkA (fun n=>n) []
 rintro⟨k,m,q⟩ ⟨hk,hJ,hin⟩;simp only[upS,keepS,insS]
 try simp only[keepS,KN,Nat.reduceBEq,if_true,if_false,ins,Nat.reduceLT]
 simp only at hk hJ;unfold inT at hin;simp only at hin;clear hres;refine HT_seq<|HT_seq<|HT_runA ?_;refine(HT_cond rfl (fun h5=>HT_skip ?_) (fun h5=>?_))
 · (try simp only[BN]at h5);have hlt:k<l.length:=by omega
   obtain⟨s,he,hd⟩:=at_lt hlt;have hmem:s∈l:=List.mem_of_getElem? he;have hnm:=nodesS_mem hmem;have iha:=fun h=>(ih s hmem).1 h;have ihb:=fun h=>(ih s hmem).2 h;have hw1:=wrap1 hlt (by omega);have hk1:k+1≤l.length:=hlt;rw[hd]at hJ;simp only[spL]at hJ;have hsin:=spS_in s;obtain⟨pq,hpq⟩:∃pq,spS s=pq:=⟨_,rfl⟩;rw[hpq]at hJ hsin;obtain⟨sd,sc,sv,sn,⟨so,stn,sks⟩,sa,sb,sbs⟩:=s;simp only[St.then_,St.else_,St.term]at iha ihb hnm;have ca:=iha (by omega);have cb:=ihb (by omega);have he':=get_encS he;simp only[St.enc,Tm.enc,List.cons_append,List.nil_append]at he';simp only[spS]at hpq;have hxa:=spL_in sa (0,0) inT0;have hxb:=spL_in sb (0,0) inT0;obtain⟨xa,hxa'⟩:∃x,spL sa (0,0)=x:=⟨_,rfl⟩;obtain⟨xb,hxb'⟩:∃x,spL sb (0,0)=x:=⟨_,rfl⟩;have hci:=held_in (n:=sc) (lo:=0) (hi:=67108865) (by decide);have hni:=held_in (n:=sn) (lo:=0) (hi:=4096) (by decide);obtain⟨cc,hcc⟩:∃x,heldI sc 0 67108865=x:=⟨_,rfl⟩;obtain⟨nn,hnn⟩:∃x,heldI sn 0 4096=x:=⟨_,rfl⟩;have c1:=held_con sc 0 67108865;have c2:=held_con sn 0 4096;rw[hxa']at ca hxa hpq;rw[hxb']at cb hxb hpq;rw[hcc]at c1 hci hpq;rw[hnn]at c2 hni hpq;unfold inT at hxa hxb;unfold inU at hsin;clear hlt h5 iha ihb ih hxa' hxb' hcc hnn hmem hnm hd he;refine HT_seq<|HT_block<|HT_seq<|HT_runA ?_;refine HT_scA [⟨true,.v (li cc),none⟩] ?_ ?_
   · first|exact c1 _|exact trivial|simpa[*]using c1 _
   refine HT_scA [⟨true,.tup [li xa.1,li xa.2],none⟩] ?_ ?_
   · first|exact ca _|exact trivial|simpa[*]using ca _
   refine HT_scA [⟨true,.tup [li xb.1,li xb.2],none⟩] ?_ ?_
   · first|exact cb _|exact trivial|simpa[*]using cb _
   refine HT_sA ?_;refine(HT_cutU [0,4,5,6,7,8,9,10] (fun(z:Int×Int)=>[(13,.v (li z.1)),(14,.v (li z.2))]) (fun(z:Int×Int)=>[(7,.box [.c (iC sd),.c (iC sc),.c (iC sv),.c (iC sn),.c (iC so),.c (iC stn),.c (.sl 3 (encTs sks)),.c (.sl 10 (encSs sa)),.c (.sl 10 (encSs sb)),.c (.sl 1 (encIs sbs))])]) (fun(z:Int×Int)=>sd≠4→z=pq) ?_ ?_)
   ·
    refine HT_sA ?_;refine(HT_cs rfl (fun h13=>?_) fun h13=>?_)
    · (try simp only[BN]at h13);rw[if_pos h13]at hpq;subst hpq;have hw2:IntKind.i64.wrap (cc+mn xa.1 xb.1)=cc+mn xa.1 xb.1:=wrap_in (by simp only at hsin;omega) (by simp only at hsin;omega);have hw3:IntKind.i64.wrap (cc+mx xa.2 xb.2)=cc+mx xa.2 xb.2:=wrap_in (by simp only at hsin;omega) (by simp only at hsin;omega);clear hsin;refine(HT_runcA [⟨true,.v (li (mn xa.1 xb.1)),none⟩,⟨true,.v (li (mx xa.2 xb.2)),none⟩] ?_ ?_)
      · first|exact⟨least_con _ _ _,most_con _ _ _⟩|exact trivial|(repeat' first|exact trivial|exact least_con _ _ _|exact most_con _ _ _|apply And.intro)
      exact⟨(cc+mn xa.1 xb.1,cc+mx xa.2 xb.2),fun _=>rfl,le_mkA (fun n=>n) []⟩
    (try simp only[BN]at h13);rw[if_neg h13]at hpq;exact⟨(cc,cc),fun h=>by rw[if_neg h]at hpq;exact hpq,le_mkA (fun n=>n) []⟩
   rintro⟨p0,q0⟩ hz;simp only[upS,keepS,insS]
   try simp only[keepS,KN,Nat.reduceBEq,if_true,if_false,ins,Nat.reduceLT]
   refine(HT_cutU [0,4,5,6] (fun(z:Unit)=>[(13,.v (li pq.1)),(14,.v (li pq.2))]) (fun(z:Unit)=>[]) (fun(z:Unit)=>True) ?_ ?_)
   ·
    refine HT_sA ?_;refine(HT_cs rfl (fun h19=>?_) fun h19=>?_)
    · (try simp only[BN]at h19);rw[if_neg (by omega),if_pos h19]at hpq;have hm1:=mulT hni (z:=cc+xa.1) (by omega);have hm2:=mulT hni (z:=cc+xa.2) (by omega);have hw2:IntKind.i64.wrap (cc+xa.1)=cc+xa.1:=wrap_in (by omega) (by omega);have hw3:IntKind.i64.wrap (cc+xa.2)=cc+xa.2:=wrap_in (by omega) (by omega);have hw4:IntKind.i64.wrap (nn*(cc+xa.1))=nn*(cc+xa.1):=wrap_in (by omega) (by omega);have hw5:IntKind.i64.wrap (nn*(cc+xa.2))=nn*(cc+xa.2):=wrap_in (by omega) (by omega);clear hm1 hm2 hz;refine HT_scA [⟨true,.v (li nn),none⟩] ?_ ?_
      · first|exact c2 _|exact trivial|simpa[*]using c2 _
      refine HT_sA ?_;refine(HT_cutU [0,4,5,6,7,8,9,14,15] (fun(z:Unit)=>[(13,.v (li (onceI nn cc)))]) (fun(z:Unit)=>[(7,.box [.c (iC sd),.c (iC sc),.c (iC sv),.c (iC sn),.c (iC so),.c (iC stn),.c (.sl 3 (encTs sks)),.c (.sl 10 (encSs sa)),.c (.sl 10 (encSs sb)),.c (.sl 1 (encIs sbs))])]) (fun(z:Unit)=>True) ?_ ?_)
      ·
       refine HT_sA ?_;refine(HT_cs rfl (fun h24=>?_) fun h24=>?_)
       · (try simp only[BN]at h24);have hon:onceI nn cc=cc:=by unfold onceI;rw[if_pos h24]
         refine HT_runA ?_;exact⟨(),trivial,le_mkA (fun n=>n) []⟩
       (try simp only[BN]at h24);have hon:onceI nn cc=0:=by unfold onceI;rw[if_neg h24]
       exact⟨(),trivial,le_mkA (fun n=>n) []⟩
      rintro z hz;simp only[upS,keepS,insS]
      try simp only[keepS,KN,Nat.reduceBEq,if_true,if_false,ins,Nat.reduceLT]
      refine(HT_cutU [0,4,5,6,7,14] (fun(z:Unit)=>[(13,.v (li pq.1))]) (fun(z:Unit)=>[(7,.box [.c (iC sd),.c (iC sc),.c (iC sv),.c (iC sn),.c (iC so),.c (iC stn),.c (.sl 3 (encTs sks)),.c (.sl 10 (encSs sa)),.c (.sl 10 (encSs sb)),.c (.sl 1 (encIs sbs))])]) (fun(z:Unit)=>True) ?_ ?_)
      ·
       refine HT_sA ?_;refine(HT_cs rfl (fun h30=>?_) fun h30=>?_)
       · (try simp only[BN]at h30);rw[if_neg (fun h=>h h30.1),if_pos h30.2]at hpq;subst hpq;refine HT_runA ?_;exact⟨(),trivial,le_mkA (fun n=>n) []⟩
       try simp only[BN]at h30
       have hp1:onceI nn cc=pq.1:=by
        by_cases h:so=0
        · rw[if_neg (fun h2=>h2 h),if_neg (fun h2=>by rcases h30 with h3|h3;exact h3 h;exact h2 h3)]at hpq;rw[←hpq]
        rw[if_pos h]at hpq;rw[←hpq]
       clear hpq;exact⟨(),trivial,le_mkA (fun n=>n) []⟩
      rintro z hz;simp only[upS,keepS,insS]
      try simp only[keepS,KN,Nat.reduceBEq,if_true,if_false,ins,Nat.reduceLT]
      refine HT_sA ?_;refine(HT_cs rfl (fun h35=>?_) fun h35=>?_)
      · (try simp only[BN]at h35);rw[if_neg (fun h=>h h35.1),if_neg (fun h=>h h35.2)]at hpq;subst hpq;refine HT_runA ?_;exact⟨(),trivial,le_mkA (fun n=>n) []⟩
      try simp only[BN]at h35
      have hp2:nn*(cc+xa.2)=pq.2:=by
       by_cases h:so=0
       · rw[if_neg (fun h2=>h2 h),if_pos (by rcases h35 with h3|h3;exact absurd h h3;exact h3)]at hpq;rw[←hpq]
       rw[if_pos h]at hpq;rw[←hpq]
      clear hpq;exact⟨(),trivial,le_mkA (fun n=>n) []⟩
    (try simp only[BN]at h19);have hz2:=hz h19;have hp1:p0=pq.1:=by rw[←hz2]
    have hp2:q0=pq.2:=by rw[←hz2]
    clear hpq hz hz2;exact⟨(),trivial,le_mkA (fun n=>n) []⟩
   rintro _ _;simp only[upS,keepS,insS]
   try simp only[keepS,KN,Nat.reduceBEq,if_true,if_false,ins,Nat.reduceLT]
   clear hpq ca cb c1 c2 hci hni hxa hxb hz;have hw2:IntKind.i64.wrap (m+pq.1)=m+pq.1:=wrap_in (by omega) (by omega);have hw3:IntKind.i64.wrap (q+pq.2)=q+pq.2:=wrap_in (by omega) (by omega);have hm1:=mn_in (a:=m+pq.1) (by omega);have hm2:=mn_in (a:=q+pq.2) (by omega);refine HT_scA [⟨true,.v (li (mn (m+pq.1) 67108865)),none⟩] ?_ ?_
   · first|exact least_con _ _ _|exact trivial|simpa[*]using least_con _ _ _
   refine(HT_runcA [⟨true,.v (li (mn (q+pq.2) 67108865)),none⟩] ?_ ?_)
   · first|exact least_con _ _ _|exact trivial|simpa[*]using least_con _ _ _
   refine HT_runA ?_;exact⟨(k+1,mn (m+pq.1) 67108865,mn (q+pq.2) 67108865),⟨hk1,hJ,hm1.1,hm1.2,hm2.1,hm2.2⟩,by simp only;omega,le_mkA (fun n=>n) []⟩
 (try simp only[BN]at h5);have hkl:k=l.length:=by omega
 rw[hkl,List.drop_length]at hJ;simp only[spL]at hJ;subst hJ;refine(HT_exit ?_);refine HT_sA ?_;exact HT_rA
end Go.Proofs.YtfjidddhehckoaaGreat
