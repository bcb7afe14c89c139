/- Part 22: contracts of functions of the program and of the reference, and plain facts about what they compute; used by the proof of the claimed statement. Conditions: as each theorem states. -/
import Derived.Test.YtfjidddhehckoaaGreatK21
import Derived.Test.YtfjidddhehckoaaGreatK18
import Derived.Test.YtfjidddhehckoaaGreatK13
set_option linter.unusedSimpArgs false
set_option linter.unusedVariables false
set_option linter.unnecessarySimpa false
set_option maxRecDepth 100000
set_option maxHeartbeats 2000000
namespace Go.Proofs.YtfjidddhehckoaaGreat
open Go Go.Hl
abbrev rP (p:Po) (hv:List Int) (A B:List (List CD)) (f1 f2 f3:List (List CD)) (t:Rt):List (Nat×Ob):=rO (.sl 5 f1) (.sl 6 f2) (.sl 10 f3) (.sl 1 A) (.sl 1 B) (iC p.bot) (.sl 1 (encIs hv)) (iC p.observer) t
section
variable {p:Po} {hv:List Int} {vars:List Vr} {fu:Nat} {A B:List (List CD)}
theorem joinedS_con (S:Sd p hv vars fu A B) (f1 f2 f3:List (List CD)) (t:Rt) (a b:List Int) (hl:b.length=a.length) (hal:a.length≤1000000) (ha:okV p.n a) (hb:okV p.n b):
  ConS Tryz.prog 126 (rP p hv A B f1 f2 f3 t) [.one (.at_ 1000000 0),lI a,lI b] (.v (lI (mgF p.J a b))) (rP p hv A B f1 f2 f3 t):=by
 have cj:=fun bt h w be cn fa tm x y hx hy=>rjoinT_con p S.hp S.hL (.sl 5 f1) (.sl 6 f2) (.sl 10 f3) bt h w be cn fa tm x y hx hy;obtain⟨J,hJ⟩:∃x,p.J=x:=⟨_,rfl⟩;obtain⟨N,hN⟩:∃x,p.n=x:=⟨_,rfl⟩;obtain⟨bo,hB⟩:∃x,p.bot=x:=⟨_,rfl⟩;obtain⟨W,hW⟩:∃x,p.observer=x:=⟨_,rfl⟩;simp only[rP,hJ,hN,hB,hW]at cj ha hb⊢;clear hJ hN hB hW S;have hml:(mgF J a b).length=a.length:=mgF_len J hl;obtain⟨be,cn,fa,tm⟩:=t;simp only[rO,rB];refine con_s_of_HT Tryz.func126 rfl (by kernel_rfl) (Nat.le_of_ble_eq_true rfl) (pin_mk rfl) ?_;simp only[Tryz.f126];refine HT_sA ?_;refine HT_sA ?_;refine HT_seq<|HT_seq<|HT_runA ?_;refine HT_block<|(HT_loopU [0,1,2,10] (fun(x:Nat)=>[(7,.v (.one (.own 900004))),(11,.v (li x))]) (fun x=>[(900001,.row 3 1 (encIs fa)),(900002,.row 32 1 (encLL be)),(900003,.row 3 1 (encIs cn)),(900004,.row 3 1 (encIs ((mgF J a b).take x))),(1000000,.box [.c (.sl 5 f1),.c (.sl 6 f2),.c (.sl 10 f3),.c (.sl 1 A),.c (.sl 1 B),.c (iC bo),.c (.sl 1 (encIs hv)),.c (iC W),.own 900002,.own 900003,.own 900001,.c (iC tm)])]) (fun x=>x≤a.length) (fun x=>a.length - x) (0:Nat) (Nat.zero_le _) ?_ ?_)
 · exact le_mkA (fun n=>n) [900004]
 rintro q hq;simp only[upS,keepS,insS]
 try simp only[keepS,KN,Nat.reduceBEq,if_true,if_false,ins,Nat.reduceLT]
 refine HT_sA ?_;refine HT_seq<|(HT_cond rfl (fun h5=>HT_skip ?_) (fun h5=>?_))
 · (try simp only[BN]at h5);have hqk:q<a.length:=by omega
   have hw1:=wrap1 hqk (by omega);have hq1:q+1≤a.length:=hqk;obtain⟨x,hx,_⟩:=at_lt hqk;obtain⟨y,hy,_⟩:=at_lt (show q<b.length by omega);have cj:=fun bt h w be cn fa tm=>cj bt h w be cn fa tm x y (ha x (List.mem_of_getElem? hx)) (hb y (List.mem_of_getElem? hy))
   have hsn:encIs ((mgF J a b).take (q+1))=encIs ((mgF J a b).take q)++[[iC (J x y)]]:=by
    have:(mgF J a b)[q]? =some (J x y):=by
     unfold mgF;rw[List.getElem?_zipWith,hx,hy]
    rw[List.take_add_one,this];simp[encIs]
   obtain⟨O,hO⟩:∃x,(mgF J a b).take q=x:=⟨_,rfl⟩;have hOl:O.length=q:=by rw[←hO,List.length_take];omega
   have hroom:room (q+1) 8:=room_of (by omega) (by omega);rw[hO]at hsn⊢;obtain⟨Q,hQ⟩:∃z,J x y=z:=⟨_,rfl⟩;simp only[hQ]at cj hsn;obtain⟨_,ex⟩:=List.getElem?_eq_some_iff.1 hx;obtain⟨_,ey⟩:=List.getElem?_eq_some_iff.1 hy;clear h5 hqk hQ hO ha hb;refine HT_seq<|HT_block<|HT_seq<|HT_runA ?_;refine(HT_drunc [⟨true,.v (li Q),none⟩] (by kernel_rfl) (by kernel_rfl) (by rfl) (by simp[*];first|exact⟨rfl,Iff.rfl⟩|exact⟨rfl,trivial⟩|rfl) ?_ ?_)
   · first|exact cj _ _ _ _ _ _ _ _|exact trivial|simpa[*]using cj _ _ _ _ _ _ _ _
   refine HT_runA ?_;exact⟨q+1,hq1,by omega,le_mkA (fun n=>if n=900004 then 26 else n) []⟩
 (try simp only[BN]at h5);have hkl:q=a.length:=by omega
 subst hkl;rw[List.take_of_length_le (by omega)];refine(HT_exit ?_);refine HT_sA ?_;exact HT_ret ⟨.inr rfl,HT_endL (le_frz 900004 rfl) (by simp;rfl) (by simp[resR]) (by simp)⟩
def CnL (p:Po) (hv:List Int) (vars:List Vr) (fu:Nat) (A B:List (List CD)) (f1 f2 f3:List (List CD)) (l:List St):Prop:=
 ∀(k:Nat) (pc:Int) (st:List Int) (t:Rt),okI p.n pc→okV p.n st→st.length=vars.length→rokB t k (szL l)→(t.faults++rfL (enP p hv) fu l k pc st).length≤17592186044416→okI p.n t.time→
  ConS Tryz.prog 55 (rP p hv A B f1 f2 f3 t) [.one (.at_ 1000000 0),lS l,li k,li pc,lI st] (.v (lI (ouL (enP p hv) fu l pc st))) (rP p hv A B f1 f2 f3 (rxL (enP p hv) fu l k pc st t))
def CnS (p:Po) (hv:List Int) (vars:List Vr) (fu:Nat) (A B:List (List CD)) (f1 f2 f3:List (List CD)) (s:St):Prop:=
 ∀(k:Nat) (pc:Int) (st:List Int) (t:Rt),okI p.n pc→okV p.n st→st.length=vars.length→rokB t k (szS s)→(t.faults++rfS (enP p hv) fu s k pc st).length≤17592186044416→okI p.n t.time→
  ConS Tryz.prog 93 (rP p hv A B f1 f2 f3 t) [.one (.at_ 1000000 0),aS s,li k,li pc,lI st] (.v (lI (ouS (enP p hv) fu s pc st))) (rP p hv A B f1 f2 f3 (rxS (enP p hv) fu s k pc st t))
theorem frL_mem {l:List St} (h:frL l) {s:St} (hs:s∈l):frS s:=by
 induction l with
 |nil=>cases hs
 | cons x l ih=>
   simp only[frL]at h;rcases List.mem_cons.1 hs with rfl|hs
   · exact h.1
   exact ih h.2 hs
theorem frL_drop:∀{l:List St},frL l→∀k:Nat,frL (l.drop k)
 |[],_,k=>by simp[frL]
 |s::l,h,0=>h
 | s::l,h,k+1=>by
   simp only[frL]at h;exact frL_drop h.2 k
theorem rtyL_con (S:Sd p hv vars fu A B) (f1 f2 f3:List (List CD)) (l:List St) (hn:nodesS l≤1000000) (hfr:frL l) (hih:∀s∈l,CnS p hv vars fu A B f1 f2 f3 s) (htm:∀s k pc st t,s∈l→okI p.n pc→okV p.n st→st.length=vars.length→okI p.n t.time→okI p.n (rxS (enP p hv) fu s k pc st t).time):CnL p hv vars fu A B f1 f2 f3 l:=by
 intro k pc st t hpc hos hls hrk hfl hto;obtain⟨hM,hn0,hn12⟩:=pol_new S.hp;have hgS:=fun s (st:List Int) h=>ouS_ok (e:=enP p hv) (J_ok hn0 hM) fu s pc st hpc h;obtain⟨e,he⟩:∃e:En,e=enP p hv:=⟨_,rfl⟩;have hne:e.n=p.n:=by rw[he]
 unfold CnS at hih;simp only[rP,←he]at hih hgS hfl htm⊢;obtain⟨bo,hB⟩:∃x,p.bot=x:=⟨_,rfl⟩;obtain⟨W,hW⟩:∃x,p.observer=x:=⟨_,rfl⟩;obtain⟨N,hN⟩:∃x,p.n=x:=⟨_,rfl⟩;simp only[hB,hW,hN]at hih hgS htm hpc hos hto⊢;clear hB hW hN he hne S hM hn0 hn12;obtain⟨X,hX⟩:∃x,ouL e fu l pc st=x:=⟨_,rfl⟩;obtain⟨F,hF⟩:∃x,rxL e fu l k pc st t=x:=⟨_,rfl⟩;obtain⟨z,hz⟩:∃x,t.faults++rfL e fu l k pc st=x:=⟨_,rfl⟩;rw[hX,hF];rw[hz]at hfl;have hlen:=len_nodesS l;have hszn:=szL_le l;obtain⟨Fb,Fc,Ff,Ft⟩:=F;simp only[rO,rB];refine con_s_of_HT Tryz.func55 rfl (by kernel_rfl) (Nat.le_of_ble_eq_true rfl) (pin_mk rfl) ?_;simp only[Tryz.f55];refine HT_sA ?_;refine HT_seq<|HT_seq<|HT_runA ?_;refine HT_block<|(HT_loopU [0,3,13,14] (fun(x:Nat×Nat×List Int×Rt)=>[(2,.v (li x.2.1)),(4,.v (lI x.2.2.1)),(15,.v (li x.1))]) (fun x=>[(900001,.row 3 1 (encIs x.2.2.2.faults)),(900002,.row 32 1 (encLL x.2.2.2.before)),(900003,.row 3 1 (encIs x.2.2.2.counts)),(1000000,.box [.c (.sl 5 f1),.c (.sl 6 f2),.c (.sl 10 f3),.c (.sl 1 A),.c (.sl 1 B),.c (iC bo),.c (.sl 1 (encIs hv)),.c (iC W),.own 900002,.own 900003,.own 900001,.c (iC x.2.2.2.time)])]) (fun x=>x.1≤l.length∧ouL e fu (l.drop x.1) pc x.2.2.1=X∧rxL e fu (l.drop x.1) x.2.1 pc x.2.2.1 x.2.2.2=⟨Fb,Fc,Ff,Ft⟩∧x.2.2.2.faults++rfL e fu (l.drop x.1) x.2.1 pc x.2.2.1=z∧okV N x.2.2.1∧x.2.2.1.length=vars.length∧rokB x.2.2.2 x.2.1 (szL (l.drop x.1))∧okI N x.2.2.2.time) (fun x=>l.length - x.1) (0,k,st,t) ⟨Nat.zero_le _,hX,hF,hz,hos,hls,hrk,hto⟩ ?_ ?_)
 · exact le_mkA (fun n=>n) []
 rintro⟨i,m,s,t1⟩ ⟨hi,iX,iF,iz,io,il,ir,it⟩;simp only[upS,keepS,insS]
 try simp only[keepS,KN,Nat.reduceBEq,if_true,if_false,ins,Nat.reduceLT]
 simp only at hi iX iF iz io il ir it;clear hX hF hz hos hls hrk hto;refine HT_sA ?_;refine HT_seq<|(HT_cond rfl (fun h4=>HT_skip ?_) (fun h4=>?_))
 · (try simp only[BN]at h4);have hlt:i<l.length:=by omega
   obtain⟨q,he,hd⟩:=at_lt hlt;have hw1:=wrap1 hlt (by omega);have hi1:i+1≤l.length:=hlt;have hmem:q∈l:=List.mem_of_getElem? he;have hnm:=nodesS_mem hmem;have hfq:=frL_mem hfr hmem;have hfd:=frL_drop hfr (i+1);have he':=get_encS he;rw[hd]at iX iF iz ir;simp only[szL]at ir;have ir0:=ir;simp only[ouL]at iX;rw[rxL_cons hfq hfd ir]at iF
   have iz0:(t1.faults++rfS e fu q m pc s).length≤17592186044416:=by
    rw[←iz]at hfl;simp only[rfL,List.length_append]at hfl⊢;omega
   have iz1:(rxS e fu q m pc s t1).faults++rfL e fu (l.drop (i+1)) (m+szS q) pc (ouS e fu q pc s)=z:=by
    rw[←iz];simp only[rxS,rfL,List.append_assoc]
   have ih:=hih q hmem m pc s t1 hpc io il ⟨by have:=ir.1;omega,ir.2⟩ iz0 it;have ir1:=rxS_ok (e:=e) (fu:=fu) (pc:=pc) (st:=s) hfq ir;have it1:=htm q m pc s t1 hmem hpc io il it;have io1:=hgS q s io;have ilY:(ouS e fu q pc s).length=vars.length:=by rw[io1.1,il]
   obtain⟨Y,hY⟩:∃x,ouS e fu q pc s=x:=⟨_,rfl⟩;obtain⟨T,hT⟩:∃x,rxS e fu q m pc s t1=x:=⟨_,rfl⟩;rw[hY,hT]at ih;rw[hY,hT]at iF iz1;rw[hY]at iX io1 ilY;rw[hT]at ir1 it1;have cs:=sizeR_con [q] (by cases q;simp only[nodesS,St.nodes,St.term,St.then_,St.else_]at hnm⊢;omega);have hszq:szL [q]=szS q:=by simp[szL]
   rw[hszq]at cs;have hsq:=szS_le q;have hmk:=ir0.1;have hbk:=ir0.2.2;obtain⟨ZZ,hZZ⟩:∃n,szS q=n:=⟨_,rfl⟩;rw[hZZ]at cs iF iz1 ir1 hmk hsq;have hw2:IntKind.i64.wrap ((m:Int)+(ZZ:Int))=((m+ZZ:Nat):Int):=by rw[wrap_in (by omega) (by omega)];rfl
   obtain⟨sd,sc,sv,sn,⟨so,stn,sks⟩,sa,sb,sbs⟩:=q;simp only[St.enc,Tm.enc,List.cons_append,List.nil_append]at he';simp only[aS,lS,St.enc,Tm.enc,encSs,List.map_cons,List.map_nil,List.cons_append,List.nil_append]at ih cs;obtain⟨b1,c1,x1,m1⟩:=t1;obtain⟨b2,c2,x2,m2⟩:=T;simp only[rO,rB]at ih;clear hlt h4 hih hmem hnm hfq hfd hd he hgS htm iz io il ir it hfl hfr hY hT hszq ir0 iz0 hZZ hszn;refine HT_seq<|HT_block<|HT_seq<|HT_runA ?_;refine HT_seq<|(HT_runsS ?_);refine RunsS.cutE 5 [] (by simp[*];rfl) trivial (le_refl _) ?_;refine RunsS.call (fun n=>n) (fun n=>if n<1000000 then n+10 else n) (by simp;rfl) (handS_mk (by simp) (by simp) (by simp) (by simp) (by simp)) ih (by rfl) ?_;refine RunsS.doneE [] (by simp;rfl) trivial ?_;clear ih;refine(HT_runcA [⟨true,.v (li ZZ),none⟩] ?_ ?_)
   · first|exact cs _|exact trivial|simpa[*]using cs _
   refine HT_runA ?_;exact⟨(i+1,m+ZZ,Y,⟨b2,c2,x2,m2⟩),⟨hi1,iX,iF,iz1,io1.2,ilY,ir1,it1⟩,by simp only;omega,le_mkA (fun n=>if 900001≤n∧n≤900003 then n+10 else n) []⟩
 (try simp only[BN]at h4);have hil:i=l.length:=by omega
 rw[hil,List.drop_length]at iX iF;simp only[ouL]at iX;rw[rxL_nil]at iF;subst iX iF;refine(HT_exit ?_);refine HT_sA ?_;exact HT_ret ⟨.inr rfl,HT_endS (by simp;rfl) (by simp[resR]) (by simp[*])⟩
end
end Go.Proofs.YtfjidddhehckoaaGreat

namespace Go.Proofs.YtfjidddhehckoaaGreat
open Go Go.Hl
theorem known_con (d:Nat):Con Tryz.prog 9 true [] (.v (lb true)) none d:=by
 obtain⟨t0,h0⟩:=xchk0;obtain⟨t1,h1⟩:=xchk1;have c0:=checkT_con XF (XP 0) ⟨by decide,by decide,by decide,by decide⟩ (repC_holds (by decide)) (by decide) (by decide) (by decide) (by kernel_rfl) (fun _=>by rw[tyE_of xset,xty0.1];decide);have c1:=checkT_con XF (XP 1) ⟨by decide,by decide,by decide,by decide⟩ (repC_holds (by decide)) (by decide) (by decide) (by decide) (by kernel_rfl) (fun _=>by rw[tyE_of xset,xty1.1];decide);rw[h0]at c0;rw[h1]at c1;have he1:=eqSl_con [2] [2] (by decide) (by decide);have he2:=eqSl_con [1,1] [1,1] (by decide) (by decide);have hq1:room 1 144:=room_of (by decide) (by decide);have hq2:room 2 144:=room_of (by decide) (by decide);have hq3:room 2 48:=room_of (by decide) (by decide);have hq4:room 2 16:=room_of (by decide) (by decide);have hq5:room 1 16:=room_of (by decide) (by decide);have hq6:room 1 8:=room_of (by decide) (by decide);have hq7:room 2 8:=room_of (by decide) (by decide);clear h0 h1;simp only[XF,XP,xVs,x0,x1,xS,aF,aPo,Po.enc,encNs,encPr,encLs,Fl.enc,Vr.enc,encVs,encHs,encIs,encSs,encTs,St.enc,Tm.enc,aT,aTg,List.map_cons,List.map_nil,List.cons_append,List.nil_append]at c0 c1 he1 he2;refine con_of_HTA Tryz.func9 ?_;simp only[Tryz.f9];refine HT_sA ?_;refine HT_seq<|(HT_runsF ?_);refine RunsF.cutE 6 [] (by simp[*,allTyped,fillC,placeOf];rfl) trivial (le_agg 13 [.c (iC 0),.c (iC 0),.c (iC 1),.c (iC 0),.c (iC 0),.c (iC 1),.c (.sl 3 []),.c (.sl 10 []),.c (.sl 10 []),.c (.sl 1 [])] rfl (by(repeat'(first|exact LWk.nil|apply LWk.cons|exact CWk.refl _|exact CWk.nil _)))) ?_;refine RunsF.cutE 1 [] (by simp[*,allTyped,fillC,placeOf];rfl) trivial (le_frz 14 rfl) ?_;refine RunsF.cutE 3 [] (by simp[*,allTyped,fillC,placeOf];rfl) trivial (le_trans (le_agg 15 [.c (iC 3),.c (iC 0),.c (iC 0),.c (iC 0),.c (iC 24),.c (iC 0),.c (.sl 3 []),.c (.sl 10 [[iC 0,iC 0,iC 1,iC 0,iC 0,iC 1,.sl 3 [],.sl 10 [],.sl 10 [],.sl 1 []]]),.c (.sl 10 []),.c (.sl 1 [])] rfl (by(repeat'(first|exact LWk.nil|apply LWk.cons|exact CWk.refl _|exact CWk.nil _)))) (le_agg 17 [.c (iC 1),.c (iC 0),.c (iC 0),.c (iC 0),.c (iC 24),.c (iC 1),.c (.sl 3 []),.c (.sl 10 []),.c (.sl 10 []),.c (.sl 1 [])] rfl (by(repeat'(first|exact LWk.nil|apply LWk.cons|exact CWk.refl _|exact CWk.nil _))))) ?_;refine RunsF.cutE 1 [] (by simp[*,allTyped,fillC,placeOf];rfl) trivial (le_trans (le_frz 10 rfl) (le_frz 18 rfl)) ?_;refine RunsF.cutE 1 [] (by simp[*,allTyped,fillC,placeOf];rfl) trivial (le_agg 19 [.c (.sl 5 [[sC ⟨#[120]⟩,iC 1,iC 0,iC 1,iC 0],[sC ⟨#[121]⟩,iC 0,iC 0,iC 1,iC 0]]),.c (.sl 6 []),.c (.sl 10 [[iC 3,iC 0,iC 0,iC 0,iC 24,iC 0,.sl 3 [],.sl 10 [[iC 0,iC 0,iC 1,iC 0,iC 0,iC 1,.sl 3 [],.sl 10 [],.sl 10 [],.sl 1 []]],.sl 10 [],.sl 1 []],[iC 1,iC 0,iC 0,iC 0,iC 24,iC 1,.sl 3 [],.sl 10 [],.sl 10 [],.sl 1 []]])] rfl (by(repeat'(first|exact LWk.nil|apply LWk.cons|exact CWk.refl _|exact CWk.nil _)))) ?_;refine RunsF.doneE [] (by simp[*,allTyped,fillC,placeOf];rfl) trivial ?_;refine HT_seq<|(HT_runsF ?_);refine RunsF.cutE 3 [] (by simp[*,allTyped,fillC,placeOf];rfl) trivial (le_trans (le_frz 20 rfl) (le_frz 22 rfl)) ?_;refine RunsF.cutE 1 [] (by simp[*,allTyped,fillC,placeOf];rfl) trivial (le_agg 23 [.c (.sl 1 [[sC ⟨#[108,111,119]⟩],[sC ⟨#[104,105,103,104]⟩]]),.c (.sl 2 [[iC 0,iC 1]]),.c (.sl 2 []),.c (.sl 2 []),.c (iC 0),.c (bC false)] rfl (by(repeat'(first|exact LWk.nil|apply LWk.cons|exact CWk.refl _|exact CWk.nil _)))) ?_;refine RunsF.doneE [] (by simp[*,allTyped,fillC,placeOf];rfl) trivial ?_;refine HT_scA [⟨false,.tup [.agg [.c (bC false),.c (.sl 1 [[iC 2]]),.c (iC t0),.c (.sl 1 [[iC 1],[iC 1]])],li 0],none⟩] ?_ ?_
 · first|exact c0 _|exact trivial|simpa[*]using c0 _
 refine HT_sA ?_;refine HT_sA ?_;refine HT_scA [⟨false,.tup [.agg [.c (bC true),.c (.sl 1 []),.c (iC t1),.c (.sl 1 [[iC 1],[iC 1]])],li 0],none⟩] ?_ ?_
 · first|exact c1 _|exact trivial|simpa[*]using c1 _
 refine HT_scA [⟨true,.v (lb true),none⟩,⟨true,.v (lb true),none⟩] ?_ ?_
 · first|exact⟨he1 _,he2 _⟩|exact trivial|(repeat' first|exact trivial|exact he1 _|exact he2 _|apply And.intro)
 exact HT_rA
end Go.Proofs.YtfjidddhehckoaaGreat

namespace Go.Proofs.YtfjidddhehckoaaGreat
open Go Go.Hl
theorem evenR_con (l:List St) (hn:nodesS l≤1000000000) (d:Nat):Con Tryz.prog 130 true [lS l] (.v (lb (evenB l))) none d:=by
 have cs:=spanR_con l hn;unfold evenB;obtain⟨⟨A,B⟩,hAB⟩:∃x,spL l (0,0)=x:=⟨_,rfl⟩;rw[hAB]at cs⊢;simp only at cs⊢;clear hAB;refine con_of_HTA Tryz.func130 ?_;simp only[Tryz.f130];refine HT_sA ?_;refine HT_scA [⟨true,.tup [li A,li B],none⟩] ?_ ?_
 · first|exact cs _|exact trivial|simpa[*]using cs _
 refine HT_sA ?_;exact HT_rA
end Go.Proofs.YtfjidddhehckoaaGreat

namespace Go.Proofs.YtfjidddhehckoaaGreat
open Go Go.Hl
theorem set_encLL (l:List (List Int)) (k:Nat) (s:List Int):(encLL l).set k [.sl 1 (encIs s)]=encLL (l.set k s):=by simp[encLL,List.map_set]
@[simp] theorem encLL_getE (l:List (List Int)) (i:Nat) (h:i<(encLL l).length):(encLL l)[i]'h=[.sl 1 (encIs (l[i]'(by simpa using h)))]:=by simp[encLL]
theorem set_encIs (l:List Int) (k:Nat) (x:Int):(encIs l).set k [iC x]=encIs (l.set k x):=by simp[encIs,List.map_set]
theorem bot_le {p:Po} (h:polC p=0) {hv:List Int} {W:Int}:∀w,okI p.n w→(⟨p.n,p.M,hv,W⟩:En).L p.bot w:=by
 obtain⟨hM,h1,h2⟩:=pol_new h;intro w hw;have:=(hM.flp.top h1 p.n (Nat.le_refl _)).2 w.toNat (by obtain⟨a,b⟩:=hw;omega);simpa[En.L,Po.bot,Lt.flp]using this
section
variable {p:Po} {hv:List Int} {vars:List Vr} {fu:Nat} {A B:List (List CD)}
theorem levN_con (S:Sd p hv vars fu A B) (f1 f2 f3:List (List CD)) (t:Tm) (ht:formB vars false t=true) (hn:t.nodes≤1000000) (pc:Int) (st:List Int) (hpc:okI p.n pc) (hst:st.length=vars.length) (ho:okV p.n st):
  ∃R,∀be cn fa tm:CD,(∀d,Con Tryz.prog 128 true [ptR (.sl 5 f1) (.sl 6 f2) (.sl 10 f3) (.sl 1 A) (.sl 1 B) (iC p.bot) (.sl 1 (encIs hv)) (iC p.observer) be cn fa tm,aT t,lI st] (.v (li R)) none d)∧∀d,Con Tryz.prog 127 true [ptR (.sl 5 f1) (.sl 6 f2) (.sl 10 f3) (.sl 1 A) (.sl 1 B) (iC p.bot) (.sl 1 (encIs hv)) (iC p.observer) be cn fa tm,li pc,li R] (.v (li (tlT p.J st t pc))) none d:=by
 obtain⟨hM,hn0,hn12⟩:=pol_new S.hp;have hb:=bot_ok S.hp;have hro:=rlT_ok (e:=⟨p.n,p.M,[],0⟩) (vars:=vars) (inp:=false) hn0 hM hb ho hst t ht;refine⟨rlT p.J p.bot st t,fun be cn fa tm=>⟨fun d=>rlevT_con p S.hp S.hL (.sl 5 f1) (.sl 6 f2) (.sl 10 f3) _ _ be cn fa tm vars st hst ho t ht hn d,fun d=>?_⟩⟩;have:=rjoinT_con p S.hp S.hL (.sl 5 f1) (.sl 6 f2) (.sl 10 f3) (iC p.bot) (.sl 1 (encIs hv)) (iC p.observer) be cn fa tm pc _ hpc hro d;have he:p.J pc (rlT (En.J ⟨p.n,p.M,[],0⟩) p.bot st t)=tlT p.J st t pc:=rl_eq (e:=⟨p.n,p.M,[],0⟩) hn0 hM hb (bot_le S.hp) ho hst t pc ht hpc;rw[he]at this;exact this
theorem foldJ_ok {n:Nat} {J:Int→Int→Int} (hJ:∀a b,okI n (J a b)):∀(l:List Int) (x:Int),okI n x→okI n (l.foldl J x)
 |[],x,h=>h
 |y::l,x,h=>foldJ_ok hJ l _ (hJ _ _)
theorem rty_pre (S:Sd p hv vars fu A B) (sd sc sv sn so stn:Int) (sks:List Tm) (sa sb:List St) (sbs:List Int) (hfa:frL sa) (hfb:frL sb)
  {k:Nat} {pc:Int} {st:List Int} {t:Rt} (hpc:okI p.n pc) (hos:okV p.n st) (hls:st.length=vars.length) (hrk:rokB t k (1+szL sa+szL sb)) (hto:okI p.n t.time):
  ∃ (X:List Int) (T1:Rt) (Nn:Int),okV p.n X∧X.length=vars.length∧rokB T1 k (1+szL sa+szL sb)∧okI p.n T1.time∧okI p.n Nn∧tlT p.J X (.mk so stn sks) pc=Nn∧
   (sd≠4→X=st∧T1=t)∧(sd=4→fxF p.J (fun s=>tlT p.J s (.mk so stn sks) pc) (ouL (enP p hv) fu sa) fu st=X∧finR (enP p hv) fu sa k (fun s=>tlT p.J s (.mk so stn sks) pc) X fu st t=T1)∧
   (sd=0→ouS (enP p hv) fu (.mk sd sc sv sn (.mk so stn sks) sa sb sbs) pc st=X.set sv.toNat Nn∧rxS (enP p hv) fu (.mk sd sc sv sn (.mk so stn sks) sa sb sbs) k pc st t=recR T1 k X pc)∧
   (sd=5→ouS (enP p hv) fu (.mk sd sc sv sn (.mk so stn sks) sa sb sbs) pc st=X.set sv.toNat (p.J pc ((hv[sn.toNat]?).getD 0))∧rxS (enP p hv) fu (.mk sd sc sv sn (.mk so stn sks) sa sb sbs) k pc st t=recR T1 k X pc)∧
   (sd=1→ouS (enP p hv) fu (.mk sd sc sv sn (.mk so stn sks) sa sb sbs) pc st=X∧rxS (enP p hv) fu (.mk sd sc sv sn (.mk so stn sks) sa sb sbs) k pc st t=if p.B Nn p.observer=true then recR T1 k X pc else⟨T1.before.set k X,T1.counts.set k pc,T1.faults++[(k:Int)],T1.time⟩)∧
   (sd=3→ouS (enP p hv) fu (.mk sd sc sv sn (.mk so stn sks) sa sb sbs) pc st=mgF p.J (ouL (enP p hv) fu sa Nn X) (ouL (enP p hv) fu sb Nn X)∧rxS (enP p hv) fu (.mk sd sc sv sn (.mk so stn sks) sa sb sbs) k pc st t=
    if alikeB sa sb=true then rxL (enP p hv) fu sb (k+1+szL sa) Nn X (rxL (enP p hv) fu sa (k+1) Nn X (recR T1 k X pc))else let T:=rxL (enP p hv) fu sb (k+1+szL sa) Nn X (rxL (enP p hv) fu sa (k+1) Nn X (recR T1 k X pc));⟨T.before,T.counts,T.faults,p.J T.time Nn⟩)∧
   (sd=4→ouS (enP p hv) fu (.mk sd sc sv sn (.mk so stn sks) sa sb sbs) pc st=X∧rxS (enP p hv) fu (.mk sd sc sv sn (.mk so stn sks) sa sb sbs) k pc st t=if so≠0∨evenB sa=false then⟨T1.before.set k X,T1.counts.set k pc,T1.faults,p.J T1.time Nn⟩ else recR T1 k X pc)∧
   (sd≠0→sd≠5→sd≠1→sd≠3→sd≠4→ouS (enP p hv) fu (.mk sd sc sv sn (.mk so stn sks) sa sb sbs) pc st=X∧rxS (enP p hv) fu (.mk sd sc sv sn (.mk so stn sks) sa sb sbs) k pc st t=recR T1 k X pc)∧
   (∃z,T1.faults++z=t.faults++rfS (enP p hv) fu (.mk sd sc sv sn (.mk so stn sks) sa sb sbs) k pc st):=by
 obtain⟨hM,hn0,hn12⟩:=pol_new S.hp;have hJ:∀a b,okI p.n (p.J a b):=J_ok (e:=enP p hv) hn0 hM;have hnl:∀s,okV p.n s→okI p.n (tlT p.J s (.mk so stn sks) pc):=fun s _=>tlT_ok hJ s _ pc hpc;have hk:k<t.before.length:=by have:=hrk.1;omega
 have hone:=fun(h3:¬sd=3) (h4:¬sd=4)=>rxS_one (e:=enP p hv) (fu:=fu) (k:=k) (pc:=pc) (st:=st) (t:=t) (c:=sc) (v:=sv) (n:=sn) (tm:=.mk so stn sks) (a:=sa) (b:=sb) (bs:=sbs) h3 h4 hk hrk.2.1;have hno:∀h1:¬sd=1,fltB (enP p hv) (.mk sd sc sv sn (.mk so stn sks) sa sb sbs,st,pc)=false:=fun h1=>by simp[fltB,St.do_,h1]
 by_cases h4:sd=4
 · obtain⟨g1,g2⟩:=fx_okN (e:=enP p hv) (fu:=fu) (tm:=.mk so stn sks) (a:=sa) (st:=st) hJ hpc hos;refine⟨_,finR (enP p hv) fu sa k (fun s=>tlT p.J s (.mk so stn sks) pc) (fxF p.J (fun s=>tlT p.J s (.mk so stn sks) pc) (ouL (enP p hv) fu sa) fu st) fu st t,_,g2,g1.trans hls,fin_ok hfa hrk,foldJ_ok hJ _ _ hto,tlT_ok hJ _ _ pc hpc,rfl,fun h=>absurd h4 h,fun _=>⟨rfl,rfl⟩,fun h=>by omega,fun h=>by omega,fun h=>by omega,fun h=>by omega,fun _=>⟨?_,?_⟩,fun _ _ _ _ h=>absurd h4 h,?_⟩
   · simp only[ouS,h4,if_true]
   · exact rxS_loop (e:=enP p hv) h4 rfl hfa ⟨by have:=hrk.1;omega,hrk.2⟩
   refine⟨[],?_⟩;simp only[finR,rfS,h4,if_true,List.append_nil];rfl
 refine⟨st,t,_,hos,hls,hrk,hto,tlT_ok hJ st _ pc hpc,rfl,fun _=>⟨rfl,rfl⟩,fun h=>absurd h h4,fun h=>⟨?_,?_⟩,fun h=>⟨?_,?_⟩,fun h=>⟨?_,?_⟩,fun h=>⟨?_,?_⟩,fun h=>absurd h h4,fun h0 h5 h1 h3 _=>⟨?_,?_⟩,⟨_,rfl⟩⟩
 · simp only[ouS,if_neg h4,if_pos h];rfl
 · rw[hone (by omega) h4,hno (by omega)];simp[recR]
 · simp only[ouS,if_neg h4,if_neg (show ¬sd=0 by omega),if_pos h];rfl
 · rw[hone (by omega) h4,hno (by omega)];simp[recR]
 · simp only[ouS,if_neg h4,if_neg (show ¬sd=0 by omega),if_neg (show ¬sd=5 by omega),if_neg (show ¬sd=3 by omega)]
 · rw[hone (by omega) h4]
   have:fltB (enP p hv) (.mk sd sc sv sn (.mk so stn sks) sa sb sbs,st,pc)= !p.B (tlT p.J st (.mk so stn sks) pc) p.observer:=by
    simp only[fltB,St.do_,h,St.term,decide_true,Bool.true_and];rfl
   rw[this];cases p.B (tlT p.J st (.mk so stn sks) pc) p.observer<;>simp[recR]
 · simp only[ouS,if_neg h4,if_neg (show ¬sd=0 by omega),if_neg (show ¬sd=5 by omega),if_pos h];rfl
 · exact rxS_if (e:=enP p hv) h hfa hfb hrk
 · simp only[ouS,if_neg h4,if_neg h0,if_neg h5,if_neg h3]
 rw[hone h3 h4,hno h1];simp[recR]
end
end Go.Proofs.YtfjidddhehckoaaGreat
