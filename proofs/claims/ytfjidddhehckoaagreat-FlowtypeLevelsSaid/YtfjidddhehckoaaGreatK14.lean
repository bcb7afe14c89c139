/- Part 14: contracts of functions of the program and of the reference, and plain facts about what they compute; used by the proof of the claimed statement. Conditions: as each theorem states. -/
import Derived.Test.YtfjidddhehckoaaGreatK13
import Derived.Test.YtfjidddhehckoaaGreatK3
set_option linter.unusedSimpArgs false
set_option linter.unusedVariables false
set_option linter.unnecessarySimpa false
set_option maxRecDepth 100000
set_option maxHeartbeats 2000000
namespace Go.Proofs.YtfjidddhehckoaaGreat
open Go Go.Hl
def encLL (l:List (List Int)):List (List CD):=l.map fun s=>[.sl 1 (encIs s)]
@[simp] theorem len_encLL (l:List (List Int)):(encLL l).length=l.length:=by simp[encLL]
def tB (L:CD) (hv:List Int) (W:Int) (t:Tp):Ob:=.box [.c L,.c (.sl 1 (encIs hv)),.c (iC W),.c (iC t.time),.own 900001,.c (iC t.at_),.c (bC t.dry),.own 900002,.own 900003]
def tO (L:CD) (hv:List Int) (W:Int) (t:Tp):List (Nat×Ob):=[(900001,.row 3 1 (encIs t.faults)),(900002,.row 32 1 (encLL t.states)),(900003,.row 3 1 (encIs t.counts)),(1000000,tB L hv W t)]
def mgK (J:Int→Int→Int) (a b:List Int) (k:Nat):List Int:=(mgF J a b).take k++a.drop k
theorem mg_step {J:Int→Int→Int}:∀(a b:List Int) (k:Nat) (x y:Int),a[k]? =some x→b[k]? =some y→(mgK J a b k).set k (J x y)=mgK J a b (k+1)
 |[],_,_,_,_,h,_=>by simp at h
 |_,[],_,_,_,_,h=>by simp at h
 | x0::a,y0::b,0,x,y,h1,h2=>by
   simp only[List.getElem?_cons_zero,Option.some.injEq]at h1 h2;subst h1 h2;simp[mgK,mgF]
 | x0::a,y0::b,k+1,x,y,h1,h2=>by
   have ih:=mg_step (J:=J) a b k x y (by simpa using h1) (by simpa using h2);simp only[mgK,mgF,List.zipWith_cons_cons,List.take_succ_cons,List.drop_succ_cons,List.cons_append,List.set_cons_succ]at ih⊢;rw[ih]
theorem mg_get {J:Int→Int→Int} {a b:List Int} {k:Nat} (hl:b.length=a.length) (hk:k<a.length):(mgK J a b k)[k]? =a[k]? :=by
 unfold mgK;rw[List.getElem?_append_right (by simp only[List.length_take,mgF_len J hl];omega),List.getElem?_drop];congr 1;simp only[List.length_take,mgF_len J hl];omega
theorem mg_len {J:Int→Int→Int} {a b:List Int} {k:Nat} (hl:b.length=a.length) (hk:k≤a.length):(mgK J a b k).length=a.length:=by
 simp only[mgK,List.length_append,List.length_take,List.length_drop,mgF_len J hl];omega
theorem mergeT_con (p:Po) (hv:List Int) (W:Int) (t:Tp) (a b:List Int) (hl:b.length=a.length) (ha:a.length≤1000000):
  ConS Tryz.prog 117 (tO (Lt.latO p.levels p.order) hv W t) [.one (.at_ 1000000 0),lI a,lI b] (.v (lI (mgF p.J a b))) (tO (Lt.latO p.levels p.order) hv W t):=by
 have cj:=fun h w t f a0 d0 s c a b=>joinT_con p h w t f a0 d0 s c a b;have cc:=cloneO_con a (by omega);obtain⟨cs,hL⟩:=lat_ptr p;obtain⟨J,hJ⟩:∃x,p.J=x:=⟨_,rfl⟩;simp only[hL,hJ]at cj⊢;clear hL hJ;obtain⟨ti,fa,at1,dr,ss,cn⟩:=t;simp only[tO,tB];refine con_s_of_HT Tryz.func117 rfl (by kernel_rfl) (Nat.le_of_ble_eq_true rfl) (pin_mk rfl) ?_;simp only[Tryz.f117];refine HT_sA ?_;refine HT_scA [⟨false,.v (.one (.own 11)),some (.row 3 1 (encIs a))⟩] ?_ ?_
 · first|exact cc 11 (by decide)|exact trivial|simpa[*]using cc 11 (by decide)
 refine HT_seq<|HT_seq<|HT_runA ?_;have hz:mgK J a b 0=a:=by simp[mgK]
 refine HT_block<|(HT_loopU [0,7,12,13] (fun(x:Nat)=>[(14,.v (li x))]) (fun x=>[(11,.row 3 1 (encIs (mgK J a b x))),(900001,.row 3 1 (encIs fa)),(900002,.row 32 1 (encLL ss)),(900003,.row 3 1 (encIs cn)),(1000000,.box [.c (.ptr cs),.c (.sl 1 (encIs hv)),.c (iC W),.c (iC ti),.own 900001,.c (iC at1),.c (bC dr),.own 900002,.own 900003])]) (fun x=>x≤a.length) (fun x=>a.length - x) (0:Nat) (Nat.zero_le _) ?_ ?_)
 · exact le_mkA (fun n=>n) []
 rintro k hk;simp only[upS,keepS,insS]
 try simp only[keepS,KN,Nat.reduceBEq,if_true,if_false,ins,Nat.reduceLT]
 refine HT_sA ?_;refine HT_seq<|(HT_cond rfl (fun h5=>HT_skip ?_) (fun h5=>?_))
 · (try simp only[BN]at h5);have hlt:k<a.length:=by omega
   have hw1:=wrap1 hlt (by omega);have hk1:k+1≤a.length:=hlt;obtain⟨x,hx⟩:∃x,a[k]? =some x:=⟨a[k],by simp[hlt]⟩;obtain⟨y,hy⟩:∃y,b[k]? =some y:=⟨b[k]'(by omega),List.getElem?_eq_getElem (by omega)⟩;have hst:=mg_step (J:=J) a b k x y hx hy;have hg:=mg_get (J:=J) hl hlt;have hgl:=mg_len (J:=J) (k:=k) hl (by omega);have hgl':=mg_len (J:=J) (k:=k+1) hl hk1;obtain⟨X,hX⟩:∃x,mgK J a b k=x:=⟨_,rfl⟩;obtain⟨Y,hY⟩:∃x,mgK J a b (k+1)=x:=⟨_,rfl⟩;rw[hX]at hst hg hgl;rw[hY]at hst;rw[hx]at hg;have hkx:k<X.length:=by omega
   have hgx:X[k]'hkx=x:=by rw[List.getElem?_eq_getElem hkx]at hg;exact Option.some.inj hg
   have cj:=fun h w t f a0 d0 s c=>cj h w t f a0 d0 s c x y;obtain⟨Q,hQ⟩:∃q,J x y=q:=⟨_,rfl⟩;have hse:(encIs X).set k [iC Q]=encIs Y:=by rw[←hst,←hQ];simp[encIs,List.map_set]
   rw[hQ]at cj;clear hlt h5 hst hgl hgl' hQ hx hg;refine HT_seq<|HT_block<|HT_seq<|HT_runA ?_;refine(HT_runcA [⟨true,.v (li Q),none⟩] ?_ ?_)
   · first|exact cj _ _ _ _ _ _ _ _ _|exact trivial|simpa[*]using cj _ _ _ _ _ _ _ _ _
   refine HT_runA ?_;exact⟨k+1,hk1,by omega,le_mkA (fun n=>n) []⟩
 (try simp only[BN]at h5);have hkl:k=a.length:=by omega
 subst hkl
 have hal:mgK J a b a.length=mgF J a b:=by
  unfold mgK;rw[List.drop_length,List.append_nil,List.take_of_length_le (by rw[mgF_len J hl];omega)]
 refine(HT_exit ?_);refine HT_sA ?_;exact HT_ret ⟨.inr rfl,HT_endL (le_frz 11 rfl) (by simp;rfl) (by simp[resR,hal]) (by simp)⟩
theorem recordT_con (p:Po) (hv:List Int) (W:Int) (t:Tp) (st:List Int) (pc:Int) (hl:st.length≤1000000) (h1:t.at_≤1000000000) (h2:t.states.length≤1000000) (h3:t.counts.length≤1000000):
  ConS Tryz.prog 113 (tO (Lt.latO p.levels p.order) hv W t) [.one (.at_ 1000000 0),lI st,li pc] (.v (li (t.at_:Int))) (tO (Lt.latO p.levels p.order) hv W (recT t st pc)):=by
 have cc:=cloneI_con st (by omega);obtain⟨cs,hL⟩:=lat_ptr p;rw[hL];clear hL;obtain⟨ti,fa,at1,dr,ss,cn⟩:=t;simp only at h1 h2 h3;have hw:IntKind.i64.wrap ((at1:Int)+1)=((at1+1:Nat):Int):=by rw[wrap_in (by omega) (by omega)];rfl
 have hr1:room (ss.length+1) 24:=room_of (by omega) (by omega);have hr2:room (cn.length+1) 8:=room_of (by omega) (by omega);have ha1:encLL ss++[[.sl 1 (encIs st)]]=encLL (ss++[st]):=by simp[encLL]
 cases dr with
 | false=>
   simp only[tO,tB,recT];refine con_s_of_HT Tryz.func113 rfl (by kernel_rfl) (Nat.le_of_ble_eq_true rfl) (pin_mk rfl) ?_;simp only[Tryz.f113];refine HT_sA ?_;refine HT_sA ?_;refine HT_sA ?_;refine HT_seq<|HT_seq<|HT_runA ?_;refine(HT_cs rfl (fun h4=>?_) fun h4=>?_)
   · (try simp only[BN]at h4);refine HT_seq<|(HT_druncH [(27,1000000),(34,1000000)] [⟨false,.v (lI st),none⟩] (by kernel_rfl) (by kernel_rfl) (by rfl) (by simp[evcH,hokB,hintOf, *];first|exact⟨rfl,Iff.rfl⟩|exact⟨rfl,trivial⟩|rfl) ?_ ?_)
     · first|exact cc _|exact trivial|simpa[*]using cc _
     refine HT_runA ?_;refine HT_sA ?_;exact HT_ret ⟨.inr rfl,HT_endL (s2:=⟨46,[(6,.v (li (at1:Int)))],[(900001,.row 3 1 (encIs fa)),(900002,.row 32 1 (encLL (ss++[st]))),(900003,.row 3 1 (encIs (cn++[pc]))),(1000000,.box [.c (.ptr cs),.c (.sl 1 (encIs hv)),.c (iC W),.c (iC ti),.own 900001,.c (iC ((at1+1:Nat):Int)),.c (bC false),.own 900002,.own 900003])]⟩) (le_mk (fun n=>if n=900002 then 32 else if n=900003 then 42 else n) [] rfl (by simp) (by simp[*]) (by simp)) (by simp;rfl) (by simp[resR]) (by simp)⟩
   exact absurd h4 (by simp)
 | true=>
   simp only[tO,tB,recT];refine con_s_of_HT Tryz.func113 rfl (by kernel_rfl) (Nat.le_of_ble_eq_true rfl) (pin_mk rfl) ?_;simp only[Tryz.f113];refine HT_sA ?_;refine HT_sA ?_;refine HT_sA ?_;refine HT_seq<|HT_seq<|HT_runA ?_;refine(HT_cs rfl (fun h4=>?_) fun h4=>?_)
   · exact absurd h4 (by simp)
   (try simp only[BN]at h4);refine HT_sA ?_;exact HT_ret ⟨.inr rfl,HT_endS (by simp;rfl) (by simp[resR]) (by simp[*])⟩
end Go.Proofs.YtfjidddhehckoaaGreat

namespace Go.Proofs.YtfjidddhehckoaaGreat
open Go Go.Hl
theorem eqG2 (a b:List Int) (h:a.length=b.length) (hall:∀k:Nat,k<a.length→a[k]? =b[k]?):a=b:=by
 apply List.ext_getElem?;intro k;by_cases hk:k<a.length
 · exact hall k hk
 rw[List.getElem?_eq_none (by omega),List.getElem?_eq_none (by omega)]
theorem eqSl_con (a b:List Int) (ha:a.length≤1000000000) (hb:b.length≤1000000000) (d:Nat):Con Tryz.prog 15 true [lI a,lI b] (.v (lb (decide (a=b)))) none d:=by
 obtain⟨res,hres⟩:∃r,decide (a=b)=r:=⟨_,rfl⟩;rw[hres];refine con_of_HTA Tryz.func15 ?_;simp only[Tryz.f15];refine HT_sA ?_;refine HT_seq<|HT_seq<|HT_runA ?_;refine(HT_cs rfl (fun h2=>?_) fun h2=>?_)
 · try simp only[BN]at h2
   have hz:res=false:=by
    rw[←hres,decide_eq_false_iff_not];intro h;subst h;simp at h2
   subst hz;refine HT_sA ?_;exact HT_rA
 (try simp only[BN]at h2);have hle:a.length=b.length:=by omega
 clear h2;refine HT_seq<|HT_seq<|HT_runA ?_;refine HT_block<|(HT_loopU [0,1,12] (fun(z:Nat)=>[(13,.v (li z))]) (fun z=>[]) (fun z=>z≤a.length∧∀k:Nat,k<z→a[k]? =b[k]?) (fun z=>a.length - z) (0:Nat) ⟨Nat.zero_le _,fun k hk=>absurd hk (Nat.not_lt_zero k)⟩ ?_ ?_)
 · exact le_mkA (fun n=>n) []
 rintro k ⟨hk,hall⟩;simp only[upS,keepS,insS]
 try simp only[keepS,KN,Nat.reduceBEq,if_true,if_false,ins,Nat.reduceLT]
 refine HT_sA ?_;refine HT_seq<|(HT_cond rfl (fun h8=>HT_skip ?_) (fun h8=>?_))
 · (try simp only[BN]at h8);have hlt:k<a.length:=by omega
   obtain⟨x,he,_⟩:=at_lt hlt;obtain⟨y,hey,_⟩:=at_lt (show k<b.length by omega);have hw1:=wrap1 hlt (by omega);have hk1:k+1≤a.length:=hlt;clear hlt h8;refine HT_seq<|HT_block<|HT_seq<|HT_runA ?_;refine HT_seq<|(HT_drun (by kernel_rfl) (by kernel_rfl) (by rfl) (by simp[*];rfl) ?_);refine(HT_cs rfl (fun h11=>?_) fun h11=>?_)
   · try simp only[BN]at h11
     have hz:res=false:=by
      rw[←hres,decide_eq_false_iff_not];intro h;subst h;rw[he]at hey;cases hey;simp at h11
     subst hz;refine HT_sA ?_;exact HT_rA
   (try simp only[BN]at h11);refine HT_runA ?_
   exact⟨k+1,⟨hk1,fun j hj=>by
    rcases Nat.lt_or_eq_of_le (Nat.le_of_lt_succ hj)with h|h
    · exact hall j h
    rw[h,he,hey];have:x=y:=by simpa using h11
    rw[this]⟩,by omega,le_mkA (fun n=>n) []⟩
 try simp only[BN]at h8
 have hz:res=true:=by
  rw[←hres,decide_eq_true_eq];exact eqG2 a b hle fun j hj=>hall j (by omega)
 subst hz;refine(HT_exit ?_);refine HT_sA ?_;exact HT_rA
end Go.Proofs.YtfjidddhehckoaaGreat

namespace Go.Proofs.YtfjidddhehckoaaGreat
open Go Go.Hl
def rmT (t:Tp) (sz:Nat):Prop:=t.at_+sz≤1000000∧t.states.length+sz≤1000000∧t.counts.length+sz≤1000000∧t.faults.length+sz≤1000000
theorem loopT_con (p:Po) (hp:polC p=0) (hv:List Int) (W:Int) (vars:List Vr) (fu:Nat) (d0 c0 v0 n0:Int) (tm:Tm) (a b:List St) (bs:List Int) (hf:formB vars false tm=true) (hnt:tm.nodes≤1000000) (hna:nodesS a≤1000000)
  (hvl:vars.length≤1000000) (hfu:p.n*vars.length<fu) (g:Int→List Int→Tp→List Int×Tp)
  (hg:∀pc st t,okI p.n pc→okV p.n st→Gd p.n st.length t (szL a) (g pc st t))
  (hst:∀pc st t,okI p.n pc→okV p.n st→st.length=vars.length→rmT t (szL a)→ConS Tryz.prog 69 (tO (Lt.latO p.levels p.order) hv W t) [.one (.at_ 1000000 0),lS a,li pc,lI st] (.v (lI (g pc st t).1)) (tO (Lt.latO p.levels p.order) hv W (g pc st t).2))
  (pc:Int) (st:List Int) (t:Tp) (hpc:okI p.n pc) (hos:okV p.n st) (hls:st.length=vars.length) (hrm:rmT t (1+szL a)):
  ConS Tryz.prog 112 (tO (Lt.latO p.levels p.order) hv W t) [.one (.at_ 1000000 0),aS (.mk d0 c0 v0 n0 tm a b bs),li pc,lI st] (.v (lI (lpF p.J fu tm (evenB a) g pc st t).1)) (tO (Lt.latO p.levels p.order) hv W (lpF p.J fu tm (evenB a) g pc st t).2):=by
 obtain⟨hM,hn0,hn12⟩:=pol_new hp;have hJok:∀x y,okI p.n (p.J x y):=fun x y=>J_ok (e:=⟨p.n,p.M,hv,W⟩) hn0 hM x y;have hmu:∀(x y:List Int),y.length=x.length→okV p.n x→okV p.n y→mgF p.J x y≠x→muV p.n p.M (mgF p.J x y)<muV p.n p.M x:=fun x y h1 h2 h3=>(mu_mg (e:=⟨p.n,p.M,hv,W⟩) hM h1 h2 h3).2;have hmu0:=muV_le p.n p.M st;rw[hls]at hmu0;have hterm:=fun(s:List Int) (hs:s.length=vars.length) h w t f a0 d0 s' c=>termT_con p h w t f a0 d0 s' c vars s hs tm hf hnt pc;have hmg:=fun(t:Tp) (x y:List Int) hl ha=>mergeT_con p hv W t x y hl ha;have hrec:=fun(t:Tp) (x:List Int) h0 h1 h2 h3=>recordT_con p hv W t x pc h0 h1 h2 h3;have hjo:=fun h w t f a0 d0 s c a b=>joinT_con p h w t f a0 d0 s c a b;have hnl:∀s,okI p.n (tlT p.J s tm pc):=fun s=>tlT_ok hJok s tm pc hpc;have hitg:=itF_gd hJok (nl:=fun s=>tlT p.J s tm pc) hnl hg t.at_ fu st {t with dry:=true} hos rfl;have hev:=evenT_con a (by omega);obtain⟨⟨FS,FT⟩,hF⟩:∃x,lpF p.J fu tm (evenB a) g pc st t=x:=⟨_,rfl⟩;rw[hF];unfold lpF at hF;obtain⟨cs,hL⟩:=lat_ptr p;obtain⟨J,hJ⟩:∃x,p.J=x:=⟨_,rfl⟩;obtain⟨N,hN⟩:∃x,p.n=x:=⟨_,rfl⟩;obtain⟨M,hM2⟩:∃x,p.M=x:=⟨_,rfl⟩;obtain⟨EV,hEV⟩:∃x,evenB a=x:=⟨_,rfl⟩;simp only[hL,hJ,hN,hM2,hEV]at hJok hmu hmu0 hterm hmg hrec hjo hnl hitg hg hst hpc hos hfu hF hev⊢;obtain⟨ti,fa,at0,dr,ss,cn⟩:=t;simp only at hitg hF;obtain⟨⟨RS,RT⟩,hR⟩:∃x,itF J at0 (fun s=>tlT J s tm pc) g fu st ⟨ti,fa,at0,true,ss,cn⟩=x:=⟨_,rfl⟩;rw[hR]at hitg;simp only[hR]at hF hitg;obtain⟨hr1,hr2,hr3,hr4,hr5,hr6⟩:=hitg;obtain⟨rt,rf,ra,rd,rs,rc⟩:=RT;simp only at hr3 hr4 hr5 hr6;have hr4:=hr4.symm;have hr5:=hr5.symm;have hr6:=hr6.symm;subst hr3 hr4 hr5 hr6;simp only at hF;obtain⟨hm1,hm2,hm3,hm4⟩:=hrm;simp only at hm1 hm2 hm3 hm4;obtain⟨to,tn,tk⟩:=tm;simp only[Tm.op]at hF;obtain⟨A1,hA1⟩:∃q:Nat,at0+1=q:=⟨_,rfl⟩;have hw:IntKind.i64.wrap ((at0:Int)+1)=(A1:Int):=by rw[wrap_in (by omega) (by omega)];omega
 have hla:=len_nodesS a;clear hL hJ hN hM2 hEV hp hM hn0 hn12;simp only[tO,tB,aS,St.enc,Tm.enc,aT,List.map_cons,List.map_nil,List.cons_append,List.nil_append]at hterm hmg hrec hst⊢;refine con_s_of_HT Tryz.func112 rfl (by kernel_rfl) (Nat.le_of_ble_eq_true rfl) (pin_mk rfl) ?_;simp only[Tryz.f112];refine HT_sA ?_;refine HT_seq<|(HT_drunH [(16,1000000),(20,1000000)] (by kernel_rfl) (by kernel_rfl) (by rfl) (by simp[evsH,hokB,hintOf, *];rfl) ?_);refine HT_sA ?_;refine HT_seq<|HT_block<|(HT_loopU [0,2,5,9,10] (fun(x:Nat×List Int×Int×Nat)=>[(3,.v (lI x.2.1))]) (fun x=>[(5,.box [.c (iC d0),.c (iC c0),.c (iC v0),.c (iC n0),.c (iC to),.c (iC tn),.c (.sl 3 (encTs tk)),.c (.sl 10 (encSs a)),.c (.sl 10 (encSs b)),.c (.sl 1 (encIs bs))]),(900001,.row 3 1 (encIs fa)),(900002,.row 32 1 (encLL ss)),(900003,.row 3 1 (encIs cn)),(1000000,.box [.c (.ptr cs),.c (.sl 1 (encIs hv)),.c (iC W),.c (iC x.2.2.1),.own 900001,.c (iC (x.2.2.2:Nat)),.c (bC true),.own 900002,.own 900003])]) (fun x=>okV N x.2.1∧x.2.1.length=vars.length∧muV N M x.2.1<x.1∧itF J at0 (fun s=>tlT J s (.mk to tn tk) pc) g x.1 x.2.1 ⟨x.2.2.1,fa,x.2.2.2,true,ss,cn⟩=(RS,⟨rt,fa,ra,true,ss,cn⟩)) (fun x=>x.1) (fu,st,ti,at0) ⟨hos,hls,by simp only;omega,hR⟩ ?_ ?_)
 · exact le_mkA (fun n=>n) []
 rintro⟨k,s,tt,aa⟩ ⟨h1,h2,h3,h4⟩;simp only[upS,keepS,insS]
 try simp only[keepS,KN,Nat.reduceBEq,if_true,if_false,ins,Nat.reduceLT]
 simp only at h1 h2 h3 h4;clear hR hmu0;obtain⟨k,rfl⟩:∃j,k=j+1:=⟨k - 1,by omega⟩;simp only[itF,hA1]at h4;obtain⟨N1,hN1⟩:∃x,tlT J s (.mk to tn tk) pc=x:=⟨_,rfl⟩;have ct:=fun h w t f a0 d0 s' c=>hterm s h2 h w t f a0 d0 s' c;have hn1:=hnl s;rw[hN1]at h4 hn1;simp only[hN1]at ct;have hgd:=hg N1 s ⟨tt,fa,A1,true,ss,cn⟩ hn1 h1;have cs1:=hst N1 s ⟨tt,fa,A1,true,ss,cn⟩ hn1 h1 h2 ⟨by simp only;omega,by simp only;omega,by simp only;omega,by simp only;omega⟩;obtain⟨⟨X,t1⟩,hX⟩:∃x,g N1 s ⟨tt,fa,A1,true,ss,cn⟩=x:=⟨_,rfl⟩;rw[hX]at hgd cs1 h4;obtain⟨x1,f1,a1,d1,s1,c1⟩:=t1;obtain⟨g1,g2,g3,g4,g5,g6,g7,g8⟩:=hgd;simp only at g1 g2 g3 g4 g5 g6 g7 g8 cs1 h4;obtain⟨e1,e2,e3⟩:=g8 trivial;have e1:=e1.symm;have e2:=e2.symm;have e3:=e3.symm;have g4:=g4.symm;subst g4 e1 e2 e3;have cm:=hmg ⟨x1,fa,a1,true,ss,cn⟩ s X g1 (by omega);have hmu:=hmu s X g1 h1 g2;have hmo:okV N (mgF J s X):=mgF_ok hJok _ _;have hml:=mgF_len J g1;have ce:=eqSl_con (mgF J s X) s (by omega) (by omega);obtain⟨m,hm⟩:∃x,mgF J s X=x:=⟨_,rfl⟩;rw[hm]at h4 cm hmu hmo hml ce;simp only at cm;clear hX hm g3 g5 g6 g7 g8 hterm hmg hA1 hJok hnl;refine HT_block<|HT_seq<|HT_runA ?_;refine HT_scA [⟨true,.v (li N1),none⟩] ?_ ?_
 · first|exact ct _ _ _ _ _ _ _ _ _|exact trivial|simpa[*]using ct _ _ _ _ _ _ _ _ _
 refine HT_seq<|(HT_runsS ?_);refine RunsS.cutE 7 [] (by simp[*];rfl) trivial (le_refl _) ?_;refine RunsS.call (fun n=>n) (fun n=>if n<1000000 then n+10 else n) (by simp;rfl) (handS_mk (by simp) (by simp) (by simp) (by simp) (by simp)) cs1 (by rfl) ?_;refine RunsS.call (fun n=>if n<1000000 then n+10 else n) (fun n=>if n<1000000 then n+20 else n) (by simp;rfl) (handS_mk (by simp) (by simp) (by simp) (by simp) (by simp)) cm (by rfl) ?_;refine RunsS.doneE [] (by simp;rfl) trivial ?_;clear cs1 cm;refine HT_seq<|HT_seq<|(HT_runcA [⟨true,.v (lb (decide (m=s))),none⟩] ?_ ?_)
 · first|exact ce _|exact trivial|simpa[*]using ce _
 refine(HT_cs rfl (fun h8=>?_) fun h8=>?_)
 · (try simp only[BN]at h8);have hms:m=s:=by simpa using h8
   rw[if_pos hms]at h4;simp only[Prod.mk.injEq,Tp.mk.injEq]at h4;obtain⟨k1,k2,_,k4,_⟩:=h4;subst k1 k2 k4;rw[hN1]at hF;have crc:=hrec ⟨x1,fa,at0,dr,ss,cn⟩ s (by omega) (by simp only;omega) (by simp only;omega) (by simp only;omega);obtain⟨q1,q2,q3,q4,q5,q6,q7⟩:=recT_gd ⟨x1,fa,at0,dr,ss,cn⟩ s pc;obtain⟨T1,hT1⟩:∃x,recT ⟨x1,fa,at0,dr,ss,cn⟩ s pc=x:=⟨_,rfl⟩;rw[hT1]at crc hF q1 q2 q3 q4 q5 q6;simp only at q1 q3 q4 q5;have cs2:=hst N1 s T1 hn1 h1 h2 ⟨by omega,by omega,by omega,by rw[q5];omega⟩;obtain⟨⟨Y,T2⟩,hY⟩:∃x,g N1 s T1=x:=⟨_,rfl⟩;rw[hY]at cs2 hF;obtain⟨b1,b2,b3,b4,b5,b6⟩:=T1;obtain⟨z1,z2,z3,z4,z5,z6⟩:=T2;simp only[Prod.mk.injEq]at hF crc cs2;obtain⟨hFS,hF⟩:=hF;subst hFS;have cj:=fun h w t f a0 d0 s' c=>hjo h w t f a0 d0 s' c z1 N1;obtain⟨Q,hQ⟩:∃q,J z1 N1=q:=⟨_,rfl⟩;simp only[hQ]at cj hF;clear hY hT1 q1 q2 q3 q4 q5 q6 q7 hrec hst hg hjo hQ ce hmu hN1 h8;refine(HT_exit ?_);refine HT_sA ?_;refine HT_seq<|(HT_runsS ?_);refine RunsS.cutE 3 [] (by simp[*];rfl) trivial (le_refl _) ?_;refine RunsS.call (fun n=>if n<1000000 then n+20 else n) (fun n=>if n<1000000 then n+30 else n) (by simp;rfl) (handS_mk (by simp) (by simp) (by simp) (by simp) (by simp)) crc (by rfl) ?_;refine RunsS.doneE [] (by simp;rfl) trivial ?_;clear crc;refine HT_scA [⟨true,.v (li N1),none⟩] ?_ ?_
   · first|exact ct _ _ _ _ _ _ _ _ _|exact trivial|simpa[*]using ct _ _ _ _ _ _ _ _ _
   refine HT_seq<|(HT_runsS ?_);refine RunsS.cutE 5 [] (by simp[*];rfl) trivial (le_refl _) ?_;refine RunsS.call (fun n=>if n<1000000 then n+30 else n) (fun n=>if n<1000000 then n+40 else n) (by simp;rfl) (handS_mk (by simp) (by simp) (by simp) (by simp) (by simp)) cs2 (by rfl) ?_;refine RunsS.doneE [] (by simp;rfl) trivial ?_;clear cs2 ct;rcases Classical.em (to=0)with ho|ho
   · subst ho;refine HT_seq<|HT_seq<|(HT_runcA [⟨true,.v (lb EV),none⟩] ?_ ?_)
     · first|exact hev _|exact trivial|simpa[*]using hev _
     refine(HT_cs rfl (fun h14=>?_) fun h14=>?_)
     · (try simp only[BN]at h14);have he:EV=false:=by simpa using h14
       rw[if_pos (.inr he)]at hF;subst hF;refine(HT_runcA [⟨true,.v (li Q),none⟩] ?_ ?_)
       · first|exact cj _ _ _ _ _ _ _ _ _|exact trivial|simpa[*]using cj _ _ _ _ _ _ _ _ _
       refine HT_sA ?_;exact HT_ret ⟨.inr rfl,HT_endL (s2:=⟨94,[(8,.v (lI s))],[(900001,.row 3 1 (encIs z2)),(900002,.row 32 1 (encLL z5)),(900003,.row 3 1 (encIs z6)),(1000000,.box [.c (.ptr cs),.c (.sl 1 (encIs hv)),.c (iC W),.c (iC Q),.own 900001,.c (iC (z3:Nat)),.c (bC z4),.own 900002,.own 900003])]⟩) (le_mk (fun n=>if n<1000000 then n+40 else n) [] rfl (by simp) (by simp) (by simp)) (by simp;rfl) (by simp[resR]) (by simp)⟩
     (try simp only[BN]at h14);have he:EV=true:=by simpa using h14
     rw[if_neg (by rw[he];simp)]at hF;subst hF;refine HT_sA ?_;exact HT_ret ⟨.inr rfl,HT_endL (s2:=⟨94,[(8,.v (lI s))],[(900001,.row 3 1 (encIs z2)),(900002,.row 32 1 (encLL z5)),(900003,.row 3 1 (encIs z6)),(1000000,.box [.c (.ptr cs),.c (.sl 1 (encIs hv)),.c (iC W),.c (iC z1),.own 900001,.c (iC (z3:Nat)),.c (bC z4),.own 900002,.own 900003])]⟩) (le_mk (fun n=>if n<1000000 then n+40 else n) [] rfl (by simp) (by simp) (by simp)) (by simp;rfl) (by simp[resR]) (by simp)⟩
   rw[if_pos (.inl ho)]at hF;subst hF;refine HT_seq<|HT_seq<|(HT_runcS [none] (by simp[*];first|exact⟨rfl,trivial⟩|exact⟨rfl,Iff.rfl⟩|rfl) ?_ ?_)
   · trivial
   refine(HT_cs rfl (fun h14=>?_) fun h14=>?_)
   · (try simp only[BN]at h14);refine(HT_runcA [⟨true,.v (li Q),none⟩] ?_ ?_)
     · first|exact cj _ _ _ _ _ _ _ _ _|exact trivial|simpa[*]using cj _ _ _ _ _ _ _ _ _
     refine HT_sA ?_;exact HT_ret ⟨.inr rfl,HT_endL (s2:=⟨94,[(8,.v (lI s))],[(900001,.row 3 1 (encIs z2)),(900002,.row 32 1 (encLL z5)),(900003,.row 3 1 (encIs z6)),(1000000,.box [.c (.ptr cs),.c (.sl 1 (encIs hv)),.c (iC W),.c (iC Q),.own 900001,.c (iC (z3:Nat)),.c (bC z4),.own 900002,.own 900003])]⟩) (le_mk (fun n=>if n<1000000 then n+40 else n) [] rfl (by simp) (by simp) (by simp)) (by simp;rfl) (by simp[resR]) (by simp)⟩
   exact absurd h14 (by simpa using ho)
 (try simp only[BN]at h8);have hms:¬m=s:=by simpa using h8
 rw[if_neg hms]at h4;have hmu:=hmu hms;clear ct ce h8;refine HT_runA ?_;exact⟨(k,m,x1,a1),⟨hmo,by simp only;omega,by simp only;omega,h4⟩,by simp only;omega,le_mkA (fun n=>if n<1000000∧900000<n then n+20 else n) []⟩
end Go.Proofs.YtfjidddhehckoaaGreat

namespace Go.Proofs.YtfjidddhehckoaaGreat
open Go Go.Hl
theorem rm_step {t T:Tp} {a b:Nat} (h:rmT t (a+b)) (h1:T.at_≤t.at_+a) (h2:T.states.length≤t.states.length+a) (h3:T.counts.length≤t.counts.length+a) (h4:T.faults.length≤t.faults.length+a):rmT T b:=by
 obtain⟨k1,k2,k3,k4⟩:=h;exact⟨by omega,by omega,by omega,by omega⟩
theorem rm_rec {t:Tp} {a:Nat} (st:List Int) (pc:Int) (h:rmT t (1+a)):rmT (recT t st pc) a:=by
 obtain⟨q1,q2,q3,q4,q5,_⟩:=recT_gd t st pc;exact rm_step h (by omega) q3 q4 (by rw[q5];omega)
theorem rm_le {t:Tp} {a b:Nat} (h:rmT t a) (hb:b≤a):rmT t b:=⟨by have:=h.1;omega,by have:=h.2.1;omega,by have:=h.2.2.1;omega,by have:=h.2.2.2;omega⟩
theorem stepsT_con (p:Po) (hp:polC p=0) (hv:List Int) (W:Int) (vars:List Vr) (fu:Nat) (hvl:vars.length≤1000000) (hfu:p.n*vars.length<fu) (l:List St):nodesS l≤1000000→wfL vars hv.length l=true→∀(pc:Int) (st:List Int) (t:Tp),
  okI p.n pc→okV p.n st→st.length=vars.length→rmT t (szL l)→
  ConS Tryz.prog 69 (tO (Lt.latO p.levels p.order) hv W t) [.one (.at_ 1000000 0),lS l,li pc,lI st] (.v (lI (tyL ⟨p.n,p.M,hv,W⟩ fu l pc st t).1)) (tO (Lt.latO p.levels p.order) hv W (tyL ⟨p.n,p.M,hv,W⟩ fu l pc st t).2):=by
 revert l
 apply St.lists;intro l ih hn hwf pc st t hpc hos hls hrm;obtain⟨hM,hn0,hn12⟩:=pol_new hp;have hJok:∀x y,okI p.n (p.J x y):=fun x y=>J_ok (e:=⟨p.n,p.M,hv,W⟩) hn0 hM x y;have hlen:=len_nodesS l;have htT:=fun(h w t f a0 d0 s' c:CD) (st:List Int) hst tm=>termT_con p h w t f a0 d0 s' c vars st hst tm;have hlp:=fun(c1 c2 c3 c4:Int) (tm:Tm) (a b:List St) (bs:List Int) hf hnt hna g=>loopT_con p hp hv W vars fu c1 c2 c3 c4 tm a b bs hf hnt hna hvl hfu g;have hmg:=fun(t:Tp) (x y:List Int) hl ha=>mergeT_con p hv W t x y hl ha;have hrec:=fun(t:Tp) (x:List Int) h0 h1 h2 h3=>recordT_con p hv W t x pc h0 h1 h2 h3;have hjo:=fun h w t f a0 d0 s c a b=>joinT_con p h w t f a0 d0 s c a b;have hbe:=fun a b=>belL_con p a b;have hgS:=fun s (st:List Int) t h1 h2=>tyS_gd (e:=⟨p.n,p.M,hv,W⟩) hJok fu s pc st t h1 h2;have hgL:=fun l pc (st:List Int) t h1 h2=>tyL_gd (e:=⟨p.n,p.M,hv,W⟩) hJok fu l pc st t h1 h2;obtain⟨e,he0⟩:∃e:En,e=⟨p.n,p.M,hv,W⟩:=⟨_,rfl⟩;have heJ:e.J=p.J:=by rw[he0];rfl
 have heB:e.B=p.B:=by rw[he0];rfl
 have heh:e.hv=hv:=by rw[he0]
 have heW:e.W=W:=by rw[he0]
 rw[←he0];simp only[←he0]at ih hgS hgL;clear he0;obtain⟨⟨FS,FT⟩,hF⟩:∃x,tyL e fu l pc st t=x:=⟨_,rfl⟩;rw[hF];obtain⟨cs,hL⟩:=lat_ptr p;obtain⟨J,hJ⟩:∃x,p.J=x:=⟨_,rfl⟩;obtain⟨B,hB⟩:∃x,p.B=x:=⟨_,rfl⟩;obtain⟨N,hN⟩:∃x,p.n=x:=⟨_,rfl⟩;simp only[hL,hJ,hN,hB]at hJok htT hlp hmg hrec hjo hbe hgS hgL hpc hos hfu ih heJ heB⊢;clear hL hJ hN hB hp hM hn0 hn12;obtain⟨ti,fa,at0,dr,ss,cn⟩:=t;simp only[tO,tB];refine con_s_of_HT Tryz.func69 rfl (by kernel_rfl) (Nat.le_of_ble_eq_true rfl) (pin_mk rfl) ?_;simp only[Tryz.f69];refine HT_sA ?_;refine HT_seq<|HT_seq<|HT_runA ?_;refine HT_block<|(HT_loopU [0,2,15,16] (fun(x:Nat×List Int×Tp)=>[(3,.v (lI x.2.1)),(17,.v (li x.1))]) (fun x=>[(900001,.row 3 1 (encIs x.2.2.faults)),(900002,.row 32 1 (encLL x.2.2.states)),(900003,.row 3 1 (encIs x.2.2.counts)),(1000000,.box [.c (.ptr cs),.c (.sl 1 (encIs hv)),.c (iC W),.c (iC x.2.2.time),.own 900001,.c (iC (x.2.2.at_:Nat)),.c (bC x.2.2.dry),.own 900002,.own 900003])]) (fun x=>x.1≤l.length∧tyL e fu (l.drop x.1) pc x.2.1 x.2.2=(FS,FT)∧okV N x.2.1∧x.2.1.length=vars.length∧rmT x.2.2 (szL (l.drop x.1))) (fun x=>l.length - x.1) (0,st,⟨ti,fa,at0,dr,ss,cn⟩) ⟨Nat.zero_le _,hF,hos,hls,hrm⟩ ?_ ?_)
 · exact le_mkA (fun n=>n) []
 rintro⟨k,s,t⟩ ⟨hk,hJ,ho,hsl,hrm⟩;simp only[upS,keepS,insS]
 try simp only[keepS,KN,Nat.reduceBEq,if_true,if_false,ins,Nat.reduceLT]
 simp only at hk hJ ho hsl hrm;clear hF hos hls;refine HT_sA ?_;refine HT_seq<|(HT_cond rfl (fun h4=>HT_skip ?_) (fun h4=>?_))
 · (try simp only[BN]at h4);have hlt:k<l.length:=by omega
   obtain⟨q,he,hd⟩:=at_lt hlt;have hw1:=wrap1 hlt (by omega);have hk1:k+1≤l.length:=hlt;have hmem:q∈l:=List.mem_of_getElem? he;have hnm:=nodesS_mem hmem;have hwm:=wfL_mem hwf hmem;have iha:=(ih q hmem).1 (by omega);have ihb:=(ih q hmem).2 (by omega);have he':=get_encS he;rw[hd]at hJ hrm;have hgs:=hgS q s t hpc ho;obtain⟨sd,sc,sv,sn,tm,sa,sb,sbs⟩:=q;simp only[St.then_,St.else_,St.term]at iha ihb hnm;simp only[wfS,Bool.and_eq_true,Bool.or_eq_true,decide_eq_true_eq]at hwm;obtain⟨wt,wl,wn,w4,wb,wa,wbb⟩:=hwm;have iha:=iha wa;have ihb:=ihb wbb;simp only[tyL]at hJ;simp only[szL]at hrm;have hga:=hgL sa;have hgb:=hgL sb;have hterm:=fun h w t f a0 d0 s' c=>htT h w t f a0 d0 s' c s hsl tm wt (by omega) pc;have hlp:=hlp sd sc sv sn tm sa sb sbs wt (by omega) (by omega) (tyL e fu sa) (fun pc st t h1 h2=>hga pc st t h1 h2) (fun pc st t h1 h2 h3 h4=>iha pc st t h1 h2 h3 h4) pc s t hpc ho hsl;have calk:=alike_con sa sb (by omega) (by omega);obtain⟨⟨X',T'⟩,hXT⟩:∃x,tyS e fu (.mk sd sc sv sn tm sa sb sbs) pc s t=x:=⟨_,rfl⟩;rw[hXT]at hJ hgs;simp only[tyS,heJ,heB,heh,heW]at hXT;obtain⟨g1,g2,g3,g4,g5,g6,g7,g8⟩:=hgs;simp only at g1 g2 g3 g4 g5 g6 g7 hJ;have hrm':rmT T' (szL (l.drop (k+1))):=rm_step hrm g3 g5 g6 g7;have hrm0:rmT t (1+szL sa+szL sb):=rm_le hrm (by simp only[szS];omega);obtain⟨TV0,hTV⟩:∃x,tlT J s tm pc=x:=⟨_,rfl⟩;have htvo:okI N TV0:=by rw[←hTV];exact tlT_ok hJok s tm pc hpc
   simp only[hTV]at hterm;obtain⟨so,stn,sks⟩:=tm;simp only[St.enc,Tm.enc,List.cons_append,List.nil_append]at he';simp only[aT,aS,St.enc,Tm.enc,List.map_cons,List.map_nil,List.cons_append,List.nil_append]at hterm hlp;clear hlt h4 ih hmem hnm hd he hgS hgL htT wt wa wbb wb g3 g5 g6 g7 g8 g4 hrm hwf;refine HT_seq<|HT_block<|HT_seq<|HT_runA ?_;refine HT_seq<|HT_seq<|HT_runA ?_;refine(HT_cs rfl (fun h7=>?_) fun h7=>?_)
   · (try simp only[BN]at h7);have hd4:sd=4:=by simpa using h7
     subst hd4;rw[if_pos rfl]at hXT;have cl:=hlp (rm_le hrm0 (by omega));rw[hXT]at cl;obtain⟨t1,t2,t3,t4,t5,t6⟩:=t;obtain⟨y1,y2,y3,y4,y5,y6⟩:=T';simp only[tO,tB]at cl;clear hlp hmg hrec hjo hbe hgb hga iha ihb calk hterm;refine HT_seq<|(HT_runsS ?_);refine RunsS.cutE 4 [] (by simp[*];rfl) trivial (le_refl _) ?_;refine RunsS.call (fun n=>n) (fun n=>if n<1000000 then n+10 else n) (by simp;rfl) (handS_mk (by simp) (by simp) (by simp) (by simp) (by simp)) cl (by rfl) ?_;refine RunsS.doneE [] (by simp;rfl) trivial ?_;clear cl;refine(HT_exit ?_);refine HT_runA ?_;exact⟨(k+1,X',⟨y1,y2,y3,y4,y5,y6⟩),⟨hk1,hJ,g2,by simp only;omega,hrm'⟩,by simp only;omega,le_mkA (fun n=>if 900001≤n∧n≤900003 then n+10 else n) []⟩
   (try simp only[BN]at h7);have hd4:¬sd=4:=by simpa using h7
   rw[if_neg hd4]at hXT;have crc:=hrec t s (by omega) (by have:=hrm0.1;omega) (by have:=hrm0.2.1;omega) (by have:=hrm0.2.2.1;omega);have hrm0':rmT t (1+(szL sa+szL sb)):=rm_le hrm0 (by omega);have hrm1:=rm_rec s pc hrm0';obtain⟨q1,q2,q3,q4,q5,q6,q7⟩:=recT_gd t s pc;obtain⟨T1,hT1⟩:∃x,recT t s pc=x:=⟨_,rfl⟩;rw[hT1]at crc hXT hrm1 q1 q2 q3 q4 q5 q6;obtain⟨t1,t2,t3,t4,t5,t6⟩:=t;obtain⟨r1,r2,r3,r4,r5,r6⟩:=T1;simp only at q1 q2 q5 q6 hXT crc;subst q2 q5 q6;have hroom:room (r2.length+1) 8:=room_of (by have:=hrm0.2.2.2;simp only at this;omega) (by omega);simp only[tO,tB,hTV]at crc hXT;clear hlp hT1 q1 q3 q4 q7 hrec;refine HT_seq<|(HT_runsS ?_);refine RunsS.cutE 3 [] (by simp[*];rfl) trivial (le_refl _) ?_;refine RunsS.call (fun n=>n) (fun n=>if n<1000000 then n+10 else n) (by simp;rfl) (handS_mk (by simp) (by simp) (by simp) (by simp) (by simp)) crc (by rfl) ?_;refine RunsS.doneE [] (by simp;rfl) trivial ?_;clear crc;refine HT_scA [⟨true,.v (li TV0),none⟩] ?_ ?_
   · first|exact hterm _ _ _ _ _ _ _ _ _|exact trivial|simpa[*]using hterm _ _ _ _ _ _ _ _ _
   refine HT_sA ?_;refine HT_block<|HT_seq<|HT_runA ?_;refine(HT_cond rfl (fun h15=>?_) (fun h15=>?_))
   · (try simp only[BN]at h15);have hd0:sd=0:=by simpa using h15
     subst hd0;rw[if_pos rfl]at hXT;simp only[Prod.mk.injEq]at hXT;obtain⟨hX,hT⟩:=hXT;subst hT;obtain⟨hv0,w,hw⟩:=local_get (wl.resolve_left (by decide));have hvlt:sv.toNat<s.length:=by rw[hsl];exact(List.getElem?_eq_some_iff.1 hw).1
     have cw:=with_con s sv TV0 (by omega) hv0 hvlt;rw[hX]at cw;clear hmg hjo hbe hgb hga iha ihb calk hterm hw hvlt;refine(HT_runcA [⟨false,.v (lI X'),none⟩] ?_ ?_)
     · first|exact cw _|exact trivial|simpa[*]using cw _
     refine HT_runA ?_;exact⟨(k+1,X',⟨r1,r2,r3,r4,r5,r6⟩),⟨hk1,hJ,g2,by simp only;omega,hrm'⟩,by simp only;omega,le_mkA (fun n=>if 900001≤n∧n≤900003 then n+10 else n) []⟩
   (try simp only[BN]at h15);have hd0:¬sd=0:=by simpa using h15
   rw[if_neg hd0]at hXT;refine HT_sA ?_;refine(HT_cond rfl (fun h20=>?_) (fun h20=>?_))
   · (try simp only[BN]at h20);have hd5:sd=5:=by simpa using h20
     subst hd5;rw[if_pos rfl]at hXT;simp only[Prod.mk.injEq]at hXT;obtain⟨hX,hT⟩:=hXT;subst hT;obtain⟨hv0,w,hw⟩:=local_get (wl.resolve_left (by decide));have hvlt:sv.toNat<s.length:=by rw[hsl];exact(List.getElem?_eq_some_iff.1 hw).1
     have wn:=wn.resolve_left (by decide);have hn0:0≤sn:=wn.1;obtain⟨y,hy⟩:∃y,hv[sn.toNat]? =some y:=⟨hv[sn.toNat]'(by omega),List.getElem?_eq_getElem (by omega)⟩;rw[hy]at hX;simp only[Option.getD_some]at hX;have cj:=fun h w t f a0 d0 s' c=>hjo h w t f a0 d0 s' c pc y;obtain⟨Q,hQ⟩:∃q,J pc y=q:=⟨_,rfl⟩;simp only[hQ]at cj hX;have cw:=with_con s sv Q (by omega) hv0 hvlt;rw[hX]at cw;clear hmg hjo hbe hgb hga iha ihb calk hterm hw hvlt hQ wn;refine(HT_druncH [(51,10),(57,1000000),(59,10)] [⟨true,.v (li Q),none⟩,⟨false,.v (lI X'),none⟩] (by kernel_rfl) (by kernel_rfl) (by rfl) (by simp[evcH,hokB,hintOf, *];first|exact⟨rfl,Iff.rfl⟩|exact⟨rfl,trivial⟩|rfl) ?_ ?_)
     · first|exact⟨cj _ _ _ _ _ _ _ _ _,cw _⟩|exact trivial|(repeat' first|exact trivial|exact cj _ _ _ _ _ _ _ _ _|exact cw _|apply And.intro)
     refine HT_runA ?_;exact⟨(k+1,X',⟨r1,r2,r3,r4,r5,r6⟩),⟨hk1,hJ,g2,by simp only;omega,hrm'⟩,by simp only;omega,le_mkA (fun n=>if 900001≤n∧n≤900003 then n+10 else n) []⟩
   (try simp only[BN]at h20);have hd5:¬sd=5:=by simpa using h20
   rw[if_neg hd5]at hXT;refine HT_sA ?_;refine(HT_cond rfl (fun h25=>?_) (fun h25=>?_))
   · (try simp only[BN]at h25);have hd1:sd=1:=by simpa using h25
     subst hd1;rw[if_pos rfl]at hXT;simp only[Prod.mk.injEq]at hXT;obtain⟨hX,hT⟩:=hXT;subst hX;have cb:=hbe TV0 W;obtain⟨BW,hBW⟩:∃q,B TV0 W=q:=⟨_,rfl⟩;rw[hBW]at cb hT;clear hmg hjo hbe hgb hga iha ihb calk hterm hBW;refine HT_seq<|(HT_druncH [(69,1000000),(75,1000000),(80,1000000)] [⟨true,.v (lb BW),none⟩] (by kernel_rfl) (by kernel_rfl) (by rfl) (by simp[evcH,hokB,hintOf, *];first|exact⟨rfl,Iff.rfl⟩|exact⟨rfl,trivial⟩|rfl) ?_ ?_)
     · first|exact cb _|exact trivial|simpa[*]using cb _
     refine(HT_cs rfl (fun h27=>?_) fun h27=>?_)
     · (try simp only[BN]at h27);have hdb:r4=false∧BW=false:=by simpa using h27
       rw[if_pos hdb]at hT;subst hT;refine HT_runA ?_;refine HT_runA ?_;exact⟨(k+1,s,⟨r1,r2++[(t3:Int)],r3,r4,r5,r6⟩),⟨hk1,hJ,g2,by simp only;omega,hrm'⟩,by simp only;omega,le_mkA (fun n=>if n=900001 then 92 else if 900002≤n∧n≤900003 then n+10 else n) []⟩
     try simp only[BN]at h27
     have hdb:¬(r4=false∧BW=false):=by
      rintro⟨ha,hb⟩;rcases h27 with h|h
      · rw[ha]at h;exact absurd h (by decide)
      rw[hb]at h;exact absurd h (by decide)
     rw[if_neg hdb]at hT;subst hT;refine HT_runA ?_;exact⟨(k+1,s,⟨r1,r2,r3,r4,r5,r6⟩),⟨hk1,hJ,g2,by simp only;omega,hrm'⟩,by simp only;omega,le_mkA (fun n=>if 900001≤n∧n≤900003 then n+10 else n) []⟩
   (try simp only[BN]at h25);have hd1:¬sd=1:=by simpa using h25
   rw[if_neg hd1]at hXT;refine HT_sA ?_;refine(HT_cs rfl (fun h34=>?_) fun h34=>?_)
   · (try simp only[BN]at h34);have hd3:sd=3:=by simpa using h34
     subst hd3;rw[if_pos rfl]at hXT;have ca:=iha TV0 s ⟨r1,r2,r3,r4,r5,r6⟩ htvo ho hsl (rm_le hrm1 (by omega));have ga:=hga TV0 s ⟨r1,r2,r3,r4,r5,r6⟩ htvo ho;obtain⟨⟨XA,TA⟩,hA⟩:∃x,tyL e fu sa TV0 s ⟨r1,r2,r3,r4,r5,r6⟩=x:=⟨_,rfl⟩;rw[hA]at ca ga;simp only[hA]at hXT;obtain⟨ga1,ga2,ga3,ga4,ga5,ga6,ga7,ga8⟩:=ga;have cb:=ihb TV0 s TA htvo ho hsl (rm_step (rm_le hrm1 (by omega)) ga3 ga5 ga6 ga7);have gb:=hgb TV0 s TA htvo ho;obtain⟨⟨XB,TB⟩,hB2⟩:∃x,tyL e fu sb TV0 s TA=x:=⟨_,rfl⟩;rw[hB2]at cb gb;simp only[hB2]at hXT;obtain⟨gb1,gb2,gb3,gb4,gb5,gb6,gb7,gb8⟩:=gb;have ga1:XA.length=s.length:=ga1;have gb1:XB.length=s.length:=gb1;have cm:=hmg TB XA XB (by omega) (by omega);obtain⟨a1,a2,a3,a4,a5,a6⟩:=TA;obtain⟨b1,b2,b3,b4,b5,b6⟩:=TB;obtain⟨AL,hAL⟩:∃q,alikeB sa sb=q:=⟨_,rfl⟩;rw[hAL]at calk hXT;simp only[Prod.mk.injEq]at hXT;obtain⟨hX,hT⟩:=hXT;rw[hX]at cm;have cj:=fun h w t f a0 d0 s' c=>hjo h w t f a0 d0 s' c b1 TV0;obtain⟨Q,hQ⟩:∃q,J b1 TV0=q:=⟨_,rfl⟩;simp only[hQ]at cj hT;simp only[tO,tB]at ca cb cm;clear hmg hjo hbe hgb hga iha ihb hterm hA hB2 ga3 ga4 ga5 ga6 ga7 ga8 gb3 gb4 gb5 gb6 gb7 gb8 hAL hX hQ;refine HT_seq<|(HT_runsS ?_);refine RunsS.cutE 5 [] (by simp[*];rfl) trivial (le_refl _) ?_;refine RunsS.call (fun n=>if n<1000000 then n+10 else n) (fun n=>if n<1000000 then n+20 else n) (by simp;rfl) (handS_mk (by simp) (by simp) (by simp) (by simp) (by simp)) ca (by rfl) ?_;refine RunsS.doneE [] (by simp;rfl) trivial ?_;clear ca;refine HT_seq<|(HT_runsS ?_);refine RunsS.cutE 5 [] (by simp[*];rfl) trivial (le_refl _) ?_;refine RunsS.call (fun n=>if n<1000000 then n+20 else n) (fun n=>if n<1000000 then n+30 else n) (by simp;rfl) (handS_mk (by simp) (by simp) (by simp) (by simp) (by simp)) cb (by rfl) ?_;refine RunsS.doneE [] (by simp;rfl) trivial ?_;clear cb;refine HT_seq<|(HT_runsS ?_);refine RunsS.cutE 3 [] (by simp[*];rfl) trivial (le_refl _) ?_;refine RunsS.call (fun n=>if n<1000000 then n+30 else n) (fun n=>if n<1000000 then n+40 else n) (by simp;rfl) (handS_mk (by simp) (by simp) (by simp) (by simp) (by simp)) cm (by rfl) ?_;refine RunsS.doneE [] (by simp;rfl) trivial ?_;clear cm;refine HT_scA [⟨true,.v (lb AL),none⟩] ?_ ?_
     · first|exact calk _|exact trivial|simpa[*]using calk _
     refine(HT_cs rfl (fun h39=>?_) fun h39=>?_)
     · (try simp only[BN]at h39);have hal:AL=false:=by simpa using h39
       rw[if_neg (by rw[hal];decide)]at hT;subst hT;refine(HT_runcA [⟨true,.v (li Q),none⟩] ?_ ?_)
       · first|exact cj _ _ _ _ _ _ _ _ _|exact trivial|simpa[*]using cj _ _ _ _ _ _ _ _ _
       refine HT_runA ?_;exact⟨(k+1,X',⟨Q,b2,b3,b4,b5,b6⟩),⟨hk1,hJ,g2,by simp only;omega,hrm'⟩,by simp only;omega,le_mkA (fun n=>if 900001≤n∧n≤900003 then n+40 else n) []⟩
     (try simp only[BN]at h39);have hal:AL=true:=by simpa using h39
     rw[if_pos hal]at hT;subst hT;refine HT_runA ?_;exact⟨(k+1,X',⟨b1,b2,b3,b4,b5,b6⟩),⟨hk1,hJ,g2,by simp only;omega,hrm'⟩,by simp only;omega,le_mkA (fun n=>if 900001≤n∧n≤900003 then n+40 else n) []⟩
   (try simp only[BN]at h34);have hd3:¬sd=3:=by simpa using h34
   rw[if_neg hd3]at hXT;simp only[Prod.mk.injEq]at hXT;obtain⟨hX,hT⟩:=hXT;subst hX hT;clear hmg hjo hbe hgb hga iha ihb calk hterm;refine HT_runA ?_;exact⟨(k+1,s,⟨r1,r2,r3,r4,r5,r6⟩),⟨hk1,hJ,g2,by simp only;omega,hrm'⟩,by simp only;omega,le_mkA (fun n=>if 900001≤n∧n≤900003 then n+10 else n) []⟩
 (try simp only[BN]at h4);have hkl:k=l.length:=by omega
 rw[hkl,List.drop_length]at hJ;simp only[tyL,Prod.mk.injEq]at hJ;obtain⟨hX,hT⟩:=hJ;subst hX hT;obtain⟨t1,t2,t3,t4,t5,t6⟩:=t;refine(HT_exit ?_);refine HT_sA ?_;exact HT_ret ⟨.inr rfl,HT_endS (by simp;rfl) (by simp[resR]) (by simp[*])⟩
end Go.Proofs.YtfjidddhehckoaaGreat
