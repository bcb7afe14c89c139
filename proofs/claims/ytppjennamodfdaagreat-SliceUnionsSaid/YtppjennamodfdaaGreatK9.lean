/- Part 9: contracts of functions of the program and of the reference, and plain facts about what they compute; used by the proof of the claimed statement. Conditions: as each theorem states. -/
import Derived.Test.YtppjennamodfdaaGreatK8
set_option linter.unusedSimpArgs false
set_option linter.unusedVariables false
set_option linter.unnecessarySimpa false
set_option maxRecDepth 100000
set_option maxHeartbeats 2000000
namespace Go.Proofs.YtppjennamodfdaaGreat
open Go Go.Hl
def Pd (N:List Nd) (steps:List St) (nv:Nat) (S:List (List Nat)) (i:Nat) (Q:Prop):Prop:=(∀j,j<i→clo N steps nv S j)∧Q
def toA (xn xo:Int) (k:Nat):Int:=if k=0 then xn else xo
def toR (xn xo:Int):List (List CD):=[[iC xn],[iC xo]]
@[simp] theorem toR_len (xn xo:Int):(toR xn xo).length=2:=rfl
theorem toA_get {xn xo:Int} {k:Nat} (h:k<2):(toR xn xo)[k]? =some [iC (toA xn xo k)]:=by
 match k,h with
 |0,_=>rfl
 |1,_=>rfl
def lS2 (S:List (List Nat)) (to:Int) (l:List Nat):Prop:=∀d∈l,inS S to d
theorem clo_of {N:List Nd} {steps:List St} {nv i:Nat} {S:List (List Nat)} {x:Nd} {Si l:List Nat} (hx:N[i]? =some x) (hS:S[i]? =some Si) (hl:∀d,d∈l↔d∈X59 steps nv Si x) (h:∀j,j<2→lS2 S (toA x.n x.o j) l):clo N steps nv S i:=by
 intro x' Si' hx' hS' d hd to q ht hq;rw[hx]at hx';rw[hS]at hS';cases hx';cases hS';rcases ht with ht|ht
 · exact h 0 (by omega) d ((hl d).2 hd) to q ht hq
 exact h 1 (by omega) d ((hl d).2 hd) to q ht hq
def X16 (R:List (Option (List (List CD)))) (y:Nat) (out:List Nat):List (Option (List (List CD))):=R.set y (ZS out)
@[simp] theorem matY_len (R:List (Option (List (List CD)))) (y:Nat) (out:List Nat):(X16 R y out).length=R.length:=by simp[X16]
theorem X04 {R:List (Option (List (List CD)))} {y:Nat} (h:y+1≤R.length) (out:List Nat):(X16 R y out)[y]? =some (ZS out):=by
 unfold X16;rw[List.getElem?_set_self (by omega)]
theorem X6S {R:List (Option (List (List CD)))} {y:Nat} (h:y+1≤R.length):X0x (X16 R y []) y=true:=by
 unfold X0x;rw[X04 h];rfl
theorem X9C (R:List (Option (List (List CD)))) (y:Nat) (out:List Nat) (r:Option (List (List CD))):(X16 R y out).set y r=R.set y r:=by simp[X16]
theorem X2i (R:List (Option (List (List CD)))) (y:Nat) (out l:List Nat) (d:Nat):(X16 R y out).set y (some (XW l++[[iC d]]))=X16 R y (l++[d]):=by
 rw[X9C];simp[X16,ZS]
theorem X7e {R:List (Option (List (List CD)))} {y:Nat} (h:R[y]? =some none):X16 R y []=R:=by
 unfold X16 ZS;rw[if_pos rfl];apply List.ext_getElem?;intro k;rw[List.getElem?_set];split
 · rename_i e;subst e;rw[if_pos (List.getElem?_eq_some_iff.1 h).1,h]
 rfl
theorem rcL_row {N:List Nd} {steps:List St} {nv:Nat} {S:List (List Nat)} (g:Gs N steps nv S) (hc:∀i,i<N.length→clo N steps nv S i) (hlt:∀to d,Rc N steps nv to d→d<steps.length+nv) {i:Nat} {Si:List Nat} (hS:S[i]? =some Si):
  ∃l,(rcL N steps nv)[i]? =some l∧(∀x,x∈Si↔x∈l)∧∀out:List Nat,out.Nodup→(∀x,x∈out↔x∈Si)→Xe (srtN out)=XW l:=by
 classical
 have hi:i<N.length:=by rw[←g.len];exact(List.getElem?_eq_some_iff.1 hS).1
 refine⟨(List.range (steps.length+nv)).filter fun d=>decide (Rc N steps nv i d),by simp[rcL,hi],?_,fun out hn ho=>?_⟩
 · intro x;rw[List.mem_filter,List.mem_range,decide_eq_true_eq];exact⟨fun h=>⟨g.lt Si (List.mem_of_getElem? hS) x h,g.snd i Si x hS h⟩,fun h=>XaN g hc hS h.2⟩
 refine srt_eq hn fun x=>?_;rw[ho,decide_eq_true_eq];exact⟨fun h=>⟨g.lt Si (List.mem_of_getElem? hS) x h,g.snd i Si x hS h⟩,fun h=>XaN g hc hS h.2⟩
theorem XbD (N:List Nd) (steps:List St) (nv:Nat):(rcL N steps nv).length=N.length:=by simp[rcL]
theorem X5y (d:Nat):Con Tryz.prog 35 true [.one (.c (.lit XP))] (.tup []) none d:=by
 obtain⟨h1,h2⟩:=X0X d;refine⟨h1,fun F w vs hF hsz hargs=>h2 F w vs hF hsz fun j t u ht hu=>?_⟩;cases j with
 | zero=>
   cases ht;have a0:CRel F w (.lit XP) u:=hargs 0 _ u rfl hu;cases a0;exact CRel.nil 1
 |succ j=>simp at ht
set_option maxHeartbeats 8000000 in
theorem X8G (f:Fl) (h:Sm f) (h0:Q0 f=0) (d:Nat):Con Tryz.prog 124 false [aF f,.agg [.c (grC f.body)]] (.tup [.one (.c (.sl 1 (QB (rcL (grN f.body) (flL f.body) f.vars.length)))),li 0]) none d:=by
 have cc:=X8k f h h0;have cf:=X90 f.body h.sz;have hok:=XaZ (X45 h0);have hlen:=X5s (X45 h0);have hsl:=XO f.body;have hsz:=h.sz;have hwd:=X4f f.body;have hv:=h.vars;have caft:=Xdf f (grN f.body) (flL f.body);obtain⟨vars,hats,body⟩:=f;simp only at cf hok hlen hsl hsz hwd hv caft;obtain⟨N,hN⟩:∃x,grN body=x:=⟨_,rfl⟩;obtain⟨steps,hst⟩:∃x,flL body=x:=⟨_,rfl⟩;simp only[grC,hN]at cc;rw[hN]at hok hlen;rw[hN,hst]at caft;rw[←hsl]at hok;rw[hst]at cf hsl hok;simp only[grC,hN,hst];have hN2:N.length≤2002:=by omega
 have hs2:steps.length≤1000:=by omega
 clear hN hst h h0 hlen hwd hsl hsz;refine X5 Tryz.func124 ?_;simp only[Tryz.f124];simp only[aF,Fl.enc,List.map_cons,List.map_nil]at cc⊢;refine X3 ?_;refine X1<|X1<|(Xm [⟨true,.v (li 0),none⟩] ?_ ?_)
 · first|exact cc _|exact trivial|simpa[*]using cc _
 refine X3 ?_;refine(Xa rfl (fun h3=>?_) fun h3=>?_)
 · exact Bool.noConfusion h3
 (try simp only[BN]at h3);refine Xj [⟨false,.v (lS steps),none⟩] ?_ ?_
 · first|exact cf _|exact trivial|simpa[*]using cf _
 have hbig:(8:Int)*N.length≤281474976710656:=by omega
 have hmx:N.length≤maxLen:=by unfold maxLen;omega
 refine X3 ?_;refine XC (le_mps 36 (by decide) rfl rfl rfl) ?_;refine X1<|X1<|X2 ?_;refine X4<|(Xf [2,3,7,8,38] (fun(y:Nat)=>[(39,.v (li y))]) (fun y=>[(2,.box [.c (.sl 5 (Xv vars)),.c (.sl 6 (Xu hats)),.c (.sl 10 (X9 body))]),(3,.box [.c (.sl 4 (QT N))]),(7,.box [.c (.sl 10 (X9 steps))]),(8,.box [.own 36]),(36,.mps 86 (msI y N.length))]) (fun y=>y≤N.length) (fun y=>N.length - y) (0:Nat) (Nat.zero_le _) ?_ ?_)
 · exact Xx (fun n=>n) [] rfl (by simp[*,upS,X8]) (by simp[*,upS,msI_zero]) (by simp[upS])
 rintro y hy;simp only[upS,X8,Xw]
 try simp only[X8,KN,Nat.reduceBEq,if_true,if_false,ins,Nat.reduceLT]
 refine X3 ?_;refine X1<|(X7 rfl (fun h11=>Xb ?_) (fun h11=>?_))
 · (try simp only[BN]at h11);have hlt:y<N.length:=by omega
   have hw1:=XA hlt (by omega);have hk1:y+1≤N.length:=hlt;have hin:y<(msI y N.length).length:=by rw[msI_len hy];exact hlt
   have hfr:=msI_free hlt;have hset:=msI_set hlt;clear hlt h11;refine X1<|X4<|X1<|X2 ?_;refine X2 ?_;refine X2 ?_;exact⟨y+1,hk1,by omega,X6 (fun n=>n) []⟩
 (try simp only[BN]at h11);have hyn:y=N.length:=by omega
 subst hyn;rw[msI_end];refine(Xi ?_);refine X3 ?_;refine X3 ?_;refine X1<|X1<|X2 ?_;refine X4<|(Xf [3,8,11] (fun(y:Bool×List (List Nat))=>[(12,.v (lb y.1))]) (fun(y:Bool×List (List Nat))=>[(2,.box [.c (.sl 5 (Xv vars)),.c (.sl 6 (Xu hats)),.c (.sl 10 (X9 body))]),(3,.box [.c (.sl 4 (QT N))]),(7,.box [.c (.sl 10 (X9 steps))]),(8,.box [.own 36]),(10,.box [.fn 149 [(7,0)]]),(36,.mps 86 (msS y.2))]) (fun(y:Bool×List (List Nat))=>Gs N steps vars.length y.2∧(y.1=false→∀i,i<N.length→clo N steps vars.length y.2 i)) (fun(y:Bool×List (List Nat))=>2*(N.length*(steps.length+vars.length)+1 - Z2 y.2)+(if y.1=true then 1 else 0)) (true,List.replicate N.length []) ⟨Gs.empty ..,fun h=>by cases h⟩ ?_ ?_)
 · exact X6 (fun n=>n) []
 rintro⟨c0,S0⟩ ⟨hg0,hcl0⟩;simp only[upS,X8,Xw]
 try simp only[X8,KN,Nat.reduceBEq,if_true,if_false,ins,Nat.reduceLT]
 simp only at hg0 hcl0;refine X1<|X1<|X2 ?_;refine(X7 rfl (fun h21=>Xb ?_) (fun h21=>?_))
 · (try simp only[BN]at h21);have hc0:c0=true:=by simpa using h21
   subst hc0;clear hcl0 h21;have htot0:=X8Z hg0;refine X4<|X1<|X2 ?_;refine X3 ?_;refine X4<|(Xf [3,8,11,51,52] (fun(y:Nat×Bool×List (List Nat))=>[(12,.v (lb y.2.1)),(53,.v (li y.1))]) (fun(y:Nat×Bool×List (List Nat))=>[(2,.box [.c (.sl 5 (Xv vars)),.c (.sl 6 (Xu hats)),.c (.sl 10 (X9 body))]),(3,.box [.c (.sl 4 (QT N))]),(7,.box [.c (.sl 10 (X9 steps))]),(8,.box [.own 36]),(10,.box [.fn 149 [(7,0)]]),(36,.mps 86 (msS y.2.2))]) (fun(y:Nat×Bool×List (List Nat))=>y.1≤N.length∧Inv N steps vars.length S0 y.2.2 y.2.1 (Pd N steps vars.length S0 y.1 True)) (fun(y:Nat×Bool×List (List Nat))=>N.length - y.1) (0,false,S0) ⟨Nat.zero_le _,hg0,Nat.le_refl _,fun h=>(by cases h),fun _=>⟨rfl,fun j hj=>absurd hj (Nat.not_lt_zero j),trivial⟩⟩ ?_ ?_)
   · exact X6 (fun n=>n) []
   rintro⟨i,c1,S1⟩ ⟨hi,hI⟩;simp only[upS,X8,Xw]
   try simp only[X8,KN,Nat.reduceBEq,if_true,if_false,ins,Nat.reduceLT]
   simp only at hi hI;refine X3 ?_;refine X1<|(X7 rfl (fun h26=>Xb ?_) (fun h26=>?_))
   · (try simp only[BN]at h26);have hlt:i<N.length:=by omega
     have hw1:=XA hlt (by omega);have hk1:i+1≤N.length:=hlt;obtain⟨x,hx,_⟩:=Xs hlt;obtain⟨Si,hS,_⟩:=Xs (show i<S1.length by rw[hI.g.len];exact hlt);have hxe:=X34 hx;have hxo:=hok x (List.mem_of_getElem? hx);have hSm:Si∈S1:=List.mem_of_getElem? hS;have ca:=caft S1 i x Si hx hS (by omega) hv (Nat.le_trans (QR (hI.g.nod Si hSm) (hI.g.lt Si hSm)) (by omega)) (fun d hd=>by have:=hI.g.lt Si hSm d hd;omega) hxo.ha 60 (by decide);obtain⟨xk,xa,xn,xo⟩:=x;simp only[Nd.enc]at hxe;simp only[Fl.enc,setsC,kC]at ca;clear hlt h26;refine X1<|X4<|X1<|(Xq (by simp[*,XI];rfl) ?_);refine X1<|(XR ?_);refine RunsN.cutE 2 [] (by simp;rfl) trivial (le_refl _) ?_;refine RunsN.callFA ca fun l hl=>?_;refine RunsN.doneE [] (by simp[HS.made];rfl) trivial ?_;have hrc:∀d∈l,∀to,ZG ⟨xk,xa,xn,xo⟩ to→Rc N steps vars.length to d:=fun d hd to ht=>Xaq hI.g hx hS ((hl.1 d).1 hd) ht
     have hrl:∀d∈l,∀to,ZG ⟨xk,xa,xn,xo⟩ to→d<steps.length+vars.length:=fun d hd to ht=>rc_lt (fun x hx ha=>by
      rcases(hok x hx).ha with h|⟨m,h1,h2⟩
      · simp[WJ,h.1]at ha
      rw[h1];simpa using h2) (hrc d hd to ht)
     have hclo:∀S,S=S0→c1=false→(∀j,j<2→lS2 S (toA xn xo j) l)→clo N steps vars.length S0 i:=by
      intro S hS0 hc h;obtain⟨h1,_⟩:=hI.same hc;subst h1;subst hS0;exact clo_of hx hS hl.1 h
     have hS1c:c1=false→S1=S0:=fun hc=>(hI.same hc).1;have hll:=hl.2;clear ca hxe hS hSm caft;refine X3 ?_;refine X4<|(Xf [3,8,11,15,51,52,53,65,66] (fun(y:Nat×Bool×List (List Nat))=>[(12,.v (lb y.2.1)),(67,.v (li y.1))]) (fun(y:Nat×Bool×List (List Nat))=>[(2,.box [.c (.sl 5 (Xv vars)),.c (.sl 6 (Xu hats)),.c (.sl 10 (X9 body))]),(3,.box [.c (.sl 4 (QT N))]),(7,.box [.c (.sl 10 (X9 steps))]),(8,.box [.own 36]),(10,.box [.fn 149 [(7,0)]]),(36,.mps 86 (msS y.2.2)),(60,.row 3 1 (XW l)),(65,.row 3 1 (toR xn xo))]) (fun(y:Nat×Bool×List (List Nat))=>y.1≤2∧Inv N steps vars.length S0 y.2.2 y.2.1 (Pd N steps vars.length S0 i (c1=false∧∀j,j<y.1→lS2 S0 (toA xn xo j) l))) (fun(y:Nat×Bool×List (List Nat))=>2 - y.1) (0,c1,S1) ⟨Nat.zero_le _,⟨hI.g,hI.tot,hI.up,fun hc=>⟨(hI.same hc).1,(hI.same hc).2.1,hc,fun j hj=>absurd hj (Nat.not_lt_zero j)⟩⟩⟩ ?_ ?_)
     · exact Xx (fun n=>n) [] rfl (by simp[*,upS,X8]) (by simp[*,upS,toR]) (by simp[upS])
     rintro⟨k,c2,S2⟩ ⟨hk,hI2⟩;simp only[upS,X8,Xw]
     try simp only[X8,KN,Nat.reduceBEq,if_true,if_false,ins,Nat.reduceLT]
     simp only at hk hI2;refine X3 ?_;refine X1<|(X7 rfl (fun h32=>Xb ?_) (fun h32=>?_))
     · try simp only[BN]at h32
       have hk2:k<2:=by
        have:(k:Int)<2:=by simpa using h32
        omega
       have hwk:=XA hk2 (by omega);have hkk:k+1≤2:=hk2;have hto:=toA_get (xn:=xn) (xo:=xo) hk2
       have hsuc:∀t:Nat,toA xn xo k=t→ZG ⟨xk,xa,xn,xo⟩ t:=by
        intro t ht;unfold toA at ht;split at ht
        · exact .inl ht
        exact .inr ht
       have htok:X55 N.length (toA xn xo k):=by
        unfold toA;split
        · exact hxo.hn
        exact hxo.ho
       obtain⟨to,hto1⟩:∃x,toA xn xo k=x:=⟨_,rfl⟩;rw[hto1]at hto hsuc htok;clear h32 hk2;refine X1<|X4<|X1<|X2 ?_;refine X3 ?_;refine X4<|(Xf [3,8,11,15,17,51,52,53,65,66,67,71,72] (fun(y:Nat×Bool×List (List Nat))=>[(12,.v (lb y.2.1)),(73,.v (li y.1))]) (fun(y:Nat×Bool×List (List Nat))=>[(2,.box [.c (.sl 5 (Xv vars)),.c (.sl 6 (Xu hats)),.c (.sl 10 (X9 body))]),(3,.box [.c (.sl 4 (QT N))]),(7,.box [.c (.sl 10 (X9 steps))]),(8,.box [.own 36]),(10,.box [.fn 149 [(7,0)]]),(36,.mps 86 (msS y.2.2)),(60,.row 3 1 (XW l)),(65,.row 3 1 (toR xn xo))]) (fun(y:Nat×Bool×List (List Nat))=>y.1≤l.length∧Inv N steps vars.length S0 y.2.2 y.2.1 (Pd N steps vars.length S0 i (c1=false∧(∀j,j<k→lS2 S0 (toA xn xo j) l)∧lS2 S0 to (l.take y.1)))) (fun(y:Nat×Bool×List (List Nat))=>l.length - y.1) (0,c2,S2) ⟨Nat.zero_le _,hI2.mono fun _ h=>⟨h.1,h.2.1,h.2.2,fun d hd=>by simp at hd⟩⟩ ?_ ?_)
       · exact X6 (fun n=>n) []
       rintro⟨m,c3,S3⟩ ⟨hm,hI3⟩;simp only[upS,X8,Xw]
       try simp only[X8,KN,Nat.reduceBEq,if_true,if_false,ins,Nat.reduceLT]
       simp only at hm hI3;refine X3 ?_;refine X1<|(X7 rfl (fun h37=>Xb ?_) (fun h37=>?_))
       · (try simp only[BN]at h37);have hml:m<l.length:=by simpa using h37
         have hwm:=XA hml (by omega);have hm1:m+1≤l.length:=hml;obtain⟨d,hd,_⟩:=Xs hml;have hde:(XW l)[m]? =some [iC d]:=by simp[XW,hd]
         have hdm:=List.mem_of_getElem? hd;clear h37 hml;refine X1<|X4<|X1<|X2 ?_;refine XV [3,8,11,12,15,17,19,51,52,53,65,66,67,71,72,73] (fun(q:Bool)=>[(87,.v (lb q))]) (fun(q:Bool)=>[(2,.box [.c (.sl 5 (Xv vars)),.c (.sl 6 (Xu hats)),.c (.sl 10 (X9 body))]),(3,.box [.c (.sl 4 (QT N))]),(7,.box [.c (.sl 10 (X9 steps))]),(8,.box [.own 36]),(10,.box [.fn 149 [(7,0)]]),(36,.mps 86 (msS S3)),(60,.row 3 1 (XW l)),(65,.row 3 1 (toR xn xo))]) (fun(q:Bool)=>(q=true→∃(t:Nat) (Lt:List Nat),to=t∧S3[t]? =some Lt∧d∉Lt)∧(q=false→inS S3 to d)) ?_ ?_
         · rcases htok with rfl|⟨t,rfl,htl⟩
           · refine Xq (by simp[*];rfl) ?_;refine⟨false,⟨fun h=>(by cases h),fun _ m l hm=>by omega⟩,Xx (fun n=>n) [] rfl (by simp[upS,X8]) (by simp[upS]) (by simp[upS])⟩
           obtain⟨Lt,hLt,_⟩:=Xs (show t<S3.length by rw[hI3.g.len];exact htl);have hms:=Xbz hLt;have hfd:=X23 d Lt;have htl2:t+1≤S3.length:=by rw[hI3.g.len];exact htl
           by_cases hin:d∈Lt
           · rw[if_pos hin]at hfd;refine Xq (by simp[hwm,hms,hfd,htl2];rfl) ?_;refine⟨false,⟨fun h=>(by cases h),fun _ m l hm hl2=>by rw[←Int.ofNat.inj hm,hLt]at hl2;cases hl2;exact hin⟩,Xx (fun n=>n) [] rfl (by simp[upS,X8]) (by simp[upS]) (by simp[upS])⟩
           rw[if_neg hin]at hfd;refine Xq (by simp[hwm,hms,hfd,htl2];rfl) ?_;refine⟨true,⟨fun _=>⟨t,Lt,rfl,hLt,hin⟩,fun h=>(by cases h)⟩,Xx (fun n=>n) [] rfl (by simp[upS,X8]) (by simp[upS]) (by simp[upS])⟩
         rintro q hq;simp only[upS,X8,Xw]
         try simp only[X8,KN,Nat.reduceBEq,if_true,if_false,ins,Nat.reduceLT]
         refine(Xa rfl (fun h40=>?_) fun h40=>?_)
         · (try simp only[BN]at h40);obtain⟨t,Lt,rfl,hLt,hnd⟩:=hq.1 (by simpa using h40);have hms:=Xbz hLt;have hfd:=X23 d Lt;rw[if_neg hnd]at hfd;have htl2:t+1≤S3.length:=(List.getElem?_eq_some_iff.1 hLt).1;have hset:=set_msS S3 t Lt d;have hinv:=hI3.add (Q:=Pd N steps vars.length S0 i (c1=false∧(∀j,j<k→lS2 S0 (toA xn xo j) l)∧lS2 S0 (t:Int) (l.take (m+1)))) hLt hnd (hrl d hdm t (hsuc t rfl)) (hrc d hdm t (hsuc t rfl));clear hq h40 hI3 hnd hLt;refine X1<|(Xq (by simp[hms,hfd,htl2,hset];rfl) ?_);refine X2 ?_;refine X2 ?_;exact⟨(m+1,true,S3.set t (Lt++[d])),⟨hm1,hinv⟩,by simp only;omega,X6 (fun n=>n) []⟩
         (try simp only[BN]at h40);have hq2:=hq.2 (by simpa using h40);clear hq h40;refine X2 ?_
         exact⟨(m+1,c3,S3),⟨hm1,hI3.mono fun hs h=>⟨h.1,h.2.1,h.2.2.1,fun e he=>by
          rw[List.take_add_one,hd]at he;rcases List.mem_append.1 he with h4|h4
          · exact h.2.2.2 e h4
          have:e=d:=by simpa using h4
          rw[this,←hs];exact hq2⟩⟩,by simp only;omega,X6 (fun n=>n) []⟩
       try simp only[BN]at h37
       have hml:m=l.length:=by
        have:¬m<l.length:=by simpa using h37
        omega
       subst hml;rw[List.take_length]at hI3;clear h37;refine(Xi ?_);refine X2 ?_
       exact⟨(k+1,c3,S3),⟨hkk,hI3.mono fun _ h=>⟨h.1,h.2.1,fun j hj=>by
        rcases Nat.lt_or_eq_of_le (Nat.le_of_lt_succ hj)with h4|h4
        · exact h.2.2.1 j h4
        rw[h4,hto1];exact h.2.2.2⟩⟩,by simp only;omega,X6 (fun n=>n) []⟩
     try simp only[BN]at h32
     have hk2:k=2:=by
      have:¬(k:Int)<2:=by simpa using h32
      omega
     subst hk2;clear h32;refine(Xi ?_);refine X2 ?_
     exact⟨(i+1,c2,S2),⟨hk1,hI2.mono fun hs h=>⟨fun j hj=>by
      rcases Nat.lt_or_eq_of_le (Nat.le_of_lt_succ hj)with h4|h4
      · exact h.1 j h4
      rw[h4];exact hclo S2 hs h.2.1 (by rw[hs];exact h.2.2),trivial⟩⟩,by simp only;omega,X6 (fun n=>n) []⟩
   (try simp only[BN]at h26);have hin:i=N.length:=by omega
   subst hin;have htot1:=X8Z hI.g;refine(Xi ?_)
   exact⟨(c1,S1),⟨hI.g,fun hc j hj=>by obtain⟨rfl,h1,_⟩:=hI.same hc;exact h1 j hj⟩,by
    simp only;cases c1 with
    |true=>have:=hI.up rfl;simp only[if_true];omega
    |false=>obtain⟨rfl,_⟩:=hI.same rfl;simp,X6 (fun n=>n) []⟩
 (try simp only[BN]at h21);have hc0:c0=false:=by simpa using h21
 subst hc0;have hcl:=hcl0 rfl
 have hlt:∀to d,Rc N steps vars.length to d→d<steps.length+vars.length:=fun to d h=>rc_lt (fun x hx ha=>by
  rcases(hok x hx).ha with h|⟨m,h1,h2⟩
  · simp[WJ,h.1]at ha
  rw[h1];simpa using h2) h
 have hrow:=fun {i:Nat} {Si:List Nat}=>rcL_row (i:=i) (Si:=Si) hg0 hcl hlt;have hLl:=XbD N steps vars.length;obtain⟨L,hL⟩:∃x,rcL N steps vars.length=x:=⟨_,rfl⟩;rw[hL]at hLl⊢;simp only[hL]at hrow;have hSl:=hg0.len;have hbig2:(24:Int)*N.length≤281474976710656:=by omega
 have hSb:∀Si∈S0,Si.Nodup∧Si.length≤2000:=fun Si h=>⟨hg0.nod Si h,Nat.le_trans (QR (hg0.nod Si h) (hg0.lt Si h)) (by omega)⟩;clear hcl0 h21 hcl hlt hL caft hg0 hy h11 cf cc hok;refine(Xi ?_);refine XC (le_frzQ 36 rfl) ?_;refine XC (s':=⟨⟨129,none⟩,[(8,.v (.one (.at_ 8 0)))],[(8,.box [.c (.sl 1 (S0.map fun l=>[.mp (mpI l)]))])]⟩) (Xx (fun n=>n) [] rfl (by simp[HS.frz,WW,RV.frz,TV.frz,CV.frz]) (by simp[HS.frz,WW,Ob.frz,CV.frz,del]) (by simp)) ?_;refine X3 ?_;refine XC (XaB 98 3 1 (by decide) (by decide) rfl rfl rfl) ?_;refine X1<|X1<|X2 ?_;refine X4<|(Xf [20,99,100] (fun(y:Nat)=>[(101,.v (li y))]) (fun y=>[(98,.mat 27 3 1 (rwI L y N.length))]) (fun y=>y≤N.length) (fun y=>N.length - y) (0:Nat) (Nat.zero_le _) ?_ ?_)
 · exact Xx (fun n=>n) [] rfl (by simp[*,upS,X8]) (by simp[*,upS,X9Q]) (by simp[upS])
 rintro y hy;simp only[upS,X8,Xw]
 try simp only[X8,KN,Nat.reduceBEq,if_true,if_false,ins,Nat.reduceLT]
 refine X3 ?_;refine X1<|(X7 rfl (fun h56=>Xb ?_) (fun h56=>?_))
 · (try simp only[BN]at h56);have hlt:y<N.length:=by omega
   have hw1:=XA hlt (by omega);have hk1:y+1≤N.length:=hlt;obtain⟨Si,hS,_⟩:=Xs (show y<S0.length by omega);have hSr:(S0.map fun l=>[CD.mp (mpI l)])[y]? =some [CD.mp (mpI Si)]:=by simp[hS]
   obtain⟨hnod,hSi⟩:=hSb Si (List.mem_of_getElem? hS);obtain⟨lr,hlr,hmemr,hsrt⟩:=hrow hS;have hget:=XbV hlt hLl;have hRs:=Xbp hlr hlt hLl;have hRl:y+1≤(rwI L y N.length).length:=by rw[XbJ hy hLl];exact hlt
   obtain⟨R,hR⟩:∃x,rwI L y N.length=x:=⟨_,rfl⟩;rw[hR]at hget hRs hRl⊢;have hz:=X7e hget;clear hrow hSb hlt h56 hR hget hlr hS;refine X1<|X4<|X1<|X2 ?_;refine X1<|X1<|X2 ?_;refine X4<|(Xf [20,21,99,100,101,107] (fun(z:List Nat×List Nat)=>[]) (fun z=>[(98,.mat 27 3 1 (X16 R y z.2)),(107,.it (mpI Si) z.1)]) (fun z=>z.1.Nodup∧X0k z.1 Si.length∧(∀d,d∈z.2↔∃j∈z.1,Si[j]? =some d)∧z.2.Nodup∧z.2.length≤z.1.length) (fun z=>Si.length - z.1.length) ([],[]) ⟨List.nodup_nil,by simp[X0k],by simp,List.nodup_nil,Nat.le_refl _⟩ ?_ ?_)
   · exact X6 (fun n=>n) []
   rintro⟨seen,out⟩ ⟨j1,j2,j3,j4,j5⟩;simp only[upS,X8,Xw]
   try simp only[X8,KN,Nat.reduceBEq,if_true,if_false,ins,Nat.reduceLT]
   simp only at j1 j2 j3 j4 j5;refine X1N (fun j k v hj hn=>?_) (fun hall=>?_)
   skip
   · (try simp only[BN]at h61);obtain⟨d,hd,rfl,rfl⟩:=X5m hj;have hjl:j<Si.length:=(List.getElem?_eq_some_iff.1 hd).1
     have hnd:(seen++[j]).Nodup:=by
      rw[List.nodup_append];exact⟨j1,by simp,fun a ha b hb=>by rw[List.mem_singleton.1 hb];exact fun e=>hn (e▸ha)⟩
     have hin:X0k (seen++[j]) Si.length:=fun i hi=>by
      rcases List.mem_append.1 hi with h|h
      · exact j2 i h
      rw[List.mem_singleton.1 h];exact hjl
     have hle:=QR hnd hin;simp only[List.length_append,List.length_singleton]at hle
     have hmem:∀x,x∈out++[d]↔∃i∈seen++[j],Si[i]? =some x:=by
      intro x;rw[List.mem_append,j3,List.mem_singleton];constructor
      · rintro(⟨i,h1,h2⟩|rfl)
        · exact⟨i,List.mem_append_left _ h1,h2⟩
        exact⟨j,by simp,hd⟩
      rintro⟨i,h1,h2⟩;rcases List.mem_append.1 h1 with h1|h1
      · exact .inl ⟨i,h1,h2⟩
      rw[List.mem_singleton.1 h1,hd]at h2;exact .inr (Option.some.inj h2).symm
     have hdo:d∉out:=by
      intro h;obtain⟨i,h1,h2⟩:=(j3 d).1 h;have:=(List.getElem?_inj hjl hnod).1 (hd.trans h2.symm);exact hn (this▸h1)
     have hon:(out++[d]).Nodup:=by
      rw[List.nodup_append];exact⟨j4,by simp,fun a ha b hb=>by rw[List.mem_singleton.1 hb];exact fun e=>hdo (e▸ha)⟩
     clear hjl j1 j3 j4 hn hdo hnod;refine X4<|X1<|X2 ?_;cases out with
     | nil=>
       have g1:=X04 hRl [];have g2:=X6S hRl;have g3:=X2i R y [] [] d;have hroom:Qq 1 8:=XB (by omega) (by decide);simp only[ZS,if_true]at g1;simp only[X5P,List.nil_append]at g3;refine Xq (by simp[g1,g2,g3,hRl,hroom];rfl) ?_;exact⟨(seen++[j],[d]),⟨hnd,hin,hmem,hon,by simp⟩,by simp only[List.length_append,List.length_singleton];omega,Xx (fun n=>n) [] rfl (by simp[upS,X8]) (by simp[upS]) (by simp[upS])⟩
     | cons a o=>
       have g1:=X04 hRl (a::o);have g3:=X2i R y (a::o) (a::o) d;have hroom:Qq ((a::o).length+1) 8:=XB (by omega) (by decide);simp only[ZS,List.cons_ne_nil,if_false]at g1;rw[List.length_cons]at hroom;refine XR ?_;refine RunsN.cutE 8 [] (by simp[g1,hRl];rfl) trivial (le_refl _) ?_;refine RunsN.matA (by simp[X7h,neT,g1,g3,hroom];rfl) ?_;refine RunsN.doneE [] rfl trivial ?_;exact⟨(seen++[j],a::o++[d]),⟨hnd,hin,hmem,hon,by simp only[List.length_append,List.length_singleton]at j5⊢;omega⟩,by simp only[List.length_append,List.length_singleton];omega,Xx (fun n=>if n=98 then 120 else n) [] rfl (by simp[upS,X8,WW,RV.mv,TV.mv,CV.mv]) (by simp[upS,WW,Ob.mv,CV.mv]) (by simp[upS])⟩
   try simp only[BN]at h61
   have hout:∀x,x∈out↔x∈Si:=by
    intro x;rw[j3];constructor
    · rintro⟨i,_,h2⟩;exact List.mem_of_getElem? h2
    intro h;obtain⟨i,hi⟩:=List.mem_iff_getElem?.1 h;exact⟨i,hall i (by rw[X5c];exact(List.getElem?_eq_some_iff.1 hi).1),hi⟩
   have hle:=QR j1 j2;have hsrt:=hsrt out j4 hout
   have hlr0:lr=[]↔out=[]:=by
    constructor
    · intro h;rw[List.eq_nil_iff_forall_not_mem];intro x hx;have:=(hmemr x).1 ((hout x).1 hx);rw[h]at this;cases this
    intro h;rw[List.eq_nil_iff_forall_not_mem];intro x hx;have:=(hout x).2 ((hmemr x).2 hx);rw[h]at this;cases this
   have hfin:=X9C R y out (ZS lr);rw[hRs]at hfin;clear hall j1 j2 j3 j4 hRs hz hmemr hnod;refine(Xi ?_);cases out with
   | nil=>
     have g1:=X04 hRl [];have hlr1:=hlr0.2 rfl;subst hlr1
     have hz2:X16 R y []=rwI L (y+1) N.length:=by
      rw[←hfin];apply List.ext_getElem?;intro k;rw[List.getElem?_set];split
      · rename_i e;subst e;rw[if_pos (by rw[matY_len];omega),g1]
      rfl
     simp only[ZS,if_true]at g1;refine QU [⟨true,.tup [],none⟩] (by simp[g1,hRl];first|exact⟨rfl,Iff.rfl⟩|exact⟨rfl,trivial⟩|rfl) ?_ ?_
     · first|exact X5y _|simpa using X5y _
     refine Xq (by simp[hw1];rfl) ?_;exact⟨y+1,hk1,by omega,Xx (fun n=>n) [] rfl (by simp[upS,X8]) (by simp[upS,hz2]) (by simp[upS])⟩
   | cons a o=>
     have g1:=X04 hRl (a::o);have hlr1:¬lr=[]:=fun h=>by have:=hlr0.1 h;cases this
     simp only[ZS,List.cons_ne_nil,if_false]at g1;simp only[ZS,hlr1,if_false]at hfin;have cs:=X40 ((a::o).map Int.ofNat) (by simp) (by simp only[List.length_map];omega);rw[←Xao,show Xe (((a::o).map Int.ofNat).mergeSort fun x y=>decide (x≤y))=XW lr from hsrt]at cs;refine XR ?_;refine RunsN.cutE 4 [] (by simp[g1,hRl];rfl) trivial (le_refl _) ?_;refine RunsN.subA (by simp[subAP,X56,g1];exact⟨rfl,rfl,rfl,rfl,rfl⟩) cs ?_;refine RunsN.doneE [] rfl trivial ?_;refine Xq (by simp[hw1];rfl) ?_;exact⟨y+1,hk1,by omega,Xx (fun n=>n) [] rfl (by simp[upS,X8]) (by simp[upS,hfin]) (by simp[upS])⟩
 (try simp only[BN]at h56);have hyn:y=N.length:=by omega
 subst hyn;have hend:=Xbv hLl;clear hrow hSb;refine(Xi ?_);refine X3 ?_;refine XC (X6r 98 rfl) ?_;exact XF ⟨.inr rfl,_,le_refl _,⟨_,by simp[HS.frz,WW,RV.frz,TV.frz,CV.frz];rfl,by simp[XD,hend]⟩,by simp,fun h=>by cases h⟩
end Go.Proofs.YtppjennamodfdaaGreat

namespace Go.Proofs.YtppjennamodfdaaGreat
open Go Go.Hl
mutual
def arS:St→Int→Nat→List Int
 | .mk _ _ _ _ _ a b _,outer,at_=>outer::(arL a at_ (at_+1)++arL b at_ (at_+1+szL a))
def arL:List St→Int→Nat→List Int
 |[],_,_=>[]
 |s::l,outer,at_=>arS s outer at_++arL l outer (at_+szS s)
end
theorem Xb5 (s:St) (o:Int) (p:Nat):arS s o p=o::(arL s.then_ p (p+1)++arL s.else_ p (p+1+szL s.then_)):=by cases s;rfl
mutual
theorem X88:∀(s:St) (o:Int) (p:Nat),(arS s o p).length=szS s
 | .mk _ _ _ _ _ a b _,o,p=>by simp only[arS,szS,List.length_cons,List.length_append,Zu a,Zu b];omega
theorem Zu:∀(l:List St) (o:Int) (p:Nat),(arL l o p).length=szL l
 |[],_,_=>rfl
 |s::l,o,p=>by simp only[arL,szL,List.length_append,X88 s,Zu l]
end
@[simp] theorem XcD (a b:List Int):Xe (a++b)=Xe a++Xe b:=by simp[Xe]
def W4 (f:Fl) (st:List St) (ar:List Int):List (Nat×Ob):=[(900001,.row 76 10 (X9 st)),(900002,.row 3 1 (Xe ar)),(1000000,.box [.at_ 1000001 0]),(1000001,.box [.c (.sl 5 (Xv f.vars)),.c (.sl 6 (Xu f.hats)),.c (.sl 10 (X9 f.body)),.own 900001,.own 900002,.c (.lit XP)]),(1000002,.box [.fn 123 [(1000000,0),(1000002,0)]])]
theorem tab_pin {f:Fl} {st:List St} {ar:List Int}:∀n cs,lkp (W4 f st ar) n=some (.box cs)→1000000≤n:=by
 intro n cs h;simp only[W4,lkp]at h
 repeat' split at h
 all_goals first|omega|cases h
def msC:List (Nat×List Nat):=[(15,[0]),(14,[1,2]),(12,[2]),(10,[1]),(8,[3])]
def msD:List (Nat×List Nat):=[(2047,[0,1,5]),(2046,[1,5]),(2045,[0,2,5]),(2015,[0,1,6]),(2044,[2,5]),(2014,[1,6]),(2041,[0,3,5]),(2013,[0,2,6]),(1951,[0,1]),(2040,[3,5]),(2012,[2,6]),(1950,[1]),(2033,[0,4,5]),(2009,[0,3,6]),(1949,[0,2]),(2032,[4,5]),(2008,[3,6]),(1948,[2]),(2017,[0,5]),(2001,[0,4,6]),(1945,[0,3]),(2016,[5]),(2000,[4,6]),(1944,[3]),(1985,[0,6]),(1937,[0,4]),(1984,[6]),(1936,[4]),(1921,[0,7]),(1920,[7]),(1793,[0]),(1792,[8]),(1536,[9]),(1024,[10])]
attribute [simp] W4
def nxCo (B:HS) (b:Bool) (R:List Nat):HS:=
 {trS B [(0,20,.v (.one (.at_ 20 0))),(3,21,.v (lb b))] R with objs:=if R.contains 0 then B.objs else ins 20 (.box [.c (bC b)]) B.objs}
def nxA (regs:List (Nat×RV)) (o0 o6 o7 o10:List (Nat×Ob)) (outs:List (Nat×Nat×RV)) (R:List Nat):HS:=
 {trS ⟨⟨64,none⟩,regs,[]⟩ outs R with objs:=if R.contains 6 then o0 else if R.contains 7 then o6 else if R.contains 10 then o7 else o10}
set_option maxHeartbeats 8000000 in
theorem new1_con (f:Fl) (l:List St):∀(outer:Int) (st:List St) (ar:List Int),ar.length=st.length→st.length+szL l≤1000→
  X1Q Tryz.prog 123 none (W4 f st ar) [lS l,li outer,.one (.at_ 1000000 0),.one (.at_ 1000002 0)] (fun _:Unit=>True) (fun _=>.tup []) (fun _=>W4 f (st++flL l) (ar++arL l outer st.length)):=by
 revert l
 apply St.lists;intro l ih outer st0 ar0 har0 hn0;have hlen:=X5n l;have hn1:szL l≤1000:=by omega
 obtain⟨R1,hR1⟩:∃x,st0++flL l=x:=⟨_,rfl⟩;obtain⟨R2,hR2⟩:∃x,ar0++arL l outer st0.length=x:=⟨_,rfl⟩;rw[hR1,hR2];refine Qx Tryz.func123 rfl (by kernel_rfl) (Nat.le_of_ble_eq_true rfl) tab_pin (fun v h=>by cases h) ?_;simp only[Tryz.f123];refine X3 ?_;refine X4<|(Xf [1,2,3,9,10] (fun(y:Nat×List St×List Int)=>[(11,.v (li y.1))]) (fun y=>W4 f y.2.1 y.2.2) (fun y=>y.1≤l.length∧y.2.1++flL (l.drop y.1)=R1∧y.2.2++arL (l.drop y.1) outer y.2.1.length=R2∧y.2.2.length=y.2.1.length∧y.2.1.length+szL (l.drop y.1)≤1000) (fun y=>l.length - y.1) (0,st0,ar0) ⟨Nat.zero_le _,by simpa using hR1,by simpa using hR2,har0,by simpa using hn0⟩ ?_ ?_)
 · exact Xx (fun n=>n) [] rfl (by simp[W4, *,upS,X8,QY]) (by simp[W4, *,upS]) (by simp[W4,upS])
 rintro⟨k,st,ar⟩ ⟨hk,h1,h2,har,hsz⟩;simp only[upS,X8,Xw]
 try simp only[X8,KN,Nat.reduceBEq,if_true,if_false,ins,Nat.reduceLT]
 simp only at hk h1 h2 har hsz;clear hR1 hR2 hn0 har0;simp only[W4];refine X3 ?_;refine X1<|(X7 rfl (fun h3=>Xb ?_) (fun h3=>?_))
 · (try simp only[BN]at h3);have hlt:k<l.length:=by simpa using h3
   obtain⟨s,he,hd⟩:=Xs hlt;have hw1:=XA hlt (by omega);have hk1:k+1≤l.length:=hlt;have hmem:s∈l:=List.mem_of_getElem? he;rw[hd]at h1 h2 hsz;simp only[flL,Xay]at h1;simp only[arL,Xb5]at h2;simp only[szL]at hsz;have he':=Q1 he;have iha:=(ih s hmem).1;have ihb:=(ih s hmem).2;obtain⟨so,sc,sv,sn,⟨to,tn,tk⟩,sa,sb,sbs⟩:=s;simp only[St.then_,St.else_]at iha ihb h1 h2;simp only[szS]at hsz h2;have fa:=XO sa;have fb:=XO sb;have la:=Zu sa st.length (st.length+1);have iha:=iha (st.length:Int) (st++[St.mk so sc sv sn (Tm.mk to tn tk) sa sb sbs]) (ar++[outer]) (by simp[har]) (by simp;omega);have ihb:=ihb (st.length:Int) (st++[St.mk so sc sv sn (Tm.mk to tn tk) sa sb sbs]++flL sa) (ar++[outer]++arL sa st.length (st.length+1)) (by simp[har,la,fa]) (by simp[fa];omega);simp only[List.length_append,List.length_singleton,fa]at iha ihb;have hE1:st++[St.mk so sc sv sn (Tm.mk to tn tk) sa sb sbs]++flL sa++flL sb++flL (l.drop (k+1))=R1:=by rw[←h1];simp
   have hE2:ar++[outer]++arL sa st.length (st.length+1)++arL sb st.length (st.length+1+szL sa)++arL (l.drop (k+1)) outer (st.length+(1+szL sa+szL sb))=R2:=by rw[←h2];simp
   have hlb:=Zu sb st.length (st.length+1+szL sa);have r1:Qq (st.length+1) 144:=XB (by omega) (by decide);have r2:Qq (ar.length+1) 8:=XB (by omega) (by decide)
   have hset:∀z:List CD,(X9 st++[z]).set st.length [iC so,iC sc,iC sv,iC sn,iC to,iC tn,.sl 3 (Xo tk),.sl 10 (X9 sa),.sl 10 (X9 sb),.sl 1 (Xe sbs)]=X9 st++[[iC so,iC sc,iC sv,iC sn,iC to,iC tn,.sl 3 (Xo tk),.sl 10 (X9 sa),.sl 10 (X9 sb),.sl 1 (Xe sbs)]]:=by
    intro z;rw[List.set_append,if_neg (by simp)];simp
   have hsn:X9 (st++[St.mk so sc sv sn (Tm.mk to tn tk) sa sb sbs])=X9 st++[[iC so,iC sc,iC sv,iC sn,iC to,iC tn,.sl 3 (Xo tk),.sl 10 (X9 sa),.sl 10 (X9 sb),.sl 1 (Xe sbs)]]:=by
    rw[Qo];rfl
   simp only[St.enc,Tm.enc,List.cons_append,List.nil_append]at he';clear hlt h3 ih hmem he hd h1 h2;refine X1<|X4<|X1<|X2 ?_;refine X3 ?_;refine(XV [1,2,3,7,8,9,10,11] (fun(z:Unit)=>[]) (fun(z:Unit)=>(7,.box [.c (iC so),.c (iC sc),.c (iC sv),.c (iC sn),.c (iC to),.c (iC tn),.c (.sl 3 (Xo tk)),.c (.sl 10 (X9 sa)),.c (.sl 10 (X9 sb)),.c (.sl 1 (Xe sbs))])::W4 f (st++[St.mk so sc sv sn (Tm.mk to tn tk) sa sb sbs]) ar) (fun(z:Unit)=>True) ?_ ?_)
   ·
    refine XC (s':=⟨⟨64,none⟩,[(1,.v (li outer)),(2,.v (.one (.at_ 1000000 0))),(3,.v (.one (.at_ 1000002 0))),(7,.v (.one (.at_ 7 0))),(8,.v (li st.length)),(9,.v (lS l)),(10,.v (li l.length)),(11,.v (li k))],(7,.box [.c (iC so),.c (iC sc),.c (iC sv),.c (iC sn),.c (iC to),.c (iC tn),.c (.sl 3 (Xo tk)),.c (.sl 10 (X9 sa)),.c (.sl 10 (X9 sb)),.c (.sl 1 (Xe sbs))])::W4 f st ar⟩) (Xx (fun n=>n) [] rfl (by simp[*]) (by simp[*,W4]) (by simp[W4])) ?_;refine X1<|(Xdr (nxCo ⟨⟨64,none⟩,[(1,.v (li outer)),(2,.v (.one (.at_ 1000000 0))),(3,.v (.one (.at_ 1000002 0))),(7,.v (.one (.at_ 7 0))),(8,.v (li st.length)),(9,.v (lS l)),(10,.v (li l.length)),(11,.v (li k))],(7,.box [.c (iC so),.c (iC sc),.c (iC sv),.c (iC sn),.c (iC to),.c (iC tn),.c (.sl 3 (Xo tk)),.c (.sl 10 (X9 sa)),.c (.sl 10 (X9 sb)),.c (.sl 1 (Xe sbs))])::W4 f st ar⟩) 4 15 msC rfl (by kernel_rfl) (by kernel_rfl) (by kernel_rfl) (by kernel_rfl) ⟨false,by simp[nxCo,trS]⟩ ?_ fun cb=>?_)
    · simp only[msC,X19];refine⟨?_,⟨?_,?_⟩,?_,?_,?_⟩
      · exact fun x=>.evX false rfl (by simp[nxCo,trS,ins,W3,W4])
      · exact fun x=>.evX true rfl (by simp[nxCo,trS,ins,W3,W4])
      · exact fun x=>.evX false rfl (by simp[nxCo,trS,ins,W3,W4])
      · exact fun x=>.evX false rfl (by simp[nxCo,trS,ins,W3,W4])
      · exact fun x=>.evX true rfl (by simp[nxCo,trS,ins,W3,W4])
      exact fun x=>.evX x rfl (by simp[nxCo,trS,ins,W3,W4])
    refine XC (s':=⟨⟨64,none⟩,(21,.v (lb cb))::[(1,.v (li outer)),(2,.v (.one (.at_ 1000000 0))),(3,.v (.one (.at_ 1000002 0))),(7,.v (.one (.at_ 7 0))),(8,.v (li st.length)),(9,.v (lS l)),(10,.v (li l.length)),(11,.v (li k))],(7,.box [.c (iC so),.c (iC sc),.c (iC sv),.c (iC sn),.c (iC to),.c (iC tn),.c (.sl 3 (Xo tk)),.c (.sl 10 (X9 sa)),.c (.sl 10 (X9 sb)),.c (.sl 1 (Xe sbs))])::W4 f st ar⟩) (Xx (fun n=>n) [] rfl (by simp[nxCo,trS,ins]) (by simp[nxCo,trS,ins,W4]) (by simp[W4])) ?_;simp only[W4];refine(X7 rfl (fun h8=>?_) (fun h8=>?_))
    · (try simp only[BN]at h8);refine X1<|(Qc (by kernel_rfl) (by kernel_rfl) (by rfl) (by simp[*,XI,Qp,XX,cellsOf,Qv,We,ZC,Ws,Wz,Wy];rfl) ?_);refine(Xq (by simp[*,setRow];rfl) ?_);exact⟨(),trivial,X6 (fun n=>if n=900001 then 29 else n) []⟩
    (try simp only[BN]at h8);refine XC (s':=⟨⟨64,none⟩,[(1,.v (li outer)),(2,.v (.one (.at_ 1000000 0))),(3,.v (.one (.at_ 1000002 0))),(7,.v (.one (.at_ 7 0))),(8,.v (li st.length)),(9,.v (lS l)),(10,.v (li l.length)),(11,.v (li k))],(7,.box [.c (iC so),.c (iC sc),.c (iC sv),.c (iC sn),.c (iC to),.c (iC tn),.c (.sl 3 (Xo tk)),.c (.sl 10 (X9 sa)),.c (.sl 10 (X9 sb)),.c (.sl 1 (Xe sbs))])::W4 f st ar⟩) (Xx (fun n=>n) [] rfl (by simp) (by simp[W4]) (by simp[W4])) ?_;refine(QZ (nxA [(1,.v (li outer)),(2,.v (.one (.at_ 1000000 0))),(3,.v (.one (.at_ 1000002 0))),(7,.v (.one (.at_ 7 0))),(8,.v (li st.length)),(9,.v (lS l)),(10,.v (li l.length)),(11,.v (li k))] ((7,.box [.c (iC so),.c (iC sc),.c (iC sv),.c (iC sn),.c (iC to),.c (iC tn),.c (.sl 3 (Xo tk)),.c (.sl 10 (X9 sa)),.c (.sl 10 (X9 sb)),.c (.sl 1 (Xe sbs))])::W4 f st ar) [(7,.box [.c (iC so),.c (iC sc),.c (iC sv),.c (iC sn),.c (iC to),.c (iC tn),.c (.sl 3 (Xo tk)),.c (.sl 10 (X9 sa)),.c (.sl 10 (X9 sb)),.c (.sl 1 (Xe sbs))]),(39,.row 76 10 [[iC so,iC sc,iC sv,iC sn,iC to,iC tn,.sl 3 (Xo tk),.sl 10 (X9 sa),.sl 10 (X9 sb),.sl 1 (Xe sbs)]]),(900001,.row 76 10 (X9 st)),(900002,.row 3 1 (Xe ar)),(1000000,.box [.at_ 1000001 0]),(1000001,.box [.c (.sl 5 (Xv f.vars)),.c (.sl 6 (Xu f.hats)),.c (.sl 10 (X9 f.body)),.own 900001,.own 900002,.c (.lit XP)]),(1000002,.box [.fn 123 [(1000000,0),(1000002,0)]])] [(7,.box [.c (iC so),.c (iC sc),.c (iC sv),.c (iC sn),.c (iC to),.c (iC tn),.c (.sl 3 (Xo tk)),.c (.sl 10 (X9 sa)),.c (.sl 10 (X9 sb)),.c (.sl 1 (Xe sbs))]),(39,.row 76 10 [[iC so,iC sc,iC sv,iC sn,iC to,iC tn,.sl 3 (Xo tk),.sl 10 (X9 sa),.sl 10 (X9 sb),.sl 1 (Xe sbs)]]),(40,.row 76 10 (X9 st++[[iC so,iC sc,iC sv,iC sn,iC to,iC tn,.sl 3 (Xo tk),.sl 10 (X9 sa),.sl 10 (X9 sb),.sl 1 (Xe sbs)]])),(900002,.row 3 1 (Xe ar)),(1000000,.box [.at_ 1000001 0]),(1000001,.box [.c (.sl 5 (Xv f.vars)),.c (.sl 6 (Xu f.hats)),.c (.sl 10 (X9 f.body)),.own 900001,.own 900002,.c (.lit XP)]),(1000002,.box [.fn 123 [(1000000,0),(1000002,0)]])] [(7,.box [.c (iC so),.c (iC sc),.c (iC sv),.c (iC sn),.c (iC to),.c (iC tn),.c (.sl 3 (Xo tk)),.c (.sl 10 (X9 sa)),.c (.sl 10 (X9 sb)),.c (.sl 1 (Xe sbs))]),(39,.row 76 10 [[iC so,iC sc,iC sv,iC sn,iC to,iC tn,.sl 3 (Xo tk),.sl 10 (X9 sa),.sl 10 (X9 sb),.sl 1 (Xe sbs)]]),(40,.row 76 10 (X9 st++[[iC so,iC sc,iC sv,iC sn,iC to,iC tn,.sl 3 (Xo tk),.sl 10 (X9 sa),.sl 10 (X9 sb),.sl 1 (Xe sbs)]])),(900002,.row 3 1 (Xe ar)),(1000000,.box [.at_ 1000001 0]),(1000001,.box [.c (.sl 5 (Xv f.vars)),.c (.sl 6 (Xu f.hats)),.c (.sl 10 (X9 f.body)),.own 40,.own 900002,.c (.lit XP)]),(1000002,.box [.fn 123 [(1000000,0),(1000002,0)]])] [(0,33,.v (.one (.at_ 1000001 0))),(1,34,.v (.one (.at_ 1000001 0))),(2,35,.v (.one (.at_ 1000001 0))),(3,36,.v (.one (.at_ 1000001 3))),(4,37,.v (.one (.own 900001))),(5,38,.v (.agg [.c (iC so),.c (iC sc),.c (iC sv),.c (iC sn),.c (iC to),.c (iC tn),.c (.sl 3 (Xo tk)),.c (.sl 10 (X9 sa)),.c (.sl 10 (X9 sb)),.c (.sl 1 (Xe sbs))])),(6,39,.v (.one (.own 39))),(7,40,.v (.one (.own 40))),(8,41,.v (.one (.at_ 1000001 0))),(9,42,.v (.one (.at_ 1000001 3)))]) 11 2047 msD rfl (by kernel_rfl) (by kernel_rfl) (by kernel_rfl) (by kernel_rfl) (by simp[nxA,trS]) ?_ ?_)
    · simp only[msD,X19]
      repeat' apply And.intro
      all_goals(refine XT.evE rfl ?_;simp[nxA,W4,trS,ins,W3,XI,Qp,XX,cellsOf,Qv,We,ZC,Ws,Wz,Wy,lkp,del,r1,r2];done)
    simp only[nxA,trS];exact⟨(),trivial,X6 (fun n=>if n=900001 then 40 else n) []⟩
   rintro⟨⟩ hz;simp only[upS,X8,Xw]
   try simp only[X8,KN,Nat.reduceBEq,if_true,if_false,ins,Nat.reduceLT]
   simp only[W4];refine XC (s':=⟨⟨64,none⟩,[(1,.v (li outer)),(2,.v (.one (.at_ 1000000 0))),(3,.v (.one (.at_ 1000002 0))),(7,.v (.one (.at_ 7 0))),(8,.v (li st.length)),(9,.v (lS l)),(10,.v (li l.length)),(11,.v (li k))],(7,.box [.c (iC so),.c (iC sc),.c (iC sv),.c (iC sn),.c (iC to),.c (iC tn),.c (.sl 3 (Xo tk)),.c (.sl 10 (X9 sa)),.c (.sl 10 (X9 sb)),.c (.sl 1 (Xe sbs))])::W4 f (st++[St.mk so sc sv sn (Tm.mk to tn tk) sa sb sbs]) ar⟩) (Xx (fun n=>n) [] rfl (by simp) (by simp[W4]) (by simp[W4])) ?_;refine X1<|(QZ (nxA [(1,.v (li outer)),(2,.v (.one (.at_ 1000000 0))),(3,.v (.one (.at_ 1000002 0))),(7,.v (.one (.at_ 7 0))),(8,.v (li st.length)),(9,.v (lS l)),(10,.v (li l.length)),(11,.v (li k))] ((7,.box [.c (iC so),.c (iC sc),.c (iC sv),.c (iC sn),.c (iC to),.c (iC tn),.c (.sl 3 (Xo tk)),.c (.sl 10 (X9 sa)),.c (.sl 10 (X9 sb)),.c (.sl 1 (Xe sbs))])::W4 f (st++[St.mk so sc sv sn (Tm.mk to tn tk) sa sb sbs]) ar) [(7,.box [.c (iC so),.c (iC sc),.c (iC sv),.c (iC sn),.c (iC to),.c (iC tn),.c (.sl 3 (Xo tk)),.c (.sl 10 (X9 sa)),.c (.sl 10 (X9 sb)),.c (.sl 1 (Xe sbs))]),(49,.row 3 1 [[iC outer]]),(900001,.row 76 10 (X9 (st++[St.mk so sc sv sn (Tm.mk to tn tk) sa sb sbs]))),(900002,.row 3 1 (Xe ar)),(1000000,.box [.at_ 1000001 0]),(1000001,.box [.c (.sl 5 (Xv f.vars)),.c (.sl 6 (Xu f.hats)),.c (.sl 10 (X9 f.body)),.own 900001,.own 900002,.c (.lit XP)]),(1000002,.box [.fn 123 [(1000000,0),(1000002,0)]])] [(7,.box [.c (iC so),.c (iC sc),.c (iC sv),.c (iC sn),.c (iC to),.c (iC tn),.c (.sl 3 (Xo tk)),.c (.sl 10 (X9 sa)),.c (.sl 10 (X9 sb)),.c (.sl 1 (Xe sbs))]),(49,.row 3 1 [[iC outer]]),(50,.row 3 1 (Xe ar++[[iC outer]])),(900001,.row 76 10 (X9 (st++[St.mk so sc sv sn (Tm.mk to tn tk) sa sb sbs]))),(1000000,.box [.at_ 1000001 0]),(1000001,.box [.c (.sl 5 (Xv f.vars)),.c (.sl 6 (Xu f.hats)),.c (.sl 10 (X9 f.body)),.own 900001,.own 900002,.c (.lit XP)]),(1000002,.box [.fn 123 [(1000000,0),(1000002,0)]])] [(7,.box [.c (iC so),.c (iC sc),.c (iC sv),.c (iC sn),.c (iC to),.c (iC tn),.c (.sl 3 (Xo tk)),.c (.sl 10 (X9 sa)),.c (.sl 10 (X9 sb)),.c (.sl 1 (Xe sbs))]),(49,.row 3 1 [[iC outer]]),(50,.row 3 1 (Xe ar++[[iC outer]])),(900001,.row 76 10 (X9 (st++[St.mk so sc sv sn (Tm.mk to tn tk) sa sb sbs]))),(1000000,.box [.at_ 1000001 0]),(1000001,.box [.c (.sl 5 (Xv f.vars)),.c (.sl 6 (Xu f.hats)),.c (.sl 10 (X9 f.body)),.own 900001,.own 50,.c (.lit XP)]),(1000002,.box [.fn 123 [(1000000,0),(1000002,0)]])] [(0,43,.v (.one (.at_ 1000001 0))),(1,44,.v (.one (.at_ 1000001 0))),(2,45,.v (.one (.at_ 1000001 0))),(3,46,.v (.one (.at_ 1000001 4))),(4,47,.v (.one (.own 900002))),(5,48,.v (li outer)),(6,49,.v (.one (.own 49))),(7,50,.v (.one (.own 50))),(8,51,.v (.one (.at_ 1000001 0))),(9,52,.v (.one (.at_ 1000001 4)))]) 11 2047 msD rfl (by kernel_rfl) (by kernel_rfl) (by kernel_rfl) (by kernel_rfl) (by simp[nxA,trS]) ?_ ?_)
   · simp only[msD,X19]
     repeat' apply And.intro
     all_goals(refine XT.evE rfl ?_;simp[nxA,W4,trS,ins,W3,XI,Qp,XX,cellsOf,Qv,We,ZC,Ws,Wz,Wy,lkp,del,r1,r2];done)
   refine XC (s':=⟨⟨64,none⟩,[(1,.v (li outer)),(2,.v (.one (.at_ 1000000 0))),(3,.v (.one (.at_ 1000002 0))),(7,.v (.one (.at_ 7 0))),(8,.v (li st.length)),(9,.v (lS l)),(10,.v (li l.length)),(11,.v (li k))],(7,.box [.c (iC so),.c (iC sc),.c (iC sv),.c (iC sn),.c (iC to),.c (iC tn),.c (.sl 3 (Xo tk)),.c (.sl 10 (X9 sa)),.c (.sl 10 (X9 sb)),.c (.sl 1 (Xe sbs))])::W4 f (st++[St.mk so sc sv sn (Tm.mk to tn tk) sa sb sbs]) (ar++[outer])⟩) (Xx (fun n=>if n=900002 then 50 else n) [] rfl (by simp[nxA,trS]) (by simp[nxA,trS,W4]) (by simp[W4])) ?_;simp only[W4];obtain⟨S3,hS3⟩:∃x,(st++[St.mk so sc sv sn (Tm.mk to tn tk) sa sb sbs])++flL sa=x:=⟨_,rfl⟩;obtain⟨A3,hA3⟩:∃x,ar++[outer]++arL sa st.length (st.length+1)=x:=⟨_,rfl⟩;rw[hS3,hA3]at iha;refine X1<|(XR ?_);refine RunsN.cutE 4 [] (by simp;rfl) trivial (le_refl _) ?_;refine RunsN.callA (fun n=>n) (fun n=>if n=900001 then 30 else if n=900002 then 31 else n) iha fun _ _=>?_;refine RunsN.doneE [] rfl trivial ?_;refine XC (s':=⟨⟨64,none⟩,[(1,.v (li outer)),(2,.v (.one (.at_ 1000000 0))),(3,.v (.one (.at_ 1000002 0))),(7,.v (.one (.at_ 7 0))),(8,.v (li st.length)),(9,.v (lS l)),(10,.v (li l.length)),(11,.v (li k))],(7,.box [.c (iC so),.c (iC sc),.c (iC sv),.c (iC sn),.c (iC to),.c (iC tn),.c (.sl 3 (Xo tk)),.c (.sl 10 (X9 sa)),.c (.sl 10 (X9 sb)),.c (.sl 1 (Xe sbs))])::W4 f S3 A3⟩) (Xx (fun n=>if n=900001 then 30 else if n=900002 then 31 else n) [] rfl (by simp[Qi,QW,del,ins,CV.ren,Ob.ren]) (by simp[Qi,QW,del,ins,CV.ren,Ob.ren]) (by simp)) ?_;subst hS3;subst hA3;obtain⟨S3,hS3⟩:∃x,(st++[St.mk so sc sv sn (Tm.mk to tn tk) sa sb sbs])++flL sa++flL sb=x:=⟨_,rfl⟩;obtain⟨A3,hA3⟩:∃x,ar++[outer]++arL sa st.length (st.length+1)++arL sb st.length (st.length+1+szL sa)=x:=⟨_,rfl⟩;rw[hS3,hA3]at ihb;refine(XR ?_);refine RunsN.cutE 4 [] (by simp;rfl) trivial (le_refl _) ?_;refine RunsN.callA (fun n=>n) (fun n=>if n=900001 then 30 else if n=900002 then 31 else n) ihb fun _ _=>?_;refine RunsN.doneE [] rfl trivial ?_;refine XC (s':=⟨⟨64,none⟩,[(1,.v (li outer)),(2,.v (.one (.at_ 1000000 0))),(3,.v (.one (.at_ 1000002 0))),(7,.v (.one (.at_ 7 0))),(8,.v (li st.length)),(9,.v (lS l)),(10,.v (li l.length)),(11,.v (li k))],(7,.box [.c (iC so),.c (iC sc),.c (iC sv),.c (iC sn),.c (iC to),.c (iC tn),.c (.sl 3 (Xo tk)),.c (.sl 10 (X9 sa)),.c (.sl 10 (X9 sb)),.c (.sl 1 (Xe sbs))])::W4 f S3 A3⟩) (Xx (fun n=>if n=900001 then 30 else if n=900002 then 31 else n) [] rfl (by simp[Qi,QW,del,ins,CV.ren,Ob.ren]) (by simp[Qi,QW,del,ins,CV.ren,Ob.ren]) (by simp)) ?_;subst hS3;subst hA3;have hl3:((st++[St.mk so sc sv sn (Tm.mk to tn tk) sa sb sbs])++flL sa++flL sb).length=st.length+(1+szL sa+szL sb):=by simp[fa,fb];omega
   have hl4:(ar++[outer]++arL sa st.length (st.length+1)++arL sb st.length (st.length+1+szL sa)).length=st.length+(1+szL sa+szL sb):=by simp[la,hlb,har];omega
   obtain⟨S3,hS3⟩:∃x,(st++[St.mk so sc sv sn (Tm.mk to tn tk) sa sb sbs])++flL sa++flL sb=x:=⟨_,rfl⟩;obtain⟨A3,hA3⟩:∃x,ar++[outer]++arL sa st.length (st.length+1)++arL sb st.length (st.length+1+szL sa)=x:=⟨_,rfl⟩;rw[hS3]at hE1 hl3;rw[hA3]at hE2 hl4;rw[hS3,hA3];rw[←hl3]at hE2;clear iha ihb hS3 hA3 hsn hset;refine X2 ?_;exact⟨(k+1,S3,A3),⟨hk1,hE1,hE2,by rw[hl4,hl3],by simp only[hl3];omega⟩,by simp only;omega,X6 (fun n=>n) []⟩
 try simp only[BN]at h3
 have hkl:k=l.length:=by
  have:¬k<l.length:=by simpa using h3
  omega
 subst hkl;simp only[List.drop_length,flL,arL,List.append_nil]at h1 h2;subst h1;subst h2;refine(Xi ?_);exact⟨.inl rfl,(),trivial,_,le_refl _,⟨[],rfl,rfl⟩,fun n o h=>h⟩
end Go.Proofs.YtppjennamodfdaaGreat

namespace Go.Proofs.YtppjennamodfdaaGreat
open Go Go.Hl
def rdB (x:Nd):Bool:=decide (0≤x.a)&&decide (x.k≠4)
def rdF (n:Nat) (l:List (Nd×List Nat)):List (List Nat):=l.foldl (fun rd p=>if rdB p.1=true then rd.set p.1.a.toNat p.2 else rd) (List.replicate n [])
theorem rdF_snoc (n:Nat) (l:List (Nd×List Nat)) (p:Nd×List Nat):rdF n (l++[p])=if rdB p.1=true then(rdF n l).set p.1.a.toNat p.2 else rdF n l:=by simp[rdF,List.foldl_append]
theorem X85 (n:Nat) (l:List (Nd×List Nat)):(rdF n l).length=n:=by
 unfold rdF
 have:∀(l:List (Nd×List Nat)) (r:List (List Nat)),r.length=n→(l.foldl (fun rd p=>if rdB p.1=true then rd.set p.1.a.toNat p.2 else rd) r).length=n:=by
  intro l
  induction l with
  |nil=>exact fun r h=>h
  | cons p l ih=>
    intro r h;rw[List.foldl_cons];refine ih _ ?_;split
    · rw[List.length_set];exact h
    exact h
 exact this l _ (by simp)
noncomputable def rdT (f:Fl):List (List Nat):=rdF (szL f.body) ((grN f.body).zip (rcL (grN f.body) (flL f.body) f.vars.length))
noncomputable def X5W (f:Fl):CD:=.ptr [.sl 5 (Xv f.vars),.sl 6 (Xu f.hats),.sl 10 (X9 f.body),.sl 10 (X9 (flL f.body)),.sl 1 (Xe (arL f.body (-1) 0)),.sl 1 (QB (rdT f))]
theorem Xde (rd:List (List Nat)) (m:Nat) (l:List Nat):(QB rd).set m [.sl 1 (XW l)]=QB (rd.set m l):=by simp[QB,List.map_set]
theorem X0E {rd:List (List Nat)} {m:Nat} {l:List Nat} (h:rd[m]? =some l):(QB rd)[m]? =some [.sl 1 (XW l)]:=by simp[QB,h]
theorem Xd0 (n:Nat):QB (List.replicate n [])=List.replicate n [.sl 1 []]:=by simp[QB]
set_option maxHeartbeats 8000000 in
theorem X7U (f:Fl) (h:Sm f) (d:Nat):Con Tryz.prog 80 false [aF f] (.tup [.one (.c (if Q0 f=0 then X5W f else .lit (.pointer none))),li (Q0 f)]) none d:=by
 have cb:=X7O f h;have cr:=X8G f h;have hok:=@XaZ f.body;have hg:=@X45 f;have hNl:gL f.body=true→(grN f.body).length≤2002:=fun hg=>by have:=X4f f.body;have:=h.sz;rw[X5s hg];omega
 have hsl:=XO f.body;have hal:=Zu f.body (-1) 0;have hsz:=h.sz;have cn:=new1_con f f.body (-1) [] [] rfl (by simpa using hsz);simp only[List.nil_append,List.length_nil]at cn;obtain⟨T,hT⟩:∃x,(if Q0 f=0 then X5W f else .lit (.pointer none))=x:=⟨_,rfl⟩;obtain⟨C,hC⟩:∃x,Q0 f=x:=⟨_,rfl⟩;rw[hT];rw[hC]at cb cr hT hg⊢;unfold X5W rdT at hT;have hrl:=XbD (grN f.body) (flL f.body) f.vars.length;obtain⟨L,hL⟩:∃x,rcL (grN f.body) (flL f.body) f.vars.length=x:=⟨_,rfl⟩;rw[hL]at cr hT hrl;obtain⟨N,hN⟩:∃x,grN f.body=x:=⟨_,rfl⟩;simp only[grC,hN]at cb cr hT hrl hok hNl;obtain⟨n,hn⟩:∃x,szL f.body=x:=⟨_,rfl⟩;rw[hn]at hT hok hsl hal hsz;obtain⟨S,hS⟩:∃x,flL f.body=x:=⟨_,rfl⟩;obtain⟨A,hA⟩:∃x,arL f.body (-1) 0=x:=⟨_,rfl⟩;rw[hS]at hT hsl cn;rw[hA]at hT hal cn;obtain⟨vars,hats,body⟩:=f;simp only[Fl.enc,W4]at cn hT;clear h hC hL hN hn hS hA;refine X5 Tryz.func80 ?_;simp only[Tryz.f80];simp only[aF,Fl.enc,List.map_cons,List.map_nil]at cb cr⊢;obtain⟨G,hG⟩:∃x,(if C=0 then CD.sl 4 (QT N)else .lit XP)=x:=⟨_,rfl⟩;rw[hG]at cb;refine X3 ?_;rcases Classical.em (C=0)with hz|hz
 · rw [if_pos hz]at hT hG;subst hG;have cr:=cr hz;have hok:=hok (hg hz);have hNl:=hNl (hg hz);clear hg;refine Xj [⟨false,.tup [.agg [.c (.sl 4 (QT N))],li C],none⟩] ?_ ?_
   · first|exact cb _|exact trivial|simpa[*]using cb _
   refine X1<|X1<|X2 ?_;refine(Xa rfl (fun h3=>?_) fun h3=>?_)
   · exact absurd h3 (by simp[hz])
   (try simp only[BN]at h3);subst hz;clear h3 cb;refine X1<|(Xq (by simp[*,XI,Qp,XX,cellsOf,Qv];rfl) ?_);refine X3 ?_;refine X3 ?_;refine XC (s':=⟨⟨74,none⟩,[(1,.v (.one (.at_ 1 0))),(4,.v (.one (.at_ 4 0))),(6,.v (.one (.at_ 6 0))),(7,.v (.one (.at_ 7 0)))],[(1,.box [.c (.sl 5 (Xv vars)),.c (.sl 6 (Xu hats)),.c (.sl 10 (X9 body))]),(4,.box [.c (.sl 4 (QT N))]),(6,.box [.at_ 21 0]),(7,.box [.fn 123 [(6,0),(7,0)]]),(21,.box [.c (.sl 5 (Xv vars)),.c (.sl 6 (Xu hats)),.c (.sl 10 (X9 body)),.own 900001,.own 900002,.c (.lit XP)]),(900001,.row 76 10 []),(900002,.row 3 1 [])]⟩) (Xx (fun n=>n) [900001,900002] rfl (by simp) (by simp) (by simp)) ?_;refine X1<|(XR ?_);refine RunsN.cutE 3 [] (by simp;rfl) trivial (le_refl _) ?_;refine RunsN.callA (fun n=>if n=1000000 then 6 else if n=1000001 then 21 else if n=1000002 then 7 else n) (fun n=>if n=1000000 then 6 else if n=1000001 then 21 else if n=1000002 then 7 else if n=900001 then 27 else if n=900002 then 28 else n) cn (fun _ _=>?_) (hd0:=by(refine WB ?_ ?_ ?_ ?_ ?_<;>simp[rbB,WA,QI,CV.ren,Ob.ren,lkp,Qi,X9,Xe])) (hd:=by(intro _ _;refine WB ?_ ?_ ?_ ?_ ?_<;>simp[rbB,WA,QI,CV.ren,Ob.ren,lkp,Qi,X9,Xe]));refine RunsN.doneE [] rfl trivial ?_;refine XC (s':=⟨⟨74,none⟩,[(1,.v (.one (.at_ 1 0))),(4,.v (.one (.at_ 4 0))),(6,.v (.one (.at_ 6 0))),(7,.v (.one (.at_ 7 0)))],[(1,.box [.c (.sl 5 (Xv vars)),.c (.sl 6 (Xu hats)),.c (.sl 10 (X9 body))]),(4,.box [.c (.sl 4 (QT N))]),(6,.box [.at_ 21 0]),(7,.box [.fn 123 [(6,0),(7,0)]]),(21,.box [.c (.sl 5 (Xv vars)),.c (.sl 6 (Xu hats)),.c (.sl 10 (X9 body)),.own 900001,.own 900002,.c (.lit XP)]),(900001,.row 76 10 (X9 S)),(900002,.row 3 1 (Xe A))]⟩) (Xx (fun n=>if n=900001 then 27 else if n=900002 then 28 else n) [] rfl (by simp[Qi,QW,del,ins,CV.ren,Ob.ren]) (by simp[Qi,QW,del,ins,CV.ren,Ob.ren]) (by simp)) ?_;have hbig:(24:Int)*n≤281474976710656:=by omega
   have hmx:n≤maxLen:=by unfold maxLen;omega
   clear cn;refine Xj [⟨false,.tup [.one (.c (.sl 1 (QB L))),li 0],none⟩] ?_ ?_
   · first|exact cr _|exact trivial|simpa[*]using cr _
   refine X1<|X1<|X2 ?_;refine(Xa rfl (fun h12=>?_) fun h12=>?_)
   · exact absurd h12 (by simp)
   (try simp only[BN]at h12);refine X1<|(Qc (by kernel_rfl) (by kernel_rfl) (by rfl) (by simp[*];rfl) ?_);refine XC (XcC (e:=27) (k:=n) 42 (by simp[hsl])) ?_;simp only[rwO,Nat.reduceEqDiff,if_true,if_false];refine X1<|X1<|X2 ?_;refine X4<|(Xf [6,8,46,47] (fun(y:Nat)=>[(48,.v (li y))]) (fun y=>[(6,.box [.at_ 21 0]),(21,.box [.c (.sl 5 (Xv vars)),.c (.sl 6 (Xu hats)),.c (.sl 10 (X9 body)),.own 900001,.own 900002,.own 42]),(42,.row 27 1 (QB (rdF n ((N.zip L).take y)))),(900001,.row 76 10 (X9 S)),(900002,.row 3 1 (Xe A))]) (fun y=>y≤N.length) (fun y=>N.length - y) (0:Nat) (Nat.zero_le _) ?_ ?_)
   · exact Xx (fun n=>n) [] rfl (by simp[*,upS,X8]) (by simp[*,upS,rdF,Xd0]) (by simp[upS])
   rintro y hy;simp only[upS,X8,Xw]
   try simp only[X8,KN,Nat.reduceBEq,if_true,if_false,ins,Nat.reduceLT]
   refine X3 ?_;refine X1<|(X7 rfl (fun h19=>Xb ?_) (fun h19=>?_))
   · (try simp only[BN]at h19);have hlt:y<N.length:=by omega
     obtain⟨x,hx,_⟩:=Xs hlt;obtain⟨Li,hLi,_⟩:=Xs (show y<L.length by omega);have hwd:=hok x (List.mem_of_getElem? hx);have hxe:=X34 hx;have hle:=X0E hLi
     have hsn:rdF n ((N.zip L).take (y+1))=if rdB x=true then(rdF n ((N.zip L).take y)).set x.a.toNat Li else rdF n ((N.zip L).take y):=by
      rw[List.take_add_one,show(N.zip L)[y]? =some (x,Li) by rw[List.getElem?_zip_eq_some];exact⟨hx,hLi⟩,Option.toList_some,rdF_snoc]
     have hrdl:=X85 n ((N.zip L).take y);obtain⟨RD,hRD⟩:∃z,rdF n ((N.zip L).take y)=z:=⟨_,rfl⟩;rw[hRD]at hsn hrdl⊢;have hk1:y+1≤N.length:=hlt;have hyb:N.length≤1000000000:=by omega
     have hw1:=XA hlt hyb;obtain⟨xk,xa,xn,xo⟩:=x;simp only[Nd.enc]at hxe;clear hlt h19 hx hLi hRD;refine X1<|X4<|X1<|X2 ?_;refine XV [6,8,9,10,46,47,48] (fun(q:Bool)=>[(60,.v (lb q))]) (fun(q:Bool)=>[(6,.box [.at_ 21 0]),(10,.box [.c (iC xk),.c (iC xa),.c (iC xn),.c (iC xo)]),(21,.box [.c (.sl 5 (Xv vars)),.c (.sl 6 (Xu hats)),.c (.sl 10 (X9 body)),.own 900001,.own 900002,.own 42]),(42,.row 27 1 (QB RD)),(900001,.row 76 10 (X9 S)),(900002,.row 3 1 (Xe A))]) (fun(q:Bool)=>q=rdB ⟨xk,xa,xn,xo⟩) ?_ ?_
     · refine Xq (by simp[*];rfl) ?_;exact⟨_,rfl,Xx (fun n=>n) [] rfl (by simp[upS,X8,rdB]<;>rfl) (by simp[upS]) (by simp[upS])⟩
     rintro q hq;simp only[upS,X8,Xw]
     try simp only[X8,KN,Nat.reduceBEq,if_true,if_false,ins,Nat.reduceLT]
     refine(Xa rfl (fun h22=>?_) fun h22=>?_)
     · (try simp only[BN]at h22);have hqt:q=true:=by simpa using h22
       subst hqt;rw[if_pos hq.symm]at hsn
       obtain⟨m,hm,hmn⟩:∃m:Nat,xa=m∧m<n:=by
        rcases hwd.ha with⟨_,h⟩|h
        · simp only at h;rw[h]at hq;simp[rdB]at hq
        exact h
       subst hm;simp only[Int.toNat_natCast]at hsn;obtain⟨o,ho,_⟩:=Xs (show m<RD.length by omega);have ho':=X0E ho;have hset:=Xde RD m Li;rw[←hsn]at hset;have hml:m+1≤RD.length:=by omega
       clear hq h22 hwd hsn ho hmn hrdl;refine(Qc (by kernel_rfl) (by kernel_rfl) (by rfl) (by simp[*,setRow];rfl) ?_);refine X2 ?_;exact⟨y+1,hk1,by omega,X6 (fun n=>n) []⟩
     (try simp only[BN]at h22);have hqt:q=false:=by simpa using h22
     subst hqt;rw[if_neg (by rw[←hq];simp)]at hsn;clear hq h22 hwd hrdl;refine X2 ?_;exact⟨y+1,hk1,by omega,X6 (fun n=>n) []⟩
   (try simp only[BN]at h19);have hyn:y=N.length:=by omega
   subst hyn;have htk:(N.zip L).take N.length=N.zip L:=List.take_of_length_le (by rw[List.length_zip];omega);rw[htk];obtain⟨RD,hRD⟩:∃z,rdF n (N.zip L)=z:=⟨_,rfl⟩;rw[hRD]at hT⊢;clear hRD htk h19;refine(Xi ?_);refine X3 ?_;refine XC (XJ 42 rfl) ?_;refine XC (XJ 900001 rfl) ?_;refine XC (XJ 900002 rfl) ?_;refine XC (le_frzB (cs:=[.c (.sl 5 (Xv vars)),.c (.sl 6 (Xu hats)),.c (.sl 10 (X9 body)),.c (.sl 10 (X9 S)),.c (.sl 1 (Xe A)),.c (.sl 1 (QB RD))]) (ds:=[.sl 5 (Xv vars),.sl 6 (Xu hats),.sl 10 (X9 body),.sl 10 (X9 S),.sl 1 (Xe A),.sl 1 (QB RD)]) 21 rfl rfl rfl) ?_;exact XF ⟨.inr rfl,_,le_refl _,⟨_,by simp[HS.frz,WW,RV.frz,TV.frz,CV.frz];rfl,by simp[XD,←hT,li]⟩,by simp,fun h=>by cases h⟩
 rw[if_neg hz]at hT hG;subst hG;subst hT;clear cr;refine Xj [⟨false,.tup [.agg [.c (.lit XP)],li C],none⟩] ?_ ?_
 · first|exact cb _|exact trivial|simpa[*]using cb _
 refine X1<|X1<|X2 ?_;refine(Xa rfl (fun h3=>?_) fun h3=>?_)
 · (try simp only[BN]at h3);refine X3 ?_;exact XF ⟨.inr rfl,_,le_refl _,⟨_,by simp;rfl,by simp[XD,li]⟩,by simp,fun h=>by cases h⟩
 exact absurd h3 (by simp[hz])
end Go.Proofs.YtppjennamodfdaaGreat

namespace Go.Proofs.YtppjennamodfdaaGreat
open Go Go.Hl
def mpZ (l:List Int):List (Value×CD):=l.map fun d=>(.int .i64 d,bC true)
@[simp] theorem len_mpZ (l:List Int):(mpZ l).length=l.length:=by simp[mpZ]
theorem get_mpZ {l:List Int} {j:Nat} {k:Value} {v:CD} (h:(mpZ l)[j]? =some (k,v)):∃d:Int,l[j]? =some d∧k=.int .i64 d∧v=bC true:=by
 simp only[mpZ,List.getElem?_map,Option.map_eq_some_iff]at h;obtain⟨d,hd,he⟩:=h;cases he;exact⟨d,hd,rfl,rfl⟩
theorem Xab (a b:Int):Instr.sameNow (.int .i64) (.int .i64 a) (.int .i64 b)=some (decide (a=b)):=by
 have h2:(a==b)=decide (a=b):=by
  rw[Bool.eq_iff_iff];simp only[beq_iff_eq,decide_eq_true_eq]
 simp[Instr.sameNow,h2]
theorem X1U (d:Int):∀l:List Int,X2s (.int .i64) (.int .i64 d) (mpZ l)=some (if d∈l then some (bC true)else none)
 |[]=>rfl
 | k::l=>by
   have e:mpZ (k::l)=(.int .i64 k,bC true)::mpZ l:=rfl;rw[e];unfold X2s;rw[Xab];by_cases hk:d=k
   · subst hk;simp
   simp only[hk,decide_false,List.mem_cons,false_or];exact X1U d l
theorem X5p (d:Int):∀l:List Int,d∈l→setM (.int .i64) (.int .i64 d) (bC true) (mpZ l)=some (mpZ l)
 |[],h=>by cases h
 | k ::l,h=>by
   have e:mpZ (k::l)=(.int .i64 k,bC true)::mpZ l:=rfl;rw[e];unfold setM;rw[Xab];by_cases hk:d=k
   · subst hk;have:Instr.sameBits 10000 (.int .i64 d) (.int .i64 d)=true:=by simp[Instr.sameBits]
     simp[this]
   simp only[hk,decide_false];rcases List.mem_cons.1 h with h|h
   · exact absurd h hk
   rw[X5p d l h];rfl
def X2N (m:List Int) (v:Int):List Int:=if v∈m then m else m++[v]
theorem X6o (m:List Int) (v:Int):mpZ m++[(.int .i64 v,bC true)]=mpZ (m++[v]):=by simp[mpZ]
def X54 (m:List Int):List (Nat×Ob):=[(900001,.mp (mpZ m)),(1000000,.box [.own 900001])]
theorem X8B {m:List Int}:∀n cs,lkp (X54 m) n=some (.box cs)→1000000≤n:=by
 intro n cs h;simp only[X54,lkp]at h
 repeat' split at h
 all_goals first|omega|cases h
attribute [simp] X54
def putC (c:FuncId):Prop:=∀(m:List Int) (v:Int),X1Q Tryz.prog c none (X54 m) [li v,.one (.at_ 1000000 0)] (fun _:Unit=>True) (fun _=>.tup []) (fun _=>X54 (X2N m v))
theorem put1_con:putC 83:=by
 intro m v;refine Qx Tryz.func83 rfl (by kernel_rfl) (Nat.le_of_ble_eq_true rfl) X8B (fun v h=>by cases h) ?_;simp only[Tryz.f83,X54];have hf:=X1U v m;unfold X2N;by_cases h:v∈m
 · rw[if_pos h]at hf⊢;have hs:=X5p v m h;refine X2 ?_;exact⟨.inl rfl,(),trivial,_,le_refl _,⟨[],rfl,rfl⟩,fun n o h=>h⟩
 rw[if_neg h]at hf⊢;have hs:=X6o m v;refine X2 ?_;exact⟨.inl rfl,(),trivial,_,le_refl _,⟨[],rfl,rfl⟩,fun n o h=>h⟩
theorem put2_con:putC 55:=by
 intro m v;refine Qx Tryz.func55 rfl (by kernel_rfl) (Nat.le_of_ble_eq_true rfl) X8B (fun v h=>by cases h) ?_;simp only[Tryz.f55,X54];have hf:=X1U v m;unfold X2N;by_cases h:v∈m
 · rw[if_pos h]at hf⊢;have hs:=X5p v m h;refine X2 ?_;exact⟨.inl rfl,(),trivial,_,le_refl _,⟨[],rfl,rfl⟩,fun n o h=>h⟩
 rw[if_neg h]at hf⊢;have hs:=X6o m v;refine X2 ?_;exact⟨.inl rfl,(),trivial,_,le_refl _,⟨[],rfl,rfl⟩,fun n o h=>h⟩
mutual
def vrT:Tm→List Int→List Int
 | .mk o n ks,m=>vrTs ks (if o=24 then X2N m n else m)
def vrTs:List Tm→List Int→List Int
 |[],m=>m
 |t::l,m=>vrTs l (vrT t m)
end
theorem X2q {c:FuncId} (hc:putC c) (t:Tm):t.nodes≤1000000→∀m:List Int,X1Q Tryz.prog 54 none (X54 m) [aT t,.one (.fn c [(1000000,0)])] (fun _:Unit=>True) (fun _=>.tup []) (fun _=>X54 (vrT t m)):=by
 revert t
 refine Tm.ind ?_;intro o n ks ih hn m;simp only[Tm.nodes]at hn;have hlen:=Wg ks;obtain⟨R,hR⟩:∃x,vrT (.mk o n ks) m=x:=⟨_,rfl⟩;rw[hR];simp only[vrT]at hR;simp only[aT,Tm.enc,List.map_cons,List.map_nil];refine Qx Tryz.func54 rfl (by kernel_rfl) (Nat.le_of_ble_eq_true rfl) X8B (fun v h=>by cases h) ?_;simp only[Tryz.f54];refine X3 ?_;refine(XV [1,2] (fun(z:Unit)=>[]) (fun(z:Unit)=>(2,.box [.c (iC o),.c (iC n),.c (.sl 3 (Xo ks))])::X54 (if o=24 then X2N m n else m)) (fun(z:Unit)=>True) ?_ ?_)
 ·
  refine X3 ?_;refine(Xa rfl (fun h3=>?_) fun h3=>?_)
  · (try simp only[BN]at h3);have ho:o=24:=by simpa using h3
    have cc:=hc m n;rw[if_pos ho];clear h3 ho hR;refine(XR ?_);refine RunsN.cutE 3 [] (by simp;rfl) trivial (le_refl _) ?_;refine RunsN.callA (fun n=>n) (fun n=>if n=900001 then 20 else n) cc fun _ _=>?_;refine RunsN.doneE [] rfl trivial ?_;exact⟨(),trivial,Xx (fun n=>if n=900001 then 20 else n) [] rfl (by simp[upS,X8,Qi,QW,del,ins,CV.ren,Ob.ren]) (by simp[upS,Qi,QW,del,ins,CV.ren,Ob.ren]) (by simp[upS])⟩
  (try simp only[BN]at h3);have ho:¬o=24:=by simpa using h3
  rw[if_neg ho];clear h3 ho hR;exact⟨(),trivial,Xx (fun n=>n) [] rfl (by simp[upS,X8]) (by simp[upS]) (by simp[upS])⟩
 rintro⟨⟩ hz;simp only[upS,X8,Xw]
 try simp only[X8,KN,Nat.reduceBEq,if_true,if_false,ins,Nat.reduceLT]
 obtain⟨m0,hm0⟩:∃x,(if o=24 then X2N m n else m)=x:=⟨_,rfl⟩;rw[hm0]at hR⊢;clear hm0;refine X3 ?_;refine X4<|(Xf [1,14,15] (fun(y:Nat×List Int)=>[(16,.v (li y.1))]) (fun y=>X54 y.2) (fun y=>y.1≤ks.length∧vrTs (ks.drop y.1) y.2=R) (fun y=>ks.length - y.1) (0,m0) ⟨Nat.zero_le _,hR⟩ ?_ ?_)
 · exact X6 (fun n=>n) []
 rintro⟨k,m1⟩ ⟨hk,hJ⟩;simp only[upS,X8,Xw]
 try simp only[X8,KN,Nat.reduceBEq,if_true,if_false,ins,Nat.reduceLT]
 simp only at hk hJ;clear hR;refine X3 ?_;refine X1<|(X7 rfl (fun h10=>Xb ?_) (fun h10=>?_))
 · (try simp only[BN]at h10);have hlt:k<ks.length:=by simpa using h10
   obtain⟨t,he,hd⟩:=Xs hlt;have hw1:=XA hlt (by omega);have hk1:k+1≤ks.length:=hlt;have hmem:t∈ks:=List.mem_of_getElem? he;have hnm:=X1z hmem;have ct:=ih t hmem (by omega) m1;rw[hd]at hJ;simp only[vrTs]at hJ;have he':=Wd he;obtain⟨M,hM⟩:∃x,vrT t m1=x:=⟨_,rfl⟩;rw[hM]at ct hJ;obtain⟨so,stn,sks⟩:=t;simp only[Tm.enc]at he';simp only[aT,Tm.enc,List.map_cons,List.map_nil]at ct;clear hlt h10 ih hmem hnm he hd hM;refine X1<|X4<|X1<|X2 ?_;refine(XR ?_);refine RunsN.cutE 2 [] (by simp;rfl) trivial (le_refl _) ?_;refine RunsN.callA (fun n=>n) (fun n=>if n=900001 then 20 else n) ct fun _ _=>?_;refine RunsN.doneE [] rfl trivial ?_;refine XC (s':=⟨⟨24,none⟩,[(1,.v (.one (.fn c [(1000000,0)]))),(14,.v (.one (.c (.sl 3 (Xo ks))))),(15,.v (li ks.length)),(16,.v (li k))],X54 M⟩) (Xx (fun n=>if n=900001 then 20 else n) [] rfl (by simp[Qi,QW,del,ins,CV.ren,Ob.ren]) (by simp[Qi,QW,del,ins,CV.ren,Ob.ren]) (by simp)) ?_;refine X2 ?_;exact⟨(k+1,M),⟨hk1,hJ⟩,by simp only;omega,X6 (fun n=>n) []⟩
 try simp only[BN]at h10
 have hkl:k=ks.length:=by
  have:¬k<ks.length:=by simpa using h10
  omega
 subst hkl;simp only[List.drop_length,vrTs]at hJ;subst hJ;refine(Xi ?_);exact⟨.inl rfl,(),trivial,_,le_refl _,⟨[],rfl,rfl⟩,fun n o h=>h⟩
end Go.Proofs.YtppjennamodfdaaGreat
