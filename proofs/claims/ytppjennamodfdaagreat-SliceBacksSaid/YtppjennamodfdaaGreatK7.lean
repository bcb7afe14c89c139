/- Part 7: contracts of functions of the program and of the reference, and plain facts about what they compute; used by the proof of the claimed statement. Conditions: as each theorem states. -/
import Derived.Test.YtppjennamodfdaaGreatK6
set_option linter.unusedSimpArgs false
set_option linter.unusedVariables false
set_option linter.unnecessarySimpa false
set_option maxRecDepth 100000
set_option maxHeartbeats 2000000
namespace Go.Proofs.YtppjennamodfdaaGreat
open Go Go.Hl
def Pd (N:List Nd) (steps:List St) (nv:Nat) (S:List (List Nat)) (i:Nat) (Q:Prop):Prop:=(∀j,j<i→clo N steps nv S j)∧Q
def toA (xn xo:Int) (k:Nat):Int:=if k=0 then xn else xo
def toR (xn xo:Int):List (List CD):=[[iC xn],[iC xo]]
@[simp] theorem toR_len (xn xo:Int):(toR xn xo).length=2:=rfl
theorem Xbz {xn xo:Int} {k:Nat} (h:k<2):(toR xn xo)[k]? =some [iC (toA xn xo k)]:=by
 match k,h with
 |0,_=>rfl
 |1,_=>rfl
def lS2 (S:List (List Nat)) (to:Int) (l:List Nat):Prop:=∀d∈l,inS S to d
theorem clo_of {N:List Nd} {steps:List St} {nv i:Nat} {S:List (List Nat)} {x:Nd} {Si l:List Nat} (hx:N[i]? =some x) (hS:S[i]? =some Si) (hl:∀d,d∈l↔d∈X4S steps nv Si x) (h:∀j,j<2→lS2 S (toA x.n x.o j) l):clo N steps nv S i:=by
 intro x' Si' hx' hS' d hd to q ht hq;rw[hx]at hx';rw[hS]at hS';cases hx';cases hS';rcases ht with ht|ht
 · exact h 0 (by omega) d ((hl d).2 hd) to q ht hq
 exact h 1 (by omega) d ((hl d).2 hd) to q ht hq
def X13 (R:List (Option (List (List CD)))) (y:Nat) (out:List Nat):List (Option (List (List CD))):=R.set y (ZP out)
@[simp] theorem matY_len (R:List (Option (List (List CD)))) (y:Nat) (out:List Nat):(X13 R y out).length=R.length:=by simp[X13]
theorem X06 {R:List (Option (List (List CD)))} {y:Nat} (h:y+1≤R.length) (out:List Nat):(X13 R y out)[y]? =some (ZP out):=by
 unfold X13;rw[List.getElem?_set_self (by omega)]
theorem X7n {R:List (Option (List (List CD)))} {y:Nat} (h:y+1≤R.length):ZH (X13 R y []) y=true:=by
 unfold ZH;rw[X06 h];rfl
theorem X96 (R:List (Option (List (List CD)))) (y:Nat) (out:List Nat) (r:Option (List (List CD))):(X13 R y out).set y r=R.set y r:=by simp[X13]
theorem X1T (R:List (Option (List (List CD)))) (y:Nat) (out l:List Nat) (d:Nat):(X13 R y out).set y (some (XB l++[[iC d]]))=X13 R y (l++[d]):=by
 rw[X96];simp[X13,ZP]
theorem X6C {R:List (Option (List (List CD)))} {y:Nat} (h:R[y]? =some none):X13 R y []=R:=by
 unfold X13 ZP;rw[if_pos rfl];apply List.ext_getElem?;intro k;rw[List.getElem?_set];split
 · rename_i e;subst e;rw[if_pos (List.getElem?_eq_some_iff.1 h).1,h]
 rfl
theorem rcL_row {N:List Nd} {steps:List St} {nv:Nat} {S:List (List Nat)} (g:Gs N steps nv S) (hc:∀i,i<N.length→clo N steps nv S i) (hlt:∀to d,Rc N steps nv to d→d<steps.length+nv) {i:Nat} {Si:List Nat} (hS:S[i]? =some Si):
  ∃l,(rcL N steps nv)[i]? =some l∧(∀x,x∈Si↔x∈l)∧∀out:List Nat,out.Nodup→(∀x,x∈out↔x∈Si)→Xi (srtN out)=XB l:=by
 classical
 have hi:i<N.length:=by rw[←g.len];exact(List.getElem?_eq_some_iff.1 hS).1
 refine⟨(List.range (steps.length+nv)).filter fun d=>decide (Rc N steps nv i d),by simp[rcL,hi],?_,fun out hn ho=>?_⟩
 · intro x;rw[List.mem_filter,List.mem_range,decide_eq_true_eq];exact⟨fun h=>⟨g.lt Si (List.mem_of_getElem? hS) x h,g.snd i Si x hS h⟩,fun h=>X9T g hc hS h.2⟩
 refine Xad hn fun x=>?_;rw[ho,decide_eq_true_eq];exact⟨fun h=>⟨g.lt Si (List.mem_of_getElem? hS) x h,g.snd i Si x hS h⟩,fun h=>X9T g hc hS h.2⟩
theorem X7O (N:List Nd) (steps:List St) (nv:Nat):(rcL N steps nv).length=N.length:=by simp[rcL]
theorem X5f (d:Nat):Con Tryz.prog 35 true [.one (.c (.lit XU))] (.tup []) none d:=by
 obtain⟨h1,h2⟩:=X3T d;refine⟨h1,fun F w vs hF hsz hargs=>h2 F w vs hF hsz fun j t u ht hu=>?_⟩;cases j with
 | zero=>
   cases ht;have a0:CRel F w (.lit XU) u:=hargs 0 _ u rfl hu;cases a0;exact CRel.nil 1
 |succ j=>simp at ht
set_option maxHeartbeats 8000000 in
theorem X85 (f:Fl) (h:Sm f) (h0:Qf f=0) (d:Nat):Con Tryz.prog 124 false [aF f,.agg [.c (grC f.body)]] (.tup [.one (.c (.sl 1 (Qa (rcL (grN f.body) (flL f.body) f.vars.length)))),li 0]) none d:=by
 have cc:=X83 f h h0;have cf:=X9w f.body h.sz;have hok:=X5U (X1C h0);have hlen:=X3i (X1C h0);have hsl:=XT f.body;have hsz:=h.sz;have hwd:=X2q f.body;have hv:=h.vars;have caft:=XcD f (grN f.body) (flL f.body);obtain⟨vars,hats,body⟩:=f;simp only at cf hok hlen hsl hsz hwd hv caft;obtain⟨N,hN⟩:∃x,grN body=x:=⟨_,rfl⟩;obtain⟨steps,hst⟩:∃x,flL body=x:=⟨_,rfl⟩;simp only[grC,hN]at cc;rw[hN]at hok hlen;rw[hN,hst]at caft;rw[←hsl]at hok;rw[hst]at cf hsl hok;simp only[grC,hN,hst];have hN2:N.length≤2002:=by omega
 have hs2:steps.length≤1000:=by omega
 clear hN hst h h0 hlen hwd hsl hsz;refine X5 Tryz.func124 ?_;simp only[Tryz.f124];simp only[aF,Fl.enc,List.map_cons,List.map_nil]at cc⊢;refine X2 ?_;refine X0<|X0<|(Xm [⟨true,.v (li 0),none⟩] ?_ ?_)
 · first|exact cc _|exact trivial|simpa[*]using cc _
 refine X2 ?_;refine(Xc rfl (fun h3=>?_) fun h3=>?_)
 · exact Bool.noConfusion h3
 (try simp only[BN]at h3);refine Xh [⟨false,.v (lS steps),none⟩] ?_ ?_
 · first|exact cf _|exact trivial|simpa[*]using cf _
 have hbig:(8:Int)*N.length≤281474976710656:=by omega
 have hmx:N.length≤maxLen:=by unfold maxLen;omega
 refine X2 ?_;refine Xz (le_mps 36 (by decide) rfl rfl rfl) ?_;refine X0<|X0<|X1 ?_;refine X3<|(Xb [2,3,7,8,38] (fun(y:Nat)=>[(39,.v (li y))]) (fun y=>[(2,.box [.c (.sl 5 (Xr vars)),.c (.sl 6 (Xs hats)),.c (.sl 10 (X8 body))]),(3,.box [.c (.sl 4 (XD N))]),(7,.box [.c (.sl 10 (X8 steps))]),(8,.box [.own 36]),(36,.mps 86 (msI y N.length))]) (fun y=>y≤N.length) (fun y=>N.length - y) (0:Nat) (Nat.zero_le _) ?_ ?_)
 · exact Xu (fun n=>n) [] rfl (by simp[*,upS,X6]) (by simp[*,upS,msI_zero]) (by simp[upS])
 rintro y hy;simp only[upS,X6,Xw]
 try simp only[X6,KN,Nat.reduceBEq,if_true,if_false,ins,Nat.reduceLT]
 refine X2 ?_;refine X0<|(X7 rfl (fun h11=>X9 ?_) (fun h11=>?_))
 · (try simp only[BN]at h11);have hlt:y<N.length:=by omega
   have hw1:=Xy hlt (by omega);have hk1:y+1≤N.length:=hlt;have hin:y<(msI y N.length).length:=by rw[msI_len hy];exact hlt
   have hfr:=msI_free hlt;have hset:=msI_set hlt;clear hlt h11;refine X0<|X3<|X0<|X1 ?_;refine X1 ?_;refine X1 ?_;exact⟨y+1,hk1,by omega,X4 (fun n=>n) []⟩
 (try simp only[BN]at h11);have hyn:y=N.length:=by omega
 subst hyn;rw[msI_end];refine(Xf ?_);refine X2 ?_;refine X2 ?_;refine X0<|X0<|X1 ?_;refine X3<|(Xb [3,8,11] (fun(y:Bool×List (List Nat))=>[(12,.v (lb y.1))]) (fun(y:Bool×List (List Nat))=>[(2,.box [.c (.sl 5 (Xr vars)),.c (.sl 6 (Xs hats)),.c (.sl 10 (X8 body))]),(3,.box [.c (.sl 4 (XD N))]),(7,.box [.c (.sl 10 (X8 steps))]),(8,.box [.own 36]),(10,.box [.fn 149 [(7,0)]]),(36,.mps 86 (msS y.2))]) (fun(y:Bool×List (List Nat))=>Gs N steps vars.length y.2∧(y.1=false→∀i,i<N.length→clo N steps vars.length y.2 i)) (fun(y:Bool×List (List Nat))=>2*(N.length*(steps.length+vars.length)+1 - Z1 y.2)+(if y.1=true then 1 else 0)) (true,List.replicate N.length []) ⟨Gs.empty ..,fun h=>by cases h⟩ ?_ ?_)
 · exact X4 (fun n=>n) []
 rintro⟨c0,S0⟩ ⟨hg0,hcl0⟩;simp only[upS,X6,Xw]
 try simp only[X6,KN,Nat.reduceBEq,if_true,if_false,ins,Nat.reduceLT]
 simp only at hg0 hcl0;refine X0<|X0<|X1 ?_;refine(X7 rfl (fun h21=>X9 ?_) (fun h21=>?_))
 · (try simp only[BN]at h21);have hc0:c0=true:=by simpa using h21
   subst hc0;clear hcl0 h21;have htot0:=X9F hg0;refine X3<|X0<|X1 ?_;refine X2 ?_;refine X3<|(Xb [3,8,11,51,52] (fun(y:Nat×Bool×List (List Nat))=>[(12,.v (lb y.2.1)),(53,.v (li y.1))]) (fun(y:Nat×Bool×List (List Nat))=>[(2,.box [.c (.sl 5 (Xr vars)),.c (.sl 6 (Xs hats)),.c (.sl 10 (X8 body))]),(3,.box [.c (.sl 4 (XD N))]),(7,.box [.c (.sl 10 (X8 steps))]),(8,.box [.own 36]),(10,.box [.fn 149 [(7,0)]]),(36,.mps 86 (msS y.2.2))]) (fun(y:Nat×Bool×List (List Nat))=>y.1≤N.length∧Inv N steps vars.length S0 y.2.2 y.2.1 (Pd N steps vars.length S0 y.1 True)) (fun(y:Nat×Bool×List (List Nat))=>N.length - y.1) (0,false,S0) ⟨Nat.zero_le _,hg0,Nat.le_refl _,fun h=>(by cases h),fun _=>⟨rfl,fun j hj=>absurd hj (Nat.not_lt_zero j),trivial⟩⟩ ?_ ?_)
   · exact X4 (fun n=>n) []
   rintro⟨i,c1,S1⟩ ⟨hi,hI⟩;simp only[upS,X6,Xw]
   try simp only[X6,KN,Nat.reduceBEq,if_true,if_false,ins,Nat.reduceLT]
   simp only at hi hI;refine X2 ?_;refine X0<|(X7 rfl (fun h26=>X9 ?_) (fun h26=>?_))
   · (try simp only[BN]at h26);have hlt:i<N.length:=by omega
     have hw1:=Xy hlt (by omega);have hk1:i+1≤N.length:=hlt;obtain⟨x,hx,_⟩:=Xo hlt;obtain⟨Si,hS,_⟩:=Xo (show i<S1.length by rw[hI.g.len];exact hlt);have hxe:=ZE hx;have hxo:=hok x (List.mem_of_getElem? hx);have hSm:Si∈S1:=List.mem_of_getElem? hS;have ca:=caft S1 i x Si hx hS (by omega) hv (Nat.le_trans (QA (hI.g.nod Si hSm) (hI.g.lt Si hSm)) (by omega)) (fun d hd=>by have:=hI.g.lt Si hSm d hd;omega) hxo.ha 60 (by decide);obtain⟨xk,xa,xn,xo⟩:=x;simp only[Nd.enc]at hxe;simp only[Fl.enc,setsC,kC]at ca;clear hlt h26;refine X0<|X3<|X0<|(Xl (by simp[*,XA];rfl) ?_);refine X0<|(XP ?_);refine RunsN.cutE 2 [] (by simp;rfl) trivial (le_refl _) ?_;refine RunsN.callFA ca fun l hl=>?_;refine RunsN.doneE [] (by simp[HS.made];rfl) trivial ?_;have hrc:∀d∈l,∀to,ZK ⟨xk,xa,xn,xo⟩ to→Rc N steps vars.length to d:=fun d hd to ht=>XaG hI.g hx hS ((hl.1 d).1 hd) ht
     have hrl:∀d∈l,∀to,ZK ⟨xk,xa,xn,xo⟩ to→d<steps.length+vars.length:=fun d hd to ht=>rc_lt (fun x hx ha=>by
      rcases(hok x hx).ha with h|⟨m,h1,h2⟩
      · simp[Ql,h.1]at ha
      rw[h1];simpa using h2) (hrc d hd to ht)
     have hclo:∀S,S=S0→c1=false→(∀j,j<2→lS2 S (toA xn xo j) l)→clo N steps vars.length S0 i:=by
      intro S hS0 hc h;obtain⟨h1,_⟩:=hI.same hc;subst h1;subst hS0;exact clo_of hx hS hl.1 h
     have hS1c:c1=false→S1=S0:=fun hc=>(hI.same hc).1;have hll:=hl.2;clear ca hxe hS hSm caft;refine X2 ?_;refine X3<|(Xb [3,8,11,15,51,52,53,65,66] (fun(y:Nat×Bool×List (List Nat))=>[(12,.v (lb y.2.1)),(67,.v (li y.1))]) (fun(y:Nat×Bool×List (List Nat))=>[(2,.box [.c (.sl 5 (Xr vars)),.c (.sl 6 (Xs hats)),.c (.sl 10 (X8 body))]),(3,.box [.c (.sl 4 (XD N))]),(7,.box [.c (.sl 10 (X8 steps))]),(8,.box [.own 36]),(10,.box [.fn 149 [(7,0)]]),(36,.mps 86 (msS y.2.2)),(60,.row 3 1 (XB l)),(65,.row 3 1 (toR xn xo))]) (fun(y:Nat×Bool×List (List Nat))=>y.1≤2∧Inv N steps vars.length S0 y.2.2 y.2.1 (Pd N steps vars.length S0 i (c1=false∧∀j,j<y.1→lS2 S0 (toA xn xo j) l))) (fun(y:Nat×Bool×List (List Nat))=>2 - y.1) (0,c1,S1) ⟨Nat.zero_le _,⟨hI.g,hI.tot,hI.up,fun hc=>⟨(hI.same hc).1,(hI.same hc).2.1,hc,fun j hj=>absurd hj (Nat.not_lt_zero j)⟩⟩⟩ ?_ ?_)
     · exact Xu (fun n=>n) [] rfl (by simp[*,upS,X6]) (by simp[*,upS,toR]) (by simp[upS])
     rintro⟨k,c2,S2⟩ ⟨hk,hI2⟩;simp only[upS,X6,Xw]
     try simp only[X6,KN,Nat.reduceBEq,if_true,if_false,ins,Nat.reduceLT]
     simp only at hk hI2;refine X2 ?_;refine X0<|(X7 rfl (fun h32=>X9 ?_) (fun h32=>?_))
     · try simp only[BN]at h32
       have hk2:k<2:=by
        have:(k:Int)<2:=by simpa using h32
        omega
       have hwk:=Xy hk2 (by omega);have hkk:k+1≤2:=hk2;have hto:=Xbz (xn:=xn) (xo:=xo) hk2
       have hsuc:∀t:Nat,toA xn xo k=t→ZK ⟨xk,xa,xn,xo⟩ t:=by
        intro t ht;unfold toA at ht;split at ht
        · exact .inl ht
        exact .inr ht
       have htok:X1s N.length (toA xn xo k):=by
        unfold toA;split
        · exact hxo.hn
        exact hxo.ho
       obtain⟨to,hto1⟩:∃x,toA xn xo k=x:=⟨_,rfl⟩;rw[hto1]at hto hsuc htok;clear h32 hk2;refine X0<|X3<|X0<|X1 ?_;refine X2 ?_;refine X3<|(Xb [3,8,11,15,17,51,52,53,65,66,67,71,72] (fun(y:Nat×Bool×List (List Nat))=>[(12,.v (lb y.2.1)),(73,.v (li y.1))]) (fun(y:Nat×Bool×List (List Nat))=>[(2,.box [.c (.sl 5 (Xr vars)),.c (.sl 6 (Xs hats)),.c (.sl 10 (X8 body))]),(3,.box [.c (.sl 4 (XD N))]),(7,.box [.c (.sl 10 (X8 steps))]),(8,.box [.own 36]),(10,.box [.fn 149 [(7,0)]]),(36,.mps 86 (msS y.2.2)),(60,.row 3 1 (XB l)),(65,.row 3 1 (toR xn xo))]) (fun(y:Nat×Bool×List (List Nat))=>y.1≤l.length∧Inv N steps vars.length S0 y.2.2 y.2.1 (Pd N steps vars.length S0 i (c1=false∧(∀j,j<k→lS2 S0 (toA xn xo j) l)∧lS2 S0 to (l.take y.1)))) (fun(y:Nat×Bool×List (List Nat))=>l.length - y.1) (0,c2,S2) ⟨Nat.zero_le _,hI2.mono fun _ h=>⟨h.1,h.2.1,h.2.2,fun d hd=>by simp at hd⟩⟩ ?_ ?_)
       · exact X4 (fun n=>n) []
       rintro⟨m,c3,S3⟩ ⟨hm,hI3⟩;simp only[upS,X6,Xw]
       try simp only[X6,KN,Nat.reduceBEq,if_true,if_false,ins,Nat.reduceLT]
       simp only at hm hI3;refine X2 ?_;refine X0<|(X7 rfl (fun h37=>X9 ?_) (fun h37=>?_))
       · (try simp only[BN]at h37);have hml:m<l.length:=by simpa using h37
         have hwm:=Xy hml (by omega);have hm1:m+1≤l.length:=hml;obtain⟨d,hd,_⟩:=Xo hml;have hde:(XB l)[m]? =some [iC d]:=by simp[XB,hd]
         have hdm:=List.mem_of_getElem? hd;clear h37 hml;refine X0<|X3<|X0<|X1 ?_;refine XL [3,8,11,12,15,17,19,51,52,53,65,66,67,71,72,73] (fun(q:Bool)=>[(87,.v (lb q))]) (fun(q:Bool)=>[(2,.box [.c (.sl 5 (Xr vars)),.c (.sl 6 (Xs hats)),.c (.sl 10 (X8 body))]),(3,.box [.c (.sl 4 (XD N))]),(7,.box [.c (.sl 10 (X8 steps))]),(8,.box [.own 36]),(10,.box [.fn 149 [(7,0)]]),(36,.mps 86 (msS S3)),(60,.row 3 1 (XB l)),(65,.row 3 1 (toR xn xo))]) (fun(q:Bool)=>(q=true→∃(t:Nat) (Lt:List Nat),to=t∧S3[t]? =some Lt∧d∉Lt)∧(q=false→inS S3 to d)) ?_ ?_
         · rcases htok with rfl|⟨t,rfl,htl⟩
           · refine Xl (by simp[*];rfl) ?_;refine⟨false,⟨fun h=>(by cases h),fun _ m l hm=>by omega⟩,Xu (fun n=>n) [] rfl (by simp[upS,X6]) (by simp[upS]) (by simp[upS])⟩
           obtain⟨Lt,hLt,_⟩:=Xo (show t<S3.length by rw[hI3.g.len];exact htl);have hms:=Xbt hLt;have hfd:=X1M d Lt;have htl2:t+1≤S3.length:=by rw[hI3.g.len];exact htl
           by_cases hin:d∈Lt
           · rw[if_pos hin]at hfd;refine Xl (by simp[hwm,hms,hfd,htl2];rfl) ?_;refine⟨false,⟨fun h=>(by cases h),fun _ m l hm hl2=>by rw[←Int.ofNat.inj hm,hLt]at hl2;cases hl2;exact hin⟩,Xu (fun n=>n) [] rfl (by simp[upS,X6]) (by simp[upS]) (by simp[upS])⟩
           rw[if_neg hin]at hfd;refine Xl (by simp[hwm,hms,hfd,htl2];rfl) ?_;refine⟨true,⟨fun _=>⟨t,Lt,rfl,hLt,hin⟩,fun h=>(by cases h)⟩,Xu (fun n=>n) [] rfl (by simp[upS,X6]) (by simp[upS]) (by simp[upS])⟩
         rintro q hq;simp only[upS,X6,Xw]
         try simp only[X6,KN,Nat.reduceBEq,if_true,if_false,ins,Nat.reduceLT]
         refine(Xc rfl (fun h40=>?_) fun h40=>?_)
         · (try simp only[BN]at h40);obtain⟨t,Lt,rfl,hLt,hnd⟩:=hq.1 (by simpa using h40);have hms:=Xbt hLt;have hfd:=X1M d Lt;rw[if_neg hnd]at hfd;have htl2:t+1≤S3.length:=(List.getElem?_eq_some_iff.1 hLt).1;have hset:=set_msS S3 t Lt d;have hinv:=hI3.add (Q:=Pd N steps vars.length S0 i (c1=false∧(∀j,j<k→lS2 S0 (toA xn xo j) l)∧lS2 S0 (t:Int) (l.take (m+1)))) hLt hnd (hrl d hdm t (hsuc t rfl)) (hrc d hdm t (hsuc t rfl));clear hq h40 hI3 hnd hLt;refine X0<|(Xl (by simp[hms,hfd,htl2,hset];rfl) ?_);refine X1 ?_;refine X1 ?_;exact⟨(m+1,true,S3.set t (Lt++[d])),⟨hm1,hinv⟩,by simp only;omega,X4 (fun n=>n) []⟩
         (try simp only[BN]at h40);have hq2:=hq.2 (by simpa using h40);clear hq h40;refine X1 ?_
         exact⟨(m+1,c3,S3),⟨hm1,hI3.mono fun hs h=>⟨h.1,h.2.1,h.2.2.1,fun e he=>by
          rw[List.take_add_one,hd]at he;rcases List.mem_append.1 he with h4|h4
          · exact h.2.2.2 e h4
          have:e=d:=by simpa using h4
          rw[this,←hs];exact hq2⟩⟩,by simp only;omega,X4 (fun n=>n) []⟩
       try simp only[BN]at h37
       have hml:m=l.length:=by
        have:¬m<l.length:=by simpa using h37
        omega
       subst hml;rw[List.take_length]at hI3;clear h37;refine(Xf ?_);refine X1 ?_
       exact⟨(k+1,c3,S3),⟨hkk,hI3.mono fun _ h=>⟨h.1,h.2.1,fun j hj=>by
        rcases Nat.lt_or_eq_of_le (Nat.le_of_lt_succ hj)with h4|h4
        · exact h.2.2.1 j h4
        rw[h4,hto1];exact h.2.2.2⟩⟩,by simp only;omega,X4 (fun n=>n) []⟩
     try simp only[BN]at h32
     have hk2:k=2:=by
      have:¬(k:Int)<2:=by simpa using h32
      omega
     subst hk2;clear h32;refine(Xf ?_);refine X1 ?_
     exact⟨(i+1,c2,S2),⟨hk1,hI2.mono fun hs h=>⟨fun j hj=>by
      rcases Nat.lt_or_eq_of_le (Nat.le_of_lt_succ hj)with h4|h4
      · exact h.1 j h4
      rw[h4];exact hclo S2 hs h.2.1 (by rw[hs];exact h.2.2),trivial⟩⟩,by simp only;omega,X4 (fun n=>n) []⟩
   (try simp only[BN]at h26);have hin:i=N.length:=by omega
   subst hin;have htot1:=X9F hI.g;refine(Xf ?_)
   exact⟨(c1,S1),⟨hI.g,fun hc j hj=>by obtain⟨rfl,h1,_⟩:=hI.same hc;exact h1 j hj⟩,by
    simp only;cases c1 with
    |true=>have:=hI.up rfl;simp only[if_true];omega
    |false=>obtain⟨rfl,_⟩:=hI.same rfl;simp,X4 (fun n=>n) []⟩
 (try simp only[BN]at h21);have hc0:c0=false:=by simpa using h21
 subst hc0;have hcl:=hcl0 rfl
 have hlt:∀to d,Rc N steps vars.length to d→d<steps.length+vars.length:=fun to d h=>rc_lt (fun x hx ha=>by
  rcases(hok x hx).ha with h|⟨m,h1,h2⟩
  · simp[Ql,h.1]at ha
  rw[h1];simpa using h2) h
 have hrow:=fun {i:Nat} {Si:List Nat}=>rcL_row (i:=i) (Si:=Si) hg0 hcl hlt;have hLl:=X7O N steps vars.length;obtain⟨L,hL⟩:∃x,rcL N steps vars.length=x:=⟨_,rfl⟩;rw[hL]at hLl⊢;simp only[hL]at hrow;have hSl:=hg0.len;have hbig2:(24:Int)*N.length≤281474976710656:=by omega
 have hSb:∀Si∈S0,Si.Nodup∧Si.length≤2000:=fun Si h=>⟨hg0.nod Si h,Nat.le_trans (QA (hg0.nod Si h) (hg0.lt Si h)) (by omega)⟩;clear hcl0 h21 hcl hlt hL caft hg0 hy h11 cf cc hok;refine(Xf ?_);refine Xz (le_frzQ 36 rfl) ?_;refine Xz (s':=⟨⟨129,none⟩,[(8,.v (.one (.at_ 8 0)))],[(8,.box [.c (.sl 1 (S0.map fun l=>[.mp (mpI l)]))])]⟩) (Xu (fun n=>n) [] rfl (by simp[HS.frz,Wu,RV.frz,TV.frz,CV.frz]) (by simp[HS.frz,Wu,Ob.frz,CV.frz,del]) (by simp)) ?_;refine X2 ?_;refine Xz (X5x 98 3 1 (by decide) (by decide) rfl rfl rfl) ?_;refine X0<|X0<|X1 ?_;refine X3<|(Xb [20,99,100] (fun(y:Nat)=>[(101,.v (li y))]) (fun y=>[(98,.mat 27 3 1 (rwI L y N.length))]) (fun y=>y≤N.length) (fun y=>N.length - y) (0:Nat) (Nat.zero_le _) ?_ ?_)
 · exact Xu (fun n=>n) [] rfl (by simp[*,upS,X6]) (by simp[*,upS,X8W]) (by simp[upS])
 rintro y hy;simp only[upS,X6,Xw]
 try simp only[X6,KN,Nat.reduceBEq,if_true,if_false,ins,Nat.reduceLT]
 refine X2 ?_;refine X0<|(X7 rfl (fun h56=>X9 ?_) (fun h56=>?_))
 · (try simp only[BN]at h56);have hlt:y<N.length:=by omega
   have hw1:=Xy hlt (by omega);have hk1:y+1≤N.length:=hlt;obtain⟨Si,hS,_⟩:=Xo (show y<S0.length by omega);have hSr:(S0.map fun l=>[CD.mp (mpI l)])[y]? =some [CD.mp (mpI Si)]:=by simp[hS]
   obtain⟨hnod,hSi⟩:=hSb Si (List.mem_of_getElem? hS);obtain⟨lr,hlr,hmemr,hsrt⟩:=hrow hS;have hget:=Xbo hlt hLl;have hRs:=Xbe hlr hlt hLl;have hRl:y+1≤(rwI L y N.length).length:=by rw[Xbq hy hLl];exact hlt
   obtain⟨R,hR⟩:∃x,rwI L y N.length=x:=⟨_,rfl⟩;rw[hR]at hget hRs hRl⊢;have hz:=X6C hget;clear hrow hSb hlt h56 hR hget hlr hS;refine X0<|X3<|X0<|X1 ?_;refine X0<|X0<|X1 ?_;refine X3<|(Xb [20,21,99,100,101,107] (fun(z:List Nat×List Nat)=>[]) (fun z=>[(98,.mat 27 3 1 (X13 R y z.2)),(107,.it (mpI Si) z.1)]) (fun z=>z.1.Nodup∧X04 z.1 Si.length∧(∀d,d∈z.2↔∃j∈z.1,Si[j]? =some d)∧z.2.Nodup∧z.2.length≤z.1.length) (fun z=>Si.length - z.1.length) ([],[]) ⟨List.nodup_nil,by simp[X04],by simp,List.nodup_nil,Nat.le_refl _⟩ ?_ ?_)
   · exact X4 (fun n=>n) []
   rintro⟨seen,out⟩ ⟨j1,j2,j3,j4,j5⟩;simp only[upS,X6,Xw]
   try simp only[X6,KN,Nat.reduceBEq,if_true,if_false,ins,Nat.reduceLT]
   simp only at j1 j2 j3 j4 j5;refine X1v (fun j k v hj hn=>?_) (fun hall=>?_)
   skip
   · (try simp only[BN]at h61);obtain⟨d,hd,rfl,rfl⟩:=X51 hj;have hjl:j<Si.length:=(List.getElem?_eq_some_iff.1 hd).1
     have hnd:(seen++[j]).Nodup:=by
      rw[List.nodup_append];exact⟨j1,by simp,fun a ha b hb=>by rw[List.mem_singleton.1 hb];exact fun e=>hn (e▸ha)⟩
     have hin:X04 (seen++[j]) Si.length:=fun i hi=>by
      rcases List.mem_append.1 hi with h|h
      · exact j2 i h
      rw[List.mem_singleton.1 h];exact hjl
     have hle:=QA hnd hin;simp only[List.length_append,List.length_singleton]at hle
     have hmem:∀x,x∈out++[d]↔∃i∈seen++[j],Si[i]? =some x:=by
      intro x;rw[List.mem_append,j3,List.mem_singleton];constructor
      · rintro(⟨i,h1,h2⟩|rfl)
        · exact⟨i,List.mem_append_left _ h1,h2⟩
        exact⟨j,by simp,hd⟩
      rintro⟨i,h1,h2⟩;rcases List.mem_append.1 h1 with h1|h1
      · exact .inl ⟨i,h1,h2⟩
      rw[List.mem_singleton.1 h1,hd]at h2;exact .inr (Option.some.inj h2).symm
     have hdo:d∉out:=by
      intro h;obtain⟨i,h1,h2⟩:=(j3 d).1 h;have:=(List.getElem?_inj hjl hnod).1 (hd.trans h2.symm);exact hn (this▸h1)
     have hon:(out++[d]).Nodup:=by
      rw[List.nodup_append];exact⟨j4,by simp,fun a ha b hb=>by rw[List.mem_singleton.1 hb];exact fun e=>hdo (e▸ha)⟩
     clear hjl j1 j3 j4 hn hdo hnod;refine X3<|X0<|X1 ?_;cases out with
     | nil=>
       have g1:=X06 hRl [];have g2:=X7n hRl;have g3:=X1T R y [] [] d;have hroom:Q9 1 8:=Xv (by omega) (by decide);simp only[ZP,if_true]at g1;simp only[X3q,List.nil_append]at g3;refine Xl (by simp[g1,g2,g3,hRl,hroom];rfl) ?_;exact⟨(seen++[j],[d]),⟨hnd,hin,hmem,hon,by simp⟩,by simp only[List.length_append,List.length_singleton];omega,Xu (fun n=>n) [] rfl (by simp[upS,X6]) (by simp[upS]) (by simp[upS])⟩
     | cons a o=>
       have g1:=X06 hRl (a::o);have g3:=X1T R y (a::o) (a::o) d;have hroom:Q9 ((a::o).length+1) 8:=Xv (by omega) (by decide);simp only[ZP,List.cons_ne_nil,if_false]at g1;rw[List.length_cons]at hroom;refine XP ?_;refine RunsN.cutE 8 [] (by simp[g1,hRl];rfl) trivial (le_refl _) ?_;refine RunsN.matA (by simp[X76,neT,g1,g3,hroom];rfl) ?_;refine RunsN.doneE [] rfl trivial ?_;exact⟨(seen++[j],a::o++[d]),⟨hnd,hin,hmem,hon,by simp only[List.length_append,List.length_singleton]at j5⊢;omega⟩,by simp only[List.length_append,List.length_singleton];omega,Xu (fun n=>if n=98 then 120 else n) [] rfl (by simp[upS,X6,Wu,RV.mv,TV.mv,CV.mv]) (by simp[upS,Wu,Ob.mv,CV.mv]) (by simp[upS])⟩
   try simp only[BN]at h61
   have hout:∀x,x∈out↔x∈Si:=by
    intro x;rw[j3];constructor
    · rintro⟨i,_,h2⟩;exact List.mem_of_getElem? h2
    intro h;obtain⟨i,hi⟩:=List.mem_iff_getElem?.1 h;exact⟨i,hall i (by rw[X50];exact(List.getElem?_eq_some_iff.1 hi).1),hi⟩
   have hle:=QA j1 j2;have hsrt:=hsrt out j4 hout
   have hlr0:lr=[]↔out=[]:=by
    constructor
    · intro h;rw[List.eq_nil_iff_forall_not_mem];intro x hx;have:=(hmemr x).1 ((hout x).1 hx);rw[h]at this;cases this
    intro h;rw[List.eq_nil_iff_forall_not_mem];intro x hx;have:=(hout x).2 ((hmemr x).2 hx);rw[h]at this;cases this
   have hfin:=X96 R y out (ZP lr);rw[hRs]at hfin;clear hall j1 j2 j3 j4 hRs hz hmemr hnod;refine(Xf ?_);cases out with
   | nil=>
     have g1:=X06 hRl [];have hlr1:=hlr0.2 rfl;subst hlr1
     have hz2:X13 R y []=rwI L (y+1) N.length:=by
      rw[←hfin];apply List.ext_getElem?;intro k;rw[List.getElem?_set];split
      · rename_i e;subst e;rw[if_pos (by rw[matY_len];omega),g1]
      rfl
     simp only[ZP,if_true]at g1;refine QS [⟨true,.tup [],none⟩] (by simp[g1,hRl];first|exact⟨rfl,Iff.rfl⟩|exact⟨rfl,trivial⟩|rfl) ?_ ?_
     · first|exact X5f _|simpa using X5f _
     refine Xl (by simp[hw1];rfl) ?_;exact⟨y+1,hk1,by omega,Xu (fun n=>n) [] rfl (by simp[upS,X6]) (by simp[upS,hz2]) (by simp[upS])⟩
   | cons a o=>
     have g1:=X06 hRl (a::o);have hlr1:¬lr=[]:=fun h=>by have:=hlr0.1 h;cases this
     simp only[ZP,List.cons_ne_nil,if_false]at g1;simp only[ZP,hlr1,if_false]at hfin;have cs:=X3Y ((a::o).map Int.ofNat) (by simp) (by simp only[List.length_map];omega);rw[←X2N,show Xi (((a::o).map Int.ofNat).mergeSort fun x y=>decide (x≤y))=XB lr from hsrt]at cs;refine XP ?_;refine RunsN.cutE 4 [] (by simp[g1,hRl];rfl) trivial (le_refl _) ?_;refine RunsN.subA (by simp[X9q,X37,g1];exact⟨rfl,rfl,rfl,rfl,rfl⟩) cs ?_;refine RunsN.doneE [] rfl trivial ?_;refine Xl (by simp[hw1];rfl) ?_;exact⟨y+1,hk1,by omega,Xu (fun n=>n) [] rfl (by simp[upS,X6]) (by simp[upS,hfin]) (by simp[upS])⟩
 (try simp only[BN]at h56);have hyn:y=N.length:=by omega
 subst hyn;have hend:=XaV hLl;clear hrow hSb;refine(Xf ?_);refine X2 ?_;refine Xz (X3G 98 rfl) ?_;exact XR ⟨.inr rfl,_,le_refl _,⟨_,by simp[HS.frz,Wu,RV.frz,TV.frz,CV.frz];rfl,by simp[XK,hend]⟩,by simp,fun h=>by cases h⟩
end Go.Proofs.YtppjennamodfdaaGreat

namespace Go.Proofs.YtppjennamodfdaaGreat
open Go Go.Hl
mutual
def arS:St→Int→Nat→List Int
 | .mk _ _ _ _ _ a b _,outer,at_=>outer::(arL a at_ (at_+1)++arL b at_ (at_+1+szL a))
def arL:List St→Int→Nat→List Int
 |[],_,_=>[]
 |s::l,outer,at_=>arS s outer at_++arL l outer (at_+szS s)
end
theorem arS_eq (s:St) (o:Int) (p:Nat):arS s o p=o::(arL s.then_ p (p+1)++arL s.else_ p (p+1+szL s.then_)):=by cases s;rfl
mutual
theorem arS_len:∀(s:St) (o:Int) (p:Nat),(arS s o p).length=szS s
 | .mk _ _ _ _ _ a b _,o,p=>by simp only[arS,szS,List.length_cons,List.length_append,Z7 a,Z7 b];omega
theorem Z7:∀(l:List St) (o:Int) (p:Nat),(arL l o p).length=szL l
 |[],_,_=>rfl
 |s::l,o,p=>by simp only[arL,szL,List.length_append,arS_len s,Z7 l]
end
@[simp] theorem encIs_app (a b:List Int):Xi (a++b)=Xi a++Xi b:=by simp[Xi]
def W6 (f:Fl) (st:List St) (ar:List Int):List (Nat×Ob):=[(900001,.row 76 10 (X8 st)),(900002,.row 3 1 (Xi ar)),(1000000,.box [.at_ 1000001 0]),(1000001,.box [.c (.sl 5 (Xr f.vars)),.c (.sl 6 (Xs f.hats)),.c (.sl 10 (X8 f.body)),.own 900001,.own 900002,.c (.lit XU)]),(1000002,.box [.fn 123 [(1000000,0),(1000002,0)]])]
theorem tab_pin {f:Fl} {st:List St} {ar:List Int}:∀n cs,lkp (W6 f st ar) n=some (.box cs)→1000000≤n:=by
 intro n cs h;simp only[W6,lkp]at h
 repeat' split at h
 all_goals first|omega|cases h
def msC:List (Nat×List Nat):=[(15,[0]),(14,[1,2]),(12,[2]),(10,[1]),(8,[3])]
def msD:List (Nat×List Nat):=[(2047,[0,1,5]),(2046,[1,5]),(2045,[0,2,5]),(2015,[0,1,6]),(2044,[2,5]),(2014,[1,6]),(2041,[0,3,5]),(2013,[0,2,6]),(1951,[0,1]),(2040,[3,5]),(2012,[2,6]),(1950,[1]),(2033,[0,4,5]),(2009,[0,3,6]),(1949,[0,2]),(2032,[4,5]),(2008,[3,6]),(1948,[2]),(2017,[0,5]),(2001,[0,4,6]),(1945,[0,3]),(2016,[5]),(2000,[4,6]),(1944,[3]),(1985,[0,6]),(1937,[0,4]),(1984,[6]),(1936,[4]),(1921,[0,7]),(1920,[7]),(1793,[0]),(1792,[8]),(1536,[9]),(1024,[10])]
attribute [simp] W6
def nxCo (B:HS) (b:Bool) (R:List Nat):HS:=
 {trS B [(0,20,.v (.one (.at_ 20 0))),(3,21,.v (lb b))] R with objs:=if R.contains 0 then B.objs else ins 20 (.box [.c (bC b)]) B.objs}
def nxA (regs:List (Nat×RV)) (o0 o6 o7 o10:List (Nat×Ob)) (outs:List (Nat×Nat×RV)) (R:List Nat):HS:=
 {trS ⟨⟨64,none⟩,regs,[]⟩ outs R with objs:=if R.contains 6 then o0 else if R.contains 7 then o6 else if R.contains 10 then o7 else o10}
set_option maxHeartbeats 8000000 in
theorem new1_con (f:Fl) (l:List St):∀(outer:Int) (st:List St) (ar:List Int),ar.length=st.length→st.length+szL l≤1000→
  X1k Tryz.prog 123 none (W6 f st ar) [lS l,li outer,.one (.at_ 1000000 0),.one (.at_ 1000002 0)] (fun _:Unit=>True) (fun _=>.tup []) (fun _=>W6 f (st++flL l) (ar++arL l outer st.length)):=by
 revert l
 apply St.lists;intro l ih outer st0 ar0 har0 hn0;have hlen:=X5b l;have hn1:szL l≤1000:=by omega
 obtain⟨R1,hR1⟩:∃x,st0++flL l=x:=⟨_,rfl⟩;obtain⟨R2,hR2⟩:∃x,ar0++arL l outer st0.length=x:=⟨_,rfl⟩;rw[hR1,hR2];refine Qs Tryz.func123 rfl (by kernel_rfl) (Nat.le_of_ble_eq_true rfl) tab_pin (fun v h=>by cases h) ?_;simp only[Tryz.f123];refine X2 ?_;refine X3<|(Xb [1,2,3,9,10] (fun(y:Nat×List St×List Int)=>[(11,.v (li y.1))]) (fun y=>W6 f y.2.1 y.2.2) (fun y=>y.1≤l.length∧y.2.1++flL (l.drop y.1)=R1∧y.2.2++arL (l.drop y.1) outer y.2.1.length=R2∧y.2.2.length=y.2.1.length∧y.2.1.length+szL (l.drop y.1)≤1000) (fun y=>l.length - y.1) (0,st0,ar0) ⟨Nat.zero_le _,by simpa using hR1,by simpa using hR2,har0,by simpa using hn0⟩ ?_ ?_)
 · exact Xu (fun n=>n) [] rfl (by simp[W6, *,upS,X6,QX]) (by simp[W6, *,upS]) (by simp[W6,upS])
 rintro⟨k,st,ar⟩ ⟨hk,h1,h2,har,hsz⟩;simp only[upS,X6,Xw]
 try simp only[X6,KN,Nat.reduceBEq,if_true,if_false,ins,Nat.reduceLT]
 simp only at hk h1 h2 har hsz;clear hR1 hR2 hn0 har0;simp only[W6];refine X2 ?_;refine X0<|(X7 rfl (fun h3=>X9 ?_) (fun h3=>?_))
 · (try simp only[BN]at h3);have hlt:k<l.length:=by simpa using h3
   obtain⟨s,he,hd⟩:=Xo hlt;have hw1:=Xy hlt (by omega);have hk1:k+1≤l.length:=hlt;have hmem:s∈l:=List.mem_of_getElem? he;rw[hd]at h1 h2 hsz;simp only[flL,X9V]at h1;simp only[arL,arS_eq]at h2;simp only[szL]at hsz;have he':=XX he;have iha:=(ih s hmem).1;have ihb:=(ih s hmem).2;obtain⟨so,sc,sv,sn,⟨to,tn,tk⟩,sa,sb,sbs⟩:=s;simp only[St.then_,St.else_]at iha ihb h1 h2;simp only[szS]at hsz h2;have fa:=XT sa;have fb:=XT sb;have la:=Z7 sa st.length (st.length+1);have iha:=iha (st.length:Int) (st++[St.mk so sc sv sn (Tm.mk to tn tk) sa sb sbs]) (ar++[outer]) (by simp[har]) (by simp;omega);have ihb:=ihb (st.length:Int) (st++[St.mk so sc sv sn (Tm.mk to tn tk) sa sb sbs]++flL sa) (ar++[outer]++arL sa st.length (st.length+1)) (by simp[har,la,fa]) (by simp[fa];omega);simp only[List.length_append,List.length_singleton,fa]at iha ihb;have hE1:st++[St.mk so sc sv sn (Tm.mk to tn tk) sa sb sbs]++flL sa++flL sb++flL (l.drop (k+1))=R1:=by rw[←h1];simp
   have hE2:ar++[outer]++arL sa st.length (st.length+1)++arL sb st.length (st.length+1+szL sa)++arL (l.drop (k+1)) outer (st.length+(1+szL sa+szL sb))=R2:=by rw[←h2];simp
   have hlb:=Z7 sb st.length (st.length+1+szL sa);have r1:Q9 (st.length+1) 144:=Xv (by omega) (by decide);have r2:Q9 (ar.length+1) 8:=Xv (by omega) (by decide)
   have hset:∀z:List CD,(X8 st++[z]).set st.length [iC so,iC sc,iC sv,iC sn,iC to,iC tn,.sl 3 (Xn tk),.sl 10 (X8 sa),.sl 10 (X8 sb),.sl 1 (Xi sbs)]=X8 st++[[iC so,iC sc,iC sv,iC sn,iC to,iC tn,.sl 3 (Xn tk),.sl 10 (X8 sa),.sl 10 (X8 sb),.sl 1 (Xi sbs)]]:=by
    intro z;rw[List.set_append,if_neg (by simp)];simp
   have hsn:X8 (st++[St.mk so sc sv sn (Tm.mk to tn tk) sa sb sbs])=X8 st++[[iC so,iC sc,iC sv,iC sn,iC to,iC tn,.sl 3 (Xn tk),.sl 10 (X8 sa),.sl 10 (X8 sb),.sl 1 (Xi sbs)]]:=by
    rw[Qq];rfl
   simp only[St.enc,Tm.enc,List.cons_append,List.nil_append]at he';clear hlt h3 ih hmem he hd h1 h2;refine X0<|X3<|X0<|X1 ?_;refine X2 ?_;refine(XL [1,2,3,7,8,9,10,11] (fun(z:Unit)=>[]) (fun(z:Unit)=>(7,.box [.c (iC so),.c (iC sc),.c (iC sv),.c (iC sn),.c (iC to),.c (iC tn),.c (.sl 3 (Xn tk)),.c (.sl 10 (X8 sa)),.c (.sl 10 (X8 sb)),.c (.sl 1 (Xi sbs))])::W6 f (st++[St.mk so sc sv sn (Tm.mk to tn tk) sa sb sbs]) ar) (fun(z:Unit)=>True) ?_ ?_)
   ·
    refine Xz (s':=⟨⟨64,none⟩,[(1,.v (li outer)),(2,.v (.one (.at_ 1000000 0))),(3,.v (.one (.at_ 1000002 0))),(7,.v (.one (.at_ 7 0))),(8,.v (li st.length)),(9,.v (lS l)),(10,.v (li l.length)),(11,.v (li k))],(7,.box [.c (iC so),.c (iC sc),.c (iC sv),.c (iC sn),.c (iC to),.c (iC tn),.c (.sl 3 (Xn tk)),.c (.sl 10 (X8 sa)),.c (.sl 10 (X8 sb)),.c (.sl 1 (Xi sbs))])::W6 f st ar⟩) (Xu (fun n=>n) [] rfl (by simp[*]) (by simp[*,W6]) (by simp[W6])) ?_;refine X0<|(XbH (nxCo ⟨⟨64,none⟩,[(1,.v (li outer)),(2,.v (.one (.at_ 1000000 0))),(3,.v (.one (.at_ 1000002 0))),(7,.v (.one (.at_ 7 0))),(8,.v (li st.length)),(9,.v (lS l)),(10,.v (li l.length)),(11,.v (li k))],(7,.box [.c (iC so),.c (iC sc),.c (iC sv),.c (iC sn),.c (iC to),.c (iC tn),.c (.sl 3 (Xn tk)),.c (.sl 10 (X8 sa)),.c (.sl 10 (X8 sb)),.c (.sl 1 (Xi sbs))])::W6 f st ar⟩) 4 15 msC rfl (by kernel_rfl) (by kernel_rfl) (by kernel_rfl) (by kernel_rfl) ⟨false,by simp[nxCo,trS]⟩ ?_ fun cb=>?_)
    · simp only[msC,ZY];refine⟨?_,⟨?_,?_⟩,?_,?_,?_⟩
      · exact fun x=>.evX false rfl (by simp[nxCo,trS,ins,W8,W6])
      · exact fun x=>.evX true rfl (by simp[nxCo,trS,ins,W8,W6])
      · exact fun x=>.evX false rfl (by simp[nxCo,trS,ins,W8,W6])
      · exact fun x=>.evX false rfl (by simp[nxCo,trS,ins,W8,W6])
      · exact fun x=>.evX true rfl (by simp[nxCo,trS,ins,W8,W6])
      exact fun x=>.evX x rfl (by simp[nxCo,trS,ins,W8,W6])
    refine Xz (s':=⟨⟨64,none⟩,(21,.v (lb cb))::[(1,.v (li outer)),(2,.v (.one (.at_ 1000000 0))),(3,.v (.one (.at_ 1000002 0))),(7,.v (.one (.at_ 7 0))),(8,.v (li st.length)),(9,.v (lS l)),(10,.v (li l.length)),(11,.v (li k))],(7,.box [.c (iC so),.c (iC sc),.c (iC sv),.c (iC sn),.c (iC to),.c (iC tn),.c (.sl 3 (Xn tk)),.c (.sl 10 (X8 sa)),.c (.sl 10 (X8 sb)),.c (.sl 1 (Xi sbs))])::W6 f st ar⟩) (Xu (fun n=>n) [] rfl (by simp[nxCo,trS,ins]) (by simp[nxCo,trS,ins,W6]) (by simp[W6])) ?_;simp only[W6];refine(X7 rfl (fun h8=>?_) (fun h8=>?_))
    · (try simp only[BN]at h8);refine X0<|(Q4 (by kernel_rfl) (by kernel_rfl) (by rfl) (by simp[*,XA,Qb,XN,cellsOf,Qc,W9,Zd,Wd,QU,WA];rfl) ?_);refine(Xl (by simp[*,setRow];rfl) ?_);exact⟨(),trivial,X4 (fun n=>if n=900001 then 29 else n) []⟩
    (try simp only[BN]at h8);refine Xz (s':=⟨⟨64,none⟩,[(1,.v (li outer)),(2,.v (.one (.at_ 1000000 0))),(3,.v (.one (.at_ 1000002 0))),(7,.v (.one (.at_ 7 0))),(8,.v (li st.length)),(9,.v (lS l)),(10,.v (li l.length)),(11,.v (li k))],(7,.box [.c (iC so),.c (iC sc),.c (iC sv),.c (iC sn),.c (iC to),.c (iC tn),.c (.sl 3 (Xn tk)),.c (.sl 10 (X8 sa)),.c (.sl 10 (X8 sb)),.c (.sl 1 (Xi sbs))])::W6 f st ar⟩) (Xu (fun n=>n) [] rfl (by simp) (by simp[W6]) (by simp[W6])) ?_;refine(QP (nxA [(1,.v (li outer)),(2,.v (.one (.at_ 1000000 0))),(3,.v (.one (.at_ 1000002 0))),(7,.v (.one (.at_ 7 0))),(8,.v (li st.length)),(9,.v (lS l)),(10,.v (li l.length)),(11,.v (li k))] ((7,.box [.c (iC so),.c (iC sc),.c (iC sv),.c (iC sn),.c (iC to),.c (iC tn),.c (.sl 3 (Xn tk)),.c (.sl 10 (X8 sa)),.c (.sl 10 (X8 sb)),.c (.sl 1 (Xi sbs))])::W6 f st ar) [(7,.box [.c (iC so),.c (iC sc),.c (iC sv),.c (iC sn),.c (iC to),.c (iC tn),.c (.sl 3 (Xn tk)),.c (.sl 10 (X8 sa)),.c (.sl 10 (X8 sb)),.c (.sl 1 (Xi sbs))]),(39,.row 76 10 [[iC so,iC sc,iC sv,iC sn,iC to,iC tn,.sl 3 (Xn tk),.sl 10 (X8 sa),.sl 10 (X8 sb),.sl 1 (Xi sbs)]]),(900001,.row 76 10 (X8 st)),(900002,.row 3 1 (Xi ar)),(1000000,.box [.at_ 1000001 0]),(1000001,.box [.c (.sl 5 (Xr f.vars)),.c (.sl 6 (Xs f.hats)),.c (.sl 10 (X8 f.body)),.own 900001,.own 900002,.c (.lit XU)]),(1000002,.box [.fn 123 [(1000000,0),(1000002,0)]])] [(7,.box [.c (iC so),.c (iC sc),.c (iC sv),.c (iC sn),.c (iC to),.c (iC tn),.c (.sl 3 (Xn tk)),.c (.sl 10 (X8 sa)),.c (.sl 10 (X8 sb)),.c (.sl 1 (Xi sbs))]),(39,.row 76 10 [[iC so,iC sc,iC sv,iC sn,iC to,iC tn,.sl 3 (Xn tk),.sl 10 (X8 sa),.sl 10 (X8 sb),.sl 1 (Xi sbs)]]),(40,.row 76 10 (X8 st++[[iC so,iC sc,iC sv,iC sn,iC to,iC tn,.sl 3 (Xn tk),.sl 10 (X8 sa),.sl 10 (X8 sb),.sl 1 (Xi sbs)]])),(900002,.row 3 1 (Xi ar)),(1000000,.box [.at_ 1000001 0]),(1000001,.box [.c (.sl 5 (Xr f.vars)),.c (.sl 6 (Xs f.hats)),.c (.sl 10 (X8 f.body)),.own 900001,.own 900002,.c (.lit XU)]),(1000002,.box [.fn 123 [(1000000,0),(1000002,0)]])] [(7,.box [.c (iC so),.c (iC sc),.c (iC sv),.c (iC sn),.c (iC to),.c (iC tn),.c (.sl 3 (Xn tk)),.c (.sl 10 (X8 sa)),.c (.sl 10 (X8 sb)),.c (.sl 1 (Xi sbs))]),(39,.row 76 10 [[iC so,iC sc,iC sv,iC sn,iC to,iC tn,.sl 3 (Xn tk),.sl 10 (X8 sa),.sl 10 (X8 sb),.sl 1 (Xi sbs)]]),(40,.row 76 10 (X8 st++[[iC so,iC sc,iC sv,iC sn,iC to,iC tn,.sl 3 (Xn tk),.sl 10 (X8 sa),.sl 10 (X8 sb),.sl 1 (Xi sbs)]])),(900002,.row 3 1 (Xi ar)),(1000000,.box [.at_ 1000001 0]),(1000001,.box [.c (.sl 5 (Xr f.vars)),.c (.sl 6 (Xs f.hats)),.c (.sl 10 (X8 f.body)),.own 40,.own 900002,.c (.lit XU)]),(1000002,.box [.fn 123 [(1000000,0),(1000002,0)]])] [(0,33,.v (.one (.at_ 1000001 0))),(1,34,.v (.one (.at_ 1000001 0))),(2,35,.v (.one (.at_ 1000001 0))),(3,36,.v (.one (.at_ 1000001 3))),(4,37,.v (.one (.own 900001))),(5,38,.v (.agg [.c (iC so),.c (iC sc),.c (iC sv),.c (iC sn),.c (iC to),.c (iC tn),.c (.sl 3 (Xn tk)),.c (.sl 10 (X8 sa)),.c (.sl 10 (X8 sb)),.c (.sl 1 (Xi sbs))])),(6,39,.v (.one (.own 39))),(7,40,.v (.one (.own 40))),(8,41,.v (.one (.at_ 1000001 0))),(9,42,.v (.one (.at_ 1000001 3)))]) 11 2047 msD rfl (by kernel_rfl) (by kernel_rfl) (by kernel_rfl) (by kernel_rfl) (by simp[nxA,trS]) ?_ ?_)
    · simp only[msD,ZY]
      repeat' apply And.intro
      all_goals(refine XQ.evE rfl ?_;simp[nxA,W6,trS,ins,W8,XA,Qb,XN,cellsOf,Qc,W9,Zd,Wd,QU,WA,lkp,del,r1,r2];done)
    simp only[nxA,trS];exact⟨(),trivial,X4 (fun n=>if n=900001 then 40 else n) []⟩
   rintro⟨⟩ hz;simp only[upS,X6,Xw]
   try simp only[X6,KN,Nat.reduceBEq,if_true,if_false,ins,Nat.reduceLT]
   simp only[W6];refine Xz (s':=⟨⟨64,none⟩,[(1,.v (li outer)),(2,.v (.one (.at_ 1000000 0))),(3,.v (.one (.at_ 1000002 0))),(7,.v (.one (.at_ 7 0))),(8,.v (li st.length)),(9,.v (lS l)),(10,.v (li l.length)),(11,.v (li k))],(7,.box [.c (iC so),.c (iC sc),.c (iC sv),.c (iC sn),.c (iC to),.c (iC tn),.c (.sl 3 (Xn tk)),.c (.sl 10 (X8 sa)),.c (.sl 10 (X8 sb)),.c (.sl 1 (Xi sbs))])::W6 f (st++[St.mk so sc sv sn (Tm.mk to tn tk) sa sb sbs]) ar⟩) (Xu (fun n=>n) [] rfl (by simp) (by simp[W6]) (by simp[W6])) ?_;refine X0<|(QP (nxA [(1,.v (li outer)),(2,.v (.one (.at_ 1000000 0))),(3,.v (.one (.at_ 1000002 0))),(7,.v (.one (.at_ 7 0))),(8,.v (li st.length)),(9,.v (lS l)),(10,.v (li l.length)),(11,.v (li k))] ((7,.box [.c (iC so),.c (iC sc),.c (iC sv),.c (iC sn),.c (iC to),.c (iC tn),.c (.sl 3 (Xn tk)),.c (.sl 10 (X8 sa)),.c (.sl 10 (X8 sb)),.c (.sl 1 (Xi sbs))])::W6 f (st++[St.mk so sc sv sn (Tm.mk to tn tk) sa sb sbs]) ar) [(7,.box [.c (iC so),.c (iC sc),.c (iC sv),.c (iC sn),.c (iC to),.c (iC tn),.c (.sl 3 (Xn tk)),.c (.sl 10 (X8 sa)),.c (.sl 10 (X8 sb)),.c (.sl 1 (Xi sbs))]),(49,.row 3 1 [[iC outer]]),(900001,.row 76 10 (X8 (st++[St.mk so sc sv sn (Tm.mk to tn tk) sa sb sbs]))),(900002,.row 3 1 (Xi ar)),(1000000,.box [.at_ 1000001 0]),(1000001,.box [.c (.sl 5 (Xr f.vars)),.c (.sl 6 (Xs f.hats)),.c (.sl 10 (X8 f.body)),.own 900001,.own 900002,.c (.lit XU)]),(1000002,.box [.fn 123 [(1000000,0),(1000002,0)]])] [(7,.box [.c (iC so),.c (iC sc),.c (iC sv),.c (iC sn),.c (iC to),.c (iC tn),.c (.sl 3 (Xn tk)),.c (.sl 10 (X8 sa)),.c (.sl 10 (X8 sb)),.c (.sl 1 (Xi sbs))]),(49,.row 3 1 [[iC outer]]),(50,.row 3 1 (Xi ar++[[iC outer]])),(900001,.row 76 10 (X8 (st++[St.mk so sc sv sn (Tm.mk to tn tk) sa sb sbs]))),(1000000,.box [.at_ 1000001 0]),(1000001,.box [.c (.sl 5 (Xr f.vars)),.c (.sl 6 (Xs f.hats)),.c (.sl 10 (X8 f.body)),.own 900001,.own 900002,.c (.lit XU)]),(1000002,.box [.fn 123 [(1000000,0),(1000002,0)]])] [(7,.box [.c (iC so),.c (iC sc),.c (iC sv),.c (iC sn),.c (iC to),.c (iC tn),.c (.sl 3 (Xn tk)),.c (.sl 10 (X8 sa)),.c (.sl 10 (X8 sb)),.c (.sl 1 (Xi sbs))]),(49,.row 3 1 [[iC outer]]),(50,.row 3 1 (Xi ar++[[iC outer]])),(900001,.row 76 10 (X8 (st++[St.mk so sc sv sn (Tm.mk to tn tk) sa sb sbs]))),(1000000,.box [.at_ 1000001 0]),(1000001,.box [.c (.sl 5 (Xr f.vars)),.c (.sl 6 (Xs f.hats)),.c (.sl 10 (X8 f.body)),.own 900001,.own 50,.c (.lit XU)]),(1000002,.box [.fn 123 [(1000000,0),(1000002,0)]])] [(0,43,.v (.one (.at_ 1000001 0))),(1,44,.v (.one (.at_ 1000001 0))),(2,45,.v (.one (.at_ 1000001 0))),(3,46,.v (.one (.at_ 1000001 4))),(4,47,.v (.one (.own 900002))),(5,48,.v (li outer)),(6,49,.v (.one (.own 49))),(7,50,.v (.one (.own 50))),(8,51,.v (.one (.at_ 1000001 0))),(9,52,.v (.one (.at_ 1000001 4)))]) 11 2047 msD rfl (by kernel_rfl) (by kernel_rfl) (by kernel_rfl) (by kernel_rfl) (by simp[nxA,trS]) ?_ ?_)
   · simp only[msD,ZY]
     repeat' apply And.intro
     all_goals(refine XQ.evE rfl ?_;simp[nxA,W6,trS,ins,W8,XA,Qb,XN,cellsOf,Qc,W9,Zd,Wd,QU,WA,lkp,del,r1,r2];done)
   refine Xz (s':=⟨⟨64,none⟩,[(1,.v (li outer)),(2,.v (.one (.at_ 1000000 0))),(3,.v (.one (.at_ 1000002 0))),(7,.v (.one (.at_ 7 0))),(8,.v (li st.length)),(9,.v (lS l)),(10,.v (li l.length)),(11,.v (li k))],(7,.box [.c (iC so),.c (iC sc),.c (iC sv),.c (iC sn),.c (iC to),.c (iC tn),.c (.sl 3 (Xn tk)),.c (.sl 10 (X8 sa)),.c (.sl 10 (X8 sb)),.c (.sl 1 (Xi sbs))])::W6 f (st++[St.mk so sc sv sn (Tm.mk to tn tk) sa sb sbs]) (ar++[outer])⟩) (Xu (fun n=>if n=900002 then 50 else n) [] rfl (by simp[nxA,trS]) (by simp[nxA,trS,W6]) (by simp[W6])) ?_;simp only[W6];obtain⟨S3,hS3⟩:∃x,(st++[St.mk so sc sv sn (Tm.mk to tn tk) sa sb sbs])++flL sa=x:=⟨_,rfl⟩;obtain⟨A3,hA3⟩:∃x,ar++[outer]++arL sa st.length (st.length+1)=x:=⟨_,rfl⟩;rw[hS3,hA3]at iha;refine X0<|(XP ?_);refine RunsN.cutE 4 [] (by simp;rfl) trivial (le_refl _) ?_;refine RunsN.callA (fun n=>n) (fun n=>if n=900001 then 30 else if n=900002 then 31 else n) iha fun _ _=>?_;refine RunsN.doneE [] rfl trivial ?_;refine Xz (s':=⟨⟨64,none⟩,[(1,.v (li outer)),(2,.v (.one (.at_ 1000000 0))),(3,.v (.one (.at_ 1000002 0))),(7,.v (.one (.at_ 7 0))),(8,.v (li st.length)),(9,.v (lS l)),(10,.v (li l.length)),(11,.v (li k))],(7,.box [.c (iC so),.c (iC sc),.c (iC sv),.c (iC sn),.c (iC to),.c (iC tn),.c (.sl 3 (Xn tk)),.c (.sl 10 (X8 sa)),.c (.sl 10 (X8 sb)),.c (.sl 1 (Xi sbs))])::W6 f S3 A3⟩) (Xu (fun n=>if n=900001 then 30 else if n=900002 then 31 else n) [] rfl (by simp[Qj,QQ,del,ins,CV.ren,Ob.ren]) (by simp[Qj,QQ,del,ins,CV.ren,Ob.ren]) (by simp)) ?_;subst hS3;subst hA3;obtain⟨S3,hS3⟩:∃x,(st++[St.mk so sc sv sn (Tm.mk to tn tk) sa sb sbs])++flL sa++flL sb=x:=⟨_,rfl⟩;obtain⟨A3,hA3⟩:∃x,ar++[outer]++arL sa st.length (st.length+1)++arL sb st.length (st.length+1+szL sa)=x:=⟨_,rfl⟩;rw[hS3,hA3]at ihb;refine(XP ?_);refine RunsN.cutE 4 [] (by simp;rfl) trivial (le_refl _) ?_;refine RunsN.callA (fun n=>n) (fun n=>if n=900001 then 30 else if n=900002 then 31 else n) ihb fun _ _=>?_;refine RunsN.doneE [] rfl trivial ?_;refine Xz (s':=⟨⟨64,none⟩,[(1,.v (li outer)),(2,.v (.one (.at_ 1000000 0))),(3,.v (.one (.at_ 1000002 0))),(7,.v (.one (.at_ 7 0))),(8,.v (li st.length)),(9,.v (lS l)),(10,.v (li l.length)),(11,.v (li k))],(7,.box [.c (iC so),.c (iC sc),.c (iC sv),.c (iC sn),.c (iC to),.c (iC tn),.c (.sl 3 (Xn tk)),.c (.sl 10 (X8 sa)),.c (.sl 10 (X8 sb)),.c (.sl 1 (Xi sbs))])::W6 f S3 A3⟩) (Xu (fun n=>if n=900001 then 30 else if n=900002 then 31 else n) [] rfl (by simp[Qj,QQ,del,ins,CV.ren,Ob.ren]) (by simp[Qj,QQ,del,ins,CV.ren,Ob.ren]) (by simp)) ?_;subst hS3;subst hA3;have hl3:((st++[St.mk so sc sv sn (Tm.mk to tn tk) sa sb sbs])++flL sa++flL sb).length=st.length+(1+szL sa+szL sb):=by simp[fa,fb];omega
   have hl4:(ar++[outer]++arL sa st.length (st.length+1)++arL sb st.length (st.length+1+szL sa)).length=st.length+(1+szL sa+szL sb):=by simp[la,hlb,har];omega
   obtain⟨S3,hS3⟩:∃x,(st++[St.mk so sc sv sn (Tm.mk to tn tk) sa sb sbs])++flL sa++flL sb=x:=⟨_,rfl⟩;obtain⟨A3,hA3⟩:∃x,ar++[outer]++arL sa st.length (st.length+1)++arL sb st.length (st.length+1+szL sa)=x:=⟨_,rfl⟩;rw[hS3]at hE1 hl3;rw[hA3]at hE2 hl4;rw[hS3,hA3];rw[←hl3]at hE2;clear iha ihb hS3 hA3 hsn hset;refine X1 ?_;exact⟨(k+1,S3,A3),⟨hk1,hE1,hE2,by rw[hl4,hl3],by simp only[hl3];omega⟩,by simp only;omega,X4 (fun n=>n) []⟩
 try simp only[BN]at h3
 have hkl:k=l.length:=by
  have:¬k<l.length:=by simpa using h3
  omega
 subst hkl;simp only[List.drop_length,flL,arL,List.append_nil]at h1 h2;subst h1;subst h2;refine(Xf ?_);exact⟨.inl rfl,(),trivial,_,le_refl _,⟨[],rfl,rfl⟩,fun n o h=>h⟩
end Go.Proofs.YtppjennamodfdaaGreat

namespace Go.Proofs.YtppjennamodfdaaGreat
open Go Go.Hl
def rdB (x:Nd):Bool:=decide (0≤x.a)&&decide (x.k≠4)
def rdF (n:Nat) (l:List (Nd×List Nat)):List (List Nat):=l.foldl (fun rd p=>if rdB p.1=true then rd.set p.1.a.toNat p.2 else rd) (List.replicate n [])
theorem X9o (n:Nat) (l:List (Nd×List Nat)) (p:Nd×List Nat):rdF n (l++[p])=if rdB p.1=true then(rdF n l).set p.1.a.toNat p.2 else rdF n l:=by simp[rdF,List.foldl_append]
theorem X3J (n:Nat) (l:List (Nd×List Nat)):(rdF n l).length=n:=by
 unfold rdF
 have:∀(l:List (Nd×List Nat)) (r:List (List Nat)),r.length=n→(l.foldl (fun rd p=>if rdB p.1=true then rd.set p.1.a.toNat p.2 else rd) r).length=n:=by
  intro l
  induction l with
  |nil=>exact fun r h=>h
  | cons p l ih=>
    intro r h;rw[List.foldl_cons];refine ih _ ?_;split
    · rw[List.length_set];exact h
    exact h
 exact this l _ (by simp)
noncomputable def rdT (f:Fl):List (List Nat):=rdF (szL f.body) ((grN f.body).zip (rcL (grN f.body) (flL f.body) f.vars.length))
noncomputable def X5I (f:Fl):CD:=.ptr [.sl 5 (Xr f.vars),.sl 6 (Xs f.hats),.sl 10 (X8 f.body),.sl 10 (X8 (flL f.body)),.sl 1 (Xi (arL f.body (-1) 0)),.sl 1 (Qa (rdT f))]
theorem X7k (rd:List (List Nat)) (m:Nat) (l:List Nat):(Qa rd).set m [.sl 1 (XB l)]=Qa (rd.set m l):=by simp[Qa,List.map_set]
theorem Z3 {rd:List (List Nat)} {m:Nat} {l:List Nat} (h:rd[m]? =some l):(Qa rd)[m]? =some [.sl 1 (XB l)]:=by simp[Qa,h]
theorem X70 (n:Nat):Qa (List.replicate n [])=List.replicate n [.sl 1 []]:=by simp[Qa]
set_option maxHeartbeats 8000000 in
theorem X7M (f:Fl) (h:Sm f) (d:Nat):Con Tryz.prog 80 false [aF f] (.tup [.one (.c (if Qf f=0 then X5I f else .lit (.pointer none))),li (Qf f)]) none d:=by
 have cb:=X7w f h;have cr:=X85 f h;have hok:=@X5U f.body;have hg:=@X1C f;have hNl:gL f.body=true→(grN f.body).length≤2002:=fun hg=>by have:=X2q f.body;have:=h.sz;rw[X3i hg];omega
 have hsl:=XT f.body;have hal:=Z7 f.body (-1) 0;have hsz:=h.sz;have cn:=new1_con f f.body (-1) [] [] rfl (by simpa using hsz);simp only[List.nil_append,List.length_nil]at cn;obtain⟨T,hT⟩:∃x,(if Qf f=0 then X5I f else .lit (.pointer none))=x:=⟨_,rfl⟩;obtain⟨C,hC⟩:∃x,Qf f=x:=⟨_,rfl⟩;rw[hT];rw[hC]at cb cr hT hg⊢;unfold X5I rdT at hT;have hrl:=X7O (grN f.body) (flL f.body) f.vars.length;obtain⟨L,hL⟩:∃x,rcL (grN f.body) (flL f.body) f.vars.length=x:=⟨_,rfl⟩;rw[hL]at cr hT hrl;obtain⟨N,hN⟩:∃x,grN f.body=x:=⟨_,rfl⟩;simp only[grC,hN]at cb cr hT hrl hok hNl;obtain⟨n,hn⟩:∃x,szL f.body=x:=⟨_,rfl⟩;rw[hn]at hT hok hsl hal hsz;obtain⟨S,hS⟩:∃x,flL f.body=x:=⟨_,rfl⟩;obtain⟨A,hA⟩:∃x,arL f.body (-1) 0=x:=⟨_,rfl⟩;rw[hS]at hT hsl cn;rw[hA]at hT hal cn;obtain⟨vars,hats,body⟩:=f;simp only[Fl.enc,W6]at cn hT;clear h hC hL hN hn hS hA;refine X5 Tryz.func80 ?_;simp only[Tryz.f80];simp only[aF,Fl.enc,List.map_cons,List.map_nil]at cb cr⊢;obtain⟨G,hG⟩:∃x,(if C=0 then CD.sl 4 (XD N)else .lit XU)=x:=⟨_,rfl⟩;rw[hG]at cb;refine X2 ?_;rcases Classical.em (C=0)with hz|hz
 · rw [if_pos hz]at hT hG;subst hG;have cr:=cr hz;have hok:=hok (hg hz);have hNl:=hNl (hg hz);clear hg;refine Xh [⟨false,.tup [.agg [.c (.sl 4 (XD N))],li C],none⟩] ?_ ?_
   · first|exact cb _|exact trivial|simpa[*]using cb _
   refine X0<|X0<|X1 ?_;refine(Xc rfl (fun h3=>?_) fun h3=>?_)
   · exact absurd h3 (by simp[hz])
   (try simp only[BN]at h3);subst hz;clear h3 cb;refine X0<|(Xl (by simp[*,XA,Qb,XN,cellsOf,Qc];rfl) ?_);refine X2 ?_;refine X2 ?_;refine Xz (s':=⟨⟨74,none⟩,[(1,.v (.one (.at_ 1 0))),(4,.v (.one (.at_ 4 0))),(6,.v (.one (.at_ 6 0))),(7,.v (.one (.at_ 7 0)))],[(1,.box [.c (.sl 5 (Xr vars)),.c (.sl 6 (Xs hats)),.c (.sl 10 (X8 body))]),(4,.box [.c (.sl 4 (XD N))]),(6,.box [.at_ 21 0]),(7,.box [.fn 123 [(6,0),(7,0)]]),(21,.box [.c (.sl 5 (Xr vars)),.c (.sl 6 (Xs hats)),.c (.sl 10 (X8 body)),.own 900001,.own 900002,.c (.lit XU)]),(900001,.row 76 10 []),(900002,.row 3 1 [])]⟩) (Xu (fun n=>n) [900001,900002] rfl (by simp) (by simp) (by simp)) ?_;refine X0<|(XP ?_);refine RunsN.cutE 3 [] (by simp;rfl) trivial (le_refl _) ?_;refine RunsN.callA (fun n=>if n=1000000 then 6 else if n=1000001 then 21 else if n=1000002 then 7 else n) (fun n=>if n=1000000 then 6 else if n=1000001 then 21 else if n=1000002 then 7 else if n=900001 then 27 else if n=900002 then 28 else n) cn (fun _ _=>?_) (hd0:=by(refine WT ?_ ?_ ?_ ?_ ?_<;>simp[rbB,WN,QI,CV.ren,Ob.ren,lkp,Qj,X8,Xi])) (hd:=by(intro _ _;refine WT ?_ ?_ ?_ ?_ ?_<;>simp[rbB,WN,QI,CV.ren,Ob.ren,lkp,Qj,X8,Xi]));refine RunsN.doneE [] rfl trivial ?_;refine Xz (s':=⟨⟨74,none⟩,[(1,.v (.one (.at_ 1 0))),(4,.v (.one (.at_ 4 0))),(6,.v (.one (.at_ 6 0))),(7,.v (.one (.at_ 7 0)))],[(1,.box [.c (.sl 5 (Xr vars)),.c (.sl 6 (Xs hats)),.c (.sl 10 (X8 body))]),(4,.box [.c (.sl 4 (XD N))]),(6,.box [.at_ 21 0]),(7,.box [.fn 123 [(6,0),(7,0)]]),(21,.box [.c (.sl 5 (Xr vars)),.c (.sl 6 (Xs hats)),.c (.sl 10 (X8 body)),.own 900001,.own 900002,.c (.lit XU)]),(900001,.row 76 10 (X8 S)),(900002,.row 3 1 (Xi A))]⟩) (Xu (fun n=>if n=900001 then 27 else if n=900002 then 28 else n) [] rfl (by simp[Qj,QQ,del,ins,CV.ren,Ob.ren]) (by simp[Qj,QQ,del,ins,CV.ren,Ob.ren]) (by simp)) ?_;have hbig:(24:Int)*n≤281474976710656:=by omega
   have hmx:n≤maxLen:=by unfold maxLen;omega
   clear cn;refine Xh [⟨false,.tup [.one (.c (.sl 1 (Qa L))),li 0],none⟩] ?_ ?_
   · first|exact cr _|exact trivial|simpa[*]using cr _
   refine X0<|X0<|X1 ?_;refine(Xc rfl (fun h12=>?_) fun h12=>?_)
   · exact absurd h12 (by simp)
   (try simp only[BN]at h12);refine X0<|(Q4 (by kernel_rfl) (by kernel_rfl) (by rfl) (by simp[*];rfl) ?_);refine Xz (X7e (e:=27) (k:=n) 42 (by simp[hsl])) ?_;simp only[rwO,Nat.reduceEqDiff,if_true,if_false];refine X0<|X0<|X1 ?_;refine X3<|(Xb [6,8,46,47] (fun(y:Nat)=>[(48,.v (li y))]) (fun y=>[(6,.box [.at_ 21 0]),(21,.box [.c (.sl 5 (Xr vars)),.c (.sl 6 (Xs hats)),.c (.sl 10 (X8 body)),.own 900001,.own 900002,.own 42]),(42,.row 27 1 (Qa (rdF n ((N.zip L).take y)))),(900001,.row 76 10 (X8 S)),(900002,.row 3 1 (Xi A))]) (fun y=>y≤N.length) (fun y=>N.length - y) (0:Nat) (Nat.zero_le _) ?_ ?_)
   · exact Xu (fun n=>n) [] rfl (by simp[*,upS,X6]) (by simp[*,upS,rdF,X70]) (by simp[upS])
   rintro y hy;simp only[upS,X6,Xw]
   try simp only[X6,KN,Nat.reduceBEq,if_true,if_false,ins,Nat.reduceLT]
   refine X2 ?_;refine X0<|(X7 rfl (fun h19=>X9 ?_) (fun h19=>?_))
   · (try simp only[BN]at h19);have hlt:y<N.length:=by omega
     obtain⟨x,hx,_⟩:=Xo hlt;obtain⟨Li,hLi,_⟩:=Xo (show y<L.length by omega);have hwd:=hok x (List.mem_of_getElem? hx);have hxe:=ZE hx;have hle:=Z3 hLi
     have hsn:rdF n ((N.zip L).take (y+1))=if rdB x=true then(rdF n ((N.zip L).take y)).set x.a.toNat Li else rdF n ((N.zip L).take y):=by
      rw[List.take_add_one,show(N.zip L)[y]? =some (x,Li) by rw[List.getElem?_zip_eq_some];exact⟨hx,hLi⟩,Option.toList_some,X9o]
     have hrdl:=X3J n ((N.zip L).take y);obtain⟨RD,hRD⟩:∃z,rdF n ((N.zip L).take y)=z:=⟨_,rfl⟩;rw[hRD]at hsn hrdl⊢;have hk1:y+1≤N.length:=hlt;have hyb:N.length≤1000000000:=by omega
     have hw1:=Xy hlt hyb;obtain⟨xk,xa,xn,xo⟩:=x;simp only[Nd.enc]at hxe;clear hlt h19 hx hLi hRD;refine X0<|X3<|X0<|X1 ?_;refine XL [6,8,9,10,46,47,48] (fun(q:Bool)=>[(60,.v (lb q))]) (fun(q:Bool)=>[(6,.box [.at_ 21 0]),(10,.box [.c (iC xk),.c (iC xa),.c (iC xn),.c (iC xo)]),(21,.box [.c (.sl 5 (Xr vars)),.c (.sl 6 (Xs hats)),.c (.sl 10 (X8 body)),.own 900001,.own 900002,.own 42]),(42,.row 27 1 (Qa RD)),(900001,.row 76 10 (X8 S)),(900002,.row 3 1 (Xi A))]) (fun(q:Bool)=>q=rdB ⟨xk,xa,xn,xo⟩) ?_ ?_
     · refine Xl (by simp[*];rfl) ?_;exact⟨_,rfl,Xu (fun n=>n) [] rfl (by simp[upS,X6,rdB]<;>rfl) (by simp[upS]) (by simp[upS])⟩
     rintro q hq;simp only[upS,X6,Xw]
     try simp only[X6,KN,Nat.reduceBEq,if_true,if_false,ins,Nat.reduceLT]
     refine(Xc rfl (fun h22=>?_) fun h22=>?_)
     · (try simp only[BN]at h22);have hqt:q=true:=by simpa using h22
       subst hqt;rw[if_pos hq.symm]at hsn
       obtain⟨m,hm,hmn⟩:∃m:Nat,xa=m∧m<n:=by
        rcases hwd.ha with⟨_,h⟩|h
        · simp only at h;rw[h]at hq;simp[rdB]at hq
        exact h
       subst hm;simp only[Int.toNat_natCast]at hsn;obtain⟨o,ho,_⟩:=Xo (show m<RD.length by omega);have ho':=Z3 ho;have hset:=X7k RD m Li;rw[←hsn]at hset;have hml:m+1≤RD.length:=by omega
       clear hq h22 hwd hsn ho hmn hrdl;refine(Q4 (by kernel_rfl) (by kernel_rfl) (by rfl) (by simp[*,setRow];rfl) ?_);refine X1 ?_;exact⟨y+1,hk1,by omega,X4 (fun n=>n) []⟩
     (try simp only[BN]at h22);have hqt:q=false:=by simpa using h22
     subst hqt;rw[if_neg (by rw[←hq];simp)]at hsn;clear hq h22 hwd hrdl;refine X1 ?_;exact⟨y+1,hk1,by omega,X4 (fun n=>n) []⟩
   (try simp only[BN]at h19);have hyn:y=N.length:=by omega
   subst hyn;have htk:(N.zip L).take N.length=N.zip L:=List.take_of_length_le (by rw[List.length_zip];omega);rw[htk];obtain⟨RD,hRD⟩:∃z,rdF n (N.zip L)=z:=⟨_,rfl⟩;rw[hRD]at hT⊢;clear hRD htk h19;refine(Xf ?_);refine X2 ?_;refine Xz (XO 42 rfl) ?_;refine Xz (XO 900001 rfl) ?_;refine Xz (XO 900002 rfl) ?_;refine Xz (le_frzB (cs:=[.c (.sl 5 (Xr vars)),.c (.sl 6 (Xs hats)),.c (.sl 10 (X8 body)),.c (.sl 10 (X8 S)),.c (.sl 1 (Xi A)),.c (.sl 1 (Qa RD))]) (ds:=[.sl 5 (Xr vars),.sl 6 (Xs hats),.sl 10 (X8 body),.sl 10 (X8 S),.sl 1 (Xi A),.sl 1 (Qa RD)]) 21 rfl rfl rfl) ?_;exact XR ⟨.inr rfl,_,le_refl _,⟨_,by simp[HS.frz,Wu,RV.frz,TV.frz,CV.frz];rfl,by simp[XK,←hT,li]⟩,by simp,fun h=>by cases h⟩
 rw[if_neg hz]at hT hG;subst hG;subst hT;clear cr;refine Xh [⟨false,.tup [.agg [.c (.lit XU)],li C],none⟩] ?_ ?_
 · first|exact cb _|exact trivial|simpa[*]using cb _
 refine X0<|X0<|X1 ?_;refine(Xc rfl (fun h3=>?_) fun h3=>?_)
 · (try simp only[BN]at h3);refine X2 ?_;exact XR ⟨.inr rfl,_,le_refl _,⟨_,by simp;rfl,by simp[XK,li]⟩,by simp,fun h=>by cases h⟩
 exact absurd h3 (by simp[hz])
end Go.Proofs.YtppjennamodfdaaGreat

namespace Go.Proofs.YtppjennamodfdaaGreat
open Go Go.Hl
def mpZ (l:List Int):List (Value×CD):=l.map fun d=>(.int .i64 d,bC true)
@[simp] theorem len_mpZ (l:List Int):(mpZ l).length=l.length:=by simp[mpZ]
theorem get_mpZ {l:List Int} {j:Nat} {k:Value} {v:CD} (h:(mpZ l)[j]? =some (k,v)):∃d:Int,l[j]? =some d∧k=.int .i64 d∧v=bC true:=by
 simp only[mpZ,List.getElem?_map,Option.map_eq_some_iff]at h;obtain⟨d,hd,he⟩:=h;cases he;exact⟨d,hd,rfl,rfl⟩
theorem X94 (a b:Int):Instr.sameNow (.int .i64) (.int .i64 a) (.int .i64 b)=some (decide (a=b)):=by
 have h2:(a==b)=decide (a=b):=by
  rw[Bool.eq_iff_iff];simp only[beq_iff_eq,decide_eq_true_eq]
 simp[Instr.sameNow,h2]
theorem X1A (d:Int):∀l:List Int,X2f (.int .i64) (.int .i64 d) (mpZ l)=some (if d∈l then some (bC true)else none)
 |[]=>rfl
 | k::l=>by
   have e:mpZ (k::l)=(.int .i64 k,bC true)::mpZ l:=rfl;rw[e];unfold X2f;rw[X94];by_cases hk:d=k
   · subst hk;simp
   simp only[hk,decide_false,List.mem_cons,false_or];exact X1A d l
theorem X56 (d:Int):∀l:List Int,d∈l→setM (.int .i64) (.int .i64 d) (bC true) (mpZ l)=some (mpZ l)
 |[],h=>by cases h
 | k ::l,h=>by
   have e:mpZ (k::l)=(.int .i64 k,bC true)::mpZ l:=rfl;rw[e];unfold setM;rw[X94];by_cases hk:d=k
   · subst hk;have:Instr.sameBits 10000 (.int .i64 d) (.int .i64 d)=true:=by simp[Instr.sameBits]
     simp[this]
   simp only[hk,decide_false];rcases List.mem_cons.1 h with h|h
   · exact absurd h hk
   rw[X56 d l h];rfl
def X2u (m:List Int) (v:Int):List Int:=if v∈m then m else m++[v]
theorem X6d (m:List Int) (v:Int):mpZ m++[(.int .i64 v,bC true)]=mpZ (m++[v]):=by simp[mpZ]
def X4Y (m:List Int):List (Nat×Ob):=[(900001,.mp (mpZ m)),(1000000,.box [.own 900001])]
theorem X7J {m:List Int}:∀n cs,lkp (X4Y m) n=some (.box cs)→1000000≤n:=by
 intro n cs h;simp only[X4Y,lkp]at h
 repeat' split at h
 all_goals first|omega|cases h
attribute [simp] X4Y
def putC (c:FuncId):Prop:=∀(m:List Int) (v:Int),X1k Tryz.prog c none (X4Y m) [li v,.one (.at_ 1000000 0)] (fun _:Unit=>True) (fun _=>.tup []) (fun _=>X4Y (X2u m v))
theorem put1_con:putC 83:=by
 intro m v;refine Qs Tryz.func83 rfl (by kernel_rfl) (Nat.le_of_ble_eq_true rfl) X7J (fun v h=>by cases h) ?_;simp only[Tryz.f83,X4Y];have hf:=X1A v m;unfold X2u;by_cases h:v∈m
 · rw[if_pos h]at hf⊢;have hs:=X56 v m h;refine X1 ?_;exact⟨.inl rfl,(),trivial,_,le_refl _,⟨[],rfl,rfl⟩,fun n o h=>h⟩
 rw[if_neg h]at hf⊢;have hs:=X6d m v;refine X1 ?_;exact⟨.inl rfl,(),trivial,_,le_refl _,⟨[],rfl,rfl⟩,fun n o h=>h⟩
theorem put2_con:putC 55:=by
 intro m v;refine Qs Tryz.func55 rfl (by kernel_rfl) (Nat.le_of_ble_eq_true rfl) X7J (fun v h=>by cases h) ?_;simp only[Tryz.f55,X4Y];have hf:=X1A v m;unfold X2u;by_cases h:v∈m
 · rw[if_pos h]at hf⊢;have hs:=X56 v m h;refine X1 ?_;exact⟨.inl rfl,(),trivial,_,le_refl _,⟨[],rfl,rfl⟩,fun n o h=>h⟩
 rw[if_neg h]at hf⊢;have hs:=X6d m v;refine X1 ?_;exact⟨.inl rfl,(),trivial,_,le_refl _,⟨[],rfl,rfl⟩,fun n o h=>h⟩
mutual
def vrT:Tm→List Int→List Int
 | .mk o n ks,m=>vrTs ks (if o=24 then X2u m n else m)
def vrTs:List Tm→List Int→List Int
 |[],m=>m
 |t::l,m=>vrTs l (vrT t m)
end
theorem X2j {c:FuncId} (hc:putC c) (t:Tm):t.nodes≤1000000→∀m:List Int,X1k Tryz.prog 54 none (X4Y m) [aT t,.one (.fn c [(1000000,0)])] (fun _:Unit=>True) (fun _=>.tup []) (fun _=>X4Y (vrT t m)):=by
 revert t
 refine Tm.ind ?_;intro o n ks ih hn m;simp only[Tm.nodes]at hn;have hlen:=W5 ks;obtain⟨R,hR⟩:∃x,vrT (.mk o n ks) m=x:=⟨_,rfl⟩;rw[hR];simp only[vrT]at hR;simp only[aT,Tm.enc,List.map_cons,List.map_nil];refine Qs Tryz.func54 rfl (by kernel_rfl) (Nat.le_of_ble_eq_true rfl) X7J (fun v h=>by cases h) ?_;simp only[Tryz.f54];refine X2 ?_;refine(XL [1,2] (fun(z:Unit)=>[]) (fun(z:Unit)=>(2,.box [.c (iC o),.c (iC n),.c (.sl 3 (Xn ks))])::X4Y (if o=24 then X2u m n else m)) (fun(z:Unit)=>True) ?_ ?_)
 ·
  refine X2 ?_;refine(Xc rfl (fun h3=>?_) fun h3=>?_)
  · (try simp only[BN]at h3);have ho:o=24:=by simpa using h3
    have cc:=hc m n;rw[if_pos ho];clear h3 ho hR;refine(XP ?_);refine RunsN.cutE 3 [] (by simp;rfl) trivial (le_refl _) ?_;refine RunsN.callA (fun n=>n) (fun n=>if n=900001 then 20 else n) cc fun _ _=>?_;refine RunsN.doneE [] rfl trivial ?_;exact⟨(),trivial,Xu (fun n=>if n=900001 then 20 else n) [] rfl (by simp[upS,X6,Qj,QQ,del,ins,CV.ren,Ob.ren]) (by simp[upS,Qj,QQ,del,ins,CV.ren,Ob.ren]) (by simp[upS])⟩
  (try simp only[BN]at h3);have ho:¬o=24:=by simpa using h3
  rw[if_neg ho];clear h3 ho hR;exact⟨(),trivial,Xu (fun n=>n) [] rfl (by simp[upS,X6]) (by simp[upS]) (by simp[upS])⟩
 rintro⟨⟩ hz;simp only[upS,X6,Xw]
 try simp only[X6,KN,Nat.reduceBEq,if_true,if_false,ins,Nat.reduceLT]
 obtain⟨m0,hm0⟩:∃x,(if o=24 then X2u m n else m)=x:=⟨_,rfl⟩;rw[hm0]at hR⊢;clear hm0;refine X2 ?_;refine X3<|(Xb [1,14,15] (fun(y:Nat×List Int)=>[(16,.v (li y.1))]) (fun y=>X4Y y.2) (fun y=>y.1≤ks.length∧vrTs (ks.drop y.1) y.2=R) (fun y=>ks.length - y.1) (0,m0) ⟨Nat.zero_le _,hR⟩ ?_ ?_)
 · exact X4 (fun n=>n) []
 rintro⟨k,m1⟩ ⟨hk,hJ⟩;simp only[upS,X6,Xw]
 try simp only[X6,KN,Nat.reduceBEq,if_true,if_false,ins,Nat.reduceLT]
 simp only at hk hJ;clear hR;refine X2 ?_;refine X0<|(X7 rfl (fun h10=>X9 ?_) (fun h10=>?_))
 · (try simp only[BN]at h10);have hlt:k<ks.length:=by simpa using h10
   obtain⟨t,he,hd⟩:=Xo hlt;have hw1:=Xy hlt (by omega);have hk1:k+1≤ks.length:=hlt;have hmem:t∈ks:=List.mem_of_getElem? he;have hnm:=X1G hmem;have ct:=ih t hmem (by omega) m1;rw[hd]at hJ;simp only[vrTs]at hJ;have he':=Wn he;obtain⟨M,hM⟩:∃x,vrT t m1=x:=⟨_,rfl⟩;rw[hM]at ct hJ;obtain⟨so,stn,sks⟩:=t;simp only[Tm.enc]at he';simp only[aT,Tm.enc,List.map_cons,List.map_nil]at ct;clear hlt h10 ih hmem hnm he hd hM;refine X0<|X3<|X0<|X1 ?_;refine(XP ?_);refine RunsN.cutE 2 [] (by simp;rfl) trivial (le_refl _) ?_;refine RunsN.callA (fun n=>n) (fun n=>if n=900001 then 20 else n) ct fun _ _=>?_;refine RunsN.doneE [] rfl trivial ?_;refine Xz (s':=⟨⟨24,none⟩,[(1,.v (.one (.fn c [(1000000,0)]))),(14,.v (.one (.c (.sl 3 (Xn ks))))),(15,.v (li ks.length)),(16,.v (li k))],X4Y M⟩) (Xu (fun n=>if n=900001 then 20 else n) [] rfl (by simp[Qj,QQ,del,ins,CV.ren,Ob.ren]) (by simp[Qj,QQ,del,ins,CV.ren,Ob.ren]) (by simp)) ?_;refine X1 ?_;exact⟨(k+1,M),⟨hk1,hJ⟩,by simp only;omega,X4 (fun n=>n) []⟩
 try simp only[BN]at h10
 have hkl:k=ks.length:=by
  have:¬k<ks.length:=by simpa using h10
  omega
 subst hkl;simp only[List.drop_length,vrTs]at hJ;subst hJ;refine(Xf ?_);exact⟨.inl rfl,(),trivial,_,le_refl _,⟨[],rfl,rfl⟩,fun n o h=>h⟩
end Go.Proofs.YtppjennamodfdaaGreat

namespace Go.Proofs.YtppjennamodfdaaGreat
open Go Go.Hl
@[simp] theorem mpZ_nil:mpZ []=[]:=rfl
abbrev ZG (f:Fl) (steps:List St) (ar:List Int) (rd:List (List Nat)):CD:=.ptr [.sl 5 (Xr f.vars),.sl 6 (Xs f.hats),.sl 10 (X8 f.body),.sl 10 (X8 steps),.sl 1 (Xi ar),.sl 1 (Qa rd)]
theorem X8X (f:Fl) (steps:List St) (ar:List Int) (rd:List (List Nat)) (n:Nat) (hn:n≤1000000) (hl:steps.length≤1000000) (d:Nat):Con Tryz.prog 84 true [.one (.c (ZG f steps ar rd)),li n] (.v (li (QF steps n))) none d:=by
 obtain⟨res,hres⟩:∃x,QF steps n=x:=⟨_,rfl⟩;rw[hres];refine X5 Tryz.func84 ?_;simp only[Tryz.f84];refine X2 ?_;refine X0<|X0<|X1 ?_;refine(Xc rfl (fun h2=>?_) fun h2=>?_)
 · (try simp only[BN]at h2);have hge:steps.length≤n:=by simpa using h2
   rw[X9Q hge]at hres;have hw:IntKind.i64.wrap ((n:Int) - steps.length)=(n:Int) - steps.length:=Xa (by omega) (by omega);clear h2;refine X2 ?_;exact Xe
 (try simp only[BN]at h2);have hlt:n<steps.length:=by simpa using h2
 obtain⟨s,he,_⟩:=Xo hlt;have he':=XX he;rw[X9C s he]at hres;obtain⟨so,sc,sv,sn,⟨to,tn,tk⟩,sa,sb,sbs⟩:=s;simp only[St.enc,Tm.enc,List.cons_append,List.nil_append]at he';simp only[St.var]at hres;clear h2 he hlt;refine X2 ?_;exact Xe
def X2t (steps:List St) (q:St) (l:List Nat):List Nat:=l.filter fun d=>decide (QF steps d∈vrT q.term [])
theorem X4u (f:Fl) (steps:List St) (ar:List Int) (rd:List (List Nat)) (s:Nat) (q:St) (l:List Nat) (hq:steps[s]? =some q) (hr:rd[s]? =some l) (hqn:q.term.nodes≤1000000) (hl:l.length≤5000) (hlb:∀d∈l,d≤1000000) (hs:steps.length≤1000000) (d:Nat):
  Con Tryz.prog 53 false [.one (.c (ZG f steps ar rd)),li s] (.v (.one (.c (.sl 1 (XB (X2t steps q l)))))) none d:=by
 have cv:=X2j put1_con q.term hqn [];have cd:=fun n hn=>X8X f steps ar rd n hn hs;obtain⟨res,hres⟩:∃x,X2t steps q l=x:=⟨_,rfl⟩;rw[hres];unfold X2t at hres;obtain⟨M,hM⟩:∃x,vrT q.term []=x:=⟨_,rfl⟩;rw[hM]at hres cv;have he':=XX hq;have hr':=Z3 hr;obtain⟨so,sc,sv,sn,⟨to,tn,tk⟩,sa,sb,sbs⟩:=q;simp only[St.enc,Tm.enc,List.cons_append,List.nil_append]at he';simp only[St.term,aT,Tm.enc,List.map_cons,List.map_nil]at cv;clear hM hq hr hqn;refine X5 Tryz.func53 ?_;simp only[Tryz.f53];refine X2 ?_;refine X2 ?_;refine X0<|(XP ?_);refine RunsN.cutE 9 [] (by simp[*];rfl) trivial (le_refl _) ?_;refine RunsN.callA (fun n=>if n=1000000 then 5 else if n=900001 then 9 else n) (fun n=>if n=1000000 then 5 else if n=900001 then 19 else n) cv fun _ _=>?_;refine RunsN.doneE [] rfl trivial ?_;refine Xz (s':=⟨⟨43,none⟩,[(0,.v (.one (.c (ZG f steps ar rd)))),(1,.v (li s)),(5,.v (.one (.at_ 5 0)))],[(5,.box [.own 900001]),(900001,.mp (mpZ M))]⟩) (Xu (fun n=>if n=900001 then 19 else n) [] rfl (by simp[Qj,QQ,del,ins,CV.ren,Ob.ren]) (by simp[Qj,QQ,del,ins,CV.ren,Ob.ren]) (by simp)) ?_;refine X2 ?_;refine X0<|X0<|X1 ?_;refine X3<|(Xb [0,5,26,27] (fun(y:Nat×List Nat)=>[(6,.v (.one (.own 1006))),(28,.v (li y.1))]) (fun y=>[(5,.box [.own 900001]),(1006,.row 3 1 (XB y.2)),(900001,.mp (mpZ M))]) (fun y=>y.1≤l.length∧y.2++(l.drop y.1).filter (fun d=>decide (QF steps d∈M))=res∧y.2.length≤y.1) (fun y=>l.length - y.1) (0,[]) ⟨Nat.zero_le _,by simpa using hres,Nat.le_refl _⟩ ?_ ?_)
 · exact X4 (fun n=>n) [1006]
 rintro⟨k,out⟩ ⟨hk,hJ,hol⟩;simp only[upS,X6,Xw]
 try simp only[X6,KN,Nat.reduceBEq,if_true,if_false,ins,Nat.reduceLT]
 simp only at hk hJ hol;clear hres;refine X2 ?_;refine X0<|(X7 rfl (fun h7=>X9 ?_) (fun h7=>?_))
 · (try simp only[BN]at h7);have hlt:k<l.length:=by simpa using h7
   obtain⟨x,he,hd⟩:=Xo hlt;have hw1:=Xy hlt (by omega);have hk1:k+1≤l.length:=hlt;have hx:=hlb x (List.mem_of_getElem? he);have cx:=cd x hx;have hxe:(XB l)[k]? =some [iC x]:=by simp[XB,he]
   have hfd:=X1A (QF steps x) M;have hroom:Q9 (out.length+1) 8:=Xv (by omega) (by decide);rw[hd]at hJ;clear hlt h7 he hd hlb cd;refine X0<|X3<|X0<|X1 ?_;refine XL [0,5,6,8,26,27,28] (fun(z:Bool)=>[(36,.v (lb z))]) (fun(z:Bool)=>[(5,.box [.own 900001]),(1006,.row 3 1 (XB out)),(900001,.mp (mpZ M))]) (fun(z:Bool)=>z=decide (QF steps x∈M)) ?_ ?_
   · by_cases hin:QF steps x∈M
     · rw[if_pos hin]at hfd;refine Q7 [⟨true,.v (li (QF steps x)),none⟩] (by kernel_rfl) (by kernel_rfl) (by rfl) (by simp[hfd];first|exact⟨rfl,Iff.rfl⟩|exact⟨rfl,trivial⟩|rfl) ?_ ?_
       · first|exact cx _|simpa using cx _
       exact⟨_,rfl,Xu (fun n=>n) [] rfl (by simp[upS,X6,hin]) (by simp[upS]) (by simp[upS])⟩
     rw[if_neg hin]at hfd;refine Q7 [⟨true,.v (li (QF steps x)),none⟩] (by kernel_rfl) (by kernel_rfl) (by rfl) (by simp[hfd];first|exact⟨rfl,Iff.rfl⟩|exact⟨rfl,trivial⟩|rfl) ?_ ?_
     · first|exact cx _|simpa using cx _
     exact⟨_,rfl,Xu (fun n=>n) [] rfl (by simp[upS,X6,hin]) (by simp[upS]) (by simp[upS])⟩
   rintro z hz;simp only[upS,X6,Xw]
   try simp only[X6,KN,Nat.reduceBEq,if_true,if_false,ins,Nat.reduceLT]
   refine(Xc rfl (fun h10=>?_) fun h10=>?_)
   · (try simp only[BN]at h10);have hzt:z=true:=by simpa using h10
     rw[List.filter_cons,if_pos (by rw[←hz,hzt])]at hJ;clear hz h10 hfd cx;refine X1 ?_;refine X1 ?_;exact⟨(k+1,out++[x]),⟨hk1,by simpa using hJ,by simp;omega⟩,by simp only;omega,X4 (fun n=>if n=1006 then 40 else n) []⟩
   (try simp only[BN]at h10);have hzt:z=false:=by simpa using h10
   rw[List.filter_cons,if_neg (by rw[←hz,hzt];simp)]at hJ;clear hz h10 hfd cx;refine X1 ?_;exact⟨(k+1,out),⟨hk1,hJ,by simp only;omega⟩,by simp only;omega,X4 (fun n=>n) []⟩
 try simp only[BN]at h7
 have hkl:k=l.length:=by
  have:¬k<l.length:=by simpa using h7
  omega
 subst hkl;simp only[List.drop_length,List.filter_nil,List.append_nil]at hJ;subst hJ;clear h7;refine(Xf ?_);refine Xz (XO 1006 rfl) ?_;refine X2 ?_;exact XR ⟨.inr rfl,_,le_refl _,⟨⟨_,by simp;rfl,by simp[XK]⟩,by simp,fun h=>by cases h⟩⟩
end Go.Proofs.YtppjennamodfdaaGreat
