/- Part 9: contracts of functions of the program and of the reference, and plain facts about what they compute; used by the proof of the claimed statement. Conditions: as each theorem states. -/
import Derived.Test.YtppjennamodfdaaGreatK8
import Derived.Test.YtppjennamodfdaaGreatHmZL
set_option linter.unusedSimpArgs false
set_option linter.unusedVariables false
set_option linter.unnecessarySimpa false
set_option maxRecDepth 100000
set_option maxHeartbeats 2000000
namespace Go.Proofs.YtppjennamodfdaaGreat
open Go Go.Hl
def mpZ (l:List Int):List (Value×CD):=l.map fun d=>(.int .i64 d,bC true)
@[simp] theorem len_mpZ (l:List Int):(mpZ l).length=l.length:=by simp[mpZ]
theorem get_mpZ {l:List Int} {j:Nat} {k:Value} {v:CD} (h:(mpZ l)[j]? =some (k,v)):∃d:Int,l[j]? =some d∧k=.int .i64 d∧v=bC true:=by
 simp only[mpZ,List.getElem?_map,Option.map_eq_some_iff]at h;obtain⟨d,hd,he⟩:=h;cases he;exact⟨d,hd,rfl,rfl⟩
theorem same_i64 (a b:Int):Instr.sameNow (.int .i64) (.int .i64 a) (.int .i64 b)=some (decide (a=b)):=by
 have h2:(a==b)=decide (a=b):=by
  rw[Bool.eq_iff_iff];simp only[beq_iff_eq,decide_eq_true_eq]
 simp[Instr.sameNow,h2]
theorem find_mpZ (d:Int):∀l:List Int,findM (.int .i64) (.int .i64 d) (mpZ l)=some (if d∈l then some (bC true)else none)
 |[]=>rfl
 | k::l=>by
   have e:mpZ (k::l)=(.int .i64 k,bC true)::mpZ l:=rfl;rw[e];unfold findM;rw[same_i64];by_cases hk:d=k
   · subst hk;simp
   simp only[hk,decide_false,List.mem_cons,false_or];exact find_mpZ d l
theorem set_mpZ (d:Int):∀l:List Int,d∈l→setM (.int .i64) (.int .i64 d) (bC true) (mpZ l)=some (mpZ l)
 |[],h=>by cases h
 | k ::l,h=>by
   have e:mpZ (k::l)=(.int .i64 k,bC true)::mpZ l:=rfl;rw[e];unfold setM;rw[same_i64];by_cases hk:d=k
   · subst hk;have:Instr.sameBits 10000 (.int .i64 d) (.int .i64 d)=true:=by simp[Instr.sameBits]
     simp[this]
   simp only[hk,decide_false];rcases List.mem_cons.1 h with h|h
   · exact absurd h hk
   rw[set_mpZ d l h];rfl
def addK (m:List Int) (v:Int):List Int:=if v∈m then m else m++[v]
theorem mpZ_snoc (m:List Int) (v:Int):mpZ m++[(.int .i64 v,bC true)]=mpZ (m++[v]):=by simp[mpZ]
def mapO (m:List Int):List (Nat×Ob):=[(900001,.mp (mpZ m)),(1000000,.box [.own 900001])]
theorem map_pin {m:List Int}:∀n cs,lkp (mapO m) n=some (.box cs)→1000000≤n:=by
 intro n cs h;simp only[mapO,lkp]at h
 repeat' split at h
 all_goals first|omega|cases h
attribute [simp] mapO
def putC (c:FuncId):Prop:=∀(m:List Int) (v:Int),ConN Tryz.prog c none (mapO m) [li v,.one (.at_ 1000000 0)] (fun _:Unit=>True) (fun _=>.tup []) (fun _=>mapO (addK m v))
theorem put1_con:putC 83:=by
 intro m v;refine con_n_of_HT Tryz.func83 rfl (by kernel_rfl) (Nat.le_of_ble_eq_true rfl) map_pin (fun v h=>by cases h) ?_;simp only[Tryz.f83,mapO];have hf:=find_mpZ v m;unfold addK;by_cases h:v∈m
 · rw[if_pos h]at hf⊢;have hs:=set_mpZ v m h;refine HT_runA ?_;exact⟨.inl rfl,(),trivial,_,le_refl _,⟨[],rfl,rfl⟩,fun n o h=>h⟩
 rw[if_neg h]at hf⊢;have hs:=mpZ_snoc m v;refine HT_runA ?_;exact⟨.inl rfl,(),trivial,_,le_refl _,⟨[],rfl,rfl⟩,fun n o h=>h⟩
theorem put2_con:putC 55:=by
 intro m v;refine con_n_of_HT Tryz.func55 rfl (by kernel_rfl) (Nat.le_of_ble_eq_true rfl) map_pin (fun v h=>by cases h) ?_;simp only[Tryz.f55,mapO];have hf:=find_mpZ v m;unfold addK;by_cases h:v∈m
 · rw[if_pos h]at hf⊢;have hs:=set_mpZ v m h;refine HT_runA ?_;exact⟨.inl rfl,(),trivial,_,le_refl _,⟨[],rfl,rfl⟩,fun n o h=>h⟩
 rw[if_neg h]at hf⊢;have hs:=mpZ_snoc m v;refine HT_runA ?_;exact⟨.inl rfl,(),trivial,_,le_refl _,⟨[],rfl,rfl⟩,fun n o h=>h⟩
mutual
def vrT:Tm→List Int→List Int
 | .mk o n ks,m=>vrTs ks (if o=24 then addK m n else m)
def vrTs:List Tm→List Int→List Int
 |[],m=>m
 |t::l,m=>vrTs l (vrT t m)
end
theorem variables_con {c:FuncId} (hc:putC c) (t:Tm):t.nodes≤1000000→∀m:List Int,ConN Tryz.prog 54 none (mapO m) [aT t,.one (.fn c [(1000000,0)])] (fun _:Unit=>True) (fun _=>.tup []) (fun _=>mapO (vrT t m)):=by
 revert t
 refine Tm.ind ?_;intro o n ks ih hn m;simp only[Tm.nodes]at hn;have hlen:=len_nodesT ks;obtain⟨R,hR⟩:∃x,vrT (.mk o n ks) m=x:=⟨_,rfl⟩;rw[hR];simp only[vrT]at hR;simp only[aT,Tm.enc,List.map_cons,List.map_nil];refine con_n_of_HT Tryz.func54 rfl (by kernel_rfl) (Nat.le_of_ble_eq_true rfl) map_pin (fun v h=>by cases h) ?_;simp only[Tryz.f54];refine HT_sA ?_;refine(HT_cutU [1,2] (fun(z:Unit)=>[]) (fun(z:Unit)=>(2,.box [.c (iC o),.c (iC n),.c (.sl 3 (encTs ks))])::mapO (if o=24 then addK m n else m)) (fun(z:Unit)=>True) ?_ ?_)
 ·
  refine HT_sA ?_;refine(HT_cs rfl (fun h3=>?_) fun h3=>?_)
  · (try simp only[BN]at h3);have ho:o=24:=by simpa using h3
    have cc:=hc m n;rw[if_pos ho];clear h3 ho hR;refine(HT_runsN ?_);refine RunsN.cutE 3 [] (by simp;rfl) trivial (le_refl _) ?_;refine RunsN.callA (fun n=>n) (fun n=>if n=900001 then 20 else n) cc fun _ _=>?_;refine RunsN.doneE [] rfl trivial ?_;exact⟨(),trivial,le_mk (fun n=>if n=900001 then 20 else n) [] rfl (by simp[upS,keepS,addS,dels,del,ins,CV.ren,Ob.ren]) (by simp[upS,addS,dels,del,ins,CV.ren,Ob.ren]) (by simp[upS])⟩
  (try simp only[BN]at h3);have ho:¬o=24:=by simpa using h3
  rw[if_neg ho];clear h3 ho hR;exact⟨(),trivial,le_mk (fun n=>n) [] rfl (by simp[upS,keepS]) (by simp[upS]) (by simp[upS])⟩
 rintro⟨⟩ hz;simp only[upS,keepS,insS]
 try simp only[keepS,KN,Nat.reduceBEq,if_true,if_false,ins,Nat.reduceLT]
 obtain⟨m0,hm0⟩:∃x,(if o=24 then addK m n else m)=x:=⟨_,rfl⟩;rw[hm0]at hR⊢;clear hm0;refine HT_sA ?_;refine HT_block<|(HT_loopU [1,14,15] (fun(y:Nat×List Int)=>[(16,.v (li y.1))]) (fun y=>mapO y.2) (fun y=>y.1≤ks.length∧vrTs (ks.drop y.1) y.2=R) (fun y=>ks.length - y.1) (0,m0) ⟨Nat.zero_le _,hR⟩ ?_ ?_)
 · exact le_mkA (fun n=>n) []
 rintro⟨k,m1⟩ ⟨hk,hJ⟩;simp only[upS,keepS,insS]
 try simp only[keepS,KN,Nat.reduceBEq,if_true,if_false,ins,Nat.reduceLT]
 simp only at hk hJ;clear hR;refine HT_sA ?_;refine HT_seq<|(HT_cond rfl (fun h10=>HT_skip ?_) (fun h10=>?_))
 · (try simp only[BN]at h10);have hlt:k<ks.length:=by simpa using h10
   obtain⟨t,he,hd⟩:=at_lt hlt;have hw1:=wrap1 hlt (by omega);have hk1:k+1≤ks.length:=hlt;have hmem:t∈ks:=List.mem_of_getElem? he;have hnm:=nodesT_mem' hmem;have ct:=ih t hmem (by omega) m1;rw[hd]at hJ;simp only[vrTs]at hJ;have he':=get_encT he;obtain⟨M,hM⟩:∃x,vrT t m1=x:=⟨_,rfl⟩;rw[hM]at ct hJ;obtain⟨so,stn,sks⟩:=t;simp only[Tm.enc]at he';simp only[aT,Tm.enc,List.map_cons,List.map_nil]at ct;clear hlt h10 ih hmem hnm he hd hM;refine HT_seq<|HT_block<|HT_seq<|HT_runA ?_;refine(HT_runsN ?_);refine RunsN.cutE 2 [] (by simp;rfl) trivial (le_refl _) ?_;refine RunsN.callA (fun n=>n) (fun n=>if n=900001 then 20 else n) ct fun _ _=>?_;refine RunsN.doneE [] rfl trivial ?_;refine HT_le (s':=⟨⟨24,none⟩,[(1,.v (.one (.fn c [(1000000,0)]))),(14,.v (.one (.c (.sl 3 (encTs ks))))),(15,.v (li ks.length)),(16,.v (li k))],mapO M⟩) (le_mk (fun n=>if n=900001 then 20 else n) [] rfl (by simp[addS,dels,del,ins,CV.ren,Ob.ren]) (by simp[addS,dels,del,ins,CV.ren,Ob.ren]) (by simp)) ?_;refine HT_runA ?_;exact⟨(k+1,M),⟨hk1,hJ⟩,by simp only;omega,le_mkA (fun n=>n) []⟩
 try simp only[BN]at h10
 have hkl:k=ks.length:=by
  have:¬k<ks.length:=by simpa using h10
  omega
 subst hkl;simp only[List.drop_length,vrTs]at hJ;subst hJ;refine(HT_exit ?_);exact⟨.inl rfl,(),trivial,_,le_refl _,⟨[],rfl,rfl⟩,fun n o h=>h⟩
end Go.Proofs.YtppjennamodfdaaGreat

namespace Go.Proofs.YtppjennamodfdaaGreat
open Go Go.Hl
@[simp] theorem mpZ_nil:mpZ []=[]:=rfl
abbrev tabD (f:Fl) (steps:List St) (ar:List Int) (rd:List (List Nat)):CD:=.ptr [.sl 5 (encVs f.vars),.sl 6 (encHs f.hats),.sl 10 (encSs f.body),.sl 10 (encSs steps),.sl 1 (encIs ar),.sl 1 (encDD rd)]
theorem defined_con (f:Fl) (steps:List St) (ar:List Int) (rd:List (List Nat)) (n:Nat) (hn:n≤1000000) (hl:steps.length≤1000000) (d:Nat):Con Tryz.prog 84 true [.one (.c (tabD f steps ar rd)),li n] (.v (li (varOf steps n))) none d:=by
 obtain⟨res,hres⟩:∃x,varOf steps n=x:=⟨_,rfl⟩;rw[hres];refine con_of_HTA Tryz.func84 ?_;simp only[Tryz.f84];refine HT_sA ?_;refine HT_seq<|HT_seq<|HT_runA ?_;refine(HT_cs rfl (fun h2=>?_) fun h2=>?_)
 · (try simp only[BN]at h2);have hge:steps.length≤n:=by simpa using h2
   rw[varOf_ge hge]at hres;have hw:IntKind.i64.wrap ((n:Int) - steps.length)=(n:Int) - steps.length:=wrap_in (by omega) (by omega);clear h2;refine HT_sA ?_;exact HT_rA
 (try simp only[BN]at h2);have hlt:n<steps.length:=by simpa using h2
 obtain⟨s,he,_⟩:=at_lt hlt;have he':=get_encS he;rw[varOf_lt s he]at hres;obtain⟨so,sc,sv,sn,⟨to,tn,tk⟩,sa,sb,sbs⟩:=s;simp only[St.enc,Tm.enc,List.cons_append,List.nil_append]at he';simp only[St.var]at hres;clear h2 he hlt;refine HT_sA ?_;exact HT_rA
def srcF (steps:List St) (q:St) (l:List Nat):List Nat:=l.filter fun d=>decide (varOf steps d∈vrT q.term [])
theorem sources_con (f:Fl) (steps:List St) (ar:List Int) (rd:List (List Nat)) (s:Nat) (q:St) (l:List Nat) (hq:steps[s]? =some q) (hr:rd[s]? =some l) (hqn:q.term.nodes≤1000000) (hl:l.length≤5000) (hlb:∀d∈l,d≤1000000) (hs:steps.length≤1000000) (d:Nat):
  Con Tryz.prog 53 false [.one (.c (tabD f steps ar rd)),li s] (.v (.one (.c (.sl 1 (encD (srcF steps q l)))))) none d:=by
 have cv:=variables_con put1_con q.term hqn [];have cd:=fun n hn=>defined_con f steps ar rd n hn hs;obtain⟨res,hres⟩:∃x,srcF steps q l=x:=⟨_,rfl⟩;rw[hres];unfold srcF at hres;obtain⟨M,hM⟩:∃x,vrT q.term []=x:=⟨_,rfl⟩;rw[hM]at hres cv;have he':=get_encS hq;have hr':=get_encDD hr;obtain⟨so,sc,sv,sn,⟨to,tn,tk⟩,sa,sb,sbs⟩:=q;simp only[St.enc,Tm.enc,List.cons_append,List.nil_append]at he';simp only[St.term,aT,Tm.enc,List.map_cons,List.map_nil]at cv;clear hM hq hr hqn;refine con_of_HTA Tryz.func53 ?_;simp only[Tryz.f53];refine HT_sA ?_;refine HT_sA ?_;refine HT_seq<|(HT_runsN ?_);refine RunsN.cutE 9 [] (by simp[*];rfl) trivial (le_refl _) ?_;refine RunsN.callA (fun n=>if n=1000000 then 5 else if n=900001 then 9 else n) (fun n=>if n=1000000 then 5 else if n=900001 then 19 else n) cv fun _ _=>?_;refine RunsN.doneE [] rfl trivial ?_;refine HT_le (s':=⟨⟨43,none⟩,[(0,.v (.one (.c (tabD f steps ar rd)))),(1,.v (li s)),(5,.v (.one (.at_ 5 0)))],[(5,.box [.own 900001]),(900001,.mp (mpZ M))]⟩) (le_mk (fun n=>if n=900001 then 19 else n) [] rfl (by simp[addS,dels,del,ins,CV.ren,Ob.ren]) (by simp[addS,dels,del,ins,CV.ren,Ob.ren]) (by simp)) ?_;refine HT_sA ?_;refine HT_seq<|HT_seq<|HT_runA ?_;refine HT_block<|(HT_loopU [0,5,26,27] (fun(y:Nat×List Nat)=>[(6,.v (.one (.own 1006))),(28,.v (li y.1))]) (fun y=>[(5,.box [.own 900001]),(1006,.row 3 1 (encD y.2)),(900001,.mp (mpZ M))]) (fun y=>y.1≤l.length∧y.2++(l.drop y.1).filter (fun d=>decide (varOf steps d∈M))=res∧y.2.length≤y.1) (fun y=>l.length - y.1) (0,[]) ⟨Nat.zero_le _,by simpa using hres,Nat.le_refl _⟩ ?_ ?_)
 · exact le_mkA (fun n=>n) [1006]
 rintro⟨k,out⟩ ⟨hk,hJ,hol⟩;simp only[upS,keepS,insS]
 try simp only[keepS,KN,Nat.reduceBEq,if_true,if_false,ins,Nat.reduceLT]
 simp only at hk hJ hol;clear hres;refine HT_sA ?_;refine HT_seq<|(HT_cond rfl (fun h7=>HT_skip ?_) (fun h7=>?_))
 · (try simp only[BN]at h7);have hlt:k<l.length:=by simpa using h7
   obtain⟨x,he,hd⟩:=at_lt hlt;have hw1:=wrap1 hlt (by omega);have hk1:k+1≤l.length:=hlt;have hx:=hlb x (List.mem_of_getElem? he);have cx:=cd x hx;have hxe:(encD l)[k]? =some [iC x]:=by simp[encD,he]
   have hfd:=find_mpZ (varOf steps x) M;have hroom:room (out.length+1) 8:=room_of (by omega) (by decide);rw[hd]at hJ;clear hlt h7 he hd hlb cd;refine HT_seq<|HT_block<|HT_seq<|HT_runA ?_;refine HT_cutU [0,5,6,8,26,27,28] (fun(z:Bool)=>[(36,.v (lb z))]) (fun(z:Bool)=>[(5,.box [.own 900001]),(1006,.row 3 1 (encD out)),(900001,.mp (mpZ M))]) (fun(z:Bool)=>z=decide (varOf steps x∈M)) ?_ ?_
   · by_cases hin:varOf steps x∈M
     · rw[if_pos hin]at hfd;refine HT_drunc [⟨true,.v (li (varOf steps x)),none⟩] (by kernel_rfl) (by kernel_rfl) (by rfl) (by simp[hfd];first|exact⟨rfl,Iff.rfl⟩|exact⟨rfl,trivial⟩|rfl) ?_ ?_
       · first|exact cx _|simpa using cx _
       exact⟨_,rfl,le_mk (fun n=>n) [] rfl (by simp[upS,keepS,hin]) (by simp[upS]) (by simp[upS])⟩
     rw[if_neg hin]at hfd;refine HT_drunc [⟨true,.v (li (varOf steps x)),none⟩] (by kernel_rfl) (by kernel_rfl) (by rfl) (by simp[hfd];first|exact⟨rfl,Iff.rfl⟩|exact⟨rfl,trivial⟩|rfl) ?_ ?_
     · first|exact cx _|simpa using cx _
     exact⟨_,rfl,le_mk (fun n=>n) [] rfl (by simp[upS,keepS,hin]) (by simp[upS]) (by simp[upS])⟩
   rintro z hz;simp only[upS,keepS,insS]
   try simp only[keepS,KN,Nat.reduceBEq,if_true,if_false,ins,Nat.reduceLT]
   refine(HT_cs rfl (fun h10=>?_) fun h10=>?_)
   · (try simp only[BN]at h10);have hzt:z=true:=by simpa using h10
     rw[List.filter_cons,if_pos (by rw[←hz,hzt])]at hJ;clear hz h10 hfd cx;refine HT_runA ?_;refine HT_runA ?_;exact⟨(k+1,out++[x]),⟨hk1,by simpa using hJ,by simp;omega⟩,by simp only;omega,le_mkA (fun n=>if n=1006 then 40 else n) []⟩
   (try simp only[BN]at h10);have hzt:z=false:=by simpa using h10
   rw[List.filter_cons,if_neg (by rw[←hz,hzt];simp)]at hJ;clear hz h10 hfd cx;refine HT_runA ?_;exact⟨(k+1,out),⟨hk1,hJ,by simp only;omega⟩,by simp only;omega,le_mkA (fun n=>n) []⟩
 try simp only[BN]at h7
 have hkl:k=l.length:=by
  have:¬k<l.length:=by simpa using h7
  omega
 subst hkl;simp only[List.drop_length,List.filter_nil,List.append_nil]at hJ;subst hJ;clear h7;refine(HT_exit ?_);refine HT_le (le_frz 1006 rfl) ?_;refine HT_sA ?_;exact HT_ret ⟨.inr rfl,_,le_refl _,⟨⟨_,by simp;rfl,by simp[resR]⟩,by simp,fun h=>by cases h⟩⟩
end Go.Proofs.YtppjennamodfdaaGreat

namespace Go.Proofs.YtppjennamodfdaaGreat
open Go Go.Hl
def dirAt (steps:List St) (ar:List Int) (rd:List (List Nat)) (s:Nat):List Nat:=match steps[s]?,ar[s]?,rd[s]? with
 |some q,some a,some l=>(if 0≤a then [a.toNat] else [])++(srcF steps q l).filter fun d=>decide (d<steps.length)
 |_,_,_=>[]
def dirF (steps:List St) (ar:List Int) (rd:List (List Nat)):List (List Nat):=(List.range steps.length).map (dirAt steps ar rd)
structure TabOK (steps:List St) (ar:List Int) (rd:List (List Nat)):Prop where
 hn:steps.length≤1000
 har:ar.length=steps.length
 hrd:rd.length=steps.length
 nod:∀s∈steps,s.term.nodes≤1000000
 rdl:∀l∈rd,l.length≤5000∧∀d∈l,d≤1000000
theorem matY_free0 {R:List (Option (List (List CD)))} {y:Nat} (h:R[y]? =some none):freeAt R y=true:=by
 unfold freeAt;rw[h]
set_option maxHeartbeats 8000000 in
theorem direct_con (f:Fl) (steps:List St) (ar:List Int) (rd:List (List Nat)) (hT:TabOK steps ar rd) (d:Nat):
  Con Tryz.prog 46 false [.one (.c (tabD f steps ar rd))] (.v (.one (.c (.sl 1 (encDD (dirF steps ar rd)))))) none d:=by
 obtain⟨hn,hal,hrl,hnod,hrdl⟩:=hT;have hDl:(dirF steps ar rd).length=steps.length:=by simp[dirF]
 have hDg:∀s,s<steps.length→(dirF steps ar rd)[s]? =some (dirAt steps ar rd s):=fun s hs=>by simp[dirF,hs]
 have csr:=sources_con f steps ar rd;obtain⟨D,hD⟩:∃x,dirF steps ar rd=x:=⟨_,rfl⟩;rw[hD]at hDl hDg⊢;have hbig:(24:Int)*steps.length≤281474976710656:=by omega
 have hmx:steps.length≤maxLen:=by unfold maxLen;omega
 clear hD;refine con_of_HTA Tryz.func46 ?_;simp only[Tryz.f46];refine HT_sA ?_;refine HT_sA ?_;refine HT_le (le_mat 12 3 1 (by decide) (by decide) rfl rfl rfl) ?_;refine HT_seq<|HT_seq<|HT_runA ?_;refine HT_block<|(HT_loopU [0,3,17] (fun(y:Nat)=>[(18,.v (li y))]) (fun y=>[(12,.mat 27 3 1 (rwI D y steps.length))]) (fun y=>y≤steps.length) (fun y=>steps.length - y) (0:Nat) (Nat.zero_le _) ?_ ?_)
 · exact le_mk (fun n=>n) [] rfl (by simp[*,upS,keepS]) (by simp[*,upS,rwI_zero]) (by simp[upS])
 rintro y hy;simp only[upS,keepS,insS]
 try simp only[keepS,KN,Nat.reduceBEq,if_true,if_false,ins,Nat.reduceLT]
 refine HT_sA ?_;refine HT_seq<|(HT_cond rfl (fun h5=>HT_skip ?_) (fun h5=>?_))
 · (try simp only[BN]at h5);have hlt:y<steps.length:=by simpa using h5
   have hw1:=wrap1 hlt (by omega);have hk1:y+1≤steps.length:=hlt;obtain⟨q,hq,_⟩:=at_lt hlt;obtain⟨a,ha,_⟩:=at_lt (show y<ar.length by omega);obtain⟨l,hl,_⟩:=at_lt (show y<rd.length by omega);have hlm:=hrdl l (List.mem_of_getElem? hl);have cs:=csr y q l hq hl (hnod q (List.mem_of_getElem? hq)) hlm.1 hlm.2 (by omega);have hDy:=hDg y hlt;have hdir:dirAt steps ar rd y=(if 0≤a then [a.toNat] else [])++(srcF steps q l).filter fun d=>decide (d<steps.length):=by simp[dirAt,hq,ha,hl]
   rw[hdir]at hDy;have hSl:(srcF steps q l).length≤5000:=Nat.le_trans (List.length_filter_le _ _) hlm.1;obtain⟨SL,hSL⟩:∃x,srcF steps q l=x:=⟨_,rfl⟩;rw[hSL]at cs hDy hSl;have hget:=rwI_get hlt hDl;have hRs:=rwI_set hDy hlt hDl;have hRl:y+1≤(rwI D y steps.length).length:=by rw[rwI_len hy hDl];exact hlt
   obtain⟨R,hR⟩:∃x,rwI D y steps.length=x:=⟨_,rfl⟩;rw[hR]at hget hRs hRl⊢;have hfr:=matY_free0 hget;clear hlt h5 hq hl hlm hdir hDy hSL hR;refine HT_seq<|HT_block<|HT_seq<|HT_runA ?_;refine(HT_cutU [0,3,4,17,18] (fun(z:List Nat)=>[]) (fun(z:List Nat)=>[(12,.mat 27 3 1 (matY R y z))]) (fun(z:List Nat)=>z=if 0≤a then [a.toNat] else []) ?_ ?_)
   ·
    refine HT_sA ?_;refine(HT_cs rfl (fun h9=>?_) fun h9=>?_)
    · (try simp only[BN]at h9);have hap:0≤a:=by simpa using h9
      obtain⟨m,rfl⟩:=Int.eq_ofNat_of_zero_le hap;have hz1:R.set y (some [[iC (m:Int)]])=matY R y [m]:=rfl;have hroom:room 1 8:=room_of (by omega) (by decide);clear h9;refine(HT_drun (by kernel_rfl) (by kernel_rfl) (by rfl) (by simp[*];rfl) ?_);exact⟨[m],by simp,le_mkA (fun n=>n) []⟩
    (try simp only[BN]at h9);have hap:¬0≤a:=by simpa using h9
    have hz1:=matY_zero hget;clear h9;exact⟨[],by simp[hap],le_mkA (fun n=>n) []⟩
   rintro z hz;simp only[upS,keepS,insS]
   try simp only[keepS,KN,Nat.reduceBEq,if_true,if_false,ins,Nat.reduceLT]
   have hzl:z.length≤1:=by rw[hz];split<;>simp
   rw[←hz]at hRs;clear hz hget hfr ha;refine HT_scA [⟨false,.v (.one (.c (.sl 1 (encD SL)))),none⟩] ?_ ?_
   · first|exact cs _|exact trivial|simpa[*]using cs _
   refine HT_block<|(HT_loopU [0,3,4,17,18,47,48] (fun(u:Nat×List Nat)=>[(49,.v (li u.1))]) (fun u=>[(12,.mat 27 3 1 (matY R y u.2))]) (fun u=>u.1≤SL.length∧u.2++(SL.drop u.1).filter (fun d=>decide (d<steps.length))=z++SL.filter (fun d=>decide (d<steps.length))∧u.2.length≤u.1+1) (fun u=>SL.length - u.1) (0,z) ⟨Nat.zero_le _,rfl,hzl⟩ ?_ ?_)
   · exact le_mkA (fun n=>n) []
   rintro⟨j,out⟩ ⟨hj,hJ,hol⟩;simp only[upS,keepS,insS]
   try simp only[keepS,KN,Nat.reduceBEq,if_true,if_false,ins,Nat.reduceLT]
   simp only at hj hJ hol;refine HT_sA ?_;refine HT_seq<|(HT_cond rfl (fun h16=>HT_skip ?_) (fun h16=>?_))
   · (try simp only[BN]at h16);have hjl:j<SL.length:=by simpa using h16
     have hwj:=wrap1 hjl (by omega);have hj1:j+1≤SL.length:=hjl;obtain⟨x,hx,hxd⟩:=at_lt hjl;have hxe:(encD SL)[j]? =some [iC x]:=by simp[encD,hx]
     rw[hxd]at hJ;clear hjl h16 hx hxd cs csr hDg;refine HT_seq<|HT_block<|HT_seq<|HT_runA ?_;refine HT_sA ?_;refine(HT_cs rfl (fun h19=>?_) fun h19=>?_)
     · (try simp only[BN]at h19);have hxn:x<steps.length:=by simpa using h19
       rw[List.filter_cons,if_pos (by simpa using hxn)]at hJ;have hJ2:out++[x]++(SL.drop (j+1)).filter (fun d=>decide (d<steps.length))=z++SL.filter (fun d=>decide (d<steps.length)):=by simpa using hJ
       clear h19 hJ hxn;cases out with
       | nil=>
         have g1:=matY_get hRl [];have g2:=matY_free hRl;have g3:=matY_snoc R y [] [] x;have hroom:room 1 8:=room_of (by omega) (by decide);simp only[optR,if_true]at g1;simp only[encD_nil,List.nil_append]at g3;refine HT_run (by simp[g1,g2,g3,hRl,hroom];rfl) ?_;refine HT_run (by simp[hwj];rfl) ?_;exact⟨(j+1,[x]),⟨hj1,by simpa using hJ2,by simp⟩,by simp only;omega,le_mk (fun n=>n) [] rfl (by simp[upS,keepS]) (by simp[upS]) (by simp[upS])⟩
       | cons a0 o=>
         have g1:=matY_get hRl (a0::o);have g3:=matY_snoc R y (a0::o) (a0::o) x;have hroom:room ((a0::o).length+1) 8:=room_of (by omega) (by decide);simp only[optR,List.cons_ne_nil,if_false]at g1;rw[List.length_cons]at hroom;refine HT_runsN ?_;refine RunsN.cutE 8 [] (by simp[g1,hRl];rfl) trivial (le_refl _) ?_;refine RunsN.matA (by simp[matAP,neT,g1,g3,hroom];rfl) ?_;refine RunsN.doneE [] rfl trivial ?_;refine HT_le (s':=⟨⟨73,none⟩,[(0,.v (.one (.c (tabD f steps ar rd)))),(3,.v (.one (.own 12))),(4,.v (li y)),(17,.v (li steps.length)),(18,.v (li y)),(47,.v (.one (.c (.sl 1 (encD SL))))),(48,.v (li SL.length)),(49,.v (li j))],[(12,.mat 27 3 1 (matY R y (a0::o++[x])))]⟩) (le_mk (fun n=>if n=12 then 68 else n) [] rfl (by simp[mapL,RV.mv,TV.mv,CV.mv]) (by simp[mapL,Ob.mv,CV.mv]) (by simp)) ?_;refine HT_run (by simp[hwj];rfl) ?_;exact⟨(j+1,a0::o++[x]),⟨hj1,hJ2,by simp only[List.length_append,List.length_singleton];omega⟩,by simp only;omega,le_mk (fun n=>n) [] rfl (by simp[upS,keepS]) (by simp[upS]) (by simp[upS])⟩
     (try simp only[BN]at h19);have hxn:¬x<steps.length:=by simpa using h19
     rw[List.filter_cons,if_neg (by simpa using hxn)]at hJ;clear h19 hxn;refine HT_runA ?_;exact⟨(j+1,out),⟨hj1,hJ,by simp only;omega⟩,by simp only;omega,le_mkA (fun n=>n) []⟩
   try simp only[BN]at h16
   have hjl:j=SL.length:=by
    have:¬j<SL.length:=by simpa using h16
    omega
   subst hjl;simp only[List.drop_length,List.filter_nil,List.append_nil]at hJ;rw[←hJ]at hRs;have hfin:matY R y out=rwI D (y+1) steps.length:=hRs;clear h16 cs hJ hRs;refine(HT_exit ?_);refine HT_runA ?_;exact⟨y+1,hk1,by omega,le_mkA (fun n=>n) []⟩
 try simp only[BN]at h5
 have hyn:y=steps.length:=by
  have:¬y<steps.length:=by simpa using h5
  omega
 subst hyn;have hend:=rwI_end hDl;clear hDg csr;refine(HT_exit ?_);refine HT_sA ?_;refine HT_le (le_frzM0 12 rfl) ?_;exact HT_ret ⟨.inr rfl,_,le_refl _,⟨_,by simp[HS.frz,mapL,RV.frz,TV.frz,CV.frz];rfl,by simp[resR,hend]⟩,by simp,fun h=>by cases h⟩
end Go.Proofs.YtppjennamodfdaaGreat

namespace Go.Proofs.YtppjennamodfdaaGreat
open Go Go.Hl
def revIn (s:Nat):List Nat→List (List Nat)→List (List Nat)
 |[],M=>M
 |d::l,M=>revIn s l (M.set d ((M[d]?.getD [])++[s]))
def revL:List (List Nat)→Nat→List (List Nat)→List (List Nat)
 |[],_,M=>M
 |l::L,s,M=>revL L (s+1) (revIn s l M)
def revF (L:List (List Nat)):List (List Nat):=revL L 0 (List.replicate L.length [])
def rwA (M:List (List Nat)):List (Option (List (List CD))):=M.map optR
@[simp] theorem rwA_len (M:List (List Nat)):(rwA M).length=M.length:=by simp[rwA]
theorem rwA_get {M:List (List Nat)} {d:Nat} {l:List Nat} (h:M[d]? =some l):(rwA M)[d]? =some (optR l):=by simp[rwA,h]
theorem rwA_set (M:List (List Nat)) (d:Nat) (l:List Nat) (s:Nat):(rwA M).set d (some (encD l++[[iC s]]))=rwA (M.set d (l++[s])):=by
 simp[rwA,List.map_set,optR]
theorem rwA_zero (n:Nat):rwA (List.replicate n [])=List.replicate n none:=by simp[rwA,optR]
theorem rwA_end (M:List (List Nat)):(rwA M).map (fun r=>[CD.sl 1 (r.getD [])])=encDD M:=by
 unfold rwA encDD;rw[List.map_map];refine List.map_congr_left fun l _=>?_;unfold optR;simp only[Function.comp];split
 · rename_i h;subst h;rfl
 rfl
def lenB (M:List (List Nat)) (b:Nat):Prop:=∀m∈M,m.length≤b
theorem lenB.set {M:List (List Nat)} {b d:Nat} {l:List Nat} (h:lenB M b) (hl:M[d]? =some l) (s:Nat):lenB (M.set d (l++[s])) (b+1):=by
 intro m hm;rcases List.mem_or_eq_of_mem_set hm with hm|rfl
 · have:=h m hm;omega
 have:=h l (List.mem_of_getElem? hl);simp only[List.length_append,List.length_singleton];omega
set_option maxHeartbeats 8000000 in
theorem reversed_con (L:List (List Nat)) (hn:L.length≤1000) (hl:∀l∈L,l.length≤6000∧∀d∈l,d<L.length) (d:Nat):Con Tryz.prog 47 false [.one (.c (.sl 1 (encDD L)))] (.v (.one (.c (.sl 1 (encDD (revF L)))))) none d:=by
 obtain⟨res,hres⟩:∃x,revF L=x:=⟨_,rfl⟩;rw[hres];unfold revF at hres;have hbig:(24:Int)*L.length≤281474976710656:=by omega
 have hmx:L.length≤maxLen:=by unfold maxLen;omega
 refine con_of_HTA Tryz.func47 ?_;simp only[Tryz.f47];refine HT_sA ?_;refine HT_sA ?_;refine HT_le (le_mat 10 3 1 (by decide) (by decide) rfl rfl rfl) ?_;refine HT_seq<|HT_seq<|HT_runA ?_;refine HT_block<|(HT_loopU [3,11,12] (fun(u:Nat×List (List Nat))=>[(13,.v (li u.1))]) (fun(u:Nat×List (List Nat))=>[(10,.mat 27 3 1 (rwA u.2))]) (fun(u:Nat×List (List Nat))=>u.1≤L.length∧revL (L.drop u.1) u.1 u.2=res∧u.2.length=L.length∧lenB u.2 (6001*u.1)) (fun(u:Nat×List (List Nat))=>L.length - u.1) (0,List.replicate L.length []) ⟨Nat.zero_le _,by simpa using hres,by simp,fun m hm=>by rw[(List.mem_replicate.1 hm).2];exact Nat.zero_le _⟩ ?_ ?_)
 · exact le_mk (fun n=>n) [] rfl (by simp[*,upS,keepS]) (by simp[*,upS,rwA_zero]) (by simp[upS])
 rintro⟨y,M⟩ ⟨hy,hJ,hMl,hMb⟩;simp only[upS,keepS,insS]
 try simp only[keepS,KN,Nat.reduceBEq,if_true,if_false,ins,Nat.reduceLT]
 simp only at hy hJ hMl hMb;clear hres;refine HT_sA ?_;refine HT_seq<|(HT_cond rfl (fun h5=>HT_skip ?_) (fun h5=>?_))
 · (try simp only[BN]at h5);have hlt:y<L.length:=by simpa using h5
   have hw1:=wrap1 hlt (by omega);have hk1:y+1≤L.length:=hlt;obtain⟨l,hly,hld⟩:=at_lt hlt;have hle:=get_encDD hly;obtain⟨hll,hlb⟩:=hl l (List.mem_of_getElem? hly);rw[hld]at hJ;simp only[revL]at hJ;clear h5 hly hld hl hlt;refine HT_seq<|HT_block<|HT_seq<|HT_runA ?_;refine HT_sA ?_;refine HT_block<|(HT_loopU [3,4,11,12,13,18,19] (fun(u:Nat×List (List Nat))=>[(20,.v (li u.1))]) (fun(u:Nat×List (List Nat))=>[(10,.mat 27 3 1 (rwA u.2))]) (fun(u:Nat×List (List Nat))=>u.1≤l.length∧revL (L.drop (y+1)) (y+1) (revIn y (l.drop u.1) u.2)=res∧u.2.length=L.length∧lenB u.2 (6001*y+u.1)) (fun(u:Nat×List (List Nat))=>l.length - u.1) (0,M) ⟨Nat.zero_le _,by simpa using hJ,hMl,hMb⟩ ?_ ?_)
   · exact le_mkA (fun n=>n) []
   rintro⟨j,M1⟩ ⟨hj,hJ1,hMl1,hMb1⟩;simp only[upS,keepS,insS]
   try simp only[keepS,KN,Nat.reduceBEq,if_true,if_false,ins,Nat.reduceLT]
   simp only at hj hJ1 hMl1 hMb1;clear hJ hMl hMb;refine HT_sA ?_;refine HT_seq<|(HT_cond rfl (fun h10=>HT_skip ?_) (fun h10=>?_))
   · (try simp only[BN]at h10);have hjl:j<l.length:=by simpa using h10
     have hwj:=wrap1 hjl (by omega);have hj1:j+1≤l.length:=hjl;obtain⟨x,hx,hxd⟩:=at_lt hjl;have hxe:(encD l)[j]? =some [iC x]:=by simp[encD,hx]
     have hxn:=hlb x (List.mem_of_getElem? hx);obtain⟨o,ho,_⟩:=at_lt (show x<M1.length by omega);rw[hxd]at hJ1;simp only[revIn,ho,Option.getD_some]at hJ1;have g1:=rwA_get ho;have hol:=hMb1 o (List.mem_of_getElem? ho);have hMb2:=hMb1.set ho y;have hR1:x+1≤M1.length:=by omega
     have g3:=rwA_set M1 x o y;clear hjl h10 hx hxd ho hMb1 hxn;refine HT_seq<|HT_block<|HT_seq<|HT_runA ?_;cases o with
     | nil=>
       have hroom:room 1 8:=room_of (by omega) (by decide);simp only[optR,if_true]at g1;simp only[encD_nil,List.nil_append]at g3;have g2:=matY_free0 g1;refine HT_run (by simp[g1,g2,g3,hR1,hroom];rfl) ?_;refine HT_run (by simp[hwj];rfl) ?_;exact⟨(j+1,M1.set x [y]),⟨hj1,hJ1,by simpa using hMl1,by simpa[Nat.add_assoc]using hMb2⟩,by simp only;omega,le_mk (fun n=>n) [] rfl (by simp[upS,keepS]) (by simp[upS]) (by simp[upS])⟩
     | cons a0 o=>
       have hroom:room (o.length+1+1) 8:=by
        simp only[List.length_cons]at hol;exact⟨by unfold maxLen;omega,by omega⟩
       simp only[optR,List.cons_ne_nil,if_false]at g1;refine HT_runsN ?_;refine RunsN.cutE 8 [] (by simp[g1,hR1];rfl) trivial (le_refl _) ?_;refine RunsN.matA (by simp[matAP,neT,g1,g3,hroom];rfl) ?_;refine RunsN.doneE [] rfl trivial ?_;refine HT_le (s':=⟨⟨37,none⟩,[(3,.v (.one (.own 10))),(4,.v (li y)),(11,.v (.one (.c (.sl 1 (encDD L))))),(12,.v (li L.length)),(13,.v (li y)),(18,.v (.one (.c (.sl 1 (encD l))))),(19,.v (li l.length)),(20,.v (li j))],[(10,.mat 27 3 1 (rwA (M1.set x (a0::o++[y]))))]⟩) (le_mk (fun n=>if n=10 then 32 else n) [] rfl (by simp[mapL,RV.mv,TV.mv,CV.mv]) (by simp[mapL,Ob.mv,CV.mv]) (by simp)) ?_;refine HT_run (by simp[hwj];rfl) ?_;exact⟨(j+1,M1.set x (a0::o++[y])),⟨hj1,hJ1,by simpa using hMl1,by simpa[Nat.add_assoc]using hMb2⟩,by simp only;omega,le_mk (fun n=>n) [] rfl (by simp[upS,keepS]) (by simp[upS]) (by simp[upS])⟩
   try simp only[BN]at h10
   have hjl:j=l.length:=by
    have:¬j<l.length:=by simpa using h10
    omega
   subst hjl;simp only[List.drop_length,revIn]at hJ1;clear h10;refine(HT_exit ?_);refine HT_runA ?_;exact⟨(y+1,M1),⟨hk1,hJ1,hMl1,fun m hm=>by have:=hMb1 m hm;simp only;omega⟩,by simp only;omega,le_mkA (fun n=>n) []⟩
 try simp only[BN]at h5
 have hyn:y=L.length:=by
  have:¬y<L.length:=by simpa using h5
  omega
 subst hyn;simp only[List.drop_length,revL]at hJ;subst hJ;have hend:=rwA_end M;clear h5;refine(HT_exit ?_)
 skip
 refine HT_sA ?_;refine HT_le (le_frzM0 10 rfl) ?_;exact HT_ret ⟨.inr rfl,_,le_refl _,⟨_,by simp[HS.frz,mapL,RV.frz,TV.frz,CV.frz];rfl,by simp[resR,hend]⟩,by simp,fun h=>by cases h⟩
end Go.Proofs.YtppjennamodfdaaGreat

namespace Go.Proofs.YtppjennamodfdaaGreat
open Go Go.Hl
@[simp] theorem mpI_nil:mpI []=[]:=rfl
def addN (t:List Nat) (v:Nat):List Nat:=if v∈t then t else t++[v]
def addAll:List Nat→List Nat→List Nat
 |[],t=>t
 |v::l,t=>addAll l (addN t v)
def wl (L:List (List Nat)):Nat→Nat→List Nat→List Nat
 |0,_,t=>t
 | k+1,i,t=>match t[i]? with
   |some v=>wl L k (i+1) (addAll (L[v]?.getD []) t)
   |none=>t
def cloF (L:List (List Nat)) (l:List Nat):List Nat:=wl L (L.length+1) 0 (addAll l [])
structure Nb (n:Nat) (t:List Nat):Prop where
 nd:t.Nodup
 lt:∀d∈t,d<n
theorem Nb.len {n:Nat} {t:List Nat} (h:Nb n t):t.length≤n:=nodup_len h.nd h.lt
theorem Nb.add {n v:Nat} {t:List Nat} (h:Nb n t) (hv:v<n):Nb n (addN t v):=by
 unfold addN;split
 · exact h
 rename_i hm;refine⟨?_,?_⟩
 · rw[List.nodup_append];exact⟨h.nd,by simp,fun a ha b hb=>by rw[List.mem_singleton.1 hb];rintro rfl;exact hm ha⟩
 intro d hd;rcases List.mem_append.1 hd with hd|hd
 · exact h.lt d hd
 rw[List.mem_singleton.1 hd];exact hv
theorem Nb.nil (n:Nat):Nb n []:=⟨by simp,by simp⟩
theorem addN_len (t:List Nat) (v:Nat):t.length≤(addN t v).length:=by
 unfold addN;split
 · exact Nat.le_refl _
 simp
theorem addAll_len (l:List Nat):∀t,t.length≤(addAll l t).length:=by
 induction l with
 |nil=>intro t;exact Nat.le_refl _
 |cons v l ih=>intro t;exact Nat.le_trans (addN_len t v) (ih _)
theorem Nb.addAll {n:Nat} (l:List Nat) (hl:∀d∈l,d<n):∀{t},Nb n t→Nb n (addAll l t):=by
 induction l with
 |nil=>intro t h;exact h
 |cons v l ih=>intro t h;exact ih (fun d hd=>hl d (by simp[hd])) (h.add (hl v (by simp)))
def wkO (t:List Nat):List (Nat×Ob):=[(900001,.mp (mpI t)),(900002,.row 3 1 (encD t)),(1000000,.box [.own 900001]),(1000001,.box [.own 900002])]
theorem wk_pin {m:List Nat}:∀n cs,lkp (wkO m) n=some (.box cs)→1000000≤n:=by
 intro n cs h;simp only[wkO,lkp]at h
 repeat' split at h
 all_goals first|omega|cases h
theorem mpI_snoc (m:List Nat) (v:Nat):mpI m++[(.int .i64 v,bC true)]=mpI (m++[v]):=by simp[mpI]
theorem addN_con (t:List Nat) (v:Nat) (ht:t.length≤100000):ConN Tryz.prog 81 none (wkO t) [li v,.one (.at_ 1000000 0),.one (.at_ 1000001 0)] (fun _:Unit=>True) (fun _=>.tup []) (fun _=>wkO (addN t v)):=by
 refine con_n_of_HT Tryz.func81 rfl (by kernel_rfl) (Nat.le_of_ble_eq_true rfl) wk_pin (fun v h=>by cases h) ?_;simp only[Tryz.f81,wkO];have hf:=find_mpI v t;unfold addN;by_cases h:v∈t
 · rw[if_pos h]at hf⊢;refine HT_sA ?_;refine(HT_cs rfl (fun h1=>?_) fun h1=>?_)
   · cases h1
   (try simp only[BN]at h1);exact⟨.inl rfl,(),trivial,_,le_refl _,⟨[],rfl,rfl⟩,fun n o h=>h⟩
 rw[if_neg h]at hf⊢;have hs:=mpI_snoc t v;have hroom:room (t.length+1) 8:=room_of (by omega) (by decide);refine HT_sA ?_;refine(HT_cs rfl (fun h1=>?_) fun h1=>?_)
 · (try simp only[BN]at h1);refine HT_sA ?_;refine HT_runA ?_;exact⟨.inl rfl,(),trivial,⟨⟨14,none⟩,[],wkO (t++[v])⟩,le_mk (fun n=>if n=900002 then 13 else n) [] rfl (by simp) (by simp[wkO]) (by simp[wkO]),⟨[],rfl,rfl⟩,fun n o h=>h⟩
 cases h1
theorem wl_end (L:List (List Nat)) (t:List Nat):∀k,wl L k t.length t=t
 |0=>rfl
 |k+1=>by simp[wl]
theorem wl_step {L:List (List Nat)} {t:List Nat} {k i v:Nat} {l:List Nat} (h:t[i]? =some v) (hl:L[v]? =some l):wl L (k+1) i t=wl L k (i+1) (addAll l t):=by simp[wl,h,hl]
def okLk (L:List (List Nat)):Prop:=∀l∈L,l.length≤100000000∧∀d∈l,d<L.length
set_option maxHeartbeats 8000000 in
theorem closure_con (L:List (List Nat)) (l0:List Nat) (hn:L.length≤10000) (hl:okLk L) (h0:l0.length≤100000) (hb:∀d∈l0,d<L.length) (d:Nat):
  Con Tryz.prog 45 false [.one (.c (.sl 1 (encDD L))),.one (.c (.sl 1 (encD l0)))] (.v (.one (.c (.mp (mpI (cloF L l0)))))) none d:=by
 obtain⟨res,hres⟩:∃x,cloF L l0=x:=⟨_,rfl⟩;rw[hres];unfold cloF at hres;refine con_of_HTA Tryz.func45 ?_;simp only[Tryz.f45];refine HT_sA ?_;refine HT_sA ?_;refine HT_sA ?_;refine HT_sA ?_;refine HT_seq<|HT_seq<|HT_runA ?_;refine HT_block<|(HT_loopU [0,5,6,7,15,16] (fun(u:Nat×List Nat)=>[(17,.v (li u.1))]) (fun u=>[(5,.box [.own 900001]),(6,.box [.own 900002]),(900001,.mp (mpI u.2)),(900002,.row 3 1 (encD u.2))]) (fun u=>u.1≤l0.length∧wl L (L.length+1) 0 (addAll (l0.drop u.1) u.2)=res∧Nb L.length u.2) (fun u=>l0.length - u.1) (0,[]) ⟨Nat.zero_le _,by simpa using hres,Nb.nil _⟩ ?_ ?_)
 · exact le_mkA (fun n=>if n=900001 then 13 else n) [900002]
 rintro⟨k,t⟩ ⟨hk,hJ,hN⟩;simp only[upS,keepS,insS]
 try simp only[keepS,KN,Nat.reduceBEq,if_true,if_false,ins,Nat.reduceLT]
 simp only at hk hJ hN;clear hres;refine HT_sA ?_;refine HT_seq<|(HT_cond rfl (fun h7=>HT_skip ?_) (fun h7=>?_))
 · (try simp only[BN]at h7);have hlt:k<l0.length:=by simpa using h7
   obtain⟨x,he,hd⟩:=at_lt hlt;have hw1:=wrap1 hlt (by omega);have hk1:k+1≤l0.length:=hlt;have hx:=hb x (List.mem_of_getElem? he);have hxe:(encD l0)[k]? =some [iC x]:=by simp[encD,he]
   have hN2:=hN.add hx;have hNl:=hN.len;have ca:=addN_con t x (by omega);rw[hd]at hJ;simp only[addAll]at hJ;obtain⟨t2,ht2⟩:∃y,addN t x=y:=⟨_,rfl⟩;rw[ht2]at ca hJ hN2;simp only[wkO]at ca;clear hlt h7 hd he hx hb;refine HT_seq<|HT_block<|HT_seq<|HT_runA ?_;refine(HT_runsN ?_);refine RunsN.cutE 2 [] (by simp;rfl) trivial (le_refl _) ?_;refine RunsN.callA (fun n=>if n=1000000 then 5 else if n=1000001 then 6 else n) (fun n=>if n=1000000 then 5 else if n=1000001 then 6 else if n=900001 then 30 else if n=900002 then 31 else n) ca fun _ _=>?_;refine RunsN.doneE [] rfl trivial ?_;refine HT_le (s':=⟨⟨48,none⟩,[(0,.v (.one (.c (.sl 1 (encDD L))))),(5,.v (.one (.at_ 5 0))),(6,.v (.one (.at_ 6 0))),(7,.v (.one (.fn 81 [(5,0),(6,0)]))),(15,.v (.one (.c (.sl 1 (encD l0))))),(16,.v (li l0.length)),(17,.v (li k))],[(5,.box [.own 900001]),(6,.box [.own 900002]),(900001,.mp (mpI t2)),(900002,.row 3 1 (encD t2))]⟩) (le_mk (fun n=>if n=900001 then 30 else if n=900002 then 31 else n) [] rfl (by simp[addS,dels,del,ins,CV.ren,Ob.ren]) (by simp[addS,dels,del,ins,CV.ren,Ob.ren]) (by simp)) ?_;refine HT_runA ?_;exact⟨(k+1,t2),⟨hk1,hJ,hN2⟩,by simp only;omega,le_mkA (fun n=>n) []⟩
 try simp only[BN]at h7
 have hkl:k=l0.length:=by
  have:¬k<l0.length:=by simpa using h7
  omega
 subst hkl;simp only[List.drop_length,addAll]at hJ;clear h7;refine(HT_exit ?_);refine HT_seq<|HT_seq<|HT_runA ?_;refine HT_block<|(HT_loopU [0,5,6,7] (fun(u:Nat×List Nat)=>[(10,.v (li u.1))]) (fun u=>[(5,.box [.own 900001]),(6,.box [.own 900002]),(900001,.mp (mpI u.2)),(900002,.row 3 1 (encD u.2))]) (fun u=>u.1≤u.2.length∧wl L (L.length+1 - u.1) u.1 u.2=res∧Nb L.length u.2) (fun u=>L.length+1 - u.1) (0,t) ⟨Nat.zero_le _,hJ,hN⟩ ?_ ?_)
 · exact le_mkA (fun n=>n) []
 rintro⟨i,t1⟩ ⟨hi,hJ1,hN1⟩;simp only[upS,keepS,insS]
 try simp only[keepS,KN,Nat.reduceBEq,if_true,if_false,ins,Nat.reduceLT]
 simp only at hi hJ1 hN1;clear hJ hN;have hNl1:=hN1.len;refine HT_seq<|HT_seq<|HT_runA ?_;refine(HT_cond rfl (fun h15=>HT_skip ?_) (fun h15=>?_))
 · (try simp only[BN]at h15);have hlt:i<t1.length:=by simpa using h15
   obtain⟨v,hv,_⟩:=at_lt hlt;have hvn:=hN1.lt v (List.mem_of_getElem? hv);obtain⟨l,hlv,_⟩:=at_lt hvn;have hle:=get_encDD hlv;have hxe:(encD t1)[i]? =some [iC v]:=by simp[encD,hv]
   obtain⟨hll,hlb⟩:=hl l (List.mem_of_getElem? hlv);have hwi:=wrap1 hlt (by omega);have hi1:i+1≤t1.length:=hlt;have hkk:L.length+1 - i=(L.length+1 - (i+1))+1:=by omega
   rw[hkk,wl_step hv hlv]at hJ1;have hvb:v+1≤L.length:=hvn;clear hlt h15 hv hvn hlv hkk;refine HT_seq<|HT_block<|HT_seq<|HT_runA ?_;refine HT_block<|(HT_loopU [0,5,6,7,10,37,38] (fun(u:Nat×List Nat)=>[(39,.v (li u.1))]) (fun u=>[(5,.box [.own 900001]),(6,.box [.own 900002]),(900001,.mp (mpI u.2)),(900002,.row 3 1 (encD u.2))]) (fun u=>u.1≤l.length∧wl L (L.length+1 - (i+1)) (i+1) (addAll (l.drop u.1) u.2)=res∧Nb L.length u.2∧i+1≤u.2.length) (fun u=>l.length - u.1) (0,t1) ⟨Nat.zero_le _,by simpa using hJ1,hN1,hi1⟩ ?_ ?_)
   · exact le_mkA (fun n=>n) []
   rintro⟨k,t⟩ ⟨hk,hJ,hN,hit⟩;simp only[upS,keepS,insS]
   try simp only[keepS,KN,Nat.reduceBEq,if_true,if_false,ins,Nat.reduceLT]
   simp only at hk hJ hN hit;clear hJ1 hN1 hi1 hxe;refine HT_sA ?_;refine HT_seq<|(HT_cond rfl (fun h19=>HT_skip ?_) (fun h19=>?_))
   · (try simp only[BN]at h19);have hlt:k<l.length:=by simpa using h19
     obtain⟨x,he,hd⟩:=at_lt hlt;have hw1:=wrap1 hlt (by omega);have hk1:k+1≤l.length:=hlt;have hx:=hlb x (List.mem_of_getElem? he);have hxe:(encD l)[k]? =some [iC x]:=by simp[encD,he]
     have hN2:=hN.add hx;have hNl:=hN.len;have ca:=addN_con t x (by omega);have hit2:=Nat.le_trans hit (addN_len t x);rw[hd]at hJ;simp only[addAll]at hJ;obtain⟨t2,ht2⟩:∃y,addN t x=y:=⟨_,rfl⟩;rw[ht2]at ca hJ hN2 hit2;simp only[wkO]at ca;clear hlt h19 hd he hx hl hlb;refine HT_seq<|HT_block<|HT_seq<|HT_runA ?_;refine(HT_runsN ?_);refine RunsN.cutE 2 [] (by simp;rfl) trivial (le_refl _) ?_;refine RunsN.callA (fun n=>if n=1000000 then 5 else if n=1000001 then 6 else n) (fun n=>if n=1000000 then 5 else if n=1000001 then 6 else if n=900001 then 30 else if n=900002 then 31 else n) ca fun _ _=>?_;refine RunsN.doneE [] rfl trivial ?_;refine HT_le (s':=⟨⟨48,none⟩,[(0,.v (.one (.c (.sl 1 (encDD L))))),(5,.v (.one (.at_ 5 0))),(6,.v (.one (.at_ 6 0))),(7,.v (.one (.fn 81 [(5,0),(6,0)]))),(10,.v (li i)),(37,.v (.one (.c (.sl 1 (encD l))))),(38,.v (li l.length)),(39,.v (li k))],[(5,.box [.own 900001]),(6,.box [.own 900002]),(900001,.mp (mpI t2)),(900002,.row 3 1 (encD t2))]⟩) (le_mk (fun n=>if n=900001 then 30 else if n=900002 then 31 else n) [] rfl (by simp[addS,dels,del,ins,CV.ren,Ob.ren]) (by simp[addS,dels,del,ins,CV.ren,Ob.ren]) (by simp)) ?_;refine HT_runA ?_;exact⟨(k+1,t2),⟨hk1,hJ,hN2,hit2⟩,by simp only;omega,le_mkA (fun n=>n) []⟩
   try simp only[BN]at h19
   have hkl:k=l.length:=by
    have:¬k<l.length:=by simpa using h19
    omega
   subst hkl;simp only[List.drop_length,addAll]at hJ;have hwi2:i+1≤L.length:=Nat.le_trans hit hN.len;clear h19;refine(HT_exit ?_);refine HT_runA ?_;exact⟨(i+1,t),⟨hit,hJ,hN⟩,by simp only;omega,le_mkA (fun n=>n) []⟩
 try simp only[BN]at h15
 have hkl:i=t1.length:=by
  have:¬i<t1.length:=by simpa using h15
  omega
 subst hkl;rw[wl_end]at hJ1;subst hJ1;clear h15;refine(HT_exit ?_);refine HT_le (le_frzP 900001 rfl) ?_;refine HT_sA ?_;exact HT_ret ⟨.inr rfl,_,le_refl _,⟨⟨_,by simp;rfl,by simp[resR]⟩,by simp,fun h=>by cases h⟩⟩
end Go.Proofs.YtppjennamodfdaaGreat

namespace Go.Proofs.YtppjennamodfdaaGreat
open Go Go.Hl
def srtF (n:Nat) (t:List Nat):List Nat:=(List.range n).filter fun d=>decide (d∈t)
theorem srtF_len (n:Nat) (t:List Nat):(srtF n t).length≤n:=Nat.le_trans (List.length_filter_le _ _) (by simp)
theorem srt_out {n:Nat} {t out:List Nat} (h:Nb n t) (hout:out.Nodup) (he:∀d,d∈out↔d∈t):encIs ((out.map Int.ofNat).mergeSort fun x y=>decide (x≤y))=encD (srtF n t):=by
 have:=srt_eq (l:=out) (n:=n) (p:=fun d=>decide (d∈t)) hout fun x=>by
  rw[he];simp only[decide_eq_true_eq];exact⟨fun hx=>⟨h.lt x hx,hx⟩,fun hx=>hx.2⟩
 exact this
theorem pick_inj {α:Type} {t:List α} (h:t.Nodup) {i j:Nat} {d:α} (hi:t[i]? =some d) (hj:t[j]? =some d):i=j:=by
 obtain⟨h1,h2⟩:=List.getElem?_eq_some_iff.1 hi;exact(List.getElem?_inj h1 h).1 (hi.trans hj.symm)
theorem sort_same {a b:List Int} (ha:a.Nodup) (hb:b.Nodup) (h:∀d,d∈a↔d∈b):(a.mergeSort fun x y=>decide (x≤y))=b.mergeSort fun x y=>decide (x≤y):=by
 have hp:∀l:List Int,(l.mergeSort fun x y=>decide (x≤y)).Pairwise fun x y=>x≤y:=fun l=>(List.pairwise_mergeSort (le:=fun x y:Int=>decide (x≤y)) (fun a b c h1 h2=>by simp at*;omega) (fun a b=>by simp;omega) l).imp fun h=>by simpa using h
 refine List.Perm.eq_of_pairwise (fun x y _ _ h1 h2=>by omega) (hp a) (hp b) ?_;refine(List.mergeSort_perm a _).trans (List.Perm.trans ?_ (List.mergeSort_perm b _).symm);exact(List.perm_ext_iff_of_nodup ha hb).2 h
set_option maxHeartbeats 4000000 in
theorem sortedZ_con (t:List Int) (htl:t.length≤10000000) (hnd:t.Nodup) (d:Nat):
  Con Tryz.prog 44 false [.one (.c (.mp (mpZ t)))] (.v (.one (.c (.sl 1 (encIs (t.mergeSort fun x y=>decide (x≤y))))))) none d:=by
 obtain⟨res,hres⟩:∃x,encIs (t.mergeSort fun x y=>decide (x≤y))=x:=⟨_,rfl⟩;rw[hres];have hfin:∀out:List Int,out.Nodup→(∀d,d∈out↔d∈t)→encIs (out.mergeSort fun x y=>decide (x≤y))=res:=fun out h1 h2=>by rw[sort_same h1 hnd h2,hres]
 clear hres;refine con_of_HTA Tryz.func44 ?_;simp only[Tryz.f44];refine HT_sA ?_;refine HT_sA ?_;refine HT_seq<|HT_seq<|HT_runA ?_;refine HT_block<|(HT_loopU [6] (fun(y:List Nat×List Int)=>[(3,.v (.one (.own 1003)))]) (fun y=>[(6,.it (mpZ t) y.1),(1003,.row 3 1 (encIs y.2))]) (fun y=>y.1.Nodup∧allLt y.1 t.length∧(∀d,d∈y.2↔∃j∈y.1,t[j]? =some d)∧y.2.Nodup∧y.2.length≤y.1.length) (fun y=>t.length - y.1.length) ([],[]) ⟨List.nodup_nil,by simp[allLt],by simp,List.nodup_nil,Nat.le_refl _⟩ ?_ ?_)
 · exact le_mkA (fun n=>n) [1003]
 rintro⟨seen,out⟩ ⟨j1,j2,j3,j4,j5⟩;simp only[upS,keepS,insS]
 try simp only[keepS,KN,Nat.reduceBEq,if_true,if_false,ins,Nat.reduceLT]
 simp only at j1 j2 j3 j4 j5;refine HT_nextA (fun j k v hj hn=>?_) (fun hall=>?_)
 skip
 · (try simp only[BN]at h5);obtain⟨d,hd,rfl,rfl⟩:=get_mpZ hj;have hjl:j<t.length:=(List.getElem?_eq_some_iff.1 hd).1
   have hnd2:(seen++[j]).Nodup:=by
    rw[List.nodup_append];exact⟨j1,by simp,fun a ha b hb=>by rw[List.mem_singleton.1 hb];exact fun e=>hn (e▸ha)⟩
   have hin:allLt (seen++[j]) t.length:=fun i hi=>by
    rcases List.mem_append.1 hi with h|h
    · exact j2 i h
    rw[List.mem_singleton.1 h];exact hjl
   have hnew:(out++[d]).Nodup:=by
    rw[List.nodup_append];refine⟨j4,by simp,fun a ha b hb=>?_⟩;rw[List.mem_singleton.1 hb];rintro rfl;obtain⟨i,hi,he⟩:=(j3 a).1 ha;exact hn (pick_inj hnd hd he▸hi)
   have hmem:∀x,x∈out++[d]↔∃i∈seen++[j],t[i]? =some x:=by
    intro x;rw[List.mem_append,j3,List.mem_singleton];constructor
    · rintro(⟨i,h1,h2⟩|rfl)
      · exact⟨i,List.mem_append_left _ h1,h2⟩
      exact⟨j,by simp,hd⟩
    rintro⟨i,h1,h2⟩;rcases List.mem_append.1 h1 with h1|h1
    · exact .inl ⟨i,h1,h2⟩
    rw[List.mem_singleton.1 h1,hd]at h2;exact .inr (Option.some.inj h2).symm
   have hsn:encIs [d]=[[iC d]]:=rfl;have hle:=nodup_len hnd2 hin;simp only[List.length_append,List.length_singleton]at hle;have hroom:room (out.length+1) 8:=⟨by unfold maxLen;omega,by omega⟩;clear hjl;refine HT_block<|HT_seq<|HT_runA ?_;refine HT_runA ?_;exact⟨(seen++[j],out++[d]),⟨hnd2,hin,hmem,hnew,by simp only[List.length_append,List.length_singleton];omega⟩,by simp only[List.length_append,List.length_singleton];omega,le_mkA (fun n=>if n=1003 then 14 else n) []⟩
 try simp only[BN]at h5
 have hout:∀d,d∈out↔d∈t:=by
  intro d;rw[j3];constructor
  · rintro⟨i,_,h⟩;exact List.mem_of_getElem? h
  intro h;obtain⟨i,hi⟩:=List.mem_iff_getElem?.1 h;exact⟨i,hall i (by rw[len_mpZ];exact(List.getElem?_eq_some_iff.1 hi).1),hi⟩
 have hfin:=hfin out j4 hout;have hsl:=nodup_len j1 j2;clear hall j1 j2 j3 hout;refine(HT_exit ?_);rcases out with _|⟨a0,o⟩
 · refine HT_le (le_frz 1003 rfl) ?_;have hr0:res=[]:=by rw[←hfin];simp[encIs]
   subst hr0;refine HT_scA [⟨true,.tup [],none⟩] ?_ ?_
   · first|exact sort0_con _|exact trivial|simpa[*]using sort0_con _
   refine HT_sA ?_;exact HT_rA
 have cs:=sortR_con (a0::o) (by simp) (by omega);rw[hfin]at cs;refine HT_seq<|(HT_runsN ?_);refine RunsN.cutE 1 [] (by simp;rfl) trivial (le_refl _) ?_;refine RunsN.rowA (by simp[rowAP,capV];exact⟨rfl,rfl⟩) cs ?_;refine RunsN.doneE [] rfl trivial ?_;refine HT_le (s':=⟨⟨18,none⟩,[(3,.v (.one (.own 1003)))],[(1003,.row 3 1 res)]⟩) (le_mk (fun n=>n) [] rfl (by simp) (by simp) (by simp)) ?_;refine HT_sA ?_;refine HT_le (le_frz 1003 rfl) ?_;exact HT_rA
theorem mpI_Z (t:List Nat):mpI t=mpZ (t.map Int.ofNat):=by simp[mpI,mpZ]
theorem sorted_con (n:Nat) (t:List Nat) (hn:n≤100000) (ht:Nb n t) (d:Nat):
  Con Tryz.prog 44 false [.one (.c (.mp (mpI t)))] (.v (.one (.c (.sl 1 (encD (srtF n t)))))) none d:=by
 have hl:=ht.len;have:=sortedZ_con (t.map Int.ofNat) (by simp only[List.length_map];omega) (List.Pairwise.map Int.ofNat (fun a b h e=>h (Int.ofNat.inj e)) ht.nd) d
 rwa [←mpI_Z,srt_out ht ht.nd fun _=>Iff.rfl]at this
end Go.Proofs.YtppjennamodfdaaGreat

namespace Go.Proofs.YtppjennamodfdaaGreat
open Go Go.Hl
def inB (n:Nat) (q:List Int):Bool:=q.all fun d=>decide (0≤d∧d<n)
def askB (n:Nat) (qs:List (List Int)):Bool:=qs.all (inB n)
def askC (f:Fl) (qs:List (List Int)):Int:=if codeC f=0 then(if askB (flL f.body).length qs=true then 0 else 3)else codeC f
noncomputable def askT (f:Fl) (qs:List (List Int)):CD:=if askC f qs=0 then tabC f else .lit (.pointer none)
def encQ (qs:List (List Int)):List (List CD):=qs.map fun q=>[.sl 1 (encIs q)]
@[simp] theorem len_encQ (qs:List (List Int)):(encQ qs).length=qs.length:=by simp[encQ]
theorem get_encQ {qs:List (List Int)} {i:Nat} {q:List Int} (h:qs[i]? =some q):(encQ qs)[i]? =some [.sl 1 (encIs q)]:=by simp[encQ,h]
theorem get_encIs {q:List Int} {i:Nat} {x:Int} (h:q[i]? =some x):(encIs q)[i]? =some [iC x]:=by simp[encIs,h]
theorem askB_bad {n:Nat} {qs:List (List Int)} {q:List Int} {x:Int} (h:q∈qs) (hx:x∈q) (hb:¬(0≤x∧x<n)):askB n qs=false:=by
 unfold askB inB;rw[List.all_eq_false];refine⟨q,h,?_⟩;rw[Bool.not_eq_true,List.all_eq_false];exact⟨x,hx,by simpa using hb⟩
set_option maxHeartbeats 8000000 in
theorem asked_con (f:Fl) (h:Sm f) (qs:List (List Int)) (hq:qs.length≤100) (hql:∀q∈qs,q.length≤1000000) (d:Nat):
  Con Tryz.prog 43 false [aF f,.one (.c (.sl 1 (encQ qs)))] (.tup [.one (.c (askT f qs)),li (askC f qs)]) none d:=by
 have cn:=newTable_con f h;have hsl:=flL_len f.body;have hsz:=h.sz;unfold askT askC;obtain⟨C,hC⟩:∃x,codeC f=x:=⟨_,rfl⟩;rw[hC]at cn⊢;by_cases hz:C=0
 · subst hz;simp only[if_true]at cn⊢;have hTab:tabC f=tabD f (flL f.body) (arL f.body (-1) 0) (rdT f):=rfl;rw[hTab]at cn⊢;obtain⟨S,hS⟩:∃x,flL f.body=x:=⟨_,rfl⟩;obtain⟨A,hA⟩:∃x,arL f.body (-1) 0=x:=⟨_,rfl⟩;obtain⟨D,hD⟩:∃x,rdT f=x:=⟨_,rfl⟩;rw[hS,hA,hD]at cn;rw[hS,hA,hD];rw[hS]at hsl;have hSl:S.length≤1000000:=by omega
   obtain⟨vars,hats,body⟩:=f;simp only[aF,Fl.enc,List.map_cons,List.map_nil]at cn⊢;have hall:(∀q∈qs,inB S.length q=true)→askB S.length qs=true:=fun h=>List.all_eq_true.2 h;have hbad:=fun q x=>@askB_bad S.length qs q x;obtain⟨Z,hZ⟩:∃x,askB S.length qs=x:=⟨_,rfl⟩;rw[hZ]at hall⊢;simp only[hZ]at hbad;clear h hC hTab hS hA hD hsl hsz hZ;refine con_of_HTA Tryz.func43 ?_;simp only[Tryz.f43];refine HT_sA ?_;refine HT_scA [⟨false,.tup [.one (.c (tabD ⟨vars,hats,body⟩ S A D)),li 0],none⟩] ?_ ?_
   · first|exact cn _|exact trivial|simpa[*]using cn _
   refine HT_seq<|HT_seq<|HT_runA ?_;refine(HT_cs rfl (fun h3=>?_) fun h3=>?_)
   · exact absurd h3 (by simp)
   (try simp only[BN]at h3);refine HT_seq<|HT_seq<|HT_runA ?_;refine HT_block<|(HT_loopU [6,20,21] (fun(u:Nat)=>[(22,.v (li u))]) (fun u=>[]) (fun u=>u≤qs.length∧∀q∈qs.take u,inB S.length q=true) (fun u=>qs.length - u) (0:Nat) ⟨Nat.zero_le _,by simp⟩ ?_ ?_)
   · exact le_mkA (fun n=>n) []
   rintro k ⟨hk,hJ⟩;simp only[upS,keepS,insS]
   try simp only[keepS,KN,Nat.reduceBEq,if_true,if_false,ins,Nat.reduceLT]
   refine HT_sA ?_;refine HT_seq<|(HT_cond rfl (fun h9=>HT_skip ?_) (fun h9=>?_))
   · (try simp only[BN]at h9);have hlt:k<qs.length:=by simpa using h9
     obtain⟨q,he,_⟩:=at_lt hlt;have hmem:=List.mem_of_getElem? he;have hqn:=hql q hmem;have hw1:=wrap1 hlt (by omega);have hk1:k+1≤qs.length:=hlt;have hqe:=get_encQ he;have hbq:=fun x=>hbad q x hmem
     have hJ2:inB S.length q=true→∀q∈qs.take (k+1),inB S.length q=true:=by
      intro hi q' hq';rw[List.take_add_one,he]at hq';rcases List.mem_append.1 hq' with h|h
      · exact hJ q' h
      simp only[Option.toList,List.mem_singleton]at h;rw[h];exact hi
     clear hlt h9 he hmem hql hbad hall hJ;refine HT_seq<|HT_block<|HT_seq<|HT_runA ?_;refine HT_sA ?_;refine HT_block<|(HT_loopU [6,20,21,22,26,27] (fun(u:Nat)=>[(28,.v (li u))]) (fun u=>[]) (fun u=>u≤q.length∧∀x∈q.take u,(0≤x∧x<S.length)) (fun u=>q.length - u) (0:Nat) ⟨Nat.zero_le _,by simp⟩ ?_ ?_)
     · exact le_mkA (fun n=>n) []
     rintro j ⟨hj,hJj⟩;simp only[upS,keepS,insS]
     try simp only[keepS,KN,Nat.reduceBEq,if_true,if_false,ins,Nat.reduceLT]
     refine HT_sA ?_;refine HT_seq<|(HT_cond rfl (fun h14=>HT_skip ?_) (fun h14=>?_))
     · (try simp only[BN]at h14);have hlt:j<q.length:=by simpa using h14
       obtain⟨x,he,_⟩:=at_lt hlt;have hmem:=List.mem_of_getElem? he;have hwj:=wrap1 hlt (by omega);have hj1:j+1≤q.length:=hlt;have hxe:=get_encIs he;have hbx:=hbq x hmem
       have hJj2:0≤x∧x<S.length→∀y∈q.take (j+1),(0≤y∧y<S.length):=by
        intro hi y hy;rw[List.take_add_one,he]at hy;rcases List.mem_append.1 hy with h|h
        · exact hJj y h
        simp only[Option.toList,List.mem_singleton]at h;rw[h];exact hi
       clear hlt h14 he hmem hbq hJj;refine HT_seq<|HT_block<|HT_seq<|HT_runA ?_;refine HT_cutU [6,20,21,22,26,27,28] (fun(z:Bool)=>[(42,.v (lb z))]) (fun(z:Bool)=>[]) (fun(z:Bool)=>z=decide (¬(0≤x∧x<S.length))) ?_ ?_
       · by_cases hx:x<0
         · refine HT_run (by simp[*];rfl) ?_;exact⟨_,rfl,le_mk (fun n=>n) [] rfl (by simp[upS,keepS];omega) (by simp[upS]) (by simp[upS])⟩
         refine HT_run (by simp[*];rfl) ?_;exact⟨_,rfl,le_mk (fun n=>n) [] rfl (by simp[upS,keepS];omega) (by simp[upS]) (by simp[upS])⟩
       rintro z hz;simp only[upS,keepS,insS]
       try simp only[keepS,KN,Nat.reduceBEq,if_true,if_false,ins,Nat.reduceLT]
       refine(HT_cs rfl (fun h17=>?_) fun h17=>?_)
       · (try simp only[BN]at h17);have hzt:z=true:=by simpa using h17
         have hr:=hbx (of_decide_eq_true (hz.symm.trans hzt));subst hr;clear hz h17 hbx hJj2 hJ2;refine HT_sA ?_;exact HT_rA
       (try simp only[BN]at h17);have hzt:z=false:=by simpa using h17
       have hx:=hJj2 (by rw[hzt]at hz;simpa using hz.symm);clear hz h17 hbx hJj2;refine HT_runA ?_;exact⟨j+1,⟨hj1,hx⟩,by omega,le_mkA (fun n=>n) []⟩
     try simp only[BN]at h14
     have hjl:j=q.length:=by
      have:¬j<q.length:=by simpa using h14
      omega
     subst hjl;rw[List.take_length]at hJj;have hJ2:=hJ2 (List.all_eq_true.2 fun x hx=>by simpa using hJj x hx);clear h14 hJj;refine(HT_exit ?_);refine HT_runA ?_;exact⟨k+1,⟨hk1,hJ2⟩,by omega,le_mkA (fun n=>n) []⟩
   try simp only[BN]at h9
   have hkl:k=qs.length:=by
    have:¬k<qs.length:=by simpa using h9
    omega
   subst hkl;rw[List.take_length]at hJ;have hr:=hall hJ;subst hr;clear h9 hJ;refine(HT_exit ?_);refine HT_sA ?_;exact HT_rA
 simp only[if_neg hz]at cn⊢;obtain⟨vars,hats,body⟩:=f;simp only[aF,Fl.enc,List.map_cons,List.map_nil]at cn⊢;clear h hC hsl hsz;refine con_of_HTA Tryz.func43 ?_;simp only[Tryz.f43];refine HT_sA ?_;refine HT_scA [⟨false,.tup [.one (.c (.lit (.pointer none))),li C],none⟩] ?_ ?_
 · first|exact cn _|exact trivial|simpa[*]using cn _
 refine HT_seq<|HT_seq<|HT_runA ?_;refine(HT_cs rfl (fun h3=>?_) fun h3=>?_)
 · (try simp only[BN]at h3);refine HT_sA ?_;exact HT_rA
 exact absurd h3 (by simp[hz])
end Go.Proofs.YtppjennamodfdaaGreat

namespace Go.Proofs.YtppjennamodfdaaGreat
open Go Go.Hl
mutual
theorem flS_nodes:∀(s:St),∀q∈flS s,q.term.nodes≤s.nodes
 | .mk o c v n t a b bs,q,h=>by
   simp only[flS,List.mem_cons,List.mem_append]at h;simp only[St.nodes];rcases h with rfl|h|h
   · simp only[St.term];omega
   · have:=flL_nodes a q h;omega
   have:=flL_nodes b q h;omega
theorem flL_nodes:∀(l:List St),∀q∈flL l,q.term.nodes≤nodesS l
 |[],q,h=>by simp[flL]at h
 | s::l,q,h=>by
   simp only[flL,List.mem_append]at h;simp only[nodesS];rcases h with h|h
   · have:=flS_nodes s q h;omega
   have:=flL_nodes l q h;omega
end
mutual
theorem arS_in:∀(s:St) (o:Int) (p:Nat),-1≤o→∀a∈arS s o p,-1≤a∧(a=o∨a<p+szS s)
 | .mk _ _ _ _ _ x y _,o,p,ho,a,h=>by
   simp only[arS,List.mem_cons,List.mem_append]at h;simp only[szS];rcases h with rfl|h|h
   · exact⟨ho,.inl rfl⟩
   · have:=arL_in x p (p+1) (by omega) a h;refine⟨this.1,.inr ?_⟩;rcases this.2 with h|h<;>omega
   have:=arL_in y p (p+1+szL x) (by omega) a h;refine⟨this.1,.inr ?_⟩;rcases this.2 with h|h<;>omega
theorem arL_in:∀(l:List St) (o:Int) (p:Nat),-1≤o→∀a∈arL l o p,-1≤a∧(a=o∨a<p+szL l)
 |[],o,p,_,a,h=>by simp[arL]at h
 | s ::l,o,p,ho,a,h=>by
   simp only[arL,List.mem_append]at h;simp only[szL];rcases h with h|h
   · have:=arS_in s o p ho a h;refine⟨this.1,?_⟩;rcases this.2 with h|h
     · exact .inl h
     exact .inr (by omega)
   have:=arL_in l o (p+szS s) ho a h;refine⟨this.1,?_⟩;rcases this.2 with h|h
   · exact .inl h
   exact .inr (by omega)
end
theorem rdF_row {P:List Nat→Prop} (h0:P []) (n:Nat) (l:List (Nd×List Nat)) (h:∀p∈l,P p.2):∀r∈rdF n l,P r:=by
 unfold rdF
 have :∀(l:List (Nd×List Nat)) (rd:List (List Nat)),(∀p∈l,P p.2)→(∀r∈rd,P r)→∀r∈l.foldl (fun rd p=>if rdB p.1=true then rd.set p.1.a.toNat p.2 else rd) rd,P r:=by
  intro l
  induction l with
  |nil=>exact fun rd _ h=>h
  | cons p l ih=>
    intro rd hl hr;rw[List.foldl_cons];refine ih _ (fun q hq=>hl q (by simp[hq])) ?_;split
    · intro r hr';rcases List.mem_or_eq_of_mem_set hr' with h|rfl
      · exact hr r h
      exact hl p (by simp)
    exact hr
 exact this l _ h fun r hr=>by rw[(List.mem_replicate.1 hr).2];exact h0
theorem rcL_rows {N:List Nd} {steps:List St} {nv:Nat}:∀r∈rcL N steps nv,r.length≤steps.length+nv∧(∀d∈r,d<steps.length+nv)∧r.Nodup:=by
 intro r hr;simp only[rcL,List.mem_map]at hr;obtain⟨to,_,rfl⟩:=hr;refine⟨Nat.le_trans (List.length_filter_le _ _) (by simp),fun d hd=>?_,List.Pairwise.filter _ List.nodup_range⟩;simpa using(List.mem_filter.1 hd).1
theorem rdT_row (f:Fl):∀r∈rdT f,r.length≤(flL f.body).length+f.vars.length∧(∀d∈r,d<(flL f.body).length+f.vars.length)∧r.Nodup:=
 rdF_row (P:=fun r=>r.length≤(flL f.body).length+f.vars.length∧(∀d∈r,d<(flL f.body).length+f.vars.length)∧r.Nodup) ⟨by simp,by simp,by simp⟩ _ _ fun p hp=>rcL_rows p.2 (List.of_mem_zip hp).2
theorem tab_ok {f:Fl} (h:Sm f):TabOK (flL f.body) (arL f.body (-1) 0) (rdT f) where
 hn:=by rw[flL_len];exact h.sz
 har:=by rw[flL_len,arL_len]
 hrd:=by rw[flL_len];exact rdF_len _ _
 nod s hs:=by have:=flL_nodes f.body s hs;have:=h.nodes;omega
 rdl r hr:=by
  have:=rdT_row f r hr;have h1:=h.sz;have h2:=h.vars;rw[flL_len]at this;exact⟨by omega,fun d hd=>by have:=this.2.1 d hd;omega⟩
noncomputable def dirT (f:Fl):List (List Nat):=dirF (flL f.body) (arL f.body (-1) 0) (rdT f)
theorem dirT_len (f:Fl):(dirT f).length=(flL f.body).length:=by simp[dirT,dirF]
theorem dirT_row {f:Fl} (h:Sm f):∀l∈dirT f,l.length≤6000∧∀d∈l,d<(dirT f).length:=by
 intro l hl;rw[dirT_len];simp only[dirT,dirF,List.mem_map]at hl;obtain⟨s,_,rfl⟩:=hl;have hT:=tab_ok h;unfold dirAt;split
 · rename_i q a r hq ha hr;have h1:=(hT.rdl r (List.mem_of_getElem? hr)).1;have h2:=arL_in f.body (-1) 0 (by omega) a (List.mem_of_getElem? ha);have h3:∀p:Nat→Bool,((srcF (flL f.body) q r).filter p).length≤5000:=fun p=>Nat.le_trans (List.length_filter_le _ _) (Nat.le_trans (List.length_filter_le _ _) h1);refine⟨?_,?_⟩
   · rw[List.length_append];have:=h3 fun d=>decide (d<(flL f.body).length);split
     · simp only[List.length_singleton];omega
     simp only[List.length_nil];omega
   intro d hd;rcases List.mem_append.1 hd with hd|hd
   · split at hd
     · rename_i h0;rw[List.mem_singleton.1 hd];have hl:=flL_len f.body;rcases h2.2 with h|h<;>omega
     cases hd
   exact of_decide_eq_true (List.mem_filter.1 hd).2
 exact⟨by simp,by simp⟩
theorem dir_ok {f:Fl} (h:Sm f):okLk (dirT f):=fun l hl=>⟨by have:=(dirT_row h l hl).1;omega,(dirT_row h l hl).2⟩
theorem revIn_len (s:Nat):∀(l:List Nat) (M:List (List Nat)),(revIn s l M).length=M.length
 |[],_=>rfl
 |d::l,M=>by simp[revIn,revIn_len s l]
theorem revL_len:∀(L:List (List Nat)) (s:Nat) (M:List (List Nat)),(revL L s M).length=M.length
 |[],_,_=>rfl
 |l::L,s,M=>by rw[revL,revL_len,revIn_len]
@[simp] theorem revF_len (L:List (List Nat)):(revF L).length=L.length:=by simp[revF,revL_len]
theorem revIn_mem (s:Nat):∀(l:List Nat) (M:List (List Nat)),(∀d∈l,d<M.length)→∀(x y:Nat),y∈(revIn s l M)[x]?.getD []↔y∈M[x]?.getD []∨(y=s∧x∈l)
 |[],M,_,x,y=>by simp[revIn]
 | d :: l,M,h,x,y=>by
   rw[revIn,revIn_mem s l _ (fun z hz=>by rw[List.length_set];exact h z (by simp[hz])),List.getElem?_set];by_cases hx:d=x
   · subst hx;have:=h d (by simp);simp only[if_true,this,Option.getD_some,List.mem_append,List.mem_cons,true_or,and_true,List.mem_singleton];constructor
     · rintro((h|h)|⟨h,_⟩)
       · exact .inl h
       · rcases h with h|h
         · exact .inr h
         cases h
       exact .inr h
     rintro(h|h)
     · exact .inl (.inl h)
     exact .inl (.inr (.inl h))
   simp only[hx,if_false,List.mem_cons];constructor
   · rintro(h|⟨h1,h2⟩)
     · exact .inl h
     exact .inr ⟨h1,.inr h2⟩
   rintro(h|⟨h1,rfl|h2⟩)
   · exact .inl h
   · exact absurd rfl hx
   exact .inr ⟨h1,h2⟩
theorem revL_mem:∀(L:List (List Nat)) (s:Nat) (M:List (List Nat)),(∀l∈L,∀d∈l,d<M.length)→∀(x y:Nat),y∈(revL L s M)[x]?.getD []↔y∈M[x]?.getD []∨(s≤y∧x∈L[y - s]?.getD [])
 |[],s,M,_,x,y=>by simp[revL]
 | l ::L,s,M,h,x,y=>by
   rw[revL,revL_mem L (s+1) _ (fun l' hl' d hd=>by rw[revIn_len];exact h l' (by simp[hl']) d hd),revIn_mem s l M (fun d hd=>h l (by simp) d hd)];by_cases hy:y=s
   · subst hy;have:¬y+1≤y:=by omega
     simp[this]
   by_cases hs:s+1≤y
   · obtain⟨k,rfl⟩:∃k,y=s+1+k:=⟨y - (s+1),by omega⟩;have e1:s+1+k - s=k+1:=by omega
     have e2:s+1+k - (s+1)=k:=by omega
     have e3:s≤s+1+k:=by omega
     simp[e1,e2,e3,hy]
   have e3:¬s≤y:=by omega
   simp[hs,e3,hy]
theorem revF_mem {L:List (List Nat)} (h:∀l∈L,∀d∈l,d<L.length) (x y:Nat):y∈(revF L)[x]?.getD []↔x∈L[y]?.getD []:=by
 rw[revF,revL_mem L 0 _ (by simpa using h)]
 have:((List.replicate L.length ([]:List Nat))[x]?.getD [])=[]:=by
  rw[List.getElem?_replicate];split<;>rfl
 rw[this];simp
theorem lenB_in (s:Nat):∀(l:List Nat) (M:List (List Nat)) (b:Nat),lenB M b→lenB (revIn s l M) (b+l.length)
 |[],M,b,h=>by simpa[revIn]using h
 | d ::l,M,b,h=>by
   rw[revIn]
   have:lenB (M.set d (M[d]?.getD []++[s])) (b+1):=by
    by_cases hd:d<M.length
    · have he:M[d]? =some M[d]:=by simp[hd]
      have:=h.set he s;rw[he];exact this
    rw[List.set_eq_of_length_le (by omega)];exact fun m hm=>by have:=h m hm;omega
   have h2:=lenB_in s l _ _ this;simp only[List.length_cons]
   rwa [Nat.add_assoc,Nat.add_comm 1]at h2
theorem lenB_L:∀(L:List (List Nat)) (s:Nat) (M:List (List Nat)) (b:Nat),(∀l∈L,l.length≤6000)→lenB M b→lenB (revL L s M) (b+6000*L.length)
 |[],s,M,b,_,h=>by simpa[revL]using h
 | l::L,s,M,b,hl,h=>by
   rw[revL];have h1:=lenB_L L (s+1) _ _ (fun l' hl'=>hl l' (by simp[hl'])) (lenB_in s l M b h);have h2:=hl l (by simp);intro m hm;have:=h1 m hm;simp only[List.length_cons];omega
theorem rev_ok {L:List (List Nat)} (hn:L.length≤1000) (h:∀l∈L,l.length≤6000∧∀d∈l,d<L.length):okLk (revF L):=by
 intro l hl;refine⟨?_,?_⟩
 · have:=lenB_L L 0 (List.replicate L.length []) 0 (fun l hl=>(h l hl).1) (fun m hm=>by rw[(List.mem_replicate.1 hm).2];exact Nat.zero_le _) l hl;omega
 intro d hd;obtain⟨x,hx⟩:=List.mem_iff_getElem?.1 hl;have h1:d∈(revF L)[x]?.getD []:=by rw[hx];exact hd
 rw[revF_mem (fun l hl=>(h l hl).2)]at h1;rw[revF_len];by_cases hdl:d<L.length
 · exact hdl
 rw[List.getElem?_eq_none (by omega)]at h1;cases h1
end Go.Proofs.YtppjennamodfdaaGreat
