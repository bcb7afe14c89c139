/- Part 2: contracts of functions of the program and of the reference, and plain facts about what they compute; used by the proof of the claimed statement. Conditions: as each theorem states. -/
import Derived.Test.YtfjidddhehckoaaGreatK1
set_option linter.unusedSimpArgs false
set_option linter.unusedVariables false
set_option linter.unnecessarySimpa false
set_option maxRecDepth 100000
set_option maxHeartbeats 2000000
namespace Go.Proofs.YtfjidddhehckoaaGreat
open Go Go.Hl
theorem nodes_mem {ks:List Tm} {t:Tm} (ht:t∈ks):t.nodes≤nodesT ks:=by
 induction ks with
 |nil=>cases ht
 | cons a l ih=>
   simp only[nodesT];rcases List.mem_cons.1 ht with rfl|h
   · omega
   have:=ih h;omega
theorem least_con (a b:Int) (d:Nat):Con Tryz.prog 46 true [li a,li b] (.v (li (mn a b))) none d:=by
 refine con_of_HTA Tryz.func46 ?_;simp only[Tryz.f46];refine HT_sA ?_;refine HT_seq<|HT_seq<|HT_runA ?_;refine(HT_cs rfl (fun h2=>?_) fun h2=>?_)
 · (try simp only[BN]at h2);have hz:mn a b=a:=by unfold mn;split<;>omega
   refine HT_sA ?_;exact HT_rA
 (try simp only[BN]at h2);have hz:mn a b=b:=by unfold mn;split<;>omega
 refine HT_sA ?_;exact HT_rA
theorem most_con (a b:Int) (d:Nat):Con Tryz.prog 45 true [li a,li b] (.v (li (mx a b))) none d:=by
 refine con_of_HTA Tryz.func45 ?_;simp only[Tryz.f45];refine HT_sA ?_;refine HT_seq<|HT_seq<|HT_runA ?_;refine(HT_cs rfl (fun h2=>?_) fun h2=>?_)
 · (try simp only[BN]at h2);have hz:mx a b=a:=by unfold mx;split<;>omega
   refine HT_sA ?_;exact HT_rA
 (try simp only[BN]at h2);have hz:mx a b=b:=by unfold mx;split<;>omega
 refine HT_sA ?_;exact HT_rA
def absI (a:Int):Int:=if a<0 then -a else a
theorem size_con (a:Int) (h:-1048576≤a∧a≤1048576) (d:Nat):Con Tryz.prog 162 true [li a] (.v (li (absI a))) none d:=by
 have hw:IntKind.i64.wrap (-a)=-a:=wrap_in (by omega) (by omega);refine con_of_HTA Tryz.func162 ?_;simp only[Tryz.f162];refine HT_sA ?_;refine HT_seq<|HT_seq<|HT_runA ?_;refine(HT_cs rfl (fun h2=>?_) fun h2=>?_)
 · (try simp only[BN]at h2);refine HT_sA ?_;exact(HT_retE (fun h=>⟨.inr rfl,h⟩) _ (by simp[*];rfl) (by first|rfl|(simp[*,absI];done)|(simp only[resR,absI];(repeat' split)<;>first|rfl|(exfalso;omega)|simp_all)) (by simp))
 (try simp only[BN]at h2);refine HT_sA ?_;exact(HT_retE (fun h=>⟨.inr rfl,h⟩) _ (by simp[*];rfl) (by first|rfl|(simp[*,absI];done)|(simp only[resR,absI];(repeat' split)<;>first|rfl|(exfalso;omega)|simp_all)) (by simp))
def kidsR (o:Int):Int:=if o=0∨o=24 then 0 else if o=6∨o=7 then 1 else if 8≤o∧o≤22 then 2 else if o=23 then 3 else if o=25 then -2 else -1
theorem kidsR_con (o:Int) (d:Nat):Con Tryz.prog 122 true [li o] (.v (li (kidsR o))) none d:=by
 refine con_of_HTA Tryz.func122 ?_;simp only[Tryz.f122];refine HT_sA ?_;refine HT_seq<|HT_seq<|HT_runA ?_;refine HT_block<|(HT_cutU [3] (fun(z:Bool)=>[(4,.v (lb z))]) (fun(z:Bool)=>[]) (fun(z:Bool)=>z=decide (o=0∨o=24)) ?_ ?_)
 ·
  refine HT_sA ?_;refine(HT_cond rfl (fun h4=>HT_skip ?_) (fun h4=>?_))
  · (try simp only[BN]at h4);exact⟨decide (o=0∨o=24),rfl,le_mkA (fun n=>n) []⟩
  (try simp only[BN]at h4);refine HT_runA ?_;exact⟨decide (o=0∨o=24),rfl,le_mkA (fun n=>n) []⟩
 rintro _ rfl;simp only[upS,keepS,insS]
 try simp only[keepS,KN,Nat.reduceBEq,if_true,if_false,ins,Nat.reduceLT]
 refine(HT_cond rfl (fun h8=>?_) (fun h8=>?_))
 · (try simp only[BN]at h8);refine HT_sA ?_;exact(HT_retE (fun h=>⟨.inr rfl,h⟩) _ (by simp[*];rfl) (by first|rfl|(simp[*,kidsR];done)|(simp only[resR,kidsR];(repeat' split)<;>first|rfl|(exfalso;omega)|simp_all)) (by simp))
 (try simp only[BN]at h8);refine(HT_cutU [3] (fun(z:Bool)=>[(7,.v (lb z))]) (fun(z:Bool)=>[]) (fun(z:Bool)=>z=decide (o=6∨o=7)) ?_ ?_)
 ·
  refine HT_sA ?_;refine(HT_cond rfl (fun h13=>HT_skip ?_) (fun h13=>?_))
  · (try simp only[BN]at h13);exact⟨decide (o=6∨o=7),rfl,le_mkA (fun n=>n) []⟩
  (try simp only[BN]at h13);refine HT_runA ?_;exact⟨decide (o=6∨o=7),rfl,le_mkA (fun n=>n) []⟩
 rintro _ rfl;simp only[upS,keepS,insS]
 try simp only[keepS,KN,Nat.reduceBEq,if_true,if_false,ins,Nat.reduceLT]
 refine(HT_cond rfl (fun h17=>?_) (fun h17=>?_))
 · (try simp only[BN]at h17);refine HT_sA ?_;exact(HT_retE (fun h=>⟨.inr rfl,h⟩) _ (by simp[*];rfl) (by first|rfl|(simp[*,kidsR];done)|(simp only[resR,kidsR];(repeat' split)<;>first|rfl|(exfalso;omega)|simp_all)) (by simp))
 (try simp only[BN]at h17);refine(HT_cutU [3] (fun(z:Bool)=>[(10,.v (lb z))]) (fun(z:Bool)=>[]) (fun(z:Bool)=>z=decide (8≤o∧o≤22)) ?_ ?_)
 ·
  refine HT_sA ?_;refine(HT_cond rfl (fun h22=>HT_skip ?_) (fun h22=>?_))
  · (try simp only[BN]at h22);exact⟨decide (8≤o∧o≤22),rfl,le_mkA (fun n=>n) []⟩
  (try simp only[BN]at h22);refine HT_sA ?_;refine(HT_cond rfl (fun h25=>HT_skip ?_) (fun h25=>?_))
  · (try simp only[BN]at h25);exact⟨decide (8≤o∧o≤22),rfl,le_mkA (fun n=>n) []⟩
  (try simp only[BN]at h25);refine HT_sA ?_;refine(HT_cond rfl (fun h28=>HT_skip ?_) (fun h28=>?_))
  · (try simp only[BN]at h28);exact⟨decide (8≤o∧o≤22),rfl,le_mkA (fun n=>n) []⟩
  (try simp only[BN]at h28);refine HT_sA ?_;refine(HT_cond rfl (fun h31=>HT_skip ?_) (fun h31=>?_))
  · (try simp only[BN]at h31);exact⟨decide (8≤o∧o≤22),rfl,le_mkA (fun n=>n) []⟩
  (try simp only[BN]at h31);refine HT_sA ?_;refine(HT_cond rfl (fun h34=>HT_skip ?_) (fun h34=>?_))
  · (try simp only[BN]at h34);exact⟨decide (8≤o∧o≤22),rfl,le_mkA (fun n=>n) []⟩
  (try simp only[BN]at h34);refine HT_sA ?_;refine(HT_cond rfl (fun h37=>HT_skip ?_) (fun h37=>?_))
  · (try simp only[BN]at h37);exact⟨decide (8≤o∧o≤22),rfl,le_mkA (fun n=>n) []⟩
  (try simp only[BN]at h37);refine HT_sA ?_;refine(HT_cond rfl (fun h40=>HT_skip ?_) (fun h40=>?_))
  · (try simp only[BN]at h40);exact⟨decide (8≤o∧o≤22),rfl,le_mkA (fun n=>n) []⟩
  (try simp only[BN]at h40);refine HT_sA ?_;refine(HT_cond rfl (fun h43=>HT_skip ?_) (fun h43=>?_))
  · (try simp only[BN]at h43);exact⟨decide (8≤o∧o≤22),rfl,le_mkA (fun n=>n) []⟩
  (try simp only[BN]at h43);refine HT_sA ?_;refine(HT_cond rfl (fun h46=>HT_skip ?_) (fun h46=>?_))
  · (try simp only[BN]at h46);exact⟨decide (8≤o∧o≤22),rfl,le_mkA (fun n=>n) []⟩
  (try simp only[BN]at h46);refine HT_sA ?_;refine(HT_cond rfl (fun h49=>HT_skip ?_) (fun h49=>?_))
  · (try simp only[BN]at h49);exact⟨decide (8≤o∧o≤22),rfl,le_mkA (fun n=>n) []⟩
  (try simp only[BN]at h49);refine HT_sA ?_;refine(HT_cond rfl (fun h52=>HT_skip ?_) (fun h52=>?_))
  · (try simp only[BN]at h52);exact⟨decide (8≤o∧o≤22),rfl,le_mkA (fun n=>n) []⟩
  (try simp only[BN]at h52);refine HT_sA ?_;refine(HT_cond rfl (fun h55=>HT_skip ?_) (fun h55=>?_))
  · (try simp only[BN]at h55);exact⟨decide (8≤o∧o≤22),rfl,le_mkA (fun n=>n) []⟩
  (try simp only[BN]at h55);refine HT_sA ?_;refine(HT_cond rfl (fun h58=>HT_skip ?_) (fun h58=>?_))
  · (try simp only[BN]at h58);exact⟨decide (8≤o∧o≤22),rfl,le_mkA (fun n=>n) []⟩
  (try simp only[BN]at h58);refine HT_sA ?_;refine(HT_cond rfl (fun h61=>HT_skip ?_) (fun h61=>?_))
  · (try simp only[BN]at h61);exact⟨decide (8≤o∧o≤22),rfl,le_mkA (fun n=>n) []⟩
  (try simp only[BN]at h61);refine HT_runA ?_;have hz:decide (o=22)=(decide (8≤o)&&decide (o≤22)):=by rw[←Bool.decide_and,decide_eq_decide];omega
  exact⟨decide (8≤o∧o≤22),rfl,le_mkA (fun n=>n) []⟩
 rintro _ rfl;simp only[upS,keepS,insS]
 try simp only[keepS,KN,Nat.reduceBEq,if_true,if_false,ins,Nat.reduceLT]
 refine(HT_cond rfl (fun h65=>?_) (fun h65=>?_))
 · (try simp only[BN]at h65);refine HT_sA ?_;exact(HT_retE (fun h=>⟨.inr rfl,h⟩) _ (by simp[*];rfl) (by first|rfl|(simp[*,kidsR];done)|(simp only[resR,kidsR];(repeat' split)<;>first|rfl|(exfalso;omega)|simp_all)) (by simp))
 (try simp only[BN]at h65);refine HT_sA ?_;refine(HT_cond rfl (fun h69=>?_) (fun h69=>?_))
 · (try simp only[BN]at h69);refine HT_sA ?_;exact(HT_retE (fun h=>⟨.inr rfl,h⟩) _ (by simp[*];rfl) (by first|rfl|(simp[*,kidsR];done)|(simp only[resR,kidsR];(repeat' split)<;>first|rfl|(exfalso;omega)|simp_all)) (by simp))
 (try simp only[BN]at h69);refine HT_sA ?_;refine(HT_cs rfl (fun h73=>?_) fun h73=>?_)
 · (try simp only[BN]at h73);refine HT_sA ?_;exact(HT_retE (fun h=>⟨.inr rfl,h⟩) _ (by simp[*];rfl) (by first|rfl|(simp[*,kidsR];done)|(simp only[resR,kidsR];(repeat' split)<;>first|rfl|(exfalso;omega)|simp_all)) (by simp))
 (try simp only[BN]at h73);refine HT_sA ?_;exact(HT_retE (fun h=>⟨.inr rfl,h⟩) _ (by simp[*];rfl) (by first|rfl|(simp[*,kidsR];done)|(simp only[resR,kidsR];(repeat' split)<;>first|rfl|(exfalso;omega)|simp_all)) (by simp))
end Go.Proofs.YtfjidddhehckoaaGreat

namespace Go.Proofs.YtfjidddhehckoaaGreat
open Go Go.Hl
theorem St.lists {P:List St→Prop} (h:∀l,(∀s∈l,P s.then_∧P s.else_)→P l):∀l,P l:=by
 have key:∀s:St,P s.then_∧P s.else_:=by
  intro s
  induction s using St.ind with
  |h d c v n t a b bs iha ihb=>exact⟨h a iha,h b ihb⟩
 exact fun l=>h l fun s _=>key s
theorem nodesS_mem {l:List St} {s:St} (hs:s∈l):1+s.term.nodes+nodesS s.then_+nodesS s.else_≤nodesS l:=by
 induction l with
 |nil=>cases hs
 | cons x l ih=>
   simp only[nodesS];rcases List.mem_cons.1 hs with rfl|h
   · obtain⟨d,c,v,n,t,a,b,bs⟩:=s;simp only[St.nodes,St.term,St.then_,St.else_];omega
   have:=ih h;omega
def heldI (n lo hi:Int):Int:=if n<lo then lo else if hi<n then hi else n
theorem clamp_con (n lo hi:Int) (h:lo≤hi) (d:Nat):Con Tryz.prog 185 true [li n,li lo,li hi] (.v (li (heldI n lo hi))) none d:=by
 have hz:heldI n lo hi=if hi<(if n<lo then lo else n)then hi else(if n<lo then lo else n):=by
  unfold heldI
  (repeat' split)<;>omega
 refine con_of_HTA Tryz.func185 ?_;simp only[Tryz.f185];refine HT_sA ?_;refine HT_sA ?_;exact HT_rA
theorem held_con (n lo hi:Int) (d:Nat):Con Tryz.prog 77 true [li n,li lo,li hi] (.v (li (heldI n lo hi))) none d:=by
 refine con_of_HTA Tryz.func77 ?_;simp only[Tryz.f77];refine HT_sA ?_;refine HT_seq<|HT_seq<|HT_runA ?_;refine(HT_cs rfl (fun h2=>?_) fun h2=>?_)
 · (try simp only[BN]at h2);refine HT_sA ?_;exact(HT_retE (fun h=>⟨.inr rfl,h⟩) _ (by simp[*];rfl) (by first|rfl|(simp[*,heldI];done)|(simp only[resR,heldI];(repeat' split)<;>first|rfl|(exfalso;omega)|simp_all)) (by simp))
 (try simp only[BN]at h2);refine HT_seq<|HT_seq<|HT_runA ?_;refine(HT_cs rfl (fun h6=>?_) fun h6=>?_)
 · (try simp only[BN]at h6);refine HT_sA ?_;exact(HT_retE (fun h=>⟨.inr rfl,h⟩) _ (by simp[*];rfl) (by first|rfl|(simp[*,heldI];done)|(simp only[resR,heldI];(repeat' split)<;>first|rfl|(exfalso;omega)|simp_all)) (by simp))
 (try simp only[BN]at h6);refine HT_sA ?_;exact(HT_retE (fun h=>⟨.inr rfl,h⟩) _ (by simp[*];rfl) (by first|rfl|(simp[*,heldI];done)|(simp only[resR,heldI];(repeat' split)<;>first|rfl|(exfalso;omega)|simp_all)) (by simp))
theorem held_in {n lo hi:Int} (h:lo≤hi):lo≤heldI n lo hi∧heldI n lo hi≤hi:=by
 unfold heldI
 (repeat' split)<;>omega
def onceI (m c:Int):Int:=if 0<m then c else 0
mutual
def spS:St→Int×Int
 | .mk d c _ n (.mk o tn _) a b _=>
   if d=3 then(heldI c 0 67108865+mn (spL a (0,0)).1 (spL b (0,0)).1,heldI c 0 67108865+mx (spL a (0,0)).2 (spL b (0,0)).2)
   else if d=4 then
    (if o≠0 then(onceI (heldI n 0 4096) (heldI c 0 67108865),heldI n 0 4096*(heldI c 0 67108865+(spL a (0,0)).2))
     else if tn≠0 then(heldI n 0 4096*(heldI c 0 67108865+(spL a (0,0)).1),heldI n 0 4096*(heldI c 0 67108865+(spL a (0,0)).2))
     else(onceI (heldI n 0 4096) (heldI c 0 67108865),onceI (heldI n 0 4096) (heldI c 0 67108865)))
   else(heldI c 0 67108865,heldI c 0 67108865)
def spL:List St→Int×Int→Int×Int
 |[],p=>p
 |s::l,p=>spL l (mn (p.1+(spS s).1) 67108865,mn (p.2+(spS s).2) 67108865)
end
theorem mulT {m z:Int} (hm:0≤m∧m≤4096) (hz:0≤z∧z≤134217730):0≤m*z∧m*z≤549755822080:=by
 have h1:m.natAbs*z.natAbs≤4096*134217730:=Nat.mul_le_mul (by omega) (by omega);rw[←Int.natAbs_mul]at h1;have h2:=Int.mul_nonneg hm.1 hz.1;omega
def inT (p:Int×Int):Prop:=0≤p.1∧p.1≤67108865∧0≤p.2∧p.2≤67108865
def inU (p:Int×Int):Prop:=0≤p.1∧p.1≤549755822080∧0≤p.2∧p.2≤549755822080
theorem inT0:inT (0,0):=⟨by decide,by decide,by decide,by decide⟩
theorem once_in {m c:Int} (hc:0≤c∧c≤67108865):0≤onceI m c∧onceI m c≤67108865:=by
 unfold onceI;split<;>omega
theorem mn_in {a:Int} (h:0≤a):0≤mn a 67108865∧mn a 67108865≤67108865:=by
 unfold mn;split<;>omega
mutual
theorem spS_in:∀s:St,inU (spS s)
 | .mk d c v n (.mk o tn ks) a b bs=>by
   have ha:=spL_in a (0,0) inT0;have hb:=spL_in b (0,0) inT0;have hc:=held_in (n:=c) (lo:=0) (hi:=67108865) (by decide);have hn:=held_in (n:=n) (lo:=0) (hi:=4096) (by decide);have ho:=once_in (m:=heldI n 0 4096) hc;unfold inT at ha hb;have h1:=mulT hn (z:=heldI c 0 67108865+(spL a (0,0)).1) (by omega);have h2:=mulT hn (z:=heldI c 0 67108865+(spL a (0,0)).2) (by omega);unfold inU;simp only[spS];split
   · simp only[mn,mx]
     (repeat' split)<;>omega
   split
   · split
     · simp only;omega
     split
     · simp only;omega
     simp only;omega
   simp only;omega
theorem spL_in:∀(l:List St) (p:Int×Int),inT p→inT (spL l p)
 |[],p,h=>h
 | s::l,p,h=>by
   have hs:=spS_in s;simp only[spL];refine spL_in l _ ?_;unfold inT inU at*;have h1:=mn_in (a:=p.1+(spS s).1) (by omega);have h2:=mn_in (a:=p.2+(spS s).2) (by omega);simp only;omega
end
theorem spanP_con (l:List St):nodesS l≤1000000000→∀d:Nat,Con Tryz.prog 159 true [lS l] (.tup [li (spL l (0,0)).1,li (spL l (0,0)).2]) none d:=by
 revert l
 apply St.lists;intro l ih hn d;have hlen:=len_nodesS l;obtain⟨res,hres⟩:∃r,spL l (0,0)=r:=⟨_,rfl⟩;rw[hres];refine con_of_HTA Tryz.func159 ?_;simp only[Tryz.f159];refine HT_sA ?_;refine HT_seq<|HT_seq<|HT_runA ?_;refine HT_block<|(HT_loopU [17,18] (fun(x:Nat×Int×Int)=>[(2,.v (li x.2.1)),(3,.v (li x.2.2)),(19,.v (li x.1))]) (fun x=>[]) (fun x=>x.1≤l.length∧spL (l.drop x.1) x.2=res∧inT x.2) (fun x=>l.length - x.1) (0,0,0) ⟨Nat.zero_le _,hres,inT0⟩ ?_ ?_)
 · exact le_mkA (fun n=>n) []
 rintro⟨k,m,q⟩ ⟨hk,hJ,hin⟩;simp only[upS,keepS,insS]
 try simp only[keepS,KN,Nat.reduceBEq,if_true,if_false,ins,Nat.reduceLT]
 simp only at hk hJ;unfold inT at hin;simp only at hin;clear hres;refine HT_sA ?_;refine HT_seq<|(HT_cond rfl (fun h4=>HT_skip ?_) (fun h4=>?_))
 · (try simp only[BN]at h4);have hlt:k<l.length:=by omega
   obtain⟨s,he,hd⟩:=at_lt hlt;have hmem:s∈l:=List.mem_of_getElem? he;have hnm:=nodesS_mem hmem;have iha:=fun h=>(ih s hmem).1 h;have ihb:=fun h=>(ih s hmem).2 h;have hw1:=wrap1 hlt (by omega);have hk1:k+1≤l.length:=hlt;rw[hd]at hJ;simp only[spL]at hJ;have hsin:=spS_in s;obtain⟨pq,hpq⟩:∃pq,spS s=pq:=⟨_,rfl⟩;rw[hpq]at hJ hsin;obtain⟨sd,sc,sv,sn,⟨so,stn,sks⟩,sa,sb,sbs⟩:=s;simp only[St.then_,St.else_,St.term]at iha ihb hnm;have ca:=iha (by omega);have cb:=ihb (by omega);have he':=get_encS he;simp only[St.enc,Tm.enc,List.cons_append,List.nil_append]at he';simp only[spS]at hpq;have hxa:=spL_in sa (0,0) inT0;have hxb:=spL_in sb (0,0) inT0;obtain⟨xa,hxa'⟩:∃x,spL sa (0,0)=x:=⟨_,rfl⟩;obtain⟨xb,hxb'⟩:∃x,spL sb (0,0)=x:=⟨_,rfl⟩;have hci:=held_in (n:=sc) (lo:=0) (hi:=67108865) (by decide);have hni:=held_in (n:=sn) (lo:=0) (hi:=4096) (by decide);obtain⟨cc,hcc⟩:∃x,heldI sc 0 67108865=x:=⟨_,rfl⟩;obtain⟨nn,hnn⟩:∃x,heldI sn 0 4096=x:=⟨_,rfl⟩;have c1:=clamp_con sc 0 67108865 (by decide);have c2:=clamp_con sn 0 4096 (by decide);rw[hxa']at ca hxa hpq;rw[hxb']at cb hxb hpq;rw[hcc]at c1 hci hpq;rw[hnn]at c2 hni hpq;unfold inT at hxa hxb;unfold inU at hsin;clear hlt h4 iha ihb ih hxa' hxb' hcc hnn hmem hnm hd he;refine HT_seq<|HT_block<|HT_seq<|HT_runA ?_;refine HT_seq<|(HT_drunc [⟨true,.v (li cc),none⟩,⟨true,.v (li nn),none⟩] (by kernel_rfl) (by kernel_rfl) (by rfl) (by simp[*];first|exact⟨rfl,Iff.rfl⟩|exact⟨rfl,trivial⟩|rfl) ?_ ?_)
   · first|exact⟨c1 _,c2 _⟩|exact trivial|(repeat' first|exact trivial|exact c1 _|exact c2 _|apply And.intro)
   refine HT_sA ?_;refine(HT_cutU [2,3,17,18,19] (fun(z:Unit)=>[(8,.v (li pq.1)),(9,.v (li pq.2))]) (fun(z:Unit)=>[]) (fun(z:Unit)=>True) ?_ ?_)
   ·
    refine HT_sA ?_;refine HT_block<|HT_seq<|HT_runA ?_;refine(HT_cond rfl (fun h11=>?_) (fun h11=>?_))
    · (try simp only[BN]at h11);rw[if_pos h11]at hpq;subst hpq;have hmn:(if xb.1<xa.1 then xb.1 else xa.1)=mn xa.1 xb.1:=rfl;have hmx:(if xa.2<xb.2 then xb.2 else xa.2)=mx xa.2 xb.2:=rfl;have hw2:IntKind.i64.wrap (cc+mn xa.1 xb.1)=cc+mn xa.1 xb.1:=wrap_in (by simp only at hsin;omega) (by simp only at hsin;omega);have hw3:IntKind.i64.wrap (cc+mx xa.2 xb.2)=cc+mx xa.2 xb.2:=wrap_in (by simp only at hsin;omega) (by simp only at hsin;omega);clear hsin;refine HT_scA [⟨true,.tup [li xa.1,li xa.2],none⟩] ?_ ?_
      · first|exact ca _|exact trivial|simpa[*]using ca _
      refine HT_scA [⟨true,.tup [li xb.1,li xb.2],none⟩] ?_ ?_
      · first|exact cb _|exact trivial|simpa[*]using cb _
      refine HT_runA ?_;exact⟨(),trivial,le_mkA (fun n=>n) []⟩
    (try simp only[BN]at h11);rw[if_neg h11]at hpq;refine HT_sA ?_;refine(HT_cs rfl (fun h17=>?_) fun h17=>?_)
    · (try simp only[BN]at h17);rw[if_pos h17]at hpq
      have hon:IntKind.i64.wrap ((if 1<nn then 1 else nn)*cc)=onceI nn cc:=by
       have:(if 1<nn then 1 else nn)*cc=onceI nn cc:=by
        unfold onceI;by_cases h:0<nn
        · rw[if_pos h];have:(if 1<nn then 1 else nn)=1:=by split<;>omega
          rw[this,Int.one_mul]
        rw[if_neg h];have:(if 1<nn then 1 else nn)=0:=by split<;>omega
        rw[this,Int.zero_mul]
       rw[this];have:=once_in (m:=nn) hci;exact wrap_in (by omega) (by omega)
      have hm1:=mulT hni (z:=cc+xa.1) (by omega);have hm2:=mulT hni (z:=cc+xa.2) (by omega);have hw2:IntKind.i64.wrap (cc+xa.1)=cc+xa.1:=wrap_in (by omega) (by omega);have hw3:IntKind.i64.wrap (cc+xa.2)=cc+xa.2:=wrap_in (by omega) (by omega);have hw4:IntKind.i64.wrap (nn*(cc+xa.1))=nn*(cc+xa.1):=wrap_in (by omega) (by omega);have hw5:IntKind.i64.wrap (nn*(cc+xa.2))=nn*(cc+xa.2):=wrap_in (by omega) (by omega);clear hm1 hm2;refine HT_scA [⟨true,.tup [li xa.1,li xa.2],none⟩] ?_ ?_
      · first|exact ca _|exact trivial|simpa[*]using ca _
      refine HT_sA ?_;refine HT_block<|HT_seq<|HT_runA ?_;refine(HT_cond rfl (fun h21=>?_) (fun h21=>?_))
      · (try simp only[BN]at h21);rw[if_pos h21]at hpq;subst hpq;refine HT_runA ?_;exact⟨(),trivial,le_mkA (fun n=>n) []⟩
      (try simp only[BN]at h21);rw[if_neg (fun h=>h h21)]at hpq;refine HT_sA ?_;refine(HT_cond rfl (fun h25=>?_) (fun h25=>?_))
      · (try simp only[BN]at h25);rw[if_pos h25]at hpq;subst hpq;refine HT_runA ?_;exact⟨(),trivial,le_mkA (fun n=>n) []⟩
      (try simp only[BN]at h25);rw[if_neg (fun h=>h h25)]at hpq;subst hpq;refine HT_runA ?_;exact⟨(),trivial,le_mkA (fun n=>n) []⟩
    (try simp only[BN]at h17);rw[if_neg h17]at hpq;subst hpq;exact⟨(),trivial,le_mkA (fun n=>n) []⟩
   rintro z hz;simp only[upS,keepS,insS]
   try simp only[keepS,KN,Nat.reduceBEq,if_true,if_false,ins,Nat.reduceLT]
   clear hpq ca cb c1 c2 hci hni hxa hxb;have hw2:IntKind.i64.wrap (m+pq.1)=m+pq.1:=wrap_in (by omega) (by omega);have hw3:IntKind.i64.wrap (q+pq.2)=q+pq.2:=wrap_in (by omega) (by omega);have hm1:=mn_in (a:=m+pq.1) (by omega);have hm2:=mn_in (a:=q+pq.2) (by omega);have hmn1:(if 67108865<m+pq.1 then 67108865 else m+pq.1)=mn (m+pq.1) 67108865:=rfl;have hmn2:(if 67108865<q+pq.2 then 67108865 else q+pq.2)=mn (q+pq.2) 67108865:=rfl;refine HT_runA ?_;refine HT_runA ?_;exact⟨(k+1,mn (m+pq.1) 67108865,mn (q+pq.2) 67108865),⟨hk1,hJ,hm1.1,hm1.2,hm2.1,hm2.2⟩,by simp only;omega,le_mkA (fun n=>n) []⟩
 (try simp only[BN]at h4);have hkl:k=l.length:=by omega
 rw[hkl,List.drop_length]at hJ;simp only[spL]at hJ;subst hJ;refine(HT_exit ?_);refine HT_sA ?_;exact HT_rA
end Go.Proofs.YtfjidddhehckoaaGreat

namespace Go.Proofs.YtfjidddhehckoaaGreat
open Go Go.Hl
abbrev wr (x:Int):Int:=IntKind.i64.wrap x
def flagI (b:Bool):Int:=if b=true then 1 else 0
def divI (a b:Int):Int:=
 if b=0 then 0 else if(!decide (a.tmod b=0)&&(decide (a<0)!=decide (b<0)))=true then wr (wr (a.tdiv b) - 1)else wr (a.tdiv b)
def modI (a b:Int):Int:=if b=0 then 0 else wr (a - wr (b*divI a b))
def binI (o a b:Int):Int:=
 if o=8 then wr (a+b)else if o=9 then wr (a - b)else if o=10 then wr (a*b)else if o=11 then divI a b else if o=12 then modI a b
 else if o=13 then flagI (decide (a=b))else if o=14 then flagI (!decide (a=b))else if o=15 then flagI (decide (a<b))else if o=16 then flagI (decide (a≤b))
 else if o=17 then flagI (decide (b<a))else if o=18 then flagI (decide (b≤a))else if o=19 then flagI (!decide (a=0)&& !decide (b=0))
 else if o=20 then flagI (!decide (a=0)|| !decide (b=0))else if o=21 then mn a b else mx a b
end Go.Proofs.YtfjidddhehckoaaGreat

namespace Go.Proofs.YtfjidddhehckoaaGreat
open Go Go.Hl
theorem takeM {α β:Type} (f:α→β) (l:List α):(l.map f).take l.length=l.map f:=by
 rw[List.take_of_length_le (by simp)]
def modL (b:Int×Int):Int:=if b.1<0 then mn (b.1+1) 0 else 0
def modH (b:Int×Int):Int:=if 0<b.2 then mx (b.2 - 1) 0 else 0
@[simp] def g2 (k:List (Int×Int)) (i:Nat):Int×Int:=k[i]?.getD ((0:Int),(0:Int))
def ruleP (vars:List Vr) (o n:Int) (k:List (Int×Int)):Int×Int:=
 if o=0 then(n,n)else if o=24 then(match vars[n.toNat]? with|some v=>(v.low,v.high)|none=>(0,0))
 else if o=6 then(-(g2 k 0).2,-(g2 k 0).1)
 else if o=8 then((g2 k 0).1+(g2 k 1).1,(g2 k 0).2+(g2 k 1).2)
 else if o=9 then((g2 k 0).1 - (g2 k 1).2,(g2 k 0).2 - (g2 k 1).1)
 else if o=10 then mulP (g2 k 0) (g2 k 1)
 else if o=11 then(if 0≤(g2 k 0).1∧0≤(g2 k 1).1 then(0,mx (g2 k 0).2 (-(g2 k 0).1))else(-(mx (g2 k 0).2 (-(g2 k 0).1)),mx (g2 k 0).2 (-(g2 k 0).1)))
 else if o=12 then(modL (g2 k 1),modH (g2 k 1))
 else if o=21 then(mn (g2 k 0).1 (g2 k 1).1,mn (g2 k 0).2 (g2 k 1).2)
 else if o=22 then(mx (g2 k 0).1 (g2 k 1).1,mx (g2 k 0).2 (g2 k 1).2)
 else if o=23∨o=25 then hullL (k.drop 2) (g2 k 1)else(0,1)
theorem kid {k:List (Int×Int)} (hk:∀p∈k,bnd p) {i:Nat} (h:i+1≤k.length):∃a1 a2,k[i]? =some (a1,a2)∧-1048576≤a1∧a1≤a2∧a2≤1048576:=by
 have:k[i]? =some k[i]:=by simp[show i<k.length from h]
 have h2:=hk k[i] (List.getElem_mem _);exact⟨k[i].1,k[i].2,this,h2⟩
theorem node_ar {vars:List Vr} {inp:Bool} {o n:Int} {len:Nat} (h:nodeB vars inp o n len=true):0≤(kidsP o).1∧(kidsP o).1≤len∧(len:Int)≤(kidsP o).2:=by
 unfold nodeB at h;simp only[Bool.and_eq_true,Bool.not_eq_true',decide_eq_false_iff_not]at h;omega
theorem node_ref {vars:List Vr} {inp:Bool} {n:Int} {len:Nat} (h:nodeB vars inp 24 n len=true):0≤n∧∃v,vars[n.toNat]? =some v∧(inp=true→v.kind≠0):=by
 unfold nodeB refB at h;simp only[Bool.and_eq_true,Int.reduceEq,if_false,if_true,decide_eq_true_eq]at h;obtain⟨_,h0,h⟩:=h;refine⟨h0,?_⟩;split at h
 · rename_i v hv;refine⟨v,hv,fun hi hk=>?_⟩;simp[hi,hk]at h
 cases h
theorem kids1 {o:Int} (h:o=6∨o=7):kidsP o=(1,1):=by
 unfold kidsP;rw[if_neg (by omega),if_pos h]
theorem kids2 {o:Int} (h:8≤o∧o≤22):kidsP o=(2,2):=by
 unfold kidsP;rw[if_neg (by omega),if_neg (by omega),if_pos h]
theorem kids3:kidsP 23=(3,3):=by decide
theorem kids4:kidsP 25=(2,33):=by decide
theorem rule_con (vars:List Vr) (inp:Bool) (o n:Int) (K:CD) (k:List (Int×Int)) (hf:nodeB vars inp o n k.length=true) (hk:∀p∈k,bnd p) (d:Nat):
  Con Tryz.prog 201 true [lV vars,.agg [.c (iC o),.c (iC n),.c K],.one (.c (.sl 2 (encPs k)))] (.v (aP (ruleP vars o n k))) none d:=by
 have har:=node_ar hf;have hrf:o=24→0≤n∧∃v,vars[n.toNat]? =some v∧(inp=true→v.kind≠0):=fun h=>node_ref (by rw[←h];exact hf);clear hf;have ar1:o=6→0+1≤k.length:=fun h=>by have:=kids1 (.inl h);rw[this]at har;simp only at har;omega
 have ar2:8≤o∧o≤22→0+1≤k.length∧1+1≤k.length:=fun h=>by have:=kids2 h;rw[this]at har;simp only at har;omega
 have ar3:o=23∨o=25→2≤k.length∧k.length≤33:=fun h=>by
  rcases h with h|h
  · have:=kids3;rw[h,this]at har;simp only at har;omega
  have:=kids4;rw[h,this]at har;simp only at har;omega
 clear har;refine con_of_HTA Tryz.func201 ?_;simp only[Tryz.f201];refine HT_sA ?_;refine HT_seq<|HT_seq<|HT_runA ?_;refine HT_block<|HT_seq<|HT_runA ?_;refine(HT_cond rfl (fun h3=>?_) (fun h3=>?_))
 · (try simp only[BN]at h3);refine HT_sA ?_;exact(HT_retE (fun h=>⟨.inr rfl,h⟩) _ (by simp[*];rfl) (by first|rfl|(simp[*,ruleP];done)|(simp only[resR,ruleP];(repeat' split)<;>first|rfl|(exfalso;omega)|simp_all)) (by simp))
 (try simp only[BN]at h3);refine HT_sA ?_;refine(HT_cond rfl (fun h7=>?_) (fun h7=>?_))
 · (try simp only[BN]at h7);obtain⟨hn0,v,hv,_⟩:=hrf h7;clear hrf;refine HT_seq<|(HT_drun (by kernel_rfl) (by kernel_rfl) (by rfl) (by simp[*];rfl) ?_);exact(HT_retE (fun h=>⟨.inr rfl,h⟩) _ (by simp[*];rfl) (by first|rfl|(simp[*,ruleP];done)|(simp only[resR,ruleP];(repeat' split)<;>first|rfl|(exfalso;omega)|simp_all)) (by simp))
 (try simp only[BN]at h7);refine HT_sA ?_;refine(HT_cond rfl (fun h11=>?_) (fun h11=>?_))
 · (try simp only[BN]at h11);obtain⟨a1,a2,ha,hb1,hb2,hb3⟩:=kid hk (ar1 h11);have hw1:IntKind.i64.wrap (-a1)=-a1:=wrap_in (by omega) (by omega);have hw2:IntKind.i64.wrap (-a2)=-a2:=wrap_in (by omega) (by omega);clear ar1 ar2 ar3;refine HT_seq<|(HT_drun (by kernel_rfl) (by kernel_rfl) (by rfl) (by simp[*];rfl) ?_);exact(HT_retE (fun h=>⟨.inr rfl,h⟩) _ (by simp[*];rfl) (by first|rfl|(simp[*,ruleP];done)|(simp only[resR,ruleP];(repeat' split)<;>first|rfl|(exfalso;omega)|simp_all)) (by simp))
 (try simp only[BN]at h11);refine HT_sA ?_;refine(HT_cond rfl (fun h15=>?_) (fun h15=>?_))
 · (try simp only[BN]at h15);obtain⟨a1,a2,ha,hb1,hb2,hb3⟩:=kid hk (ar2 (by omega)).1;obtain⟨c1,c2,hc,hc1,hc2,hc3⟩:=kid hk (ar2 (by omega)).2;have hw1:IntKind.i64.wrap (a1+c1)=a1+c1:=wrap_in (by omega) (by omega);have hw2:IntKind.i64.wrap (a2+c2)=a2+c2:=wrap_in (by omega) (by omega);clear ar1 ar2 ar3;refine HT_seq<|(HT_drun (by kernel_rfl) (by kernel_rfl) (by rfl) (by simp[*];rfl) ?_);exact(HT_retE (fun h=>⟨.inr rfl,h⟩) _ (by simp[*];rfl) (by first|rfl|(simp[*,ruleP];done)|(simp only[resR,ruleP];(repeat' split)<;>first|rfl|(exfalso;omega)|simp_all)) (by simp))
 (try simp only[BN]at h15);refine HT_sA ?_;refine(HT_cond rfl (fun h19=>?_) (fun h19=>?_))
 · (try simp only[BN]at h19);obtain⟨a1,a2,ha,hb1,hb2,hb3⟩:=kid hk (ar2 (by omega)).1;obtain⟨c1,c2,hc,hc1,hc2,hc3⟩:=kid hk (ar2 (by omega)).2;have hw1:IntKind.i64.wrap (a1 - c2)=a1 - c2:=wrap_in (by omega) (by omega);have hw2:IntKind.i64.wrap (a2 - c1)=a2 - c1:=wrap_in (by omega) (by omega);clear ar1 ar2 ar3;refine HT_seq<|(HT_drun (by kernel_rfl) (by kernel_rfl) (by rfl) (by simp[*];rfl) ?_);exact(HT_retE (fun h=>⟨.inr rfl,h⟩) _ (by simp[*];rfl) (by first|rfl|(simp[*,ruleP];done)|(simp only[resR,ruleP];(repeat' split)<;>first|rfl|(exfalso;omega)|simp_all)) (by simp))
 (try simp only[BN]at h19);refine HT_sA ?_;refine(HT_cond rfl (fun h23=>?_) (fun h23=>?_))
 · (try simp only[BN]at h23);obtain⟨a1,a2,ha,hb1,hb2,hb3⟩:=kid hk (ar2 (by omega)).1;obtain⟨c1,c2,hc,hc1,hc2,hc3⟩:=kid hk (ar2 (by omega)).2;clear ar1 ar2 ar3;refine HT_seq<|(HT_drunc [⟨true,.v (aP (mulP (a1,a2) (c1,c2))),none⟩] (by kernel_rfl) (by kernel_rfl) (by rfl) (by simp[*];first|exact⟨rfl,Iff.rfl⟩|exact⟨rfl,trivial⟩|rfl) ?_ ?_)
   · first|exact corners_con (a1,a2) (c1,c2) ⟨hb1,hb2,hb3⟩ ⟨hc1,hc2,hc3⟩ _|exact trivial|simpa[*]using corners_con (a1,a2) (c1,c2) ⟨hb1,hb2,hb3⟩ ⟨hc1,hc2,hc3⟩ _
   exact(HT_retE (fun h=>⟨.inr rfl,h⟩) _ (by simp[*];rfl) (by first|rfl|(simp[*,ruleP];done)|(simp only[resR,ruleP];(repeat' split)<;>first|rfl|(exfalso;omega)|simp_all)) (by simp))
 (try simp only[BN]at h23);refine HT_sA ?_;refine(HT_cond rfl (fun h27=>?_) (fun h27=>?_))
 · (try simp only[BN]at h27);obtain⟨a1,a2,ha,hb1,hb2,hb3⟩:=kid hk (ar2 (by omega)).1;obtain⟨c1,c2,hc,hc1,hc2,hc3⟩:=kid hk (ar2 (by omega)).2;have hw1:IntKind.i64.wrap (-a1)=-a1:=wrap_in (by omega) (by omega);have hm:-1048576≤mx a2 (-a1)∧mx a2 (-a1)≤1048576:=by unfold mx;split<;>omega
   have hw2:IntKind.i64.wrap (-(mx a2 (-a1)))=-(mx a2 (-a1)):=wrap_in (by omega) (by omega);have hmx:(if a2< -a1 then -a1 else a2)=mx a2 (-a1):=rfl;clear ar1 ar2 ar3;refine HT_seq<|(HT_drun (by kernel_rfl) (by kernel_rfl) (by rfl) (by simp[*];rfl) ?_);refine HT_seq<|HT_seq<|HT_runA ?_;refine(HT_cs rfl (fun h30=>?_) fun h30=>?_)
   · (try simp only[BN]at h30);refine HT_sA ?_;exact(HT_retE (fun h=>⟨.inr rfl,h⟩) _ (by simp[*];rfl) (by first|rfl|(simp[*,ruleP];done)|(simp only[resR,ruleP];(repeat' split)<;>first|rfl|(exfalso;omega)|simp_all)) (by simp))
   (try simp only[BN]at h30);have hng:¬(0≤a1∧0≤c1):=by omega
   refine HT_sA ?_;exact(HT_retE (fun h=>⟨.inr rfl,h⟩) _ (by simp[*];rfl) (by first|rfl|(simp[*,ruleP];done)|(simp only[resR,ruleP];(repeat' split)<;>first|rfl|(exfalso;omega)|simp_all)) (by simp))
 (try simp only[BN]at h27);refine HT_sA ?_;refine(HT_cond rfl (fun h36=>?_) (fun h36=>?_))
 · (try simp only[BN]at h36);obtain⟨c1,c2,hc,hc1,hc2,hc3⟩:=kid hk (ar2 (by omega)).2;have hw1:IntKind.i64.wrap (c1+1)=c1+1:=wrap_in (by omega) (by omega);have hw2:IntKind.i64.wrap (c2 - 1)=c2 - 1:=wrap_in (by omega) (by omega);have hmn:(if 0<c1+1 then 0 else c1+1)=mn (c1+1) 0:=rfl;have hmx:(if c2 - 1<0 then 0 else c2 - 1)=mx (c2 - 1) 0:=rfl;clear ar1 ar2 ar3;refine HT_sA ?_;refine(HT_cutU [2,6,8] (fun(z:Int)=>[]) (fun(z:Int)=>[(6,.box [.c (iC 0),.c (iC 0)]),(8,.box [.c (iC z),.c (iC 0)])]) (fun(z:Int)=>z=modL (c1,c2)) ?_ ?_)
   ·
    refine HT_sA ?_;refine(HT_cs rfl (fun h40=>?_) fun h40=>?_)
    · (try simp only[BN]at h40);have hml:mn (c1+1) 0=modL (c1,c2):=by simp only[modL];rw[if_pos h40]
      refine HT_runA ?_;exact⟨modL (c1,c2),rfl,le_mkA (fun n=>n) []⟩
    (try simp only[BN]at h40);have hml:(0:Int)=modL (c1,c2):=by simp only[modL];rw[if_neg h40]
    exact⟨modL (c1,c2),rfl,le_mkA (fun n=>n) []⟩
   rintro _ rfl;simp only[upS,keepS,insS]
   try simp only[keepS,KN,Nat.reduceBEq,if_true,if_false,ins,Nat.reduceLT]
   refine HT_seq<|HT_seq<|HT_runA ?_;refine(HT_cs rfl (fun h45=>?_) fun h45=>?_)
   · (try simp only[BN]at h45);have hmh:mx (c2 - 1) 0=modH (c1,c2):=by simp only[modH];rw[if_pos h45]
     refine HT_runA ?_;refine HT_sA ?_;exact(HT_retE (fun h=>⟨.inr rfl,h⟩) _ (by simp[*];rfl) (by first|rfl|(simp[*,ruleP];done)|(simp only[resR,ruleP];(repeat' split)<;>first|rfl|(exfalso;omega)|simp_all)) (by simp))
   (try simp only[BN]at h45);have hmh:modH (c1,c2)=0:=by simp only[modH];rw[if_neg h45]
   refine HT_sA ?_;exact(HT_retE (fun h=>⟨.inr rfl,h⟩) _ (by simp[*];rfl) (by first|rfl|(simp[*,ruleP];done)|(simp only[resR,ruleP];(repeat' split)<;>first|rfl|(exfalso;omega)|simp_all)) (by simp))
 (try simp only[BN]at h36);refine HT_sA ?_;refine(HT_cond rfl (fun h52=>?_) (fun h52=>?_))
 · (try simp only[BN]at h52);obtain⟨a1,a2,ha,hb1,hb2,hb3⟩:=kid hk (ar2 (by omega)).1;obtain⟨c1,c2,hc,hc1,hc2,hc3⟩:=kid hk (ar2 (by omega)).2;clear ar1 ar2 ar3;refine HT_seq<|(HT_drun (by kernel_rfl) (by kernel_rfl) (by rfl) (by simp[*];rfl) ?_);exact(HT_retE (fun h=>⟨.inr rfl,h⟩) _ (by simp[*];rfl) (by simp[*,ruleP,resR,mn]) (by simp))
 (try simp only[BN]at h52);refine HT_sA ?_;refine(HT_cond rfl (fun h56=>?_) (fun h56=>?_))
 · (try simp only[BN]at h56);obtain⟨a1,a2,ha,hb1,hb2,hb3⟩:=kid hk (ar2 (by omega)).1;obtain⟨c1,c2,hc,hc1,hc2,hc3⟩:=kid hk (ar2 (by omega)).2;clear ar1 ar2 ar3;refine HT_seq<|(HT_drun (by kernel_rfl) (by kernel_rfl) (by rfl) (by simp[*];rfl) ?_);exact(HT_retE (fun h=>⟨.inr rfl,h⟩) _ (by simp[*];rfl) (by simp[*,ruleP,resR,mx]) (by simp))
 (try simp only[BN]at h56);refine(HT_cutU [2,6] (fun(z:Bool)=>[(200,.v (lb z))]) (fun(z:Bool)=>[(6,.box [.c (iC 0),.c (iC 0)])]) (fun(z:Bool)=>z=decide (o=23∨o=25)) ?_ ?_)
 ·
  refine HT_sA ?_;refine(HT_cond rfl (fun h61=>HT_skip ?_) (fun h61=>?_))
  · (try simp only[BN]at h61);exact⟨true,by simp[h61],le_mkA (fun n=>n) []⟩
  (try simp only[BN]at h61);refine HT_runA ?_;exact⟨decide (o=25),by simp[h61],le_mkA (fun n=>n) []⟩
 rintro z hz;simp only[upS,keepS,insS]
 try simp only[keepS,KN,Nat.reduceBEq,if_true,if_false,ins,Nat.reduceLT]
 subst hz;obtain⟨res,hres⟩:∃r,ruleP vars o n k=r:=⟨_,rfl⟩;rw[hres];simp only[ruleP,h3,h7,h11,h15,h19,h23,h27,h36,h52,h56,if_false]at hres;refine(HT_cs rfl (fun h65=>?_) fun h65=>?_)
 · (try simp only[BN]at h65);have h2:=ar3 h65;rw[if_pos h65]at hres;clear ar1 ar2 ar3 h65;rcases k with _|⟨a,_|⟨c,r⟩⟩
   · simp at h2
   · simp at h2
   have hr33:r.length≤31:=by simp only[List.length_cons]at h2;omega
   clear h2;simp at hres;refine HT_seq<|(HT_run (by simp[*,encPs];rfl) ?_);refine HT_seq<|HT_seq<|(HT_run (by simp[*,encPs,takeM];rfl) ?_);refine HT_block<|(HT_loopU [6,9,207,208] (fun(x:Nat×Int×Int)=>[(209,.v (li x.1))]) (fun x=>[(6,.box [.c (iC 0),.c (iC 0)]),(9,.box [.c (iC x.2.1),.c (iC x.2.2)])]) (fun x=>x.1≤r.length∧hullL (r.drop x.1) x.2=res) (fun x=>r.length - x.1) (0,c) ⟨Nat.zero_le _,hres⟩ ?_ ?_)
   · exact le_mkA (fun n=>n) []
   rintro⟨k,m,q⟩ ⟨hk',hJ⟩;simp only[upS,keepS,insS]
   try simp only[keepS,KN,Nat.reduceBEq,if_true,if_false,ins,Nat.reduceLT]
   simp only at hk' hJ;clear hres;refine HT_sA ?_;refine HT_seq<|(HT_cond rfl (fun h70=>HT_skip ?_) (fun h70=>?_))
   · (try simp only[BN]at h70);have hlt:k<r.length:=by omega
     obtain⟨⟨e1,e2⟩,he,hd⟩:=at_lt hlt;have hw1:=wrap1 hlt (by omega);rw[hd]at hJ;simp only[hullL]at hJ;have hk1:k+1≤r.length:=hlt;clear hlt h70;refine HT_seq<|HT_block<|HT_seq<|HT_runA ?_;refine(HT_runcA [⟨true,.v (aP (hullP (m,q) (e1,e2))),none⟩] ?_ ?_)
     · first|exact hull_con (m,q) (e1,e2) _|exact trivial|simpa[*]using hull_con (m,q) (e1,e2) _
     refine HT_runA ?_;exact⟨(k+1,hullP (m,q) (e1,e2)),⟨hk1,hJ⟩,by simp only;omega,le_mkA (fun n=>n) []⟩
   (try simp only[BN]at h70);have hkl:k=r.length:=by omega
   rw[hkl,List.drop_length]at hJ;simp only[hullL]at hJ;refine(HT_exit ?_);refine HT_sA ?_;exact(HT_retE (fun h=>⟨.inr rfl,h⟩) _ (by simp[*];rfl) (by subst hJ;rfl) (by simp))
 (try simp only[BN]at h65);rw[if_neg h65]at hres;subst hres;refine HT_sA ?_;exact(HT_retE (fun h=>⟨.inr rfl,h⟩) _ (by simp[*];rfl) (by first|rfl|(simp[*,ruleP];done)|(simp only[resR,ruleP];(repeat' split)<;>first|rfl|(exfalso;omega)|simp_all)) (by simp))
end Go.Proofs.YtfjidddhehckoaaGreat

namespace Go.Proofs.YtfjidddhehckoaaGreat
open Go Go.Hl
def selI (k0:Int) (len:Nat):Int:=wr (1+heldI k0 0 (wr ((len:Int) - 2)))
def valN (vs:List Int) (o n:Int) (k:List Int):Int:=
 if o=0 then n else if o=24 then(vs[n.toNat]?).getD 0 else if o=6 then wr (-((k[0]?).getD 0))else if o=7 then flagI (decide ((k[0]?).getD 0=0))
 else if o=23 then(if(k[0]?).getD 0=0 then(k[2]?).getD 0 else(k[1]?).getD 0)
 else if o=25 then(k[(selI ((k[0]?).getD 0) k.length).toNat]?).getD 0
 else binI o ((k[0]?).getD 0) ((k[1]?).getD 0)
mutual
def vT (vs:List Int):Tm→Int
 | .mk o n ks=>valN vs o n (vTs vs ks)
def vTs (vs:List Int):List Tm→List Int
 |[]=>[]
 |t::l=>vT vs t::vTs vs l
end
end Go.Proofs.YtfjidddhehckoaaGreat
