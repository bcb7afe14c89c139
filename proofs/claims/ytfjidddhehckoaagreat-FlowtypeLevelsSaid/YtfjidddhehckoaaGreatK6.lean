/- Part 6: contracts of functions of the program and of the reference, and plain facts about what they compute; used by the proof of the claimed statement. Conditions: as each theorem states. -/
import Derived.Test.YtfjidddhehckoaaGreatK5
import Derived.Test.YtfjidddhehckoaaGreatK4
import Derived.Test.YtfjidddhehckoaaGreatK2
set_option linter.unusedSimpArgs false
set_option linter.unusedVariables false
set_option linter.unnecessarySimpa false
set_option maxRecDepth 100000
set_option maxHeartbeats 2000000
namespace Go.Proofs.YtfjidddhehckoaaGreat
open Go Go.Hl
theorem okL_mem {l:List St} (h:okL l=true) {s:St} (hs:s∈l):okS s=true:=by
 induction l with
 |nil=>cases hs
 | cons x l ih=>
   simp only[okL,Bool.and_eq_true]at h;rcases List.mem_cons.1 hs with rfl|h1
   · exact h.1
   exact ih h.2 h1
abbrev aB (p:B3):TV:=.agg [.c (iC p.s),.c (iC p.o),.c (iC p.t)]
theorem upper_con (l:List St):nodesS l≤1000000000→okL l=true→∀d:Nat,Con Tryz.prog 119 true [lS l] (.v (aB (bdL CP l ⟨0,0,0⟩))) none d:=by
 revert l
 apply St.lists;intro l ih hn hok d;have hlen:=len_nodesS l;obtain⟨res,hres⟩:∃r,bdL CP l ⟨0,0,0⟩=r:=⟨_,rfl⟩;rw[hres];refine con_of_HTA Tryz.func119 ?_;simp only[Tryz.f119];refine HT_seq<|(HT_run (by simp[*,add3,CP];rfl) ?_);refine HT_seq<|(HT_run (by simp[*,add3,CP];rfl) ?_);refine HT_seq<|HT_seq<|(HT_run (by simp[*,add3,CP];rfl) ?_);refine HT_block<|(HT_loopU [2,3,9,10] (fun(x:Nat×B3)=>[(11,.v (li x.1))]) (fun x=>[(2,.box [.c (iC 0),.c (iC 0),.c (iC 0)]),(3,.box [.c (iC x.2.s),.c (iC x.2.o),.c (iC x.2.t)])]) (fun x=>x.1≤l.length∧bdL CP (l.drop x.1) x.2=res∧in3 CP x.2) (fun x=>l.length - x.1) (0,⟨0,0,0⟩) ⟨Nat.zero_le _,hres,in3_0 nnCP⟩ ?_ ?_)
 · exact le_mk (fun n=>n) [] rfl (by simp[*,upS,keepS,add3,CP]) (by simp[*,upS]) (by simp[upS])
 rintro⟨k,⟨m1,m2,m3⟩⟩ ⟨hk,hJ,hin⟩;simp only[upS,keepS,insS]
 try simp only[keepS,KN,Nat.reduceBEq,if_true,if_false,ins,Nat.reduceLT]
 simp only at hk hJ;unfold in3 CP at hin;simp only at hin;clear hres;refine HT_seq<|(HT_run (by simp[*,add3,CP];rfl) ?_);refine HT_seq<|(HT_cond rfl (fun h5=>HT_skip ?_) (fun h5=>?_))
 · (try simp only[BN]at h5);have hlt:k<l.length:=by omega
   obtain⟨s,he,hd⟩:=at_lt hlt;have hmem:s∈l:=List.mem_of_getElem? he;have hnm:=nodesS_mem hmem;have hos:=okL_mem hok hmem;have iha:=fun h=>(ih s hmem).1 h;have ihb:=fun h=>(ih s hmem).2 h;have hw1:=wrap1 hlt (by omega);have hk1:k+1≤l.length:=hlt;rw[hd]at hJ;simp only[bdL]at hJ;have hsin:=bdS_nn nnCP s hos;obtain⟨pq,hpq⟩:∃pq,bdS CP s=pq:=⟨_,rfl⟩;rw[hpq]at hJ hsin;obtain⟨sd,sc,sv,sn,⟨so,stn,sks⟩,sa,sb,sbs⟩:=s;simp only[St.then_,St.else_,St.term]at iha ihb hnm;simp only[okS,Bool.and_eq_true,Bool.or_eq_true,decide_eq_true_eq]at hos;have ca:=iha (by omega) hos.2.2.1;have cb:=ihb (by omega) hos.2.2.2;have he':=get_encS he;simp only[St.enc,Tm.enc,List.cons_append,List.nil_append]at he';simp only[bdS]at hpq;have hxa:=bdL_in nnCP sa ⟨0,0,0⟩ hos.2.2.1 (in3_0 nnCP);have hxb:=bdL_in nnCP sb ⟨0,0,0⟩ hos.2.2.2 (in3_0 nnCP);obtain⟨xa,hxa'⟩:∃x,bdL CP sa ⟨0,0,0⟩=x:=⟨_,rfl⟩;obtain⟨xb,hxb'⟩:∃x,bdL CP sb ⟨0,0,0⟩=x:=⟨_,rfl⟩;rw[hxa']at ca hxa hpq;rw[hxb']at cb hxb hpq;unfold in3 CP at hxa hxb;unfold nn3 at hsin;simp only at hxa hxb;obtain⟨a1,a2,a3⟩:=xa;obtain⟨b1,b2,b3⟩:=xb;obtain⟨q1,q2,q3⟩:=pq;simp only at hxa hxb hsin;have hcost:=hos.1;unfold bd1 at hpq;simp only[mx]at hpq;clear hlt h5 iha ihb ih hxa' hxb' hmem hnm hd he hos;refine HT_seq<|HT_block<|HT_seq<|(HT_run (by simp[*,add3,CP];rfl) ?_);refine HT_seq<|(HT_run (by simp[*,add3,CP];rfl) ?_);refine HT_seq<|(HT_drunc [⟨true,.v (aB ⟨a1,a2,a3⟩),none⟩,⟨true,.v (aB ⟨b1,b2,b3⟩),none⟩] (by kernel_rfl) (by kernel_rfl) (by rfl) (by simp[*,add3,CP];first|exact⟨rfl,Iff.rfl⟩|exact⟨rfl,trivial⟩|rfl) ?_ ?_)
   · first|exact⟨ca _,cb _⟩|exact trivial|(repeat' first|exact trivial|exact ca _|exact cb _|apply And.intro)
   refine(HT_cutU [2,3,6,9,10,11] (fun(z:Unit)=>[]) (fun(z:Unit)=>[(2,.box [.c (iC 0),.c (iC 0),.c (iC 0)]),(3,.box [.c (iC m1),.c (iC m2),.c (iC m3)]),(6,.box [.c (iC q1),.c (iC q2),.c (iC q3)])]) (fun(z:Unit)=>q1≤4503874505281537∧q2≤4503874505281537∧q3≤4503874505281537) ?_ ?_)
   ·
    refine HT_seq<|(HT_run (by simp[*,add3,CP];rfl) ?_);refine HT_block<|HT_seq<|(HT_run (by simp[*,add3,CP];rfl) ?_);refine(HT_cond rfl (fun h12=>?_) (fun h12=>?_))
    · (try simp only[BN]at h12);rw[if_neg (by omega),if_neg (by omega),if_pos h12]at hpq;simp only[B3.mk.injEq]at hpq;obtain⟨p1,p2,p3⟩:=hpq;subst p1 p2 p3;refine(HT_run (by simp[*,add3,CP];rfl) ?_);exact⟨(),⟨by omega,by omega,by omega⟩,le_mkA (fun n=>n) []⟩
    (try simp only[BN]at h12);refine HT_seq<|(HT_run (by simp[*,add3,CP];rfl) ?_);refine(HT_cond rfl (fun h16=>?_) (fun h16=>?_))
    · (try simp only[BN]at h16);rw[if_neg (by omega),if_pos h16]at hpq;simp only[B3.mk.injEq]at hpq;obtain⟨p1,p2,p3⟩:=hpq;have hw2:IntKind.i64.wrap (1+(if a1<b1 then b1 else a1))=q1:=by rw[←p1];exact wrap_in (by split<;>omega) (by split<;>omega)
      have hw3:IntKind.i64.wrap (sc+(if a3<b3 then b3 else a3))=q3:=by rw[←p3];exact wrap_in (by split<;>omega) (by split<;>omega)
      have hq:q1≤4503874505281537∧q2≤4503874505281537∧q3≤4503874505281537:=by
       rw[←p1,←p2,←p3];refine⟨?_,?_,?_⟩<;>split<;>omega
      clear p1 p3;refine HT_seq<|(HT_run (by simp[*,add3,CP];rfl) ?_);refine HT_seq<|(HT_run (by simp[*,add3,CP];rfl) ?_);refine(HT_run (by simp[*,add3,CP];rfl) ?_);exact⟨(),hq,le_mkA (fun n=>n) []⟩
    (try simp only[BN]at h16);refine HT_seq<|(HT_run (by simp[*,add3,CP];rfl) ?_);refine(HT_cs rfl (fun h22=>?_) fun h22=>?_)
    · (try simp only[BN]at h22);rw[if_pos h22]at hpq;simp only[B3.mk.injEq]at hpq;obtain⟨p1,p2,p3⟩:=hpq;have hnn:0≤sn∧sn≤4096:=by omega
      have m4:=mulN hnn (z:=1+a1) (by omega);have m5:=mulN hnn (z:=a2) (by omega);have m6:=mulN hnn (z:=sc+a3) (by omega);have hw2:IntKind.i64.wrap (1+a1)=1+a1:=wrap_in (by omega) (by omega);have hw3:IntKind.i64.wrap (sn*(1+a1))=sn*(1+a1):=wrap_in (by omega) (by omega);have hw4:IntKind.i64.wrap (1+sn*(1+a1))=q1:=by rw[←p1];exact wrap_in (by omega) (by omega)
      have hw5:IntKind.i64.wrap (sn*a2)=q2:=by rw[←p2];exact wrap_in (by omega) (by omega)
      have hw6:IntKind.i64.wrap (sc+a3)=sc+a3:=wrap_in (by omega) (by omega);have hw7:IntKind.i64.wrap (sn*(sc+a3))=q3:=by rw[←p3];exact wrap_in (by omega) (by omega)
      have hq:q1≤4503874505281537∧q2≤4503874505281537∧q3≤4503874505281537:=by omega
      clear p1 p2 p3 m4 m5 m6;refine HT_seq<|(HT_run (by simp[*,add3,CP];rfl) ?_);refine HT_seq<|(HT_run (by simp[*,add3,CP];rfl) ?_);refine(HT_run (by simp[*,add3,CP];rfl) ?_);exact⟨(),hq,le_mkA (fun n=>n) []⟩
    (try simp only[BN]at h22);rw[if_neg h22,if_neg h16,if_neg h12]at hpq;simp only[B3.mk.injEq]at hpq;obtain⟨p1,p2,p3⟩:=hpq;subst p1 p2 p3;exact⟨(),⟨by omega,by omega,by omega⟩,le_mkA (fun n=>n) []⟩
   rintro _ ⟨hq1,hq2,hq3⟩;simp only[upS,keepS,insS]
   try simp only[keepS,KN,Nat.reduceBEq,if_true,if_false,ins,Nat.reduceLT]
   clear hpq ca cb hxa hxb;have hw2:IntKind.i64.wrap (m1+q1)=m1+q1:=wrap_in (by omega) (by omega);have hw3:IntKind.i64.wrap (m2+q2)=m2+q2:=wrap_in (by omega) (by omega);have hw4:IntKind.i64.wrap (m3+q3)=m3+q3:=wrap_in (by omega) (by omega);have hmn1:(if 1099511627776<m1+q1 then 1099511627776 else m1+q1)=mn (m1+q1) 1099511627776:=rfl;have hmn2:(if 1099511627776<m2+q2 then 1099511627776 else m2+q2)=mn (m2+q2) 1099511627776:=rfl;have hmn3:(if 1099511627776<m3+q3 then 1099511627776 else m3+q3)=mn (m3+q3) 1099511627776:=rfl;have hin2:in3 CP (add3 CP ⟨m1,m2,m3⟩ ⟨q1,q2,q3⟩):=add3_in nnCP ⟨hin.1,hin.2.2.1,hin.2.2.2.2.1⟩ ⟨hsin.1,hsin.2.1,hsin.2.2⟩;refine HT_seq<|(HT_run (by simp[*,add3,CP];rfl) ?_);refine HT_seq<|(HT_run (by simp[*,add3,CP];rfl) ?_);refine(HT_run (by simp[*,add3,CP];rfl) ?_);refine(HT_run (by simp[*,add3,CP];rfl) ?_);exact⟨(k+1,add3 CP ⟨m1,m2,m3⟩ ⟨q1,q2,q3⟩),⟨hk1,hJ,hin2⟩,by simp only;omega,le_mk (fun n=>n) [] rfl (by simp[upS,keepS, *,add3,CP]) (by simp[*,upS,add3,CP]) (by simp[upS])⟩
 (try simp only[BN]at h5);have hkl:k=l.length:=by omega
 rw[hkl,List.drop_length]at hJ;simp only[bdL]at hJ;subst hJ;refine(HT_exit ?_);refine HT_seq<|(HT_run (by simp[*,add3,CP];rfl) ?_);exact(HT_retE (fun h=>⟨.inr rfl,h⟩) _ (by simp[*,add3,CP];rfl) (by first|rfl|(simp[*];done)|(simp only[resR];(repeat' split)<;>first|rfl|(exfalso;omega)|simp_all)) (by simp))
theorem boundsR_con (l:List St):nodesS l≤1000000000→okL l=true→∀d:Nat,Con Tryz.prog 20 true [lS l] (.tup [li (bdL CR l ⟨0,0,0⟩).s,li (bdL CR l ⟨0,0,0⟩).o,li (bdL CR l ⟨0,0,0⟩).t]) none d:=by
 revert l
 apply St.lists;intro l ih hn hok d;have hlen:=len_nodesS l;obtain⟨res,hres⟩:∃r,bdL CR l ⟨0,0,0⟩=r:=⟨_,rfl⟩;rw[hres];refine con_of_HTA Tryz.func20 ?_;simp only[Tryz.f20];refine HT_seq<|(HT_run (by simp[*,add3,CR];rfl) ?_);refine HT_seq<|(HT_run (by simp[*,add3,CR];rfl) ?_);refine HT_seq<|HT_seq<|(HT_run (by simp[*,add3,CR];rfl) ?_);refine HT_block<|(HT_loopU [0] (fun(x:Nat×B3)=>[(5,.v (li x.2.s)),(6,.v (li x.2.o)),(7,.v (li x.2.t)),(8,.v (li x.1))]) (fun x=>[]) (fun x=>x.1≤l.length∧bdL CR (l.drop x.1) x.2=res∧in3 CR x.2) (fun x=>l.length - x.1) (0,⟨0,0,0⟩) ⟨Nat.zero_le _,hres,in3_0 nnCR⟩ ?_ ?_)
 · exact le_mk (fun n=>n) [] rfl (by simp[*,upS,keepS,add3,CR]) (by simp[*,upS]) (by simp[upS])
 rintro⟨k,⟨m1,m2,m3⟩⟩ ⟨hk,hJ,hin⟩;simp only[upS,keepS,insS]
 try simp only[keepS,KN,Nat.reduceBEq,if_true,if_false,ins,Nat.reduceLT]
 simp only at hk hJ;unfold in3 CR at hin;simp only at hin;clear hres;refine HT_seq<|HT_seq<|(HT_run (by simp[*,add3,CR];rfl) ?_);refine(HT_cond rfl (fun h5=>HT_skip ?_) (fun h5=>?_))
 · (try simp only[BN]at h5);have hlt:k<l.length:=by omega
   obtain⟨s,he,hd⟩:=at_lt hlt;have hmem:s∈l:=List.mem_of_getElem? he;have hnm:=nodesS_mem hmem;have hos:=okL_mem hok hmem;have iha:=fun h=>(ih s hmem).1 h;have ihb:=fun h=>(ih s hmem).2 h;have hw1:=wrap1 hlt (by omega);have hk1:k+1≤l.length:=hlt;rw[hd]at hJ;simp only[bdL]at hJ;have hsin:=bdS_nn nnCR s hos;obtain⟨pq,hpq⟩:∃pq,bdS CR s=pq:=⟨_,rfl⟩;rw[hpq]at hJ hsin;obtain⟨sd,sc,sv,sn,⟨so,stn,sks⟩,sa,sb,sbs⟩:=s;simp only[St.then_,St.else_,St.term]at iha ihb hnm;simp only[okS,Bool.and_eq_true,Bool.or_eq_true,decide_eq_true_eq,List.isEmpty_iff]at hos;have ca:=iha (by omega) hos.2.2.1;have cb:=ihb (by omega) hos.2.2.2;have he':=get_encS he;simp only[St.enc,Tm.enc,List.cons_append,List.nil_append]at he';simp only[bdS]at hpq;have hxa:=bdL_in nnCR sa ⟨0,0,0⟩ hos.2.2.1 (in3_0 nnCR);have hxb:=bdL_in nnCR sb ⟨0,0,0⟩ hos.2.2.2 (in3_0 nnCR);obtain⟨xa,hxa'⟩:∃x,bdL CR sa ⟨0,0,0⟩=x:=⟨_,rfl⟩;obtain⟨xb,hxb'⟩:∃x,bdL CR sb ⟨0,0,0⟩=x:=⟨_,rfl⟩
   have hz:sd≠3→sd≠4→xa=⟨0,0,0⟩∧xb=⟨0,0,0⟩:=by
    intro h3 h4;rcases hos.2.1 with h|h|h
    · exact absurd h h3
    · exact absurd h h4
    rw[←hxa',←hxb',h.1,h.2];exact⟨rfl,rfl⟩
   rw[hxa']at ca hxa hpq;rw[hxb']at cb hxb hpq;unfold in3 CR at hxa hxb;unfold nn3 at hsin;simp only at hxa hxb;obtain⟨a1,a2,a3⟩:=xa;obtain⟨b1,b2,b3⟩:=xb;obtain⟨q1,q2,q3⟩:=pq;simp only[B3.mk.injEq]at hz;simp only at hxa hxb hsin;have hcost:=hos.1;unfold bd1 at hpq;simp only at hpq;have hmx1:0≤mx a1 b1∧mx a1 b1≤4097:=by unfold mx;split<;>omega
   have hmx2:0≤mx a2 b2∧mx a2 b2≤9:=by unfold mx;split<;>omega
   have hmx3:0≤mx a3 b3∧mx a3 b3≤67108865:=by unfold mx;split<;>omega
   have hw2:IntKind.i64.wrap (1+mx a1 b1)=1+mx a1 b1:=wrap_in (by omega) (by omega);have hw3:IntKind.i64.wrap (sc+mx a3 b3)=sc+mx a3 b3:=wrap_in (by omega) (by omega);clear hlt h5 iha ihb ih hxa' hxb' hmem hnm hd he hos;refine HT_seq<|HT_block<|HT_seq<|(HT_run (by simp[*,add3,CR];rfl) ?_);refine HT_seq<|(HT_runc [⟨true,.tup [li a1,li a2,li a3],none⟩] (by simp[*,add3,CR];first|exact⟨rfl,Iff.rfl⟩|exact⟨rfl,trivial⟩|rfl) ?_ ?_)
   · first|exact ca _|exact trivial|simpa[*,add3,CR]using ca _
   refine HT_seq<|(HT_runc [⟨true,.tup [li b1,li b2,li b3],none⟩] (by simp[*,add3,CR];first|exact⟨rfl,Iff.rfl⟩|exact⟨rfl,trivial⟩|rfl) ?_ ?_)
   · first|exact cb _|exact trivial|simpa[*,add3,CR]using cb _
   refine HT_seq<|(HT_drunc [⟨true,.v (li (mx a1 b1)),none⟩,⟨true,.v (li (mx a2 b2)),none⟩,⟨true,.v (li (mx a3 b3)),none⟩] (by kernel_rfl) (by kernel_rfl) (by rfl) (by simp[*,add3,CR];first|exact⟨rfl,Iff.rfl⟩|exact⟨rfl,trivial⟩|rfl) ?_ ?_)
   · first|exact⟨most_con _ _ _,most_con _ _ _,most_con _ _ _⟩|exact trivial|(repeat' first|exact trivial|exact most_con _ _ _|exact most_con _ _ _|exact most_con _ _ _|apply And.intro)
   refine(HT_cutU [0,5,6,7,8,9] (fun(z:Int)=>[(16,.v (li q1)),(17,.v (li z)),(18,.v (li q3))]) (fun(z:Int)=>[(9,.box [.c (iC sd),.c (iC sc),.c (iC sv),.c (iC sn),.c (iC so),.c (iC stn),.c (.sl 3 (encTs sks)),.c (.sl 10 (encSs sa)),.c (.sl 10 (encSs sb)),.c (.sl 1 (encIs sbs))])]) (fun(z:Int)=>(sd≠1→z=q2)∧(sd=1→q2=1)∧q1≤4503874505281537∧q2≤4503874505281537∧q3≤4503874505281537) ?_ ?_)
   ·
    refine HT_seq<|(HT_run (by simp[*,add3,CR];rfl) ?_);refine(HT_cs rfl (fun h12=>?_) fun h12=>?_)
    · (try simp only[BN]at h12);rw[if_pos h12]at hpq;simp only[B3.mk.injEq]at hpq;obtain⟨p1,p2,p3⟩:=hpq;have hnn:0≤sn∧sn≤4096:=by omega
      have m4:=mulN hnn (z:=1+a1) (by omega);have m5:=mulN hnn (z:=a2) (by omega);have m6:=mulN hnn (z:=sc+a3) (by omega);have hw2:IntKind.i64.wrap (1+a1)=1+a1:=wrap_in (by omega) (by omega);have hw3:IntKind.i64.wrap (sn*(1+a1))=sn*(1+a1):=wrap_in (by omega) (by omega);have hw4:IntKind.i64.wrap (1+sn*(1+a1))=q1:=by rw[←p1];exact wrap_in (by omega) (by omega)
      have hw5:IntKind.i64.wrap (sn*a2)=q2:=by rw[←p2];exact wrap_in (by omega) (by omega)
      have hw6:IntKind.i64.wrap (sc+a3)=sc+a3:=wrap_in (by omega) (by omega);have hw7:IntKind.i64.wrap (sn*(sc+a3))=q3:=by rw[←p3];exact wrap_in (by omega) (by omega)
      have hq:q1≤4503874505281537∧q2≤4503874505281537∧q3≤4503874505281537:=by omega
      clear p1 p2 p3 m4 m5 m6 hz;refine(HT_drun (by kernel_rfl) (by kernel_rfl) (by rfl) (by simp[*,add3,CR];rfl) ?_);exact⟨q2,⟨fun _=>rfl,fun h=>absurd h (by omega),hq⟩,le_mkA (fun n=>n) []⟩
    try simp only[BN]at h12
    have hfin:q1=1+mx a1 b1∧q3=sc+mx a3 b3∧(sd≠1→mx a2 b2=q2)∧(sd=1→q2=1):=by
     rw[if_neg h12]at hpq;by_cases h3:sd=3
     · rw[if_pos h3]at hpq;simp only[B3.mk.injEq]at hpq;exact⟨hpq.1.symm,hpq.2.2.symm,fun _=>hpq.2.1,fun h=>absurd h (by omega)⟩
     rw[if_neg h3]at hpq;obtain⟨⟨e1,e2,e3⟩,e4,e5,e6⟩:=hz h3 h12;subst e1 e2 e3 e4 e5 e6;by_cases h1:sd=1
     · rw[if_pos h1]at hpq;simp only[B3.mk.injEq]at hpq;exact⟨by rw[←hpq.1];rfl,by rw[←hpq.2.2];simp[mx],fun h=>absurd h1 h,fun _=>hpq.2.1.symm⟩
     rw[if_neg h1]at hpq;simp only[B3.mk.injEq]at hpq;exact⟨by rw[←hpq.1];rfl,by rw[←hpq.2.2];simp[mx],fun _=>by rw[←hpq.2.1];rfl,fun h=>absurd h h1⟩
    obtain⟨f1,f2,f3,f4⟩:=hfin;have hq1:q1≤4503874505281537:=by omega
    have hq3:q3≤4503874505281537:=by omega
    have hq2:q2≤4503874505281537:=by
     by_cases h:sd=1
     · have:=f4 h;omega
     have:=f3 h;omega
    clear hpq hz;exact⟨mx a2 b2,⟨f3,f4,hq1,hq2,hq3⟩,le_mkA (fun n=>n) []⟩
   rintro z2 ⟨hz2,hz3,hq⟩;simp only[upS,keepS,insS]
   try simp only[keepS,KN,Nat.reduceBEq,if_true,if_false,ins,Nat.reduceLT]
   clear hpq hz hw2 hw3 ca cb;refine(HT_cutU [0,5,6,7,8,16,18] (fun(z:Unit)=>[(17,.v (li q2))]) (fun(z:Unit)=>[]) (fun(z:Unit)=>True) ?_ ?_)
   ·
    refine HT_seq<|(HT_run (by simp[*,add3,CR];rfl) ?_);refine(HT_cs rfl (fun h18=>?_) fun h18=>?_)
    · (try simp only[BN]at h18);have hq21:=hz3 h18;refine(HT_run (by simp[*,add3,CR];rfl) ?_);exact⟨(),trivial,le_mkA (fun n=>n) []⟩
    (try simp only[BN]at h18);have hq21:=hz2 h18;exact⟨(),trivial,le_mkA (fun n=>n) []⟩
   rintro _ _;simp only[upS,keepS,insS]
   try simp only[keepS,KN,Nat.reduceBEq,if_true,if_false,ins,Nat.reduceLT]
   clear hz2 hz3;obtain⟨hq1,hq2,hq3⟩:=hq;have hw2:IntKind.i64.wrap (m1+q1)=m1+q1:=wrap_in (by omega) (by omega);have hw3:IntKind.i64.wrap (m2+q2)=m2+q2:=wrap_in (by omega) (by omega);have hw4:IntKind.i64.wrap (m3+q3)=m3+q3:=wrap_in (by omega) (by omega);have hin2:in3 CR (add3 CR ⟨m1,m2,m3⟩ ⟨q1,q2,q3⟩):=add3_in nnCR ⟨hin.1,hin.2.2.1,hin.2.2.2.2.1⟩ ⟨hsin.1,hsin.2.1,hsin.2.2⟩;refine HT_seq<|(HT_runc [⟨true,.v (li (mn (m1+q1) 4097)),none⟩] (by simp[*,add3,CR];first|exact⟨rfl,Iff.rfl⟩|exact⟨rfl,trivial⟩|rfl) ?_ ?_)
   · first|exact least_con _ _ _|exact trivial|simpa[*,add3,CR]using least_con _ _ _
   refine HT_seq<|(HT_runc [⟨true,.v (li (mn (m2+q2) 9)),none⟩] (by simp[*,add3,CR];first|exact⟨rfl,Iff.rfl⟩|exact⟨rfl,trivial⟩|rfl) ?_ ?_)
   · first|exact least_con _ _ _|exact trivial|simpa[*,add3,CR]using least_con _ _ _
   refine(HT_runc [⟨true,.v (li (mn (m3+q3) 67108865)),none⟩] (by simp[*,add3,CR];first|exact⟨rfl,Iff.rfl⟩|exact⟨rfl,trivial⟩|rfl) ?_ ?_)
   · first|exact least_con _ _ _|exact trivial|simpa[*,add3,CR]using least_con _ _ _
   refine(HT_run (by simp[*,add3,CR];rfl) ?_);exact⟨(k+1,add3 CR ⟨m1,m2,m3⟩ ⟨q1,q2,q3⟩),⟨hk1,hJ,hin2⟩,by simp only;omega,le_mk (fun n=>n) [] rfl (by simp[upS,keepS, *,add3,CR]) (by simp[*,upS,add3,CR]) (by simp[upS])⟩
 (try simp only[BN]at h5);have hkl:k=l.length:=by omega
 rw[hkl,List.drop_length]at hJ;simp only[bdL]at hJ;subst hJ;refine(HT_exit ?_);refine HT_seq<|(HT_run (by simp[*,add3,CR];rfl) ?_);exact(HT_retE (fun h=>⟨.inr rfl,h⟩) _ (by simp[*,add3,CR];rfl) (by first|rfl|(simp[*];done)|(simp only[resR];(repeat' split)<;>first|rfl|(exfalso;omega)|simp_all)) (by simp))
end Go.Proofs.YtfjidddhehckoaaGreat

namespace Go.Proofs.YtfjidddhehckoaaGreat
open Go Go.Hl
theorem varsR_con (vars:List Vr) (hl:vars.length≤1000000) (d:Nat):Con Tryz.prog 48 true [lV vars] (.v (li (varsC vars))) none d:=by
 obtain⟨res,hres⟩:∃r,varsC vars=r:=⟨_,rfl⟩;rw[hres];obtain⟨cd,hcd⟩:∃r,vcs [] vars=r:=⟨_,rfl⟩;have hgood:cd=0→goodV' vars:=fun h=>vcs_good vars [] (hcd.trans h);unfold varsC at hres;rw[hcd]at hres;refine con_of_HTA Tryz.func48 ?_;simp only[Tryz.f48];refine HT_sA ?_;refine HT_seq<|HT_seq<|HT_runA ?_;refine HT_block<|(HT_loopU [0] (fun(x:Nat)=>[(3,.v (li x))]) (fun x=>[]) (fun x=>x≤vars.length∧vcs (vars.take x) (vars.drop x)=cd) (fun x=>vars.length - x) (0:Nat) ⟨Nat.zero_le _,hcd⟩ ?_ ?_)
 · exact le_mkA (fun n=>n) []
 rintro k ⟨hk,hJ⟩;simp only[upS,keepS,insS]
 try simp only[keepS,KN,Nat.reduceBEq,if_true,if_false,ins,Nat.reduceLT]
 clear hcd;refine HT_seq<|HT_seq<|HT_runA ?_;refine(HT_cond rfl (fun h4=>HT_skip ?_) (fun h4=>?_))
 · (try simp only[BN]at h4);have hlt:k<vars.length:=by omega
   obtain⟨v,he,hd⟩:=at_lt hlt;have hw1:=wrap1 hlt (by omega);have hk1:k+1≤vars.length:=hlt;have hkl:(vars.take k).length=k:=by rw[List.length_take];omega
   rw[hd]at hJ;simp only[vcs]at hJ;rw[←take_snoc he]at hJ;clear hlt h4 hgood hd;refine HT_seq<|HT_block<|HT_seq<|HT_runA ?_;refine HT_seq<|HT_seq<|(HT_runcA [⟨true,.v (lb (nameB v.name)),none⟩] ?_ ?_)
   · first|exact nameR_con _ _|exact trivial|simpa[*]using nameR_con _ _
   refine(HT_cs rfl (fun h7=>?_) fun h7=>?_)
   · (try simp only[BN]at h7);have hc:vcode (vars.take k) v=7:=by unfold vcode;rw[if_pos h7]
     rw[hc,if_neg (by decide)]at hJ;subst hJ;rw[if_neg (by decide)]at hres;subst hres;refine HT_sA ?_;exact HT_rA
   (try simp only[BN]at h7);refine HT_seq<|HT_seq<|HT_runA ?_;refine HT_block<|(HT_loopU [0,3,4] (fun(x:Nat)=>[(5,.v (li x))]) (fun x=>[(4,.box [.c (sC v.name),.c (iC v.kind),.c (iC v.low),.c (iC v.high),.c (iC v.init)])]) (fun x=>x≤k∧∀j:Nat,j<x→∀w,vars[j]? =some w→w.name≠v.name) (fun x=>k - x) (0:Nat) ⟨Nat.zero_le _,fun j hj=>absurd hj (Nat.not_lt_zero j)⟩ ?_ ?_)
   · exact le_mkA (fun n=>n) []
   rintro j ⟨hj,hno⟩;simp only[upS,keepS,insS]
   try simp only[keepS,KN,Nat.reduceBEq,if_true,if_false,ins,Nat.reduceLT]
   refine HT_seq<|HT_seq<|HT_runA ?_;refine(HT_cond rfl (fun h13=>HT_skip ?_) (fun h13=>?_))
   · (try simp only[BN]at h13);have hjk:j<k:=by omega
     obtain⟨w,hw⟩:∃w,vars[j]? =some w:=⟨vars[j],by simp[show j<vars.length by omega]⟩;have hwj:=wrap1 hjk (by omega);have hj1:j+1≤k:=hjk
     have hmemw:w∈vars.take k:=by
      have:(vars.take k)[j]? =some w:=by rw[List.getElem?_take_of_lt hjk];exact hw
      exact List.mem_of_getElem? this
     clear hjk h13;refine HT_seq<|HT_block<|HT_seq<|(HT_drun (by kernel_rfl) (by kernel_rfl) (by rfl) (by simp[*];rfl) ?_);refine(HT_cs rfl (fun h15=>?_) fun h15=>?_)
     · try simp only[BN]at h15
       have hany:((vars.take k).any fun w=>decide (w.name=v.name))=true:=by
        rw[List.any_eq_true];exact⟨w,hmemw,by simpa using h15⟩
       have hc:vcode (vars.take k) v=8:=by unfold vcode;rw[if_neg (by simp[h7]),if_pos hany]
       rw[hc,if_neg (by decide)]at hJ;subst hJ;rw[if_neg (by decide)]at hres;subst hres;refine HT_sA ?_;exact HT_rA
     (try simp only[BN]at h15);refine HT_runA ?_
     exact⟨j+1,⟨hj1,fun i hi u hu=>by
      rcases Nat.lt_or_eq_of_le (Nat.le_of_lt_succ hi)with h|h
      · exact hno i h u hu
      subst h;rw[hw]at hu;cases hu
      simpa using h15⟩,by omega,le_mkA (fun n=>n) []⟩
   (try simp only[BN]at h13);have hjk:j=k:=by omega
   subst hjk
   have hany:((vars.take j).any fun w=>decide (w.name=v.name))=false:=by
    rw[List.any_eq_false];intro w hw;obtain⟨i,hi⟩:=List.mem_iff_getElem?.1 hw;have hij:i<j:=by have:=(List.getElem?_eq_some_iff.1 hi).1;omega
    rw[List.getElem?_take_of_lt hij]at hi;simpa using hno i hij w hi
   clear hno hkl;refine(HT_exit ?_);refine HT_seq<|HT_seq<|HT_runA ?_;refine(HT_cs rfl (fun h21=>?_) fun h21=>?_)
   · (try simp only[BN]at h21);have hc:vcode (vars.take j) v=1:=by unfold vcode;rw[if_neg (by simp[h7]),if_neg (by simp[hany]),if_pos (by omega)]
     rw[hc,if_neg (by decide)]at hJ;subst hJ;rw[if_neg (by decide)]at hres;subst hres;refine HT_sA ?_;exact HT_rA
   (try simp only[BN]at h21);have hc:vcode (vars.take j) v=if kindBad v then 3 else 0:=by unfold vcode;rw[if_neg (by simp[h7]),if_neg (by simp[hany]),if_neg (by omega)]
   clear hany;refine HT_seq<|HT_seq<|(HT_runcA [⟨true,.v (lb (boundedB v.low v.high)),none⟩] ?_ ?_)
   · first|exact boundedR_con _ _ _|exact trivial|simpa[*]using boundedR_con _ _ _
   refine(HT_cs rfl (fun h25=>?_) fun h25=>?_)
   · (try simp only[BN]at h25);rw[if_pos (.inl h25)]at hc;rw[hc,if_neg (by decide)]at hJ;subst hJ;rw[if_neg (by decide)]at hres;subst hres;refine HT_sA ?_;exact HT_rA
   (try simp only[BN]at h25);refine HT_sA ?_;refine(HT_cs rfl (fun h29=>?_) fun h29=>?_)
   · try simp only[BN]at h29
     have hkb:kindBad v:=by
      unfold kindBad;omega
     rw[if_pos hkb]at hc;rw[hc,if_neg (by decide)]at hJ;subst hJ;rw[if_neg (by decide)]at hres;subst hres;refine HT_sA ?_;exact HT_rA
   try simp only[BN]at h29
   have hkb:¬kindBad v:=by
    unfold kindBad;rw[h25];rintro(h|h|h)
    · cases h
    · omega
    omega
   rw[if_neg hkb]at hc;rw[hc,if_pos rfl]at hJ;refine HT_runA ?_;exact⟨j+1,⟨hk1,hJ⟩,by omega,le_mkA (fun n=>n) []⟩
 (try simp only[BN]at h4);have hkl:k=vars.length:=by omega
 rw[hkl,List.drop_length]at hJ;simp only[vcs]at hJ;have hv:=hgood hJ.symm;rw[if_pos hJ.symm]at hres;clear hgood hJ hkl hk h4;have c1:=spaceR_con vars 1 hv (by omega);have c2:=spaceR_con vars 2 hv (by omega);have c3:=spaceR_con vars 3 hv (by omega);have hb1:badK vars 1=decide (4096<spc vars 1):=by simp[badK]
 have hb2:badK vars 2=decide (4096<spc vars 2):=by simp[badK]
 have hb3:badK vars 3=(decide (4096<spc vars 3)||decide (256<spc vars 3)):=by simp[badK]
 simp only[List.any_cons,List.any_nil,Bool.or_false,hb1,hb2,hb3]at hres;clear hb1 hb2 hb3;generalize spc vars 1=s1 at*;generalize spc vars 2=s2 at*;generalize spc vars 3=s3 at*;refine(HT_exit ?_);refine HT_seq<|HT_seq<|(HT_runcA [⟨true,.v (li s1),none⟩,⟨true,.v (li s2),none⟩,⟨true,.v (li s3),none⟩] ?_ ?_)
 · first|exact⟨c1 _,c2 _,c3 _⟩|exact trivial|(repeat' first|exact trivial|exact c1 _|exact c2 _|exact c3 _|apply And.intro)
 refine(HT_cs rfl (fun h35=>?_) fun h35=>?_)
 · try simp only[BN]at h35
   have hz:(decide (4096<s1)||(decide (4096<s2)||(decide (4096<s3)||decide (256<s3))))=true:=by
    simp only[Bool.or_eq_true,decide_eq_true_eq];omega
   rw[if_pos hz]at hres;subst hres;refine HT_sA ?_;exact HT_rA
 try simp only[BN]at h35
 have hz:(decide (4096<s1)||(decide (4096<s2)||(decide (4096<s3)||decide (256<s3))))=false:=by
  simp only[Bool.or_eq_false_iff,decide_eq_false_iff_not];omega
 rw[hz,if_neg (by decide)]at hres;subst hres;refine HT_sA ?_;exact HT_rA
end Go.Proofs.YtfjidddhehckoaaGreat

namespace Go.Proofs.YtfjidddhehckoaaGreat
open Go Go.Hl
@[simp] theorem take_encH (l:List Ht) (i:Nat):(encHs l).take i=encHs (l.take i):=by simp[encHs]
theorem idxH_con (l:List Ht) (g:FuncId) (cap:List CD) (p:Ht→Bool) (hl:l.length≤1000000000) (hp:∀v∈l,∀d,Con Tryz.prog g true (aH v::cap.map fun c=>.one (.c c)) (.v (lb (p v))) none d) (d:Nat):
  ∃r:Int,(∀d,Con Tryz.prog 104 true [.one (.c (.sl 6 (encHs l))),.one (.c (.fn g cap))] (.v (li r)) none d)∧(0≤r↔l.any p=true):=by
 refine⟨(match l.findIdx? p with|some i=>(i:Int)|none=>-1),fun d=>?_,?_⟩
 · have hstep:∀k:Nat,(∀j:Nat,j<k→∀v,l[j]? =some v→p v=false)→∀v,l[k]? =some v→p v=true→l.findIdx? p=some k:=by
    intro k hno v hv hpv;rw[List.findIdx?_eq_some_iff_getElem];have hk:k<l.length:=(List.getElem?_eq_some_iff.1 hv).1;refine⟨hk,?_,fun j hj=>?_⟩
    · simp only[List.getElem?_eq_getElem hk,Option.some.injEq]at hv;rw[hv];exact hpv
    have:=hno j hj l[j] (by simp);simp[this]
   have hnone:(∀j:Nat,j<l.length→∀v,l[j]? =some v→p v=false)→l.findIdx? p=none:=by
    intro hno;rw[List.findIdx?_eq_none_iff];intro v hv;obtain⟨j,hj⟩:=List.mem_iff_getElem?.1 hv;exact hno j (List.getElem?_eq_some_iff.1 hj).1 v hj
   refine con_of_HTA Tryz.func104 ?_;simp only[Tryz.f104];refine HT_sA ?_;refine HT_seq<|HT_seq<|HT_runA ?_;refine HT_block<|(HT_loopU [0,1,7] (fun(x:Nat)=>[(8,.v (li x))]) (fun x=>[]) (fun x=>x≤l.length∧∀j:Nat,j<x→∀v,l[j]? =some v→p v=false) (fun x=>l.length - x) (0:Nat) ⟨Nat.zero_le _,fun j hj=>absurd hj (Nat.not_lt_zero j)⟩ ?_ ?_)
   · exact le_mkA (fun n=>n) []
   rintro k ⟨hk,hJ⟩;simp only[upS,keepS,insS]
   try simp only[keepS,KN,Nat.reduceBEq,if_true,if_false,ins,Nat.reduceLT]
   refine HT_sA ?_;refine HT_seq<|(HT_cond rfl (fun h4=>HT_skip ?_) (fun h4=>?_))
   · (try simp only[BN]at h4);have hlt:k<l.length:=by omega
     obtain⟨⟨nm,lo,hi,⟨o,tn,ks⟩⟩,he,hd⟩:=at_lt hlt;have hw1:=wrap1 hlt (by omega);have hk1:k+1≤l.length:=hlt;have hpv:=hp _ (List.mem_of_getElem? he);have hs:=hstep k hJ _ he;clear hlt h4 hstep hnone hp;refine HT_seq<|HT_block<|HT_seq<|HT_runA ?_;refine HT_scA [⟨true,.v (lb (p ⟨nm,lo,hi,.mk o tn ks⟩)),none⟩] ?_ ?_
     · first|exact hpv _|exact trivial|simpa[*]using hpv _
     refine(HT_cs rfl (fun h7=>?_) fun h7=>?_)
     · (try simp only[BN]at h7);rw[hs h7];refine HT_sA ?_;exact HT_rA
     (try simp only[BN]at h7);refine HT_runA ?_;exact⟨k+1,⟨hk1,fun j hj w hw=>(Nat.lt_succ_iff_lt_or_eq.1 hj).elim (fun h=>hJ j h w hw) (fun e=>by subst e;rw[he]at hw;cases hw;exact h7)⟩,by omega,le_mkA (fun n=>n) []⟩
   (try simp only[BN]at h4);rw[hnone fun j hj=>hJ j (by omega)];refine(HT_exit ?_);refine HT_sA ?_;exact HT_rA
 rw[List.any_eq];cases h:l.findIdx? p with
 | none=>
   rw[List.findIdx?_eq_none_iff]at h;simp only[decide_eq_true_eq];constructor
   · intro h;omega
   rintro⟨v,hv,hpv⟩;have:=h v hv;rw[hpv]at this;cases this
 | some i=>
   rw[List.findIdx?_eq_some_iff_getElem]at h;obtain⟨hi,hpi,_⟩:=h;simp only[decide_eq_true_eq];exact⟨fun _=>⟨l[i],List.getElem_mem _,hpi⟩,fun _=>by omega⟩
theorem conH_con (l:List Ht) (g:FuncId) (cap:List CD) (p:Ht→Bool) (hl:l.length≤1000000000) (hp:∀v∈l,∀d,Con Tryz.prog g true (aH v::cap.map fun c=>.one (.c c)) (.v (lb (p v))) none d) (d:Nat):
  Con Tryz.prog 177 true [.one (.c (.sl 6 (encHs l))),.one (.c (.fn g cap))] (.v (lb (l.any p))) none d:=by
 obtain⟨r,hr,hi⟩:=idxH_con l g cap p hl hp 0;have hd:decide (0≤r)=l.any p:=by rw[Bool.eq_iff_iff,decide_eq_true_eq];exact hi
 clear hi hp;refine con_of_HTA Tryz.func177 ?_;simp only[Tryz.f177];refine HT_sA ?_;refine HT_scA [⟨true,.v (li r),none⟩] ?_ ?_
 · first|exact hr _|exact trivial|simpa[*]using hr _
 exact HT_rA
theorem sameH_con (w v:Ht) (d:Nat):Con Tryz.prog 176 true [aH w,.one (.c (.ptr v.enc))] (.v (lb (decide (w.name=v.name)))) none d:=by
 obtain⟨n1,l1,h1,⟨o1,t1,k1⟩⟩:=w;obtain⟨n2,l2,h2,⟨o2,t2,k2⟩⟩:=v;refine con_of_HTA Tryz.func176 ?_;simp only[Tryz.f176];simp only[aH,Ht.enc,Tm.enc,List.cons_append,List.nil_append];refine HT_sA ?_;refine HT_sA ?_;exact HT_rA
def hcode (vars:List Vr) (seen:List Ht) (h:Ht):Int:=
 if nameB h.name=false then 7 else if(seen.any fun w=>decide (w.name=h.name))=true then 8 else if boundedB h.low h.high=false then 3 else termC vars true h.term
def hcs (vars:List Vr):List Ht→List Ht→Int
 |_,[]=>0
 |seen,h::l=>if hcode vars seen h=0 then hcs vars (seen++[h]) l else hcode vars seen h
theorem hatsP_con (f:Fl) (hv:goodV f.vars) (hl:f.vars.length≤1000000) (hh:f.hats.length≤1000000) (hn:∀h∈f.hats,h.term.nodes≤1000000000) (d:Nat):
  Con Tryz.prog 147 true [aF f] (.v (li (hcs f.vars [] f.hats))) none d:=by
 obtain⟨vars,hats,body⟩:=f;simp only at hv hl hh hn⊢;obtain⟨res,hres⟩:∃r,hcs vars [] hats=r:=⟨_,rfl⟩;rw[hres];refine con_of_HTA Tryz.func147 ?_;simp only[Tryz.f147];simp only[aF,Fl.enc,List.map_cons,List.map_nil];refine HT_sA ?_;refine HT_seq<|HT_seq<|HT_runA ?_;refine HT_block<|(HT_loopU [1,8,9] (fun(x:Nat)=>[(10,.v (li x))]) (fun x=>[(1,.box [.c (.sl 5 (encVs vars)),.c (.sl 6 (encHs hats)),.c (.sl 10 (encSs body))])]) (fun x=>x≤hats.length∧hcs vars (hats.take x) (hats.drop x)=res) (fun x=>hats.length - x) (0:Nat) ⟨Nat.zero_le _,hres⟩ ?_ ?_)
 · exact le_mkA (fun n=>n) []
 rintro k ⟨hk,hJ⟩;simp only[upS,keepS,insS]
 try simp only[keepS,KN,Nat.reduceBEq,if_true,if_false,ins,Nat.reduceLT]
 clear hres;refine HT_sA ?_;refine HT_seq<|(HT_cond rfl (fun h4=>HT_skip ?_) (fun h4=>?_))
 · (try simp only[BN]at h4);have hlt:k<hats.length:=by omega
   obtain⟨h,he,hd⟩:=at_lt hlt;have hw1:=wrap1 hlt (by omega);have hk1:k+1≤hats.length:=hlt;have hkl:(hats.take k).length≤1000000000:=by rw[List.length_take];omega
   rw[hd]at hJ;simp only[hcs]at hJ;rw[←take_snoc he]at hJ;have ct:=termP_con vars true hv (by omega) h.term (hn h (List.mem_of_getElem? he));have cc:=conH_con (hats.take k) 176 [.ptr h.enc] (fun w=>decide (w.name=h.name)) hkl (fun w _ d=>sameH_con w h d);obtain⟨nm,lo,hi,⟨o,tn,ks⟩⟩:=h;obtain⟨HC,hHC⟩:∃x,hcode vars (hats.take k) ⟨nm,lo,hi,.mk o tn ks⟩=x:=⟨_,rfl⟩;rw[hHC]at hJ;simp only[hcode]at hHC;simp only[Ht.enc,Tm.enc,List.cons_append,List.nil_append]at cc;simp only at ct;obtain⟨TC,hTC⟩:∃r,termC vars true (.mk o tn ks)=r:=⟨_,rfl⟩;rw[hTC]at ct hHC;clear hlt h4 hd hn hTC;refine HT_seq<|HT_block<|HT_seq<|HT_runA ?_;refine HT_sA ?_;refine HT_seq<|HT_block<|HT_seq<|(HT_runcA [⟨true,.v (lb (nameB nm)),none⟩] ?_ ?_)
   · first|exact nameP_con _ _|exact trivial|simpa[*]using nameP_con _ _
   refine(HT_cond rfl (fun h8=>?_) (fun h8=>?_))
   · (try simp only[BN]at h8);rw[if_pos h8]at hHC;subst hHC;rw[if_neg (by decide)]at hJ;subst hJ;refine HT_sA ?_;exact HT_rA
   (try simp only[BN]at h8);refine HT_scA [⟨true,.v (lb ((hats.take k).any fun w=>decide (w.name=nm))),none⟩] ?_ ?_
   · first|exact cc _|exact trivial|simpa[*]using cc _
   refine(HT_cond rfl (fun h12=>?_) (fun h12=>?_))
   · (try simp only[BN]at h12);rw[if_neg (by simp[h8]),if_pos h12]at hHC;subst hHC;rw[if_neg (by decide)]at hJ;subst hJ;refine HT_sA ?_;exact HT_rA
   (try simp only[BN]at h12);refine HT_scA [⟨true,.v (lb (boundedB lo hi)),none⟩] ?_ ?_
   · first|exact boundedP_con _ _ _|exact trivial|simpa[*]using boundedP_con _ _ _
   refine(HT_cs rfl (fun h16=>?_) fun h16=>?_)
   · (try simp only[BN]at h16);rw[if_neg (by simp[h8]),if_neg (by simp[h12]),if_pos h16]at hHC;subst hHC;rw[if_neg (by decide)]at hJ;subst hJ;refine HT_sA ?_;exact HT_rA
   (try simp only[BN]at h16);rw[if_neg (by simp[h8]),if_neg (by simp[h12]),if_neg (by simp[h16])]at hHC;subst hHC;refine HT_scA [⟨true,.v (li TC),none⟩] ?_ ?_
   · first|exact ct _|exact trivial|simpa[*]using ct _
   refine HT_sA ?_;refine(HT_cs rfl (fun h21=>?_) fun h21=>?_)
   · (try simp only[BN]at h21);rw[if_neg h21]at hJ;subst hJ;refine HT_sA ?_;exact HT_rA
   (try simp only[BN]at h21);rw[if_pos (by simpa using h21)]at hJ;refine HT_runA ?_;exact⟨k+1,⟨hk1,hJ⟩,by omega,le_mkA (fun n=>n) []⟩
 (try simp only[BN]at h4);have hkl:k=hats.length:=by omega
 rw[hkl,List.drop_length]at hJ;simp only[hcs]at hJ;subst hJ;refine(HT_exit ?_);refine HT_sA ?_;exact HT_rA
end Go.Proofs.YtfjidddhehckoaaGreat

namespace Go.Proofs.YtfjidddhehckoaaGreat
open Go Go.Hl
theorem tnodes_con (t:Tm):t.nodes≤1000000000→∀d:Nat,Con Tryz.prog 84 true [aT t] (.v (li t.nodes)) none d:=by
 induction t using Tm.ind with
 |h o n ks ih=>
 intro hn d;simp only[Tm.nodes]at hn⊢;have hlen:=len_nodesT ks;obtain⟨res,hres⟩:∃r,nodesT ks=r:=⟨_,rfl⟩;rw[hres]at hn⊢;refine con_of_HTA Tryz.func84 ?_;simp only[Tryz.f84];simp only[aT,Tm.enc];refine HT_sA ?_;refine HT_sA ?_;refine HT_seq<|HT_seq<|HT_runA ?_;refine HT_block<|(HT_loopU [1] (fun(x:Nat×Nat)=>[(3,.v (li ((x.2:Nat):Int))),(4,.v (li x.1))]) (fun x=>[(1,.box [.c (iC o),.c (iC n),.c (.sl 3 (encTs ks))])]) (fun x=>x.1≤ks.length∧x.2+nodesT (ks.drop x.1)=1+res) (fun x=>ks.length - x.1) (0,1) ⟨Nat.zero_le _,by simp[hres]⟩ ?_ ?_)
 · exact le_mkA (fun n=>n) []
 rintro⟨k,m⟩ ⟨hk,hJ⟩;simp only[upS,keepS,insS]
 try simp only[keepS,KN,Nat.reduceBEq,if_true,if_false,ins,Nat.reduceLT]
 simp only at hk hJ;refine HT_seq<|HT_seq<|HT_runA ?_;refine(HT_cond rfl (fun h5=>HT_skip ?_) (fun h5=>?_))
 · (try simp only[BN]at h5);have hlt:k<ks.length:=by omega
   obtain⟨⟨eo,en,ek⟩,he,hd⟩:=at_lt hlt;have he':=get_encT he;simp only[Tm.enc]at he';have hmem:Tm.mk eo en ek∈ks:=List.mem_of_getElem? he;have hnm:=nodes_mem hmem;have c:=ih _ hmem (by omega);have hw1:=wrap1 hlt (by omega);have hk1:k+1≤ks.length:=hlt;rw[hd]at hJ;simp only[nodesT]at hJ;generalize Tm.nodes (.mk eo en ek)=q at*;have hw2:IntKind.i64.wrap ((m:Int)+(q:Int))=(m:Int)+(q:Int):=wrap_in (by omega) (by omega);clear hlt h5 ih hmem;refine HT_seq<|HT_block<|(HT_runcA [⟨true,.v (li (q:Int)),none⟩] ?_ ?_)
   · first|exact c _|exact trivial|simpa[*]using c _
   refine HT_runA ?_;exact⟨(k+1,m+q),⟨hk1,by simp only;omega⟩,by simp only;omega,le_mkA (fun n=>n) []⟩
 (try simp only[BN]at h5);have hkl:k=ks.length:=by omega
 rw[hkl,List.drop_length]at hJ;simp only[nodesT]at hJ;have hm:(m:Int)=1+(res:Int):=by omega
 refine(HT_exit ?_);refine HT_sA ?_;exact HT_rA
theorem nodes_con (l:List St):nodesS l≤1000000000→∀d:Nat,Con Tryz.prog 83 true [lS l] (.v (li (nodesS l))) none d:=by
 revert l
 apply St.lists;intro l ih hn d;have hlen:=len_nodesS l;obtain⟨res,hres⟩:∃r,nodesS l=r:=⟨_,rfl⟩;rw[hres];refine con_of_HTA Tryz.func83 ?_;simp only[Tryz.f83];refine HT_sA ?_;refine HT_sA ?_;refine HT_seq<|HT_seq<|HT_runA ?_;refine HT_block<|(HT_loopU [0] (fun(x:Nat×Nat)=>[(3,.v (li ((x.2:Nat):Int))),(4,.v (li x.1))]) (fun x=>[]) (fun x=>x.1≤l.length∧x.2+nodesS (l.drop x.1)=res) (fun x=>l.length - x.1) (0,0) ⟨Nat.zero_le _,by simp[hres]⟩ ?_ ?_)
 · exact le_mkA (fun n=>n) []
 rintro⟨k,m⟩ ⟨hk,hJ⟩;simp only[upS,keepS,insS]
 try simp only[keepS,KN,Nat.reduceBEq,if_true,if_false,ins,Nat.reduceLT]
 simp only at hk hJ;refine HT_seq<|HT_seq<|HT_runA ?_;refine(HT_cond rfl (fun h5=>HT_skip ?_) (fun h5=>?_))
 · (try simp only[BN]at h5);have hlt:k<l.length:=by omega
   obtain⟨s,he,hd⟩:=at_lt hlt;have hmem:s∈l:=List.mem_of_getElem? he;have hnm:=nodesS_mem hmem;have iha:=fun h=>(ih s hmem).1 h;have ihb:=fun h=>(ih s hmem).2 h;have hw1:=wrap1 hlt (by omega);have hk1:k+1≤l.length:=hlt;have ct:=tnodes_con s.term;rw[hd]at hJ;obtain⟨sd,sc,sv,sn,⟨so,stn,sks⟩,sa,sb,sbs⟩:=s;simp only[St.then_,St.else_,St.term]at iha ihb hnm ct;simp only[nodesS,St.nodes]at hJ;have ca:=iha (by omega);have cb:=ihb (by omega);have ct:=ct (by omega);have he':=get_encS he;simp only[St.enc,Tm.enc,List.cons_append,List.nil_append]at he';generalize Tm.nodes (.mk so stn sks)=q at*;generalize nodesS sa=na at*;generalize nodesS sb=nb at*;have hw2:IntKind.i64.wrap ((m:Int)+1)=(m:Int)+1:=wrap_in (by omega) (by omega);have hw3:IntKind.i64.wrap ((m:Int)+1+(q:Int))=(m:Int)+1+(q:Int):=wrap_in (by omega) (by omega);have hw4:IntKind.i64.wrap ((m:Int)+1+(q:Int)+(na:Int))=(m:Int)+1+(q:Int)+(na:Int):=wrap_in (by omega) (by omega);have hw5:IntKind.i64.wrap ((m:Int)+1+(q:Int)+(na:Int)+(nb:Int))=(m:Int)+1+(q:Int)+(na:Int)+(nb:Int):=wrap_in (by omega) (by omega);clear hlt h5 ih hmem iha ihb;refine HT_seq<|HT_block<|(HT_drunc [⟨true,.v (li (q:Int)),none⟩,⟨true,.v (li (na:Int)),none⟩,⟨true,.v (li (nb:Int)),none⟩] (by kernel_rfl) (by kernel_rfl) (by rfl) (by simp[*];first|exact⟨rfl,Iff.rfl⟩|exact⟨rfl,trivial⟩|rfl) ?_ ?_)
   · first|exact⟨ct _,ca _,cb _⟩|exact trivial|(repeat' first|exact trivial|exact ct _|exact ca _|exact cb _|apply And.intro)
   refine HT_runA ?_;exact⟨(k+1,m+1+q+na+nb),⟨hk1,by simp only;omega⟩,by simp only;omega,le_mkA (fun n=>n) []⟩
 (try simp only[BN]at h5);have hkl:k=l.length:=by omega
 rw[hkl,List.drop_length]at hJ;simp only[nodesS]at hJ;have hm:m=res:=by omega
 refine(HT_exit ?_);refine HT_sA ?_;exact HT_rA
mutual
def tdT:Tm→Nat
 | .mk _ _ ks=>tdTs ks+1
def tdTs:List Tm→Nat
 |[]=>0
 |t::l=>max (tdT t) (tdTs l)
end
mutual
theorem td_le:∀t:Tm,tdT t≤t.nodes
 | .mk o n ks=>by have:=tds_le ks;simp only[tdT,Tm.nodes];omega
theorem tds_le:∀l:List Tm,tdTs l≤nodesT l
 |[]=>by simp[tdTs]
 |t::l=>by have:=td_le t;have:=tds_le l;simp only[tdTs,nodesT];omega
end
theorem tdepth_con (t:Tm):t.nodes≤1000000000→∀d:Nat,Con Tryz.prog 85 true [aT t] (.v (li (tdT t))) none d:=by
 induction t using Tm.ind with
 |h o n ks ih=>
 intro hn d;simp only[Tm.nodes]at hn;simp only[tdT];have hlen:=len_nodesT ks;have htl:=tds_le ks;obtain⟨res,hres⟩:∃r,tdTs ks=r:=⟨_,rfl⟩;rw[hres]at htl⊢;refine con_of_HTA Tryz.func85 ?_;simp only[Tryz.f85];simp only[aT,Tm.enc];refine HT_sA ?_;refine HT_sA ?_;refine HT_seq<|HT_seq<|HT_runA ?_;refine HT_block<|(HT_loopU [1] (fun(x:Nat×Nat)=>[(3,.v (li ((x.2:Nat):Int))),(4,.v (li x.1))]) (fun x=>[(1,.box [.c (iC o),.c (iC n),.c (.sl 3 (encTs ks))])]) (fun x=>x.1≤ks.length∧max x.2 (tdTs (ks.drop x.1))=res) (fun x=>ks.length - x.1) (0,0) ⟨Nat.zero_le _,by simp[hres]⟩ ?_ ?_)
 · exact le_mkA (fun n=>n) []
 rintro⟨k,m⟩ ⟨hk,hJ⟩;simp only[upS,keepS,insS]
 try simp only[keepS,KN,Nat.reduceBEq,if_true,if_false,ins,Nat.reduceLT]
 simp only at hk hJ;refine HT_seq<|HT_seq<|HT_runA ?_;refine(HT_cond rfl (fun h5=>HT_skip ?_) (fun h5=>?_))
 · (try simp only[BN]at h5);have hlt:k<ks.length:=by omega
   obtain⟨⟨eo,en,ek⟩,he,hd⟩:=at_lt hlt;have he':=get_encT he;simp only[Tm.enc]at he';have hmem:Tm.mk eo en ek∈ks:=List.mem_of_getElem? he;have hnm:=nodes_mem hmem;have c:=ih _ hmem (by omega);have hw1:=wrap1 hlt (by omega);have hk1:k+1≤ks.length:=hlt;rw[hd]at hJ;simp only[tdTs]at hJ;generalize tdT (.mk eo en ek)=q at*;clear hlt h5 ih hmem;refine HT_seq<|HT_block<|HT_seq<|(HT_runcA [⟨true,.v (li (q:Int)),none⟩] ?_ ?_)
   · first|exact c _|exact trivial|simpa[*]using c _
   refine HT_sA ?_;refine(HT_cs rfl (fun h8=>?_) fun h8=>?_)
   · (try simp only[BN]at h8);refine HT_runA ?_;refine HT_runA ?_;exact⟨(k+1,q),⟨hk1,by simp only;omega⟩,by simp only;omega,le_mkA (fun n=>n) []⟩
   (try simp only[BN]at h8);refine HT_runA ?_;exact⟨(k+1,m),⟨hk1,by simp only;omega⟩,by simp only;omega,le_mkA (fun n=>n) []⟩
 (try simp only[BN]at h5);have hkl:k=ks.length:=by omega
 rw[hkl,List.drop_length]at hJ;simp only[tdTs]at hJ;have hm:m=res:=by omega
 subst hm;have hw:IntKind.i64.wrap ((m:Int)+1)=(m:Int)+1:=wrap_in (by omega) (by omega);refine(HT_exit ?_);refine HT_sA ?_;exact HT_rA
def sdL:List St→Nat
 |[]=>0
 | .mk _ _ _ _ _ a b _::l=>max (max (sdL a+1) (sdL b+1)) (sdL l)
theorem sd_le:∀l:List St,sdL l≤nodesS l
 |[]=>by simp[sdL]
 | .mk _ _ _ _ t a b _::l=>by have:=sd_le a;have:=sd_le b;have:=sd_le l;have:=nodes_pos t;simp only[sdL,nodesS,St.nodes];omega
theorem sdepth_con (l:List St):nodesS l≤1000000000→∀d:Nat,Con Tryz.prog 86 true [lS l] (.v (li (sdL l))) none d:=by
 revert l
 apply St.lists;intro l ih hn d;have hlen:=len_nodesS l;obtain⟨res,hres⟩:∃r,sdL l=r:=⟨_,rfl⟩;rw[hres];refine con_of_HTA Tryz.func86 ?_;simp only[Tryz.f86];refine HT_sA ?_;refine HT_sA ?_;refine HT_seq<|HT_seq<|HT_runA ?_;refine HT_block<|(HT_loopU [0] (fun(x:Nat×Nat)=>[(3,.v (li ((x.2:Nat):Int))),(4,.v (li x.1))]) (fun x=>[]) (fun x=>x.1≤l.length∧max x.2 (sdL (l.drop x.1))=res) (fun x=>l.length - x.1) (0,0) ⟨Nat.zero_le _,by simp[hres]⟩ ?_ ?_)
 · exact le_mkA (fun n=>n) []
 rintro⟨k,m⟩ ⟨hk,hJ⟩;simp only[upS,keepS,insS]
 try simp only[keepS,KN,Nat.reduceBEq,if_true,if_false,ins,Nat.reduceLT]
 simp only at hk hJ;refine HT_seq<|HT_seq<|HT_runA ?_;refine(HT_cond rfl (fun h5=>HT_skip ?_) (fun h5=>?_))
 · (try simp only[BN]at h5);have hlt:k<l.length:=by omega
   obtain⟨s,he,hd⟩:=at_lt hlt;have hmem:s∈l:=List.mem_of_getElem? he;have hnm:=nodesS_mem hmem;have iha:=fun h=>(ih s hmem).1 h;have ihb:=fun h=>(ih s hmem).2 h;have hw1:=wrap1 hlt (by omega);have hk1:k+1≤l.length:=hlt;rw[hd]at hJ;obtain⟨sd,sc,sv,sn,⟨so,stn,sks⟩,sa,sb,sbs⟩:=s;simp only[St.then_,St.else_,St.term]at iha ihb hnm;simp only[sdL]at hJ;have ca:=iha (by omega);have cb:=ihb (by omega);have ha:=sd_le sa;have hb:=sd_le sb;have he':=get_encS he;simp only[St.enc,Tm.enc,List.cons_append,List.nil_append]at he';generalize sdL sa=na at*;generalize sdL sb=nb at*;have hw2:IntKind.i64.wrap ((na:Int)+1)=(na:Int)+1:=wrap_in (by omega) (by omega);have hw3:IntKind.i64.wrap ((nb:Int)+1)=(nb:Int)+1:=wrap_in (by omega) (by omega);clear hlt h5 ih hmem iha ihb;refine HT_seq<|HT_block<|HT_seq<|(HT_runcA [⟨true,.v (li (na:Int)),none⟩] ?_ ?_)
   · first|exact ca _|exact trivial|simpa[*]using ca _
   refine HT_scA [⟨true,.v (li (nb:Int)),none⟩] ?_ ?_
   · first|exact cb _|exact trivial|simpa[*]using cb _
   refine(HT_cutU [0,4,6] (fun(z:Nat)=>[(3,.v (li (z:Int)))]) (fun(z:Nat)=>[]) (fun(z:Nat)=>z=max m (na+1)) ?_ ?_)
   ·
    refine HT_sA ?_;refine(HT_cs rfl (fun h10=>?_) fun h10=>?_)
    · (try simp only[BN]at h10);have hz:max m (na+1)=na+1:=by omega
      refine HT_runA ?_;exact⟨na+1,hz.symm,le_mkA (fun n=>n) []⟩
    (try simp only[BN]at h10);have hz:max m (na+1)=m:=by omega
    exact⟨m,hz.symm,le_mkA (fun n=>n) []⟩
   rintro z hz;simp only[upS,keepS,insS]
   try simp only[keepS,KN,Nat.reduceBEq,if_true,if_false,ins,Nat.reduceLT]
   refine HT_sA ?_;refine(HT_cs rfl (fun h15=>?_) fun h15=>?_)
   · (try simp only[BN]at h15);refine HT_runA ?_;refine HT_runA ?_;exact⟨(k+1,nb+1),⟨hk1,by simp only;omega⟩,by simp only;omega,le_mkA (fun n=>n) []⟩
   (try simp only[BN]at h15);refine HT_runA ?_;exact⟨(k+1,z),⟨hk1,by simp only;omega⟩,by simp only;omega,le_mkA (fun n=>n) []⟩
 (try simp only[BN]at h5);have hkl:k=l.length:=by omega
 rw[hkl,List.drop_length]at hJ;simp only[sdL]at hJ;have hm:m=res:=by omega
 refine(HT_exit ?_);refine HT_sA ?_;exact HT_rA
def tdeep:List St→Bool
 |[]=>false
 | .mk _ _ _ _ t a b _::l=>((decide (12<tdT t)||tdeep a)||tdeep b)||tdeep l
theorem tdeep_con (l:List St):nodesS l≤1000000000→∀d:Nat,Con Tryz.prog 87 true [lS l] (.v (lb (tdeep l))) none d:=by
 revert l
 apply St.lists;intro l ih hn d;have hlen:=len_nodesS l;obtain⟨res,hres⟩:∃r,tdeep l=r:=⟨_,rfl⟩;rw[hres];refine con_of_HTA Tryz.func87 ?_;simp only[Tryz.f87];refine HT_sA ?_;refine HT_seq<|HT_seq<|HT_runA ?_;refine HT_block<|(HT_loopU [0] (fun(x:Nat)=>[(3,.v (li x))]) (fun x=>[]) (fun x=>x≤l.length∧tdeep (l.drop x)=res) (fun x=>l.length - x) (0:Nat) ⟨Nat.zero_le _,hres⟩ ?_ ?_)
 · exact le_mkA (fun n=>n) []
 rintro k ⟨hk,hJ⟩;simp only[upS,keepS,insS]
 try simp only[keepS,KN,Nat.reduceBEq,if_true,if_false,ins,Nat.reduceLT]
 refine HT_seq<|HT_seq<|HT_runA ?_;refine(HT_cond rfl (fun h4=>HT_skip ?_) (fun h4=>?_))
 · (try simp only[BN]at h4);have hlt:k<l.length:=by omega
   obtain⟨s,he,hd⟩:=at_lt hlt;have hmem:s∈l:=List.mem_of_getElem? he;have hnm:=nodesS_mem hmem;have iha:=fun h=>(ih s hmem).1 h;have ihb:=fun h=>(ih s hmem).2 h;have hw1:=wrap1 hlt (by omega);have hk1:k+1≤l.length:=hlt;have ct:=tdepth_con s.term;rw[hd]at hJ;obtain⟨sd,sc,sv,sn,⟨so,stn,sks⟩,sa,sb,sbs⟩:=s;simp only[St.then_,St.else_,St.term]at iha ihb hnm ct;simp only[tdeep]at hJ;have ca:=iha (by omega);have cb:=ihb (by omega);have ct:=ct (by omega);have he':=get_encS he;simp only[St.enc,Tm.enc,List.cons_append,List.nil_append]at he';generalize tdT (.mk so stn sks)=q at*;generalize tdeep sa=na at*;generalize tdeep sb=nb at*;clear hlt h4 ih hmem iha ihb;refine HT_seq<|HT_block<|HT_seq<|(HT_runcA [⟨true,.v (li (q:Int)),none⟩,⟨true,.v (lb na),none⟩,⟨true,.v (lb nb),none⟩] ?_ ?_)
   · first|exact⟨ct _,ca _,cb _⟩|exact trivial|(repeat' first|exact trivial|exact ct _|exact ca _|exact cb _|apply And.intro)
   refine(HT_cs rfl (fun h6=>?_) fun h6=>?_)
   · try simp only[BN]at h6
     have hz:res=true:=by
      rw[←hJ];simp only[Bool.or_eq_true,decide_eq_true_eq];rcases h6 with(h|h)|h
      · exact .inl (.inl (.inl (by omega)))
      · exact .inl (.inl (.inr h))
      exact .inl (.inr h)
     refine HT_sA ?_;exact HT_rA
   try simp only[BN]at h6
   have hz:tdeep (l.drop (k+1))=res:=by
    rw[←hJ];have h12:decide (12<q)=false:=decide_eq_false (by omega);rw[h12,h6.1.2,h6.2];rfl
   clear hJ;refine HT_runA ?_;exact⟨k+1,⟨hk1,hz⟩,by omega,le_mkA (fun n=>n) []⟩
 (try simp only[BN]at h4);have hkl:k=l.length:=by omega
 rw[hkl,List.drop_length]at hJ;simp only[tdeep]at hJ;subst hJ;refine(HT_exit ?_);refine HT_sA ?_;exact HT_rA
end Go.Proofs.YtfjidddhehckoaaGreat
