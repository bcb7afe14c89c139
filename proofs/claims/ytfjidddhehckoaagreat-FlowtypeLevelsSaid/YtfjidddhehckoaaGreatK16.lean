/- Part 16: contracts of functions of the program and of the reference, and plain facts about what they compute; used by the proof of the claimed statement. Conditions: as each theorem states. -/
import Derived.Test.YtfjidddhehckoaaGreatK15
import Derived.Test.YtfjidddhehckoaaGreatK7
import Derived.Test.YtfjidddhehckoaaGreatK12
import Derived.Test.YtfjidddhehckoaaGreatK11
set_option linter.unusedSimpArgs false
set_option linter.unusedVariables false
set_option linter.unnecessarySimpa false
set_option maxRecDepth 100000
set_option maxHeartbeats 2000000
namespace Go.Proofs.YtfjidddhehckoaaGreat
open Go Go.Hl
def vldC (f:Fl) (p:Po):Int:=if codeC f≠0∨polC p≠0 then 1 else 0
structure smF (f:Fl):Prop where
 hv:f.vars.length≤1000000
 hh:f.hats.length≤1000000
 hn:nodesS f.body+nodesH f.hats≤900000
 hb:bndL f.body=true
theorem valid_con (f:Fl) (p:Po) (hs:smQ p) (hf:smF f) (d:Nat):Con Tryz.prog 60 true [aF f,aPo p] (.v (li (vldC f p))) none d:=by
 have cf:=checkR_con f hf.hv hf.hh (by have:=hf.hn;omega) hf.hb;have cp:=polR_con p hs;unfold vldC;obtain⟨C,hC⟩:∃x,polC p=x:=⟨_,rfl⟩;obtain⟨D,hD⟩:∃x,codeC f=x:=⟨_,rfl⟩;rw[hC]at cp⊢;rw[hD]at cf⊢;obtain⟨vars,hats,body⟩:=f;obtain⟨ls,os,is,hts,ob,tm⟩:=p;clear hC hD hs hf;refine con_of_HTA Tryz.func60 ?_;simp only[Tryz.f60];simp only[aF,Fl.enc,aPo,Po.enc,List.map_cons,List.map_nil]at cf cp⊢;refine HT_sA ?_;by_cases hk:D=0
 · subst hk;refine HT_seq<|HT_seq<|(HT_runcA [⟨true,.v (li 0),none⟩,⟨true,.v (li C),none⟩] ?_ ?_)
   · first|exact⟨cf _,cp _⟩|exact trivial|(repeat' first|exact trivial|exact cf _|exact cp _|apply And.intro)
   refine(HT_cs rfl (fun h2=>?_) fun h2=>?_)
   · (try simp only[BN]at h2);refine HT_sA ?_;exact HT_rA
   (try simp only[BN]at h2);refine HT_sA ?_;exact HT_rA
 refine HT_seq<|HT_seq<|(HT_runcS [some ⟨true,.v (li D),none⟩,none] (by simp[*];first|exact⟨rfl,Iff.rfl⟩|exact⟨rfl,trivial⟩|rfl) ?_ ?_)
 · first|exact trivial|exact cf _|simpa using cf _
 refine(HT_cs rfl (fun h2=>?_) fun h2=>?_)
 · (try simp only[BN]at h2);refine HT_sA ?_;exact HT_rA
 (try simp only[BN]at h2);refine HT_sA ?_;exact HT_rA
theorem isIn_con (v:Vr) (d:Nat):Con Tryz.prog 61 true [aV v] (.v (lb (decide (v.kind≠0)))) none d:=by
 obtain⟨nm,k,lo,hi,it⟩:=v;refine con_of_HTA Tryz.func61 ?_;simp only[Tryz.f61];refine HT_sA ?_;refine HT_sA ?_;exact HT_rA
theorem cov_cases (label v:ByteArray):(label=v∧covB label v=true)∨(label≠v∧v.size≤label.size∧covB label v=false)∨
  (label≠v∧label.size<v.size∧∃b:UInt8,v[label.size]? =some b∧covB label v=(decide (v.extract 0 label.size=label)&&decide ((b.toNat:Int)=46))):=by
 by_cases he:label=v
 · subst he;exact .inl ⟨rfl,by simp[covB,hasP]⟩
 refine .inr ?_;rcases Nat.lt_or_ge label.size v.size with hlt|hge
 · obtain⟨b,hb⟩:=get_bytes hlt;refine .inr ⟨he,hlt,b,hb,?_⟩;unfold covB hasP;rw[hb,decide_eq_true (Nat.le_of_lt hlt),Bool.true_and,show decide (v.size=label.size)=false by simpa using(by omega:¬v.size=label.size),Bool.false_or];congr 1;refine decide_eq_decide.2 ⟨fun h=>by cases h;rfl,fun h=>?_⟩
   have:b.toNat=(46:UInt8).toNat:=by
    show b.toNat=46;omega
   rw[UInt8.toNat_inj.1 this]
 refine .inl ⟨he,hge,?_⟩;unfold covB hasP;rcases Nat.lt_or_ge v.size label.size with h1|h1
 · rw[show decide (label.size≤v.size)=false by simpa using h1];rfl
 have h2:v.extract 0 label.size=v:=by rw[show label.size=v.size by omega];exact ByteArray.extract_zero_size
 rw[h2,show decide (v=label)=false by simpa using fun h=>he h.symm];simp
theorem covR_con (label v:ByteArray) (d:Nat):Con Tryz.prog 62 true [sv label,sv v] (.v (lb (covB label v))) none d:=by
 rcases cov_cases label v with⟨h1,h2⟩|⟨h1,h2,h3⟩|⟨h1,h2,b,h3,h4⟩
 · rw[h2];subst h1;clear h2;refine con_of_HTA Tryz.func62 ?_;simp only[Tryz.f62];refine HT_sA ?_;refine HT_sA ?_;refine HT_sA ?_;exact HT_rA
 · rw[h3];have h2':¬(label.size:Int)<v.size:=by omega
   have hx:v[label.size]? =none:=getElem?_neg v label.size (by omega);rcases Nat.lt_or_ge v.size label.size with h4|h4
   · have hle:¬label.size≤v.size:=by omega
     clear h2 h4;refine con_of_HTA Tryz.func62 ?_;simp only[Tryz.f62];refine HT_sA ?_;refine HT_sA ?_;refine HT_sA ?_;exact HT_rA
   clear h2;refine con_of_HTA Tryz.func62 ?_;simp only[Tryz.f62];refine HT_sA ?_;refine HT_sA ?_;refine HT_sA ?_;exact HT_rA
 rw[h4];clear h4;have h2':(label.size:Int)<v.size:=by omega
 have hle:label.size≤v.size:=by omega
 clear h2;refine con_of_HTA Tryz.func62 ?_;simp only[Tryz.f62];refine HT_sA ?_;refine HT_sA ?_;refine HT_sA ?_;exact HT_rA
theorem lat_agg {p:Po} (h:polC p=0):Lt.refT p.levels p.order=Lt.latT p.levels p.M:=by
 unfold Lt.refT;rw[if_pos (polC_new h)];rfl
theorem latR_con (p:Po) (h:polC p=0) (hs:smQ p) (d:Nat):Con Tryz.prog 16 false [aPo p] (.v (Lt.latT p.levels p.M)) none d:=by
 have cn:=refnewP_con p.levels p.order hs.2.2.2 hs.1;rw[lat_agg h]at cn;obtain⟨C,hC⟩:∃x,Lt.newC p.levels p.order=x:=⟨_,rfl⟩;rw[hC]at cn;unfold Lt.latT at cn⊢;unfold Lt.nsC Lt.matB at cn⊢;obtain⟨A,hA⟩:∃x,(p.levels.map fun s=>[Lt.sC s])=x:=⟨_,rfl⟩;obtain⟨B,hB⟩:∃x,((List.range p.levels.length).map fun a=>[CD.sl 1 (Lt.rowB p.levels.length p.M a)])=x:=⟨_,rfl⟩;rw[hA,hB]at cn⊢;obtain⟨ls,os,is,hts,ob,tm⟩:=p;simp only at cn;clear hC hA hB hs h;refine con_of_HTA Tryz.func16 ?_;simp only[Tryz.f16];simp only[aPo,Po.enc,List.map_cons,List.map_nil];refine HT_sA ?_;refine HT_scA [⟨false,.tup [.agg [.c (.sl 1 A),.c (.sl 1 B)],li C],none⟩] ?_ ?_
 · first|exact cn _|exact trivial|simpa[*]using cn _
 refine HT_sA ?_;exact HT_ret ⟨.inr rfl,_,le_refl _,⟨⟨_,by simp;rfl,by simp[resR]⟩,by simp,fun h=>by cases h⟩⟩
theorem vld_out {f:Fl} {p:Po} (h:vldC f p=0):codeC f=0∧polC p=0:=by
 unfold vldC at h;split at h
 · cases h
 exact⟨by omega,by omega⟩
end Go.Proofs.YtfjidddhehckoaaGreat

namespace Go.Proofs.YtfjidddhehckoaaGreat.Lt
open Go Go.Hl
theorem reftop_con (names:List ByteArray) (M:Nat→Nat→Bool) (hn:0<names.length∧names.length≤12) (d:Nat):Con Tryz.prog 19 true [latT names M] (.v (li (rbF (flp M) names.length:Nat))) none d:=by
 have hrl:=fun k hk=>rbF_lt (M:=flp M) hn.1 k hk;refine con_of_HTA Tryz.func19 ?_;simp only[Tryz.f19];refine HT_seq (HT_run (by simp[regsOf,latT,nsC];rfl) ?_);refine HT_seq (HT_run (by simp;rfl) ?_);refine HT_seq (HT_seq (HT_run (by simp;rfl) ?_));refine HT_block (HT_loop (fun k=>RB names M (rbF (flp M) k) k) (fun k=>k≤names.length) (fun k=>names.length - k) 0 (Nat.zero_le _) ?_ ?_)
 · exact le_mk (fun n=>1) [] rfl (by simp[RB,li,i64,rbF]) (by simp[RB,nsC]) (by simp[RB])
 rintro k hk;have t1:=hrl k hk;have hsuc:=rbF_succ (flp M) k;generalize hteq:rbF (flp M) k=t at*;simp only[RB];refine HT_seq (HT_seq (HT_run (by simp[li,i64,nsC];rfl) ?_));refine HT_cond rfl (fun h=>HT_skip ?_) (fun h=>HT_exit ?_)
 · have hlt:k<names.length:=by simpa using h
   have hw:IntKind.i64.wrap ((k:Int)+1)=(k:Int)+1:=wrap_in (by omega) (by omega);refine HT_seq (HT_block (HT_seq (HT_run (by simp[matB,t1,rowB_get hlt,bC];rfl) ?_)));refine HT_cond rfl (fun h=>?_) (fun h=>HT_skip ?_)
   · have h':flp M k t=true:=h;refine HT_run (by simp;rfl) ?_;refine HT_run (by simp[hw];rfl) ?_;refine⟨k+1,hlt,by omega,?_⟩;rw[hsuc,if_pos h'];exact le_mk (fun n=>n) [] rfl (by simp[RB,li,i64,hw]) (by simp[RB,nsC,matB]) (by simp[RB])
   have h':flp M k t=false:=h;refine HT_run (by simp[hw];rfl) ?_;refine⟨k+1,hlt,by omega,?_⟩;rw[hsuc,if_neg (by rw[h'];simp)];exact le_mk (fun n=>n) [] rfl (by simp[RB,li,i64,hw]) (by simp[RB,nsC,matB]) (by simp[RB])
 have hkn:k=names.length:=by simp at h;omega
 subst hkn;refine HT_seq (HT_run (by simp;rfl) ?_);exact HT_ret ⟨.inr rfl,_,le_refl _,⟨_,rfl,by simp[resR,li,i64,hteq]⟩,by simp,fun _=>⟨rfl,by simp⟩⟩
end Go.Proofs.YtfjidddhehckoaaGreat.Lt
namespace Go.Proofs.YtfjidddhehckoaaGreat
open Go Go.Hl
abbrev laT (p:Po):TV:=Lt.latT p.levels p.M
theorem rbot_con (p:Po) (h:polC p=0) (d:Nat):Con Tryz.prog 23 true [laT p] (.v (li p.bot)) none d:=by
 obtain⟨hM,h1,h2⟩:=pol_new h;have:=Lt.refbot_con p.levels p.M ⟨h1,h2⟩ d;rw[show Lt.rbF p.M p.levels.length=Lt.topF p.n (Lt.flp p.M) p.n from hM.rbF h1]at this;exact this
theorem rtop_con (p:Po) (h:polC p=0) (d:Nat):Con Tryz.prog 19 true [laT p] (.v (li p.top)) none d:=by
 obtain⟨hM,h1,h2⟩:=pol_new h;have:=Lt.reftop_con p.levels p.M ⟨h1,h2⟩ d;rw[show Lt.rbF (Lt.flp p.M) p.levels.length=Lt.topF p.n p.M p.n from hM.flp.rbF h1]at this;exact this
theorem okI_nat {n:Nat} {a:Int} (h:okI n a):∃k:Nat,a=(k:Int)∧k<n:=by
 obtain⟨h1,h2⟩:=h;exact⟨a.toNat,by omega,by omega⟩
theorem rjoin_con (p:Po) (hp:polC p=0) (a b:Int) (ha:okI p.n a) (hb:okI p.n b) (d:Nat):Con Tryz.prog 81 true [laT p,li a,li b] (.v (li (p.J a b))) none d:=by
 obtain⟨hM,h1,h2⟩:=pol_new hp;obtain⟨x,rfl,hx⟩:=okI_nat ha;obtain⟨y,rfl,hy⟩:=okI_nat hb;have:=Lt.refjoin_con p.levels p.n rfl h2 p.M x y hx hy d
 have e:Lt.bndR p.n p.M x y=p.J x y:=by
  unfold Po.J Lt.jmV;rw[if_pos (by simp[Lt.inB,hx,hy])];rw[Lt.bndI_eq];obtain⟨c,hc⟩:=Option.isSome_iff_exists.1 (hM.join x y hx hy);simp only[Int.toNat_natCast,Lt.bndR,Lt.bndN,hc,Option.getD_some]
 rw[e]at this;exact this
theorem levR_con (p:Po) (v:Vr) (hp:polC p=0) (hs:smQ p) (d:Nat):Con Tryz.prog 63 true [aPo p,aV v] (.v (li (levV p v))) none d:=by
 have cL:=latR_con p hp hs;have cB:=rbot_con p hp;have cT:=rtop_con p hp;have ci:=isIn_con v;have hil:=hs.2.1;obtain⟨R,hR⟩:∃x,levV p v=x:=⟨_,rfl⟩;rw[hR];unfold levV at hR;obtain⟨BOT,hBOT⟩:∃x,p.bot=x:=⟨_,rfl⟩;obtain⟨TOP,hTOP⟩:∃x,p.top=x:=⟨_,rfl⟩;rw[hBOT]at cB hR;rw[hTOP]at cT hR;unfold laT Lt.latT at*;unfold Lt.nsC Lt.matB at cL cB cT;obtain⟨A,hA⟩:∃x,(p.levels.map fun s=>[Lt.sC s])=x:=⟨_,rfl⟩;obtain⟨B,hB⟩:∃x,((List.range p.levels.length).map fun a=>[CD.sl 1 (Lt.rowB p.levels.length p.M a)])=x:=⟨_,rfl⟩;rw[hA,hB]at cL cB cT;obtain⟨ls,os,is,hts,ob,tm⟩:=p;simp only at hR hil;obtain⟨nm,kd,lo,hi,ini⟩:=v;simp only[Vr.kind]at ci hR;obtain⟨KD,hKD⟩:∃x,decide (kd≠0)=x:=⟨_,rfl⟩;rw[hKD]at ci;have hK1:KD=true→kd≠0:=fun h=>by rw[h]at hKD;simpa using hKD
 have hK2:KD=false→¬kd≠0:=fun h=>by rw[h]at hKD;simpa using hKD
 clear hA hB hs hp hBOT hTOP hKD;refine con_of_HTA Tryz.func63 ?_;simp only[Tryz.f63];simp only[aPo,Po.enc,List.map_cons,List.map_nil]at cL⊢;refine HT_sA ?_;refine HT_sA ?_;refine HT_seq<|HT_seq<|HT_runA ?_;refine HT_block<|(HT_loopU [2,3] (fun(x:Nat×Int×Int×Int)=>[(5,.v (li x.2.1)),(6,.v (li x.1))]) (fun x=>[(2,.box [.c (.sl 1 (encNs ls)),.c (.sl 2 (encPr os)),.c (.sl 2 (encLs is)),.c (.sl 2 (encLs hts)),.c (iC ob),.c (bC tm)]),(3,.box [.c (sC nm),.c (iC kd),.c (iC lo),.c (iC hi),.c (iC ini)])]) (fun x=>x.1≤is.length∧(bestF ⟨nm,kd,lo,hi,ini⟩ (is.drop x.1) x.2.2).1=R∧((x.2.1=-1∧x.2.2=(if kd=1 then TOP else BOT,-1))∨∃(j:Nat) (z:Lb),x.2.1=j∧is[j]? =some z∧x.2.2=(z.level,(z.name.size:Int)))) (fun x=>is.length - x.1) (0,-1,(if kd=1 then TOP else BOT,-1)) ⟨Nat.zero_le _,hR,.inl ⟨rfl,rfl⟩⟩ ?_ ?_)
 · exact le_mkA (fun n=>n) []
 rintro⟨k,b,cur⟩ ⟨hk,hJ,hc⟩;simp only[upS,keepS,insS]
 try simp only[keepS,KN,Nat.reduceBEq,if_true,if_false,ins,Nat.reduceLT]
 simp only at hk hJ hc;clear hR;refine HT_seq<|HT_seq<|HT_runA ?_;refine(HT_cond rfl (fun h5=>HT_skip ?_) (fun h5=>?_))
 · (try simp only[BN]at h5);have hlt:k<is.length:=by omega
   obtain⟨x,he,hd⟩:=at_lt hlt;have hw1:=wrap1 hlt (by omega);have hk1:k+1≤is.length:=hlt;have he':=get_encL he;rw[hd]at hJ;simp only[bestF]at hJ;obtain⟨xn,xl⟩:=x;have cc:=covR_con xn nm;simp only[Lb.enc]at he' hJ cc;obtain⟨Cv,hCV⟩:∃x,covB xn nm=x:=⟨_,rfl⟩;rw[hCV]at cc hJ;clear h5 hd hlt hCV cL cB cT;rcases hc with⟨hb1,hc1⟩|⟨j,z,hb1,hz,hc1⟩
   · subst hb1;subst hc1;refine HT_seq<|HT_block<|HT_seq<|(HT_drunc [⟨true,.v (lb KD),none⟩,⟨true,.v (lb Cv),none⟩] (by kernel_rfl) (by kernel_rfl) (by rfl) (by simp[*];first|exact⟨rfl,Iff.rfl⟩|exact⟨rfl,trivial⟩|rfl) ?_ ?_)
     · first|exact⟨ci _,cc _⟩|exact trivial|(repeat' first|exact trivial|exact ci _|exact cc _|apply And.intro)
     refine(HT_cs rfl (fun h7=>?_) fun h7=>?_)
     · (try simp only[BN]at h7);have h7':KD=true∧Cv=true:=by simpa using h7
       rw[if_pos ⟨hK1 h7'.1,h7'.2,by simp only;omega⟩]at hJ;refine HT_runA ?_;refine HT_runA ?_;exact⟨(k+1,(k:Int),(xl,(xn.size:Int))),⟨hk1,hJ,.inr ⟨k,⟨xn,xl⟩,rfl,he,rfl⟩⟩,by simp only;omega,le_mkA (fun n=>n) []⟩
     try simp only[BN]at h7
     rw[if_neg (by
      rintro⟨a1,a2,a3⟩;cases hk:KD with
      |false=>exact hK2 hk a1
      |true=>simp[hk,a2]at h7)]at hJ
     refine HT_runA ?_;exact⟨(k+1,-1,(if kd=1 then TOP else BOT,-1)),⟨hk1,hJ,.inl ⟨rfl,rfl⟩⟩,by simp only;omega,le_mkA (fun n=>n) []⟩
   subst hb1;subst hc1;have hjn:¬((j:Int)<0):=by omega
   have hz':=get_encL hz;obtain⟨zn,zl⟩:=z;simp only[Lb.enc]at hz' hJ;refine HT_seq<|HT_block<|HT_seq<|(HT_drunc [⟨true,.v (lb KD),none⟩,⟨true,.v (lb Cv),none⟩] (by kernel_rfl) (by kernel_rfl) (by rfl) (by simp[*];first|exact⟨rfl,Iff.rfl⟩|exact⟨rfl,trivial⟩|rfl) ?_ ?_)
   · first|exact⟨ci _,cc _⟩|exact trivial|(repeat' first|exact trivial|exact ci _|exact cc _|apply And.intro)
   refine(HT_cs rfl (fun h7=>?_) fun h7=>?_)
   · (try simp only[BN]at h7);have h7':(KD=true∧Cv=true)∧zn.size<xn.size:=by simpa using h7
     rw[if_pos ⟨hK1 h7'.1.1,h7'.1.2,by omega⟩]at hJ;refine HT_runA ?_;refine HT_runA ?_;exact⟨(k+1,(k:Int),(xl,(xn.size:Int))),⟨hk1,hJ,.inr ⟨k,⟨xn,xl⟩,rfl,he,rfl⟩⟩,by simp only;omega,le_mkA (fun n=>n) []⟩
   try simp only[BN]at h7
   rw[if_neg (by
    rintro⟨a1,a2,a3⟩;cases hk:KD with
    |false=>exact hK2 hk a1
    |true=>simp[hk,a2]at h7;omega)]at hJ
   refine HT_runA ?_;exact⟨(k+1,(j:Int),(zl,(zn.size:Int))),⟨hk1,hJ,.inr ⟨j,⟨zn,zl⟩,rfl,hz,rfl⟩⟩,by simp only;omega,le_mkA (fun n=>n) []⟩
 (try simp only[BN]at h5);have hkl:k=is.length:=by omega
 rw[hkl,List.drop_length]at hJ;simp only[bestF]at hJ;refine(HT_exit ?_);refine HT_seq<|HT_seq<|HT_runA ?_;refine(HT_cs rfl (fun h14=>?_) fun h14=>?_)
 · try simp only[BN]at h14
   obtain⟨j,z,hb1,hz,hc1⟩:∃(j:Nat) (z:Lb),b=j∧is[j]? =some z∧cur=(z.level,(z.name.size:Int)):=by
    rcases hc with⟨h1,_⟩|h1
    · omega
    exact h1
   subst hb1;subst hc1;have hz':=get_encL hz;obtain⟨zn,zl⟩:=z;simp only[Lb.enc]at hz' hJ;subst hJ;refine HT_sA ?_;exact HT_rA
 try simp only[BN]at h14
 have hc1:cur=(if kd=1 then TOP else BOT,-1):=by
  rcases hc with⟨_,h1⟩|⟨j,z,h1,_⟩
  · exact h1
  omega
 subst hc1;simp only at hJ;refine HT_seq<|HT_seq<|HT_runA ?_;refine(HT_cs rfl (fun h18=>?_) fun h18=>?_)
 · (try simp only[BN]at h18);rw[if_pos (by simpa using h18)]at hJ;subst hJ;refine HT_scA [⟨false,.v (.agg [.c (.sl 1 A),.c (.sl 1 B)]),none⟩,⟨true,.v (li TOP),none⟩] ?_ ?_
   · first|exact⟨cL _,cT _⟩|exact trivial|(repeat' first|exact trivial|exact cL _|exact cT _|apply And.intro)
   exact HT_rA
 (try simp only[BN]at h18);rw[if_neg (by simpa using h18)]at hJ;subst hJ;refine HT_scA [⟨false,.v (.agg [.c (.sl 1 A),.c (.sl 1 B)]),none⟩,⟨true,.v (li BOT),none⟩] ?_ ?_
 · first|exact⟨cL _,cB _⟩|exact trivial|(repeat' first|exact trivial|exact cL _|exact cB _|apply And.intro)
 exact HT_rA
theorem inR_con (f:Fl) (p:Po) (hs:smQ p) (hf:smF f) (d:Nat):
  Con Tryz.prog 33 false [aF f,aPo p] (.tup [lI (pinF f p).1,li (pinF f p).2]) none d:=by
 have cv:=valid_con f p hs hf;have clev:=fun v h=>levR_con p v h hs;have hil:=hs.2.1;have hvl:=hf.hv;obtain⟨res,hres⟩:∃r,pinF f p=r:=⟨_,rfl⟩;rw[hres];unfold pinF at hres;have hvo:=vld_out (f:=f) (p:=p)
 have hvi:(polC p≠0∨codeC f≠0)↔vldC f p≠0:=by
  unfold vldC;constructor
  · intro h;rw[if_pos h.symm];decide
  intro h;split at h
  · rename_i k;exact k.symm
  exact absurd rfl h
 simp only[hvi]at hres;obtain⟨V,hV⟩:∃x,vldC f p=x:=⟨_,rfl⟩;rw[hV]at cv hres hvo;obtain⟨vars,hats,body⟩:=f;have hpe:p=p:=rfl;obtain⟨P,hP⟩:∃q,p=q:=⟨_,rfl⟩;rw[hP]at clev hres hvo;obtain⟨ls,os,is,hts,ob,tm⟩:=p;simp only at hvl hil;have hpi:P.inputs=is:=by rw[←hP]
 rw[hpi]at hres;clear hs hf hV hvi hpe hpi;refine con_of_HTA Tryz.func33 ?_;simp only[Tryz.f33];simp only[aF,Fl.enc,aPo,Po.enc,List.map_cons,List.map_nil]at cv⊢;rw[←hP]at clev;simp only[aPo,Po.enc,List.map_cons,List.map_nil]at clev;refine HT_sA ?_;refine HT_seq<|HT_seq<|(HT_runcA [⟨true,.v (li V),none⟩] ?_ ?_)
 · first|exact cv _|exact trivial|simpa[*]using cv _
 refine(HT_cs rfl (fun h2=>?_) fun h2=>?_)
 · (try simp only[BN]at h2);rw[if_pos (by simpa using h2)]at hres;subst hres;refine HT_sA ?_;exact HT_ret ⟨.inr rfl,_,le_one 4 1 rfl,⟨⟨_,by simp;rfl,by simp[resR]⟩,by simp,fun h=>by cases h⟩⟩
 (try simp only[BN]at h2);have hv0:V=0:=by simpa using h2
 subst hv0;rw[if_neg (by simp)]at hres;obtain⟨hcf,hcp⟩:=hvo rfl;refine HT_seq<|HT_seq<|HT_runA ?_;refine HT_block<|(HT_loopU [2,3] (fun(x:Nat)=>[(6,.v (li x))]) (fun x=>[(2,.box [.c (.sl 5 (encVs vars)),.c (.sl 6 (encHs hats)),.c (.sl 10 (encSs body))]),(3,.box [.c (.sl 1 (encNs ls)),.c (.sl 2 (encPr os)),.c (.sl 2 (encLs is)),.c (.sl 2 (encLs hts)),.c (iC ob),.c (bC tm)])]) (fun x=>x≤is.length∧((is.take x).all (usB vars)=true)) (fun x=>is.length - x) (0:Nat) ⟨Nat.zero_le _,by simp⟩ ?_ ?_)
 · exact le_mkA (fun n=>n) []
 rintro k ⟨hk,hall⟩;simp only[upS,keepS,insS]
 try simp only[keepS,KN,Nat.reduceBEq,if_true,if_false,ins,Nat.reduceLT]
 refine HT_seq<|HT_seq<|HT_runA ?_;refine(HT_cond rfl (fun h8=>HT_skip ?_) (fun h8=>?_))
 · (try simp only[BN]at h8);have hlt:k<is.length:=by omega
   obtain⟨x,he,hd⟩:=at_lt hlt;have hw1:=wrap1 hlt (by omega);have hk1:k+1≤is.length:=hlt;have he':=get_encL he;have hsn:(is.take (k+1)).all (usB vars)=(usB vars x):=by rw[List.take_add_one,he];simp[hall]
   obtain⟨xn,xl⟩:=x;simp only[Lb.enc]at he';clear h8 hd hlt;refine HT_seq<|HT_block<|HT_seq<|HT_runA ?_;refine HT_seq<|HT_seq<|HT_runA ?_;refine HT_block<|(HT_loopU [2,3,6] (fun(y:Nat)=>[(7,.v (lb (usB (vars.take y) ⟨xn,xl⟩))),(8,.v (li y))]) (fun y=>[(2,.box [.c (.sl 5 (encVs vars)),.c (.sl 6 (encHs hats)),.c (.sl 10 (encSs body))]),(3,.box [.c (.sl 1 (encNs ls)),.c (.sl 2 (encPr os)),.c (.sl 2 (encLs is)),.c (.sl 2 (encLs hts)),.c (iC ob),.c (bC tm)])]) (fun y=>y≤vars.length) (fun y=>vars.length - y) (0:Nat) (Nat.zero_le _) ?_ ?_)
   · exact le_mk (fun n=>n) [] rfl (by simp[*,upS,keepS,usB]) (by simp[*,upS]) (by simp[upS])
   rintro q hq;simp only[upS,keepS,insS]
   try simp only[keepS,KN,Nat.reduceBEq,if_true,if_false,ins,Nat.reduceLT]
   refine HT_seq<|HT_seq<|HT_runA ?_;refine(HT_cond rfl (fun h13=>HT_skip ?_) (fun h13=>?_))
   · (try simp only[BN]at h13);have hqk:q<vars.length:=by omega
     obtain⟨w,hz,hzd⟩:=at_lt hqk;have hwq:=wrap1 hqk (by omega);have hus:=usB_snoc hz ⟨xn,xl⟩;have hq1:q+1≤vars.length:=hqk;obtain⟨vn,vk,vlo,vhi,vin⟩:=w;have cc:=covR_con xn vn;have ci:=isIn_con ⟨vn,vk,vlo,vhi,vin⟩;simp only at cc ci hus;obtain⟨KD,hKD⟩:∃x,decide (vk≠0)=x:=⟨_,rfl⟩;rw[hKD]at ci hus;obtain⟨Cv,hCV⟩:∃x,covB xn vn=x:=⟨_,rfl⟩;rw[hCV]at cc hus;obtain⟨UB,hUB⟩:∃x,usB (vars.take q) ⟨xn,xl⟩=x:=⟨_,rfl⟩;rw[hUB]at hus⊢;clear hzd h13 hqk hCV hUB hKD;refine HT_seq<|HT_block<|HT_seq<|(HT_drunc [⟨true,.v (lb KD),none⟩,⟨true,.v (lb Cv),none⟩] (by kernel_rfl) (by kernel_rfl) (by rfl) (by simp[*];first|exact⟨rfl,Iff.rfl⟩|exact⟨rfl,trivial⟩|rfl) ?_ ?_)
     · first|exact⟨ci _,cc _⟩|exact trivial|(repeat' first|exact trivial|exact ci _|exact cc _|apply And.intro)
     refine(HT_cs rfl (fun h15=>?_) fun h15=>?_)
     · (try simp only[BN]at h15);have hy:(KD&&Cv)=true:=by simpa using h15
       rw[hy,Bool.or_true]at hus;refine HT_runA ?_;refine HT_runA ?_;exact⟨q+1,hq1,by omega,le_mkA (fun n=>n) []⟩
     try simp only[BN]at h15
     have hy:(KD&&Cv)=false:=by
      cases KD<;>cases Cv<;>simp at h15⊢
     rw[hy,Bool.or_false]at hus;refine HT_runA ?_;exact⟨q+1,hq1,by omega,le_mkA (fun n=>n) []⟩
   (try simp only[BN]at h13);have hqk:q=vars.length:=by omega
   subst hqk;rw[List.take_length];obtain⟨UB,hUB⟩:∃x,usB vars ⟨xn,xl⟩=x:=⟨_,rfl⟩;rw[hUB]at hsn⊢;refine(HT_exit ?_);refine HT_sA ?_;refine(HT_cs rfl (fun h22=>?_) fun h22=>?_)
   · (try simp only[BN]at h22);have hno:UB=false:=by simpa using h22
     rw[if_neg (by intro h;rw[List.all_eq_true]at h;have:=h _ (List.mem_of_getElem? he);rw[hUB,hno]at this;cases this)]at hres;subst hres;refine HT_sA ?_;exact HT_ret ⟨.inr rfl,_,le_one 4 1 rfl,⟨⟨_,by simp;rfl,by simp[resR]⟩,by simp,fun h=>by cases h⟩⟩
   (try simp only[BN]at h22);have hyes:UB=true:=by simpa using h22
   rw[hyes]at hsn;refine HT_runA ?_;exact⟨k+1,⟨hk1,hsn⟩,by omega,le_mkA (fun n=>n) []⟩
 (try simp only[BN]at h8);have hkl:k=is.length:=by omega
 rw[hkl,List.take_length]at hall;rw[if_pos hall]at hres;subst hres;clear hall hkl h8 hk;refine(HT_exit ?_);refine HT_sA ?_;refine HT_seq<|HT_seq<|HT_runA ?_;refine HT_block<|(HT_loopU [2,3] (fun(x:Nat)=>[(9,.v (.one (.own 900001))),(10,.v (li x))]) (fun x=>[(2,.box [.c (.sl 5 (encVs vars)),.c (.sl 6 (encHs hats)),.c (.sl 10 (encSs body))]),(3,.box [.c (.sl 1 (encNs ls)),.c (.sl 2 (encPr os)),.c (.sl 2 (encLs is)),.c (.sl 2 (encLs hts)),.c (iC ob),.c (bC tm)]),(900001,.row 3 1 (encIs ((vars.map (levV P)).take x)))]) (fun x=>x≤vars.length) (fun x=>vars.length - x) (0:Nat) (Nat.zero_le _) ?_ ?_)
 · exact le_mkA (fun n=>if n=900001 then 52 else n) []
 rintro q hq;simp only[upS,keepS,insS]
 try simp only[keepS,KN,Nat.reduceBEq,if_true,if_false,ins,Nat.reduceLT]
 refine HT_seq<|HT_seq<|HT_runA ?_;refine(HT_cond rfl (fun h31=>HT_skip ?_) (fun h31=>?_))
 · (try simp only[BN]at h31);have hqk:q<vars.length:=by omega
   obtain⟨w,hz,hzd⟩:=at_lt hqk;have hwq:=wrap1 hqk (by omega);have hq1:q+1≤vars.length:=hqk;have cl:=clev w (by rw[hP];exact hcp)
   have hsn:encIs ((vars.map (levV P)).take (q+1))=encIs ((vars.map (levV P)).take q)++[[iC (levV P w)]]:=by
    rw[List.take_add_one,List.getElem?_map,hz];simp[encIs]
   obtain⟨O,hO⟩:∃x,(vars.map (levV P)).take q=x:=⟨_,rfl⟩;have hOl:O.length=q:=by rw[←hO,List.length_take,List.length_map];omega
   have hroom:room (q+1) 8:=room_of (by omega) (by omega);rw[hO]at hsn⊢;obtain⟨LV0,hLV⟩:∃x,levV P w=x:=⟨_,rfl⟩;rw[hP,hLV]at cl;rw[hLV]at hsn;obtain⟨vn,vk,vlo,vhi,vin⟩:=w;clear hzd h31 hqk hLV;refine HT_seq<|HT_block<|(HT_drunc [⟨true,.v (li LV0),none⟩] (by kernel_rfl) (by kernel_rfl) (by rfl) (by simp[*];first|exact⟨rfl,Iff.rfl⟩|exact⟨rfl,trivial⟩|rfl) ?_ ?_)
   · first|exact cl _|exact trivial|simpa[*]using cl _
   refine HT_runA ?_;exact⟨q+1,hq1,by omega,le_mkA (fun n=>if n=900001 then 69 else n) []⟩
 (try simp only[BN]at h31);have hkl:q=vars.length:=by omega
 subst hkl;rw[List.take_of_length_le (by simp)];refine(HT_exit ?_);refine HT_sA ?_;exact HT_ret ⟨.inr rfl,_,le_frz 900001 rfl,⟨⟨_,by simp;rfl,by simp[resR]⟩,by simp,fun h=>by cases h⟩⟩
end Go.Proofs.YtfjidddhehckoaaGreat

namespace Go.Proofs.YtfjidddhehckoaaGreat
open Go Go.Hl
theorem hcs_nodup {vars:List Vr}:∀(l seen:List Ht),hcs vars seen l=0→(∀h∈l,∀w∈seen,w.name≠h.name)∧∀(i j:Nat) (a b:Ht),l[i]? =some a→l[j]? =some b→a.name=b.name→i=j
 |[],seen,_=>⟨fun h hh=>(by cases hh),fun i j a b ha=>by simp at ha⟩
 | x :: l,seen,h=>by
   simp only[hcs]at h;split at h
   · rename_i hc;obtain⟨h1,h2⟩:=hcs_nodup l _ h
     have hx:∀w∈seen,w.name≠x.name:=by
      intro w hw e;unfold hcode at hc;split at hc
      · cases hc
      rw[if_pos (by rw[List.any_eq_true];exact⟨w,hw,by simpa using e⟩)]at hc;cases hc
     refine⟨fun y hy w hw=>?_,?_⟩
     · rcases List.mem_cons.1 hy with rfl|hy
       · exact hx w hw
       exact h1 y hy w (List.mem_append_left _ hw)
     intro i j a b ha hb e;have hxl:∀(k:Nat) (c:Ht),l[k]? =some c→x.name≠c.name:=fun k c hk=>h1 c (List.mem_of_getElem? hk) x (by simp);cases i with
     | zero=>cases j with
       |zero=>rfl
       | succ j=>
         simp only[List.getElem?_cons_zero,Option.some.injEq]at ha;simp only[List.getElem?_cons_succ]at hb;subst ha;exact absurd e (hxl j b hb)
     | succ i=>cases j with
       | zero=>
         simp only[List.getElem?_cons_zero,Option.some.injEq]at hb;simp only[List.getElem?_cons_succ]at ha;subst hb;exact absurd e.symm (hxl i a ha)
       | succ j=>
         simp only[List.getElem?_cons_succ]at ha hb;rw[h2 i j a b ha hb e]
   rename_i hc;exact absurd h hc
def hlF (nm:ByteArray) (l:List Lb) (n:Int):Int:=l.foldl (fun n x=>if nm=x.name then x.level else n) n
theorem hatI_some {hats:List Ht} {s:ByteArray} {i:Nat} (h:hatI hats s=some i):∃w,hats[i]? =some w∧w.name=s:=by
 unfold hatI at h;rw[List.findIdx?_eq_some_iff_getElem]at h;obtain⟨h1,h2,_⟩:=h;exact⟨hats[i],List.getElem?_eq_getElem h1,by simpa using h2⟩
theorem hatI_none {hats:List Ht} {s:ByteArray}:hatI hats s=none↔∀w∈hats,w.name≠s:=by
 unfold hatI;rw[List.findIdx?_eq_none_iff];simp
theorem htF_get {hats:List Ht} (hnd:∀(i j:Nat) (a b:Ht),hats[i]? =some a→hats[j]? =some b→a.name=b.name→i=j):∀(l:List Lb) (out r:List Int),out.length=hats.length→htF hats out l=some r→
  ∀(i:Nat) (h:Ht) (x:Int),hats[i]? =some h→out[i]? =some x→r[i]? =some (hlF h.name l x)
 | [],out,r,hl,h,i,w,x,hw,hx=>by
   simp only[htF,Option.some.injEq]at h;subst h;exact hx
 | y ::l,out,r,hl,h,i,w,x,hw,hx=>by
   simp only[htF]at h;cases hi:hatI hats y.name with
   |none=>rw[hi]at h;cases h
   | some j=>
     rw[hi]at h;simp only at h;obtain⟨v,hv,hvn⟩:=hatI_some hi;have hj:=(List.getElem?_eq_some_iff.1 hv).1;by_cases e:w.name=y.name
     · have hij:=hnd i j w v hw hv (e.trans hvn.symm);subst hij;have:=htF_get hnd l (out.set i y.level) r (by simpa using hl) h i w y.level hw (by rw[List.getElem?_set_self (by omega)]);rw[this];simp only[hlF,List.foldl_cons,e,if_true]
     have hij:j≠i:=by
      intro hji;subst hji;rw[hw]at hv;cases hv;exact e hvn
     have:=htF_get hnd l (out.set j y.level) r (by simpa using hl) h i w x hw (by rw[List.getElem?_set_ne hij];exact hx);rw[this];simp only[hlF,List.foldl_cons,if_neg e]
theorem htF_none {hats:List Ht}:∀(l:List Lb) (out:List Int),htF hats out l=none↔∃x∈l,∀w∈hats,w.name≠x.name
 |[],out=>by simp[htF]
 | y ::l,out=>by
   simp only[htF];cases hi:hatI hats y.name with
   | none=>
     simp only[true_iff];exact⟨y,List.mem_cons_self ..,hatI_none.1 hi⟩
   | some j=>
     simp only;rw[htF_none l];obtain⟨v,hv,hvn⟩:=hatI_some hi;constructor
     · rintro⟨x,hx,h⟩;exact⟨x,List.mem_cons_of_mem _ hx,h⟩
     rintro⟨x,hx,h⟩;rcases List.mem_cons.1 hx with rfl|hx
     · exact absurd hvn (h v (List.mem_of_getElem? hv))
     exact⟨x,hx,h⟩
theorem htF_eq {hats:List Ht} (hnd:∀(i j:Nat) (a b:Ht),hats[i]? =some a→hats[j]? =some b→a.name=b.name→i=j) (l:List Lb):
  htF hats (List.replicate hats.length (-1)) l=if l.all (fun x=>hats.any fun w=>decide (w.name=x.name))=true then some (hats.map fun h=>hlF h.name l (-1))else none:=by
 cases h:htF hats (List.replicate hats.length (-1)) l with
 | none=>
   obtain⟨x,hx,hn⟩:=(htF_none l _).1 h;rw[if_neg];intro ha;rw[List.all_eq_true]at ha;have:=ha x hx;rw[List.any_eq_true]at this;obtain⟨w,hw,he⟩:=this;exact hn w hw (by simpa using he)
 | some r=>
   rw[if_pos]
   · congr 1;apply List.ext_getElem?;intro i;by_cases hi:i<hats.length
     · rw[htF_get hnd l _ r (by simp) h i hats[i] (-1) (List.getElem?_eq_getElem hi) (by rw[List.getElem?_replicate];simp[hi]),List.getElem?_map,List.getElem?_eq_getElem hi];rfl
     rw[List.getElem?_eq_none (by rw[htF_len _ _ _ _ h];simp;omega),List.getElem?_eq_none (by simp;omega)]
   rw[List.all_eq_true];intro x hx;rw[List.any_eq_true];cases hc:hats.find? fun w=>decide (w.name=x.name)with
   |some w=>exact⟨w,List.mem_of_find?_eq_some hc,by have:=List.find?_some hc;simpa using this⟩
   | none=>
     exfalso;rw[List.find?_eq_none]at hc;have:=(htF_none (hats:=hats) l (List.replicate hats.length (-1))).2 ⟨x,hx,fun w hw=>by simpa using hc w hw⟩;rw[this]at h;cases h
theorem haR_con (f:Fl) (p:Po) (hs:smQ p) (hf:smF f) (d:Nat):
  Con Tryz.prog 34 false [aF f,aPo p] (.tup [lI (phtF f p).1,li (phtF f p).2]) none d:=by
 have cv:=valid_con f p hs hf;have hil:=hs.2.2.1;have hvl:=hf.hh;have hnd:vldC f p=0→∀l,_:=fun h=>htF_eq (hcs_nodup _ _ (code_split (vld_out h).1).2.2.1).2;obtain⟨res,hres⟩:∃r,phtF f p=r:=⟨_,rfl⟩;rw[hres];unfold phtF at hres
 have hvi:(polC p≠0∨codeC f≠0)↔vldC f p≠0:=by
  unfold vldC;constructor
  · intro h;rw[if_pos h.symm];decide
  intro h;split at h
  · rename_i k;exact k.symm
  exact absurd rfl h
 simp only[hvi]at hres;obtain⟨V,hV⟩:∃x,vldC f p=x:=⟨_,rfl⟩;rw[hV]at cv hres hnd;obtain⟨vars,hats,body⟩:=f;obtain⟨ls,os,is,hts,ob,tm⟩:=p;simp only at hvl hil hres hnd;have hln:(encHs hats).length=hats.length:=by simp[encHs]
 clear hs hf hV hvi;refine con_of_HTA Tryz.func34 ?_;simp only[Tryz.f34];simp only[aF,Fl.enc,aPo,Po.enc,List.map_cons,List.map_nil]at cv⊢;refine HT_sA ?_;refine HT_seq<|HT_seq<|(HT_runcA [⟨true,.v (li V),none⟩] ?_ ?_)
 · first|exact cv _|exact trivial|simpa[*]using cv _
 refine(HT_cs rfl (fun h2=>?_) fun h2=>?_)
 · (try simp only[BN]at h2);rw[if_pos (by simpa using h2)]at hres;subst hres;refine HT_sA ?_;exact HT_ret ⟨.inr rfl,_,le_one 4 1 rfl,⟨⟨_,by simp;rfl,by simp[resR]⟩,by simp,fun h=>by cases h⟩⟩
 (try simp only[BN]at h2);have hv0:V=0:=by simpa using h2
 subst hv0;rw[if_neg (by simp),hnd rfl]at hres;clear hnd;refine HT_seq<|HT_seq<|HT_runA ?_;refine HT_block<|(HT_loopU [2,3] (fun(x:Nat)=>[(6,.v (li x))]) (fun x=>[(2,.box [.c (.sl 5 (encVs vars)),.c (.sl 6 (encHs hats)),.c (.sl 10 (encSs body))]),(3,.box [.c (.sl 1 (encNs ls)),.c (.sl 2 (encPr os)),.c (.sl 2 (encLs is)),.c (.sl 2 (encLs hts)),.c (iC ob),.c (bC tm)])]) (fun x=>x≤hts.length∧((hts.take x).all (fun y=>hats.any fun w=>decide (w.name=y.name))=true)) (fun x=>hts.length - x) (0:Nat) ⟨Nat.zero_le _,by simp⟩ ?_ ?_)
 · exact le_mkA (fun n=>n) []
 rintro k ⟨hk,hall⟩;simp only[upS,keepS,insS]
 try simp only[keepS,KN,Nat.reduceBEq,if_true,if_false,ins,Nat.reduceLT]
 refine HT_seq<|HT_seq<|HT_runA ?_;refine(HT_cond rfl (fun h8=>HT_skip ?_) (fun h8=>?_))
 · (try simp only[BN]at h8);have hlt:k<hts.length:=by omega
   obtain⟨x,he,hd⟩:=at_lt hlt;have hw1:=wrap1 hlt (by omega);have hk1:k+1≤hts.length:=hlt;have he':=get_encL he;have hsn:(hts.take (k+1)).all (fun y=>hats.any fun w=>decide (w.name=y.name))=(hats.any fun w=>decide (w.name=x.name)):=by rw[List.take_add_one,he];simp only[Option.toList_some,List.all_append,hall,Bool.true_and,List.all_cons,List.all_nil,Bool.and_true]
   obtain⟨xn,xl⟩:=x;simp only[Lb.enc]at he' hsn;clear h8 hd hlt;refine HT_seq<|HT_block<|HT_seq<|HT_runA ?_;refine HT_seq<|HT_seq<|HT_runA ?_;refine HT_block<|(HT_loopU [2,3,6] (fun(y:Nat)=>[(7,.v (lb ((hats.take y).any fun w=>decide (w.name=xn)))),(8,.v (li y))]) (fun y=>[(2,.box [.c (.sl 5 (encVs vars)),.c (.sl 6 (encHs hats)),.c (.sl 10 (encSs body))]),(3,.box [.c (.sl 1 (encNs ls)),.c (.sl 2 (encPr os)),.c (.sl 2 (encLs is)),.c (.sl 2 (encLs hts)),.c (iC ob),.c (bC tm)])]) (fun y=>y≤hats.length) (fun y=>hats.length - y) (0:Nat) (Nat.zero_le _) ?_ ?_)
   · exact le_mkA (fun n=>n) []
   rintro q hq;simp only[upS,keepS,insS]
   try simp only[keepS,KN,Nat.reduceBEq,if_true,if_false,ins,Nat.reduceLT]
   refine HT_seq<|HT_seq<|HT_runA ?_;refine(HT_cond rfl (fun h13=>HT_skip ?_) (fun h13=>?_))
   · (try simp only[BN]at h13);have hqk:q<hats.length:=by omega
     obtain⟨w,hz,hzd⟩:=at_lt hqk;have hwq:=wrap1 hqk (by omega);have hus:((hats.take (q+1)).any fun w=>decide (w.name=xn))=(((hats.take q).any fun w=>decide (w.name=xn))||decide (w.name=xn)):=by rw[List.take_add_one,hz];simp only[Option.toList_some,List.any_append,List.any_cons,List.any_nil,Bool.or_false]
     have hq1:q+1≤hats.length:=hqk;obtain⟨vn,vt,vlo,vhi⟩:=w;simp only at hus;obtain⟨UB,hUB⟩:∃x,((hats.take q).any fun w=>decide (w.name=xn))=x:=⟨_,rfl⟩;rw[hUB]at hus⊢;clear hzd h13 hqk hUB;refine HT_seq<|HT_block<|HT_seq<|(HT_drun (by kernel_rfl) (by kernel_rfl) (by rfl) (by simp[*];rfl) ?_);refine(HT_cs rfl (fun h15=>?_) fun h15=>?_)
     · (try simp only[BN]at h15);have hy:vn=xn:=by simpa using h15
       rw[decide_eq_true hy,Bool.or_true]at hus;refine HT_runA ?_;refine HT_runA ?_;exact⟨q+1,hq1,by omega,le_mkA (fun n=>n) []⟩
     (try simp only[BN]at h15);have hy:¬vn=xn:=by simpa using h15
     rw[decide_eq_false hy,Bool.or_false]at hus;refine HT_runA ?_;exact⟨q+1,hq1,by omega,le_mkA (fun n=>n) []⟩
   (try simp only[BN]at h13);have hqk:q=hats.length:=by omega
   subst hqk;rw[List.take_length];obtain⟨UB,hUB⟩:∃x,(hats.any fun w=>decide (w.name=xn))=x:=⟨_,rfl⟩;rw[hUB]at hsn⊢;refine(HT_exit ?_);refine HT_sA ?_;refine(HT_cs rfl (fun h22=>?_) fun h22=>?_)
   · (try simp only[BN]at h22);have hno:UB=false:=by simpa using h22
     rw[if_neg (by intro h;rw[List.all_eq_true]at h;have:=h _ (List.mem_of_getElem? he);simp only at this;rw[hUB,hno]at this;cases this)]at hres;subst hres;refine HT_sA ?_;exact HT_ret ⟨.inr rfl,_,le_one 4 1 rfl,⟨⟨_,by simp;rfl,by simp[resR]⟩,by simp,fun h=>by cases h⟩⟩
   (try simp only[BN]at h22);have hyes:UB=true:=by simpa using h22
   rw[hyes]at hsn;refine HT_runA ?_;exact⟨k+1,⟨hk1,hsn⟩,by omega,le_mkA (fun n=>n) []⟩
 (try simp only[BN]at h8);have hkl:k=hts.length:=by omega
 rw[hkl,List.take_length]at hall;rw[if_pos hall]at hres;subst hres;clear hall hkl h8 hk;refine(HT_exit ?_);refine HT_sA ?_;refine HT_seq<|HT_seq<|HT_runA ?_;refine HT_block<|(HT_loopU [2,3] (fun(x:Nat)=>[(9,.v (.one (.own 900001))),(10,.v (li x))]) (fun x=>[(2,.box [.c (.sl 5 (encVs vars)),.c (.sl 6 (encHs hats)),.c (.sl 10 (encSs body))]),(3,.box [.c (.sl 1 (encNs ls)),.c (.sl 2 (encPr os)),.c (.sl 2 (encLs is)),.c (.sl 2 (encLs hts)),.c (iC ob),.c (bC tm)]),(900001,.row 3 1 (encIs ((hats.map fun h=>hlF h.name hts (-1)).take x)))]) (fun x=>x≤hats.length) (fun x=>hats.length - x) (0:Nat) (Nat.zero_le _) ?_ ?_)
 · exact le_mkA (fun n=>if n=900001 then 46 else n) []
 rintro q hq;simp only[upS,keepS,insS]
 try simp only[keepS,KN,Nat.reduceBEq,if_true,if_false,ins,Nat.reduceLT]
 refine HT_seq<|HT_seq<|HT_runA ?_;refine(HT_cond rfl (fun h31=>HT_skip ?_) (fun h31=>?_))
 · (try simp only[BN]at h31);have hqk:q<hats.length:=by omega
   obtain⟨w,hz,hzd⟩:=at_lt hqk;have hwq:=wrap1 hqk (by omega);have hq1:q+1≤hats.length:=hqk
   have hsn:encIs ((hats.map fun h=>hlF h.name hts (-1)).take (q+1))=encIs ((hats.map fun h=>hlF h.name hts (-1)).take q)++[[iC (hlF w.name hts (-1))]]:=by
    rw[List.take_add_one,List.getElem?_map,hz];simp[encIs]
   obtain⟨O,hO⟩:∃x,(hats.map fun h=>hlF h.name hts (-1)).take q=x:=⟨_,rfl⟩;have hOl:O.length=q:=by rw[←hO,List.length_take,List.length_map];omega
   have hroom:room (q+1) 8:=room_of (by omega) (by omega);rw[hO]at hsn⊢;obtain⟨vn,vt,vlo,vhi⟩:=w;simp only at hsn;clear hzd h31 hqk;refine HT_seq<|HT_block<|HT_seq<|HT_runA ?_;refine HT_seq<|HT_seq<|HT_runA ?_;refine HT_block<|(HT_loopU [2,3,9,10] (fun(y:Nat×Int)=>[(11,.v (li y.2)),(12,.v (li y.1))]) (fun y=>[(2,.box [.c (.sl 5 (encVs vars)),.c (.sl 6 (encHs hats)),.c (.sl 10 (encSs body))]),(3,.box [.c (.sl 1 (encNs ls)),.c (.sl 2 (encPr os)),.c (.sl 2 (encLs is)),.c (.sl 2 (encLs hts)),.c (iC ob),.c (bC tm)]),(900001,.row 3 1 (encIs O))]) (fun y=>y.1≤hts.length∧hlF vn (hts.drop y.1) y.2=hlF vn hts (-1)) (fun y=>hts.length - y.1) (0,-1) ⟨Nat.zero_le _,rfl⟩ ?_ ?_)
   · exact le_mkA (fun n=>n) []
   rintro⟨k,n⟩ ⟨hk,hJ⟩;simp only[upS,keepS,insS]
   try simp only[keepS,KN,Nat.reduceBEq,if_true,if_false,ins,Nat.reduceLT]
   simp only at hk hJ;refine HT_seq<|HT_seq<|HT_runA ?_;refine(HT_cond rfl (fun h36=>HT_skip ?_) (fun h36=>?_))
   · (try simp only[BN]at h36);have hlt:k<hts.length:=by omega
     obtain⟨x,he,hd⟩:=at_lt hlt;have hw1:=wrap1 hlt (by omega);have hk1:k+1≤hts.length:=hlt;have he':=get_encL he;rw[hd]at hJ;simp only[hlF,List.foldl_cons]at hJ;obtain⟨xn,xl⟩:=x;simp only[Lb.enc]at he' hJ;clear h36 hd hlt hsn;refine HT_seq<|HT_block<|HT_seq<|(HT_drun (by kernel_rfl) (by kernel_rfl) (by rfl) (by simp[*];rfl) ?_);refine(HT_cs rfl (fun h38=>?_) fun h38=>?_)
     · (try simp only[BN]at h38);rw[if_pos (by simpa using h38)]at hJ;refine HT_runA ?_;refine HT_runA ?_;exact⟨(k+1,xl),⟨hk1,hJ⟩,by simp only;omega,le_mkA (fun n=>n) []⟩
     (try simp only[BN]at h38);rw[if_neg (by simpa using h38)]at hJ;refine HT_runA ?_;exact⟨(k+1,n),⟨hk1,hJ⟩,by simp only;omega,le_mkA (fun n=>n) []⟩
   (try simp only[BN]at h36);have hkl:k=hts.length:=by omega
   rw[hkl,List.drop_length]at hJ;have hv:hlF vn hts (-1)=n:=hJ.symm;rw[hv]at hsn;clear hJ hkl h36 hk hv;refine(HT_exit ?_);refine HT_runA ?_;refine HT_runA ?_;exact⟨q+1,hq1,by omega,le_mkA (fun n=>if n=900001 then 83 else n) []⟩
 (try simp only[BN]at h31);have hkl:q=hats.length:=by omega
 subst hkl;rw[List.take_of_length_le (by simp)];refine(HT_exit ?_);refine HT_sA ?_;exact HT_ret ⟨.inr rfl,_,le_frz 900001 rfl,⟨⟨_,by simp;rfl,by simp[resR]⟩,by simp,fun h=>by cases h⟩⟩
end Go.Proofs.YtfjidddhehckoaaGreat
