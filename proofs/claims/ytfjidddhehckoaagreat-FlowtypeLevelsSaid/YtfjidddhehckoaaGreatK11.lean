/- Part 11: contracts of functions of the program and of the reference, and plain facts about what they compute; used by the proof of the claimed statement. Conditions: as each theorem states. -/
import Derived.Test.YtfjidddhehckoaaGreatK1
import Derived.Test.YtfjidddhehckoaaGreatK9
import Derived.Test.YtfjidddhehckoaaGreatK8
import Derived.Test.YtfjidddhehckoaaGreatK10
set_option linter.unusedSimpArgs false
set_option linter.unusedVariables false
set_option linter.unnecessarySimpa false
set_option maxRecDepth 100000
set_option maxHeartbeats 2000000
namespace Go.Proofs.YtfjidddhehckoaaGreat
open Go Go.Hl
def hasP (s p:ByteArray):Bool:=decide (p.size≤s.size)&&decide (s.extract 0 p.size=p)
def cutP (s p:ByteArray):ByteArray×Bool:=if hasP s p=true then(s.extract p.size s.size,true)else(s,false)
theorem hasP_con (s p:ByteArray) (d:Nat):Con Tryz.prog 197 true [sv s,sv p] (.v (lb (hasP s p))) none d:=by
 obtain⟨res,hres⟩:∃r,hasP s p=r:=⟨_,rfl⟩;rw[hres];unfold hasP at hres;refine con_of_HTA Tryz.func197 ?_;simp only[Tryz.f197];refine HT_sA ?_;rcases Classical.em (p.size≤s.size)with hle|hle
 · have h0:(0:Nat)≤p.size:=Nat.zero_le _;refine HT_sA ?_;exact HT_rA
 have hz:¬((p.size:Int)≤s.size):=by omega
 refine HT_sA ?_;exact HT_rA
theorem cutL_con (s p:ByteArray) (d:Nat):Con Tryz.prog 181 true [sv s,sv p] (.tup [sv (cutP s p).1,lb (cutP s p).2]) none d:=by
 have cc:=hasP_con s p;obtain⟨res,hres⟩:∃r,cutP s p=r:=⟨_,rfl⟩;rw[hres];unfold cutP at hres
 have hle:hasP s p=true→p.size≤s.size:=by
  intro h;simp only[hasP,Bool.and_eq_true,decide_eq_true_eq]at h;exact h.1
 obtain⟨b,hb⟩:∃b,hasP s p=b:=⟨_,rfl⟩;rw[hb]at cc hres hle;refine con_of_HTA Tryz.func181 ?_;simp only[Tryz.f181];refine HT_sA ?_;refine HT_seq<|HT_seq<|(HT_runcA [⟨true,.v (lb b),none⟩] ?_ ?_)
 · first|exact cc _|exact trivial|simpa[*]using cc _
 refine(HT_cs rfl (fun h2=>?_) fun h2=>?_)
 · (try simp only[BN]at h2);have hbf:b=false:=by simpa using h2
   subst hbf;rw[if_neg (by decide)]at hres;subst hres;refine HT_sA ?_;exact HT_rA
 (try simp only[BN]at h2);have hbf:b=true:=by simpa using h2
 subst hbf;rw[if_pos rfl]at hres;subst hres;have hle:=hle rfl;refine HT_sA ?_;exact HT_rA
theorem cutS_con (s p:ByteArray) (d:Nat):Con Tryz.prog 149 true [sv s,sv p] (.tup [sv (cutP s p).1,lb (cutP s p).2]) none d:=by
 have cc:=cutL_con s p;obtain⟨⟨r,b⟩,hres⟩:∃r,cutP s p=r:=⟨_,rfl⟩;rw[hres]at cc⊢;refine con_of_HTA Tryz.func149 ?_;simp only[Tryz.f149];refine HT_sA ?_;refine HT_scA [⟨true,.tup [sv r,lb b],none⟩] ?_ ?_
 · first|exact cc _|exact trivial|simpa[*]using cc _
 exact HT_rA
def covB (label v:ByteArray):Bool:=hasP v label&&(decide (v.size=label.size)||decide (v[label.size]? =some 46))
theorem cov_con (label v:ByteArray) (d:Nat):Con Tryz.prog 100 true [sv label,sv v] (.v (lb (covB label v))) none d:=by
 have cc:=cutS_con v label;obtain⟨res,hres⟩:∃r,covB label v=r:=⟨_,rfl⟩;rw[hres];unfold covB at hres;unfold cutP at cc;cases hp:hasP v label with
 | false=>
   rw[hp]at cc hres;simp only[Bool.false_eq_true,if_false]at cc;simp only[Bool.false_and]at hres;subst hres;rcases Nat.eq_zero_or_pos v.size with h0|h0
   · have he:v=⟨#[]⟩:=by rw[size_pos];exact h0
     subst he;refine con_of_HTA Tryz.func100 ?_;simp only[Tryz.f100];refine HT_sA ?_;refine HT_scA [⟨true,.tup [sv ⟨#[]⟩,lb false],none⟩] ?_ ?_
     · first|exact cc _|exact trivial|simpa[*]using cc _
     refine HT_sA ?_;exact HT_rA
   have hne:¬v=⟨#[]⟩:=by rw[size_pos];omega
   obtain⟨b0,hb0⟩:=get_bytes h0;clear hp h0;refine con_of_HTA Tryz.func100 ?_;simp only[Tryz.f100];refine HT_sA ?_;refine HT_scA [⟨true,.tup [sv v,lb false],none⟩] ?_ ?_
   · first|exact cc _|exact trivial|simpa[*]using cc _
   refine HT_sA ?_;exact HT_rA
 | true =>
   rw[hp]at cc hres
   have hle:label.size≤v.size:=by
    simp only[hasP,Bool.and_eq_true,decide_eq_true_eq]at hp;exact hp.1
   simp only[if_true]at cc;simp only[Bool.true_and]at hres;obtain⟨R,hR⟩:∃R,v.extract label.size v.size=R:=⟨_,rfl⟩;have hsz:R.size=v.size - label.size:=by rw[←hR];simp
   rw[hR]at cc;rcases Nat.lt_or_ge label.size v.size with hlt|hge
   · obtain⟨b,hb⟩:=get_bytes hlt
     have hR0:R[0]? =some b:=by
      rw[←hb,←hR,getElem?_pos (v.extract label.size v.size) 0 (by simp;omega),getElem?_pos v label.size hlt,ByteArray.getElem_extract];simp
     have hne:¬R=⟨#[]⟩:=by
      rw[size_pos];omega
     rw[hb,show decide (v.size=label.size)=false by simpa using(by omega:¬v.size=label.size)]at hres
     have e:decide ((b.toNat:Int)=46)=res:=by
      rw[←hres,Bool.false_or];refine decide_eq_decide.2 ⟨fun h=>?_,fun h=>?_⟩
      · have:b.toNat=(46:UInt8).toNat:=by
         show b.toNat=46;omega
        rw[UInt8.toNat_inj.1 this]
      cases h;rfl
     clear hres hb hR hsz hp hle hlt;refine con_of_HTA Tryz.func100 ?_;simp only[Tryz.f100];refine HT_sA ?_;refine HT_scA [⟨true,.tup [sv R,lb true],none⟩] ?_ ?_
     · first|exact cc _|exact trivial|simpa[*]using cc _
     refine HT_sA ?_;exact HT_rA
   have he:R=⟨#[]⟩:=by rw[size_pos];omega
   subst he;have he2:v.size=label.size:=by omega
   rw[decide_eq_true he2]at hres;simp only[Bool.true_or]at hres;subst hres;clear hR hsz he2 hp hle hge;refine con_of_HTA Tryz.func100 ?_;simp only[Tryz.f100];refine HT_sA ?_;refine HT_scA [⟨true,.tup [sv ⟨#[]⟩,lb true],none⟩] ?_ ?_
   · first|exact cc _|exact trivial|simpa[*]using cc _
   refine HT_sA ?_;exact HT_rA
def wordB (b:UInt8):Bool:=(((decide (97≤(b.toNat:Int))&&decide ((b.toNat:Int)≤122))||(decide (48≤(b.toNat:Int))&&decide ((b.toNat:Int)≤57)))||decide ((b.toNat:Int)=46))||decide ((b.toNat:Int)=95)
theorem word_con (b:UInt8) (d:Nat):Con Tryz.prog 198 true [.one (.c (.lit (.int .u8 b.toNat)))] (.v (lb (wordB b))) none d:=by
 unfold wordB;refine con_of_HTA Tryz.func198 ?_;simp only[Tryz.f198];refine HT_sA ?_;refine HT_sA ?_;exact HT_rA
theorem namePo_con (s:ByteArray) (d:Nat):Con Tryz.prog 182 true [sv s] (.v (lb (nameB s))) none d:=by
 rcases Nat.eq_zero_or_pos s.size with h0|h0
 · have hz:nameB s=false:=by unfold nameB;simp[h0]
   have he:s=⟨#[]⟩:=by rw[size_pos];exact h0
   rw[hz];subst he;clear hz h0;refine con_of_HTA Tryz.func182 ?_;simp only[Tryz.f182];refine HT_sA ?_;refine HT_seq<|HT_seq<|HT_runA ?_;refine(HT_cs rfl (fun h2=>?_) fun h2=>?_)
   · (try simp only[BN]at h2);refine HT_sA ?_;exact HT_rA
   exact absurd h2 (by simp)
 have hne:¬s=⟨#[]⟩:=by rw[size_pos];omega
 have hb0:s[0]? =some (s[0]'h0):=getElem?_pos s 0 h0;refine con_of_HTA Tryz.func182 ?_;simp only[Tryz.f182];refine HT_sA ?_;refine HT_seq<|HT_seq<|HT_runA ?_;refine(HT_cs rfl (fun h2=>?_) fun h2=>?_)
 · try simp only[BN]at h2
   have hz:nameB s=false:=by
    by_cases h40:s.size≤40
    · refine nameB_bad h0 ?_;unfold chOk;rw[hb0];simp only[Bool.or_eq_false_iff,Bool.and_eq_false_iff,decide_eq_false_iff_not];omega
    unfold nameB;simp[h40]
   refine HT_sA ?_;exact HT_rA
 (try simp only[BN]at h2);have h40:s.size≤40:=by omega
 have hb97:97≤((s[0]'h0).toNat:Int)∧((s[0]'h0).toNat:Int)≤122:=by omega
 refine HT_seq<|HT_seq<|HT_runA ?_;refine HT_block<|(HT_loopU [0,22] (fun(x:Nat)=>[(23,.v (li x))]) (fun x=>[]) (fun x=>x≤s.size∧∀j:Nat,j<x→chOk s j=true) (fun x=>s.size - x) (0:Nat) ⟨Nat.zero_le _,fun j hj=>absurd hj (Nat.not_lt_zero j)⟩ ?_ ?_)
 · exact le_mkA (fun n=>n) []
 rintro k ⟨hk,hall⟩;simp only[upS,keepS,insS]
 try simp only[keepS,KN,Nat.reduceBEq,if_true,if_false,ins,Nat.reduceLT]
 refine HT_sA ?_;refine HT_seq<|(HT_cond rfl (fun h8=>HT_skip ?_) (fun h8=>?_))
 · (try simp only[BN]at h8);have hlt:k<s.size:=by omega
   obtain⟨b,hb⟩:=get_bytes hlt;have hw:=wrap1 hlt (by omega);have hk1:k+1≤s.size:=hlt;have cw:=word_con b;clear hlt h8;refine HT_seq<|HT_block<|HT_seq<|HT_runA ?_;refine HT_scA [⟨true,.v (lb (wordB b)),none⟩] ?_ ?_
   · first|exact cw _|exact trivial|simpa[*]using cw _
   refine(HT_cs rfl (fun h11=>?_) fun h11=>?_)
   · (try simp only[BN]at h11);have hwb:wordB b=false:=by simpa using h11
     have hbad:chOk s k=false:=by
      unfold chOk;rw[hb];unfold wordB at hwb;simp only[Bool.or_eq_false_iff,Bool.and_eq_false_iff,decide_eq_false_iff_not]at hwb⊢;omega
     have hz:=nameB_bad hk1 hbad;refine HT_sA ?_;exact HT_rA
   (try simp only[BN]at h11);have hwb:wordB b=true:=by simpa using h11
   have hgood:chOk s k=true:=by
    by_cases hk0:k=0
    · subst hk0;unfold chOk;rw[hb0];simp only[Bool.or_eq_true,Bool.and_eq_true,decide_eq_true_eq];omega
    unfold chOk;rw[hb];unfold wordB at hwb;simp only[Bool.or_eq_true,Bool.and_eq_true,decide_eq_true_eq]at hwb⊢;omega
   refine HT_runA ?_;exact⟨k+1,⟨by omega,fun j hj=>(Nat.lt_succ_iff_lt_or_eq.1 hj).elim (hall j) (fun e=>e▸hgood)⟩,by omega,le_mkA (fun n=>n) []⟩
 (try simp only[BN]at h8);have hz:=nameB_good h0 h40 (fun j hj=>hall j (by omega));refine(HT_exit ?_);refine HT_sA ?_;exact HT_rA
end Go.Proofs.YtfjidddhehckoaaGreat

namespace Go.Proofs.YtfjidddhehckoaaGreat
open Go Go.Hl
structure Lb where
 name:ByteArray
 level:Int
structure Po where
 levels:List ByteArray
 order:List (Int×Int)
 inputs:List Lb
 hatches:List Lb
 observer:Int
 timed:Bool
def Lb.enc (x:Lb):List CD:=[sC x.name,iC x.level]
def encLs (l:List Lb):List (List CD):=l.map Lb.enc
def encNs (l:List ByteArray):List (List CD):=l.map fun s=>[sC s]
def encPr (l:List (Int×Int)):List (List CD):=l.map fun p=>[iC p.1,iC p.2]
def Po.enc (p:Po):List CD:=[.sl 1 (encNs p.levels),.sl 2 (encPr p.order),.sl 2 (encLs p.inputs),.sl 2 (encLs p.hatches),iC p.observer,bC p.timed]
attribute [simp] Lb.enc Po.enc
abbrev aPo (p:Po):TV:=.agg (p.enc.map CV.c)
abbrev lLb (l:List Lb):TV:=.one (.c (.sl 2 (encLs l)))
@[simp] theorem len_encL (l:List Lb):(encLs l).length=l.length:=by simp[encLs]
theorem get_encL {l:List Lb} {k:Nat} {x:Lb} (h:l[k]? =some x):(encLs l)[k]? =some x.enc:=by simp[encLs,h]
def labC (n:Nat):List ByteArray→List Lb→Int
 |_,[]=>0
 |seen,x::l=>if nameB x.name=false then 7 else if Lt.hasN seen x.name=true then 8 else if x.level<0∨(n:Int)≤x.level then 3 else labC n (seen++[x.name]) l
def polC (p:Po):Int:=
 if Lt.newC p.levels p.order≠0 then Lt.newC p.levels p.order else if 64<p.inputs.length∨64<p.hatches.length then 4 else
 if labC p.levels.length [] p.inputs≠0 then labC p.levels.length [] p.inputs else if labC p.levels.length [] p.hatches≠0 then labC p.levels.length [] p.hatches else
 if p.observer<0∨(p.levels.length:Int)≤p.observer then 3 else 0
def bestF (v:Vr):List Lb→Int×Int→Int×Int
 |[],r=>r
 |x::l,r=>bestF v l (if v.kind≠0∧covB x.name v.name=true∧r.2<(x.name.size:Int)then(x.level,(x.name.size:Int))else r)
def usB (vars:List Vr) (x:Lb):Bool:=vars.any fun v=>decide (v.kind≠0)&&covB x.name v.name
def hatI (hats:List Ht) (s:ByteArray):Option Nat:=hats.findIdx? fun h=>decide (h.name=s)
def htF (hats:List Ht):List Int→List Lb→Option (List Int)
 |out,[]=>some out
 | out,x::l=>match hatI hats x.name with
   |none=>none
   |some i=>htF hats (out.set i x.level) l
mutual
def relS (hv:List Int):St→Bool
 | .mk d _ _ n _ a b _=> !(decide (d=5)&&decide ((hv[n.toNat]?).getD 0<0))&&(relL hv a&&relL hv b)
def relL (hv:List Int):List St→Bool
 |[]=>true
 |s::l=>relS hv s&&relL hv l
end
end Go.Proofs.YtfjidddhehckoaaGreat

namespace Go.Proofs.YtfjidddhehckoaaGreat
open Go Go.Hl
def seenM (l:List ByteArray):List (Value×CD):=l.map fun s=>(.string s,bC true)
theorem seenM_app (l:List ByteArray) (s:ByteArray):seenM (l++[s])=seenM l++[(.string s,bC true)]:=by simp[seenM]
theorem find_seen (s:ByteArray):∀l:List ByteArray,findM .string (.string s) (seenM l)=some (if Lt.hasN l s=true then some (bC true)else none)
 |[]=>by simp[seenM,findM,Lt.hasN]
 | x::l=>by
   have ih:=find_seen s l;by_cases e:s=x
   · subst e;simp[seenM,findM,Lt.same_str,Lt.hasN]
   have e':¬x=s:=fun h=>e h.symm;simp only[seenM,List.map_cons,findM,Lt.same_str,decide_eq_false e,Lt.hasN,List.any_cons,decide_eq_false e',Bool.false_or]at ih⊢;exact ih
theorem lab_con (n:Nat) (l:List Lb) (hl:l.length≤1000000) (d:Nat):Con Tryz.prog 151 true [lLb l,li n] (.v (li (labC n [] l))) none d:=by
 obtain⟨res,hres⟩:∃r,labC n [] l=r:=⟨_,rfl⟩;rw[hres];refine con_of_HTA Tryz.func151 ?_;simp only[Tryz.f151];refine HT_sA ?_;refine HT_sA ?_;refine HT_seq<|HT_seq<|HT_runA ?_;have hz:seenM []=[]:=rfl;refine HT_block<|(HT_loopU [1,5,9,10] (fun(x:Nat×List ByteArray)=>[(11,.v (li x.1))]) (fun x=>[(8,.mp (seenM x.2))]) (fun x=>x.1≤l.length∧labC n x.2 (l.drop x.1)=res) (fun x=>l.length - x.1) (0,[]) ⟨Nat.zero_le _,hres⟩ ?_ ?_)
 · exact le_mkA (fun n=>n) []
 rintro⟨k,seen⟩ ⟨hk,hJ⟩;simp only[upS,keepS,insS]
 try simp only[keepS,KN,Nat.reduceBEq,if_true,if_false,ins,Nat.reduceLT]
 simp only at hk hJ;clear hres;refine HT_sA ?_;refine HT_seq<|(HT_cond rfl (fun h5=>HT_skip ?_) (fun h5=>?_))
 · (try simp only[BN]at h5);have hlt:k<l.length:=by omega
   obtain⟨x,he,hd⟩:=at_lt hlt;have hw1:=wrap1 hlt (by omega);have hk1:k+1≤l.length:=hlt;rw[hd]at hJ;simp only[labC]at hJ;have he':=get_encL he;obtain⟨nm,lv⟩:=x;have cn:=namePo_con nm;have hfs:=find_seen nm seen;simp only[Lb.enc]at he' hJ cn hfs;clear hlt h5 hd he;refine HT_seq<|HT_block<|HT_seq<|HT_runA ?_;refine HT_seq<|HT_block<|HT_seq<|(HT_runcA [⟨true,.v (lb (nameB nm)),none⟩] ?_ ?_)
   · first|exact cn _|exact trivial|simpa[*]using cn _
   refine(HT_cond rfl (fun h8=>?_) (fun h8=>?_))
   · (try simp only[BN]at h8);have hnb:nameB nm=false:=by simpa using h8
     rw[if_pos hnb]at hJ;subst hJ;refine HT_sA ?_;exact HT_rA
   (try simp only[BN]at h8);have hnb:nameB nm=true:=by simpa using h8
   rw[if_neg (by rw[hnb];decide)]at hJ;rcases Bool.eq_false_or_eq_true (Lt.hasN seen nm)with hsn|hsn
   · rw[if_pos hsn]at hfs hJ;subst hJ;refine HT_sA ?_;refine(HT_cond rfl (fun h12=>?_) (fun h12=>?_))
     · (try simp only[BN]at h12);refine HT_sA ?_;exact HT_rA
     exact absurd h12 (by simp)
   rw[if_neg (by rw[hsn];decide)]at hfs hJ;refine HT_sA ?_;refine(HT_cond rfl (fun h12=>?_) (fun h12=>?_))
   · exact absurd h12 (by simp)
   (try simp only[BN]at h12);refine HT_sA ?_;refine(HT_cs rfl (fun h16=>?_) fun h16=>?_)
   · (try simp only[BN]at h16);rw[if_pos (by simpa using h16)]at hJ;subst hJ;refine HT_sA ?_;exact HT_rA
   (try simp only[BN]at h16);rw[if_neg (by simpa using h16)]at hJ;have hap:=seenM_app seen nm;refine HT_runA ?_;refine HT_runA ?_;exact⟨(k+1,seen++[nm]),⟨hk1,hJ⟩,by simp only;omega,le_mkA (fun n=>n) []⟩
 (try simp only[BN]at h5);have hkl:k=l.length:=by omega
 rw[hkl,List.drop_length]at hJ;simp only[labC]at hJ;subst hJ;refine(HT_exit ?_);refine HT_sA ?_;exact HT_rA
end Go.Proofs.YtfjidddhehckoaaGreat

namespace Go.Proofs.YtfjidddhehckoaaGreat
open Go Go.Hl
abbrev nsP (l:List ByteArray):TV:=.one (.c (.sl 1 (encNs l)))
abbrev orP (l:List (Int×Int)):TV:=.one (.c (.sl 2 (encPr l)))
theorem newP_con (names:List ByteArray) (order:List (Int×Int)) (hlen:order.length≤200) (d:Nat):
  Con Tryz.prog 67 false [nsP names,orP order] (.tup [Lt.newR names order,li (Lt.newC names order)]) none d:=Lt.new_con names order hlen d
def smP (p:Po):Prop:=p.order.length≤200∧p.inputs.length≤1000000∧p.hatches.length≤1000000∧p.levels.length≤1000000
theorem polC_con (p:Po) (hs:smP p) (d:Nat):Con Tryz.prog 102 true [aPo p] (.v (li (polC p))) none d:=by
 obtain⟨hs1,hs2,hs3,hs4⟩:=hs;have cn:=newP_con p.levels p.order hs1;have c1:=lab_con p.levels.length p.inputs hs2;have c2:=lab_con p.levels.length p.hatches hs3;obtain⟨res,hres⟩:∃r,polC p=r:=⟨_,rfl⟩;rw[hres];unfold polC at hres
 obtain⟨N,hN⟩:∃x,Lt.newR p.levels p.order=.one (.c x):=by
  unfold Lt.newR;split
  · exact⟨_,rfl⟩
  exact⟨_,rfl⟩
 obtain⟨C,hC⟩:∃x,Lt.newC p.levels p.order=x:=⟨_,rfl⟩;obtain⟨A,hA⟩:∃x,labC p.levels.length [] p.inputs=x:=⟨_,rfl⟩;obtain⟨B,hB⟩:∃x,labC p.levels.length [] p.hatches=x:=⟨_,rfl⟩;rw[hN,hC]at cn;rw[hA]at c1;rw[hB]at c2;rw[hC,hA,hB]at hres;obtain⟨ls,os,is,hs,ob,tm⟩:=p;simp only at hres cn c1 c2;have hln:(encNs ls).length=ls.length:=by simp[encNs]
 clear hN hC hA hB;refine con_of_HTA Tryz.func102 ?_;simp only[Tryz.f102];simp only[aPo,Po.enc,List.map_cons,List.map_nil];refine HT_sA ?_;refine HT_seq<|HT_seq<|(HT_runcA [⟨false,.tup [.one (.c N),li C],none⟩] ?_ ?_)
 · first|exact cn _|exact trivial|simpa[*]using cn _
 refine HT_sA ?_;refine(HT_cs rfl (fun h3=>?_) fun h3=>?_)
 · (try simp only[BN]at h3);rw[if_pos (by simpa using h3)]at hres;subst hres;refine HT_sA ?_;exact HT_rA
 (try simp only[BN]at h3);rw[if_neg (by simpa using h3)]at hres;refine HT_seq<|HT_seq<|HT_runA ?_;refine(HT_cs rfl (fun h7=>?_) fun h7=>?_)
 · (try simp only[BN]at h7);rw[if_pos (by omega)]at hres;subst hres;refine HT_sA ?_;exact HT_rA
 (try simp only[BN]at h7);rw[if_neg (by omega)]at hres;refine HT_seq<|HT_seq<|(HT_runcA [⟨true,.v (li A),none⟩] ?_ ?_)
 · first|exact c1 _|exact trivial|simpa[*]using c1 _
 refine HT_sA ?_;refine(HT_cs rfl (fun h12=>?_) fun h12=>?_)
 · (try simp only[BN]at h12);rw[if_pos (by simpa using h12)]at hres;subst hres;refine HT_sA ?_;exact HT_rA
 (try simp only[BN]at h12);rw[if_neg (by simpa using h12)]at hres;refine HT_seq<|HT_seq<|(HT_runcA [⟨true,.v (li B),none⟩] ?_ ?_)
 · first|exact c2 _|exact trivial|simpa[*]using c2 _
 refine HT_sA ?_;refine(HT_cs rfl (fun h17=>?_) fun h17=>?_)
 · (try simp only[BN]at h17);rw[if_pos (by simpa using h17)]at hres;subst hres;refine HT_sA ?_;exact HT_rA
 (try simp only[BN]at h17);rw[if_neg (by simpa using h17)]at hres;refine HT_seq<|HT_seq<|HT_runA ?_;refine(HT_cs rfl (fun h21=>?_) fun h21=>?_)
 · (try simp only[BN]at h21);rw[if_pos (by simpa[hln]using h21)]at hres;subst hres;refine HT_sA ?_;exact HT_rA
 (try simp only[BN]at h21);rw[if_neg (by simpa[hln]using h21)]at hres;subst hres;refine HT_sA ?_;exact HT_rA
def ordR (p:Po):TV:=if polC p=0 then .one (.c (Lt.latO p.levels p.order))else .one (.c (.lit (.pointer none)))
theorem polC_new {p:Po} (h:polC p=0):Lt.newC p.levels p.order=0:=by
 unfold polC at h;split at h
 · rename_i h1;exact absurd h h1
 rename_i h1;exact Decidable.not_not.1 h1
theorem ord_con (p:Po) (hs:smP p) (d:Nat):Con Tryz.prog 97 false [aPo p] (.v (ordR p)) none d:=by
 have cn:=newP_con p.levels p.order hs.1;have cc:=polC_con p hs
 have hnr:polC p=0→Lt.newR p.levels p.order=.one (.c (Lt.latO p.levels p.order)):=fun h=>by
  unfold Lt.newR;rw[if_pos (polC_new h)]
 unfold ordR;obtain⟨C,hC⟩:∃x,polC p=x:=⟨_,rfl⟩;obtain⟨D,hD⟩:∃x,Lt.newC p.levels p.order=x:=⟨_,rfl⟩;obtain⟨L,hL⟩:∃x,Lt.latO p.levels p.order=x:=⟨_,rfl⟩;rw[hC]at cc hnr;rw[hD]at cn;rw[hL]at hnr;rw[hC,hL];obtain⟨ls,os,is,hs,ob,tm⟩:=p;simp only at cc cn hnr;clear hC hD hL;refine con_of_HTA Tryz.func97 ?_;simp only[Tryz.f97];simp only[aPo,Po.enc,List.map_cons,List.map_nil]at cc⊢;refine HT_sA ?_;refine HT_seq<|HT_seq<|(HT_runcA [⟨true,.v (li C),none⟩] ?_ ?_)
 · first|exact cc _|exact trivial|simpa[*]using cc _
 refine(HT_cs rfl (fun h2=>?_) fun h2=>?_)
 · (try simp only[BN]at h2);rw[if_neg (by simpa using h2)];refine HT_sA ?_;exact HT_rA
 (try simp only[BN]at h2);have hc0:C=0:=by simpa using h2
 rw[if_pos hc0];rw[hnr hc0]at cn;refine HT_scA [⟨false,.tup [.one (.c L),li D],none⟩] ?_ ?_
 · first|exact cn _|exact trivial|simpa[*]using cn _
 refine HT_sA ?_;exact HT_rA
end Go.Proofs.YtfjidddhehckoaaGreat

namespace Go.Proofs.YtfjidddhehckoaaGreat
open Go Go.Hl
theorem cnt_le {p q:Nat→Bool}:∀l:List Nat,(∀x∈l,p x=true→q x=true)→l.countP p≤l.countP q
 |[],_=>Nat.le_refl _
 | x::l,h=>by
   have ih:=cnt_le l fun y hy=>h y (List.mem_cons_of_mem _ hy);have hx:=h x (List.mem_cons_self ..);rw[List.countP_cons,List.countP_cons];cases hp:p x
   · cases q x<;>simp<;>omega
   rw[hx hp];simp;omega
theorem cnt_lt {p q:Nat→Bool}:∀(l:List Nat) (z:Nat),(∀x∈l,p x=true→q x=true)→z∈l→p z=false→q z=true→l.countP p<l.countP q
 | x::l,z,h,hz,h1,h2=>by
   rw[List.countP_cons,List.countP_cons];rcases List.mem_cons.1 hz with rfl|hz
   · have:=cnt_le l fun y hy=>h y (List.mem_cons_of_mem _ hy);rw[h1,h2];simp;omega
   have ih:=cnt_lt l z (fun y hy=>h y (List.mem_cons_of_mem _ hy)) hz h1 h2;have hx:=h x (List.mem_cons_self ..);cases hp:p x
   · cases q x<;>simp<;>omega
   rw[hx hp];simp;omega
def hgN (n:Nat) (M:Nat→Nat→Bool) (x:Int):Nat:=(List.range n).countP fun y=> !M y x.toNat
def muV (n:Nat) (M:Nat→Nat→Bool) (l:List Int):Nat:=(l.map (hgN n M)).sum
theorem hgN_le (n:Nat) (M:Nat→Nat→Bool) (x:Int):hgN n M x≤n:=by
 unfold hgN;have:=List.countP_le_length (p:=fun y=> !M y x.toNat) (l:=List.range n);simpa using this
theorem muV_le (n:Nat) (M:Nat→Nat→Bool):∀l:List Int,muV n M l≤n*l.length
 |[]=>by simp[muV]
 | x::l=>by
   have h1:=hgN_le n M x;have h2:=muV_le n M l;simp only[muV,List.map_cons,List.sum_cons,List.length_cons,Nat.mul_succ]at h2⊢;omega
theorem J_up {e:En} (hM:Lt.Lat e.n e.M) {a b:Int} (ha:okI e.n a) (hb:okI e.n b):okI e.n (e.J a b)∧e.M a.toNat (e.J a b).toNat=true∧e.M b.toNat (e.J a b).toNat=true∧
  ∀d:Nat,d<e.n→e.M a.toNat d=true→e.M b.toNat d=true→e.M (e.J a b).toNat d=true:=by
 obtain⟨a1,a2⟩:=ha;obtain⟨b1,b2⟩:=hb
 have hj:e.J a b=(Lt.bndN e.n e.M a.toNat b.toNat:Nat):=by
  unfold En.J Lt.jmV;rw[if_pos (by simp[Lt.inB];omega)];rfl
 obtain⟨h1,h2,h3,h4⟩:=hM.lub (a:=a.toNat) (b:=b.toNat) (by omega) (by omega);rw[hj];exact⟨⟨by omega,by omega⟩,h2,h3,h4⟩
theorem hg_J {e:En} (hM:Lt.Lat e.n e.M) {a b:Int} (ha:okI e.n a) (hb:okI e.n b):hgN e.n e.M (e.J a b)≤hgN e.n e.M a∧(e.J a b≠a→hgN e.n e.M (e.J a b)<hgN e.n e.M a):=by
 obtain⟨⟨j1,j2⟩,h2,_,_⟩:=J_up hM ha hb;obtain⟨a1,a2⟩:=ha
 have hsub:∀x∈List.range e.n,(!e.M x (e.J a b).toNat)=true→(!e.M x a.toNat)=true:=by
  intro x hx h;simp only[List.mem_range]at hx;cases hxa:e.M x a.toNat
  · rfl
  rw[hM.trans x a.toNat (e.J a b).toNat hx (by omega) (by omega) hxa h2]at h;cases h
 refine⟨cnt_le _ hsub,fun hne=>?_⟩;refine cnt_lt _ (e.J a b).toNat hsub (by simp only[List.mem_range];omega) ?_ ?_
 · rw[hM.refl _ (by omega)];rfl
 cases hja:e.M (e.J a b).toNat a.toNat
 · rfl
 have:=hM.anti _ _ (by omega) (by omega) h2 hja;exact absurd (by omega) hne
theorem mu_mg {e:En} (hM:Lt.Lat e.n e.M):∀{a b:List Int},b.length=a.length→okV e.n a→okV e.n b→muV e.n e.M (mgF e.J a b)≤muV e.n e.M a∧(mgF e.J a b≠a→muV e.n e.M (mgF e.J a b)<muV e.n e.M a)
 |[],[],_,_,_=>⟨Nat.le_refl _,fun h=>absurd rfl h⟩
 | x::a,y::b,hl,ha,hb=>by
   obtain⟨h1,h2⟩:=hg_J hM (ha x (List.mem_cons_self ..)) (hb y (List.mem_cons_self ..));obtain⟨h3,h4⟩:=mu_mg hM (a:=a) (b:=b) (by simpa using hl) (fun z hz=>ha z (List.mem_cons_of_mem _ hz)) (fun z hz=>hb z (List.mem_cons_of_mem _ hz));simp only[mgF,muV,List.zipWith_cons_cons,List.map_cons,List.sum_cons]at h3 h4⊢;refine⟨by omega,fun hne=>?_⟩;by_cases hx:e.J x y=x
   · have:List.zipWith e.J a b≠a:=fun h=>hne (by rw[hx,h]);have:=h4 this;omega
   have:=h2 hx;omega
end Go.Proofs.YtfjidddhehckoaaGreat

namespace Go.Proofs.YtfjidddhehckoaaGreat
open Go Go.Hl
def Po.n (p:Po):Nat:=p.levels.length
def Po.M (p:Po):Nat→Nat→Bool:=Lt.closeM p.levels.length p.order
def Po.bot (p:Po):Int:=(Lt.topF p.n (Lt.flp p.M) p.n:Nat)
def Po.top (p:Po):Int:=(Lt.topF p.n p.M p.n:Nat)
def levV (p:Po) (v:Vr):Int:=(bestF v p.inputs (if v.kind=1 then p.top else p.bot,-1)).1
def pinF (f:Fl) (p:Po):List Int×Int:=
 if polC p≠0∨codeC f≠0 then([],1)else if p.inputs.all (usB f.vars)=true then(f.vars.map (levV p),0)else([],7)
def phtF (f:Fl) (p:Po):List Int×Int:=
 if polC p≠0∨codeC f≠0 then([],1)else match htF f.hats (List.replicate f.hats.length (-1)) p.hatches with
  |none=>([],7)
  |some l=>(l,0)
def envF (f:Fl) (p:Po):En:=⟨p.n,p.M,(phtF f p).1,p.observer⟩
def fuF (f:Fl) (p:Po):Nat:=p.n*f.vars.length+1
def askC (f:Fl) (p:Po):Int:=
 if(pinF f p).2≠0 then(pinF f p).2 else if(phtF f p).2≠0 then(phtF f p).2 else if relL (phtF f p).1 f.body=true then 0 else 12
def t0F (p:Po):Tp:=⟨p.bot,[],0,false,[],[]⟩
def tyR (f:Fl) (p:Po):List Int×Tp:=tyL (envF f p) (fuF f p) f.body p.bot (pinF f p).1 (t0F p)
end Go.Proofs.YtfjidddhehckoaaGreat

namespace Go.Proofs.YtfjidddhehckoaaGreat.Lt
open Go Go.Hl
def T27 (l:List CD) (n t k:Nat):HS:=⟨22,[(0,.v (.one (.c (.ptr l)))),(3,.v (li t)),(6,.v (li n)),(7,.v (li k))],[]⟩
theorem top_con (names:List ByteArray) (M:Nat→Nat→Bool) (hlat:Lat names.length M) (hn:0<names.length∧names.length≤12) (ix bl mt:CD) (d:Nat):
  Con Tryz.prog 99 true [.one (.c (latD names ix bl (matI names.length (bndI names.length M)) mt))] (.v (li (topF names.length M names.length:Nat))) none d:=by
 have hs:=fun d=>size_con names ix bl (matI names.length (bndI names.length M)) mt d;have ht:=hlat.top hn.1;unfold latD at*;refine con_of_HTA Tryz.func99 ?_;simp only[Tryz.f99];refine HT_seq (HT_run (by simp[regsOf,nsC,li,i64];rfl) ?_);refine HT_seq (HT_run (by simp;rfl) ?_);refine HT_seq (HT_seq (HT_runc [⟨true,.v (li names.length),none⟩] (by simp[li,i64];first|exact⟨rfl,Iff.rfl⟩|rfl) ?_ ?_))
 · simpa only[nsC,li,i64,and_true]using hs _
 refine HT_block (HT_loop (fun k=>T27 [nsC names,ix,bl,matI names.length (bndI names.length M),mt] names.length (topF names.length M k) k) (fun k=>k≤names.length) (fun k=>names.length - k) 0 (Nat.zero_le _) ?_ ?_)
 · exact le_mk (fun n=>n) [] rfl (by simp[T27,li,i64,nsC,topF]) (by simp[T27]) (by simp[T27])
 rintro k hk;obtain⟨t1,_⟩:=ht k hk;have hsuc:=topF_succ names.length M k;generalize hteq:topF names.length M k=t at*;simp only[T27];refine HT_seq (HT_run (by simp[li,i64];rfl) ?_);refine HT_seq (HT_cond rfl (fun h=>HT_skip ?_) (fun h=>HT_exit ?_))
 · have hlt:k<names.length:=by simpa using h
   have hw:IntKind.i64.wrap ((k:Int)+1)=(k:Int)+1:=wrap_in (by omega) (by omega);refine HT_seq (HT_block (HT_seq (HT_run (by simp;rfl) ?_)));refine HT_run (by simp[matI,t1,rowI_get hlt,i64];rfl) ?_;refine HT_run (by simp[hw];rfl) ?_;refine⟨k+1,hlt,by omega,?_⟩;rw[hsuc];exact le_mk (fun n=>n) [] rfl (by simp[T27,li,i64,nsC,matI,hw,bndI_eq]) (by simp[T27]) (by simp[T27])
 have hkn:k=names.length:=by simp at h;omega
 subst hkn;refine HT_seq (HT_run (by simp;rfl) ?_);exact HT_ret ⟨.inr rfl,_,le_refl _,⟨_,rfl,by simp[resR,li,i64,hteq]⟩,by simp,fun _=>⟨rfl,by simp⟩⟩
def T28 (l:List CD) (n t k:Nat):HS:=⟨22,[(0,.v (.one (.c (.ptr l)))),(3,.v (li t)),(6,.v (li n)),(7,.v (li k))],[]⟩
theorem bot_con (names:List ByteArray) (M:Nat→Nat→Bool) (hlat:Lat names.length M) (hn:0<names.length∧names.length≤12) (ix bl jn:CD) (d:Nat):
  Con Tryz.prog 68 true [.one (.c (latD names ix bl jn (matI names.length (bndI names.length (flp M)))))] (.v (li (topF names.length (flp M) names.length:Nat))) none d:=by
 have hs:=fun d=>size_con names ix bl jn (matI names.length (bndI names.length (flp M))) d;have ht:=hlat.flp.top hn.1;unfold latD at*;refine con_of_HTA Tryz.func68 ?_;simp only[Tryz.f68];refine HT_seq (HT_run (by simp[regsOf,nsC,li,i64];rfl) ?_);refine HT_seq (HT_run (by simp;rfl) ?_);refine HT_seq (HT_seq (HT_runc [⟨true,.v (li names.length),none⟩] (by simp[li,i64];first|exact⟨rfl,Iff.rfl⟩|rfl) ?_ ?_))
 · simpa only[nsC,li,i64,and_true]using hs _
 refine HT_block (HT_loop (fun k=>T28 [nsC names,ix,bl,jn,matI names.length (bndI names.length (flp M))] names.length (topF names.length (flp M) k) k) (fun k=>k≤names.length) (fun k=>names.length - k) 0 (Nat.zero_le _) ?_ ?_)
 · exact le_mk (fun n=>n) [] rfl (by simp[T28,li,i64,nsC,topF]) (by simp[T28]) (by simp[T28])
 rintro k hk;obtain⟨t1,_⟩:=ht k hk;have hsuc:=topF_succ names.length (flp M) k;generalize hteq:topF names.length (flp M) k=t at*;simp only[T28];refine HT_seq (HT_run (by simp[li,i64];rfl) ?_);refine HT_seq (HT_cond rfl (fun h=>HT_skip ?_) (fun h=>HT_exit ?_))
 · have hlt:k<names.length:=by simpa using h
   have hw:IntKind.i64.wrap ((k:Int)+1)=(k:Int)+1:=wrap_in (by omega) (by omega);refine HT_seq (HT_block (HT_seq (HT_run (by simp;rfl) ?_)));refine HT_run (by simp[matI,t1,rowI_get hlt,i64];rfl) ?_;refine HT_run (by simp[hw];rfl) ?_;refine⟨k+1,hlt,by omega,?_⟩;rw[hsuc];exact le_mk (fun n=>n) [] rfl (by simp[T28,li,i64,nsC,matI,hw,bndI_eq]) (by simp[T28]) (by simp[T28])
 have hkn:k=names.length:=by simp at h;omega
 subst hkn;refine HT_seq (HT_run (by simp;rfl) ?_);exact HT_ret ⟨.inr rfl,_,le_refl _,⟨_,rfl,by simp[resR,li,i64,hteq]⟩,by simp,fun _=>⟨rfl,by simp⟩⟩
def rbF (M:Nat→Nat→Bool) (k:Nat):Nat:=(List.range k).foldl (fun r i=>if M i r=true then i else r) 0
theorem rbF_succ (M:Nat→Nat→Bool) (k:Nat):rbF M (k+1)=if M k (rbF M k)=true then k else rbF M k:=by unfold rbF;rw[List.range_succ,List.foldl_append];rfl
theorem rbF_lt {n:Nat} {M:Nat→Nat→Bool} (hn:0<n):∀k,k≤n→rbF M k<n
 |0,_=>by simpa[rbF]using hn
 | k+1,hk=>by
   rw[rbF_succ];split
   · omega
   exact rbF_lt hn k (by omega)
theorem Lat.rbF {n:Nat} {M:Nat→Nat→Bool} (h:Lat n M) (hn:0<n):rbF M n=topF n (Go.Proofs.YtfjidddhehckoaaGreat.Lt.flp M) n:=by
 obtain⟨b1,b2⟩:=h.flp.top hn n (Nat.le_refl _);generalize topF n (Go.Proofs.YtfjidddhehckoaaGreat.Lt.flp M) n=bot at*
 have key:∀k,k≤n→bot<k→Go.Proofs.YtfjidddhehckoaaGreat.Lt.rbF M k=bot:=by
  intro k
  induction k with
  |zero=>intro _ h;omega
  | succ k ih=>
    intro hk hb;rw[rbF_succ];have hr:=rbF_lt (M:=M) hn k (by omega);by_cases e:bot=k
    · subst e;rw[if_pos (show M bot _=true from b2 _ hr)]
    rw[ih (by omega) (by omega)];by_cases hm:M k bot=true
    · exact absurd (h.anti _ _ (by omega) b1 hm (b2 k (by omega))) (by omega)
    rw[if_neg hm]
 exact key n (Nat.le_refl _) b1
def RB (names:List ByteArray) (M:Nat→Nat→Bool) (r k:Nat):HS:=⟨22,[(1,.v (.one (.at_ 1001 0))),(3,.v (li r)),(4,.v (li k))],[(1001,.box [.c (nsC names),.c (matB names.length M)])]⟩
theorem refbot_con (names:List ByteArray) (M:Nat→Nat→Bool) (hn:0<names.length∧names.length≤12) (d:Nat):Con Tryz.prog 23 true [latT names M] (.v (li (rbF M names.length:Nat))) none d:=by
 have hrl:=fun k hk=>rbF_lt (M:=M) hn.1 k hk;refine con_of_HTA Tryz.func23 ?_;simp only[Tryz.f23];refine HT_seq (HT_run (by simp[regsOf,latT,nsC];rfl) ?_);refine HT_seq (HT_run (by simp;rfl) ?_);refine HT_seq (HT_seq (HT_run (by simp;rfl) ?_));refine HT_block (HT_loop (fun k=>RB names M (rbF M k) k) (fun k=>k≤names.length) (fun k=>names.length - k) 0 (Nat.zero_le _) ?_ ?_)
 · exact le_mk (fun n=>1) [] rfl (by simp[RB,li,i64,rbF]) (by simp[RB,nsC]) (by simp[RB])
 rintro k hk;have t1:=hrl k hk;have hsuc:=rbF_succ M k;generalize hteq:rbF M k=t at*;simp only[RB];refine HT_seq (HT_seq (HT_run (by simp[li,i64,nsC];rfl) ?_));refine HT_cond rfl (fun h=>HT_skip ?_) (fun h=>HT_exit ?_)
 · have hlt:k<names.length:=by simpa using h
   have hw:IntKind.i64.wrap ((k:Int)+1)=(k:Int)+1:=wrap_in (by omega) (by omega);refine HT_seq (HT_block (HT_seq (HT_run (by simp[matB,hlt,rowB_get t1,bC];rfl) ?_)));refine HT_cond rfl (fun h=>?_) (fun h=>HT_skip ?_)
   · have h':M k t=true:=h;refine HT_run (by simp;rfl) ?_;refine HT_run (by simp[hw];rfl) ?_;refine⟨k+1,hlt,by omega,?_⟩;rw[hsuc,if_pos h'];exact le_mk (fun n=>n) [] rfl (by simp[RB,li,i64,hw]) (by simp[RB,nsC,matB]) (by simp[RB])
   have h':M k t=false:=h;refine HT_run (by simp[hw];rfl) ?_;refine⟨k+1,hlt,by omega,?_⟩;rw[hsuc,if_neg (by rw[h'];simp)];exact le_mk (fun n=>n) [] rfl (by simp[RB,li,i64,hw]) (by simp[RB,nsC,matB]) (by simp[RB])
 have hkn:k=names.length:=by simp at h;omega
 subst hkn;refine HT_seq (HT_run (by simp;rfl) ?_);exact HT_ret ⟨.inr rfl,_,le_refl _,⟨_,rfl,by simp[resR,li,i64,hteq]⟩,by simp,fun _=>⟨rfl,by simp⟩⟩
end Go.Proofs.YtfjidddhehckoaaGreat.Lt
