/- Part 9: contracts of functions of the program and of the reference, and plain facts about what they compute; used by the proof of the claimed statement. Conditions: as each theorem states. -/
import Derived.Test.YtfjidddhehckoaaGreatK8
set_option linter.unusedSimpArgs false
set_option linter.unusedVariables false
set_option linter.unnecessarySimpa false
set_option maxRecDepth 100000
set_option maxHeartbeats 2000000
namespace Go.Proofs.YtfjidddhehckoaaGreat.Lt
open Go Go.Hl
def letB (b:UInt8):Bool:=decide (97≤b.toNat)&&decide (b.toNat≤122)
def digB (b:UInt8):Bool:=decide (48≤b.toNat)&&decide (b.toNat≤57)
def chOk (s:ByteArray) (k:Nat):Bool:=match s[k]? with
 |some b=>letB b||(!decide (k=0)&&digB b)
 |none=>true
def nameB (s:ByteArray):Bool:=decide (1≤s.size)&&decide (s.size≤12)&&(List.range s.size).all (chOk s)
theorem byte_get {s:ByteArray} {k:Nat} (h:k<s.size):∃b,s[k]? =some b:=⟨s[k],by simp[h]⟩
theorem empty_of {s:ByteArray} (h:s.size=0):s=⟨#[]⟩:=by
 obtain⟨⟨l⟩⟩:=s;have:l=[]:=List.eq_nil_of_length_eq_zero h;rw[this]
theorem name_no {s:ByteArray} {k:Nat} {b:UInt8} (hk:k<s.size) (hb:s[k]? =some b) (h:(letB b||(!decide (k=0)&&digB b))=false):nameB s=false:=by
 unfold nameB;simp only[Bool.and_eq_false_iff,List.all_eq_false,List.mem_range];refine .inr ⟨k,hk,?_⟩;unfold chOk;rw[hb];simp only;rw[h];simp
theorem name_yes {s:ByteArray} (h0:1≤s.size) (h1:s.size≤12) (h:∀k,k<s.size→chOk s k=true):nameB s=true:=by
 unfold nameB;simp only[Bool.and_eq_true,decide_eq_true_eq,List.all_eq_true,List.mem_range];exact⟨⟨h0,h1⟩,h⟩
theorem empty_get:(⟨#[]⟩:ByteArray)[0]? =none:=rfl
def N1 (s:ByteArray) (k:Nat):HS:=⟨45,[(0,.v (.one (.c (sC s)))),(23,.v (li s.size)),(24,.v (li k))],[]⟩
theorem isname_con (s:ByteArray) (d:Nat):Con Tryz.prog 108 true [.one (.c (sC s))] (.v (lb (nameB s))) none d:=by
 refine con_of_HTA Tryz.func108 ?_;simp only[Tryz.f108];have hno:=@name_no s;have hyes:=@name_yes s;have hn0:s.size=0→nameB s=false:=by intro h;unfold nameB;simp[h]
 have hn12:12<s.size→nameB s=false:=by intro h;unfold nameB;simp;intro _ h2;omega
 have hchk:=fun k b (h:s[k]? =some b)=>(show chOk s k=(letB b||(!decide (k=0)&&digB b)) by unfold chOk;rw[h]);generalize nameB s=r at*;refine HT_seq (HT_run (by simp[regsOf,sC];rfl) ?_);by_cases h0:s.size=0
 · have e:=empty_of h0;subst e;refine HT_seq (HT_seq (HT_run (by simp[empty_get];rfl) ?_));refine HT_cond rfl (fun h=>?_) (fun h=>by cases h);refine HT_seq (HT_run (by simp;rfl) ?_);rw[hn0 h0];exact HT_ret ⟨.inr rfl,_,le_refl _,⟨_,rfl,rfl⟩,by simp,fun _=>⟨rfl,by simp⟩⟩
 have hne:¬s=⟨#[]⟩:=by rintro rfl;exact h0 rfl
 obtain⟨b0,hb0⟩:=byte_get (show 0<s.size by omega);refine HT_seq (HT_seq (HT_run (by simp[hne,hb0];rfl) ?_));refine HT_cond rfl (fun h=>?_) (fun h=>HT_skip ?_)
 · refine HT_seq (HT_run (by simp;rfl) ?_)
   have hr:r=false:=by
    by_cases h12:12<s.size
    · exact hn12 h12
    refine hno (show 0<s.size by omega) hb0 ?_;simp at h;simp[letB];omega
   rw[hr];exact HT_ret ⟨.inr rfl,_,le_refl _,⟨_,rfl,rfl⟩,by simp,fun _=>⟨rfl,by simp⟩⟩
 have h12:s.size≤12∧97≤b0.toNat∧b0.toNat≤122:=by simp at h;omega
 refine HT_seq (HT_seq (HT_run (by simp;rfl) ?_));refine HT_block (HT_loop (N1 s) (fun k=>k≤s.size∧∀c,c<k→chOk s c=true) (fun k=>s.size - k) 0 ⟨Nat.zero_le _,by simp⟩ ?_ ?_)
 · exact le_mk (fun n=>n) [] rfl (by simp[N1,li,i64,sC]) (by simp[N1]) (by simp[N1])
 rintro k ⟨hk,hall⟩;simp only[N1];refine HT_seq (HT_run (by simp[li,i64,sC];rfl) ?_);refine HT_seq (HT_cond rfl (fun h=>HT_skip ?_) (fun h=>HT_exit ?_))
 · have hlt:k<s.size:=by simpa using h
   have hw:IntKind.i64.wrap ((k:Int)+1)=(k:Int)+1:=wrap_in (by omega) (by omega);obtain⟨b,hb⟩:=byte_get hlt;refine HT_seq (HT_block (HT_seq (HT_run (by simp;rfl) ?_)));refine HT_seq (HT_run (by simp[hb];rfl) ?_);refine HT_seq (HT_run (by simp;rfl) ?_);refine HT_cond rfl (fun h=>?_) (fun hcd=>HT_skip ?_)
   · refine HT_seq (HT_run (by simp;rfl) ?_)
     have hr:r=false:=by
      refine hno hlt hb ?_;simp at h;simp[letB,digB];omega
     rw[hr];exact HT_ret ⟨.inr rfl,_,le_refl _,⟨_,rfl,rfl⟩,by simp,fun _=>⟨rfl,by simp⟩⟩
   refine HT_run (by simp[hw];rfl) ?_;refine⟨k+1,⟨hlt,fun c hc=>?_⟩,by omega,?_⟩
   · by_cases e:c=k
     · subst e;rw[hchk c b hb];by_cases hc0:c=0
       · subst hc0;have:b=b0:=by rw[hb0]at hb;exact(Option.some.inj hb).symm
         subst this;simp[letB,h12]
       simp at hcd;simp[letB,digB,hc0];omega
     exact hall c (by omega)
   exact le_mk (fun n=>n) [] rfl (by simp[N1,li,i64,sC,hw]) (by simp[N1]) (by simp[N1])
 have hks:k=s.size:=by simp at h;omega
 subst hks;refine HT_seq (HT_run (by simp;rfl) ?_);rw[hyes (by omega) h12.1 hall];exact HT_ret ⟨.inr rfl,_,le_refl _,⟨_,rfl,by simp[resR,lb,bC]⟩,by simp,fun _=>⟨rfl,by simp⟩⟩
def N2 (s:ByteArray) (k:Nat):HS:=⟨50,[(0,.v (.one (.c (sC s)))),(3,.v (li k))],[]⟩
theorem refname_con (s:ByteArray) (d:Nat):Con Tryz.prog 79 true [.one (.c (sC s))] (.v (lb (nameB s))) none d:=by
 refine con_of_HTA Tryz.func79 ?_;simp only[Tryz.f79];have hno:=@name_no s;have hyes:=@name_yes s;have hn0:s.size=0→nameB s=false:=by intro h;unfold nameB;simp[h]
 have hn12:12<s.size→nameB s=false:=by intro h;unfold nameB;simp;intro _ h2;omega
 have hchk:=fun k b (h:s[k]? =some b)=>(show chOk s k=(letB b||(!decide (k=0)&&digB b)) by unfold chOk;rw[h]);generalize nameB s=r at*;refine HT_seq (HT_run (by simp[regsOf,sC];rfl) ?_);refine HT_seq (HT_seq (HT_run (by simp;rfl) ?_));refine HT_cond rfl (fun h=>?_) (fun h=>HT_skip ?_)
 · refine HT_seq (HT_run (by simp;rfl) ?_)
   have hr:r=false:=by
    simp at h;rcases h with h|h
    · exact hn0 (by omega)
    exact hn12 (by omega)
   rw[hr];exact HT_ret ⟨.inr rfl,_,le_refl _,⟨_,rfl,rfl⟩,by simp,fun _=>⟨rfl,by simp⟩⟩
 have h12:1≤s.size∧s.size≤12:=by simp at h;omega
 refine HT_seq (HT_seq (HT_run (by simp;rfl) ?_));refine HT_block (HT_loop (N2 s) (fun k=>k≤s.size∧∀c,c<k→chOk s c=true) (fun k=>s.size - k) 0 ⟨Nat.zero_le _,by simp⟩ ?_ ?_)
 · exact le_mk (fun n=>n) [] rfl (by simp[N2,li,i64,sC]) (by simp[N2]) (by simp[N2])
 rintro k ⟨hk,hall⟩;simp only[N2];refine HT_seq (HT_seq (HT_run (by simp[li,i64,sC];rfl) ?_));refine HT_cond rfl (fun h=>HT_skip ?_) (fun h=>HT_exit ?_)
 · have hlt:k<s.size:=by simpa using h
   have hw:IntKind.i64.wrap ((k:Int)+1)=(k:Int)+1:=wrap_in (by omega) (by omega);obtain⟨b,hb⟩:=byte_get hlt;refine HT_seq (HT_block (HT_seq (HT_run (by simp[hb];rfl) ?_)));refine HT_seq (HT_run (by simp[hb];rfl) ?_);refine HT_seq (HT_run (by simp;rfl) ?_);refine HT_cond rfl (fun h=>?_) (fun hcd=>HT_skip ?_)
   · refine HT_seq (HT_run (by simp;rfl) ?_)
     have hr:r=false:=by
      refine hno hlt hb ?_;simp at h;simp[letB,digB];omega
     rw[hr];exact HT_ret ⟨.inr rfl,_,le_refl _,⟨_,rfl,rfl⟩,by simp,fun _=>⟨rfl,by simp⟩⟩
   refine HT_run (by simp[hw];rfl) ?_;refine⟨k+1,⟨hlt,fun c hc=>?_⟩,by omega,?_⟩
   · by_cases e:c=k
     · subst e;rw[hchk c b hb];simp at hcd;simp[letB,digB];omega
     exact hall c (by omega)
   exact le_mk (fun n=>n) [] rfl (by simp[N2,li,i64,sC,hw]) (by simp[N2]) (by simp[N2])
 have hks:k=s.size:=by simp at h;omega
 subst hks;refine HT_seq (HT_run (by simp;rfl) ?_);rw[hyes h12.1 h12.2 hall];exact HT_ret ⟨.inr rfl,_,le_refl _,⟨_,rfl,by simp[resR,lb,bC]⟩,by simp,fun _=>⟨rfl,by simp⟩⟩
end Go.Proofs.YtfjidddhehckoaaGreat.Lt

namespace Go.Proofs.YtfjidddhehckoaaGreat.Lt
open Go Go.Hl
def hasN (seen:List ByteArray) (s:ByteArray):Bool:=seen.any fun t=>decide (t=s)
theorem hasN_iff {l:List ByteArray} {s:ByteArray}:hasN l s=true↔s∈l:=by simp[hasN]
def scanN:List ByteArray→List ByteArray→Int
 |_,[]=>0
 |seen,s::l=>if nameB s=false then 7 else if hasN seen s=true then 8 else scanN (seen++[s]) l
def ordOk (n:Nat) (order:List (Int×Int)):Bool:=order.all fun p=>inB n p.1&&inB n p.2
def antiB (n:Nat) (M:Nat→Nat→Bool):Bool:=(List.range n).all fun a=>(List.range a).all fun b=> !(M a b&&M b a)
def newC (names:List ByteArray) (order:List (Int×Int)):Int:=
 if names.length=0∨12<names.length then 4 else if scanN [] names≠0 then scanN [] names else if ordOk names.length order=false then 3 else
 if antiB names.length (closeM names.length order)=false then 10 else if badRow names.length (closeM names.length order)≠names.length then 11 else 0
def latO (names:List ByteArray) (order:List (Int×Int)):CD:=
 latD names (.mp (idxL names)) (matB names.length (closeM names.length order)) (matI names.length (bndI names.length (closeM names.length order))) (matI names.length (bndI names.length (flp (closeM names.length order))))
def newR (names:List ByteArray) (order:List (Int×Int)):TV:=if newC names order=0 then .one (.c (latO names order))else .one (.c (.lit (.pointer none)))
theorem idx_append (l:List ByteArray) (s:ByteArray):idxL (l++[s])=idxL l++[(.string s,i64 l.length)]:=by simp[idxL,List.zipIdx_append]
theorem same_str (a b:ByteArray):Instr.sameNow .string (.string a) (.string b)=some (decide (a=b)):=by
 unfold Instr.sameNow;simp only[Option.some.injEq];obtain⟨a⟩:=a;obtain⟨b⟩:=b;show(a==b)=decide ((⟨a⟩:ByteArray)=⟨b⟩);by_cases h:a=b
 · subst h;simp
 simp[h]
theorem find_zip {s:ByteArray}:∀(l:List ByteArray) (k:Nat),(s∉l→findM .string (.string s) ((l.zipIdx k).map fun p=>(.string p.1,i64 p.2))=some none)∧
  ∀i:Nat,l[i]? =some s→(∀j:Nat,j<i→l[j]? ≠some s)→findM .string (.string s) ((l.zipIdx k).map fun p=>(.string p.1,i64 p.2))=some (some (i64 ((k+i:Nat):Int)))
 |[],k=>by simp[findM]
 | x ::l,k=>by
   obtain⟨h1,h2⟩:=find_zip l (k+1);refine⟨fun h=>?_,fun i hi hj=>?_⟩
   · simp only[List.mem_cons,not_or]at h;simp only[List.zipIdx_cons,List.map_cons,findM,same_str,decide_eq_false h.1];exact h1 h.2
   cases i with
   | zero=>
     simp only[List.getElem?_cons_zero,Option.some.injEq]at hi;subst hi;simp[findM,same_str]
   | succ i=>
     have hx:¬s=x:=by
      intro e;exact hj 0 (by omega) (by simp[e])
     simp only[List.zipIdx_cons,List.map_cons,findM,same_str,decide_eq_false hx];have:=h2 i (by simpa using hi) (fun j hjl=>by have:=hj (j+1) (by omega);simpa using this);rw[this];congr 3;omega
theorem first_at {s:ByteArray}:∀{l:List ByteArray},s∈l→∃i:Nat,l[i]? =some s∧∀j:Nat,j<i→l[j]? ≠some s
 | x::l,h=>by
   by_cases e:x=s
   · exact⟨0,by simp[e],by simp⟩
   have hl:s∈l:=by
    rcases List.mem_cons.1 h with h|h
    · exact absurd h.symm e
    exact h
   obtain⟨i,h1,h2⟩:=first_at hl;refine⟨i+1,by simpa using h1,fun j hj=>?_⟩;cases j with
   |zero=>simpa using e
   |succ j=>simpa using h2 j (by omega)
theorem find_none {s:ByteArray} {l:List ByteArray} (h:s∉l):findM .string (.string s) (idxL l)=some none:=(find_zip l 0).1 h
theorem find_at {s:ByteArray} {l:List ByteArray} {i:Nat} (h:l[i]? =some s) (hf:∀j:Nat,j<i→l[j]? ≠some s):findM .string (.string s) (idxL l)=some (some (i64 i)):=by
 have:=(find_zip l 0).2 i h hf;simpa[idxL]using this
theorem find_some {s:ByteArray} {l:List ByteArray} (h:s∈l):∃i:Nat,findM .string (.string s) (idxL l)=some (some (i64 i)):=by
 obtain⟨i,h1,h2⟩:=first_at h;exact⟨i,find_at h1 h2⟩
theorem scan_step {names:List ByteArray} {k:Nat} {s:ByteArray} (h:names[k]? =some s):scanN (names.take k) (names.drop k)=if nameB s=false then 7 else if hasN (names.take k) s=true then 8 else scanN (names.take (k+1)) (names.drop (k+1)):=by
 have hlt:k<names.length:=(List.getElem?_eq_some_iff.1 h).1
 have:names.drop k=s::names.drop (k+1):=by
  rw[List.drop_eq_getElem_cons hlt];congr 1;exact(List.getElem?_eq_some_iff.1 h).2
 rw[this,scanN,List.take_add_one,h];rfl
def nrow (l:List ByteArray):List (List CD):=l.map fun s=>[sC s]
theorem nrow_len (l:List ByteArray):(nrow l).length=l.length:=by simp[nrow]
theorem nrow_append (l:List ByteArray) (s:ByteArray):nrow (l++[s])=nrow l++[[sC s]]:=by simp[nrow]
def nilC:CD:=.lit (.slice none 0 0)
def L1 (names:List ByteArray) (order:List (Int×Int)) (k:Nat):HS:=
 ⟨122,[(0,.v (.one (.c (nsC names)))),(1,.v (.one (.c (orC order)))),(6,.v (.one (.at_ 1006 0))),(26,.v (.one (.c (nsC names)))),(27,.v (li names.length)),(28,.v (li k))],
  [(1000,.row 9 1 (nrow (names.take k))),(1002,.mp (idxL (names.take k))),(1006,.box [.own 1000,.own 1002,.c nilC,.c nilC,.c nilC])]⟩
def L2 (names:List ByteArray) (order:List (Int×Int)) (k:Nat):HS:=
 ⟨122,[(0,.v (.one (.c (nsC names)))),(1,.v (.one (.c (orC order)))),(6,.v (.one (.at_ 1006 0))),(63,.v (.one (.c (orC order)))),(64,.v (li order.length)),(65,.v (li k))],
  [(1006,.box [.c (nsC names),.c (.mp (idxL names)),.c nilC,.c nilC,.c nilC])]⟩
def L3 (names:List ByteArray) (M:Nat→Nat→Bool) (a:Nat):HS:=
 ⟨122,[(6,.v (.one (.at_ 1006 0))),(86,.v (li names.length)),(87,.v (li a))],
  [(1006,.box [.c (nsC names),.c (.mp (idxL names)),.c (matB names.length M),.c nilC,.c nilC])]⟩
def L4 (names:List ByteArray) (M:Nat→Nat→Bool) (a b:Nat):HS:=
 ⟨122,[(6,.v (.one (.at_ 1006 0))),(13,.v (li a)),(86,.v (li names.length)),(87,.v (li a)),(90,.v (li a)),(91,.v (li b))],
  [(1006,.box [.c (nsC names),.c (.mp (idxL names)),.c (matB names.length M),.c nilC,.c nilC])]⟩
theorem new_con (names:List ByteArray) (order:List (Int×Int)) (hlen:order.length≤200) (d:Nat):
  Con Tryz.prog 67 false [.one (.c (nsC names)),.one (.c (orC order))] (.tup [newR names order,li (newC names order)]) none d:=by
 have hrf:newC names order=newC names order:=rfl
 conv at hrf=>rhs;unfold newC
 have hrr:newR names order=newR names order:=rfl
 conv at hrr=>rhs;unfold newR
 generalize newC names order=code at*;generalize newR names order=res at*;refine con_of_HTA Tryz.func67 ?_;simp only[Tryz.f67];refine HT_seq (HT_run (by simp[regsOf,nsC,orC,sC,i64];rfl) ?_);refine HT_seq (HT_seq (HT_run (by simp;rfl) ?_));refine HT_cond rfl (fun h=>?_) (fun hcd=>HT_skip ?_)
 · refine HT_seq (HT_run (by simp;rfl) ?_)
   have h':names.length=0∨12<names.length:=by
    simp at h;rcases h with h|h
    · left;rw[h];rfl
    right;omega
   rw[if_pos h']at hrf;subst hrf;rw[if_neg (by decide)]at hrr;rw[hrr];exact HT_ret ⟨.inr rfl,_,le_refl _,⟨_,rfl,rfl⟩,by simp,by simp⟩
 have hn:1≤names.length∧names.length≤12:=by
  simp at hcd;have:names.length≠0:=by rintro e;exact hcd.1 (List.eq_nil_of_length_eq_zero e)
  omega
 rw[if_neg (show ¬(names.length=0∨12<names.length) by omega)]at hrf;refine HT_seq (HT_run (by simp;rfl) ?_);refine HT_seq (HT_seq (HT_run (by simp;rfl) ?_));refine HT_block (HT_loop (L1 names order) (fun k=>k≤names.length∧scanN (names.take k) (names.drop k)=scanN [] names) (fun k=>names.length - k) 0 ⟨Nat.zero_le _,by simp⟩ ?_ ?_)
 · exact le_mk (fun n=>if n=1002 then 23 else if n=1006 then 25 else n) [1000] rfl (by simp[L1,li,i64,nsC,orC,sC]) (by simp[L1,nilC,idxL,nrow]) (by simp[L1])
 rintro k ⟨hk,hscan⟩;simp only[L1];refine HT_seq (HT_run (by simp[li,i64];rfl) ?_);refine HT_seq (HT_cond rfl (fun h=>HT_skip ?_) (fun h=>HT_exit ?_))
 · have hlt:k<names.length:=by simpa using h
   have hw:IntKind.i64.wrap ((k:Int)+1)=(k:Int)+1:=wrap_in (by omega) (by omega);obtain⟨s,hs⟩:∃s,names[k]? =some s:=⟨names[k],List.getElem?_eq_getElem hlt⟩;rw[scan_step hs]at hscan;have hcn:=fun d=>isname_con s d;have htl:(names.take k).length=k:=by simp;omega
   have htk:names.take (k+1)=names.take k++[s]:=by rw[List.take_add_one,hs];rfl
   generalize hT:names.take k=T at*;refine HT_seq (HT_block (HT_seq (HT_run (by simp[nsC,hs];rfl) ?_)));refine HT_seq (HT_seq (HT_runc [⟨true,.v (lb (nameB s)),none⟩] (by simp[sC,lb,bC];first|exact⟨rfl,Iff.rfl⟩|rfl) (by simpa only[sC,lb,bC]using hcn _) ?_));refine HT_cond rfl (fun h=>?_) (fun hc2=>HT_skip ?_)
   · refine HT_seq (HT_run (by simp;rfl) ?_);rw[if_pos (by simpa using h)]at hscan;rw[←hscan,if_pos (by decide)]at hrf;subst hrf;rw[if_neg (by decide)]at hrr;rw[hrr];exact HT_ret ⟨.inr rfl,_,le_refl _,⟨_,rfl,rfl⟩,by simp,by simp⟩
   rw[if_neg (by simpa using hc2)]at hscan;by_cases hm:s∈T
   · obtain⟨i,hi⟩:=find_some hm;refine HT_seq (HT_seq (HT_run (by simp[hi,i64];rfl) ?_));refine HT_seq (HT_run (by simp;rfl) ?_);refine HT_cond rfl (fun h=>?_) (fun h=>by cases h);refine HT_seq (HT_run (by simp;rfl) ?_);rw[if_pos (hasN_iff.2 hm)]at hscan;rw[←hscan,if_pos (by decide)]at hrf;subst hrf;rw[if_neg (by decide)]at hrr;rw[hrr];exact HT_ret ⟨.inr rfl,_,le_refl _,⟨_,rfl,rfl⟩,by simp,by simp⟩
   have hi:=find_none hm;rw[if_neg (by rw[hasN_iff];exact hm)]at hscan;refine HT_seq (HT_seq (HT_run (by simp[hi];rfl) ?_));refine HT_seq (HT_run (by simp;rfl) ?_);refine HT_cond rfl (fun h=>by cases h) (fun h=>HT_skip ?_);refine HT_seq (HT_run (by simp[hi];rfl) ?_);refine HT_run (by simp[htl,nrow_len,show room (k+1) 16 from room_of (by omega) (by omega)];rfl) ?_;refine HT_run (by simp[hw];rfl) ?_;refine⟨k+1,⟨hlt,hscan⟩,by omega,?_⟩;refine le_mk (fun n=>if n=1000 then 59 else n) [] rfl (by simp[L1,li,i64,nsC,orC,sC,hw]) ?_ (by simp[L1]);simp[L1,htk,idx_append,nrow_append,sC,i64,htl]
 have hkn:k=names.length:=by simp at h;omega
 subst hkn;rw[List.drop_length]at hscan;simp only[scanN]at hscan;rw[if_neg (by rw[←hscan];simp)]at hrf;simp only[List.take_length];refine HT_seq (HT_seq (HT_run (by simp[orC];rfl) ?_));refine HT_block (HT_loop (L2 names order) (fun k=>k≤order.length∧∀p∈order.take k,(inB names.length p.1&&inB names.length p.2)=true) (fun k=>order.length - k) 0 ⟨Nat.zero_le _,by simp⟩ ?_ ?_)
 · refine le_trans (le_frz 1000 rfl) (le_trans (le_frzP 1002 rfl) (le_mk (fun n=>n) [] rfl ?_ ?_ ?_))
   · simp[L2,li,i64,nsC,orC,sC]
   · simp[L2,nsC,nrow]
   simp[L2]
 rintro k ⟨hk2,hall⟩;simp only[L2];refine HT_seq (HT_run (by simp[li,i64];rfl) ?_);refine HT_seq (HT_cond rfl (fun h=>HT_skip ?_) (fun h=>HT_exit ?_))
 · have hlt:k<order.length:=by simpa using h
   have hw:IntKind.i64.wrap ((k:Int)+1)=(k:Int)+1:=wrap_in (by omega) (by omega);obtain⟨p,hp⟩:∃p,order[k]? =some p:=⟨order[k],List.getElem?_eq_getElem hlt⟩;have hh:=fun a d=>has_con names (.mp (idxL names)) nilC nilC nilC a d;refine HT_seq (HT_block (HT_seq (HT_run (by simp[orC,hp,i64];rfl) ?_)));refine HT_seq (HT_runc [⟨true,.v (lb (inB names.length p.1)),none⟩,⟨true,.v (lb (inB names.length p.2)),none⟩] (by simp[nsC,nilC,lb,bC];first|exact⟨rfl,Iff.rfl⟩|rfl) ?_ ?_)
   · constructor
     · simpa only[latD,nsC,nilC,li,i64,lb,bC]using hh p.1 _
     simpa only[latD,nsC,nilC,li,i64,lb,bC]using hh p.2 _
   refine HT_cond rfl (fun h=>?_) (fun hc2=>HT_skip ?_)
   · refine HT_seq (HT_run (by simp;rfl) ?_)
     have ho:ordOk names.length order=false:=by
      unfold ordOk;rw[List.all_eq_false];refine⟨p,List.mem_of_getElem? hp,?_⟩;cases h3:inB names.length p.1<;>cases h4:inB names.length p.2<;>simp_all
     rw[if_pos ho]at hrf;subst hrf;rw[if_neg (by decide)]at hrr;rw[hrr];exact HT_ret ⟨.inr rfl,_,le_refl _,⟨_,rfl,rfl⟩,by simp,by simp⟩
   refine HT_run (by simp[hw];rfl) ?_;refine⟨k+1,⟨hlt,fun q hq=>?_⟩,by omega,?_⟩
   · rw[List.take_add_one,hp]at hq;rcases List.mem_append.1 hq with hq|hq
     · exact hall q hq
     simp only[Option.toList_some,List.mem_singleton]at hq;subst hq;cases h3:inB names.length q.1<;>cases h4:inB names.length q.2<;>simp_all
   exact le_mk (fun n=>n) [] rfl (by simp[L2,li,i64,nsC,orC,hw]) (by simp[L2,nsC,nilC]) (by simp[L2])
 have hkl:k=order.length:=by simp at h;omega
 subst hkl;rw[List.take_length]at hall
 have ho:ordOk names.length order=true:=by
  unfold ordOk;rw[List.all_eq_true];exact hall
 rw[if_neg (by rw[ho];simp)]at hrf
 have hord:∀p∈order,(0≤p.1∧p.1<names.length)∧0≤p.2∧p.2<names.length:=by
  intro p hp;have:=hall p hp;simpa[inB]using this
 have hcl:=close_con names names.length rfl hn.2 order hlen hord (.mp (idxL names)) nilC nilC nilC;have hbn:=bounds_con names names.length rfl hn.2 (closeM names.length order) (idxL names);have hlat:latO names order=latD names (.mp (idxL names)) (matB names.length (closeM names.length order)) (.sl 1 (rowsJ names.length (bndI names.length (closeM names.length order)) names.length)) (.sl 1 (rowsJ names.length (bndI names.length (flp (closeM names.length order))) names.length)):=rfl;rw[hlat]at hrr;generalize closeM names.length order=M at*;refine HT_seq (HT_runIO 2 (.tup []) _ rfl (by simp[orC];rfl) (by simp[ioOf,nsC,nilC];exact⟨rfl,rfl,rfl,rfl,rfl⟩) (by simpa only[nsC,orC,nilC,i64]using hcl) rfl (by simp;rfl) ?_);refine HT_seq (HT_seq (HT_run (by simp[nsC];rfl) ?_));refine HT_block (HT_loop (L3 names M) (fun a=>a≤names.length∧∀x,x<a→((List.range x).all fun b=> !(M x b&&M b x))=true) (fun a=>names.length - a) 0 ⟨Nat.zero_le _,by simp⟩ ?_ ?_)
 · exact le_mk (fun n=>n) [] rfl (by simp[L3,li,i64]) (by simp[L3,nsC,nilC]) (by simp[L3])
 rintro a ⟨ha,han⟩;simp only[L3];refine HT_seq (HT_run (by simp[li,i64];rfl) ?_);refine HT_seq (HT_cond rfl (fun h=>HT_skip ?_) (fun h=>HT_exit ?_))
 · have hla:a<names.length:=by simpa using h
   have hwa:IntKind.i64.wrap ((a:Int)+1)=(a:Int)+1:=wrap_in (by omega) (by omega);refine HT_seq (HT_block (HT_seq (HT_run (by simp;rfl) ?_)));refine HT_seq (HT_run (by simp;rfl) ?_);refine HT_block (HT_loop (L4 names M a) (fun b=>b≤a∧∀x,x<b→(!(M a x&&M x a))=true) (fun b=>a - b) 0 ⟨Nat.zero_le _,by simp⟩ ?_ ?_)
   · exact le_mk (fun n=>n) [] rfl (by simp[L4,li,i64]) (by simp[L4]) (by simp[L4])
   rintro b ⟨hb,hbn2⟩;simp only[L4];refine HT_seq (HT_run (by simp[li,i64];rfl) ?_);refine HT_seq (HT_cond rfl (fun h=>HT_skip ?_) (fun h=>HT_exit ?_))
   · have hlb:b<a:=by simpa using h
     have hlb2:b<names.length:=by omega
     have hwb:IntKind.i64.wrap ((b:Int)+1)=(b:Int)+1:=wrap_in (by omega) (by omega);refine HT_seq (HT_block (HT_seq (HT_run (by simp;rfl) ?_)));refine HT_seq (HT_run (by simp[matB,hla,hlb2,rowB_get hla,rowB_get hlb2,bC];rfl) ?_);refine HT_cond rfl (fun h=>?_) (fun hc2=>HT_skip ?_)
     · refine HT_seq (HT_run (by simp;rfl) ?_)
       have hx:antiB names.length M=false:=by
        unfold antiB;rw[List.all_eq_false];refine⟨a,by simpa using hla,?_⟩;simp only[Bool.not_eq_true,List.all_eq_false];refine⟨b,by simpa using hlb,?_⟩;have h':(M a b&&M b a)=true:=h;rw[h'];simp
       rw[if_pos hx]at hrf;subst hrf;rw[if_neg (by decide)]at hrr;rw[hrr];exact HT_ret ⟨.inr rfl,_,le_refl _,⟨_,rfl,rfl⟩,by simp,by simp⟩
     refine HT_run (by simp[hwb];rfl) ?_;refine⟨b+1,⟨hlb,fun x hx=>?_⟩,by omega,?_⟩
     · by_cases e:x=b
       · subst e;have h':(M a x&&M x a)=false:=hc2;rw[h'];rfl
       exact hbn2 x (by omega)
     exact le_mk (fun n=>n) [] rfl (by simp[L4,li,i64,hwb]) (by simp[L4,matB]) (by simp[L4])
   have hba:b=a:=by simp at h;omega
   subst hba;refine HT_run (by simp[hwa];rfl) ?_;refine⟨b+1,⟨hla,fun x hx=>?_⟩,by omega,?_⟩
   · by_cases e:x=b
     · subst e;rw[List.all_eq_true];intro y hy;exact hbn2 y (by simpa using hy)
     exact han x (by omega)
   exact le_mk (fun n=>n) [] rfl (by simp[L3,li,i64,hwa]) (by simp[L3]) (by simp[L3])
 have hak:a=names.length:=by simp at h;omega
 subst hak
 have hx:antiB names.length M=true:=by
  unfold antiB;rw[List.all_eq_true];intro x hx;exact han x (by simpa using hx)
 rw[if_neg (by rw[hx];simp)]at hrf;refine HT_seq (HT_seq (HT_runIO 1 (.v (lb (decide (badRow names.length M=names.length)))) _ rfl (by simp;rfl) (by simp[ioOf,nsC,nilC];exact⟨rfl,rfl,rfl,rfl,rfl⟩) (by simpa only[nsC,nilC,nilS]using hbn) rfl (by simp[lb,bC];rfl) ?_));refine HT_cond rfl (fun h=>?_) (fun hc2=>HT_skip ?_)
 · refine HT_seq (HT_run (by simp;rfl) ?_);have h':badRow names.length M≠names.length:=by simpa using h
   rw[if_pos h']at hrf;subst hrf;rw[if_neg (by decide)]at hrr;rw[hrr];exact HT_ret ⟨.inr rfl,_,le_refl _,⟨_,rfl,rfl⟩,by simp,by simp⟩
 refine HT_seq (HT_run (by simp;rfl) ?_);have h':badRow names.length M=names.length:=by simpa using hc2
 rw[if_neg (by rw[h'];simp)]at hrf;subst hrf;rw[if_pos rfl]at hrr;rw[hrr,h'];refine HT_ret ⟨.inr rfl,_,le_frzB 1006 rfl rfl rfl,⟨_,rfl,?_⟩,by simp,by simp⟩;simp[resR,latD,nsC,li,i64]
end Go.Proofs.YtfjidddhehckoaaGreat.Lt

namespace Go.Proofs.YtfjidddhehckoaaGreat.Lt
open Go Go.Hl
def rowsE (n k:Nat):List (Option (List (List CD))):=(List.range k).map fun a=>some (rowB n eqM a)
theorem rowsE_len (n k:Nat):(rowsE n k).length=k:=by simp[rowsE]
theorem rowsE_succ (n k:Nat):rowsE n (k+1)=rowsE n k++[some (rowB n eqM k)]:=by simp[rowsE,List.range_succ]
theorem rowsE_full (n:Nat):rowsE n n=rowsM n eqM:=rfl
theorem up_same {M:Nat→Nat→Bool} {a b:Nat}:up M a b (M a b)=M:=by
 funext x y
 unfold up;split
 · rename_i h;rw[h.1,h.2]
 rfl
def K1 (order:List (Int×Int)) (n k:Nat):HS:=
 ⟨85,[(0,.v (li n)),(1,.v (.one (.c (orC order)))),(5,.v (.one (.own 1005))),(6,.v (li k))],[(1005,.mat 55 4 1 (rowsE n k))]⟩
def K2 (order:List (Int×Int)) (n k:Nat):HS:=
 ⟨85,[(0,.v (li n)),(1,.v (.one (.c (orC order)))),(5,.v (.one (.own 1005))),(8,.v (li k))],[(1005,.mat 55 4 1 (rowsM n (pairsM (order.take k))))]⟩
def K3 (n:Nat) (M:Nat→Nat→Bool) (m:Nat):HS:=
 ⟨85,[(0,.v (li n)),(5,.v (.one (.own 1005))),(9,.v (li m))],[(1005,.mat 55 4 1 (rowsM n (fwM n M m)))]⟩
def K4 (n:Nat) (M:Nat→Nat→Bool) (m a:Nat):HS:=
 ⟨85,[(0,.v (li n)),(5,.v (.one (.own 1005))),(9,.v (li m)),(10,.v (li a))],[(1005,.mat 55 4 1 (rowsM n (fwA n M m a)))]⟩
def K5 (n:Nat) (M:Nat→Nat→Bool) (m a b:Nat):HS:=
 ⟨85,[(0,.v (li n)),(5,.v (.one (.own 1005))),(9,.v (li m)),(10,.v (li a)),(11,.v (li b))],[(1005,.mat 55 4 1 (rowsM n (fwB M m a b)))]⟩
theorem closed_con (n:Nat) (h12:n≤12) (order:List (Int×Int)) (hlen:order.length≤60) (hord:∀p∈order,(0≤p.1∧p.1<n)∧0≤p.2∧p.2<n) (d:Nat):
  Con Tryz.prog 80 false [li n,.one (.c (orC order))] (.v (.one (.c (matB n (closeM n order))))) none d:=by
 refine con_of_HTA Tryz.func80 ?_;simp only[Tryz.f80];refine HT_seq (HT_run (by simp[regsOf,orC,li,i64];rfl) ?_);refine HT_seq (HT_run (by simp;rfl) ?_);refine HT_seq (HT_seq (HT_run (by simp;rfl) ?_));refine HT_le (le_mat (k:=0) 12 4 1 (by decide) (by decide) rfl (by simp[RV.menA,TV.menA,CV.menA]) (by simp[Ob.menA,CV.menA])) ?_;refine HT_block (HT_loop (K1 order n) (fun k=>k≤n) (fun k=>n - k) 0 (Nat.zero_le _) ?_ ?_)
 · exact le_mk (fun n=>12) [] rfl (by simp[K1,li,i64,orC]) (by simp[K1,rowsE]) (by simp[K1])
 intro k hk;simp only[K1];refine HT_seq (HT_seq (HT_run (by simp[li,i64];rfl) ?_));refine HT_cond rfl (fun h=>HT_skip ?_) (fun h=>HT_exit ?_)
 · have hlt:k<n:=by simpa using h
   have hw:IntKind.i64.wrap ((k:Int)+1)=(k:Int)+1:=wrap_in (by omega) (by omega);have hrow:=row_eq hlt;simp only[bC]at hrow;refine HT_seq (HT_block (HT_seq (HT_run (by simp[show(n:Int)≤maxLen by unfold maxLen;omega,show(n:Int)≤281474976710656 by omega];rfl) ?_)));refine HT_seq (HT_run (by simp[hlt,hrow];rfl) ?_);refine HT_run (by simp[rowsE_len,show room (k+1) 24 from room_of (by omega) (by omega)];rfl) ?_;refine HT_run (by simp[hw];rfl) ?_;refine⟨k+1,hlt,by omega,?_⟩;exact le_mk (fun n=>if n=1005 then 26 else n) [] rfl (by simp[K1,li,i64,orC,hw]) (by simp[K1,rowsE_succ]) (by simp[K1])
 have hkn:k=n:=by simp at h;omega
 subst hkn;rw[rowsE_full];refine HT_seq (HT_seq (HT_run (by simp[orC];rfl) ?_));refine HT_block (HT_loop (K2 order k) (fun j=>j≤order.length) (fun j=>order.length - j) 0 (Nat.zero_le _) ?_ ?_)
 · exact le_mk (fun n=>n) [] rfl (by simp[K2,li,i64,orC]) (by simp[K2,pairsM]) (by simp[K2])
 intro j hj;simp only[K2];refine HT_seq (HT_seq (HT_run (by simp[li,i64,orC];rfl) ?_));refine HT_cond rfl (fun h=>HT_skip ?_) (fun h=>HT_exit ?_)
 · have hlj:j<order.length:=by simpa using h
   have hw:IntKind.i64.wrap ((j:Int)+1)=(j:Int)+1:=wrap_in (by omega) (by omega)
   obtain⟨x,y,hv,hx,hy⟩:∃x y:Nat,order[j]? =some ((x:Int),(y:Int))∧x<k∧y<k:=by
    have hm:=hord order[j] (List.getElem_mem hlj);refine⟨order[j].1.toNat,order[j].2.toNat,?_,by omega,by omega⟩;rw[List.getElem?_eq_getElem hlj];congr 1;refine Prod.ext ?_ ?_
    · show order[j].1=(order[j].1.toNat:Int);omega
    show order[j].2=(order[j].2.toNat:Int);omega
   have hps:=pairs_succ hv;simp only[Int.toNat_natCast]at hps;generalize pairsM (order.take j)=M at*;refine HT_seq (HT_block (HT_drun (by kernel_rfl) (by kernel_rfl) (by rfl) (by simp[hv,i64,rowsM_len,hx,hy,rowsM_get hx,rowB_len,rowB_get hy,bC];rfl) ?_));refine HT_run (by simp[hw];rfl) ?_;refine⟨j+1,hlj,by omega,?_⟩;refine le_mk (fun n=>n) [] rfl (by simp[K2,li,i64,orC,hw]) ?_ (by simp[K2]);have h1:=@rowB_set k x y M true;simp only[bC]at h1;simp[K2,hps,h1,rowsM_set]
 have hjl:j=order.length:=by simp at h;omega
 subst hjl;rw[List.take_length];refine HT_seq (HT_seq (HT_run (by simp;rfl) ?_));refine HT_block (HT_loop (K3 k (pairsM order)) (fun m=>m≤k) (fun m=>k - m) 0 (Nat.zero_le _) ?_ ?_)
 · exact le_mk (fun n=>n) [] rfl (by simp[K3,li,i64]) (by simp[K3,fwM]) (by simp[K3])
 intro m hm;simp only[K3];refine HT_seq (HT_seq (HT_run (by simp[li,i64];rfl) ?_));refine HT_cond rfl (fun h=>HT_skip ?_) (fun h=>HT_exit ?_)
 · have hlm:m<k:=by simpa using h
   have hwm:IntKind.i64.wrap ((m:Int)+1)=(m:Int)+1:=wrap_in (by omega) (by omega);have hsm:=fwM_succ k (pairsM order) m;generalize fwM k (pairsM order) m=M at*;refine HT_seq (HT_block (HT_seq (HT_run (by simp;rfl) ?_)));refine HT_block (HT_loop (K4 k M m) (fun a=>a≤k) (fun a=>k - a) 0 (Nat.zero_le _) ?_ ?_)
   · exact le_mk (fun n=>n) [] rfl (by simp[K4,li,i64]) (by simp[K4,fwA]) (by simp[K4])
   intro a ha;simp only[K4];refine HT_seq (HT_seq (HT_run (by simp[li,i64];rfl) ?_));refine HT_cond rfl (fun h=>HT_skip ?_) (fun h=>HT_exit ?_)
   · have hla:a<k:=by simpa using h
     have hwa:IntKind.i64.wrap ((a:Int)+1)=(a:Int)+1:=wrap_in (by omega) (by omega);have hsa:=fwA_succ k M m a;generalize fwA k M m a=M2 at*;refine HT_seq (HT_block (HT_seq (HT_run (by simp;rfl) ?_)));refine HT_block (HT_loop (K5 k M2 m a) (fun b=>b≤k) (fun b=>k - b) 0 (Nat.zero_le _) ?_ ?_)
     · exact le_mk (fun n=>n) [] rfl (by simp[K5,li,i64]) (by simp[K5,fwB]) (by simp[K5])
     intro b hb;simp only[K5];refine HT_seq (HT_seq (HT_run (by simp[li,i64];rfl) ?_));refine HT_cond rfl (fun h=>HT_skip ?_) (fun h=>HT_exit ?_)
     · have hlb:b<k:=by simpa using h
       have hwb:IntKind.i64.wrap ((b:Int)+1)=(b:Int)+1:=wrap_in (by omega) (by omega);have hsb:=fwB_succ M2 m a b;generalize fwB M2 m a b=M3 at*;refine HT_seq (HT_block (HT_seq (HT_run (by simp[rowsM_len,hla,hlb,hlm,rowsM_get hla,rowsM_get hlm,rowB_len,rowB_get hlb,rowB_get hlm,bC];rfl) ?_)));refine HT_cond rfl (fun h=>?_) (fun h=>HT_skip ?_)
       · have h':(M3 a m&&M3 m b)=true:=h;refine HT_run (by simp[rowsM_len,hla,hlb,rowsM_get hla,rowB_len,rowB_get hlb,bC];rfl) ?_;refine HT_run (by simp[hwb];rfl) ?_;refine⟨b+1,hlb,by omega,?_⟩;refine le_mk (fun n=>n) [] rfl (by simp[K5,li,i64,hwb]) ?_ (by simp[K5]);have h1:=@rowB_set k a b M3 true;simp only[bC]at h1;simp[K5,hsb,stM,h',h1,rowsM_set]
       have h':(M3 a m&&M3 m b)=false:=h;refine HT_run (by simp[hwb];rfl) ?_;refine⟨b+1,hlb,by omega,?_⟩;refine le_mk (fun n=>n) [] rfl (by simp[K5,li,i64,hwb]) ?_ (by simp[K5]);simp[K5,hsb,stM,h',up_same]
     have hbk:b=k:=by simp at h;omega
     subst hbk;refine HT_run (by simp[hwa];rfl) ?_;refine⟨a+1,hla,by omega,?_⟩;exact le_mk (fun n=>n) [] rfl (by simp[K4,li,i64,hwa]) (by simp[K4,hsa]) (by simp[K4])
   have hak:a=k:=by simp at h;omega
   subst hak;refine HT_run (by simp[hwm];rfl) ?_;refine⟨m+1,hlm,by omega,?_⟩;exact le_mk (fun n=>n) [] rfl (by simp[K3,li,i64,hwm]) (by simp[K3,hsm]) (by simp[K3])
 have hmk:m=k:=by simp at h;omega
 subst hmk;refine HT_seq (HT_run (by simp;rfl) ?_);refine HT_ret ⟨.inr rfl,_,le_frzM 1005 rfl,⟨_,rfl,?_⟩,by simp,by simp⟩;simp[resR,matC_rows,closeM,-matC]
end Go.Proofs.YtfjidddhehckoaaGreat.Lt

namespace Go.Proofs.YtfjidddhehckoaaGreat.Lt
open Go Go.Hl
def latT (names:List ByteArray) (M:Nat→Nat→Bool):TV:=.agg [.c (nsC names),.c (matB names.length M)]
def bndR (n:Nat) (R:Nat→Nat→Bool) (a b:Nat):Int:=match bndO n R a b with
 |some c=>(c:Int)
 |none=>-1
def J1 (names:List ByteArray) (M:Nat→Nat→Bool) (a b k:Nat):HS:=
 ⟨75,[(1,.v (li a)),(2,.v (li b)),(3,.v (.one (.at_ 1003 0))),(7,.v (li k))],[(1003,.box [.c (nsC names),.c (matB names.length M)])]⟩
def J2 (names:List ByteArray) (M:Nat→Nat→Bool) (a b k:Nat) (x:Nat×Bool):HS:=
 ⟨75,[(1,.v (li a)),(2,.v (li b)),(3,.v (.one (.at_ 1003 0))),(7,.v (li k)),(8,.v (lb x.2)),(9,.v (li x.1))],[(1003,.box [.c (nsC names),.c (matB names.length M)])]⟩
theorem refjoin_con (names:List ByteArray) (n:Nat) (hn:names.length=n) (h12:n≤12) (M:Nat→Nat→Bool) (a b:Nat) (ha:a<n) (hb:b<n) (d:Nat):
  Con Tryz.prog 81 true [latT names M,li a,li b] (.v (li (bndR n M a b))) none d:=by
 subst hn;have hbi:bndR names.length M a b=bndR names.length M a b:=rfl
 conv at hbi=>rhs;unfold bndR
 have hs:=@bnd_some names.length M a b;have hnn:=@bnd_none names.length M a b;generalize bndR names.length M a b=bi at*;generalize bndO names.length M a b=bo at*;refine con_of_HTA Tryz.func81 ?_;simp only[Tryz.f81];refine HT_seq (HT_run (by simp[regsOf,latT,nsC,li,i64];rfl) ?_);refine HT_seq (HT_seq (HT_run (by simp;rfl) ?_));refine HT_block (HT_loop (J1 names M a b) (fun k=>k≤names.length∧∀c,c<k→goodB names.length M a b c=false) (fun k=>names.length - k) 0 ⟨Nat.zero_le _,by simp⟩ ?_ ?_)
 · exact le_mk (fun n=>3) [] rfl (by simp[J1,li,i64]) (by simp[J1,nsC]) (by simp[J1])
 rintro k ⟨hk,hno⟩;simp only[J1];refine HT_seq (HT_seq (HT_run (by simp[li,i64,nsC];rfl) ?_));refine HT_cond rfl (fun h=>HT_skip ?_) (fun h=>HT_exit ?_)
 · have hlt:k<names.length:=by simpa using h
   have hw:IntKind.i64.wrap ((k:Int)+1)=(k:Int)+1:=wrap_in (by omega) (by omega)
   have hnext:∀s',goodB names.length M a b k=false→le s' (J1 names M a b (k+1))→(∃x',(x'≤names.length∧∀c,c<x'→goodB names.length M a b c=false)∧names.length - x'<names.length - k∧le s' (J1 names M a b x')):=by
    intro s' hg hl;refine⟨k+1,⟨hlt,fun c hc=>?_⟩,by omega,hl⟩;by_cases e:c=k
    · subst e;exact hg
    exact hno c (by omega)
   refine HT_seq (HT_block (HT_seq (HT_seq (HT_run (by simp[matB,ha,hb,hlt,rowB_get ha,rowB_get hb,rowB_get hlt,bC];rfl) ?_))));refine HT_cond rfl (fun h2=>HT_exit ?_) (fun h2=>HT_skip ?_)
   · refine HT_run (by simp[hw];rfl) ?_;refine hnext _ ?_ ?_
     · have h':(!M a k|| !M b k)=true:=h2;unfold goodB
       try simp only[flp]
       cases h3:M a k<;>cases h4:M b k<;>simp_all
     exact le_mk (fun n=>n) [] rfl (by simp[J1,li,i64,hw]) (by simp[J1,nsC,matB]) (by simp[J1])
   have hab:M a k=true∧M b k=true:=by
    have h':(!M a k|| !M b k)=false:=h2;cases h3:M a k<;>cases h4:M b k<;>simp_all
   refine HT_seq (HT_run (by simp;rfl) ?_);refine HT_seq (HT_seq (HT_run (by simp;rfl) ?_));refine HT_block (HT_loop (J2 names M a b k) (fun x=>x.1≤names.length∧x.2=(List.range x.1).all fun c=> !(M a c&&M b c&& !M k c)) (fun x=>names.length - x.1) (0,true) ⟨Nat.zero_le _,by simp⟩ ?_ ?_)
   · exact le_mk (fun n=>n) [] rfl (by simp[J2,li,i64,lb,bC]) (by simp[J2,nsC,matB]) (by simp[J2])
   rintro⟨j,ls⟩ ⟨hj,hall⟩;simp only[J2]at*;refine HT_seq (HT_seq (HT_run (by simp[li,i64,lb,bC,nsC];rfl) ?_));refine HT_cond rfl (fun h=>HT_skip ?_) (fun h=>HT_exit ?_)
   · have hlj:j<names.length:=by simpa using h
     have hwj:IntKind.i64.wrap ((j:Int)+1)=(j:Int)+1:=wrap_in (by omega) (by omega);refine HT_seq (HT_block (HT_seq (HT_run (by simp[matB,ha,hb,hlt,hlj,rowB_get ha,rowB_get hb,rowB_get hlt,rowB_get hlj,bC];rfl) ?_)));refine HT_cond rfl (fun h2=>?_) (fun h2=>HT_skip ?_)
     · have h':(M a j&&M b j&& !M k j)=true:=h2;refine HT_run (by simp;rfl) ?_;refine HT_run (by simp[hwj];rfl) ?_;refine⟨(j+1,false),⟨hlj,?_⟩,by simp only;omega,?_⟩
       · simp only[List.range_succ,List.all_append,List.all_cons,List.all_nil,Bool.and_true,flp];rw[h'];simp
       exact le_mk (fun n=>n) [] rfl (by simp[J2,li,i64,lb,bC,hwj]) (by simp[J2,nsC,matB]) (by simp[J2])
     have h':(M a j&&M b j&& !M k j)=false:=h2;refine HT_run (by simp[hwj];rfl) ?_;refine⟨(j+1,ls),⟨hlj,?_⟩,by simp only;omega,?_⟩
     · simp only[List.range_succ,List.all_append,List.all_cons,List.all_nil,Bool.and_true];rw[hall]
       try simp only[flp]
       rw[h'];simp
     exact le_mk (fun n=>n) [] rfl (by simp[J2,li,i64,lb,bC,hwj]) (by simp[J2,nsC,matB]) (by simp[J2])
   have hjn:j=names.length:=by simp at h;omega
   subst hjn
   have hgood:goodB names.length M a b k=ls:=by
    unfold goodB;rw[hall];simp only[flp,hab,Bool.true_and]
   refine HT_seq (HT_run (by simp;rfl) ?_);refine HT_cond rfl (fun h2=>?_) (fun h2=>HT_skip ?_)
   · have h':ls=true:=h2;refine HT_seq (HT_run (by simp;rfl) ?_);have:=hs hlt hno (hgood.trans h');subst this;rw[hbi];exact HT_ret ⟨.inr rfl,_,le_refl _,⟨_,rfl,by simp[resR,li,i64]⟩,by simp,fun _=>⟨rfl,by simp⟩⟩
   have h':ls=false:=h2;refine HT_run (by simp[hw];rfl) ?_;refine hnext _ (hgood.trans h') ?_;exact le_mk (fun n=>n) [] rfl (by simp[J1,li,i64,hw]) (by simp[J1,nsC,matB]) (by simp[J1])
 have hkn:k=names.length:=by simp at h;omega
 subst hkn;refine HT_seq (HT_run (by simp;rfl) ?_);have:=hnn hno;subst this;rw[hbi];exact HT_ret ⟨.inr rfl,_,le_refl _,⟨_,rfl,by simp[resR,li,i64]⟩,by simp,fun _=>⟨rfl,by simp⟩⟩
theorem refmeet_con (names:List ByteArray) (n:Nat) (hn:names.length=n) (h12:n≤12) (M:Nat→Nat→Bool) (a b:Nat) (ha:a<n) (hb:b<n) (d:Nat):
  Con Tryz.prog 82 true [latT names M,li a,li b] (.v (li (bndR n (flp M) a b))) none d:=by
 subst hn;have hbi:bndR names.length (flp M) a b=bndR names.length (flp M) a b:=rfl
 conv at hbi=>rhs;unfold bndR
 have hs:=@bnd_some names.length (flp M) a b;have hnn:=@bnd_none names.length (flp M) a b;generalize bndR names.length (flp M) a b=bi at*;generalize bndO names.length (flp M) a b=bo at*;refine con_of_HTA Tryz.func82 ?_;simp only[Tryz.f82];refine HT_seq (HT_run (by simp[regsOf,latT,nsC,li,i64];rfl) ?_);refine HT_seq (HT_seq (HT_run (by simp;rfl) ?_));refine HT_block (HT_loop (J1 names M a b) (fun k=>k≤names.length∧∀c,c<k→goodB names.length (flp M) a b c=false) (fun k=>names.length - k) 0 ⟨Nat.zero_le _,by simp⟩ ?_ ?_)
 · exact le_mk (fun n=>3) [] rfl (by simp[J1,li,i64]) (by simp[J1,nsC]) (by simp[J1])
 rintro k ⟨hk,hno⟩;simp only[J1];refine HT_seq (HT_seq (HT_run (by simp[li,i64,nsC];rfl) ?_));refine HT_cond rfl (fun h=>HT_skip ?_) (fun h=>HT_exit ?_)
 · have hlt:k<names.length:=by simpa using h
   have hw:IntKind.i64.wrap ((k:Int)+1)=(k:Int)+1:=wrap_in (by omega) (by omega)
   have hnext:∀s',goodB names.length (flp M) a b k=false→le s' (J1 names M a b (k+1))→(∃x',(x'≤names.length∧∀c,c<x'→goodB names.length (flp M) a b c=false)∧names.length - x'<names.length - k∧le s' (J1 names M a b x')):=by
    intro s' hg hl;refine⟨k+1,⟨hlt,fun c hc=>?_⟩,by omega,hl⟩;by_cases e:c=k
    · subst e;exact hg
    exact hno c (by omega)
   refine HT_seq (HT_block (HT_seq (HT_seq (HT_run (by simp[matB,ha,hb,hlt,rowB_get ha,rowB_get hb,rowB_get hlt,bC];rfl) ?_))));refine HT_cond rfl (fun h2=>HT_exit ?_) (fun h2=>HT_skip ?_)
   · refine HT_run (by simp[hw];rfl) ?_;refine hnext _ ?_ ?_
     · have h':(!M k a|| !M k b)=true:=h2;unfold goodB
       try simp only[flp]
       cases h3:M k a<;>cases h4:M k b<;>simp_all
     exact le_mk (fun n=>n) [] rfl (by simp[J1,li,i64,hw]) (by simp[J1,nsC,matB]) (by simp[J1])
   have hab:M k a=true∧M k b=true:=by
    have h':(!M k a|| !M k b)=false:=h2;cases h3:M k a<;>cases h4:M k b<;>simp_all
   refine HT_seq (HT_run (by simp;rfl) ?_);refine HT_seq (HT_seq (HT_run (by simp;rfl) ?_));refine HT_block (HT_loop (J2 names M a b k) (fun x=>x.1≤names.length∧x.2=(List.range x.1).all fun c=> !((flp M) a c&&(flp M) b c&& !(flp M) k c)) (fun x=>names.length - x.1) (0,true) ⟨Nat.zero_le _,by simp⟩ ?_ ?_)
   · exact le_mk (fun n=>n) [] rfl (by simp[J2,li,i64,lb,bC]) (by simp[J2,nsC,matB]) (by simp[J2])
   rintro⟨j,ls⟩ ⟨hj,hall⟩;simp only[J2]at*;refine HT_seq (HT_seq (HT_run (by simp[li,i64,lb,bC,nsC];rfl) ?_));refine HT_cond rfl (fun h=>HT_skip ?_) (fun h=>HT_exit ?_)
   · have hlj:j<names.length:=by simpa using h
     have hwj:IntKind.i64.wrap ((j:Int)+1)=(j:Int)+1:=wrap_in (by omega) (by omega);refine HT_seq (HT_block (HT_seq (HT_run (by simp[matB,ha,hb,hlt,hlj,rowB_get ha,rowB_get hb,rowB_get hlt,rowB_get hlj,bC];rfl) ?_)));refine HT_cond rfl (fun h2=>?_) (fun h2=>HT_skip ?_)
     · have h':(M j a&&M j b&& !M j k)=true:=h2;refine HT_run (by simp;rfl) ?_;refine HT_run (by simp[hwj];rfl) ?_;refine⟨(j+1,false),⟨hlj,?_⟩,by simp only;omega,?_⟩
       · simp only[List.range_succ,List.all_append,List.all_cons,List.all_nil,Bool.and_true,flp];rw[h'];simp
       exact le_mk (fun n=>n) [] rfl (by simp[J2,li,i64,lb,bC,hwj]) (by simp[J2,nsC,matB]) (by simp[J2])
     have h':(M j a&&M j b&& !M j k)=false:=h2;refine HT_run (by simp[hwj];rfl) ?_;refine⟨(j+1,ls),⟨hlj,?_⟩,by simp only;omega,?_⟩
     · simp only[List.range_succ,List.all_append,List.all_cons,List.all_nil,Bool.and_true];rw[hall]
       try simp only[flp]
       rw[h'];simp
     exact le_mk (fun n=>n) [] rfl (by simp[J2,li,i64,lb,bC,hwj]) (by simp[J2,nsC,matB]) (by simp[J2])
   have hjn:j=names.length:=by simp at h;omega
   subst hjn
   have hgood:goodB names.length (flp M) a b k=ls:=by
    unfold goodB;rw[hall];simp only[flp,hab,Bool.true_and]
   refine HT_seq (HT_run (by simp;rfl) ?_);refine HT_cond rfl (fun h2=>?_) (fun h2=>HT_skip ?_)
   · have h':ls=true:=h2;refine HT_seq (HT_run (by simp;rfl) ?_);have:=hs hlt hno (hgood.trans h');subst this;rw[hbi];exact HT_ret ⟨.inr rfl,_,le_refl _,⟨_,rfl,by simp[resR,li,i64]⟩,by simp,fun _=>⟨rfl,by simp⟩⟩
   have h':ls=false:=h2;refine HT_run (by simp[hw];rfl) ?_;refine hnext _ (hgood.trans h') ?_;exact le_mk (fun n=>n) [] rfl (by simp[J1,li,i64,hw]) (by simp[J1,nsC,matB]) (by simp[J1])
 have hkn:k=names.length:=by simp at h;omega
 subst hkn;refine HT_seq (HT_run (by simp;rfl) ?_);have:=hnn hno;subst this;rw[hbi];exact HT_ret ⟨.inr rfl,_,le_refl _,⟨_,rfl,by simp[resR,li,i64]⟩,by simp,fun _=>⟨rfl,by simp⟩⟩
end Go.Proofs.YtfjidddhehckoaaGreat.Lt
