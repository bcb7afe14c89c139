/- Part 10: contracts of functions of the program and of the reference, and plain facts about what they compute; used by the proof of the claimed statement. Conditions: as each theorem states. -/
import Derived.Test.YtfjidddhehckoaaGreatK9
import Derived.Test.YtfjidddhehckoaaGreatHlX
import Derived.Test.YtfjidddhehckoaaGreatK8
set_option linter.unusedSimpArgs false
set_option linter.unusedVariables false
set_option linter.unnecessarySimpa false
set_option maxRecDepth 100000
set_option maxHeartbeats 2000000
namespace Go.Proofs.YtfjidddhehckoaaGreat.Lt
open Go Go.Hl
def refT (names:List ByteArray) (order:List (Int×Int)):TV:=if newC names order=0 then latT names (closeM names.length order)else .agg [.c nilC,.c nilC]
theorem badRow_all {n:Nat} {M:Nat→Nat→Bool} (h:badRow n M=n):∀a,a<n→okRow n M a=true:=by
 unfold badRow at h;cases hf:(List.range n).find? fun a=> !okRow n M a with
 | none=>
   rw[List.find?_eq_none]at hf;intro a ha;simpa using hf a (by simpa using ha)
 | some x=>
   rw[hf]at h;have:=List.mem_of_find?_eq_some hf;simp at this h;omega
theorem anti_no {n a b:Nat} {M:Nat→Nat→Bool} (ha:a<n) (hb:b<n) (hne:a≠b) (h1:M a b=true) (h2:M b a=true):antiB n M=false:=by
 unfold antiB;rw[List.all_eq_false];rcases Nat.lt_or_gt_of_ne hne with h|h
 · refine⟨b,by simpa using hb,?_⟩;simp only[Bool.not_eq_true,List.all_eq_false];exact⟨a,by simpa using h,by rw[h1,h2];simp⟩
 refine⟨a,by simpa using ha,?_⟩;simp only[Bool.not_eq_true,List.all_eq_false];exact⟨b,by simpa using h,by rw[h1,h2];simp⟩
theorem anti_yes {n:Nat} {M:Nat→Nat→Bool} (h:∀a b,a<n→b<n→(!decide (a=b)&&M a b&&M b a)=false):antiB n M=true:=by
 unfold antiB;rw[List.all_eq_true];intro a ha;rw[List.all_eq_true];intro b hb;simp only[List.mem_range]at ha hb;have:=h a b ha (by omega);have hne:¬a=b:=by omega
 cases h1:M a b<;>cases h2:M b a<;>simp_all
theorem bndR_neg {n:Nat} {R:Nat→Nat→Bool} {a b:Nat}:(bndR n R a b<0)↔bndO n R a b=none:=by
 unfold bndR;cases bndO n R a b with
 |none=>simp
 |some c=>simp
def P1 (names:List ByteArray) (order:List (Int×Int)) (k:Nat):HS:=
 ⟨145,[(0,.v (.one (.c (nsC names)))),(1,.v (.one (.c (orC order)))),(4,.v (.one (.at_ 1004 0))),(6,.v (li names.length)),(7,.v (li k))],[(1004,.box [.c nilC,.c nilC])]⟩
def P2 (names:List ByteArray) (order:List (Int×Int)) (k j:Nat):HS:=
 ⟨145,[(0,.v (.one (.c (nsC names)))),(1,.v (.one (.c (orC order)))),(4,.v (.one (.at_ 1004 0))),(6,.v (li names.length)),(7,.v (li k)),(8,.v (li j))],[(1004,.box [.c nilC,.c nilC])]⟩
def P3 (names:List ByteArray) (order:List (Int×Int)) (k:Nat):HS:=
 ⟨145,[(0,.v (.one (.c (nsC names)))),(1,.v (.one (.c (orC order)))),(4,.v (.one (.at_ 1004 0))),(6,.v (li names.length)),(9,.v (li k))],[(1004,.box [.c nilC,.c nilC])]⟩
def P4 (names:List ByteArray) (order:List (Int×Int)) (k j:Nat):HS:=
 ⟨145,[(0,.v (.one (.c (nsC names)))),(1,.v (.one (.c (orC order)))),(4,.v (.one (.at_ 1004 0))),(6,.v (li names.length)),(9,.v (li k)),(10,.v (li j))],[(1004,.box [.c nilC,.c nilC])]⟩
def P5 (names:List ByteArray) (M:Nat→Nat→Bool) (a:Nat):HS:=
 ⟨145,[(4,.v (.one (.at_ 1004 0))),(6,.v (li names.length)),(11,.v (.one (.at_ 1011 0))),(12,.v (li a))],[(1004,.box [.c nilC,.c nilC]),(1011,.box [.c (nsC names),.c (matB names.length M)])]⟩
def P6 (names:List ByteArray) (M:Nat→Nat→Bool) (a b:Nat):HS:=
 ⟨145,[(4,.v (.one (.at_ 1004 0))),(6,.v (li names.length)),(11,.v (.one (.at_ 1011 0))),(12,.v (li a)),(13,.v (li b))],[(1004,.box [.c nilC,.c nilC]),(1011,.box [.c (nsC names),.c (matB names.length M)])]⟩
def P7 (names:List ByteArray) (M:Nat→Nat→Bool) (a:Nat):HS:=
 ⟨145,[(4,.v (.one (.at_ 1004 0))),(6,.v (li names.length)),(11,.v (.one (.at_ 1011 0))),(14,.v (li a))],[(1004,.box [.c nilC,.c nilC]),(1011,.box [.c (nsC names),.c (matB names.length M)])]⟩
def P8 (names:List ByteArray) (M:Nat→Nat→Bool) (a b:Nat):HS:=
 ⟨145,[(4,.v (.one (.at_ 1004 0))),(6,.v (li names.length)),(11,.v (.one (.at_ 1011 0))),(14,.v (li a)),(15,.v (li b))],[(1004,.box [.c nilC,.c nilC]),(1011,.box [.c (nsC names),.c (matB names.length M)])]⟩
theorem refnew_con (names:List ByteArray) (hnl:names.length≤14) (order:List (Int×Int)) (hlen:order.length≤60) (d:Nat):
  Con Tryz.prog 43 false [.one (.c (nsC names)),.one (.c (orC order))] (.tup [refT names order,li (newC names order)]) none d:=by
 have hrf:newC names order=newC names order:=rfl
 conv at hrf=>rhs;unfold newC
 have hrr:refT names order=refT names order:=rfl
 conv at hrr=>rhs;unfold refT
 generalize newC names order=code at*;generalize refT names order=res at*;refine con_of_HTA Tryz.func43 ?_;simp only[Tryz.f43];refine HT_seq (HT_run (by simp[regsOf,nsC,orC,sC,i64];rfl) ?_);refine HT_seq (HT_run (by simp;rfl) ?_);refine HT_seq (HT_seq (HT_run (by simp;rfl) ?_));refine HT_cond rfl (fun h=>?_) (fun hcd=>HT_skip ?_)
 · refine HT_seq (HT_run (by simp;rfl) ?_);have h':names.length=0∨12<names.length:=by simp at h;omega
   rw[if_pos h']at hrf;subst hrf;rw[if_neg (by decide)]at hrr;rw[hrr];exact HT_ret ⟨.inr rfl,_,le_refl _,⟨_,by simp[resL,resT];rfl,by simp[resR,nilC,li,i64]⟩,by simp,by simp⟩
 have hn:1≤names.length∧names.length≤12:=by simp at hcd;omega
 rw[if_neg (show ¬(names.length=0∨12<names.length) by omega)]at hrf;refine HT_seq (HT_seq (HT_run (by simp;rfl) ?_));refine HT_block (HT_loop (P1 names order) (fun k=>k≤names.length∧scanN (names.take k) (names.drop k)=scanN [] names) (fun k=>names.length - k) 0 ⟨Nat.zero_le _,by simp⟩ ?_ ?_)
 · exact le_mk (fun n=>4) [] rfl (by simp[P1,li,i64,nsC,orC,sC]) (by simp[P1,nilC]) (by simp[P1])
 rintro k ⟨hk,hscan⟩;simp only[P1];refine HT_seq (HT_seq (HT_run (by simp[li,i64];rfl) ?_));refine HT_cond rfl (fun h=>HT_skip ?_) (fun h=>HT_exit ?_)
 · have hlt:k<names.length:=by simpa using h
   have hw:IntKind.i64.wrap ((k:Int)+1)=(k:Int)+1:=wrap_in (by omega) (by omega);obtain⟨s,hs⟩:∃s,names[k]? =some s:=⟨names[k],List.getElem?_eq_getElem hlt⟩;rw[scan_step hs]at hscan;have hcn:=fun d=>refname_con s d;refine HT_seq (HT_block (HT_seq (HT_seq (HT_runc [⟨true,.v (lb (nameB s)),none⟩] (by simp[nsC,hs,sC,lb,bC];first|exact⟨rfl,Iff.rfl⟩|rfl) (by simpa only[sC,lb,bC]using hcn _) ?_))));refine HT_cond rfl (fun h=>?_) (fun hc2=>HT_skip ?_)
   · refine HT_seq (HT_run (by simp[nilC];rfl) ?_);rw[if_pos (by simpa using h)]at hscan;rw[←hscan,if_pos (by decide)]at hrf;subst hrf;rw[if_neg (by decide)]at hrr;rw[hrr];exact HT_ret ⟨.inr rfl,_,le_refl _,⟨_,by simp[resL,resT];rfl,by simp[resR,nilC,li,i64]⟩,by simp,by simp⟩
   rw[if_neg (by simpa using hc2)]at hscan;refine HT_seq (HT_run (by simp;rfl) ?_);refine HT_block (HT_loop (P2 names order k) (fun j=>j≤k∧∀i,i<j→names[i]? ≠some s) (fun j=>k - j) 0 ⟨Nat.zero_le _,by simp⟩ ?_ ?_)
   · exact le_mk (fun n=>n) [] rfl (by simp[P2,li,i64,nsC,orC,sC]) (by simp[P2,nilC]) (by simp[P2])
   rintro j ⟨hj,hne⟩;simp only[P2];refine HT_seq (HT_seq (HT_run (by simp[li,i64];rfl) ?_));refine HT_cond rfl (fun h=>HT_skip ?_) (fun h=>HT_exit ?_)
   · have hlj:j<k:=by simpa using h
     have hwj:IntKind.i64.wrap ((j:Int)+1)=(j:Int)+1:=wrap_in (by omega) (by omega);obtain⟨t,ht⟩:∃t,names[j]? =some t:=⟨names[j],List.getElem?_eq_getElem (by omega)⟩;refine HT_seq (HT_block (HT_seq (HT_drun (by kernel_rfl) (by kernel_rfl) (by rfl) (by simp[nsC,hs,ht,sC];rfl) ?_)));refine HT_cond rfl (fun h=>?_) (fun hc3=>HT_skip ?_)
     · refine HT_seq (HT_run (by simp[nilC];rfl) ?_);have hts:t=s:=by simpa using h
       have hm:hasN (names.take k) s=true:=by
        rw[hasN_iff];refine List.mem_of_getElem? (i:=j) ?_;rw[List.getElem?_take,if_pos hlj,ht,hts]
       rw[if_pos hm]at hscan;rw[←hscan,if_pos (by decide)]at hrf;subst hrf;rw[if_neg (by decide)]at hrr;rw[hrr];exact HT_ret ⟨.inr rfl,_,le_refl _,⟨_,by simp[resL,resT];rfl,by simp[resR,nilC,li,i64]⟩,by simp,by simp⟩
     refine HT_run (by simp[hwj];rfl) ?_;refine⟨j+1,⟨hlj,fun i hi=>?_⟩,by omega,?_⟩
     · by_cases e:i=j
       · subst e;rw[ht];intro e2;cases e2;simp at hc3
       exact hne i (by omega)
     exact le_mk (fun n=>n) [] rfl (by simp[P2,li,i64,nsC,orC,sC,hwj]) (by simp[P2]) (by simp[P2])
   have hjk:j=k:=by simp at h;omega
   subst hjk
   have hm:¬hasN (names.take j) s=true:=by
    rw[hasN_iff];intro hm;obtain⟨i,hi⟩:=List.mem_iff_getElem?.1 hm;rw[List.getElem?_take]at hi;split at hi
    · exact hne i (by assumption) hi
    cases hi
   rw[if_neg hm]at hscan;refine HT_run (by simp[hw];rfl) ?_;refine⟨j+1,⟨hlt,hscan⟩,by omega,?_⟩;exact le_mk (fun n=>n) [] rfl (by simp[P1,li,i64,nsC,orC,sC,hw]) (by simp[P1]) (by simp[P1])
 have hkn:k=names.length:=by simp at h;omega
 subst hkn;rw[List.drop_length]at hscan;simp only[scanN]at hscan;rw[if_neg (by rw[←hscan];simp)]at hrf;refine HT_seq (HT_seq (HT_run (by simp;rfl) ?_));refine HT_block (HT_loop (P3 names order) (fun k=>k≤order.length∧∀p∈order.take k,(inB names.length p.1&&inB names.length p.2)=true) (fun k=>order.length - k) 0 ⟨Nat.zero_le _,by simp⟩ ?_ ?_)
 · exact le_mk (fun n=>n) [] rfl (by simp[P3,li,i64,nsC,orC,sC]) (by simp[P3,nilC]) (by simp[P3])
 rintro k ⟨hk2,hall⟩;simp only[P3];refine HT_seq (HT_seq (HT_run (by simp[li,i64,orC];rfl) ?_));refine HT_cond rfl (fun h=>HT_skip ?_) (fun h=>HT_exit ?_)
 · have hlt:k<order.length:=by simpa using h
   have hw:IntKind.i64.wrap ((k:Int)+1)=(k:Int)+1:=wrap_in (by omega) (by omega);obtain⟨p,hp⟩:∃p,order[k]? =some p:=⟨order[k],List.getElem?_eq_getElem hlt⟩
   have hbad:(inB names.length p.1&&inB names.length p.2)=false→ordOk names.length order=false:=by
    intro hx;unfold ordOk;rw[List.all_eq_false];exact⟨p,List.mem_of_getElem? hp,by rw[hx];simp⟩
   refine HT_seq (HT_block (HT_seq (HT_run (by simp;rfl) ?_)));refine HT_block (HT_loop (P4 names order k) (fun j=>j≤2∧(0<j→inB names.length p.1=true)∧(1<j→inB names.length p.2=true)) (fun j=>2 - j) 0 ⟨by omega,by simp,by simp⟩ ?_ ?_)
   · exact le_mk (fun n=>n) [] rfl (by simp[P4,li,i64,nsC,orC,sC]) (by simp[P4,nilC]) (by simp[P4])
   rintro j ⟨hj,hj0,hj1⟩;simp only[P4];refine HT_seq (HT_seq (HT_run (by simp[li,i64,orC];rfl) ?_));refine HT_cond rfl (fun h=>HT_skip ?_) (fun h=>HT_exit ?_)
   · have hlj:j<2:=by simp at h;omega
     have hjc:j=0∨j=1:=by omega
     rcases hjc with rfl|rfl
     · refine HT_seq (HT_block (HT_seq (HT_run (by simp[orC,hp,i64];rfl) ?_)));refine HT_cond rfl (fun h=>?_) (fun hc3=>HT_skip ?_)
       · refine HT_seq (HT_run (by simp[nilC];rfl) ?_)
         have hx:inB names.length p.1=false:=by
          simp at h;simp[inB];omega
         rw[if_pos (hbad (by rw[hx];rfl))]at hrf;subst hrf;rw[if_neg (by decide)]at hrr;rw[hrr];exact HT_ret ⟨.inr rfl,_,le_refl _,⟨_,by simp[resL,resT];rfl,by simp[resR,nilC,li,i64]⟩,by simp,by simp⟩
       refine HT_run (by simp;rfl) ?_;refine⟨1,⟨by omega,fun _=>?_,by simp⟩,by omega,?_⟩
       · simp at hc3;simp[inB];omega
       exact le_mk (fun n=>n) [] rfl (by simp[P4,li,i64,nsC,orC,sC];decide) (by simp[P4]) (by simp[P4])
     refine HT_seq (HT_block (HT_seq (HT_run (by simp[orC,hp,i64];rfl) ?_)));refine HT_cond rfl (fun h=>?_) (fun hc3=>HT_skip ?_)
     · refine HT_seq (HT_run (by simp[nilC];rfl) ?_)
       have hx:inB names.length p.2=false:=by
        simp at h;simp[inB];omega
       rw[if_pos (hbad (by rw[hx];simp))]at hrf;subst hrf;rw[if_neg (by decide)]at hrr;rw[hrr];exact HT_ret ⟨.inr rfl,_,le_refl _,⟨_,by simp[resL,resT];rfl,by simp[resR,nilC,li,i64]⟩,by simp,by simp⟩
     refine HT_run (by simp;rfl) ?_;refine⟨2,⟨by omega,fun _=>hj0 (by omega),fun _=>?_⟩,by omega,?_⟩
     · simp at hc3;simp[inB];omega
     exact le_mk (fun n=>n) [] rfl (by simp[P4,li,i64,nsC,orC,sC];decide) (by simp[P4]) (by simp[P4])
   have hj2:j=2:=by simp at h;omega
   subst hj2;refine HT_run (by simp[hw];rfl) ?_;refine⟨k+1,⟨hlt,fun q hq=>?_⟩,by omega,?_⟩
   · rw[List.take_add_one,hp]at hq;rcases List.mem_append.1 hq with hq|hq
     · exact hall q hq
     simp only[Option.toList_some,List.mem_singleton]at hq;subst hq;rw[hj0 (by omega),hj1 (by omega)];rfl
   exact le_mk (fun n=>n) [] rfl (by simp[P3,li,i64,nsC,orC,sC,hw]) (by simp[P3]) (by simp[P3])
 have hkl:k=order.length:=by simp at h;omega
 subst hkl;rw[List.take_length]at hall
 have ho:ordOk names.length order=true:=by
  unfold ordOk;rw[List.all_eq_true];exact hall
 rw[if_neg (by rw[ho];simp)]at hrf
 have hord:∀p∈order,(0≤p.1∧p.1<names.length)∧0≤p.2∧p.2<names.length:=by
  intro p hp;have:=hall p hp;simpa[inB]using this
 have hcl:=fun d=>closed_con names.length hn.2 order hlen hord d;have hjn:=fun M a b ha hb d=>refjoin_con names names.length rfl hn.2 M a b ha hb d;have hmt:=fun M a b ha hb d=>refmeet_con names names.length rfl hn.2 M a b ha hb d;generalize closeM names.length order=M at*;refine HT_seq (HT_runc [⟨false,.v (.one (.c (matB names.length M))),none⟩] (by simp[nsC,orC,room_of (show names.length≤2097152 by omega) (show 16≤1048576 by omega),matB];first|exact⟨rfl,Iff.rfl⟩|rfl) ?_ ?_)
 · exact⟨by simpa only[orC,li,i64,matB]using hcl _,trivial⟩
 refine HT_seq (HT_seq (HT_run (by simp;rfl) ?_));refine HT_block (HT_loop (P5 names M) (fun a=>a≤names.length∧∀x y,x<a→y<names.length→(!decide (x=y)&&M x y&&M y x)=false) (fun a=>names.length - a) 0 ⟨Nat.zero_le _,by simp⟩ ?_ ?_)
 · refine le_trans (le_frz 82 rfl) (le_mk (fun n=>if n=1011 then 11 else n) [] rfl ?_ ?_ ?_)
   · simp[P5,li,i64]
   · simp[P5,nsC,nilC,matB]
   simp[P5]
 rintro a ⟨ha,han⟩;simp only[P5];refine HT_seq (HT_seq (HT_run (by simp[li,i64];rfl) ?_));refine HT_cond rfl (fun h=>HT_skip ?_) (fun h=>HT_exit ?_)
 · have hla:a<names.length:=by simpa using h
   have hwa:IntKind.i64.wrap ((a:Int)+1)=(a:Int)+1:=wrap_in (by omega) (by omega);refine HT_seq (HT_block (HT_seq (HT_run (by simp;rfl) ?_)));refine HT_block (HT_loop (P6 names M a) (fun b=>b≤names.length∧∀y,y<b→(!decide (a=y)&&M a y&&M y a)=false) (fun b=>names.length - b) 0 ⟨Nat.zero_le _,by simp⟩ ?_ ?_)
   · exact le_mk (fun n=>n) [] rfl (by simp[P6,li,i64]) (by simp[P6,nilC]) (by simp[P6])
   rintro b ⟨hb,hbn2⟩;simp only[P6];refine HT_seq (HT_seq (HT_run (by simp[li,i64];rfl) ?_));refine HT_cond rfl (fun h=>HT_skip ?_) (fun h=>HT_exit ?_)
   · have hlb:b<names.length:=by simpa using h
     have hwb:IntKind.i64.wrap ((b:Int)+1)=(b:Int)+1:=wrap_in (by omega) (by omega)
     have hdi:decide ((a:Int)=(b:Int))=decide (a=b):=by
      by_cases e:a=b
      · simp[e]
      have:¬(a:Int)=(b:Int):=by omega
      simp[e,this]
     refine HT_seq (HT_block (HT_seq (HT_run (by simp[nsC,matB,hla,hlb,rowB_get hla,rowB_get hlb,bC];rfl) ?_)));refine HT_cond rfl (fun h=>?_) (fun hc2=>HT_skip ?_)
     · refine HT_seq (HT_run (by simp[nilC];rfl) ?_);have h0:(!decide ((a:Int)=(b:Int))&&M a b&&M b a)=true:=h;have h':(!decide (a=b)&&M a b&&M b a)=true:=by rw[←hdi];exact h0
       have hx:antiB names.length M=false:=by
        simp only[Bool.and_eq_true,Bool.not_eq_true',decide_eq_false_iff_not]at h';exact anti_no hla hlb h'.1.1 h'.1.2 h'.2
       rw[if_pos hx]at hrf;subst hrf;rw[if_neg (by decide)]at hrr;rw[hrr];exact HT_ret ⟨.inr rfl,_,le_refl _,⟨_,by simp[resL,resT];rfl,by simp[resR,nilC,li,i64]⟩,by simp,by simp⟩
     refine HT_run (by simp[hwb];rfl) ?_;refine⟨b+1,⟨hlb,fun y hy=>?_⟩,by omega,?_⟩
     · by_cases e:y=b
       · subst e;have h0:(!decide ((a:Int)=(y:Int))&&M a y&&M y a)=false:=hc2;rw[←hdi];exact h0
       exact hbn2 y (by omega)
     exact le_mk (fun n=>n) [] rfl (by simp[P6,li,i64,hwb]) (by simp[P6,nsC,matB]) (by simp[P6])
   have hbl:b=names.length:=by simp at h;omega
   subst hbl;refine HT_run (by simp[hwa];rfl) ?_;refine⟨a+1,⟨hla,fun x y hx hy=>?_⟩,by omega,?_⟩
   · by_cases e:x=a
     · subst e;exact hbn2 y hy
     exact han x y (by omega) hy
   exact le_mk (fun n=>n) [] rfl (by simp[P5,li,i64,hwa]) (by simp[P5]) (by simp[P5])
 have hal:a=names.length:=by simp at h;omega
 subst hal;have hx:antiB names.length M=true:=anti_yes fun x y hx hy=>han x y hx hy;rw[if_neg (by rw[hx];simp)]at hrf;refine HT_seq (HT_seq (HT_run (by simp;rfl) ?_));refine HT_block (HT_loop (P7 names M) (fun a=>a≤names.length∧∀x,x<a→okRow names.length M x=true) (fun a=>names.length - a) 0 ⟨Nat.zero_le _,by simp⟩ ?_ ?_)
 · exact le_mk (fun n=>n) [] rfl (by simp[P7,li,i64]) (by simp[P7,nilC]) (by simp[P7])
 rintro a ⟨ha,han⟩;simp only[P7];refine HT_seq (HT_seq (HT_run (by simp[li,i64];rfl) ?_));refine HT_cond rfl (fun h=>HT_skip ?_) (fun h=>HT_exit ?_)
 · have hla:a<names.length:=by simpa using h
   have hwa:IntKind.i64.wrap ((a:Int)+1)=(a:Int)+1:=wrap_in (by omega) (by omega);refine HT_seq (HT_block (HT_seq (HT_run (by simp;rfl) ?_)));refine HT_block (HT_loop (P8 names M a) (fun b=>b≤names.length∧∀y,y<b→((bndO names.length M a y).isSome&&(bndO names.length (flp M) a y).isSome)=true) (fun b=>names.length - b) 0 ⟨Nat.zero_le _,by simp⟩ ?_ ?_)
   · exact le_mk (fun n=>n) [] rfl (by simp[P8,li,i64]) (by simp[P8,nilC]) (by simp[P8])
   rintro b ⟨hb,hbn2⟩;simp only[P8];refine HT_seq (HT_seq (HT_run (by simp[li,i64];rfl) ?_));refine HT_cond rfl (fun h=>HT_skip ?_) (fun h=>HT_exit ?_)
   · have hlb:b<names.length:=by simpa using h
     have hwb:IntKind.i64.wrap ((b:Int)+1)=(b:Int)+1:=wrap_in (by omega) (by omega);have d1:=fun d=>hjn M a b hla hlb d;have d2:=fun d=>hmt M a b hla hlb d;have e1:=@bndR_neg names.length M a b;have e2:=@bndR_neg names.length (flp M) a b;generalize bndR names.length M a b=r1 at*;generalize bndR names.length (flp M) a b=r2 at*
     have hbadr:(bndO names.length M a b=none∨bndO names.length (flp M) a b=none)→badRow names.length M≠names.length:=by
      intro h4 hbr;have:=badRow_all hbr a hla;unfold okRow at this;rw[List.all_eq_true]at this;have h3:=this b (by simpa using hlb);rcases h4 with h4|h4
      · rw[h4]at h3;simp at h3
      rw[h4]at h3;simp at h3
     by_cases hr1:r1<0
     · refine HT_seq (HT_block (HT_seq (HT_runcS [some ⟨true,.v (li r1),none⟩,none] (by simp[nsC,matB,li,i64,hr1];first|exact⟨rfl,Iff.rfl⟩|rfl) ?_ ?_)))
       · simpa only[latT,nsC,matB,li,i64,and_true]using d1 _
       refine HT_cond rfl (fun h=>?_) (fun h=>by cases h);refine HT_seq (HT_run (by simp[nilC];rfl) ?_);rw[if_pos (hbadr (.inl (e1.1 hr1)))]at hrf;subst hrf;rw[if_neg (by decide)]at hrr;rw[hrr];exact HT_ret ⟨.inr rfl,_,le_refl _,⟨_,by simp[resL,resT];rfl,by simp[resR,nilC,li,i64]⟩,by simp,by simp⟩
     refine HT_seq (HT_block (HT_seq (HT_runcS [some ⟨true,.v (li r1),none⟩,some ⟨true,.v (li r2),none⟩] (by simp[nsC,matB,li,i64,hr1];first|exact⟨rfl,Iff.rfl⟩|rfl) ?_ ?_)))
     · constructor
       · simpa only[latT,nsC,matB,li,i64,and_true]using d1 _
       simpa only[latT,nsC,matB,li,i64,and_true]using d2 _
     refine HT_cond rfl (fun h=>?_) (fun hc2=>HT_skip ?_)
     · refine HT_seq (HT_run (by simp[nilC];rfl) ?_);have h':decide (r2<0)=true:=h;rw[if_pos (hbadr (.inr (e2.1 (by simpa using h'))))]at hrf;subst hrf;rw[if_neg (by decide)]at hrr;rw[hrr];exact HT_ret ⟨.inr rfl,_,le_refl _,⟨_,by simp[resL,resT];rfl,by simp[resR,nilC,li,i64]⟩,by simp,by simp⟩
     refine HT_run (by simp[hwb];rfl) ?_;refine⟨b+1,⟨hlb,fun y hy=>?_⟩,by omega,?_⟩
     · by_cases e:y=b
       · subst e;have h':decide (r2<0)=false:=hc2;simp only[decide_eq_false_iff_not]at h';cases h3:bndO names.length M a y with
         |none=>exact absurd (e1.2 h3) hr1
         | some c1=>
           cases h4:bndO names.length (flp M) a y with
           |none=>exact absurd (e2.2 h4) h'
           |some c2=>rfl
       exact hbn2 y (by omega)
     exact le_mk (fun n=>n) [] rfl (by simp[P8,li,i64,hwb]) (by simp[P8,nsC,matB]) (by simp[P8])
   have hbl:b=names.length:=by simp at h;omega
   subst hbl;refine HT_run (by simp[hwa];rfl) ?_;refine⟨a+1,⟨hla,fun x hx=>?_⟩,by omega,?_⟩
   · by_cases e:x=a
     · subst e;unfold okRow;rw[List.all_eq_true];intro y hy;exact hbn2 y (by simpa using hy)
     exact han x (by omega)
   exact le_mk (fun n=>n) [] rfl (by simp[P7,li,i64,hwa]) (by simp[P7]) (by simp[P7])
 have hal:a=names.length:=by simp at h;omega
 subst hal;have hbr:=badRow_none han;rw[if_neg (by rw[hbr];simp)]at hrf;subst hrf;rw[if_pos rfl]at hrr;rw[hrr];refine HT_seq (HT_run (by simp[nsC,matB,nilC];rfl) ?_);exact HT_ret ⟨.inr rfl,_,le_refl _,⟨_,by simp[resL,resT];rfl,by simp[resR,latT,nsC,matB,li,i64]⟩,by simp,by simp⟩
end Go.Proofs.YtfjidddhehckoaaGreat.Lt

namespace Go.Proofs.YtfjidddhehckoaaGreat.Lt
open Go Go.Hl
theorem inB_nat {n:Nat} {a:Int} (h:inB n a=true):∃k:Nat,a=(k:Int)∧k<n:=by
 simp[inB]at h;exact⟨a.toNat,by omega,by omega⟩
theorem rowI_get {n:Nat} {J:Nat→Nat→Int} {a b:Nat} (h:b<n):(rowI n J a)[b]? =some [i64 (J a b)]:=by simp[rowI,h]
theorem inB_no {n:Nat} {a:Int} (h:inB n a=false):¬0≤a∨∃k:Nat,a=(k:Int)∧n≤k:=by
 simp[inB]at h;by_cases h0:0≤a
 · exact .inr ⟨a.toNat,by omega,by omega⟩
 exact .inl h0
theorem rowB_no {n:Nat} {M:Nat→Nat→Bool} {a b:Nat} (h:n≤b):(rowB n M a)[b]? =none:=by simp[rowB,h]
theorem below_con (names:List ByteArray) (M:Nat→Nat→Bool) (ix jn mt:CD) (a b:Int) (d:Nat):
  Con Tryz.prog 37 true [.one (.c (latD names ix (matB names.length M) jn mt)),li a,li b] (.v (lb (inB names.length a&&(inB names.length b&&M a.toNat b.toNat)))) none d:=by
 have h1:=fun d=>has_con names ix (matB names.length M) jn mt a d;have h2:=fun d=>has_con names ix (matB names.length M) jn mt b d;refine con_of_HTA Tryz.func37 ?_;simp only[Tryz.f37];refine HT_seq (HT_run (by simp[regsOf,latD,nsC,li,i64];rfl) ?_);cases ha:inB names.length a with
 | false=>
   rw[ha]at h1;rcases inB_no ha with hx|⟨x,rfl,hx⟩
   · refine HT_seq (HT_runcS [some ⟨true,.v (lb false),none⟩,none] (by simp[lb,bC,hx];first|exact⟨rfl,Iff.rfl⟩|rfl) ?_ ?_)
     · simpa only[latD,nsC,li,i64,lb,bC,and_true]using h1 _
     exact HT_ret ⟨.inr rfl,_,le_refl _,⟨_,rfl,by simp[resR,lb,bC]⟩,by simp,fun _=>⟨rfl,by simp⟩⟩
   refine HT_seq (HT_runcS [some ⟨true,.v (lb false),none⟩,none] (by simp[lb,bC,hx,matB];first|exact⟨rfl,Iff.rfl⟩|rfl) ?_ ?_)
   · simpa only[latD,nsC,li,i64,lb,bC,matB,and_true]using h1 _
   exact HT_ret ⟨.inr rfl,_,le_refl _,⟨_,rfl,by simp[resR,lb,bC]⟩,by simp,fun _=>⟨rfl,by simp⟩⟩
 | true =>
   rw[ha]at h1;obtain⟨x,rfl,hx⟩:=inB_nat ha;cases hb:inB names.length b with
   | false=>
     rw[hb]at h2;rcases inB_no hb with hy|⟨y,rfl,hy⟩
     · refine HT_seq (HT_runcS [some ⟨true,.v (lb true),none⟩,some ⟨true,.v (lb false),none⟩] (by simp[lb,bC,matB,hx,hy];first|exact⟨rfl,Iff.rfl⟩|rfl) ?_ ?_)
       · constructor
         · simpa only[latD,nsC,li,i64,lb,bC,matB,and_true]using h1 _
         simpa only[latD,nsC,li,i64,lb,bC,matB,and_true]using h2 _
       exact HT_ret ⟨.inr rfl,_,le_refl _,⟨_,rfl,by simp[resR,lb,bC]⟩,by simp,fun _=>⟨rfl,by simp⟩⟩
     refine HT_seq (HT_runcS [some ⟨true,.v (lb true),none⟩,some ⟨true,.v (lb false),none⟩] (by simp[lb,bC,matB,hx,rowB_no hy];first|exact⟨rfl,Iff.rfl⟩|rfl) ?_ ?_)
     · constructor
       · simpa only[latD,nsC,li,i64,lb,bC,matB,and_true]using h1 _
       simpa only[latD,nsC,li,i64,lb,bC,matB,and_true]using h2 _
     exact HT_ret ⟨.inr rfl,_,le_refl _,⟨_,rfl,by simp[resR,lb,bC]⟩,by simp,fun _=>⟨rfl,by simp⟩⟩
   | true=>
     rw[hb]at h2;obtain⟨y,rfl,hy⟩:=inB_nat hb;refine HT_seq (HT_runcS [some ⟨true,.v (lb true),none⟩,some ⟨true,.v (lb true),none⟩] (by simp[lb,bC,matB,hx,rowB_get hy];first|exact⟨rfl,Iff.rfl⟩|rfl) ?_ ?_)
     · constructor
       · simpa only[latD,nsC,li,i64,lb,bC,matB,and_true]using h1 _
       simpa only[latD,nsC,li,i64,lb,bC,matB,and_true]using h2 _
     exact HT_ret ⟨.inr rfl,_,le_refl _,⟨_,rfl,by simp[resR,lb,bC]⟩,by simp,fun _=>⟨rfl,by simp⟩⟩
def jmV (n:Nat) (J:Nat→Nat→Int) (a b:Int):Int:=if(inB n a&&inB n b)=true then J a.toNat b.toNat else 0
def jmC (n:Nat) (a b:Int):Int:=if(inB n a&&inB n b)=true then 0 else 3
theorem join_con (names:List ByteArray) (J:Nat→Nat→Int) (ix bl mt:CD) (a b:Int) (d:Nat):
  Con Tryz.prog 158 true [.one (.c (latD names ix bl (matI names.length J) mt)),li a,li b] (.tup [li (jmV names.length J a b),li (jmC names.length a b)]) none d:=by
 have h1:=fun d=>has_con names ix bl (matI names.length J) mt a d;have h2:=fun d=>has_con names ix bl (matI names.length J) mt b d;refine con_of_HTA Tryz.func158 ?_;simp only[Tryz.f158];unfold jmV jmC;refine HT_seq (HT_run (by simp[regsOf,latD,nsC,li,i64];rfl) ?_);refine HT_seq (HT_seq (HT_run (by simp;rfl) ?_));refine HT_cond rfl (fun h=>by cases h) (fun _=>HT_skip ?_);cases ha:inB names.length a with
 | false=>
   rw[ha]at h1;refine HT_seq (HT_seq (HT_runcS [some ⟨true,.v (lb false),none⟩,none] (by simp[lb,bC];first|exact⟨rfl,Iff.rfl⟩|rfl) ?_ ?_))
   · simpa only[latD,nsC,li,i64,lb,bC,and_true]using h1 _
   refine HT_cond rfl (fun _=>?_) (fun h=>by cases h);refine HT_seq (HT_run (by simp;rfl) ?_);exact HT_ret ⟨.inr rfl,_,le_refl _,⟨_,rfl,by simp[resR,li,i64]⟩,by simp,fun _=>⟨rfl,by simp⟩⟩
 | true=>
   rw[ha]at h1;cases hb:inB names.length b with
   | false=>
     rw[hb]at h2;refine HT_seq (HT_seq (HT_runcS [some ⟨true,.v (lb true),none⟩,some ⟨true,.v (lb false),none⟩] (by simp[lb,bC];first|exact⟨rfl,Iff.rfl⟩|rfl) ?_ ?_))
     · constructor
       · simpa only[latD,nsC,li,i64,lb,bC,and_true]using h1 _
       simpa only[latD,nsC,li,i64,lb,bC,and_true]using h2 _
     refine HT_cond rfl (fun _=>?_) (fun h=>by cases h);refine HT_seq (HT_run (by simp;rfl) ?_);exact HT_ret ⟨.inr rfl,_,le_refl _,⟨_,rfl,by simp[resR,li,i64]⟩,by simp,fun _=>⟨rfl,by simp⟩⟩
   | true=>
     rw[hb]at h2;obtain⟨x,rfl,hx⟩:=inB_nat ha;obtain⟨y,rfl,hy⟩:=inB_nat hb;refine HT_seq (HT_seq (HT_runcS [some ⟨true,.v (lb true),none⟩,some ⟨true,.v (lb true),none⟩] (by simp[lb,bC];first|exact⟨rfl,Iff.rfl⟩|rfl) ?_ ?_))
     · constructor
       · simpa only[latD,nsC,li,i64,lb,bC,and_true]using h1 _
       simpa only[latD,nsC,li,i64,lb,bC,and_true]using h2 _
     refine HT_cond rfl (fun h=>by cases h) (fun _=>HT_skip ?_);refine HT_seq (HT_run (by simp[matI,hx,rowI_get hy,i64];rfl) ?_);exact HT_ret ⟨.inr rfl,_,le_refl _,⟨_,rfl,by simp[resR,li,i64]⟩,by simp,fun _=>⟨rfl,by simp⟩⟩
theorem size_con (names:List ByteArray) (ix bl jn mt:CD) (d:Nat):Con Tryz.prog 111 true [.one (.c (latD names ix bl jn mt))] (.v (li names.length)) none d:=by
 refine con_of_HTA Tryz.func111 ?_;simp only[Tryz.f111];refine HT_seq (HT_run (by simp[regsOf,latD,nsC,li,i64];rfl) ?_);refine HT_seq (HT_seq (HT_run (by simp;rfl) ?_));refine HT_cond rfl (fun h=>by cases h) (fun _=>HT_skip ?_);refine HT_seq (HT_run (by simp;rfl) ?_);exact HT_ret ⟨.inr rfl,_,le_refl _,⟨_,rfl,by simp[resR,li,i64]⟩,by simp,fun _=>⟨rfl,by simp⟩⟩
end Go.Proofs.YtfjidddhehckoaaGreat.Lt

namespace Go.Proofs.YtfjidddhehckoaaGreat.Lt
open Go Go.Hl
theorem new_out {names:List ByteArray} {order:List (Int×Int)} (h:newC names order=0):
  (1≤names.length∧names.length≤12)∧scanN [] names=0∧ordOk names.length order=true∧antiB names.length (closeM names.length order)=true∧∀a,a<names.length→okRow names.length (closeM names.length order) a=true:=by
 unfold newC at h;split at h
 · cases h
 rename_i h1;split at h
 · rename_i h2;exact absurd h h2
 rename_i h2;split at h
 · cases h
 rename_i h3;split at h
 · cases h
 rename_i h4;split at h
 · cases h
 rename_i h5;exact⟨by omega,by simpa using h2,by simpa using h3,by simpa using h4,badRow_all (by simpa using h5)⟩
end Go.Proofs.YtfjidddhehckoaaGreat.Lt

namespace Go.Proofs.YtfjidddhehckoaaGreat.Lt
open Go Go.Hl
theorem fwB_eq (M:Nat→Nat→Bool) (m a:Nat):∀(k x y:Nat),fwB M m a k x y=if x=a∧y<k then(M x y||(M x m&&M m y))else M x y
 |0,x,y=>by simp[fwB]
 | k +1,x,y=>by
   rw[fwB_succ];unfold stM up;rw[fwB_eq M m a k,fwB_eq M m a k,fwB_eq M m a k,fwB_eq M m a k];by_cases hx:x=a∧y=k
   · obtain⟨rfl,rfl⟩:=hx;simp only[and_self,if_true,Nat.lt_irrefl,and_false,if_false,Nat.lt_succ_self,true_and];by_cases hm:m<y
     · simp only[hm,if_true];cases M x m<;>simp
     simp only[hm,if_false]
   rw[if_neg hx];by_cases h2:x=a∧y<k
   · rw[if_pos h2,if_pos ⟨h2.1,by omega⟩]
   rw[if_neg h2,if_neg (by omega)]
theorem fwA_eq (n:Nat) (M:Nat→Nat→Bool) (m:Nat):∀(k x y:Nat),fwA n M m k x y=if x<k∧y<n then(M x y||(M x m&&M m y))else M x y
 |0,x,y=>by simp[fwA]
 | k +1,x,y=>by
   rw[fwA_succ,fwB_eq,fwA_eq n M m k,fwA_eq n M m k,fwA_eq n M m k];by_cases hx:x=k∧y<n
   · obtain⟨rfl,hy⟩:=hx;simp only[hy,and_self,if_true,Nat.lt_irrefl,false_and,if_false,Nat.lt_succ_self,and_true];by_cases hm:m<x
     · simp only[hm,if_true];cases M x y<;>cases M x m<;>cases M m y<;>cases M m m<;>rfl
     simp only[hm,if_false]
   rw[if_neg hx];by_cases h2:x<k∧y<n
   · rw[if_pos h2,if_pos ⟨by omega,h2.2⟩]
   rw[if_neg h2,if_neg (by omega)]
theorem fwM_trans (n:Nat) (M:Nat→Nat→Bool):∀(k:Nat),k≤n→∀a b c:Nat,a<n→b<n→c<k→fwM n M k a c=true→fwM n M k c b=true→fwM n M k a b=true
 |0,_,a,b,c,_,_,hc,_,_=>absurd hc (by omega)
 | k +1,hk,a,b,c,ha,hb,hc,h1,h2=>by
   have ih:=fwM_trans n M k (by omega);rw[fwM_succ]at h1 h2⊢;rw[fwA_eq]at h1 h2⊢;rw[if_pos ⟨ha,by omega⟩]at h1;rw[if_pos ⟨by omega,hb⟩]at h2;rw[if_pos ⟨ha,hb⟩];generalize fwM n M k=N at*;simp only[Bool.or_eq_true,Bool.and_eq_true]at h1 h2⊢;by_cases e:c=k
   · subst e;have e1:N a c=true:=h1.elim id (·.1);have e2:N c b=true:=h2.elim id (·.2);exact .inr ⟨e1,e2⟩
   have hck:c<k:=by omega
   rcases h1 with h1|⟨h1,h1'⟩
   · rcases h2 with h2|⟨h2,h2'⟩
     · exact .inl (ih a b c ha hb hck h1 h2)
     exact .inr ⟨ih a k c ha (by omega) hck h1 h2,h2'⟩
   rcases h2 with h2|⟨h2,h2'⟩
   · exact .inr ⟨h1,ih k b c (by omega) hb hck h1' h2⟩
   exact .inr ⟨h1,h2'⟩
theorem fwM_mono (n:Nat) (M:Nat→Nat→Bool):∀(k a b:Nat),M a b=true→fwM n M k a b=true
 |0,a,b,h=>by simpa[fwM]using h
 | k+1,a,b,h=>by
   rw[fwM_succ,fwA_eq,fwM_mono n M k a b h];split<;>simp
theorem up_mono {M:Nat→Nat→Bool} {x y a b:Nat} (h:M a b=true):up M x y true a b=true:=by
 unfold up;split
 · rfl
 exact h
theorem foldl_up_mono {a b:Nat}:∀(l:List (Int×Int)) (M:Nat→Nat→Bool),M a b=true→l.foldl (fun M p=>up M p.1.toNat p.2.toNat true) M a b=true
 |[],M,h=>h
 |p::l,M,h=>foldl_up_mono l _ (up_mono h)
theorem close_refl (n:Nat) (order:List (Int×Int)) (a:Nat):closeM n order a a=true:=fwM_mono n _ n a a (foldl_up_mono order eqM (by simp[eqM]))
theorem close_trans {n:Nat} {order:List (Int×Int)} {a b c:Nat} (ha:a<n) (hb:b<n) (hc:c<n) (h1:closeM n order a c=true) (h2:closeM n order c b=true):closeM n order a b=true:=
 fwM_trans n _ n (Nat.le_refl _) a b c ha hb hc h1 h2
structure Lat (n:Nat) (M:Nat→Nat→Bool):Prop where
 refl:∀a,a<n→M a a=true
 trans:∀a b c,a<n→b<n→c<n→M a b=true→M b c=true→M a c=true
 anti:∀a b,a<n→b<n→M a b=true→M b a=true→a=b
 join:∀a b,a<n→b<n→(bndO n M a b).isSome=true
 meet:∀a b,a<n→b<n→(bndO n (flp M) a b).isSome=true
theorem Lat.flp {n:Nat} {M:Nat→Nat→Bool} (h:Lat n M):Lat n (flp M):=
 ⟨h.refl,fun a b c ha hb hc h1 h2=>h.trans c b a hc hb ha h2 h1,fun a b ha hb h1 h2=>h.anti a b ha hb h2 h1,h.meet,h.join⟩
theorem lat_of {names:List ByteArray} {order:List (Int×Int)} (h:newC names order=0):Lat names.length (closeM names.length order):=by
 obtain⟨_,_,_,h4,h5⟩:=new_out h;refine⟨fun a _=>close_refl _ _ a,fun a b c ha hb hc h1 h2=>close_trans ha hc hb h1 h2,fun a b ha hb h1 h2=>?_,fun a b ha hb=>?_,fun a b ha hb=>?_⟩
 · by_cases e:a=b
   · exact e
   have:=anti_no ha hb e h1 h2;rw[h4]at this;cases this
 · have:=h5 a ha;unfold okRow at this;rw[List.all_eq_true]at this;have:=this b (by simpa using hb);simp only[Bool.and_eq_true]at this;exact this.1
 have:=h5 a ha;unfold okRow at this;rw[List.all_eq_true]at this;have:=this b (by simpa using hb);simp only[Bool.and_eq_true]at this;exact this.2
def bndN (n:Nat) (R:Nat→Nat→Bool) (a b:Nat):Nat:=(bndO n R a b).getD 0
theorem bndI_eq (n:Nat) (R:Nat→Nat→Bool) (a b:Nat):bndI n R a b=(bndN n R a b:Nat):=rfl
section
variable {n:Nat} {M:Nat→Nat→Bool}
theorem Lat.lub (h:Lat n M) {a b:Nat} (ha:a<n) (hb:b<n):bndN n M a b<n∧M a (bndN n M a b)=true∧M b (bndN n M a b)=true∧∀d,d<n→M a d=true→M b d=true→M (bndN n M a b) d=true:=by
 have hj:=h.join a b ha hb;unfold bndN;cases hc:bndO n M a b with
 |none=>rw[hc]at hj;cases hj
 | some c=>
   unfold bndO at hc;have h1:=List.mem_of_find?_eq_some hc;have h2:=List.find?_some hc;simp only[List.mem_range]at h1;unfold goodB at h2;simp only[Bool.and_eq_true,List.all_eq_true,List.mem_range]at h2;refine⟨h1,h2.1.1,h2.1.2,fun d hd ha hb=>?_⟩;have:=h2.2 d hd;simp only[ha,hb,Bool.true_and,Bool.not_not,Option.getD_some]at this;exact this
theorem Lat.lub_eq (h:Lat n M) {a b c:Nat} (ha:a<n) (hb:b<n) (hc:c<n) (h1:M a c=true) (h2:M b c=true) (h3:∀d,d<n→M a d=true→M b d=true→M c d=true):bndN n M a b=c:=by
 obtain⟨k1,k2,k3,k4⟩:=h.lub ha hb;exact h.anti _ _ k1 hc (k4 c hc h1 h2) (h3 _ k1 k2 k3)
theorem Lat.comm (h:Lat n M) {a b:Nat} (ha:a<n) (hb:b<n):bndN n M a b=bndN n M b a:=by
 obtain⟨k1,k2,k3,k4⟩:=h.lub hb ha;exact h.lub_eq ha hb k1 k3 k2 fun d hd h1 h2=>k4 d hd h2 h1
theorem Lat.below (h:Lat n M) {a b:Nat} (ha:a<n) (hb:b<n):M a b=decide (bndN n M a b=b):=by
 obtain⟨k1,k2,k3,k4⟩:=h.lub ha hb;cases hm:M a b with
 |true=>exact(decide_eq_true (h.lub_eq ha hb hb hm (h.refl b hb) fun _ _ _ h2=>h2)).symm
 | false=>
   refine(decide_eq_false fun e=>?_).symm;rw[e,hm]at k2;cases k2
def topF (n:Nat) (M:Nat→Nat→Bool) (k:Nat):Nat:=(List.range k).foldl (fun t i=>bndN n M t i) 0
theorem topF_succ (n:Nat) (M:Nat→Nat→Bool) (k:Nat):topF n M (k+1)=bndN n M (topF n M k) k:=by simp[topF,List.range_succ]
theorem Lat.top (h:Lat n M) (hn:0<n):∀k,k≤n→topF n M k<n∧∀i,i<k→M i (topF n M k)=true
 |0,_=>⟨by simpa[topF]using hn,fun i hi=>absurd hi (by omega)⟩
 | k+1,hk=>by
   obtain⟨i1,i2⟩:=Lat.top h hn k (by omega);obtain⟨k1,k2,k3,k4⟩:=h.lub i1 (show k<n by omega);rw[topF_succ];refine⟨k1,fun i hi=>?_⟩;by_cases e:i=k
   · subst e;exact k3
   exact h.trans _ _ _ (by omega) i1 k1 (i2 i (by omega)) k2
end
end Go.Proofs.YtfjidddhehckoaaGreat.Lt

namespace Go.Proofs.YtfjidddhehckoaaGreat
open Go Go.Hl
structure En where
 n:Nat
 M:Nat→Nat→Bool
 hv:List Int
 W:Int
def En.J (e:En) (a b:Int):Int:=Lt.jmV e.n (Lt.bndI e.n e.M) a b
def En.B (e:En) (a b:Int):Bool:=Lt.inB e.n a&&(Lt.inB e.n b&&e.M a.toNat b.toNat)
structure Tp where
 time:Int
 faults:List Int
 at_:Nat
 dry:Bool
 states:List (List Int)
 counts:List Int
mutual
def tlT (J:Int→Int→Int) (st:List Int):Tm→Int→Int
 | .mk o n ks,lv=>tlTs J st ks (if o=24 then J lv ((st[n.toNat]?).getD 0)else lv)
def tlTs (J:Int→Int→Int) (st:List Int):List Tm→Int→Int
 |[],lv=>lv
 |k::l,lv=>tlTs J st l (tlT J st k lv)
end
def mgF (J:Int→Int→Int) (a b:List Int):List Int:=List.zipWith J a b
def recT (t:Tp) (st:List Int) (pc:Int):Tp:=
 {t with at_:=t.at_+1,states:=if t.dry=true then t.states else t.states++[st],counts:=if t.dry=true then t.counts else t.counts++[pc]}
def itF (J:Int→Int→Int) (at0:Nat) (nl:List Int→Int) (g:Int→List Int→Tp→List Int×Tp):Nat→List Int→Tp→List Int×Tp
 |0,st,t=>(st,t)
 | k+1,st,t=>
   let r:=g (nl st) st {t with at_:=at0+1}
   if mgF J st r.1=st then(st,r.2)else itF J at0 nl g k (mgF J st r.1) r.2
def lpF (J:Int→Int→Int) (fu:Nat) (tm:Tm) (ev:Bool) (g:Int→List Int→Tp→List Int×Tp) (pc:Int) (st:List Int) (t:Tp):List Int×Tp:=
 let r:=itF J t.at_ (fun s=>tlT J s tm pc) g fu st {t with dry:=true}
 let n:=tlT J r.1 tm pc
 let t2:=(g n r.1 (recT {r.2 with at_:=t.at_,dry:=t.dry} r.1 pc)).2
 (r.1,if tm.op≠0∨ev=false then {t2 with time:=J t2.time n} else t2)
def evenB (l:List St):Bool:=decide ((spL l (0,0)).1=(spL l (0,0)).2)
def alikeB (a b:List St):Bool:=decide ((spL a (0,0)).1=(spL a (0,0)).2∧(spL b (0,0)).1=(spL b (0,0)).2∧(spL b (0,0)).1=(spL a (0,0)).1)
mutual
def tyS (e:En) (fu:Nat):St→Int→List Int→Tp→List Int×Tp
 | .mk d _ v n tm a b _,pc,st,t=>
   if d=4 then lpF e.J fu tm (evenB a) (tyL e fu a) pc st t
   else if d=0 then(st.set v.toNat (tlT e.J st tm pc),recT t st pc)
   else if d=5 then(st.set v.toNat (e.J pc ((e.hv[n.toNat]?).getD 0)),recT t st pc)
   else if d=1 then(st,if t.dry=false∧e.B (tlT e.J st tm pc) e.W=false then {recT t st pc with faults:=t.faults++[(t.at_:Int)]} else recT t st pc)
   else if d=3 then
    let x:=tyL e fu a (tlT e.J st tm pc) st (recT t st pc)
    let y:=tyL e fu b (tlT e.J st tm pc) st x.2
    (mgF e.J x.1 y.1,if alikeB a b=true then y.2 else {y.2 with time:=e.J y.2.time (tlT e.J st tm pc)})
   else(st,recT t st pc)
def tyL (e:En) (fu:Nat):List St→Int→List Int→Tp→List Int×Tp
 |[],_,st,t=>(st,t)
 |s::l,pc,st,t=>tyL e fu l pc (tyS e fu s pc st t).1 (tyS e fu s pc st t).2
end
def okI (n:Nat) (x:Int):Prop:=0≤x∧x<n
def okV (n:Nat) (l:List Int):Prop:=∀x∈l,okI n x
theorem J_ok {e:En} (hn:0<e.n) (hM:Lt.Lat e.n e.M) (a b:Int):okI e.n (e.J a b):=by
 unfold En.J Lt.jmV;split
 · rename_i h;simp only[Lt.inB,Bool.and_eq_true,decide_eq_true_eq]at h;have:=(hM.lub (a:=a.toNat) (b:=b.toNat) (by omega) (by omega)).1;rw[Lt.bndI_eq];exact⟨by omega,by omega⟩
 exact⟨by omega,by omega⟩
mutual
theorem tlT_ok {n:Nat} {J:Int→Int→Int} (hJ:∀a b,okI n (J a b)) (st:List Int):∀(t:Tm) (lv:Int),okI n lv→okI n (tlT J st t lv)
 | .mk o m ks,lv,h=>by
   simp only[tlT];refine tlTs_ok hJ st ks _ ?_;split
   · exact hJ _ _
   exact h
theorem tlTs_ok {n:Nat} {J:Int→Int→Int} (hJ:∀a b,okI n (J a b)) (st:List Int):∀(l:List Tm) (lv:Int),okI n lv→okI n (tlTs J st l lv)
 |[],lv,h=>by simpa only[tlTs]using h
 | k::l,lv,h=>by
   simp only[tlTs];exact tlTs_ok hJ st l _ (tlT_ok hJ st k lv h)
end
theorem mgF_len (J:Int→Int→Int) {a b:List Int} (h:b.length=a.length):(mgF J a b).length=a.length:=by simp[mgF,h]
theorem mgF_ok {n:Nat} {J:Int→Int→Int} (hJ:∀a b,okI n (J a b)) (a b:List Int):okV n (mgF J a b):=by
 intro x hx;unfold mgF at hx
 induction a generalizing b with
 |nil=>simp at hx
 | cons y a ih=>
   cases b with
   |nil=>simp at hx
   | cons z b=>
     simp only[List.zipWith_cons_cons,List.mem_cons]at hx;rcases hx with rfl|hx
     · exact hJ _ _
     exact ih b hx
theorem set_ok {n:Nat} {l:List Int} {k:Nat} {x:Int} (h:okV n l) (hx:okI n x):okV n (l.set k x):=by
 intro y hy;rcases List.mem_or_eq_of_mem_set hy with h1|h1
 · exact h y h1
 exact h1▸hx
def Gd (n k:Nat) (t:Tp) (sz:Nat) (r:List Int×Tp):Prop:=
 r.1.length=k∧okV n r.1∧r.2.at_≤t.at_+sz∧r.2.dry=t.dry∧r.2.states.length≤t.states.length+sz∧r.2.counts.length≤t.counts.length+sz∧r.2.faults.length≤t.faults.length+sz∧
  (t.dry=true→r.2.states=t.states∧r.2.counts=t.counts∧r.2.faults=t.faults)
theorem recT_gd (t:Tp) (st:List Int) (pc:Int):(recT t st pc).at_=t.at_+1∧(recT t st pc).dry=t.dry∧(recT t st pc).states.length≤t.states.length+1∧(recT t st pc).counts.length≤t.counts.length+1∧(recT t st pc).faults=t.faults∧(recT t st pc).time=t.time∧
  (t.dry=true→(recT t st pc).states=t.states∧(recT t st pc).counts=t.counts):=by
 unfold recT;refine⟨rfl,rfl,?_,?_,rfl,rfl,fun h=>?_⟩
 · cases t.dry<;>simp
 · cases t.dry<;>simp
 rw[if_pos h,if_pos h];exact⟨rfl,rfl⟩
theorem itF_gd {n:Nat} {J:Int→Int→Int} (hJ:∀a b,okI n (J a b)) {nl:List Int→Int} {g:Int→List Int→Tp→List Int×Tp} {sz:Nat} (hnl:∀st,okI n (nl st))
  (hg:∀pc st t,okI n pc→okV n st→Gd n st.length t sz (g pc st t)) (at0:Nat):∀(fu:Nat) (st:List Int) (t:Tp),okV n st→t.dry=true→
  (itF J at0 nl g fu st t).1.length=st.length∧okV n (itF J at0 nl g fu st t).1∧(itF J at0 nl g fu st t).2.dry=true∧(itF J at0 nl g fu st t).2.states=t.states∧(itF J at0 nl g fu st t).2.counts=t.counts∧(itF J at0 nl g fu st t).2.faults=t.faults
 |0,st,t,ho,hd=>⟨rfl,ho,hd,rfl,rfl,rfl⟩
 | fu+1,st,t,ho,hd=>by
   obtain⟨h1,h2,h3,h4,_,_,_,h8⟩:=hg (nl st) st {t with at_:=at0+1} (hnl st) ho;obtain⟨h5,h6,h7⟩:=h8 hd;simp only[itF];split
   · exact⟨rfl,ho,by rw[h4];exact hd,h5,h6,h7⟩
   have ih:=itF_gd hJ hnl hg at0 fu (mgF J st (g (nl st) st {t with at_:=at0+1}).1) (g (nl st) st {t with at_:=at0+1}).2 (mgF_ok hJ _ _) (by rw[h4];exact hd);rw[mgF_len J h1,h5,h6,h7]at ih;exact ih
theorem lpF_gd {n:Nat} {J:Int→Int→Int} (hJ:∀a b,okI n (J a b)) {g:Int→List Int→Tp→List Int×Tp} {sz:Nat} (hg:∀pc st t,okI n pc→okV n st→Gd n st.length t sz (g pc st t)) (fu:Nat) (tm:Tm) (ev:Bool)
  (pc:Int) (st:List Int) (t:Tp) (hp:okI n pc) (ho:okV n st):Gd n st.length t (1+sz) (lpF J fu tm ev g pc st t):=by
 obtain⟨h1,h2,h3,h4,h5,h6⟩:=itF_gd hJ (nl:=fun s=>tlT J s tm pc) (fun s=>tlT_ok hJ s tm pc hp) hg t.at_ fu st {t with dry:=true} ho rfl;simp only at h4 h5 h6;unfold lpF;obtain⟨r,hr⟩:∃r,itF J t.at_ (fun s=>tlT J s tm pc) g fu st {t with dry:=true}=r:=⟨_,rfl⟩;rw[hr]at h1 h2 h3 h4 h5 h6;simp only[hr];obtain⟨q1,q2,q3,q4,q5,_,q7⟩:=recT_gd {r.2 with at_:=t.at_,dry:=t.dry} r.1 pc;obtain⟨R,hR⟩:∃x,recT {r.2 with at_:=t.at_,dry:=t.dry} r.1 pc=x:=⟨_,rfl⟩;simp only[hR]at q1 q2 q3 q4 q5 q7⊢;obtain⟨_,_,g3,g4,g5,g6,g7,g8⟩:=hg (tlT J r.1 tm pc) r.1 R (tlT_ok hJ _ tm pc hp) h2
 have key:∀y:Tp,y.at_=(g (tlT J r.1 tm pc) r.1 R).2.at_→y.dry=(g (tlT J r.1 tm pc) r.1 R).2.dry→y.states=(g (tlT J r.1 tm pc) r.1 R).2.states→y.counts=(g (tlT J r.1 tm pc) r.1 R).2.counts→y.faults=(g (tlT J r.1 tm pc) r.1 R).2.faults→
   Gd n st.length t (1+sz) (r.1,y):=by
  intro y y1 y2 y3 y4 y5;refine⟨h1,h2,?_,?_,?_,?_,?_,fun hd=>?_⟩
  · simp only[y1];omega
  · simp only[y2,g4,q2]
  · simp only[y3];rw[h4]at q3;omega
  · simp only[y4];rw[h5]at q4;omega
  · simp only[y5];rw[q5,h6]at g7;omega
  have hRd:R.dry=true:=by rw[q2];exact hd
  obtain⟨a1,a2,a3⟩:=g8 hRd;obtain⟨b1,b2⟩:=q7 hd;simp only[y3,y4,y5];exact⟨by rw[a1,b1,h4],by rw[a2,b2,h5],by rw[a3,q5,h6]⟩
 split
 · exact key _ rfl rfl rfl rfl rfl
 exact key _ rfl rfl rfl rfl rfl
mutual
theorem tyS_gd {e:En} (hJ:∀a b,okI e.n (e.J a b)) (fu:Nat):∀(s:St) (pc:Int) (st:List Int) (t:Tp),okI e.n pc→okV e.n st→Gd e.n st.length t (szS s) (tyS e fu s pc st t)
 | .mk d c v n tm a b bs,pc,st,t,hp,ho=>by
   have hl:=tlT_ok hJ st tm pc hp;obtain⟨q1,q2,q3,q4,q5,_,q7⟩:=recT_gd t st pc;simp only[tyS,szS];split
   · have h:=lpF_gd hJ (g:=tyL e fu a) (sz:=szL a) (fun pc st t h1 h2=>tyL_gd hJ fu a pc st t h1 h2) fu tm (evenB a) pc st t hp ho;obtain⟨a1,a2,a3,a4,a5,a6,a7,a8⟩:=h;exact⟨a1,a2,by omega,a4,by omega,by omega,by omega,a8⟩
   split
   · exact⟨by simp,set_ok ho hl,by simp only[q1];omega,q2,by simp only;omega,by simp only;omega,by simp only[q5];omega,fun hd=>⟨(q7 hd).1,(q7 hd).2,q5⟩⟩
   split
   · exact⟨by simp,set_ok ho (hJ _ _),by simp only[q1];omega,q2,by simp only;omega,by simp only;omega,by simp only[q5];omega,fun hd=>⟨(q7 hd).1,(q7 hd).2,q5⟩⟩
   split
   · split
     · rename_i hf;refine⟨rfl,ho,by simp only[q1];omega,q2,by simp only;omega,by simp only;omega,by simp only[List.length_append,List.length_singleton];omega,fun hd=>?_⟩;rw[hd]at hf;exact absurd hf.1 (by decide)
     exact⟨rfl,ho,by simp only[q1];omega,q2,by simp only;omega,by simp only;omega,by simp only[q5];omega,fun hd=>⟨(q7 hd).1,(q7 hd).2,q5⟩⟩
   split
   · have hx:=tyL_gd hJ fu a (tlT e.J st tm pc) st (recT t st pc) hl ho;obtain⟨⟨X,t1⟩,hX⟩:∃x,tyL e fu a (tlT e.J st tm pc) st (recT t st pc)=x:=⟨_,rfl⟩;simp only[hX]at hx⊢;obtain⟨a1,a2,a3,a4,a5,a6,a7,a8⟩:=hx;have hy:=tyL_gd hJ fu b (tlT e.J st tm pc) st t1 hl ho;obtain⟨⟨Y,t2⟩,hY⟩:∃x,tyL e fu b (tlT e.J st tm pc) st t1=x:=⟨_,rfl⟩;simp only[hY]at hy⊢;obtain⟨b1,b2,b3,b4,b5,b6,b7,b8⟩:=hy;simp only at a1 a2 a3 a4 a5 a6 a7 a8 b1 b2 b3 b4 b5 b6 b7 b8;rw[q5]at a7;have hm:(mgF e.J X Y).length=st.length:=by rw[mgF_len _ (by rw[b1,a1]),a1]
     have hd8:t.dry=true→t2.states=t.states∧t2.counts=t.counts∧t2.faults=t.faults:=by
      intro hd;obtain⟨c1,c2,c3⟩:=a8 (by rw[q2];exact hd);obtain⟨d1,d2,d3⟩:=b8 (by rw[a4,q2];exact hd);obtain⟨e1,e2⟩:=q7 hd;exact⟨by rw[d1,c1,e1],by rw[d2,c2,e2],by rw[d3,c3,q5]⟩
     split
     · exact⟨hm,mgF_ok hJ _ _,by simp only;omega,by simp only;rw[b4,a4,q2],by simp only;omega,by simp only;omega,by simp only;omega,hd8⟩
     exact⟨hm,mgF_ok hJ _ _,by simp only;omega,by simp only;rw[b4,a4,q2],by simp only;omega,by simp only;omega,by simp only;omega,hd8⟩
   exact⟨rfl,ho,by simp only[q1];omega,q2,by simp only;omega,by simp only;omega,by simp only[q5];omega,fun hd=>⟨(q7 hd).1,(q7 hd).2,q5⟩⟩
theorem tyL_gd {e:En} (hJ:∀a b,okI e.n (e.J a b)) (fu:Nat):∀(l:List St) (pc:Int) (st:List Int) (t:Tp),okI e.n pc→okV e.n st→Gd e.n st.length t (szL l) (tyL e fu l pc st t)
 | [],pc,st,t,hp,ho=>by
   simp only[tyL,szL];exact⟨rfl,ho,Nat.le_refl _,rfl,Nat.le_refl _,Nat.le_refl _,Nat.le_refl _,fun _=>⟨rfl,rfl,rfl⟩⟩
 | s::l,pc,st,t,hp,ho=>by
   obtain⟨a1,a2,a3,a4,a5,a6,a7,a8⟩:=tyS_gd hJ fu s pc st t hp ho;simp only[tyL,szL];obtain⟨⟨X,t1⟩,hX⟩:∃x,tyS e fu s pc st t=x:=⟨_,rfl⟩;rw[hX]at a1 a2 a3 a4 a5 a6 a7 a8;simp only[hX]at a1 a2 a3 a4 a5 a6 a7 a8⊢;obtain⟨b1,b2,b3,b4,b5,b6,b7,b8⟩:=tyL_gd hJ fu l pc X t1 hp a2;refine⟨by rw[b1,a1],b2,by omega,by rw[b4,a4],by omega,by omega,by omega,fun hd=>?_⟩;obtain⟨c1,c2,c3⟩:=b8 (by rw[a4];exact hd);obtain⟨d1,d2,d3⟩:=a8 hd;exact⟨by rw[c1,d1],by rw[c2,d2],by rw[c3,d3]⟩
end
end Go.Proofs.YtfjidddhehckoaaGreat

namespace Go.Proofs.YtfjidddhehckoaaGreat
open Go Go.Hl
section
variable {c A lo hi:Int} {t:Tm} {body:Sta→Sta}
end
end Go.Proofs.YtfjidddhehckoaaGreat
