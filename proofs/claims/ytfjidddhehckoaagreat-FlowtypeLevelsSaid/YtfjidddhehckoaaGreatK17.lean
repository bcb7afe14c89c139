/- Part 17: contracts of functions of the program and of the reference, and plain facts about what they compute; used by the proof of the claimed statement. Conditions: as each theorem states. -/
import Derived.Test.YtfjidddhehckoaaGreatK11
import Derived.Test.YtfjidddhehckoaaGreatK7
import Derived.Test.YtfjidddhehckoaaGreatK8
import Derived.Test.YtfjidddhehckoaaGreatK16
import Derived.Test.YtfjidddhehckoaaGreatK12
import Derived.Laws.CopyOwn
import Derived.Laws.OwnMore
import Derived.Deep.LoopGhost
import Derived.Deep.DeepCutAuto
import Derived.Deep.DeepFit
import Derived.Deep.RegionLaw
import Derived.Shelf.Bits.Mul64
set_option linter.unusedSimpArgs false
set_option linter.unusedVariables false
set_option linter.unnecessarySimpa false
set_option maxRecDepth 100000
set_option maxHeartbeats 2000000
namespace Go.Proofs.YtfjidddhehckoaaGreat
open Go Go.Hl
abbrev Ent:=St×List Int×Int
def fxF (J:Int→Int→Int) (nl:List Int→Int) (g:Int→List Int→List Int):Nat→List Int→List Int
 |0,st=>st
 |k+1,st=>if mgF J st (g (nl st) st)=st then st else fxF J nl g k (mgF J st (g (nl st) st))
def fxT (J:Int→Int→Int) (nl:List Int→Int) (g:Int→List Int→List Int) (m:Int→List Int→List Int):Nat→List Int→List Int
 |0,_=>[]
 |k+1,st=>m (nl st) st++(if mgF J st (g (nl st) st)=st then [] else fxT J nl g m k (mgF J st (g (nl st) st)))
mutual
def ouS (e:En) (fu:Nat):St→Int→List Int→List Int
 | .mk d _ v n tm a b _,pc,st=>
   if d=4 then fxF e.J (fun s=>tlT e.J s tm pc) (ouL e fu a) fu st
   else if d=0 then st.set v.toNat (tlT e.J st tm pc)
   else if d=5 then st.set v.toNat (e.J pc ((e.hv[n.toNat]?).getD 0))
   else if d=3 then mgF e.J (ouL e fu a (tlT e.J st tm pc) st) (ouL e fu b (tlT e.J st tm pc) st)
   else st
def ouL (e:En) (fu:Nat):List St→Int→List Int→List Int
 |[],_,st=>st
 |s::l,pc,st=>ouL e fu l pc (ouS e fu s pc st)
end
mutual
def tmS (e:En) (fu:Nat):St→Int→List Int→List Int
 | .mk d _ _ _ tm a b _,pc,st=>
   if d=4 then
    let X:=fxF e.J (fun s=>tlT e.J s tm pc) (ouL e fu a) fu st
    let n:=tlT e.J X tm pc
    fxT e.J (fun s=>tlT e.J s tm pc) (ouL e fu a) (tmL e fu a) fu st++(tmL e fu a n X++(if tm.op≠0∨evenB a=false then [n] else []))
   else if d=3 then
    let n:=tlT e.J st tm pc
    tmL e fu a n st++(tmL e fu b n st++(if alikeB a b=true then [] else [n]))
   else []
def tmL (e:En) (fu:Nat):List St→Int→List Int→List Int
 |[],_,_=>[]
 |s::l,pc,st=>tmS e fu s pc st++tmL e fu l pc (ouS e fu s pc st)
end
mutual
def lgS (e:En) (fu:Nat):St→Int→List Int→List Ent
 | .mk d c v n tm a b bs,pc,st=>
   if d=4 then
    let X:=fxF e.J (fun s=>tlT e.J s tm pc) (ouL e fu a) fu st
    (.mk d c v n tm a b bs,X,pc)::lgL e fu a (tlT e.J X tm pc) X
   else if d=3 then(.mk d c v n tm a b bs,st,pc)::(lgL e fu a (tlT e.J st tm pc) st++lgL e fu b (tlT e.J st tm pc) st)
   else [(.mk d c v n tm a b bs,st,pc)]
def lgL (e:En) (fu:Nat):List St→Int→List Int→List Ent
 |[],_,_=>[]
 |s::l,pc,st=>lgS e fu s pc st++lgL e fu l pc (ouS e fu s pc st)
end
def fltB (e:En) (x:Ent):Bool:=decide (x.1.do_=1)&& !e.B (tlT e.J x.2.1 x.1.term x.2.2) e.W
def fltF (e:En):Nat→List Ent→List Int
 |_,[]=>[]
 |k,x::l=>(if fltB e x=true then [(k:Int)] else [])++fltF e (k+1) l
theorem fltF_app (e:En):∀(l m:List Ent) (k:Nat),fltF e k (l++m)=fltF e k l++fltF e (k+l.length) m
 |[],m,k=>by simp[fltF]
 | x::l,m,k=>by
   simp only[List.cons_append,fltF,fltF_app e l m (k+1),List.length_cons,List.append_assoc];rw[show k+1+l.length=k+(l.length+1) by omega]
structure Lg (e:En) (t:Tp) (st:List Int) (ms:List Int) (E:List Ent) (r:List Int×Tp):Prop where
 out:r.1=st
 time:r.2.time=ms.foldl e.J t.time
 dry:r.2.dry=t.dry
 at_:r.2.at_=t.at_+E.length
 states:r.2.states=if t.dry=true then t.states else t.states++E.map (·.2.1)
 counts:r.2.counts=if t.dry=true then t.counts else t.counts++E.map (·.2.2)
 faults:r.2.faults=if t.dry=true then t.faults else t.faults++fltF e t.at_ E
theorem Lg.nil (e:En) (t:Tp) (st:List Int):Lg e t st [] [] (st,t):=by
 refine⟨rfl,rfl,rfl,rfl,?_,?_,?_⟩<;>simp[fltF]
theorem Lg.seq {e:En} {t:Tp} {st1 m1:List Int} {E1:List Ent} {r1:List Int×Tp} {st2 m2:List Int} {E2:List Ent} {r2:List Int×Tp} (h:Lg e t st1 m1 E1 r1) (k:Lg e r1.2 st2 m2 E2 r2):Lg e t st2 (m1++m2) (E1++E2) r2:=by
 obtain⟨h1,h2,h3,h4,h5,h6,h7⟩:=h;obtain⟨k1,k2,k3,k4,k5,k6,k7⟩:=k;refine⟨k1,by rw[k2,h2,List.foldl_append],by rw[k3,h3],by rw[k4,h4,List.length_append];omega,?_,?_,?_⟩
 · rw[k5,h3,h5];split<;>simp
 · rw[k6,h3,h6];split<;>simp
 rw[k7,h3,h7,h4,fltF_app];split<;>simp
theorem Lg.reco (e:En) (t:Tp) (st:List Int) (pc:Int) (s:St) (st':List Int) (h:fltB e (s,st,pc)=false∨t.dry=true):Lg e t st' [] [(s,st,pc)] (st',recT t st pc):=by
 refine⟨rfl,rfl,rfl,rfl,?_,?_,?_⟩
 · simp[recT]
 · simp[recT]
 rcases h with h|h
 · simp[recT,fltF,h]
 simp[recT,h]
theorem Lg.tim {e:En} {t:Tp} {st ms:List Int} {E:List Ent} {x:List Int} {T:Tp} (h:Lg e t st ms E (x,T)) (n:Int):Lg e t st (ms++[n]) E (x,{T with time:=e.J T.time n}):=by
 obtain⟨h1,h2,h3,h4,h5,h6,h7⟩:=h;exact⟨h1,by simp only[List.foldl_append,List.foldl_cons,List.foldl_nil];rw[←h2],h3,h4,h5,h6,h7⟩
theorem itF_lg {e:En} {at0:Nat} {nl:List Int→Int} {g:Int→List Int→Tp→List Int×Tp} {go:Int→List Int→List Int} {gm:Int→List Int→List Int} {gE:Int→List Int→List Ent}
  (hg:∀pc st t,Lg e t (go pc st) (gm pc st) (gE pc st) (g pc st t)):∀(fu:Nat) (st:List Int) (t:Tp),t.dry=true→
  (itF e.J at0 nl g fu st t).1=fxF e.J nl go fu st∧(itF e.J at0 nl g fu st t).2.time=(fxT e.J nl go gm fu st).foldl e.J t.time∧(itF e.J at0 nl g fu st t).2.states=t.states∧(itF e.J at0 nl g fu st t).2.counts=t.counts∧(itF e.J at0 nl g fu st t).2.faults=t.faults
 |0,st,t,hd=>⟨rfl,rfl,rfl,rfl,rfl⟩
 | fu+1,st,t,hd=>by
   obtain⟨h1,h2,h3,h4,h5,h6,h7⟩:=hg (nl st) st {t with at_:=at0+1};simp only at h2 h3;rw[if_pos hd]at h5 h6 h7;simp only at h5 h6 h7;simp only[itF,fxF,fxT,h1];by_cases hm:mgF e.J st (go (nl st) st)=st
   · rw[if_pos hm,if_pos hm,if_pos hm];exact⟨rfl,by simp only[List.append_nil,h2],h5,h6,h7⟩
   rw[if_neg hm,if_neg hm,if_neg hm];obtain⟨i1,i2,i3,i4,i5⟩:=itF_lg (at0:=at0) (nl:=nl) hg fu (mgF e.J st (go (nl st) st)) (g (nl st) st {t with at_:=at0+1}).2 (by rw[h3];exact hd);exact⟨i1,by rw[i2,h2,List.foldl_append],by rw[i3,h5],by rw[i4,h6],by rw[i5,h7]⟩
mutual
theorem tyS_lg (e:En) (fu:Nat):∀(s:St) (pc:Int) (st:List Int) (t:Tp),Lg e t (ouS e fu s pc st) (tmS e fu s pc st) (lgS e fu s pc st) (tyS e fu s pc st t)
 | .mk d c v n tm a b bs,pc,st,t=>by
   have hfl:∀(x:List Int),d≠1→fltB e (.mk d c v n tm a b bs,x,pc)=false:=fun x h=>by simp[fltB,St.do_,h]
   by_cases h4:d=4
   · simp only[tyS,ouS,tmS,lgS,if_pos h4];unfold lpF;obtain⟨i1,i2,i3,i4,i5⟩:=itF_lg (e:=e) (at0:=t.at_) (nl:=fun s=>tlT e.J s tm pc) (fun pc st t=>tyL_lg e fu a pc st t) fu st {t with dry:=true} rfl;obtain⟨⟨X,r⟩,hr⟩:∃r,itF e.J t.at_ (fun s=>tlT e.J s tm pc) (tyL e fu a) fu st {t with dry:=true}=r:=⟨_,rfl⟩;simp only[hr]at i1 i2 i3 i4 i5⊢;rw[←i1];have hx:=Lg.reco e {r with at_:=t.at_,dry:=t.dry} X pc (.mk d c v n tm a b bs) X (.inl (hfl X (by rw[h4];decide)));have hy:=tyL_lg e fu a (tlT e.J X tm pc) X (recT {r with at_:=t.at_,dry:=t.dry} X pc);have hz:=hx.seq hy;obtain⟨⟨Y,T⟩,hT⟩:∃y,tyL e fu a (tlT e.J X tm pc) X (recT {r with at_:=t.at_,dry:=t.dry} X pc)=y:=⟨_,rfl⟩;rw[hT]at hz;simp only[hT]
     have key:Lg e t X (fxT e.J (fun s=>tlT e.J s tm pc) (ouL e fu a) (tmL e fu a) fu st++tmL e fu a (tlT e.J X tm pc) X) ((.mk d c v n tm a b bs,X,pc)::lgL e fu a (tlT e.J X tm pc) X) (X,T):=by
      obtain⟨z1,z2,z3,z4,z5,z6,z7⟩:=hz;refine⟨rfl,?_,z3,z4,?_,?_,?_⟩
      · rw[z2,List.nil_append,List.foldl_append];simp only[i2]
      · rw[z5];simp only[i3];rfl
      · rw[z6];simp only[i4];rfl
      rw[z7];simp only[i5];rfl
     by_cases hu:tm.op≠0∨evenB a=false
     · rw[if_pos hu,if_pos hu];have:=key.tim (tlT e.J X tm pc)
       rwa [List.append_assoc]at this
     rw[if_neg hu,if_neg hu]
     rwa [List.append_nil]
   by_cases h0:d=0
   · have h3:¬d=3:=by omega
     simp only[tyS,ouS,tmS,lgS,if_neg h4,if_pos h0,if_neg h3];exact Lg.reco e t st pc (.mk d c v n tm a b bs) _ (.inl (hfl _ (by omega)))
   by_cases h5:d=5
   · have h3:¬d=3:=by omega
     simp only[tyS,ouS,tmS,lgS,if_neg h4,if_neg h0,if_pos h5,if_neg h3];exact Lg.reco e t st pc (.mk d c v n tm a b bs) _ (.inl (hfl _ (by omega)))
   by_cases h1:d=1
   · have h3:¬d=3:=by omega
     simp only[tyS,ouS,tmS,lgS,if_neg h4,if_neg h0,if_neg h5,if_pos h1,if_neg h3];by_cases hf:t.dry=false∧e.B (tlT e.J st tm pc) e.W=false
     · rw[if_pos hf];have hb:fltB e (.mk d c v n tm a b bs,st,pc)=true:=by simp[fltB,St.do_,St.term,h1,hf.2]
       refine⟨rfl,rfl,rfl,rfl,?_,?_,?_⟩
       · simp[recT]
       · simp[recT]
       simp[fltF,hb,hf.1]
     rw[if_neg hf];refine Lg.reco e t st pc (.mk d c v n tm a b bs) _ ?_;cases hd:t.dry
     · refine .inl ?_
       have:e.B (tlT e.J st tm pc) e.W=true:=by
        cases hx:e.B (tlT e.J st tm pc) e.W
        · exact absurd ⟨hd,hx⟩ hf
        rfl
       simp[fltB,St.do_,St.term,this]
     exact .inr rfl
   by_cases h3:d=3
   · simp only[tyS,ouS,tmS,lgS,if_neg h4,if_neg h0,if_neg h5,if_neg h1,if_pos h3];have hx:=Lg.reco e t st pc (.mk d c v n tm a b bs) st (.inl (hfl st h1));have hy:=tyL_lg e fu a (tlT e.J st tm pc) st (recT t st pc);have hz:=tyL_lg e fu b (tlT e.J st tm pc) st (tyL e fu a (tlT e.J st tm pc) st (recT t st pc)).2;have hall:=(hx.seq hy).seq hz;have ha:=hy.out;have hb:=hz.out;obtain⟨⟨X,t1⟩,hX⟩:∃x,tyL e fu a (tlT e.J st tm pc) st (recT t st pc)=x:=⟨_,rfl⟩;simp only[hX]at ha hb hall⊢;obtain⟨⟨Y,t2⟩,hY⟩:∃x,tyL e fu b (tlT e.J st tm pc) st t1=x:=⟨_,rfl⟩;simp only[hY]at hb hall⊢;rw[ha,hb];simp only[List.nil_append,List.singleton_append,List.cons_append]at hall
     have key:Lg e t (mgF e.J (ouL e fu a (tlT e.J st tm pc) st) (ouL e fu b (tlT e.J st tm pc) st)) (tmL e fu a (tlT e.J st tm pc) st++tmL e fu b (tlT e.J st tm pc) st) ((.mk d c v n tm a b bs,st,pc)::(lgL e fu a (tlT e.J st tm pc) st++lgL e fu b (tlT e.J st tm pc) st)) (mgF e.J (ouL e fu a (tlT e.J st tm pc) st) (ouL e fu b (tlT e.J st tm pc) st),t2):=
      ⟨rfl,hall.time,hall.dry,hall.at_,hall.states,hall.counts,hall.faults⟩
     by_cases hu:alikeB a b=true
     · rw[if_pos hu,if_pos hu]
       rwa [List.append_nil]
     rw[if_neg hu,if_neg hu];have:=key.tim (tlT e.J st tm pc)
     rwa [List.append_assoc]at this
   simp only[tyS,ouS,tmS,lgS,if_neg h4,if_neg h0,if_neg h5,if_neg h1,if_neg h3];exact Lg.reco e t st pc (.mk d c v n tm a b bs) _ (.inl (hfl _ h1))
theorem tyL_lg (e:En) (fu:Nat):∀(l:List St) (pc:Int) (st:List Int) (t:Tp),Lg e t (ouL e fu l pc st) (tmL e fu l pc st) (lgL e fu l pc st) (tyL e fu l pc st t)
 | [],pc,st,t=>by
   simp only[tyL,ouL,tmL,lgL];exact Lg.nil e t st
 | s::l,pc,st,t=>by
   have h:=tyS_lg e fu s pc st t;have k:=tyL_lg e fu l pc (tyS e fu s pc st t).1 (tyS e fu s pc st t).2;simp only[tyL,ouL,tmL,lgL];rw[h.out]at k⊢;exact h.seq k
end
mutual
def preS:St→List St
 | .mk d c v n t a b bs=>.mk d c v n t a b bs::(preL a++preL b)
def preL:List St→List St
 |[]=>[]
 |s::l=>preS s++preL l
end
mutual
theorem preS_len:∀s:St,(preS s).length=szS s
 | .mk d c v n t a b bs=>by simp only[preS,szS,List.length_cons,List.length_append,preL_len a,preL_len b];omega
theorem preL_len:∀l:List St,(preL l).length=szL l
 |[]=>rfl
 |s::l=>by simp only[preL,szL,List.length_append,preS_len s,preL_len l]
end
end Go.Proofs.YtfjidddhehckoaaGreat

namespace Go.Proofs.YtfjidddhehckoaaGreat
open Go Go.Hl
section
variable {e:En}
def En.L (e:En) (a b:Int):Prop:=e.M a.toNat b.toNat=true
theorem L_refl (hM:Lt.Lat e.n e.M) {a:Int} (ha:okI e.n a):e.L a a:=hM.refl _ (by obtain⟨_,_⟩:=ha;omega)
theorem L_trans (hM:Lt.Lat e.n e.M) {a b c:Int} (ha:okI e.n a) (hb:okI e.n b) (hc:okI e.n c) (h:e.L a b) (k:e.L b c):e.L a c:=by
 obtain⟨_,_⟩:=ha;obtain⟨_,_⟩:=hb;obtain⟨_,_⟩:=hc;exact hM.trans _ b.toNat _ (by omega) (by omega) (by omega) h k
theorem L_anti (hM:Lt.Lat e.n e.M) {a b:Int} (ha:okI e.n a) (hb:okI e.n b) (h:e.L a b) (k:e.L b a):a=b:=by
 obtain⟨_,_⟩:=ha;obtain⟨_,_⟩:=hb;have:=hM.anti _ _ (by omega) (by omega) h k;omega
theorem B_iff {a b:Int} (ha:okI e.n a) (hb:okI e.n b):e.B a b=true↔e.L a b:=by
 obtain⟨_,_⟩:=ha;obtain⟨_,_⟩:=hb;unfold En.B En.L;simp[Lt.inB, *]
theorem J_l (hM:Lt.Lat e.n e.M) {a b:Int} (ha:okI e.n a) (hb:okI e.n b):e.L a (e.J a b):=(J_up hM ha hb).2.1
theorem J_r (hM:Lt.Lat e.n e.M) {a b:Int} (ha:okI e.n a) (hb:okI e.n b):e.L b (e.J a b):=(J_up hM ha hb).2.2.1
theorem J_lub (hM:Lt.Lat e.n e.M) {a b w:Int} (ha:okI e.n a) (hb:okI e.n b) (hw:okI e.n w) (h:e.L a w) (k:e.L b w):e.L (e.J a b) w:=by
 obtain⟨_,_⟩:=hw;exact(J_up hM ha hb).2.2.2 w.toNat (by omega) h k
theorem J_iff (hn:0<e.n) (hM:Lt.Lat e.n e.M) {a b w:Int} (ha:okI e.n a) (hb:okI e.n b) (hw:okI e.n w):e.L (e.J a b) w↔e.L a w∧e.L b w:=
 ⟨fun h=>⟨L_trans hM ha (J_ok hn hM a b) hw (J_l hM ha hb) h,L_trans hM hb (J_ok hn hM a b) hw (J_r hM ha hb) h⟩,fun h=>J_lub hM ha hb hw h.1 h.2⟩
theorem J_mono (hn:0<e.n) (hM:Lt.Lat e.n e.M) {a b c d:Int} (ha:okI e.n a) (hb:okI e.n b) (hc:okI e.n c) (hd:okI e.n d) (h:e.L a c) (k:e.L b d):e.L (e.J a b) (e.J c d):=
 J_lub hM ha hb (J_ok hn hM c d) (L_trans hM ha hc (J_ok hn hM c d) h (J_l hM hc hd)) (L_trans hM hb hd (J_ok hn hM c d) k (J_r hM hc hd))
theorem fold_ok (hn:0<e.n) (hM:Lt.Lat e.n e.M):∀(l:List Int) (a:Int),okI e.n a→okV e.n l→okI e.n (l.foldl e.J a)
 |[],a,ha,_=>ha
 |x::l,a,ha,hl=>fold_ok hn hM l _ (J_ok hn hM a x) fun y hy=>hl y (List.mem_cons_of_mem _ hy)
theorem fold_iff (hn:0<e.n) (hM:Lt.Lat e.n e.M) {w:Int} (hw:okI e.n w):∀(l:List Int) (a:Int),okI e.n a→okV e.n l→(e.L (l.foldl e.J a) w↔e.L a w∧∀x∈l,e.L x w)
 |[],a,ha,_=>by simp
 | x::l,a,ha,hl=>by
   rw[List.foldl_cons,fold_iff hn hM hw l _ (J_ok hn hM a x) fun y hy=>hl y (List.mem_cons_of_mem _ hy),J_iff hn hM ha (hl x (List.mem_cons_self ..)) hw];simp only[List.mem_cons,forall_eq_or_imp,and_assoc]
mutual
def menB:Tm→Nat→Bool
 | .mk o n ks,v=>(decide (o=24)&&decide (n.toNat=v))||menBs ks v
def menBs:List Tm→Nat→Bool
 |[],_=>false
 |t::l,v=>menB t v||menBs l v
end
theorem ref_in {vars:List Vr} {inp:Bool} {n:Int} (h:refB vars inp n=true):0≤n∧n.toNat<vars.length:=by
 simp only[refB,Bool.and_eq_true,decide_eq_true_eq]at h;obtain⟨h1,h2⟩:=h;cases hv:vars[n.toNat]? with
 |none=>rw[hv]at h2;cases h2
 |some v=>exact⟨h1,(List.getElem?_eq_some_iff.1 hv).1⟩
mutual
def frS:St→Prop
 | .mk d _ _ _ _ a b _=>(d≠3→b=[])∧(d≠3→d≠4→a=[])∧frL a∧frL b
def frL:List St→Prop
 |[]=>True
 |s::l=>frS s∧frL l
end
theorem shB_free2 {vars:List Vr} {nh:Nat} {d v n:Int} {t:Tm} {la lb_:Nat} {bs:List Int} {last:Bool} (h:shB vars nh d v n t la lb_ bs last=true):(d≠3→lb_=0)∧(d≠3→d≠4→la=0):=by
 unfold shB at h;split at h
 · simp only[Bool.and_eq_true,decide_eq_true_eq]at h;exact⟨fun _=>h.1.1.1.2,fun _ _=>h.1.1.1.1⟩
 split at h
 · simp only[Bool.and_eq_true,decide_eq_true_eq]at h;exact⟨fun _=>h.1.1.1.2,fun _ _=>h.1.1.1.1⟩
 split at h
 · simp only[Bool.and_eq_true,decide_eq_true_eq]at h;exact⟨fun _=>h.1.1.1.1.2,fun _ _=>h.1.1.1.1.1⟩
 split at h
 · exact⟨fun h3=>absurd (by assumption) h3,fun h3=>absurd (by assumption) h3⟩
 split at h
 · simp only[Bool.and_eq_true,decide_eq_true_eq]at h;exact⟨fun _=>h.1.2,fun _ h4=>absurd (by assumption) h4⟩
 split at h
 · simp only[Bool.and_eq_true,decide_eq_true_eq]at h;exact⟨fun _=>h.1.1.1.1.1.2,fun _ _=>h.1.1.1.1.1.1⟩
 split at h
 · simp only[Bool.and_eq_true,decide_eq_true_eq]at h;exact⟨fun _=>h.1.1.1.1.1.2,fun _ _=>h.1.1.1.1.1.1⟩
 cases h
theorem ssC_fr {vars:List Vr} {nh:Nat}:∀(l:List St) (top:Bool),ssC vars nh l top=0→frL l
 |[],_,_=>by simp[frL]
 | .mk d c v n t a b bs::l,top,h=>by
   obtain⟨hs,_,_,ha,hb,hl⟩:=ssC_split h;obtain⟨f1,f2⟩:=shB_free2 hs;simp only[frL,frS];exact⟨⟨fun h=>List.length_eq_zero_iff.1 (f1 h),fun h k=>List.length_eq_zero_iff.1 (f2 h k),ssC_fr a _ ha,ssC_fr b _ hb⟩,ssC_fr l _ hl⟩
mutual
theorem lgS_pre (fu:Nat):∀(s:St) (pc:Int) (st:List Int),frS s→(lgS e fu s pc st).map (·.1)=preS s
 | .mk d c v n tm a b bs,pc,st,h=>by
   simp only[frS]at h;simp only[lgS,preS];split
   · rename_i h4;rw[h.1 (by omega)];simp only[List.map_cons,lgL_pre fu a _ _ h.2.2.1,preL,List.append_nil]
   split
   · simp only[List.map_cons,List.map_append,lgL_pre fu a _ _ h.2.2.1,lgL_pre fu b _ _ h.2.2.2]
   rename_i h4 h3;rw[h.1 h3,h.2.1 h3 h4];simp[preL]
theorem lgL_pre (fu:Nat):∀(l:List St) (pc:Int) (st:List Int),frL l→(lgL e fu l pc st).map (·.1)=preL l
 |[],pc,st,h=>rfl
 | s::l,pc,st,h=>by
   simp only[frL]at h;simp only[lgL,preL,List.map_append,lgS_pre fu s pc st h.1,lgL_pre fu l pc _ h.2]
end
theorem lgL_len {fu:Nat} {l:List St} {pc:Int} {st:List Int} (h:frL l):(lgL e fu l pc st).length=szL l:=by
 have:=congrArg List.length (lgL_pre (e:=e) fu l pc st h);simpa[preL_len]using this
end
end Go.Proofs.YtfjidddhehckoaaGreat

namespace Go.Proofs.YtfjidddhehckoaaGreat
open Go Go.Hl
theorem sizeR_con (l:List St):nodesS l≤1000000000→∀d:Nat,Con Tryz.prog 26 true [lS l] (.v (li (szL l))) none d:=by
 revert l
 apply St.lists;intro l ih hn d;have hlen:=len_nodesS l;have hsl:=szL_le l;obtain⟨res,hres⟩:∃r,szL l=r:=⟨_,rfl⟩;rw[hres]at hsl⊢;refine con_of_HTA Tryz.func26 ?_;simp only[Tryz.f26];refine HT_sA ?_;refine HT_sA ?_;refine HT_seq<|HT_seq<|HT_runA ?_;refine HT_block<|(HT_loopU [0] (fun(x:Nat×Nat)=>[(3,.v (li ((x.2:Nat):Int))),(4,.v (li x.1))]) (fun x=>[]) (fun x=>x.1≤l.length∧x.2+szL (l.drop x.1)=res) (fun x=>l.length - x.1) (0,0) ⟨Nat.zero_le _,by simp[hres]⟩ ?_ ?_)
 · exact le_mkA (fun n=>n) []
 rintro⟨k,m⟩ ⟨hk,hJ⟩;simp only[upS,keepS,insS]
 try simp only[keepS,KN,Nat.reduceBEq,if_true,if_false,ins,Nat.reduceLT]
 simp only at hk hJ;refine HT_seq<|HT_seq<|HT_runA ?_;refine(HT_cond rfl (fun h5=>HT_skip ?_) (fun h5=>?_))
 · (try simp only[BN]at h5);have hlt:k<l.length:=by omega
   obtain⟨s,he,hd⟩:=at_lt hlt;have hmem:s∈l:=List.mem_of_getElem? he;have hnm:=nodesS_mem hmem;have iha:=fun h=>(ih s hmem).1 h;have ihb:=fun h=>(ih s hmem).2 h;have hw1:=wrap1 hlt (by omega);have hk1:k+1≤l.length:=hlt;rw[hd]at hJ;obtain⟨sd,sc,sv,sn,⟨so,stn,sks⟩,sa,sb,sbs⟩:=s;simp only[St.then_,St.else_,St.term]at iha ihb hnm;simp only[szL,szS]at hJ;have ca:=iha (by omega);have cb:=ihb (by omega);have he':=get_encS he;simp only[St.enc,Tm.enc,List.cons_append,List.nil_append]at he';generalize szL sa=na at*;generalize szL sb=nb at*;have hw2:IntKind.i64.wrap ((m:Int)+1)=(m:Int)+1:=wrap_in (by omega) (by omega);have hw3:IntKind.i64.wrap ((m:Int)+1+(na:Int))=(m:Int)+1+(na:Int):=wrap_in (by omega) (by omega);have hw4:IntKind.i64.wrap ((m:Int)+1+(na:Int)+(nb:Int))=(m:Int)+1+(na:Int)+(nb:Int):=wrap_in (by omega) (by omega);clear hlt h5 ih hmem iha ihb;refine HT_seq<|HT_block<|(HT_drunc [⟨true,.v (li (na:Int)),none⟩,⟨true,.v (li (nb:Int)),none⟩] (by kernel_rfl) (by kernel_rfl) (by rfl) (by simp[*];first|exact⟨rfl,Iff.rfl⟩|exact⟨rfl,trivial⟩|rfl) ?_ ?_)
   · first|exact⟨ca _,cb _⟩|exact trivial|(repeat' first|exact trivial|exact ca _|exact cb _|apply And.intro)
   refine HT_runA ?_;exact⟨(k+1,m+1+na+nb),⟨hk1,by simp only;omega⟩,by simp only;omega,le_mkA (fun n=>n) []⟩
 (try simp only[BN]at h5);have hkl:k=l.length:=by omega
 rw[hkl,List.drop_length]at hJ;simp only[szL]at hJ;have hm:m=res:=by omega
 refine(HT_exit ?_);refine HT_sA ?_;exact HT_rA
end Go.Proofs.YtfjidddhehckoaaGreat

namespace Go.Proofs.YtfjidddhehckoaaGreat
open Go Go.Hl
def fdL (l:List St) (i:Int):Option St:=if i<0 then none else(preL l)[i.toNat]?
theorem fd_neg (l:List St) (i:Int) (h:i<0):fdL l i=none:=by unfold fdL;rw[if_pos h]
theorem fd_ge (l:List St) (i:Int) (h:(szL l:Int)≤i):fdL l i=none:=by
 unfold fdL;split
 · rfl
 rw[List.getElem?_eq_none (by rw[preL_len];omega)]
theorem fd_some (l:List St) (i:Int) (h0:0≤i) (h:i<(szL l:Int)):∃s,fdL l i=some s∧True:=by
 unfold fdL;rw[if_neg (by omega)];exact⟨_,List.getElem?_eq_getElem (by rw[preL_len];omega),trivial⟩
theorem fdL_nil (i:Int):fdL [] i=none:=by
 unfold fdL;split
 · rfl
 simp[preL]
theorem fdL_cons (d c v n:Int) (t:Tm) (a b:List St) (bs:List Int) (l:List St) (i:Int):fdL (.mk d c v n t a b bs::l) i=
  if i=0 then some (.mk d c v n t a b bs)else
  match fdL a (i - 1)with
  |some x=>some x
  | none=>match fdL b (i - 1 - szL a)with
    |some x=>some x
    |none=>fdL l (i - 1 - szL a - szL b):=by
 rcases Int.lt_trichotomy i 0 with h|h|h
 · rw[fd_neg _ _ h,if_neg (by omega),fd_neg a _ (by omega),fd_neg b _ (by omega),fd_neg l _ (by omega)]
 · subst h;simp[fdL,preL,preS]
 rw[if_neg (by omega)]
 have e:fdL (.mk d c v n t a b bs::l) i=(preL a++preL b++preL l)[i.toNat - 1]? :=by
  unfold fdL;rw[if_neg (by omega)];simp only[preL,preS,List.cons_append];rw[show i.toNat=(i.toNat - 1)+1 by omega,List.getElem?_cons_succ];simp
 rw[e];by_cases ha:i - 1<(szL a:Int)
 · obtain⟨s,hs,_⟩:=fd_some a (i - 1) (by omega) ha;rw[hs];unfold fdL at hs;rw[if_neg (by omega),show(i - 1).toNat=i.toNat - 1 by omega]at hs;simp only;rw[List.append_assoc,List.getElem?_append_left (by rw[preL_len];omega),hs]
 rw[fd_ge a _ (by omega)];simp only;by_cases hb:i - 1 - (szL a:Int)<(szL b:Int)
 · obtain⟨s,hs,_⟩:=fd_some b (i - 1 - szL a) (by omega) hb;rw[hs];unfold fdL at hs;rw[if_neg (by omega),show(i - 1 - (szL a:Int)).toNat=i.toNat - 1 - szL a by omega]at hs;simp only;rw[List.getElem?_append_left (by rw[List.length_append,preL_len,preL_len];omega),List.getElem?_append_right (by rw[preL_len];omega),preL_len,hs]
 rw[fd_ge b _ (by omega)];simp only;rw[List.getElem?_append_right (by rw[List.length_append,preL_len,preL_len];omega),List.length_append,preL_len,preL_len];unfold fdL;rw[if_neg (by omega),show(i - 1 - (szL a:Int) - (szL b:Int)).toNat=i.toNat - 1 - (szL a+szL b) by omega]
theorem findR_con (l:List St):nodesS l≤1000000→∀(i:Int) (s:St),0≤i→i≤5000000→fdL l i=some s→∀d:Nat,Con Tryz.prog 27 false [lS l,li i] (.tup [aS s,lb true]) none d:=by
 revert l
 apply St.lists;intro l ih hn i s hi0 hi1 hf d;have hlen:=len_nodesS l;have hneg:¬i<0:=by omega
 obtain⟨rd,rc,rv,rn,⟨ro,rtn,rks⟩,ra,rb,rbs⟩:=s;refine con_of_HTA Tryz.func27 ?_;simp only[Tryz.f27];simp only[aS,St.enc,Tm.enc,List.map_cons,List.map_nil,List.cons_append,List.nil_append];refine HT_sA ?_;refine HT_seq<|HT_seq<|HT_runA ?_;refine(HT_cs rfl (fun h2=>?_) fun h2=>?_)
 · exact absurd h2 (by simp[hneg])
 (try simp only[BN]at h2);refine HT_seq<|HT_seq<|HT_runA ?_;refine HT_block<|(HT_loopU [0,4] (fun(x:Nat×Int)=>[(1,.v (li x.2)),(6,.v (li x.1))]) (fun x=>[(4,.box [.c (iC 0),.c (iC 0),.c (iC 0),.c (iC 0),.c (iC 0),.c (iC 0),.c (.lit nilS),.c (.lit nilS),.c (.lit nilS),.c (.lit nilS)])]) (fun x=>x.1≤l.length∧fdL (l.drop x.1) x.2=some (.mk rd rc rv rn (.mk ro rtn rks) ra rb rbs)∧0≤x.2∧x.2≤5000000) (fun x=>l.length - x.1) (0,i) ⟨Nat.zero_le _,hf,hi0,hi1⟩ ?_ ?_)
 · exact le_mkA (fun n=>n) []
 rintro⟨k,c⟩ ⟨hk,hJ,hc0,hc1⟩;simp only[upS,keepS,insS]
 try simp only[keepS,KN,Nat.reduceBEq,if_true,if_false,ins,Nat.reduceLT]
 simp only at hk hJ hc0 hc1;clear hf hi0 hi1 hneg h2;refine HT_seq<|HT_seq<|HT_runA ?_;refine(HT_cond rfl (fun h8=>HT_skip ?_) (fun h8=>?_))
 · (try simp only[BN]at h8);have hlt:k<l.length:=by omega
   obtain⟨s,he,hd⟩:=at_lt hlt;have hw1:=wrap1 hlt (by omega);have hk1:k+1≤l.length:=hlt;have hmem:s∈l:=List.mem_of_getElem? he;have hnm:=nodesS_mem hmem;rw[hd]at hJ;have he':=get_encS he;have iha:=(ih s hmem).1 (by omega);have ihb:=(ih s hmem).2 (by omega);obtain⟨sd,sc,sv,sn,⟨so,stn,sks⟩,sa,sb,sbs⟩:=s;simp only[St.then_,St.else_,St.term]at iha ihb hnm;have ca:=sizeR_con sa (by omega);have cb:=sizeR_con sb (by omega);have hga:=fd_ge sa (c - 1);have hna:=fd_neg sa (c - 1);have hla:=szL_le sa;have hlb:=szL_le sb;have hsa:=fd_some sa (c - 1);have hsb:=fd_some sb (c - 1 - (szL sa:Int));have hgb:=fd_ge sb (c - 1 - (szL sa:Int));rw[fdL_cons]at hJ;simp only[St.enc,Tm.enc,List.cons_append,List.nil_append]at he';simp only[aS,St.enc,Tm.enc,List.map_cons,List.map_nil,List.cons_append,List.nil_append]at iha ihb;generalize szL sa=na at*;generalize szL sb=nb at*;clear hlt h8 ih hmem hd he;refine HT_seq<|HT_block<|HT_seq<|HT_seq<|HT_runA ?_;refine(HT_cs rfl (fun h10=>?_) fun h10=>?_)
   · (try simp only[BN]at h10);rw[if_pos (by simpa using h10)]at hJ;cases hJ;clear h10;refine HT_sA ?_;exact HT_ret ⟨.inr rfl,_,le_refl _,⟨⟨_,by simp;rfl,by simp[resR]⟩,by simp,fun h=>by cases h⟩⟩
   (try simp only[BN]at h10);have hne:¬c=0:=by simpa using h10
   rw[if_neg hne]at hJ;have hwa:IntKind.i64.wrap (c - 1)=c - 1:=wrap_in (by omega) (by omega);have hwb:IntKind.i64.wrap (c - 1 - (na:Int))=c - 1 - (na:Int):=wrap_in (by omega) (by omega);have hwc:IntKind.i64.wrap (c - 1 - (na:Int) - (nb:Int))=c - 1 - (na:Int) - (nb:Int):=wrap_in (by omega) (by omega);clear h10;refine HT_sA ?_;refine HT_scA [⟨true,.v (li (na:Int)),none⟩] ?_ ?_
   · first|exact ca _|exact trivial|simpa[*]using ca _
   refine HT_seq<|HT_seq<|HT_runA ?_;refine(HT_cs rfl (fun h16=>?_) fun h16=>?_)
   · try simp only[BN]at h16
     have h16':c - 1<(na:Int):=by
      first|omega|(simp at h16;omega)
     obtain⟨y,hy,_⟩:=hsa (by omega) h16';rw[hy]at hJ;simp only[Option.some.injEq]at hJ;subst hJ;have ci:=iha _ _ (by omega) (by omega) hy;clear h16 hna hga hgb hsb hsa hy iha ihb;refine HT_scA [⟨false,.tup [.agg [.c (iC rd),.c (iC rc),.c (iC rv),.c (iC rn),.c (iC ro),.c (iC rtn),.c (.sl 3 (encTs rks)),.c (.sl 10 (encSs ra)),.c (.sl 10 (encSs rb)),.c (.sl 1 (encIs rbs))],lb true],none⟩] ?_ ?_
     · first|exact ci _|exact trivial|simpa[*]using ci _
     exact HT_ret ⟨.inr rfl,_,le_refl _,⟨⟨_,by simp;rfl,by simp[resR]⟩,by simp,fun h=>by cases h⟩⟩
   try simp only[BN]at h16
   have h16':(na:Int)≤c - 1:=by
    first|omega|(simp at h16;omega)
   rw[hga h16']at hJ;simp only at hJ;clear h16;refine HT_sA ?_;refine HT_scA [⟨true,.v (li (nb:Int)),none⟩] ?_ ?_
   · first|exact cb _|exact trivial|simpa[*]using cb _
   refine HT_seq<|HT_seq<|HT_runA ?_;refine(HT_cs rfl (fun h22=>?_) fun h22=>?_)
   · try simp only[BN]at h22
     have h22':c - 1 - (na:Int)<(nb:Int):=by
      first|omega|(simp at h22;omega)
     obtain⟨y,hy,_⟩:=hsb (by omega) h22';rw[hy]at hJ;simp only[Option.some.injEq]at hJ;subst hJ;have ci:=ihb _ _ (by omega) (by omega) hy;clear h22 hna hga hgb hsb hsa hy iha ihb;refine HT_scA [⟨false,.tup [.agg [.c (iC rd),.c (iC rc),.c (iC rv),.c (iC rn),.c (iC ro),.c (iC rtn),.c (.sl 3 (encTs rks)),.c (.sl 10 (encSs ra)),.c (.sl 10 (encSs rb)),.c (.sl 1 (encIs rbs))],lb true],none⟩] ?_ ?_
     · first|exact ci _|exact trivial|simpa[*]using ci _
     exact HT_ret ⟨.inr rfl,_,le_refl _,⟨⟨_,by simp;rfl,by simp[resR]⟩,by simp,fun h=>by cases h⟩⟩
   try simp only[BN]at h22
   have h22':(nb:Int)≤c - 1 - (na:Int):=by
    first|omega|(simp at h22;omega)
   rw[hgb h22']at hJ;simp only at hJ;clear h22 hna hga hgb hsb hsa iha ihb;refine HT_runA ?_;refine HT_runA ?_;exact⟨(k+1,c - 1 - (na:Int) - (nb:Int)),⟨hk1,hJ,by simp only;omega,by simp only;omega⟩,by simp only;omega,le_mkA (fun n=>n) []⟩
 exfalso;simp only[BN]at h8;have hkl:k=l.length:=by omega
 rw[hkl,List.drop_length,fdL_nil]at hJ;cases hJ
def relP (hv:List Int) (s:St):Bool:= !(decide (s.do_=5)&&decide ((hv[s.n.toNat]?).getD 0<0))
mutual
theorem relS_pre (hv:List Int):∀s:St,relS hv s=(preS s).all (relP hv)
 | .mk d c v n t a b bs=>by
   simp only[relS,preS,List.all_cons,List.all_append,relL_pre hv a,relL_pre hv b];rfl
theorem relL_pre (hv:List Int):∀l:List St,relL hv l=(preL l).all (relP hv)
 |[]=>rfl
 | s::l=>by
   simp only[relL,preL,List.all_append,relS_pre hv s,relL_pre hv l]
end
mutual
theorem preS_wf {vars:List Vr} {nh:Nat}:∀s:St,wfS vars nh s=true→∀x∈preS s,wfS vars nh x=true∧x.nodes≤s.nodes
 | .mk d c v n t a b bs,h,x,hx=>by
   simp only[preS]at hx;rcases List.mem_cons.1 hx with rfl|hx
   · exact⟨h,Nat.le_refl _⟩
   simp only[wfS,Bool.and_eq_true]at h;rcases List.mem_append.1 hx with hx|hx
   · have:=preL_wf a h.2.2.2.2.2.1 x hx;exact⟨this.1,by simp only[St.nodes];omega⟩
   have:=preL_wf b h.2.2.2.2.2.2 x hx;exact⟨this.1,by simp only[St.nodes];omega⟩
theorem preL_wf {vars:List Vr} {nh:Nat}:∀l:List St,wfL vars nh l=true→∀x∈preL l,wfS vars nh x=true∧x.nodes≤nodesS l
 |[],h,x,hx=>by simp[preL]at hx
 | s::l,h,x,hx=>by
   simp only[wfL,Bool.and_eq_true]at h;simp only[preL]at hx;rcases List.mem_append.1 hx with hx|hx
   · have:=preS_wf s h.1 x hx;exact⟨this.1,by simp only[nodesS];omega⟩
   have:=preL_wf l h.2 x hx;exact⟨this.1,by simp only[nodesS];omega⟩
end
theorem asked_con (f:Fl) (p:Po) (hs:smQ p) (hf:smF f) (d:Nat):Con Tryz.prog 11 true [aF f,aPo p] (.v (li (askC f p))) none d:=by
 have ci:=inR_con f p hs hf;have ch:=haR_con f p hs hf;have hn:=hf.hn;have csz:=sizeR_con f.body (by omega);have cfd:=fun i s h0 h1 h2=>findR_con f.body (by omega) i s h0 h1 h2;have hsz:=szL_le f.body;have hwf:(pinF f p).2=0→(phtF f p).2=0→wfL f.vars f.hats.length f.body=true∧(phtF f p).1.length=f.hats.length:=fun h1 h2=>⟨(code_wf hf.hb (pin_out h1).2.1).1,pht_out h2⟩;obtain⟨res,hres⟩:∃r,askC f p=r:=⟨_,rfl⟩;rw[hres];unfold askC at hres;obtain⟨⟨I1,I2⟩,hI⟩:∃x,pinF f p=x:=⟨_,rfl⟩;obtain⟨⟨H1,H2⟩,hH⟩:∃x,phtF f p=x:=⟨_,rfl⟩;rw[hI]at ci hres hwf;rw[hH]at ch hres hwf;simp only at ci ch hres hwf;obtain⟨vars,hats,body⟩:=f;obtain⟨ls,os,is,hts,ob,tm⟩:=p;simp only at csz cfd hsz hres hwf hn;have hfs:=fun(k:Nat) (h:k<szL body)=>fd_some body (k:Int) (by omega) (by omega);clear hI hH hs hf;refine con_of_HTA Tryz.func11 ?_;simp only[Tryz.f11];simp only[aF,Fl.enc,aPo,Po.enc,List.map_cons,List.map_nil]at ci ch⊢;refine HT_sA ?_;refine HT_seq<|HT_seq<|(HT_runcA [⟨false,.tup [lI I1,li I2],none⟩] ?_ ?_)
 · first|exact ci _|exact trivial|simpa[*]using ci _
 refine HT_sA ?_;refine(HT_cs rfl (fun h3=>?_) fun h3=>?_)
 · (try simp only[BN]at h3);rw[if_pos (by simpa using h3)]at hres;subst hres;refine HT_sA ?_;exact HT_rA
 (try simp only[BN]at h3);have hi0:I2=0:=by simpa using h3
 subst hi0;rw[if_neg (by simp)]at hres;refine HT_scA [⟨false,.tup [lI H1,li H2],none⟩] ?_ ?_
 · first|exact ch _|exact trivial|simpa[*]using ch _
 refine HT_seq<|HT_seq<|HT_runA ?_;refine(HT_cs rfl (fun h8=>?_) fun h8=>?_)
 · (try simp only[BN]at h8);rw[if_pos (by simpa using h8)]at hres;subst hres;refine HT_sA ?_;exact HT_rA
 (try simp only[BN]at h8);have hh0:H2=0:=by simpa using h8
 subst hh0;rw[if_neg (by simp),relL_pre]at hres;obtain⟨hw,hhl⟩:=hwf rfl rfl;have hpre:=preL_wf body hw;refine HT_seq<|HT_seq<|(HT_runcA [⟨true,.v (li (szL body)),none⟩] ?_ ?_)
 · first|exact csz _|exact trivial|simpa[*]using csz _
 refine HT_block<|(HT_loopU [2,7,32] (fun(x:Nat)=>[(33,.v (li x))]) (fun x=>[(2,.box [.c (.sl 5 (encVs vars)),.c (.sl 6 (encHs hats)),.c (.sl 10 (encSs body))]),(3,.box [.c (.sl 1 (encNs ls)),.c (.sl 2 (encPr os)),.c (.sl 2 (encLs is)),.c (.sl 2 (encLs hts)),.c (iC ob),.c (bC tm)])]) (fun x=>x≤szL body∧((preL body).take x).all (relP H1)=true) (fun x=>szL body - x) (0:Nat) ⟨Nat.zero_le _,by simp⟩ ?_ ?_)
 · exact le_mkA (fun n=>n) []
 rintro k ⟨hk,hall⟩;simp only[upS,keepS,insS]
 try simp only[keepS,KN,Nat.reduceBEq,if_true,if_false,ins,Nat.reduceLT]
 refine HT_sA ?_;refine HT_seq<|(HT_cond rfl (fun h14=>HT_skip ?_) (fun h14=>?_))
 · (try simp only[BN]at h14);have hlt:k<szL body:=by omega
   obtain⟨s,hfd,_⟩:=hfs k hlt;have cf:=cfd (k:Int) s (by omega) (by omega) hfd;have hw1:=wrap1 hlt (by omega);have hk1:k+1≤szL body:=hlt
   have hget:(preL body)[k]? =some s:=by
    unfold fdL at hfd;rw[if_neg (by omega)]at hfd;simpa using hfd
   have hsn:((preL body).take (k+1)).all (relP H1)=relP H1 s:=by
    rw[List.take_add_one,hget];simp only[Option.toList_some,List.all_append,hall,Bool.true_and,List.all_cons,List.all_nil,Bool.and_true]
   have hsw:=(hpre s (List.mem_of_getElem? hget)).1;obtain⟨rd,rc,rv,rn,⟨ro,rtn,rks⟩,ra,rb,rbs⟩:=s;have hrp:relP H1 (.mk rd rc rv rn (.mk ro rtn rks) ra rb rbs)= !(decide (rd=5)&&decide ((H1[rn.toNat]?).getD 0<0)):=rfl;rw[hrp]at hsn;simp only[aS,St.enc,Tm.enc,List.map_cons,List.map_nil,List.cons_append,List.nil_append]at cf;simp only[wfS,Bool.and_eq_true,Bool.or_eq_true,decide_eq_true_eq]at hsw;clear h14 hlt hfs cfd hpre hfd hwf;refine HT_seq<|HT_block<|HT_seq<|HT_runA ?_;refine HT_scA [⟨false,.tup [.agg [.c (iC rd),.c (iC rc),.c (iC rv),.c (iC rn),.c (iC ro),.c (iC rtn),.c (.sl 3 (encTs rks)),.c (.sl 10 (encSs ra)),.c (.sl 10 (encSs rb)),.c (.sl 1 (encIs rbs))],lb true],none⟩] ?_ ?_
   · first|exact cf _|exact trivial|simpa[*]using cf _
   by_cases h5:rd=5
   · obtain⟨hn0,hn1⟩:0≤rn∧rn<hats.length:=by
      rcases hsw.2.2.1 with h|h
      · exact absurd h5 h
      exact h
     obtain⟨m,rfl⟩:∃m:Nat,rn=m:=⟨rn.toNat,by omega⟩;obtain⟨y,hy⟩:∃y,H1[m]? =some y:=⟨_,List.getElem?_eq_getElem (by omega)⟩;simp only[Int.toNat_natCast,hy,Option.getD_some,decide_eq_true h5,Bool.true_and]at hsn hrp;subst h5;refine HT_sA ?_;refine(HT_cs rfl (fun h18=>?_) fun h18=>?_)
     · (try simp only[BN]at h18);have hneg:y<0:=by simpa using h18
       rw[if_neg (by intro h;rw[List.all_eq_true]at h;have:=h _ (List.mem_of_getElem? hget);rw[hrp]at this;simp[hneg]at this)]at hres;subst hres;refine HT_sA ?_;exact HT_rA
     (try simp only[BN]at h18);have hneg:¬y<0:=by simpa using h18
     rw[decide_eq_false hneg]at hsn;refine HT_runA ?_;exact⟨k+1,⟨hk1,hsn⟩,by omega,le_mkA (fun n=>n) []⟩
   by_cases hr0:0≤rn
   · rcases hg:H1[rn.toNat]? with _|y
     · rw[decide_eq_false h5,Bool.false_and]at hsn;refine HT_sA ?_;refine(HT_cs rfl (fun h18=>?_) fun h18=>?_)
       · exact absurd h18 (by simp[h5])
       (try simp only[BN]at h18);refine HT_runA ?_;exact⟨k+1,⟨hk1,hsn⟩,by omega,le_mkA (fun n=>n) []⟩
     rw[decide_eq_false h5,Bool.false_and]at hsn;refine HT_sA ?_;refine(HT_cs rfl (fun h18=>?_) fun h18=>?_)
     · exact absurd h18 (by simp[h5])
     (try simp only[BN]at h18);refine HT_runA ?_;exact⟨k+1,⟨hk1,hsn⟩,by omega,le_mkA (fun n=>n) []⟩
   rw[decide_eq_false h5,Bool.false_and]at hsn;refine HT_sA ?_;refine(HT_cs rfl (fun h18=>?_) fun h18=>?_)
   · exact absurd h18 (by simp[h5])
   (try simp only[BN]at h18);refine HT_runA ?_;exact⟨k+1,⟨hk1,hsn⟩,by omega,le_mkA (fun n=>n) []⟩
 (try simp only[BN]at h14);have hkl:k=szL body:=by omega
 rw[hkl,List.take_of_length_le (by rw[preL_len];exact Nat.le_refl _)]at hall;rw[if_pos hall]at hres;subst hres;refine(HT_exit ?_);refine HT_sA ?_;exact HT_rA
end Go.Proofs.YtfjidddhehckoaaGreat

namespace Go.Proofs.YtfjidddhehckoaaGreat
open Go Go.RowKit
def filV (n m:Nat):List Value:=List.replicate m (Value.int .i64 (-1))++List.replicate (n - m) (Value.int .i64 0)
theorem filV_len {n m:Nat} (h:m≤n):(filV n m).length=n:=by simp[filV];omega
theorem filV_splice {n m k:Nat} (h:m+k≤n):splice (filV n m) m (List.replicate k (Value.int .i64 (-1)))=filV n (m+k):=by
 unfold splice filV;rw[List.take_left' (by simp),List.drop_append,List.drop_of_length_le (by simp),List.nil_append];simp only[List.length_replicate,List.drop_replicate,←List.append_assoc,←List.replicate_append_replicate];congr 2;omega
theorem filV_get {n m j:Nat} {v:Value} (h:(List.replicate m (Value.int .i64 (-1)))[j]? =some v):(filV n m)[j]? =some v:=by
 unfold filV;rw[List.getElem?_append_left (List.getElem?_eq_some_iff.1 h).1,h]
theorem rep_walk (n:Nat) (hn:n≤1000) (ad:Addr) (cap:Nat) (w:World) (hsrc:w.cell? ad=some (.int .i64 (-1))) (hb:ad.block<w.heap.size)
  (hMul:∀w,Calls Tryz.prog 152 #[.int .u64 1,.int .u64 n] w fun e w'=>e=.returned (.tuple #[.int .u64 0,.int .u64 n])∧w'=w):
  Calls Tryz.prog 103 #[.slice (some ad) 1 cap,.int .i64 n] w fun e w'=>e=.returned (.slice (some ⟨w.heap.size,0,none⟩) n n)∧Below w.heap.size w w'∧w'.heap[w.heap.size]? =some (.cells (filV n n).toArray 3 (0,0)):=by
 have hMul:=hMul w;have hu:Tryz.prog.underlying 32=some (.slice 3):=by kernel_rfl
 have hsz:(Tryz.prog.info? 3).map (·.size)=some 1:=by kernel_rfl
 have b0:Below w.heap.size w (w.alloc (.cells (Array.replicate n (Value.int IntKind.i64 0)) 3)):=(Below.refl _ w).alloc (Nat.le_refl _) _;have hlt:¬((n:Int)<0):=by omega
 have hlt2:¬((9223372036854775807:Int)<n):=by omega
 have hwn:IntKind.u64.wrap (n:Int)=n:=by rw[IntKind.wrap_u64];omega
 have hwi:IntKind.i64.wrap (n:Int)=n:=by rw[IntKind.wrap_i64];omega
 have hwa:(w.alloc (.cells (Array.replicate n (Value.int IntKind.i64 0)) 3)).heap[w.heap.size]? =some (.cells (filV n 0).toArray 3 (0,0)):=by
  rw[heap_alloc_new];simp[filV]
 obtain⟨k0,hk0,hk1⟩:∃k0,k0=Nat.min 1 n∧k0≤n:=⟨_,rfl,Nat.min_le_right _ _⟩
 obtain⟨W1,hcp,hb1,hW1⟩:∃W1,(∀ty,(Builtin.copy_ #[32,32] ty #[.slice (some ⟨w.heap.size,0,none⟩) n n,.slice (some ad) 1 cap]).run Tryz.prog (w.alloc (.cells (Array.replicate n (Value.int IntKind.i64 0)) 3))=.ok (goInt k0) W1)∧
   Below w.heap.size w W1∧W1.heap[w.heap.size]? =some (.cells (filV n k0).toArray 3 (0,0)):=by
  rcases Nat.eq_zero_or_pos n with h0|h0
  · subst h0;have:k0=0:=by omega
    subst this;exact⟨_,fun ty=>run_copy_none _ _ _ ty _ _ _ _ _ _ _ hu hsz rfl,b0,hwa⟩
  have:k0=1:=by rw[hk0];simp[Nat.min_def];omega
  subst this
  have hc:(w.alloc (.cells (Array.replicate n (Value.int IntKind.i64 0)) 3)).cell? ad=some (.int .i64 (-1)):=by
   rw[World.cell?_of_block (Below.heap_alloc _ _ _ hb),hsrc]
  refine⟨_,fun ty=>run_copy_row Tryz.prog _ _ _ ty _ w.heap.size 0 n n ad 1 cap _ _ [Value.int .i64 (-1)] hu hsz hwa hk0 (fun j v hj=>?_) (by simp[filV];omega) (by simp[Value.oneCell']),below_setRow b0 (Nat.le_refl _) _,?_⟩
  · cases j with
    |zero=>simp at hj;subst hj;simpa[Addr.add]using hc
    |succ j=>simp at hj
  rw[setRow_heap _ _ _ _ _ _ hwa];have:=filV_splice (n:=n) (m:=0) (k:=1) (by omega);rw[Nat.zero_add]at this;rw[←this];simp[splice]
 have hk2:n=0∨1≤k0:=by rw[hk0];show n=0∨1≤min 1 n;omega
 have HK:Aside (n=0∨1≤k0):=hk2;clear hk0 hk2
 have hms:∀W,(Instr.makeSlice 32 (Value.int IntKind.i64 n) (Value.int IntKind.i64 n)).run Tryz.prog W=.ok (.slice (some ⟨W.heap.size,0,none⟩) n n) (W.alloc (.cells (Array.replicate n (Value.int .i64 0)) 3)):=by
  intro W
  obtain⟨i,z,hi,hz,h1,h2,h3⟩:∃i z,Tryz.prog.info? 3=some i∧i.zero=some z∧i.size=1∧i.bytes=8∧z.cells.toList=[.int .i64 0]:=by
   have ht:Go.Hl.tyOf Tryz.prog 3=some ⟨1,8,false,[.int .i64 0],.other⟩:=by kernel_rfl
   unfold Go.Hl.tyOf at ht;split at ht
   · rename_i i d hi hd;split at ht
     · rename_i z hz;simp only[Option.some.injEq,Go.Hl.TI.mk.injEq]at ht;exact⟨i,z,hi,hz,ht.1,ht.2.1,ht.2.2.2.1⟩
     cases ht
   cases ht
  have hr:=run_makeSlice (P:=Tryz.prog) (w:=W) 32 3 i z hu hi hz .i64 .i64 (n:Int) (n:Int) (by omega) (Int.le_refl _) (by rw[h1];simp;omega) (by rw[h2];omega) (by omega);rw[hr,h1]
  have hzc:z.cells= #[.int .i64 0]:=by
   apply Array.toList_inj.1;rw[h3]
  rw[hzc];have:=toList_madeCells_one (Value.int .i64 0) n
  have e:madeCells #[Value.int .i64 0] n=Array.replicate n (Value.int .i64 0):=by
   apply Array.toList_inj.1;rw[this,Array.toList_replicate]
  simp only[Int.toNat_natCast,Nat.mul_one,e]
 go_enter Tryz.func103,Tryz.ntmps103
 go_wp2_with (go_at_fn 152)
 refine hMul.mono ?_;rintro e w' ⟨rfl,hw⟩;rw[hw];simp only[];clear hMul hwa
 go_wp2
 clear hms hcp hMul
 go_loopg [8] (n - k0) (fun k s8 wx=>∃m:Nat,m≤n∧(n=0∨1≤m)∧k=n - m∧s8=.int .i64 m∧wx.heap[w.heap.size]? =some (.cells (filV n m).toArray 3 (0,0))∧Below w.heap.size w wx)
 case atStart=>exact⟨k0,hk1,HK.out,rfl,rfl,hW1,hb1⟩
 case round=>
  obtain⟨m,hmn,hm1,hg,rfl,hW,hbx⟩:=hrel;have HG:Aside (gk=n - m):=hg;clear hg;by_cases hlt3:m<n
  · have hlt4:(m:Int)<n:=by omega
    obtain⟨k,hk,hkn,hk0⟩:∃k,k=Nat.min m (n - m)∧m+k≤n∧(1≤m→1≤k):=⟨_,rfl,by show m+min m (n - m)≤n;omega,by show 1≤m→1≤min m (n - m);omega⟩;have HKK:Aside (k=Nat.min m (n - m)∧m+k≤n∧(1≤m→1≤k)):=⟨hk,hkn,hk0⟩;clear hk hkn hk0
    have hwk:IntKind.i64.wrap ((m:Int)+(k:Int))=((m+k:Nat):Int):=by
     have:=HKK.out.2.1;rw[IntKind.wrap_i64];omega
    have hWd:wr.drew.heap[w.heap.size]? =some (.cells (filV n m).toArray 3 (0,0)):=hW;have hbd:Below w.heap.size w wr.drew:=hbx.drew;have hnm:¬n=m:=by omega
    have hcell:∀j v,(List.replicate k (Value.int .i64 (-1)))[j]? =some v→wr.drew.cell? ((⟨w.heap.size,0,none⟩:Addr).add j)=some v:=by
     intro j v hj;have hjk:j<k:=by have:=(List.getElem?_eq_some_iff.1 hj).1;simpa using this
     have hkm:k≤m:=by rw[HKK.out.1];exact Nat.min_le_left _ _
     have:(filV n m)[j]? =some v:=filV_get (by
      rw[List.getElem?_replicate]at hj⊢;rw[if_pos (by omega)];rw[if_pos hjk]at hj
      exact hj)
     rw[Addr.add_lit,Nat.zero_add];simp[World.cell?,hWd,this]
    obtain⟨W4,hcp2,hb4,hW4⟩:∃W4,(∀ty,(Builtin.copy_ #[32,32] ty #[.slice (some ⟨w.heap.size,m,none⟩) (n - m) (n - m),.slice (some ⟨w.heap.size,0,none⟩) m n]).run Tryz.prog wr.drew=.ok (goInt k) W4)∧
      Below w.heap.size w W4∧W4.heap[w.heap.size]? =some (.cells (filV n (m+k)).toArray 3 (0,0)):=by
     have hr:=fun ty=>run_copy_row Tryz.prog wr.drew 32 32 ty 3 w.heap.size m (n - m) (n - m) ⟨w.heap.size,0,none⟩ m n _ _ (List.replicate k (Value.int .i64 (-1))) hu hsz hWd (by simpa using HKK.out.1) hcell (by simpa[filV_len hmn]using HKK.out.2.1) (by simp[Value.oneCell']);rw[List.length_replicate]at hr;refine⟨_,hr,below_setRow hbd (Nat.le_refl _) _,?_⟩;rw[setRow_heap _ _ _ _ _ _ hWd,←filV_splice HKK.out.2.1];simp[splice]
    have hm9:(m:Int)≤n:=by omega
    clear hWd hbd hcell hsrc hb b0 hu hsz hwn hwi hlt hlt2 hb1 hW1
    go_wp2
    go_region
    go_wp2
    go_roundg (n - (m+k))
    case measure=>
     have h1:=HG.out;obtain⟨h2,h3,h4⟩:=HKK.out;omega
    case rel=>
     obtain⟨h2,h3,h4⟩:=HKK.out;exact⟨m+k,h3,by omega,rfl,rfl,hW4,hb4⟩
  have hlt4:¬(m:Int)<n:=by omega
  go_wp2
  go_ret
  obtain rfl:m=n:=by omega
  exact⟨rfl,hbx,hW⟩
end Go.Proofs.YtfjidddhehckoaaGreat

namespace Go.Proofs.YtfjidddhehckoaaGreat
open Go Go.Hl Go.Shelf
def mulR:Ren:=⟨fun f=>if f=212 then 152 else if f=264 then 184 else if f=263 then 183 else f,fun t=>if t=46 then 157 else if t=53 then 193 else if t=51 then 191 else if t=146 then 223 else if t=148 then 225 else t,fun g=>g⟩
theorem mulL:Lays.n212 Tryz.prog mulR where
 mixed:=by kernel_rfl
 f212:=by kernel_rfl
 f263:=by kernel_rfl
 f264:=by kernel_rfl
 t46:=by kernel_rfl
 a46:=fun w=>rfl
 z46:=fun w=>rfl
 v46:=fun w=>rfl
 t51:=by kernel_rfl
 a51:=fun w=>rfl
 z51:=fun w=>rfl
 v51:=fun w=>rfl
 t53:=by kernel_rfl
 a53:=fun w=>rfl
 z53:=fun w=>rfl
 v53:=fun w=>rfl
 t146:=by kernel_rfl
 a146:=fun w=>rfl
 z146:=fun w=>rfl
 v146:=fun w=>rfl
 t148:=by kernel_rfl
 a148:=fun w=>rfl
 z148:=fun w=>rfl
 v148:=fun w=>rfl
theorem mul_calls (n:Nat) (hn:n≤1000) (w:World):Calls Tryz.prog 152 #[.int .u64 1,.int .u64 n] w fun e w'=>e=.returned (.tuple #[.int .u64 0,.int .u64 n])∧w'=w:=by
 have h:=Any.bits_Mul mulL 1 n (by omega) (by omega) w;rw[show 1*n/18446744073709551616=0 by omega,show 1*n%18446744073709551616=n by omega]at h;exact h
theorem repC_holds {n:Nat} (hn:n≤1000):repC n:=by
 intro d hd;refine⟨by kernel_rfl,fun F w vs hF hsz hargs=>?_⟩;obtain⟨l⟩:=vs
 match l,hsz with
 | [v0,v1],_=>
   have a0:CRel F w (.sl 1 (encIs [-1])) v0:=hargs 0 _ v0 rfl rfl;have a1:CRel F w (.lit (.int .i64 n)) v1:=hargs 1 _ v1 rfl rfl;cases a1;rcases a0.sl_inv with⟨h,_⟩|⟨b,o,cap,cells,rfl,hb,hcap,hmax,hs,hc,h1,hr⟩
   · cases h
   have hcell:w.cell? ⟨b,o,none⟩=some (.int .i64 (-1)):=by
    have h0:=hc 0 0 (iC (-1)) rfl;have h2:=hr 0 0 (iC (-1)) rfl
    have e:cells 0 0=.int .i64 (-1):=by
     generalize cells 0 0=z at h2;cases h2;rfl
    rw[e]at h0;simpa using h0
   refine(rep_walk n hn ⟨b,o,none⟩ cap w hcell (hF b hb) (mul_calls n hn)).mono ?_;rintro e w' ⟨rfl,hbl,hh⟩;have hfil:filV n n=List.replicate n (Value.int .i64 (-1)):=by simp[filV]
   rw[hfil]at hh;have hsize:w.heap.size<w'.heap.size:=(Array.getElem?_eq_some_iff.1 hh).1
   let γ':Nat→Value:=fun k=>if k=d then .slice (some ⟨w.heap.size,0,none⟩) n n else .nilFunc
   have hγ:γ' d=.slice (some ⟨w.heap.size,0,none⟩) n n:=by simp[γ']
   refine⟨_,fun _=>False,γ',rfl,hbl,fun b hb=>hb.elim,⟨by rw[hγ];rfl,rfl⟩,fun o ho=>?_⟩;cases ho;refine⟨⟨by decide,?_,List.replicate n (Value.int .i64 (-1)),⟨by simp,.inr ⟨w.heap.size,n,(List.replicate n (Value.int .i64 (-1))).toArray,?_,Nat.lt_irrefl _,hh,by simp,?_,by simp,?_⟩⟩,?_,?_⟩,fun b _ hb=>hb⟩
   · intro r hr;simp only[encIs,List.mem_map]at hr;obtain⟨x,_,rfl⟩:=hr;rfl
   · rw[hγ];simp
   · unfold maxLen;omega
   · simp
   · intro u hu;rw[List.mem_replicate]at hu;rw[hu.2];rfl
   intro i j c hcx;unfold getRC at hcx;rw[get_encI]at hcx;cases hz:(List.replicate n (-1:Int))[i]? with
   |none=>rw[hz]at hcx;cases hcx
   | some x=>
     rw[hz]at hcx;have hin:i<n:=by have:=(List.getElem?_eq_some_iff.1 hz).1;simpa using this
     have hx:x=-1:=by rw[List.getElem?_replicate,if_pos hin]at hz;cases hz;rfl
     subst hx;cases j with
     |zero=>cases hcx;exact⟨.int .i64 (-1),by simp[hin],CRel.lit _⟩
     |succ j=>cases hcx
end Go.Proofs.YtfjidddhehckoaaGreat
