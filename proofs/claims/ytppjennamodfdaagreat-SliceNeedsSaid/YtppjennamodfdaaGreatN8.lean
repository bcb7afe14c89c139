/- Part 8: contracts of functions of the program and of the reference, and plain facts about what they compute; used by the proof of the claimed statement. Conditions: as each theorem states. -/
import Derived.Test.YtppjennamodfdaaGreatProg
import Derived.Test.YtppjennamodfdaaGreatNHmZ
import Derived.KernelRfl
import Derived.Test.YtppjennamodfdaaGreatNHmZI
import Derived.Test.YtppjennamodfdaaGreatNHmZJ
import Derived.Test.YtppjennamodfdaaGreatNHmZK
import Derived.Test.YtppjennamodfdaaGreatN1
import Derived.Test.YtppjennamodfdaaGreatN2
import Derived.Test.YtppjennamodfdaaGreatN3
import Derived.Test.YtppjennamodfdaaGreatN4
import Derived.Test.YtppjennamodfdaaGreatN6
import Derived.Test.YtppjennamodfdaaGreatN5
import Derived.Lib.SlicesCompact
import Derived.Shelf.Slices.CompactI
import Derived.Shelf.Sort.Plain
import Derived.Shelf.Slices.In.SortNone
import Derived.Test.YtppjennamodfdaaGreatNHmZL
set_option linter.unusedSimpArgs false
set_option linter.unusedVariables false
set_option linter.unnecessarySimpa false
set_option maxRecDepth 100000
set_option maxHeartbeats 2000000
namespace Go.Proofs.YtppjennamodfdaaGreat
open Go Go.Hl
structure Nd where
 k:Int
 a:Int
 n:Int
 o:Int
 deriving DecidableEq
def Nd.enc (x:Nd):List CD:=[iC x.k,iC x.a,iC x.n,iC x.o]
attribute [simp] Nd.enc
def XG (l:List Nd):List (List CD):=l.map Nd.enc
@[simp] theorem X67 (l:List Nd):(XG l).length=l.length:=by simp[XG]
theorem ZK {l:List Nd} {i:Nat} {x:Nd} (h:l[i]? =some x):(XG l)[i]? =some x.enc:=by simp[XG,h]
mutual
def wdS:St→Nat
 | .mk o _ _ _ _ a b _=>(if o=4 then 2 else 1)+wdL a+wdL b
def wdL:List St→Nat
 |[]=>0
 |s::l=>wdS s+wdL l
end
mutual
def X1o:St→Int→Nat→Nat→List Nd
 | .mk o _ _ _ _ a b _,at_,k,after=>
   if o=3 then⟨3,at_,if a=[] then after else k+1,if b=[] then after else k+1+wdL a⟩::(Wv a (at_+1) (k+1) after++Wv b (at_+1+szL a) (k+1+wdL a) after)
   else if o=4 then⟨4,at_,k+1,-1⟩::⟨5,at_,if a=[] then k+1 else k+2,after⟩::Wv a (at_+1) (k+2) (k+1)
   else [⟨2,at_,after,-1⟩]
def Wv:List St→Int→Nat→Nat→List Nd
 |[],_,_,_=>[]
 |s::l,at_,k,after=>X1o s at_ k (if l=[] then after else k+wdS s)++Wv l (at_+szS s) (k+wdS s) after
end
def grN (l:List St):List Nd:=⟨0,-1,if l=[] then 1+wdL l else 1,-1⟩::(Wv l 0 1 (1+wdL l)++[⟨1,-1,-1,-1⟩])
theorem X5B {A B:List (List CD)} {s:Wp} {k:Nat} (h:s.2<A.length):X0z (A++B) s k=X0z A s k++B:=by
 unfold X0z setRow;rw[List.getElem?_append_left h];split
 · rw[List.set_append,if_pos h]
 rfl
theorem X6b {k:Nat}:∀(sl:List Wp) {A B:List (List CD)},(∀s∈sl,s.2<A.length)→XH k sl (A++B)=XH k sl A++B
 |[],_,_,_=>rfl
 | s::sl,A,B,h=>by
   simp only[XH];rw[X5B (h s (by simp)),X6b sl fun x hx=>by rw[X1F];exact h x (by simp[hx])]
theorem X5M {k:Nat}:∀(x y:List Wp) (rows:List (List CD)),XH k (x++y) rows=XH k y (XH k x rows)
 |[],_,_=>rfl
 |s::x,y,rows=>by simp only[List.cons_append,XH];exact X5M x y _
theorem X9y {rows:List (List CD)} {i j f g:Nat} {u v:CD} (h4:∀r∈rows,r.length=4) (hf:f<4) (hg:g<4) (h:(i,f)≠(j,g)∨u=v):setRow (setRow rows i f [u]) j g [v]=setRow (setRow rows j g [v]) i f [u]:=by
 by_cases hij:i=j
 · subst hij;cases hr:rows[i]? with
   |none=>simp[setRow,hr]
   | some r=>
     have hi:i<rows.length:=(List.getElem?_eq_some_iff.1 hr).1;have hl:=h4 r (List.mem_of_getElem? hr);simp only[setRow,hr,List.getElem?_set_self hi,List.set_set];congr 1
     match r,hl with
     | [a,b,c,d],_=>
       match f,g,hf,hg with
       |0,0,_,_|1,1,_,_|2,2,_,_|3,3,_,_=>rcases h with h|h<;>simp_all
       |0,1,_,_|0,2,_,_|0,3,_,_|1,0,_,_|1,2,_,_|1,3,_,_|2,0,_,_|2,1,_,_|2,3,_,_|3,0,_,_|3,1,_,_|3,2,_,_=>rfl
 cases hi:rows[i]? with
 |none=>simp only[setRow,hi];cases hj:rows[j]? <;>simp[hi,hij,List.getElem?_set,Ne.symm hij]
 | some r=>
   cases hj:rows[j]? with
   |none=>simp[setRow,hi,hj,List.getElem?_set,hij]
   | some q=>
     simp only[setRow,hi,hj,List.getElem?_set_ne hij,List.getElem?_set_ne (Ne.symm hij)];exact List.set_comm _ _ hij
theorem Xcu {rows:List (List CD)} {s t:Wp} {j k:Nat} (h4:∀r∈rows,r.length=4) (h:s≠t∨j=k):X0z (X0z rows s j) t k=X0z (X0z rows t k) s j:=by
 unfold X0z;refine X9y h4 (by split<;>omega) (by split<;>omega) ?_;obtain⟨s1,s2⟩:=s;obtain⟨t1,t2⟩:=t;rcases h with h|h
 · refine .inl fun e=>h ?_;simp only[Prod.mk.injEq]at e⊢;refine⟨?_,e.1⟩;cases s1<;>cases t1<;>simp_all
 exact .inr (by rw[h])
theorem X2N {j k:Nat} {t:Wp}:∀(sl:List Wp) (rows:List (List CD)),(∀r∈rows,r.length=4)→((∀s∈sl,s≠t)∨j=k)→XH j sl (X0z rows t k)=X0z (XH j sl rows) t k
 |[],_,_,_=>rfl
 | s::sl,rows,h4,h=>by
   simp only[XH];rw[Xcu h4 (h.imp (fun h=>Ne.symm (h s (by simp))) Eq.symm),X2N sl _ (ZW h4) (h.imp (fun h x hx=>h x (by simp[hx])) id)]
theorem X4O {k:Nat}:∀(x y:List Wp) (rows:List (List CD)),(∀r∈rows,r.length=4)→XH k x (XH k y rows)=XH k y (XH k x rows)
 |x,[],rows,_=>rfl
 | x,t::y,rows,h4=>by
   simp only[XH];rw[X4O x y _ (ZW h4),X2N x rows h4 (.inr rfl)]
theorem X8k:∀(l:List St) (sl:List Wp) (st:Bst),okB sl st.1→∀s∈(Qc l sl st).2,(l=[]∧s∈sl)∨st.1.length≤s.2:=by
 have one:∀(s:St),(∀l,l=s.then_∨l=s.else_→∀(sl:List Wp) (st:Bst),okB sl st.1→∀s∈(Qc l sl st).2,(l=[]∧s∈sl)∨st.1.length≤s.2)→
   ∀(k:Nat) (st:Bst),(∀r∈st.1,r.length=4)→k=st.1.length→∀q∈(Z3 s k st).2,k≤q.2:=by
  intro s ih k st h4 hk q hq;obtain⟨o,c,v,n,t,a,b,bs⟩:=s;simp only[St.then_,St.else_]at ih;unfold Z3 at hq;split at hq
  · have k1:okB [(false,k)] (st.1++[Q0 3 st.2]):=⟨Ws h4,by simp[hk]⟩;have ok:=Wq a [(false,k)] (st.1++[Q0 3 st.2],st.2+1) k1;have ia:=ih a (.inl rfl) [(false,k)] (st.1++[Q0 3 st.2],st.2+1) k1;obtain⟨x,hx⟩:∃x,Qc a [(false,k)] (st.1++[Q0 3 st.2],st.2+1)=x:=⟨_,rfl⟩;simp only[hx,List.length_append,List.length_singleton]at hq ok ia;have ib:=ih b (.inr rfl) [(true,k)] x.1 ⟨ok.1.four,by simp;omega⟩;rcases List.mem_append.1 hq with hq|hq
    · rcases ia q hq with⟨_,h⟩|h
      · rw[List.mem_singleton.1 h];exact Nat.le_refl _
      omega
    rcases ib q hq with⟨_,h⟩|h
    · rw[List.mem_singleton.1 h];exact Nat.le_refl _
    omega
  split at hq
  · rw[List.mem_singleton.1 hq];exact Nat.le_succ _
  rw[List.mem_singleton.1 hq];exact Nat.le_refl _
 apply St.lists;intro l ih sl st hok q hq
 have key:∀(l:List St),(∀s∈l,∀l',l'=s.then_∨l'=s.else_→∀(sl:List Wp) (st:Bst),okB sl st.1→∀s∈(Qc l' sl st).2,(l'=[]∧s∈sl)∨st.1.length≤s.2)→∀(sl:List Wp) (st:Bst),okB sl st.1→∀q∈(Qc l sl st).2,(l=[]∧q∈sl)∨st.1.length≤q.2:=by
  intro l
  induction l with
  |nil=>intro _ sl st _ q hq;exact .inl ⟨rfl,hq⟩
  | cons s l il=>
    intro ih sl st hok q hq;unfold Qc at hq;have h4:∀r∈XH st.1.length sl st.1,r.length=4:=ZJ _ _ _ hok.four;have o1:=X54 s st.1.length (XH st.1.length sl st.1,st.2) h4 (Q8 ..).symm;have o2:=one s (ih s (by simp)) st.1.length (XH st.1.length sl st.1,st.2) h4 (Q8 ..).symm;obtain⟨x,hx⟩:∃x,Z3 s st.1.length (XH st.1.length sl st.1,st.2)=x:=⟨_,rfl⟩;simp only[hx,Q8]at hq o1 o2;rcases il (fun s hs=>ih s (by simp[hs])) x.2 x.1 o1.1 q hq with⟨_,h⟩|h
    · exact .inr (o2 q h)
    exact .inr (Nat.le_trans o1.2.1 h)
 exact key l (fun s hs l' h=>by
  rcases h with rfl|rfl
  · exact(ih s hs).1
  exact(ih s hs).2) sl st hok q hq
mutual
def gS:St→Bool
 | .mk o _ _ _ _ a b _=>(decide (o=3)||(decide (o=4)&&b.isEmpty)||(a.isEmpty&&b.isEmpty))&&(gL a&&gL b)
def gL:List St→Bool
 |[]=>true
 |s::l=>gS s&&gL l
end
theorem X9a {vars:List Vr} {nh:Nat}:∀(l:List St) (top:Bool),ssC vars nh l top=0→gL l=true
 |[],_,_=>rfl
 | .mk d c v n t a b bs::l,top,h=>by
   have hs:shB vars nh d v n t a.length b.length bs (top&&l.isEmpty)=true:=by
    simp only[ssC]at h;split at h
    · rename_i h0;unfold stC at h0;split at h0
      · cases h0
      rename_i hs;simpa using hs
    rename_i h0;exact absurd h h0
   have hr:ssC vars nh a false=0∧ssC vars nh b false=0∧ssC vars nh l top=0:=by
    simp only[ssC]at h;split at h
    · split at h
      · split at h
        · rename_i ha hb;exact⟨ha,hb,h⟩
        rename_i hb;exact absurd h hb
      rename_i ha;exact absurd h ha
    rename_i h0;exact absurd h h0
   simp only[gL,gS,Bool.and_eq_true,Bool.or_eq_true,decide_eq_true_eq,List.isEmpty_iff];refine⟨⟨?_,X9a a false hr.1,X9a b false hr.2.1⟩,X9a l top hr.2.2⟩;rcases X8V hs with h1|h1|⟨h1,h2⟩
   · exact .inl (.inl h1)
   · refine .inl (.inr ⟨h1,?_⟩);subst h1;unfold shB at hs;simp at hs;exact hs.1.2
   exact .inr ⟨List.eq_nil_of_length_eq_zero h1,List.eq_nil_of_length_eq_zero h2⟩
mutual
theorem X2Y:∀(s:St) (d:Int) (k after:Nat),gS s=true→(X1o s d k after).length=wdS s
 | .mk o c v n t a b bs,d,k,after,h=>by
   simp only[gS,Bool.and_eq_true,Bool.or_eq_true,decide_eq_true_eq,List.isEmpty_iff]at h;obtain⟨h,ha,hb⟩:=h;unfold X1o wdS;by_cases h3:o=3
   · have h4:¬o=4:=by omega
     rw[if_pos h3,if_neg h4];simp only[List.length_cons,List.length_append,W5 a _ _ _ ha,W5 b _ _ _ hb];omega
   rw[if_neg h3];by_cases h4:o=4
   · rw[if_pos h4,if_pos h4]
     have hb0:b=[]:=by
      rcases h with(h|h)|h
      · exact absurd h h3
      · exact h.2
      exact h.2
     subst hb0;simp only[List.length_cons,W5 a _ _ _ ha,wdL];omega
   rw[if_neg h4,if_neg h4]
   have h0:a=[]∧b=[]:=by
    rcases h with(h|h)|h
    · exact absurd h h3
    · exact absurd h.1 h4
    exact h
   rw[h0.1,h0.2];rfl
theorem W5:∀(l:List St) (d:Int) (k after:Nat),gL l=true→(Wv l d k after).length=wdL l
 |[],_,_,_,_=>rfl
 | s::l,d,k,after,h=>by
   simp only[gL,Bool.and_eq_true]at h;unfold Wv wdL;rw[List.length_append,X2Y s _ _ _ h.1,W5 l _ _ _ h.2]
end
def layOK (l:List St):Prop:=gL l=true→∀(sl:List Wp) (st:Bst) (d:Int),okB sl st.1→st.2=d→
 (∀after:Nat,XH after (Qc l sl st).2 (Qc l sl st).1.1=XH (if l=[] then after else st.1.length) sl st.1++XG (Wv l d st.1.length after))∧(Qc l sl st).1.2=d+szL l
def layOne (s:St):Prop:=gS s=true→∀(k:Nat) (st:Bst) (d:Int),(∀r∈st.1,r.length=4)→k=st.1.length→st.2=d→
 (∀after:Nat,XH after (Z3 s k st).2 (Z3 s k st).1.1=st.1++XG (X1o s d k after))∧(Z3 s k st).1.2=d+szS s
theorem XcJ (a b:List Nd):XG (a++b)=XG a++XG b:=by simp[XG]
theorem X0J {A:List (List CD)} {x:List CD} {o:Bool} {k v:Nat} (hk:k=A.length):X0z (A++[x]) (o,k) v=A++[if o=true then x.take 3++[iC v]++x.drop 4 else x.take 2++[iC v]++x.drop 3]:=by
 subst hk;unfold X0z setRow;simp;cases o<;>simp
theorem XcH (s:St) (ha:layOK s.then_) (hb:layOK s.else_):layOne s:=by
 obtain⟨o,c,v,n,t,a,b,bs⟩:=s;simp only[St.then_,St.else_]at ha hb;intro hg k st d h4 hk hd;simp only[gS,Bool.and_eq_true,Bool.or_eq_true,decide_eq_true_eq,List.isEmpty_iff]at hg;obtain⟨hg,hga,hgb⟩:=hg;have ha:=ha hga;have hb:=hb hgb;subst hd;unfold Z3 X1o szS;by_cases h3:o=3
 · simp only[if_pos h3];have k1:okB [(false,k)] (st.1++[Q0 3 st.2]):=⟨Ws h4,by simp[hk]⟩;have ok:=Wq a [(false,k)] (st.1++[Q0 3 st.2],st.2+1) k1;have sa:=X8k a [(false,k)] (st.1++[Q0 3 st.2],st.2+1) k1;obtain⟨ia,ida⟩:=ha [(false,k)] (st.1++[Q0 3 st.2],st.2+1) _ k1 rfl;obtain⟨x,hx⟩:∃x,Qc a [(false,k)] (st.1++[Q0 3 st.2],st.2+1)=x:=⟨_,rfl⟩;simp only[hx,List.length_append,List.length_singleton]at ok sa ia ida⊢;have k2:okB [(true,k)] x.1.1:=⟨ok.1.four,by simp;omega⟩;have ok2:=Wq b [(true,k)] x.1 k2;obtain⟨ib,idb⟩:=hb [(true,k)] x.1 _ k2 rfl;obtain⟨y,hy⟩:∃y,Qc b [(true,k)] x.1=y:=⟨_,rfl⟩;simp only[hy]at ok2 ib idb⊢
   have hlen:x.1.1.length=k+1+wdL a:=by
    have:=congrArg List.length (ia 0);rw[Q8,List.length_append,Q8,List.length_append,List.length_singleton,X67,W5 a _ _ _ hga]at this;omega
   refine⟨fun after=>?_,by omega⟩;rw[X5M,X4O _ _ _ ok2.1.four,ib after,X6b x.2 (fun s hs=>by rw[Q8];exact ok.1.lt s hs)];simp only[XH]
   rw[X2N x.2 _ ok.1.four (.inl fun s hs=>by
    rcases sa s hs with⟨_,h⟩|h
    · rw[List.mem_singleton.1 h];simp
    intro e;rw[e]at h;simp at h;omega),ia after]
   simp only[XH];rw[X0J hk,X5B (by simp[hk]),X0J hk,hlen,ida,hk];simp only[Q0,Bool.false_eq_true,if_false,if_true,List.take,List.drop,List.nil_append,List.cons_append,List.append_nil,XG,List.map_cons,List.map_append,Nd.enc,List.append_assoc];refine congrArg (st.1++ ·) ?_;congr 2;by_cases h1:a=[]<;>by_cases h2:b=[]<;>simp[h1,h2]
 by_cases h4':o=4
 · simp only[if_neg h3,if_pos h4']
   have hb0:b=[]:=by
    rcases hg with(h|h)|h
    · exact absurd h h3
    · exact h.2
    exact h.2
   subst hb0
   have hR:setRow (st.1++[Q0 4 st.2]++[Q0 5 st.2]) k 2 [iC ((k:Int)+1)]=st.1++[[iC 4,iC st.2,iC ((k:Int)+1),iC (-1)]]++[Q0 5 st.2]:=by
    subst hk;simp[setRow]
   have k1:okB [(false,k+1)] (st.1++[[iC 4,iC st.2,iC ((k:Int)+1),iC (-1)]]++[Q0 5 st.2]):=by
    rw[←hR];exact⟨X0t (Ws (Ws h4)) (by omega),by simp[WC,hk]⟩
   rw[hR];have ok:=Wq a [(false,k+1)] (st.1++[[iC 4,iC st.2,iC ((k:Int)+1),iC (-1)]]++[Q0 5 st.2],st.2+1) k1;obtain⟨ia,ida⟩:=ha [(false,k+1)] (st.1++[[iC 4,iC st.2,iC ((k:Int)+1),iC (-1)]]++[Q0 5 st.2],st.2+1) _ k1 rfl;obtain⟨x,hx⟩:∃x,Qc a [(false,k+1)] (st.1++[[iC 4,iC st.2,iC ((k:Int)+1),iC (-1)]]++[Q0 5 st.2],st.2+1)=x:=⟨_,rfl⟩;simp only[hx]at ok ia ida⊢;refine⟨fun after=>?_,by simp only[szL];omega⟩;simp only[XH];rw[ia (k+1)];simp only[XH];rw[X0J (by simp[hk]),X5B (by simp[hk]),X0J (by simp[hk])];simp only[Q0,Bool.false_eq_true,if_false,if_true,List.take,List.drop,List.nil_append,List.cons_append,List.append_nil,XG,List.map_cons,List.map_append,Nd.enc,List.append_assoc,List.length_append,List.length_singleton,hk];refine congrArg (st.1++ ·) ?_;congr 2;by_cases h1:a=[]<;>simp[h1]
 simp only[if_neg h3,if_neg h4']
 have h0:a=[]∧b=[]:=by
  rcases hg with(h|h)|h
  · exact absurd h h3
  · exact absurd h.1 h4'
  exact h
 rw[h0.1,h0.2];refine⟨fun after=>?_,by simp only[szL];omega⟩;simp only[XH];rw[X0J hk];rfl
theorem XbN:∀l:List St,layOK l:=by
 apply St.lists;intro l ih
 have key:∀l:List St,(∀s∈l,layOne s)→layOK l:=by
  intro l
  induction l with
  | nil=>
    intro _ _ sl st d hok hd;exact⟨fun after=>by simp[Qc,Wv,XG],by simp[Qc,szL,hd]⟩
  | cons s l il=>
    intro h hg sl st d hok hd;simp only[gL,Bool.and_eq_true]at hg;have h4:∀r∈XH st.1.length sl st.1,r.length=4:=ZJ _ _ _ hok.four;have o1:=X54 s st.1.length (XH st.1.length sl st.1,st.2) h4 (Q8 ..).symm;obtain⟨i1,id1⟩:=h s (by simp) hg.1 st.1.length (XH st.1.length sl st.1,st.2) d h4 (Q8 ..).symm hd;unfold Qc Wv szL;obtain⟨x,hx⟩:∃x,Z3 s st.1.length (XH st.1.length sl st.1,st.2)=x:=⟨_,rfl⟩;simp only[hx]at o1 i1 id1⊢
    have hlen:x.1.1.length=st.1.length+wdS s:=by
     have:=congrArg List.length (i1 0);rw[Q8,List.length_append,Q8,X67,X2Y s _ _ _ hg.1]at this;exact this
    obtain⟨i2,id2⟩:=il (fun s hs=>h s (by simp[hs])) hg.2 x.2 x.1 _ o1.1 id1;refine⟨fun after=>?_,by omega⟩;rw[i2 after,hlen,i1,XcJ,if_neg (List.cons_ne_nil s l),List.append_assoc]
 exact key l fun s hs=>XcH s (ih s hs).1 (ih s hs).2
theorem Xbe (l:List St) (hg:gL l=true):bldF l=XG (grN l):=by
 have k0:okB [(false,0)] [[iC 0,iC (-1),iC (-1),iC (-1)]]:=⟨by simp,by simp⟩;obtain⟨i1,_⟩:=XbN l hg [(false,0)] ([[iC 0,iC (-1),iC (-1),iC (-1)]],0) 0 k0 rfl;unfold bldF;obtain⟨x,hx⟩:∃x,Qc l [(false,0)] ([[iC 0,iC (-1),iC (-1),iC (-1)]],0)=x:=⟨_,rfl⟩;simp only[hx]at i1⊢
 have hlen:x.1.1.length=1+wdL l:=by
  have:=congrArg List.length (i1 0);rw[Q8,List.length_append,Q8,X67,W5 l _ _ _ hg]at this;exact this
 rw[i1,hlen];unfold grN;simp only[XH,X0z,setRow,List.length_singleton];simp[XG];by_cases h:l=[]<;>simp[h]
end Go.Proofs.YtppjennamodfdaaGreat

namespace Go.Proofs.YtppjennamodfdaaGreat
open Go Go.Hl
theorem X5Q {vars:List Vr} {inp:Bool} {t:Tm} (h:X0G vars inp t=0):QS vars inp t=true:=by
 unfold X0G at h;split at h
 · assumption
 cases h
theorem X8t {vars:List Vr}:∀(l seen:List Ht),hcs vars seen l=0→∀h∈l,QS vars true h.term=true
 |[],_,_,h,hm=>by cases hm
 | x ::l,seen,h0,h,hm=>by
   simp only[hcs]at h0;split at h0
   · rename_i hx;rcases List.mem_cons.1 hm with rfl|h1
     · unfold X5U at hx;split at hx
       · cases hx
       split at hx
       · cases hx
       split at hx
       · cases hx
       exact X5Q hx
     exact X8t l _ h0 h h1
   rename_i hx;exact absurd h0 hx
theorem Xcf {vars:List Vr} {nh:Nat} {d c v n:Int} {t:Tm} {a b:List St} {bs:List Int} {l:List St} {top:Bool} (h:ssC vars nh (.mk d c v n t a b bs::l) top=0):
  shB vars nh d v n t a.length b.length bs (top&&l.isEmpty)=true∧X2L d c n bs=true∧X0G vars false t=0∧ssC vars nh a false=0∧ssC vars nh b false=0∧ssC vars nh l top=0:=by
 simp only[ssC]at h;split at h
 · rename_i h0;split at h
   · rename_i ha;split at h
     · rename_i hb;unfold stC at h0;split at h0
       · cases h0
       rename_i hs;split at h0
       · cases h0
       rename_i hn;exact⟨by simpa using hs,by simpa using hn,h0,ha,hb,h⟩
     rename_i hb;exact absurd h hb
   rename_i ha;exact absurd h ha
 rename_i h0;exact absurd h h0
theorem X6o {vars:List Vr} {nh:Nat} {d v n:Int} {t:Tm} {la lb_:Nat} {bs:List Int} {last:Bool} (h:shB vars nh d v n t la lb_ bs last=true) (hd:d=0∨d=5):QV vars v=true∧(d=5→0≤n∧n<nh):=by
 unfold shB at h;rcases hd with rfl|rfl
 · simp only[if_true,Bool.and_eq_true]at h;exact⟨h.1.1.2,fun h=>by cases h⟩
 simp only[show ¬(5:Int)=0 by decide,show ¬(5:Int)=1 by decide,show ¬(5:Int)=2 by decide,show ¬(5:Int)=3 by decide,show ¬(5:Int)=4 by decide,if_true,if_false,Bool.and_eq_true,decide_eq_true_eq]at h;exact⟨h.1.1.1.1.2,fun _=>⟨h.1.1.1.2,h.1.1.2⟩⟩
theorem numB_in {d c n:Int} {bs:List Int} (h:X2L d c n bs=true):0≤c∧(d=4→0≤n∧n≤4096):=by
 unfold X2L at h;simp only[Bool.and_eq_true,Bool.not_eq_true',Bool.or_eq_false_iff,Bool.and_eq_false_iff,decide_eq_false_iff_not]at h;refine⟨by omega,fun h4=>?_⟩;rcases h.1.2 with h1|h1
 · exact absurd h4 h1
 omega
theorem X7t {vars:List Vr} {nh:Nat}:∀(l:List St) (top:Bool),ssC vars nh l top=0→Wm l=true→wfL vars nh l=true
 |[],_,_,_=>by simp[wfL]
 | .mk d c v n t a b bs::l,top,h,hb=>by
   obtain⟨hs,hn,ht,ha,hb',hl⟩:=Xcf h;simp only[Wm,X0B,Bool.and_eq_true,decide_eq_true_eq]at hb;have ia:=X7t a false ha hb.1.2.1;have ib:=X7t b false hb' hb.1.2.2;have il:=X7t l top hl hb.2;have hn4:=(numB_in hn).2;simp only[wfL,wfS,ia,ib,il,X5Q ht,Bool.and_true,Bool.true_and,Bool.and_eq_true,Bool.or_eq_true,decide_eq_true_eq];refine⟨?_,?_,?_,hb.1.1⟩
   · by_cases hd:d=0∨d=5
     · exact .inr (X6o hs hd).1
     exact .inl ⟨fun h=>hd (.inl h),fun h=>hd (.inr h)⟩
   · by_cases hd:d=5
     · exact .inr ((X6o hs (.inr hd)).2 hd)
     exact .inl hd
   by_cases hd:d=4
   · exact .inr (hn4 hd).2
   exact .inl hd
theorem X81:∀(l:List St) (p:B3),okL l=true→0≤p.o→mn (bdL CR l p).o 9=mn (p.o+(oUL l:Int)) 9
 |[],p,_,_=>by simp[bdL,oUL]
 | .mk d c v n t a b bs::l,p,h,hp=>by
   simp only[okL,okS,Bool.and_eq_true,Bool.or_eq_true,decide_eq_true_eq]at h;have ha:=X81 a ⟨0,0,0⟩ h.1.2.2.1 (Int.le_refl 0);have hb:=X81 b ⟨0,0,0⟩ h.1.2.2.2 (Int.le_refl 0);have na:=Zv (Zu X4u a _ h.1.2.2.1 (Z9 X4u));have nb:=Zv (Zu X4u b _ h.1.2.2.2 (Z9 X4u));simp only[bdL,bdS,oUL,oUS];generalize bdL CR a ⟨0,0,0⟩=A at*;generalize bdL CR b ⟨0,0,0⟩=B at*;simp only[Int.zero_add]at ha hb
   have key:0≤(bd1 d c n A B).o∧mn (bd1 d c n A B).o 9=mn (((if d=4 then n.toNat*oUL a else if d=3 then max (oUL a) (oUL b)else if d=1 then 1 else 0:Nat)):Int) 9:=by
    unfold nn3 at na nb;unfold bd1;by_cases h4:d=4
    · have hn:0≤n:=by omega
      rw[if_pos h4,if_pos h4];refine⟨Int.mul_nonneg hn na.2.1,?_⟩;have e:=X5d (C:=9) hn na.2.1 (Int.natCast_nonneg (oUL a)) (Int.le_refl 0) (Int.le_refl 0) ha;simp only[Int.zero_add]at e;rw[e,Int.natCast_mul,Int.toNat_of_nonneg hn]
    rw[if_neg h4,if_neg h4];by_cases h3:d=3
    · rw[if_pos h3,if_pos h3];simp only[mx,mn]at ha hb⊢;have e:((max (oUL a) (oUL b):Nat):Int)=max (oUL a:Int) (oUL b:Int):=by omega
      rw[e];refine⟨by split<;>omega,?_⟩
      (repeat' split at ha)<;>(repeat' split at hb)<;>(repeat' split)<;>omega
    rw[if_neg h3,if_neg h3];split<;>exact⟨by simp only;omega,rfl⟩
   obtain⟨k0,k1⟩:=key;generalize(bd1 d c n A B)=X at*;generalize(if d=4 then n.toNat*oUL a else if d=3 then max (oUL a) (oUL b)else if d=1 then 1 else 0:Nat)=K at*
   have e:0≤(Ql CR p X).o∧mn (Ql CR p X).o 9=mn (p.o+K) 9:=by
    simp only[Ql,CR];simp only[mn]at k1⊢;refine⟨by split<;>omega,?_⟩
    (repeat' split at k1)<;>(repeat' split)<;>omega
   have il:=X81 l (Ql CR p X) h.2 e.1;rw[il];have e2:=e.2;generalize(Ql CR p X).o=Y at*;simp only[mn]at e2⊢;rw[Int.natCast_add]
   (repeat' split at e2)<;>(repeat' split)<;>omega
theorem Wn {f:Fl} (h:Qb f=0):X0Z f=true∧ZI f.vars=0∧hcs f.vars [] f.hats=0∧ssC f.vars f.hats.length f.body true=0∧X7g f.body=false:=by
 unfold Qb at h;split at h
 · cases h
 rename_i hs;split at h
 · rename_i hv;split at h
   · rename_i hh;split at h
     · rename_i hb;split at h
       · cases h
       rename_i ho;exact⟨by simpa using hs,hv,hh,hb,by simpa using ho⟩
     rename_i hb;exact absurd h hb
   rename_i hh;exact absurd h hh
 rename_i hv;exact absurd h hv
theorem XaN {l:List St} (h:X7g l=false):(bdL CR l ⟨0,0,0⟩).s≤4096∧(bdL CR l ⟨0,0,0⟩).o≤8∧(bdL CR l ⟨0,0,0⟩).t≤67108864:=by
 unfold X7g at h;simp only[Bool.or_eq_false_iff,decide_eq_false_iff_not,Int.not_lt]at h;exact⟨h.1,h.2.1,h.2.2⟩
theorem X86 {f:Fl} (hb:Wm f.body=true) (h:Qb f=0):wfL f.vars f.hats.length f.body=true∧oUL f.body≤2000000∧∀h∈f.hats,QS f.vars true h.term=true:=by
 obtain⟨_,_,hh,hs,ho⟩:=Wn h;have h8:=(XaN ho).2.1;have hc:=X81 f.body ⟨0,0,0⟩ (X2u _ _ hs) (Int.le_refl 0);refine⟨X7t _ _ hs hb,?_,X8t _ _ hh⟩;simp only[Int.zero_add,mn]at hc
 (repeat' split at hc)<;>omega
end Go.Proofs.YtppjennamodfdaaGreat

namespace Go.Proofs.YtppjennamodfdaaGreat
open Go Go.Hl
structure Sm (f:Fl):Prop where
 vars:f.vars.length≤1000
 hats:f.hats.length≤1000
 nodes:Xl f.body+QI f.hats≤1000
 bnd:Wm f.body=true
mutual
theorem szN_le:∀s:St,szN s≤2*szS s
 | .mk _ _ _ _ _ a b _=>by have:=X2U a;have:=X2U b;simp only[szN,szS];omega
theorem X2U:∀l:List St,X08 l≤2*szL l
 |[]=>by simp[X08]
 |s::l=>by have:=szN_le s;have:=X2U l;simp only[X08,szL];omega
end
theorem Sm.sz {f:Fl} (h:Sm f):szL f.body≤1000:=Nat.le_trans (Qw f.body) (by have:=h.nodes;omega)
theorem X1R {f:Fl} (h:Qb f=0):gL f.body=true:=X9a f.body true (Wn h).2.2.2.1
mutual
theorem wdS_le:∀s:St,wdS s≤2*szS s
 | .mk o _ _ _ _ a b _=>by have:=X2v a;have:=X2v b;simp only[wdS,szS];split<;>omega
theorem X2v:∀l:List St,wdL l≤2*szL l
 |[]=>by simp[wdL]
 |s::l=>by have:=wdS_le s;have:=X2v l;simp only[wdL,szL];omega
end
theorem X3j {l:List St} (h:gL l=true):(grN l).length=2+wdL l:=by
 simp only[grN,List.length_cons,List.length_append,W5 l _ _ _ h,List.length_nil];omega
abbrev grC (l:List St):CD:=.sl 4 (XG (grN l))
theorem X7v (f:Fl) (h:Sm f) (d:Nat):Con Tryz.prog 122 false [aF f] (.tup [.agg [.c (if Qb f=0 then grC f.body else .lit XY)],li (Qb f)]) none d:=by
 have cc:=X5u f (by have:=h.vars;omega) (by have:=h.hats;omega) (by have:=h.nodes;omega) h.bnd;have cb:=X6N f (by have:=h.sz;have:=X2U f.body;omega);have hg:=@X1R f;have he:=Xbe f.body;obtain⟨vars,hats,body⟩:=f;simp only at he hg;obtain⟨C,hC⟩:∃x,Qb ⟨vars,hats,body⟩=x:=⟨_,rfl⟩;rw[hC]at cc hg⊢;refine X7 Tryz.func122 ?_;simp only[Tryz.f122];simp only[aF,Fl.enc,List.map_cons,List.map_nil]at cc cb⊢;refine X4 ?_;refine X0<|X0<|(Xp [⟨true,.v (li C),none⟩] ?_ ?_)
 · first|exact cc _|exact trivial|simpa[*]using cc _
 refine X4 ?_;refine(Xe rfl (fun h3=>?_) fun h3=>?_)
 · (try simp only[BN]at h3);have hz:¬C=0:=by simpa using h3
   clear h3 he hg cb;refine X0<|(Xn (by simp[*,XD,Qd,XQ,cellsOf,Qe];rfl) ?_);exact XU ⟨.inr rfl,_,le_refl _,⟨_,by simp;rfl,by simp[XN,hz,XY,li]⟩,by simp,fun h=>by cases h⟩
 (try simp only[BN]at h3);have hz:C=0:=by simpa using h3
 have he:=he (hg hz);rw[he]at cb;clear h3 he hg;refine X0<|(QR [⟨false,.v (.agg [.c (.sl 4 (XG (grN body)))]),none⟩] (by simp[*,cellsOf,Qe];first|exact⟨rfl,Iff.rfl⟩|exact⟨rfl,trivial⟩|rfl) ?_ ?_)
 · first|exact cb _|exact trivial|simpa[*,cellsOf,Qe]using cb _
 exact XU ⟨.inr rfl,_,le_refl _,⟨_,by simp;rfl,by simp[XN,hz,li]⟩,by simp,fun h=>by cases h⟩
@[simp] theorem fsN:flatS Tryz.prog 143=some [true,true,true,true]:=by kernel_rfl
@[simp] theorem arN:arrI Tryz.prog 143=none:=by kernel_rfl
theorem eqN_con (a:List Nd) (ha:a.length≤1000000000) (d:Nat):Con Tryz.prog 170 true [.one (.c (.sl 4 (XG a))),.one (.c (.sl 4 (XG a)))] (.v (lb true)) none d:=by
 refine X7 Tryz.func170 ?_;simp only[Tryz.f170];refine X4 ?_;refine X0<|X0<|X3 ?_;refine(Xe rfl (fun h2=>?_) fun h2=>?_)
 · cases h2
 (try simp only[BN]at h2);refine X0<|X0<|X3 ?_;refine X5<|(Xd [0,1,12] (fun(z:Nat)=>[(13,.v (li z))]) (fun z=>[]) (fun z=>z≤a.length) (fun z=>a.length - z) (0:Nat) (Nat.zero_le _) ?_ ?_)
 · exact X6 (fun n=>n) []
 rintro k hk;simp only[upS,X8,Xy]
 try simp only[X8,KN,Nat.reduceBEq,if_true,if_false,ins,Nat.reduceLT]
 refine X4 ?_;refine X0<|(X9 rfl (fun h8=>Xb ?_) (fun h8=>?_))
 · (try simp only[BN]at h8);have hlt:k<a.length:=by omega
   obtain⟨x,he,_⟩:=Xq hlt;have hw1:=XA hlt (by omega);have hk1:k+1≤a.length:=hlt;have he':=ZK he;simp only[Nd.enc]at he';clear hlt h8 he;refine X0<|X5<|X0<|X3 ?_;refine X0<|(Q6 (by kernel_rfl) (by kernel_rfl) (by rfl) (by simp[*];rfl) ?_);refine(Xe rfl (fun h11=>?_) fun h11=>?_)
   · cases h11
   (try simp only[BN]at h11);refine X3 ?_;exact⟨k+1,hk1,by omega,X6 (fun n=>n) []⟩
 (try simp only[BN]at h8);refine(Xg ?_);refine X4 ?_;exact Xh
theorem X7W (f:Fl) (h:Sm f) (h0:Qb f=0) (d:Nat):Con Tryz.prog 147 true [aF f,.agg [.c (grC f.body)]] (.v (li 0)) none d:=by
 have cc:=X5u f (by have:=h.vars;omega) (by have:=h.hats;omega) (by have:=h.nodes;omega) h.bnd;have cb:=X6N f (by have:=h.sz;have:=X2U f.body;omega);rw[Xbe f.body (X1R h0)]at cb;have hlen:=X3j (X1R h0);have ce:=eqN_con (grN f.body) (by have:=h.sz;have:=X2v f.body;omega);obtain⟨vars,hats,body⟩:=f;rw[h0]at cc;clear h h0 hlen;simp only at ce cb;refine X7 Tryz.func147 ?_;simp only[Tryz.f147];simp only[aF,Fl.enc,List.map_cons,List.map_nil]at cc cb⊢;refine X4 ?_;refine X0<|X0<|(Xp [⟨true,.v (li 0),none⟩] ?_ ?_)
 · first|exact cc _|exact trivial|simpa[*]using cc _
 refine X4 ?_;refine(Xe rfl (fun h3=>?_) fun h3=>?_)
 · exact Bool.noConfusion h3
 (try simp only[BN]at h3);refine X0<|X0<|(Qk [⟨false,.v (.agg [.c (.sl 4 (XG (grN body)))]),none⟩,⟨true,.v (lb true),none⟩] (by kernel_rfl) (by kernel_rfl) (by rfl) (by simp[*];first|exact⟨rfl,Iff.rfl⟩|exact⟨rfl,trivial⟩|rfl) ?_ ?_)
 · first|exact⟨cb _,ce _⟩|exact trivial|(repeat' first|exact trivial|exact cb _|exact ce _|apply And.intro)
 refine(Xe rfl (fun h7=>?_) fun h7=>?_)
 · exact Bool.noConfusion h7
 (try simp only[BN]at h7);refine X4 ?_;exact Xh
end Go.Proofs.YtppjennamodfdaaGreat

namespace Go.Proofs.YtppjennamodfdaaGreat
open Go Go.Hl
mutual
def flS:St→List St
 | .mk d c v n t a b bs=>.mk d c v n t a b bs::(flL a++flL b)
def flL:List St→List St
 |[]=>[]
 |s::l=>flS s++flL l
end
theorem XaA (s:St):flS s=s::(flL s.then_++flL s.else_):=by cases s;rfl
mutual
theorem Xbp:∀s:St,(flS s).length=szS s
 | .mk _ _ _ _ _ a b _=>by simp only[flS,szS,List.length_cons,List.length_append,XK a,XK b];omega
theorem XK:∀l:List St,(flL l).length=szL l
 |[]=>rfl
 |s::l=>by simp only[flL,szL,List.length_append,Xbp s,XK l]
end
theorem Qu (a b:List St):Xa (a++b)=Xa a++Xa b:=by rw[W2,W2,W2,List.map_append]
theorem X8L (l:List St):szL l≤1000→∀d:Nat,Con Tryz.prog 148 false [lS l] (.v (lS (flL l))) none d:=by
 revert l
 apply St.lists;intro l ih hn d;have hlen:=X5a l;obtain⟨res,hres⟩:∃r,flL l=r:=⟨_,rfl⟩;rw[hres];refine X7 Tryz.func148 ?_;simp only[Tryz.f148];refine X0<|(Xn (by simp[*,Qu,Xa];rfl) ?_);refine X0<|(Xn (by simp[*,Qu,Xa];rfl) ?_);refine X0<|X0<|(Xn (by simp[*,Qu,Xa];rfl) ?_);refine X5<|(Xd [6,7] (fun(x:Nat×List St)=>[(3,.v (.one (.own 1003))),(8,.v (li x.1))]) (fun x=>[(1003,.row 76 10 (Xa x.2))]) (fun x=>x.1≤l.length∧x.2++flL (l.drop x.1)=res∧x.2.length+szL (l.drop x.1)≤1000) (fun x=>l.length - x.1) (0,[]) ⟨Nat.zero_le _,by simpa using hres,by simpa using hn⟩ ?_ ?_)
 · exact Xu (fun n=>n) [1003] rfl (by simp[*,upS,X8,Qu,Xa]) (by simp[*,upS]) (by simp[upS])
 rintro⟨k,acc⟩ ⟨hk,hJ,hal⟩;simp only[upS,X8,Xy]
 try simp only[X8,KN,Nat.reduceBEq,if_true,if_false,ins,Nat.reduceLT]
 simp only at hk hJ hal;clear hres;refine X0<|(Xn (by simp[*,Qu,Xa];rfl) ?_);refine X0<|(X9 rfl (fun h5=>Xb ?_) (fun h5=>?_))
 · (try simp only[BN]at h5);have hlt:k<l.length:=by omega
   obtain⟨s,he,hd⟩:=Xq hlt;have hw1:=XA hlt (by omega);have hk1:k+1≤l.length:=hlt;have hmem:s∈l:=List.mem_of_getElem? he;rw[hd]at hJ hal;simp only[flL,XaA]at hJ;simp only[szL]at hal;have he':=XX he;have iha:=(ih s hmem).1;have ihb:=(ih s hmem).2;obtain⟨so,sc,sv,sn,⟨to,tn,tk⟩,sa,sb,sbs⟩:=s;simp only[St.then_,St.else_]at iha ihb hJ;simp only[szS]at hal;have iha:=iha (by omega);have ihb:=ihb (by omega);have la:=XK sa;have lb:=XK sb;obtain⟨A,hA⟩:∃x,flL sa=x:=⟨_,rfl⟩;obtain⟨B,hB⟩:∃x,flL sb=x:=⟨_,rfl⟩;rw[hA]at iha hJ la;rw[hB]at ihb hJ lb;have r1:Qa (acc.length+1) 144:=Xx (by omega) (by decide);have r2:Qa (acc.length+1+A.length) 144:=Xx (by omega) (by decide);have r3:Qa (acc.length+(A.length+1)+B.length) 144:=Xx (by omega) (by decide);rw[la]at r2 r3;rw[lb]at r3;simp only[St.enc,Tm.enc,List.cons_append,List.nil_append]at he';clear hlt h5 ih hmem he hd hA hB;refine X0<|X5<|X0<|(Xn (by simp[*,Qu,Xa];rfl) ?_);refine X0<|(Xn (by simp[*,Qu,Xa,XD,Qd,XQ];rfl) ?_);refine X0<|(QR [⟨false,.v (lS A),none⟩] (by simp[*,Qu,Xa];first|exact⟨rfl,Iff.rfl⟩|exact⟨rfl,trivial⟩|rfl) ?_ ?_)
   · first|exact iha _|exact trivial|simpa[*,Qu,Xa]using iha _
   refine(QR [⟨false,.v (lS B),none⟩] (by simp[*,Qu,Xa];first|exact⟨rfl,Iff.rfl⟩|exact⟨rfl,trivial⟩|rfl) ?_ ?_)
   · first|exact ihb _|exact trivial|simpa[*,Qu,Xa]using ihb _
   refine(Xn (by simp[*,Qu,Xa];rfl) ?_);exact⟨(k+1,acc++(.mk so sc sv sn (.mk to tn tk) sa sb sbs::(A++B))),⟨hk1,by simpa using hJ,by simp only[List.length_append,List.length_cons];omega⟩,by simp only;omega,Xu (fun n=>if n=1003 then 25 else n) [] rfl (by simp[upS,X8, *,Qu,Xa]) (by simp[*,upS,Qu,Xa]) (by simp[upS])⟩
 (try simp only[BN]at h5);have hkl:k=l.length:=by omega
 subst hkl;simp only[List.drop_length,flL,List.append_nil]at hJ;subst hJ;clear h5 ih;refine(Xg ?_);refine XC (XR 1003 rfl) ?_;refine X0<|(Xn (by simp[*,Qu,Xa];rfl) ?_);exact XU ⟨.inr rfl,_,le_refl _,⟨⟨_,by simp;rfl,by simp[XN]⟩,by simp,fun h=>by cases h⟩⟩
end Go.Proofs.YtppjennamodfdaaGreat

namespace Go.Proofs.YtppjennamodfdaaGreat
open Go Go.Hl
def Qx (steps:List St) (d:Nat):Int:=match steps[d]? with
 |some s=>s.var
 |none=>(d:Int) - steps.length
def XB (l:List Nat):List (List CD):=l.map fun d:Nat=>[iC d]
@[simp] theorem len_encD (l:List Nat):(XB l).length=l.length:=by simp[XB]
@[simp] theorem X5L (a b:List Nat):XB (a++b)=XB a++XB b:=by simp[XB]
@[simp] theorem X2W:XB []=[]:=rfl
@[simp] theorem encD_one (a:Nat):XB [a]=[[iC a]]:=rfl
def mpI (l:List Nat):List (Value×CD):=l.map fun d:Nat=>(.int .i64 d,bC true)
@[simp] theorem X56 (l:List Nat):(mpI l).length=l.length:=by simp[mpI]
theorem X5c {l:List Nat} {j:Nat} {k:Value} {v:CD} (h:(mpI l)[j]? =some (k,v)):∃d:Nat,l[j]? =some d∧k=.int .i64 d∧v=bC true:=by
 simp only[mpI,List.getElem?_map,Option.map_eq_some_iff]at h;obtain⟨d,hd,he⟩:=h;cases he;exact⟨d,hd,rfl,rfl⟩
def setsC (S:List (List Nat)):CD:=.sl 1 (S.map fun l=>[.mp (mpI l)])
theorem X8X {steps:List St} {d:Nat} (s:St) (h:steps[d]? =some s):Qx steps d=s.var:=by simp[Qx,h]
theorem X9k {steps:List St} {d:Nat} (h:steps.length≤d):Qx steps d=(d:Int) - steps.length:=by simp[Qx,List.getElem?_eq_none h]
theorem X7N (steps:List St) (n:Nat) (hn:n≤1000000) (hl:steps.length≤1000000) (d:Nat):Con Tryz.prog 149 true [li n,.one (.c (.ptr [.sl 10 (Xa steps)]))] (.v (li (Qx steps n))) none d:=by
 obtain⟨res,hres⟩:∃x,Qx steps n=x:=⟨_,rfl⟩;rw[hres];refine X7 Tryz.func149 ?_;simp only[Tryz.f149];refine X4 ?_;refine X0<|X0<|X3 ?_;refine(Xe rfl (fun h2=>?_) fun h2=>?_)
 · (try simp only[BN]at h2);have hge:steps.length≤n:=by simpa using h2
   rw[X9k hge]at hres;have hw:IntKind.i64.wrap ((n:Int) - steps.length)=(n:Int) - steps.length:=Xc (by omega) (by omega);clear h2;refine X4 ?_;exact Xh
 (try simp only[BN]at h2);have hlt:n<steps.length:=by simpa using h2
 obtain⟨s,he,_⟩:=Xq hlt;have he':=XX he;rw[X8X s he]at hres;obtain⟨so,sc,sv,sn,⟨to,tn,tk⟩,sa,sb,sbs⟩:=s;simp only[St.enc,Tm.enc,List.cons_append,List.nil_append]at he';simp only[St.var]at hres;clear h2 he hlt;refine X4 ?_;exact Xh
def Qp (steps:List St) (x:Nd):Bool:=decide (x.k=2)&&(match steps[x.a.toNat]? with
 |some s=>decide (s.do_=0)||decide (s.do_=5)
 |none=>false)
def X0I (steps:List St) (x:Nd):Int:=match steps[x.a.toNat]? with
 |some s=>s.var
 |none=>0
def X4W (steps:List St) (nv:Nat) (Si:List Nat) (x:Nd):List Nat:=
 if x.k=0 then(List.range nv).map fun v=>steps.length+v
 else Si.filter (fun d=> !Qp steps x||decide (Qx steps d≠X0I steps x))++if Qp steps x=true then [x.a.toNat] else []
def aftΦ (steps:List St) (nv:Nat) (Si:List Nat) (x:Nd) (l:List Nat):Prop:=(∀d,d∈l↔d∈X4W steps nv Si x)∧l.length≤5000
theorem QD {seen:List Nat} {n:Nat} (h:seen.Nodup) (hl:∀j∈seen,j<n):seen.length≤n:=by
 induction n generalizing seen with
 | zero=>
   cases seen with
   |nil=>simp
   |cons x l=>exact absurd (hl x (by simp)) (by omega)
 | succ n ih=>
   have h1:=ih (h.erase n) fun j hj=>by
    have h2:=(h.mem_erase_iff).1 hj;have:=hl j h2.2;omega
   have:=List.length_erase_of_mem (a:=n) (l:=seen);by_cases hm:n∈seen
   · rw[this hm]at h1;omega
   rw[List.erase_of_not_mem hm]at h1;omega
abbrev kC (steps:List St):CD:=.fn 149 [.ptr [.sl 10 (Xa steps)]]
theorem out_all {Si seen out:List Nat} {p:Nat→Bool} (hall:∀j:Nat,j<(mpI Si).length→j∈seen) (h:∀d,d∈out↔∃j∈seen,Si[j]? =some d∧p d=true) (d:Nat):d∈out↔d∈Si.filter p:=by
 rw[h,List.mem_filter];constructor
 · rintro⟨j,_,h1,h2⟩;exact⟨List.mem_of_getElem? h1,h2⟩
 rintro⟨h1,h2⟩;obtain⟨j,hj⟩:=List.mem_iff_getElem?.1 h1;exact⟨j,hall j (by rw[X56];exact(List.getElem?_eq_some_iff.1 hj).1),hj,h2⟩
theorem X3S (l:List Nat):(Ob.row 3 1 (XB l)).lits:=by
 intro r hr c hc;simp only[XB,List.mem_map]at hr;obtain⟨_,_,rfl⟩:=hr;rw[List.mem_singleton.1 hc];exact⟨_,rfl⟩
def X01 (l:List Nat) (n:Nat):Prop:=∀j∈l,j<n
set_option maxHeartbeats 4000000 in
theorem XcG (f:Fl) (N:List Nd) (steps:List St) (S:List (List Nat)) (i:Nat) (x:Nd) (Si:List Nat) (hx:N[i]? =some x) (hS:S[i]? =some Si) (hs:steps.length≤1000) (hv:f.vars.length≤1000) (hSi:Si.length≤2000) (hSb:∀d∈Si,d≤1000000) (ha:(x.k≠2∧x.a=-1)∨∃m:Nat,x.a=m∧m<steps.length) (dd:Nat) (hdd:dd<1000000):
  ConF (X:=List Nat) Tryz.prog 150 true [li i,.one (.c (.ptr [.sl 4 (XG N)])),.one (.c (.ptr f.enc)),.one (.c (.ptr [.sl 10 (Xa steps)])),.one (.c (.ptr [setsC S])),.one (.c (.ptr [kC steps]))] (aftΦ steps f.vars.length Si x) (fun _=>.v (.one (.own dd))) (fun l=>some (.row 3 1 (XB l))) dd:=by
 have hx':=ZK hx;have hSr:(S.map fun l=>[CD.mp (mpI l)])[i]? =some [CD.mp (mpI Si)]:=by simp[hS]
 obtain⟨vars,hats,body⟩:=f;obtain⟨xk,xa,xn,xo⟩:=x;simp only at hv;simp only[Nd.enc]at hx';clear hx hS;refine X9v Tryz.func150 rfl (by kernel_rfl) (Nat.le_of_ble_eq_true rfl) ?_;simp only[Tryz.f150];simp only[Fl.enc,setsC];refine X4 ?_;refine X4 ?_;refine X4 ?_;refine X0<|X0<|X3 ?_;refine(Xe rfl (fun h4=>?_) fun h4=>?_)
 · (try simp only[BN]at h4);have hk:xk=0:=by simpa using h4
   clear h4 ha;refine X0<|X0<|X3 ?_;refine X5<|(Xd [3,23] (fun(y:Nat)=>[(9,.v (.one (.own 900001))),(24,.v (li y))]) (fun y=>[(900001,.row 3 1 (XB ((List.range y).map fun v=>steps.length+v)))]) (fun y=>y≤vars.length) (fun y=>vars.length - y) (0:Nat) (Nat.zero_le _) ?_ ?_)
   · exact X6 (fun n=>n) [900001]
   rintro y hy;simp only[upS,X8,Xy]
   try simp only[X8,KN,Nat.reduceBEq,if_true,if_false,ins,Nat.reduceLT]
   refine X4 ?_;refine X0<|(X9 rfl (fun h8=>Xb ?_) (fun h8=>?_))
   · (try simp only[BN]at h8);have hlt:y<vars.length:=by omega
     have hw1:=XA hlt (by omega);have hk1:y+1≤vars.length:=hlt;have hw2:IntKind.i64.wrap ((steps.length:Int)+y)=steps.length+y:=Xc (by omega) (by omega);have hroom:Qa (y+1) 8:=Xx (by omega) (by decide)
     have hsn:XB ((List.range (y+1)).map fun v=>steps.length+v)=XB ((List.range y).map fun v=>steps.length+v)++[[iC ((steps.length:Int)+y)]]:=by
      rw[List.range_succ,List.map_append,X5L];simp
     clear hlt h8 hx' hSr;refine X0<|X5<|X0<|X3 ?_;refine X3 ?_;refine X3 ?_;exact⟨y+1,hk1,by omega,X6 (fun n=>if n=900001 then 33 else n) []⟩
   (try simp only[BN]at h8);have hkl:y=vars.length:=by omega
   subst hkl;refine(Xg ?_);refine X4 ?_;exact XU ⟨.inr rfl,(List.range vars.length).map fun v=>steps.length+v,⟨fun d=>by simp only[X4W,if_pos hk],by simp;omega⟩,_,X7O 7 900001 dd (by simp) rfl hdd,⟨⟨_,by simp;rfl,by simp[XN]⟩,by simp,fun _=>⟨rfl,fun o ho=>by cases ho;exact X3S _⟩⟩⟩
 (try simp only[BN]at h4);have hk:¬xk=0:=by simpa using h4
 clear h4;refine XO [0,3,4,5,8,9] (fun(z:Bool)=>[(11,.v (lb z))]) (fun(z:Bool)=>[(8,.box [.c (iC xk),.c (iC xa),.c (iC xn),.c (iC xo)])]) (fun(z:Bool)=>z=Qp steps ⟨xk,xa,xn,xo⟩) ?_ ?_
 · rcases ha with⟨h2,rfl⟩|⟨m,rfl,hm⟩
   · simp only at h2;refine XS ?_;refine RunsN.cutE 7 [] (by simp[*];rfl) trivial (le_refl _) ?_;refine RunsN.skip (.bool false) (by simp[QM]) (by rfl) ?_;refine RunsN.skip (.bool false) (by simp[QM]) (by rfl) ?_;refine RunsN.skip (.bool false) (by simp[QM]) (by rfl) ?_;refine RunsN.skip (.bool false) (by simp[QM]) (by rfl) ?_;refine RunsN.skip (.bool false) (by simp[QM]) (by rfl) ?_;refine RunsN.cutE 3 [] (by simp[*];rfl) trivial (le_refl _) ?_;refine RunsN.skip (.bool false) (by simp[QM]) (by rfl) ?_;refine RunsN.skip (.bool false) (by simp[QM]) (by rfl) ?_;refine RunsN.skip (.bool false) (by simp[QM]) (by rfl) ?_;refine RunsN.skip (.bool false) (by simp[QM]) (by rfl) ?_;refine RunsN.doneE [] (by simp[*];rfl) trivial ?_;refine⟨_,rfl,Xu (fun n=>n) [] rfl (by simp[upS,X8,Qp,h2]) (by simp[upS]) (by simp[upS])⟩
   obtain⟨q,he,_⟩:=Xq hm;have he':=XX he;obtain⟨so,sc,sv,sn,⟨to,tn,tk⟩,sa,sb,sbs⟩:=q;simp only[St.enc,Tm.enc,List.cons_append,List.nil_append]at he';clear hm;by_cases h2:xk=2
   · refine Xn (by simp[*];rfl) ?_;refine⟨_,rfl,Xu (fun n=>n) [] rfl (by simp[upS,X8,Qp,h2,he,St.do_]<;>rfl) (by simp[upS,h2]) (by simp[upS])⟩
   refine Xn (by simp[*];rfl) ?_;refine⟨_,rfl,Xu (fun n=>n) [] rfl (by simp[upS,X8,Qp,h2]) (by simp[upS]) (by simp[upS])⟩
 rintro z hz;simp only[upS,X8,Xy]
 try simp only[X8,KN,Nat.reduceBEq,if_true,if_false,ins,Nat.reduceLT]
 have hz2:(xa=-1∧z=false)∨∃(m:Nat) (o c v n t1 t2:Int) (tk:List Tm) (sa sb:List St) (sbs:List Int),xa=m∧(Xa steps)[m]? =some [iC o,iC c,iC v,iC n,iC t1,iC t2,.sl 3 (Xo tk),.sl 10 (Xa sa),.sl 10 (Xa sb),.sl 1 (Xj sbs)]∧X0I steps ⟨xk,xa,xn,xo⟩=v:=by
  rcases ha with⟨h2,rfl⟩|⟨m,rfl,hm⟩
  · refine .inl ⟨rfl,?_⟩;simp only at h2;rw[hz];simp[Qp,h2]
  obtain⟨q,he,_⟩:=Xq hm;have he':=XX he;obtain⟨so,sc,sv,sn,⟨to,tn,tk⟩,sa,sb,sbs⟩:=q;exact .inr ⟨m,so,sc,sv,sn,to,tn,tk,sa,sb,sbs,rfl,he',by simp[X0I,he,St.var]⟩
 obtain⟨V,hV⟩:∃x,X0I steps ⟨xk,xa,xn,xo⟩=x:=⟨_,rfl⟩
 have haft:∀d,d∈X4W steps vars.length Si ⟨xk,xa,xn,xo⟩↔d∈Si.filter (fun d=> !z||decide (Qx steps d≠V))++if z=true then [xa.toNat] else []:=by
  intro d;simp only[X4W,if_neg hk,←hz,hV]
 rw[hV]at hz2;clear hz hV ha;refine X0<|X0<|X3 ?_;refine X5<|(Xd [3,5,8,11,61] (fun(y:List Nat×List Nat)=>[(9,.v (.one (.own 900001)))]) (fun y=>[(8,.box [.c (iC xk),.c (iC xa),.c (iC xn),.c (iC xo)]),(61,.it (mpI Si) y.1),(900001,.row 3 1 (XB y.2))]) (fun y=>y.1.Nodup∧X01 y.1 Si.length∧(∀d,d∈y.2↔∃j∈y.1,Si[j]? =some d∧(!z||decide (Qx steps d≠V))=true)∧y.2.length≤y.1.length) (fun y=>Si.length - y.1.length) ([],[]) ⟨List.nodup_nil,by simp[X01],by simp,Nat.le_refl _⟩ ?_ ?_)
 · exact X6 (fun n=>n) [900001]
 rintro⟨seen,out⟩ ⟨j1,j2,j3,j4⟩;simp only[upS,X8,Xy]
 try simp only[X8,KN,Nat.reduceBEq,if_true,if_false,ins,Nat.reduceLT]
 simp only at j1 j2 j3 j4;refine X1K (fun j k v hj hn=>?_) (fun hall=>?_)
 skip
 · (try simp only[BN]at h19);obtain⟨d,hd,rfl,rfl⟩:=X5c hj;have hjl:j<Si.length:=(List.getElem?_eq_some_iff.1 hd).1
   have hnd:(seen++[j]).Nodup:=by
    rw[List.nodup_append];exact⟨j1,by simp,fun a ha b hb=>by rw[List.mem_singleton.1 hb];exact fun e=>hn (e▸ha)⟩
   have hin:X01 (seen++[j]) Si.length:=fun i hi=>by
    rcases List.mem_append.1 hi with h|h
    · exact j2 i h
    rw[List.mem_singleton.1 h];exact hjl
   have hle:=QD hnd hin;simp only[List.length_append,List.length_singleton]at hle;have hroom:Qa (out.length+1) 8:=Xx (by omega) (by decide);have hdb:=hSb d (List.mem_of_getElem? hd);clear hjl;have cv:=X7N steps d hdb (by omega);refine X5<|X0<|X3 ?_;refine XO [3,5,8,9,11,12,61] (fun(q:Bool)=>[(79,.v (lb q))]) (fun(q:Bool)=>[(8,.box [.c (iC xk),.c (iC xa),.c (iC xn),.c (iC xo)]),(61,.it (mpI Si) (seen++[j])),(900001,.row 3 1 (XB out))]) (fun(q:Bool)=>q=(!z||decide (Qx steps d≠V))) ?_ ?_
   · rcases hz2 with⟨rfl,rfl⟩|⟨m,po,pc,pv,pn,p1,p2,pk,pa,pb,pbs,rfl,he',rfl⟩
     · refine Wu [none] (by kernel_rfl) (by kernel_rfl) (by rfl) (by simp[*];first|exact⟨rfl,Iff.rfl⟩|exact⟨rfl,trivial⟩|rfl) ?_ ?_
       · trivial
       exact⟨_,rfl,Xu (fun n=>n) [] rfl (by simp[upS,X8]) (by simp[upS]) (by simp[upS])⟩
     cases z with
     | false=>
       refine Wu [none] (by kernel_rfl) (by kernel_rfl) (by rfl) (by simp[*];first|exact⟨rfl,Iff.rfl⟩|exact⟨rfl,trivial⟩|rfl) ?_ ?_
       · trivial
       exact⟨_,rfl,Xu (fun n=>n) [] rfl (by simp[upS,X8]) (by simp[upS]) (by simp[upS])⟩
     | true=>
       refine Qk [⟨true,.v (li (Qx steps d)),none⟩] (by kernel_rfl) (by kernel_rfl) (by rfl) (by simp[*];first|exact⟨rfl,Iff.rfl⟩|exact⟨rfl,trivial⟩|rfl) ?_ ?_
       · first|exact cv _|simpa using cv _
       exact⟨_,rfl,Xu (fun n=>n) [] rfl (by simp[upS,X8]) (by simp[upS]) (by simp[upS])⟩
   rintro q hq;simp only[upS,X8,Xy]
   try simp only[X8,KN,Nat.reduceBEq,if_true,if_false,ins,Nat.reduceLT]
   refine(Xe rfl (fun h22=>?_) fun h22=>?_)
   · (try simp only[BN]at h22);have hp:(!z||decide (Qx steps d≠V))=true:=by rw[←hq];simpa using h22
     have hmem:∀x,x∈out++[d]↔∃i∈seen++[j],Si[i]? =some x∧(!z||decide (Qx steps x≠V))=true:=by
      intro x;rw[List.mem_append,j3,List.mem_singleton];constructor
      · rintro(⟨i,h1,h2⟩|rfl)
        · exact⟨i,List.mem_append_left _ h1,h2⟩
        exact⟨j,by simp,hd,hp⟩
      rintro⟨i,h1,h2,h3⟩;rcases List.mem_append.1 h1 with h1|h1
      · exact .inl ⟨i,h1,h2,h3⟩
      rw[List.mem_singleton.1 h1,hd]at h2;exact .inr (Option.some.inj h2).symm
     refine X3 ?_;exact⟨(seen++[j],out++[d]),⟨hnd,hin,hmem,by simp only[List.length_append,List.length_singleton];omega⟩,by simp only[List.length_append,List.length_singleton];omega,X6 (fun n=>if n=900001 then 83 else n) []⟩
   (try simp only[BN]at h22);have hp:(!z||decide (Qx steps d≠V))=false:=by rw[←hq];simpa using h22
   have hmem:∀x,x∈out↔∃i∈seen++[j],Si[i]? =some x∧(!z||decide (Qx steps x≠V))=true:=by
    intro x;rw[j3];constructor
    · rintro⟨i,h1,h2⟩;exact⟨i,List.mem_append_left _ h1,h2⟩
    rintro⟨i,h1,h2,h3⟩;rcases List.mem_append.1 h1 with h1|h1
    · exact⟨i,h1,h2,h3⟩
    rw[List.mem_singleton.1 h1,hd]at h2;rw[←Option.some.inj h2,hp]at h3;cases h3
   exact⟨(seen++[j],out),⟨hnd,hin,hmem,by simp only[List.length_append,List.length_singleton];omega⟩,by simp only[List.length_append,List.length_singleton];omega,X6 (fun n=>n) []⟩
 (try simp only[BN]at h19);have hout:=out_all hall j3;have hle:=QD j1 j2;have hroom:Qa (out.length+1) 8:=Xx (by omega) (by decide);clear hall j1 j2 j3;refine(Xg ?_);refine X0<|X0<|X3 ?_;refine(Xe rfl (fun h27=>?_) fun h27=>?_)
 · (try simp only[BN]at h27);have hz':z=true:=by simpa using h27
   subst hz';obtain⟨m,po,pc,pv,pn,p1,p2,pk,pa,pb,pbs,rfl,_,_⟩:=hz2.resolve_left fun e=>Bool.noConfusion e.2;clear hz2;refine X3 ?_;refine X4 ?_;exact XU ⟨.inr rfl,out++[m],⟨fun d=>by rw[haft,List.mem_append,List.mem_append,hout];simp,by simp;omega⟩,_,X7O (e:=3) (sz:=1) (rows:=XB (out++[m])) 7 89 dd (by simp) (by simp[X5L]) hdd,⟨⟨_,by simp;rfl,by simp[XN]⟩,by simp[X5L],fun _=>⟨rfl,fun o ho=>by cases ho;exact X3S _⟩⟩⟩
 (try simp only[BN]at h27);have hz':z=false:=by simpa using h27
 subst hz';clear hz2;refine X4 ?_;exact XU ⟨.inr rfl,out,⟨fun d=>by rw[haft,hout];simp,by omega⟩,_,X7O 7 900001 dd (by simp) rfl hdd,⟨⟨_,by simp;rfl,by simp[XN]⟩,by simp,fun _=>⟨rfl,fun o ho=>by cases ho;exact X3S _⟩⟩⟩
end Go.Proofs.YtppjennamodfdaaGreat

namespace Go.Proofs.YtppjennamodfdaaGreat
open Go Go.Hl
def ZM (x:Nd) (to:Nat):Prop:=x.n=to∨x.o=to
instance (x:Nd) (to:Nat):Decidable (ZM x to):=by unfold ZM;exact inferInstance
inductive Rc (N:List Nd) (steps:List St) (nv:Nat):Nat→Nat→Prop
 |entry {i to v:Nat} {x:Nd}:N[i]? =some x→x.k=0→ZM x to→v<nv→Rc N steps nv to (steps.length+v)
 |pass {i to d:Nat} {x:Nd}:N[i]? =some x→x.k≠0→ZM x to→Rc N steps nv i d→(!Qp steps x||decide (Qx steps d≠X0I steps x))=true→Rc N steps nv to d
 |gen {i to:Nat} {x:Nd}:N[i]? =some x→x.k≠0→ZM x to→Qp steps x=true→Rc N steps nv to x.a.toNat
open Classical in
noncomputable def rcL (N:List Nd) (steps:List St) (nv:Nat):List (List Nat):=(List.range N.length).map fun to=>(List.range (steps.length+nv)).filter fun d=>decide (Rc N steps nv to d)
structure Gs (N:List Nd) (steps:List St) (nv:Nat) (S:List (List Nat)):Prop where
 len:S.length=N.length
 nod:∀l∈S,l.Nodup
 lt:∀l∈S,∀d∈l,d<steps.length+nv
 snd:∀(to:Nat) l d,S[to]? =some l→d∈l→Rc N steps nv to d
def clo (N:List Nd) (steps:List St) (nv:Nat) (S:List (List Nat)) (i:Nat):Prop:=
 ∀x Si,N[i]? =some x→S[i]? =some Si→∀d∈X4W steps nv Si x,∀to l,ZM x to→S[to]? =some l→d∈l
theorem Xaz {N:List Nd} {steps:List St} {nv i:Nat} {S:List (List Nat)} {x:Nd} {Si:List Nat} (g:Gs N steps nv S) (hx:N[i]? =some x) (hS:S[i]? =some Si) {d:Nat} (hd:d∈X4W steps nv Si x) {to:Nat} (ht:ZM x to):Rc N steps nv to d:=by
 unfold X4W at hd;split at hd
 · rename_i h0;obtain⟨v,hv,rfl⟩:=List.mem_map.1 hd;exact .entry hx h0 ht (by simpa using hv)
 rename_i h0;rcases List.mem_append.1 hd with h|h
 · obtain⟨h1,h2⟩:=List.mem_filter.1 h;exact .pass hx h0 ht (g.snd i Si d hS h1) h2
 split at h
 · rename_i ha;rw[List.mem_singleton.1 h];exact .gen hx h0 ht ha
 cases h
theorem rc_lt {N:List Nd} {steps:List St} {nv:Nat} {to d:Nat} (ha:∀x∈N,Qp steps x=true→x.a.toNat<steps.length) (h:Rc N steps nv to d):d<steps.length+nv:=by
 induction h with
 |entry _ _ _ hv=>omega
 |pass _ _ _ _ _ ih=>exact ih
 |gen hx _ _ h=>have:=ha _ (List.mem_of_getElem? hx) h;omega
theorem XaX {N:List Nd} {steps:List St} {nv:Nat} {S:List (List Nat)} (g:Gs N steps nv S) (hc:∀i,i<N.length→clo N steps nv S i) {to d:Nat} {l:List Nat} (hl:S[to]? =some l) (h:Rc N steps nv to d):d∈l:=by
 induction h generalizing l with
 | entry hx h0 ht hv=>
   rename_i i to v x;have hi:=(List.getElem?_eq_some_iff.1 hx).1;obtain⟨Si,hS,_⟩:=Xq (show i<S.length by rw[g.len];exact hi);refine hc i hi x Si hx hS _ ?_ to l ht hl;unfold X4W;rw[if_pos h0];exact List.mem_map.2 ⟨v,by simpa using hv,rfl⟩
 | pass hx h0 ht _ hk ih=>
   rename_i i to d x _;have hi:=(List.getElem?_eq_some_iff.1 hx).1;obtain⟨Si,hS,_⟩:=Xq (show i<S.length by rw[g.len];exact hi);refine hc i hi x Si hx hS _ ?_ to l ht hl;unfold X4W;rw[if_neg h0];exact List.mem_append_left _ (List.mem_filter.2 ⟨ih hS,hk⟩)
 | gen hx h0 ht h=>
   rename_i i to x;have hi:=(List.getElem?_eq_some_iff.1 hx).1;obtain⟨Si,hS,_⟩:=Xq (show i<S.length by rw[g.len];exact hi);refine hc i hi x Si hx hS _ ?_ to l ht hl;unfold X4W;rw[if_neg h0,if_pos h];simp
def srtN (l:List Nat):List Int:=(l.map Int.ofNat).mergeSort fun x y=>decide (x≤y)
theorem XbE:∀{l m:List Nat},l.Pairwise (· < ·)→m.Pairwise (· < ·)→(∀x,x∈l↔x∈m)→l=m
 |[],[],_,_,_=>rfl
 |[],b::m,_,_,h=>absurd ((h b).2 (by simp)) (by simp)
 |a::l,[],_,_,h=>absurd ((h a).1 (by simp)) (by simp)
 | a ::l,b::m,hl,hm,h=>by
   rw[List.pairwise_cons]at hl hm
   have hab:a=b:=by
    rcases List.mem_cons.1 ((h a).1 (by simp))with e|e
    · exact e
    rcases List.mem_cons.1 ((h b).2 (by simp))with e2|e2
    · exact e2.symm
    have:=hm.1 a e;have:=hl.1 b e2;omega
   subst hab;congr 1;refine XbE hl.2 hm.2 fun x=>?_;constructor
   · intro hx;rcases List.mem_cons.1 ((h x).1 (by simp[hx]))with e|e
     · subst e;exact absurd (hl.1 x hx) (Nat.lt_irrefl _)
     exact e
   intro hx;rcases List.mem_cons.1 ((h x).2 (by simp[hx]))with e|e
   · subst e;exact absurd (hm.1 x hx) (Nat.lt_irrefl _)
   exact e
theorem XbU (n:Nat):(List.range n).Pairwise (· < ·):=List.pairwise_lt_range
theorem Xa4 {l:List Nat} {n:Nat} (hn:l.Nodup) {p:Nat→Bool} (h:∀x,x∈l↔x<n∧p x=true):Xj (srtN l)=XB ((List.range n).filter p):=by
 have h2:(l.mergeSort fun x y=>decide (x≤y))=(List.range n).filter p:=by
  refine XbE ?_ ((XbU n).filter _) fun x=>by rw[List.mem_mergeSort,h];simp
  have h3:=List.pairwise_mergeSort (le:=fun x y:Nat=>decide (x≤y)) (fun a b c h1 h2=>by simp at*;omega) (fun a b=>by simp;omega) l;have h4:(l.mergeSort fun x y=>decide (x≤y)).Nodup:=(List.mergeSort_perm l _).nodup_iff.2 hn;refine(List.pairwise_and_iff.2 ⟨h3,h4⟩).imp fun {a b} ⟨h5,h6⟩=>?_;have h5:a≤b:=by simpa using h5
  have h6:a≠b:=h6;omega
 rw[←h2];unfold srtN Xj XB
 have:(l.map Int.ofNat).mergeSort (fun x y=>decide (x≤y))=(l.mergeSort fun x y=>decide (x≤y)).map Int.ofNat:=by
  rw[List.map_mergeSort];intro a _ b _;simp
 rw[this,List.map_map];rfl
def Q7 (rows:List (List Nat)):List (List CD):=rows.map fun l=>[.sl 1 (XB l)]
@[simp] theorem len_encDD (l:List (List Nat)):(Q7 l).length=l.length:=by simp[Q7]
theorem X1C (d:Nat):∀l:List Nat,X2q (.int .i64) (.int .i64 d) (mpI l)=some (if d∈l then some (bC true)else none)
 |[]=>rfl
 | k ::l=>by
   have e:mpI (k::l)=(.int .i64 k,bC true)::mpI l:=rfl;rw[e];unfold X2q
   have h1:Instr.sameNow (.int .i64) (.int .i64 (d:Int)) (.int .i64 (k:Int))=some (decide (d=k)):=by
    have h2:((d:Int)==(k:Int))=decide (d=k):=by
     rw[Bool.eq_iff_iff];simp only[beq_iff_eq,decide_eq_true_eq];omega
    simp[Instr.sameNow,h2]
   rw[h1];by_cases hk:d=k
   · subst hk;simp
   simp only[hk,decide_false,List.mem_cons,false_or];exact X1C d l
def Z7 (S:List (List Nat)):Nat:=(S.map List.length).sum
theorem Xcw {S:List (List Nat)} {to:Nat} {l:List Nat} (h:S[to]? =some l) (d:Nat):Z7 (S.set to (l++[d]))=Z7 S+1:=by
 induction S generalizing to with
 |nil=>cases h
 | cons a S ih=>
   cases to with
   |zero=>cases h;simp[Z7];omega
   | succ to=>
     have:=ih (to:=to) h;simp only[Z7,List.set_cons_succ,List.map_cons,List.sum_cons]at this⊢;omega
theorem X94 {N:List Nd} {steps:List St} {nv:Nat} {S:List (List Nat)} (g:Gs N steps nv S):Z7 S≤N.length*(steps.length+nv):=by
 have key:∀S:List (List Nat),(∀l∈S,l.length≤steps.length+nv)→Z7 S≤S.length*(steps.length+nv):=by
  intro S
  induction S with
  |nil=>simp[Z7]
  | cons a S ih=>
    intro h;have h1:=h a (by simp);have h2:=ih fun l hl=>h l (by simp[hl]);simp only[Z7,List.map_cons,List.sum_cons,List.length_cons,Nat.add_mul,Nat.one_mul]at h2⊢;omega
 have:=key S fun l hl=>QD (g.nod l hl) (g.lt l hl)
 rwa [g.len]at this
theorem Gs.add {N:List Nd} {steps:List St} {nv to d:Nat} {S:List (List Nat)} {l:List Nat} (g:Gs N steps nv S) (hl:S[to]? =some l) (hd:d∉l) (hlt:d<steps.length+nv) (hr:Rc N steps nv to d):Gs N steps nv (S.set to (l++[d])):=by
 have hm:∀q∈S.set to (l++[d]),q∈S∨q=l++[d]:=fun q hq=>List.mem_or_eq_of_mem_set hq;refine⟨by rw[List.length_set];exact g.len,fun q hq=>?_,fun q hq x hx=>?_,fun i q x hq hx=>?_⟩
 · rcases hm q hq with h|rfl
   · exact g.nod q h
   rw[List.nodup_append];exact⟨g.nod l (List.mem_of_getElem? hl),by simp,fun a ha b hb=>by rw[List.mem_singleton.1 hb];exact fun e=>hd (e▸ha)⟩
 · rcases hm q hq with h|rfl
   · exact g.lt q h x hx
   rcases List.mem_append.1 hx with h|h
   · exact g.lt l (List.mem_of_getElem? hl) x h
   rw[List.mem_singleton.1 h];exact hlt
 rw[List.getElem?_set]at hq;split at hq
 · rename_i e;subst e;split at hq
   · cases hq;rcases List.mem_append.1 hx with h|h
     · exact g.snd to l x hl h
     rw[List.mem_singleton.1 h];exact hr
   cases hq
 exact g.snd i q x hq hx
end Go.Proofs.YtppjennamodfdaaGreat

namespace Go.Proofs.YtppjennamodfdaaGreat
open Go Go.Hl
def X1B (m:Nat) (t:Int):Prop:=t=-1∨∃k:Nat,t=k∧k<m
structure ndOK (m n:Nat) (x:Nd):Prop where
 hn:X1B m x.n
 ho:X1B m x.o
 ha:(x.k≠2∧x.a=-1)∨∃t:Nat,x.a=t∧t<n
theorem X1B.nat {m t:Nat} (h:t<m):X1B m (t:Int):=.inr ⟨t,rfl,h⟩
theorem X7Z (s:St):1≤wdS s:=by cases s;simp only[wdS];split<;>omega
theorem X51 {l:List St} (h:l≠[]):1≤wdL l:=by
 cases l with
 |nil=>exact absurd rfl h
 |cons s l=>have:=X7Z s;simp only[wdL];omega
theorem X1B.ite {m:Nat} {t e:Int} {l:List St} (h1:X1B m t) (h2:l≠[]→X1B m e):X1B m (if l=[] then t else e):=by
 split
 · exact h1
 rename_i h;exact h2 h
theorem X1B.mk {m:Nat} {t:Int} (k:Nat) (h:t=k) (hk:k<m):X1B m t:=.inr ⟨k,h,hk⟩
mutual
theorem layS_ok {m n:Nat}:∀(s:St) (p k after:Nat),gS s=true→p+szS s≤n→k+wdS s≤m→after<m→∀x∈X1o s p k after,ndOK m n x
 | .mk o c v q t a b bs,p,k,after,hg,hp,hk,haf,x,hx=>by
   simp only[gS,Bool.and_eq_true]at hg;simp only[szS]at hp;simp only[wdS]at hk;unfold X1o at hx;split at hx
   · rename_i h3;rw[if_neg (by omega)]at hk;rcases List.mem_cons.1 hx with rfl|hx
     · refine⟨.ite (.nat haf) fun h=>.mk (k+1) (by simp) (by have:=X51 h;omega),.ite (.nat haf) fun h=>.mk (k+1+wdL a) (by simp) (by have:=X51 h;omega),.inr ⟨p,rfl,(show p<n by omega)⟩⟩
     rcases List.mem_append.1 hx with hx|hx
     · exact X3p a (p+1) (k+1) after hg.2.1 (by omega) (by omega) haf x (by simpa using hx)
     exact X3p b (p+1+szL a) (k+1+wdL a) after hg.2.2 (by omega) (by omega) haf x (by simpa using hx)
   split at hx
   · rename_i h3 h4;rw[if_pos h4]at hk;rcases List.mem_cons.1 hx with rfl|hx
     · exact⟨.mk (k+1) (by simp) (by omega),.inl rfl,.inr ⟨p,rfl,(show p<n by omega)⟩⟩
     rcases List.mem_cons.1 hx with rfl|hx
     · exact⟨.ite (.mk (k+1) (by simp) (by omega)) fun h=>.mk (k+2) (by simp) (by have:=X51 h;omega),.nat haf,.inr ⟨p,rfl,(show p<n by omega)⟩⟩
     exact X3p a (p+1) (k+2) (k+1) hg.2.1 (by omega) (by omega) (by omega) x (by simpa using hx)
   rw[List.mem_singleton.1 hx];have:1≤wdS (St.mk o c v q t a b bs):=X7Z _;exact⟨X1B.nat haf,.inl rfl,.inr ⟨p,rfl,(show p<n by omega)⟩⟩
theorem X3p {m n:Nat}:∀(l:List St) (p k after:Nat),gL l=true→p+szL l≤n→k+wdL l≤m→after<m→∀x∈Wv l p k after,ndOK m n x
 |[],_,_,_,_,_,_,_,x,hx=>by simp[Wv]at hx
 | s ::l,p,k,after,hg,hp,hk,haf,x,hx=>by
   simp only[gL,Bool.and_eq_true]at hg;simp only[szL]at hp;simp only[wdL]at hk;unfold Wv at hx;rcases List.mem_append.1 hx with hx|hx
   · refine layS_ok s p k _ hg.1 (by omega) (by omega) ?_ x hx;split
     · exact haf
     rename_i h;have:=X51 h;omega
   exact X3p l (p+szS s) (k+wdS s) after hg.2 (by omega) (by omega) haf x (by simpa using hx)
end
theorem X5S {l:List St} (hg:gL l=true):∀x∈grN l,ndOK (grN l).length (szL l) x:=by
 rw[X3j hg];intro x hx;unfold grN at hx;rcases List.mem_cons.1 hx with rfl|hx
 · refine⟨.ite (.mk (1+wdL l) (by simp) (by omega)) fun h=>.mk 1 rfl (by omega),.inl rfl,.inl ⟨by simp,rfl⟩⟩
 rcases List.mem_append.1 hx with hx|hx
 · exact X3p l 0 1 (1+wdL l) hg (by omega) (by omega) (by omega) x (by simpa using hx)
 rw[List.mem_singleton.1 hx];exact⟨.inl rfl,.inl rfl,.inl ⟨by simp,rfl⟩⟩
structure Inv (N:List Nd) (steps:List St) (nv:Nat) (S0 S:List (List Nat)) (c:Bool) (P:Prop):Prop where
 g:Gs N steps nv S
 tot:Z7 S0≤Z7 S
 up:c=true→Z7 S0<Z7 S
 same:c=false→S=S0∧P
theorem Inv.mono {N:List Nd} {steps:List St} {nv:Nat} {S0 S:List (List Nat)} {c:Bool} {P Q:Prop} (h:Inv N steps nv S0 S c P) (hpq:S=S0→P→Q):Inv N steps nv S0 S c Q:=
 ⟨h.g,h.tot,h.up,fun hc=>⟨(h.same hc).1,hpq (h.same hc).1 (h.same hc).2⟩⟩
theorem Inv.add {N:List Nd} {steps:List St} {nv:Nat} {S0 S:List (List Nat)} {c:Bool} {P Q:Prop} (h:Inv N steps nv S0 S c P) {to d:Nat} {l:List Nat} (hl:S[to]? =some l) (hd:d∉l) (hlt:d<steps.length+nv) (hr:Rc N steps nv to d):Inv N steps nv S0 (S.set to (l++[d])) true Q:=by
 have:=Xcw hl d;exact⟨h.g.add hl hd hlt hr,by have:=h.tot;omega,fun _=>by have:=h.tot;omega,fun hc=>by cases hc⟩
def inS (S:List (List Nat)) (to:Int) (d:Nat):Prop:=∀(m:Nat) l,to=(m:Int)→S[m]? =some l→d∈l
def msS (S:List (List Nat)):List (Option (List (Value×CD))):=S.map fun l=>some (mpI l)
@[simp] theorem len_msS (S:List (List Nat)):(msS S).length=S.length:=by simp[msS]
@[simp] theorem map_msS (S:List (List Nat)):(msS S).map (fun r=>[mpC r])=S.map fun l=>[CD.mp (mpI l)]:=by simp[msS,mpC]
theorem Xbt {S:List (List Nat)} {i:Nat} {l:List Nat} (h:S[i]? =some l):(msS S)[i]? =some (some (mpI l)):=by simp[msS,h]
theorem set_msS (S:List (List Nat)) (i:Nat) (l:List Nat) (d:Nat):(msS S).set i (some (mpI l++[(.int .i64 d,bC true)]))=msS (S.set i (l++[d])):=by
 simp[msS,List.map_set,mpI]
def msI (y n:Nat):List (Option (List (Value×CD))):=List.replicate y (some [])++List.replicate (n - y) none
theorem msI_len {y n:Nat} (h:y≤n):(msI y n).length=n:=by simp[msI];omega
theorem msI_free {y n:Nat} (h:y<n):ZO (msI y n) y=true:=by
 obtain⟨k,hk⟩:∃k,n - y=k+1:=⟨n - y - 1,by omega⟩;simp[ZO,msI,hk,List.replicate_succ]
theorem msI_set {y n:Nat} (h:y<n):(msI y n).set y (some [])=msI (y+1) n:=by
 obtain⟨k,hk⟩:∃k,n - y=k+1:=⟨n - y - 1,by omega⟩;have e:n - (y+1)=k:=by omega
 have e2:List.replicate (y+1) (some ([]:List (Value×CD)))=List.replicate y (some [])++[some []]:=List.replicate_succ';simp only[msI,hk,e,e2];rw[List.set_append,if_neg (by simp)];simp[List.replicate_succ]
theorem msI_zero (n:Nat):msI 0 n=List.replicate n none:=by simp[msI]
theorem msI_end (n:Nat):msI n n=msS (List.replicate n []):=by simp[msI,msS,mpI]
theorem Gs.empty (N:List Nd) (steps:List St) (nv:Nat):Gs N steps nv (List.replicate N.length []):=by
 refine⟨by simp,fun l hl=>?_,fun l hl=>?_,fun to l d h hd=>?_⟩
 · rw[(List.mem_replicate.1 hl).2];exact List.nodup_nil
 · rw[(List.mem_replicate.1 hl).2];simp
 have:=List.mem_of_getElem? h;rw[(List.mem_replicate.1 this).2]at hd;cases hd
def ZS (l:List Nat):Option (List (List CD)):=if l=[] then none else some (XB l)
def rwI (L:List (List Nat)) (y n:Nat):List (Option (List (List CD))):=(L.take y).map ZS++List.replicate (n - y) none
theorem Xba {L:List (List Nat)} {y n:Nat} (h:y≤n) (hL:L.length=n):(rwI L y n).length=n:=by simp[rwI,hL];omega
theorem Xbj {L:List (List Nat)} {y n:Nat} (h:y<n) (hL:L.length=n):(rwI L y n)[y]? =some none:=by
 have ht:((L.take y).map ZS).length=y:=by rw[List.length_map,List.length_take];omega
 unfold rwI;rw[List.getElem?_append_right (by rw[ht];exact Nat.le_refl _),ht,Nat.sub_self];obtain⟨k,hk⟩:∃k,n - y=k+1:=⟨n - y - 1,by omega⟩;rw[hk];rfl
theorem Xb5 {L:List (List Nat)} {y n:Nat} {l:List Nat} (hl:L[y]? =some l) (h:y<n) (hL:L.length=n):(rwI L y n).set y (ZS l)=rwI L (y+1) n:=by
 have ht:((L.take y).map ZS).length=y:=by rw[List.length_map,List.length_take];omega
 obtain⟨k,hk⟩:∃k,n - y=k+1:=⟨n - y - 1,by omega⟩;have e:n - (y+1)=k:=by omega
 unfold rwI;rw[List.set_append,if_neg (by rw[ht];omega),ht,Nat.sub_self,List.take_add_one,hl,hk,e];simp[List.replicate_succ]
theorem X9E (L:List (List Nat)) (n:Nat):rwI L 0 n=List.replicate n none:=by simp[rwI]
theorem Xbh {L:List (List Nat)} {n:Nat} (hL:L.length=n):(rwI L n n).map (fun r=>[CD.sl 1 (r.getD [])])=Q7 L:=by
 unfold rwI Q7;rw[←hL,List.take_length,Nat.sub_self];simp only[List.replicate_zero,List.append_nil,List.map_map];refine List.map_congr_left fun l _=>?_;unfold ZS;simp only[Function.comp];split
 · rename_i h;subst h;rfl
 rfl
theorem X3O (l:List Nat):XB l=Xj (l.map Int.ofNat):=by simp[XB,Xj]
end Go.Proofs.YtppjennamodfdaaGreat

namespace Go.Proofs.YtppjennamodfdaaGreat
open Go Go.Hl Go.Shelf Go.Sort
def sortR:Ren:=⟨fun f=>if f=125 then 74 else if f=128 then 119 else if f=129 then 120 else if f=189 then 35 else if f=215 then 144 else if f=216 then 116 else if f=257 then 73 else if f=294 then 110 else if f=295 then 111 else if f=296 then 112 else if f=297 then 113 else if f=298 then 114 else if f=299 then 115 else if f=300 then 117 else if f=301 then 118 else if f=328 then 139 else if f=329 then 140 else if f=330 then 141 else if f=331 then 142 else if f=332 then 143 else if f=343 then 160 else f,fun t=>if t=0 then 0 else if t=3 then 3 else if t=4 then 4 else if t=5 then 5 else if t=9 then 9 else if t=28 then 27 else if t=46 then 125 else if t=51 then 168 else if t=53 then 170 else if t=131 then 117 else if t=182 then 161 else if t=183 then 162 else if t=218 then 187 else if t=222 then 191 else if t=228 then 201 else if t=229 then 180 else t,fun g=>g⟩
theorem sortL:Lays.n189 Tryz.prog sortR where
 mixed:=by kernel_rfl
 f125:=by kernel_rfl
 f128:=by kernel_rfl
 f129:=by kernel_rfl
 f189:=by kernel_rfl
 f215:=by kernel_rfl
 f216:=by kernel_rfl
 f257:=by kernel_rfl
 f294:=by kernel_rfl
 f295:=by kernel_rfl
 f296:=by kernel_rfl
 f297:=by kernel_rfl
 f298:=by kernel_rfl
 f299:=by kernel_rfl
 f300:=by kernel_rfl
 f301:=by kernel_rfl
 f328:=by kernel_rfl
 f329:=by kernel_rfl
 f330:=by kernel_rfl
 f331:=by kernel_rfl
 f332:=by kernel_rfl
 f343:=by kernel_rfl
 t0:=by kernel_rfl
 a0:=fun w=>rfl
 z0:=fun w=>rfl
 v0:=fun w=>rfl
 t3:=by kernel_rfl
 a3:=fun w=>rfl
 z3:=fun w=>rfl
 v3:=fun w=>rfl
 t4:=by kernel_rfl
 a4:=fun w=>rfl
 z4:=fun w=>rfl
 v4:=fun w=>rfl
 t5:=by kernel_rfl
 a5:=fun w=>rfl
 z5:=fun w=>rfl
 v5:=fun w=>rfl
 t9:=by kernel_rfl
 a9:=fun w=>rfl
 z9:=fun w=>rfl
 v9:=fun w=>rfl
 t28:=by kernel_rfl
 a28:=fun w=>rfl
 z28:=fun w=>rfl
 v28:=fun w=>rfl
 t46:=by kernel_rfl
 a46:=fun w=>rfl
 z46:=fun w=>rfl
 v46:=fun w=>rfl
 t51:=by kernel_rfl
 a51:=fun w=>rfl
 z51:=fun w=>rfl
 v51:=fun w=>rfl
 t53:=by kernel_rfl
 a53:=fun w=>rfl
 z53:=fun w=>rfl
 v53:=fun w=>rfl
 t131:=by kernel_rfl
 a131:=fun w=>rfl
 z131:=fun w=>rfl
 v131:=fun w=>rfl
 t182:=by kernel_rfl
 a182:=fun w=>rfl
 z182:=fun w=>rfl
 v182:=fun w=>rfl
 t183:=by kernel_rfl
 a183:=fun w=>rfl
 z183:=fun w=>rfl
 v183:=fun w=>rfl
 t218:=by kernel_rfl
 a218:=fun w=>rfl
 z218:=fun w=>rfl
 v218:=fun w=>rfl
 t222:=by kernel_rfl
 a222:=fun w=>rfl
 z222:=fun w=>rfl
 v222:=fun w=>rfl
 t228:=by kernel_rfl
 a228:=fun w=>rfl
 z228:=fun w=>rfl
 v228:=fun w=>rfl
 t229:=by kernel_rfl
 a229:=fun w=>rfl
 z229:=fun w=>rfl
 v229:=fun w=>rfl
structure RowOut (w w':World) (g o:Nat) (ys:List Int):Prop where
 os:w'.os=w.os
 tape:w'.tape=w.tape
 output:w'.output=w.output
 size:w.heap.size≤w'.heap.size
 other:∀k,k<w.heap.size→k≠g→w'.heap[k]? =w.heap[k]?
 cells:∀cur t x,w.heap[g]? =some (.cells cur t x)→∃cur':Array Value,w'.heap[g]? =some (.cells cur' t x)∧cur'.size=cur.size∧∀k (hk:k<ys.length),o+k<cur.size→cur'[o+k]? =some (.int .i64 ys[k])
theorem Xak (w:World) (q g o:Nat) (os:Array Obj) (ys:List Int) (m:Nat) (hg:g<w.heap.size):RowOut w (grow (putRow (Value.int .i64) (Sort.ahead w q) g o (ys++List.replicate m 0).toArray) os) g o ys:=by
 have hsz:(putRow (Value.int .i64) (Sort.ahead w q) g o (ys++List.replicate m 0).toArray).heap.size=w.heap.size:=by simp[putRow,mapBlock]
 refine⟨rfl,rfl,rfl,by simp only[grow,Array.size_append,hsz];omega,fun k hk hne=>?_,fun cur t x hc=>?_⟩
 · rw[heap_grow_old _ _ (by rw[hsz];exact hk)];simp only[putRow,mapBlock,heap_ahead,Array.getElem?_modify];rw[if_neg fun h=>hne h.symm]
 refine⟨putCells (Value.int .i64) o (ys++List.replicate m 0).toArray cur,?_,by simp[putCells],fun k hk hkc=>?_⟩
 · rw[heap_grow_old _ _ (by rw[hsz];exact hg)];simp only[putRow,mapBlock,heap_ahead,Array.getElem?_modify,if_true,hc];rfl
 simp only[putCells,Array.getElem?_mapIdx,Array.getElem?_eq_getElem hkc,Option.map_some,Nat.add_sub_cancel_left];rw[if_pos ⟨by omega,by simp;omega⟩];congr 2;rw[getElem!_pos _ k (by simp;omega)];simp[hk]
theorem getRC_I2 {zs:List Int} {a b:Nat} {d:CD} (h:XV (Xj zs) a b=some d):b=0∧∃n,zs[a]? =some n∧d=iC n:=by
 unfold XV at h;rw[X8y]at h;cases hz:zs[a]? with
 |none=>rw[hz]at h;cases h
 | some n=>
   rw[hz]at h;cases b with
   |zero=>cases h;exact⟨rfl,n,rfl,rfl⟩
   |succ b=>cases h
theorem rowR_con {f:FuncId} (hcall:Qo Tryz.prog f=true) (zs ys:List Int) (hz:0<zs.length) (hle:ys.length=zs.length)
  (key:∀(g o cap:Nat) (w:World),Holds (Value.int .i64) w g o zs.toArray→g<w.heap.size→zs.length≤cap→cap≤maxLen→Calls Tryz.prog f #[.slice (some ⟨g,o,none⟩) zs.length cap] w fun e w'=>e=.returned (.tuple #[])∧RowOut w w' g o ys):
  ConR Tryz.prog f 3 1 (Xj zs) (Xj ys):=by
 refine⟨hcall,fun F B w v hro hF hvF=>?_⟩;obtain⟨h0,hrs,xs,⟨hxl,hown⟩,hx1,hc⟩:=hro;rcases hown with⟨_,hn⟩|⟨g,o,cap,cur,rfl,hB,hg,hcap,hmax,hcs,htake⟩
 · rw[X1T]at hn;omega
 rw[X1T]at hxl hcap htake⊢;rw[Nat.mul_one]at hxl htake hcs
 have hcur:∀k (hk:k<zs.length),cur[o+k]? =some (.int .i64 zs[k]):=by
  intro k hk;obtain⟨u,hu,hr⟩:=hc k 0 (iC zs[k]) (by unfold XV;rw[X8y];simp[hk]);cases hr;have:xs[k]? =cur[o+k]? :=by rw[←htake,List.getElem?_take,if_pos hk,List.getElem?_drop,Array.getElem?_toList]
  rw[←this];simpa using hu
 have hH:Holds (Value.int .i64) w g o zs.toArray:=by
  intro k hk;have hk':k<zs.length:=by simpa using hk
  refine⟨?_,?_⟩
  · have:w.cell? ⟨g,o+k,none⟩=cur[o+k]? :=by simp[World.cell?,hg]
    rw[this,hcur k hk'];simp[hk']
  simp[World.frozen?,hg]
 have hgs:g<w.heap.size:=(Array.getElem?_eq_some_iff.1 hg).1;refine(key g o cap w hH hgs hcap hmax).mono ?_;rintro e w' ⟨rfl,hout⟩;obtain⟨cur',hg',hcs',hcell⟩:=hout.cells cur _ _ hg;refine⟨rfl,hout.os,hout.tape,hout.output,hout.size,fun k hk hne=>hout.other k hk fun e=>hne (by rw[e];rfl),by decide,?_,ys.map (Value.int .i64),⟨by simp,.inr ⟨g,o,cap,cur',?_,hB,hg',by rw[X1T];omega,hmax,?_,?_⟩⟩,?_,?_⟩
 · intro r hr;simp only[Xj,List.mem_map]at hr;obtain⟨n,_,rfl⟩:=hr;rfl
 · rw[X1T,hle]
 · rw[hcs',Nat.mul_one];exact hcs
 · rw[X1T,Nat.mul_one];apply List.ext_getElem?;intro k;rw[List.getElem?_take,List.getElem?_drop,List.getElem?_map];by_cases hk:k<ys.length
   · rw[if_pos hk,Array.getElem?_toList,hcell k hk (by omega)];simp[hk]
   rw[if_neg hk,List.getElem?_eq_none (by omega)];rfl
 · intro u hu;obtain⟨n,_,rfl⟩:=List.mem_map.1 hu;rfl
 intro a b d hd;obtain⟨rfl,n,hn,rfl⟩:=getRC_I2 hd;exact⟨.int .i64 n,by simp[hn],CRel.lit _⟩
theorem X4t (zs:List Int) (hz:0<zs.length) (hl:zs.length≤17592186044416):ConR Tryz.prog 35 3 1 (Xj zs) (Xj (zs.mergeSort fun x y=>decide (x≤y))):=by
 refine rowR_con (by kernel_rfl) zs _ hz (List.length_mergeSort _) fun g o cap w hH hg hcap hmax=>?_;have h:=Any.slices_Sort_int sortL g o cap zs w hH hg (by omega);refine h.mono ?_;rintro e w' ⟨rfl,q,os,rfl⟩;refine⟨rfl,?_⟩;have:=Xak w q g o os (zs.mergeSort fun x y=>decide (x≤y)) 0 hg;simpa using this
theorem X4r (d:Nat):Con Tryz.prog 35 true [lI []] (.tup []) none d:=by
 refine⟨by kernel_rfl,fun F w vs hF hsz hargs=>?_⟩;obtain⟨l⟩:=vs
 match l,hsz with
 | [v0],_=>
   have a0:CRel F w (.sl 1 []) v0:=hargs 0 _ v0 rfl rfl
   have key:∃p cap,v0=.slice p 0 cap:=by
    cases a0 with
    |nil=>exact⟨_,_,rfl⟩
    |emp a cap=>exact⟨_,_,rfl⟩
    |sl rows b o cap cells=>exact⟨_,_,rfl⟩
   obtain⟨p,cap,rfl⟩:=key;refine(Any.slices_Sort_int_none sortL p cap w).mono ?_;rintro e w' ⟨rfl,rfl⟩;exact⟨_,fun _=>False,noγ,rfl,⟨rfl,rfl,rfl,Nat.le_refl _,fun _ _=>rfl⟩,fun b hb=>hb.elim,⟨#[],rfl,rfl,fun j t u h1 h2=>by simp at h1⟩,fun o ho=>by cases ho⟩
end Go.Proofs.YtppjennamodfdaaGreat

namespace Go.Proofs.YtppjennamodfdaaGreat
open Go Go.Hl
def Pd (N:List Nd) (steps:List St) (nv:Nat) (S:List (List Nat)) (i:Nat) (Q:Prop):Prop:=(∀j,j<i→clo N steps nv S j)∧Q
def toA (xn xo:Int) (k:Nat):Int:=if k=0 then xn else xo
def toR (xn xo:Int):List (List CD):=[[iC xn],[iC xo]]
@[simp] theorem toR_len (xn xo:Int):(toR xn xo).length=2:=rfl
theorem Xbv {xn xo:Int} {k:Nat} (h:k<2):(toR xn xo)[k]? =some [iC (toA xn xo k)]:=by
 match k,h with
 |0,_=>rfl
 |1,_=>rfl
def lS2 (S:List (List Nat)) (to:Int) (l:List Nat):Prop:=∀d∈l,inS S to d
theorem clo_of {N:List Nd} {steps:List St} {nv i:Nat} {S:List (List Nat)} {x:Nd} {Si l:List Nat} (hx:N[i]? =some x) (hS:S[i]? =some Si) (hl:∀d,d∈l↔d∈X4W steps nv Si x) (h:∀j,j<2→lS2 S (toA x.n x.o j) l):clo N steps nv S i:=by
 intro x' Si' hx' hS' d hd to q ht hq;rw[hx]at hx';rw[hS]at hS';cases hx';cases hS';rcases ht with ht|ht
 · exact h 0 (by omega) d ((hl d).2 hd) to q ht hq
 exact h 1 (by omega) d ((hl d).2 hd) to q ht hq
def X11 (R:List (Option (List (List CD)))) (y:Nat) (out:List Nat):List (Option (List (List CD))):=R.set y (ZS out)
@[simp] theorem matY_len (R:List (Option (List (List CD)))) (y:Nat) (out:List Nat):(X11 R y out).length=R.length:=by simp[X11]
theorem X0i {R:List (Option (List (List CD)))} {y:Nat} (h:y+1≤R.length) (out:List Nat):(X11 R y out)[y]? =some (ZS out):=by
 unfold X11;rw[List.getElem?_set_self (by omega)]
theorem X6V {R:List (Option (List (List CD)))} {y:Nat} (h:y+1≤R.length):ZO (X11 R y []) y=true:=by
 unfold ZO;rw[X0i h];rfl
theorem X8H (R:List (Option (List (List CD)))) (y:Nat) (out:List Nat) (r:Option (List (List CD))):(X11 R y out).set y r=R.set y r:=by simp[X11]
theorem X1X (R:List (Option (List (List CD)))) (y:Nat) (out l:List Nat) (d:Nat):(X11 R y out).set y (some (XB l++[[iC d]]))=X11 R y (l++[d]):=by
 rw[X8H];simp[X11,ZS]
theorem X7b {R:List (Option (List (List CD)))} {y:Nat} (h:R[y]? =some none):X11 R y []=R:=by
 unfold X11 ZS;rw[if_pos rfl];apply List.ext_getElem?;intro k;rw[List.getElem?_set];split
 · rename_i e;subst e;rw[if_pos (List.getElem?_eq_some_iff.1 h).1,h]
 rfl
theorem rcL_row {N:List Nd} {steps:List St} {nv:Nat} {S:List (List Nat)} (g:Gs N steps nv S) (hc:∀i,i<N.length→clo N steps nv S i) (hlt:∀to d,Rc N steps nv to d→d<steps.length+nv) {i:Nat} {Si:List Nat} (hS:S[i]? =some Si):
  ∃l,(rcL N steps nv)[i]? =some l∧(∀x,x∈Si↔x∈l)∧∀out:List Nat,out.Nodup→(∀x,x∈out↔x∈Si)→Xj (srtN out)=XB l:=by
 classical
 have hi:i<N.length:=by rw[←g.len];exact(List.getElem?_eq_some_iff.1 hS).1
 refine⟨(List.range (steps.length+nv)).filter fun d=>decide (Rc N steps nv i d),by simp[rcL,hi],?_,fun out hn ho=>?_⟩
 · intro x;rw[List.mem_filter,List.mem_range,decide_eq_true_eq];exact⟨fun h=>⟨g.lt Si (List.mem_of_getElem? hS) x h,g.snd i Si x hS h⟩,fun h=>XaX g hc hS h.2⟩
 refine Xa4 hn fun x=>?_;rw[ho,decide_eq_true_eq];exact⟨fun h=>⟨g.lt Si (List.mem_of_getElem? hS) x h,g.snd i Si x hS h⟩,fun h=>XaX g hc hS h.2⟩
theorem X7H (N:List Nd) (steps:List St) (nv:Nat):(rcL N steps nv).length=N.length:=by simp[rcL]
theorem X5v (d:Nat):Con Tryz.prog 35 true [.one (.c (.lit XY))] (.tup []) none d:=by
 obtain⟨h1,h2⟩:=X4r d;refine⟨h1,fun F w vs hF hsz hargs=>h2 F w vs hF hsz fun j t u ht hu=>?_⟩;cases j with
 | zero=>
   cases ht;have a0:CRel F w (.lit XY) u:=hargs 0 _ u rfl hu;cases a0;exact CRel.nil 1
 |succ j=>simp at ht
set_option maxHeartbeats 8000000 in
theorem X7L (f:Fl) (h:Sm f) (h0:Qb f=0) (d:Nat):Con Tryz.prog 124 false [aF f,.agg [.c (grC f.body)]] (.tup [.one (.c (.sl 1 (Q7 (rcL (grN f.body) (flL f.body) f.vars.length)))),li 0]) none d:=by
 have cc:=X7W f h h0;have cf:=X8L f.body h.sz;have hok:=X5S (X1R h0);have hlen:=X3j (X1R h0);have hsl:=XK f.body;have hsz:=h.sz;have hwd:=X2v f.body;have hv:=h.vars;have caft:=XcG f (grN f.body) (flL f.body);obtain⟨vars,hats,body⟩:=f;simp only at cf hok hlen hsl hsz hwd hv caft;obtain⟨N,hN⟩:∃x,grN body=x:=⟨_,rfl⟩;obtain⟨steps,hst⟩:∃x,flL body=x:=⟨_,rfl⟩;simp only[grC,hN]at cc;rw[hN]at hok hlen;rw[hN,hst]at caft;rw[←hsl]at hok;rw[hst]at cf hsl hok;simp only[grC,hN,hst];have hN2:N.length≤2002:=by omega
 have hs2:steps.length≤1000:=by omega
 clear hN hst h h0 hlen hwd hsl hsz;refine X7 Tryz.func124 ?_;simp only[Tryz.f124];simp only[aF,Fl.enc,List.map_cons,List.map_nil]at cc⊢;refine X4 ?_;refine X0<|X0<|(Xp [⟨true,.v (li 0),none⟩] ?_ ?_)
 · first|exact cc _|exact trivial|simpa[*]using cc _
 refine X4 ?_;refine(Xe rfl (fun h3=>?_) fun h3=>?_)
 · exact Bool.noConfusion h3
 (try simp only[BN]at h3);refine Xk [⟨false,.v (lS steps),none⟩] ?_ ?_
 · first|exact cf _|exact trivial|simpa[*]using cf _
 have hbig:(8:Int)*N.length≤281474976710656:=by omega
 have hmx:N.length≤maxLen:=by unfold maxLen;omega
 refine X4 ?_;refine XC (le_mps 36 (by decide) rfl rfl rfl) ?_;refine X0<|X0<|X3 ?_;refine X5<|(Xd [2,3,7,8,38] (fun(y:Nat)=>[(39,.v (li y))]) (fun y=>[(2,.box [.c (.sl 5 (Xs vars)),.c (.sl 6 (Xt hats)),.c (.sl 10 (Xa body))]),(3,.box [.c (.sl 4 (XG N))]),(7,.box [.c (.sl 10 (Xa steps))]),(8,.box [.own 36]),(36,.mps 86 (msI y N.length))]) (fun y=>y≤N.length) (fun y=>N.length - y) (0:Nat) (Nat.zero_le _) ?_ ?_)
 · exact Xu (fun n=>n) [] rfl (by simp[*,upS,X8]) (by simp[*,upS,msI_zero]) (by simp[upS])
 rintro y hy;simp only[upS,X8,Xy]
 try simp only[X8,KN,Nat.reduceBEq,if_true,if_false,ins,Nat.reduceLT]
 refine X4 ?_;refine X0<|(X9 rfl (fun h11=>Xb ?_) (fun h11=>?_))
 · (try simp only[BN]at h11);have hlt:y<N.length:=by omega
   have hw1:=XA hlt (by omega);have hk1:y+1≤N.length:=hlt;have hin:y<(msI y N.length).length:=by rw[msI_len hy];exact hlt
   have hfr:=msI_free hlt;have hset:=msI_set hlt;clear hlt h11;refine X0<|X5<|X0<|X3 ?_;refine X3 ?_;refine X3 ?_;exact⟨y+1,hk1,by omega,X6 (fun n=>n) []⟩
 (try simp only[BN]at h11);have hyn:y=N.length:=by omega
 subst hyn;rw[msI_end];refine(Xg ?_);refine X4 ?_;refine X4 ?_;refine X0<|X0<|X3 ?_;refine X5<|(Xd [3,8,11] (fun(y:Bool×List (List Nat))=>[(12,.v (lb y.1))]) (fun(y:Bool×List (List Nat))=>[(2,.box [.c (.sl 5 (Xs vars)),.c (.sl 6 (Xt hats)),.c (.sl 10 (Xa body))]),(3,.box [.c (.sl 4 (XG N))]),(7,.box [.c (.sl 10 (Xa steps))]),(8,.box [.own 36]),(10,.box [.fn 149 [(7,0)]]),(36,.mps 86 (msS y.2))]) (fun(y:Bool×List (List Nat))=>Gs N steps vars.length y.2∧(y.1=false→∀i,i<N.length→clo N steps vars.length y.2 i)) (fun(y:Bool×List (List Nat))=>2*(N.length*(steps.length+vars.length)+1 - Z7 y.2)+(if y.1=true then 1 else 0)) (true,List.replicate N.length []) ⟨Gs.empty ..,fun h=>by cases h⟩ ?_ ?_)
 · exact X6 (fun n=>n) []
 rintro⟨c0,S0⟩ ⟨hg0,hcl0⟩;simp only[upS,X8,Xy]
 try simp only[X8,KN,Nat.reduceBEq,if_true,if_false,ins,Nat.reduceLT]
 simp only at hg0 hcl0;refine X0<|X0<|X3 ?_;refine(X9 rfl (fun h21=>Xb ?_) (fun h21=>?_))
 · (try simp only[BN]at h21);have hc0:c0=true:=by simpa using h21
   subst hc0;clear hcl0 h21;have htot0:=X94 hg0;refine X5<|X0<|X3 ?_;refine X4 ?_;refine X5<|(Xd [3,8,11,51,52] (fun(y:Nat×Bool×List (List Nat))=>[(12,.v (lb y.2.1)),(53,.v (li y.1))]) (fun(y:Nat×Bool×List (List Nat))=>[(2,.box [.c (.sl 5 (Xs vars)),.c (.sl 6 (Xt hats)),.c (.sl 10 (Xa body))]),(3,.box [.c (.sl 4 (XG N))]),(7,.box [.c (.sl 10 (Xa steps))]),(8,.box [.own 36]),(10,.box [.fn 149 [(7,0)]]),(36,.mps 86 (msS y.2.2))]) (fun(y:Nat×Bool×List (List Nat))=>y.1≤N.length∧Inv N steps vars.length S0 y.2.2 y.2.1 (Pd N steps vars.length S0 y.1 True)) (fun(y:Nat×Bool×List (List Nat))=>N.length - y.1) (0,false,S0) ⟨Nat.zero_le _,hg0,Nat.le_refl _,fun h=>(by cases h),fun _=>⟨rfl,fun j hj=>absurd hj (Nat.not_lt_zero j),trivial⟩⟩ ?_ ?_)
   · exact X6 (fun n=>n) []
   rintro⟨i,c1,S1⟩ ⟨hi,hI⟩;simp only[upS,X8,Xy]
   try simp only[X8,KN,Nat.reduceBEq,if_true,if_false,ins,Nat.reduceLT]
   simp only at hi hI;refine X4 ?_;refine X0<|(X9 rfl (fun h26=>Xb ?_) (fun h26=>?_))
   · (try simp only[BN]at h26);have hlt:i<N.length:=by omega
     have hw1:=XA hlt (by omega);have hk1:i+1≤N.length:=hlt;obtain⟨x,hx,_⟩:=Xq hlt;obtain⟨Si,hS,_⟩:=Xq (show i<S1.length by rw[hI.g.len];exact hlt);have hxe:=ZK hx;have hxo:=hok x (List.mem_of_getElem? hx);have hSm:Si∈S1:=List.mem_of_getElem? hS;have ca:=caft S1 i x Si hx hS (by omega) hv (Nat.le_trans (QD (hI.g.nod Si hSm) (hI.g.lt Si hSm)) (by omega)) (fun d hd=>by have:=hI.g.lt Si hSm d hd;omega) hxo.ha 60 (by decide);obtain⟨xk,xa,xn,xo⟩:=x;simp only[Nd.enc]at hxe;simp only[Fl.enc,setsC,kC]at ca;clear hlt h26;refine X0<|X5<|X0<|(Xn (by simp[*,XD];rfl) ?_);refine X0<|(XS ?_);refine RunsN.cutE 2 [] (by simp;rfl) trivial (le_refl _) ?_;refine RunsN.callFA ca fun l hl=>?_;refine RunsN.doneE [] (by simp[HS.made];rfl) trivial ?_;have hrc:∀d∈l,∀to,ZM ⟨xk,xa,xn,xo⟩ to→Rc N steps vars.length to d:=fun d hd to ht=>Xaz hI.g hx hS ((hl.1 d).1 hd) ht
     have hrl:∀d∈l,∀to,ZM ⟨xk,xa,xn,xo⟩ to→d<steps.length+vars.length:=fun d hd to ht=>rc_lt (fun x hx ha=>by
      rcases(hok x hx).ha with h|⟨m,h1,h2⟩
      · simp[Qp,h.1]at ha
      rw[h1];simpa using h2) (hrc d hd to ht)
     have hclo:∀S,S=S0→c1=false→(∀j,j<2→lS2 S (toA xn xo j) l)→clo N steps vars.length S0 i:=by
      intro S hS0 hc h;obtain⟨h1,_⟩:=hI.same hc;subst h1;subst hS0;exact clo_of hx hS hl.1 h
     have hS1c:c1=false→S1=S0:=fun hc=>(hI.same hc).1;have hll:=hl.2;clear ca hxe hS hSm caft;refine X4 ?_;refine X5<|(Xd [3,8,11,15,51,52,53,65,66] (fun(y:Nat×Bool×List (List Nat))=>[(12,.v (lb y.2.1)),(67,.v (li y.1))]) (fun(y:Nat×Bool×List (List Nat))=>[(2,.box [.c (.sl 5 (Xs vars)),.c (.sl 6 (Xt hats)),.c (.sl 10 (Xa body))]),(3,.box [.c (.sl 4 (XG N))]),(7,.box [.c (.sl 10 (Xa steps))]),(8,.box [.own 36]),(10,.box [.fn 149 [(7,0)]]),(36,.mps 86 (msS y.2.2)),(60,.row 3 1 (XB l)),(65,.row 3 1 (toR xn xo))]) (fun(y:Nat×Bool×List (List Nat))=>y.1≤2∧Inv N steps vars.length S0 y.2.2 y.2.1 (Pd N steps vars.length S0 i (c1=false∧∀j,j<y.1→lS2 S0 (toA xn xo j) l))) (fun(y:Nat×Bool×List (List Nat))=>2 - y.1) (0,c1,S1) ⟨Nat.zero_le _,⟨hI.g,hI.tot,hI.up,fun hc=>⟨(hI.same hc).1,(hI.same hc).2.1,hc,fun j hj=>absurd hj (Nat.not_lt_zero j)⟩⟩⟩ ?_ ?_)
     · exact Xu (fun n=>n) [] rfl (by simp[*,upS,X8]) (by simp[*,upS,toR]) (by simp[upS])
     rintro⟨k,c2,S2⟩ ⟨hk,hI2⟩;simp only[upS,X8,Xy]
     try simp only[X8,KN,Nat.reduceBEq,if_true,if_false,ins,Nat.reduceLT]
     simp only at hk hI2;refine X4 ?_;refine X0<|(X9 rfl (fun h32=>Xb ?_) (fun h32=>?_))
     · try simp only[BN]at h32
       have hk2:k<2:=by
        have:(k:Int)<2:=by simpa using h32
        omega
       have hwk:=XA hk2 (by omega);have hkk:k+1≤2:=hk2;have hto:=Xbv (xn:=xn) (xo:=xo) hk2
       have hsuc:∀t:Nat,toA xn xo k=t→ZM ⟨xk,xa,xn,xo⟩ t:=by
        intro t ht;unfold toA at ht;split at ht
        · exact .inl ht
        exact .inr ht
       have htok:X1B N.length (toA xn xo k):=by
        unfold toA;split
        · exact hxo.hn
        exact hxo.ho
       obtain⟨to,hto1⟩:∃x,toA xn xo k=x:=⟨_,rfl⟩;rw[hto1]at hto hsuc htok;clear h32 hk2;refine X0<|X5<|X0<|X3 ?_;refine X4 ?_;refine X5<|(Xd [3,8,11,15,17,51,52,53,65,66,67,71,72] (fun(y:Nat×Bool×List (List Nat))=>[(12,.v (lb y.2.1)),(73,.v (li y.1))]) (fun(y:Nat×Bool×List (List Nat))=>[(2,.box [.c (.sl 5 (Xs vars)),.c (.sl 6 (Xt hats)),.c (.sl 10 (Xa body))]),(3,.box [.c (.sl 4 (XG N))]),(7,.box [.c (.sl 10 (Xa steps))]),(8,.box [.own 36]),(10,.box [.fn 149 [(7,0)]]),(36,.mps 86 (msS y.2.2)),(60,.row 3 1 (XB l)),(65,.row 3 1 (toR xn xo))]) (fun(y:Nat×Bool×List (List Nat))=>y.1≤l.length∧Inv N steps vars.length S0 y.2.2 y.2.1 (Pd N steps vars.length S0 i (c1=false∧(∀j,j<k→lS2 S0 (toA xn xo j) l)∧lS2 S0 to (l.take y.1)))) (fun(y:Nat×Bool×List (List Nat))=>l.length - y.1) (0,c2,S2) ⟨Nat.zero_le _,hI2.mono fun _ h=>⟨h.1,h.2.1,h.2.2,fun d hd=>by simp at hd⟩⟩ ?_ ?_)
       · exact X6 (fun n=>n) []
       rintro⟨m,c3,S3⟩ ⟨hm,hI3⟩;simp only[upS,X8,Xy]
       try simp only[X8,KN,Nat.reduceBEq,if_true,if_false,ins,Nat.reduceLT]
       simp only at hm hI3;refine X4 ?_;refine X0<|(X9 rfl (fun h37=>Xb ?_) (fun h37=>?_))
       · (try simp only[BN]at h37);have hml:m<l.length:=by simpa using h37
         have hwm:=XA hml (by omega);have hm1:m+1≤l.length:=hml;obtain⟨d,hd,_⟩:=Xq hml;have hde:(XB l)[m]? =some [iC d]:=by simp[XB,hd]
         have hdm:=List.mem_of_getElem? hd;clear h37 hml;refine X0<|X5<|X0<|X3 ?_;refine XO [3,8,11,12,15,17,19,51,52,53,65,66,67,71,72,73] (fun(q:Bool)=>[(87,.v (lb q))]) (fun(q:Bool)=>[(2,.box [.c (.sl 5 (Xs vars)),.c (.sl 6 (Xt hats)),.c (.sl 10 (Xa body))]),(3,.box [.c (.sl 4 (XG N))]),(7,.box [.c (.sl 10 (Xa steps))]),(8,.box [.own 36]),(10,.box [.fn 149 [(7,0)]]),(36,.mps 86 (msS S3)),(60,.row 3 1 (XB l)),(65,.row 3 1 (toR xn xo))]) (fun(q:Bool)=>(q=true→∃(t:Nat) (Lt:List Nat),to=t∧S3[t]? =some Lt∧d∉Lt)∧(q=false→inS S3 to d)) ?_ ?_
         · rcases htok with rfl|⟨t,rfl,htl⟩
           · refine Xn (by simp[*];rfl) ?_;refine⟨false,⟨fun h=>(by cases h),fun _ m l hm=>by omega⟩,Xu (fun n=>n) [] rfl (by simp[upS,X8]) (by simp[upS]) (by simp[upS])⟩
           obtain⟨Lt,hLt,_⟩:=Xq (show t<S3.length by rw[hI3.g.len];exact htl);have hms:=Xbt hLt;have hfd:=X1C d Lt;have htl2:t+1≤S3.length:=by rw[hI3.g.len];exact htl
           by_cases hin:d∈Lt
           · rw[if_pos hin]at hfd;refine Xn (by simp[hwm,hms,hfd,htl2];rfl) ?_;refine⟨false,⟨fun h=>(by cases h),fun _ m l hm hl2=>by rw[←Int.ofNat.inj hm,hLt]at hl2;cases hl2;exact hin⟩,Xu (fun n=>n) [] rfl (by simp[upS,X8]) (by simp[upS]) (by simp[upS])⟩
           rw[if_neg hin]at hfd;refine Xn (by simp[hwm,hms,hfd,htl2];rfl) ?_;refine⟨true,⟨fun _=>⟨t,Lt,rfl,hLt,hin⟩,fun h=>(by cases h)⟩,Xu (fun n=>n) [] rfl (by simp[upS,X8]) (by simp[upS]) (by simp[upS])⟩
         rintro q hq;simp only[upS,X8,Xy]
         try simp only[X8,KN,Nat.reduceBEq,if_true,if_false,ins,Nat.reduceLT]
         refine(Xe rfl (fun h40=>?_) fun h40=>?_)
         · (try simp only[BN]at h40);obtain⟨t,Lt,rfl,hLt,hnd⟩:=hq.1 (by simpa using h40);have hms:=Xbt hLt;have hfd:=X1C d Lt;rw[if_neg hnd]at hfd;have htl2:t+1≤S3.length:=(List.getElem?_eq_some_iff.1 hLt).1;have hset:=set_msS S3 t Lt d;have hinv:=hI3.add (Q:=Pd N steps vars.length S0 i (c1=false∧(∀j,j<k→lS2 S0 (toA xn xo j) l)∧lS2 S0 (t:Int) (l.take (m+1)))) hLt hnd (hrl d hdm t (hsuc t rfl)) (hrc d hdm t (hsuc t rfl));clear hq h40 hI3 hnd hLt;refine X0<|(Xn (by simp[hms,hfd,htl2,hset];rfl) ?_);refine X3 ?_;refine X3 ?_;exact⟨(m+1,true,S3.set t (Lt++[d])),⟨hm1,hinv⟩,by simp only;omega,X6 (fun n=>n) []⟩
         (try simp only[BN]at h40);have hq2:=hq.2 (by simpa using h40);clear hq h40;refine X3 ?_
         exact⟨(m+1,c3,S3),⟨hm1,hI3.mono fun hs h=>⟨h.1,h.2.1,h.2.2.1,fun e he=>by
          rw[List.take_add_one,hd]at he;rcases List.mem_append.1 he with h4|h4
          · exact h.2.2.2 e h4
          have:e=d:=by simpa using h4
          rw[this,←hs];exact hq2⟩⟩,by simp only;omega,X6 (fun n=>n) []⟩
       try simp only[BN]at h37
       have hml:m=l.length:=by
        have:¬m<l.length:=by simpa using h37
        omega
       subst hml;rw[List.take_length]at hI3;clear h37;refine(Xg ?_);refine X3 ?_
       exact⟨(k+1,c3,S3),⟨hkk,hI3.mono fun _ h=>⟨h.1,h.2.1,fun j hj=>by
        rcases Nat.lt_or_eq_of_le (Nat.le_of_lt_succ hj)with h4|h4
        · exact h.2.2.1 j h4
        rw[h4,hto1];exact h.2.2.2⟩⟩,by simp only;omega,X6 (fun n=>n) []⟩
     try simp only[BN]at h32
     have hk2:k=2:=by
      have:¬(k:Int)<2:=by simpa using h32
      omega
     subst hk2;clear h32;refine(Xg ?_);refine X3 ?_
     exact⟨(i+1,c2,S2),⟨hk1,hI2.mono fun hs h=>⟨fun j hj=>by
      rcases Nat.lt_or_eq_of_le (Nat.le_of_lt_succ hj)with h4|h4
      · exact h.1 j h4
      rw[h4];exact hclo S2 hs h.2.1 (by rw[hs];exact h.2.2),trivial⟩⟩,by simp only;omega,X6 (fun n=>n) []⟩
   (try simp only[BN]at h26);have hin:i=N.length:=by omega
   subst hin;have htot1:=X94 hI.g;refine(Xg ?_)
   exact⟨(c1,S1),⟨hI.g,fun hc j hj=>by obtain⟨rfl,h1,_⟩:=hI.same hc;exact h1 j hj⟩,by
    simp only;cases c1 with
    |true=>have:=hI.up rfl;simp only[if_true];omega
    |false=>obtain⟨rfl,_⟩:=hI.same rfl;simp,X6 (fun n=>n) []⟩
 (try simp only[BN]at h21);have hc0:c0=false:=by simpa using h21
 subst hc0;have hcl:=hcl0 rfl
 have hlt:∀to d,Rc N steps vars.length to d→d<steps.length+vars.length:=fun to d h=>rc_lt (fun x hx ha=>by
  rcases(hok x hx).ha with h|⟨m,h1,h2⟩
  · simp[Qp,h.1]at ha
  rw[h1];simpa using h2) h
 have hrow:=fun {i:Nat} {Si:List Nat}=>rcL_row (i:=i) (Si:=Si) hg0 hcl hlt;have hLl:=X7H N steps vars.length;obtain⟨L,hL⟩:∃x,rcL N steps vars.length=x:=⟨_,rfl⟩;rw[hL]at hLl⊢;simp only[hL]at hrow;have hSl:=hg0.len;have hbig2:(24:Int)*N.length≤281474976710656:=by omega
 have hSb:∀Si∈S0,Si.Nodup∧Si.length≤2000:=fun Si h=>⟨hg0.nod Si h,Nat.le_trans (QD (hg0.nod Si h) (hg0.lt Si h)) (by omega)⟩;clear hcl0 h21 hcl hlt hL caft hg0 hy h11 cf cc hok;refine(Xg ?_);refine XC (le_frzQ 36 rfl) ?_;refine XC (s':=⟨⟨129,none⟩,[(8,.v (.one (.at_ 8 0)))],[(8,.box [.c (.sl 1 (S0.map fun l=>[.mp (mpI l)]))])]⟩) (Xu (fun n=>n) [] rfl (by simp[HS.frz,Wz,RV.frz,TV.frz,CV.frz]) (by simp[HS.frz,Wz,Ob.frz,CV.frz,del]) (by simp)) ?_;refine X4 ?_;refine XC (X5T 98 3 1 (by decide) (by decide) rfl rfl rfl) ?_;refine X0<|X0<|X3 ?_;refine X5<|(Xd [20,99,100] (fun(y:Nat)=>[(101,.v (li y))]) (fun y=>[(98,.mat 27 3 1 (rwI L y N.length))]) (fun y=>y≤N.length) (fun y=>N.length - y) (0:Nat) (Nat.zero_le _) ?_ ?_)
 · exact Xu (fun n=>n) [] rfl (by simp[*,upS,X8]) (by simp[*,upS,X9E]) (by simp[upS])
 rintro y hy;simp only[upS,X8,Xy]
 try simp only[X8,KN,Nat.reduceBEq,if_true,if_false,ins,Nat.reduceLT]
 refine X4 ?_;refine X0<|(X9 rfl (fun h56=>Xb ?_) (fun h56=>?_))
 · (try simp only[BN]at h56);have hlt:y<N.length:=by omega
   have hw1:=XA hlt (by omega);have hk1:y+1≤N.length:=hlt;obtain⟨Si,hS,_⟩:=Xq (show y<S0.length by omega);have hSr:(S0.map fun l=>[CD.mp (mpI l)])[y]? =some [CD.mp (mpI Si)]:=by simp[hS]
   obtain⟨hnod,hSi⟩:=hSb Si (List.mem_of_getElem? hS);obtain⟨lr,hlr,hmemr,hsrt⟩:=hrow hS;have hget:=Xbj hlt hLl;have hRs:=Xb5 hlr hlt hLl;have hRl:y+1≤(rwI L y N.length).length:=by rw[Xba hy hLl];exact hlt
   obtain⟨R,hR⟩:∃x,rwI L y N.length=x:=⟨_,rfl⟩;rw[hR]at hget hRs hRl⊢;have hz:=X7b hget;clear hrow hSb hlt h56 hR hget hlr hS;refine X0<|X5<|X0<|X3 ?_;refine X0<|X0<|X3 ?_;refine X5<|(Xd [20,21,99,100,101,107] (fun(z:List Nat×List Nat)=>[]) (fun z=>[(98,.mat 27 3 1 (X11 R y z.2)),(107,.it (mpI Si) z.1)]) (fun z=>z.1.Nodup∧X01 z.1 Si.length∧(∀d,d∈z.2↔∃j∈z.1,Si[j]? =some d)∧z.2.Nodup∧z.2.length≤z.1.length) (fun z=>Si.length - z.1.length) ([],[]) ⟨List.nodup_nil,by simp[X01],by simp,List.nodup_nil,Nat.le_refl _⟩ ?_ ?_)
   · exact X6 (fun n=>n) []
   rintro⟨seen,out⟩ ⟨j1,j2,j3,j4,j5⟩;simp only[upS,X8,Xy]
   try simp only[X8,KN,Nat.reduceBEq,if_true,if_false,ins,Nat.reduceLT]
   simp only at j1 j2 j3 j4 j5;refine X1K (fun j k v hj hn=>?_) (fun hall=>?_)
   skip
   · (try simp only[BN]at h61);obtain⟨d,hd,rfl,rfl⟩:=X5c hj;have hjl:j<Si.length:=(List.getElem?_eq_some_iff.1 hd).1
     have hnd:(seen++[j]).Nodup:=by
      rw[List.nodup_append];exact⟨j1,by simp,fun a ha b hb=>by rw[List.mem_singleton.1 hb];exact fun e=>hn (e▸ha)⟩
     have hin:X01 (seen++[j]) Si.length:=fun i hi=>by
      rcases List.mem_append.1 hi with h|h
      · exact j2 i h
      rw[List.mem_singleton.1 h];exact hjl
     have hle:=QD hnd hin;simp only[List.length_append,List.length_singleton]at hle
     have hmem:∀x,x∈out++[d]↔∃i∈seen++[j],Si[i]? =some x:=by
      intro x;rw[List.mem_append,j3,List.mem_singleton];constructor
      · rintro(⟨i,h1,h2⟩|rfl)
        · exact⟨i,List.mem_append_left _ h1,h2⟩
        exact⟨j,by simp,hd⟩
      rintro⟨i,h1,h2⟩;rcases List.mem_append.1 h1 with h1|h1
      · exact .inl ⟨i,h1,h2⟩
      rw[List.mem_singleton.1 h1,hd]at h2;exact .inr (Option.some.inj h2).symm
     have hdo:d∉out:=by
      intro h;obtain⟨i,h1,h2⟩:=(j3 d).1 h;have:=(List.getElem?_inj hjl hnod).1 (hd.trans h2.symm);exact hn (this▸h1)
     have hon:(out++[d]).Nodup:=by
      rw[List.nodup_append];exact⟨j4,by simp,fun a ha b hb=>by rw[List.mem_singleton.1 hb];exact fun e=>hdo (e▸ha)⟩
     clear hjl j1 j3 j4 hn hdo hnod;refine X5<|X0<|X3 ?_;cases out with
     | nil=>
       have g1:=X0i hRl [];have g2:=X6V hRl;have g3:=X1X R y [] [] d;have hroom:Qa 1 8:=Xx (by omega) (by decide);simp only[ZS,if_true]at g1;simp only[X2W,List.nil_append]at g3;refine Xn (by simp[g1,g2,g3,hRl,hroom];rfl) ?_;exact⟨(seen++[j],[d]),⟨hnd,hin,hmem,hon,by simp⟩,by simp only[List.length_append,List.length_singleton];omega,Xu (fun n=>n) [] rfl (by simp[upS,X8]) (by simp[upS]) (by simp[upS])⟩
     | cons a o=>
       have g1:=X0i hRl (a::o);have g3:=X1X R y (a::o) (a::o) d;have hroom:Qa ((a::o).length+1) 8:=Xx (by omega) (by decide);simp only[ZS,List.cons_ne_nil,if_false]at g1;rw[List.length_cons]at hroom;refine XS ?_;refine RunsN.cutE 8 [] (by simp[g1,hRl];rfl) trivial (le_refl _) ?_;refine RunsN.matA (by simp[X6r,neT,g1,g3,hroom];rfl) ?_;refine RunsN.doneE [] rfl trivial ?_;exact⟨(seen++[j],a::o++[d]),⟨hnd,hin,hmem,hon,by simp only[List.length_append,List.length_singleton]at j5⊢;omega⟩,by simp only[List.length_append,List.length_singleton];omega,Xu (fun n=>if n=98 then 120 else n) [] rfl (by simp[upS,X8,Wz,RV.mv,TV.mv,CV.mv]) (by simp[upS,Wz,Ob.mv,CV.mv]) (by simp[upS])⟩
   try simp only[BN]at h61
   have hout:∀x,x∈out↔x∈Si:=by
    intro x;rw[j3];constructor
    · rintro⟨i,_,h2⟩;exact List.mem_of_getElem? h2
    intro h;obtain⟨i,hi⟩:=List.mem_iff_getElem?.1 h;exact⟨i,hall i (by rw[X56];exact(List.getElem?_eq_some_iff.1 hi).1),hi⟩
   have hle:=QD j1 j2;have hsrt:=hsrt out j4 hout
   have hlr0:lr=[]↔out=[]:=by
    constructor
    · intro h;rw[List.eq_nil_iff_forall_not_mem];intro x hx;have:=(hmemr x).1 ((hout x).1 hx);rw[h]at this;cases this
    intro h;rw[List.eq_nil_iff_forall_not_mem];intro x hx;have:=(hout x).2 ((hmemr x).2 hx);rw[h]at this;cases this
   have hfin:=X8H R y out (ZS lr);rw[hRs]at hfin;clear hall j1 j2 j3 j4 hRs hz hmemr hnod;refine(Xg ?_);cases out with
   | nil=>
     have g1:=X0i hRl [];have hlr1:=hlr0.2 rfl;subst hlr1
     have hz2:X11 R y []=rwI L (y+1) N.length:=by
      rw[←hfin];apply List.ext_getElem?;intro k;rw[List.getElem?_set];split
      · rename_i e;subst e;rw[if_pos (by rw[matY_len];omega),g1]
      rfl
     simp only[ZS,if_true]at g1;refine QR [⟨true,.tup [],none⟩] (by simp[g1,hRl];first|exact⟨rfl,Iff.rfl⟩|exact⟨rfl,trivial⟩|rfl) ?_ ?_
     · first|exact X5v _|simpa using X5v _
     refine Xn (by simp[hw1];rfl) ?_;exact⟨y+1,hk1,by omega,Xu (fun n=>n) [] rfl (by simp[upS,X8]) (by simp[upS,hz2]) (by simp[upS])⟩
   | cons a o=>
     have g1:=X0i hRl (a::o);have hlr1:¬lr=[]:=fun h=>by have:=hlr0.1 h;cases this
     simp only[ZS,List.cons_ne_nil,if_false]at g1;simp only[ZS,hlr1,if_false]at hfin;have cs:=X4t ((a::o).map Int.ofNat) (by simp) (by simp only[List.length_map];omega);rw[←X3O,show Xj (((a::o).map Int.ofNat).mergeSort fun x y=>decide (x≤y))=XB lr from hsrt]at cs;refine XS ?_;refine RunsN.cutE 4 [] (by simp[g1,hRl];rfl) trivial (le_refl _) ?_;refine RunsN.subA (by simp[X8M,X3N,g1];exact⟨rfl,rfl,rfl,rfl,rfl⟩) cs ?_;refine RunsN.doneE [] rfl trivial ?_;refine Xn (by simp[hw1];rfl) ?_;exact⟨y+1,hk1,by omega,Xu (fun n=>n) [] rfl (by simp[upS,X8]) (by simp[upS,hfin]) (by simp[upS])⟩
 (try simp only[BN]at h56);have hyn:y=N.length:=by omega
 subst hyn;have hend:=Xbh hLl;clear hrow hSb;refine(Xg ?_);refine X4 ?_;refine XC (X3J 98 rfl) ?_;exact XU ⟨.inr rfl,_,le_refl _,⟨_,by simp[HS.frz,Wz,RV.frz,TV.frz,CV.frz];rfl,by simp[XN,hend]⟩,by simp,fun h=>by cases h⟩
end Go.Proofs.YtppjennamodfdaaGreat

namespace Go.Proofs.YtppjennamodfdaaGreat
open Go Go.Hl
mutual
def arS:St→Int→Nat→List Int
 | .mk _ _ _ _ _ a b _,outer,at_=>outer::(arL a at_ (at_+1)++arL b at_ (at_+1+szL a))
def arL:List St→Int→Nat→List Int
 |[],_,_=>[]
 |s::l,outer,at_=>arS s outer at_++arL l outer (at_+szS s)
end
theorem arS_eq (s:St) (o:Int) (p:Nat):arS s o p=o::(arL s.then_ p (p+1)++arL s.else_ p (p+1+szL s.then_)):=by cases s;rfl
mutual
theorem arS_len:∀(s:St) (o:Int) (p:Nat),(arS s o p).length=szS s
 | .mk _ _ _ _ _ a b _,o,p=>by simp only[arS,szS,List.length_cons,List.length_append,Zg a,Zg b];omega
theorem Zg:∀(l:List St) (o:Int) (p:Nat),(arL l o p).length=szL l
 |[],_,_=>rfl
 |s::l,o,p=>by simp only[arL,szL,List.length_append,arS_len s,Zg l]
end
@[simp] theorem encIs_app (a b:List Int):Xj (a++b)=Xj a++Xj b:=by simp[Xj]
def W7 (f:Fl) (st:List St) (ar:List Int):List (Nat×Ob):=[(900001,.row 76 10 (Xa st)),(900002,.row 3 1 (Xj ar)),(1000000,.box [.at_ 1000001 0]),(1000001,.box [.c (.sl 5 (Xs f.vars)),.c (.sl 6 (Xt f.hats)),.c (.sl 10 (Xa f.body)),.own 900001,.own 900002,.c (.lit XY)]),(1000002,.box [.fn 123 [(1000000,0),(1000002,0)]])]
theorem tab_pin {f:Fl} {st:List St} {ar:List Int}:∀n cs,lkp (W7 f st ar) n=some (.box cs)→1000000≤n:=by
 intro n cs h;simp only[W7,lkp]at h
 repeat' split at h
 all_goals first|omega|cases h
def msC:List (Nat×List Nat):=[(15,[0]),(14,[1,2]),(12,[2]),(10,[1]),(8,[3])]
def msD:List (Nat×List Nat):=[(2047,[0,1,5]),(2046,[1,5]),(2045,[0,2,5]),(2015,[0,1,6]),(2044,[2,5]),(2014,[1,6]),(2041,[0,3,5]),(2013,[0,2,6]),(1951,[0,1]),(2040,[3,5]),(2012,[2,6]),(1950,[1]),(2033,[0,4,5]),(2009,[0,3,6]),(1949,[0,2]),(2032,[4,5]),(2008,[3,6]),(1948,[2]),(2017,[0,5]),(2001,[0,4,6]),(1945,[0,3]),(2016,[5]),(2000,[4,6]),(1944,[3]),(1985,[0,6]),(1937,[0,4]),(1984,[6]),(1936,[4]),(1921,[0,7]),(1920,[7]),(1793,[0]),(1792,[8]),(1536,[9]),(1024,[10])]
attribute [simp] W7
def nxCo (B:HS) (b:Bool) (R:List Nat):HS:=
 {trS B [(0,20,.v (.one (.at_ 20 0))),(3,21,.v (lb b))] R with objs:=if R.contains 0 then B.objs else ins 20 (.box [.c (bC b)]) B.objs}
def nxA (regs:List (Nat×RV)) (o0 o6 o7 o10:List (Nat×Ob)) (outs:List (Nat×Nat×RV)) (R:List Nat):HS:=
 {trS ⟨⟨64,none⟩,regs,[]⟩ outs R with objs:=if R.contains 6 then o0 else if R.contains 7 then o6 else if R.contains 10 then o7 else o10}
set_option maxHeartbeats 8000000 in
theorem new1_con (f:Fl) (l:List St):∀(outer:Int) (st:List St) (ar:List Int),ar.length=st.length→st.length+szL l≤1000→
  X1q Tryz.prog 123 none (W7 f st ar) [lS l,li outer,.one (.at_ 1000000 0),.one (.at_ 1000002 0)] (fun _:Unit=>True) (fun _=>.tup []) (fun _=>W7 f (st++flL l) (ar++arL l outer st.length)):=by
 revert l
 apply St.lists;intro l ih outer st0 ar0 har0 hn0;have hlen:=X5a l;have hn1:szL l≤1000:=by omega
 obtain⟨R1,hR1⟩:∃x,st0++flL l=x:=⟨_,rfl⟩;obtain⟨R2,hR2⟩:∃x,ar0++arL l outer st0.length=x:=⟨_,rfl⟩;rw[hR1,hR2];refine Qs Tryz.func123 rfl (by kernel_rfl) (Nat.le_of_ble_eq_true rfl) tab_pin (fun v h=>by cases h) ?_;simp only[Tryz.f123];refine X4 ?_;refine X5<|(Xd [1,2,3,9,10] (fun(y:Nat×List St×List Int)=>[(11,.v (li y.1))]) (fun y=>W7 f y.2.1 y.2.2) (fun y=>y.1≤l.length∧y.2.1++flL (l.drop y.1)=R1∧y.2.2++arL (l.drop y.1) outer y.2.1.length=R2∧y.2.2.length=y.2.1.length∧y.2.1.length+szL (l.drop y.1)≤1000) (fun y=>l.length - y.1) (0,st0,ar0) ⟨Nat.zero_le _,by simpa using hR1,by simpa using hR2,har0,by simpa using hn0⟩ ?_ ?_)
 · exact Xu (fun n=>n) [] rfl (by simp[W7, *,upS,X8,QX]) (by simp[W7, *,upS]) (by simp[W7,upS])
 rintro⟨k,st,ar⟩ ⟨hk,h1,h2,har,hsz⟩;simp only[upS,X8,Xy]
 try simp only[X8,KN,Nat.reduceBEq,if_true,if_false,ins,Nat.reduceLT]
 simp only at hk h1 h2 har hsz;clear hR1 hR2 hn0 har0;simp only[W7];refine X4 ?_;refine X0<|(X9 rfl (fun h3=>Xb ?_) (fun h3=>?_))
 · (try simp only[BN]at h3);have hlt:k<l.length:=by simpa using h3
   obtain⟨s,he,hd⟩:=Xq hlt;have hw1:=XA hlt (by omega);have hk1:k+1≤l.length:=hlt;have hmem:s∈l:=List.mem_of_getElem? he;rw[hd]at h1 h2 hsz;simp only[flL,XaA]at h1;simp only[arL,arS_eq]at h2;simp only[szL]at hsz;have he':=XX he;have iha:=(ih s hmem).1;have ihb:=(ih s hmem).2;obtain⟨so,sc,sv,sn,⟨to,tn,tk⟩,sa,sb,sbs⟩:=s;simp only[St.then_,St.else_]at iha ihb h1 h2;simp only[szS]at hsz h2;have fa:=XK sa;have fb:=XK sb;have la:=Zg sa st.length (st.length+1);have iha:=iha (st.length:Int) (st++[St.mk so sc sv sn (Tm.mk to tn tk) sa sb sbs]) (ar++[outer]) (by simp[har]) (by simp;omega);have ihb:=ihb (st.length:Int) (st++[St.mk so sc sv sn (Tm.mk to tn tk) sa sb sbs]++flL sa) (ar++[outer]++arL sa st.length (st.length+1)) (by simp[har,la,fa]) (by simp[fa];omega);simp only[List.length_append,List.length_singleton,fa]at iha ihb;have hE1:st++[St.mk so sc sv sn (Tm.mk to tn tk) sa sb sbs]++flL sa++flL sb++flL (l.drop (k+1))=R1:=by rw[←h1];simp
   have hE2:ar++[outer]++arL sa st.length (st.length+1)++arL sb st.length (st.length+1+szL sa)++arL (l.drop (k+1)) outer (st.length+(1+szL sa+szL sb))=R2:=by rw[←h2];simp
   have hlb:=Zg sb st.length (st.length+1+szL sa);have r1:Qa (st.length+1) 144:=Xx (by omega) (by decide);have r2:Qa (ar.length+1) 8:=Xx (by omega) (by decide)
   have hset:∀z:List CD,(Xa st++[z]).set st.length [iC so,iC sc,iC sv,iC sn,iC to,iC tn,.sl 3 (Xo tk),.sl 10 (Xa sa),.sl 10 (Xa sb),.sl 1 (Xj sbs)]=Xa st++[[iC so,iC sc,iC sv,iC sn,iC to,iC tn,.sl 3 (Xo tk),.sl 10 (Xa sa),.sl 10 (Xa sb),.sl 1 (Xj sbs)]]:=by
    intro z;rw[List.set_append,if_neg (by simp)];simp
   have hsn:Xa (st++[St.mk so sc sv sn (Tm.mk to tn tk) sa sb sbs])=Xa st++[[iC so,iC sc,iC sv,iC sn,iC to,iC tn,.sl 3 (Xo tk),.sl 10 (Xa sa),.sl 10 (Xa sb),.sl 1 (Xj sbs)]]:=by
    rw[Qu];rfl
   simp only[St.enc,Tm.enc,List.cons_append,List.nil_append]at he';clear hlt h3 ih hmem he hd h1 h2;refine X0<|X5<|X0<|X3 ?_;refine X4 ?_;refine(XO [1,2,3,7,8,9,10,11] (fun(z:Unit)=>[]) (fun(z:Unit)=>(7,.box [.c (iC so),.c (iC sc),.c (iC sv),.c (iC sn),.c (iC to),.c (iC tn),.c (.sl 3 (Xo tk)),.c (.sl 10 (Xa sa)),.c (.sl 10 (Xa sb)),.c (.sl 1 (Xj sbs))])::W7 f (st++[St.mk so sc sv sn (Tm.mk to tn tk) sa sb sbs]) ar) (fun(z:Unit)=>True) ?_ ?_)
   ·
    refine XC (s':=⟨⟨64,none⟩,[(1,.v (li outer)),(2,.v (.one (.at_ 1000000 0))),(3,.v (.one (.at_ 1000002 0))),(7,.v (.one (.at_ 7 0))),(8,.v (li st.length)),(9,.v (lS l)),(10,.v (li l.length)),(11,.v (li k))],(7,.box [.c (iC so),.c (iC sc),.c (iC sv),.c (iC sn),.c (iC to),.c (iC tn),.c (.sl 3 (Xo tk)),.c (.sl 10 (Xa sa)),.c (.sl 10 (Xa sb)),.c (.sl 1 (Xj sbs))])::W7 f st ar⟩) (Xu (fun n=>n) [] rfl (by simp[*]) (by simp[*,W7]) (by simp[W7])) ?_;refine X0<|(Xco (nxCo ⟨⟨64,none⟩,[(1,.v (li outer)),(2,.v (.one (.at_ 1000000 0))),(3,.v (.one (.at_ 1000002 0))),(7,.v (.one (.at_ 7 0))),(8,.v (li st.length)),(9,.v (lS l)),(10,.v (li l.length)),(11,.v (li k))],(7,.box [.c (iC so),.c (iC sc),.c (iC sv),.c (iC sn),.c (iC to),.c (iC tn),.c (.sl 3 (Xo tk)),.c (.sl 10 (Xa sa)),.c (.sl 10 (Xa sb)),.c (.sl 1 (Xj sbs))])::W7 f st ar⟩) 4 15 msC rfl (by kernel_rfl) (by kernel_rfl) (by kernel_rfl) (by kernel_rfl) ⟨false,by simp[nxCo,trS]⟩ ?_ fun cb=>?_)
    · simp only[msC,X03];refine⟨?_,⟨?_,?_⟩,?_,?_,?_⟩
      · exact fun x=>.evX false rfl (by simp[nxCo,trS,ins,W9,W7])
      · exact fun x=>.evX true rfl (by simp[nxCo,trS,ins,W9,W7])
      · exact fun x=>.evX false rfl (by simp[nxCo,trS,ins,W9,W7])
      · exact fun x=>.evX false rfl (by simp[nxCo,trS,ins,W9,W7])
      · exact fun x=>.evX true rfl (by simp[nxCo,trS,ins,W9,W7])
      exact fun x=>.evX x rfl (by simp[nxCo,trS,ins,W9,W7])
    refine XC (s':=⟨⟨64,none⟩,(21,.v (lb cb))::[(1,.v (li outer)),(2,.v (.one (.at_ 1000000 0))),(3,.v (.one (.at_ 1000002 0))),(7,.v (.one (.at_ 7 0))),(8,.v (li st.length)),(9,.v (lS l)),(10,.v (li l.length)),(11,.v (li k))],(7,.box [.c (iC so),.c (iC sc),.c (iC sv),.c (iC sn),.c (iC to),.c (iC tn),.c (.sl 3 (Xo tk)),.c (.sl 10 (Xa sa)),.c (.sl 10 (Xa sb)),.c (.sl 1 (Xj sbs))])::W7 f st ar⟩) (Xu (fun n=>n) [] rfl (by simp[nxCo,trS,ins]) (by simp[nxCo,trS,ins,W7]) (by simp[W7])) ?_;simp only[W7];refine(X9 rfl (fun h8=>?_) (fun h8=>?_))
    · (try simp only[BN]at h8);refine X0<|(Q6 (by kernel_rfl) (by kernel_rfl) (by rfl) (by simp[*,XD,Qd,XQ,cellsOf,Qe,Wc,Zf,Wd,QY,WG];rfl) ?_);refine(Xn (by simp[*,setRow];rfl) ?_);exact⟨(),trivial,X6 (fun n=>if n=900001 then 29 else n) []⟩
    (try simp only[BN]at h8);refine XC (s':=⟨⟨64,none⟩,[(1,.v (li outer)),(2,.v (.one (.at_ 1000000 0))),(3,.v (.one (.at_ 1000002 0))),(7,.v (.one (.at_ 7 0))),(8,.v (li st.length)),(9,.v (lS l)),(10,.v (li l.length)),(11,.v (li k))],(7,.box [.c (iC so),.c (iC sc),.c (iC sv),.c (iC sn),.c (iC to),.c (iC tn),.c (.sl 3 (Xo tk)),.c (.sl 10 (Xa sa)),.c (.sl 10 (Xa sb)),.c (.sl 1 (Xj sbs))])::W7 f st ar⟩) (Xu (fun n=>n) [] rfl (by simp) (by simp[W7]) (by simp[W7])) ?_;refine(QU (nxA [(1,.v (li outer)),(2,.v (.one (.at_ 1000000 0))),(3,.v (.one (.at_ 1000002 0))),(7,.v (.one (.at_ 7 0))),(8,.v (li st.length)),(9,.v (lS l)),(10,.v (li l.length)),(11,.v (li k))] ((7,.box [.c (iC so),.c (iC sc),.c (iC sv),.c (iC sn),.c (iC to),.c (iC tn),.c (.sl 3 (Xo tk)),.c (.sl 10 (Xa sa)),.c (.sl 10 (Xa sb)),.c (.sl 1 (Xj sbs))])::W7 f st ar) [(7,.box [.c (iC so),.c (iC sc),.c (iC sv),.c (iC sn),.c (iC to),.c (iC tn),.c (.sl 3 (Xo tk)),.c (.sl 10 (Xa sa)),.c (.sl 10 (Xa sb)),.c (.sl 1 (Xj sbs))]),(39,.row 76 10 [[iC so,iC sc,iC sv,iC sn,iC to,iC tn,.sl 3 (Xo tk),.sl 10 (Xa sa),.sl 10 (Xa sb),.sl 1 (Xj sbs)]]),(900001,.row 76 10 (Xa st)),(900002,.row 3 1 (Xj ar)),(1000000,.box [.at_ 1000001 0]),(1000001,.box [.c (.sl 5 (Xs f.vars)),.c (.sl 6 (Xt f.hats)),.c (.sl 10 (Xa f.body)),.own 900001,.own 900002,.c (.lit XY)]),(1000002,.box [.fn 123 [(1000000,0),(1000002,0)]])] [(7,.box [.c (iC so),.c (iC sc),.c (iC sv),.c (iC sn),.c (iC to),.c (iC tn),.c (.sl 3 (Xo tk)),.c (.sl 10 (Xa sa)),.c (.sl 10 (Xa sb)),.c (.sl 1 (Xj sbs))]),(39,.row 76 10 [[iC so,iC sc,iC sv,iC sn,iC to,iC tn,.sl 3 (Xo tk),.sl 10 (Xa sa),.sl 10 (Xa sb),.sl 1 (Xj sbs)]]),(40,.row 76 10 (Xa st++[[iC so,iC sc,iC sv,iC sn,iC to,iC tn,.sl 3 (Xo tk),.sl 10 (Xa sa),.sl 10 (Xa sb),.sl 1 (Xj sbs)]])),(900002,.row 3 1 (Xj ar)),(1000000,.box [.at_ 1000001 0]),(1000001,.box [.c (.sl 5 (Xs f.vars)),.c (.sl 6 (Xt f.hats)),.c (.sl 10 (Xa f.body)),.own 900001,.own 900002,.c (.lit XY)]),(1000002,.box [.fn 123 [(1000000,0),(1000002,0)]])] [(7,.box [.c (iC so),.c (iC sc),.c (iC sv),.c (iC sn),.c (iC to),.c (iC tn),.c (.sl 3 (Xo tk)),.c (.sl 10 (Xa sa)),.c (.sl 10 (Xa sb)),.c (.sl 1 (Xj sbs))]),(39,.row 76 10 [[iC so,iC sc,iC sv,iC sn,iC to,iC tn,.sl 3 (Xo tk),.sl 10 (Xa sa),.sl 10 (Xa sb),.sl 1 (Xj sbs)]]),(40,.row 76 10 (Xa st++[[iC so,iC sc,iC sv,iC sn,iC to,iC tn,.sl 3 (Xo tk),.sl 10 (Xa sa),.sl 10 (Xa sb),.sl 1 (Xj sbs)]])),(900002,.row 3 1 (Xj ar)),(1000000,.box [.at_ 1000001 0]),(1000001,.box [.c (.sl 5 (Xs f.vars)),.c (.sl 6 (Xt f.hats)),.c (.sl 10 (Xa f.body)),.own 40,.own 900002,.c (.lit XY)]),(1000002,.box [.fn 123 [(1000000,0),(1000002,0)]])] [(0,33,.v (.one (.at_ 1000001 0))),(1,34,.v (.one (.at_ 1000001 0))),(2,35,.v (.one (.at_ 1000001 0))),(3,36,.v (.one (.at_ 1000001 3))),(4,37,.v (.one (.own 900001))),(5,38,.v (.agg [.c (iC so),.c (iC sc),.c (iC sv),.c (iC sn),.c (iC to),.c (iC tn),.c (.sl 3 (Xo tk)),.c (.sl 10 (Xa sa)),.c (.sl 10 (Xa sb)),.c (.sl 1 (Xj sbs))])),(6,39,.v (.one (.own 39))),(7,40,.v (.one (.own 40))),(8,41,.v (.one (.at_ 1000001 0))),(9,42,.v (.one (.at_ 1000001 3)))]) 11 2047 msD rfl (by kernel_rfl) (by kernel_rfl) (by kernel_rfl) (by kernel_rfl) (by simp[nxA,trS]) ?_ ?_)
    · simp only[msD,X03]
      repeat' apply And.intro
      all_goals(refine XT.evE rfl ?_;simp[nxA,W7,trS,ins,W9,XD,Qd,XQ,cellsOf,Qe,Wc,Zf,Wd,QY,WG,lkp,del,r1,r2];done)
    simp only[nxA,trS];exact⟨(),trivial,X6 (fun n=>if n=900001 then 40 else n) []⟩
   rintro⟨⟩ hz;simp only[upS,X8,Xy]
   try simp only[X8,KN,Nat.reduceBEq,if_true,if_false,ins,Nat.reduceLT]
   simp only[W7];refine XC (s':=⟨⟨64,none⟩,[(1,.v (li outer)),(2,.v (.one (.at_ 1000000 0))),(3,.v (.one (.at_ 1000002 0))),(7,.v (.one (.at_ 7 0))),(8,.v (li st.length)),(9,.v (lS l)),(10,.v (li l.length)),(11,.v (li k))],(7,.box [.c (iC so),.c (iC sc),.c (iC sv),.c (iC sn),.c (iC to),.c (iC tn),.c (.sl 3 (Xo tk)),.c (.sl 10 (Xa sa)),.c (.sl 10 (Xa sb)),.c (.sl 1 (Xj sbs))])::W7 f (st++[St.mk so sc sv sn (Tm.mk to tn tk) sa sb sbs]) ar⟩) (Xu (fun n=>n) [] rfl (by simp) (by simp[W7]) (by simp[W7])) ?_;refine X0<|(QU (nxA [(1,.v (li outer)),(2,.v (.one (.at_ 1000000 0))),(3,.v (.one (.at_ 1000002 0))),(7,.v (.one (.at_ 7 0))),(8,.v (li st.length)),(9,.v (lS l)),(10,.v (li l.length)),(11,.v (li k))] ((7,.box [.c (iC so),.c (iC sc),.c (iC sv),.c (iC sn),.c (iC to),.c (iC tn),.c (.sl 3 (Xo tk)),.c (.sl 10 (Xa sa)),.c (.sl 10 (Xa sb)),.c (.sl 1 (Xj sbs))])::W7 f (st++[St.mk so sc sv sn (Tm.mk to tn tk) sa sb sbs]) ar) [(7,.box [.c (iC so),.c (iC sc),.c (iC sv),.c (iC sn),.c (iC to),.c (iC tn),.c (.sl 3 (Xo tk)),.c (.sl 10 (Xa sa)),.c (.sl 10 (Xa sb)),.c (.sl 1 (Xj sbs))]),(49,.row 3 1 [[iC outer]]),(900001,.row 76 10 (Xa (st++[St.mk so sc sv sn (Tm.mk to tn tk) sa sb sbs]))),(900002,.row 3 1 (Xj ar)),(1000000,.box [.at_ 1000001 0]),(1000001,.box [.c (.sl 5 (Xs f.vars)),.c (.sl 6 (Xt f.hats)),.c (.sl 10 (Xa f.body)),.own 900001,.own 900002,.c (.lit XY)]),(1000002,.box [.fn 123 [(1000000,0),(1000002,0)]])] [(7,.box [.c (iC so),.c (iC sc),.c (iC sv),.c (iC sn),.c (iC to),.c (iC tn),.c (.sl 3 (Xo tk)),.c (.sl 10 (Xa sa)),.c (.sl 10 (Xa sb)),.c (.sl 1 (Xj sbs))]),(49,.row 3 1 [[iC outer]]),(50,.row 3 1 (Xj ar++[[iC outer]])),(900001,.row 76 10 (Xa (st++[St.mk so sc sv sn (Tm.mk to tn tk) sa sb sbs]))),(1000000,.box [.at_ 1000001 0]),(1000001,.box [.c (.sl 5 (Xs f.vars)),.c (.sl 6 (Xt f.hats)),.c (.sl 10 (Xa f.body)),.own 900001,.own 900002,.c (.lit XY)]),(1000002,.box [.fn 123 [(1000000,0),(1000002,0)]])] [(7,.box [.c (iC so),.c (iC sc),.c (iC sv),.c (iC sn),.c (iC to),.c (iC tn),.c (.sl 3 (Xo tk)),.c (.sl 10 (Xa sa)),.c (.sl 10 (Xa sb)),.c (.sl 1 (Xj sbs))]),(49,.row 3 1 [[iC outer]]),(50,.row 3 1 (Xj ar++[[iC outer]])),(900001,.row 76 10 (Xa (st++[St.mk so sc sv sn (Tm.mk to tn tk) sa sb sbs]))),(1000000,.box [.at_ 1000001 0]),(1000001,.box [.c (.sl 5 (Xs f.vars)),.c (.sl 6 (Xt f.hats)),.c (.sl 10 (Xa f.body)),.own 900001,.own 50,.c (.lit XY)]),(1000002,.box [.fn 123 [(1000000,0),(1000002,0)]])] [(0,43,.v (.one (.at_ 1000001 0))),(1,44,.v (.one (.at_ 1000001 0))),(2,45,.v (.one (.at_ 1000001 0))),(3,46,.v (.one (.at_ 1000001 4))),(4,47,.v (.one (.own 900002))),(5,48,.v (li outer)),(6,49,.v (.one (.own 49))),(7,50,.v (.one (.own 50))),(8,51,.v (.one (.at_ 1000001 0))),(9,52,.v (.one (.at_ 1000001 4)))]) 11 2047 msD rfl (by kernel_rfl) (by kernel_rfl) (by kernel_rfl) (by kernel_rfl) (by simp[nxA,trS]) ?_ ?_)
   · simp only[msD,X03]
     repeat' apply And.intro
     all_goals(refine XT.evE rfl ?_;simp[nxA,W7,trS,ins,W9,XD,Qd,XQ,cellsOf,Qe,Wc,Zf,Wd,QY,WG,lkp,del,r1,r2];done)
   refine XC (s':=⟨⟨64,none⟩,[(1,.v (li outer)),(2,.v (.one (.at_ 1000000 0))),(3,.v (.one (.at_ 1000002 0))),(7,.v (.one (.at_ 7 0))),(8,.v (li st.length)),(9,.v (lS l)),(10,.v (li l.length)),(11,.v (li k))],(7,.box [.c (iC so),.c (iC sc),.c (iC sv),.c (iC sn),.c (iC to),.c (iC tn),.c (.sl 3 (Xo tk)),.c (.sl 10 (Xa sa)),.c (.sl 10 (Xa sb)),.c (.sl 1 (Xj sbs))])::W7 f (st++[St.mk so sc sv sn (Tm.mk to tn tk) sa sb sbs]) (ar++[outer])⟩) (Xu (fun n=>if n=900002 then 50 else n) [] rfl (by simp[nxA,trS]) (by simp[nxA,trS,W7]) (by simp[W7])) ?_;simp only[W7];obtain⟨S3,hS3⟩:∃x,(st++[St.mk so sc sv sn (Tm.mk to tn tk) sa sb sbs])++flL sa=x:=⟨_,rfl⟩;obtain⟨A3,hA3⟩:∃x,ar++[outer]++arL sa st.length (st.length+1)=x:=⟨_,rfl⟩;rw[hS3,hA3]at iha;refine X0<|(XS ?_);refine RunsN.cutE 4 [] (by simp;rfl) trivial (le_refl _) ?_;refine RunsN.callA (fun n=>n) (fun n=>if n=900001 then 30 else if n=900002 then 31 else n) iha fun _ _=>?_;refine RunsN.doneE [] rfl trivial ?_;refine XC (s':=⟨⟨64,none⟩,[(1,.v (li outer)),(2,.v (.one (.at_ 1000000 0))),(3,.v (.one (.at_ 1000002 0))),(7,.v (.one (.at_ 7 0))),(8,.v (li st.length)),(9,.v (lS l)),(10,.v (li l.length)),(11,.v (li k))],(7,.box [.c (iC so),.c (iC sc),.c (iC sv),.c (iC sn),.c (iC to),.c (iC tn),.c (.sl 3 (Xo tk)),.c (.sl 10 (Xa sa)),.c (.sl 10 (Xa sb)),.c (.sl 1 (Xj sbs))])::W7 f S3 A3⟩) (Xu (fun n=>if n=900001 then 30 else if n=900002 then 31 else n) [] rfl (by simp[Qj,QT,del,ins,CV.ren,Ob.ren]) (by simp[Qj,QT,del,ins,CV.ren,Ob.ren]) (by simp)) ?_;subst hS3;subst hA3;obtain⟨S3,hS3⟩:∃x,(st++[St.mk so sc sv sn (Tm.mk to tn tk) sa sb sbs])++flL sa++flL sb=x:=⟨_,rfl⟩;obtain⟨A3,hA3⟩:∃x,ar++[outer]++arL sa st.length (st.length+1)++arL sb st.length (st.length+1+szL sa)=x:=⟨_,rfl⟩;rw[hS3,hA3]at ihb;refine(XS ?_);refine RunsN.cutE 4 [] (by simp;rfl) trivial (le_refl _) ?_;refine RunsN.callA (fun n=>n) (fun n=>if n=900001 then 30 else if n=900002 then 31 else n) ihb fun _ _=>?_;refine RunsN.doneE [] rfl trivial ?_;refine XC (s':=⟨⟨64,none⟩,[(1,.v (li outer)),(2,.v (.one (.at_ 1000000 0))),(3,.v (.one (.at_ 1000002 0))),(7,.v (.one (.at_ 7 0))),(8,.v (li st.length)),(9,.v (lS l)),(10,.v (li l.length)),(11,.v (li k))],(7,.box [.c (iC so),.c (iC sc),.c (iC sv),.c (iC sn),.c (iC to),.c (iC tn),.c (.sl 3 (Xo tk)),.c (.sl 10 (Xa sa)),.c (.sl 10 (Xa sb)),.c (.sl 1 (Xj sbs))])::W7 f S3 A3⟩) (Xu (fun n=>if n=900001 then 30 else if n=900002 then 31 else n) [] rfl (by simp[Qj,QT,del,ins,CV.ren,Ob.ren]) (by simp[Qj,QT,del,ins,CV.ren,Ob.ren]) (by simp)) ?_;subst hS3;subst hA3;have hl3:((st++[St.mk so sc sv sn (Tm.mk to tn tk) sa sb sbs])++flL sa++flL sb).length=st.length+(1+szL sa+szL sb):=by simp[fa,fb];omega
   have hl4:(ar++[outer]++arL sa st.length (st.length+1)++arL sb st.length (st.length+1+szL sa)).length=st.length+(1+szL sa+szL sb):=by simp[la,hlb,har];omega
   obtain⟨S3,hS3⟩:∃x,(st++[St.mk so sc sv sn (Tm.mk to tn tk) sa sb sbs])++flL sa++flL sb=x:=⟨_,rfl⟩;obtain⟨A3,hA3⟩:∃x,ar++[outer]++arL sa st.length (st.length+1)++arL sb st.length (st.length+1+szL sa)=x:=⟨_,rfl⟩;rw[hS3]at hE1 hl3;rw[hA3]at hE2 hl4;rw[hS3,hA3];rw[←hl3]at hE2;clear iha ihb hS3 hA3 hsn hset;refine X3 ?_;exact⟨(k+1,S3,A3),⟨hk1,hE1,hE2,by rw[hl4,hl3],by simp only[hl3];omega⟩,by simp only;omega,X6 (fun n=>n) []⟩
 try simp only[BN]at h3
 have hkl:k=l.length:=by
  have:¬k<l.length:=by simpa using h3
  omega
 subst hkl;simp only[List.drop_length,flL,arL,List.append_nil]at h1 h2;subst h1;subst h2;refine(Xg ?_);exact⟨.inl rfl,(),trivial,_,le_refl _,⟨[],rfl,rfl⟩,fun n o h=>h⟩
end Go.Proofs.YtppjennamodfdaaGreat

namespace Go.Proofs.YtppjennamodfdaaGreat
open Go Go.Hl
def rdB (x:Nd):Bool:=decide (0≤x.a)&&decide (x.k≠4)
def rdF (n:Nat) (l:List (Nd×List Nat)):List (List Nat):=l.foldl (fun rd p=>if rdB p.1=true then rd.set p.1.a.toNat p.2 else rd) (List.replicate n [])
theorem X8z (n:Nat) (l:List (Nd×List Nat)) (p:Nd×List Nat):rdF n (l++[p])=if rdB p.1=true then(rdF n l).set p.1.a.toNat p.2 else rdF n l:=by simp[rdF,List.foldl_append]
theorem X0q (n:Nat) (l:List (Nd×List Nat)):(rdF n l).length=n:=by
 unfold rdF
 have:∀(l:List (Nd×List Nat)) (r:List (List Nat)),r.length=n→(l.foldl (fun rd p=>if rdB p.1=true then rd.set p.1.a.toNat p.2 else rd) r).length=n:=by
  intro l
  induction l with
  |nil=>exact fun r h=>h
  | cons p l ih=>
    intro r h;rw[List.foldl_cons];refine ih _ ?_;split
    · rw[List.length_set];exact h
    exact h
 exact this l _ (by simp)
noncomputable def rdT (f:Fl):List (List Nat):=rdF (szL f.body) ((grN f.body).zip (rcL (grN f.body) (flL f.body) f.vars.length))
noncomputable def X6f (f:Fl):CD:=.ptr [.sl 5 (Xs f.vars),.sl 6 (Xt f.hats),.sl 10 (Xa f.body),.sl 10 (Xa (flL f.body)),.sl 1 (Xj (arL f.body (-1) 0)),.sl 1 (Q7 (rdT f))]
theorem X6W (rd:List (List Nat)) (m:Nat) (l:List Nat):(Q7 rd).set m [.sl 1 (XB l)]=Q7 (rd.set m l):=by simp[Q7,List.map_set]
theorem WL {rd:List (List Nat)} {m:Nat} {l:List Nat} (h:rd[m]? =some l):(Q7 rd)[m]? =some [.sl 1 (XB l)]:=by simp[Q7,h]
theorem X6w (n:Nat):Q7 (List.replicate n [])=List.replicate n [.sl 1 []]:=by simp[Q7]
set_option maxHeartbeats 8000000 in
theorem X7X (f:Fl) (h:Sm f) (d:Nat):Con Tryz.prog 80 false [aF f] (.tup [.one (.c (if Qb f=0 then X6f f else .lit (.pointer none))),li (Qb f)]) none d:=by
 have cb:=X7v f h;have cr:=X7L f h;have hok:=@X5S f.body;have hg:=@X1R f;have hNl:gL f.body=true→(grN f.body).length≤2002:=fun hg=>by have:=X2v f.body;have:=h.sz;rw[X3j hg];omega
 have hsl:=XK f.body;have hal:=Zg f.body (-1) 0;have hsz:=h.sz;have cn:=new1_con f f.body (-1) [] [] rfl (by simpa using hsz);simp only[List.nil_append,List.length_nil]at cn;obtain⟨T,hT⟩:∃x,(if Qb f=0 then X6f f else .lit (.pointer none))=x:=⟨_,rfl⟩;obtain⟨C,hC⟩:∃x,Qb f=x:=⟨_,rfl⟩;rw[hT];rw[hC]at cb cr hT hg⊢;unfold X6f rdT at hT;have hrl:=X7H (grN f.body) (flL f.body) f.vars.length;obtain⟨L,hL⟩:∃x,rcL (grN f.body) (flL f.body) f.vars.length=x:=⟨_,rfl⟩;rw[hL]at cr hT hrl;obtain⟨N,hN⟩:∃x,grN f.body=x:=⟨_,rfl⟩;simp only[grC,hN]at cb cr hT hrl hok hNl;obtain⟨n,hn⟩:∃x,szL f.body=x:=⟨_,rfl⟩;rw[hn]at hT hok hsl hal hsz;obtain⟨S,hS⟩:∃x,flL f.body=x:=⟨_,rfl⟩;obtain⟨A,hA⟩:∃x,arL f.body (-1) 0=x:=⟨_,rfl⟩;rw[hS]at hT hsl cn;rw[hA]at hT hal cn;obtain⟨vars,hats,body⟩:=f;simp only[Fl.enc,W7]at cn hT;clear h hC hL hN hn hS hA;refine X7 Tryz.func80 ?_;simp only[Tryz.f80];simp only[aF,Fl.enc,List.map_cons,List.map_nil]at cb cr⊢;obtain⟨G,hG⟩:∃x,(if C=0 then CD.sl 4 (XG N)else .lit XY)=x:=⟨_,rfl⟩;rw[hG]at cb;refine X4 ?_;rcases Classical.em (C=0)with hz|hz
 · rw [if_pos hz]at hT hG;subst hG;have cr:=cr hz;have hok:=hok (hg hz);have hNl:=hNl (hg hz);clear hg;refine Xk [⟨false,.tup [.agg [.c (.sl 4 (XG N))],li C],none⟩] ?_ ?_
   · first|exact cb _|exact trivial|simpa[*]using cb _
   refine X0<|X0<|X3 ?_;refine(Xe rfl (fun h3=>?_) fun h3=>?_)
   · exact absurd h3 (by simp[hz])
   (try simp only[BN]at h3);subst hz;clear h3 cb;refine X0<|(Xn (by simp[*,XD,Qd,XQ,cellsOf,Qe];rfl) ?_);refine X4 ?_;refine X4 ?_;refine XC (s':=⟨⟨74,none⟩,[(1,.v (.one (.at_ 1 0))),(4,.v (.one (.at_ 4 0))),(6,.v (.one (.at_ 6 0))),(7,.v (.one (.at_ 7 0)))],[(1,.box [.c (.sl 5 (Xs vars)),.c (.sl 6 (Xt hats)),.c (.sl 10 (Xa body))]),(4,.box [.c (.sl 4 (XG N))]),(6,.box [.at_ 21 0]),(7,.box [.fn 123 [(6,0),(7,0)]]),(21,.box [.c (.sl 5 (Xs vars)),.c (.sl 6 (Xt hats)),.c (.sl 10 (Xa body)),.own 900001,.own 900002,.c (.lit XY)]),(900001,.row 76 10 []),(900002,.row 3 1 [])]⟩) (Xu (fun n=>n) [900001,900002] rfl (by simp) (by simp) (by simp)) ?_;refine X0<|(XS ?_);refine RunsN.cutE 3 [] (by simp;rfl) trivial (le_refl _) ?_;refine RunsN.callA (fun n=>if n=1000000 then 6 else if n=1000001 then 21 else if n=1000002 then 7 else n) (fun n=>if n=1000000 then 6 else if n=1000001 then 21 else if n=1000002 then 7 else if n=900001 then 27 else if n=900002 then 28 else n) cn (fun _ _=>?_) (hd0:=by(refine WX ?_ ?_ ?_ ?_ ?_<;>simp[rbB,WQ,QK,CV.ren,Ob.ren,lkp,Qj,Xa,Xj])) (hd:=by(intro _ _;refine WX ?_ ?_ ?_ ?_ ?_<;>simp[rbB,WQ,QK,CV.ren,Ob.ren,lkp,Qj,Xa,Xj]));refine RunsN.doneE [] rfl trivial ?_;refine XC (s':=⟨⟨74,none⟩,[(1,.v (.one (.at_ 1 0))),(4,.v (.one (.at_ 4 0))),(6,.v (.one (.at_ 6 0))),(7,.v (.one (.at_ 7 0)))],[(1,.box [.c (.sl 5 (Xs vars)),.c (.sl 6 (Xt hats)),.c (.sl 10 (Xa body))]),(4,.box [.c (.sl 4 (XG N))]),(6,.box [.at_ 21 0]),(7,.box [.fn 123 [(6,0),(7,0)]]),(21,.box [.c (.sl 5 (Xs vars)),.c (.sl 6 (Xt hats)),.c (.sl 10 (Xa body)),.own 900001,.own 900002,.c (.lit XY)]),(900001,.row 76 10 (Xa S)),(900002,.row 3 1 (Xj A))]⟩) (Xu (fun n=>if n=900001 then 27 else if n=900002 then 28 else n) [] rfl (by simp[Qj,QT,del,ins,CV.ren,Ob.ren]) (by simp[Qj,QT,del,ins,CV.ren,Ob.ren]) (by simp)) ?_;have hbig:(24:Int)*n≤281474976710656:=by omega
   have hmx:n≤maxLen:=by unfold maxLen;omega
   clear cn;refine Xk [⟨false,.tup [.one (.c (.sl 1 (Q7 L))),li 0],none⟩] ?_ ?_
   · first|exact cr _|exact trivial|simpa[*]using cr _
   refine X0<|X0<|X3 ?_;refine(Xe rfl (fun h12=>?_) fun h12=>?_)
   · exact absurd h12 (by simp)
   (try simp only[BN]at h12);refine X0<|(Q6 (by kernel_rfl) (by kernel_rfl) (by rfl) (by simp[*];rfl) ?_);refine XC (X6P (e:=27) (k:=n) 42 (by simp[hsl])) ?_;simp only[rwO,Nat.reduceEqDiff,if_true,if_false];refine X0<|X0<|X3 ?_;refine X5<|(Xd [6,8,46,47] (fun(y:Nat)=>[(48,.v (li y))]) (fun y=>[(6,.box [.at_ 21 0]),(21,.box [.c (.sl 5 (Xs vars)),.c (.sl 6 (Xt hats)),.c (.sl 10 (Xa body)),.own 900001,.own 900002,.own 42]),(42,.row 27 1 (Q7 (rdF n ((N.zip L).take y)))),(900001,.row 76 10 (Xa S)),(900002,.row 3 1 (Xj A))]) (fun y=>y≤N.length) (fun y=>N.length - y) (0:Nat) (Nat.zero_le _) ?_ ?_)
   · exact Xu (fun n=>n) [] rfl (by simp[*,upS,X8]) (by simp[*,upS,rdF,X6w]) (by simp[upS])
   rintro y hy;simp only[upS,X8,Xy]
   try simp only[X8,KN,Nat.reduceBEq,if_true,if_false,ins,Nat.reduceLT]
   refine X4 ?_;refine X0<|(X9 rfl (fun h19=>Xb ?_) (fun h19=>?_))
   · (try simp only[BN]at h19);have hlt:y<N.length:=by omega
     obtain⟨x,hx,_⟩:=Xq hlt;obtain⟨Li,hLi,_⟩:=Xq (show y<L.length by omega);have hwd:=hok x (List.mem_of_getElem? hx);have hxe:=ZK hx;have hle:=WL hLi
     have hsn:rdF n ((N.zip L).take (y+1))=if rdB x=true then(rdF n ((N.zip L).take y)).set x.a.toNat Li else rdF n ((N.zip L).take y):=by
      rw[List.take_add_one,show(N.zip L)[y]? =some (x,Li) by rw[List.getElem?_zip_eq_some];exact⟨hx,hLi⟩,Option.toList_some,X8z]
     have hrdl:=X0q n ((N.zip L).take y);obtain⟨RD,hRD⟩:∃z,rdF n ((N.zip L).take y)=z:=⟨_,rfl⟩;rw[hRD]at hsn hrdl⊢;have hk1:y+1≤N.length:=hlt;have hyb:N.length≤1000000000:=by omega
     have hw1:=XA hlt hyb;obtain⟨xk,xa,xn,xo⟩:=x;simp only[Nd.enc]at hxe;clear hlt h19 hx hLi hRD;refine X0<|X5<|X0<|X3 ?_;refine XO [6,8,9,10,46,47,48] (fun(q:Bool)=>[(60,.v (lb q))]) (fun(q:Bool)=>[(6,.box [.at_ 21 0]),(10,.box [.c (iC xk),.c (iC xa),.c (iC xn),.c (iC xo)]),(21,.box [.c (.sl 5 (Xs vars)),.c (.sl 6 (Xt hats)),.c (.sl 10 (Xa body)),.own 900001,.own 900002,.own 42]),(42,.row 27 1 (Q7 RD)),(900001,.row 76 10 (Xa S)),(900002,.row 3 1 (Xj A))]) (fun(q:Bool)=>q=rdB ⟨xk,xa,xn,xo⟩) ?_ ?_
     · refine Xn (by simp[*];rfl) ?_;exact⟨_,rfl,Xu (fun n=>n) [] rfl (by simp[upS,X8,rdB]<;>rfl) (by simp[upS]) (by simp[upS])⟩
     rintro q hq;simp only[upS,X8,Xy]
     try simp only[X8,KN,Nat.reduceBEq,if_true,if_false,ins,Nat.reduceLT]
     refine(Xe rfl (fun h22=>?_) fun h22=>?_)
     · (try simp only[BN]at h22);have hqt:q=true:=by simpa using h22
       subst hqt;rw[if_pos hq.symm]at hsn
       obtain⟨m,hm,hmn⟩:∃m:Nat,xa=m∧m<n:=by
        rcases hwd.ha with⟨_,h⟩|h
        · simp only at h;rw[h]at hq;simp[rdB]at hq
        exact h
       subst hm;simp only[Int.toNat_natCast]at hsn;obtain⟨o,ho,_⟩:=Xq (show m<RD.length by omega);have ho':=WL ho;have hset:=X6W RD m Li;rw[←hsn]at hset;have hml:m+1≤RD.length:=by omega
       clear hq h22 hwd hsn ho hmn hrdl;refine(Q6 (by kernel_rfl) (by kernel_rfl) (by rfl) (by simp[*,setRow];rfl) ?_);refine X3 ?_;exact⟨y+1,hk1,by omega,X6 (fun n=>n) []⟩
     (try simp only[BN]at h22);have hqt:q=false:=by simpa using h22
     subst hqt;rw[if_neg (by rw[←hq];simp)]at hsn;clear hq h22 hwd hrdl;refine X3 ?_;exact⟨y+1,hk1,by omega,X6 (fun n=>n) []⟩
   (try simp only[BN]at h19);have hyn:y=N.length:=by omega
   subst hyn;have htk:(N.zip L).take N.length=N.zip L:=List.take_of_length_le (by rw[List.length_zip];omega);rw[htk];obtain⟨RD,hRD⟩:∃z,rdF n (N.zip L)=z:=⟨_,rfl⟩;rw[hRD]at hT⊢;clear hRD htk h19;refine(Xg ?_);refine X4 ?_;refine XC (XR 42 rfl) ?_;refine XC (XR 900001 rfl) ?_;refine XC (XR 900002 rfl) ?_;refine XC (le_frzB (cs:=[.c (.sl 5 (Xs vars)),.c (.sl 6 (Xt hats)),.c (.sl 10 (Xa body)),.c (.sl 10 (Xa S)),.c (.sl 1 (Xj A)),.c (.sl 1 (Q7 RD))]) (ds:=[.sl 5 (Xs vars),.sl 6 (Xt hats),.sl 10 (Xa body),.sl 10 (Xa S),.sl 1 (Xj A),.sl 1 (Q7 RD)]) 21 rfl rfl rfl) ?_;exact XU ⟨.inr rfl,_,le_refl _,⟨_,by simp[HS.frz,Wz,RV.frz,TV.frz,CV.frz];rfl,by simp[XN,←hT,li]⟩,by simp,fun h=>by cases h⟩
 rw[if_neg hz]at hT hG;subst hG;subst hT;clear cr;refine Xk [⟨false,.tup [.agg [.c (.lit XY)],li C],none⟩] ?_ ?_
 · first|exact cb _|exact trivial|simpa[*]using cb _
 refine X0<|X0<|X3 ?_;refine(Xe rfl (fun h3=>?_) fun h3=>?_)
 · (try simp only[BN]at h3);refine X4 ?_;exact XU ⟨.inr rfl,_,le_refl _,⟨_,by simp;rfl,by simp[XN,li]⟩,by simp,fun h=>by cases h⟩
 exact absurd h3 (by simp[hz])
end Go.Proofs.YtppjennamodfdaaGreat

namespace Go.Proofs.YtppjennamodfdaaGreat
open Go Go.Hl
def mpZ (l:List Int):List (Value×CD):=l.map fun d=>(.int .i64 d,bC true)
@[simp] theorem len_mpZ (l:List Int):(mpZ l).length=l.length:=by simp[mpZ]
theorem get_mpZ {l:List Int} {j:Nat} {k:Value} {v:CD} (h:(mpZ l)[j]? =some (k,v)):∃d:Int,l[j]? =some d∧k=.int .i64 d∧v=bC true:=by
 simp only[mpZ,List.getElem?_map,Option.map_eq_some_iff]at h;obtain⟨d,hd,he⟩:=h;cases he;exact⟨d,hd,rfl,rfl⟩
theorem X9q (a b:Int):Instr.sameNow (.int .i64) (.int .i64 a) (.int .i64 b)=some (decide (a=b)):=by
 have h2:(a==b)=decide (a=b):=by
  rw[Bool.eq_iff_iff];simp only[beq_iff_eq,decide_eq_true_eq]
 simp[Instr.sameNow,h2]
theorem X1Q (d:Int):∀l:List Int,X2q (.int .i64) (.int .i64 d) (mpZ l)=some (if d∈l then some (bC true)else none)
 |[]=>rfl
 | k::l=>by
   have e:mpZ (k::l)=(.int .i64 k,bC true)::mpZ l:=rfl;rw[e];unfold X2q;rw[X9q];by_cases hk:d=k
   · subst hk;simp
   simp only[hk,decide_false,List.mem_cons,false_or];exact X1Q d l
theorem X57 (d:Int):∀l:List Int,d∈l→setM (.int .i64) (.int .i64 d) (bC true) (mpZ l)=some (mpZ l)
 |[],h=>by cases h
 | k ::l,h=>by
   have e:mpZ (k::l)=(.int .i64 k,bC true)::mpZ l:=rfl;rw[e];unfold setM;rw[X9q];by_cases hk:d=k
   · subst hk;have:Instr.sameBits 10000 (.int .i64 d) (.int .i64 d)=true:=by simp[Instr.sameBits]
     simp[this]
   simp only[hk,decide_false];rcases List.mem_cons.1 h with h|h
   · exact absurd h hk
   rw[X57 d l h];rfl
def X2P (m:List Int) (v:Int):List Int:=if v∈m then m else m++[v]
theorem X5F (m:List Int) (v:Int):mpZ m++[(.int .i64 v,bC true)]=mpZ (m++[v]):=by simp[mpZ]
def X4S (m:List Int):List (Nat×Ob):=[(900001,.mp (mpZ m)),(1000000,.box [.own 900001])]
theorem X8e {m:List Int}:∀n cs,lkp (X4S m) n=some (.box cs)→1000000≤n:=by
 intro n cs h;simp only[X4S,lkp]at h
 repeat' split at h
 all_goals first|omega|cases h
attribute [simp] X4S
def putC (c:FuncId):Prop:=∀(m:List Int) (v:Int),X1q Tryz.prog c none (X4S m) [li v,.one (.at_ 1000000 0)] (fun _:Unit=>True) (fun _=>.tup []) (fun _=>X4S (X2P m v))
theorem put1_con:putC 83:=by
 intro m v;refine Qs Tryz.func83 rfl (by kernel_rfl) (Nat.le_of_ble_eq_true rfl) X8e (fun v h=>by cases h) ?_;simp only[Tryz.f83,X4S];have hf:=X1Q v m;unfold X2P;by_cases h:v∈m
 · rw[if_pos h]at hf⊢;have hs:=X57 v m h;refine X3 ?_;exact⟨.inl rfl,(),trivial,_,le_refl _,⟨[],rfl,rfl⟩,fun n o h=>h⟩
 rw[if_neg h]at hf⊢;have hs:=X5F m v;refine X3 ?_;exact⟨.inl rfl,(),trivial,_,le_refl _,⟨[],rfl,rfl⟩,fun n o h=>h⟩
theorem put2_con:putC 55:=by
 intro m v;refine Qs Tryz.func55 rfl (by kernel_rfl) (Nat.le_of_ble_eq_true rfl) X8e (fun v h=>by cases h) ?_;simp only[Tryz.f55,X4S];have hf:=X1Q v m;unfold X2P;by_cases h:v∈m
 · rw[if_pos h]at hf⊢;have hs:=X57 v m h;refine X3 ?_;exact⟨.inl rfl,(),trivial,_,le_refl _,⟨[],rfl,rfl⟩,fun n o h=>h⟩
 rw[if_neg h]at hf⊢;have hs:=X5F m v;refine X3 ?_;exact⟨.inl rfl,(),trivial,_,le_refl _,⟨[],rfl,rfl⟩,fun n o h=>h⟩
mutual
def vrT:Tm→List Int→List Int
 | .mk o n ks,m=>vrTs ks (if o=24 then X2P m n else m)
def vrTs:List Tm→List Int→List Int
 |[],m=>m
 |t::l,m=>vrTs l (vrT t m)
end
theorem X2i {c:FuncId} (hc:putC c) (t:Tm):t.nodes≤1000000→∀m:List Int,X1q Tryz.prog 54 none (X4S m) [aT t,.one (.fn c [(1000000,0)])] (fun _:Unit=>True) (fun _=>.tup []) (fun _=>X4S (vrT t m)):=by
 revert t
 refine Tm.ind ?_;intro o n ks ih hn m;simp only[Tm.nodes]at hn;have hlen:=W8 ks;obtain⟨R,hR⟩:∃x,vrT (.mk o n ks) m=x:=⟨_,rfl⟩;rw[hR];simp only[vrT]at hR;simp only[aT,Tm.enc,List.map_cons,List.map_nil];refine Qs Tryz.func54 rfl (by kernel_rfl) (Nat.le_of_ble_eq_true rfl) X8e (fun v h=>by cases h) ?_;simp only[Tryz.f54];refine X4 ?_;refine(XO [1,2] (fun(z:Unit)=>[]) (fun(z:Unit)=>(2,.box [.c (iC o),.c (iC n),.c (.sl 3 (Xo ks))])::X4S (if o=24 then X2P m n else m)) (fun(z:Unit)=>True) ?_ ?_)
 ·
  refine X4 ?_;refine(Xe rfl (fun h3=>?_) fun h3=>?_)
  · (try simp only[BN]at h3);have ho:o=24:=by simpa using h3
    have cc:=hc m n;rw[if_pos ho];clear h3 ho hR;refine(XS ?_);refine RunsN.cutE 3 [] (by simp;rfl) trivial (le_refl _) ?_;refine RunsN.callA (fun n=>n) (fun n=>if n=900001 then 20 else n) cc fun _ _=>?_;refine RunsN.doneE [] rfl trivial ?_;exact⟨(),trivial,Xu (fun n=>if n=900001 then 20 else n) [] rfl (by simp[upS,X8,Qj,QT,del,ins,CV.ren,Ob.ren]) (by simp[upS,Qj,QT,del,ins,CV.ren,Ob.ren]) (by simp[upS])⟩
  (try simp only[BN]at h3);have ho:¬o=24:=by simpa using h3
  rw[if_neg ho];clear h3 ho hR;exact⟨(),trivial,Xu (fun n=>n) [] rfl (by simp[upS,X8]) (by simp[upS]) (by simp[upS])⟩
 rintro⟨⟩ hz;simp only[upS,X8,Xy]
 try simp only[X8,KN,Nat.reduceBEq,if_true,if_false,ins,Nat.reduceLT]
 obtain⟨m0,hm0⟩:∃x,(if o=24 then X2P m n else m)=x:=⟨_,rfl⟩;rw[hm0]at hR⊢;clear hm0;refine X4 ?_;refine X5<|(Xd [1,14,15] (fun(y:Nat×List Int)=>[(16,.v (li y.1))]) (fun y=>X4S y.2) (fun y=>y.1≤ks.length∧vrTs (ks.drop y.1) y.2=R) (fun y=>ks.length - y.1) (0,m0) ⟨Nat.zero_le _,hR⟩ ?_ ?_)
 · exact X6 (fun n=>n) []
 rintro⟨k,m1⟩ ⟨hk,hJ⟩;simp only[upS,X8,Xy]
 try simp only[X8,KN,Nat.reduceBEq,if_true,if_false,ins,Nat.reduceLT]
 simp only at hk hJ;clear hR;refine X4 ?_;refine X0<|(X9 rfl (fun h10=>Xb ?_) (fun h10=>?_))
 · (try simp only[BN]at h10);have hlt:k<ks.length:=by simpa using h10
   obtain⟨t,he,hd⟩:=Xq hlt;have hw1:=XA hlt (by omega);have hk1:k+1≤ks.length:=hlt;have hmem:t∈ks:=List.mem_of_getElem? he;have hnm:=X1G hmem;have ct:=ih t hmem (by omega) m1;rw[hd]at hJ;simp only[vrTs]at hJ;have he':=Wt he;obtain⟨M,hM⟩:∃x,vrT t m1=x:=⟨_,rfl⟩;rw[hM]at ct hJ;obtain⟨so,stn,sks⟩:=t;simp only[Tm.enc]at he';simp only[aT,Tm.enc,List.map_cons,List.map_nil]at ct;clear hlt h10 ih hmem hnm he hd hM;refine X0<|X5<|X0<|X3 ?_;refine(XS ?_);refine RunsN.cutE 2 [] (by simp;rfl) trivial (le_refl _) ?_;refine RunsN.callA (fun n=>n) (fun n=>if n=900001 then 20 else n) ct fun _ _=>?_;refine RunsN.doneE [] rfl trivial ?_;refine XC (s':=⟨⟨24,none⟩,[(1,.v (.one (.fn c [(1000000,0)]))),(14,.v (.one (.c (.sl 3 (Xo ks))))),(15,.v (li ks.length)),(16,.v (li k))],X4S M⟩) (Xu (fun n=>if n=900001 then 20 else n) [] rfl (by simp[Qj,QT,del,ins,CV.ren,Ob.ren]) (by simp[Qj,QT,del,ins,CV.ren,Ob.ren]) (by simp)) ?_;refine X3 ?_;exact⟨(k+1,M),⟨hk1,hJ⟩,by simp only;omega,X6 (fun n=>n) []⟩
 try simp only[BN]at h10
 have hkl:k=ks.length:=by
  have:¬k<ks.length:=by simpa using h10
  omega
 subst hkl;simp only[List.drop_length,vrTs]at hJ;subst hJ;refine(Xg ?_);exact⟨.inl rfl,(),trivial,_,le_refl _,⟨[],rfl,rfl⟩,fun n o h=>h⟩
end Go.Proofs.YtppjennamodfdaaGreat

namespace Go.Proofs.YtppjennamodfdaaGreat
open Go Go.Hl
@[simp] theorem mpZ_nil:mpZ []=[]:=rfl
abbrev ZH (f:Fl) (steps:List St) (ar:List Int) (rd:List (List Nat)):CD:=.ptr [.sl 5 (Xs f.vars),.sl 6 (Xt f.hats),.sl 10 (Xa f.body),.sl 10 (Xa steps),.sl 1 (Xj ar),.sl 1 (Q7 rd)]
theorem X96 (f:Fl) (steps:List St) (ar:List Int) (rd:List (List Nat)) (n:Nat) (hn:n≤1000000) (hl:steps.length≤1000000) (d:Nat):Con Tryz.prog 84 true [.one (.c (ZH f steps ar rd)),li n] (.v (li (Qx steps n))) none d:=by
 obtain⟨res,hres⟩:∃x,Qx steps n=x:=⟨_,rfl⟩;rw[hres];refine X7 Tryz.func84 ?_;simp only[Tryz.f84];refine X4 ?_;refine X0<|X0<|X3 ?_;refine(Xe rfl (fun h2=>?_) fun h2=>?_)
 · (try simp only[BN]at h2);have hge:steps.length≤n:=by simpa using h2
   rw[X9k hge]at hres;have hw:IntKind.i64.wrap ((n:Int) - steps.length)=(n:Int) - steps.length:=Xc (by omega) (by omega);clear h2;refine X4 ?_;exact Xh
 (try simp only[BN]at h2);have hlt:n<steps.length:=by simpa using h2
 obtain⟨s,he,_⟩:=Xq hlt;have he':=XX he;rw[X8X s he]at hres;obtain⟨so,sc,sv,sn,⟨to,tn,tk⟩,sa,sb,sbs⟩:=s;simp only[St.enc,Tm.enc,List.cons_append,List.nil_append]at he';simp only[St.var]at hres;clear h2 he hlt;refine X4 ?_;exact Xh
def X1s (steps:List St) (q:St) (l:List Nat):List Nat:=l.filter fun d=>decide (Qx steps d∈vrT q.term [])
theorem X4Q (f:Fl) (steps:List St) (ar:List Int) (rd:List (List Nat)) (s:Nat) (q:St) (l:List Nat) (hq:steps[s]? =some q) (hr:rd[s]? =some l) (hqn:q.term.nodes≤1000000) (hl:l.length≤5000) (hlb:∀d∈l,d≤1000000) (hs:steps.length≤1000000) (d:Nat):
  Con Tryz.prog 53 false [.one (.c (ZH f steps ar rd)),li s] (.v (.one (.c (.sl 1 (XB (X1s steps q l)))))) none d:=by
 have cv:=X2i put1_con q.term hqn [];have cd:=fun n hn=>X96 f steps ar rd n hn hs;obtain⟨res,hres⟩:∃x,X1s steps q l=x:=⟨_,rfl⟩;rw[hres];unfold X1s at hres;obtain⟨M,hM⟩:∃x,vrT q.term []=x:=⟨_,rfl⟩;rw[hM]at hres cv;have he':=XX hq;have hr':=WL hr;obtain⟨so,sc,sv,sn,⟨to,tn,tk⟩,sa,sb,sbs⟩:=q;simp only[St.enc,Tm.enc,List.cons_append,List.nil_append]at he';simp only[St.term,aT,Tm.enc,List.map_cons,List.map_nil]at cv;clear hM hq hr hqn;refine X7 Tryz.func53 ?_;simp only[Tryz.f53];refine X4 ?_;refine X4 ?_;refine X0<|(XS ?_);refine RunsN.cutE 9 [] (by simp[*];rfl) trivial (le_refl _) ?_;refine RunsN.callA (fun n=>if n=1000000 then 5 else if n=900001 then 9 else n) (fun n=>if n=1000000 then 5 else if n=900001 then 19 else n) cv fun _ _=>?_;refine RunsN.doneE [] rfl trivial ?_;refine XC (s':=⟨⟨43,none⟩,[(0,.v (.one (.c (ZH f steps ar rd)))),(1,.v (li s)),(5,.v (.one (.at_ 5 0)))],[(5,.box [.own 900001]),(900001,.mp (mpZ M))]⟩) (Xu (fun n=>if n=900001 then 19 else n) [] rfl (by simp[Qj,QT,del,ins,CV.ren,Ob.ren]) (by simp[Qj,QT,del,ins,CV.ren,Ob.ren]) (by simp)) ?_;refine X4 ?_;refine X0<|X0<|X3 ?_;refine X5<|(Xd [0,5,26,27] (fun(y:Nat×List Nat)=>[(6,.v (.one (.own 1006))),(28,.v (li y.1))]) (fun y=>[(5,.box [.own 900001]),(1006,.row 3 1 (XB y.2)),(900001,.mp (mpZ M))]) (fun y=>y.1≤l.length∧y.2++(l.drop y.1).filter (fun d=>decide (Qx steps d∈M))=res∧y.2.length≤y.1) (fun y=>l.length - y.1) (0,[]) ⟨Nat.zero_le _,by simpa using hres,Nat.le_refl _⟩ ?_ ?_)
 · exact X6 (fun n=>n) [1006]
 rintro⟨k,out⟩ ⟨hk,hJ,hol⟩;simp only[upS,X8,Xy]
 try simp only[X8,KN,Nat.reduceBEq,if_true,if_false,ins,Nat.reduceLT]
 simp only at hk hJ hol;clear hres;refine X4 ?_;refine X0<|(X9 rfl (fun h7=>Xb ?_) (fun h7=>?_))
 · (try simp only[BN]at h7);have hlt:k<l.length:=by simpa using h7
   obtain⟨x,he,hd⟩:=Xq hlt;have hw1:=XA hlt (by omega);have hk1:k+1≤l.length:=hlt;have hx:=hlb x (List.mem_of_getElem? he);have cx:=cd x hx;have hxe:(XB l)[k]? =some [iC x]:=by simp[XB,he]
   have hfd:=X1Q (Qx steps x) M;have hroom:Qa (out.length+1) 8:=Xx (by omega) (by decide);rw[hd]at hJ;clear hlt h7 he hd hlb cd;refine X0<|X5<|X0<|X3 ?_;refine XO [0,5,6,8,26,27,28] (fun(z:Bool)=>[(36,.v (lb z))]) (fun(z:Bool)=>[(5,.box [.own 900001]),(1006,.row 3 1 (XB out)),(900001,.mp (mpZ M))]) (fun(z:Bool)=>z=decide (Qx steps x∈M)) ?_ ?_
   · by_cases hin:Qx steps x∈M
     · rw[if_pos hin]at hfd;refine Qk [⟨true,.v (li (Qx steps x)),none⟩] (by kernel_rfl) (by kernel_rfl) (by rfl) (by simp[hfd];first|exact⟨rfl,Iff.rfl⟩|exact⟨rfl,trivial⟩|rfl) ?_ ?_
       · first|exact cx _|simpa using cx _
       exact⟨_,rfl,Xu (fun n=>n) [] rfl (by simp[upS,X8,hin]) (by simp[upS]) (by simp[upS])⟩
     rw[if_neg hin]at hfd;refine Qk [⟨true,.v (li (Qx steps x)),none⟩] (by kernel_rfl) (by kernel_rfl) (by rfl) (by simp[hfd];first|exact⟨rfl,Iff.rfl⟩|exact⟨rfl,trivial⟩|rfl) ?_ ?_
     · first|exact cx _|simpa using cx _
     exact⟨_,rfl,Xu (fun n=>n) [] rfl (by simp[upS,X8,hin]) (by simp[upS]) (by simp[upS])⟩
   rintro z hz;simp only[upS,X8,Xy]
   try simp only[X8,KN,Nat.reduceBEq,if_true,if_false,ins,Nat.reduceLT]
   refine(Xe rfl (fun h10=>?_) fun h10=>?_)
   · (try simp only[BN]at h10);have hzt:z=true:=by simpa using h10
     rw[List.filter_cons,if_pos (by rw[←hz,hzt])]at hJ;clear hz h10 hfd cx;refine X3 ?_;refine X3 ?_;exact⟨(k+1,out++[x]),⟨hk1,by simpa using hJ,by simp;omega⟩,by simp only;omega,X6 (fun n=>if n=1006 then 40 else n) []⟩
   (try simp only[BN]at h10);have hzt:z=false:=by simpa using h10
   rw[List.filter_cons,if_neg (by rw[←hz,hzt];simp)]at hJ;clear hz h10 hfd cx;refine X3 ?_;exact⟨(k+1,out),⟨hk1,hJ,by simp only;omega⟩,by simp only;omega,X6 (fun n=>n) []⟩
 try simp only[BN]at h7
 have hkl:k=l.length:=by
  have:¬k<l.length:=by simpa using h7
  omega
 subst hkl;simp only[List.drop_length,List.filter_nil,List.append_nil]at hJ;subst hJ;clear h7;refine(Xg ?_);refine XC (XR 1006 rfl) ?_;refine X4 ?_;exact XU ⟨.inr rfl,_,le_refl _,⟨⟨_,by simp;rfl,by simp[XN]⟩,by simp,fun h=>by cases h⟩⟩
end Go.Proofs.YtppjennamodfdaaGreat

namespace Go.Proofs.YtppjennamodfdaaGreat
open Go Go.Hl
def X7j (steps:List St) (ar:List Int) (rd:List (List Nat)) (s:Nat):List Nat:=match steps[s]?,ar[s]?,rd[s]? with
 |some q,some a,some l=>(if 0≤a then [a.toNat] else [])++(X1s steps q l).filter fun d=>decide (d<steps.length)
 |_,_,_=>[]
def X2B (steps:List St) (ar:List Int) (rd:List (List Nat)):List (List Nat):=(List.range steps.length).map (X7j steps ar rd)
structure TabOK (steps:List St) (ar:List Int) (rd:List (List Nat)):Prop where
 hn:steps.length≤1000
 har:ar.length=steps.length
 hrd:rd.length=steps.length
 nod:∀s∈steps,s.term.nodes≤1000000
 rdl:∀l∈rd,l.length≤5000∧∀d∈l,d≤1000000
theorem X68 {R:List (Option (List (List CD)))} {y:Nat} (h:R[y]? =some none):ZO R y=true:=by
 unfold ZO;rw[h]
set_option maxHeartbeats 8000000 in
theorem X04 (f:Fl) (steps:List St) (ar:List Int) (rd:List (List Nat)) (hT:TabOK steps ar rd) (d:Nat):
  Con Tryz.prog 46 false [.one (.c (ZH f steps ar rd))] (.v (.one (.c (.sl 1 (Q7 (X2B steps ar rd)))))) none d:=by
 obtain⟨hn,hal,hrl,hnod,hrdl⟩:=hT;have hDl:(X2B steps ar rd).length=steps.length:=by simp[X2B]
 have hDg:∀s,s<steps.length→(X2B steps ar rd)[s]? =some (X7j steps ar rd s):=fun s hs=>by simp[X2B,hs]
 have csr:=X4Q f steps ar rd;obtain⟨D,hD⟩:∃x,X2B steps ar rd=x:=⟨_,rfl⟩;rw[hD]at hDl hDg⊢;have hbig:(24:Int)*steps.length≤281474976710656:=by omega
 have hmx:steps.length≤maxLen:=by unfold maxLen;omega
 clear hD;refine X7 Tryz.func46 ?_;simp only[Tryz.f46];refine X4 ?_;refine X4 ?_;refine XC (X5T 12 3 1 (by decide) (by decide) rfl rfl rfl) ?_;refine X0<|X0<|X3 ?_;refine X5<|(Xd [0,3,17] (fun(y:Nat)=>[(18,.v (li y))]) (fun y=>[(12,.mat 27 3 1 (rwI D y steps.length))]) (fun y=>y≤steps.length) (fun y=>steps.length - y) (0:Nat) (Nat.zero_le _) ?_ ?_)
 · exact Xu (fun n=>n) [] rfl (by simp[*,upS,X8]) (by simp[*,upS,X9E]) (by simp[upS])
 rintro y hy;simp only[upS,X8,Xy]
 try simp only[X8,KN,Nat.reduceBEq,if_true,if_false,ins,Nat.reduceLT]
 refine X4 ?_;refine X0<|(X9 rfl (fun h5=>Xb ?_) (fun h5=>?_))
 · (try simp only[BN]at h5);have hlt:y<steps.length:=by simpa using h5
   have hw1:=XA hlt (by omega);have hk1:y+1≤steps.length:=hlt;obtain⟨q,hq,_⟩:=Xq hlt;obtain⟨a,ha,_⟩:=Xq (show y<ar.length by omega);obtain⟨l,hl,_⟩:=Xq (show y<rd.length by omega);have hlm:=hrdl l (List.mem_of_getElem? hl);have cs:=csr y q l hq hl (hnod q (List.mem_of_getElem? hq)) hlm.1 hlm.2 (by omega);have hDy:=hDg y hlt;have hdir:X7j steps ar rd y=(if 0≤a then [a.toNat] else [])++(X1s steps q l).filter fun d=>decide (d<steps.length):=by simp[X7j,hq,ha,hl]
   rw[hdir]at hDy;have hSl:(X1s steps q l).length≤5000:=Nat.le_trans (List.length_filter_le _ _) hlm.1;obtain⟨SL,hSL⟩:∃x,X1s steps q l=x:=⟨_,rfl⟩;rw[hSL]at cs hDy hSl;have hget:=Xbj hlt hDl;have hRs:=Xb5 hDy hlt hDl;have hRl:y+1≤(rwI D y steps.length).length:=by rw[Xba hy hDl];exact hlt
   obtain⟨R,hR⟩:∃x,rwI D y steps.length=x:=⟨_,rfl⟩;rw[hR]at hget hRs hRl⊢;have hfr:=X68 hget;clear hlt h5 hq hl hlm hdir hDy hSL hR;refine X0<|X5<|X0<|X3 ?_;refine(XO [0,3,4,17,18] (fun(z:List Nat)=>[]) (fun(z:List Nat)=>[(12,.mat 27 3 1 (X11 R y z))]) (fun(z:List Nat)=>z=if 0≤a then [a.toNat] else []) ?_ ?_)
   ·
    refine X4 ?_;refine(Xe rfl (fun h9=>?_) fun h9=>?_)
    · (try simp only[BN]at h9);have hap:0≤a:=by simpa using h9
      obtain⟨m,rfl⟩:=Int.eq_ofNat_of_zero_le hap;have hz1:R.set y (some [[iC (m:Int)]])=X11 R y [m]:=rfl;have hroom:Qa 1 8:=Xx (by omega) (by decide);clear h9;refine(Q6 (by kernel_rfl) (by kernel_rfl) (by rfl) (by simp[*];rfl) ?_);exact⟨[m],by simp,X6 (fun n=>n) []⟩
    (try simp only[BN]at h9);have hap:¬0≤a:=by simpa using h9
    have hz1:=X7b hget;clear h9;exact⟨[],by simp[hap],X6 (fun n=>n) []⟩
   rintro z hz;simp only[upS,X8,Xy]
   try simp only[X8,KN,Nat.reduceBEq,if_true,if_false,ins,Nat.reduceLT]
   have hzl:z.length≤1:=by rw[hz];split<;>simp
   rw[←hz]at hRs;clear hz hget hfr ha;refine Xk [⟨false,.v (.one (.c (.sl 1 (XB SL)))),none⟩] ?_ ?_
   · first|exact cs _|exact trivial|simpa[*]using cs _
   refine X5<|(Xd [0,3,4,17,18,47,48] (fun(u:Nat×List Nat)=>[(49,.v (li u.1))]) (fun u=>[(12,.mat 27 3 1 (X11 R y u.2))]) (fun u=>u.1≤SL.length∧u.2++(SL.drop u.1).filter (fun d=>decide (d<steps.length))=z++SL.filter (fun d=>decide (d<steps.length))∧u.2.length≤u.1+1) (fun u=>SL.length - u.1) (0,z) ⟨Nat.zero_le _,rfl,hzl⟩ ?_ ?_)
   · exact X6 (fun n=>n) []
   rintro⟨j,out⟩ ⟨hj,hJ,hol⟩;simp only[upS,X8,Xy]
   try simp only[X8,KN,Nat.reduceBEq,if_true,if_false,ins,Nat.reduceLT]
   simp only at hj hJ hol;refine X4 ?_;refine X0<|(X9 rfl (fun h16=>Xb ?_) (fun h16=>?_))
   · (try simp only[BN]at h16);have hjl:j<SL.length:=by simpa using h16
     have hwj:=XA hjl (by omega);have hj1:j+1≤SL.length:=hjl;obtain⟨x,hx,hxd⟩:=Xq hjl;have hxe:(XB SL)[j]? =some [iC x]:=by simp[XB,hx]
     rw[hxd]at hJ;clear hjl h16 hx hxd cs csr hDg;refine X0<|X5<|X0<|X3 ?_;refine X4 ?_;refine(Xe rfl (fun h19=>?_) fun h19=>?_)
     · (try simp only[BN]at h19);have hxn:x<steps.length:=by simpa using h19
       rw[List.filter_cons,if_pos (by simpa using hxn)]at hJ;have hJ2:out++[x]++(SL.drop (j+1)).filter (fun d=>decide (d<steps.length))=z++SL.filter (fun d=>decide (d<steps.length)):=by simpa using hJ
       clear h19 hJ hxn;cases out with
       | nil=>
         have g1:=X0i hRl [];have g2:=X6V hRl;have g3:=X1X R y [] [] x;have hroom:Qa 1 8:=Xx (by omega) (by decide);simp only[ZS,if_true]at g1;simp only[X2W,List.nil_append]at g3;refine Xn (by simp[g1,g2,g3,hRl,hroom];rfl) ?_;refine Xn (by simp[hwj];rfl) ?_;exact⟨(j+1,[x]),⟨hj1,by simpa using hJ2,by simp⟩,by simp only;omega,Xu (fun n=>n) [] rfl (by simp[upS,X8]) (by simp[upS]) (by simp[upS])⟩
       | cons a0 o=>
         have g1:=X0i hRl (a0::o);have g3:=X1X R y (a0::o) (a0::o) x;have hroom:Qa ((a0::o).length+1) 8:=Xx (by omega) (by decide);simp only[ZS,List.cons_ne_nil,if_false]at g1;rw[List.length_cons]at hroom;refine XS ?_;refine RunsN.cutE 8 [] (by simp[g1,hRl];rfl) trivial (le_refl _) ?_;refine RunsN.matA (by simp[X6r,neT,g1,g3,hroom];rfl) ?_;refine RunsN.doneE [] rfl trivial ?_;refine XC (s':=⟨⟨73,none⟩,[(0,.v (.one (.c (ZH f steps ar rd)))),(3,.v (.one (.own 12))),(4,.v (li y)),(17,.v (li steps.length)),(18,.v (li y)),(47,.v (.one (.c (.sl 1 (XB SL))))),(48,.v (li SL.length)),(49,.v (li j))],[(12,.mat 27 3 1 (X11 R y (a0::o++[x])))]⟩) (Xu (fun n=>if n=12 then 68 else n) [] rfl (by simp[Wz,RV.mv,TV.mv,CV.mv]) (by simp[Wz,Ob.mv,CV.mv]) (by simp)) ?_;refine Xn (by simp[hwj];rfl) ?_;exact⟨(j+1,a0::o++[x]),⟨hj1,hJ2,by simp only[List.length_append,List.length_singleton];omega⟩,by simp only;omega,Xu (fun n=>n) [] rfl (by simp[upS,X8]) (by simp[upS]) (by simp[upS])⟩
     (try simp only[BN]at h19);have hxn:¬x<steps.length:=by simpa using h19
     rw[List.filter_cons,if_neg (by simpa using hxn)]at hJ;clear h19 hxn;refine X3 ?_;exact⟨(j+1,out),⟨hj1,hJ,by simp only;omega⟩,by simp only;omega,X6 (fun n=>n) []⟩
   try simp only[BN]at h16
   have hjl:j=SL.length:=by
    have:¬j<SL.length:=by simpa using h16
    omega
   subst hjl;simp only[List.drop_length,List.filter_nil,List.append_nil]at hJ;rw[←hJ]at hRs;have hfin:X11 R y out=rwI D (y+1) steps.length:=hRs;clear h16 cs hJ hRs;refine(Xg ?_);refine X3 ?_;exact⟨y+1,hk1,by omega,X6 (fun n=>n) []⟩
 try simp only[BN]at h5
 have hyn:y=steps.length:=by
  have:¬y<steps.length:=by simpa using h5
  omega
 subst hyn;have hend:=Xbh hDl;clear hDg csr;refine(Xg ?_);refine X4 ?_;refine XC (X3J 12 rfl) ?_;exact XU ⟨.inr rfl,_,le_refl _,⟨_,by simp[HS.frz,Wz,RV.frz,TV.frz,CV.frz];rfl,by simp[XN,hend]⟩,by simp,fun h=>by cases h⟩
end Go.Proofs.YtppjennamodfdaaGreat

namespace Go.Proofs.YtppjennamodfdaaGreat
open Go Go.Hl
def X0Q (s:Nat):List Nat→List (List Nat)→List (List Nat)
 |[],M=>M
 |d::l,M=>X0Q s l (M.set d ((M[d]?.getD [])++[s]))
def X3v:List (List Nat)→Nat→List (List Nat)→List (List Nat)
 |[],_,M=>M
 |l::L,s,M=>X3v L (s+1) (X0Q s l M)
def X2g (L:List (List Nat)):List (List Nat):=X3v L 0 (List.replicate L.length [])
def rwA (M:List (List Nat)):List (Option (List (List CD))):=M.map ZS
@[simp] theorem rwA_len (M:List (List Nat)):(rwA M).length=M.length:=by simp[rwA]
theorem rwA_get {M:List (List Nat)} {d:Nat} {l:List Nat} (h:M[d]? =some l):(rwA M)[d]? =some (ZS l):=by simp[rwA,h]
theorem rwA_set (M:List (List Nat)) (d:Nat) (l:List Nat) (s:Nat):(rwA M).set d (some (XB l++[[iC s]]))=rwA (M.set d (l++[s])):=by
 simp[rwA,List.map_set,ZS]
theorem rwA_zero (n:Nat):rwA (List.replicate n [])=List.replicate n none:=by simp[rwA,ZS]
theorem rwA_end (M:List (List Nat)):(rwA M).map (fun r=>[CD.sl 1 (r.getD [])])=Q7 M:=by
 unfold rwA Q7;rw[List.map_map];refine List.map_congr_left fun l _=>?_;unfold ZS;simp only[Function.comp];split
 · rename_i h;subst h;rfl
 rfl
def lenB (M:List (List Nat)) (b:Nat):Prop:=∀m∈M,m.length≤b
theorem lenB.set {M:List (List Nat)} {b d:Nat} {l:List Nat} (h:lenB M b) (hl:M[d]? =some l) (s:Nat):lenB (M.set d (l++[s])) (b+1):=by
 intro m hm;rcases List.mem_or_eq_of_mem_set hm with hm|rfl
 · have:=h m hm;omega
 have:=h l (List.mem_of_getElem? hl);simp only[List.length_append,List.length_singleton];omega
set_option maxHeartbeats 8000000 in
theorem X3f (L:List (List Nat)) (hn:L.length≤1000) (hl:∀l∈L,l.length≤6000∧∀d∈l,d<L.length) (d:Nat):Con Tryz.prog 47 false [.one (.c (.sl 1 (Q7 L)))] (.v (.one (.c (.sl 1 (Q7 (X2g L)))))) none d:=by
 obtain⟨res,hres⟩:∃x,X2g L=x:=⟨_,rfl⟩;rw[hres];unfold X2g at hres;have hbig:(24:Int)*L.length≤281474976710656:=by omega
 have hmx:L.length≤maxLen:=by unfold maxLen;omega
 refine X7 Tryz.func47 ?_;simp only[Tryz.f47];refine X4 ?_;refine X4 ?_;refine XC (X5T 10 3 1 (by decide) (by decide) rfl rfl rfl) ?_;refine X0<|X0<|X3 ?_;refine X5<|(Xd [3,11,12] (fun(u:Nat×List (List Nat))=>[(13,.v (li u.1))]) (fun(u:Nat×List (List Nat))=>[(10,.mat 27 3 1 (rwA u.2))]) (fun(u:Nat×List (List Nat))=>u.1≤L.length∧X3v (L.drop u.1) u.1 u.2=res∧u.2.length=L.length∧lenB u.2 (6001*u.1)) (fun(u:Nat×List (List Nat))=>L.length - u.1) (0,List.replicate L.length []) ⟨Nat.zero_le _,by simpa using hres,by simp,fun m hm=>by rw[(List.mem_replicate.1 hm).2];exact Nat.zero_le _⟩ ?_ ?_)
 · exact Xu (fun n=>n) [] rfl (by simp[*,upS,X8]) (by simp[*,upS,rwA_zero]) (by simp[upS])
 rintro⟨y,M⟩ ⟨hy,hJ,hMl,hMb⟩;simp only[upS,X8,Xy]
 try simp only[X8,KN,Nat.reduceBEq,if_true,if_false,ins,Nat.reduceLT]
 simp only at hy hJ hMl hMb;clear hres;refine X4 ?_;refine X0<|(X9 rfl (fun h5=>Xb ?_) (fun h5=>?_))
 · (try simp only[BN]at h5);have hlt:y<L.length:=by simpa using h5
   have hw1:=XA hlt (by omega);have hk1:y+1≤L.length:=hlt;obtain⟨l,hly,hld⟩:=Xq hlt;have hle:=WL hly;obtain⟨hll,hlb⟩:=hl l (List.mem_of_getElem? hly);rw[hld]at hJ;simp only[X3v]at hJ;clear h5 hly hld hl hlt;refine X0<|X5<|X0<|X3 ?_;refine X4 ?_;refine X5<|(Xd [3,4,11,12,13,18,19] (fun(u:Nat×List (List Nat))=>[(20,.v (li u.1))]) (fun(u:Nat×List (List Nat))=>[(10,.mat 27 3 1 (rwA u.2))]) (fun(u:Nat×List (List Nat))=>u.1≤l.length∧X3v (L.drop (y+1)) (y+1) (X0Q y (l.drop u.1) u.2)=res∧u.2.length=L.length∧lenB u.2 (6001*y+u.1)) (fun(u:Nat×List (List Nat))=>l.length - u.1) (0,M) ⟨Nat.zero_le _,by simpa using hJ,hMl,hMb⟩ ?_ ?_)
   · exact X6 (fun n=>n) []
   rintro⟨j,M1⟩ ⟨hj,hJ1,hMl1,hMb1⟩;simp only[upS,X8,Xy]
   try simp only[X8,KN,Nat.reduceBEq,if_true,if_false,ins,Nat.reduceLT]
   simp only at hj hJ1 hMl1 hMb1;clear hJ hMl hMb;refine X4 ?_;refine X0<|(X9 rfl (fun h10=>Xb ?_) (fun h10=>?_))
   · (try simp only[BN]at h10);have hjl:j<l.length:=by simpa using h10
     have hwj:=XA hjl (by omega);have hj1:j+1≤l.length:=hjl;obtain⟨x,hx,hxd⟩:=Xq hjl;have hxe:(XB l)[j]? =some [iC x]:=by simp[XB,hx]
     have hxn:=hlb x (List.mem_of_getElem? hx);obtain⟨o,ho,_⟩:=Xq (show x<M1.length by omega);rw[hxd]at hJ1;simp only[X0Q,ho,Option.getD_some]at hJ1;have g1:=rwA_get ho;have hol:=hMb1 o (List.mem_of_getElem? ho);have hMb2:=hMb1.set ho y;have hR1:x+1≤M1.length:=by omega
     have g3:=rwA_set M1 x o y;clear hjl h10 hx hxd ho hMb1 hxn;refine X0<|X5<|X0<|X3 ?_;cases o with
     | nil=>
       have hroom:Qa 1 8:=Xx (by omega) (by decide);simp only[ZS,if_true]at g1;simp only[X2W,List.nil_append]at g3;have g2:=X68 g1;refine Xn (by simp[g1,g2,g3,hR1,hroom];rfl) ?_;refine Xn (by simp[hwj];rfl) ?_;exact⟨(j+1,M1.set x [y]),⟨hj1,hJ1,by simpa using hMl1,by simpa[Nat.add_assoc]using hMb2⟩,by simp only;omega,Xu (fun n=>n) [] rfl (by simp[upS,X8]) (by simp[upS]) (by simp[upS])⟩
     | cons a0 o=>
       have hroom:Qa (o.length+1+1) 8:=by
        simp only[List.length_cons]at hol;exact⟨by unfold maxLen;omega,by omega⟩
       simp only[ZS,List.cons_ne_nil,if_false]at g1;refine XS ?_;refine RunsN.cutE 8 [] (by simp[g1,hR1];rfl) trivial (le_refl _) ?_;refine RunsN.matA (by simp[X6r,neT,g1,g3,hroom];rfl) ?_;refine RunsN.doneE [] rfl trivial ?_;refine XC (s':=⟨⟨37,none⟩,[(3,.v (.one (.own 10))),(4,.v (li y)),(11,.v (.one (.c (.sl 1 (Q7 L))))),(12,.v (li L.length)),(13,.v (li y)),(18,.v (.one (.c (.sl 1 (XB l))))),(19,.v (li l.length)),(20,.v (li j))],[(10,.mat 27 3 1 (rwA (M1.set x (a0::o++[y]))))]⟩) (Xu (fun n=>if n=10 then 32 else n) [] rfl (by simp[Wz,RV.mv,TV.mv,CV.mv]) (by simp[Wz,Ob.mv,CV.mv]) (by simp)) ?_;refine Xn (by simp[hwj];rfl) ?_;exact⟨(j+1,M1.set x (a0::o++[y])),⟨hj1,hJ1,by simpa using hMl1,by simpa[Nat.add_assoc]using hMb2⟩,by simp only;omega,Xu (fun n=>n) [] rfl (by simp[upS,X8]) (by simp[upS]) (by simp[upS])⟩
   try simp only[BN]at h10
   have hjl:j=l.length:=by
    have:¬j<l.length:=by simpa using h10
    omega
   subst hjl;simp only[List.drop_length,X0Q]at hJ1;clear h10;refine(Xg ?_);refine X3 ?_;exact⟨(y+1,M1),⟨hk1,hJ1,hMl1,fun m hm=>by have:=hMb1 m hm;simp only;omega⟩,by simp only;omega,X6 (fun n=>n) []⟩
 try simp only[BN]at h5
 have hyn:y=L.length:=by
  have:¬y<L.length:=by simpa using h5
  omega
 subst hyn;simp only[List.drop_length,X3v]at hJ;subst hJ;have hend:=rwA_end M;clear h5;refine(Xg ?_)
 skip
 refine X4 ?_;refine XC (X3J 10 rfl) ?_;exact XU ⟨.inr rfl,_,le_refl _,⟨_,by simp[HS.frz,Wz,RV.frz,TV.frz,CV.frz];rfl,by simp[XN,hend]⟩,by simp,fun h=>by cases h⟩
end Go.Proofs.YtppjennamodfdaaGreat

namespace Go.Proofs.YtppjennamodfdaaGreat
open Go Go.Hl
@[simp] theorem mpI_nil:mpI []=[]:=rfl
def X4w (t:List Nat) (v:Nat):List Nat:=if v∈t then t else t++[v]
def addAll:List Nat→List Nat→List Nat
 |[],t=>t
 |v::l,t=>addAll l (X4w t v)
def wl (L:List (List Nat)):Nat→Nat→List Nat→List Nat
 |0,_,t=>t
 | k+1,i,t=>match t[i]? with
   |some v=>wl L k (i+1) (addAll (L[v]?.getD []) t)
   |none=>t
def Zh (L:List (List Nat)) (l:List Nat):List Nat:=wl L (L.length+1) 0 (addAll l [])
structure Nb (n:Nat) (t:List Nat):Prop where
 nd:t.Nodup
 lt:∀d∈t,d<n
theorem Nb.len {n:Nat} {t:List Nat} (h:Nb n t):t.length≤n:=QD h.nd h.lt
theorem Nb.add {n v:Nat} {t:List Nat} (h:Nb n t) (hv:v<n):Nb n (X4w t v):=by
 unfold X4w;split
 · exact h
 rename_i hm;refine⟨?_,?_⟩
 · rw[List.nodup_append];exact⟨h.nd,by simp,fun a ha b hb=>by rw[List.mem_singleton.1 hb];rintro rfl;exact hm ha⟩
 intro d hd;rcases List.mem_append.1 hd with hd|hd
 · exact h.lt d hd
 rw[List.mem_singleton.1 hd];exact hv
theorem Nb.nil (n:Nat):Nb n []:=⟨by simp,by simp⟩
theorem X8m (t:List Nat) (v:Nat):t.length≤(X4w t v).length:=by
 unfold X4w;split
 · exact Nat.le_refl _
 simp
theorem XaL (l:List Nat):∀t,t.length≤(addAll l t).length:=by
 induction l with
 |nil=>intro t;exact Nat.le_refl _
 |cons v l ih=>intro t;exact Nat.le_trans (X8m t v) (ih _)
theorem Nb.addAll {n:Nat} (l:List Nat) (hl:∀d∈l,d<n):∀{t},Nb n t→Nb n (addAll l t):=by
 induction l with
 |nil=>intro t h;exact h
 |cons v l ih=>intro t h;exact ih (fun d hd=>hl d (by simp[hd])) (h.add (hl v (by simp)))
def wkO (t:List Nat):List (Nat×Ob):=[(900001,.mp (mpI t)),(900002,.row 3 1 (XB t)),(1000000,.box [.own 900001]),(1000001,.box [.own 900002])]
theorem wk_pin {m:List Nat}:∀n cs,lkp (wkO m) n=some (.box cs)→1000000≤n:=by
 intro n cs h;simp only[wkO,lkp]at h
 repeat' split at h
 all_goals first|omega|cases h
theorem mpI_snoc (m:List Nat) (v:Nat):mpI m++[(.int .i64 v,bC true)]=mpI (m++[v]):=by simp[mpI]
theorem XcI (m:List Nat) (v:Nat):XB m++[[iC v]]=XB (m++[v]):=by simp
theorem X91 (t:List Nat) (v:Nat) (ht:t.length≤100000):X1q Tryz.prog 81 none (wkO t) [li v,.one (.at_ 1000000 0),.one (.at_ 1000001 0)] (fun _:Unit=>True) (fun _=>.tup []) (fun _=>wkO (X4w t v)):=by
 refine Qs Tryz.func81 rfl (by kernel_rfl) (Nat.le_of_ble_eq_true rfl) wk_pin (fun v h=>by cases h) ?_;simp only[Tryz.f81,wkO];have hf:=X1C v t;unfold X4w;by_cases h:v∈t
 · rw[if_pos h]at hf⊢;refine X4 ?_;refine(Xe rfl (fun h1=>?_) fun h1=>?_)
   · cases h1
   (try simp only[BN]at h1);exact⟨.inl rfl,(),trivial,_,le_refl _,⟨[],rfl,rfl⟩,fun n o h=>h⟩
 rw[if_neg h]at hf⊢;have hs:=mpI_snoc t v;have hroom:Qa (t.length+1) 8:=Xx (by omega) (by decide);refine X4 ?_;refine(Xe rfl (fun h1=>?_) fun h1=>?_)
 · (try simp only[BN]at h1);refine X4 ?_;refine X3 ?_;exact⟨.inl rfl,(),trivial,⟨⟨14,none⟩,[],wkO (t++[v])⟩,Xu (fun n=>if n=900002 then 13 else n) [] rfl (by simp) (by simp[wkO]) (by simp[wkO]),⟨[],rfl,rfl⟩,fun n o h=>h⟩
 cases h1
theorem wl_end (L:List (List Nat)) (t:List Nat):∀k,wl L k t.length t=t
 |0=>rfl
 |k+1=>by simp[wl]
theorem wl_step {L:List (List Nat)} {t:List Nat} {k i v:Nat} {l:List Nat} (h:t[i]? =some v) (hl:L[v]? =some l):wl L (k+1) i t=wl L k (i+1) (addAll l t):=by simp[wl,h,hl]
def okLk (L:List (List Nat)):Prop:=∀l∈L,l.length≤100000000∧∀d∈l,d<L.length
set_option maxHeartbeats 8000000 in
theorem Z6 (L:List (List Nat)) (l0:List Nat) (hn:L.length≤10000) (hl:okLk L) (h0:l0.length≤100000) (hb:∀d∈l0,d<L.length) (d:Nat):
  Con Tryz.prog 45 false [.one (.c (.sl 1 (Q7 L))),.one (.c (.sl 1 (XB l0)))] (.v (.one (.c (.mp (mpI (Zh L l0)))))) none d:=by
 obtain⟨res,hres⟩:∃x,Zh L l0=x:=⟨_,rfl⟩;rw[hres];unfold Zh at hres;refine X7 Tryz.func45 ?_;simp only[Tryz.f45];refine X4 ?_;refine X4 ?_;refine X4 ?_;refine X4 ?_;refine X0<|X0<|X3 ?_;refine X5<|(Xd [0,5,6,7,15,16] (fun(u:Nat×List Nat)=>[(17,.v (li u.1))]) (fun u=>[(5,.box [.own 900001]),(6,.box [.own 900002]),(900001,.mp (mpI u.2)),(900002,.row 3 1 (XB u.2))]) (fun u=>u.1≤l0.length∧wl L (L.length+1) 0 (addAll (l0.drop u.1) u.2)=res∧Nb L.length u.2) (fun u=>l0.length - u.1) (0,[]) ⟨Nat.zero_le _,by simpa using hres,Nb.nil _⟩ ?_ ?_)
 · exact X6 (fun n=>if n=900001 then 13 else n) [900002]
 rintro⟨k,t⟩ ⟨hk,hJ,hN⟩;simp only[upS,X8,Xy]
 try simp only[X8,KN,Nat.reduceBEq,if_true,if_false,ins,Nat.reduceLT]
 simp only at hk hJ hN;clear hres;refine X4 ?_;refine X0<|(X9 rfl (fun h7=>Xb ?_) (fun h7=>?_))
 · (try simp only[BN]at h7);have hlt:k<l0.length:=by simpa using h7
   obtain⟨x,he,hd⟩:=Xq hlt;have hw1:=XA hlt (by omega);have hk1:k+1≤l0.length:=hlt;have hx:=hb x (List.mem_of_getElem? he);have hxe:(XB l0)[k]? =some [iC x]:=by simp[XB,he]
   have hN2:=hN.add hx;have hNl:=hN.len;have ca:=X91 t x (by omega);rw[hd]at hJ;simp only[addAll]at hJ;obtain⟨t2,ht2⟩:∃y,X4w t x=y:=⟨_,rfl⟩;rw[ht2]at ca hJ hN2;simp only[wkO]at ca;clear hlt h7 hd he hx hb;refine X0<|X5<|X0<|X3 ?_;refine(XS ?_);refine RunsN.cutE 2 [] (by simp;rfl) trivial (le_refl _) ?_;refine RunsN.callA (fun n=>if n=1000000 then 5 else if n=1000001 then 6 else n) (fun n=>if n=1000000 then 5 else if n=1000001 then 6 else if n=900001 then 30 else if n=900002 then 31 else n) ca fun _ _=>?_;refine RunsN.doneE [] rfl trivial ?_;refine XC (s':=⟨⟨48,none⟩,[(0,.v (.one (.c (.sl 1 (Q7 L))))),(5,.v (.one (.at_ 5 0))),(6,.v (.one (.at_ 6 0))),(7,.v (.one (.fn 81 [(5,0),(6,0)]))),(15,.v (.one (.c (.sl 1 (XB l0))))),(16,.v (li l0.length)),(17,.v (li k))],[(5,.box [.own 900001]),(6,.box [.own 900002]),(900001,.mp (mpI t2)),(900002,.row 3 1 (XB t2))]⟩) (Xu (fun n=>if n=900001 then 30 else if n=900002 then 31 else n) [] rfl (by simp[Qj,QT,del,ins,CV.ren,Ob.ren]) (by simp[Qj,QT,del,ins,CV.ren,Ob.ren]) (by simp)) ?_;refine X3 ?_;exact⟨(k+1,t2),⟨hk1,hJ,hN2⟩,by simp only;omega,X6 (fun n=>n) []⟩
 try simp only[BN]at h7
 have hkl:k=l0.length:=by
  have:¬k<l0.length:=by simpa using h7
  omega
 subst hkl;simp only[List.drop_length,addAll]at hJ;clear h7;refine(Xg ?_);refine X0<|X0<|X3 ?_;refine X5<|(Xd [0,5,6,7] (fun(u:Nat×List Nat)=>[(10,.v (li u.1))]) (fun u=>[(5,.box [.own 900001]),(6,.box [.own 900002]),(900001,.mp (mpI u.2)),(900002,.row 3 1 (XB u.2))]) (fun u=>u.1≤u.2.length∧wl L (L.length+1 - u.1) u.1 u.2=res∧Nb L.length u.2) (fun u=>L.length+1 - u.1) (0,t) ⟨Nat.zero_le _,hJ,hN⟩ ?_ ?_)
 · exact X6 (fun n=>n) []
 rintro⟨i,t1⟩ ⟨hi,hJ1,hN1⟩;simp only[upS,X8,Xy]
 try simp only[X8,KN,Nat.reduceBEq,if_true,if_false,ins,Nat.reduceLT]
 simp only at hi hJ1 hN1;clear hJ hN;have hNl1:=hN1.len;refine X0<|X0<|X3 ?_;refine(X9 rfl (fun h15=>Xb ?_) (fun h15=>?_))
 · (try simp only[BN]at h15);have hlt:i<t1.length:=by simpa using h15
   obtain⟨v,hv,_⟩:=Xq hlt;have hvn:=hN1.lt v (List.mem_of_getElem? hv);obtain⟨l,hlv,_⟩:=Xq hvn;have hle:=WL hlv;have hxe:(XB t1)[i]? =some [iC v]:=by simp[XB,hv]
   obtain⟨hll,hlb⟩:=hl l (List.mem_of_getElem? hlv);have hwi:=XA hlt (by omega);have hi1:i+1≤t1.length:=hlt;have hkk:L.length+1 - i=(L.length+1 - (i+1))+1:=by omega
   rw[hkk,wl_step hv hlv]at hJ1;have hvb:v+1≤L.length:=hvn;clear hlt h15 hv hvn hlv hkk;refine X0<|X5<|X0<|X3 ?_;refine X5<|(Xd [0,5,6,7,10,37,38] (fun(u:Nat×List Nat)=>[(39,.v (li u.1))]) (fun u=>[(5,.box [.own 900001]),(6,.box [.own 900002]),(900001,.mp (mpI u.2)),(900002,.row 3 1 (XB u.2))]) (fun u=>u.1≤l.length∧wl L (L.length+1 - (i+1)) (i+1) (addAll (l.drop u.1) u.2)=res∧Nb L.length u.2∧i+1≤u.2.length) (fun u=>l.length - u.1) (0,t1) ⟨Nat.zero_le _,by simpa using hJ1,hN1,hi1⟩ ?_ ?_)
   · exact X6 (fun n=>n) []
   rintro⟨k,t⟩ ⟨hk,hJ,hN,hit⟩;simp only[upS,X8,Xy]
   try simp only[X8,KN,Nat.reduceBEq,if_true,if_false,ins,Nat.reduceLT]
   simp only at hk hJ hN hit;clear hJ1 hN1 hi1 hxe;refine X4 ?_;refine X0<|(X9 rfl (fun h19=>Xb ?_) (fun h19=>?_))
   · (try simp only[BN]at h19);have hlt:k<l.length:=by simpa using h19
     obtain⟨x,he,hd⟩:=Xq hlt;have hw1:=XA hlt (by omega);have hk1:k+1≤l.length:=hlt;have hx:=hlb x (List.mem_of_getElem? he);have hxe:(XB l)[k]? =some [iC x]:=by simp[XB,he]
     have hN2:=hN.add hx;have hNl:=hN.len;have ca:=X91 t x (by omega);have hit2:=Nat.le_trans hit (X8m t x);rw[hd]at hJ;simp only[addAll]at hJ;obtain⟨t2,ht2⟩:∃y,X4w t x=y:=⟨_,rfl⟩;rw[ht2]at ca hJ hN2 hit2;simp only[wkO]at ca;clear hlt h19 hd he hx hl hlb;refine X0<|X5<|X0<|X3 ?_;refine(XS ?_);refine RunsN.cutE 2 [] (by simp;rfl) trivial (le_refl _) ?_;refine RunsN.callA (fun n=>if n=1000000 then 5 else if n=1000001 then 6 else n) (fun n=>if n=1000000 then 5 else if n=1000001 then 6 else if n=900001 then 30 else if n=900002 then 31 else n) ca fun _ _=>?_;refine RunsN.doneE [] rfl trivial ?_;refine XC (s':=⟨⟨48,none⟩,[(0,.v (.one (.c (.sl 1 (Q7 L))))),(5,.v (.one (.at_ 5 0))),(6,.v (.one (.at_ 6 0))),(7,.v (.one (.fn 81 [(5,0),(6,0)]))),(10,.v (li i)),(37,.v (.one (.c (.sl 1 (XB l))))),(38,.v (li l.length)),(39,.v (li k))],[(5,.box [.own 900001]),(6,.box [.own 900002]),(900001,.mp (mpI t2)),(900002,.row 3 1 (XB t2))]⟩) (Xu (fun n=>if n=900001 then 30 else if n=900002 then 31 else n) [] rfl (by simp[Qj,QT,del,ins,CV.ren,Ob.ren]) (by simp[Qj,QT,del,ins,CV.ren,Ob.ren]) (by simp)) ?_;refine X3 ?_;exact⟨(k+1,t2),⟨hk1,hJ,hN2,hit2⟩,by simp only;omega,X6 (fun n=>n) []⟩
   try simp only[BN]at h19
   have hkl:k=l.length:=by
    have:¬k<l.length:=by simpa using h19
    omega
   subst hkl;simp only[List.drop_length,addAll]at hJ;have hwi2:i+1≤L.length:=Nat.le_trans hit hN.len;clear h19;refine(Xg ?_);refine X3 ?_;exact⟨(i+1,t),⟨hit,hJ,hN⟩,by simp only;omega,X6 (fun n=>n) []⟩
 try simp only[BN]at h15
 have hkl:i=t1.length:=by
  have:¬i<t1.length:=by simpa using h15
  omega
 subst hkl;rw[wl_end]at hJ1;subst hJ1;clear h15;refine(Xg ?_);refine XC (Xbr 900001 rfl) ?_;refine X4 ?_;exact XU ⟨.inr rfl,_,le_refl _,⟨⟨_,by simp;rfl,by simp[XN]⟩,by simp,fun h=>by cases h⟩⟩
end Go.Proofs.YtppjennamodfdaaGreat

namespace Go.Proofs.YtppjennamodfdaaGreat
open Go Go.Hl
def X4o (n:Nat) (t:List Nat):List Nat:=(List.range n).filter fun d=>decide (d∈t)
theorem X8n (n:Nat) (t:List Nat):(X4o n t).length≤n:=Nat.le_trans (List.length_filter_le _ _) (by simp)
theorem srt_out {n:Nat} {t out:List Nat} (h:Nb n t) (hout:out.Nodup) (he:∀d,d∈out↔d∈t):Xj ((out.map Int.ofNat).mergeSort fun x y=>decide (x≤y))=XB (X4o n t):=by
 have:=Xa4 (l:=out) (n:=n) (p:=fun d=>decide (d∈t)) hout fun x=>by
  rw[he];simp only[decide_eq_true_eq];exact⟨fun hx=>⟨h.lt x hx,hx⟩,fun hx=>hx.2⟩
 exact this
theorem pick_inj {α:Type} {t:List α} (h:t.Nodup) {i j:Nat} {d:α} (hi:t[i]? =some d) (hj:t[j]? =some d):i=j:=by
 obtain⟨h1,h2⟩:=List.getElem?_eq_some_iff.1 hi;exact(List.getElem?_inj h1 h).1 (hi.trans hj.symm)
theorem X6G {a b:List Int} (ha:a.Nodup) (hb:b.Nodup) (h:∀d,d∈a↔d∈b):(a.mergeSort fun x y=>decide (x≤y))=b.mergeSort fun x y=>decide (x≤y):=by
 have hp:∀l:List Int,(l.mergeSort fun x y=>decide (x≤y)).Pairwise fun x y=>x≤y:=fun l=>(List.pairwise_mergeSort (le:=fun x y:Int=>decide (x≤y)) (fun a b c h1 h2=>by simp at*;omega) (fun a b=>by simp;omega) l).imp fun h=>by simpa using h
 refine List.Perm.eq_of_pairwise (fun x y _ _ h1 h2=>by omega) (hp a) (hp b) ?_;refine(List.mergeSort_perm a _).trans (List.Perm.trans ?_ (List.mergeSort_perm b _).symm);exact(List.perm_ext_iff_of_nodup ha hb).2 h
set_option maxHeartbeats 4000000 in
theorem X4P (t:List Int) (htl:t.length≤10000000) (hnd:t.Nodup) (d:Nat):
  Con Tryz.prog 44 false [.one (.c (.mp (mpZ t)))] (.v (.one (.c (.sl 1 (Xj (t.mergeSort fun x y=>decide (x≤y))))))) none d:=by
 obtain⟨res,hres⟩:∃x,Xj (t.mergeSort fun x y=>decide (x≤y))=x:=⟨_,rfl⟩;rw[hres];have hfin:∀out:List Int,out.Nodup→(∀d,d∈out↔d∈t)→Xj (out.mergeSort fun x y=>decide (x≤y))=res:=fun out h1 h2=>by rw[X6G h1 hnd h2,hres]
 clear hres;refine X7 Tryz.func44 ?_;simp only[Tryz.f44];refine X4 ?_;refine X4 ?_;refine X0<|X0<|X3 ?_;refine X5<|(Xd [6] (fun(y:List Nat×List Int)=>[(3,.v (.one (.own 1003)))]) (fun y=>[(6,.it (mpZ t) y.1),(1003,.row 3 1 (Xj y.2))]) (fun y=>y.1.Nodup∧X01 y.1 t.length∧(∀d,d∈y.2↔∃j∈y.1,t[j]? =some d)∧y.2.Nodup∧y.2.length≤y.1.length) (fun y=>t.length - y.1.length) ([],[]) ⟨List.nodup_nil,by simp[X01],by simp,List.nodup_nil,Nat.le_refl _⟩ ?_ ?_)
 · exact X6 (fun n=>n) [1003]
 rintro⟨seen,out⟩ ⟨j1,j2,j3,j4,j5⟩;simp only[upS,X8,Xy]
 try simp only[X8,KN,Nat.reduceBEq,if_true,if_false,ins,Nat.reduceLT]
 simp only at j1 j2 j3 j4 j5;refine X1K (fun j k v hj hn=>?_) (fun hall=>?_)
 skip
 · (try simp only[BN]at h5);obtain⟨d,hd,rfl,rfl⟩:=get_mpZ hj;have hjl:j<t.length:=(List.getElem?_eq_some_iff.1 hd).1
   have hnd2:(seen++[j]).Nodup:=by
    rw[List.nodup_append];exact⟨j1,by simp,fun a ha b hb=>by rw[List.mem_singleton.1 hb];exact fun e=>hn (e▸ha)⟩
   have hin:X01 (seen++[j]) t.length:=fun i hi=>by
    rcases List.mem_append.1 hi with h|h
    · exact j2 i h
    rw[List.mem_singleton.1 h];exact hjl
   have hnew:(out++[d]).Nodup:=by
    rw[List.nodup_append];refine⟨j4,by simp,fun a ha b hb=>?_⟩;rw[List.mem_singleton.1 hb];rintro rfl;obtain⟨i,hi,he⟩:=(j3 a).1 ha;exact hn (pick_inj hnd hd he▸hi)
   have hmem:∀x,x∈out++[d]↔∃i∈seen++[j],t[i]? =some x:=by
    intro x;rw[List.mem_append,j3,List.mem_singleton];constructor
    · rintro(⟨i,h1,h2⟩|rfl)
      · exact⟨i,List.mem_append_left _ h1,h2⟩
      exact⟨j,by simp,hd⟩
    rintro⟨i,h1,h2⟩;rcases List.mem_append.1 h1 with h1|h1
    · exact .inl ⟨i,h1,h2⟩
    rw[List.mem_singleton.1 h1,hd]at h2;exact .inr (Option.some.inj h2).symm
   have hsn:Xj [d]=[[iC d]]:=rfl;have hle:=QD hnd2 hin;simp only[List.length_append,List.length_singleton]at hle;have hroom:Qa (out.length+1) 8:=⟨by unfold maxLen;omega,by omega⟩;clear hjl;refine X5<|X0<|X3 ?_;refine X3 ?_;exact⟨(seen++[j],out++[d]),⟨hnd2,hin,hmem,hnew,by simp only[List.length_append,List.length_singleton];omega⟩,by simp only[List.length_append,List.length_singleton];omega,X6 (fun n=>if n=1003 then 14 else n) []⟩
 try simp only[BN]at h5
 have hout:∀d,d∈out↔d∈t:=by
  intro d;rw[j3];constructor
  · rintro⟨i,_,h⟩;exact List.mem_of_getElem? h
  intro h;obtain⟨i,hi⟩:=List.mem_iff_getElem?.1 h;exact⟨i,hall i (by rw[len_mpZ];exact(List.getElem?_eq_some_iff.1 hi).1),hi⟩
 have hfin:=hfin out j4 hout;have hsl:=QD j1 j2;clear hall j1 j2 j3 hout;refine(Xg ?_);rcases out with _|⟨a0,o⟩
 · refine XC (XR 1003 rfl) ?_;have hr0:res=[]:=by rw[←hfin];simp[Xj]
   subst hr0;refine Xk [⟨true,.tup [],none⟩] ?_ ?_
   · first|exact X4r _|exact trivial|simpa[*]using X4r _
   refine X4 ?_;exact Xh
 have cs:=X4t (a0::o) (by simp) (by omega);rw[hfin]at cs;refine X0<|(XS ?_);refine RunsN.cutE 1 [] (by simp;rfl) trivial (le_refl _) ?_;refine RunsN.rowA (by simp[rowAP,X3N];exact⟨rfl,rfl⟩) cs ?_;refine RunsN.doneE [] rfl trivial ?_;refine XC (s':=⟨⟨18,none⟩,[(3,.v (.one (.own 1003)))],[(1003,.row 3 1 res)]⟩) (Xu (fun n=>n) [] rfl (by simp) (by simp) (by simp)) ?_;refine X4 ?_;refine XC (XR 1003 rfl) ?_;exact Xh
theorem mpI_Z (t:List Nat):mpI t=mpZ (t.map Int.ofNat):=by simp[mpI,mpZ]
theorem X2F (n:Nat) (t:List Nat) (hn:n≤100000) (ht:Nb n t) (d:Nat):
  Con Tryz.prog 44 false [.one (.c (.mp (mpI t)))] (.v (.one (.c (.sl 1 (XB (X4o n t)))))) none d:=by
 have hl:=ht.len;have:=X4P (t.map Int.ofNat) (by simp only[List.length_map];omega) (List.Pairwise.map Int.ofNat (fun a b h e=>h (Int.ofNat.inj e)) ht.nd) d
 rwa [←mpI_Z,srt_out ht ht.nd fun _=>Iff.rfl]at this
end Go.Proofs.YtppjennamodfdaaGreat

namespace Go.Proofs.YtppjennamodfdaaGreat
open Go Go.Hl
def inB (n:Nat) (q:List Int):Bool:=q.all fun d=>decide (0≤d∧d<n)
def askB (n:Nat) (qs:List (List Int)):Bool:=qs.all (inB n)
def WN (f:Fl) (qs:List (List Int)):Int:=if Qb f=0 then(if askB (flL f.body).length qs=true then 0 else 3)else Qb f
noncomputable def askT (f:Fl) (qs:List (List Int)):CD:=if WN f qs=0 then X6f f else .lit (.pointer none)
def X41 (qs:List (List Int)):List (List CD):=qs.map fun q=>[.sl 1 (Xj q)]
@[simp] theorem len_encQ (qs:List (List Int)):(X41 qs).length=qs.length:=by simp[X41]
theorem X5O {qs:List (List Int)} {i:Nat} {q:List Int} (h:qs[i]? =some q):(X41 qs)[i]? =some [.sl 1 (Xj q)]:=by simp[X41,h]
theorem X4i {q:List Int} {i:Nat} {x:Int} (h:q[i]? =some x):(Xj q)[i]? =some [iC x]:=by simp[Xj,h]
theorem X9w {n:Nat} {qs:List (List Int)} {q:List Int} {x:Int} (h:q∈qs) (hx:x∈q) (hb:¬(0≤x∧x<n)):askB n qs=false:=by
 unfold askB inB;rw[List.all_eq_false];refine⟨q,h,?_⟩;rw[Bool.not_eq_true,List.all_eq_false];exact⟨x,hx,by simpa using hb⟩
set_option maxHeartbeats 8000000 in
theorem ZU (f:Fl) (h:Sm f) (qs:List (List Int)) (hq:qs.length≤100) (hql:∀q∈qs,q.length≤1000000) (d:Nat):
  Con Tryz.prog 43 false [aF f,.one (.c (.sl 1 (X41 qs)))] (.tup [.one (.c (askT f qs)),li (WN f qs)]) none d:=by
 have cn:=X7X f h;have hsl:=XK f.body;have hsz:=h.sz;unfold askT WN;obtain⟨C,hC⟩:∃x,Qb f=x:=⟨_,rfl⟩;rw[hC]at cn⊢;by_cases hz:C=0
 · subst hz;simp only[if_true]at cn⊢;have hTab:X6f f=ZH f (flL f.body) (arL f.body (-1) 0) (rdT f):=rfl;rw[hTab]at cn⊢;obtain⟨S,hS⟩:∃x,flL f.body=x:=⟨_,rfl⟩;obtain⟨A,hA⟩:∃x,arL f.body (-1) 0=x:=⟨_,rfl⟩;obtain⟨D,hD⟩:∃x,rdT f=x:=⟨_,rfl⟩;rw[hS,hA,hD]at cn;rw[hS,hA,hD];rw[hS]at hsl;have hSl:S.length≤1000000:=by omega
   obtain⟨vars,hats,body⟩:=f;simp only[aF,Fl.enc,List.map_cons,List.map_nil]at cn⊢;have hall:(∀q∈qs,inB S.length q=true)→askB S.length qs=true:=fun h=>List.all_eq_true.2 h;have hbad:=fun q x=>@X9w S.length qs q x;obtain⟨Z,hZ⟩:∃x,askB S.length qs=x:=⟨_,rfl⟩;rw[hZ]at hall⊢;simp only[hZ]at hbad;clear h hC hTab hS hA hD hsl hsz hZ;refine X7 Tryz.func43 ?_;simp only[Tryz.f43];refine X4 ?_;refine Xk [⟨false,.tup [.one (.c (ZH ⟨vars,hats,body⟩ S A D)),li 0],none⟩] ?_ ?_
   · first|exact cn _|exact trivial|simpa[*]using cn _
   refine X0<|X0<|X3 ?_;refine(Xe rfl (fun h3=>?_) fun h3=>?_)
   · exact absurd h3 (by simp)
   (try simp only[BN]at h3);refine X0<|X0<|X3 ?_;refine X5<|(Xd [6,20,21] (fun(u:Nat)=>[(22,.v (li u))]) (fun u=>[]) (fun u=>u≤qs.length∧∀q∈qs.take u,inB S.length q=true) (fun u=>qs.length - u) (0:Nat) ⟨Nat.zero_le _,by simp⟩ ?_ ?_)
   · exact X6 (fun n=>n) []
   rintro k ⟨hk,hJ⟩;simp only[upS,X8,Xy]
   try simp only[X8,KN,Nat.reduceBEq,if_true,if_false,ins,Nat.reduceLT]
   refine X4 ?_;refine X0<|(X9 rfl (fun h9=>Xb ?_) (fun h9=>?_))
   · (try simp only[BN]at h9);have hlt:k<qs.length:=by simpa using h9
     obtain⟨q,he,_⟩:=Xq hlt;have hmem:=List.mem_of_getElem? he;have hqn:=hql q hmem;have hw1:=XA hlt (by omega);have hk1:k+1≤qs.length:=hlt;have hqe:=X5O he;have hbq:=fun x=>hbad q x hmem
     have hJ2:inB S.length q=true→∀q∈qs.take (k+1),inB S.length q=true:=by
      intro hi q' hq';rw[List.take_add_one,he]at hq';rcases List.mem_append.1 hq' with h|h
      · exact hJ q' h
      simp only[Option.toList,List.mem_singleton]at h;rw[h];exact hi
     clear hlt h9 he hmem hql hbad hall hJ;refine X0<|X5<|X0<|X3 ?_;refine X4 ?_;refine X5<|(Xd [6,20,21,22,26,27] (fun(u:Nat)=>[(28,.v (li u))]) (fun u=>[]) (fun u=>u≤q.length∧∀x∈q.take u,(0≤x∧x<S.length)) (fun u=>q.length - u) (0:Nat) ⟨Nat.zero_le _,by simp⟩ ?_ ?_)
     · exact X6 (fun n=>n) []
     rintro j ⟨hj,hJj⟩;simp only[upS,X8,Xy]
     try simp only[X8,KN,Nat.reduceBEq,if_true,if_false,ins,Nat.reduceLT]
     refine X4 ?_;refine X0<|(X9 rfl (fun h14=>Xb ?_) (fun h14=>?_))
     · (try simp only[BN]at h14);have hlt:j<q.length:=by simpa using h14
       obtain⟨x,he,_⟩:=Xq hlt;have hmem:=List.mem_of_getElem? he;have hwj:=XA hlt (by omega);have hj1:j+1≤q.length:=hlt;have hxe:=X4i he;have hbx:=hbq x hmem
       have hJj2:0≤x∧x<S.length→∀y∈q.take (j+1),(0≤y∧y<S.length):=by
        intro hi y hy;rw[List.take_add_one,he]at hy;rcases List.mem_append.1 hy with h|h
        · exact hJj y h
        simp only[Option.toList,List.mem_singleton]at h;rw[h];exact hi
       clear hlt h14 he hmem hbq hJj;refine X0<|X5<|X0<|X3 ?_;refine XO [6,20,21,22,26,27,28] (fun(z:Bool)=>[(42,.v (lb z))]) (fun(z:Bool)=>[]) (fun(z:Bool)=>z=decide (¬(0≤x∧x<S.length))) ?_ ?_
       · by_cases hx:x<0
         · refine Xn (by simp[*];rfl) ?_;exact⟨_,rfl,Xu (fun n=>n) [] rfl (by simp[upS,X8];omega) (by simp[upS]) (by simp[upS])⟩
         refine Xn (by simp[*];rfl) ?_;exact⟨_,rfl,Xu (fun n=>n) [] rfl (by simp[upS,X8];omega) (by simp[upS]) (by simp[upS])⟩
       rintro z hz;simp only[upS,X8,Xy]
       try simp only[X8,KN,Nat.reduceBEq,if_true,if_false,ins,Nat.reduceLT]
       refine(Xe rfl (fun h17=>?_) fun h17=>?_)
       · (try simp only[BN]at h17);have hzt:z=true:=by simpa using h17
         have hr:=hbx (of_decide_eq_true (hz.symm.trans hzt));subst hr;clear hz h17 hbx hJj2 hJ2;refine X4 ?_;exact Xh
       (try simp only[BN]at h17);have hzt:z=false:=by simpa using h17
       have hx:=hJj2 (by rw[hzt]at hz;simpa using hz.symm);clear hz h17 hbx hJj2;refine X3 ?_;exact⟨j+1,⟨hj1,hx⟩,by omega,X6 (fun n=>n) []⟩
     try simp only[BN]at h14
     have hjl:j=q.length:=by
      have:¬j<q.length:=by simpa using h14
      omega
     subst hjl;rw[List.take_length]at hJj;have hJ2:=hJ2 (List.all_eq_true.2 fun x hx=>by simpa using hJj x hx);clear h14 hJj;refine(Xg ?_);refine X3 ?_;exact⟨k+1,⟨hk1,hJ2⟩,by omega,X6 (fun n=>n) []⟩
   try simp only[BN]at h9
   have hkl:k=qs.length:=by
    have:¬k<qs.length:=by simpa using h9
    omega
   subst hkl;rw[List.take_length]at hJ;have hr:=hall hJ;subst hr;clear h9 hJ;refine(Xg ?_);refine X4 ?_;exact Xh
 simp only[if_neg hz]at cn⊢;obtain⟨vars,hats,body⟩:=f;simp only[aF,Fl.enc,List.map_cons,List.map_nil]at cn⊢;clear h hC hsl hsz;refine X7 Tryz.func43 ?_;simp only[Tryz.f43];refine X4 ?_;refine Xk [⟨false,.tup [.one (.c (.lit (.pointer none))),li C],none⟩] ?_ ?_
 · first|exact cn _|exact trivial|simpa[*]using cn _
 refine X0<|X0<|X3 ?_;refine(Xe rfl (fun h3=>?_) fun h3=>?_)
 · (try simp only[BN]at h3);refine X4 ?_;exact Xh
 exact absurd h3 (by simp[hz])
end Go.Proofs.YtppjennamodfdaaGreat

namespace Go.Proofs.YtppjennamodfdaaGreat
open Go Go.Hl
mutual
theorem XcX:∀(s:St),∀q∈flS s,q.term.nodes≤s.nodes
 | .mk o c v n t a b bs,q,h=>by
   simp only[flS,List.mem_cons,List.mem_append]at h;simp only[St.nodes];rcases h with rfl|h|h
   · simp only[St.term];omega
   · have:=X1Z a q h;omega
   have:=X1Z b q h;omega
theorem X1Z:∀(l:List St),∀q∈flL l,q.term.nodes≤Xl l
 |[],q,h=>by simp[flL]at h
 | s::l,q,h=>by
   simp only[flL,List.mem_append]at h;simp only[Xl];rcases h with h|h
   · have:=XcX s q h;omega
   have:=X1Z l q h;omega
end
mutual
theorem arS_in:∀(s:St) (o:Int) (p:Nat),-1≤o→∀a∈arS s o p,-1≤a∧(a=o∨a<p+szS s)
 | .mk _ _ _ _ _ x y _,o,p,ho,a,h=>by
   simp only[arS,List.mem_cons,List.mem_append]at h;simp only[szS];rcases h with rfl|h|h
   · exact⟨ho,.inl rfl⟩
   · have:=X5n x p (p+1) (by omega) a h;refine⟨this.1,.inr ?_⟩;rcases this.2 with h|h<;>omega
   have:=X5n y p (p+1+szL x) (by omega) a h;refine⟨this.1,.inr ?_⟩;rcases this.2 with h|h<;>omega
theorem X5n:∀(l:List St) (o:Int) (p:Nat),-1≤o→∀a∈arL l o p,-1≤a∧(a=o∨a<p+szL l)
 |[],o,p,_,a,h=>by simp[arL]at h
 | s ::l,o,p,ho,a,h=>by
   simp only[arL,List.mem_append]at h;simp only[szL];rcases h with h|h
   · have:=arS_in s o p ho a h;refine⟨this.1,?_⟩;rcases this.2 with h|h
     · exact .inl h
     exact .inr (by omega)
   have:=X5n l o (p+szS s) ho a h;refine⟨this.1,?_⟩;rcases this.2 with h|h
   · exact .inl h
   exact .inr (by omega)
end
theorem XbD {P:List Nat→Prop} (h0:P []) (n:Nat) (l:List (Nd×List Nat)) (h:∀p∈l,P p.2):∀r∈rdF n l,P r:=by
 unfold rdF
 have :∀(l:List (Nd×List Nat)) (rd:List (List Nat)),(∀p∈l,P p.2)→(∀r∈rd,P r)→∀r∈l.foldl (fun rd p=>if rdB p.1=true then rd.set p.1.a.toNat p.2 else rd) rd,P r:=by
  intro l
  induction l with
  |nil=>exact fun rd _ h=>h
  | cons p l ih=>
    intro rd hl hr;rw[List.foldl_cons];refine ih _ (fun q hq=>hl q (by simp[hq])) ?_;split
    · intro r hr';rcases List.mem_or_eq_of_mem_set hr' with h|rfl
      · exact hr r h
      exact hl p (by simp)
    exact hr
 exact this l _ h fun r hr=>by rw[(List.mem_replicate.1 hr).2];exact h0
theorem rcL_rows {N:List Nd} {steps:List St} {nv:Nat}:∀r∈rcL N steps nv,r.length≤steps.length+nv∧(∀d∈r,d<steps.length+nv)∧r.Nodup:=by
 intro r hr;simp only[rcL,List.mem_map]at hr;obtain⟨to,_,rfl⟩:=hr;refine⟨Nat.le_trans (List.length_filter_le _ _) (by simp),fun d hd=>?_,List.Pairwise.filter _ List.nodup_range⟩;simpa using(List.mem_filter.1 hd).1
theorem Xbo (f:Fl):∀r∈rdT f,r.length≤(flL f.body).length+f.vars.length∧(∀d∈r,d<(flL f.body).length+f.vars.length)∧r.Nodup:=
 XbD (P:=fun r=>r.length≤(flL f.body).length+f.vars.length∧(∀d∈r,d<(flL f.body).length+f.vars.length)∧r.Nodup) ⟨by simp,by simp,by simp⟩ _ _ fun p hp=>rcL_rows p.2 (List.of_mem_zip hp).2
theorem Wl {f:Fl} (h:Sm f):TabOK (flL f.body) (arL f.body (-1) 0) (rdT f) where
 hn:=by rw[XK];exact h.sz
 har:=by rw[XK,Zg]
 hrd:=by rw[XK];exact X0q _ _
 nod s hs:=by have:=X1Z f.body s hs;have:=h.nodes;omega
 rdl r hr:=by
  have:=Xbo f r hr;have h1:=h.sz;have h2:=h.vars;rw[XK]at this;exact⟨by omega,fun d hd=>by have:=this.2.1 d hd;omega⟩
noncomputable def Q5 (f:Fl):List (List Nat):=X2B (flL f.body) (arL f.body (-1) 0) (rdT f)
theorem Qy (f:Fl):(Q5 f).length=(flL f.body).length:=by simp[Q5,X2B]
theorem X0k {f:Fl} (h:Sm f):∀l∈Q5 f,l.length≤6000∧∀d∈l,d<(Q5 f).length:=by
 intro l hl;rw[Qy];simp only[Q5,X2B,List.mem_map]at hl;obtain⟨s,_,rfl⟩:=hl;have hT:=Wl h;unfold X7j;split
 · rename_i q a r hq ha hr;have h1:=(hT.rdl r (List.mem_of_getElem? hr)).1;have h2:=X5n f.body (-1) 0 (by omega) a (List.mem_of_getElem? ha);have h3:∀p:Nat→Bool,((X1s (flL f.body) q r).filter p).length≤5000:=fun p=>Nat.le_trans (List.length_filter_le _ _) (Nat.le_trans (List.length_filter_le _ _) h1);refine⟨?_,?_⟩
   · rw[List.length_append];have:=h3 fun d=>decide (d<(flL f.body).length);split
     · simp only[List.length_singleton];omega
     simp only[List.length_nil];omega
   intro d hd;rcases List.mem_append.1 hd with hd|hd
   · split at hd
     · rename_i h0;rw[List.mem_singleton.1 hd];have hl:=XK f.body;rcases h2.2 with h|h<;>omega
     cases hd
   exact of_decide_eq_true (List.mem_filter.1 hd).2
 exact⟨by simp,by simp⟩
theorem X10 {f:Fl} (h:Sm f):okLk (Q5 f):=fun l hl=>⟨by have:=(X0k h l hl).1;omega,(X0k h l hl).2⟩
theorem X3U (s:Nat):∀(l:List Nat) (M:List (List Nat)),(X0Q s l M).length=M.length
 |[],_=>rfl
 |d::l,M=>by simp[X0Q,X3U s l]
theorem X8v:∀(L:List (List Nat)) (s:Nat) (M:List (List Nat)),(X3v L s M).length=M.length
 |[],_,_=>rfl
 |l::L,s,M=>by rw[X3v,X8v,X3U]
@[simp] theorem X1w (L:List (List Nat)):(X2g L).length=L.length:=by simp[X2g,X8v]
theorem X6I (s:Nat):∀(l:List Nat) (M:List (List Nat)),(∀d∈l,d<M.length)→∀(x y:Nat),y∈(X0Q s l M)[x]?.getD []↔y∈M[x]?.getD []∨(y=s∧x∈l)
 |[],M,_,x,y=>by simp[X0Q]
 | d :: l,M,h,x,y=>by
   rw[X0Q,X6I s l _ (fun z hz=>by rw[List.length_set];exact h z (by simp[hz])),List.getElem?_set];by_cases hx:d=x
   · subst hx;have:=h d (by simp);simp only[if_true,this,Option.getD_some,List.mem_append,List.mem_cons,true_or,and_true,List.mem_singleton];constructor
     · rintro((h|h)|⟨h,_⟩)
       · exact .inl h
       · rcases h with h|h
         · exact .inr h
         cases h
       exact .inr h
     rintro(h|h)
     · exact .inl (.inl h)
     exact .inl (.inr (.inl h))
   simp only[hx,if_false,List.mem_cons];constructor
   · rintro(h|⟨h1,h2⟩)
     · exact .inl h
     exact .inr ⟨h1,.inr h2⟩
   rintro(h|⟨h1,rfl|h2⟩)
   · exact .inl h
   · exact absurd rfl hx
   exact .inr ⟨h1,h2⟩
theorem X9V:∀(L:List (List Nat)) (s:Nat) (M:List (List Nat)),(∀l∈L,∀d∈l,d<M.length)→∀(x y:Nat),y∈(X3v L s M)[x]?.getD []↔y∈M[x]?.getD []∨(s≤y∧x∈L[y - s]?.getD [])
 |[],s,M,_,x,y=>by simp[X3v]
 | l ::L,s,M,h,x,y=>by
   rw[X3v,X9V L (s+1) _ (fun l' hl' d hd=>by rw[X3U];exact h l' (by simp[hl']) d hd),X6I s l M (fun d hd=>h l (by simp) d hd)];by_cases hy:y=s
   · subst hy;have:¬y+1≤y:=by omega
     simp[this]
   by_cases hs:s+1≤y
   · obtain⟨k,rfl⟩:∃k,y=s+1+k:=⟨y - (s+1),by omega⟩;have e1:s+1+k - s=k+1:=by omega
     have e2:s+1+k - (s+1)=k:=by omega
     have e3:s≤s+1+k:=by omega
     simp[e1,e2,e3,hy]
   have e3:¬s≤y:=by omega
   simp[hs,e3,hy]
theorem X8B {L:List (List Nat)} (h:∀l∈L,∀d∈l,d<L.length) (x y:Nat):y∈(X2g L)[x]?.getD []↔x∈L[y]?.getD []:=by
 rw[X2g,X9V L 0 _ (by simpa using h)]
 have:((List.replicate L.length ([]:List Nat))[x]?.getD [])=[]:=by
  rw[List.getElem?_replicate];split<;>rfl
 rw[this];simp
theorem Xbb (s:Nat):∀(l:List Nat) (M:List (List Nat)) (b:Nat),lenB M b→lenB (X0Q s l M) (b+l.length)
 |[],M,b,h=>by simpa[X0Q]using h
 | d ::l,M,b,h=>by
   rw[X0Q]
   have:lenB (M.set d (M[d]?.getD []++[s])) (b+1):=by
    by_cases hd:d<M.length
    · have he:M[d]? =some M[d]:=by simp[hd]
      have:=h.set he s;rw[he];exact this
    rw[List.set_eq_of_length_le (by omega)];exact fun m hm=>by have:=h m hm;omega
   have h2:=Xbb s l _ _ this;simp only[List.length_cons]
   rwa [Nat.add_assoc,Nat.add_comm 1]at h2
theorem lenB_L:∀(L:List (List Nat)) (s:Nat) (M:List (List Nat)) (b:Nat),(∀l∈L,l.length≤6000)→lenB M b→lenB (X3v L s M) (b+6000*L.length)
 |[],s,M,b,_,h=>by simpa[X3v]using h
 | l::L,s,M,b,hl,h=>by
   rw[X3v];have h1:=lenB_L L (s+1) _ _ (fun l' hl'=>hl l' (by simp[hl'])) (Xbb s l M b h);have h2:=hl l (by simp);intro m hm;have:=h1 m hm;simp only[List.length_cons];omega
theorem XaM {L:List (List Nat)} (hn:L.length≤1000) (h:∀l∈L,l.length≤6000∧∀d∈l,d<L.length):okLk (X2g L):=by
 intro l hl;refine⟨?_,?_⟩
 · have:=lenB_L L 0 (List.replicate L.length []) 0 (fun l hl=>(h l hl).1) (fun m hm=>by rw[(List.mem_replicate.1 hm).2];exact Nat.zero_le _) l hl;omega
 intro d hd;obtain⟨x,hx⟩:=List.mem_iff_getElem?.1 hl;have h1:d∈(X2g L)[x]?.getD []:=by rw[hx];exact hd
 rw[X8B (fun l hl=>(h l hl).2)]at h1;rw[X1w];by_cases hdl:d<L.length
 · exact hdl
 rw[List.getElem?_eq_none (by omega)]at h1;cases h1
end Go.Proofs.YtppjennamodfdaaGreat

namespace Go.Proofs.YtppjennamodfdaaGreat
open Go Go.Hl
inductive Cl (L:List (List Nat)) (l:List Nat):Nat→Prop where
 |base {d:Nat}:d∈l→Cl L l d
 |step {x d:Nat}:Cl L l x→d∈L[x]?.getD []→Cl L l d
theorem addN_mem (t:List Nat) (v d:Nat):d∈X4w t v↔d∈t∨d=v:=by
 unfold X4w;split
 · rename_i h;constructor
   · exact .inl
   rintro(h1|rfl)
   · exact h1
   exact h
 simp
theorem X0c (l:List Nat):∀(t:List Nat) (d:Nat),d∈addAll l t↔d∈t∨d∈l:=by
 induction l with
 |nil=>intro t d;simp[addAll]
 |cons v l ih=>intro t d;rw[addAll,ih,addN_mem,List.mem_cons,or_assoc]
theorem addN_pre (t:List Nat) (v:Nat):t<+:X4w t v:=by
 unfold X4w;split
 · exact List.prefix_refl _
 exact List.prefix_append _ _
theorem Xah (l:List Nat):∀t,t<+:addAll l t:=by
 induction l with
 |nil=>intro t;exact List.prefix_refl _
 |cons v l ih=>intro t;exact(addN_pre t v).trans (ih _)
theorem Xbk {a b:List Nat} (h:a<+:b) {i v:Nat} (hi:a[i]? =some v):b[i]? =some v:=by
 obtain⟨c,rfl⟩:=h;rw[List.getElem?_append_left (List.getElem?_eq_some_iff.1 hi).1];exact hi
theorem Xbi {L:List (List Nat)} {n:Nat} {l0:List Nat} (hL:∀l∈L,∀d∈l,d<n):∀(k i:Nat) (t:List Nat),k+i=n+1→i≤t.length→Nb n t→
  (∀j v,j<i→t[j]? =some v→∀d∈L[v]?.getD [],d∈t)→(∀d∈t,Cl L l0 d)→(∀d∈l0,d∈t)→
  Nb n (wl L k i t)∧∀d,d∈wl L k i t↔Cl L l0 d
 |0,i,t,hk,hi,hN,_,_,_=>by have:=hN.len;omega
 | k + 1,i,t,hk,hi,hN,hc,hs,hl=>by
   unfold wl;split
   · rename_i v hv
     have hlv:∀d∈L[v]?.getD [],d<n:=by
      intro d hd;cases e:L[v]? with
      |none=>rw[e]at hd;cases hd
      |some l=>rw[e]at hd;exact hL l (List.mem_of_getElem? e) d hd
     have hp:=Xah (L[v]?.getD []) t;have hil:i<t.length:=(List.getElem?_eq_some_iff.1 hv).1;have hle:=XaL (L[v]?.getD []) t;refine Xbi hL k (i+1) _ (by omega) (by omega) (Nb.addAll _ hlv hN) ?_ ?_ fun d hd=>(X0c _ _ _).2 (.inl (hl d hd))
     · intro j u hj hu d hd;rw[X0c];by_cases hji:j=i
       · subst hji;rw[Xbk hp hv]at hu;cases hu;exact .inr hd
       refine .inl (hc j u (by omega) ?_ d hd);have:t[j]? =some t[j]:=by rw[List.getElem?_eq_getElem (by omega)]
       rw[Xbk hp this]at hu;rw[this,hu]
     intro d hd;rcases(X0c _ _ _).1 hd with h|h
     · exact hs d h
     exact .step (hs v (List.mem_of_getElem? hv)) h
   rename_i hv
   have hil:t.length≤i:=by
    by_cases h:i<t.length
    · rw[List.getElem?_eq_getElem h]at hv;cases hv
    omega
   refine⟨hN,fun d=>⟨hs d,fun h=>?_⟩⟩
   induction h with
   |base h=>exact hl _ h
   | step _ h ih=>
     obtain⟨j,hj⟩:=List.mem_iff_getElem?.1 ih;exact hc j _ (by have:=(List.getElem?_eq_some_iff.1 hj).1;omega) hj _ h
theorem We {L:List (List Nat)} {l0:List Nat} (hL:okLk L) (h0:∀d∈l0,d<L.length):Nb L.length (Zh L l0)∧∀d,d∈Zh L l0↔Cl L l0 d:=by
 unfold Zh;refine Xbi (fun l hl=>(hL l hl).2) _ _ _ rfl (Nat.zero_le _) (Nb.addAll _ h0 (Nb.nil _)) (fun j v hj=>absurd hj (by omega)) (fun d hd=>?_) fun d hd=>(X0c _ _ _).2 (.inr hd);rcases(X0c _ _ _).1 hd with h|h
 · cases h
 exact .base h
def QL (q:List Int):List Nat:=q.map Int.toNat
theorem ZY {q:List Int} (h:∀x∈q,0≤x):Xj q=XB (QL q):=by
 unfold Xj XB QL;rw[List.map_map];refine List.map_congr_left fun x hx=>?_;have:=h x hx;simp only[Function.comp,iC];rw[Int.toNat_of_nonneg this]
theorem X5P {f:Fl} {qs:List (List Int)} (h:WN f qs=0):Qb f=0∧∀q∈qs,∀x∈q,0≤x∧x<(flL f.body).length:=by
 unfold WN at h;split at h
 · rename_i hc;split at h
   · rename_i hb;refine⟨hc,fun q hq x hx=>?_⟩;have:=List.all_eq_true.1 (List.all_eq_true.1 hb q hq) x hx;simpa using this
   exact absurd h (by decide)
 rename_i hc;exact absurd h hc
theorem X4x {f:Fl} {qs:List (List Int)} (h:WN f qs=0) {q:List Int} (hq:q∈qs):(∀x∈q,0≤x)∧∀d∈QL q,d<(Q5 f).length:=by
 have:=(X5P h).2 q hq;refine⟨fun x hx=>(this x hx).1,fun d hd=>?_⟩;obtain⟨x,hx,rfl⟩:=List.mem_map.1 hd;have:=this x hx;rw[Qy];omega
noncomputable def bwL (f:Fl) (q:List Int):List Nat:=X4o (Q5 f).length (Zh (Q5 f) (QL q))
noncomputable def fwL (f:Fl) (q:List Int):List Nat:=X4o (Q5 f).length (Zh (X2g (Q5 f)) (QL q))
noncomputable def slR (C:Int) (l:List Nat):RV:=.tup [.one (.c (if C=0 then .sl 1 (XB l)else .lit XY)),li C]
set_option maxHeartbeats 8000000 in
theorem X87 (f:Fl) (h:Sm f) (q:List Int) (hq:q.length≤100000) (d:Nat):Con Tryz.prog 12 false [aF f,.one (.c (.sl 1 (Xj q)))] (slR (WN f [q]) (bwL f q)) none d:=by
 have ca:=ZU f h [q] (by simp) (fun q' hq'=>by rw[List.mem_singleton.1 hq'];omega);have cd:=X04 f _ _ _ (Wl h);have hd0:X2B (flL f.body) (arL f.body (-1) 0) (rdT f)=Q5 f:=rfl;rw[hd0]at cd;have hok:=X10 h;have hDl:(Q5 f).length≤1000:=by rw[Qy];exact(Wl h).hn
 obtain⟨C,hC⟩:∃x,WN f [q]=x:=⟨_,rfl⟩;have hask:=fun hz=>@X4x f [q] (hC.trans hz) q (by simp);unfold askT at ca;simp only[X41,List.map_cons,List.map_nil]at ca;unfold slR bwL;rw[hC]at ca⊢;obtain⟨R,hR⟩:∃x,X4o (Q5 f).length (Zh (Q5 f) (QL q))=x:=⟨_,rfl⟩;rw[hR];obtain⟨T,hT⟩:∃x,X6f f=x:=⟨_,rfl⟩;have hT2:ZH f (flL f.body) (arL f.body (-1) 0) (rdT f)=T:=hT;rw[hT]at ca;rw[hT2]at cd;obtain⟨D,hD⟩:∃x,Q5 f=x:=⟨_,rfl⟩;rw[hD]at cd hok hDl hask hR;clear h hC hT hT2 hd0 hD;by_cases hz:C=0
 · subst hz;obtain⟨h0,hlt⟩:=hask rfl;have cc:=Z6 D (QL q) (by omega) hok (by simp only[QL,List.length_map];omega) hlt;have hN:=(We hok hlt).1;have cs:=X2F D.length _ (by omega) hN;rw[hR]at cs;rw[ZY h0]at ca⊢;simp only[if_true]at ca⊢;clear hask hR h0 hlt hN hok;obtain⟨vars,hats,body⟩:=f;simp only[aF,Fl.enc,List.map_cons,List.map_nil]at ca⊢;refine X7 Tryz.func12 ?_;simp only[Tryz.f12];refine X4 ?_;refine X0<|(QQ 3 [] [⟨false,.tup [.one (.c T),li 0],none⟩] (by simp[*];rfl) trivial (XR 11 rfl) (by simp[*];first|exact⟨rfl,Iff.rfl⟩|exact⟨rfl,trivial⟩|rfl) ?_ ?_)
   · first|exact ca _|simpa using ca _
   refine X0<|X0<|X3 ?_;refine(Xe rfl (fun h3=>?_) fun h3=>?_)
   · exact absurd h3 (by simp)
   (try simp only[BN]at h3);refine Xk [⟨false,.v (.one (.c (.sl 1 (Q7 D)))),none⟩,⟨false,.v (.one (.c (.mp (mpI (Zh D (QL q)))))),none⟩,⟨false,.v (.one (.c (.sl 1 (XB R)))),none⟩] ?_ ?_
   · first|exact⟨cd _,cc _,cs _⟩|exact trivial|(repeat' first|exact trivial|exact cd _|exact cc _|exact cs _|apply And.intro)
   exact Xh
 simp only[if_neg hz]at ca⊢;clear hask hok hR cd;obtain⟨vars,hats,body⟩:=f;simp only[aF,Fl.enc,List.map_cons,List.map_nil]at ca⊢;refine X7 Tryz.func12 ?_;simp only[Tryz.f12];refine X4 ?_;refine X0<|(QQ 3 [] [⟨false,.tup [.one (.c (.lit (.pointer none))),li C],none⟩] (by simp[*];rfl) trivial (XR 11 rfl) (by simp[*];first|exact⟨rfl,Iff.rfl⟩|exact⟨rfl,trivial⟩|rfl) ?_ ?_)
 · first|exact ca _|simpa using ca _
 refine X0<|X0<|X3 ?_;refine(Xe rfl (fun h3=>?_) fun h3=>?_)
 · (try simp only[BN]at h3);refine X4 ?_;exact Xh
 exact absurd h3 (by simp[hz])
end Go.Proofs.YtppjennamodfdaaGreat

namespace Go.Proofs.YtppjennamodfdaaGreat
open Go Go.Hl
theorem X4a {vars:List Vr} {nh:Nat}:∀(l:List St) (top:Bool),ssC vars nh l top=0→∀q∈flL l,∃last,shB vars nh q.do_ q.var q.n q.term q.then_.length q.else_.length q.bounds last=true
 |[],_,_,q,hq=>by simp[flL]at hq
 | .mk d c v n t a b bs::l,top,h,q,hq=>by
   have hs:shB vars nh d v n t a.length b.length bs (top&&l.isEmpty)=true:=by
    simp only[ssC]at h;split at h
    · rename_i h0;unfold stC at h0;split at h0
      · cases h0
      rename_i hs;simpa using hs
    rename_i h0;exact absurd h h0
   have hr:ssC vars nh a false=0∧ssC vars nh b false=0∧ssC vars nh l top=0:=by
    simp only[ssC]at h;split at h
    · split at h
      · split at h
        · rename_i ha hb;exact⟨ha,hb,h⟩
        rename_i hb;exact absurd h hb
      rename_i ha;exact absurd h ha
    rename_i h0;exact absurd h h0
   simp only[flL,flS,List.cons_append,List.mem_cons,List.mem_append]at hq;rcases hq with rfl|(hq|hq)|hq
   · exact⟨_,hs⟩
   · exact X4a a false hr.1 q hq
   · exact X4a b false hr.2.1 q hq
   exact X4a l top hr.2.2 q hq
theorem sh_hat {vars:List Vr} {nh:Nat} {q:St} {last:Bool} (h:shB vars nh q.do_ q.var q.n q.term q.then_.length q.else_.length q.bounds last=true) (h5:q.do_=5):0≤q.n∧q.n<nh:=by
 unfold shB at h;rw[h5]at h;simp only[show ¬(5:Int)=0 by decide,show ¬(5:Int)=1 by decide,show ¬(5:Int)=2 by decide,show ¬(5:Int)=3 by decide,show ¬(5:Int)=4 by decide,if_false,if_true,Bool.and_eq_true,decide_eq_true_eq]at h;exact⟨h.1.1.1.2,h.1.1.2⟩
def Ze:List Int→List Int→List Int
 |[],m=>m
 |v::l,m=>Ze l (X2P m v)
theorem addK_mem (m:List Int) (v x:Int):x∈X2P m v↔x∈m∨x=v:=by
 unfold X2P;split
 · rename_i h;constructor
   · exact .inl
   rintro(h1|rfl)
   · exact h1
   exact h
 simp
theorem addK_nd {m:List Int} (h:m.Nodup) (v:Int):(X2P m v).Nodup:=by
 unfold X2P;split
 · exact h
 rename_i hm;rw[List.nodup_append];exact⟨h,by simp,fun a ha b hb=>by rw[List.mem_singleton.1 hb];rintro rfl;exact hm ha⟩
theorem addK_len (m:List Int) (v:Int):(X2P m v).length≤m.length+1:=by
 unfold X2P;split
 · omega
 simp
theorem Zx (l:List Int):∀(m:List Int) (x:Int),x∈Ze l m↔x∈m∨x∈l:=by
 induction l with
 |nil=>intro m x;simp[Ze]
 |cons v l ih=>intro m x;rw[Ze,ih,addK_mem,List.mem_cons,or_assoc]
theorem X3t (l:List Int):∀{m:List Int},m.Nodup→(Ze l m).Nodup:=by
 induction l with
 |nil=>intro m h;exact h
 |cons v l ih=>intro m h;exact ih (addK_nd h v)
theorem X45 (l:List Int):∀(m:List Int),(Ze l m).length≤m.length+l.length:=by
 induction l with
 |nil=>intro m;exact Nat.le_refl _
 |cons v l ih=>intro m;have:=ih (X2P m v);have:=addK_len m v;simp only[Ze,List.length_cons];omega
mutual
def tmV:Tm→List Int
 | .mk o n ks=>(if o=24 then [n] else [])++X3m ks
def X3m:List Tm→List Int
 |[]=>[]
 |t::l=>tmV t++X3m l
end
theorem X6E (a b m:List Int):Ze (a++b) m=Ze b (Ze a m):=by
 induction a generalizing m with
 |nil=>rfl
 |cons v a ih=>simp[Ze,ih]
mutual
theorem X5J:∀(t:Tm) (m:List Int),vrT t m=Ze (tmV t) m
 | .mk o n ks,m=>by
   rw[vrT,tmV,X6E,Xbd ks];split<;>rfl
theorem Xbd:∀(l:List Tm) (m:List Int),vrTs l m=Ze (X3m l) m
 |[],_=>rfl
 |t::l,m=>by rw[vrTs,X3m,X6E,X5J t,Xbd l]
end
mutual
theorem X7B:∀t:Tm,(tmV t).length≤t.nodes
 | .mk o n ks=>by
   have:=X9W ks;simp only[tmV,List.length_append,Tm.nodes];split
   · simp only[List.length_singleton];omega
   simp only[List.length_nil];omega
theorem X9W:∀l:List Tm,(X3m l).length≤Qr l
 |[]=>by simp[X3m]
 |t::l=>by have:=X7B t;have:=X9W l;simp only[X3m,List.length_append,Qr];omega
end
def X2x (n:Nat) (l:List Nat):List Int:=(l.filter fun d=>decide (n≤d)).map fun d:Nat=>(d:Int) - n
def hatV (hats:List Ht) (n:Nat):List Int:=match hats[n]? with
 |some h=>tmV h.term
 |none=>[]
def ndA (f:Fl) (steps:List St) (rd:List (List Nat)) (s:Nat):List Int:=match steps[s]?,rd[s]? with
 |some q,some l=>X2x steps.length (X1s steps q l)++(if q.do_=5 then hatV f.hats q.n.toNat else [])
 |_,_=>[]
noncomputable def neA (f:Fl) (q:List Int):List Int:=Ze ((Zh (Q5 f) (QL q)).flatMap (ndA f (flL f.body) (rdT f))) []
noncomputable def neL (f:Fl) (q:List Int):List Int:=(neA f q).mergeSort fun x y=>decide (x≤y)
theorem entL_nil (n:Nat):X2x n []=[]:=rfl
theorem XbX (n d:Nat) (l:List Nat):X2x n (d::l)=if n≤d then((d:Int) - n)::X2x n l else X2x n l:=by
 unfold X2x;rw[List.filter_cons];by_cases h:n≤d
 · simp[h]
 simp[h]
theorem X9f (n:Nat) (l:List Nat):(X2x n l).length≤l.length:=by
 unfold X2x;rw[List.length_map];exact List.length_filter_le _ _
theorem X9O (steps:List St) (q:St) (l:List Nat):(X1s steps q l).length≤l.length:=List.length_filter_le _ _
end Go.Proofs.YtppjennamodfdaaGreat

namespace Go.Proofs.YtppjennamodfdaaGreat
open Go Go.Hl
def Inp.enc (i:Inp):List CD:=[.sl 1 (Xj i.s),.sl 1 (Xj i.p),.sl 1 (Xj i.r)]
def X1c (l:List Inp):List (List CD):=l.map Inp.enc
@[simp] theorem encNms_app (a b:List Inp):X1c (a++b)=X1c a++X1c b:=by simp[X1c]
@[simp] theorem encNms_len (l:List Inp):(X1c l).length=l.length:=by simp[X1c]
@[simp] theorem get_encNm (l:List Inp) (i:Nat):(X1c l)[i]? =l[i]?.map Inp.enc:=by simp[X1c]
abbrev lN (l:List Inp):TV:=.one (.c (.sl 3 (X1c l)))
end Go.Proofs.YtppjennamodfdaaGreat

namespace Go.Proofs.YtppjennamodfdaaGreat
open Go Go.Hl
theorem St.lind {P:List St→Prop} (nil:P []) (cons:∀d c v n t a b bs l,P a→P b→P l→P (.mk d c v n t a b bs::l)):∀l,P l:=by
 apply St.lists;intro l ih
 induction l with
 |nil=>exact nil
 | cons s l ihl=>
   have h:=ih s (List.mem_cons_self ..);have h2:=ihl fun s hs=>ih s (List.mem_cons_of_mem _ hs);obtain⟨d,c,v,n,t,a,b,bs⟩:=s;exact cons d c v n t a b bs l h.1 h.2 h2
def Sub {α:Type} (N:List α) (k:Nat) (l:List α):Prop:=∀i x,l[i]? =some x→N[k+i]? =some x
theorem Sub.cons {α:Type} {N:List α} {k:Nat} {x:α} {l:List α} (h:Sub N k (x::l)):N[k]? =some x∧Sub N (k+1) l:=
 ⟨h 0 x rfl,fun i y hy=>by have:=h (i+1) y (by simpa using hy);rwa [show k+(i+1)=k+1+i by omega]at this⟩
theorem Sub.app {α:Type} {N:List α} {k:Nat} {a b:List α} (h:Sub N k (a++b)):Sub N k a∧Sub N (k+a.length) b:=by
 refine⟨fun i x hx=>h i x ?_,fun i x hx=>?_⟩
 · have hi:=(List.getElem?_eq_some_iff.1 hx).1;rw[List.getElem?_append_left hi,hx]
 have:=h (a.length+i) x (by rw[List.getElem?_append_right (by omega),show a.length+i - a.length=i by omega,hx])
 rwa [show k+(a.length+i)=k+a.length+i by omega]at this
theorem Sub.of_self {α:Type} (l:List α):Sub l 0 l:=fun i x hx=>by rwa [Nat.zero_add]
def updD (D:Nat→Nat) (v o:Nat):Nat→Nat:=fun x=>if x=v then o else D x
section
variable {vars:List Vr} {hv:List Int} {kO:Nat→Bool}
def Qt (lo hi:Nat) (x y:Sta×(Nat→Nat)):Prop:=∀v:Nat,(y.2 v=x.2 v∧y.1.vals[v]? =x.1.vals[v]?)∨(lo≤y.2 v∧y.2 v<hi)
theorem Qt.refl (lo hi:Nat) (x:Sta×(Nat→Nat)):Qt lo hi x x:=fun _=>.inl ⟨rfl,rfl⟩
theorem Qt.trans {lo hi:Nat} {x y z:Sta×(Nat→Nat)} (h:Qt lo hi x y) (h2:Qt lo hi y z):Qt lo hi x z:=fun v=>by
 rcases h2 v with⟨h3,h4⟩|h3
 · rcases h v with⟨h5,h6⟩|h5
   · exact .inl ⟨h3.trans h5,h4.trans h6⟩
   exact .inr ⟨by omega,by omega⟩
 exact .inr h3
theorem Qt.tick {lo hi:Nat} {x y:Sta×(Nat→Nat)} {c:Int} (h:Qt lo hi (tick x.1 c,x.2) y):Qt lo hi x y:=h
end
end Go.Proofs.YtppjennamodfdaaGreat

namespace Go.Proofs.YtppjennamodfdaaGreat
open Go Go.Hl
def entN (l:List St) (k after:Nat):Nat:=if l=[] then after else k
structure Gd (N:List Nd) (steps:List St) (nv k:Nat) (D:Nat→Nat):Prop where
 all:∀v,v<nv→Rc N steps nv k (D v)∧Qx steps (D v)=(v:Int)
section
variable {N:List Nd} {steps:List St} {nv:Nat} {vars:List Vr} {hv:List Int} {kO:Nat→Bool}
theorem Gd.pass {k to:Nat} {D:Nat→Nat} {x:Nd} (h:Gd N steps nv k D) (hx:N[k]? =some x) (h0:x.k≠0) (hs:ZM x to) (ha:Qp steps x=false):Gd N steps nv to D:=
 ⟨fun v hv=>⟨.pass hx h0 hs (h.all v hv).1 (by rw[ha];rfl),(h.all v hv).2⟩⟩
theorem Gd.asg {k to:Nat} {D:Nat→Nat} {x:Nd} {v:Int} (h:Gd N steps nv k D) (hx:N[k]? =some x) (h0:x.k≠0) (hs:ZM x to) (ha:Qp steps x=true) (hv0:0≤v) (hva:X0I steps x=v) (hvo:Qx steps x.a.toNat=v):Gd N steps nv to (updD D v.toNat x.a.toNat):=by
 refine⟨fun y hy=>?_⟩;unfold updD;by_cases e:y=v.toNat
 · rw[if_pos e];exact⟨.gen hx h0 hs ha,by rw[hvo,e];omega⟩
 rw[if_neg e];obtain⟨h1,h2⟩:=h.all y hy;refine⟨.pass hx h0 hs h1 ?_,h2⟩;rw[h2,hva];have:(y:Int)≠v:=by omega
 simp[this]
structure Lies (N:List Nd) (steps:List St) (vars:List Vr) (nh:Nat) (l:List St) (o k after:Nat):Prop where
 g:gL l=true
 wf:wfL vars nh l=true
 nd:Sub N k (Wv l o k after)
 st:Sub steps o (flL l)
structure Lie1 (N:List Nd) (steps:List St) (vars:List Vr) (nh:Nat) (d c v n:Int) (t:Tm) (a b:List St) (bs:List Int) (o k mid:Nat):Prop where
 g:gS (.mk d c v n t a b bs)=true
 wf:wfS vars nh (.mk d c v n t a b bs)=true
 nd:Sub N k (X1o (.mk d c v n t a b bs) o k mid)
 st:steps[o]? =some (.mk d c v n t a b bs)
 sa:Sub steps (o+1) (flL a)
 sb:Sub steps (o+1+szL a) (flL b)
variable {nh:Nat}
theorem Lies.cons {d c v n:Int} {t:Tm} {a b:List St} {bs:List Int} {l:List St} {o k after:Nat} (h:Lies N steps vars nh (.mk d c v n t a b bs::l) o k after):
  Lie1 N steps vars nh d c v n t a b bs o k (entN l (k+wdS (.mk d c v n t a b bs)) after)∧Lies N steps vars nh l (o+(1+szL a+szL b)) (k+wdS (.mk d c v n t a b bs)) after:=by
 obtain⟨hg,hw,hn,hs⟩:=h;simp only[gL,Bool.and_eq_true]at hg;simp only[wfL,Bool.and_eq_true]at hw;simp only[Wv]at hn;simp only[flL]at hs;obtain⟨n1,n2⟩:=hn.app;obtain⟨s1,s2⟩:=hs.app;rw[X2Y _ _ _ _ hg.1]at n2;rw[Xbp]at s2;rw[XaA]at s1;simp only[szS,St.then_,St.else_]at s1 s2 n2;obtain⟨s3,s4⟩:=s1.cons;obtain⟨s5,s6⟩:=s4.app;rw[XK]at s6;refine⟨⟨hg.1,hw.1,n1,s3,s5,s6⟩,hg.2,hw.2,?_,s2⟩;have:((o:Int)+((1+szL a+szL b:Nat):Int))=((o+(1+szL a+szL b):Nat):Int):=by omega
 rw[←this];exact n2
theorem Lie1.loop {d c v n:Int} {t:Tm} {a b:List St} {bs:List Int} {o k mid:Nat} (h:Lie1 N steps vars nh d c v n t a b bs o k mid) (hd:d=4):
  (∃x,N[k]? =some x∧x.k=4∧ZM x (k+1))∧(∃x,N[k+1]? =some x∧x.k=5∧x.a=o∧ZM x (entN a (k+2) (k+1))∧ZM x mid)∧Lies N steps vars nh a (o+1) (k+2) (k+1)∧b=[]:=by
 obtain⟨hg,hw,hn,_,hsa,hsb⟩:=h;simp only[gS,Bool.and_eq_true,Bool.or_eq_true,decide_eq_true_eq,List.isEmpty_iff]at hg;simp only[wfS,Bool.and_eq_true]at hw;unfold X1o at hn;rw[if_neg (by omega),if_pos hd]at hn;obtain⟨h1,h2⟩:=hn.cons;obtain⟨h3,h4⟩:=h2.cons;refine⟨⟨_,h1,rfl,?_⟩,⟨_,h3,rfl,rfl,?_,?_⟩,⟨hg.2.1,hw.2.2.2.2.2.1,h4,hsa⟩,?_⟩
 · simp[ZM]
 · by_cases e:a=[]<;>simp[ZM,entN,e]
 · simp[ZM]
 rcases hg.1 with(h|h)|h
 · omega
 · exact h.2
 exact h.2
theorem Lie1.var {d c v n:Int} {t:Tm} {a b:List St} {bs:List Int} {o k mid:Nat} (h:Lie1 N steps vars nh d c v n t a b bs o k mid) (hd:d=0∨d=5):0≤v∧v.toNat<vars.length:=by
 have hw:=h.wf;simp only[wfS,Bool.and_eq_true,Bool.or_eq_true,decide_eq_true_eq]at hw;have hl:=hw.2.1.resolve_left fun h=>by omega
 obtain⟨h0,w,hw2⟩:=XbK hl;exact⟨h0,(List.getElem?_eq_some_iff.1 hw2).1⟩
end
theorem lay_nums:∀l:List St,gL l=true→∀(p k after:Nat),(((Wv l p k after).filter rdB).map (·.a)).Pairwise (· < ·)∧∀z∈((Wv l p k after).filter rdB).map (·.a),(p:Int)≤z∧z<p+szL l:=by
 apply St.lind
 · intro _ p k after;simp[Wv]
 intro d c v n t a b bs l ia ib il hg p k after;simp only[gL,gS,Bool.and_eq_true]at hg;obtain⟨⟨hs,ga,gb⟩,gl⟩:=hg;have e1:((p:Int)+1)=((p+1:Nat):Int):=by omega
 have e2:(((p+1:Nat):Int)+(szL a:Int))=((p+1+szL a:Nat):Int):=by omega
 have e3:((p:Int)+(szS (.mk d c v n t a b bs):Int))=((p+(1+szL a+szL b):Nat):Int):=by simp only[szS];omega
 have hst:∀after,(((X1o (.mk d c v n t a b bs) p k after).filter rdB).map (·.a)).Pairwise (· < ·)∧∀z∈((X1o (.mk d c v n t a b bs) p k after).filter rdB).map (·.a),(p:Int)≤z∧z<p+(1+szL a+szL b:Nat):=by
  intro after;unfold X1o;rw[e1,e2];split
  · obtain⟨a1,a2⟩:=ia ga (p+1) (k+1) after;obtain⟨b1,b2⟩:=ib gb (p+1+szL a) (k+1+wdL a) after;have hr:rdB ⟨3,p,if a=[] then after else k+1,if b=[] then after else k+1+wdL a⟩=true:=by simp[rdB]
    rw[List.filter_cons_of_pos hr];simp only[List.filter_append,List.map_cons,List.map_append];refine⟨List.pairwise_cons.2 ⟨fun z hz=>?_,List.pairwise_append.2 ⟨a1,b1,fun x hx y hy=>?_⟩⟩,fun z hz=>?_⟩
    · rcases List.mem_append.1 hz with h|h
      · have:=a2 z h;omega
      have:=b2 z h;omega
    · have:=a2 x hx;have:=b2 y hy;omega
    rcases List.mem_cons.1 hz with rfl|hz
    · omega
    rcases List.mem_append.1 hz with h|h
    · have:=a2 z h;omega
    have:=b2 z h;omega
  split
  · obtain⟨a1,a2⟩:=ia ga (p+1) (k+2) (k+1);have hr:¬rdB ⟨4,p,(k:Int)+1,-1⟩=true:=by simp[rdB]
    have hr2:rdB ⟨5,p,if a=[] then(k:Int)+1 else(k:Int)+2,after⟩=true:=by simp[rdB]
    rw[List.filter_cons_of_neg hr,List.filter_cons_of_pos hr2];simp only[List.map_cons];refine⟨List.pairwise_cons.2 ⟨fun z hz=>?_,a1⟩,fun z hz=>?_⟩
    · have:=a2 z hz;omega
    rcases List.mem_cons.1 hz with rfl|hz
    · omega
    have:=a2 z hz;omega
  have hr:rdB ⟨2,p,after,-1⟩=true:=by simp[rdB]
  rw[List.filter_cons_of_pos hr];simp only[List.filter_nil,List.map_cons,List.map_nil];refine⟨List.pairwise_singleton ..,fun z hz=>?_⟩;rw[List.mem_singleton.1 hz];omega
 obtain⟨s1,s2⟩:=hst (if l=[] then after else k+wdS (.mk d c v n t a b bs));obtain⟨l1,l2⟩:=il gl (p+(1+szL a+szL b)) (k+wdS (.mk d c v n t a b bs)) after;simp only[Wv];rw[e3];simp only[List.filter_append,List.map_append,szL,szS];refine⟨List.pairwise_append.2 ⟨s1,l1,fun x hx y hy=>?_⟩,fun z hz=>?_⟩
 · have:=s2 x hx;have:=l2 y hy;omega
 rcases List.mem_append.1 hz with h|h
 · have:=s2 z h;omega
 have:=l2 z h;omega
theorem grN_nums {l:List St} (hg:gL l=true):(((grN l).filter rdB).map (·.a)).Pairwise (· < ·):=by
 unfold grN;have h0:∀x:Int,¬rdB ⟨0,-1,x,-1⟩=true:=fun x=>by simp[rdB]
 have h1:¬rdB ⟨1,-1,-1,-1⟩=true:=by simp[rdB]
 rw[List.filter_cons_of_neg (h0 _),List.filter_append,List.filter_cons_of_neg h1,List.filter_nil,List.append_nil];exact(lay_nums l hg 0 1 (1+wdL l)).1
end Go.Proofs.YtppjennamodfdaaGreat

namespace Go.Proofs.YtppjennamodfdaaGreat
open Go Go.Hl
def toI (l:List Nat):List Int:=l.map Int.ofNat
theorem X9x (l:List Nat):XB l=Xj (toI l):=X3O l
theorem mem_toI (l:List Nat) (s:Int):s∈toI l↔0≤s∧s.toNat∈l:=by
 simp only[toI,List.mem_map];constructor
 · rintro⟨n,hn,rfl⟩;exact⟨Int.natCast_nonneg n,by simpa using hn⟩
 rintro⟨h,hs⟩;exact⟨_,hs,Int.toNat_of_nonneg h⟩
theorem Xbg (l:List Nat):(toI l).length=l.length:=by simp[toI]
noncomputable def slF (n:Nat) (L:List (List Nat)) (q:List Int):List Nat:=X4o n (Zh L (QL q))
theorem bwL_sl (f:Fl) (q:List Int):bwL f q=slF (Q5 f).length (Q5 f) q:=rfl
structure Lk (n:Nat) (L:List (List Nat)):Prop where
 ok:okLk L
 len:L.length=n
theorem lk_bw {f:Fl} (h:Sm f):Lk (Q5 f).length (Q5 f):=⟨X10 h,rfl⟩
variable {n:Nat} {L:List (List Nat)}
def okQ (n:Nat) (q:List Int):Prop:=∀x∈q,0≤x∧x<n
theorem okQ.nat {q:List Int} (h:okQ n q):∀d∈QL q,d<n:=by
 intro d hd;obtain⟨x,hx,rfl⟩:=List.mem_map.1 hd;have:=h x hx;omega
theorem okQ.app {p q:List Int} (h:okQ n p) (h2:okQ n q):okQ n (p++q):=fun x hx=>(List.mem_append.1 hx).elim (h x) (h2 x)
theorem Cl.mono {l m:List Nat} (h:∀d∈l,Cl L m d) {d:Nat} (hd:Cl L l d):Cl L m d:=by
 induction hd with
 |base h1=>exact h _ h1
 |step _ h2 ih=>exact .step ih h2
theorem X5j:∀{l m:List Int},l.Pairwise (· < ·)→m.Pairwise (· < ·)→(∀x,x∈l↔x∈m)→l=m
 |[],[],_,_,_=>rfl
 |[],y::m,_,_,h=>absurd ((h y).2 (List.mem_cons_self ..)) (by simp)
 |x::l,[],_,_,h=>absurd ((h x).1 (List.mem_cons_self ..)) (by simp)
 | x ::l,y::m,hl,hm,h=>by
   rw[List.pairwise_cons]at hl hm
   have hxy:x=y:=by
    have h1:=(h x).1 (List.mem_cons_self ..);have h2:=(h y).2 (List.mem_cons_self ..);rcases List.mem_cons.1 h1 with h1|h1
    · exact h1
    rcases List.mem_cons.1 h2 with h2|h2
    · exact h2.symm
    have:=hm.1 x h1;have:=hl.1 y h2;omega
   subst hxy;rw[X5j hl.2 hm.2 fun z=>?_];constructor
   · intro hz;rcases List.mem_cons.1 ((h z).1 (List.mem_cons_of_mem _ hz))with h1|h1
     · have:=hl.1 z hz;omega
     exact h1
   intro hz;rcases List.mem_cons.1 ((h z).2 (List.mem_cons_of_mem _ hz))with h1|h1
   · have:=hm.1 z hz;omega
   exact h1
theorem XcU (l:List Int):(l.mergeSort fun x y=>decide (x≤y)).Pairwise (· ≤ ·):=by
 have:=List.pairwise_mergeSort (le:=fun x y:Int=>decide (x≤y)) (fun a b c h1 h2=>by simp only[decide_eq_true_eq]at*;omega) (fun a b=>by simp only[Bool.or_eq_true,decide_eq_true_eq];omega) l;exact this.imp fun h=>by simpa using h
end Go.Proofs.YtppjennamodfdaaGreat

namespace Go.Proofs.YtppjennamodfdaaGreat
open Go Go.Hl
mutual
theorem X7V {vars:List Vr} {inp:Bool}:∀t:Tm,QS vars inp t=true→∀v∈tmV t,0≤v∧v.toNat<vars.length
 | .mk o n ks,h,v,hv=>by
   simp only[QS,Bool.and_eq_true]at h;simp only[tmV,List.mem_append]at hv;rcases hv with hv|hv
   · split at hv
     · rename_i h24;rw[List.mem_singleton.1 hv];have h1:=h.1;unfold Qh at h1;rw[if_neg (by omega),if_pos h24]at h1;simp only[Bool.and_eq_true]at h1;have h2:=h1.2;unfold X0h at h2;simp only[Bool.and_eq_true,decide_eq_true_eq]at h2;refine⟨h2.1,?_⟩;cases hw:vars[n.toNat]? with
       |none=>rw[hw]at h2;exact absurd h2.2 (by simp)
       |some w=>exact(List.getElem?_eq_some_iff.1 hw).1
     cases hv
   exact X9o ks h.2 v hv
theorem X9o {vars:List Vr} {inp:Bool}:∀l:List Tm,WR vars inp l=true→∀v∈X3m l,0≤v∧v.toNat<vars.length
 |[],_,v,hv=>by simp[X3m]at hv
 | t::l,h,v,hv=>by
   simp only[WR,Bool.and_eq_true]at h;simp only[X3m,List.mem_append]at hv;rcases hv with hv|hv
   · exact X7V t h.1 v hv
   exact X9o l h.2 v hv
end
section
variable {N:List Nd} {steps:List St} {vars:List Vr} {nh:Nat} {hv:List Int} {K:Nat→Bool} {ar:List Int} {kO:Nat→Bool}
def upK (ar:List Int) (K:Nat→Bool):Prop:=∀(j:Nat) a,ar[j]? =some a→0≤a→K j=true→K a.toNat=true
structure Slc (N:List Nd) (steps:List St) (nv:Nat) (ar:List Int) (K:Nat→Bool):Prop where
 src:∀(o:Nat) q,K o=true→steps[o]? =some q→∀(k:Nat) (x:Nd),N[k]? =some x→x.k≠4→x.a=(o:Int)→∀d,Rc N steps nv k d→Qx steps d∈tmV q.term→d<steps.length→K d=true
 up:upK ar K
end
end Go.Proofs.YtppjennamodfdaaGreat

namespace Go.Proofs.YtppjennamodfdaaGreat
open Go Go.Hl
def WS (n:Nat) (M:Nat→Nat→Bool) (a:Nat):List (List CD):=(List.range n).map fun b=>[bC (M a b)]
def matB (n:Nat) (M:Nat→Nat→Bool):CD:=.sl 1 ((List.range n).map fun a=>[.sl 1 (WS n M a)])
theorem X6d {n:Nat} {M:Nat→Nat→Bool} {a b:Nat} (h:b<n):(WS n M a)[b]? =some [bC (M a b)]:=by simp[WS,h]
theorem X5w (n:Nat) (M:Nat→Nat→Bool) (a:Nat):(WS n M a).length=n:=by simp[WS]
def up (M:Nat→Nat→Bool) (x y:Nat) (v:Bool):Nat→Nat→Bool:=fun a b=>if a=x∧b=y then v else M a b
def stM (M:Nat→Nat→Bool) (m a b:Nat):Nat→Nat→Bool:=up M a b (M a b||(M a m&&M m b))
def fwB (M:Nat→Nat→Bool) (m a k:Nat):Nat→Nat→Bool:=(List.range k).foldl (fun M b=>stM M m a b) M
def fwA (n:Nat) (M:Nat→Nat→Bool) (m k:Nat):Nat→Nat→Bool:=(List.range k).foldl (fun M a=>fwB M m a n) M
def fwM (n:Nat) (M:Nat→Nat→Bool) (k:Nat):Nat→Nat→Bool:=(List.range k).foldl (fun M m=>fwA n M m n) M
theorem Xa2 (M:Nat→Nat→Bool) (m a k:Nat):fwB M m a (k+1)=stM (fwB M m a k) m a k:=by simp[fwB,List.range_succ]
theorem X8l (n:Nat) (M:Nat→Nat→Bool) (m k:Nat):fwA n M m (k+1)=fwB (fwA n M m k) m k n:=by simp[fwA,List.range_succ]
theorem X3I (n:Nat) (M:Nat→Nat→Bool) (k:Nat):fwM n M (k+1)=fwA n (fwM n M k) k n:=by simp[fwM,List.range_succ]
def Zi (n:Nat) (M:Nat→Nat→Bool):List (Option (List (List CD))):=(List.range n).map fun a=>some (WS n M a)
theorem X72 (n:Nat) (M:Nat→Nat→Bool):(Zi n M).length=n:=by simp[Zi]
theorem X6v {n a:Nat} {M:Nat→Nat→Bool} (h:a<n):(Zi n M)[a]? =some (some (WS n M a)):=by simp[Zi,h]
@[simp] theorem rowsM_getE {n a:Nat} {M:Nat→Nat→Bool} (h:a<(Zi n M).length):(Zi n M)[a]'h=some (WS n M a):=by simp[Zi]
@[simp] theorem rowB_getE {n a b:Nat} {M:Nat→Nat→Bool} (h:b<(WS n M a).length):(WS n M a)[b]'h=[bC (M a b)]:=by simp[WS]
theorem rowB_set {n x y:Nat} {M:Nat→Nat→Bool} {v:Bool}:(WS n M x).set y [bC v]=WS n (up M x y v) x:=by
 apply List.ext_getElem?;intro i;rw[List.getElem?_set,X5w];by_cases e:y=i
 · subst e;by_cases hi:y<n<;>simp[WS,up,hi]
 rw[if_neg e];by_cases hi:i<n<;>simp[WS,up,hi,Ne.symm e]
theorem rowB_up {n x y a:Nat} {M:Nat→Nat→Bool} {v:Bool} (h:a≠x):WS n (up M x y v) a=WS n M a:=by simp[WS,up,h]
theorem XbO {n x y:Nat} {M:Nat→Nat→Bool} {v:Bool}:(Zi n M).set x (some (WS n (up M x y v) x))=Zi n (up M x y v):=by
 apply List.ext_getElem?;intro i;rw[List.getElem?_set,X72];by_cases e:x=i
 · subst e;by_cases hi:x<n<;>simp[Zi,hi]
 rw[if_neg e];by_cases hi:i<n
 · simp[Zi,hi,rowB_up (Ne.symm e)]
 simp[Zi,hi]
theorem Xc5 (n:Nat) (M:Nat→Nat→Bool):CD.sl 1 ((Zi n M).map fun r=>[X4Y 1 r])=matB n M:=by simp[Zi,matB,X4Y]
theorem X6e (M:Nat→Nat→Bool) (m a:Nat):∀(k x y:Nat),fwB M m a k x y=if x=a∧y<k then(M x y||(M x m&&M m y))else M x y
 |0,x,y=>by simp[fwB]
 | k +1,x,y=>by
   rw[Xa2];unfold stM up;rw[X6e M m a k,X6e M m a k,X6e M m a k,X6e M m a k];by_cases hx:x=a∧y=k
   · obtain⟨rfl,rfl⟩:=hx;simp only[and_self,if_true,Nat.lt_irrefl,and_false,if_false,Nat.lt_succ_self,true_and];by_cases hm:m<y
     · simp only[hm,if_true];cases M x m<;>simp
     simp only[hm,if_false]
   rw[if_neg hx];by_cases h2:x=a∧y<k
   · rw[if_pos h2,if_pos ⟨h2.1,by omega⟩]
   rw[if_neg h2,if_neg (by omega)]
theorem X4b (n:Nat) (M:Nat→Nat→Bool) (m:Nat):∀(k x y:Nat),fwA n M m k x y=if x<k∧y<n then(M x y||(M x m&&M m y))else M x y
 |0,x,y=>by simp[fwA]
 | k +1,x,y=>by
   rw[X8l,X6e,X4b n M m k,X4b n M m k,X4b n M m k];by_cases hx:x=k∧y<n
   · obtain⟨rfl,hy⟩:=hx;simp only[hy,and_self,if_true,Nat.lt_irrefl,false_and,if_false,Nat.lt_succ_self,and_true];by_cases hm:m<x
     · simp only[hm,if_true];cases M x y<;>cases M x m<;>cases M m y<;>cases M m m<;>rfl
     simp only[hm,if_false]
   rw[if_neg hx];by_cases h2:x<k∧y<n
   · rw[if_pos h2,if_pos ⟨by omega,h2.2⟩]
   rw[if_neg h2,if_neg (by omega)]
theorem X7i (n:Nat) (M:Nat→Nat→Bool):∀(k:Nat),k≤n→∀a b c:Nat,a<n→b<n→c<k→fwM n M k a c=true→fwM n M k c b=true→fwM n M k a b=true
 |0,_,a,b,c,_,_,hc,_,_=>absurd hc (by omega)
 | k +1,hk,a,b,c,ha,hb,hc,h1,h2=>by
   have ih:=X7i n M k (by omega);rw[X3I]at h1 h2⊢;rw[X4b]at h1 h2⊢;rw[if_pos ⟨ha,by omega⟩]at h1;rw[if_pos ⟨by omega,hb⟩]at h2;rw[if_pos ⟨ha,hb⟩];generalize fwM n M k=N at*;simp only[Bool.or_eq_true,Bool.and_eq_true]at h1 h2⊢;by_cases e:c=k
   · subst e;have e1:N a c=true:=h1.elim id (·.1);have e2:N c b=true:=h2.elim id (·.2);exact .inr ⟨e1,e2⟩
   have hck:c<k:=by omega
   rcases h1 with h1|⟨h1,h1'⟩
   · rcases h2 with h2|⟨h2,h2'⟩
     · exact .inl (ih a b c ha hb hck h1 h2)
     exact .inr ⟨ih a k c ha (by omega) hck h1 h2,h2'⟩
   rcases h2 with h2|⟨h2,h2'⟩
   · exact .inr ⟨h1,ih k b c (by omega) hb hck h1' h2⟩
   exact .inr ⟨h1,h2'⟩
theorem X61 (n:Nat) (M:Nat→Nat→Bool):∀(k a b:Nat),M a b=true→fwM n M k a b=true
 |0,a,b,h=>by simpa[fwM]using h
 | k+1,a,b,h=>by
   rw[X3I,X4b,X61 n M k a b h];split<;>simp
theorem X6Q {n:Nat} {M:Nat→Nat→Bool} {Q:Nat→Nat→Prop} (ht:∀a b c,Q a b→Q b c→Q a c) (h:∀a b,M a b=true→Q a b):∀(k a b:Nat),fwM n M k a b=true→Q a b
 |0,a,b,hm=>h a b (by simpa[fwM]using hm)
 | k +1,a,b,hm=>by
   have ih:=X6Q (n:=n) ht h k;rw[X3I,X4b]at hm;split at hm
   · simp only[Bool.or_eq_true,Bool.and_eq_true]at hm;rcases hm with hm|⟨h1,h2⟩
     · exact ih a b hm
     exact ht _ _ _ (ih _ _ h1) (ih _ _ h2)
   exact ih a b hm
end Go.Proofs.YtppjennamodfdaaGreat

namespace Go.Proofs.YtppjennamodfdaaGreat
open Go Go.Hl
theorem sl_len (n:Nat) (L:List (List Nat)) (q:List Int):(toI (slF n L q)).length≤n:=by rw[Xbg];exact X8n _ _
structure Cut (f:Fl) (n:Nat) (g:FuncId) (L:List (List Nat)):Prop where
 lk:Lk n L
 con:∀q:List Int,q.length≤100000→okQ n q→∀d,Con Tryz.prog g false [aF f,lI q] (.tup [lI (toI (slF n L q)),li 0]) none d
end Go.Proofs.YtppjennamodfdaaGreat

namespace Go.Proofs.YtppjennamodfdaaGreat
open Go Go.Hl
section
variable {N:List Nd} {steps:List St} {vars:List Vr} {nh:Nat} {hv hw:List Int} {K:Nat→Bool} {ar:List Int} {kO:Nat→Bool} {nd:Nat→Bool}
structure Need (N:List Nd) (steps:List St) (nv:Nat) (K nd:Nat→Bool) (hv hw:List Int):Prop where
 ent:∀(o:Nat) q,K o=true→steps[o]? =some q→∀(k:Nat) (x:Nd),N[k]? =some x→x.k≠4→x.a=(o:Int)→∀d,Rc N steps nv k d→Qx steps d∈tmV q.term→steps.length≤d→nd (d - steps.length)=true
 hat:∀(o:Nat) q,K o=true→steps[o]? =some q→q.do_=5→(hv[q.n.toNat]?).getD 0=(hw[q.n.toNat]?).getD 0
def R2 (K nd:Nat→Bool) (n nv:Nat) (x y:Sta×(Nat→Nat)):Prop:=
 x.1.outs=y.1.outs∧x.1.vals.length=nv∧y.1.vals.length=nv∧∀v,v<nv→(K (x.2 v)=true∨n≤x.2 v)→(K (y.2 v)=true∨n≤y.2 v)→x.2 v=y.2 v∧((K (x.2 v)=true∨nd v=true)→x.1.vals[v]? =y.1.vals[v]?)
end
end Go.Proofs.YtppjennamodfdaaGreat

namespace Go.Proofs.YtppjennamodfdaaGreat
open Go Go.Hl
def selK (k:Int):List Vr→List Int→List Int
 |v::l,x::xs=>(if v.kind=k then [x] else [])++selK k l xs
 |_,_=>[]
theorem mem_neL {f:Fl} {q:List Int} {v:Int}:v∈neL f q↔∃o,o∈Zh (Q5 f) (QL q)∧v∈ndA f (flL f.body) (rdT f) o:=by
 unfold neL neA;rw[List.mem_mergeSort,Zx,List.mem_flatMap];simp
end Go.Proofs.YtppjennamodfdaaGreat
