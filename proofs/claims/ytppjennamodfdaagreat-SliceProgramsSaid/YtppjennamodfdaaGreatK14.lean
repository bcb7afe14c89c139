/- Part 14: contracts of functions of the program and of the reference, and plain facts about what they compute; used by the proof of the claimed statement. Conditions: as each theorem states. -/
import Derived.Test.YtppjennamodfdaaGreatK11
import Derived.Test.YtppjennamodfdaaGreatK12
import Derived.Test.YtppjennamodfdaaGreatK6
set_option linter.unusedSimpArgs false
set_option linter.unusedVariables false
set_option linter.unnecessarySimpa false
set_option maxRecDepth 100000
set_option maxHeartbeats 2000000
namespace Go.Proofs.YtppjennamodfdaaGreat
open Go Go.Hl
def szO:Option St→Nat
 |some s=>szS s
 |none=>1
mutual
def prS (keep:Int→Bool):St→Int→St
 | .mk d c v n t a b bs,o=>.mk d c v n t (prL keep a (o+1)) (prL keep b (o+1+szL a)) bs
def prL (keep:Int→Bool):List St→Int→List St
 |[],_=>[]
 |s::l,o=>(if keep o=true then [prS keep s o] else [])++prL keep l (o+szS s)
end
mutual
def idS (keep:Int→Bool):St→Int→List Int
 | .mk _ _ _ _ _ a b _,o=>o::(idL keep a (o+1)++idL keep b (o+1+szL a))
def idL (keep:Int→Bool):List St→Int→List Int
 |[],_=>[]
 |s::l,o=>(if keep o=true then idS keep s o else [])++idL keep l (o+szS s)
end
section
variable {keep k1 k2:Int→Bool}
mutual
theorem idS_mem:∀(s:St) (o m:Int),m∈idS keep s o→o≤m∧m<o+szS s
 | .mk d c v n t a b bs,o,m,h=>by
   simp only[idS,List.mem_cons,List.mem_append]at h;simp only[szS];rcases h with h|h|h
   · omega
   · have:=idL_mem a _ m h;omega
   have:=idL_mem b _ m h;omega
theorem idL_mem:∀(l:List St) (o m:Int),m∈idL keep l o→o≤m∧m<o+szL l
 |[],o,m,h=>by simp[idL]at h
 | s ::l,o,m,h=>by
   simp only[idL,List.mem_append]at h;simp only[szL];rcases h with h|h
   · split at h
     · have:=idS_mem s o m h;omega
     cases h
   have:=idL_mem l _ m h;omega
end
mutual
theorem prS_congr:∀(s:St) (o:Int),(∀m,o<m→m<o+szS s→k1 m=k2 m)→prS k1 s o=prS k2 s o∧idS k1 s o=idS k2 s o
 | .mk d c v n t a b bs,o,h=>by
   simp only[szS]at h;have ha:=prL_congr a (o+1) fun m h1 h2=>h m (by omega) (by omega);have hb:=prL_congr b (o+1+szL a) fun m h1 h2=>h m (by omega) (by omega);simp only[prS,idS,ha.1,ha.2,hb.1,hb.2,and_self]
theorem prL_congr:∀(l:List St) (o:Int),(∀m,o≤m→m<o+szL l→k1 m=k2 m)→prL k1 l o=prL k2 l o∧idL k1 l o=idL k2 l o
 |[],o,h=>by simp[prL,idL]
 | s::l,o,h=>by
   simp only[szL]at h;have hp:=szS_pos s;have hs:=prS_congr s o fun m h1 h2=>h m (by omega) (by omega);have hl:=prL_congr l (o+szS s) fun m h1 h2=>h m (by omega) (by omega);simp only[prL,idL,hs.1,hs.2,hl.1,hl.2,h o (by omega) (by omega),and_self]
end
mutual
theorem idS_len:∀(s:St) (o:Int),(idS keep s o).length=szS (prS keep s o)
 | .mk d c v n t a b bs,o=>by
   simp only[idS,prS,szS,List.length_cons,List.length_append,idL_len a,idL_len b];omega
theorem idL_len:∀(l:List St) (o:Int),(idL keep l o).length=szL (prL keep l o)
 |[],o=>by simp[idL,prL,szL]
 | s::l,o=>by
   simp only[idL,prL];by_cases h:keep o=true
   · rw[if_pos h,if_pos h];simp only[List.length_append,List.cons_append,List.nil_append,szL,idS_len s,idL_len l]
   rw[if_neg h,if_neg h];simp only[List.nil_append,idL_len l]
end
mutual
theorem prS_all:∀(s:St) (o:Int),(∀m,o<m→m<o+szS s→keep m=true)→prS keep s o=s
 | .mk d c v n t a b bs,o,h=>by
   simp only[szS]at h;simp only[prS];rw[prL_all a (o+1) fun m h1 h2=>h m (by omega) (by omega),prL_all b (o+1+szL a) fun m h1 h2=>h m (by omega) (by omega)]
theorem prL_all:∀(l:List St) (o:Int),(∀m,o≤m→m<o+szL l→keep m=true)→prL keep l o=l
 |[],o,h=>by simp[prL]
 | s::l,o,h=>by
   simp only[szL]at h;have hp:=szS_pos s;simp only[prL];rw[if_pos (h o (by omega) (by omega)),prS_all s o fun m h1 h2=>h m (by omega) (by omega),prL_all l (o+szS s) fun m h1 h2=>h m (by omega) (by omega)];rfl
end
mutual
theorem ixS:∀(s:St) (o:Int) (i:Nat),i<szS s→(∀m,o≤m→m≤o+i→keep m=true)→(idS keep s o)[i]? =some (o+i)
 | .mk d c v n t a b bs,o,0,hi,h=>by simp[idS]
 | .mk d c v n t a b bs,o,i+1,hi,h=>by
   simp only[szS]at hi;simp only[idS,List.getElem?_cons_succ];by_cases hia:i<szL a
   · have:=ixL a (o+1) i hia fun m h1 h2=>h m (by omega) (by omega);rw[List.getElem?_append_left (List.getElem?_eq_some_iff.1 this).1,this];congr 1;omega
   have hall:=prL_all (keep:=keep) a (o+1) fun m h1 h2=>h m (by omega) (by omega);have hlen:(idL keep a (o+1)).length=szL a:=by rw[idL_len,hall]
   have:=ixL b (o+1+szL a) (i - szL a) (by omega) fun m h1 h2=>h m (by omega) (by omega);rw[List.getElem?_append_right (by omega),hlen,this];congr 1;omega
theorem ixL:∀(l:List St) (o:Int) (i:Nat),i<szL l→(∀m,o≤m→m≤o+i→keep m=true)→(idL keep l o)[i]? =some (o+i)
 |[],o,i,hi,h=>by simp only[szL]at hi;omega
 | s::l,o,i,hi,h=>by
   simp only[szL]at hi;simp only[idL];rw[if_pos (h o (by omega) (by omega))];by_cases his:i<szS s
   · have:=ixS s o i his h;rw[List.getElem?_append_left (List.getElem?_eq_some_iff.1 this).1,this]
   have hall:=prS_all (keep:=keep) s o fun m h1 h2=>h m (by omega) (by omega);have hlen:(idS keep s o).length=szS s:=by rw[idS_len,hall]
   have:=ixL l (o+szS s) (i - szS s) (by omega) fun m h1 h2=>h m (by omega) (by omega);rw[List.getElem?_append_right (by omega),hlen,this];congr 1;omega
end
def rmK (keep:Int→Bool) (m:Int):Int→Bool:=fun j=>keep j&&decide (j≠m)
theorem rmK_ne {m j:Int} (h:j≠m):keep j=rmK keep m j:=by simp[rmK,h]
theorem tk1 {α:Type} (A B:List α) (i z:Nat) (h:i+z≤A.length):(A++B).take i++(A++B).drop (i+z)=(A.take i++A.drop (i+z))++B:=by
 rw[List.take_append_of_le_length (by omega),List.drop_append_of_le_length h,List.append_assoc]
theorem tk2 {α:Type} (A B:List α) (i z:Nat) (h:A.length≤i):(A++B).take i++(A++B).drop (i+z)=A++(B.take (i - A.length)++B.drop (i - A.length+z)):=by
 rw[List.take_append,List.drop_append,List.take_of_length_le h,List.drop_of_length_le (by omega),List.nil_append,List.append_assoc,show i+z - A.length=i - A.length+z by omega]
theorem fndS_some (x:St) (i:Int) (h0:0≤i) (h1:i<szS x):∃y,fndS x i=some y∧i+szS y≤szS x:=by
 obtain⟨y,e1,_,_,e4,_⟩:=fnd_some [x] i h0 (by simp only[szL];omega);simp only[fndL]at e1;simp only[szL]at e4;refine⟨y,?_,by omega⟩;split at e1
 · rename_i z hz;rw[hz];exact e1
 cases e1
theorem fndS_none (x:St) (i:Int) (h1:(szS x:Int)≤i):fndS x i=none:=by
 have:=fnd_ge [x] i (by simp only[szL];omega);simp only[fndL]at this;split at this
 · cases this
 assumption
theorem fndS_zero (x:St):fndS x 0=some x:=by
 obtain⟨d,c,v,n,t,a,b,bs⟩:=x;simp[fndS]
mutual
theorem wpS:∀(s:St) (o:Int) (i:Nat) (m:Int),(idS keep s o)[i+1]? =some m→woS (prS keep s o) i=prS (rmK keep m) s o∧
  idS (rmK keep m) s o=(idS keep s o).take (i+1)++(idS keep s o).drop (i+1+szO (fndS (prS keep s o) ((i+1:Nat):Int)))
 | .mk d c v n t a b bs,o,i,m,h=>by
   simp only[idS,List.getElem?_cons_succ]at h;have hla:=idL_len (keep:=keep) a (o+1);simp only[prS,woS,idS,fndS];rw[if_neg (by omega),show((i+1:Nat):Int) - 1=(i:Int) by omega];by_cases hia:i<(idL keep a (o+1)).length
   · rw[List.getElem?_append_left hia]at h;have hr:=idL_mem a _ m (List.mem_of_getElem? h);obtain⟨w1,w2⟩:=wpL a (o+1) i m h;obtain⟨y,f1,_,_,f4,_⟩:=fnd_some (prL keep a (o+1)) i (by omega) (by omega);have hb:=prL_congr (k1:=keep) (k2:=rmK keep m) b (o+1+szL a) fun j h1 h2=>rmK_ne (by omega);rw[w1,w2,←hb.1,←hb.2,woL_id _ _ (by omega),f1];refine⟨rfl,?_⟩;simp only[szO];rw[show i+1+szS y=(i+szS y)+1 by omega,List.take_succ_cons,List.drop_succ_cons,List.cons_append,tk1 _ _ _ _ (by omega)]
   rw[List.getElem?_append_right (by omega)]at h;have hr:=idL_mem b _ m (List.mem_of_getElem? h);obtain⟨w1,w2⟩:=wpL b (o+1+szL a) (i - (idL keep a (o+1)).length) m h;have ha:=prL_congr (k1:=keep) (k2:=rmK keep m) a (o+1) fun j h1 h2=>rmK_ne (by omega);have hcast:((i - (idL keep a (o+1)).length:Nat):Int)=(i:Int) - (szL (prL keep a (o+1)):Int):=by omega
   rw[hcast]at w1 w2;rw[w1,w2,←ha.1,←ha.2,woL_id (prL keep a (o+1)) (i:Int) (by omega),fnd_ge (prL keep a (o+1)) (i:Int) (by omega)];refine⟨rfl,?_⟩;simp only;rw[show i+1+szO (fndL (prL keep b (o+1+szL a)) ((i:Int) - (szL (prL keep a (o+1)):Int)))=(i+szO (fndL (prL keep b (o+1+szL a)) ((i:Int) - (szL (prL keep a (o+1)):Int))))+1 by omega,List.take_succ_cons,List.drop_succ_cons,List.cons_append,tk2 _ _ _ _ (by omega)]
theorem wpL:∀(l:List St) (o:Int) (i:Nat) (m:Int),(idL keep l o)[i]? =some m→woL (prL keep l o) i=prL (rmK keep m) l o∧
  idL (rmK keep m) l o=(idL keep l o).take i++(idL keep l o).drop (i+szO (fndL (prL keep l o) i))
 |[],o,i,m,h=>by simp[idL]at h
 | s :: l,o,i,m,h=>by
   by_cases hk:keep o=true
   · simp only[idL,if_pos hk]at h;have hls:=idS_len (keep:=keep) s o;have hp:=szS_pos (prS keep s o);by_cases his:i<(idS keep s o).length
     · rw [List.getElem?_append_left his]at h;have hr:=idS_mem s _ m (List.mem_of_getElem? h);have hl:=prL_congr (k1:=keep) (k2:=rmK keep m) l (o+szS s) fun j h1 h2=>rmK_ne (by omega);cases i with
       | zero=>
         have hm:m=o:=by
          obtain⟨d,c,v,n,t,a,b,bs⟩:=s;simp only[idS,List.getElem?_cons_zero,Option.some.injEq]at h;exact h.symm
         have hro:¬rmK keep m o=true:=by simp[rmK,hm]
         simp only[prL,idL,if_pos hk,if_neg hro,←hl.1,←hl.2,List.cons_append,List.nil_append,woL,fndL];rw[if_pos (by rfl),woL_id _ _ (by omega),show(((0:Nat):Int))=0 from rfl,fndS_zero];refine⟨rfl,?_⟩;simp only[szO,List.take_zero,List.nil_append,Nat.zero_add];rw[←hls,List.drop_left]
       | succ i=>
         obtain⟨w1,w2⟩:=wpS s o i m h
         have hmo:m≠o:=by
          intro e;subst e;obtain⟨d,c,v,n,t,a,b,bs⟩:=s;simp only[idS,List.getElem?_cons_succ]at h;have hm:=List.mem_of_getElem? h;rcases List.mem_append.1 hm with h|h
          · have:=idL_mem _ _ _ h;omega
          have:=idL_mem _ _ _ h;omega
         have hro:rmK keep m o=true:=by rw[←rmK_ne hmo.symm];exact hk
         obtain⟨y,f1,f2⟩:=fndS_some (prS keep s o) ((i+1:Nat):Int) (by omega) (by omega);simp only[prL,idL,if_pos hk,if_pos hro,←hl.1,←hl.2,List.cons_append,List.nil_append,woL,fndL];rw[if_neg (by omega),woL_id (prL keep l (o+szS s)) _ (by omega),f1,show((i+1:Nat):Int) - 1=(i:Int) by omega,w1,w2,f1];refine⟨rfl,?_⟩;simp only[szO];rw[tk1 _ _ _ _ (by omega)]
     rw[List.getElem?_append_right (by omega)]at h;have hr:=idL_mem l _ m (List.mem_of_getElem? h);obtain⟨w1,w2⟩:=wpL l (o+szS s) (i - (idS keep s o).length) m h;have hs:=prS_congr (k1:=keep) (k2:=rmK keep m) s o fun j h1 h2=>rmK_ne (by omega);have hps:=szS_pos s;have hro:rmK keep m o=true:=by rw[←rmK_ne (by omega:o≠m)];exact hk
     have hcast:((i - (idS keep s o).length:Nat):Int)=(i:Int) - (szS (prS keep s o):Int):=by omega
     rw[hcast]at w1 w2;simp only[prL,idL,if_pos hk,if_pos hro,←hs.1,←hs.2,List.cons_append,List.nil_append,woL,fndL];rw[if_neg (by omega),woS_id _ _ (by omega),fndS_none _ _ (by omega),w1,w2];refine⟨rfl,?_⟩;simp only;rw[tk2 _ _ _ _ (by omega)]
   simp only[idL,if_neg hk,List.nil_append]at h;have hr:=idL_mem l _ m (List.mem_of_getElem? h);have hps:=szS_pos s;obtain⟨w1,w2⟩:=wpL l (o+szS s) i m h;have hro:¬rmK keep m o=true:=by rw[←rmK_ne (by omega:o≠m)];exact hk
   simp only[prL,idL,if_neg hk,if_neg hro,List.nil_append];exact⟨w1,w2⟩
end
end
theorem pgL_aux (L : List Int) (B0 : List St):∀i:Nat,i≤szL B0→pgL L i (prL (fun j=>decide (j<(i:Int))||decide (j∈L)) B0 0)=prL (fun j=>decide (j∈L)) B0 0
 | 0, _ => (prL_congr B0 0 fun m h1 h2 => by have:¬m<((0:Nat):Int):=by omega
                                             simp only[this,decide_false,Bool.false_or]).1
 | i +1,hi=>by
   unfold pgL;have hmi:∀m:Int,(m<((i+1:Nat):Int))↔(m<(i:Int)∨m=(i:Int)):=fun m=>by omega
   by_cases hm:(i:Int)∈L
   · rw[if_pos hm]
     have:=(prL_congr (k1:=fun j=>decide (j<((i+1:Nat):Int))||decide (j∈L)) (k2:=fun j=>decide (j<(i:Int))||decide (j∈L)) B0 0 fun m h1 h2=>by
      by_cases e:m=(i:Int)
      · subst e;simp[hm]
      have:(m<((i+1:Nat):Int))↔m<(i:Int):=by omega
      simp only[this]).1
     rw[this];exact pgL_aux L B0 i (by omega)
   rw[if_neg hm]
   have hix:=ixL (keep:=fun j=>decide (j<((i+1:Nat):Int))||decide (j∈L)) B0 0 i (by omega) fun m h1 h2=>by
    have h3:m<((i+1:Nat):Int):=by omega
    simp only[Bool.or_eq_true];exact .inl (decide_eq_true h3)
   rw[Int.zero_add]at hix;rw[(wpL B0 0 i _ hix).1]
   have:=(prL_congr (k1:=rmK (fun j=>decide (j<((i+1:Nat):Int))||decide (j∈L)) (i:Int)) (k2:=fun j=>decide (j<(i:Int))||decide (j∈L)) B0 0 fun m h1 h2=>by
    by_cases e:m=(i:Int)
    · subst e;simp[rmK,hm]
    have:(m<((i+1:Nat):Int))↔m<(i:Int):=by omega
    simp only[rmK,this,ne_eq,e,not_false_eq_true,decide_true,Bool.and_true]).1
   rw[this];exact pgL_aux L B0 i (by omega)
theorem pgL_eq (L : List Int) (B0 : List St):pgL L (szL B0) B0=prL (fun j=>decide (j∈L)) B0 0:=by
 have h:=pgL_aux L B0 (szL B0) (Nat.le_refl _)
 rwa [prL_all B0 0 fun m h1 h2 => by have:m<(szL B0:Int):=by omega
                                     simp[this]]at h
theorem idxs_all {L:List Int} {b:List St} (h:∀m:Int,0≤m→m<szL b→m∈L):pgL L (szL b) b=b:=by
 rw[pgL_eq];exact prL_all b 0 fun m h1 h2=>decide_eq_true (h m h1 (by omega))
theorem shB_mono {vars:List Vr} {nh:Nat} {d v n:Int} {t:Tm} {la lc la' lc':Nat} {bs:List Int} {last last':Bool} (h:shB vars nh d v n t la lc bs last=true) (ha:la'≤la) (hc:lc'≤lc) (hl:last=true→last'=true):shB vars nh d v n t la' lc' bs last'=true:=by
 unfold shB at*;split at h
 · rename_i h0;rw[if_pos h0];simp only[Bool.and_eq_true,decide_eq_true_eq]at h⊢;exact⟨⟨⟨⟨by omega,by omega⟩,h.1.1.2⟩,h.1.2⟩,h.2⟩
 rename_i h0;rw[if_neg h0];split at h
 · rename_i h1;rw[if_pos h1];simp only[Bool.and_eq_true,decide_eq_true_eq]at h⊢;exact⟨⟨⟨⟨by omega,by omega⟩,h.1.1.2⟩,h.1.2⟩,h.2⟩
 rename_i h1;rw[if_neg h1];split at h
 · rename_i h2;rw[if_pos h2];simp only[Bool.and_eq_true,decide_eq_true_eq]at h⊢;exact⟨⟨⟨⟨⟨by omega,by omega⟩,h.1.1.1.2⟩,h.1.1.2⟩,h.1.2⟩,h.2⟩
 rename_i h2;rw[if_neg h2];split at h
 · rename_i h3;rw[if_pos h3];exact h
 rename_i h3;rw[if_neg h3];split at h
 · rename_i h4;rw[if_pos h4];simp only[Bool.and_eq_true,decide_eq_true_eq]at h⊢;exact⟨⟨h.1.1,by omega⟩,h.2⟩
 rename_i h4;rw[if_neg h4];split at h
 · rename_i h5;rw[if_pos h5];simp only[Bool.and_eq_true,decide_eq_true_eq]at h⊢;exact⟨⟨⟨⟨⟨⟨by omega,by omega⟩,h.1.1.1.1.2⟩,h.1.1.1.2⟩,h.1.1.2⟩,h.1.2⟩,h.2⟩
 rename_i h5;rw[if_neg h5];split at h
 · rename_i h6;rw[if_pos h6];simp only[Bool.and_eq_true,decide_eq_true_eq]at h⊢;exact⟨⟨⟨⟨⟨⟨by omega,by omega⟩,hl h.1.1.1.1.2⟩,h.1.1.1.2⟩,h.1.1.2⟩,h.1.2⟩,h.2⟩
 cases h
theorem stC_zero {vars:List Vr} {nh:Nat} {d c v n:Int} {t:Tm} {la lc:Nat} {bs:List Int} {last:Bool}:stC vars nh d c v n t la lc bs last=0↔shB vars nh d v n t la lc bs last=true∧numB d c n bs=true∧termC vars false t=0:=by
 unfold stC;cases shB vars nh d v n t la lc bs last<;>cases numB d c n bs<;>simp
theorem ssC_cons {vars:List Vr} {nh:Nat} {d c v n:Int} {t:Tm} {a b:List St} {bs:List Int} {l:List St} {top:Bool}:ssC vars nh (.mk d c v n t a b bs::l) top=0↔
  stC vars nh d c v n t a.length b.length bs (top&&l.isEmpty)=0∧ssC vars nh a false=0∧ssC vars nh b false=0∧ssC vars nh l top=0:=by
 rw[ssC];constructor
 · intro h;split at h
   · rename_i h1;split at h
     · rename_i h2;split at h
       · rename_i h3;exact⟨h1,h2,h3,h⟩
       rename_i h3;exact absurd h h3
     rename_i h2;exact absurd h h2
   rename_i h1;exact absurd h h1
 rintro⟨h1,h2,h3,h4⟩;rw[if_pos h1,if_pos h2,if_pos h3,h4]
theorem prL_len (keep:Int→Bool):∀(l:List St) (o:Int),(prL keep l o).length≤l.length
 |[],o=>by simp[prL]
 | s::l,o=>by
   have:=prL_len keep l (o+szS s);simp only[prL];split<;>simp<;>omega
theorem pr_ssC (keep:Int→Bool) (vars:List Vr) (nh:Nat):∀l:List St,(∀(o:Int) (top:Bool),ssC vars nh l top=0→ssC vars nh (prL keep l o) top=0):=by
 apply St.lists;intro l ih
 induction l with
 |nil=>intro o top _;simp[prL,ssC]
 | cons s l ihl=>
   intro o top h;have ihl:=ihl fun s hs=>ih s (List.mem_cons_of_mem _ hs);obtain⟨i1,i2⟩:=ih s (List.mem_cons_self ..);obtain⟨d,c,v,n,t,a,b,bs⟩:=s;simp only[St.then_,St.else_]at i1 i2;obtain⟨h1,h2,h3,h4⟩:=ssC_cons.1 h;have h5:=ihl (o+szS (.mk d c v n t a b bs)) top h4;simp only[prL];split
   · simp only[List.cons_append,List.nil_append,prS];obtain⟨s1,s2,s3⟩:=stC_zero.1 h1;refine ssC_cons.2 ⟨stC_zero.2 ⟨shB_mono s1 (prL_len ..) (prL_len ..) fun hl=>?_,s2,s3⟩,i1 _ _ h2,i2 _ _ h3,h5⟩;simp only[Bool.and_eq_true,List.isEmpty_iff]at hl⊢;exact⟨hl.1,by rw[hl.2];simp[prL]⟩
   exact h5
theorem pr_nodes (keep:Int→Bool):∀l:List St,∀o:Int,nodesS (prL keep l o)≤nodesS l∧sdL (prL keep l o)≤sdL l∧(tdeep l=false→tdeep (prL keep l o)=false)∧(bndL l=true→bndL (prL keep l o)=true):=by
 apply St.lists;intro l ih
 induction l with
 |nil=>intro o;simp[prL]
 | cons s l ihl=>
   intro o;have ihl:=ihl (fun s hs=>ih s (List.mem_cons_of_mem _ hs)) (o+szS s);obtain⟨i1,i2⟩:=ih s (List.mem_cons_self ..);obtain⟨d,c,v,n,t,a,b,bs⟩:=s;simp only[St.then_,St.else_]at i1 i2;have i1:=i1 (o+1);have i2:=i2 (o+1+szL a);simp only[prL];split
   · simp only[List.cons_append,List.nil_append,prS,nodesS,St.nodes,sdL,tdeep,bndL,bndS,Bool.or_eq_false_iff,Bool.and_eq_true]at*;refine⟨by omega,by omega,fun h=>?_,fun h=>?_⟩
     · exact⟨⟨⟨h.1.1.1,i1.2.2.1 h.1.1.2⟩,i2.2.2.1 h.1.2⟩,ihl.2.2.1 h.2⟩
     exact⟨⟨h.1.1,i1.2.2.2 h.1.2.1,i2.2.2.2 h.1.2.2⟩,ihl.2.2.2 h.2⟩
   simp only[List.nil_append,nodesS,St.nodes,sdL,tdeep,bndL,bndS,Bool.or_eq_false_iff,Bool.and_eq_true]at*;exact⟨by omega,by omega,fun h=>ihl.2.2.1 h.2,fun h=>ihl.2.2.2 h.2⟩
def le3 (x y:B3):Prop:=x.s≤y.s∧x.o≤y.o∧x.t≤y.t
theorem bd1_mono {d c n:Int} {x y x' y':B3} (hn:d=4→0≤n) (hx:le3 x' x) (hy:le3 y' y):le3 (bd1 d c n x' y') (bd1 d c n x y):=by
 unfold le3 at*;unfold bd1;split
 · rename_i h4;have h0:=hn h4;refine⟨?_,Int.mul_le_mul_of_nonneg_left hx.2.1 h0,Int.mul_le_mul_of_nonneg_left (by omega) h0⟩;have:=Int.mul_le_mul_of_nonneg_left (show 1+x'.s≤1+x.s by omega) h0;simp only;omega
 split
 · simp only[mx];refine⟨?_,?_,?_⟩<;>(repeat' split)<;>omega
 split<;>exact⟨Int.le_refl _,Int.le_refl _,Int.le_refl _⟩
theorem add3_mono {C p p' q q':B3} (h:le3 p' p) (h2:le3 q' q):le3 (add3 C p' q') (add3 C p q):=by
 unfold le3 add3 at*;simp only[mn];refine⟨?_,?_,?_⟩<;>(repeat' split)<;>omega
theorem add3_up {C p q:B3} (hp:in3 C p) (hq:nn3 q):le3 p (add3 C p q):=by
 unfold le3 add3 in3 nn3 at*;simp only[mn];refine⟨?_,?_,?_⟩<;>split<;>omega
theorem le3_trans {x y z:B3} (h:le3 x y) (h2:le3 y z):le3 x z:=⟨Int.le_trans h.1 h2.1,Int.le_trans h.2.1 h2.2.1,Int.le_trans h.2.2 h2.2.2⟩
theorem pr_bd (keep:Int→Bool) {C:B3} (hC:nn3 C):∀l:List St,∀(o:Int) (p p':B3),okL l=true→in3 C p→le3 p' p→le3 (bdL C (prL keep l o) p') (bdL C l p):=by
 apply St.lists;intro l ih
 induction l with
 |nil=>intro o p p' _ _ h;simpa[prL,bdL]using h
 | cons s l ihl=>
   intro o p p' hok hp hle;have ihl:=ihl (fun s hs=>ih s (List.mem_cons_of_mem _ hs)) (o+szS s);obtain⟨i1,i2⟩:=ih s (List.mem_cons_self ..);simp only[okL,Bool.and_eq_true]at hok;have hnn:=bdS_nn hC s hok.1;have hin:=add3_in hC (in3_nn hp) hnn;obtain⟨d,c,v,n,t,a,b,bs⟩:=s;simp only[St.then_,St.else_]at i1 i2;simp only[prL];split
   · simp only[List.cons_append,List.nil_append,prS,bdL];refine ihl _ _ hok.2 hin (add3_mono hle ?_);simp only[okS,Bool.and_eq_true,Bool.or_eq_true,decide_eq_true_eq]at hok;simp only[bdS];exact bd1_mono (fun h4=>by omega) (i1 _ _ _ hok.1.2.2.1 (in3_0 hC) ⟨Int.le_refl _,Int.le_refl _,Int.le_refl _⟩) (i2 _ _ _ hok.1.2.2.2 (in3_0 hC) ⟨Int.le_refl _,Int.le_refl _,Int.le_refl _⟩)
   simp only[List.nil_append,bdL];exact ihl _ _ hok.2 hin (le3_trans hle (add3_up hp hnn))
theorem pr_code (keep:Int→Bool) {f:Fl} (h:codeC f=0) (o:Int):codeC ⟨f.vars,f.hats,prL keep f.body o⟩=0:=by
 obtain⟨vars,hats,body⟩:=f;unfold codeC at*;simp only at*;obtain⟨n1,n2,n3,_⟩:=pr_nodes keep body o;split at h
 · cases h
 rename_i hs;have hs:sizesB ⟨vars,hats,body⟩=true:=by simpa using hs
 have hs':sizesB ⟨vars,hats,prL keep body o⟩=true:=by
  unfold sizesB at*;simp only[Bool.and_eq_true,decide_eq_true_eq,Bool.not_eq_true']at hs⊢;exact⟨⟨⟨⟨hs.1.1.1.1,by omega⟩,by omega⟩,n3 hs.1.2⟩,hs.2⟩
 rw[if_neg (by simp[hs'])];split at h
 · rename_i hv;rw[if_pos hv];split at h
   · rename_i hh;rw[if_pos hh];split at h
     · rename_i hb;rw[if_pos (pr_ssC keep _ _ body o true hb)];split at h
       · cases h
       rename_i ho;have ho:overL body=false:=by simpa using ho
       have hC:nn3 CR:=by unfold nn3 CR;simp
       have:=pr_bd keep hC body o ⟨0,0,0⟩ ⟨0,0,0⟩ (ssC_ok body true hb) (in3_0 hC) ⟨Int.le_refl _,Int.le_refl _,Int.le_refl _⟩;obtain⟨b1,b2,b3⟩:=this
       have:overL (prL keep body o)=false:=by
        unfold overL at*;simp only[Bool.or_eq_false_iff,decide_eq_false_iff_not]at ho⊢;exact⟨by omega,by omega,by omega⟩
       rw[if_neg (by simp[this])]
     rename_i hb;exact absurd h hb
   rename_i hh;exact absurd h hh
 rename_i hv;exact absurd h hv
theorem pg_code {f:Fl} (h:codeC f=0) (q:List Int):codeC (pgF f q)=0:=by
 unfold pgF;rw[pgL_eq];exact pr_code _ h 0
end Go.Proofs.YtppjennamodfdaaGreat

namespace Go.Proofs.YtppjennamodfdaaGreat
open Go Go.Hl
def kp (q:List Int):Int→Bool:=fun j=>decide (j∈q)
set_option maxHeartbeats 16000000 in
theorem kept_con (q:List Int) (hq:q.length≤1000000000) (l:List St):nodesS l≤1000000→∀i:Int,0≤i→i+szL l≤5000000→∀d:Nat,Con Tryz.prog 28 false [lS l,lI q,li i] (.v (lS (prL (kp q) l i))) none d:=by
 revert l
 apply St.lists;intro l ih hn i hi0 hi1 d;have hlen:=len_nodesS l;have hszl:=szL_le l;have ck:=fun x=>has_con q x hq;obtain⟨res,hres⟩:∃r,prL (kp q) l i=r:=⟨_,rfl⟩;rw[hres];refine con_of_HTA Tryz.func28 ?_;simp only[Tryz.f28];refine HT_sA ?_;refine HT_sA ?_;refine HT_seq<|HT_seq<|HT_runA ?_;refine HT_block<|(HT_loopU [1,12,13] (fun(x:Nat×Int×List St)=>[(2,.v (li x.2.1)),(7,.v (.one (.own 1003))),(14,.v (li x.1))]) (fun x=>[(1003,.row 76 10 (encSs x.2.2))]) (fun x=>x.1≤l.length∧x.2.2++prL (kp q) (l.drop x.1) x.2.1=res∧x.2.2.length≤x.1∧0≤x.2.1∧x.2.1+szL (l.drop x.1)≤5000000) (fun x=>l.length - x.1) (0,i,[]) ⟨Nat.zero_le _,by simpa using hres,Nat.le_refl _,hi0,by simp only[List.drop_zero];omega⟩ ?_ ?_)
 · exact le_mkA (fun n=>n) [1003]
 rintro⟨k,c,acc⟩ ⟨hk,hJ,hal,hc0,hc1⟩;simp only[upS,keepS,insS]
 try simp only[keepS,KN,Nat.reduceBEq,if_true,if_false,ins,Nat.reduceLT]
 simp only at hk hJ hal hc0 hc1;clear hres hi0 hi1;refine HT_sA ?_;refine HT_seq<|(HT_cond rfl (fun h5=>HT_skip ?_) (fun h5=>?_))
 · (try simp only[BN]at h5);have hlt:k<l.length:=by first|omega|simpa using h5
   obtain⟨s,he,hd⟩:=at_lt hlt;have hw1:=wrap1 hlt (by omega);have hk1:k+1≤l.length:=hlt;have hmem:s∈l:=List.mem_of_getElem? he;have hnm:=nodesS_mem hmem;rw[hd]at hJ hc1;simp only[prL]at hJ;simp only[szL]at hc1;have he':=get_encS he;have iha:=(ih s hmem).1;have ihb:=(ih s hmem).2;have hroom:room (acc.length+1) 144:=room_of (by omega) (by omega);obtain⟨sd,sc,sv,sn,⟨so,stn,sks⟩,sa,sb,sbs⟩:=s;simp only[St.then_,St.else_,St.term]at iha ihb hnm;have ca:=sizeR_con sa (by omega);have cb:=sizeR_con sb (by omega);have hla:=szL_le sa;have hlb:=szL_le sb;simp only[prS,szS]at hJ;simp only[szS]at hc1;simp only[St.enc,Tm.enc,List.cons_append,List.nil_append]at he';generalize szL sa=na at*;generalize szL sb=nb at*;have hwa:IntKind.i64.wrap (c+1)=c+1:=wrap_in (by omega) (by omega);have hwb:IntKind.i64.wrap (c+1+(na:Int))=c+1+(na:Int):=wrap_in (by omega) (by omega);have hwc:IntKind.i64.wrap (1+(na:Int))=1+(na:Int):=wrap_in (by omega) (by omega);have hwd:IntKind.i64.wrap (1+(na:Int)+(nb:Int))=1+(na:Int)+(nb:Int):=wrap_in (by omega) (by omega);have hwe:IntKind.i64.wrap (c+(1+(na:Int)+(nb:Int)))=c+(1+(na:Int)+(nb:Int)):=wrap_in (by omega) (by omega);have hc:c+((1+na+nb:Nat):Int)=c+(1+(na:Int)+(nb:Int)):=by omega
   rw[hc,←List.append_assoc]at hJ;have iha:=iha (by omega) (c+1) (by omega) (by omega);have ihb:=ihb (by omega) (c+1+(na:Int)) (by omega) (by omega);have ckc:=ck c;obtain⟨A,hA⟩:∃x,prL (kp q) sa (c+1)=x:=⟨_,rfl⟩;obtain⟨B,hB⟩:∃x,prL (kp q) sb (c+1+(na:Int))=x:=⟨_,rfl⟩;rw[hA]at iha hJ;rw[hB]at ihb hJ;obtain⟨G,hG⟩:∃x,decide (c∈q)=x:=⟨_,rfl⟩;have hkG:kp q c=G:=hG;rw[hG]at ckc;rw[hkG]at hJ;have hsn:=encSs_snoc acc (.mk sd sc sv sn (.mk so stn sks) A B sbs);simp only[St.enc,Tm.enc,List.cons_append,List.nil_append]at hsn;clear hlt h5 ih hmem hd he hc hA hB ck hG hkG;refine HT_seq<|HT_block<|HT_seq<|HT_runA ?_;refine HT_seq<|(HT_drunc [⟨true,.v (li (na:Int)),none⟩,⟨true,.v (li (nb:Int)),none⟩] (by kernel_rfl) (by kernel_rfl) (by rfl) (by simp[*];first|exact⟨rfl,Iff.rfl⟩|exact⟨rfl,trivial⟩|rfl) ?_ ?_)
   · first|exact⟨ca _,cb _⟩|exact trivial|(repeat' first|exact trivial|exact ca _|exact cb _|apply And.intro)
   refine(HT_cutU [1,2,10,11,12,13,14] (fun(z:List St)=>[(7,.v (.one (.own 1003)))]) (fun(z:List St)=>[(1003,.row 76 10 (encSs z))]) (fun(z:List St)=>z++prL (kp q) (l.drop (k+1)) (c+(1+(na:Int)+(nb:Int)))=res∧z.length≤k+1) ?_ ?_)
   ·
    refine HT_scA [⟨true,.v (lb G),none⟩] ?_ ?_
    · first|exact ckc _|exact trivial|simpa[*]using ckc _
    refine(HT_cs rfl (fun h10=>?_) fun h10=>?_)
    · (try simp only[BN]at h10);have hGt:G=true:=by simpa using h10
      rw[if_pos hGt]at hJ;refine HT_seq<|(HT_druncH [(27,9),(33,9),(41,9),(42,9)] [⟨false,.v (lS A),none⟩,⟨false,.v (lS B),none⟩] (by kernel_rfl) (by kernel_rfl) (by rfl) (by simp[evcH,hokB,hintOf, *];first|exact⟨rfl,Iff.rfl⟩|exact⟨rfl,trivial⟩|rfl) ?_ ?_)
      · first|exact⟨iha _,ihb _⟩|exact trivial|(repeat' first|exact trivial|exact iha _|exact ihb _|apply And.intro)
      refine HT_runA ?_;exact⟨acc++[.mk sd sc sv sn (.mk so stn sks) A B sbs],⟨hJ,by simp only[List.length_append,List.length_singleton];omega⟩,le_mkA (fun n=>if n=1003 then 46 else n) []⟩
    (try simp only[BN]at h10);have hGf:¬G=true:=by simpa using h10
    rw[if_neg hGf,List.append_nil]at hJ;exact⟨acc,⟨hJ,by omega⟩,le_mkA (fun n=>n) []⟩
   rintro z ⟨hz,hzl⟩;simp only[upS,keepS,insS]
   try simp only[keepS,KN,Nat.reduceBEq,if_true,if_false,ins,Nat.reduceLT]
   refine HT_runA ?_;refine HT_runA ?_;exact⟨(k+1,c+(1+(na:Int)+(nb:Int)),z),⟨hk1,hz,hzl,by simp only;omega,by simp only;omega⟩,by simp only;omega,le_mkA (fun n=>n) []⟩
 (try simp only[BN]at h5);have hkl:k=l.length:=by first|omega|(have:¬k<l.length:=by simpa using h5;omega)
 rw[hkl,List.drop_length]at hJ;simp only[prL,List.append_nil]at hJ;subst hJ;refine(HT_exit ?_);refine HT_sA ?_;exact HT_ret ⟨.inr rfl,_,le_frz 1003 rfl,⟨⟨_,by simp;rfl,by simp[resR]⟩,by simp,fun h=>by cases h⟩⟩
theorem idxI_con (l:List Int) (g:FuncId) (cap:List CD) (p:Int→Bool) (hl:l.length≤1000000000) (hp:∀v∈l,∀d,Con Tryz.prog g true (li v::cap.map fun c=>.one (.c c)) (.v (lb (p v))) none d) (d:Nat):
  Con Tryz.prog 56 true [lI l,.one (.c (.fn g cap))] (.v (li (match l.findIdx? p with|some i=>(i:Int)|none=>-1))) none d:=by
 have hstep:∀k:Nat,(∀j:Nat,j<k→∀v,l[j]? =some v→p v=false)→∀v,l[k]? =some v→p v=true→l.findIdx? p=some k:=by
  intro k hno v hv hpv;rw[List.findIdx?_eq_some_iff_getElem];have hk:k<l.length:=(List.getElem?_eq_some_iff.1 hv).1;refine⟨hk,?_,fun j hj=>?_⟩
  · simp only[List.getElem?_eq_getElem hk,Option.some.injEq]at hv;rw[hv];exact hpv
  have:=hno j hj l[j] (by simp);simp[this]
 have hnone:(∀j:Nat,j<l.length→∀v,l[j]? =some v→p v=false)→l.findIdx? p=none:=by
  intro hno;rw[List.findIdx?_eq_none_iff];intro v hv;obtain⟨j,hj⟩:=List.mem_iff_getElem?.1 hv;exact hno j (List.getElem?_eq_some_iff.1 hj).1 v hj
 refine con_of_HTA Tryz.func56 ?_;simp only[Tryz.f56];refine HT_sA ?_;refine HT_seq<|HT_seq<|HT_runA ?_;refine HT_block<|(HT_loopU [0,1,7] (fun(x:Nat)=>[(8,.v (li x))]) (fun x=>[]) (fun x=>x≤l.length∧∀j:Nat,j<x→∀v,l[j]? =some v→p v=false) (fun x=>l.length - x) (0:Nat) ⟨Nat.zero_le _,fun j hj=>absurd hj (Nat.not_lt_zero j)⟩ ?_ ?_)
 · exact le_mkA (fun n=>n) []
 rintro k ⟨hk,hJ⟩;simp only[upS,keepS,insS]
 try simp only[keepS,KN,Nat.reduceBEq,if_true,if_false,ins,Nat.reduceLT]
 refine HT_sA ?_;refine HT_seq<|(HT_cond rfl (fun h4=>HT_skip ?_) (fun h4=>?_))
 · (try simp only[BN]at h4);have hlt:k<l.length:=by first|omega|simpa using h4
   obtain⟨v,he,hd⟩:=at_lt hlt;have he2:=get_encIs he;have hw1:=wrap1 hlt (by omega);have hk1:k+1≤l.length:=hlt;have hpv:=hp v (List.mem_of_getElem? he);have hs:=hstep k hJ v he;clear hlt h4 hstep hnone hp;refine HT_seq<|HT_block<|HT_seq<|HT_runA ?_;refine HT_scA [⟨true,.v (lb (p v)),none⟩] ?_ ?_
   · first|exact hpv _|exact trivial|simpa[*]using hpv _
   refine(HT_cs rfl (fun h7=>?_) fun h7=>?_)
   · (try simp only[BN]at h7);rw[hs h7];refine HT_sA ?_;exact HT_rA
   (try simp only[BN]at h7);refine HT_runA ?_;exact⟨k+1,⟨hk1,fun j hj w hw=>(Nat.lt_succ_iff_lt_or_eq.1 hj).elim (fun h=>hJ j h w hw) (fun e=>by subst e;rw[he]at hw;cases hw;exact h7)⟩,by omega,le_mkA (fun n=>n) []⟩
 (try simp only[BN]at h4);rw[hnone fun j hj=>hJ j (by omega)];refine(HT_exit ?_);refine HT_sA ?_;exact HT_rA
theorem any_idx {α:Type} (l:List α) (p:α→Bool):decide (0≤(match l.findIdx? p with|some i=>(i:Int)|none=>-1))=l.any p:=by
 rw[Bool.eq_iff_iff,decide_eq_true_eq,List.any_eq];cases h:l.findIdx? p with
 | none=>
   rw[List.findIdx?_eq_none_iff]at h;simp only[decide_eq_true_eq];constructor
   · intro h;omega
   rintro⟨v,hv,hpv⟩;have:=h v hv;rw[hpv]at this;cases this
 | some i=>
   rw[List.findIdx?_eq_some_iff_getElem]at h;obtain⟨hi,hpi,_⟩:=h;simp only[decide_eq_true_eq];exact⟨fun _=>⟨l[i],List.getElem_mem _,hpi⟩,fun _=>by omega⟩
theorem conI_con (l:List Int) (g:FuncId) (cap:List CD) (p:Int→Bool) (hl:l.length≤1000000000) (hp:∀v∈l,∀d,Con Tryz.prog g true (li v::cap.map fun c=>.one (.c c)) (.v (lb (p v))) none d) (d:Nat):
  Con Tryz.prog 22 true [lI l,.one (.c (.fn g cap))] (.v (lb (l.any p))) none d:=by
 have hr:=idxI_con l g cap p hl hp;have hd:=any_idx l p;obtain⟨r,hrr⟩:∃x:Int,(match l.findIdx? p with|some i=>(i:Int)|none=>-1)=x:=⟨_,rfl⟩;rw[hrr]at hr hd;clear hp hrr;refine con_of_HTA Tryz.func22 ?_;simp only[Tryz.f22];refine HT_sA ?_;refine HT_scA [⟨true,.v (li r),none⟩] ?_ ?_
 · first|exact hr _|exact trivial|simpa[*]using hr _
 exact HT_rA
theorem out_con (x n:Int) (d:Nat):Con Tryz.prog 48 true [li x,.one (.c (.ptr [iC n]))] (.v (lb (decide (x<0)||decide (n≤x)))) none d:=by
 refine con_of_HTA Tryz.func48 ?_;simp only[Tryz.f48];refine HT_sA ?_;refine HT_sA ?_;exact HT_rA
set_option maxHeartbeats 8000000 in
theorem asked24_con (f:Fl) (h:Sm f) (qs:List (List Int)) (hq:qs.length≤100) (hql:∀q∈qs,q.length≤1000000) (d:Nat):Con Tryz.prog 15 true [aF f,lQ qs] (.v (li (askC f qs))) none d:=by
 have cc:=checkR_con f (by have:=h.vars;omega) (by have:=h.hats;omega) (by have:=h.nodes;omega) h.bnd;have cs:=sizeR_con f.body (by have:=h.nodes;omega);have hsl:szL f.body≤1000:=by have:=h.nodes;have:=szL_le f.body;omega
 obtain⟨K,hK⟩:∃x,codeC f=x:=⟨_,rfl⟩;obtain⟨n,hn⟩:∃x,szL f.body=x:=⟨_,rfl⟩;obtain⟨res,hres⟩:∃x,askC f qs=x:=⟨_,rfl⟩;rw[hres];unfold askC at hres;rw[flL_len]at hres;rw[hK]at cc hres;rw[hn]at cs hres hsl;have ci:=fun q (hq:q∈qs)=>conI_con q 48 [.ptr [iC n]] (fun x=>decide (x<0)||decide ((n:Int)≤x)) (by have:=hql q hq;omega) (fun x _ d=>out_con x n d)
 have hbad:∀q∈qs,q.any (fun x=>decide (x<0)||decide ((n:Int)≤x))=true→askB n qs=false:=by
  intro q hq hx;obtain⟨x,hx1,hx2⟩:=List.any_eq_true.1 hx;simp only[Bool.or_eq_true,decide_eq_true_eq]at hx2;exact askB_bad hq hx1 (by omega)
 have hgood:∀qs:List (List Int),(∀q∈qs,q.any (fun x=>decide (x<0)||decide ((n:Int)≤x))=false)→askB n qs=true:=by
  intro qs h;unfold askB;rw[List.all_eq_true];intro q hq;unfold inB;rw[List.all_eq_true];intro x hx;have:=(List.any_eq_false.1 (h q hq)) x hx;simp only[Bool.or_eq_true,decide_eq_true_eq,not_or]at this⊢;omega
 have hgood:=hgood qs;clear hK hn h;obtain⟨vars,hats,body⟩:=f;simp only[aF,Fl.enc,List.map_cons,List.map_nil]at cc cs⊢;refine con_of_HTA Tryz.func15 ?_;simp only[Tryz.f15];refine HT_sA ?_;refine HT_seq<|HT_seq<|(HT_runcA [⟨true,.v (li K),none⟩] ?_ ?_)
 · first|exact cc _|exact trivial|simpa[*]using cc _
 refine HT_sA ?_;refine(HT_cs rfl (fun h3=>?_) fun h3=>?_)
 · (try simp only[BN]at h3);have hne:¬K=0:=by simpa using h3
   rw[if_neg hne]at hres;subst hres;clear h3;refine HT_sA ?_;exact HT_rA
 (try simp only[BN]at h3);have hz:K=0:=by simpa using h3
 rw[if_pos hz]at hres;clear h3 cc;refine HT_scA [⟨true,.v (li n),none⟩] ?_ ?_
 · first|exact cs _|exact trivial|simpa[*]using cs _
 refine HT_seq<|HT_seq<|HT_runA ?_;refine HT_block<|(HT_loopU [6,17,18] (fun(k:Nat)=>[(19,.v (li k))]) (fun k=>[(6,.box [.c (iC n)])]) (fun k=>k≤qs.length∧∀j:Nat,j<k→∀q,qs[j]? =some q→q.any (fun x=>decide (x<0)||decide ((n:Int)≤x))=false) (fun k=>qs.length - k) (0:Nat) ⟨Nat.zero_le _,fun j hj=>absurd hj (Nat.not_lt_zero j)⟩ ?_ ?_)
 · exact le_mkA (fun n=>n) []
 rintro k ⟨hk,hJ⟩;simp only[upS,keepS,insS]
 try simp only[keepS,KN,Nat.reduceBEq,if_true,if_false,ins,Nat.reduceLT]
 refine HT_sA ?_;refine HT_seq<|(HT_cond rfl (fun h10=>HT_skip ?_) (fun h10=>?_))
 · (try simp only[BN]at h10);have hlt:k<qs.length:=by first|omega|simpa using h10
   obtain⟨q,he,hd⟩:=at_lt hlt;have he2:=get_encQ he;have hw1:=wrap1 hlt (by omega);have hk1:k+1≤qs.length:=hlt;have cq:=ci q (List.mem_of_getElem? he);have hb:=hbad q (List.mem_of_getElem? he);obtain⟨G,hG⟩:∃x,q.any (fun x=>decide (x<0)||decide ((n:Int)≤x))=x:=⟨_,rfl⟩;rw[hG]at cq hb;clear hlt h10 hgood hbad ci hd;refine HT_seq<|HT_block<|HT_seq<|HT_runA ?_;refine HT_scA [⟨true,.v (lb G),none⟩] ?_ ?_
   · first|exact cq _|exact trivial|simpa[*]using cq _
   refine(HT_cs rfl (fun h13=>?_) fun h13=>?_)
   · (try simp only[BN]at h13);have hGt:G=true:=by simpa using h13
     rw[if_neg (by rw[hb hGt];simp)]at hres;subst hres;refine HT_sA ?_;exact HT_rA
   (try simp only[BN]at h13);have hGf:G=false:=by simpa using h13
   refine HT_runA ?_;exact⟨k+1,⟨hk1,fun j hj w hw=>(Nat.lt_succ_iff_lt_or_eq.1 hj).elim (fun h=>hJ j h w hw) (fun e=>by subst e;rw[he]at hw;cases hw;rw[hG,hGf])⟩,by omega,le_mkA (fun n=>n) []⟩
 (try simp only[BN]at h10);have hkl:k=qs.length:=by first|omega|(have:¬k<qs.length:=by simpa using h10;omega)
 subst hkl
 have hg:=hgood fun q hq=>by
  obtain⟨j,hj⟩:=List.mem_iff_getElem?.1 hq;exact hJ j (List.getElem?_eq_some_iff.1 hj).1 q hj
 rw[if_pos hg]at hres;subst hres;refine(HT_exit ?_);refine HT_sA ?_;exact HT_rA
end Go.Proofs.YtppjennamodfdaaGreat

namespace Go.Proofs.YtppjennamodfdaaGreat
open Go Go.Hl
def toI (l:List Nat):List Int:=l.map Int.ofNat
theorem encD_toI (l:List Nat):encD l=encIs (toI l):=encD_enc l
theorem mem_toI (l:List Nat) (s:Int):s∈toI l↔0≤s∧s.toNat∈l:=by
 simp only[toI,List.mem_map];constructor
 · rintro⟨n,hn,rfl⟩;exact⟨Int.natCast_nonneg n,by simpa using hn⟩
 rintro⟨h,hs⟩;exact⟨_,hs,Int.toNat_of_nonneg h⟩
theorem toI_len (l:List Nat):(toI l).length=l.length:=by simp[toI]
structure Lk (n:Nat) (L:List (List Nat)):Prop where
 ok:okLk L
 len:L.length=n
variable {n:Nat} {L:List (List Nat)}
def okQ (n:Nat) (q:List Int):Prop:=∀x∈q,0≤x∧x<n
theorem okQ.nat {q:List Int} (h:okQ n q):∀d∈natL q,d<n:=by
 intro d hd;obtain⟨x,hx,rfl⟩:=List.mem_map.1 hd;have:=h x hx;omega
theorem Cl.mono {l m:List Nat} (h:∀d∈l,Cl L m d) {d:Nat} (hd:Cl L l d):Cl L m d:=by
 induction hd with
 |base h1=>exact h _ h1
 |step _ h2 ih=>exact .step ih h2
theorem ask_ok {f:Fl} (h0:codeC f=0) {q:List Int} (hq:okQ (szL f.body) q):askC f [q]=0:=by
 have:askB (flL f.body).length [q]=true:=by
  simp only[askB,inB,flL_len,List.all_cons,List.all_nil,Bool.and_true,List.all_eq_true,decide_eq_true_eq];exact hq
 rw[askC,if_pos h0,if_pos this]
end Go.Proofs.YtppjennamodfdaaGreat

namespace Go.Proofs.YtppjennamodfdaaGreat
open Go Go.Hl
theorem eqT_con (t:Tm):t.nodes≤1000000000→∀d:Nat,Con Tryz.prog 70 true [aT t,aT t] (.v (lb true)) none d:=by
 induction t using Tm.ind with
 |h o n ks ih=>
 intro hn d;simp only[Tm.nodes]at hn;have hlen:=len_nodesT ks;refine con_of_HTA Tryz.func70 ?_;simp only[Tryz.f70];simp only[aT,Tm.enc];refine HT_sA ?_;refine HT_seq<|HT_seq<|HT_runA ?_;refine(HT_cs rfl (fun h2=>?_) fun h2=>?_)
 · exact absurd h2 (by simp)
 (try simp only[BN]at h2);refine HT_seq<|HT_seq<|HT_runA ?_;refine HT_block<|(HT_loopU [2,3] (fun(x:Nat)=>[(5,.v (li x))]) (fun x=>[(2,.box [.c (iC o),.c (iC n),.c (.sl 3 (encTs ks))]),(3,.box [.c (iC o),.c (iC n),.c (.sl 3 (encTs ks))])]) (fun x=>x≤ks.length) (fun x=>ks.length - x) (0:Nat) (Nat.zero_le _) ?_ ?_)
 · exact le_mkA (fun n=>n) []
 rintro k hk;simp only[upS,keepS,insS]
 try simp only[keepS,KN,Nat.reduceBEq,if_true,if_false,ins,Nat.reduceLT]
 refine HT_seq<|HT_seq<|HT_runA ?_;refine(HT_cond rfl (fun h8=>HT_skip ?_) (fun h8=>?_))
 · (try simp only[BN]at h8);have hlt:k<ks.length:=by omega
   obtain⟨⟨eo,en,ek⟩,he,hd⟩:=at_lt hlt;have he':=get_encT he;simp only[Tm.enc]at he';have hw1:=wrap1 hlt (by omega);have hk1:k+1≤ks.length:=hlt;have hmem:Tm.mk eo en ek∈ks:=List.mem_of_getElem? he;have hnm:=nodes_mem hmem;have c:=ih _ hmem (by omega);clear hlt h8 ih hmem hnm;refine HT_seq<|HT_block<|HT_seq<|(HT_drunc [⟨true,.v (lb true),none⟩] (by kernel_rfl) (by kernel_rfl) (by rfl) (by simp[*];first|exact⟨rfl,Iff.rfl⟩|exact⟨rfl,trivial⟩|rfl) ?_ ?_)
   · first|exact c _|exact trivial|simpa[*]using c _
   refine(HT_cs rfl (fun h10=>?_) fun h10=>?_)
   · exact absurd h10 (by simp)
   (try simp only[BN]at h10);refine HT_runA ?_;exact⟨k+1,hk1,by omega,le_mkA (fun n=>n) []⟩
 (try simp only[BN]at h8);refine(HT_exit ?_);refine HT_sA ?_;exact HT_rA
theorem eqI_con (l:List Int) (hl:l.length≤1000000000) (d:Nat):Con Tryz.prog 107 true [lI l,lI l] (.v (lb true)) none d:=by
 refine con_of_HTA Tryz.func107 ?_;simp only[Tryz.f107];refine HT_sA ?_;refine HT_seq<|HT_seq<|HT_runA ?_;refine(HT_cs rfl (fun h2=>?_) fun h2=>?_)
 · exact absurd h2 (by simp)
 (try simp only[BN]at h2);refine HT_seq<|HT_seq<|HT_runA ?_;refine HT_block<|(HT_loopU [0,1] (fun(x:Nat)=>[(5,.v (li x))]) (fun x=>[]) (fun x=>x≤l.length) (fun x=>l.length - x) (0:Nat) (Nat.zero_le _) ?_ ?_)
 · exact le_mkA (fun n=>n) []
 rintro k hk;simp only[upS,keepS,insS]
 try simp only[keepS,KN,Nat.reduceBEq,if_true,if_false,ins,Nat.reduceLT]
 refine HT_seq<|HT_seq<|HT_runA ?_;refine(HT_cond rfl (fun h8=>HT_skip ?_) (fun h8=>?_))
 · (try simp only[BN]at h8);have hlt:k<l.length:=by omega
   obtain⟨x,he,hd⟩:=at_lt hlt;have hw1:=wrap1 hlt (by omega);have hk1:k+1≤l.length:=hlt;clear hlt h8;refine HT_seq<|HT_block<|HT_seq<|(HT_drun (by kernel_rfl) (by kernel_rfl) (by rfl) (by simp[*];rfl) ?_);refine(HT_cs rfl (fun h10=>?_) fun h10=>?_)
   · exact absurd h10 (by simp)
   (try simp only[BN]at h10);refine HT_runA ?_;exact⟨k+1,hk1,by omega,le_mkA (fun n=>n) []⟩
 (try simp only[BN]at h8);refine(HT_exit ?_);refine HT_sA ?_;exact HT_rA
theorem eqS_con (l:List St):nodesS l≤1000000000→bndL l=true→∀d:Nat,Con Tryz.prog 69 true [lS l,lS l] (.v (lb true)) none d:=by
 revert l
 apply St.lists;intro l ih hn hbn d;have hlen:=len_nodesS l;refine con_of_HTA Tryz.func69 ?_;simp only[Tryz.f69];refine HT_sA ?_;refine HT_seq<|HT_seq<|HT_runA ?_;refine(HT_cs rfl (fun h2=>?_) fun h2=>?_)
 · exact absurd h2 (by simp)
 (try simp only[BN]at h2);refine HT_seq<|HT_seq<|HT_runA ?_;refine HT_block<|(HT_loopU [0,1] (fun(x:Nat)=>[(5,.v (li x))]) (fun x=>[]) (fun x=>x≤l.length) (fun x=>l.length - x) (0:Nat) (Nat.zero_le _) ?_ ?_)
 · exact le_mkA (fun n=>n) []
 rintro k hk;simp only[upS,keepS,insS]
 try simp only[keepS,KN,Nat.reduceBEq,if_true,if_false,ins,Nat.reduceLT]
 refine HT_seq<|HT_seq<|HT_runA ?_;refine(HT_cond rfl (fun h8=>HT_skip ?_) (fun h8=>?_))
 · (try simp only[BN]at h8);have hlt:k<l.length:=by omega
   obtain⟨s,he,hd⟩:=at_lt hlt;have hw1:=wrap1 hlt (by omega);have hk1:k+1≤l.length:=hlt;have hmem:s∈l:=List.mem_of_getElem? he;have hnm:=nodesS_mem hmem;have hbm:=bndL_mem hbn hmem;have ca:=(ih s hmem).1 (by omega);have cb:=(ih s hmem).2 (by omega);have ct:=eqT_con s.term (by omega);have cc:=eqI_con s.bounds;have he':=get_encS he;obtain⟨sd,sc,sv,sn,⟨so,stn,sks⟩,sa,sb,sbs⟩:=s;simp only[St.then_,St.else_,St.term,St.bounds]at ca cb ct cc;simp only[bndS,Bool.and_eq_true,decide_eq_true_eq]at hbm;have ca:=ca hbm.2.1;have cb:=cb hbm.2.2;have cc:=cc hbm.1;simp only[St.enc,Tm.enc,List.cons_append,List.nil_append]at he';simp only[aT,Tm.enc,List.map_cons,List.map_nil]at ct;clear hlt h8 ih hmem hnm he hd hbm;refine HT_seq<|HT_block<|HT_seq<|(HT_drunH [(6,6),(7,7),(23,2000000),(24,2000000),(25,2000000)] (by kernel_rfl) (by kernel_rfl) (by rfl) (by simp[evsH,hokB,hintOf, *];rfl) ?_);refine HT_scA [⟨true,.v (lb true),none⟩,⟨true,.v (lb true),none⟩,⟨true,.v (lb true),none⟩,⟨true,.v (lb true),none⟩] ?_ ?_
   · first|exact⟨ct _,cc _,ca _,cb _⟩|exact trivial|(repeat' first|exact trivial|exact ct _|exact cc _|exact ca _|exact cb _|apply And.intro)
   refine(HT_cs rfl (fun h11=>?_) fun h11=>?_)
   · exact absurd h11 (by simp)
   (try simp only[BN]at h11);refine HT_runA ?_;exact⟨k+1,hk1,by omega,le_mkA (fun n=>n) []⟩
 (try simp only[BN]at h8);refine(HT_exit ?_);refine HT_sA ?_;exact HT_rA
theorem eqF_con (f:Fl) (hv:f.vars.length≤1000000) (hh:f.hats.length≤1000000) (hn:nodesS f.body+nodesH f.hats≤900000000) (hb:bndL f.body=true) (d:Nat):
  Con Tryz.prog 29 true [aF f,aF f] (.v (lb true)) none d:=by
 have cs:=eqS_con f.body (by omega) hb;have ct:=fun(h:Ht) (hm:h∈f.hats)=>eqT_con h.term (by have:=nodesH_mem hm;omega);obtain⟨vars,hats,body⟩:=f;simp only at hv hh hn hb cs ct;refine con_of_HTA Tryz.func29 ?_;simp only[Tryz.f29];simp only[aF,Fl.enc,List.map_cons,List.map_nil];refine HT_sA ?_;refine HT_seq<|HT_seq<|(HT_runcA [⟨true,.v (lb true),none⟩] ?_ ?_)
 · first|exact cs _|exact trivial|simpa[*]using cs _
 refine(HT_cs rfl (fun h2=>?_) fun h2=>?_)
 · exact absurd h2 (by simp)
 (try simp only[BN]at h2);refine HT_seq<|HT_seq<|HT_runA ?_;refine HT_block<|(HT_loopU [2,3] (fun(x:Nat)=>[(5,.v (li x))]) (fun x=>[(2,.box [.c (.sl 5 (encVs vars)),.c (.sl 6 (encHs hats)),.c (.sl 10 (encSs body))]),(3,.box [.c (.sl 5 (encVs vars)),.c (.sl 6 (encHs hats)),.c (.sl 10 (encSs body))])]) (fun x=>x≤vars.length) (fun x=>vars.length - x) (0:Nat) (Nat.zero_le _) ?_ ?_)
 · exact le_mkA (fun n=>n) []
 rintro k hk;simp only[upS,keepS,insS]
 try simp only[keepS,KN,Nat.reduceBEq,if_true,if_false,ins,Nat.reduceLT]
 refine HT_seq<|HT_seq<|HT_runA ?_;refine(HT_cond rfl (fun h8=>HT_skip ?_) (fun h8=>?_))
 · (try simp only[BN]at h8);have hlt:k<vars.length:=by omega
   obtain⟨v,he,hd⟩:=at_lt hlt;have hw1:=wrap1 hlt (by omega);have hk1:k+1≤vars.length:=hlt;clear hlt h8 hd;refine HT_seq<|HT_block<|HT_seq<|(HT_drun (by kernel_rfl) (by kernel_rfl) (by rfl) (by simp[*];rfl) ?_);refine(HT_cs rfl (fun h10=>?_) fun h10=>?_)
   · exact absurd h10 (by simp)
   (try simp only[BN]at h10);refine HT_runA ?_;exact⟨k+1,hk1,by omega,le_mkA (fun n=>n) []⟩
 (try simp only[BN]at h8);refine(HT_exit ?_);refine HT_seq<|HT_seq<|HT_runA ?_;refine HT_block<|(HT_loopU [2,3] (fun(x:Nat)=>[(6,.v (li x))]) (fun x=>[(2,.box [.c (.sl 5 (encVs vars)),.c (.sl 6 (encHs hats)),.c (.sl 10 (encSs body))]),(3,.box [.c (.sl 5 (encVs vars)),.c (.sl 6 (encHs hats)),.c (.sl 10 (encSs body))])]) (fun x=>x≤hats.length) (fun x=>hats.length - x) (0:Nat) (Nat.zero_le _) ?_ ?_)
 · exact le_mkA (fun n=>n) []
 rintro k hk;simp only[upS,keepS,insS]
 try simp only[keepS,KN,Nat.reduceBEq,if_true,if_false,ins,Nat.reduceLT]
 refine HT_seq<|HT_seq<|HT_runA ?_;refine(HT_cond rfl (fun h18=>HT_skip ?_) (fun h18=>?_))
 · (try simp only[BN]at h18);have hlt:k<hats.length:=by omega
   obtain⟨h,he,hd⟩:=at_lt hlt;have hw1:=wrap1 hlt (by omega);have hk1:k+1≤hats.length:=hlt;have ct:=ct h (List.mem_of_getElem? he);obtain⟨nm,lo,hi,⟨o,tn,ks⟩⟩:=h;simp only[aT,Tm.enc,List.map_cons,List.map_nil]at ct;clear hlt h18 hd;refine HT_seq<|HT_block<|HT_seq<|(HT_drunH [(58,2),(63,3),(7,7),(8,8),(64,2000000),(65,2000000),(66,2000000)] (by kernel_rfl) (by kernel_rfl) (by rfl) (by simp[evsH,hokB,hintOf, *];rfl) ?_);refine HT_scA [⟨true,.v (lb true),none⟩] ?_ ?_
   · first|exact ct _|exact trivial|simpa[*]using ct _
   refine(HT_cs rfl (fun h21=>?_) fun h21=>?_)
   · exact absurd h21 (by simp)
   (try simp only[BN]at h21);refine HT_runA ?_;exact⟨k+1,hk1,by omega,le_mkA (fun n=>n) []⟩
 (try simp only[BN]at h18);refine(HT_exit ?_);refine HT_sA ?_;exact HT_rA
end Go.Proofs.YtppjennamodfdaaGreat

namespace Go.Proofs.YtppjennamodfdaaGreat
open Go Go.Hl
theorem askC_lq {f:Fl} {q:List Int} {C:Int} (h:askC f [q]=C) (hz:C=0):codeC f=0:=(ask_zero (h.trans hz)).1
theorem all_okQ (n:Nat):okQ n (toI (List.range n)):=by
 intro x hx;obtain⟨h0,h1⟩:=(mem_toI _ _).1 hx;have:=List.mem_range.1 h1;omega
theorem pg_all (f:Fl):pgF f (toI (List.range (szL f.body)))=f:=by
 obtain⟨vars,hats,body⟩:=f;unfold pgF;simp only;rw[idxs_all fun m h1 h2=>(mem_toI _ _).2 ⟨h1,List.mem_range.2 (by omega)⟩]
theorem pg_kept (f:Fl) (q:List Int):pgF f q=⟨f.vars,f.hats,prL (kp q) f.body 0⟩:=by
 unfold pgF;rw[pgL_eq];rfl
theorem fitQ_few {f:Fl} {qs:List (List Int)} (h:fitQ f qs=true):fewB f 70 300=true∧∀q∈qs,q.length≤40:=by
 unfold fitQ at h;simp only[Bool.and_eq_true,Bool.not_eq_true',List.any_eq_false,decide_eq_true_eq]at h;refine⟨h.2.1,fun q hq=>?_⟩;have:=h.1 q hq;omega
theorem encD_rsnoc (k:Nat):encD (List.range (k+1))=encD (List.range k)++[[iC k]]:=by
 rw[List.range_succ];simp[encD]
theorem encD_rlen (k:Nat):(encD (List.range k)).length=k:=by simp[encD]
set_option maxHeartbeats 16000000 in
theorem programs_law (f:Fl) (q:List Int) (d:Nat):Con Tryz.prog 6 true [aF f,lI q] (.v (lb true)) none d:=by
 have ck:=known_con;have cf:=fit_con f [q] (by simp);obtain⟨FQ,hFQ⟩:∃x,fitQ f [q]=x:=⟨_,rfl⟩;rw[hFQ]at cf;have hsm:=fun h:FQ=true=>few_sm (fitQ_few (hFQ.trans h)).1;have hql:=fun h:FQ=true=>(fitQ_few (hFQ.trans h)).2 q (by simp);obtain⟨C,hC⟩:∃x,askC f [q]=x:=⟨_,rfl⟩;have cp:=fun h:FQ=true=>program_con f (hsm h) q (by have:=hql h;omega);have ca:=fun h:FQ=true=>asked24_con f (hsm h) [q] (by simp) (fun q' hq'=>by rw[List.mem_singleton.1 hq'];have:=hql h;omega);have hcode:=fun h:C=0=>askC_lq hC h;have hcodeP:=fun h:C=0=>pg_code (hcode h) q;have ckp:=fun h:FQ=true=>kept_con q (by have:=hql h;omega) f.body (by have:=(hsm h).nodes;omega) 0 (by omega) (by have:=(hsm h).nodes;have:=szL_le f.body;omega);have hsz:=fun h:FQ=true=>sizeR_con f.body (by have:=(hsm h).nodes;omega);have cp2:=fun(h:FQ=true)=>program_con f (hsm h) (toI (List.range (szL f.body))) (by rw[toI_len,List.length_range];have:=(hsm h).nodes;have:=szL_le f.body;omega);have hask2:=fun h:C=0=>ask_ok (hcode h) (all_okQ (szL f.body));have hnl:=fun h:FQ=true=>(by have:=(hsm h).nodes;have:=szL_le f.body;omega:szL f.body≤1000);obtain⟨p1,p2,p3,p4⟩:=pr_nodes (kp q) f.body 0;have ceP:=fun h:FQ=true=>eqF_con ⟨f.vars,f.hats,prL (kp q) f.body 0⟩ (by have:=(hsm h).vars;simp only;omega) (by have:=(hsm h).hats;simp only;omega) (by have:=(hsm h).nodes;simp only;omega) (p4 (hsm h).bnd);have ccP:=fun h:FQ=true=>checkR_con ⟨f.vars,f.hats,prL (kp q) f.body 0⟩ (by have:=(hsm h).vars;simp only;omega) (by have:=(hsm h).hats;simp only;omega) (by have:=(hsm h).nodes;simp only;omega) (p4 (hsm h).bnd);have ceF:=fun h:FQ=true=>eqF_con f (by have:=(hsm h).vars;omega) (by have:=(hsm h).hats;omega) (by have:=(hsm h).nodes;omega) (hsm h).bnd;rw[pg_kept]at cp hcodeP;rw[pg_all]at cp2;rw[hC]at cp ca;rw[←encD_toI]at cp2;simp only[lQ,encQ,List.map_cons,List.map_nil]at cf ca;clear hC hsm hql hcode;obtain⟨vars,hats,body⟩:=f
 try simp only at cp cp2 ckp hsz hask2 hnl ceP ccP ceF hcodeP p1 p2 p3 p4
 obtain⟨B,hB⟩:∃x,prL (kp q) body 0=x:=⟨_,rfl⟩;rw[hB]at cp ckp ceP ccP hcodeP;obtain⟨n,hn⟩:∃x,szL body=x:=⟨_,rfl⟩;rw[hn]at hsz hask2 hnl cp2;have hw0:∀b:Bool,(lb b:TV)=lb b:=fun _=>rfl;clear p1 p2 p3 p4 hB hn hFQ hw0;simp only[aF,Fl.enc,List.map_cons,List.map_nil]at cf ca cp cp2 ceP ccP ceF⊢;refine con_of_HTA Tryz.func6 ?_;simp only[Tryz.f6];refine HT_sA ?_;refine HT_seq<|HT_seq<|(HT_runcA [⟨false,.v (lb true),none⟩] ?_ ?_)
 · first|exact ck _|exact trivial|simpa[*]using ck _
 refine(HT_cs rfl (fun h2=>?_) fun h2=>?_)
 · exact absurd h2 (by simp)
 (try simp only[BN]at h2);refine HT_seq<|HT_seq<|(HT_runcA [⟨true,.v (lb FQ),none⟩] ?_ ?_)
 · first|exact cf _|exact trivial|simpa[*]using cf _
 refine(HT_cs rfl (fun h6=>?_) fun h6=>?_)
 · (try simp only[BN]at h6);refine HT_sA ?_;exact HT_rA
 (try simp only[BN]at h6);have hF:FQ=true:=by simpa using h6
 have cp:=cp hF;have ca:=ca hF;have ckp:=ckp hF;have hsz:=hsz hF;have cp2:=cp2 hF;have hnl:=hnl hF;have ceP:=ceP hF;have ccP:=ccP hF;have ceF:=ceF hF;clear h6 cf ck;by_cases hz:C=0
 · rw[if_pos hz]at cp;have ccP0:=hcodeP hz;rw[ccP0]at ccP;rw[hask2 hz,if_pos rfl]at cp2;subst hz;clear ccP0 hcodeP hask2;refine HT_scA [⟨false,.tup [.agg [.c (.sl 5 (encVs vars)),.c (.sl 6 (encHs hats)),.c (.sl 10 (encSs B))],li 0],none⟩] ?_ ?_
   · first|exact cp _|exact trivial|simpa[*]using cp _
   refine HT_seq<|HT_seq<|(HT_runcA [⟨true,.v (li 0),none⟩] ?_ ?_)
   · first|exact ca _|exact trivial|simpa[*]using ca _
   refine HT_sA ?_;refine(HT_cs rfl (fun h12=>?_) fun h12=>?_)
   · exact absurd h12 (by simp)
   (try simp only[BN]at h12);refine HT_sA ?_;refine HT_scA [⟨false,.v (lS B),none⟩] ?_ ?_
   · first|exact ckp _|exact trivial|simpa[*]using ckp _
   refine HT_sA ?_;refine HT_seq<|HT_seq<|(HT_runcA [⟨true,.v (li n),none⟩] ?_ ?_)
   · first|exact hsz _|exact trivial|simpa[*]using hsz _
   refine HT_block<|(HT_loopU [2,5,6,8,57] (fun(k:Nat)=>[(9,.v (.one (.own 1003))),(58,.v (li k))]) (fun k=>[(2,.box [.c (.sl 5 (encVs vars)),.c (.sl 6 (encHs hats)),.c (.sl 10 (encSs body))]),(5,.box [.c (.sl 5 (encVs vars)),.c (.sl 6 (encHs hats)),.c (.sl 10 (encSs B))]),(8,.box [.c (.sl 5 (encVs vars)),.c (.sl 6 (encHs hats)),.c (.sl 10 (encSs B))]),(1003,.row 3 1 (encD (List.range k)))]) (fun k=>k≤n) (fun k=>n - k) (0:Nat) (Nat.zero_le _) ?_ ?_)
   · exact le_mkA (fun n=>n) [1003]
   rintro k hk;simp only[upS,keepS,insS]
   try simp only[keepS,KN,Nat.reduceBEq,if_true,if_false,ins,Nat.reduceLT]
   refine HT_sA ?_;refine HT_seq<|(HT_cond rfl (fun h21=>HT_skip ?_) (fun h21=>?_))
   · (try simp only[BN]at h21);have hlt:k<n:=by first|omega|simpa using h21
     have hw1:IntKind.i64.wrap ((k:Int)+1)=(k:Int)+1:=wrap_in (by omega) (by omega);have hsn:=encD_rsnoc k;have hrl:=encD_rlen k;have hroom:room (k+1) 8:=room_of (by omega) (by decide);refine HT_seq<|HT_block<|HT_seq<|HT_runA ?_;refine HT_runA ?_;refine HT_runA ?_;exact⟨k+1,(by omega),by omega,le_mkA (fun n=>if n=1003 then 64 else n) []⟩
   (try simp only[BN]at h21);have hkn:k=n:=by first|omega|(have:¬k<n:=by simpa using h21;omega)
   subst hkn;clear h21;refine(HT_exit ?_);refine HT_le (le_frz 1003 rfl) ?_;refine HT_scA [⟨false,.tup [.agg [.c (.sl 5 (encVs vars)),.c (.sl 6 (encHs hats)),.c (.sl 10 (encSs body))],li 0],none⟩] ?_ ?_
   · first|exact cp2 _|exact trivial|simpa[*]using cp2 _
   refine HT_scA [⟨true,.v (lb true),none⟩,⟨true,.v (li 0),none⟩,⟨true,.v (lb true),none⟩] ?_ ?_
   · first|exact⟨ceP _,ccP _,ceF _⟩|exact trivial|(repeat' first|exact trivial|exact ceP _|exact ccP _|exact ceF _|apply And.intro)
   exact HT_rA
 rw[if_neg hz]at cp;clear hcodeP hask2 cp2 ckp hsz ceP ccP ceF;refine HT_scA [⟨false,.tup [.agg [.c (.lit nilS),.c (.lit nilS),.c (.lit nilS)],li C],none⟩] ?_ ?_
 · first|exact cp _|exact trivial|simpa[*]using cp _
 refine HT_seq<|HT_seq<|(HT_runcA [⟨true,.v (li C),none⟩] ?_ ?_)
 · first|exact ca _|exact trivial|simpa[*]using ca _
 refine HT_sA ?_;refine(HT_cs rfl (fun h12=>?_) fun h12=>?_)
 · (try simp only[BN]at h12);refine HT_sA ?_;exact HT_rA
 exact absurd h12 (by simpa using hz)
end Go.Proofs.YtppjennamodfdaaGreat
