/- Part 13: contracts of functions of the program and of the reference, and plain facts about what they compute; used by the proof of the claimed statement. Conditions: as each theorem states. -/
import Derived.Test.YtppjennamodfdaaGreatK12
import Derived.Test.YtppjennamodfdaaGreatK11
import Derived.Test.YtppjennamodfdaaGreatK3
import Derived.Test.YtppjennamodfdaaGreatK7
set_option linter.unusedSimpArgs false
set_option linter.unusedVariables false
set_option linter.unnecessarySimpa false
set_option maxRecDepth 100000
set_option maxHeartbeats 2000000
namespace Go.Proofs.YtppjennamodfdaaGreat
open Go Go.Hl
theorem Xcl {vars:List Vr} (h:Zy vars=0):∀k,1≤k→k≤3→spc vars k≤4096:=by
 intro k h1 h2;unfold Zy at h;split at h
 · split at h
   · cases h
   rename_i hb;simp only[List.any_cons,List.any_nil,Bool.or_false,Bool.or_eq_true,X2X,decide_eq_true_eq,not_or]at hb;have:k=1∨k=2∨k=3:=by omega
   rcases this with rfl|rfl|rfl<;>omega
 rename_i h0;exact absurd h h0
def fitB (f:Fl) (a b c:Int):Bool:=X1w f 10 80&&(decide (Q0 f=0)&&(((decide (spc f.vars 1≤a)&&decide (spc f.vars 2≤b))&&decide (spc f.vars 3≤c))&&decide ((bdL CR f.body ⟨0,0,0⟩).s≤400)))
theorem Xd2 (f:Fl) (a b c:Int) (d:Nat):Con Tryz.prog 42 true [aF f,li a,li b,li c] (.v (lb (fitB f a b c))) none d:=by
 have cf:=XbQ f 10 80 (by decide) (by decide)
 have hin:X1w f 10 80=true→f.vars.length≤1000000∧f.hats.length≤1000000∧Xk f.body+Qw f.hats≤80∧QX f.body=true:=by
  intro h;have:=X89 (nodes:=80) (by decide) h;exact⟨by omega,by omega,by omega,this.2.2.2⟩
 have hcc:X1w f 10 80=true→∀d,Con Tryz.prog 25 true [aF f] (.v (li (Q0 f))) none d:=fun h=>Zl f (hin h).1 (hin h).2.1 (by have:=(hin h).2.2.1;omega) (hin h).2.2.2
 have hsp:X1w f 10 80=true→Q0 f=0→∀k,1≤k→k≤3→∀d,Con Tryz.prog 79 true [lV f.vars,li k] (.tup [li (spc f.vars k),li 0]) none d:=fun h h0 k k1 k2=>
  X99 f.vars k ⟨k1,k2⟩ (X2B (WV h0).2.1) (hin h).1 (Xcl (WV h0).2.1 k k1 k2)
 have hbd:X1w f 10 80=true→Q0 f=0→∀d,Con Tryz.prog 66 true [lS f.body] (.tup [li (bdL CR f.body ⟨0,0,0⟩).s,li (bdL CR f.body ⟨0,0,0⟩).o,li (bdL CR f.body ⟨0,0,0⟩).t]) none d:=fun h h0=>
  X4T f.body (by have:=(hin h).2.2.1;omega) (X1M _ _ (WV h0).2.2.2.1)
 obtain⟨res,hres⟩:∃r,fitB f a b c=r:=⟨_,rfl⟩;rw[hres];unfold fitB at hres;obtain⟨vars,hats,body⟩:=f;simp only at hsp hbd hres;obtain⟨FW,hFW⟩:∃x,X1w ⟨vars,hats,body⟩ 10 80=x:=⟨_,rfl⟩;obtain⟨K,hK⟩:∃x,Q0 ⟨vars,hats,body⟩=x:=⟨_,rfl⟩;obtain⟨S1,h1⟩:∃x,spc vars 1=x:=⟨_,rfl⟩;obtain⟨S2,h2⟩:∃x,spc vars 2=x:=⟨_,rfl⟩;obtain⟨S3,h3⟩:∃x,spc vars 3=x:=⟨_,rfl⟩;have q1:=fun h h0=>hsp h h0 1 (by decide) (by decide);have q2:=fun h h0=>hsp h h0 2 (by decide) (by decide);have q3:=fun h h0=>hsp h h0 3 (by decide) (by decide);obtain⟨⟨bs,bo,bt⟩,hB⟩:∃x,bdL CR body ⟨0,0,0⟩=x:=⟨_,rfl⟩;rw[hFW]at cf hcc q1 q2 q3 hbd hres;rw[hK]at hcc q1 q2 q3 hbd hres;rw[hB]at hbd hres;rw[h1]at q1 hres;rw[h2]at q2 hres;rw[h3]at q3 hres;simp only at hbd hres;clear hFW hK h1 h2 h3 hB hsp hin;refine X5 Tryz.func42 ?_;simp only[Tryz.f42];simp only[aF,Fl.enc,List.map_cons,List.map_nil]at cf hcc⊢;refine X3 ?_;rcases FW with _|_
 · clear hcc q1 q2 q3 hbd;subst hres;refine X1<|X1<|(WP [some ⟨true,.v (lb false),none⟩,none] (by simp[*];first|exact⟨rfl,Iff.rfl⟩|exact⟨rfl,trivial⟩|rfl) ?_ ?_)
   · first|exact trivial|exact cf _|simpa using cf _
   refine(Xa rfl (fun h2=>?_) fun h2=>?_)
   · (try simp only[BN]at h2);refine X3 ?_;exact Xc
   exact absurd h2 (by simp)
 have hcc:=hcc rfl;simp only[Bool.true_and]at hres;refine X1<|X1<|(Xm [⟨true,.v (lb true),none⟩,⟨true,.v (li K),none⟩] ?_ ?_)
 · first|exact⟨cf _,hcc _⟩|exact trivial|(repeat' first|exact trivial|exact cf _|exact hcc _|apply And.intro)
 refine(Xa rfl (fun h2=>?_) fun h2=>?_)
 · (try simp only[BN]at h2);have hk:¬K=0:=by simpa using h2
   rw[decide_eq_false hk,Bool.false_and]at hres;subst hres;clear q1 q2 q3 hbd;refine X3 ?_;exact Xc
 (try simp only[BN]at h2);have hk:K=0:=by simpa using h2
 have q1:=q1 rfl hk;have q2:=q2 rfl hk;have q3:=q3 rfl hk;have hbd:=hbd rfl hk;rw[decide_eq_true hk,Bool.true_and]at hres;clear cf hcc h2 hk;refine Xj [⟨true,.tup [li S1,li 0],none⟩] ?_ ?_
 · first|exact q1 _|exact trivial|simpa[*]using q1 _
 refine Xj [⟨true,.tup [li S2,li 0],none⟩] ?_ ?_
 · first|exact q2 _|exact trivial|simpa[*]using q2 _
 refine Xj [⟨true,.tup [li S3,li 0],none⟩] ?_ ?_
 · first|exact q3 _|exact trivial|simpa[*]using q3 _
 refine Xj [⟨true,.tup [li bs,li bo,li bt],none⟩] ?_ ?_
 · first|exact hbd _|exact trivial|simpa[*]using hbd _
 refine X3 ?_;subst hres;exact Xc
structure Fit (f:Fl) (a b c:Int):Prop where
 hv:f.vars.length≤10
 hh:f.hats.length≤10
 hn:Xk f.body+Qw f.hats≤80
 hb:QX f.body=true
 code:Q0 f=0
 good:X08 f.vars
 s1:spc f.vars 1≤a
 s2:spc f.vars 2≤b
 s3:spc f.vars 3≤c
theorem XdF {f:Fl} {i:Inp} (hb:QX f.body=true):(X2S f i).1.outs.length≤1000000000:=by
 unfold X2S X1t;split
 · rename_i h0;split
   · rename_i hc;split
     · have h1:=(X8f hb (by assumption)).2.1;have h2:=(Wo f.vars (Wh (stL i f.vars 0 0 0 [] true).1 f.hats) f.body ⟨(stL i f.vars 0 0 0 [] true).1,[],0⟩).2;simp only[List.length_nil]at h2⊢;omega
     simp[st0]
   simp[st0]
 simp
end Go.Proofs.YtppjennamodfdaaGreat

namespace Go.Proofs.YtppjennamodfdaaGreat
open Go Go.Hl
def szO:Option St→Nat
 |some s=>szS s
 |none=>1
mutual
def prS (keep:Int→Bool):St→Int→St
 | .mk d c v n t a b bs,o=>.mk d c v n t (prL keep a (o+1)) (prL keep b (o+1+szL a)) bs
def prL (keep:Int→Bool):List St→Int→List St
 |[],_=>[]
 |s::l,o=>(if keep o=true then [prS keep s o] else [])++prL keep l (o+szS s)
end
mutual
def idS (keep:Int→Bool):St→Int→List Int
 | .mk _ _ _ _ _ a b _,o=>o::(idL keep a (o+1)++idL keep b (o+1+szL a))
def idL (keep:Int→Bool):List St→Int→List Int
 |[],_=>[]
 |s::l,o=>(if keep o=true then idS keep s o else [])++idL keep l (o+szS s)
end
section
variable {keep k1 k2:Int→Bool}
mutual
theorem XbU:∀(s:St) (o m:Int),m∈idS keep s o→o≤m∧m<o+szS s
 | .mk d c v n t a b bs,o,m,h=>by
   simp only[idS,List.mem_cons,List.mem_append]at h;simp only[szS];rcases h with h|h|h
   · omega
   · have:=ZR a _ m h;omega
   have:=ZR b _ m h;omega
theorem ZR:∀(l:List St) (o m:Int),m∈idL keep l o→o≤m∧m<o+szL l
 |[],o,m,h=>by simp[idL]at h
 | s ::l,o,m,h=>by
   simp only[idL,List.mem_append]at h;simp only[szL];rcases h with h|h
   · split at h
     · have:=XbU s o m h;omega
     cases h
   have:=ZR l _ m h;omega
end
mutual
theorem X7z:∀(s:St) (o:Int),(∀m,o<m→m<o+szS s→k1 m=k2 m)→prS k1 s o=prS k2 s o∧idS k1 s o=idS k2 s o
 | .mk d c v n t a b bs,o,h=>by
   simp only[szS]at h;have ha:=Wn a (o+1) fun m h1 h2=>h m (by omega) (by omega);have hb:=Wn b (o+1+szL a) fun m h1 h2=>h m (by omega) (by omega);simp only[prS,idS,ha.1,ha.2,hb.1,hb.2,and_self]
theorem Wn:∀(l:List St) (o:Int),(∀m,o≤m→m<o+szL l→k1 m=k2 m)→prL k1 l o=prL k2 l o∧idL k1 l o=idL k2 l o
 |[],o,h=>by simp[prL,idL]
 | s::l,o,h=>by
   simp only[szL]at h;have hp:=X0t s;have hs:=X7z s o fun m h1 h2=>h m (by omega) (by omega);have hl:=Wn l (o+szS s) fun m h1 h2=>h m (by omega) (by omega);simp only[prL,idL,hs.1,hs.2,hl.1,hl.2,h o (by omega) (by omega),and_self]
end
mutual
theorem X8r:∀(s:St) (o:Int),(idS keep s o).length=szS (prS keep s o)
 | .mk d c v n t a b bs,o=>by
   simp only[idS,prS,szS,List.length_cons,List.length_append,X2n a,X2n b];omega
theorem X2n:∀(l:List St) (o:Int),(idL keep l o).length=szL (prL keep l o)
 |[],o=>by simp[idL,prL,szL]
 | s::l,o=>by
   simp only[idL,prL];by_cases h:keep o=true
   · rw[if_pos h,if_pos h];simp only[List.length_append,List.cons_append,List.nil_append,szL,X8r s,X2n l]
   rw[if_neg h,if_neg h];simp only[List.nil_append,X2n l]
end
mutual
theorem Xbt:∀(s:St) (o:Int),(∀m,o<m→m<o+szS s→keep m=true)→prS keep s o=s
 | .mk d c v n t a b bs,o,h=>by
   simp only[szS]at h;simp only[prS];rw[X3W a (o+1) fun m h1 h2=>h m (by omega) (by omega),X3W b (o+1+szL a) fun m h1 h2=>h m (by omega) (by omega)]
theorem X3W:∀(l:List St) (o:Int),(∀m,o≤m→m<o+szL l→keep m=true)→prL keep l o=l
 |[],o,h=>by simp[prL]
 | s::l,o,h=>by
   simp only[szL]at h;have hp:=X0t s;simp only[prL];rw[if_pos (h o (by omega) (by omega)),Xbt s o fun m h1 h2=>h m (by omega) (by omega),X3W l (o+szS s) fun m h1 h2=>h m (by omega) (by omega)];rfl
end
mutual
theorem ixS:∀(s:St) (o:Int) (i:Nat),i<szS s→(∀m,o≤m→m≤o+i→keep m=true)→(idS keep s o)[i]? =some (o+i)
 | .mk d c v n t a b bs,o,0,hi,h=>by simp[idS]
 | .mk d c v n t a b bs,o,i+1,hi,h=>by
   simp only[szS]at hi;simp only[idS,List.getElem?_cons_succ];by_cases hia:i<szL a
   · have:=ixL a (o+1) i hia fun m h1 h2=>h m (by omega) (by omega);rw[List.getElem?_append_left (List.getElem?_eq_some_iff.1 this).1,this];congr 1;omega
   have hall:=X3W (keep:=keep) a (o+1) fun m h1 h2=>h m (by omega) (by omega);have hlen:(idL keep a (o+1)).length=szL a:=by rw[X2n,hall]
   have:=ixL b (o+1+szL a) (i - szL a) (by omega) fun m h1 h2=>h m (by omega) (by omega);rw[List.getElem?_append_right (by omega),hlen,this];congr 1;omega
theorem ixL:∀(l:List St) (o:Int) (i:Nat),i<szL l→(∀m,o≤m→m≤o+i→keep m=true)→(idL keep l o)[i]? =some (o+i)
 |[],o,i,hi,h=>by simp only[szL]at hi;omega
 | s::l,o,i,hi,h=>by
   simp only[szL]at hi;simp only[idL];rw[if_pos (h o (by omega) (by omega))];by_cases his:i<szS s
   · have:=ixS s o i his h;rw[List.getElem?_append_left (List.getElem?_eq_some_iff.1 this).1,this]
   have hall:=Xbt (keep:=keep) s o fun m h1 h2=>h m (by omega) (by omega);have hlen:(idS keep s o).length=szS s:=by rw[X8r,hall]
   have:=ixL l (o+szS s) (i - szS s) (by omega) fun m h1 h2=>h m (by omega) (by omega);rw[List.getElem?_append_right (by omega),hlen,this];congr 1;omega
end
def rmK (keep:Int→Bool) (m:Int):Int→Bool:=fun j=>keep j&&decide (j≠m)
theorem X2K {m j:Int} (h:j≠m):keep j=rmK keep m j:=by simp[rmK,h]
theorem tk1 {α:Type} (A B:List α) (i z:Nat) (h:i+z≤A.length):(A++B).take i++(A++B).drop (i+z)=(A.take i++A.drop (i+z))++B:=by
 rw[List.take_append_of_le_length (by omega),List.drop_append_of_le_length h,List.append_assoc]
theorem tk2 {α:Type} (A B:List α) (i z:Nat) (h:A.length≤i):(A++B).take i++(A++B).drop (i+z)=A++(B.take (i - A.length)++B.drop (i - A.length+z)):=by
 rw[List.take_append,List.drop_append,List.take_of_length_le h,List.drop_of_length_le (by omega),List.nil_append,List.append_assoc,show i+z - A.length=i - A.length+z by omega]
theorem Xct (x:St) (i:Int) (h0:0≤i) (h1:i<szS x):∃y,fndS x i=some y∧i+szS y≤szS x:=by
 obtain⟨y,e1,_,_,e4,_⟩:=ZA [x] i h0 (by simp only[szL];omega);simp only[Zx]at e1;simp only[szL]at e4;refine⟨y,?_,by omega⟩;split at e1
 · rename_i z hz;rw[hz];exact e1
 cases e1
theorem Xdl (x:St) (i:Int) (h1:(szS x:Int)≤i):fndS x i=none:=by
 have:=X02 [x] i (by simp only[szL];omega);simp only[Zx]at this;split at this
 · cases this
 assumption
theorem XcI (x:St):fndS x 0=some x:=by
 obtain⟨d,c,v,n,t,a,b,bs⟩:=x;simp[fndS]
mutual
theorem wpS:∀(s:St) (o:Int) (i:Nat) (m:Int),(idS keep s o)[i+1]? =some m→woS (prS keep s o) i=prS (rmK keep m) s o∧
  idS (rmK keep m) s o=(idS keep s o).take (i+1)++(idS keep s o).drop (i+1+szO (fndS (prS keep s o) ((i+1:Nat):Int)))
 | .mk d c v n t a b bs,o,i,m,h=>by
   simp only[idS,List.getElem?_cons_succ]at h;have hla:=X2n (keep:=keep) a (o+1);simp only[prS,woS,idS,fndS];rw[if_neg (by omega),show((i+1:Nat):Int) - 1=(i:Int) by omega];by_cases hia:i<(idL keep a (o+1)).length
   · rw[List.getElem?_append_left hia]at h;have hr:=ZR a _ m (List.mem_of_getElem? h);obtain⟨w1,w2⟩:=wpL a (o+1) i m h;obtain⟨y,f1,_,_,f4,_⟩:=ZA (prL keep a (o+1)) i (by omega) (by omega);have hb:=Wn (k1:=keep) (k2:=rmK keep m) b (o+1+szL a) fun j h1 h2=>X2K (by omega);rw[w1,w2,←hb.1,←hb.2,WL _ _ (by omega),f1];refine⟨rfl,?_⟩;simp only[szO];rw[show i+1+szS y=(i+szS y)+1 by omega,List.take_succ_cons,List.drop_succ_cons,List.cons_append,tk1 _ _ _ _ (by omega)]
   rw[List.getElem?_append_right (by omega)]at h;have hr:=ZR b _ m (List.mem_of_getElem? h);obtain⟨w1,w2⟩:=wpL b (o+1+szL a) (i - (idL keep a (o+1)).length) m h;have ha:=Wn (k1:=keep) (k2:=rmK keep m) a (o+1) fun j h1 h2=>X2K (by omega);have hcast:((i - (idL keep a (o+1)).length:Nat):Int)=(i:Int) - (szL (prL keep a (o+1)):Int):=by omega
   rw[hcast]at w1 w2;rw[w1,w2,←ha.1,←ha.2,WL (prL keep a (o+1)) (i:Int) (by omega),X02 (prL keep a (o+1)) (i:Int) (by omega)];refine⟨rfl,?_⟩;simp only;rw[show i+1+szO (Zx (prL keep b (o+1+szL a)) ((i:Int) - (szL (prL keep a (o+1)):Int)))=(i+szO (Zx (prL keep b (o+1+szL a)) ((i:Int) - (szL (prL keep a (o+1)):Int))))+1 by omega,List.take_succ_cons,List.drop_succ_cons,List.cons_append,tk2 _ _ _ _ (by omega)]
theorem wpL:∀(l:List St) (o:Int) (i:Nat) (m:Int),(idL keep l o)[i]? =some m→woL (prL keep l o) i=prL (rmK keep m) l o∧
  idL (rmK keep m) l o=(idL keep l o).take i++(idL keep l o).drop (i+szO (Zx (prL keep l o) i))
 |[],o,i,m,h=>by simp[idL]at h
 | s :: l,o,i,m,h=>by
   by_cases hk:keep o=true
   · simp only[idL,if_pos hk]at h;have hls:=X8r (keep:=keep) s o;have hp:=X0t (prS keep s o);by_cases his:i<(idS keep s o).length
     · rw [List.getElem?_append_left his]at h;have hr:=XbU s _ m (List.mem_of_getElem? h);have hl:=Wn (k1:=keep) (k2:=rmK keep m) l (o+szS s) fun j h1 h2=>X2K (by omega);cases i with
       | zero=>
         have hm:m=o:=by
          obtain⟨d,c,v,n,t,a,b,bs⟩:=s;simp only[idS,List.getElem?_cons_zero,Option.some.injEq]at h;exact h.symm
         have hro:¬rmK keep m o=true:=by simp[rmK,hm]
         simp only[prL,idL,if_pos hk,if_neg hro,←hl.1,←hl.2,List.cons_append,List.nil_append,woL,Zx];rw[if_pos (by rfl),WL _ _ (by omega),show(((0:Nat):Int))=0 from rfl,XcI];refine⟨rfl,?_⟩;simp only[szO,List.take_zero,List.nil_append,Nat.zero_add];rw[←hls,List.drop_left]
       | succ i=>
         obtain⟨w1,w2⟩:=wpS s o i m h
         have hmo:m≠o:=by
          intro e;subst e;obtain⟨d,c,v,n,t,a,b,bs⟩:=s;simp only[idS,List.getElem?_cons_succ]at h;have hm:=List.mem_of_getElem? h;rcases List.mem_append.1 hm with h|h
          · have:=ZR _ _ _ h;omega
          have:=ZR _ _ _ h;omega
         have hro:rmK keep m o=true:=by rw[←X2K hmo.symm];exact hk
         obtain⟨y,f1,f2⟩:=Xct (prS keep s o) ((i+1:Nat):Int) (by omega) (by omega);simp only[prL,idL,if_pos hk,if_pos hro,←hl.1,←hl.2,List.cons_append,List.nil_append,woL,Zx];rw[if_neg (by omega),WL (prL keep l (o+szS s)) _ (by omega),f1,show((i+1:Nat):Int) - 1=(i:Int) by omega,w1,w2,f1];refine⟨rfl,?_⟩;simp only[szO];rw[tk1 _ _ _ _ (by omega)]
     rw[List.getElem?_append_right (by omega)]at h;have hr:=ZR l _ m (List.mem_of_getElem? h);obtain⟨w1,w2⟩:=wpL l (o+szS s) (i - (idS keep s o).length) m h;have hs:=X7z (k1:=keep) (k2:=rmK keep m) s o fun j h1 h2=>X2K (by omega);have hps:=X0t s;have hro:rmK keep m o=true:=by rw[←X2K (by omega:o≠m)];exact hk
     have hcast:((i - (idS keep s o).length:Nat):Int)=(i:Int) - (szS (prS keep s o):Int):=by omega
     rw[hcast]at w1 w2;simp only[prL,idL,if_pos hk,if_pos hro,←hs.1,←hs.2,List.cons_append,List.nil_append,woL,Zx];rw[if_neg (by omega),woS_id _ _ (by omega),Xdl _ _ (by omega),w1,w2];refine⟨rfl,?_⟩;simp only;rw[tk2 _ _ _ _ (by omega)]
   simp only[idL,if_neg hk,List.nil_append]at h;have hr:=ZR l _ m (List.mem_of_getElem? h);have hps:=X0t s;obtain⟨w1,w2⟩:=wpL l (o+szS s) i m h;have hro:¬rmK keep m o=true:=by rw[←X2K (by omega:o≠m)];exact hk
   simp only[prL,idL,if_neg hk,if_neg hro,List.nil_append];exact⟨w1,w2⟩
end
end
theorem X8e (L:List Int) (B0:List St):∀i:Nat,i≤szL B0→pgL L i (prL (fun j=>decide (j<(i:Int))||decide (j∈L)) B0 0)=prL (fun j=>decide (j∈L)) B0 0
 | 0,_=>by
   refine(Wn B0 0 fun m h1 h2=>?_).1;have:¬m<((0:Nat):Int):=by omega
   simp only[this,decide_false,Bool.false_or]
 | i +1,hi=>by
   unfold pgL;have hmi:∀m:Int,(m<((i+1:Nat):Int))↔(m<(i:Int)∨m=(i:Int)):=fun m=>by omega
   by_cases hm:(i:Int)∈L
   · rw[if_pos hm]
     have:=(Wn (k1:=fun j=>decide (j<((i+1:Nat):Int))||decide (j∈L)) (k2:=fun j=>decide (j<(i:Int))||decide (j∈L)) B0 0 fun m h1 h2=>by
      by_cases e:m=(i:Int)
      · subst e;simp[hm]
      have:(m<((i+1:Nat):Int))↔m<(i:Int):=by omega
      simp only[this]).1
     rw[this];exact X8e L B0 i (by omega)
   rw[if_neg hm]
   have hix:=ixL (keep:=fun j=>decide (j<((i+1:Nat):Int))||decide (j∈L)) B0 0 i (by omega) fun m h1 h2=>by
    have h3:m<((i+1:Nat):Int):=by omega
    simp only[Bool.or_eq_true];exact .inl (decide_eq_true h3)
   rw[Int.zero_add]at hix;rw[(wpL B0 0 i _ hix).1]
   have:=(Wn (k1:=rmK (fun j=>decide (j<((i+1:Nat):Int))||decide (j∈L)) (i:Int)) (k2:=fun j=>decide (j<(i:Int))||decide (j∈L)) B0 0 fun m h1 h2=>by
    by_cases e:m=(i:Int)
    · subst e;simp[rmK,hm]
    have:(m<((i+1:Nat):Int))↔m<(i:Int):=by omega
    simp only[rmK,this,ne_eq,e,not_false_eq_true,decide_true,Bool.and_true]).1
   rw[this];exact X8e L B0 i (by omega)
theorem pgL_eq (L:List Int) (B0:List St):pgL L (szL B0) B0=prL (fun j=>decide (j∈L)) B0 0:=by
 have h:=X8e L B0 (szL B0) (Nat.le_refl _)
 have h9:prL (fun j=>decide (j<((szL B0:Nat):Int))||decide (j∈L)) B0 0=B0:=by
  refine X3W B0 0 fun m h1 h2=>?_;have:m<(szL B0:Int):=by omega
  simp[this]
 rwa [h9]at h
theorem shB_mono {vars:List Vr} {nh:Nat} {d v n:Int} {t:Tm} {la lc la' lc':Nat} {bs:List Int} {last last':Bool} (h:shB vars nh d v n t la lc bs last=true) (ha:la'≤la) (hc:lc'≤lc) (hl:last=true→last'=true):shB vars nh d v n t la' lc' bs last'=true:=by
 unfold shB at*;split at h
 · rename_i h0;rw[if_pos h0];simp only[Bool.and_eq_true,decide_eq_true_eq]at h⊢;exact⟨⟨⟨⟨by omega,by omega⟩,h.1.1.2⟩,h.1.2⟩,h.2⟩
 rename_i h0;rw[if_neg h0];split at h
 · rename_i h1;rw[if_pos h1];simp only[Bool.and_eq_true,decide_eq_true_eq]at h⊢;exact⟨⟨⟨⟨by omega,by omega⟩,h.1.1.2⟩,h.1.2⟩,h.2⟩
 rename_i h1;rw[if_neg h1];split at h
 · rename_i h2;rw[if_pos h2];simp only[Bool.and_eq_true,decide_eq_true_eq]at h⊢;exact⟨⟨⟨⟨⟨by omega,by omega⟩,h.1.1.1.2⟩,h.1.1.2⟩,h.1.2⟩,h.2⟩
 rename_i h2;rw[if_neg h2];split at h
 · rename_i h3;rw[if_pos h3];exact h
 rename_i h3;rw[if_neg h3];split at h
 · rename_i h4;rw[if_pos h4];simp only[Bool.and_eq_true,decide_eq_true_eq]at h⊢;exact⟨⟨h.1.1,by omega⟩,h.2⟩
 rename_i h4;rw[if_neg h4];split at h
 · rename_i h5;rw[if_pos h5];simp only[Bool.and_eq_true,decide_eq_true_eq]at h⊢;exact⟨⟨⟨⟨⟨⟨by omega,by omega⟩,h.1.1.1.1.2⟩,h.1.1.1.2⟩,h.1.1.2⟩,h.1.2⟩,h.2⟩
 rename_i h5;rw[if_neg h5];split at h
 · rename_i h6;rw[if_pos h6];simp only[Bool.and_eq_true,decide_eq_true_eq]at h⊢;exact⟨⟨⟨⟨⟨⟨by omega,by omega⟩,hl h.1.1.1.1.2⟩,h.1.1.1.2⟩,h.1.1.2⟩,h.1.2⟩,h.2⟩
 cases h
theorem X8V {vars:List Vr} {nh:Nat} {d c v n:Int} {t:Tm} {la lc:Nat} {bs:List Int} {last:Bool}:stC vars nh d c v n t la lc bs last=0↔shB vars nh d v n t la lc bs last=true∧X1D d c n bs=true∧X0v vars false t=0:=by
 unfold stC;cases shB vars nh d v n t la lc bs last<;>cases X1D d c n bs<;>simp
theorem X9M {vars:List Vr} {nh:Nat} {d c v n:Int} {t:Tm} {a b:List St} {bs:List Int} {l:List St} {top:Bool}:ssC vars nh (.mk d c v n t a b bs::l) top=0↔
  stC vars nh d c v n t a.length b.length bs (top&&l.isEmpty)=0∧ssC vars nh a false=0∧ssC vars nh b false=0∧ssC vars nh l top=0:=by
 rw[ssC];constructor
 · intro h;split at h
   · rename_i h1;split at h
     · rename_i h2;split at h
       · rename_i h3;exact⟨h1,h2,h3,h⟩
       rename_i h3;exact absurd h h3
     rename_i h2;exact absurd h h2
   rename_i h1;exact absurd h h1
 rintro⟨h1,h2,h3,h4⟩;rw[if_pos h1,if_pos h2,if_pos h3,h4]
theorem X8u (keep:Int→Bool):∀(l:List St) (o:Int),(prL keep l o).length≤l.length
 |[],o=>by simp[prL]
 | s::l,o=>by
   have:=X8u keep l (o+szS s);simp only[prL];split<;>simp<;>omega
theorem pr_ssC (keep:Int→Bool) (vars:List Vr) (nh:Nat):∀l:List St,(∀(o:Int) (top:Bool),ssC vars nh l top=0→ssC vars nh (prL keep l o) top=0):=by
 apply St.lists;intro l ih
 induction l with
 |nil=>intro o top _;simp[prL,ssC]
 | cons s l ihl=>
   intro o top h;have ihl:=ihl fun s hs=>ih s (List.mem_cons_of_mem _ hs);obtain⟨i1,i2⟩:=ih s (List.mem_cons_self ..);obtain⟨d,c,v,n,t,a,b,bs⟩:=s;simp only[St.then_,St.else_]at i1 i2;obtain⟨h1,h2,h3,h4⟩:=X9M.1 h;have h5:=ihl (o+szS (.mk d c v n t a b bs)) top h4;simp only[prL];split
   · simp only[List.cons_append,List.nil_append,prS];obtain⟨s1,s2,s3⟩:=X8V.1 h1;refine X9M.2 ⟨X8V.2 ⟨shB_mono s1 (X8u ..) (X8u ..) fun hl=>?_,s2,s3⟩,i1 _ _ h2,i2 _ _ h3,h5⟩;simp only[Bool.and_eq_true,List.isEmpty_iff]at hl⊢;exact⟨hl.1,by rw[hl.2];simp[prL]⟩
   exact h5
theorem X6e (keep:Int→Bool):∀l:List St,∀o:Int,Xk (prL keep l o)≤Xk l∧sdL (prL keep l o)≤sdL l∧(Wa l=false→Wa (prL keep l o)=false)∧(QX l=true→QX (prL keep l o)=true):=by
 apply St.lists;intro l ih
 induction l with
 |nil=>intro o;simp[prL]
 | cons s l ihl=>
   intro o;have ihl:=ihl (fun s hs=>ih s (List.mem_cons_of_mem _ hs)) (o+szS s);obtain⟨i1,i2⟩:=ih s (List.mem_cons_self ..);obtain⟨d,c,v,n,t,a,b,bs⟩:=s;simp only[St.then_,St.else_]at i1 i2;have i1:=i1 (o+1);have i2:=i2 (o+1+szL a);simp only[prL];split
   · simp only[List.cons_append,List.nil_append,prS,Xk,St.nodes,sdL,Wa,QX,X0o,Bool.or_eq_false_iff,Bool.and_eq_true]at*;refine⟨by omega,by omega,fun h=>?_,fun h=>?_⟩
     · exact⟨⟨⟨h.1.1.1,i1.2.2.1 h.1.1.2⟩,i2.2.2.1 h.1.2⟩,ihl.2.2.1 h.2⟩
     exact⟨⟨h.1.1,i1.2.2.2 h.1.2.1,i2.2.2.2 h.1.2.2⟩,ihl.2.2.2 h.2⟩
   simp only[List.nil_append,Xk,St.nodes,sdL,Wa,QX,X0o,Bool.or_eq_false_iff,Bool.and_eq_true]at*;exact⟨by omega,by omega,fun h=>ihl.2.2.1 h.2,fun h=>ihl.2.2.2 h.2⟩
def le3 (x y:B3):Prop:=x.s≤y.s∧x.o≤y.o∧x.t≤y.t
theorem bd1_mono {d c n:Int} {x y x' y':B3} (hn:d=4→0≤n) (hx:le3 x' x) (hy:le3 y' y):le3 (bd1 d c n x' y') (bd1 d c n x y):=by
 unfold le3 at*;unfold bd1;split
 · rename_i h4;have h0:=hn h4;refine⟨?_,Int.mul_le_mul_of_nonneg_left hx.2.1 h0,Int.mul_le_mul_of_nonneg_left (by omega) h0⟩;have:=Int.mul_le_mul_of_nonneg_left (show 1+x'.s≤1+x.s by omega) h0;simp only;omega
 split
 · simp only[mx];refine⟨?_,?_,?_⟩<;>(repeat' split)<;>omega
 split<;>exact⟨Int.le_refl _,Int.le_refl _,Int.le_refl _⟩
theorem Xce {C p p' q q':B3} (h:le3 p' p) (h2:le3 q' q):le3 (Qe C p' q') (Qe C p q):=by
 unfold le3 Qe at*;simp only[mn];refine⟨?_,?_,?_⟩<;>(repeat' split)<;>omega
theorem add3_up {C p q:B3} (hp:in3 C p) (hq:nn3 q):le3 p (Qe C p q):=by
 unfold le3 Qe in3 nn3 at*;simp only[mn];refine⟨?_,?_,?_⟩<;>split<;>omega
theorem Xdi {x y z:B3} (h:le3 x y) (h2:le3 y z):le3 x z:=⟨Int.le_trans h.1 h2.1,Int.le_trans h.2.1 h2.2.1,Int.le_trans h.2.2 h2.2.2⟩
theorem pr_bd (keep:Int→Bool) {C:B3} (hC:nn3 C):∀l:List St,∀(o:Int) (p p':B3),okL l=true→in3 C p→le3 p' p→le3 (bdL C (prL keep l o) p') (bdL C l p):=by
 apply St.lists;intro l ih
 induction l with
 |nil=>intro o p p' _ _ h;simpa[prL,bdL]using h
 | cons s l ihl=>
   intro o p p' hok hp hle;have ihl:=ihl (fun s hs=>ih s (List.mem_cons_of_mem _ hs)) (o+szS s);obtain⟨i1,i2⟩:=ih s (List.mem_cons_self ..);simp only[okL,Bool.and_eq_true]at hok;have hnn:=X1S hC s hok.1;have hin:=X2m hC (Z9 hp) hnn;obtain⟨d,c,v,n,t,a,b,bs⟩:=s;simp only[St.then_,St.else_]at i1 i2;simp only[prL];split
   · simp only[List.cons_append,List.nil_append,prS,bdL];refine ihl _ _ hok.2 hin (Xce hle ?_);simp only[okS,Bool.and_eq_true,Bool.or_eq_true,decide_eq_true_eq]at hok;simp only[bdS];exact bd1_mono (fun h4=>by omega) (i1 _ _ _ hok.1.2.2.1 (Wv hC) ⟨Int.le_refl _,Int.le_refl _,Int.le_refl _⟩) (i2 _ _ _ hok.1.2.2.2 (Wv hC) ⟨Int.le_refl _,Int.le_refl _,Int.le_refl _⟩)
   simp only[List.nil_append,bdL];exact ihl _ _ hok.2 hin (Xdi hle (add3_up hp hnn))
theorem X8l (keep:Int→Bool) {f:Fl} (h:Q0 f=0) (o:Int):Q0 ⟨f.vars,f.hats,prL keep f.body o⟩=0:=by
 obtain⟨vars,hats,body⟩:=f;unfold Q0 at*;simp only at*;obtain⟨n1,n2,n3,_⟩:=X6e keep body o;split at h
 · cases h
 rename_i hs;have hs:ZL ⟨vars,hats,body⟩=true:=by simpa using hs
 have hs':ZL ⟨vars,hats,prL keep body o⟩=true:=by
  unfold ZL at*;simp only[Bool.and_eq_true,decide_eq_true_eq,Bool.not_eq_true']at hs⊢;exact⟨⟨⟨⟨hs.1.1.1.1,by omega⟩,by omega⟩,n3 hs.1.2⟩,hs.2⟩
 rw[if_neg (by simp[hs'])];split at h
 · rename_i hv;rw[if_pos hv];split at h
   · rename_i hh;rw[if_pos hh];split at h
     · rename_i hb;rw[if_pos (pr_ssC keep _ _ body o true hb)];split at h
       · cases h
       rename_i ho;have ho:X3R body=false:=by simpa using ho
       have hC:nn3 CR:=by unfold nn3 CR;simp
       have:=pr_bd keep hC body o ⟨0,0,0⟩ ⟨0,0,0⟩ (X1M body true hb) (Wv hC) ⟨Int.le_refl _,Int.le_refl _,Int.le_refl _⟩;obtain⟨b1,b2,b3⟩:=this
       have:X3R (prL keep body o)=false:=by
        unfold X3R at*;simp only[Bool.or_eq_false_iff,decide_eq_false_iff_not]at ho⊢;exact⟨by omega,by omega,by omega⟩
       rw[if_neg (by simp[this])]
     rename_i hb;exact absurd h hb
   rename_i hh;exact absurd h hh
 rename_i hv;exact absurd h hv
theorem XbT {f:Fl} (h:Q0 f=0) (q:List Int):Q0 (pgF f q)=0:=by
 unfold pgF;rw[pgL_eq];exact X8l _ h 0
end Go.Proofs.YtppjennamodfdaaGreat

namespace Go.Proofs.YtppjennamodfdaaGreat
open Go Go.Hl
def rndB (N:List Nd) (steps:List St) (nv:Nat) (S:List (List Nat)) (to d:Nat):Bool:=
 (S[to]?.getD []).contains d||(List.range N.length).any fun i=>match N[i]?,S[i]? with
  |some x,some Si=>decide (ZG x to)&&(X59 steps nv Si x).contains d
  |_,_=>false
def rnd (N:List Nd) (steps:List St) (nv:Nat) (S:List (List Nat)):List (List Nat):=(List.range N.length).map fun to=>(List.range (steps.length+nv)).filter fun d=>rndB N steps nv S to d
def rndK (N:List Nd) (steps:List St) (nv:Nat):Nat→List (List Nat)→List (List Nat)
 |0,S=>S
 |k+1,S=>rndK N steps nv k (rnd N steps nv S)
theorem gs_zero (N:List Nd) (steps:List St) (nv:Nat):Gs N steps nv (List.replicate N.length []) where
 len:=by simp
 nod l hl:=by rw[(List.mem_replicate.1 hl).2];exact List.nodup_nil
 lt l hl d hd:=by rw[(List.mem_replicate.1 hl).2]at hd;cases hd
 snd to l d hl hd:=by
  have:=List.mem_of_getElem? hl;rw[(List.mem_replicate.1 this).2]at hd;cases hd
theorem rnd_gs {N:List Nd} {steps:List St} {nv:Nat} {S:List (List Nat)} (g:Gs N steps nv S):Gs N steps nv (rnd N steps nv S) where
 len:=by simp[rnd]
 nod l hl:=by
  obtain⟨to,_,rfl⟩:=List.mem_map.1 hl;exact List.Pairwise.filter _ List.nodup_range
 lt l hl d hd:=by
  obtain⟨to,_,rfl⟩:=List.mem_map.1 hl;simpa using(List.mem_filter.1 hd).1
 snd to l d hl hd:=by
  simp only[rnd,List.getElem?_map,Option.map_eq_some_iff]at hl;obtain⟨to',h1,rfl⟩:=hl;have h1':=List.getElem?_eq_some_iff.1 h1;obtain⟨h2,h3⟩:=h1';rw[List.getElem_range]at h3;subst h3;have h4:=(List.mem_filter.1 hd).2;unfold rndB at h4;rw[Bool.or_eq_true]at h4;rcases h4 with h4|h4
  · have h5:d∈S[to]?.getD []:=List.contains_iff_mem.1 h4;cases e:S[to]? with
    |none=>rw[e]at h5;cases h5
    |some l=>rw[e]at h5;exact g.snd to l d e h5
  obtain⟨i,_,h5⟩:=List.any_eq_true.1 h4;split at h5
  · rename_i x Si hx hS;rw[Bool.and_eq_true]at h5;exact Xaq g hx hS (List.contains_iff_mem.1 h5.2) (of_decide_eq_true h5.1)
  cases h5
theorem Xc6 {N:List Nd} {steps:List St} {nv:Nat}:∀(k:Nat) {S:List (List Nat)},Gs N steps nv S→Gs N steps nv (rndK N steps nv k S)
 |0,_,g=>g
 |k+1,_,g=>Xc6 k (rnd_gs g)
open Classical in
theorem rcL_fix {N:List Nd} {steps:List St} {nv:Nat} {S:List (List Nat)} (ha:∀x∈N,WJ steps x=true→x.a.toNat<steps.length) (g:Gs N steps nv S) (hfix:rnd N steps nv S=S):rcL N steps nv=S:=by
 have hc:∀i,i<N.length→clo N steps nv S i:=by
  intro i hi x Si hx hS d hd to l ht hl;have hrc:=Xaq g hx hS hd ht;have hlt:=rc_lt ha hrc;have hto:to<N.length:=by have:=(List.getElem?_eq_some_iff.1 hl).1;rw[g.len]at this;exact this
  have:S[to]? =some ((List.range (steps.length+nv)).filter fun d=>rndB N steps nv S to d):=by
   conv=>lhs;rw[←hfix]
   simp[rnd,hto]
  rw[this]at hl;cases hl;refine List.mem_filter.2 ⟨by simpa using hlt,?_⟩;unfold rndB;rw[Bool.or_eq_true];refine .inr (List.any_eq_true.2 ⟨i,by simpa using hi,?_⟩);simp only[hx,hS];rw[Bool.and_eq_true];exact⟨decide_eq_true ht,List.contains_iff_mem.2 hd⟩
 conv=>rhs;rw[←hfix]
 unfold rcL rnd;refine List.map_congr_left fun to hto=>?_;have hto:to<N.length:=by simpa using hto
 obtain⟨l,hl,_⟩:=Xs (show to<S.length by rw[g.len];exact hto);refine List.filter_congr fun d hd=>?_;show decide (Rc N steps nv to d)=rndB N steps nv S to d;rw[Bool.eq_iff_iff,decide_eq_true_eq];constructor
 · intro h;have:=XaN g hc hl h;unfold rndB;rw[Bool.or_eq_true,hl];exact .inl (List.contains_iff_mem.2 this)
 intro h
 have:d∈(rnd N steps nv S)[to]?.getD []:=by
  simp only[rnd,List.getElem?_map];rw[List.getElem?_range hto];exact List.mem_filter.2 ⟨hd,h⟩
 rw[hfix,hl]at this;exact g.snd to l d hl this
theorem rcL_run {N:List Nd} {steps:List St} {nv:Nat} {S:List (List Nat)} (k:Nat) (ha:∀x∈N,WJ steps x=true→x.a.toNat<steps.length) (h:rndK N steps nv k (List.replicate N.length [])=S) (hfix:rnd N steps nv S=S):rcL N steps nv=S:=
 rcL_fix ha (h▸Xc6 k (gs_zero N steps nv)) hfix
end Go.Proofs.YtppjennamodfdaaGreat

namespace Go.Proofs.YtppjennamodfdaaGreat
open Go Go.Hl
def rfT (n:Int):Tm:=⟨24,n,[]⟩
def exF:Fl:=⟨[⟨⟨#[120]⟩,1,0,3,0⟩,⟨⟨#[121]⟩,0,0,3,0⟩,⟨⟨#[122]⟩,0,0,3,0⟩,⟨⟨#[119]⟩,0,0,3,0⟩],[],[.mk 0 0 1 0 (rfT 0) [] [] [],.mk 0 0 2 0 ⟨0,2,[]⟩ [] [] [],.mk 3 0 0 0 (rfT 1) [.mk 0 0 2 0 ⟨0,1,[]⟩ [] [] []] [] [],.mk 1 0 0 0 (rfT 2) [] [] [],.mk 1 0 0 0 (rfT 3) [] [] []]⟩
def exS:List (List Nat):=[[],[6,7,8,9],[0,6,8,9],[0,1,6,9],[0,1,6,9],[0,1,3,6,9],[0,1,3,6,9],[0,1,3,6,9]]
theorem exRc:rcL (grN exF.body) (flL exF.body) exF.vars.length=exS:=rcL_run 12 (by decide) (by kernel_rfl) (by kernel_rfl)
theorem exRd:rdT exF=rdF (szL exF.body) ((grN exF.body).zip exS):=by
 unfold rdT;rw[exRc]
theorem exDir:Q4 exF=[[],[],[0],[2],[1,3],[]]:=by
 unfold Q4;rw[exRd];kernel_rfl
theorem exCode:Q0 exF=0:=by
 simp only[exF,rfT,Q0,ZL,sdL,Wa,ssC];kernel_rfl
theorem exSm:Sm exF:=⟨by decide,by decide,by decide,by decide⟩
theorem X8Q (q:List Int) (h:askB 6 [q]=true):Zm exF [q]=0:=by
 unfold Zm;rw[if_pos exCode,show(flL exF.body).length=6 from rfl,if_pos h]
theorem exAsk2 (a b:List Int) (h:askB 6 [a,b]=true):Zm exF [a,b]=0:=by
 unfold Zm;rw[if_pos exCode,show(flL exF.body).length=6 from rfl,if_pos h]
theorem exBw:bwL exF [4]=[0,1,2,3,4]:=by
 unfold bwL;rw[exDir];kernel_rfl
theorem exFw:fwL exF [0]=[0,2,3,4]:=by
 unfold fwL;rw[exDir];kernel_rfl
theorem exCh:chL exF [0] [4]=[0,2,3,4]:=by
 unfold chL;rw[exFw,exDir];kernel_rfl
theorem exClo:ZM (Q4 exF) (QG [5])=[5]:=by
 rw[exDir];kernel_rfl
theorem exCl:clB exF [5]=true:=by
 unfold clB;rw[exClo];rfl
theorem exNeA:neA exF [5]=[3]:=by
 unfold neA;rw[exClo,exRd];kernel_rfl
theorem exNe:neL exF [5]=[3]:=by
 unfold neL;rw[exNeA];exact List.mergeSort_singleton _
theorem exPg:pgF exF [5]=⟨exF.vars,[],[.mk 1 0 0 0 (rfT 3) [] [] []]⟩:=by
 unfold pgF;have:pgL [5] (szL exF.body) exF.body=[.mk 1 0 0 0 (rfT 3) [] [] []]:=by kernel_rfl
 rw[this];rfl
end Go.Proofs.YtppjennamodfdaaGreat

namespace Go.Proofs.YtppjennamodfdaaGreat
open Go Go.Hl
theorem X2d (n:Int) (d:Nat):Con Tryz.prog 75 false [li n] (.v (aT (rfT n))) none d:=by
 simp only[aT,rfT,Tm.enc,Xo,List.map_cons,List.map_nil];refine X5 Tryz.func75 ?_;simp only[Tryz.f75];refine X3 ?_;refine X1<|(QO 2 [] [] (by simp[XI,Qp,XX];rfl) trivial (X21 4 [.c (iC 24),.c (iC n),.c (.sl 3 [])] rfl (by(repeat'(first|exact LWk.nil|apply LWk.cons|exact CWk.refl _|exact CWk.nil _)))) (by simp;rfl) trivial ?_);exact Xc
set_option maxHeartbeats 8000000 in
theorem X8S (d:Nat):Con Tryz.prog 38 false [] (.v (aF exF)) none d:=by
 have c0:=X2d 0;have c1:=X2d 1;have c2:=X2d 2;have c3:=X2d 3;have hq1:Qq 1 144:=XB (by decide) (by decide);have hq2:Qq 5 144:=XB (by decide) (by decide);have hq3:Qq 4 48:=XB (by decide) (by decide);simp only[exF,rfT,aF,aT,Fl.enc,Vr.enc,Xv,Xu,Xe,X9,Xo,St.enc,Tm.enc,List.map_cons,List.map_nil,List.cons_append,List.nil_append]at c0 c1 c2 c3⊢;refine X5 Tryz.func38 ?_;simp only[Tryz.f38];refine X3 ?_;refine X3 ?_;refine X1<|(XR ?_);refine RunsN.cutE 8 [⟨false,.v (.agg [.c (iC 24),.c (iC 0),.c (.sl 3 [])]),none⟩] (by simp[*,XI,Qp,XX];first|exact⟨rfl,Iff.rfl⟩|exact⟨rfl,trivial⟩|rfl) (by first|exact c0 _|simpa using c0 _) (X21 9 [.c (iC 0),.c (iC 0),.c (iC 1),.c (iC 0),.c (iC 24),.c (iC 0),.c (.sl 3 []),.c (.sl 10 []),.c (.sl 10 []),.c (.sl 1 [])] rfl (by(repeat'(first|exact LWk.nil|apply LWk.cons|exact CWk.refl _|exact CWk.nil _)))) ?_;refine RunsN.cutE 2 [] (by simp[*,XI,Qp,XX];rfl) trivial (X21 11 [.c (iC 0),.c (iC 0),.c (iC 2),.c (iC 0),.c (iC 0),.c (iC 2),.c (.sl 3 []),.c (.sl 10 []),.c (.sl 10 []),.c (.sl 1 [])] rfl (by(repeat'(first|exact LWk.nil|apply LWk.cons|exact CWk.refl _|exact CWk.nil _)))) ?_;refine RunsN.cutE 4 [⟨false,.v (.agg [.c (iC 24),.c (iC 1),.c (.sl 3 [])]),none⟩] (by simp[*,XI,Qp,XX];first|exact⟨rfl,Iff.rfl⟩|exact⟨rfl,trivial⟩|rfl) (by first|exact c1 _|simpa using c1 _) (X21 15 [.c (iC 0),.c (iC 0),.c (iC 2),.c (iC 0),.c (iC 0),.c (iC 1),.c (.sl 3 []),.c (.sl 10 []),.c (.sl 10 []),.c (.sl 1 [])] rfl (by(repeat'(first|exact LWk.nil|apply LWk.cons|exact CWk.refl _|exact CWk.nil _)))) ?_;refine RunsN.cutE 1 [] (by simp[*,XI,Qp,XX];rfl) trivial (XJ 16 rfl) ?_;refine RunsN.cutE 1 [] (by simp[*,XI,Qp,XX];rfl) trivial (X21 17 [.c (iC 3),.c (iC 0),.c (iC 0),.c (iC 0),.c (iC 24),.c (iC 1),.c (.sl 3 []),.c (.sl 10 [[iC 0,iC 0,iC 2,iC 0,iC 0,iC 1,.sl 3 [],.sl 10 [],.sl 10 [],.sl 1 []]]),.c (.sl 10 []),.c (.sl 1 [])] rfl (by(repeat'(first|exact LWk.nil|apply LWk.cons|exact CWk.refl _|exact CWk.nil _)))) ?_;refine RunsN.cutE 3 [⟨false,.v (.agg [.c (iC 24),.c (iC 2),.c (.sl 3 [])]),none⟩] (by simp[*,XI,Qp,XX];first|exact⟨rfl,Iff.rfl⟩|exact⟨rfl,trivial⟩|rfl) (by first|exact c2 _|simpa using c2 _) (X21 20 [.c (iC 1),.c (iC 0),.c (iC 0),.c (iC 0),.c (iC 24),.c (iC 2),.c (.sl 3 []),.c (.sl 10 []),.c (.sl 10 []),.c (.sl 1 [])] rfl (by(repeat'(first|exact LWk.nil|apply LWk.cons|exact CWk.refl _|exact CWk.nil _)))) ?_;refine RunsN.cutE 3 [⟨false,.v (.agg [.c (iC 24),.c (iC 3),.c (.sl 3 [])]),none⟩] (by simp[*,XI,Qp,XX];first|exact⟨rfl,Iff.rfl⟩|exact⟨rfl,trivial⟩|rfl) (by first|exact c3 _|simpa using c3 _) (X21 23 [.c (iC 1),.c (iC 0),.c (iC 0),.c (iC 0),.c (iC 24),.c (iC 3),.c (.sl 3 []),.c (.sl 10 []),.c (.sl 10 []),.c (.sl 1 [])] rfl (by(repeat'(first|exact LWk.nil|apply LWk.cons|exact CWk.refl _|exact CWk.nil _)))) ?_;refine RunsN.cutE 1 [] (by simp[*,XI,Qp,XX];rfl) trivial (le_trans (XJ 6 rfl) (XJ 24 rfl)) ?_;refine RunsN.cutE 1 [] (by simp[*,XI,Qp,XX];rfl) trivial (X21 25 [.c (.sl 5 [[sC ⟨#[120]⟩,iC 1,iC 0,iC 3,iC 0],[sC ⟨#[121]⟩,iC 0,iC 0,iC 3,iC 0],[sC ⟨#[122]⟩,iC 0,iC 0,iC 3,iC 0],[sC ⟨#[119]⟩,iC 0,iC 0,iC 3,iC 0]]),.c (.sl 6 []),.c (.sl 10 [[iC 0,iC 0,iC 1,iC 0,iC 24,iC 0,.sl 3 [],.sl 10 [],.sl 10 [],.sl 1 []],[iC 0,iC 0,iC 2,iC 0,iC 0,iC 2,.sl 3 [],.sl 10 [],.sl 10 [],.sl 1 []],[iC 3,iC 0,iC 0,iC 0,iC 24,iC 1,.sl 3 [],.sl 10 [[iC 0,iC 0,iC 2,iC 0,iC 0,iC 1,.sl 3 [],.sl 10 [],.sl 10 [],.sl 1 []]],.sl 10 [],.sl 1 []],[iC 1,iC 0,iC 0,iC 0,iC 24,iC 2,.sl 3 [],.sl 10 [],.sl 10 [],.sl 1 []],[iC 1,iC 0,iC 0,iC 0,iC 24,iC 3,.sl 3 [],.sl 10 [],.sl 10 [],.sl 1 []]])] rfl (by(repeat'(first|exact LWk.nil|apply LWk.cons|exact CWk.refl _|exact CWk.nil _)))) ?_;refine RunsN.doneE [] (by simp[*,XI,Qp,XX];rfl) trivial ?_;exact Xc
end Go.Proofs.YtppjennamodfdaaGreat

namespace Go.Proofs.YtppjennamodfdaaGreat
open Go Go.Hl
set_option maxHeartbeats 16000000 in
theorem X77 (d:Nat):Con Tryz.prog 10 false [] (.v (lb true)) none d:=by
 have ce:=X8S;have cB:=X3Q exF exSm [4] (by decide);have cF:=X4H exF exSm [0] (by decide);have cC:=chop_con exF exSm [0] [4] (by decide) (by decide);have cN:=Xco exF exSm [5] (by decide);have cP:=X4V exF exSm [5] (by decide);have cL:=X6y exF exSm [5] (by decide);rw[X8Q [4] (by decide),exBw]at cB;rw[X8Q [0] (by decide),exFw]at cF;rw[exAsk2 [0] [4] (by decide),exCh]at cC;rw[X8Q [5] (by decide),exNe]at cN;rw[X8Q [5] (by decide),exPg]at cP;rw[X8Q [5] (by decide),exCl]at cL;have e1:=X0H [0,1,2,3,4] [0,1,2,3,4] (by decide) (by decide);have e2:=X0H [0,2,3,4] [0,2,3,4] (by decide) (by decide);have e3:=X0H [3] [3] (by decide) (by decide);have hw0:IntKind.i64.wrap 0=0:=by decide
 have hq1:Qq 1 8:=XB (by decide) (by decide);have hq2:Qq 4 8:=XB (by decide) (by decide);have hq3:Qq 5 8:=XB (by decide) (by decide);rw[show slR 0 [0,1,2,3,4]=.tup [.one (.c (.sl 1 (Xe [0,1,2,3,4]))),li 0] from rfl]at cB;rw[show slR 0 [0,2,3,4]=.tup [.one (.c (.sl 1 (Xe [0,2,3,4]))),li 0] from rfl]at cF cC;simp only[exF,rfT,aF,aT,Fl.enc,Vr.enc,Xv,Xu,Xe,X9,Xo,St.enc,Tm.enc,List.map_cons,List.map_nil,List.cons_append,List.nil_append,if_true,decide_true,Bool.and_true,lI]at ce cB cF cC cN cP cL e1 e2 e3;refine X5 Tryz.func10 ?_;simp only[Tryz.f10];refine X3 ?_;refine Xj [⟨false,.v (.agg [.c (.sl 5 [[sC ⟨#[120]⟩,iC 1,iC 0,iC 3,iC 0],[sC ⟨#[121]⟩,iC 0,iC 0,iC 3,iC 0],[sC ⟨#[122]⟩,iC 0,iC 0,iC 3,iC 0],[sC ⟨#[119]⟩,iC 0,iC 0,iC 3,iC 0]]),.c (.sl 6 []),.c (.sl 10 [[iC 0,iC 0,iC 1,iC 0,iC 24,iC 0,.sl 3 [],.sl 10 [],.sl 10 [],.sl 1 []],[iC 0,iC 0,iC 2,iC 0,iC 0,iC 2,.sl 3 [],.sl 10 [],.sl 10 [],.sl 1 []],[iC 3,iC 0,iC 0,iC 0,iC 24,iC 1,.sl 3 [],.sl 10 [[iC 0,iC 0,iC 2,iC 0,iC 0,iC 1,.sl 3 [],.sl 10 [],.sl 10 [],.sl 1 []]],.sl 10 [],.sl 1 []],[iC 1,iC 0,iC 0,iC 0,iC 24,iC 2,.sl 3 [],.sl 10 [],.sl 10 [],.sl 1 []],[iC 1,iC 0,iC 0,iC 0,iC 24,iC 3,.sl 3 [],.sl 10 [],.sl 10 [],.sl 1 []]])]),none⟩] ?_ ?_
 · first|exact ce _|exact trivial|simpa[*]using ce _
 refine X1<|(QO 2 [] [⟨false,.tup [.one (.c (.sl 1 [[iC 0],[iC 1],[iC 2],[iC 3],[iC 4]])),li 0],none⟩] (by simp[*];rfl) trivial (XJ 17 rfl) (by simp[*];first|exact⟨rfl,Iff.rfl⟩|exact⟨rfl,trivial⟩|rfl) ?_ ?_)
 · first|exact cB _|simpa using cB _
 refine X1<|(QO 2 [] [⟨false,.tup [.one (.c (.sl 1 [[iC 0],[iC 2],[iC 3],[iC 4]])),li 0],none⟩] (by simp[*];rfl) trivial (XJ 23 rfl) (by simp[*];first|exact⟨rfl,Iff.rfl⟩|exact⟨rfl,trivial⟩|rfl) ?_ ?_)
 · first|exact cF _|simpa using cF _
 refine X1<|(QO 3 [] [⟨false,.tup [.one (.c (.sl 1 [[iC 0],[iC 2],[iC 3],[iC 4]])),li 0],none⟩] (by simp[*];rfl) trivial (le_trans (XJ 29 rfl) (XJ 30 rfl)) (by simp[*];first|exact⟨rfl,Iff.rfl⟩|exact⟨rfl,trivial⟩|rfl) ?_ ?_)
 · first|exact cC _|simpa using cC _
 refine X1<|(QO 2 [] [⟨false,.tup [.one (.c (.sl 1 [[iC 3]])),li 0],none⟩] (by simp[*];rfl) trivial (XJ 36 rfl) (by simp[*];first|exact⟨rfl,Iff.rfl⟩|exact⟨rfl,trivial⟩|rfl) ?_ ?_)
 · first|exact cN _|simpa using cN _
 refine X1<|(QO 2 [] [⟨false,.tup [.agg [.c (.sl 5 [[sC ⟨#[120]⟩,iC 1,iC 0,iC 3,iC 0],[sC ⟨#[121]⟩,iC 0,iC 0,iC 3,iC 0],[sC ⟨#[122]⟩,iC 0,iC 0,iC 3,iC 0],[sC ⟨#[119]⟩,iC 0,iC 0,iC 3,iC 0]]),.c (.sl 6 []),.c (.sl 10 [[iC 1,iC 0,iC 0,iC 0,iC 24,iC 3,.sl 3 [],.sl 10 [],.sl 10 [],.sl 1 []]])],li 0],none⟩] (by simp[*];rfl) trivial (XJ 42 rfl) (by simp[*,XI,Qp,XX,cellsOf,Qv];first|exact⟨rfl,Iff.rfl⟩|exact⟨rfl,trivial⟩|rfl) ?_ ?_)
 · first|exact cP _|simpa using cP _
 refine X1<|(QO 2 [] [⟨false,.tup [lb true,li 0],none⟩] (by simp[*];rfl) trivial (XJ 48 rfl) (by simp[*];first|exact⟨rfl,Iff.rfl⟩|exact⟨rfl,trivial⟩|rfl) ?_ ?_)
 · first|exact cL _|simpa using cL _
 refine Xj [⟨true,.v (lb true),none⟩,⟨true,.v (lb true),none⟩,⟨true,.v (lb true),none⟩,⟨true,.v (lb true),none⟩] ?_ ?_
 · first|exact⟨e1 _,e2 _,e2 _,e3 _⟩|exact trivial|(repeat' first|exact trivial|exact e1 _|exact e2 _|exact e2 _|exact e3 _|apply And.intro)
 exact Xc
end Go.Proofs.YtppjennamodfdaaGreat

namespace Go.Proofs.YtppjennamodfdaaGreat
open Go Go.Hl
abbrev lQ (l:List (List Int)):TV:=.one (.c (.sl 1 (X3g l)))
theorem idxQ_con (l:List (List Int)) (g:FuncId) (p:List Int→Bool) (hl:l.length≤1000000000) (hp:∀v∈l,∀d,Con Tryz.prog g true [lI v] (.v (lb (p v))) none d) (d:Nat):
  ∃r:Int,(∀d,Con Tryz.prog 76 true [lQ l,.one (.fn g [])] (.v (li r)) none d)∧(0≤r↔l.any p=true):=by
 let rec_:List (List Int)→Int→Int:=fun l k=>match l.findIdx? p with
  |some i=>k+i
  |none=>-1
 refine⟨(match l.findIdx? p with|some i=>(i:Int)|none=>-1),fun d=>?_,?_⟩
 · have hstep:∀k:Nat,(∀j:Nat,j<k→∀v,l[j]? =some v→p v=false)→∀v,l[k]? =some v→p v=true→l.findIdx? p=some k:=by
    intro k hno v hv hpv;rw[List.findIdx?_eq_some_iff_getElem];have hk:k<l.length:=(List.getElem?_eq_some_iff.1 hv).1;refine⟨hk,?_,fun j hj=>?_⟩
    · simp only[List.getElem?_eq_getElem hk,Option.some.injEq]at hv;rw[hv];exact hpv
    have:=hno j hj l[j] (by simp);simp[this]
   have hnone:(∀j:Nat,j<l.length→∀v,l[j]? =some v→p v=false)→l.findIdx? p=none:=by
    intro hno;rw[List.findIdx?_eq_none_iff];intro v hv;obtain⟨j,hj⟩:=List.mem_iff_getElem?.1 hv;exact hno j (List.getElem?_eq_some_iff.1 hj).1 v hj
   clear rec_;refine X5 Tryz.func76 ?_;simp only[Tryz.f76];refine X3 ?_;refine X1<|X1<|X2 ?_;refine X4<|(Xf [0,1,7] (fun(x:Nat)=>[(8,.v (li x))]) (fun x=>[]) (fun x=>x≤l.length∧∀j:Nat,j<x→∀v,l[j]? =some v→p v=false) (fun x=>l.length - x) (0:Nat) ⟨Nat.zero_le _,fun j hj=>absurd hj (Nat.not_lt_zero j)⟩ ?_ ?_)
   · exact X6 (fun n=>n) []
   rintro k ⟨hk,hJ⟩;simp only[upS,X8,Xw]
   try simp only[X8,KN,Nat.reduceBEq,if_true,if_false,ins,Nat.reduceLT]
   refine X3 ?_;refine X1<|(X7 rfl (fun h4=>Xb ?_) (fun h4=>?_))
   · (try simp only[BN]at h4);have hlt:k<l.length:=by first|omega|simpa using h4
     obtain⟨v,he,hd⟩:=Xs hlt;have he2:=Xa2 he;have hw1:=XA hlt (by omega);have hk1:k+1≤l.length:=hlt;have hpv:=hp v (List.mem_of_getElem? he);have hs:=hstep k hJ v he;clear hlt h4 hstep hnone hp;refine X1<|X4<|X1<|X2 ?_;refine Xj [⟨true,.v (lb (p v)),none⟩] ?_ ?_
     · first|exact hpv _|exact trivial|simpa[*]using hpv _
     refine(Xa rfl (fun h7=>?_) fun h7=>?_)
     · (try simp only[BN]at h7);rw[hs h7];refine X3 ?_;exact Xc
     (try simp only[BN]at h7);refine X2 ?_;exact⟨k+1,⟨hk1,fun j hj w hw=>(Nat.lt_succ_iff_lt_or_eq.1 hj).elim (fun h=>hJ j h w hw) (fun e=>by subst e;rw[he]at hw;cases hw;exact h7)⟩,by omega,X6 (fun n=>n) []⟩
   (try simp only[BN]at h4);rw[hnone fun j hj=>hJ j (by omega)];refine(Xi ?_);refine X3 ?_;exact Xc
 rw[List.any_eq];cases h:l.findIdx? p with
 | none=>
   rw[List.findIdx?_eq_none_iff]at h;simp only[decide_eq_true_eq];constructor
   · intro h;omega
   rintro⟨v,hv,hpv⟩;have:=h v hv;rw[hpv]at this;cases this
 | some i=>
   rw[List.findIdx?_eq_some_iff_getElem]at h;obtain⟨hi,hpi,_⟩:=h;simp only[decide_eq_true_eq];exact⟨fun _=>⟨l[i],List.getElem_mem _,hpi⟩,fun _=>by omega⟩
theorem conQ_con (l:List (List Int)) (g:FuncId) (p:List Int→Bool) (hl:l.length≤1000000000) (hp:∀v∈l,∀d,Con Tryz.prog g true [lI v] (.v (lb (p v))) none d) (d:Nat):
  Con Tryz.prog 39 true [lQ l,.one (.fn g [])] (.v (lb (l.any p))) none d:=by
 obtain⟨r,hr,hi⟩:=idxQ_con l g p hl hp 0;have hd:decide (0≤r)=l.any p:=by rw[Bool.eq_iff_iff,decide_eq_true_eq];exact hi
 clear hi hp;refine X5 Tryz.func39 ?_;simp only[Tryz.f39];refine X3 ?_;refine Xj [⟨true,.v (li r),none⟩] ?_ ?_
 · first|exact hr _|exact trivial|simpa[*]using hr _
 exact Xc
theorem long_con (l:List Int) (d:Nat):Con Tryz.prog 40 true [lI l] (.v (lb (decide ((40:Int)<l.length)))) none d:=by
 refine X5 Tryz.func40 ?_;simp only[Tryz.f40];refine X3 ?_;refine X3 ?_;exact Xc
def fitQ (f:Fl) (qs:List (List Int)):Bool:= !(qs.any fun l=>decide ((40:Int)<l.length))&&(X1w f 70 300&&(decide (Q0 f≠0)||(fitB f 4096 4096 256&&decide ((szL f.body:Int)≤24))))
theorem XdJ {f:Fl} (h:X1w f 70 300=true):Sm f:=by
 obtain⟨h1,h2,h3,h4⟩:=X89 (nodes:=300) (by decide) h;exact⟨by omega,by omega,by omega,h4⟩
end Go.Proofs.YtppjennamodfdaaGreat

namespace Go.Proofs.YtppjennamodfdaaGreat
open Go Go.Hl
set_option maxHeartbeats 8000000 in
theorem Xbx (f:Fl) (qs:List (List Int)) (hq:qs.length≤1000000) (d:Nat):Con Tryz.prog 11 true [aF f,lQ qs] (.v (lb (fitQ f qs))) none d:=by
 have cl:=conQ_con qs 40 (fun l=>decide ((40:Int)<l.length)) (by omega) (fun l _ d=>long_con l d);have cf:=XbQ f 70 300 (by decide) (by decide);have hin:=fun h:X1w f 70 300=true=>X89 (nodes:=300) (by decide) h;have hcc:=fun h:X1w f 70 300=true=>Zl f (by have:=(hin h).1;omega) (by have:=(hin h).2.1;omega) (by have:=(hin h).2.2.1;omega) (hin h).2.2.2;have cft:=Xd2 f 4096 4096 256;have hsz:=fun h:X1w f 70 300=true=>Zt f.body (by have:=(hin h).2.2.1;omega);obtain⟨res,hres⟩:∃r,fitQ f qs=r:=⟨_,rfl⟩;rw[hres];unfold fitQ at hres;obtain⟨A,hA⟩:∃x,(qs.any fun l=>decide ((40:Int)<l.length))=x:=⟨_,rfl⟩;obtain⟨FW,hFW⟩:∃x,X1w f 70 300=x:=⟨_,rfl⟩;obtain⟨K,hK⟩:∃x,Q0 f=x:=⟨_,rfl⟩;obtain⟨FT,hFT⟩:∃x,fitB f 4096 4096 256=x:=⟨_,rfl⟩;obtain⟨Z,hZ⟩:∃x,(szL f.body:Int)=x:=⟨_,rfl⟩;rw[hA]at cl hres;rw[hFW]at cf hcc hsz hres;rw[hK]at hcc hres;rw[hFT]at cft hres;rw[hZ]at hsz hres;clear hin hA hFW hK hFT hZ;obtain⟨vars,hats,body⟩:=f;simp only[aF,Fl.enc,List.map_cons,List.map_nil]at cf hcc cft hsz⊢;refine X5 Tryz.func11 ?_;simp only[Tryz.f11];refine X3 ?_;refine X1<|X1<|(Xm [⟨true,.v (lb A),none⟩] ?_ ?_)
 · first|exact cl _|exact trivial|simpa[*]using cl _
 refine(Xa rfl (fun h2=>?_) fun h2=>?_)
 · (try simp only[BN]at h2);have hAt:A=true:=by simpa using h2
   subst hAt;simp only[Bool.not_true,Bool.false_and]at hres;subst hres;clear h2;refine X3 ?_;exact Xc
 (try simp only[BN]at h2);have hAt:A=false:=by simpa using h2
 subst hAt;simp only[Bool.not_false,Bool.true_and]at hres;clear h2 cl;rcases FW with _|_
 · clear hcc hsz cft;subst hres;refine X1<|(XR ?_);refine RunsN.cutE 3 [⟨true,.v (lb false),none⟩] (by simp[*];first|exact⟨rfl,Iff.rfl⟩|exact⟨rfl,trivial⟩|rfl) (by first|exact cf _|simpa using cf _) (le_refl _) ?_;refine RunsN.skip (.bool false) (by simp[QJ]) (by rfl) ?_;refine RunsN.skip (.bool false) (by simp[QJ]) (by rfl) ?_;refine RunsN.skip (.bool false) (by simp[QJ]) (by rfl) ?_;refine RunsN.skip (.bool false) (by simp[QJ]) (by rfl) ?_;refine RunsN.skip (.bool false) (by simp[QJ]) (by rfl) ?_;refine RunsN.skip (.bool false) (by simp[QJ]) (by rfl) ?_;refine RunsN.skip (.bool false) (by simp[QJ]) (by rfl) ?_;refine RunsN.skip (.bool false) (by simp[QJ]) (by rfl) ?_;refine RunsN.skip (.bool false) (by simp[QJ]) (by rfl) ?_;refine RunsN.skip (.bool false) (by simp[QJ]) (by rfl) ?_;refine RunsN.skip (.bool false) (by simp[QJ]) (by rfl) ?_;refine RunsN.skip (.bool false) (by simp[QJ]) (by rfl) ?_;refine RunsN.skip (.bool false) (by simp[QJ]) (by rfl) ?_;refine RunsN.doneE [] (by simp[*];rfl) trivial ?_;exact Xc
 have hcc:=hcc rfl;have hsz:=hsz rfl;simp only[Bool.true_and]at hres;rcases Classical.em (K=0)with hz|hz
 · subst hz;simp only[ne_eq,not_true_eq_false,decide_false,Bool.false_or]at hres;rcases FT with _|_
   · simp only[Bool.false_and]at hres;subst hres;refine X1<|(WP [some ⟨true,.v (lb true),none⟩,some ⟨true,.v (li 0),none⟩,some ⟨true,.v (lb false),none⟩,none] (by simp[*];first|exact⟨rfl,Iff.rfl⟩|exact⟨rfl,trivial⟩|rfl) ?_ ?_)
     · first|exact trivial|exact⟨cf _,hcc _,cft _⟩|simpa using⟨cf _,hcc _,cft _⟩
     exact Xc
   simp only[Bool.true_and]at hres;refine X1<|(WP [some ⟨true,.v (lb true),none⟩,some ⟨true,.v (li 0),none⟩,some ⟨true,.v (lb true),none⟩,some ⟨true,.v (li Z),none⟩] (by simp[*];first|exact⟨rfl,Iff.rfl⟩|exact⟨rfl,trivial⟩|rfl) ?_ ?_)
   · first|exact trivial|exact⟨cf _,hcc _,cft _,hsz _⟩|simpa using⟨cf _,hcc _,cft _,hsz _⟩
   exact Xc
 simp only[ne_eq,hz,not_false_eq_true,decide_true,Bool.true_or]at hres;subst hres;refine X1<|(XR ?_);refine RunsN.cutE 7 [⟨true,.v (lb true),none⟩,⟨true,.v (li K),none⟩] (by simp[*];first|exact⟨rfl,Iff.rfl⟩|exact⟨rfl,trivial⟩|rfl) (by first|exact⟨cf _,hcc _⟩|simpa using⟨cf _,hcc _⟩) (le_refl _) ?_;refine RunsN.skip (.bool false) (by simp[QJ]) (by rfl) ?_;refine RunsN.skip (.bool false) (by simp[QJ]) (by rfl) ?_;refine RunsN.skip (.bool false) (by simp[QJ]) (by rfl) ?_;refine RunsN.skip (.bool false) (by simp[QJ]) (by rfl) ?_;refine RunsN.skip (.bool false) (by simp[QJ]) (by rfl) ?_;refine RunsN.skip (.bool false) (by simp[QJ]) (by rfl) ?_;refine RunsN.skip (.bool false) (by simp[QJ]) (by rfl) ?_;refine RunsN.skip (.bool false) (by simp[QJ]) (by rfl) ?_;refine RunsN.doneE [] (by simp[*];rfl) trivial ?_;exact Xc
end Go.Proofs.YtppjennamodfdaaGreat

namespace Go.Proofs.YtppjennamodfdaaGreat
open Go Go.Hl
def kp (q:List Int):Int→Bool:=fun j=>decide (j∈q)
set_option maxHeartbeats 16000000 in
theorem kept_con (q:List Int) (hq:q.length≤1000000000) (l:List St):Xk l≤1000000→∀i:Int,0≤i→i+szL l≤5000000→∀d:Nat,Con Tryz.prog 28 false [lS l,lI q,li i] (.v (lS (prL (kp q) l i))) none d:=by
 revert l
 apply St.lists;intro l ih hn i hi0 hi1 d;have hlen:=Qg l;have hszl:=QV l;have ck:=fun x=>X3x q x hq;obtain⟨res,hres⟩:∃r,prL (kp q) l i=r:=⟨_,rfl⟩;rw[hres];refine X5 Tryz.func28 ?_;simp only[Tryz.f28];refine X3 ?_;refine X3 ?_;refine X1<|X1<|X2 ?_;refine X4<|(Xf [1,12,13] (fun(x:Nat×Int×List St)=>[(2,.v (li x.2.1)),(7,.v (.one (.own 1003))),(14,.v (li x.1))]) (fun x=>[(1003,.row 76 10 (X9 x.2.2))]) (fun x=>x.1≤l.length∧x.2.2++prL (kp q) (l.drop x.1) x.2.1=res∧x.2.2.length≤x.1∧0≤x.2.1∧x.2.1+szL (l.drop x.1)≤5000000) (fun x=>l.length - x.1) (0,i,[]) ⟨Nat.zero_le _,by simpa using hres,Nat.le_refl _,hi0,by simp only[List.drop_zero];omega⟩ ?_ ?_)
 · exact X6 (fun n=>n) [1003]
 rintro⟨k,c,acc⟩ ⟨hk,hJ,hal,hc0,hc1⟩;simp only[upS,X8,Xw]
 try simp only[X8,KN,Nat.reduceBEq,if_true,if_false,ins,Nat.reduceLT]
 simp only at hk hJ hal hc0 hc1;clear hres hi0 hi1;refine X3 ?_;refine X1<|(X7 rfl (fun h5=>Xb ?_) (fun h5=>?_))
 · (try simp only[BN]at h5);have hlt:k<l.length:=by first|omega|simpa using h5
   obtain⟨s,he,hd⟩:=Xs hlt;have hw1:=XA hlt (by omega);have hk1:k+1≤l.length:=hlt;have hmem:s∈l:=List.mem_of_getElem? he;have hnm:=Qj hmem;rw[hd]at hJ hc1;simp only[prL]at hJ;simp only[szL]at hc1;have he':=Q1 he;have iha:=(ih s hmem).1;have ihb:=(ih s hmem).2;have hroom:Qq (acc.length+1) 144:=XB (by omega) (by omega);obtain⟨sd,sc,sv,sn,⟨so,stn,sks⟩,sa,sb,sbs⟩:=s;simp only[St.then_,St.else_,St.term]at iha ihb hnm;have ca:=Zt sa (by omega);have cb:=Zt sb (by omega);have hla:=QV sa;have hlb:=QV sb;simp only[prS,szS]at hJ;simp only[szS]at hc1;simp only[St.enc,Tm.enc,List.cons_append,List.nil_append]at he';generalize szL sa=na at*;generalize szL sb=nb at*;have hwa:IntKind.i64.wrap (c+1)=c+1:=Xd (by omega) (by omega);have hwb:IntKind.i64.wrap (c+1+(na:Int))=c+1+(na:Int):=Xd (by omega) (by omega);have hwc:IntKind.i64.wrap (1+(na:Int))=1+(na:Int):=Xd (by omega) (by omega);have hwd:IntKind.i64.wrap (1+(na:Int)+(nb:Int))=1+(na:Int)+(nb:Int):=Xd (by omega) (by omega);have hwe:IntKind.i64.wrap (c+(1+(na:Int)+(nb:Int)))=c+(1+(na:Int)+(nb:Int)):=Xd (by omega) (by omega);have hc:c+((1+na+nb:Nat):Int)=c+(1+(na:Int)+(nb:Int)):=by omega
   rw[hc,←List.append_assoc]at hJ;have iha:=iha (by omega) (c+1) (by omega) (by omega);have ihb:=ihb (by omega) (c+1+(na:Int)) (by omega) (by omega);have ckc:=ck c;obtain⟨A,hA⟩:∃x,prL (kp q) sa (c+1)=x:=⟨_,rfl⟩;obtain⟨B,hB⟩:∃x,prL (kp q) sb (c+1+(na:Int))=x:=⟨_,rfl⟩;rw[hA]at iha hJ;rw[hB]at ihb hJ;obtain⟨G,hG⟩:∃x,decide (c∈q)=x:=⟨_,rfl⟩;have hkG:kp q c=G:=hG;rw[hG]at ckc;rw[hkG]at hJ;have hsn:=X67 acc (.mk sd sc sv sn (.mk so stn sks) A B sbs);simp only[St.enc,Tm.enc,List.cons_append,List.nil_append]at hsn;clear hlt h5 ih hmem hd he hc hA hB ck hG hkG;refine X1<|X4<|X1<|X2 ?_;refine X1<|(XS [⟨true,.v (li (na:Int)),none⟩,⟨true,.v (li (nb:Int)),none⟩] (by kernel_rfl) (by kernel_rfl) (by rfl) (by simp[*];first|exact⟨rfl,Iff.rfl⟩|exact⟨rfl,trivial⟩|rfl) ?_ ?_)
   · first|exact⟨ca _,cb _⟩|exact trivial|(repeat' first|exact trivial|exact ca _|exact cb _|apply And.intro)
   refine(XV [1,2,10,11,12,13,14] (fun(z:List St)=>[(7,.v (.one (.own 1003)))]) (fun(z:List St)=>[(1003,.row 76 10 (X9 z))]) (fun(z:List St)=>z++prL (kp q) (l.drop (k+1)) (c+(1+(na:Int)+(nb:Int)))=res∧z.length≤k+1) ?_ ?_)
   ·
    refine Xj [⟨true,.v (lb G),none⟩] ?_ ?_
    · first|exact ckc _|exact trivial|simpa[*]using ckc _
    refine(Xa rfl (fun h10=>?_) fun h10=>?_)
    · (try simp only[BN]at h10);have hGt:G=true:=by simpa using h10
      rw[if_pos hGt]at hJ;refine X1<|(X4q [(27,9),(33,9),(41,9),(42,9)] [⟨false,.v (lS A),none⟩,⟨false,.v (lS B),none⟩] (by kernel_rfl) (by kernel_rfl) (by rfl) (by simp[X4d,X5a,Qy, *];first|exact⟨rfl,Iff.rfl⟩|exact⟨rfl,trivial⟩|rfl) ?_ ?_)
      · first|exact⟨iha _,ihb _⟩|exact trivial|(repeat' first|exact trivial|exact iha _|exact ihb _|apply And.intro)
      refine X2 ?_;exact⟨acc++[.mk sd sc sv sn (.mk so stn sks) A B sbs],⟨hJ,by simp only[List.length_append,List.length_singleton];omega⟩,X6 (fun n=>if n=1003 then 46 else n) []⟩
    (try simp only[BN]at h10);have hGf:¬G=true:=by simpa using h10
    rw[if_neg hGf,List.append_nil]at hJ;exact⟨acc,⟨hJ,by omega⟩,X6 (fun n=>n) []⟩
   rintro z ⟨hz,hzl⟩;simp only[upS,X8,Xw]
   try simp only[X8,KN,Nat.reduceBEq,if_true,if_false,ins,Nat.reduceLT]
   refine X2 ?_;refine X2 ?_;exact⟨(k+1,c+(1+(na:Int)+(nb:Int)),z),⟨hk1,hz,hzl,by simp only;omega,by simp only;omega⟩,by simp only;omega,X6 (fun n=>n) []⟩
 (try simp only[BN]at h5);have hkl:k=l.length:=by first|omega|(have:¬k<l.length:=by simpa using h5;omega)
 rw[hkl,List.drop_length]at hJ;simp only[prL,List.append_nil]at hJ;subst hJ;refine(Xi ?_);refine X3 ?_;exact XF ⟨.inr rfl,_,XJ 1003 rfl,⟨⟨_,by simp;rfl,by simp[XD]⟩,by simp,fun h=>by cases h⟩⟩
theorem idxI_con (l:List Int) (g:FuncId) (cap:List CD) (p:Int→Bool) (hl:l.length≤1000000000) (hp:∀v∈l,∀d,Con Tryz.prog g true (li v::cap.map fun c=>.one (.c c)) (.v (lb (p v))) none d) (d:Nat):
  Con Tryz.prog 56 true [lI l,.one (.c (.fn g cap))] (.v (li (match l.findIdx? p with|some i=>(i:Int)|none=>-1))) none d:=by
 have hstep:∀k:Nat,(∀j:Nat,j<k→∀v,l[j]? =some v→p v=false)→∀v,l[k]? =some v→p v=true→l.findIdx? p=some k:=by
  intro k hno v hv hpv;rw[List.findIdx?_eq_some_iff_getElem];have hk:k<l.length:=(List.getElem?_eq_some_iff.1 hv).1;refine⟨hk,?_,fun j hj=>?_⟩
  · simp only[List.getElem?_eq_getElem hk,Option.some.injEq]at hv;rw[hv];exact hpv
  have:=hno j hj l[j] (by simp);simp[this]
 have hnone:(∀j:Nat,j<l.length→∀v,l[j]? =some v→p v=false)→l.findIdx? p=none:=by
  intro hno;rw[List.findIdx?_eq_none_iff];intro v hv;obtain⟨j,hj⟩:=List.mem_iff_getElem?.1 hv;exact hno j (List.getElem?_eq_some_iff.1 hj).1 v hj
 refine X5 Tryz.func56 ?_;simp only[Tryz.f56];refine X3 ?_;refine X1<|X1<|X2 ?_;refine X4<|(Xf [0,1,7] (fun(x:Nat)=>[(8,.v (li x))]) (fun x=>[]) (fun x=>x≤l.length∧∀j:Nat,j<x→∀v,l[j]? =some v→p v=false) (fun x=>l.length - x) (0:Nat) ⟨Nat.zero_le _,fun j hj=>absurd hj (Nat.not_lt_zero j)⟩ ?_ ?_)
 · exact X6 (fun n=>n) []
 rintro k ⟨hk,hJ⟩;simp only[upS,X8,Xw]
 try simp only[X8,KN,Nat.reduceBEq,if_true,if_false,ins,Nat.reduceLT]
 refine X3 ?_;refine X1<|(X7 rfl (fun h4=>Xb ?_) (fun h4=>?_))
 · (try simp only[BN]at h4);have hlt:k<l.length:=by first|omega|simpa using h4
   obtain⟨v,he,hd⟩:=Xs hlt;have he2:=X4A he;have hw1:=XA hlt (by omega);have hk1:k+1≤l.length:=hlt;have hpv:=hp v (List.mem_of_getElem? he);have hs:=hstep k hJ v he;clear hlt h4 hstep hnone hp;refine X1<|X4<|X1<|X2 ?_;refine Xj [⟨true,.v (lb (p v)),none⟩] ?_ ?_
   · first|exact hpv _|exact trivial|simpa[*]using hpv _
   refine(Xa rfl (fun h7=>?_) fun h7=>?_)
   · (try simp only[BN]at h7);rw[hs h7];refine X3 ?_;exact Xc
   (try simp only[BN]at h7);refine X2 ?_;exact⟨k+1,⟨hk1,fun j hj w hw=>(Nat.lt_succ_iff_lt_or_eq.1 hj).elim (fun h=>hJ j h w hw) (fun e=>by subst e;rw[he]at hw;cases hw;exact h7)⟩,by omega,X6 (fun n=>n) []⟩
 (try simp only[BN]at h4);rw[hnone fun j hj=>hJ j (by omega)];refine(Xi ?_);refine X3 ?_;exact Xc
theorem any_idx {α:Type} (l:List α) (p:α→Bool):decide (0≤(match l.findIdx? p with|some i=>(i:Int)|none=>-1))=l.any p:=by
 rw[Bool.eq_iff_iff,decide_eq_true_eq,List.any_eq];cases h:l.findIdx? p with
 | none=>
   rw[List.findIdx?_eq_none_iff]at h;simp only[decide_eq_true_eq];constructor
   · intro h;omega
   rintro⟨v,hv,hpv⟩;have:=h v hv;rw[hpv]at this;cases this
 | some i=>
   rw[List.findIdx?_eq_some_iff_getElem]at h;obtain⟨hi,hpi,_⟩:=h;simp only[decide_eq_true_eq];exact⟨fun _=>⟨l[i],List.getElem_mem _,hpi⟩,fun _=>by omega⟩
theorem conI_con (l:List Int) (g:FuncId) (cap:List CD) (p:Int→Bool) (hl:l.length≤1000000000) (hp:∀v∈l,∀d,Con Tryz.prog g true (li v::cap.map fun c=>.one (.c c)) (.v (lb (p v))) none d) (d:Nat):
  Con Tryz.prog 22 true [lI l,.one (.c (.fn g cap))] (.v (lb (l.any p))) none d:=by
 have hr:=idxI_con l g cap p hl hp;have hd:=any_idx l p;obtain⟨r,hrr⟩:∃x:Int,(match l.findIdx? p with|some i=>(i:Int)|none=>-1)=x:=⟨_,rfl⟩;rw[hrr]at hr hd;clear hp hrr;refine X5 Tryz.func22 ?_;simp only[Tryz.f22];refine X3 ?_;refine Xj [⟨true,.v (li r),none⟩] ?_ ?_
 · first|exact hr _|exact trivial|simpa[*]using hr _
 exact Xc
end Go.Proofs.YtppjennamodfdaaGreat

namespace Go.Proofs.YtppjennamodfdaaGreat
open Go Go.Hl
theorem Cl.pre {R:List (List Nat)} {d x k:Nat} (hx:x∈R[d]?.getD []) (h:Cl R [x] k):Cl R [d] k:=by
 induction h with
 |base h=>rw[List.mem_singleton.1 h];exact .step (.base (by simp)) hx
 |step _ h ih=>exact .step ih h
theorem Cl.rev {D R:List (List Nat)} (hr:∀x y:Nat,y∈R[x]?.getD []↔x∈D[y]?.getD []) {k d:Nat} (h:Cl D [k] d):Cl R [d] k:=by
 induction h with
 |base h=>rw[List.mem_singleton.1 h];exact .base (by simp)
 |step _ h ih=>exact Cl.pre ((hr _ _).2 h) ih
theorem X0K (n:Nat) (t:List Nat) (d:Nat):d∈X2G n t↔d<n∧d∈t:=by simp[X2G]
theorem XaU {f:Fl} (h:Sm f) {q:List Int} (hq:∀d∈QG q,d<(Q4 f).length) (d:Nat):d∈bwL f q↔Cl (Q4 f) (QG q) d:=by
 obtain⟨h1,h2⟩:=WG (X4x h) hq;rw[bwL,X0K,←h2];exact⟨fun h=>h.2,fun h=>⟨h1.lt d h,h⟩⟩
theorem fw_mem {f:Fl} (h:Sm f) {q:List Int} (hq:∀d∈QG q,d<(Q4 f).length) (d:Nat):d∈fwL f q↔Cl (X1k (Q4 f)) (QG q) d:=by
 have hl:(Q4 f).length≤1000:=by rw[QN];exact(Z6 h).hn
 obtain⟨h1,h2⟩:=WG (X7P hl (X0b h)) (l0:=QG q) (by rw[X0U];exact hq);rw[fwL,X0K,←h2];exact⟨fun h=>h.2,fun h=>⟨by have:=h1.lt d h;rwa [X0U]at this,h⟩⟩
theorem dual {f:Fl} (h:Sm f) {i k:Nat} (hi:i<szL f.body) (hk:k<szL f.body):(i∈bwL f [(k:Int)]↔k∈fwL f [(i:Int)])∧k∈bwL f [(k:Int)]∧i∈fwL f [(i:Int)]:=by
 have hn:(Q4 f).length=szL f.body:=by rw[QN,XO]
 have e:∀j:Nat,QG [(j:Int)]=[j]:=fun j=>by simp[QG]
 have hb:∀j:Nat,j<szL f.body→∀d∈QG [(j:Int)],d<(Q4 f).length:=fun j hj d hd=>by
  rw[e,List.mem_singleton]at hd;omega
 have hr:∀x y:Nat,y∈(X1k (Q4 f))[x]?.getD []↔x∈(Q4 f)[y]?.getD []:=fun x y=>X9n (fun l hl=>(X0b h l hl).2) x y;rw[XaU h (hb k hk),XaU h (hb k hk),fw_mem h (hb i hi),fw_mem h (hb i hi),e,e];exact⟨⟨Cl.rev hr,Cl.rev fun x y=>(hr y x).symm⟩,.base (by simp),.base (by simp)⟩
end Go.Proofs.YtppjennamodfdaaGreat

namespace Go.Proofs.YtppjennamodfdaaGreat
open Go Go.Hl
end Go.Proofs.YtppjennamodfdaaGreat
