/- Part 12: contracts of functions of the program and of the reference, and plain facts about what they compute; used by the proof of the claimed statement. Conditions: as each theorem states. -/
import Derived.Test.YtppjennamodfdaaGreatK11
import Derived.Test.YtppjennamodfdaaGreatK9
import Derived.Test.YtppjennamodfdaaGreatK7
import Derived.Test.YtppjennamodfdaaGreatHmZP
import Derived.Test.YtppjennamodfdaaGreatK10
set_option linter.unusedSimpArgs false
set_option linter.unusedVariables false
set_option linter.unnecessarySimpa false
set_option maxRecDepth 100000
set_option maxHeartbeats 2000000
namespace Go.Proofs.YtppjennamodfdaaGreat
open Go Go.Hl
mutual
theorem layS_n0:∀(s:St) (p:Int) (k after:Nat),1≤after→∀x∈X1p s p k after,x.k≠0∧x.n≠0∧x.o≠0
 | .mk o c v q t a b bs,p,k,after,haf,x,hx=>by
   unfold X1p at hx;split at hx
   · rcases List.mem_cons.1 hx with rfl|hx
     · refine⟨by simp,?_,?_⟩<;>(simp only;split<;>omega)
     rcases List.mem_append.1 hx with hx|hx
     · exact X25 a _ _ _ haf x hx
     exact X25 b _ _ _ haf x hx
   split at hx
   · rcases List.mem_cons.1 hx with rfl|hx
     · refine⟨by simp,?_,by simp⟩;simp only;omega
     rcases List.mem_cons.1 hx with rfl|hx
     · refine⟨by simp,?_,?_⟩
       · simp only;split<;>omega
       simp only;omega
     exact X25 a _ _ _ (by omega) x hx
   rw[List.mem_singleton.1 hx];refine⟨by simp,?_,by simp⟩;simp only;omega
theorem X25:∀(l:List St) (p:Int) (k after:Nat),1≤after→∀x∈Ws l p k after,x.k≠0∧x.n≠0∧x.o≠0
 |[],_,_,_,_,x,hx=>by simp[Ws]at hx
 | s ::l,p,k,after,haf,x,hx=>by
   unfold Ws at hx;rcases List.mem_append.1 hx with hx|hx
   · refine layS_n0 s p k _ ?_ x hx;split
     · exact haf
     have:=X7N s;omega
   exact X25 l _ _ _ haf x hx
end
theorem pw_at {α:Type} {r:α→α→Prop} {l:List α} (h:l.Pairwise r) {i j:Nat} {x y:α} (hi:l[i]? =some x) (hj:l[j]? =some y) (hij:i<j):r x y:=by
 obtain⟨h1,e1⟩:=List.getElem?_eq_some_iff.1 hi;obtain⟨h2,e2⟩:=List.getElem?_eq_some_iff.1 hj;rw[←e1,←e2];exact List.pairwise_iff_getElem.1 h i j h1 h2 hij
theorem nums_at {N:List Nd} (h:((N.filter rdB).map (·.a)).Pairwise (· < ·)):∀(i j:Nat) (x y:Nd),N[i]? =some x→N[j]? =some y→rdB x=true→rdB y=true→i<j→x.a<y.a:=by
 have h2:N.Pairwise fun x y=>rdB x=true→rdB y=true→x.a<y.a:=by
  rw[List.pairwise_map,List.pairwise_filter]at h;exact h.imp fun h a b=>h a b
 intro i j x y hi hj hx hy hij;exact pw_at h2 hi hj hij hx hy
theorem asg_rd {steps:List St} {x:Nd} (h:Ql steps x=true) (ha:0≤x.a):rdB x=true:=by
 unfold Ql at h;simp only[Bool.and_eq_true,decide_eq_true_eq]at h;simp[rdB,ha,h.1]
theorem grN_w {f:Fl} (hg:gL f.body=true) (hs:∀q∈flL f.body,q.do_=0∨q.do_=5→0≤q.var):Gw (grN f.body) (flL f.body):=by
 have hok:=X5U hg;have hnum:=nums_at (grN_nums hg);rw[←XT]at hok
 have hasg:∀x∈grN f.body,Ql (flL f.body) x=true→(∃a:Nat,x.a=a∧a<(flL f.body).length)∧0≤X0B (flL f.body) x:=by
  intro x hx ha
  have hk:x.k=2:=by
   unfold Ql at ha;simp only[Bool.and_eq_true,decide_eq_true_eq]at ha;exact ha.1
  obtain⟨a,h1,h2⟩:=(hok x hx).ha.resolve_left fun h=>h.1 hk;refine⟨⟨a,h1,h2⟩,?_⟩;unfold Ql at ha;unfold X0B;rw[h1,Int.toNat_natCast,List.getElem?_eq_getElem h2]at ha⊢;simp only[Bool.and_eq_true,Bool.or_eq_true,decide_eq_true_eq]at ha;exact hs _ (List.getElem_mem h2) (by simpa using ha.2)
 refine⟨⟨_,rfl,rfl⟩,?_,?_,?_,hasg⟩
 · intro i x hi h0;cases i with
   |zero=>rfl
   | succ i=>
     have hm:x∈Ws f.body 0 1 (1+wdL f.body)++[⟨1,-1,-1,-1⟩]:=List.mem_of_getElem? (by simpa[grN]using hi);rcases List.mem_append.1 hm with h|h
     · exact absurd h0 (X25 _ _ _ _ (by omega) x h).1
     rw[List.mem_singleton.1 h]at h0;simp at h0
 · intro x hx;unfold grN at hx;rcases List.mem_cons.1 hx with rfl|hx
   · refine⟨?_,by simp⟩;simp only;split<;>omega
   rcases List.mem_append.1 hx with h|h
   · exact(X25 _ _ _ _ (by omega) x h).2
   rw[List.mem_singleton.1 h];simp
 intro i j x y hi hj hx hy he;have rx:=asg_rd hx (by obtain⟨⟨a,h,_⟩,_⟩:=hasg x (List.mem_of_getElem? hi) hx;omega);have ry:=asg_rd hy (by obtain⟨⟨a,h,_⟩,_⟩:=hasg y (List.mem_of_getElem? hj) hy;omega);rcases Nat.lt_trichotomy i j with h|h|h
 · have:=hnum i j x y hi hj rx ry h;omega
 · exact h
 have:=hnum j i y x hj hi ry rx h;omega
structure Gq (N:List Nd) (steps:List St) (n m:Nat) (S:List (List Nat)):Prop where
 len:S.length=N.length
 nod:∀l∈S,l.Nodup
 mem:∀(to:Nat) l,S[to]? =some l→∀d,d∈l↔(∃(i:Nat) (x:Nd),i<n∧N[i]? =some x∧Ql steps x=true∧x.a=d∧Fw N (dfN steps) (dfN steps x) i to)∨∃v:Nat,v<m∧d=steps.length+v∧Fw N (dfN steps) v 0 to
open Classical in
noncomputable def fwT (N:List Nd) (df:Nd→Int) (v:Int) (i0:Nat):List Nat:=(List.range N.length).filter fun to=>decide (Fw N df v i0 to)
theorem fwT_mem {N:List Nd} {df:Nd→Int} {v:Int} {i0:Nat} {T:List Nat} (h:Bf N df v i0 T [] noC) (to:Nat):to∈T↔to∈fwT N df v i0:=by
 classical
 unfold fwT;simp only[List.mem_filter,List.mem_range,decide_eq_true_eq];exact⟨fun ht=>⟨(h.fw to ht).2,(h.done to).1 ht⟩,fun ht=>(h.done to).2 ht.2⟩
theorem Xb6 {N:List Nd} {df:Nd→Int} {v:Int} {i0 to:Nat} (hl:to<N.length):to∈fwT N df v i0↔Fw N df v i0 to:=by
 classical
 unfold fwT;simp only[List.mem_filter,List.mem_range,decide_eq_true_eq];exact⟨fun h=>h.2,fun h=>⟨hl,h⟩⟩
theorem X9e {T:List Nat} {d:Nat} {S:List (List Nat)} (h:∀l∈S,l.Nodup) (hd:∀l∈S,d∉l):∀l∈Wr T d S,l.Nodup:=by
 intro l hl;obtain⟨k,hk⟩:=List.mem_iff_getElem?.1 hl;unfold Wr at hk;rw[List.getElem?_mapIdx]at hk;simp only[Option.map_eq_some_iff]at hk;obtain⟨m,hm,rfl⟩:=hk;have hmS:=List.mem_of_getElem? hm;split
 · rw[List.nodup_append];exact⟨h m hmS,by simp,fun a ha b hb=>by rw[List.mem_singleton.1 hb];rintro rfl;exact hd m hmS ha⟩
 exact h m hmS
section
variable {N:List Nd} {steps:List St} {n m:Nat} {S:List (List Nat)}
theorem Gq.zero:Gq N steps 0 0 (List.replicate N.length []):=by
 refine⟨by simp,fun l hl=>by rw[(List.mem_replicate.1 hl).2];simp,fun to l hl d=>?_⟩;have:=List.mem_of_getElem? hl;rw[(List.mem_replicate.1 this).2];simp
theorem Gq.lt (g:Gw N steps) (h:Gq N steps n m S) {l:List Nat} (hl:l∈S) {d:Nat} (hd:d∈l):d<steps.length+m:=by
 obtain⟨to,hto⟩:=List.mem_iff_getElem?.1 hl;rcases(h.mem to l hto d).1 hd with⟨i,x,_,hx,ha,he,_⟩|⟨v,hv,rfl,_⟩
 · obtain⟨⟨a,h1,h2⟩,_⟩:=g.asg x (List.mem_of_getElem? hx) ha;omega
 omega
theorem Gq.llen (g:Gw N steps) (h:Gq N steps n m S) {l:List Nat} (hl:l∈S):l.length≤steps.length+m:=QA (h.nod l hl) fun d hd=>h.lt g hl hd
theorem Gq.skip (h:Gq N steps n m S) {x:Nd} (hx:N[n]? =some x) (ha:¬Ql steps x=true):Gq N steps (n+1) m S:=by
 refine⟨h.len,h.nod,fun to l hl d=>?_⟩;rw[h.mem to l hl d];refine or_congr ⟨fun⟨i,y,h1,h2⟩=>⟨i,y,by omega,h2⟩,fun⟨i,y,h1,h2,h3⟩=>⟨i,y,?_,h2,h3⟩⟩ Iff.rfl;rcases Nat.lt_or_eq_of_le (Nat.le_of_lt_succ h1)with h4|h4
 · exact h4
 subst h4;rw[hx]at h2;cases h2;exact absurd h3.1 ha
theorem Gq.node (g:Gw N steps) (h:Gq N steps n 0 S) {x:Nd} (hx:N[n]? =some x) (ha:Ql steps x=true) {a:Nat} (hxa:x.a=a):Gq N steps (n+1) 0 (Wr (fwT N (dfN steps) (dfN steps x) n) a S):=by
 have hnew:∀l∈S,a∉l:=by
  intro l hl hal;obtain⟨to,hto⟩:=List.mem_iff_getElem?.1 hl;rcases(h.mem to l hto a).1 hal with⟨i,y,h1,h2,h3,h4,_⟩|⟨v,hv,_⟩
  · have:=g.inj i n y x h2 hx h3 ha (by omega);omega
  omega
 refine⟨by rw[X39];exact h.len,X9e h.nod hnew,fun to l hl d=>?_⟩;have hlt:to<S.length:=by have:=(List.getElem?_eq_some_iff.1 hl).1;rwa [X39]at this
 obtain⟨l0,hl0,_⟩:=Xo hlt;rw[X0Q hl0]at hl;have hT:to∈fwT N (dfN steps) (dfN steps x) n↔_:=Xb6 (by rw[←h.len];exact hlt)
 have key:d∈l↔d∈l0∨(to∈fwT N (dfN steps) (dfN steps x) n∧d=a):=by
  cases hl;split
  · rename_i h1;simp[h1]
  rename_i h1;simp[h1]
 rw[key,h.mem to l0 hl0 d,hT];constructor
 · rintro((⟨i,y,h1,h2⟩|⟨v,hv,_⟩)|⟨h1,rfl⟩)
   · exact .inl ⟨i,y,by omega,h2⟩
   · omega
   exact .inl ⟨n,x,by omega,hx,ha,hxa,h1⟩
 rintro(⟨i,y,h1,h2,h3,h4,h5⟩|⟨v,hv,_⟩)
 · rcases Nat.lt_or_eq_of_le (Nat.le_of_lt_succ h1)with h6|h6
   · exact .inl (.inl ⟨i,y,h6,h2,h3,h4,h5⟩)
   subst h6;rw[hx]at h2;cases h2;exact .inr ⟨h5,by omega⟩
 omega
theorem Gq.var (g:Gw N steps) (h:Gq N steps n m S):Gq N steps n (m+1) (Wr (fwT N (dfN steps) m 0) (steps.length+m) S):=by
 have hnew:∀l∈S,steps.length+m∉l:=fun l hl hd=>by have:=h.lt g hl hd;omega
 refine⟨by rw[X39];exact h.len,X9e h.nod hnew,fun to l hl d=>?_⟩;have hlt:to<S.length:=by have:=(List.getElem?_eq_some_iff.1 hl).1;rwa [X39]at this
 obtain⟨l0,hl0,_⟩:=Xo hlt;rw[X0Q hl0]at hl;have hT:to∈fwT N (dfN steps) m 0↔_:=Xb6 (by rw[←h.len];exact hlt)
 have key:d∈l↔d∈l0∨(to∈fwT N (dfN steps) m 0∧d=steps.length+m):=by
  cases hl;split
  · rename_i h1;simp[h1]
  rename_i h1;simp[h1]
 rw[key,h.mem to l0 hl0 d,hT];constructor
 · rintro((h1|⟨v,hv,h1⟩)|⟨h1,h2⟩)
   · exact .inl h1
   · exact .inr ⟨v,by omega,h1⟩
   exact .inr ⟨m,by omega,h2,h1⟩
 rintro(h1|⟨v,hv,h1,h2⟩)
 · exact .inl (.inl h1)
 rcases Nat.lt_or_eq_of_le (Nat.le_of_lt_succ hv)with h6|h6
 · exact .inl (.inr ⟨v,h6,h1,h2⟩)
 subst h6;exact .inr ⟨h2,h1⟩
theorem Gq.done (g:Gw N steps) (h:Gq N steps N.length m S) {to:Nat} {l:List Nat} (hl:S[to]? =some l):∃r,(rcL N steps m)[to]? =some r∧Xi (srtN l)=XB r:=by
 classical
 have hlt:to<N.length:=by rw[←h.len];exact(List.getElem?_eq_some_iff.1 hl).1
 refine⟨(List.range (steps.length+m)).filter fun d=>decide (Rc N steps m to d),by simp[rcL,hlt],Xad (h.nod l (List.mem_of_getElem? hl)) fun d=>?_⟩;rw[decide_eq_true_eq]
 have hm:d∈l↔Rc N steps m to d:=by
  rw[h.mem to l hl d,rc_fw g];refine or_congr ⟨fun⟨i,x,_,h2⟩=>⟨i,x,h2⟩,fun⟨i,x,h1,h2⟩=>⟨i,x,(List.getElem?_eq_some_iff.1 h1).1,h1,h2⟩⟩ Iff.rfl
 rw[hm];exact⟨fun hr=>⟨h.lt g (List.mem_of_getElem? hl) (hm.2 hr),hr⟩,fun hr=>hr.2⟩
end
end Go.Proofs.YtppjennamodfdaaGreat

namespace Go.Proofs.YtppjennamodfdaaGreat
open Go Go.Hl
def ms79a:List (Nat×List Nat):=[(511,[0,2,7]),(510,[1,2,7]),(507,[0,3,7]),(383,[0,2]),(508,[2,7]),(506,[1,3,7]),(382,[1,2]),(499,[0,4,7]),(379,[0,3]),(504,[3,7]),(380,[2]),(498,[1,4,7]),(378,[1,3]),(483,[0,7]),(371,[0,4]),(496,[4,7]),(376,[3]),(482,[1,7]),(370,[1,4]),(355,[0]),(480,[5,7]),(368,[4]),(354,[1]),(448,[6,7]),(352,[5]),(384,[7]),(320,[6]),(256,[8])]
def ms79b:List (Nat×List Nat):=[(2047,[0,1,2,3,6]),(2046,[1,2,3,6]),(2045,[0,2,3,6]),(2043,[0,1,3,6]),(2039,[0,1,2,6]),(1983,[0,1,2,3,7]),(2044,[2,3,6]),(2042,[1,3,6]),(2038,[1,2,6]),(1982,[1,2,3,7]),(2041,[0,3,6]),(2037,[0,2,6]),(1981,[0,2,3,7]),(2035,[0,1,4,6]),(1979,[0,1,3,7]),(1975,[0,1,2,7]),(1855,[0,1,2,3]),(2040,[3,6]),(2036,[2,6]),(1980,[2,3,7]),(2034,[1,4,6]),(1978,[1,3,7]),(1974,[1,2,7]),(1854,[1,2,3]),(2033,[0,4,6]),(1977,[0,3,7]),(1973,[0,2,7]),(1853,[0,2,3]),(2019,[0,1,5,6]),(1971,[0,1,4,7]),(1851,[0,1,3]),(1847,[0,1,2]),(2032,[4,6]),(1976,[3,7]),(1972,[2,7]),(1852,[2,3]),(2018,[1,5,6]),(1970,[1,4,7]),(1850,[1,3]),(1846,[1,2]),(2017,[0,5,6]),(1969,[0,4,7]),(1849,[0,3]),(1845,[0,2]),(1987,[0,1,6]),(1955,[0,1,5,7]),(1843,[0,1,4]),(2016,[5,6]),(1968,[4,7]),(1848,[3]),(1844,[2]),(1986,[1,6]),(1954,[1,5,7]),(1842,[1,4]),(1985,[0,6]),(1953,[0,5,7]),(1841,[0,4]),(1923,[0,1,7]),(1827,[0,1,5]),(1984,[6]),(1952,[5,7]),(1840,[4]),(1922,[1,7]),(1826,[1,5]),(1921,[0,7]),(1825,[0,5]),(1795,[0,1,8]),(1920,[7]),(1824,[5]),(1794,[1,8]),(1793,[0,8]),(1539,[0,1]),(1792,[8]),(1538,[1]),(1537,[0]),(1536,[9]),(1024,[10])]
def X4o (regs:List (Nat×RV)) (o7 o8 o9:List (Nat×Ob)) (outs:List (Nat×Nat×RV)) (R:List Nat):HS:=
 {trS ⟨⟨74,none⟩,regs,[]⟩ outs R with objs:=if R.contains 7 then o7 else if R.contains 8 then o8 else o9}
def X4V (regs:List (Nat×RV)) (o:List (Nat×Ob)) (outs:List (Nat×Nat×RV)) (R:List Nat):HS:=
 {trS ⟨⟨74,none⟩,regs,[]⟩ outs R with objs:=o}
def Wx (S:List (List Nat)):List (Option (List (List CD))):=S.map fun l=>some (XB l)
@[simp] theorem rowE_len (S:List (List Nat)):(Wx S).length=S.length:=by simp[Wx]
theorem rowE_get {S:List (List Nat)} {i:Nat} {l:List Nat} (h:S[i]? =some l):(Wx S)[i]? =some (some (XB l)):=by simp[Wx,h]
theorem rowE_set (S:List (List Nat)) (i:Nat) (l:List Nat) (d:Nat):(Wx S).set i (some (XB l++[[iC d]]))=Wx (S.set i (l++[d])):=by
 simp only[Wx,List.map_set,Xcc]
def Wb (T:List Nat) (n:Nat):List (List CD):=(List.range n).map fun k=>[bC (decide (k∈T))]
@[simp] theorem seenR_len (T:List Nat) (n:Nat):(Wb T n).length=n:=by simp[Wb]
theorem Xch (n:Nat):Wb [] n=List.replicate n [bC false]:=by
 apply List.ext_getElem?;intro k;simp only[Wb,List.getElem?_map,List.getElem?_replicate];split
 · rename_i h;simp[h]
 rename_i h;rw[List.getElem?_eq_none (by simpa using h)];rfl
theorem X4g {T:List Nat} {n k:Nat} (h:k<n):(Wb T n)[k]? =some [bC (decide (k∈T))]:=by simp[Wb,h]
theorem XaM {T:List Nat} {n k:Nat} (h:k<n):setRow (Wb T n) k 0 [bC true]=Wb (T++[k]) n:=by
 unfold setRow;rw[X4g h];apply List.ext_getElem?;intro j;simp only[Wb,List.getElem?_set,List.getElem?_map,List.length_map,List.length_range];by_cases e:k=j
 · subst e;simp[h]
 simp only[e,if_false];by_cases hj:j<n
 · simp[hj,Ne.symm e]
 rw[List.getElem?_eq_none (by simpa using hj)];rfl
theorem XcT {T:List Nat} {n k:Nat} (h:k<n):(Wb T n).set k [CD.lit (Value.bool true)]=Wb (T++[k]) n:=by
 have:=XaM (T:=T) h;unfold setRow at this;rw[X4g h]at this;exact this
def spO (vars:List Vr) (hats:List Ht) (body:List St) (N:List Nd) (S:List (List Nat)):List (Nat×Ob):=[(900001,.mat 27 3 1 (Wx S)),(1000001,.box [.c (.sl 4 (XD N))]),(1000002,.box [.own 900001]),(1000003,.box [.c (.sl 5 (Xr vars)),.c (.sl 6 (Xs hats)),.c (.sl 10 (X8 body))])]
theorem spO_pin {vars:List Vr} {hats:List Ht} {body:List St} {N:List Nd} {S:List (List Nat)}:∀n cs,lkp (spO vars hats body N S) n=some (.box cs)→1000000≤n:=by
 intro n cs h;simp only[spO,lkp]at h
 repeat' split at h
 all_goals first|omega|cases h
set_option maxHeartbeats 32000000 in
theorem XaC (vars:List Vr) (hats:List Ht) (body:List St) (N:List Nd) (S:List (List Nat)) (i0 name:Nat) (v:Int) (hn:Xj body≤1000000) (hN:N.length≤100000) (hS:S.length=N.length) (hSl:∀l∈S,l.length≤1000000)
  (hok:∀x∈N,X1s N.length x.n∧X1s N.length x.o∧(x.k=2→∃(a:Nat) (s:St),x.a=a∧a≤1000000∧(flL body)[a]? =some s)) (h0:i0<N.length):
  X1k Tryz.prog 151 none (spO vars hats body N S) [li i0,li v,li name,.one (.at_ 1000001 0),.one (.at_ 1000002 0),.one (.at_ 1000003 0)] (fun _:Unit=>True) (fun _=>.tup []) (fun _=>spO vars hats body N (Wr (fwT N (dfN (flL body)) v i0) name S)):=by
 refine Qs Tryz.func151 rfl (by kernel_rfl) (Nat.le_of_ble_eq_true rfl) spO_pin (fun v h=>by cases h) ?_;simp only[Tryz.f151,spO];have hdef:=fun(k:Nat) (x:Nd) (hx:N[k]? =some x)=>X4O ⟨vars,hats,body⟩ hn N k x hx (hok x (List.mem_of_getElem? hx)).2.2;simp only[aF,Fl.enc,List.map_cons,List.map_nil]at hdef;have hstart:=Bf.start (df:=dfN (flL body)) (v:=v) h0;have hdone:=fun T=>fwT_mem (N:=N) (df:=dfN (flL body)) (v:=v) (i0:=i0) (T:=T);obtain⟨df,hdf⟩:∃x,dfN (flL body)=x:=⟨_,rfl⟩;obtain⟨FT,hFT⟩:∃x,fwT N (dfN (flL body)) v i0=x:=⟨_,rfl⟩;rw[hFT]at hdone⊢;rw[hdf]at hstart hdone;simp only[hdf]at hdef;have hz:=Xch N.length;have hadd0:=addT_nil name S;have hmx:N.length≤maxLen:=by unfold maxLen;omega
 have hbig:(1:Int)*N.length≤281474976710656:=by omega
 have hbig2:(N.length:Int)≤281474976710656:=by omega
 clear hFT hdf;refine X2 ?_;refine X2 ?_;refine X3<|(Xb [1,2,3,4,5,9] (fun(u:List Nat×List Nat)=>[(10,.v (.one (.own 1019)))]) (fun u=>[(17,.row 4 1 (Wb u.1 N.length)),(1019,.row 3 1 (XB u.2)),(900001,.mat 27 3 1 (Wx (Wr u.1 name S))),(1000001,.box [.c (.sl 4 (XD N))]),(1000002,.box [.own 900001]),(1000003,.box [.c (.sl 5 (Xr vars)),.c (.sl 6 (Xs hats)),.c (.sl 10 (X8 body))])]) (fun u=>Bf N df v i0 u.1 u.2 noC∧2*(N.length - u.1.length)+u.2.length≤2*N.length+1) (fun u=>2*(N.length - u.1.length)+u.2.length) ([],[i0]) ⟨hstart,by simp⟩ ?_ ?_)
 · exact X4 (fun n=>if n=1019 then 19 else n) []
 rintro⟨T,Q⟩ ⟨hB,hM⟩;simp only[upS,X6,Xw]
 try simp only[X6,KN,Nat.reduceBEq,if_true,if_false,ins,Nat.reduceLT]
 simp only at hB hM;clear hstart hz hadd0;rcases Q with _|⟨i,Q⟩
 · refine X0<|X0<|X1 ?_;refine(X7 rfl (fun h4=>X9 ?_) (fun h4=>?_))
   · simp at h4
   (try simp only[BN]at h4);have hT:=Xa8 (d:=name) (S:=S) (hdone T hB);refine(Xf ?_);exact⟨.inl rfl,(),trivial,⟨⟨74,none⟩,[],[(900001,.mat 27 3 1 (Wx (Wr FT name S))),(1000001,.box [.c (.sl 4 (XD N))]),(1000002,.box [.own 900001]),(1000003,.box [.c (.sl 5 (Xr vars)),.c (.sl 6 (Xs hats)),.c (.sl 10 (X8 body))])]⟩,Xu (fun n=>n) [] rfl (by simp) (by simp[hT]) (by simp),⟨[],rfl,rfl⟩,fun n o h=>h⟩
 refine X0<|X0<|X1 ?_;refine(X7 rfl (fun h4=>X9 ?_) (fun h4=>?_))
 · (try simp only[BN]at h4);obtain⟨x,hx,hc,hB2⟩:=hB.pop;have hxe:=ZE hx;have hxo:=hok x (List.mem_of_getElem? hx);have hlenT:=hB.len;have hq:=fun q=>hB2.q q;obtain⟨xk,xa,xn,xo⟩:=x;simp only[Nd.enc]at hxe;simp only at hxo;have hil:i+1≤N.length:=(List.getElem?_eq_some_iff.1 hx).1;have hec:XB (i::Q)=[iC i]::XB Q:=rfl;have htq:List.take Q.length (XB Q)=XB Q:=List.take_of_length_le (by simp);obtain⟨M0,hM0⟩:∃m,2*(N.length - T.length)+(i::Q).length=m:=⟨_,rfl⟩;clear hB h4;refine Xz (s':=⟨⟨74,none⟩,[(1,.v (li v)),(2,.v (li name)),(3,.v (.one (.at_ 1000001 0))),(4,.v (.one (.at_ 1000002 0))),(5,.v (.one (.at_ 1000003 0))),(9,.v (.one (.own 17))),(10,.v (.one (.own 1019)))],[(17,.row 4 1 (Wb T N.length)),(1019,.row 3 1 ([iC i]::XB Q)),(900001,.mat 27 3 1 (Wx (Wr T name S))),(1000001,.box [.c (.sl 4 (XD N))]),(1000002,.box [.own 900001]),(1000003,.box [.c (.sl 5 (Xr vars)),.c (.sl 6 (Xs hats)),.c (.sl 10 (X8 body))])]⟩) (Xu (fun n=>n) [] rfl (by simp) (by simp[hec]) (by simp)) ?_;refine X3<|X0<|(QP (X4o [(1,.v (li v)),(2,.v (li name)),(3,.v (.one (.at_ 1000001 0))),(4,.v (.one (.at_ 1000002 0))),(5,.v (.one (.at_ 1000003 0))),(9,.v (.one (.own 17))),(10,.v (.one (.own 1019)))] [(17,.row 4 1 (Wb T N.length)),(1019,.row 3 1 ([iC i]::XB Q)),(900001,.mat 27 3 1 (Wx (Wr T name S))),(1000001,.box [.c (.sl 4 (XD N))]),(1000002,.box [.own 900001]),(1000003,.box [.c (.sl 5 (Xr vars)),.c (.sl 6 (Xs hats)),.c (.sl 10 (X8 body))])] [(11,.box [.c (iC 0),.c (iC 0),.c (iC 0),.c (iC 0)]),(17,.row 4 1 (Wb T N.length)),(1019,.row 3 1 ([iC i]::XB Q)),(900001,.mat 27 3 1 (Wx (Wr T name S))),(1000001,.box [.c (.sl 4 (XD N))]),(1000002,.box [.own 900001]),(1000003,.box [.c (.sl 5 (Xr vars)),.c (.sl 6 (Xs hats)),.c (.sl 10 (X8 body))])] [(11,.box [.c (iC xk),.c (iC xa),.c (iC xn),.c (iC xo)]),(17,.row 4 1 (Wb T N.length)),(1019,.row 3 1 ([iC i]::XB Q)),(900001,.mat 27 3 1 (Wx (Wr T name S))),(1000001,.box [.c (.sl 4 (XD N))]),(1000002,.box [.own 900001]),(1000003,.box [.c (.sl 5 (Xr vars)),.c (.sl 6 (Xs hats)),.c (.sl 10 (X8 body))])] [(0,23,.v (.one (.at_ 1000001 0))),(1,24,.v (.one (.c (.sl 4 (XD N))))),(2,25,.v (.one (.own 1019))),(3,26,.v (.one (.el 1019 1 0 0))),(4,27,.v (li i)),(5,28,.v (.one (.c (.ptr [iC xk,iC xa,iC xn,iC xo])))),(6,29,.v (.agg [.c (iC xk),.c (iC xa),.c (iC xn),.c (iC xo)])),(7,11,.v (.one (.at_ 11 0)))]) 9 511 ms79a rfl (by kernel_rfl) (by kernel_rfl) (by kernel_rfl) (by kernel_rfl) (by simp[X4o,trS]) ?_ ?_)
   · simp only[ms79a,ZY]
     repeat' apply And.intro
     all_goals first
      |(refine XQ.evE rfl ?_;simp[X4o,trS,ins,lkp,del,XA,Qb,XN,cellsOf,Qc,W9,Zd,Wd,QU,hxe,hil];done)
      |trivial
   refine Xz (s':=⟨⟨74,none⟩,[(1,.v (li v)),(2,.v (li name)),(3,.v (.one (.at_ 1000001 0))),(4,.v (.one (.at_ 1000002 0))),(5,.v (.one (.at_ 1000003 0))),(9,.v (.one (.own 17))),(10,.v (.one (.own 1019))),(11,.v (.one (.at_ 11 0)))],[(11,.box [.c (iC xk),.c (iC xa),.c (iC xn),.c (iC xo)]),(17,.row 4 1 (Wb T N.length)),(1019,.row 3 1 ([iC i]::XB Q)),(900001,.mat 27 3 1 (Wx (Wr T name S))),(1000001,.box [.c (.sl 4 (XD N))]),(1000002,.box [.own 900001]),(1000003,.box [.c (.sl 5 (Xr vars)),.c (.sl 6 (Xs hats)),.c (.sl 10 (X8 body))])]⟩) (Xu (fun n=>n) [] rfl (by simp[X4o,trS]) (by simp[X4o,trS]) (by simp)) ?_;refine X0<|(XP ?_);refine RunsN.cutE 1 [] (by simp;rfl) trivial (le_refl _) ?_;refine RunsN.cutR (l:=1) (hi:=([iC i]::XB Q).length) rfl rfl rfl rfl rfl rfl rfl rfl rfl rfl rfl rfl (by simp) (Nat.le_refl _) ?_;refine RunsN.doneE [] (by simp;rfl) trivial ?_;refine X2 ?_;refine X3<|(Xb [1,2,3,4,5,9,36,37] (fun(u:Nat×List Nat×List Nat)=>[(10,.v (.one (.own 1019))),(38,.v (li u.1))]) (fun u=>[(17,.row 4 1 (Wb u.2.1 N.length)),(36,.row 3 1 (toR xn xo)),(1019,.row 3 1 (XB u.2.2)),(900001,.mat 27 3 1 (Wx (Wr u.2.1 name S))),(1000001,.box [.c (.sl 4 (XD N))]),(1000002,.box [.own 900001]),(1000003,.box [.c (.sl 5 (Xr vars)),.c (.sl 6 (Xs hats)),.c (.sl 10 (X8 body))])]) (fun u=>u.1≤2∧Bf N df v i0 u.2.1 u.2.2 (pend i ⟨xk,xa,xn,xo⟩ u.1)∧2*(N.length - u.2.1.length)+u.2.2.length+1≤M0) (fun u=>2 - u.1) (0,T,Q) ⟨Nat.zero_le _,hB2,by show 2*(N.length - T.length)+Q.length+1≤M0;simp only[List.length_cons]at hM0;omega⟩ ?_ ?_)
   · exact Xu (fun n=>if n=1019 then 31 else n) [] rfl (by simp[*,upS,X6]) (by simp[*,upS,toR]) (by simp[upS])
   rintro⟨k,T1,Q1⟩ ⟨hk,hB1,hM1⟩;simp only[upS,X6,Xw]
   try simp only[X6,KN,Nat.reduceBEq,if_true,if_false,ins,Nat.reduceLT]
   simp only at hk hB1 hM1;clear hB2 hxe hec htq;refine X2 ?_;refine X0<|(X7 rfl (fun h10=>X9 ?_) (fun h10=>?_))
   · try simp only[BN]at h10
     have hk2:k<2:=by
      have:(k:Int)<2:=by simpa using h10
      omega
     have hwk:=Xy hk2 (by omega);have hkk:k+1≤2:=hk2;have hto:=Xbz (xn:=xn) (xo:=xo) hk2
     have htok:X1s N.length (toA xn xo k):=by
      unfold toA;split
      · exact hxo.1
      exact hxo.2.1
     obtain⟨to,hto1⟩:∃x,toA xn xo k=x:=⟨_,rfl⟩;rw[hto1]at hto htok;clear h10;refine X0<|X3<|X0<|X1 ?_;rcases htok with rfl|⟨t,rfl,htl⟩
     · refine X0<|X0<|X1 ?_;refine(Xc rfl (fun h13=>?_) fun h13=>?_)
       · (try simp only[BN]at h13);refine(Xf ?_);refine X1 ?_;exact⟨(k+1,T1,Q1),⟨hkk,hB1.pass (.inl (by show toA xn xo k<0;omega)),hM1⟩,by simp only;omega,X4 (fun n=>n) []⟩
       simp at h13
     have hsg:=X4g (T:=T1) htl;have htl2:t+1≤N.length:=htl;clear htl;refine X0<|X0<|X1 ?_;refine(Xc rfl (fun h13=>?_) fun h13=>?_)
     · try simp only[BN]at h13
       have hin:t∈T1:=by
        rcases(by simpa using h13:(t:Int)<0∨t∈T1)with h|h
        · omega
        exact h
       refine(Xf ?_);refine X1 ?_;exact⟨(k+1,T1,Q1),⟨hkk,hB1.pass (.inr ⟨t,hto1,hin⟩),hM1⟩,by simp only;omega,X4 (fun n=>n) []⟩
     (try simp only[BN]at h13);have hnin:t∉T1:=by simpa using h13
     have htl:t<N.length:=htl2;obtain⟨y,hy,_⟩:=Xo htl;have hB3:=hB1.add hx hc hk2 hto1 hnin hy;have hset:=XcT (T:=T1) htl;obtain⟨l,hl,_⟩:=Xo (show t<S.length by omega);have hSt:=X0Q (T:=T1) (d:=name) hl;rw[if_neg hnin]at hSt;have hrg:=rowE_get hSt;have hrs:=rowE_set (Wr T1 name S) t l name;rw[Xc3 hl hnin]at hrs;have ht1:t+1≤(Wx (Wr T1 name S)).length:=by simp;omega
     have cd:=hdef t y hy;obtain⟨dy,hdy⟩:∃z,df y=z:=⟨_,rfl⟩;rw[hdy]at cd hB3;have hroom:Q9 (l.length+1) 8:=Xv (by have:=hSl l (List.mem_of_getElem? hl);omega) (by decide);have hroomQ:Q9 (Q1.length+1) 8:=Xv (by omega) (by decide);have hlen3:=hB3.len;simp only[List.length_append,List.length_singleton]at hlen3;clear h13 hSt hl hy hdef htl;refine X2 ?_;refine Xz (s':=⟨⟨74,none⟩,[(1,.v (li v)),(2,.v (li name)),(3,.v (.one (.at_ 1000001 0))),(4,.v (.one (.at_ 1000002 0))),(5,.v (.one (.at_ 1000003 0))),(9,.v (.one (.own 17))),(10,.v (.one (.own 1019))),(13,.v (li t)),(36,.v (.one (.own 36))),(37,.v (li 2)),(38,.v (li k))],[(17,.row 4 1 (Wb (T1++[t]) N.length)),(36,.row 3 1 (toR xn xo)),(1019,.row 3 1 (XB Q1)),(900001,.mat 27 3 1 (Wx (Wr T1 name S))),(1000001,.box [.c (.sl 4 (XD N))]),(1000002,.box [.own 900001]),(1000003,.box [.c (.sl 5 (Xr vars)),.c (.sl 6 (Xs hats)),.c (.sl 10 (X8 body))])]⟩) (Xu (fun n=>n) [] rfl (by simp) (by simp) (by simp)) ?_
     refine X0<|(HT_matD (X4o [(1,.v (li v)),(2,.v (li name)),(3,.v (.one (.at_ 1000001 0))),(4,.v (.one (.at_ 1000002 0))),(5,.v (.one (.at_ 1000003 0))),(9,.v (.one (.own 17))),(10,.v (.one (.own 1019))),(13,.v (li t)),(36,.v (.one (.own 36))),(37,.v (li 2)),(38,.v (li k))] [(17,.row 4 1 (Wb (T1++[t]) N.length)),(36,.row 3 1 (toR xn xo)),(1019,.row 3 1 (XB Q1)),(900001,.mat 27 3 1 (Wx (Wr T1 name S))),(1000001,.box [.c (.sl 4 (XD N))]),(1000002,.box [.own 900001]),(1000003,.box [.c (.sl 5 (Xr vars)),.c (.sl 6 (Xs hats)),.c (.sl 10 (X8 body))])] [(17,.row 4 1 (Wb (T1++[t]) N.length)),(36,.row 3 1 (toR xn xo)),(60,.row 3 1 [[iC name]]),(1019,.row 3 1 (XB Q1)),(900001,.mat 27 3 1 (Wx (Wr T1 name S))),(1000001,.box [.c (.sl 4 (XD N))]),(1000002,.box [.own 900001]),(1000003,.box [.c (.sl 5 (Xr vars)),.c (.sl 6 (Xs hats)),.c (.sl 10 (X8 body))])] [(17,.row 4 1 (Wb (T1++[t]) N.length)),(36,.row 3 1 (toR xn xo)),(60,.row 3 1 [[iC name]]),(1019,.row 3 1 (XB Q1)),(900001,.mat 27 3 1 (Wx (Wr T1 name S))),(1000001,.box [.c (.sl 4 (XD N))]),(1000002,.box [.own 900001]),(1000003,.box [.c (.sl 5 (Xr vars)),.c (.sl 6 (Xs hats)),.c (.sl 10 (X8 body))])] [(0,53,.v (.one (.own 900001))),(1,54,.v (li t)),(2,55,.v (.one (.own 900001))),(3,56,.v (li t)),(4,57,.v (.one (.el 900001 1 t 0))),(5,58,.v (.one (.sub 900001 t))),(6,59,.v (li name)),(7,60,.v (.one (.own 60))),(8,61,.v (.one .any)),(9,62,.v (.one .any))]) (X4V [(1,.v (li v)),(2,.v (li name)),(3,.v (.one (.at_ 1000001 0))),(4,.v (.one (.at_ 1000002 0))),(5,.v (.one (.at_ 1000003 0))),(9,.v (.one (.own 17))),(10,.v (.one (.own 1019))),(13,.v (li t)),(36,.v (.one (.own 36))),(37,.v (li 2)),(38,.v (li k))] [(17,.row 4 1 (Wb (T1++[t]) N.length)),(36,.row 3 1 (toR xn xo)),(60,.row 3 1 [[iC name]]),(1019,.row 3 1 (XB Q1)),(1000001,.box [.c (.sl 4 (XD N))]),(1000002,.box [.own 900001]),(1000003,.box [.c (.sl 5 (Xr vars)),.c (.sl 6 (Xs hats)),.c (.sl 10 (X8 body))])] [(0,53,.v (.one (.own 900001))),(1,54,.v (li t)),(2,55,.v (.one (.own 900001))),(3,56,.v (li t)),(4,57,.v (.one (.el 900001 1 t 0))),(5,58,.v (.one (.sub 900001 t))),(6,59,.v (li name)),(7,60,.v (.one (.own 60))),(8,61,.v (.one .any)),(9,62,.v (.one .any))]) 11 2047 ms79b 8 (n:=900001) (i:=t) (e:=27) (sz:=1) (e':=3) (eM:=27) (rows:=Wx (Wr T1 name S)) (rs:=XB l) (more:=[[iC name]]) (O:=[(17,.row 4 1 (Wb (T1++[t]) N.length)),(36,.row 3 1 (toR xn xo)),(60,.row 3 1 [[iC name]]),(1019,.row 3 1 (XB Q1)),(900001,.mat 27 3 1 (Wx (Wr T1 name S))),(1000001,.box [.c (.sl 4 (XD N))]),(1000002,.box [.own 900001]),(1000003,.box [.c (.sl 5 (Xr vars)),.c (.sl 6 (Xs hats)),.c (.sl 10 (X8 body))])])
      (sF:=⟨⟨74,none⟩,Wu (RV.mv 900001 61) (X4V [(1,.v (li v)),(2,.v (li name)),(3,.v (.one (.at_ 1000001 0))),(4,.v (.one (.at_ 1000002 0))),(5,.v (.one (.at_ 1000003 0))),(9,.v (.one (.own 17))),(10,.v (.one (.own 1019))),(13,.v (li t)),(36,.v (.one (.own 36))),(37,.v (li 2)),(38,.v (li k))] [(17,.row 4 1 (Wb (T1++[t]) N.length)),(36,.row 3 1 (toR xn xo)),(60,.row 3 1 [[iC name]]),(1019,.row 3 1 (XB Q1)),(1000001,.box [.c (.sl 4 (XD N))]),(1000002,.box [.own 900001]),(1000003,.box [.c (.sl 5 (Xr vars)),.c (.sl 6 (Xs hats)),.c (.sl 10 (X8 body))])] [(0,53,.v (.one (.own 900001))),(1,54,.v (li t)),(2,55,.v (.one (.own 900001))),(3,56,.v (li t)),(4,57,.v (.one (.el 900001 1 t 0))),(5,58,.v (.one (.sub 900001 t))),(6,59,.v (li name)),(7,60,.v (.one (.own 60))),(8,61,.v (.one .any)),(9,62,.v (.one .any))] [10]).regs,Wu (Ob.mv 900001 61) (ins 61 (.mat 27 3 1 ((Wx (Wr T1 name S)).set t (some (XB l++[[iC name]])))) (del 900001 [(17,.row 4 1 (Wb (T1++[t]) N.length)),(36,.row 3 1 (toR xn xo)),(60,.row 3 1 [[iC name]]),(1019,.row 3 1 (XB Q1)),(900001,.mat 27 3 1 (Wx (Wr T1 name S))),(1000001,.box [.c (.sl 4 (XD N))]),(1000002,.box [.own 900001]),(1000003,.box [.c (.sl 5 (Xr vars)),.c (.sl 6 (Xs hats)),.c (.sl 10 (X8 body))])]))⟩)
      rfl (by kernel_rfl) (by kernel_rfl) (by kernel_rfl) (by kernel_rfl) rfl rfl rfl rfl rfl rfl rfl rfl rfl rfl rfl rfl rfl (by decide) (by decide) (by simp) (by simp) ty3 ty27 ty27 rfl rfl rfl rfl (by simp[lkp]) hrg (by simpa using hroom) (by simp[X4o,trS]) ?_ ?_)
     · simp only[ms79b,ZY]
       repeat' apply And.intro
       all_goals first
        |(refine stD_w (by rfl) (by decide) ?_;refine XQ.evE rfl ?_;simp[X4o,trS,ins,lkp,del,XA,Qb,XN,cellsOf,Qc,W9,Zd,Wd,QU,hrg,ht1];done)
        |(refine stD_p (by rfl) (by rfl) (by rfl) (by simp[X4o]) (by simp[X4o,trS,ins]) (by simp[X4o,trS,ins,QU,lkp]) (by simp[X4o,trS,ins]) (by rfl) (by simp[X4o,X4V,trS,ins,del]);done)
        |(refine stD_q (by decide) (by rfl) (by rfl) (by rfl) (by simp[X4V,trS,ins]) (by simp[X4V,trS,ins]) (by rfl) (by simp[X4V,trS,ins]);done)
        |(refine stD_r (dst:=53) (r:=.v (.one (.own 900001))) (by decide) (by rfl) (by decide) rfl rfl rfl (by decide) (by rfl) (.inr (by simp[X4V,trS,ins,lkp])) (by simp[X4V,trS,ins]);done)
        |(refine stD_r (dst:=54) (r:=.v (li t)) (by decide) (by rfl) (by decide) rfl rfl rfl (by decide) (by rfl) (.inl (by simp[X4V,trS,ins,lkp])) (by simp[X4V,trS,ins]);done)
        |(refine stD_z (by decide) (by decide) (by rfl) (by simp[X4V,trS,ins]) (by rfl) (by rfl);done)
        |trivial
     refine Xz (s':=⟨⟨74,none⟩,[(1,.v (li v)),(2,.v (li name)),(3,.v (.one (.at_ 1000001 0))),(4,.v (.one (.at_ 1000002 0))),(5,.v (.one (.at_ 1000003 0))),(9,.v (.one (.own 17))),(10,.v (.one (.own 1019))),(13,.v (li t)),(36,.v (.one (.own 36))),(37,.v (li 2)),(38,.v (li k))],[(17,.row 4 1 (Wb (T1++[t]) N.length)),(36,.row 3 1 (toR xn xo)),(1019,.row 3 1 (XB Q1)),(900001,.mat 27 3 1 (Wx (Wr (T1++[t]) name S))),(1000001,.box [.c (.sl 4 (XD N))]),(1000002,.box [.own 900001]),(1000003,.box [.c (.sl 5 (Xr vars)),.c (.sl 6 (Xs hats)),.c (.sl 10 (X8 body))])]⟩) (Xu (fun n=>if n=900001 then 61 else n) [] rfl (by simp[X4V,trS,Wu,RV.mv,TV.mv,CV.mv,ins]) (by simp[Wu,Ob.mv,CV.mv,hrs,del,ins]) (by simp)) ?_;refine Xh [⟨true,.v (li dy),none⟩] ?_ ?_
     · first|exact cd _|exact trivial|simpa[*]using cd _
     refine(Xc rfl (fun h19=>?_) fun h19=>?_)
     · (try simp only[BN]at h19);have hdv:¬dy=v:=by simpa using h19
       rw[if_neg hdv]at hB3;clear h19;refine X1 ?_;refine X1 ?_;exact⟨(k+1,T1++[t],Q1++[t]),⟨hkk,hB3,by simp only[List.length_append,List.length_singleton];omega⟩,by simp only;omega,X4 (fun n=>if n=1019 then 72 else n) []⟩
     (try simp only[BN]at h19);have hdv:dy=v:=by simpa using h19
     rw[if_pos hdv]at hB3;clear h19;refine X1 ?_;exact⟨(k+1,T1++[t],Q1),⟨hkk,hB3,by simp only[List.length_append,List.length_singleton];omega⟩,by simp only;omega,X4 (fun n=>n) []⟩
   try simp only[BN]at h10
   have hk2:k=2:=by
    have:¬(k:Int)<2:=by simpa using h10
    omega
   subst hk2;clear h10;refine(Xf ?_);exact⟨(T1,Q1),⟨hB1.next,by show 2*(N.length - T1.length)+Q1.length≤2*N.length+1;simp only[List.length_cons]at hM0 hM;omega⟩,by show 2*(N.length - T1.length)+Q1.length<2*(N.length - T.length)+(i::Q).length;omega,X4 (fun n=>n) []⟩
 simp at h4
end Go.Proofs.YtppjennamodfdaaGreat

namespace Go.Proofs.YtppjennamodfdaaGreat
open Go Go.Hl
theorem XbC (acc:List Int) (o:Int) (A B:List Int):Xi (acc++o::(A++B))=Xi acc++[iC o]::(Xi A++Xi B):=by simp[Xi]
set_option maxHeartbeats 16000000 in
theorem XaD (l:List St):Xj l≤1000000→∀(p:Nat) (outer:Int),p+szL l≤5000000→∀d:Nat,Con Tryz.prog 82 false [lS l,li p,li outer] (.v (lI (arL l outer p))) none d:=by
 revert l
 apply St.lists;intro l ih hn p0 outer hp0 d;have hlen:=Q5 l;have hszl:=Qu l;obtain⟨res,hres⟩:∃r,arL l outer p0=r:=⟨_,rfl⟩;rw[hres];refine X5 Tryz.func82 ?_;simp only[Tryz.f82];refine X2 ?_;refine X2 ?_;refine X0<|X0<|X1 ?_;refine X3<|(Xb [2,10,11] (fun(x:Nat×Nat×List Int)=>[(1,.v (li ((x.2.1:Nat):Int))),(7,.v (.one (.own 1003))),(12,.v (li x.1))]) (fun x=>[(1003,.row 3 1 (Xi x.2.2))]) (fun x=>x.1≤l.length∧x.2.2++arL (l.drop x.1) outer x.2.1=res∧x.2.1+szL (l.drop x.1)=p0+szL l∧x.2.2.length+szL (l.drop x.1)=szL l) (fun x=>l.length - x.1) (0,p0,[]) ⟨Nat.zero_le _,by simpa using hres,by simp,by simp⟩ ?_ ?_)
 · exact X4 (fun n=>n) [1003]
 rintro⟨k,p,acc⟩ ⟨hk,hJ,hp,hal⟩;simp only[upS,X6,Xw]
 try simp only[X6,KN,Nat.reduceBEq,if_true,if_false,ins,Nat.reduceLT]
 simp only at hk hJ hp hal;clear hres;refine X2 ?_;refine X0<|(X7 rfl (fun h5=>X9 ?_) (fun h5=>?_))
 · (try simp only[BN]at h5);have hlt:k<l.length:=by first|omega|simpa using h5
   obtain⟨s,he,hd⟩:=Xo hlt;have hw1:=Xy hlt (by omega);have hk1:k+1≤l.length:=hlt;have hmem:s∈l:=List.mem_of_getElem? he;have hnm:=Qk hmem;rw[hd]at hJ hp hal;simp only[arL]at hJ;simp only[szL]at hp hal;have he':=XX he;have iha:=(ih s hmem).1;have ihb:=(ih s hmem).2;obtain⟨sd,sc,sv,sn,⟨so,stn,sks⟩,sa,sb,sbs⟩:=s;simp only[St.then_,St.else_,St.term]at iha ihb hnm;have ca:=QO sa (by omega);have cb:=QO sb (by omega);have hla:=Qu sa;have hlb:=Qu sb;rw[arS_eq]at hJ;simp only[szS,St.then_,St.else_]at hJ hp hal;simp only[St.enc,Tm.enc,List.cons_append,List.nil_append]at he';have lA:=Z7 sa (p:Int) (p+1);have lB:=Z7 sb (p:Int) (p+1+szL sa);have iha:=iha (by omega) (p+1) (p:Int) (by omega);have ihb:=ihb (by omega) (p+1+szL sa) (p:Int) (by omega);have eb:((p+1+szL sa:Nat):Int)=(p:Int)+1+(szL sa:Int):=by omega
   have ea:((p+1:Nat):Int)=(p:Int)+1:=by omega
   rw[eb]at ihb;rw[ea]at iha;obtain⟨A,hA⟩:∃x,arL sa (p:Int) (p+1)=x:=⟨_,rfl⟩;obtain⟨B,hB⟩:∃x,arL sb (p:Int) (p+1+szL sa)=x:=⟨_,rfl⟩;rw[hA]at iha hJ lA;rw[hB]at ihb hJ lB;generalize szL sa=na at*;generalize szL sb=nb at*;have hwa:IntKind.i64.wrap ((p:Int)+1)=(p:Int)+1:=Xa (by omega) (by omega);have hwb:IntKind.i64.wrap ((p:Int)+1+(na:Int))=(p:Int)+1+(na:Int):=Xa (by omega) (by omega);have hwc:IntKind.i64.wrap (1+(na:Int))=1+(na:Int):=Xa (by omega) (by omega);have hwd:IntKind.i64.wrap (1+(na:Int)+(nb:Int))=1+(na:Int)+(nb:Int):=Xa (by omega) (by omega);have hwe:IntKind.i64.wrap ((p:Int)+(1+(na:Int)+(nb:Int)))=(p:Int)+(1+(na:Int)+(nb:Int)):=Xa (by omega) (by omega);have room1:Q9 (acc.length+1) 8:=Xv (by omega) (by decide);have room2:Q9 (acc.length+1+na) 8:=Xv (by omega) (by decide);have room3:Q9 (acc.length+1+na+nb) 8:=Xv (by omega) (by decide);have room2':Q9 (acc.length+(na+1)) 8:=Xv (by omega) (by decide);have room3':Q9 (acc.length+(na+1)+nb) 8:=Xv (by omega) (by decide);have room4:Q9 (acc.length+(na+nb+1)) 8:=Xv (by omega) (by decide);have hsn:=XbC acc outer A B;have hJ2:(acc++outer::(A++B))++arL (l.drop (k+1)) outer (p+(1+na+nb))=res:=by rw[←hJ];simp
   clear hlt h5 ih hmem hd he hA hB hnm hla hlb hJ eb ea;refine X0<|X3<|X0<|X1 ?_;refine X2 ?_;refine Xh [⟨false,.v (lI A),none⟩] ?_ ?_
   · first|exact iha _|exact trivial|simpa[*]using iha _
   refine X0<|(Zu [(29,9),(33,9)] [⟨true,.v (li (na:Int)),none⟩,⟨false,.v (lI B),none⟩] (by kernel_rfl) (by kernel_rfl) (by rfl) (by simp[X3X,X2w,Qo, *];first|exact⟨rfl,Iff.rfl⟩|exact⟨rfl,trivial⟩|rfl) ?_ ?_)
   · first|exact⟨ca _,ihb _⟩|exact trivial|(repeat' first|exact trivial|exact ca _|exact ihb _|apply And.intro)
   refine(Zu [(41,9),(45,9)] [⟨true,.v (li (na:Int)),none⟩,⟨true,.v (li (nb:Int)),none⟩] (by kernel_rfl) (by kernel_rfl) (by rfl) (by simp[X3X,X2w,Qo, *];first|exact⟨rfl,Iff.rfl⟩|exact⟨rfl,trivial⟩|rfl) ?_ ?_)
   · first|exact⟨ca _,cb _⟩|exact trivial|(repeat' first|exact trivial|exact ca _|exact cb _|apply And.intro)
   refine X1 ?_;exact⟨(k+1,p+(1+na+nb),acc++outer::(A++B)),⟨hk1,hJ2,by simp only;omega,by simp only[List.length_append,List.length_cons];omega⟩,by simp only;omega,X4 (fun n=>if n=1003 then 39 else n) []⟩
 (try simp only[BN]at h5);have hkl:k=l.length:=by first|omega|(have:¬k<l.length:=by simpa using h5;omega)
 rw[hkl,List.drop_length]at hJ;simp only[arL,List.append_nil]at hJ;subst hJ;refine(Xf ?_);refine X2 ?_;exact XR ⟨.inr rfl,_,XO 1003 rfl,⟨⟨_,by simp;rfl,by simp[XK]⟩,by simp,fun h=>by cases h⟩⟩
end Go.Proofs.YtppjennamodfdaaGreat

namespace Go.Proofs.YtppjennamodfdaaGreat
open Go Go.Hl
theorem encNs_if (acc:List Nd) (k a n o:Int) (A B:List Nd):XD (acc++⟨k,a,n,o⟩::(A++B))=XD acc++[iC k,iC a,iC n,iC o]::(XD A++XD B):=by simp[XD]
theorem encNs_lp (acc:List Nd) (k a n o k2 a2 n2 o2:Int) (A:List Nd):XD (acc++⟨k,a,n,o⟩::⟨k2,a2,n2,o2⟩::A)=XD acc++[iC k,iC a,iC n,iC o]::[iC k2,iC a2,iC n2,iC o2]::XD A:=by simp[XD]
theorem encNs_lf (acc:List Nd) (k a n o:Int):XD (acc++[⟨k,a,n,o⟩])=XD acc++[[iC k,iC a,iC n,iC o]]:=by simp[XD]
abbrev lNd (l:List Nd):TV:=.one (.c (.sl 4 (XD l)))
set_option maxHeartbeats 32000000 in
theorem Xcq (l:List St):Xj l≤1000000→gL l=true→∀(p node after:Nat),p+szL l≤4000000→node+wdL l≤4000000→after≤4000000→∀d:Nat,Con Tryz.prog 154 false [lS l,li p,li node,li after] (.v (lNd (Ws l p node after))) none d:=by
 revert l
 apply St.lists;intro l ih hn hg p0 node0 after hp0 hn0 haft d;have hlen:=Q5 l;have hszl:=Qu l;have hwdl:=X7o l
 have hgall:∀s∈l,gS s=true:=by
  intro s hs;clear ih hn hp0 hn0 hlen hszl hwdl
  induction l with
  |nil=>cases hs
  | cons x l ihl=>
    simp only[gL,Bool.and_eq_true]at hg;rcases List.mem_cons.1 hs with rfl|h
    · exact hg.1
    exact ihl hg.2 h
 obtain⟨res,hres⟩:∃r,Ws l p0 node0 after=r:=⟨_,rfl⟩;rw[hres];have hz0:XD []=[]:=rfl;refine X5 Tryz.func154 ?_;simp only[Tryz.f154];refine X2 ?_;refine X2 ?_;refine X0<|X0<|X1 ?_;refine X3<|(Xb [0,3,17,18] (fun(x:Nat×Nat×Nat×List Nd)=>[(1,.v (li ((x.2.1:Nat):Int))),(2,.v (li ((x.2.2.1:Nat):Int))),(9,.v (.one (.own 1003))),(19,.v (li x.1))]) (fun x=>[(1003,.row 143 4 (XD x.2.2.2))]) (fun x=>x.1≤l.length∧x.2.2.2++Ws (l.drop x.1) x.2.1 x.2.2.1 after=res∧x.2.1+szL (l.drop x.1)=p0+szL l∧x.2.2.1+wdL (l.drop x.1)=node0+wdL l∧x.2.2.2.length+wdL (l.drop x.1)≤wdL l) (fun x=>l.length - x.1) (0,p0,node0,[]) ⟨Nat.zero_le _,by simpa using hres,by simp,by simp,by simp⟩ ?_ ?_)
 · exact X4 (fun n=>n) [1003]
 rintro⟨k,p,node,acc⟩ ⟨hk,hJ,hp,hnd,hal⟩;simp only[upS,X6,Xw]
 try simp only[X6,KN,Nat.reduceBEq,if_true,if_false,ins,Nat.reduceLT]
 simp only at hk hJ hp hnd hal;clear hres;refine X2 ?_;refine X0<|(X7 rfl (fun h5=>X9 ?_) (fun h5=>?_))
 · (try simp only[BN]at h5);have hlt:k<l.length:=by first|omega|simpa using h5
   obtain⟨s,he,hd⟩:=Xo hlt;have hw1:=Xy hlt (by omega);have hk1:k+1≤l.length:=hlt;have hmem:s∈l:=List.mem_of_getElem? he;have hnm:=Qk hmem;have hgs:=hgall s hmem;rw[hd]at hJ hp hnd hal;simp only[Ws]at hJ;simp only[szL]at hp;simp only[wdL]at hnd hal;have he':=XX he;have iha:=(ih s hmem).1;have ihb:=(ih s hmem).2
   have hlast:(l.drop (k+1)=[])↔(k:Int)=(l.length:Int) - 1:=by
    rw[List.drop_eq_nil_iff];omega
   have cw1:=X3R [s] (by simp only[Xj];obtain⟨_,_,_,_,_,_,_,_⟩:=s;simp only[St.nodes,St.term,St.then_,St.else_]at hnm⊢;omega);have cs1:=QO [s] (by simp only[Xj];obtain⟨_,_,_,_,_,_,_,_⟩:=s;simp only[St.nodes,St.term,St.then_,St.else_]at hnm⊢;omega);have hsl1:X8 [s]=[s.enc]:=by simp[X8]
   simp only[wdL,szL,Nat.add_zero]at cw1 cs1;have h0k:0≤(k:Int)+1:=by omega
   have hslc:List.drop k (List.take (k+1) (X8 l))=[s.enc]:=by
    rw[List.take_add_one,he',List.drop_append_of_le_length (by rw[List.length_take,X4d];omega),List.drop_eq_nil_of_le (by rw[List.length_take];omega)];rfl
   obtain⟨mid,hmid⟩:∃m,(if l.drop (k+1)=[] then after else node+wdS s)=m:=⟨_,rfl⟩;rw[hmid]at hJ;obtain⟨W,hW⟩:∃m,wdS s=m:=⟨_,rfl⟩;obtain⟨Z,hZ⟩:∃m,szS s=m:=⟨_,rfl⟩;rw[hW]at cw1 hmid hJ hnd hal;rw[hZ]at cs1 hJ hp;have hwW:IntKind.i64.wrap ((node:Int)+(W:Int))=(node:Int)+(W:Int):=Xa (by omega) (by omega);have hwZ:IntKind.i64.wrap ((p:Int)+(Z:Int))=(p:Int)+(Z:Int):=Xa (by omega) (by omega);have hwl:IntKind.i64.wrap ((l.length:Int) - 1)=(l.length:Int) - 1:=Xa (by omega) (by omega);have hmb:mid≤4000000:=by rw[←hmid];split<;>omega
   obtain⟨sd,sc,sv,sn,⟨so,stn,sks⟩,sa,sb,sbs⟩:=s;simp only[St.then_,St.else_,St.term]at iha ihb hnm;simp only[gS,Bool.and_eq_true,Bool.or_eq_true,decide_eq_true_eq,List.isEmpty_iff]at hgs;simp only[wdS]at hW;simp only[szS]at hZ;simp only[St.enc,Tm.enc,List.cons_append,List.nil_append]at he' hsl1 hslc;simp only[lS]at cw1 cs1;rw[hsl1]at cw1 cs1
   have hb0:sd=4→sb=[]:=fun h4=>by
    rcases hgs.1 with(h|h)|h
    · omega
    · exact h.2
    exact h.2
   have hlA:=W0 sa ((p:Int)+1);have hlB:=W0 sb ((p:Int)+1+szL sa);have hwa:=X7o sa;have hwb:=X7o sb;have hla:=Qu sa;have hlb:=Qu sb;have cwa:=X3R sa (by omega);have csa:=QO sa (by omega);clear hlt h5 ih hmem hgall hd he hg hsl1;refine X0<|X3<|X0<|X1 ?_;refine Xh [⟨true,.v (li (W:Int)),none⟩] ?_ ?_
   · first|exact cw1 _|exact trivial|simpa[*]using cw1 _
   refine X2 ?_;refine(XL [0,1,2,3,9,10,11,12,17,18,19] (fun(z:Nat)=>[(13,.v (li z))]) (fun(z:Nat)=>[(11,.box [.c (iC sd),.c (iC sc),.c (iC sv),.c (iC sn),.c (iC so),.c (iC stn),.c (.sl 3 (Xn sks)),.c (.sl 10 (X8 sa)),.c (.sl 10 (X8 sb)),.c (.sl 1 (Xi sbs))]),(1003,.row 143 4 (XD acc))]) (fun(z:Nat)=>z=mid) ?_ ?_)
   ·
    refine X2 ?_;refine(Xc rfl (fun h11=>?_) fun h11=>?_)
    · (try simp only[BN]at h11);refine X1 ?_;exact⟨after,(by rw[←hmid,if_pos (hlast.2 (by simpa using h11))]),X4 (fun n=>n) []⟩
    (try simp only[BN]at h11);exact⟨node+W,(by rw[←hmid,if_neg fun h=>h11 (hlast.1 h)]),X4 (fun n=>n) []⟩
   rintro z hz;simp only[upS,X6,Xw]
   try simp only[X6,KN,Nat.reduceBEq,if_true,if_false,ins,Nat.reduceLT]
   subst hz;clear hmid hlast;obtain⟨SL,hSL⟩:∃x,X1p (.mk sd sc sv sn (.mk so stn sks) sa sb sbs) p node z=x:=⟨_,rfl⟩;rw[hSL]at hJ
   have hSLl:SL.length≤W:=by
    rw[←hSL,X36]
    · simp only[wdS];omega
    simp only[gS,Bool.and_eq_true,Bool.or_eq_true,decide_eq_true_eq,List.isEmpty_iff];exact hgs
   have hwp1:IntKind.i64.wrap ((p:Int)+1)=(p:Int)+1:=Xa (by omega) (by omega);have hwn1:IntKind.i64.wrap ((node:Int)+1)=(node:Int)+1:=Xa (by omega) (by omega);have hwn2:IntKind.i64.wrap ((node:Int)+2)=(node:Int)+2:=Xa (by omega) (by omega);have ep1:((p+1:Nat):Int)=(p:Int)+1:=by omega
   have en1:((node+1:Nat):Int)=(node:Int)+1:=by omega
   have en2:((node+2:Nat):Int)=(node:Int)+2:=by omega
   refine(XL [0,1,3,10,12,17,18,19] (fun(y:List Nd)=>[(9,.v (.one (.own 1003)))]) (fun(y:List Nd)=>[(1003,.row 143 4 (XD y))]) (fun(y:List Nd)=>y=acc++SL) ?_ ?_)
   ·
    refine X2 ?_;refine X3<|X0<|X1 ?_;refine(X7 rfl (fun h18=>?_) (fun h18=>?_))
    · (try simp only[BN]at h18);have h3:sd=3:=by simpa using h18
      subst h3;rw[if_neg (by decide)]at hW;have ca:=iha (by omega) hgs.2.1 (p+1) (node+1) z (by omega) (by omega) hmb;have cb:=ihb (by omega) hgs.2.2 (p+1+szL sa) (node+1+wdL sa) z (by omega) (by omega) hmb;have hAl:=W0 sa ((p+1:Nat):Int) (node+1) z hgs.2.1;have hBl:=W0 sb ((p+1+szL sa:Nat):Int) (node+1+wdL sa) z hgs.2.2
      have hS2:SL=⟨3,p,((if sa=[] then z else node+1:Nat):Int),((if sb=[] then z else node+1+wdL sa:Nat):Int)⟩::(Ws sa ((p+1:Nat):Int) (node+1) z++Ws sb ((p+1+szL sa:Nat):Int) (node+1+wdL sa) z):=by
       rw[←hSL];unfold X1p;rw[if_pos rfl];have e1:((p:Int)+1)=((p+1:Nat):Int):=by omega
       have e2:(((p+1:Nat):Int)+(szL sa:Int))=((p+1+szL sa:Nat):Int):=by omega
       rw[e1,e2];congr 1;by_cases ha:sa=[]<;>by_cases hb:sb=[]<;>simp[ha,hb]
      obtain⟨A,hA⟩:∃x,Ws sa ((p+1:Nat):Int) (node+1) z=x:=⟨_,rfl⟩;obtain⟨B,hB⟩:∃x,Ws sb ((p+1+szL sa:Nat):Int) (node+1+wdL sa) z=x:=⟨_,rfl⟩;rw[hA]at ca hAl hS2;rw[hB]at cb hBl hS2;have eps:((p+1+szL sa:Nat):Int)=(p:Int)+1+(szL sa:Int):=by omega
      have enw:((node+1+wdL sa:Nat):Int)=(node:Int)+1+(wdL sa:Int):=by omega
      rw[ep1,en1]at ca;rw[eps,enw]at cb;have hwps:IntKind.i64.wrap ((p:Int)+1+(szL sa:Int))=(p:Int)+1+(szL sa:Int):=Xa (by omega) (by omega);have hwnw:IntKind.i64.wrap ((node:Int)+1+(wdL sa:Int))=(node:Int)+1+(wdL sa:Int):=Xa (by omega) (by omega);have room1:Q9 (acc.length+1) 32:=Xv (by omega) (by decide);have room2:Q9 (acc.length+1+wdL sa) 32:=Xv (by omega) (by decide);have room2':Q9 (acc.length+(wdL sa+1)) 32:=Xv (by omega) (by decide);have room3:Q9 (acc.length+(wdL sa+1)+wdL sb) 32:=Xv (by omega) (by decide);have room3':Q9 (acc.length+1+wdL sa+wdL sb) 32:=Xv (by omega) (by decide);clear hSL hSLl hA hB ep1 en1 en2 eps enw iha ihb h18;refine X2 ?_;refine(XL [0,1,2,3,9,10,11,12,13,15,17,18,19] (fun(y:Nat)=>[(14,.v (li y))]) (fun(y:Nat)=>[(11,.box [.c (iC 3),.c (iC sc),.c (iC sv),.c (iC sn),.c (iC so),.c (iC stn),.c (.sl 3 (Xn sks)),.c (.sl 10 (X8 sa)),.c (.sl 10 (X8 sb)),.c (.sl 1 (Xi sbs))]),(1003,.row 143 4 (XD acc))]) (fun(y:Nat)=>y=if sa=[] then z else node+1) ?_ ?_)
      ·
       refine X2 ?_;refine(Xc rfl (fun h22=>?_) fun h22=>?_)
       · (try simp only[BN]at h22);refine X1 ?_;exact⟨node+1,(by rw[if_neg fun h=>by rw[h]at h22;simp at h22]),X4 (fun n=>n) []⟩
       (try simp only[BN]at h22);exact⟨z,(by rw[if_pos (by cases sa with|nil=>rfl|cons _ _=>simp at h22)]),X4 (fun n=>n) []⟩
      rintro y1 hy1;simp only[upS,X6,Xw]
      try simp only[X6,KN,Nat.reduceBEq,if_true,if_false,ins,Nat.reduceLT]
      rw[←hy1]at hS2;clear hy1;refine(XL [0,1,2,3,9,10,11,12,13,14,17,18,19] (fun(y:Nat)=>[(15,.v (li y))]) (fun(y:Nat)=>[(11,.box [.c (iC 3),.c (iC sc),.c (iC sv),.c (iC sn),.c (iC so),.c (iC stn),.c (.sl 3 (Xn sks)),.c (.sl 10 (X8 sa)),.c (.sl 10 (X8 sb)),.c (.sl 1 (Xi sbs))]),(1003,.row 143 4 (XD acc))]) (fun(y:Nat)=>y=if sb=[] then z else node+1+wdL sa) ?_ ?_)
      ·
       refine X2 ?_;refine(Xc rfl (fun h28=>?_) fun h28=>?_)
       · (try simp only[BN]at h28);refine(Xm [⟨true,.v (li (wdL sa:Int)),none⟩] ?_ ?_)
         · first|exact cwa _|exact trivial|simpa[*]using cwa _
         exact⟨node+1+wdL sa,(by rw[if_neg fun h=>by rw[h]at h28;simp at h28]),X4 (fun n=>n) []⟩
       (try simp only[BN]at h28);exact⟨z,(by rw[if_pos (by cases sb with|nil=>rfl|cons _ _=>simp at h28)]),X4 (fun n=>n) []⟩
      rintro y2 hy2;simp only[upS,X6,Xw]
      try simp only[X6,KN,Nat.reduceBEq,if_true,if_false,ins,Nat.reduceLT]
      rw[←hy2]at hS2;have hsn:=encNs_if acc 3 p y1 y2 A B;rw[←hS2]at hsn;clear hy2 hS2;refine X0<|(Xl (by simp[*,XA,Qb,XN,cellsOf,Qc];rfl) ?_);refine Xh [⟨false,.v (lNd A),none⟩] ?_ ?_
      · first|exact ca _|exact trivial|simpa[*]using ca _
      refine(Zu [(85,11),(89,11),(95,11)] [⟨true,.v (li (szL sa:Int)),none⟩,⟨true,.v (li (wdL sa:Int)),none⟩,⟨false,.v (lNd B),none⟩] (by kernel_rfl) (by kernel_rfl) (by rfl) (by simp[X3X,X2w,Qo, *];first|exact⟨rfl,Iff.rfl⟩|exact⟨rfl,trivial⟩|rfl) ?_ ?_)
      · first|exact⟨csa _,cwa _,cb _⟩|exact trivial|(repeat' first|exact trivial|exact csa _|exact cwa _|exact cb _|apply And.intro)
      exact⟨acc++SL,rfl,X4 (fun n=>if n=1003 then 101 else n) []⟩
    (try simp only[BN]at h18);refine X2 ?_;refine(X7 rfl (fun h37=>?_) (fun h37=>?_))
    · (try simp only[BN]at h37);have h4:sd=4:=by simpa using h37
      subst h4;have hsb:=hb0 rfl;subst hsb;rw[if_pos rfl]at hW;simp only[wdL,Nat.add_zero]at hW;have ca:=iha (by omega) hgs.2.1 (p+1) (node+2) (node+1) (by omega) (by omega) (by omega);have hAl:=W0 sa ((p+1:Nat):Int) (node+2) (node+1) hgs.2.1
      have hS2:SL=⟨4,p,(node:Int)+1,-1⟩::⟨5,p,((if sa=[] then node+1 else node+2:Nat):Int),z⟩::Ws sa ((p+1:Nat):Int) (node+2) (node+1):=by
       rw[←hSL];unfold X1p;rw[if_neg (by decide),if_pos rfl];have e1:((p:Int)+1)=((p+1:Nat):Int):=by omega
       rw[e1];by_cases ha:sa=[]<;>simp[ha]
      obtain⟨A,hA⟩:∃x,Ws sa ((p+1:Nat):Int) (node+2) (node+1)=x:=⟨_,rfl⟩;rw[hA]at ca hAl hS2;rw[ep1,en1,en2]at ca;have room1:Q9 (acc.length+2) 32:=Xv (by omega) (by decide);have room2:Q9 (acc.length+2+wdL sa) 32:=Xv (by omega) (by decide);have room2':Q9 (acc.length+(wdL sa+1+1)) 32:=Xv (by omega) (by decide);have room2'':Q9 (acc.length+(wdL sa+2)) 32:=Xv (by omega) (by decide);clear hSL hSLl hA ep1 en1 en2 iha ihb h37;refine X2 ?_;refine(XL [0,1,2,3,9,10,11,12,13,17,18,19] (fun(y:Nat)=>[(16,.v (li y))]) (fun(y:Nat)=>[(11,.box [.c (iC 4),.c (iC sc),.c (iC sv),.c (iC sn),.c (iC so),.c (iC stn),.c (.sl 3 (Xn sks)),.c (.sl 10 (X8 sa)),.c (.sl 10 (X8 [])),.c (.sl 1 (Xi sbs))]),(1003,.row 143 4 (XD acc))]) (fun(y:Nat)=>y=if sa=[] then node+1 else node+2) ?_ ?_)
      ·
       refine X2 ?_;refine(Xc rfl (fun h41=>?_) fun h41=>?_)
       · (try simp only[BN]at h41);refine X1 ?_;exact⟨node+2,(by rw[if_neg fun h=>by rw[h]at h41;simp at h41]),X4 (fun n=>n) []⟩
       (try simp only[BN]at h41);exact⟨node+1,(by rw[if_pos (by cases sa with|nil=>rfl|cons _ _=>simp at h41)]),X4 (fun n=>n) []⟩
      rintro y1 hy1;simp only[upS,X6,Xw]
      try simp only[X6,KN,Nat.reduceBEq,if_true,if_false,ins,Nat.reduceLT]
      rw[←hy1]at hS2;have hsn:=encNs_lp acc 4 p ((node:Int)+1) (-1) 5 p y1 z A;rw[←hS2]at hsn;clear hy1 hS2;refine X0<|(Xl (by simp[*,XA,Qb,XN,cellsOf,Qc];rfl) ?_);refine(Xm [⟨false,.v (lNd A),none⟩] ?_ ?_)
      · first|exact ca _|exact trivial|simpa[*]using ca _
      exact⟨acc++SL,rfl,X4 (fun n=>if n=1003 then 133 else n) []⟩
    (try simp only[BN]at h37);have h3:¬sd=3:=by simpa using h18
    have h4:¬sd=4:=by simpa using h37
    have hS2:SL=[⟨2,p,z,-1⟩]:=by
     rw[←hSL];unfold X1p;rw[if_neg h3,if_neg h4]
    have hsn:=encNs_lf acc 2 p z (-1);rw[←hS2]at hsn;have room1:Q9 (acc.length+1) 32:=Xv (by omega) (by decide);clear hSL hS2 hSLl ep1 en1 en2 iha ihb;refine(Xl (by simp[*,XA,Qb,XN,cellsOf,Qc];rfl) ?_);exact⟨acc++SL,rfl,X4 (fun n=>if n=1003 then 46 else n) []⟩
   rintro y hy;simp only[upS,X6,Xw]
   try simp only[X6,KN,Nat.reduceBEq,if_true,if_false,ins,Nat.reduceLT]
   rw[←List.append_assoc,←hy]at hJ;have hyl:y.length≤acc.length+W:=by rw[hy,List.length_append];omega
   refine Xh [⟨true,.v (li (Z:Int)),none⟩] ?_ ?_
   · first|exact cs1 _|exact trivial|simpa[*]using cs1 _
   refine X1 ?_;refine X1 ?_;exact⟨(k+1,p+Z,node+W,y),⟨hk1,hJ,by simp only;omega,by simp only;omega,by simp only;omega⟩,by simp only;omega,X4 (fun n=>n) []⟩
 (try simp only[BN]at h5);have hkl:k=l.length:=by first|omega|(have:¬k<l.length:=by simpa using h5;omega)
 rw[hkl,List.drop_length]at hJ;simp only[Ws,List.append_nil]at hJ;subst hJ;refine(Xf ?_);refine X2 ?_;exact XR ⟨.inr rfl,_,XO 1003 rfl,⟨⟨_,by simp;rfl,by simp[XK]⟩,by simp,fun h=>by cases h⟩⟩
end Go.Proofs.YtppjennamodfdaaGreat

namespace Go.Proofs.YtppjennamodfdaaGreat
open Go Go.Hl
set_option maxHeartbeats 8000000 in
theorem X4M (f:Fl) (hb:Xj f.body≤1000000) (hg:gL f.body=true) (d:Nat):Con Tryz.prog 126 false [aF f] (.v (.agg [.c (grC f.body)])) none d:=by
 have cw:=X3R f.body (by omega);have hs:=Qu f.body;have hw:=X7o f.body;have cl:=Xcq f.body hb hg 0 1 (1+wdL f.body) (by omega) (by omega) (by omega);have hl:=W0 f.body ((0:Nat):Int) 1 (1+wdL f.body) hg
 have hgr:XD (grN f.body)=[iC 0,iC (-1),iC 1,iC (-1)]::(XD (Ws f.body ((0:Nat):Int) 1 (1+wdL f.body))++[[iC 1,iC (-1),iC (-1),iC (-1)]]):=by
  unfold grN;by_cases h:f.body=[]
  · rw[h];simp[XD,Ws,wdL]
  simp[XD,h]
 obtain⟨vars,hats,body⟩:=f;simp only at cw hs hw cl hl hgr hb⊢;simp only[grC];rw[hgr];obtain⟨W,hW⟩:∃x,wdL body=x:=⟨_,rfl⟩;rw[hW]at cw hw cl hl;rw[hW];obtain⟨L,hL⟩:∃x,Ws body ((0:Nat):Int) 1 (1+W)=x:=⟨_,rfl⟩;rw[hL]at cl hl;rw[hL];have e1:((1+W:Nat):Int)=1+(W:Int):=by omega
 have e0:((0:Nat):Int)=0:=rfl;have e2:((1:Nat):Int)=1:=rfl;rw[e1,e0,e2]at cl;have hw1:IntKind.i64.wrap (1+(W:Int))=1+(W:Int):=Xa (by omega) (by omega);have room1:Q9 (1+W) 32:=Xv (by omega) (by decide);have room2:Q9 (1+W+1) 32:=Xv (by omega) (by decide);have room1':Q9 (W+1) 32:=Xv (by omega) (by decide);have room2':Q9 (W+1+1) 32:=Xv (by omega) (by decide);clear hgr hL hW e1 e0 e2 hg;simp only[aF,Fl.enc,List.map_cons,List.map_nil];refine X5 Tryz.func126 ?_;simp only[Tryz.f126];refine X2 ?_;refine Xh [⟨true,.v (li W),none⟩] ?_ ?_
 · first|exact cw _|exact trivial|simpa[*]using cw _
 refine X0<|(Xl (by simp[*,XA,Qb,XN,cellsOf,Qc];rfl) ?_);refine Xh [⟨false,.v (lNd L),none⟩] ?_ ?_
 · first|exact cl _|exact trivial|simpa[*]using cl _
 refine X0<|(Xl (by simp[*,XA,Qb,XN,cellsOf,Qc];rfl) ?_);exact XR ⟨.inr rfl,_,XO 20 rfl,⟨⟨_,by simp;rfl,by simp[XK]⟩,by simp,fun h=>by cases h⟩⟩
theorem X98 (f:Fl) (hb:Xj f.body≤1000000) (hg:gL f.body=true) (d:Nat):Con Tryz.prog 87 false [aF f] (.v (.agg [.c (grC f.body)])) none d:=by
 have cb:=X4M f hb hg;obtain⟨vars,hats,body⟩:=f;simp only at cb⊢;simp only[grC]at cb⊢;obtain⟨G,hG⟩:∃x,XD (grN body)=x:=⟨_,rfl⟩;rw[hG]at cb⊢;clear hG;simp only[aF,Fl.enc,List.map_cons,List.map_nil]at cb⊢;refine X5 Tryz.func87 ?_;simp only[Tryz.f87];refine X2 ?_;refine Xh [⟨false,.v (.agg [.c (.sl 4 G)]),none⟩] ?_ ?_
 · first|exact cb _|exact trivial|simpa[*]using cb _
 exact Xe
theorem X6o (f:Fl) (h:Sm f) (hg:gL f.body=true) (hR:∀d,Con Tryz.prog 86 false [aF f] (.v (.one (.c (.sl 1 (Qa (rcL (grN f.body) (flL f.body) f.vars.length)))))) none d) (d:Nat):
  Con Tryz.prog 58 false [aF f] (.v (.one (.c (.sl 1 (Qa (rdT f)))))) none d:=by
 have cs:=QO f.body (by have:=h.nodes;omega);have cg:=X98 f (by have:=h.nodes;omega) hg;have hok:∀x∈grN f.body,ndOK (grN f.body).length (szL f.body) x:=X5U hg;have hLl:(rcL (grN f.body) (flL f.body) f.vars.length).length=(grN f.body).length:=by simp[rcL]
 have hnl:szL f.body≤1000:=by have:=Qu f.body;have:=h.nodes;omega
 have hNl:(grN f.body).length≤100000:=by
  simp only[grN,List.length_cons,List.length_append,W0 f.body _ _ _ hg,List.length_nil];have:=X7o f.body;omega
 have hT:rdF (szL f.body) ((grN f.body).zip (rcL (grN f.body) (flL f.body) f.vars.length))=rdT f:=rfl;obtain⟨N,hN⟩:∃x,grN f.body=x:=⟨_,rfl⟩;obtain⟨L,hL⟩:∃x,rcL N (flL f.body) f.vars.length=x:=⟨_,rfl⟩;obtain⟨n,hn⟩:∃x,szL f.body=x:=⟨_,rfl⟩;rw[hN,hL]at hR hLl hT;rw[hN]at hok hNl;simp only[grC]at cg;rw[hN]at cg;rw[hn]at cs hok hnl hT;rw[←hT];obtain⟨vars,hats,body⟩:=f;simp only at cs;clear h hN hL hn hT hg;simp only[aF,Fl.enc,List.map_cons,List.map_nil]at hR cg⊢;have hbig:(24:Int)*n≤281474976710656:=by omega
 have hmx:n≤maxLen:=by unfold maxLen;omega
 refine X5 Tryz.func58 ?_;simp only[Tryz.f58];refine X2 ?_;refine Xh [⟨true,.v (li n),none⟩] ?_ ?_
 · first|exact cs _|exact trivial|simpa[*]using cs _
 refine Xh [⟨false,.v (.one (.c (.sl 1 (Qa L)))),none⟩] ?_ ?_
 · first|exact hR _|exact trivial|simpa[*]using hR _
 refine Xz (X7e (e:=27) (k:=n) 10 (by simp)) ?_;simp only[rwO,Nat.reduceEqDiff,if_true,if_false];refine X0<|X0<|(Xm [⟨false,.v (.agg [.c (.sl 4 (XD N))]),none⟩] ?_ ?_)
 · first|exact cg _|exact trivial|simpa[*]using cg _
 refine X3<|(Xb [3,4,15,16] (fun(y:Nat)=>[(17,.v (li y))]) (fun y=>[(10,.row 27 1 (Qa (rdF n ((N.zip L).take y))))]) (fun y=>y≤N.length) (fun y=>N.length - y) (0:Nat) (Nat.zero_le _) ?_ ?_)
 · exact Xu (fun n=>n) [] rfl (by simp[*,upS,X6]) (by simp[*,upS,rdF,X70]) (by simp[upS])
 rintro y hy;simp only[upS,X6,Xw]
 try simp only[X6,KN,Nat.reduceBEq,if_true,if_false,ins,Nat.reduceLT]
 refine X2 ?_;refine X0<|(X7 rfl (fun h6=>X9 ?_) (fun h6=>?_))
 · (try simp only[BN]at h6);have hlt:y<N.length:=by first|omega|simpa using h6
   obtain⟨x,hx,_⟩:=Xo hlt;obtain⟨Li,hLi,_⟩:=Xo (show y<L.length by omega);have hwd:=hok x (List.mem_of_getElem? hx);have hxe:=ZE hx;have hle:=Z3 hLi
   have hsn:rdF n ((N.zip L).take (y+1))=if rdB x=true then(rdF n ((N.zip L).take y)).set x.a.toNat Li else rdF n ((N.zip L).take y):=by
    rw[List.take_add_one,show(N.zip L)[y]? =some (x,Li) by rw[List.getElem?_zip_eq_some];exact⟨hx,hLi⟩,Option.toList_some,X9o]
   have hrdl:=X3J n ((N.zip L).take y);obtain⟨RD,hRD⟩:∃z,rdF n ((N.zip L).take y)=z:=⟨_,rfl⟩;rw[hRD]at hsn hrdl⊢;have hk1:y+1≤N.length:=hlt;have hyb:N.length≤1000000000:=by omega
   have hw1:=Xy hlt hyb;obtain⟨xk,xa,xn,xo⟩:=x;simp only[Nd.enc]at hxe;clear hlt h6 hx hLi hRD;refine X0<|X3<|X0<|X1 ?_;refine XL [3,4,5,6,15,16,17] (fun(q:Bool)=>[(29,.v (lb q))]) (fun(q:Bool)=>[(6,.box [.c (iC xk),.c (iC xa),.c (iC xn),.c (iC xo)]),(10,.row 27 1 (Qa RD))]) (fun(q:Bool)=>q=rdB ⟨xk,xa,xn,xo⟩) ?_ ?_
   · refine Xl (by simp[*];rfl) ?_;exact⟨_,rfl,Xu (fun n=>n) [] rfl (by simp[upS,X6,rdB]<;>rfl) (by simp[upS]) (by simp[upS])⟩
   rintro q hq;simp only[upS,X6,Xw]
   try simp only[X6,KN,Nat.reduceBEq,if_true,if_false,ins,Nat.reduceLT]
   refine(Xc rfl (fun h9=>?_) fun h9=>?_)
   · (try simp only[BN]at h9);have hqt:q=true:=by simpa using h9
     subst hqt;rw[if_pos hq.symm]at hsn
     obtain⟨m,hm,hmn⟩:∃m:Nat,xa=m∧m<n:=by
      rcases hwd.ha with⟨_,h⟩|h
      · simp only at h;rw[h]at hq;simp[rdB]at hq
      exact h
     subst hm;simp only[Int.toNat_natCast]at hsn;obtain⟨o,ho,_⟩:=Xo (show m<RD.length by omega);have ho':=Z3 ho;have hset:=X7k RD m Li;rw[←hsn]at hset;have hml:m+1≤RD.length:=by omega
     clear hq h9 hwd hsn ho hmn hrdl;refine(X5q [(31,6)] (by kernel_rfl) (by kernel_rfl) (by rfl) (by simp[evsH,X2w,Qo, *,setRow];rfl) ?_);refine X1 ?_;exact⟨y+1,hk1,by omega,X4 (fun n=>n) []⟩
   (try simp only[BN]at h9);have hqt:q=false:=by simpa using h9
   subst hqt;rw[if_neg (by rw[←hq];simp)]at hsn;clear hq h9 hwd hrdl;refine X1 ?_;exact⟨y+1,hk1,by omega,X4 (fun n=>n) []⟩
 (try simp only[BN]at h6);have hyn:y=N.length:=by first|omega|(have:¬y<N.length:=by simpa using h6;omega)
 subst hyn;have htk:(N.zip L).take N.length=N.zip L:=List.take_of_length_le (by rw[List.length_zip];omega);rw[htk];obtain⟨RD,hRD⟩:∃z,rdF n (N.zip L)=z:=⟨_,rfl⟩;rw[hRD]at*;clear hRD htk h6;refine(Xf ?_);refine X2 ?_;exact XR ⟨.inr rfl,_,XO 10 rfl,⟨⟨_,by simp;rfl,by simp[XK]⟩,by simp,fun h=>by cases h⟩⟩
end Go.Proofs.YtppjennamodfdaaGreat

namespace Go.Proofs.YtppjennamodfdaaGreat
open Go Go.Hl
def Wv (n:Nat) (M:Nat→Nat→Bool) (a:Nat):List (List CD):=(List.range n).map fun b=>[bC (M a b)]
def X4c (n:Nat) (M:Nat→Nat→Bool):CD:=.sl 1 ((List.range n).map fun a=>[.sl 1 (Wv n M a)])
theorem X3y {n:Nat} {M:Nat→Nat→Bool} {a b:Nat} (h:b<n):(Wv n M a)[b]? =some [bC (M a b)]:=by simp[Wv,h]
theorem X5E (n:Nat) (M:Nat→Nat→Bool) (a:Nat):(Wv n M a).length=n:=by simp[Wv]
def up (M:Nat→Nat→Bool) (x y:Nat) (v:Bool):Nat→Nat→Bool:=fun a b=>if a=x∧b=y then v else M a b
def stM (M:Nat→Nat→Bool) (m a b:Nat):Nat→Nat→Bool:=up M a b (M a b||(M a m&&M m b))
def fwB (M:Nat→Nat→Bool) (m a k:Nat):Nat→Nat→Bool:=(List.range k).foldl (fun M b=>stM M m a b) M
def fwA (n:Nat) (M:Nat→Nat→Bool) (m k:Nat):Nat→Nat→Bool:=(List.range k).foldl (fun M a=>fwB M m a n) M
def fwM (n:Nat) (M:Nat→Nat→Bool) (k:Nat):Nat→Nat→Bool:=(List.range k).foldl (fun M m=>fwA n M m n) M
theorem X8r (M:Nat→Nat→Bool) (m a k:Nat):fwB M m a (k+1)=stM (fwB M m a k) m a k:=by simp[fwB,List.range_succ]
theorem X9z (n:Nat) (M:Nat→Nat→Bool) (m k:Nat):fwA n M m (k+1)=fwB (fwA n M m k) m k n:=by simp[fwA,List.range_succ]
theorem X3t (n:Nat) (M:Nat→Nat→Bool) (k:Nat):fwM n M (k+1)=fwA n (fwM n M k) k n:=by simp[fwM,List.range_succ]
def Z9 (n:Nat) (M:Nat→Nat→Bool):List (Option (List (List CD))):=(List.range n).map fun a=>some (Wv n M a)
theorem X6I (n:Nat) (M:Nat→Nat→Bool):(Z9 n M).length=n:=by simp[Z9]
theorem X7r {n a:Nat} {M:Nat→Nat→Bool} (h:a<n):(Z9 n M)[a]? =some (some (Wv n M a)):=by simp[Z9,h]
@[simp] theorem rowsM_getE {n a:Nat} {M:Nat→Nat→Bool} (h:a<(Z9 n M).length):(Z9 n M)[a]'h=some (Wv n M a):=by simp[Z9]
@[simp] theorem rowB_getE {n a b:Nat} {M:Nat→Nat→Bool} (h:b<(Wv n M a).length):(Wv n M a)[b]'h=[bC (M a b)]:=by simp[Wv]
theorem rowB_set {n x y:Nat} {M:Nat→Nat→Bool} {v:Bool}:(Wv n M x).set y [bC v]=Wv n (up M x y v) x:=by
 apply List.ext_getElem?;intro i;rw[List.getElem?_set,X5E];by_cases e:y=i
 · subst e;by_cases hi:y<n<;>simp[Wv,up,hi]
 rw[if_neg e];by_cases hi:i<n<;>simp[Wv,up,hi,Ne.symm e]
theorem rowB_up {n x y a:Nat} {M:Nat→Nat→Bool} {v:Bool} (h:a≠x):Wv n (up M x y v) a=Wv n M a:=by simp[Wv,up,h]
theorem XcH {n x y:Nat} {M:Nat→Nat→Bool} {v:Bool}:(Z9 n M).set x (some (Wv n (up M x y v) x))=Z9 n (up M x y v):=by
 apply List.ext_getElem?;intro i;rw[List.getElem?_set,X6I];by_cases e:x=i
 · subst e;by_cases hi:x<n<;>simp[Z9,hi]
 rw[if_neg e];by_cases hi:i<n
 · simp[Z9,hi,rowB_up (Ne.symm e)]
 simp[Z9,hi]
theorem XcG (n:Nat) (M:Nat→Nat→Bool):CD.sl 1 ((Z9 n M).map fun r=>[X4W 1 r])=X4c n M:=by simp[Z9,X4c,X4W]
theorem X5s (M:Nat→Nat→Bool) (m a:Nat):∀(k x y:Nat),fwB M m a k x y=if x=a∧y<k then(M x y||(M x m&&M m y))else M x y
 |0,x,y=>by simp[fwB]
 | k +1,x,y=>by
   rw[X8r];unfold stM up;rw[X5s M m a k,X5s M m a k,X5s M m a k,X5s M m a k];by_cases hx:x=a∧y=k
   · obtain⟨rfl,rfl⟩:=hx;simp only[and_self,if_true,Nat.lt_irrefl,and_false,if_false,Nat.lt_succ_self,true_and];by_cases hm:m<y
     · simp only[hm,if_true];cases M x m<;>simp
     simp only[hm,if_false]
   rw[if_neg hx];by_cases h2:x=a∧y<k
   · rw[if_pos h2,if_pos ⟨h2.1,by omega⟩]
   rw[if_neg h2,if_neg (by omega)]
theorem X4a (n:Nat) (M:Nat→Nat→Bool) (m:Nat):∀(k x y:Nat),fwA n M m k x y=if x<k∧y<n then(M x y||(M x m&&M m y))else M x y
 |0,x,y=>by simp[fwA]
 | k +1,x,y=>by
   rw[X9z,X5s,X4a n M m k,X4a n M m k,X4a n M m k];by_cases hx:x=k∧y<n
   · obtain⟨rfl,hy⟩:=hx;simp only[hy,and_self,if_true,Nat.lt_irrefl,false_and,if_false,Nat.lt_succ_self,and_true];by_cases hm:m<x
     · simp only[hm,if_true];cases M x y<;>cases M x m<;>cases M m y<;>cases M m m<;>rfl
     simp only[hm,if_false]
   rw[if_neg hx];by_cases h2:x<k∧y<n
   · rw[if_pos h2,if_pos ⟨by omega,h2.2⟩]
   rw[if_neg h2,if_neg (by omega)]
theorem X7p (n:Nat) (M:Nat→Nat→Bool):∀(k:Nat),k≤n→∀a b c:Nat,a<n→b<n→c<k→fwM n M k a c=true→fwM n M k c b=true→fwM n M k a b=true
 |0,_,a,b,c,_,_,hc,_,_=>absurd hc (by omega)
 | k +1,hk,a,b,c,ha,hb,hc,h1,h2=>by
   have ih:=X7p n M k (by omega);rw[X3t]at h1 h2⊢;rw[X4a]at h1 h2⊢;rw[if_pos ⟨ha,by omega⟩]at h1;rw[if_pos ⟨by omega,hb⟩]at h2;rw[if_pos ⟨ha,hb⟩];generalize fwM n M k=N at*;simp only[Bool.or_eq_true,Bool.and_eq_true]at h1 h2⊢;by_cases e:c=k
   · subst e;have e1:N a c=true:=h1.elim id (·.1);have e2:N c b=true:=h2.elim id (·.2);exact .inr ⟨e1,e2⟩
   have hck:c<k:=by omega
   rcases h1 with h1|⟨h1,h1'⟩
   · rcases h2 with h2|⟨h2,h2'⟩
     · exact .inl (ih a b c ha hb hck h1 h2)
     exact .inr ⟨ih a k c ha (by omega) hck h1 h2,h2'⟩
   rcases h2 with h2|⟨h2,h2'⟩
   · exact .inr ⟨h1,ih k b c (by omega) hb hck h1' h2⟩
   exact .inr ⟨h1,h2'⟩
theorem X5Z (n:Nat) (M:Nat→Nat→Bool):∀(k a b:Nat),M a b=true→fwM n M k a b=true
 |0,a,b,h=>by simpa[fwM]using h
 | k+1,a,b,h=>by
   rw[X3t,X4a,X5Z n M k a b h];split<;>simp
theorem X6O {n:Nat} {M:Nat→Nat→Bool} {Q:Nat→Nat→Prop} (ht:∀a b c,Q a b→Q b c→Q a c) (h:∀a b,M a b=true→Q a b):∀(k a b:Nat),fwM n M k a b=true→Q a b
 |0,a,b,hm=>h a b (by simpa[fwM]using hm)
 | k +1,a,b,hm=>by
   have ih:=X6O (n:=n) ht h k;rw[X3t,X4a]at hm;split at hm
   · simp only[Bool.or_eq_true,Bool.and_eq_true]at hm;rcases hm with hm|⟨h1,h2⟩
     · exact ih a b hm
     exact ht _ _ _ (ih _ _ h1) (ih _ _ h2)
   exact ih a b hm
end Go.Proofs.YtppjennamodfdaaGreat
