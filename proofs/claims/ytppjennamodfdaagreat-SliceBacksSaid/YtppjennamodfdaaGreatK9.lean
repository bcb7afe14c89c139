/- Part 9: contracts of functions of the program and of the reference, and plain facts about what they compute; used by the proof of the claimed statement. Conditions: as each theorem states. -/
import Derived.Test.YtppjennamodfdaaGreatK8
import Derived.Test.YtppjennamodfdaaGreatK5
set_option linter.unusedSimpArgs false
set_option linter.unusedVariables false
set_option linter.unnecessarySimpa false
set_option maxRecDepth 100000
set_option maxHeartbeats 2000000
namespace Go.Proofs.YtppjennamodfdaaGreat
open Go Go.Hl
theorem X8F:∀(l:List Int) (x:Int) (k:Nat),¬x∈l→X45 l x k=-1
 |[],_,_,_=>rfl
 | y::l,x,k,h=>by
   simp only[List.mem_cons,not_or]at h;simp only[X45,h.1,if_false];exact X8F l x _ h.2
theorem idxF_iff (l:List Int) (x:Int):decide (0≤X45 l x 0)=decide (x∈l):=by
 by_cases h:x∈l
 · simp[h,X9M l x 0 h]
 simp[h,X8F l x 0 h]
theorem X55 (l:List Int) (x:Int) (hl:l.length≤1000000000) (d:Nat):Con Tryz.prog 18 true [lI l,li x] (.v (lb (decide (x∈l)))) none d:=by
 have:=X88 l x hl d
 rwa [idxF_iff]at this
noncomputable def clB (f:Fl) (q:List Int):Bool:=(ZJ (Q3 f) (QT q)).all fun d=>decide ((d:Int)∈q)
set_option maxHeartbeats 8000000 in
theorem X9Z (f:Fl) (h:Sm f) (q:List Int) (hq:q.length≤100000) (d:Nat):Con Tryz.prog 21 false [aF f,.one (.c (.sl 1 (Xi q)))] (.tup [lb (decide (Wk f [q]=0)&&clB f q),li (Wk f [q])]) none d:=by
 have ca:=ZV f h [q] (by simp) (fun q' hq'=>by rw[List.mem_singleton.1 hq'];omega);have cd:=X08 f _ _ _ (WP h);have hd0:X2G (flL f.body) (arL f.body (-1) 0) (rdT f)=Q3 f:=rfl;rw[hd0]at cd;have hok:=X44 h;have hDl:(Q3 f).length≤1000:=by rw[QL];exact(WP h).hn
 obtain⟨C,hC⟩:∃x,Wk f [q]=x:=⟨_,rfl⟩;have hask:=fun hz=>@X4j f [q] (hC.trans hz) q (by simp);unfold askT at ca;simp only[X3O,List.map_cons,List.map_nil]at ca;unfold clB;rw[hC]at ca⊢;obtain⟨T,hT⟩:∃x,X5I f=x:=⟨_,rfl⟩;have hT2:ZG f (flL f.body) (arL f.body (-1) 0) (rdT f)=T:=hT;rw[hT]at ca;rw[hT2]at cd;obtain⟨D,hD⟩:∃x,Q3 f=x:=⟨_,rfl⟩;rw[hD]at cd hok hDl hask⊢;clear h hC hT hT2 hd0 hD;by_cases hz:C=0
 · subst hz;obtain⟨h0,hlt⟩:=hask rfl;have cc:=Z5 D (QT q) (by omega) hok (by simp only[QT,List.length_map];omega) hlt;have hN:=(WJ hok hlt).1;have hWl:=hN.len;have hWn:=hN.nd;rw[←ZR h0]at cc;have cn:=fun x=>X55 q x (by omega);simp only[if_true]at ca⊢;clear hask h0 hlt hN hok;obtain⟨W,hW⟩:∃x,ZJ D (QT q)=x:=⟨_,rfl⟩;rw[hW]at cc hWl hWn⊢;have hbad:∀x∈W,¬(x:Int)∈q→(W.all fun d=>decide ((d:Int)∈q))=false:=fun x hx hn=>List.all_eq_false.2 ⟨x,hx,by simpa using hn⟩;have hgood:(∀x∈W,(x:Int)∈q)→(W.all fun d=>decide ((d:Int)∈q))=true:=fun h=>List.all_eq_true.2 fun x hx=>by simpa using h x hx
   obtain⟨Z,hZ⟩:∃x,(W.all fun d=>decide ((d:Int)∈q))=x:=⟨_,rfl⟩;simp only[hZ]at hbad hgood⊢;clear hW hZ;obtain⟨vars,hats,body⟩:=f;simp only[aF,Fl.enc,List.map_cons,List.map_nil]at ca⊢;refine X5 Tryz.func21 ?_;simp only[Tryz.f21];refine X2 ?_;refine X0<|(QN 3 [] [⟨false,.tup [.one (.c T),li 0],none⟩] (by simp[*];rfl) trivial (XO 12 rfl) (by simp[*];first|exact⟨rfl,Iff.rfl⟩|exact⟨rfl,trivial⟩|rfl) ?_ ?_)
   · first|exact ca _|simpa using ca _
   refine X0<|X0<|X1 ?_;refine(Xc rfl (fun h3=>?_) fun h3=>?_)
   · exact absurd h3 (by simp)
   (try simp only[BN]at h3);refine X0<|X0<|(Xm [⟨false,.v (.one (.c (.sl 1 (Qa D)))),none⟩,⟨false,.v (.one (.c (.mp (mpI W)))),none⟩] ?_ ?_)
   · first|exact⟨cd _,cc _⟩|exact trivial|(repeat' first|exact trivial|exact cd _|exact cc _|apply And.intro)
   refine X3<|(Xb [1,23] (fun(y:List Nat)=>[]) (fun y=>[(23,.it (mpI W) y)]) (fun y=>y.Nodup∧X04 y W.length∧∀j∈y,∀x,W[j]? =some x→(x:Int)∈q) (fun y=>W.length - y.length) [] ⟨List.nodup_nil,by simp[X04],by simp⟩ ?_ ?_)
   · exact X4 (fun n=>n) []
   rintro seen ⟨j1,j2,j3⟩;simp only[upS,X6,Xw]
   try simp only[X6,KN,Nat.reduceBEq,if_true,if_false,ins,Nat.reduceLT]
   refine X1v (fun j k v hj hn=>?_) (fun hall=>?_)
   skip
   · (try simp only[BN]at h9);obtain⟨x,hd,rfl,rfl⟩:=X51 hj;have hjl:j<W.length:=(List.getElem?_eq_some_iff.1 hd).1
     have hnd2:(seen++[j]).Nodup:=by
      rw[List.nodup_append];exact⟨j1,by simp,fun a ha b hb=>by rw[List.mem_singleton.1 hb];exact fun e=>hn (e▸ha)⟩
     have hin:X04 (seen++[j]) W.length:=fun i hi=>by
      rcases List.mem_append.1 hi with h|h
      · exact j2 i h
      rw[List.mem_singleton.1 h];exact hjl
     have hle:=QA hnd2 hin;simp only[List.length_append,List.length_singleton]at hle;have cnx:=cn x;have hbx:=hbad x (List.mem_of_getElem? hd)
     have hnx:(x:Int)∈q→∀i∈seen++[j],∀y,W[i]? =some y→(y:Int)∈q:=fun hx i hi y hy=>by
      rcases List.mem_append.1 hi with h|h
      · exact j3 i h y hy
      rw[List.mem_singleton.1 h,hd]at hy;cases hy;exact hx
     clear hjl hbad hgood j3 cn ca cd cc;obtain⟨z,hz⟩:∃z,decide ((x:Int)∈q)=z:=⟨_,rfl⟩;rw[hz]at cnx;refine X3<|X0<|X1 ?_;refine Xh [⟨true,.v (lb z),none⟩] ?_ ?_
     · first|exact cnx _|exact trivial|simpa[*]using cnx _
     refine(Xc rfl (fun h12=>?_) fun h12=>?_)
     · (try simp only[BN]at h12);have hzf:z=false:=by simpa using h12
       have hr:=hbx (by rw[hzf]at hz;simpa using hz);subst hr;clear h12 hbx hnx hz;refine X2 ?_;exact Xe
     (try simp only[BN]at h12);have hzt:z=true:=by simpa using h12
     have hnx:=hnx (by rw[hzt]at hz;simpa using hz);clear h12 hbx hz;exact⟨seen++[j],⟨hnd2,hin,hnx⟩,by simp only[List.length_append,List.length_singleton];omega,X4 (fun n=>n) []⟩
   try simp only[BN]at h9
   have hr:=hgood fun x hx=>by
    obtain⟨i,hi⟩:=List.mem_iff_getElem?.1 hx;exact j3 i (hall i (by rw[X50];exact(List.getElem?_eq_some_iff.1 hi).1)) x hi
   subst hr;refine(Xf ?_);refine X2 ?_;exact Xe
 simp only[if_neg hz,hz,decide_false,Bool.false_and]at ca⊢;clear hask hok cd;obtain⟨vars,hats,body⟩:=f;simp only[aF,Fl.enc,List.map_cons,List.map_nil]at ca⊢;refine X5 Tryz.func21 ?_;simp only[Tryz.f21];refine X2 ?_;refine X0<|(QN 3 [] [⟨false,.tup [.one (.c (.lit (.pointer none))),li C],none⟩] (by simp[*];rfl) trivial (XO 12 rfl) (by simp[*];first|exact⟨rfl,Iff.rfl⟩|exact⟨rfl,trivial⟩|rfl) ?_ ?_)
 · first|exact ca _|simpa using ca _
 refine X0<|X0<|X1 ?_;refine(Xc rfl (fun h3=>?_) fun h3=>?_)
 · (try simp only[BN]at h3);refine X2 ?_;exact Xe
 exact absurd h3 (by simp[hz])
end Go.Proofs.YtppjennamodfdaaGreat

namespace Go.Proofs.YtppjennamodfdaaGreat
open Go Go.Hl
theorem X5R {vars:List Vr} {nh:Nat}:∀(l:List St) (top:Bool),ssC vars nh l top=0→∀q∈flL l,∃last,shB vars nh q.do_ q.var q.n q.term q.then_.length q.else_.length q.bounds last=true
 |[],_,_,q,hq=>by simp[flL]at hq
 | .mk d c v n t a b bs::l,top,h,q,hq=>by
   have hs:shB vars nh d v n t a.length b.length bs (top&&l.isEmpty)=true:=by
    simp only[ssC]at h;split at h
    · rename_i h0;unfold stC at h0;split at h0
      · cases h0
      rename_i hs;simpa using hs
    rename_i h0;exact absurd h h0
   have hr:ssC vars nh a false=0∧ssC vars nh b false=0∧ssC vars nh l top=0:=by
    simp only[ssC]at h;split at h
    · split at h
      · split at h
        · rename_i ha hb;exact⟨ha,hb,h⟩
        rename_i hb;exact absurd h hb
      rename_i ha;exact absurd h ha
    rename_i h0;exact absurd h h0
   simp only[flL,flS,List.cons_append,List.mem_cons,List.mem_append]at hq;rcases hq with rfl|(hq|hq)|hq
   · exact⟨_,hs⟩
   · exact X5R a false hr.1 q hq
   · exact X5R b false hr.2.1 q hq
   exact X5R l top hr.2.2 q hq
theorem sh_hat {vars:List Vr} {nh:Nat} {q:St} {last:Bool} (h:shB vars nh q.do_ q.var q.n q.term q.then_.length q.else_.length q.bounds last=true) (h5:q.do_=5):0≤q.n∧q.n<nh:=by
 unfold shB at h;rw[h5]at h;simp only[show ¬(5:Int)=0 by decide,show ¬(5:Int)=1 by decide,show ¬(5:Int)=2 by decide,show ¬(5:Int)=3 by decide,show ¬(5:Int)=4 by decide,if_false,if_true,Bool.and_eq_true,decide_eq_true_eq]at h;exact⟨h.1.1.1.2,h.1.1.2⟩
def Zh:List Int→List Int→List Int
 |[],m=>m
 |v::l,m=>Zh l (X2u m v)
theorem addK_mem (m:List Int) (v x:Int):x∈X2u m v↔x∈m∨x=v:=by
 unfold X2u;split
 · rename_i h;constructor
   · exact .inl
   rintro(h1|rfl)
   · exact h1
   exact h
 simp
theorem addK_nd {m:List Int} (h:m.Nodup) (v:Int):(X2u m v).Nodup:=by
 unfold X2u;split
 · exact h
 rename_i hm;rw[List.nodup_append];exact⟨h,by simp,fun a ha b hb=>by rw[List.mem_singleton.1 hb];rintro rfl;exact hm ha⟩
theorem addK_len (m:List Int) (v:Int):(X2u m v).length≤m.length+1:=by
 unfold X2u;split
 · omega
 simp
theorem X2a (l:List Int):∀(m:List Int) (x:Int),x∈Zh l m↔x∈m∨x∈l:=by
 induction l with
 |nil=>intro m x;simp[Zh]
 |cons v l ih=>intro m x;rw[Zh,ih,addK_mem,List.mem_cons,or_assoc]
theorem X5p (l:List Int):∀{m:List Int},m.Nodup→(Zh l m).Nodup:=by
 induction l with
 |nil=>intro m h;exact h
 |cons v l ih=>intro m h;exact ih (addK_nd h v)
theorem X6B (l:List Int):∀(m:List Int),(Zh l m).length≤m.length+l.length:=by
 induction l with
 |nil=>intro m;exact Nat.le_refl _
 |cons v l ih=>intro m;have:=ih (X2u m v);have:=addK_len m v;simp only[Zh,List.length_cons];omega
mutual
def tmV:Tm→List Int
 | .mk o n ks=>(if o=24 then [n] else [])++X5Y ks
def X5Y:List Tm→List Int
 |[]=>[]
 |t::l=>tmV t++X5Y l
end
theorem X7j (a b m:List Int):Zh (a++b) m=Zh b (Zh a m):=by
 induction a generalizing m with
 |nil=>rfl
 |cons v a ih=>simp[Zh,ih]
mutual
theorem Xai:∀(t:Tm) (m:List Int),vrT t m=Zh (tmV t) m
 | .mk o n ks,m=>by
   rw[vrT,tmV,X7j,Xbm ks];split<;>rfl
theorem Xbm:∀(l:List Tm) (m:List Int),vrTs l m=Zh (X5Y l) m
 |[],_=>rfl
 |t::l,m=>by rw[vrTs,X5Y,X7j,Xai t,Xbm l]
end
mutual
theorem Xbl:∀t:Tm,(tmV t).length≤t.nodes
 | .mk o n ks=>by
   have:=X8y ks;simp only[tmV,List.length_append,Tm.nodes];split
   · simp only[List.length_singleton];omega
   simp only[List.length_nil];omega
theorem X8y:∀l:List Tm,(X5Y l).length≤Qp l
 |[]=>by simp[X5Y]
 |t::l=>by have:=Xbl t;have:=X8y l;simp only[X5Y,List.length_append,Qp];omega
end
def X3K (n:Nat) (l:List Nat):List Int:=(l.filter fun d=>decide (n≤d)).map fun d:Nat=>(d:Int) - n
def hatV (hats:List Ht) (n:Nat):List Int:=match hats[n]? with
 |some h=>tmV h.term
 |none=>[]
def ndA (f:Fl) (steps:List St) (rd:List (List Nat)) (s:Nat):List Int:=match steps[s]?,rd[s]? with
 |some q,some l=>X3K steps.length (X2t steps q l)++(if q.do_=5 then hatV f.hats q.n.toNat else [])
 |_,_=>[]
noncomputable def neA (f:Fl) (q:List Int):List Int:=Zh ((ZJ (Q3 f) (QT q)).flatMap (ndA f (flL f.body) (rdT f))) []
noncomputable def neL (f:Fl) (q:List Int):List Int:=(neA f q).mergeSort fun x y=>decide (x≤y)
theorem entL_nil (n:Nat):X3K n []=[]:=rfl
theorem XbK (n d:Nat) (l:List Nat):X3K n (d::l)=if n≤d then((d:Int) - n)::X3K n l else X3K n l:=by
 unfold X3K;rw[List.filter_cons];by_cases h:n≤d
 · simp[h]
 simp[h]
theorem entL_len (n:Nat) (l:List Nat):(X3K n l).length≤l.length:=by
 unfold X3K;rw[List.length_map];exact List.length_filter_le _ _
theorem srcF_len (steps:List St) (q:St) (l:List Nat):(X2t steps q l).length≤l.length:=List.length_filter_le _ _
end Go.Proofs.YtppjennamodfdaaGreat

namespace Go.Proofs.YtppjennamodfdaaGreat
open Go Go.Hl
def X9l (f:Fl) (S:List St) (Rd:List (List Nat)) (W seen:List Nat) (m:List Int):Prop:=∀v,v∈m↔∃j∈seen,∃s,W[j]? =some s∧v∈ndA f S Rd s
def msN:List (Nat×List Nat):=[(511,[0,1,2]),(510,[1,2]),(509,[0,2]),(507,[0,1,3]),(508,[2]),(506,[1,3]),(505,[0,3]),(499,[0,1,4]),(504,[3]),(498,[1,4]),(497,[0,4]),(483,[0,1,5]),(496,[4]),(482,[1,5]),(481,[0,5]),(451,[0,1,6]),(480,[5]),(450,[1,6]),(449,[0,6]),(387,[0,1]),(448,[6]),(386,[1]),(385,[0,7]),(384,[7]),(257,[0]),(256,[8])]
def nxN (regs:List (Nat×RV)) (o0 o1:List (Nat×Ob)) (outs:List (Nat×Nat×RV)) (R:List Nat):HS:=
 {trS ⟨⟨78,none⟩,regs,[]⟩ outs R with objs:=if R.contains 8 then o0 else o1}
set_option maxHeartbeats 16000000 in
theorem XcP (f:Fl) (h:Sm f) (q:List Int) (hq:q.length≤100000) (d:Nat):Con Tryz.prog 20 false [aF f,.one (.c (.sl 1 (Xi q)))] (.tup [.one (.c (if Wk f [q]=0 then .sl 1 (Xi (neL f q))else .lit XU)),li (Wk f [q])]) none d:=by
 have ca:=ZV f h [q] (by simp) (fun q' hq'=>by rw[List.mem_singleton.1 hq'];omega);have cd:=X08 f _ _ _ (WP h);have hd0:X2G (flL f.body) (arL f.body (-1) 0) (rdT f)=Q3 f:=rfl;rw[hd0]at cd;have hok:=X44 h;have hDl:(Q3 f).length≤1000:=by rw[QL];exact(WP h).hn
 have hDS:=QL f;obtain⟨C,hC⟩:∃x,Wk f [q]=x:=⟨_,rfl⟩;have hask:=fun hz=>@X4j f [q] (hC.trans hz) q (by simp);have hz0:=fun hz=>(@X5i f [q] (hC.trans hz)).1;unfold askT at ca;simp only[X3O,List.map_cons,List.map_nil]at ca;rw[hC]at ca⊢;by_cases hz:C=0
 · subst hz;have hssC:=(Wz (hz0 rfl)).2.2.2.1;obtain⟨h0,hlt⟩:=hask rfl;have cc:=Z5 (Q3 f) (QT q) (by omega) hok (by simp only[QT,List.length_map];omega) hlt;have hN:=(WJ hok hlt).1;have hWl:=hN.len;have hWn:=hN.nd;have hWlt:=hN.lt;rw[←ZR h0]at cc;obtain⟨res,hres⟩:∃x,Xi (neL f q)=x:=⟨_,rfl⟩;have hT:=WP h
   have hfin:∀m:List Int,m.Nodup→X9l f (flL f.body) (rdT f) (ZJ (Q3 f) (QT q)) (List.range (ZJ (Q3 f) (QT q)).length) m→Xi (m.mergeSort fun x y=>decide (x≤y))=res:=by
    intro m h1 h2;rw[←hres,neL];refine congrArg Xi (X74 h1 (X5p _ List.nodup_nil) fun v=>?_);rw[h2,neA,X2a,List.mem_flatMap];constructor
    · rintro⟨j,_,s,h3,h4⟩;exact .inr ⟨s,List.mem_of_getElem? h3,h4⟩
    rintro(h3|⟨s,h3,h4⟩)
    · cases h3
    obtain⟨j,hj⟩:=List.mem_iff_getElem?.1 h3;exact⟨j,by simpa using(List.getElem?_eq_some_iff.1 hj).1,s,hj,h4⟩
   have hsh:=fun q hq=>X5R f.body true hssC q hq;have hrow:=XaY f;have hnv:=h.vars;have hno:=h.nodes;have csr:=X4u f (flL f.body) (arL f.body (-1) 0) (rdT f);have hTab:X5I f=ZG f (flL f.body) (arL f.body (-1) 0) (rdT f):=rfl;rw[hTab]at ca;rw[hres];obtain⟨W,hW⟩:∃x,ZJ (Q3 f) (QT q)=x:=⟨_,rfl⟩;obtain⟨D,hD⟩:∃x,Q3 f=x:=⟨_,rfl⟩;rw[hW]at cc hWl hWn hWlt hfin;rw[hD]at cc cd hWl hWlt hDS hDl;obtain⟨S,hS⟩:∃x,flL f.body=x:=⟨_,rfl⟩;obtain⟨A,hA⟩:∃x,arL f.body (-1) 0=x:=⟨_,rfl⟩;obtain⟨Rd,hRd⟩:∃x,rdT f=x:=⟨_,rfl⟩;rw[hS,hA,hRd]at ca cd csr hT;rw[hS,hRd]at hfin hrow;rw[hS]at hsh hDS;simp only[if_true]at ca⊢;obtain⟨hTn,hTa,hTr,hTnod,hTrd⟩:=hT;obtain⟨vars,hats,body⟩:=f;simp only at hsh hrow hnv hno;simp only[aF,Fl.enc,List.map_cons,List.map_nil]at ca⊢;simp only[ZG]at ca cd csr;clear hask hz0 hC h hres hssC h0 hlt hN hok hd0 hTab hW hD hS hA hRd;refine X5 Tryz.func20 ?_;simp only[Tryz.f20];refine X2 ?_;refine X0<|(QN 3 [] [⟨false,.tup [.one (.c (ZG ⟨vars,hats,body⟩ S A Rd)),li 0],none⟩] (by simp[*];rfl) trivial (XO 16 rfl) (by simp[*];first|exact⟨rfl,Iff.rfl⟩|exact⟨rfl,trivial⟩|rfl) ?_ ?_)
   · first|exact ca _|simpa using ca _
   refine X0<|X0<|X1 ?_;refine(Xc rfl (fun h3=>?_) fun h3=>?_)
   · exact absurd h3 (by simp)
   (try simp only[BN]at h3);refine X2 ?_;refine X0<|X0<|(Xm [⟨false,.v (.one (.c (.sl 1 (Qa D)))),none⟩,⟨false,.v (.one (.c (.mp (mpI W)))),none⟩] ?_ ?_)
   · first|exact⟨cd _,cc _⟩|exact trivial|(repeat' first|exact trivial|exact cd _|exact cc _|apply And.intro)
   refine X3<|(Xb [2,6,8,28] (fun(y:List Nat×List Int)=>[]) (fun y=>[(2,.box [.c (.sl 5 (Xr vars)),.c (.sl 6 (Xs hats)),.c (.sl 10 (X8 body))]),(8,.box [.own 900001]),(28,.it (mpI W) y.1),(900001,.mp (mpZ y.2))]) (fun y=>y.1.Nodup∧X04 y.1 W.length∧y.2.Nodup∧X9l ⟨vars,hats,body⟩ S Rd W y.1 y.2∧y.2.length≤6000*y.1.length) (fun y=>W.length - y.1.length) ([],[]) ⟨List.nodup_nil,by simp[X04],List.nodup_nil,by simp[X9l],Nat.le_refl _⟩ ?_ ?_)
   · exact X4 (fun n=>if n=900001 then 23 else n) []
   rintro⟨seen,m⟩ ⟨j1,j2,j3,j4,j5⟩;simp only[upS,X6,Xw]
   try simp only[X6,KN,Nat.reduceBEq,if_true,if_false,ins,Nat.reduceLT]
   simp only at j1 j2 j3 j4 j5;clear ca cc cd;refine X1v (fun j k v hj hn=>?_) (fun hall=>?_)
   skip
   · (try simp only[BN]at h10);obtain⟨s,hd,rfl,rfl⟩:=X51 hj;have hjl:j<W.length:=(List.getElem?_eq_some_iff.1 hd).1
     have hnd2:(seen++[j]).Nodup:=by
      rw[List.nodup_append];exact⟨j1,by simp,fun a ha b hb=>by rw[List.mem_singleton.1 hb];exact fun e=>hn (e▸ha)⟩
     have hin:X04 (seen++[j]) W.length:=fun i hi=>by
      rcases List.mem_append.1 hi with h|h
      · exact j2 i h
      rw[List.mem_singleton.1 h];exact hjl
     have hle:=QA hnd2 hin;simp only[List.length_append,List.length_singleton]at hle;have hsn:s<S.length:=by have:=hWlt s (List.mem_of_getElem? hd);omega
     obtain⟨q0,hq0,_⟩:=Xo hsn;obtain⟨l,hl0,_⟩:=Xo (show s<Rd.length by omega);have hmq:=List.mem_of_getElem? hq0;have hml:=List.mem_of_getElem? hl0;have hll:=hTrd l hml;have cs:=csr s q0 l hq0 hl0 (hTnod q0 hmq) hll.1 hll.2 (by omega);have hXl:=Nat.le_trans (srcF_len S q0 l) hll.1;have hXb:∀x∈X2t S q0 l,x<2000:=fun x hx=>by have:=(hrow l hml).2.1 x (List.mem_filter.1 hx).1;omega
     have hnx:∀m2,m2.Nodup→(∀v,v∈m2↔v∈m∨v∈ndA ⟨vars,hats,body⟩ S Rd s)→X9l ⟨vars,hats,body⟩ S Rd W (seen++[j]) m2:=by
      intro m2 _ h2 v;rw[h2,j4];constructor
      · rintro(⟨i,h3,s',h4,h5⟩|h3)
        · exact⟨i,List.mem_append_left _ h3,s',h4,h5⟩
        exact⟨j,by simp,s,hd,h3⟩
      rintro⟨i,h3,s',h4,h5⟩;rcases List.mem_append.1 h3 with h3|h3
      · exact .inl ⟨i,h3,s',h4,h5⟩
      rw[List.mem_singleton.1 h3,hd]at h4;cases h4;exact .inr h5
     have hnda:ndA ⟨vars,hats,body⟩ S Rd s=X3K S.length (X2t S q0 l)++(if q0.do_=5 then hatV hats q0.n.toNat else []):=by simp only[ndA,hq0,hl0]
     obtain⟨E,hE⟩:∃x,(if q0.do_=5 then hatV hats q0.n.toNat else [])=x:=⟨_,rfl⟩;rw[hnda,hE]at hnx;have hE5:q0.do_=5→E=hatV hats q0.n.toNat:=fun h=>by rw[←hE,if_pos h]
     have hE0:¬q0.do_=5→E=[]:=fun h=>by rw[←hE,if_neg h]
     have hhat:q0.do_=5→∃(i:Nat) (h:Ht),q0.n=i∧hats[i]? =some h:=by
      intro h5;obtain⟨last,hs⟩:=hsh q0 hmq;have h6:=sh_hat hs h5;obtain⟨h,hh,_⟩:=Xo (show q0.n.toNat<hats.length by omega);exact⟨q0.n.toNat,h,by omega,hh⟩
     obtain⟨X,hX⟩:∃x,X2t S q0 l=x:=⟨_,rfl⟩;rw[hX]at cs hXl hXb hnx;have he':=XX hq0;clear hjl hsn hq0 hl0 hmq hml hll hX hE hnda csr j4 hWlt hsh hrow hTrd hTnod hn hd;refine X3<|X0<|X1 ?_;refine X0<|X0<|(Xm [⟨false,.v (.one (.c (.sl 1 (XB X)))),none⟩] ?_ ?_)
     · first|exact cs _|exact trivial|simpa[*]using cs _
     refine X3<|(Xb [2,6,8,9,28,35,36] (fun(u:Nat×List Int)=>[(37,.v (li u.1))]) (fun u=>[(2,.box [.c (.sl 5 (Xr vars)),.c (.sl 6 (Xs hats)),.c (.sl 10 (X8 body))]),(8,.box [.own 900001]),(28,.it (mpI W) (seen++[j])),(900001,.mp (mpZ u.2))]) (fun u=>u.1≤X.length∧Zh (X3K S.length (X.drop u.1)) u.2=Zh (X3K S.length X) m) (fun u=>X.length - u.1) (0,m) ⟨Nat.zero_le _,by simp⟩ ?_ ?_)
     · exact X4 (fun n=>n) []
     rintro⟨k,m1⟩ ⟨hk,hJ⟩;simp only[upS,X6,Xw]
     try simp only[X6,KN,Nat.reduceBEq,if_true,if_false,ins,Nat.reduceLT]
     simp only at hk hJ;clear cs;refine X2 ?_;refine X0<|(X7 rfl (fun h15=>X9 ?_) (fun h15=>?_))
     · (try simp only[BN]at h15);have hlt:k<X.length:=by simpa using h15
       obtain⟨x,he,hd⟩:=Xo hlt;have hw1:=Xy hlt (by omega);have hk1:k+1≤X.length:=hlt;have hxe:(XB X)[k]? =some [iC x]:=by simp[XB,he]
       have hxb:=hXb x (List.mem_of_getElem? he);rw[hd,XbK]at hJ;clear hlt h15 he hd hXb;refine X0<|X3<|X0<|X1 ?_;refine X2 ?_;refine(Xc rfl (fun h18=>?_) fun h18=>?_)
       · (try simp only[BN]at h18);have hge:S.length≤x:=by simpa using h18
         rw[if_pos hge]at hJ;simp only[Zh]at hJ;obtain⟨v,hv⟩:∃v,(x:Int) - S.length=v:=⟨_,rfl⟩;have hw:IntKind.i64.wrap ((x:Int) - S.length)=v:=by rw[←hv];exact Xa (by omega) (by omega)
         rw[hv]at hJ;have hf:=X1A v m1;unfold X2u at hJ;clear h18 hge hxb;rcases Classical.em (v∈m1)with hin|hin
         · rw[if_pos hin]at hf hJ;have hs:=X56 v m1 hin;refine Xz (s':=⟨⟨78,none⟩,[(2,.v (.one (.at_ 2 0))),(6,.v (.one (.c (ZG ⟨vars,hats,body⟩ S A Rd)))),(8,.v (.one (.at_ 8 0))),(9,.v (li s)),(11,.v (li x)),(28,.v (.one (.at_ 28 0))),(35,.v (.one (.c (.sl 1 (XB X))))),(36,.v (li X.length)),(37,.v (li k))],[(2,.box [.c (.sl 5 (Xr vars)),.c (.sl 6 (Xs hats)),.c (.sl 10 (X8 body))]),(8,.box [.own 900001]),(28,.it (mpI W) (seen++[j])),(900001,.mp (mpZ m1))]⟩) (Xu (fun n=>n) [] rfl (by simp) (by simp) (by simp)) ?_;refine(QP (nxN [(2,.v (.one (.at_ 2 0))),(6,.v (.one (.c (ZG ⟨vars,hats,body⟩ S A Rd)))),(8,.v (.one (.at_ 8 0))),(9,.v (li s)),(11,.v (li x)),(28,.v (.one (.at_ 28 0))),(35,.v (.one (.c (.sl 1 (XB X))))),(36,.v (li X.length)),(37,.v (li k))] [(2,.box [.c (.sl 5 (Xr vars)),.c (.sl 6 (Xs hats)),.c (.sl 10 (X8 body))]),(8,.box [.own 900001]),(28,.it (mpI W) (seen++[j])),(900001,.mp (mpZ m1))] [(2,.box [.c (.sl 5 (Xr vars)),.c (.sl 6 (Xs hats)),.c (.sl 10 (X8 body))]),(8,.box [.own 900001]),(28,.it (mpI W) (seen++[j])),(900001,.mp (mpZ m1))] [(0,48,.v (.one (.own 900001))),(1,49,.v (li x)),(2,50,.v (.one (.c (ZG ⟨vars,hats,body⟩ S A Rd)))),(3,51,.v (.one (.c (ZG ⟨vars,hats,body⟩ S A Rd)))),(4,52,.v (.one (.c (.ptr [.sl 10 (X8 S),.sl 1 (Xi A),.sl 1 (Qa Rd)])))),(5,53,.v (.one (.c (.sl 10 (X8 S))))),(6,54,.v (li S.length)),(7,55,.v (li v))]) 9 511 msN rfl (by kernel_rfl) (by kernel_rfl) (by kernel_rfl) (by kernel_rfl) (by simp[nxN,trS]) ?_ ?_)
           · simp only[msN,ZY]
             repeat' apply And.intro
             all_goals(refine XQ.evE rfl ?_;simp[nxN,trS,ins,lkp,del,hw,hf,hs];done)
           refine Xz (s':=⟨⟨78,none⟩,[(2,.v (.one (.at_ 2 0))),(6,.v (.one (.c (ZG ⟨vars,hats,body⟩ S A Rd)))),(8,.v (.one (.at_ 8 0))),(9,.v (li s)),(11,.v (li x)),(28,.v (.one (.at_ 28 0))),(35,.v (.one (.c (.sl 1 (XB X))))),(36,.v (li X.length)),(37,.v (li k))],[(2,.box [.c (.sl 5 (Xr vars)),.c (.sl 6 (Xs hats)),.c (.sl 10 (X8 body))]),(8,.box [.own 900001]),(28,.it (mpI W) (seen++[j])),(900001,.mp (mpZ m1))]⟩) (Xu (fun n=>n) [] rfl (by simp[nxN,trS]) (by simp[nxN,trS]) (by simp)) ?_;refine X1 ?_;exact⟨(k+1,m1),⟨hk1,hJ⟩,by simp only;omega,X4 (fun n=>n) []⟩
         rw[if_neg hin]at hf hJ;have hs:=X6d m1 v;refine Xz (s':=⟨⟨78,none⟩,[(2,.v (.one (.at_ 2 0))),(6,.v (.one (.c (ZG ⟨vars,hats,body⟩ S A Rd)))),(8,.v (.one (.at_ 8 0))),(9,.v (li s)),(11,.v (li x)),(28,.v (.one (.at_ 28 0))),(35,.v (.one (.c (.sl 1 (XB X))))),(36,.v (li X.length)),(37,.v (li k))],[(2,.box [.c (.sl 5 (Xr vars)),.c (.sl 6 (Xs hats)),.c (.sl 10 (X8 body))]),(8,.box [.own 900001]),(28,.it (mpI W) (seen++[j])),(900001,.mp (mpZ m1))]⟩) (Xu (fun n=>n) [] rfl (by simp) (by simp) (by simp)) ?_;refine(QP (nxN [(2,.v (.one (.at_ 2 0))),(6,.v (.one (.c (ZG ⟨vars,hats,body⟩ S A Rd)))),(8,.v (.one (.at_ 8 0))),(9,.v (li s)),(11,.v (li x)),(28,.v (.one (.at_ 28 0))),(35,.v (.one (.c (.sl 1 (XB X))))),(36,.v (li X.length)),(37,.v (li k))] [(2,.box [.c (.sl 5 (Xr vars)),.c (.sl 6 (Xs hats)),.c (.sl 10 (X8 body))]),(8,.box [.own 900001]),(28,.it (mpI W) (seen++[j])),(900001,.mp (mpZ m1))] [(2,.box [.c (.sl 5 (Xr vars)),.c (.sl 6 (Xs hats)),.c (.sl 10 (X8 body))]),(8,.box [.own 900001]),(28,.it (mpI W) (seen++[j])),(900001,.mp (mpZ (m1++[v])))] [(0,48,.v (.one (.own 900001))),(1,49,.v (li x)),(2,50,.v (.one (.c (ZG ⟨vars,hats,body⟩ S A Rd)))),(3,51,.v (.one (.c (ZG ⟨vars,hats,body⟩ S A Rd)))),(4,52,.v (.one (.c (.ptr [.sl 10 (X8 S),.sl 1 (Xi A),.sl 1 (Qa Rd)])))),(5,53,.v (.one (.c (.sl 10 (X8 S))))),(6,54,.v (li S.length)),(7,55,.v (li v))]) 9 511 msN rfl (by kernel_rfl) (by kernel_rfl) (by kernel_rfl) (by kernel_rfl) (by simp[nxN,trS]) ?_ ?_)
         · simp only[msN,ZY]
           repeat' apply And.intro
           all_goals(refine XQ.evE rfl ?_;simp[nxN,trS,ins,lkp,del,hw,hf,hs];done)
         refine Xz (s':=⟨⟨78,none⟩,[(2,.v (.one (.at_ 2 0))),(6,.v (.one (.c (ZG ⟨vars,hats,body⟩ S A Rd)))),(8,.v (.one (.at_ 8 0))),(9,.v (li s)),(11,.v (li x)),(28,.v (.one (.at_ 28 0))),(35,.v (.one (.c (.sl 1 (XB X))))),(36,.v (li X.length)),(37,.v (li k))],[(2,.box [.c (.sl 5 (Xr vars)),.c (.sl 6 (Xs hats)),.c (.sl 10 (X8 body))]),(8,.box [.own 900001]),(28,.it (mpI W) (seen++[j])),(900001,.mp (mpZ (m1++[v])))]⟩) (Xu (fun n=>n) [] rfl (by simp[nxN,trS]) (by simp[nxN,trS]) (by simp)) ?_;refine X1 ?_;exact⟨(k+1,m1++[v]),⟨hk1,hJ⟩,by simp only;omega,X4 (fun n=>n) []⟩
       (try simp only[BN]at h18);have hge:¬S.length≤x:=by simpa using h18
       rw[if_neg hge]at hJ;clear h18 hge hxb;refine X1 ?_;exact⟨(k+1,m1),⟨hk1,hJ⟩,by simp only;omega,X4 (fun n=>n) []⟩
     try simp only[BN]at h15
     have hkl:k=X.length:=by
      have:¬k<X.length:=by simpa using h15
      omega
     subst hkl;simp only[List.drop_length,entL_nil,Zh]at hJ;clear h15;have hm1n:m1.Nodup:=by rw[hJ];exact X5p _ j3
     have hm1m:∀v,v∈m1↔v∈m∨v∈X3K S.length X:=fun v=>by rw[hJ];exact X2a _ _ _
     have hm1l:m1.length≤m.length+5000:=by
      rw[hJ];have:=X6B (X3K S.length X) m;have:=entL_len S.length X;omega
     clear hJ hXb;obtain⟨so,sc,sv,sn,⟨to,tn,tk⟩,sa,sb,sbs⟩:=q0;simp only[St.enc,Tm.enc,List.cons_append,List.nil_append]at he';simp only[St.do_,St.n]at hE5 hE0 hhat;refine(Xf ?_);refine X2 ?_;refine X2 ?_;refine(Xc rfl (fun h26=>?_) fun h26=>?_)
     · (try simp only[BN]at h26);have h5:so=5:=by simpa using h26
       obtain⟨i,hh,hsn,hhi⟩:=hhat h5;subst hsn;rw[hE5 h5,hatV,Int.toNat_natCast,hhi]at hnx;simp only at hnx;have hv:vrT hh.term m1=Zh (tmV hh.term) m1:=Xai hh.term m1;have hvn:(vrT hh.term m1).Nodup:=by rw[hv];exact X5p _ hm1n
       have hN:=hnx (vrT hh.term m1) hvn (fun v=>by rw[hv,X2a,hm1m,List.mem_append,or_assoc]);have hnh:=X0b (List.mem_of_getElem? hhi)
       have hvl:(vrT hh.term m1).length≤m1.length+1000:=by
        rw[hv];have:=X6B (tmV hh.term) m1;have:=Xbl hh.term;omega
       have cvv:=X2j put2_con hh.term (by omega) m1;obtain⟨M2,hM2⟩:∃x,vrT hh.term m1=x:=⟨_,rfl⟩;rw[hM2]at hvn hN hvl cvv;obtain⟨hnm,hlo,hhg,⟨uo,un,uk⟩⟩:=hh;have hhe:(Xs hats)[i]? =some [sC hnm,iC hlo,iC hhg,iC uo,iC un,.sl 3 (Xn uk)]:=by simp[hhi,Ht.enc,Tm.enc]
       simp only[aT,Tm.enc,List.map_cons,List.map_nil]at cvv;clear hv hM2 hnx hhat hE5 hE0 hhi h26 hnh;refine(XP ?_);refine RunsN.cutE 8 [] (by simp[hhe];rfl) trivial (le_refl _) ?_;refine RunsN.callA (fun n=>if n=1000000 then 8 else n) (fun n=>if n=1000000 then 8 else if n=900001 then 30 else n) cvv fun _ _=>?_;refine RunsN.doneE [] rfl trivial ?_;exact⟨(seen++[j],M2),⟨hnd2,hin,hvn,hN,by simp only[List.length_append,List.length_singleton];omega⟩,by simp only[List.length_append,List.length_singleton];omega,Xu (fun n=>if n=900001 then 30 else n) [] rfl (by simp[upS,X6,Qj,QQ,del,ins,CV.ren,Ob.ren]) (by simp[upS,Qj,QQ,del,ins,CV.ren,Ob.ren]) (by simp[upS])⟩
     (try simp only[BN]at h26);have h5:¬so=5:=by simpa using h26
     rw[hE0 h5]at hnx;have hN:=hnx m1 hm1n (fun v=>by rw[hm1m,List.append_nil]);clear hnx hhat hE5 hE0 h26;exact⟨(seen++[j],m1),⟨hnd2,hin,hm1n,hN,by simp only[List.length_append,List.length_singleton];omega⟩,by simp only[List.length_append,List.length_singleton];omega,X4 (fun n=>n) []⟩
   try simp only[BN]at h10
   have hneed:X9l ⟨vars,hats,body⟩ S Rd W (List.range W.length) m:=by
    intro v;rw[j4];constructor
    · rintro⟨j,hj,h⟩;exact⟨j,by simpa using j2 j hj,h⟩
    rintro⟨j,hj,h⟩;exact⟨j,hall j (by rw[X50];simpa using hj),h⟩
   have hsl:=QA j1 j2;have cs:=X4F m (by omega) j3;rw[hfin m j3 hneed]at cs;clear hfin hneed hall j2 j4 csr hrow hsh;refine(Xf ?_);refine Xz (XaZ 900001 rfl) ?_;refine Xh [⟨false,.v (.one (.c (.sl 1 res))),none⟩] ?_ ?_
   · first|exact cs _|exact trivial|simpa[*]using cs _
   exact Xe
 simp only[if_neg hz]at ca⊢;clear hask hok cd hz0 hDS;obtain⟨vars,hats,body⟩:=f;simp only[aF,Fl.enc,List.map_cons,List.map_nil]at ca⊢;refine X5 Tryz.func20 ?_;simp only[Tryz.f20];refine X2 ?_;refine X0<|(QN 3 [] [⟨false,.tup [.one (.c (.lit (.pointer none))),li C],none⟩] (by simp[*];rfl) trivial (XO 16 rfl) (by simp[*];first|exact⟨rfl,Iff.rfl⟩|exact⟨rfl,trivial⟩|rfl) ?_ ?_)
 · first|exact ca _|simpa using ca _
 refine X0<|X0<|X1 ?_;refine(Xc rfl (fun h3=>?_) fun h3=>?_)
 · (try simp only[BN]at h3);refine X2 ?_;exact Xe
 exact absurd h3 (by simp[hz])
end Go.Proofs.YtppjennamodfdaaGreat

namespace Go.Proofs.YtppjennamodfdaaGreat
open Go Go.Hl
def msF:List (Nat×List Nat):=[(255,[0,2]),(254,[1,2]),(251,[0,3]),(252,[2]),(250,[1,3]),(243,[0,4]),(248,[3]),(242,[1,4]),(227,[0]),(240,[4]),(226,[1]),(224,[5]),(192,[6]),(128,[7])]
def nxT (regs:List (Nat×RV)) (o4 o5 o7 o8:List (Nat×Ob)) (outs:List (Nat×Nat×RV)) (R:List Nat):HS:=
 {trS ⟨⟨27,none⟩,regs,[]⟩ outs R with objs:=if R.contains 4 then o4 else if R.contains 5 then o5 else if R.contains 7 then o7 else o8}
theorem X7d:∀a b:List Tm,Xn (a++b)=Xn a++Xn b
 |[],_=>rfl
 |t::a,b=>by simp only[List.cons_append,Xn,X7d a b]
theorem X6Q:∀a:List Tm,(Xn a).length=a.length
 |[]=>rfl
 |t::a=>by simp only[Xn,List.length_cons,X6Q a]
theorem Xcv {ks:List Tm} {k:Nat} {t:Tm} (h:ks[k]? =some t):Xn (ks.take (k+1))=Xn (ks.take k)++[t.enc]:=by
 rw[List.take_add_one,h,X7d];rfl
set_option maxHeartbeats 8000000 in
theorem X2g (t:Tm):t.nodes≤1000000→∀d,Con Tryz.prog 106 false [aT t] (.v (aT t)) none d:=by
 revert t
 refine Tm.ind ?_;intro o n ks ih hn d;simp only[Tm.nodes]at hn;have hlen:=W5 ks;simp only[aT,Tm.enc,List.map_cons,List.map_nil];refine X5 Tryz.func106 ?_;simp only[Tryz.f106];refine X2 ?_;refine X2 ?_;refine X0<|X0<|X1 ?_;refine X3<|(Xb [2,3,12,13] (fun(y:Nat)=>[(14,.v (li y))]) (fun y=>[(2,.box [.c (iC 0),.c (iC 0),.c (.lit XU)]),(3,.box [.c (iC o),.c (iC n),.own 1003]),(1003,.row 74 3 (Xn (ks.take y)))]) (fun y=>y≤ks.length) (fun y=>ks.length - y) (0:Nat) (Nat.zero_le _) ?_ ?_)
 · exact X4 (fun n=>n) [1003]
 rintro y hy;simp only[upS,X6,Xw]
 try simp only[X6,KN,Nat.reduceBEq,if_true,if_false,ins,Nat.reduceLT]
 refine X2 ?_;refine X0<|(X7 rfl (fun h5=>X9 ?_) (fun h5=>?_))
 · (try simp only[BN]at h5);have hlt:y<ks.length:=by simpa using h5
   obtain⟨t,he,hd⟩:=Xo hlt;have hw1:=Xy hlt (by omega);have hk1:y+1≤ks.length:=hlt;have hmem:t∈ks:=List.mem_of_getElem? he;have hnm:=X1G hmem;have ct:=ih t hmem (by omega);have he':=Wn he;have htk:=Xcv he;have hroom:Q9 (y+1) 40:=Xv (by omega) (by decide);have hml:min y ks.length=y:=by omega
   have hel:(Xn (ks.take y)).length=y:=by rw[X6Q,List.length_take];exact hml
   obtain⟨so,stn,sks⟩:=t;simp only[Tm.enc]at he' htk;simp only[aT,Tm.enc,List.map_cons,List.map_nil]at ct;clear hlt h5 ih hmem hnm he hd;refine X0<|X3<|X0<|X1 ?_;refine Xz (s':=⟨⟨27,none⟩,[(2,.v (.one (.at_ 2 0))),(3,.v (.one (.at_ 3 0))),(5,.v (.one (.at_ 5 0))),(12,.v (.one (.c (.sl 3 (Xn ks))))),(13,.v (li ks.length)),(14,.v (li y))],[(2,.box [.c (iC 0),.c (iC 0),.c (.lit XU)]),(3,.box [.c (iC o),.c (iC n),.own 1003]),(5,.box [.c (iC so),.c (iC stn),.c (.sl 3 (Xn sks))]),(1003,.row 74 3 (Xn (ks.take y)))]⟩) (Xu (fun n=>n) [] rfl (by simp) (by simp) (by simp)) ?_;refine(QP (nxT [(2,.v (.one (.at_ 2 0))),(3,.v (.one (.at_ 3 0))),(5,.v (.one (.at_ 5 0))),(12,.v (.one (.c (.sl 3 (Xn ks))))),(13,.v (li ks.length)),(14,.v (li y))] [(2,.box [.c (iC 0),.c (iC 0),.c (.lit XU)]),(3,.box [.c (iC o),.c (iC n),.own 1003]),(5,.box [.c (iC so),.c (iC stn),.c (.sl 3 (Xn sks))]),(1003,.row 74 3 (Xn (ks.take y)))] [(2,.box [.c (iC 0),.c (iC 0),.c (.lit XU)]),(3,.box [.c (iC o),.c (iC n),.own 1003]),(5,.box [.c (iC so),.c (iC stn),.c (.sl 3 (Xn sks))]),(22,.row 74 3 [[iC so,iC stn,.sl 3 (Xn sks)]]),(1003,.row 74 3 (Xn (ks.take y)))] [(2,.box [.c (iC 0),.c (iC 0),.c (.lit XU)]),(3,.box [.c (iC o),.c (iC n),.own 1003]),(5,.box [.c (iC so),.c (iC stn),.c (.sl 3 (Xn sks))]),(22,.row 74 3 [[iC so,iC stn,.sl 3 (Xn sks)]]),(23,.row 74 3 (Xn (ks.take (y+1))))] [(2,.box [.c (iC 0),.c (iC 0),.c (.lit XU)]),(3,.box [.c (iC o),.c (iC n),.own 23]),(5,.box [.c (iC so),.c (iC stn),.c (.sl 3 (Xn sks))]),(22,.row 74 3 [[iC so,iC stn,.sl 3 (Xn sks)]]),(23,.row 74 3 (Xn (ks.take (y+1))))] [(0,18,.v (.one (.at_ 3 2))),(1,19,.v (.one (.own 1003))),(2,20,.v (.agg [.c (iC so),.c (iC stn),.c (.sl 3 (Xn sks))])),(3,21,.v (.agg [.c (iC so),.c (iC stn),.c (.sl 3 (Xn sks))])),(4,22,.v (.one (.own 22))),(5,23,.v (.one (.own 23))),(6,24,.v (.one (.at_ 3 2)))]) 8 255 msF rfl (by kernel_rfl) (by kernel_rfl) (by kernel_rfl) (by kernel_rfl) (by simp[nxT,trS]) ?_ ?_)
   · simp only[msF,ZY]
     repeat' apply And.intro
     all_goals first
      |(refine XQ.evE rfl ?_;simp[nxT,trS,ins,lkp,del,XA,Qb,XN,cellsOf,Qc,W9,Zd,Wd,QU,WA,hroom,htk,hel,hml];done)
      |(refine XQ.ev [⟨false,.v (.agg [.c (iC so),.c (iC stn),.c (.sl 3 (Xn sks))]),none⟩] rfl (by simp[nxT,trS,ins,lkp,del];first|exact⟨rfl,Iff.rfl⟩|exact⟨rfl,trivial⟩|rfl) ?_ (by simp[nxT,trS,ins]);first|exact ct _|simpa using ct _)
      |trivial
   refine Xz (s':=⟨⟨27,none⟩,[(2,.v (.one (.at_ 2 0))),(3,.v (.one (.at_ 3 0))),(12,.v (.one (.c (.sl 3 (Xn ks))))),(13,.v (li ks.length)),(14,.v (li y))],[(2,.box [.c (iC 0),.c (iC 0),.c (.lit XU)]),(3,.box [.c (iC o),.c (iC n),.own 1003]),(1003,.row 74 3 (Xn (ks.take (y+1))))]⟩) (Xu (fun n=>if n=1003 then 23 else n) [] rfl (by simp[nxT,trS]) (by simp[nxT,trS]) (by simp)) ?_;refine X1 ?_;exact⟨y+1,hk1,by omega,X4 (fun n=>n) []⟩
 try simp only[BN]at h5
 have hyl:y=ks.length:=by
  have:¬y<ks.length:=by simpa using h5
  omega
 subst hyl;rw[List.take_length];clear h5;refine(Xf ?_);refine Xz (XO 1003 rfl) ?_;refine X2 ?_;exact Xe
end Go.Proofs.YtppjennamodfdaaGreat

namespace Go.Proofs.YtppjennamodfdaaGreat
open Go Go.Hl
def msGs:List (Nat×List Nat):=[(1023,[0,3]),(1022,[1,3]),(1015,[0,4]),(1020,[2,3]),(1014,[1,4]),(999,[0]),(1016,[3]),(1012,[2,4]),(998,[1]),(1008,[4]),(996,[2]),(992,[5,6]),(960,[6]),(928,[5]),(896,[7]),(768,[8]),(512,[9])]
def nxK (regs:List (Nat×RV)) (o:List (Nat×Ob)) (outs:List (Nat×Nat×RV)) (R:List Nat):HS:=
 {trS ⟨⟨34,none⟩,regs,[]⟩ outs R with objs:=o}
theorem X4d:∀a:List St,(X8 a).length=a.length:=fun a=>by rw[QZ,List.length_map]
theorem X73 {ks:List St} {k:Nat} {t:St} (h:ks[k]? =some t):X8 (ks.take (k+1))=X8 (ks.take k)++[t.enc]:=by
 rw[List.take_add_one,h,Qq];rfl
set_option maxHeartbeats 16000000 in
theorem X6g (l:List St):Xj l≤1000000→Wj l=true→∀d,Con Tryz.prog 105 false [lS l] (.v (lS l)) none d:=by
 revert l
 apply St.lists;intro l ih hn hb d;have hlen:=Q5 l;refine X5 Tryz.func105 ?_;simp only[Tryz.f105];refine X2 ?_;refine X2 ?_;refine X0<|X0<|X1 ?_;refine X3<|(Xb [6,7] (fun(y:Nat)=>[(3,.v (.one (.own 1003))),(8,.v (li y))]) (fun y=>[(1003,.row 76 10 (X8 (l.take y)))]) (fun y=>y≤l.length) (fun y=>l.length - y) (0:Nat) (Nat.zero_le _) ?_ ?_)
 · exact X4 (fun n=>n) [1003]
 rintro y hy;simp only[upS,X6,Xw]
 try simp only[X6,KN,Nat.reduceBEq,if_true,if_false,ins,Nat.reduceLT]
 refine X2 ?_;refine X0<|(X7 rfl (fun h5=>X9 ?_) (fun h5=>?_))
 · (try simp only[BN]at h5);have hlt:y<l.length:=by simpa using h5
   obtain⟨q,he,hd⟩:=Xo hlt;have hw1:=Xy hlt (by omega);have hk1:y+1≤l.length:=hlt;have hmem:q∈l:=List.mem_of_getElem? he;have hnm:=Qk hmem;have hbm:=X1Q hb hmem;obtain⟨iha,ihb⟩:=ih q hmem;have he':=XX he;have htk:=X73 he;have hroom:Q9 (y+1) 144:=Xv (by omega) (by decide);have hel:(X8 (l.take y)).length=y:=by rw[X4d,List.length_take];omega
   obtain⟨so,sc,sv,sn,⟨to,tn,tk⟩,sa,sb,sbs⟩:=q;simp only[St.then_,St.else_,St.term]at iha ihb hnm;simp only[X0G,Bool.and_eq_true,decide_eq_true_eq]at hbm;simp only[St.enc,Tm.enc,List.cons_append,List.nil_append]at he' htk;have ca:=iha (by omega) hbm.2.1;have cb:=ihb (by omega) hbm.2.2;have ci:=X6a sbs hbm.1;have ct:=X2g ⟨to,tn,tk⟩ (by omega);simp only[aT,Tm.enc,List.map_cons,List.map_nil]at ct;have hml:min y l.length=y:=by omega
   clear hlt h5 ih hmem hnm he hd iha ihb hbm;refine X0<|X3<|X0<|X1 ?_;refine Xz (s':=⟨⟨34,none⟩,[(3,.v (.one (.own 1003))),(5,.v (.one (.at_ 5 0))),(6,.v (lS l)),(7,.v (li l.length)),(8,.v (li y))],[(5,.box [.c (iC so),.c (iC sc),.c (iC sv),.c (iC sn),.c (iC to),.c (iC tn),.c (.sl 3 (Xn tk)),.c (.sl 10 (X8 sa)),.c (.sl 10 (X8 sb)),.c (.sl 1 (Xi sbs))]),(1003,.row 76 10 (X8 (l.take y)))]⟩) (Xu (fun n=>n) [] rfl (by simp) (by simp) (by simp)) ?_;refine X0<|(QP (nxK [(3,.v (.one (.own 1003))),(5,.v (.one (.at_ 5 0))),(6,.v (lS l)),(7,.v (li l.length)),(8,.v (li y))] [(5,.box [.c (iC so),.c (iC sc),.c (iC sv),.c (iC sn),.c (iC to),.c (iC tn),.c (.sl 3 (Xn tk)),.c (.sl 10 (X8 sa)),.c (.sl 10 (X8 sb)),.c (.sl 1 (Xi sbs))]),(1003,.row 76 10 (X8 (l.take y)))] [(0,12,.v (.one (.at_ 5 4))),(1,13,.v (.agg [.c (iC to),.c (iC tn),.c (.sl 3 (Xn tk))])),(2,14,.v (.agg [.c (iC to),.c (iC tn),.c (.sl 3 (Xn tk))])),(3,15,.v (.one (.at_ 5 9))),(4,16,.v (.one (.c (.sl 1 (Xi sbs))))),(5,17,.v (.one (.c (.sl 1 (Xi sbs))))),(6,18,.v (.one (.at_ 5 4))),(8,19,.v (.one (.at_ 5 9)))]) 10 1023 msGs rfl (by kernel_rfl) (by kernel_rfl) (by kernel_rfl) (by kernel_rfl) (by simp[nxK,trS]) ?_ ?_)
   · simp only[msGs,ZY]
     repeat' apply And.intro
     all_goals first
      |(refine XQ.evE rfl ?_;simp[nxK,trS,ins,lkp,del,XA,Qb,XN,cellsOf,Qc,W9,Zd,Wd,QU];done)
      |(refine XQ.ev [⟨false,.v (.agg [.c (iC to),.c (iC tn),.c (.sl 3 (Xn tk))]),none⟩] rfl (by simp[nxK,trS,ins,lkp,del];first|exact⟨rfl,Iff.rfl⟩|exact⟨rfl,trivial⟩|rfl) ?_ (by simp[nxK,trS,ins]);first|exact ct _|simpa using ct _)
      |(refine XQ.ev [⟨false,.v (.one (.c (.sl 1 (Xi sbs)))),none⟩] rfl (by simp[nxK,trS,ins,lkp,del];first|exact⟨rfl,Iff.rfl⟩|exact⟨rfl,trivial⟩|rfl) ?_ (by simp[nxK,trS,ins]);first|exact ci _|simpa using ci _)
      |trivial
   refine Xz (s':=⟨⟨34,none⟩,[(3,.v (.one (.own 1003))),(5,.v (.one (.at_ 5 0))),(6,.v (lS l)),(7,.v (li l.length)),(8,.v (li y))],[(5,.box [.c (iC so),.c (iC sc),.c (iC sv),.c (iC sn),.c (iC to),.c (iC tn),.c (.sl 3 (Xn tk)),.c (.sl 10 (X8 sa)),.c (.sl 10 (X8 sb)),.c (.sl 1 (Xi sbs))]),(1003,.row 76 10 (X8 (l.take y)))]⟩) (Xu (fun n=>n) [] rfl (by simp[nxK,trS]) (by simp[nxK,trS]) (by simp)) ?_;refine Xz (s':=⟨⟨34,none⟩,[(3,.v (.one (.own 1003))),(5,.v (.one (.at_ 5 0))),(6,.v (lS l)),(7,.v (li l.length)),(8,.v (li y))],[(5,.box [.c (iC so),.c (iC sc),.c (iC sv),.c (iC sn),.c (iC to),.c (iC tn),.c (.sl 3 (Xn tk)),.c (.sl 10 (X8 sa)),.c (.sl 10 (X8 sb)),.c (.sl 1 (Xi sbs))]),(1003,.row 76 10 (X8 (l.take y)))]⟩) (Xu (fun n=>n) [] rfl (by simp) (by simp) (by simp)) ?_;refine X0<|(QP (nxK [(3,.v (.one (.own 1003))),(5,.v (.one (.at_ 5 0))),(6,.v (lS l)),(7,.v (li l.length)),(8,.v (li y))] [(5,.box [.c (iC so),.c (iC sc),.c (iC sv),.c (iC sn),.c (iC to),.c (iC tn),.c (.sl 3 (Xn tk)),.c (.sl 10 (X8 sa)),.c (.sl 10 (X8 sb)),.c (.sl 1 (Xi sbs))]),(1003,.row 76 10 (X8 (l.take y)))] [(0,20,.v (.one (.at_ 5 7))),(1,21,.v (lS sa)),(2,22,.v (lS sa)),(3,23,.v (.one (.at_ 5 8))),(4,24,.v (lS sb)),(5,25,.v (lS sb)),(6,26,.v (.one (.at_ 5 7))),(8,27,.v (.one (.at_ 5 8)))]) 10 1023 msGs rfl (by kernel_rfl) (by kernel_rfl) (by kernel_rfl) (by kernel_rfl) (by simp[nxK,trS]) ?_ ?_)
   · simp only[msGs,ZY]
     repeat' apply And.intro
     all_goals first
      |(refine XQ.evE rfl ?_;simp[nxK,trS,ins,lkp,del,XA,Qb,XN,cellsOf,Qc,W9,Zd,Wd,QU];done)
      |(refine XQ.ev [⟨false,.v (lS sa),none⟩] rfl (by simp[nxK,trS,ins,lkp,del];first|exact⟨rfl,Iff.rfl⟩|exact⟨rfl,trivial⟩|rfl) ?_ (by simp[nxK,trS,ins]);first|exact ca _|simpa using ca _)
      |(refine XQ.ev [⟨false,.v (lS sb),none⟩] rfl (by simp[nxK,trS,ins,lkp,del];first|exact⟨rfl,Iff.rfl⟩|exact⟨rfl,trivial⟩|rfl) ?_ (by simp[nxK,trS,ins]);first|exact cb _|simpa using cb _)
      |trivial
   refine Xz (s':=⟨⟨34,none⟩,[(3,.v (.one (.own 1003))),(5,.v (.one (.at_ 5 0))),(6,.v (lS l)),(7,.v (li l.length)),(8,.v (li y))],[(5,.box [.c (iC so),.c (iC sc),.c (iC sv),.c (iC sn),.c (iC to),.c (iC tn),.c (.sl 3 (Xn tk)),.c (.sl 10 (X8 sa)),.c (.sl 10 (X8 sb)),.c (.sl 1 (Xi sbs))]),(1003,.row 76 10 (X8 (l.take y)))]⟩) (Xu (fun n=>n) [] rfl (by simp[nxK,trS]) (by simp[nxK,trS]) (by simp)) ?_;refine X1 ?_;refine X1 ?_;exact⟨y+1,hk1,by omega,X4 (fun n=>if n=1003 then 31 else n) []⟩
 try simp only[BN]at h5
 have hyl:y=l.length:=by
  have:¬y<l.length:=by simpa using h5
  omega
 subst hyl;rw[List.take_length];clear h5;refine(Xf ?_);refine Xz (XO 1003 rfl) ?_;refine X2 ?_;exact Xe
end Go.Proofs.YtppjennamodfdaaGreat

namespace Go.Proofs.YtppjennamodfdaaGreat
open Go Go.Hl
def msV:List (Nat×List Nat):=[(511,[0,3,7]),(510,[1,3,7]),(503,[0,4,7]),(383,[0,3]),(508,[2,3,7]),(502,[1,4,7]),(382,[1,3]),(487,[0,7]),(375,[0,4]),(504,[3,7]),(500,[2,4,7]),(380,[2,3]),(486,[1,7]),(374,[1,4]),(359,[0]),(496,[4,7]),(376,[3]),(484,[2,7]),(372,[2,4]),(358,[1]),(480,[5,7]),(368,[4]),(356,[2]),(448,[6,7]),(352,[5]),(384,[7]),(320,[6]),(256,[8])]
def nxV (regs:List (Nat×RV)) (o7 o8 o9:List (Nat×Ob)) (outs:List (Nat×Nat×RV)) (R:List Nat):HS:=
 {trS ⟨⟨32,none⟩,regs,[]⟩ outs R with objs:=if R.contains 7 then o7 else if R.contains 8 then o8 else o9}
theorem X6W (l:List Ht):Xs l=l.map Ht.enc:=rfl
theorem Xc8 (a:List Ht):(Xs a).length=a.length:=by rw[X6W,List.length_map]
theorem Xat {ks:List Ht} {k:Nat} {t:Ht} (h:ks[k]? =some t):Xs (ks.take (k+1))=Xs (ks.take k)++[t.enc]:=by
 rw[List.take_add_one,h];simp[X6W]
set_option maxHeartbeats 16000000 in
theorem Xc9 (f:Fl) (h:Sm f) (d:Nat):Con Tryz.prog 68 false [aF f] (.v (aF f)) none d:=by
 have hv:=h.vars;have hh:=h.hats;have hno:=h.nodes;have cv:=X62 f.vars (by omega);have cb:=X6g f.body (by omega) h.bnd;obtain⟨vars,hats,body⟩:=f;simp only at hv hh hno cv cb;simp only[aF,Fl.enc,List.map_cons,List.map_nil];clear h;refine X5 Tryz.func68 ?_;simp only[Tryz.f68];refine X2 ?_;refine Xz (s':=⟨⟨32,none⟩,[(1,.v (.one (.at_ 1 0))),(2,.v (.one (.at_ 2 0)))],[(1,.box [.c (.sl 5 (Xr vars)),.c (.sl 6 (Xs hats)),.c (.sl 10 (X8 body))]),(2,.box [.c (.lit XU),.c (.lit XU),.c (.lit XU)])]⟩) (Xu (fun n=>n) [] rfl (by simp) (by simp) (by simp)) ?_;refine X0<|(QP (nxV [(1,.v (.one (.at_ 1 0))),(2,.v (.one (.at_ 2 0)))] [(1,.box [.c (.sl 5 (Xr vars)),.c (.sl 6 (Xs hats)),.c (.sl 10 (X8 body))]),(2,.box [.c (.lit XU),.c (.lit XU),.c (.lit XU)])] [(1,.box [.c (.sl 5 (Xr vars)),.c (.sl 6 (Xs hats)),.c (.sl 10 (X8 body))]),(2,.box [.c (.lit XU),.c (.lit XU),.c (.lit XU)]),(3,.box [.c (.lit XU),.c (.lit XU),.c (.lit XU)])] [(1,.box [.c (.sl 5 (Xr vars)),.c (.sl 6 (Xs hats)),.c (.sl 10 (X8 body))]),(2,.box [.c (.lit XU),.c (.lit XU),.c (.lit XU)]),(3,.box [.c (.sl 5 (Xr vars)),.c (.lit XU),.c (.sl 10 (X8 body))])] [(0,6,.v (.one (.at_ 1 0))),(1,7,.v (lV vars)),(2,8,.v (lV vars)),(3,9,.v (.one (.at_ 1 2))),(4,10,.v (lS body)),(5,11,.v (lS body)),(6,12,.v (.agg [.c (.sl 5 (Xr vars)),.c (.lit XU),.c (.sl 10 (X8 body))])),(7,3,.v (.one (.at_ 3 0)))]) 9 511 msV rfl (by kernel_rfl) (by kernel_rfl) (by kernel_rfl) (by kernel_rfl) (by simp[nxV,trS]) ?_ ?_)
 · simp only[msV,ZY]
   repeat' apply And.intro
   all_goals first
    |(refine XQ.evE rfl ?_;simp[nxV,trS,ins,W8,lkp,del,XA,Qb,XN,cellsOf,Qc,W9,Zd,Wd,QU];done)
    |(refine XQ.ev [⟨false,.v (lV vars),none⟩] rfl (by simp[nxV,trS,ins,lkp,del];first|exact⟨rfl,Iff.rfl⟩|exact⟨rfl,trivial⟩|rfl) ?_ (by simp[nxV,trS,ins]);first|exact cv _|simpa using cv _)
    |(refine XQ.ev [⟨false,.v (lS body),none⟩] rfl (by simp[nxV,trS,ins,lkp,del];first|exact⟨rfl,Iff.rfl⟩|exact⟨rfl,trivial⟩|rfl) ?_ (by simp[nxV,trS,ins]);first|exact cb _|simpa using cb _)
    |trivial
 refine Xz (s':=⟨⟨32,none⟩,[(1,.v (.one (.at_ 1 0))),(2,.v (.one (.at_ 2 0))),(3,.v (.one (.at_ 3 0)))],[(1,.box [.c (.sl 5 (Xr vars)),.c (.sl 6 (Xs hats)),.c (.sl 10 (X8 body))]),(2,.box [.c (.lit XU),.c (.lit XU),.c (.lit XU)]),(3,.box [.c (.sl 5 (Xr vars)),.c (.lit XU),.c (.sl 10 (X8 body))])]⟩) (Xu (fun n=>n) [] rfl (by simp[nxV,trS]) (by simp[nxV,trS]) (by simp)) ?_;refine X0<|X0<|X1 ?_;refine X3<|(Xb [2,3,14,15] (fun(y:Nat)=>[(16,.v (li y))]) (fun y=>[(2,.box [.c (.lit XU),.c (.lit XU),.c (.lit XU)]),(3,.box [.c (.sl 5 (Xr vars)),.own 1003,.c (.sl 10 (X8 body))]),(1003,.row 99 6 (Xs (hats.take y)))]) (fun y=>y≤hats.length) (fun y=>hats.length - y) (0:Nat) (Nat.zero_le _) ?_ ?_)
 · exact X4 (fun n=>n) [1003]
 rintro y hy;simp only[upS,X6,Xw]
 try simp only[X6,KN,Nat.reduceBEq,if_true,if_false,ins,Nat.reduceLT]
 clear cv cb;refine X2 ?_;refine X0<|(X7 rfl (fun h5=>X9 ?_) (fun h5=>?_))
 · (try simp only[BN]at h5);have hlt:y<hats.length:=by simpa using h5
   obtain⟨q,he,hd⟩:=Xo hlt;have hw1:=Xy hlt (by omega);have hk1:y+1≤hats.length:=hlt;have hnm:=X0b (List.mem_of_getElem? he);have he':(Xs hats)[y]? =some q.enc:=by simp[he]
   have htk:=Xat he;have hroom:Q9 (y+1) 72:=Xv (by omega) (by decide);have hel:(Xs (hats.take y)).length=y:=by rw[Xc8,List.length_take];omega
   have hml:min y hats.length=y:=by omega
   obtain⟨nm,lo,hg,⟨to,tn,tk⟩⟩:=q;have ct:=X2g ⟨to,tn,tk⟩ (by simp only at hnm;omega);simp only[Ht.enc,Tm.enc,List.cons_append,List.nil_append]at he' htk;simp only[aT,Tm.enc,List.map_cons,List.map_nil]at ct;clear hlt h5 hnm he hd;refine X0<|X3<|X0<|X1 ?_;refine X0<|(QS [⟨false,.v (.agg [.c (iC to),.c (iC tn),.c (.sl 3 (Xn tk))]),none⟩] (by simp[*,XA,Qb,XN,cellsOf,Qc];first|exact⟨rfl,Iff.rfl⟩|exact⟨rfl,trivial⟩|rfl) ?_ ?_)
   · first|exact ct _|exact trivial|simpa[*,XA,Qb,XN,cellsOf,Qc]using ct _
   refine X1 ?_;refine X1 ?_;exact⟨y+1,hk1,by omega,X4 (fun n=>if n=1003 then 28 else n) []⟩
 try simp only[BN]at h5
 have hyl:y=hats.length:=by
  have:¬y<hats.length:=by simpa using h5
  omega
 subst hyl;rw[List.take_length];clear h5;refine(Xf ?_);refine Xz (XO 1003 rfl) ?_;refine X2 ?_;exact Xe
end Go.Proofs.YtppjennamodfdaaGreat

namespace Go.Proofs.YtppjennamodfdaaGreat
open Go Go.Hl
theorem X3Q (l:List St):Xj l≤1000000000→∀d:Nat,Con Tryz.prog 132 true [lS l] (.v (li (szL l))) none d:=by
 revert l
 apply St.lists;intro l ih hn d;have hlen:=Q5 l;have hsl:=Qu l;obtain⟨res,hres⟩:∃r,szL l=r:=⟨_,rfl⟩;rw[hres]at hsl⊢;refine X5 Tryz.func132 ?_;simp only[Tryz.f132];refine X2 ?_;refine X2 ?_;refine X0<|X0<|X1 ?_;refine X3<|(Xb [8,9] (fun(x:Nat×Nat)=>[(3,.v (li ((x.2:Nat):Int))),(10,.v (li x.1))]) (fun x=>[]) (fun x=>x.1≤l.length∧x.2+szL (l.drop x.1)=res+(l.drop x.1).length) (fun x=>l.length - x.1) (0,l.length) ⟨Nat.zero_le _,by simp only[List.drop_zero,hres];omega⟩ ?_ ?_)
 · exact X4 (fun n=>n) []
 rintro⟨k,m⟩ ⟨hk,hJ⟩;simp only[upS,X6,Xw]
 try simp only[X6,KN,Nat.reduceBEq,if_true,if_false,ins,Nat.reduceLT]
 simp only at hk hJ;refine X2 ?_;refine X0<|(X7 rfl (fun h5=>X9 ?_) (fun h5=>?_))
 · (try simp only[BN]at h5);have hlt:k<l.length:=by omega
   obtain⟨s,he,hd⟩:=Xo hlt;have hmem:s∈l:=List.mem_of_getElem? he;have hnm:=Qk hmem;have iha:=fun h=>(ih s hmem).1 h;have ihb:=fun h=>(ih s hmem).2 h;have hw1:=Xy hlt (by omega);have hk1:k+1≤l.length:=hlt;rw[hd]at hJ;have hrl:=X5b (l.drop (k+1));obtain⟨sd,sc,sv,sn,⟨so,stn,sks⟩,sa,sb,sbs⟩:=s;simp only[St.then_,St.else_,St.term]at iha ihb hnm;simp only[szL,szS,List.length_cons]at hJ;have ca:=iha (by omega);have cb:=ihb (by omega);have hla:=Qu sa;have hlb:=Qu sb;have he':=XX he;simp only[St.enc,Tm.enc,List.cons_append,List.nil_append]at he';generalize szL sa=na at*;generalize szL sb=nb at*;have hw2:IntKind.i64.wrap ((na:Int)+(nb:Int))=(na:Int)+(nb:Int):=Xa (by omega) (by omega);have hw3:IntKind.i64.wrap ((m:Int)+((na:Int)+(nb:Int)))=(m:Int)+((na:Int)+(nb:Int)):=Xa (by omega) (by omega);clear hlt h5 ih hmem iha ihb;refine X0<|X3<|X0<|X1 ?_;refine(Q7 [⟨true,.v (li (na:Int)),none⟩,⟨true,.v (li (nb:Int)),none⟩] (by kernel_rfl) (by kernel_rfl) (by rfl) (by simp[*];first|exact⟨rfl,Iff.rfl⟩|exact⟨rfl,trivial⟩|rfl) ?_ ?_)
   · first|exact⟨ca _,cb _⟩|exact trivial|(repeat' first|exact trivial|exact ca _|exact cb _|apply And.intro)
   refine X1 ?_;exact⟨(k+1,m+(na+nb)),⟨hk1,by simp only;omega⟩,by simp only;omega,X4 (fun n=>n) []⟩
 (try simp only[BN]at h5);have hkl:k=l.length:=by omega
 rw[hkl,List.drop_length]at hJ;simp only[szL,List.length_nil]at hJ;have hm:m=res:=by omega
 refine(Xf ?_);refine X2 ?_;exact Xe
theorem XbS (f:Fl) (hn:Xj f.body≤1000000000) (d:Nat):Con Tryz.prog 101 true [aF f] (.v (li (szL f.body))) none d:=by
 have cs:=X3Q f.body hn;obtain⟨vars,hats,body⟩:=f;simp only at cs⊢;obtain⟨n,hn⟩:∃x,szL body=x:=⟨_,rfl⟩;rw[hn]at cs⊢;clear hn;refine X5 Tryz.func101 ?_;simp only[Tryz.f101];simp only[aF,Fl.enc,List.map_cons,List.map_nil];refine X2 ?_;refine Xh [⟨true,.v (li (n:Int)),none⟩] ?_ ?_
 · first|exact cs _|exact trivial|simpa[*]using cs _
 exact Xe
theorem QO (l:List St):Xj l≤1000000000→∀d:Nat,Con Tryz.prog 26 true [lS l] (.v (li (szL l))) none d:=by
 revert l
 apply St.lists;intro l ih hn d;have hlen:=Q5 l;have hsl:=Qu l;obtain⟨res,hres⟩:∃r,szL l=r:=⟨_,rfl⟩;rw[hres]at hsl⊢;refine X5 Tryz.func26 ?_;simp only[Tryz.f26];refine X2 ?_;refine X2 ?_;refine X0<|X0<|X1 ?_;refine X3<|(Xb [0] (fun(x:Nat×Nat)=>[(3,.v (li ((x.2:Nat):Int))),(4,.v (li x.1))]) (fun x=>[]) (fun x=>x.1≤l.length∧x.2+szL (l.drop x.1)=res) (fun x=>l.length - x.1) (0,0) ⟨Nat.zero_le _,by simp[hres]⟩ ?_ ?_)
 · exact X4 (fun n=>n) []
 rintro⟨k,m⟩ ⟨hk,hJ⟩;simp only[upS,X6,Xw]
 try simp only[X6,KN,Nat.reduceBEq,if_true,if_false,ins,Nat.reduceLT]
 simp only at hk hJ;refine X0<|X0<|X1 ?_;refine(X7 rfl (fun h5=>X9 ?_) (fun h5=>?_))
 · (try simp only[BN]at h5);have hlt:k<l.length:=by omega
   obtain⟨s,he,hd⟩:=Xo hlt;have hmem:s∈l:=List.mem_of_getElem? he;have hnm:=Qk hmem;have iha:=fun h=>(ih s hmem).1 h;have ihb:=fun h=>(ih s hmem).2 h;have hw1:=Xy hlt (by omega);have hk1:k+1≤l.length:=hlt;rw[hd]at hJ;obtain⟨sd,sc,sv,sn,⟨so,stn,sks⟩,sa,sb,sbs⟩:=s;simp only[St.then_,St.else_,St.term]at iha ihb hnm;simp only[szL,szS]at hJ;have ca:=iha (by omega);have cb:=ihb (by omega);have he':=XX he;simp only[St.enc,Tm.enc,List.cons_append,List.nil_append]at he';generalize szL sa=na at*;generalize szL sb=nb at*;have hw2:IntKind.i64.wrap ((m:Int)+1)=(m:Int)+1:=Xa (by omega) (by omega);have hw3:IntKind.i64.wrap ((m:Int)+1+(na:Int))=(m:Int)+1+(na:Int):=Xa (by omega) (by omega);have hw4:IntKind.i64.wrap ((m:Int)+1+(na:Int)+(nb:Int))=(m:Int)+1+(na:Int)+(nb:Int):=Xa (by omega) (by omega);clear hlt h5 ih hmem iha ihb;refine X0<|X3<|(Q7 [⟨true,.v (li (na:Int)),none⟩,⟨true,.v (li (nb:Int)),none⟩] (by kernel_rfl) (by kernel_rfl) (by rfl) (by simp[*];first|exact⟨rfl,Iff.rfl⟩|exact⟨rfl,trivial⟩|rfl) ?_ ?_)
   · first|exact⟨ca _,cb _⟩|exact trivial|(repeat' first|exact trivial|exact ca _|exact cb _|apply And.intro)
   refine X1 ?_;exact⟨(k+1,m+1+na+nb),⟨hk1,by simp only;omega⟩,by simp only;omega,X4 (fun n=>n) []⟩
 (try simp only[BN]at h5);have hkl:k=l.length:=by omega
 rw[hkl,List.drop_length]at hJ;simp only[szL]at hJ;have hm:m=res:=by omega
 refine(Xf ?_);refine X2 ?_;exact Xe
end Go.Proofs.YtppjennamodfdaaGreat

namespace Go.Proofs.YtppjennamodfdaaGreat
open Go Go.Hl
theorem X6Z (t:Tm):t.nodes≤1000000→∀d:Nat,Con Tryz.prog 104 false [aT t] (.v (aT t)) none d:=by
 revert t
 refine Tm.ind ?_;intro o n ks ih hn d;simp only[Tm.nodes]at hn;have hlen:=W5 ks;refine X5 Tryz.func104 ?_;simp only[Tryz.f104];simp only[aT,Tm.enc,List.map_cons,List.map_nil];refine X2 ?_;refine X2 ?_;refine X0<|X0<|X1 ?_;refine X3<|(Xb [2,3,12,13] (fun(x:Nat)=>[(14,.v (li x))]) (fun x=>[(2,.box [.c (iC 0),.c (iC 0),.c (.lit XU)]),(3,.box [.c (iC o),.c (iC n),.own 900001]),(900001,.row 74 3 (Xn (ks.take x)))]) (fun x=>x≤ks.length) (fun x=>ks.length - x) (0:Nat) (Nat.zero_le _) ?_ ?_)
 · exact X4 (fun n=>n) [900001]
 rintro k hk;simp only[upS,X6,Xw]
 try simp only[X6,KN,Nat.reduceBEq,if_true,if_false,ins,Nat.reduceLT]
 refine X2 ?_;refine X0<|(X7 rfl (fun h5=>X9 ?_) (fun h5=>?_))
 · (try simp only[BN]at h5);have hlt:k<ks.length:=by omega
   obtain⟨t,he,hd⟩:=Xo hlt;have hw1:=Xy hlt (by omega);have hk1:k+1≤ks.length:=hlt;have hmem:t∈ks:=List.mem_of_getElem? he;have hnm:=X1G hmem;have ct:=ih t hmem (by omega);have htl:(ks.take k).length=k:=by rw[List.length_take];omega
   have hroom:Q9 (k+1) 40:=Xv (by omega) (by omega)
   have hsn:Xn (ks.take (k+1))=Xn (ks.take k)++[t.enc]:=by
    rw[X0H,X0H,List.take_add_one,he,Option.toList_some,List.map_append];rfl
   have he':=Wn he;obtain⟨so,stn,sks⟩:=t;simp only[Tm.enc]at he' hsn;simp only[aT,Tm.enc,List.map_cons,List.map_nil]at ct;clear hlt h5 ih hmem hnm he hd;refine X0<|X3<|X0<|X1 ?_;refine(Zu [(18,3),(24,3)] [⟨false,.v (.agg [.c (iC so),.c (iC stn),.c (.sl 3 (Xn sks))]),none⟩] (by kernel_rfl) (by kernel_rfl) (by rfl) (by simp[X3X,X2w,Qo, *];first|exact⟨rfl,Iff.rfl⟩|exact⟨rfl,trivial⟩|rfl) ?_ ?_)
   · first|exact ct _|exact trivial|simpa[*]using ct _
   refine X1 ?_;exact⟨k+1,hk1,by omega,X4 (fun n=>if n=900001 then 23 else n) []⟩
 (try simp only[BN]at h5);have hkl:k=ks.length:=by omega
 subst hkl;simp only[List.take_length];refine(Xf ?_);refine Xz (XO 900001 rfl) ?_;refine X2 ?_;exact XR ⟨.inr rfl,_,le_refl _,⟨⟨_,by simp;rfl,by simp[XK]⟩,by simp,fun h=>by cases h⟩⟩
end Go.Proofs.YtppjennamodfdaaGreat

namespace Go.Proofs.YtppjennamodfdaaGreat
open Go Go.Hl
theorem X91 (s:St) (hn:s.nodes≤1000000) (hb:X0G s=true) (ca:∀d:Nat,Con Tryz.prog 157 false [lS s.then_] (.v (lS s.then_)) none d) (cb:∀d:Nat,Con Tryz.prog 157 false [lS s.else_] (.v (lS s.else_)) none d) (d:Nat):
  Con Tryz.prog 133 false [aS s] (.v (aS s)) none d:=by
 have ct:=X6Z s.term;have cc:=X6a s.bounds;obtain⟨sd,sc,sv,sn,⟨so,stn,sks⟩,sa,sb,sbs⟩:=s;simp only[St.then_,St.else_,St.term,St.bounds]at ca cb ct cc;simp only[X0G,Bool.and_eq_true,decide_eq_true_eq]at hb;have cc:=cc hb.1;simp only[St.nodes]at hn;have ct:=ct (by omega);simp only[aT,Tm.enc,List.map_cons,List.map_nil]at ct;clear hn hb;refine X5 Tryz.func133 ?_;simp only[Tryz.f133];simp only[aS,St.enc,Tm.enc,List.map_cons,List.map_nil,List.cons_append,List.nil_append];refine X2 ?_;refine X0<|(Q7 [⟨false,.v (.agg [.c (iC so),.c (iC stn),.c (.sl 3 (Xn sks))]),none⟩,⟨false,.v (lS sa),none⟩,⟨false,.v (lS sb),none⟩,⟨false,.v (lI sbs),none⟩] (by kernel_rfl) (by kernel_rfl) (by rfl) (by simp[*,XA,Qb,XN];first|exact⟨rfl,Iff.rfl⟩|exact⟨rfl,trivial⟩|rfl) ?_ ?_)
 · first|exact⟨ct _,ca _,cb _,cc _⟩|exact trivial|(repeat' first|exact trivial|exact ct _|exact ca _|exact cb _|exact cc _|apply And.intro)
 exact XR ⟨.inr rfl,_,le_refl _,⟨⟨_,by simp;rfl,by simp[XK]⟩,by simp,fun h=>by cases h⟩⟩
theorem X5C (l:List St):Xj l≤1000000→Wj l=true→∀d:Nat,Con Tryz.prog 157 false [lS l] (.v (lS l)) none d:=by
 revert l
 apply St.lists;intro l ih hn hbn d;have hlen:=Q5 l;refine X5 Tryz.func157 ?_;simp only[Tryz.f157];refine X2 ?_;refine X2 ?_;refine X0<|X0<|X1 ?_;refine X3<|(Xb [6,7] (fun(x:Nat)=>[(3,.v (.one (.own 1003))),(8,.v (li x))]) (fun x=>[(1003,.row 76 10 (X8 (l.take x)))]) (fun x=>x≤l.length) (fun x=>l.length - x) (0:Nat) (Nat.zero_le _) ?_ ?_)
 · exact X4 (fun n=>n) [1003]
 rintro k hk;simp only[upS,X6,Xw]
 try simp only[X6,KN,Nat.reduceBEq,if_true,if_false,ins,Nat.reduceLT]
 refine X2 ?_;refine X0<|(X7 rfl (fun h5=>X9 ?_) (fun h5=>?_))
 · (try simp only[BN]at h5);have hlt:k<l.length:=by omega
   obtain⟨s,he,hd⟩:=Xo hlt;have hw1:=Xy hlt (by omega);have hk1:k+1≤l.length:=hlt;have hmem:s∈l:=List.mem_of_getElem? he;have hnm:=Qk hmem;have hbm:=X1Q hbn hmem
   have hsz:s.nodes≤1000000:=by
    obtain⟨sd,sc,sv,sn,t,sa,sb,sbs⟩:=s;simp only[St.then_,St.else_,St.term,St.nodes]at*;omega
   have hbab:Wj s.then_=true∧Wj s.else_=true:=by
    obtain⟨sd,sc,sv,sn,t,sa,sb,sbs⟩:=s;simp only[X0G,Bool.and_eq_true,decide_eq_true_eq]at hbm;exact hbm.2
   have cs:=X91 s hsz hbm ((ih s hmem).1 (by omega) hbab.1) ((ih s hmem).2 (by omega) hbab.2);have htl:(l.take k).length=k:=by rw[List.length_take];omega
   have hroom:Q9 (k+1) 144:=Xv (by omega) (by omega)
   have hsn:X8 (l.take (k+1))=X8 (l.take k)++[s.enc]:=by
    rw[QZ,QZ,List.take_add_one,he,Option.toList_some,List.map_append];rfl
   have he':=XX he;obtain⟨sd,sc,sv,sn,⟨so,stn,sks⟩,sa,sb,sbs⟩:=s;simp only[St.enc,Tm.enc,List.cons_append,List.nil_append]at he' hsn;simp only[aS,St.enc,Tm.enc,List.map_cons,List.map_nil,List.cons_append,List.nil_append]at cs;clear hlt h5 ih hmem hnm he hd hbm hsz hbab;refine X0<|X3<|X0<|X1 ?_;refine(Xm [⟨false,.v (aS (.mk sd sc sv sn (.mk so stn sks) sa sb sbs)),none⟩] ?_ ?_)
   · first|exact cs _|exact trivial|simpa[*]using cs _
   refine X1 ?_;exact⟨k+1,hk1,by omega,X4 (fun n=>if n=1003 then 16 else n) []⟩
 (try simp only[BN]at h5);have hkl:k=l.length:=by omega
 subst hkl;simp only[List.take_length];refine(Xf ?_);refine X2 ?_;exact XR ⟨.inr rfl,_,XO 1003 rfl,⟨⟨_,by simp;rfl,by simp[XK]⟩,by simp,fun h=>by cases h⟩⟩
theorem XcC (s:St) (hn:s.nodes≤1000000) (hb:X0G s=true) (d:Nat):Con Tryz.prog 133 false [aS s] (.v (aS s)) none d:=by
 have hx:Xj s.then_≤1000000∧Xj s.else_≤1000000∧Wj s.then_=true∧Wj s.else_=true:=by
  obtain⟨sd,sc,sv,sn,t,sa,sb,sbs⟩:=s;simp only[St.then_,St.else_,St.nodes,X0G,Bool.and_eq_true,decide_eq_true_eq]at*;exact⟨by omega,by omega,hb.2⟩
 exact X91 s hn hb (X5C _ hx.1 hx.2.2.1) (X5C _ hx.2.1 hx.2.2.2) d
mutual
def woS:St→Int→St
 | .mk d c v n t a b bs,i=>.mk d c v n t (woL a i) (woL b (i - szL a)) bs
def woL:List St→Int→List St
 |[],_=>[]
 |s::l,i=>(if i=0 then [] else [woS s (i - 1)])++woL l (i - szS s)
end
mutual
theorem woS_id:∀(s:St) (i:Int),i<0∨(szS s:Int) - 1≤i→woS s i=s
 | .mk d c v n t a b bs,i,h=>by
   simp only[szS]at h;simp only[woS];rw[ZI a i (by omega),ZI b _ (by omega)]
theorem ZI:∀(l:List St) (i:Int),i<0∨(szL l:Int)≤i→woL l i=l
 |[],i,h=>rfl
 | s::l,i,h=>by
   have hp:=X8b s;simp only[szL]at h;simp only[woL];rw[if_neg (by omega),woS_id s _ (by omega),ZI l _ (by omega)];rfl
end
mutual
theorem Xcb:∀(s:St) (i:Int),(woS s i).nodes≤s.nodes
 | .mk d c v n t a b bs,i=>by
   have:=X27 a i;have:=X27 b (i - szL a);simp only[woS,St.nodes];omega
theorem X27:∀(l:List St) (i:Int),Xj (woL l i)≤Xj l
 |[],i=>Nat.le_refl _
 | s::l,i=>by
   have:=Xcb s (i - 1);have:=X27 l (i - szS s);simp only[woL];split
   · simp only[List.nil_append,Xj];omega
   simp only[List.cons_append,List.nil_append,Xj];omega
end
mutual
theorem woS_bnd:∀(s:St) (i:Int),X0G s=true→X0G (woS s i)=true
 | .mk d c v n t a b bs,i,h=>by
   simp only[X0G,Bool.and_eq_true]at h;simp only[woS,X0G,Bool.and_eq_true];exact⟨h.1,X2U a _ h.2.1,X2U b _ h.2.2⟩
theorem X2U:∀(l:List St) (i:Int),Wj l=true→Wj (woL l i)=true
 |[],i,h=>rfl
 | s::l,i,h=>by
   simp only[Wj,Bool.and_eq_true]at h;simp only[woL];split
   · exact X2U l _ h.2
   simp only[List.cons_append,List.nil_append,Wj,Bool.and_eq_true];exact⟨woS_bnd s _ h.1,X2U l _ h.2⟩
end
mutual
def fndS:St→Int→Option St
 | .mk d c v n t a b bs,i=>if i=0 then some (.mk d c v n t a b bs)else
   match X1o a (i - 1)with
   |some x=>some x
   |none=>X1o b (i - 1 - szL a)
def X1o:List St→Int→Option St
 |[],_=>none
 | s::l,i=>match fndS s i with
   |some x=>some x
   |none=>X1o l (i - szS s)
end
theorem X3b (i:Int):X1o [] i=none:=by simp only[X1o]
theorem X0T (d c v n:Int) (t:Tm) (a b:List St) (bs:List Int) (l:List St) (i:Int):X1o (.mk d c v n t a b bs::l) i=
  if i=0 then some (.mk d c v n t a b bs)else
  match X1o a (i - 1)with
  |some x=>some x
  | none=>match X1o b (i - 1 - szL a)with
    |some x=>some x
    |none=>X1o l (i - 1 - szL a - szL b):=by
 have h:i - ((1+szL a+szL b:Nat):Int)=i - 1 - szL a - szL b:=by omega
 simp only[X1o,fndS,szS];rw[h];by_cases h0:i=0
 · simp only[h0,if_true]
 simp only[h0,if_false];cases X1o a (i - 1)with
 |some x=>rfl
 |none=>rfl
end Go.Proofs.YtppjennamodfdaaGreat
