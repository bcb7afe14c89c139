/- HmD: part of an evaluator of Go code over abstract states, proved sound over the model; used by the proof of the claimed statement. Conditions: none. -/
import Derived.Test.YtdajceakaakdoaaGreatHmE
import Derived.Laws.StructEq
set_option linter.unusedSimpArgs false
set_option linter.unusedVariables false
namespace Go.Hl
open Go Go.RowKit
def CV.men (d:Nat):CV→Prop
 | .own n=>n=d
 | .at_ n _=>n=d
 | .el n _ _ _=>n=d
 | .sub n _=>n=d
 | .el2 n _ _ _ _=>n=d
 | .fn _ caps=>∃p∈caps,p.1=d
 | .gd _ x=>x.men d
 |_=>False
def TV.men (d:Nat):TV→Prop
 | .one x=>x.men d
 | .agg xs=>∃x∈xs,x.men d
def RV.men (d:Nat):RV→Prop
 | .v t=>t.men d
 | .tup ts=>∃t∈ts,t.men d
def Ob.men (d:Nat):Ob→Prop
 | .box cs=>∃x∈cs,x.men d
 | .refs _ ns=>d∈ns
 |_=>False
def upd (γ:Nat→Value) (d:Nat) (x:Value):Nat→Value:=fun n=>if n=d then x else γ n
theorem Xo (γ:Nat→Value) (d:Nat) (x:Value):upd γ d x d=x:=by simp[upd]
theorem Xd {γ:Nat→Value} {d n:Nat} (x:Value) (h:n≠d):upd γ d x n=γ n:=by simp[upd,h]
section
variable {P:Program} {F:Nat→Prop} {γ:Nat→Value} {w w' w0:World} {B:Nat→Prop} {π:Nat→Option Value}
theorem Xn.upd {d:Nat} {y:Value} {x:CV} {v:Value} (hm:¬x.men d) (h:Xn F γ w x v):Xn F (upd γ d y) w x v:=by
 induction x with
 |gd b x ih=>exact⟨fun hb=>ih hm (h.1 hb),h.2⟩
 |any=>exact h
 |c d=>exact h
 |own n=>simp only[Xn]at*;rw[Xd _ hm];exact h
 |at_ n off=>simp only[Xn]at*;rw[Xd _ hm];exact h
 |el n s i off=>simp only[Xn]at*;rw[Xd _ hm];exact h
 |sub n i=>simp only[Xn]at*;rw[Xd _ hm];exact h
 |el2 n s i j off=>simp only[Xn]at*;rw[Xd _ hm];exact h
 | fn f caps=>
   obtain⟨vs,hv,hl,hc⟩:=h;refine⟨vs,hv,hl,fun j p u hp hu=>?_⟩;rw[Xd _ (fun e=>hm ⟨p,List.mem_of_getElem? hp,e⟩)];exact hc j p u hp hu
theorem Xk.upd {d:Nat} {y:Value} {xs:List CV} {vs:Array Value} (hm:¬ ∃x∈xs,x.men d) (h:Xk F γ w xs vs):Xk F (upd γ d y) w xs vs:=
 ⟨h.1,fun j x u hx hu=>(h.2 j x u hx hu).upd fun hd=>hm ⟨x,List.mem_of_getElem? hx,hd⟩⟩
theorem XD.upd {d:Nat} {y:Value} {x:TV} {v:Value} (hm:¬x.men d) (h:XD F γ w x v):XD F (upd γ d y) w x v:=by
 cases x with
 |one x=>exact Xn.upd hm h
 |agg xs=>obtain⟨vs,rfl,hc⟩:=h;exact⟨vs,rfl,hc.upd hm⟩
theorem X9.upd {d:Nat} {y:Value} {x:RV} {v:Value} (hm:¬x.men d) (h:X9 F γ w x v):X9 F (upd γ d y) w x v:=by
 cases x with
 |v t=>exact XD.upd hm h
 | tup ts=>
   obtain⟨vs,rfl,hs,hc⟩:=h;exact⟨vs,rfl,hs,fun j t u ht hu=>(hc j t u ht hu).upd fun hd=>hm ⟨t,List.mem_of_getElem? ht,hd⟩⟩
theorem XT.upd {d:Nat} {y x:Value} {o:Ob} (hm:¬o.men d) (h:XT F γ w B x o):XT F (upd γ d y) w B x o:=by
 cases o with
 |box cs=>obtain⟨b,e,vs,rfl,hb,hh,hc⟩:=h;exact⟨b,e,vs,rfl,hb,hh,hc.upd hm⟩
 |row e s rows=>exact h
 |mp l=>exact h
 |mat e e' s rows=>exact h
 | refs e ns=>
   obtain⟨b,rfl,hb,hh⟩:=h;refine⟨b,rfl,hb,?_⟩;rw[hh];congr 3;refine List.map_congr_left fun n hn=>?_;rw[Xd _ fun e=>hm (by simpa[Ob.men,←e]using hn)]
 |mps e ms=>exact h
 |it l seen=>exact h
theorem WX {b:Nat} {o:Obj} (hh:w.heap[b]? =some o):b<w.heap.size:=by
 rcases Nat.lt_or_ge b w.heap.size with h|h
 · exact h
 simp[Array.getElem?_eq_none h]at hh
theorem Qy.blk_lt {x:Value} {e:TypeId} {s n:Nat} {xs:List Value} (h:Qy w B e s x n xs) {b:Nat} (hb:blk x=some b):¬B b∧b<w.heap.size:=by
 rcases h.2 with⟨rfl,_⟩|⟨g,oo,cap,cur,rfl,hg,hh,Xj⟩
 · simp[blk]at hb
 simp only[blk,Option.some.injEq]at hb;subst hb;exact⟨hg,WX hh⟩
theorem Xr.own {x:Value} {e:TypeId} {s:Nat} {rows:List (List CD)} (h:Xr F w B e s x rows):∃xs,Qy w B e s x rows.length xs:=by
 obtain⟨_,_,xs,hown,_⟩:=h;exact⟨xs,hown⟩
theorem Xr.sl {x:Value} {e:TypeId} {s:Nat} {rows:List (List CD)} (h:Xr F w B e s x rows):∃a l c,x=.slice a l c:=by
 obtain⟨xs,hown⟩:=h.own;rcases hown.2 with⟨rfl,_⟩|⟨g,oo,cap,cur,rfl,_⟩<;>exact⟨_,_,_,rfl⟩
theorem Qy.sl {x:Value} {e:TypeId} {s n:Nat} {xs:List Value} (hown:Qy w B e s x n xs):∃a l c,x=.slice a l c:=by
 rcases hown.2 with⟨rfl,_⟩|⟨g,oo,cap,cur,rfl,_⟩<;>exact⟨_,_,_,rfl⟩
theorem W5 {x:Value} (h:∃a l c,x=.slice a l c) {b:Nat}:Blk x b↔blk x=some b:=by
 obtain⟨a,l,c,rfl⟩:=h;exact Iff.rfl
theorem Zc {x:Value} (h:∃a l c,x=.slice a l c):hd x=x:=by
 obtain⟨a,l,c,rfl⟩:=h;rfl
theorem XT.blk_lt {x:Value} {o:Ob} (h:XT F γ w B x o) {b:Nat} (hb:Blk x b):¬B b∧b<w.heap.size:=by
 cases o with
 | box cs=>
   obtain⟨g,e,vs,rfl,hg,hh,hc⟩:=h;cases hb;exact⟨hg,WX hh⟩
 | row e s rows=>
   obtain⟨xs,hown⟩:=Xr.own h;exact hown.blk_lt ((W5 (Xr.sl h)).1 hb)
 | mp l=>
   obtain⟨g,es,clock,rfl,hg,hh,_⟩:=h;cases hb;exact⟨hg,WX hh⟩
 | mat e e' s rows=>
   obtain⟨o,is,rfl,h0,hl,⟨xs,hown,hxs⟩,hin,h1,h2⟩:=h;obtain⟨v,hv,hvb⟩:=hb;simp only[List.mem_cons]at hv;rcases hv with rfl|hv
   · exact hown.blk_lt hvb
   obtain⟨i,hi⟩:=List.mem_iff_getElem?.1 hv;have hil:i<rows.length:=by rw[←hl];exact(List.getElem?_eq_some_iff.1 hi).1
   have:=hin i v rows[i] hi (by simp[hil]);cases hr:rows[i] with
   |none=>rw[hr]at this;rw[show v=undef from this]at hvb;cases hvb
   | some rr=>
     rw[hr]at this;obtain⟨xs,hown⟩:=Xr.own (show Xr F w B e' s v rr from this);exact hown.blk_lt hvb
 | refs e ns=>
   obtain⟨g,rfl,hg,hh⟩:=h;cases hb;exact⟨hg,WX hh⟩
 | mps e ms=>
   obtain⟨o,is,rfl,hl,⟨xs,hown,hxs⟩,hin,h1,h2⟩:=h;obtain⟨v,hv,hvb⟩:=hb;simp only[List.mem_cons]at hv;rcases hv with rfl|hv
   · exact hown.blk_lt hvb
   obtain⟨i,hi⟩:=List.mem_iff_getElem?.1 hv;have hil:i<ms.length:=by rw[←hl];exact(List.getElem?_eq_some_iff.1 hi).1
   have:=hin i v ms[i] hi (by simp[hil]);cases hr:ms[i] with
   |none=>rw[hr]at this;rw[show v=undef from this]at hvb;cases hvb
   | some rr=>
     rw[hr]at this;obtain⟨g,es,clock,rfl,hg,hh,_⟩:=(show X1h F w B v rr from this);cases hvb;exact⟨hg,WX hh⟩
 | it l seen=>
   obtain⟨g,rfl,hg,hh⟩:=h;cases hb;rcases hh with⟨_,hh⟩|⟨_,_,_,_,hh,_⟩
   · exact⟨hg,WX hh⟩
   exact⟨hg,WX hh⟩
theorem HeapRel.made {objs:List (Nat×Ob)} (h:HeapRel w0 B π F γ objs w) {d:Nat} {x:Value} {ob:Ob}
  (hd:∀n o,lkp objs n=some o→n≠d∧¬o.men d) (hb:Kept B w0 w') (hsz:w.heap.size≤w'.heap.size)
  (hkeep:∀b,b<w.heap.size→w'.heap[b]? =w.heap[b]?) (hx:∀b,Blk x b→w.heap.size≤b) (hd6:d<1000000)
  (hob:XT F (upd γ d x) w' B x ob):HeapRel w0 B π F (upd γ d x) (ins d ob objs) w' where
 below:=hb
 hB:=fun b hb=>Nat.lt_of_lt_of_le (h.hB b hb) hsz
 fsz b hF:=Nat.lt_of_lt_of_le (h.fsz b hF) hsz
 ob n o ho:=by
  rw[XL]at ho;split at ho
  · rename_i hn;cases ho;subst hn;rw[Xo];exact hob
  rename_i hn;rw[Xd _ hn];have h1:=h.ob n o ho;exact(h1.mono (fun _ h=>h) (fun b hF=>hkeep b (h.fsz b hF)) (fun b hbk=>hkeep b (h1.blk_lt hbk).2)).upd (hd n o ho).2
 apart n o ho b hbk hF:=by
  rw[XL]at ho;split at ho
  · rename_i hn;rw[hn,Xo]at hbk;have:=hx b hbk;have:=h.fsz b hF;omega
  rename_i hn;rw[Xd _ hn]at hbk;exact h.apart n o ho b hbk hF
 sep n m on om hn hm hne b hbn hbm:=by
  rw[XL]at hn hm;split at hn
  · rename_i en;rw[en,Xo]at hbn;split at hm
    · rename_i em;exact hne (en.trans em.symm)
    rename_i em;rw[Xd _ em]at hbm;have h1:=(h.ob m om hm).blk_lt hbm;have h2:=hx b hbn;omega
  rename_i en;rw[Xd _ en]at hbn;split at hm
  · rename_i em;rw[em,Xo]at hbm;have h1:=(h.ob n on hn).blk_lt hbn;have h2:=hx b hbm;omega
  rename_i em;rw[Xd _ em]at hbm;exact h.sep n m on om hn hm hne b hbn hbm
 pin n v hv:=by
  obtain⟨h1,h2⟩:=h.pin n v hv;exact⟨h1,by rw[Xd _ (by omega)];exact h2⟩
theorem HeapRel.drew {objs:List (Nat×Ob)} (h:HeapRel w0 B π F γ objs w):HeapRel w0 B π F γ objs w.drew where
 below:=h.below.drew
 hB:=h.hB
 fsz:=h.fsz
 ob n o ho:=(h.ob n o ho).mono (w:=w) (w':=w.drew) (fun _ h=>h) (fun _ _=>rfl) (fun _ _=>rfl)
 apart:=h.apart
 sep:=h.sep
 pin:=h.pin
theorem QW (b o k:Nat):(⟨b,o,none⟩:Addr).add k=⟨b,o+k,none⟩:=by
 unfold Addr.add;split
 · rename_i h;simp[h]
 rfl
theorem QV {s:TypeId} {f:Nat} {fs:Array Field} {fd:Field} {i:TypeInfo} (hu:P.underlying s=some (.struct fs)) (hfd:fs[f]? =some fd)
  (hi:P.info? fd.type=some i) (hne:¬i.size=0) (b o:Nat):(Instr.fieldAt s (.pointer (some ⟨b,o,none⟩)) f).run P w=.ok (.pointer (some ⟨b,o+fd.offset,none⟩)) w:=by
 have hlt:f<fs.size:=by
  rcases Nat.lt_or_ge f fs.size with h|h
  · exact h
  simp[Array.getElem?_eq_none h]at hfd
 have hfd':fs[f]=fd:=by simpa[hlt]using hfd
 simp[Instr.fieldAt,run_underlying hu,hlt,hfd',Instr.sureAddr,fieldPlace,XA hi,hne,QW]
theorem X8q {a b:ByteArray}:a.toList=b.toList↔a=b:=by
 rw[ByteArray.toList_eq,ByteArray.toList_eq];refine⟨fun h=>?_,fun h=>by rw[h]⟩;obtain⟨⟨a⟩⟩:=a;obtain⟨⟨b⟩⟩:=b;simp only at h;rw[h]
theorem X2d {t:TypeId} (h:strT P t=true):P.underlying t=some .string:=by
 unfold strT at h;split at h
 · assumption
 cases h
theorem Xc3 {t:TypeId} (h:Q1 P t=true):∃e,P.underlying t=some (.pointer e):=by
 unfold Q1 at h;split at h
 · rename_i e he;exact⟨e,he⟩
 cases h
theorem Xb9 {t e:TypeId} (hu:P.underlying t=some (.pointer e)):(∀b,(Op.equal t (.pointer none) (.pointer b)).run P w=.ok b.isNone w)∧∀a,(Op.equal t (.pointer a) (.pointer none)).run P w=.ok a.isNone w:=by
 refine⟨fun b=>?_,fun a=>?_⟩
 · show(Op.equalIn (9999+1) t (.pointer none) (.pointer b)).run P w=_;generalize 9999=n;unfold Op.equalIn;simp[run_underlying hu]
 show(Op.equalIn (9999+1) t (.pointer a) (.pointer none)).run P w=_;generalize 9999=n;unfold Op.equalIn;cases a<;>simp[run_underlying hu]
theorem X05 {r:RV} {v:Value} (hp:X1I r=true) (h:X9 F γ w r v):∃a,v=.pointer (some a):=by
 unfold X1I at hp;split at hp
 · obtain⟨b,_,rfl⟩:=h;exact⟨_,rfl⟩
 · obtain⟨b,_,_,_,_,rfl⟩:=h;exact⟨_,rfl⟩
 · obtain⟨_,b,_,_,_,_,_,rfl⟩:=h;exact⟨_,rfl⟩
 · rename_i cs;obtain⟨b,o,cells,rfl,_⟩:=CRel.ptr_inv (show CRel F w (.ptr cs) v from h);exact⟨_,rfl⟩
 cases hp
theorem X3x {g:Operand→RV} {ρ:Operand→Value} (hg:∀x,X9 F γ w (g x) (ρ x)):∀(l:List Operand) (cs:List (Nat×Nat)),X0r g l=some cs→
  l.length=cs.length∧∀(j:Nat) (p:Nat×Nat) x,cs[j]? =some p→l[j]? =some x→∃b,γ p.1=.pointer (some ⟨b,0,none⟩)∧ρ x=.pointer (some ⟨b,p.2,none⟩)
 |[],cs,h=>by cases h;simp
 | x ::l,cs,h=>by
   unfold X0r at h;split at h
   · rename_i n off r hx hr;cases h;obtain⟨h1,h2⟩:=X3x hg l r hr;refine⟨by simp[h1],fun j p y hp hy=>?_⟩;cases j with
     | zero=>
       cases hp;cases hy;have:=hg x;rw[hx]at this;exact this
     |succ j=>exact h2 j p y hp hy
   cases h
theorem XbR {t:TypeId} {n:Nat} {k:IntKind} (h:arrI P t=some (n,k)):∃e i,P.underlying t=some (.array n e)∧P.underlying e=some (.int k)∧P.info? e=some i∧i.size=1∧P.eqGuardType P.depth t=false:=by
 unfold arrI at h;split at h
 · rename_i n' e hu;split at h
   · rename_i k' i hk hi;split at h
     · rename_i hc;cases h;exact⟨e,i,hu,hk,hi,hc.1,hc.2⟩
     cases h
   cases h
 cases h
theorem X1U {k:IntKind}:∀(xs:List CV) (as0:List Int) (vs:Array Value),X6A k xs=some as0→Xk F γ w xs vs→vs=(as0.map fun a=>Value.int k a).toArray
 | [],as0,vs,h,hc=>by
   cases h;have:vs.size=0:=hc.1;exact Array.eq_empty_of_size_eq_zero this
 | x :: l, as0,vs,h,hc=>by
   unfold X6A at h;split at h
   · rename_i e;cases e
   · rename_i k' a l' e;cases e;split at h
     · rename_i hk;subst hk;simp only[Option.map_eq_some_iff]at h;obtain⟨as0',h',rfl⟩:=h
       have h0:vs[0]? =some (.int k' a):=by
        have hlt:0<vs.size:=by rw[hc.1];simp
        have:=hc.2 0 _ vs[0] rfl (by simp[hlt]);have e:vs[0]=.int k' a:=X9.lit_eq (γ:=γ) (w:=w) (F:=F) (r:=lit (.int k' a)) rfl this;simp[hlt,e]
       have ih:=X1U l as0' (vs.extract 1 vs.size) h' ⟨by simp[hc.1],fun j x u hx hu=>by
        rw[Array.getElem?_extract]at hu;split at hu
        · exact hc.2 (1+j) x u (by rw[Nat.add_comm];simpa using hx) hu
        cases hu⟩
       apply Array.ext'
       have e2:vs.toList=.int k' a::(vs.extract 1 vs.size).toList:=by
        cases hv:vs.toList with
        |nil=>have:=hc.1;rw[←Array.length_toList,hv]at this;simp at this
        | cons v tl=>
          have:v=.int k' a:=by
           have:=h0;rw[←Array.getElem?_toList,hv]at this;simpa using this
          rw[Array.toList_extract,List.extract_eq_take_drop,hv,this,List.drop_one,List.tail_cons,List.take_of_length_le];have:vs.size=tl.length+1:=by rw[←Array.length_toList,hv];simp
          omega
       rw[e2,ih];simp
     cases h
   cases h
theorem X4o:∀(xs ys:List Int),xs.length=ys.length→((List.range xs.length).all fun i=>decide (xs.getD i 0=ys.getD i 0))=decide (xs=ys)
 |[],[],_=>by simp
 | x::xs,y::ys,h=>by
   have ih:=X4o xs ys (by simpa using h);rw[List.length_cons,List.range_succ_eq_map,List.all_cons,List.all_map];simp only[List.getD_cons_zero,Function.comp_def,List.getD_cons_succ,ih];by_cases h1:x=y<;>by_cases h2:xs=ys<;>simp[h1,h2]
 |[],_::_,h=>by simp at h
 |_::_,[],h=>by simp at h
theorem X9E {t e:TypeId} {n:Nat} {k:IntKind} {i:TypeInfo} (ht:P.underlying t=some (.array n e)) (he:P.underlying e=some (.int k)) (hi:P.info? e=some i) (hs:i.size=1) (xs ys:List Int) (hx:xs.length=n) (hy:ys.length=n):
  (Op.equal t (.agg (xs.map fun a=>Value.int k a).toArray) (.agg (ys.map fun a=>Value.int k a).toArray)).run P w=.ok (decide (xs=ys)) w:=by
 show(Op.equalIn (9998+2) t _ _).run P w=_;generalize 9998=d;rw[←X4o xs ys (hx.trans hy.symm),hx,List.range_eq_range',Op.equalIn];simp only[Sem.run_bind,run_underlying ht,Result.andThen_ok,XA hi,hs,Std.Legacy.Range.forIn_eq_forIn_range',Std.Legacy.Range.size,Nat.sub_zero,Nat.add_sub_cancel,Nat.div_one];have hl:∀i∈List.range' 0 n 1,i<n:=fun i hi=>by simpa using(List.mem_range'_1.1 hi).2
 generalize List.range' 0 n 1=l at hl⊢
 induction l with
 |nil=>simp
 | cons i l ih=>
   have hi:i<n:=hl i (by simp)
   have px:(part e (xs.map fun a=>Value.int k a).toArray (i*1)).run P w=.ok (.int k (xs.getD i 0)) w:=by
    simp[part,isAgg,run_underlying he,List.getD,List.getElem?_eq_getElem (show i<xs.length by omega)]
   have py:(part e (ys.map fun a=>Value.int k a).toArray (i*1)).run P w=.ok (.int k (ys.getD i 0)) w:=by
    simp[part,isAgg,run_underlying he,List.getD,List.getElem?_eq_getElem (show i<ys.length by omega)]
   have pe:(Op.equalIn (d+1) e (.int k (xs.getD i 0)) (.int k (ys.getD i 0))).run P w=.ok (decide (xs.getD i 0=ys.getD i 0)) w:=by
    unfold Op.equalIn;simp only[Sem.run_bind,run_underlying he,Result.andThen_ok,if_true,Sem.run_pure];congr 1
   simp only[List.forIn_cons,Sem.run_bind,px,py,pe,Result.andThen_ok,List.all_cons];cases hb:decide (xs.getD i 0=ys.getD i 0)
   · simp
   simp only[Bool.not_true,Bool.false_eq_true,if_false,Sem.run_pure,Result.andThen_ok,Bool.true_and];exact ih fun j hj=>hl j (by simp[hj])
theorem X0J {t:TypeId} {cs:Array Value} {i:Nat} {v:Value} (h:(∃k,P.underlying t=some (.int k))∨P.underlying t=some .string) (hv:cs[i]? =some v):(part t cs i).run P w=.ok v w:=by
 rcases h with⟨k,h⟩|h<;>simp[part,isAgg,run_underlying h,hv]
theorem X2y:∀(ks:List Bool) (xs ys:List CV) (q:Bool) (fs:List Field) (i:Nat) (va vb:Array Value),Zt P fs i=some ks→eqFs ks xs ys=some q→va.size=i+xs.length→vb.size=i+ys.length→
  (∀j x u,xs[j]? =some x→va[i+j]? =some u→Xn F γ w x u)→(∀j x u,ys[j]? =some x→vb[i+j]? =some u→Xn F γ w x u)→(Op.eqFields (9998+1) va vb fs).run P w=.ok q w
 | ks,xs,ys,q,[],i,va,vb,hf,hq,_,_,_,_=>by
   cases hf;unfold eqFs at hq;split at hq<;>first|cases hq;rfl|simp_all
 | ks, xs, ys,q,f::fs,i,va,vb,hf,hq,ha,hb,hca,hcb=>by
   unfold Zt at hf;split at hf
   · rename_i a b hk hks;cases hf;unfold fkind at hk;split at hk
     · rename_i hn;have lit0:∀{v u:Value},Xn F γ w (.c (.lit v)) u→u=v:=fun {v u} h=>X9.lit_eq (γ:=γ) (w:=w) (F:=F) (r:=lit v) rfl h
       have Xj:∀(x y:CV) (l m:List CV) (q':Bool),xs=x::l→ys=y::m→eqFs b l m=some q'→(Op.eqFields (9998+1) va vb fs).run P w=.ok q' w:=by
        intro x y l m q' hx hy hq';subst hx hy
        exact X2y b l m q' fs (i+1) va vb hks hq' (by rw[ha,List.length_cons];omega) (by rw[hb,List.length_cons];omega)
         (fun j x u h1 h2=>hca (j+1) x u (by simpa using h1) (by rw[←h2];congr 1;omega)) (fun j x u h1 h2=>hcb (j+1) x u (by simpa using h1) (by rw[←h2];congr 1;omega))
       have cell:∀(v1 v2:Value) (l m:List CV),xs=.c (.lit v1)::l→ys=.c (.lit v2)::m→va[i]? =some v1∧vb[i]? =some v2:=by
        intro v1 v2 l m hx hy;subst hx hy;have h1:i<va.size:=by rw[ha,List.length_cons];omega
        have h2:i<vb.size:=by rw[hb,List.length_cons];omega
        have e1:=lit0 (hca 0 _ va[i] rfl (by simp[h1]));have e2:=lit0 (hcb 0 _ vb[i] rfl (by simp[h2]));exact⟨by simp[h1,e1],by simp[h2,e2]⟩
       unfold eqFs at hq;split at hq
       · cases hks0:b<;>simp_all
       · rename_i ks' k1 a1 l k2 b1 m hkk;simp only[List.cons.injEq]at hkk;obtain⟨rfl,rfl⟩:=hkk;split at hq
         · rename_i hke;subst hke;simp only[Option.map_eq_some_iff]at hq;obtain⟨q',hq',rfl⟩:=hq;have hr:=Xj _ _ _ _ q' rfl rfl hq';obtain⟨c1,c2⟩:=cell _ _ _ _ rfl rfl
           have hty:∃k,P.underlying f.type=some (.int k):=by
            split at hk
            · exact⟨_,by assumption⟩
            · cases hk
            cases hk
           obtain⟨k,hty⟩:=hty;have h1:=X0J (P:=P) (w:=w) (.inl ⟨k,hty⟩) c1;have h2:=X0J (P:=P) (w:=w) (.inl ⟨k,hty⟩) c2;rw[Op.eqFields,if_pos hn.1,hn.2];simp only[Sem.run_bind,h1,h2,Result.andThen_ok,run_equalIn_int w 9998 f.type k1 k a1 b1 hty,hr,Sem.run_ite];by_cases hab:a1=b1
           · simp[hab,hr]
           simp[hab]
         cases hq
       · rename_i ks' a1 l b1 m hkk;simp only[List.cons.injEq]at hkk;obtain⟨rfl,rfl⟩:=hkk;simp only[Option.map_eq_some_iff]at hq;obtain⟨q',hq',rfl⟩:=hq;have hr:=Xj _ _ _ _ q' rfl rfl hq';obtain⟨c1,c2⟩:=cell _ _ _ _ rfl rfl
         have hty:P.underlying f.type=some .string:=by
          split at hk
          · cases hk
          · assumption
          cases hk
         have h1:=X0J (P:=P) (w:=w) (.inr hty) c1;have h2:=X0J (P:=P) (w:=w) (.inr hty) c2
         have h3:(Op.equalIn (9998+1) f.type (.string a1) (.string b1)).run P w=.ok (decide (a1=b1)) w:=by
          rw[run_equalIn_string w 9998 f.type a1 b1 hty];congr 1;by_cases hab:a1=b1
          · simp[hab]
          have hne:¬a1.toList=b1.toList:=fun h=>hab (X8q.1 h);simp[hab,hne]
         rw[Op.eqFields,if_pos hn.1,hn.2];simp only[Sem.run_bind,h1,h2,Result.andThen_ok,h3,hr,Sem.run_ite];by_cases hab:a1=b1
         · simp[hab,hr]
         simp[hab]
       cases hq
     cases hk
   cases hf
theorem X98 {op:BinOp} {t:TypeId} {rx ry:RV} {x y:Operand} {a b:Value} {q:Bool} (hx:X9 F γ w rx a) (hy:X9 F γ w ry b) (h:evAgg P op t rx ry=some q):
  (do eqGuard op t x y a b;binOp op t a b:Sem Value).run P w=.ok (.bool q) w:=by
 unfold evAgg at h;split at h
 · rename_i xs ys;split at h
   · rename_i n k har;split at h
     · rename_i as0 bs ha hb;split at h
       · rename_i hl;obtain⟨va,rfl,hca⟩:=hx;obtain⟨vb,rfl,hcb⟩:=hy;rw[X1U xs as0 va ha hca,X1U ys bs vb hb hcb];obtain⟨e,i,hu,hk,hi,hs,hg⟩:=XbR har;have heq:=X9E (w:=w) hu hk hi hs as0 bs hl.1 hl.2;cases op<;>simp at h<;>first|(subst h;simp[eqGuard,binOp,heq,hg])|simp[eqGuard,binOp,heq,hg,h]
       cases h
     cases h
   split at h
   · rename_i ks hfl;split at h
     · rename_i q' hq;obtain⟨va,rfl,hca⟩:=hx;obtain⟨vb,rfl,hcb⟩:=hy;unfold X65 at hfl;split at hfl
       · rename_i fs hu;split at hfl
         · rename_i hc;have hfo:P.fieldsOf t=fs:=by unfold Program.fieldsOf;rw[hu]
           have hrun:(Op.equalIn 10000 t (.agg va) (.agg vb)).run P w=.ok q' w:=by
            rw[show(10000:Nat)=(9998+1)+1 from rfl,run_equalIn_agg w (9998+1) t va vb (by rw[hfo];exact hu) hc.1,hfo];exact X2y ks xs ys q' fs.toList 0 va vb hfl hq (by simpa using hca.1) (by simpa using hcb.1) (fun j x u h1 h2=>hca.2 j x u h1 (by simpa using h2)) (fun j x u h1 h2=>hcb.2 j x u h1 (by simpa using h2))
           have hg:=run_eqGuard_agg (P:=P) w op t x y va vb hc.2;rw[Sem.run_bind,hg,Result.andThen_ok];cases op<;>simp at h
           · subst h;rw[run_eql_struct,hrun,Result.andThen_ok]
           subst h;rw[run_neq_struct,hrun,Result.andThen_ok];simp
         cases hfl
       cases hfl
     cases h
   cases h
 cases h
theorem X8C {t:TypeId} (h:Xs P t=true):∃e,P.underlying t=some (.slice e):=by
 unfold Xs at h;split at h
 · rename_i e he;exact⟨e,he⟩
 cases h
theorem X96 {r:RV} {v:Value} (hp:nilSl r=true) (h:X9 F γ w r v):v=.slice none 0 0:=by
 unfold nilSl at hp;split at hp
 · exact X9.lit_eq rfl h
 cases hp
theorem X35 {r:RV} {v:Value} {b:Bool} (hp:X5L r=some b) (h:X9 F γ w r v):∃a n c,v=.slice a n c∧b=a.isNone:=by
 unfold X5L at hp;split at hp
 · cases hp;exact⟨_,_,_,X9.lit_eq rfl h,rfl⟩
 · cases hp;exact⟨_,_,_,X9.lit_eq rfl h,rfl⟩
 · rename_i s r0 rs;cases hp;rcases CRel.sl_inv (show CRel F w (.sl s (r0::rs)) v from h)with⟨h0,_⟩|⟨b,o,cap,cells,rfl,_⟩
   · cases h0
   exact⟨_,_,_,rfl,rfl⟩
 cases hp
theorem X8U {t e:TypeId} (hu:P.underlying t=some (.slice e)) (a:Option Addr) (n c:Nat):(Op.equal t (.slice a n c) (.slice none 0 0)).run P w=.ok a.isNone w:=by
 show(Op.equalIn (9999+1) t _ _).run P w=_;generalize 9999=k;unfold Op.equalIn;cases a<;>simp[run_underlying hu]
theorem X7N {op:BinOp} {t:TypeId} {rx ry:RV} {x y:Operand} {a b:Value} {q:Bool} (ht:Xs P t=true) (hx:X9 F γ w rx a) (hy:X9 F γ w ry b) (h:X72 op rx ry=some q):
  (do eqGuard op t x y a b;binOp op t a b:Sem Value).run P w=.ok (.bool q) w:=by
 unfold X72 at h;split at h
 · rename_i hn;obtain⟨e,hu⟩:=X8C ht;have hb:=X96 hn hy;subst hb;split at h
   · obtain⟨a,n,c,rfl,rfl⟩:=X35 h hx;simp[eqGuard,binOp,X8U hu]
   · simp only[Option.map_eq_some_iff]at h;obtain⟨b',hb',rfl⟩:=h;obtain⟨a,n,c,rfl,rfl⟩:=X35 hb' hx;simp[eqGuard,binOp,X8U hu]
   cases h
 cases h
theorem X6S {g:Operand→RV} {ρ:Operand→Value} (hg:∀x,X9 F γ w (g x) (ρ x)) {dflt n:Nat} {o:Option Operand} (h:X0H g dflt o=some n):
  (o=none∧n=dflt)∨∃x,o=some x∧ρ x=.int .i64 n:=by
 unfold X0H at h;split at h
 · cases h;exact .inl ⟨rfl,rfl⟩
 rename_i x;split at h
 · rename_i k hk;split at h
   · rename_i h0;cases h;refine .inr ⟨x,rfl,?_⟩;rw[X9.lit_eq hk (hg x)];simp[Int.toNat_of_nonneg h0]
   cases h
 cases h
theorem Wq {n y:Nat} (h:n≤y) (code:BoundsCode):(Instr.sliceBound (.int .i64 n) y code).run P w=.ok n w:=by
 simp[Instr.sliceBound,asIntOf,h]
theorem Z1 {b:Bool} {g:Operand→RV} {ρ:Operand→Value} (hg:∀x,X9 F γ w (g x) (ρ x)) {len cap l h:Nat} {lo hi:Option Operand} (h1:X0H g 0 lo=some l) (h2:X0H g len hi=some h) (hl:l≤h) (hh:h≤len) (hc:len≤cap):
  (Instr.sliceBounds b len cap (lo.map ρ) (hi.map ρ) none).run P w=.ok (l,h,cap) w:=by
 have e2:=X6S hg h2;have e1:=X6S hg h1;unfold Instr.sliceBounds;rcases e2 with⟨rfl,rfl⟩|⟨y,rfl,hy⟩<;>rcases e1 with⟨rfl,rfl⟩|⟨x,rfl,hx⟩
 · simp
 · simp[hx,Wq hl]
 · simp[hy,Wq (show h≤cap by omega)]
 simp[hx,hy,Wq (show h≤cap by omega),Wq hl]
theorem CRel.cut {s:Nat} {rows:List (List CD)} {v:Value} (h:CRel F w (.sl s rows) v) {l hi:Nat} (hl:l≤hi) (hh:hi≤rows.length):
  ∃(a:Option Addr) (cap:Nat),v=.slice a rows.length cap∧rows.length≤cap∧CRel F w (.sl s ((rows.take hi).drop l)) (.slice (if cap=l then a else a.map fun a=>a.add (l*s)) (hi - l) (cap - l)):=by
 rcases CRel.sl_inv h with⟨rfl,rfl|⟨a,cap,rfl⟩⟩|⟨b,o,cap,cells,rfl,hF,hcap,hmax,hs,hc,h1,hr⟩
 · have e0:hi=0:=by simpa using hh
   subst e0;have e1:l=0:=by omega
   subst e1;exact⟨none,0,rfl,Nat.le_refl _,by simpa using CRel.nil s⟩
 · have e0:hi=0:=by simpa using hh
   subst e0;have e1:l=0:=by omega
   subst e1;refine⟨some a,cap,rfl,Nat.zero_le _,?_⟩;have:(if cap=0 then some a else(some a).map fun a=>a.add (0*s))=some (if cap=0 then a else a.add (0*s)):=by split<;>rfl
   rw[this];simpa using CRel.emp s _ cap
 refine⟨_,cap,rfl,hcap,?_⟩;have hlen:((rows.take hi).drop l).length=hi - l:=by simp[Nat.min_eq_left hh]
 rcases Nat.eq_or_lt_of_le hl with e|e
 · have:(rows.take hi).drop l=[]:=List.length_eq_zero_iff.1 (by omega);rw[this,show hi - l=0 by omega];have:(if cap=l then some (⟨b,o,none⟩:Addr)else(some (⟨b,o,none⟩:Addr)).map fun a=>a.add (l*s))=some (if cap=l then⟨b,o,none⟩ else(⟨b,o,none⟩:Addr).add (l*s)):=by split<;>rfl
   rw[this];exact CRel.emp s _ _
 rw[if_neg (by omega),←hlen];simp only[Option.map_some,QW]
 have hg:∀i j d,XG ((rows.take hi).drop l) i j=some d→XG rows (l+i) j=some d:=by
  intro i j d hd;unfold XG at hd⊢;rw[List.getElem?_drop,List.getElem?_take]at hd;split at hd
  · exact hd
  cases hd
 refine CRel.sl s _ b _ _ (fun i j=>cells (l+i) j) hF (by omega) (by omega) (fun r hr=>hs r (List.mem_of_mem_take (List.mem_of_mem_drop hr))) ?_ (fun i j d hd=>h1 _ _ d (hg i j d hd)) fun i j d hd=>hr _ _ d (hg i j d hd);intro i j d hd;rw[←hc (l+i) j d (hg i j d hd)];congr 2;rw[Nat.add_mul];omega
theorem X2a {ρ:Operand→Value} {g:Operand→RV} {o:Oper} {r:RV} {ob:Option Ob} (hg:∀x,X9 F γ w (g x) (ρ x)) (h:evN P g o.op=some (r,ob)):
  ob=none∧∃v,(execOp ρ o).run P w=.ok (.value v) w∧X9 F γ w r v:=by
 unfold execOp;generalize o.op=op at*;cases op<;>simp only[evN]at h
 case move x=>cases h;exact⟨rfl,_,rfl,hg x⟩
 case assign x=>cases h;exact⟨rfl,_,rfl,hg x⟩
 case pick c a b=>
  split at h
  · rename_i t hc;have ec:=X9.lit_eq hc (hg c);split at h
    · rename_i fa x fb y hx hy;split at h
      · rename_i hf;cases h;refine⟨rfl,.bool (X6L t x y),?_,X9.mkLit _⟩;cases t with
        | true=>
          have ex:=X9.litG_eq hx (by simpa[X1o]using hf) (hg a);simp only[ec,ex,X5J];simp[asBool]
        | false=>
          have ey:=X9.litG_eq hy (by simpa[X1o]using hf) (hg b);simp only[ec,ey,X4B];simp[asBool]
      cases h
    cases h;refine⟨rfl,if t=true then ρ a else ρ b,?_,?_⟩
    · simp only[ec];cases t<;>simp[asBool]
    cases t
    · exact hg b
    exact hg a
  cases h
 case fieldAddr s x f=>
  split at h
  · rename_i off t hf;split at h
    · rename_i ti hti;split at h
      · rename_i hpos;obtain⟨fs,fd,hu,hfd,rfl,rfl⟩:=X3A hf;obtain⟨i,d,z,hi,hd,hz,h1,h2,h3,h4,h5⟩:=XC hti;have hne:¬i.size=0:=by omega
        have hx:=hg x;split at h
        · rename_i n o' hgx;cases h;rw[hgx]at hx;obtain⟨b,hb,hv⟩:=hx;refine⟨rfl,.pointer (some ⟨b,o'+fd.offset,none⟩),?_,⟨b,hb,rfl⟩⟩;simp[hv,QV hu hfd hi hne]
        · rename_i n s' i' o' hgx;cases h;rw[hgx]at hx;obtain⟨b,oo,len,cap,hb,hv⟩:=hx;refine⟨rfl,.pointer (some ⟨b,oo+(i'*s'+(o'+fd.offset)),none⟩),?_,⟨b,oo,len,cap,hb,rfl⟩⟩;simp[hv,QV hu hfd hi hne,Nat.add_assoc]
        · rename_i n s' i' j' o' hgx;cases h;rw[hgx]at hx;obtain⟨vs,b,oo,len,cap,hvs,hb,hv⟩:=hx;refine⟨rfl,.pointer (some ⟨b,oo+(j'*s'+(o'+fd.offset)),none⟩),?_,⟨vs,b,oo,len,cap,hvs,hb,rfl⟩⟩;simp[hv,QV hu hfd hi hne,Nat.add_assoc]
        · rename_i cs hgx;cases h;rw[hgx]at hx;obtain⟨b,o',cells,hv,hF,hc,h1',hr⟩:=CRel.ptr_inv (show CRel F w (.ptr cs) (ρ x) from hx);refine⟨rfl,.pointer (some ⟨b,o'+fd.offset,none⟩),?_,?_⟩
          · simp[hv,QV hu hfd hi hne]
          refine CRel.ptr _ b _ (fun j=>cells (fd.offset+j)) hF ?_ ?_ ?_
          · intro j d hj;rw[List.getElem?_drop]at hj;rw[Nat.add_assoc];exact hc _ d hj
          · intro j d hj;rw[List.getElem?_drop]at hj;exact h1' _ d hj
          intro j d hj;rw[List.getElem?_drop]at hj;exact hr _ d hj
        cases h
      cases h
    cases h
  cases h
 case field t x f=>
  split at h
  · rename_i off t' hf;split at h
    · rename_i ti xs hti hgx;simp only[Option.map_eq_some_iff]at h;obtain⟨r',hr',he⟩:=h;cases he;obtain⟨fs,fd,hu,hfd,rfl,rfl⟩:=X3A hf;have hx:=hg x;rw[hgx]at hx;obtain⟨vs,hv,hc⟩:=hx;obtain⟨v,hrun,hrel⟩:=X3J hti hc hr';refine⟨rfl,v,?_,hrel⟩
      have hlt:f<fs.size:=by
       rcases Nat.lt_or_ge f fs.size with h|h
       · exact h
       simp[Array.getElem?_eq_none h]at hfd
      have hfd':fs[f]=fd:=by simpa[hlt]using hfd
      simp[hv,Instr.field,run_underlying hu,hlt,hfd',asAgg,hrun]
    cases h
  cases h
 case slice t x low high m=>
  cases m with
  |some m=>cases h
  |none=>
  simp only at h;have hx:=hg x;split at h
  · rename_i s rows hgx;rw[hgx]at hx;split at h
    · rename_i e he;split at h
      · rename_i ti hti;split at h
        · rename_i hsz;subst hsz;split at h
          · rename_i l hi h1 h2;split at h
            · rename_i hc;cases h;obtain⟨a,cap,hv,hcap,hrel⟩:=CRel.cut (show CRel F w (.sl ti.size rows) (ρ x) from hx) hc.1 hc.2;have hu:=Q4 he;obtain⟨i,d,z,hi',hd,hz,e1,e2,e3,e4,e5⟩:=XC hti;have hb:=Z1 (P:=P) (w:=w) (b:=true) hg h1 h2 hc.1 hc.2 hcap;refine⟨rfl,_,?_,hrel⟩;simp[hv,Instr.sliceAt,Instr.slice,run_underlying hu,hb,XA hi',e1]
            cases h
          cases h
        cases h
      cases h
    cases h
  · rename_i b hgx;rw[hgx]at hx;split at h
    · rename_i hs;split at h
      · rename_i l hi h1 h2;split at h
        · rename_i hc;cases h;have hv:ρ x=.string b:=X9.lit_eq (γ:=γ) (w:=w) (F:=F) (r:=lit (.string b)) rfl hx;have hu:=X2d hs;have hb:=Z1 (P:=P) (w:=w) (b:=false) hg h1 h2 hc.1 hc.2 (Nat.le_refl _);refine⟨rfl,.string (b.extract l hi),?_,X9.mkLit _⟩;simp[hv,Instr.sliceAt,Instr.slice,run_underlying hu,hb]
        cases h
      cases h
    cases h
  cases h
 case extract x i=>
  split at h
  · rename_i ts hgx;simp only[Option.map_eq_some_iff]at h;obtain⟨t,ht,he⟩:=h;cases he;have hx:=hg x;rw[hgx]at hx;obtain⟨vs,hv,hs,hc⟩:=hx;have hlt:i<vs.size:=by rw[hs];exact(List.getElem?_eq_some_iff.1 ht).1
    refine⟨rfl,vs[i],?_,hc i t _ ht (by simp[hlt])⟩;simp[hv,Instr.extract,hlt]
  cases h
 case nilCheck x=>
  split at h
  · rename_i hp;cases h;refine⟨rfl,ρ x,?_,hg x⟩;obtain⟨a,ha⟩:=X05 hp (hg x);simp[ha]
  cases h
 case makeFunc fn first captured=>
  split at h
  · rename_i f hf0
    have hf:first= #[]:=by
     obtain⟨l⟩:=first
     simp only at hf0;subst hf0;rfl
    subst hf;simp only[Option.map_eq_some_iff]at h;obtain⟨cs,hcs,he⟩:=h;cases he;obtain⟨h1,h2⟩:=X3x hg _ _ hcs;refine⟨rfl,.func (.func f) #[] (captured.map ρ),by simp[Instr.makeFunc],captured.toList.map ρ,by rw[←Array.toList_map],by simpa using h1,fun j p u hp hu=>?_⟩;rw[List.getElem?_map]at hu;simp only[Option.map_eq_some_iff]at hu;obtain⟨x,hx,rfl⟩:=hu;exact h2 j p x hp hx
  cases h
 case index t x i=>
  split at h
  · rename_i xs hgx;split at h
    · rename_i k n len e hi har;split at h
      · rename_i ti hti;split at h
        · rename_i hn;simp only[Option.map_eq_some_iff]at h;obtain⟨r',hr',he⟩:=h;cases he;have hx:=hg x;rw[hgx]at hx;obtain⟨vs,hv,hc⟩:=hx;obtain⟨v,hrun,hrel⟩:=X3J hti hc hr';have ei:=X9.lit_eq hi (hg i);have hu:=X5U har;obtain⟨inf,d,z,hinf,hd,hz,h1,h2,h3,h4,h5⟩:=XC hti;refine⟨rfl,v,?_,hrel⟩;rw[←h1]at hrun;simp[hv,ei,Instr.index,asIntOf,run_underlying hu,hn,XA hinf,hrun]
        cases h
      cases h
    cases h
  split at h
  · rename_i sb k n hx hi;split at h
    · rename_i hc;split at h
      · rename_i b hb;cases h;have ex:=X9.lit_eq hx (hg x);have ei:=X9.lit_eq hi (hg i);refine⟨rfl,.int .u8 b.toNat,?_,X9.mkLit _⟩;simp[ex,ei,Instr.index,asIntOf,run_underlying (X2d hc.1),hc.2,hb]
      cases h
    cases h
  cases h
 case binOp op t x y t'=>
  have fin:∀{a b v},ρ x=a→ρ y=b→(do eqGuard op t x y a b;binOp op t a b:Sem Value).run P w=.ok v w→
    (do let v←(do eqGuard op t x y (ρ x) (ρ y);binOp op t (ρ x) (ρ y):Sem Value);pure (Next.value v):Sem Next).run P w=.ok (.value v) w:=by
   intro a b v ea eb hr;rw[ea,eb,Sem.run_bind,hr];rfl
  have bin:∀{a b},Wc (g x)=some a→Wc (g y)=some b→(X6a (X63 P t) op a b).map (fun v=>(lit v,none))=some (r,ob)→ob=none∧∃v,(execOp ρ {o with op:=.binOp op t x y t'}).run P w=.ok (.value v) w∧X9 F γ w r v:=by
   intro a b ha hb h;simp only[Option.map_eq_some_iff]at h;obtain⟨v,hv,he⟩:=h;cases he;exact⟨rfl,v,fin (X9.lit_eq ha (hg x)) (X9.lit_eq hb (hg y)) (X8T (P:=P) (w:=w) t hv x y),X9.mkLit _⟩
  split at h
  · rename_i a b ha hb;split at h
    · rename_i hs;simp only[Option.map_eq_some_iff]at h;obtain⟨v,hv,he⟩:=h;cases he;refine⟨rfl,v,fin (X9.lit_eq ha (hg x)) (X9.lit_eq hb (hg y)) ?_,X9.mkLit _⟩;have hu:=X2d hs;cases op<;>simp[evStr]at hv<;>subst hv<;>simp[eqGuard,binOp,Op.stringOp]<;>(by_cases hab:a=b<;>simp[hab,X8q])
    cases h
  · rename_i ha hb;exact bin ha hb h
  · rename_i ha hb;exact bin ha hb h
  split at h
  · rename_i hp;simp only[Option.map_eq_some_iff]at h;obtain⟨b,hb,he⟩:=h;cases he;refine⟨rfl,.bool b,fin rfl rfl ?_,X9.mkLit _⟩;obtain⟨e,hu⟩:=Xc3 hp
    have key:∀a c:Option Addr,ρ x=.pointer a→ρ y=.pointer c→(a=none∨c=none)→(∀q,op=.eql∨op=.neq→q=(if op=.eql then(a.isNone&&c.isNone)else !(a.isNone&&c.isNone))→
      (do eqGuard op t x y (ρ x) (ρ y);binOp op t (ρ x) (ρ y):Sem Value).run P w=.ok (.bool q) w):=by
     intro a c ha hc hac q hop hq;rw[ha,hc,hq];rcases hop with rfl|rfl<;>cases a<;>cases c<;>simp[eqGuard,binOp,Xb9 hu]<;>simp at hac
    unfold evNil at hb
    have nn:∀{z},X03 (g z)=true→ρ z=.pointer none:=by
     intro z hz;unfold X03 at hz;split at hz
     · rename_i hgz;have:=hg z;rw[hgz]at this;exact X9.lit_eq rfl this
     cases hz
    split at hb
    · split at hb
      · rename_i hc;simp only[Bool.and_eq_true]at hc;cases hb;exact key none none (nn hc.1) (nn hc.2) (.inl rfl) true (.inl rfl) (by simp)
      split at hb
      · rename_i hc;cases hb;simp only[Bool.or_eq_true,Bool.and_eq_true]at hc;rcases hc with⟨h1,h2⟩|⟨h1,h2⟩
        · obtain⟨a,ha⟩:=X05 h2 (hg y);exact key none (some a) (nn h1) ha (.inl rfl) false (.inl rfl) (by simp)
        obtain⟨a,ha⟩:=X05 h1 (hg x);exact key (some a) none ha (nn h2) (.inr rfl) false (.inl rfl) (by simp)
      cases hb
    · split at hb
      · rename_i hc;simp only[Bool.and_eq_true]at hc;cases hb;exact key none none (nn hc.1) (nn hc.2) (.inl rfl) false (.inr rfl) (by simp)
      split at hb
      · rename_i hc;cases hb;simp only[Bool.or_eq_true,Bool.and_eq_true]at hc;rcases hc with⟨h1,h2⟩|⟨h1,h2⟩
        · obtain⟨a,ha⟩:=X05 h2 (hg y);exact key none (some a) (nn h1) ha (.inl rfl) true (.inr rfl) (by simp)
        obtain⟨a,ha⟩:=X05 h1 (hg x);exact key (some a) none ha (nn h2) (.inr rfl) true (.inr rfl) (by simp)
      cases hb
    cases hb
  split at h
  · rename_i hsl;simp only[Option.map_eq_some_iff]at h;obtain⟨b,hb,he⟩:=h;cases he;exact⟨rfl,.bool b,fin rfl rfl (X7N hsl (hg x) (hg y) hb),X9.mkLit _⟩
  simp only[Option.map_eq_some_iff]at h;obtain⟨b,hb,he⟩:=h;cases he;exact⟨rfl,.bool b,fin rfl rfl (X98 (hg x) (hg y) hb),X9.mkLit _⟩
 case unOp op t x=>
  split at h
  · rename_i a ha;simp only[Option.map_eq_some_iff]at h;obtain⟨v,hv,he⟩:=h;cases he;have ea:=X9.lit_eq ha (hg x);refine⟨rfl,v,?_,X9.mkLit _⟩;simp only[ea];cases op<;>cases a<;>simp[evUn]at hv<;>subst hv<;>simp[Op.unary,Op.intArith]
  cases h
 case build t parts=>
  split at h
  · rename_i ti hti;split at h
    · rename_i hcond;split at h
      · rename_i cs hcs;cases h;obtain⟨v,hrun,hr⟩:=X8D hti hg hcond.1 hcond.2 hcs;refine⟨rfl,v,?_,hr⟩;show(do let v←Instr.build t (parts.map fun(x:Nat×Operand)=>(x.1,ρ x.2));pure (Next.value v):Sem Next).run P w=_;rw[Sem.run_bind,hrun];rfl
      cases h
    cases h
  cases h
 case call c=>
  obtain⟨callee,args,ts⟩:=c;cases callee with
  |value f=>simp[evN]at h
  |invoke f m=>simp[evN]at h
  | builtin b=>
    cases b<;>simp only[evN]at h<;>try cases h
    · split at h
      · rename_i x y hxy;split at h
        · rename_i k a k' b hx hy;split at h
          · rename_i hk;subst hk;cases h;have ex:=X9.lit_eq hx (hg x);have ey:=X9.lit_eq hy (hg y);refine⟨rfl,_,?_,X9.mkLit _⟩;simp[resolve,invoke,builtin,Builtin.max_,Builtin.max2,hxy,ex,ey]
          cases h
        cases h
      cases h
    split at h
    · rename_i x y hxy;split at h
      · rename_i k a k' b hx hy;split at h
        · rename_i hk;subst hk;cases h;have ex:=X9.lit_eq hx (hg x);have ey:=X9.lit_eq hy (hg y);refine⟨rfl,_,?_,X9.mkLit _⟩;simp[resolve,invoke,builtin,Builtin.min_,Builtin.min2,hxy,ex,ey]
        cases h
      cases h
    cases h
 all_goals cases h
end
end Go.Hl
