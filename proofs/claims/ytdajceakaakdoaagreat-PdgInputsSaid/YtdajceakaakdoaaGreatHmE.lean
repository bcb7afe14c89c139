/- HmE: part of an evaluator of Go code over abstract states, proved sound over the model; used by the proof of the claimed statement. Conditions: none. -/
import Derived.Test.YtdajceakaakdoaaGreatHmC
set_option linter.unusedSimpArgs false
set_option linter.unusedVariables false
namespace Go.Hl
open Go Go.RowKit
theorem X1D {α:Type} {s:Nat}:∀(L:List (List α)),(∀r∈L,r.length=s)→∀i j,j<s→L.flatten[i*s+j]? =XG L i j
 |[],_,i,j,_=>by simp[XG]
 | r::L,h,0,j,hj=>by
   have hr:r.length=s:=h r (by simp);simp[XG,List.getElem?_append_left (show j<r.length by omega)]
 | r::L,h,i+1,j,hj=>by
   have hr:r.length=s:=h r (by simp);have ih:=X1D L (fun r hr=>h r (by simp[hr])) i j hj;rw[List.flatten_cons,List.getElem?_append_right (by rw[hr,Nat.add_mul];omega),hr];rw[show(i+1)*s+j - s=i*s+j by rw[Nat.add_mul];omega,ih];simp[XG]
theorem X4C {α:Type} {s:Nat}:∀(L:List (List α)),(∀r∈L,r.length=s)→L.flatten.length=L.length*s
 |[],_=>by simp
 | r::L,h=>by
   rw[List.flatten_cons,List.length_append,X4C L (fun r hr=>h r (by simp[hr])),h r (by simp),List.length_cons,Nat.add_mul];omega
theorem WO {α:Type} {s:Nat} {L:List (List α)} (h:∀r∈L,r.length=s) {i j:Nat} {d:α} (hd:XG L i j=some d):i<L.length∧j<s:=by
 unfold XG at hd;cases hr:L[i]? with
 |none=>simp[hr]at hd
 | some r=>
   simp only[hr,Option.bind_some]at hd;have h1:=(List.getElem?_eq_some_iff.1 hr).1;have h2:=(List.getElem?_eq_some_iff.1 hd).1;rw[h r (List.mem_of_getElem? hr)]at h2;exact⟨h1,h2⟩
theorem X7h {α:Type} (off:Nat):∀(l:List α) (k:Nat) (cells:Array α),off+k+l.length≤cells.size→
  ((l.zipIdx k).foldl (fun cs (x:α×Nat)=>cs.setIfInBounds (off+x.2) x.1) cells).toList=cells.toList.take (off+k)++l++cells.toList.drop (off+k+l.length)
 |[],k,cells,h=>by simp
 | x::l,k,cells,h=>by
   simp only[List.length_cons]at h;rw[List.zipIdx_cons,List.foldl_cons,X7h off l (k+1) _ (by simp;omega)];simp only[Array.toList_setIfInBounds,List.length_cons];rw[List.take_set,List.drop_set_of_lt (by omega)]
   have h1:(cells.toList.take (off+(k+1))).set (off+k) x=cells.toList.take (off+k)++[x]:=by
    rw[show off+(k+1)=off+k+1 by omega,List.take_add_one];have hlt:off+k<cells.toList.length:=by simp;omega
    rw[List.getElem?_eq_getElem hlt];simp only[Option.toList_some];rw[List.set_append_right _ _ (by simp;omega)];have:off+k - (List.take (off+k) cells.toList).length=0:=by simp;omega
    rw[this];simp
   rw[h1,show off+(k+1)+l.length=off+k+(l.length+1) by omega];simp
theorem X8z (size:Nat):∀(l:List Value) (k:Nat) (cells:Array Value),(∀v∈l,v.cells.size=size)→(k+l.length)*size≤cells.size→
  ∃out,Instr.fill (fun i=>some (i*size,size)) cells ((l.zipIdx k).map fun x=>(x.2,x.1))=some out∧
   out.toList=cells.toList.take (k*size)++(l.map fun v=>v.cells.toList).flatten++cells.toList.drop ((k+l.length)*size)
 |[],k,cells,_,h=>⟨cells,by simp[Instr.fill],by simp⟩
 | v::l,k,cells,hs,h=>by
   have hv:v.cells.size=size:=hs v (by simp)
   have hk:(k+1)*size+l.length*size≤cells.size:=by
    rw[←Nat.add_mul];simp only[List.length_cons]at h;rw[show k+1+l.length=k+(l.length+1) by omega];exact h
   have hk':k*size+size≤cells.size:=by rw[Nat.add_mul]at hk;omega
   obtain⟨out,ho,hl⟩:=X8z size l (k+1) (v.cells.zipIdx.foldl (fun cs (x:Value×Nat)=>cs.setIfInBounds (k*size+x.2) x.1) cells) (fun u hu=>hs u (by simp[hu])) (by
    have e:=congrArg List.length (X7h (k*size) v.cells.toList 0 cells (by simp only[Array.length_toList];omega));rw[←Array.foldl_toList,Array.toList_zipIdx];rw[←Array.length_toList,e];simp only[List.length_append,List.length_take,List.length_drop,Array.length_toList]
    rw[Nat.add_mul (k+1)];omega)
   refine⟨out,?_,?_⟩
   · simp only[List.zipIdx_cons,List.map_cons,Instr.fill];rw[if_neg (by simp only[hv];simp;omega)];exact ho
   rw[hl,←Array.foldl_toList,Array.toList_zipIdx,X7h (k*size) v.cells.toList 0 cells (by simp only[Array.length_toList];omega)];have e1:(cells.toList.take (k*size+0)).length=k*size:=by simp;omega
   have e2:(cells.toList.take (k*size+0)++v.cells.toList).length=(k+1)*size:=by
    rw[List.length_append,e1,Array.length_toList,hv,Nat.add_mul];omega
   rw[List.take_append_of_le_length (by rw[e2];exact Nat.le_refl _),List.take_of_length_le (by rw[e2];exact Nat.le_refl _)];rw[List.drop_append,e2,List.drop_of_length_le (by rw[e2,Nat.add_mul (k+1)];omega),List.nil_append];rw[List.drop_drop];simp only[List.map_cons,List.flatten_cons,List.length_cons,Nat.add_zero,Array.length_toList,hv,List.append_assoc];congr 4;rw[Nat.add_mul (k+1),Nat.add_mul k 1,Nat.add_mul k (l.length+1),Nat.add_mul l.length 1];omega
section
variable {P:Program} {F:Nat→Prop} {γ:Nat→Value} {w w' w0:World} {B:Nat→Prop}
theorem Xk.ofLits (vs:Array Value):Xk F γ w (vs.toList.map fun v=>.c (.lit v)) vs:=
 ⟨by simp,fun j x u hx hu=>by
  rw[List.getElem?_map]at hx;have:vs.toList[j]? =some u:=by simpa using hu
  rw[this]at hx;cases hx
  exact CRel.lit u⟩
theorem X0N {v:Value} (h:v.oneCell'=true):v.cells= #[v]:=by
 cases v<;>first|rfl|(simp[Value.oneCell']at h)
theorem Xn.one {x:CV} {v:Value} (hx:x.cell=true) (h:Xn F γ w x v):v.oneCell'=true:=by
 cases x with
 |any=>cases hx
 |gd b x=>cases hx
 | c d=>
   cases d with
   |lit u=>cases h;exact hx
   |sl s rows=>rcases CRel.sl_inv h with⟨_,rfl|⟨a,c,rfl⟩⟩|⟨b,o,cap,cells,rfl,_⟩<;>rfl
   |ptr cs=>obtain⟨b,o,cells,rfl,_⟩:=CRel.ptr_inv h;rfl
   |mp l=>cases h<;>rfl
   |fn f caps=>cases h;rfl
 |own n=>exact h.2
 |at_ n off=>obtain⟨b,_,rfl⟩:=h;rfl
 |el n s i off=>obtain⟨b,_,_,_,_,rfl⟩:=h;rfl
 |sub n i=>exact h.choose_spec.2.2.1
 |el2 n s i j off=>obtain⟨_,b,_,_,_,_,_,rfl⟩:=h;rfl
 |fn f caps=>obtain⟨vs,rfl,_⟩:=h;rfl
theorem X9.cells {r:RV} {cs:List CV} {v:Value} (hr:cellsOf r=some cs) (h:X9 F γ w r v):Xk F γ w cs v.cells:=by
 unfold cellsOf at hr;split at hr
 · rename_i x;split at hr
   · rename_i hx;cases hr;rw[X0N (Xn.one hx h)];refine⟨rfl,fun j y u hy hu=>?_⟩;cases j with
     |zero=>simp at hy hu;subst hy;subst hu;exact h
     |succ j=>simp at hy
   cases hr
 · rename_i xs;cases hr;obtain⟨vs,rfl,hc⟩:=h;exact hc
 cases hr
theorem Xk.splice {xs cs:List CV} {vs us:Array Value} (hx:Xk F γ w xs vs) (hc:Xk F γ w cs us) {off:Nat} (hle:off+cs.length≤xs.length):
  Xk F γ w (xs.take off++cs++xs.drop (off+cs.length)) (vs.toList.take off++us.toList++vs.toList.drop (off+us.toList.length)).toArray:=by
 have hul:us.toList.length=cs.length:=by rw[Array.length_toList,hc.1]
 have hvl:vs.toList.length=xs.length:=by rw[Array.length_toList,hx.1]
 have e1:(List.take off xs).length=off:=by rw[List.length_take];omega
 have e2:(List.take off vs.toList).length=off:=by rw[List.length_take,hvl];omega
 refine⟨?_,fun j x u hxj hu=>?_⟩
 · rw[List.size_toArray,List.length_append,List.length_append,List.length_append,List.length_append,e1,e2,List.length_drop,List.length_drop,hul,hvl]
 simp only[List.getElem?_toArray]at hu;rw[hul]at hu;rw[List.append_assoc]at hxj hu;by_cases h1:j<off
 · rw[List.getElem?_append_left (by rw[e1];exact h1),List.getElem?_take,if_pos h1]at hxj;rw[List.getElem?_append_left (by rw[e2];exact h1),List.getElem?_take,if_pos h1]at hu;exact hx.2 j x u hxj (by simpa using hu)
 rw[List.getElem?_append_right (by rw[e1];omega)]at hxj;rw[List.getElem?_append_right (by rw[e2];omega)]at hu;rw[e1]at hxj;rw[e2]at hu;by_cases h2:j - off<cs.length
 · rw[List.getElem?_append_left h2]at hxj;rw[List.getElem?_append_left (by rw[hul];exact h2)]at hu;exact hc.2 _ x u hxj (by simpa using hu)
 rw[List.getElem?_append_right (Nat.le_of_not_lt h2),List.getElem?_drop]at hxj;rw[List.getElem?_append_right (by rw[hul];exact Nat.le_of_not_lt h2),List.getElem?_drop,hul]at hu;exact hx.2 _ x u hxj (by simpa using hu)
theorem X2l {ti:TI} {i off size:Nat} {d:TypeDesc} (hk:ti.kind=X15 d) (h:Q3 P ti i=some (off,size)):
  (∃fs,d=.struct fs∧∃f,fs[i]? =some f∧f.offset=off∧(P.info? f.type).map (·.size)=some size)∨(∃n e,d=.array n e∧(P.info? e).map (·.size)=some size∧off=i*size):=by
 unfold Q3 at h;rw[hk]at h;cases d<;>simp only[X15]at h<;>try cases h
 · rename_i n e;split at h
   · rename_i u hu;cases h;obtain⟨i',d',z,hi,hd',hz,h1,h2,h3,h4,h5⟩:=XC hu;exact .inr ⟨n,e,rfl,by simp[hi,h1],rfl⟩
   cases h
 rename_i fs;split at h
 · rename_i o t' hf;split at h
   · rename_i u hu;cases h;obtain⟨i',d',z,hi,hd',hz,h1,h2,h3,h4,h5⟩:=XC hu;rw[List.getElem?_map]at hf;simp only[Option.map_eq_some_iff]at hf;obtain⟨f,hf,he⟩:=hf;cases he;exact .inl ⟨fs,rfl,f,by simpa using hf,rfl,by simp[hi,h1]⟩
   cases h
 cases h
theorem X1L {ti:TI} {g:Operand→RV} {ρ:Operand→Value} (hg:∀x,X9 F γ w (g x) (ρ x)) {place:Nat→Option (Nat×Nat)} (hp:∀i p,Q3 P ti i=some p→place i=some p):
  ∀(l:List (Nat×Operand)) (cs cs':List CV) (vs:Array Value),Xk F γ w cs vs→QE P ti g cs l=some cs'→
   ∃vs',Instr.fill place vs (l.map fun x=>(x.1,ρ x.2))=some vs'∧Xk F γ w cs' vs'
 |[],cs,cs',vs,hc,h=>by cases h;exact⟨vs,rfl,hc⟩
 | (i, x)::l,cs,cs',vs,hc,h=>by
   simp only[QE]at h;split at h
   · rename_i off size ys hpl hys;split at h
     · rename_i hcond;obtain⟨hsz,hle⟩:=hcond;have hy:=(hg x).cells hys;have hys':(ρ x).cells.size=size:=by rw[hy.1,hsz]
       have hsp:=hc.splice hy hle
       have hfold:((ρ x).cells.zipIdx.foldl (fun cs (x:Value×Nat)=>cs.setIfInBounds (off+x.2) x.1) vs)=(vs.toList.take off++(ρ x).cells.toList++vs.toList.drop (off+(ρ x).cells.toList.length)).toArray:=by
        apply Array.ext';rw[←Array.foldl_toList,Array.toList_zipIdx,X7h off (ρ x).cells.toList 0 vs (by rw[Array.length_toList,hys',hc.1];omega)];simp
       obtain⟨vs',h1,h2⟩:=X1L hg hp l _ cs' _ hsp h;refine⟨vs',?_,h2⟩;simp only[List.map_cons,Instr.fill,hp i _ hpl];rw[if_neg (by simp only[hys',hc.1];simp;omega)];exact(congrArg (fun z=>Instr.fill place z (l.map fun x=>(x.1,ρ x.2))) hfold).trans h1
     cases h
   cases h
theorem X5W (w:World):∀(fs:List Field),(∀f∈fs,∃i,P.info? f.type=some i)→
  (fs.mapM (fun f=>do pure (f.offset,←sizeOf f.type)):Sem (List (Nat×Nat))).run P w=.ok (fs.map fun f=>(f.offset,((P.info? f.type).map (·.size)).getD 0)) w
 |[],_=>rfl
 | f::fs,h=>by
   obtain⟨i,hi⟩:=h f (by simp);have ih:=X5W w fs fun g hg=>h g (by simp[hg])
   have h1:(do pure (f.offset,←sizeOf f.type):Sem (Nat×Nat)).run P w=.ok (f.offset,i.size) w:=by
    rw[Sem.run_bind,XA hi];rfl
   rw[List.mapM_cons,Sem.run_bind,h1,Result.andThen_ok,Sem.run_bind,ih,Result.andThen_ok];simp[hi]
theorem X8D {t:TypeId} {ti:TI} {g:Operand→RV} {ρ:Operand→Value} {parts:Array (Nat×Operand)} {cs:List CV} (hti:XF P t=some ti) (hg:∀x,X9 F γ w (g x) (ρ x)) (ha:ti.agg=true) (hall:XO P ti=true)
  (hf:QE P ti g (ti.zero.map fun v=>.c (.lit v)) parts.toList=some cs):
  ∃v,(Instr.build t (parts.map fun(x:Nat×Operand)=>(x.1,ρ x.2))).run P w=.ok v w∧X9 F γ w (.v (.agg cs)) v:=by
 obtain⟨i,d,z,hi,hd,hz,e1,e2,e3,e4,e5⟩:=XC hti;have hz0:(zeroValue t).run P w=.ok z w:=by simp[zeroValue,typeInfo,hi,hz]
 have hzc:Xk F γ w (ti.zero.map fun v=>.c (.lit v)) z.cells:=by rw[e4];exact Xk.ofLits _
 rw[e3]at ha;cases d with
 | struct fs=>
   have hft:∀f∈fs.toList,∃i,P.info? f.type=some i:=by
    intro f hf';unfold XO at hall;rw[e5]at hall;simp only[X15,List.all_map,List.all_eq_true]at hall;have:=hall f hf';simp only[Function.comp,Option.isSome_iff_exists]at this;obtain⟨u,hu⟩:=this;obtain⟨i',_,_,hi',_⟩:=XC hu;exact⟨i',hi'⟩
   have hpl:=X5W (P:=P) w fs.toList hft
   obtain⟨vs',h1,h2⟩:=X1L (place:=fun k=>(fs.toList.map fun f=>(f.offset,((P.info? f.type).map (·.size)).getD 0)).toArray[k]?) hg (fun k p hp=>by
    rcases X2l (d:=.struct fs) e5 hp with⟨fs',he,f,hfk,hfo,hfs⟩|⟨n,e,he,_⟩
    · cases he;rw[List.getElem?_toArray,List.getElem?_map];have:fs.toList[k]? =some f:=by simpa using hfk
      rw[this];simp[hfs,hfo]
    cases he) parts.toList _ cs z.cells hzc hf
   refine⟨.agg vs',?_,⟨vs',rfl,h2⟩⟩
   have hm:(fs.mapM (fun f=>do pure (f.offset,←sizeOf f.type)):Sem (Array (Nat×Nat))).run P w=.ok (fs.toList.map fun f=>(f.offset,((P.info? f.type).map (·.size)).getD 0)).toArray w:=by
    rw[Array.mapM_eq_mapM_toList,Sem.run_map,hpl];rfl
   unfold Instr.build;rw[Sem.run_bind,hz0,Result.andThen_ok,Sem.run_bind,run_underlying hd,Result.andThen_ok];simp only;rw[Sem.run_bind,hm,Result.andThen_ok];simp only[Array.toList_map];rw[h1];rfl
 | array n e=>
   unfold XO at hall;rw[e5]at hall;simp only[X15,Option.isSome_iff_exists]at hall;obtain⟨u,hu⟩:=hall;obtain⟨i',_,_,hi',_⟩:=XC hu
   obtain⟨vs',h1,h2⟩:=X1L (place:=fun k=>some (k*i'.size,i'.size)) hg (fun k p hp=>by
    rcases X2l (d:=.array n e) e5 hp with⟨fs',he,_⟩|⟨n',e',he,hs,ho⟩
    · cases he
    cases he;rw[hi']at hs;simp only[Option.map_some,Option.some.injEq]at hs;obtain⟨p1,p2⟩:=p;simp only at hs ho
    rw[ho,hs]) parts.toList _ cs z.cells hzc hf
   refine⟨.agg vs',?_,⟨vs',rfl,h2⟩⟩;unfold Instr.build;rw[Sem.run_bind,hz0,Result.andThen_ok,Sem.run_bind,run_underlying hd,Result.andThen_ok];simp only;rw[Sem.run_bind,XA hi',Result.andThen_ok];simp only[Array.toList_map];rw[h1];rfl
 |_=>simp[X6M]at ha
end
end Go.Hl
