/- HmC: part of an evaluator of Go code over abstract states, proved sound over the model; used by the proof of the claimed statement. Conditions: none. -/
import Derived.Test.YtppjennamodfdaaGreatHmB
set_option linter.unusedSimpArgs false
set_option linter.unusedVariables false
namespace Go.Hl
open Go Go.RowKit
section
variable {P:Program} {F:Nat→Prop} {γ:Nat→Value} {w:World}
theorem tyOf_some {t:TypeId} {ti:TI} (h:tyOf P t=some ti):∃i d z,P.info? t=some i∧P.underlying t=some d∧i.zero=some z∧
  i.size=ti.size∧i.bytes=ti.bytes∧ti.agg=aggOf d∧ti.zero=z.cells.toList∧ti.kind=kindOf d:=by
 unfold tyOf at h;split at h
 · split at h
   · rename_i i d hi hd _ z hz;cases h;exact⟨i,d,z,hi,hd,hz,rfl,rfl,rfl,rfl,rfl⟩
   cases h
 cases h
theorem elemOf_some {t e:TypeId} (h:elemTy P t=some e):P.underlying t=some (.slice e):=by
 unfold elemTy at h;split at h
 · rename_i ti hti;obtain⟨i,d,z,hi,hd,hz,h1,h2,h3,h4,h5⟩:=tyOf_some hti;rw[h5]at h;cases d<;>simp[kindOf]at h
   subst h;exact hd
 cases h
theorem arrOf_some {t e:TypeId} {n:Nat} (h:arrOf P t=some (n,e)):P.underlying t=some (.array n e):=by
 unfold arrOf at h;split at h
 · rename_i ti hti;obtain⟨i,d,z,hi,hd,hz,h1,h2,h3,h4,h5⟩:=tyOf_some hti;rw[h5]at h;cases d<;>simp[kindOf]at h
   obtain⟨rfl,rfl⟩:=h;exact hd
 cases h
theorem fieldOf_some {t:TypeId} {f o:Nat} {u:TypeId} (h:fieldOf P t f=some (o,u)):
  ∃fs x,P.underlying t=some (.struct fs)∧fs[f]? =some x∧x.offset=o∧x.type=u:=by
 unfold fieldOf at h;split at h
 · rename_i ti hti;obtain⟨i,d,z,hi,hd,hz,h1,h2,h3,h4,h5⟩:=tyOf_some hti;rw[h5]at h;cases d<;>simp[kindOf]at h
   rename_i fs;obtain⟨x,hx,rfl,rfl⟩:=h;exact⟨fs,x,hd,by simpa using hx,rfl,rfl⟩
 cases h
theorem run_isAgg_of {t:TypeId} {d:TypeDesc} (h:P.underlying t=some d) (w:World):(isAgg t).run P w=.ok (aggOf d) w:=by
 unfold isAgg;cases d<;>simp[run_underlying h,aggOf]
theorem run_sizeOf_of {t:TypeId} {i:TypeInfo} (h:P.info? t=some i) (w:World):(sizeOf t).run P w=.ok i.size w:=by
 simp[sizeOf,typeInfo,h]
theorem cellsRel.part {xs:List CV} {vs:Array Value} (h:cellsRel F γ w xs vs) (off n:Nat):
  cellsRel F γ w ((xs.drop off).take n) (vs.extract off (off+n)):=by
 obtain⟨hs,hc⟩:=h;refine⟨by simp only[Array.size_extract,List.length_take,List.length_drop,hs];omega,fun j x u hx hu=>?_⟩;rw[List.getElem?_take]at hx;split at hx
 · rw[List.getElem?_drop]at hx;rw[Array.getElem?_extract]at hu;split at hu
   · exact hc _ x u hx hu
   cases hu
 cases hx
theorem partOf_sound {t:TypeId} {ti:TI} (hti:tyOf P t=some ti) {xs:List CV} {vs:Array Value} (h:cellsRel F γ w xs vs) {off:Nat} {r:RV}
  (hr:partOf ti xs off=some r):∃v,(part t vs off).run P w=.ok v w∧RVRel F γ w r v:=by
 obtain⟨i,d,z,hi,hd,hz,h1,h2,h3,h4,h5⟩:=tyOf_some hti;unfold partOf at hr;unfold part;by_cases ha:ti.agg=true
 · rw[if_pos ha]at hr;by_cases hle:off+ti.size≤xs.length
   · rw[if_pos hle]at hr;cases hr;refine⟨.agg (vs.extract off (off+ti.size)),?_,⟨_,rfl,h.part off ti.size⟩⟩;simp[run_isAgg_of hd,←h3,ha,run_sizeOf_of hi,h1]
   rw[if_neg hle]at hr;cases hr
 rw[if_neg ha]at hr;cases hx:xs[off]? with
 |none=>simp[hx]at hr
 | some x=>
   simp only[hx]at hr;cases hr
   have hlt:off<vs.size:=by
    rw[h.1];exact(List.getElem?_eq_some_iff.1 hx).1
   refine⟨vs[off],?_,h.2 off x _ hx (by simp[hlt])⟩;simp[run_isAgg_of hd,←h3,ha,hlt]
theorem litOf_some {r:RV} {v:Value} (h:litOf r=some v):r=.v (.one (.c (.lit v))):=by
 unfold litOf at h;split at h<;>simp_all
theorem RVRel.lit_eq {r:RV} {v u:Value} (h:litOf r=some v) (hr:RVRel F γ w r u):u=v:=by
 rw[litOf_some h]at hr;cases hr;rfl
theorem RVRel.litG_eq {r:RV} {b:Bool} {v u:Value} (h:litG r=some (b,v)) (hb:b=true) (hr:RVRel F γ w r u):u=v:=by
 unfold litG at h;split at h
 · cases h;cases hr;rfl
 · cases h;have h2:CRel F w (.lit v) u:=hr.1 hb;cases h2;rfl
 cases h
theorem RVRel.mkLit (v:Value):RVRel F γ w (lit v) v:=CRel.lit v
theorem boolT_some {t:TypeId} (h:boolT P t=true):P.underlying t=some .bool:=by
 unfold boolT at h;split at h
 · assumption
 cases h
theorem equal_bool {t:TypeId} {a b:Bool} (hu:P.underlying t=some .bool):(Op.equal t (.bool a) (.bool b)).run P w=.ok (a==b) w:=by
 show(Op.equalIn (9999+1) t (.bool a) (.bool b)).run P w=_;generalize 9999=n;unfold Op.equalIn;simp[run_underlying hu]
theorem evBin_sound {op:BinOp} {a b v:Value} (t:TypeId) (h:evBin (boolT P t) op a b=some v) (x y:Operand):
  (do eqGuard op t x y a b;binOp op t a b:Sem Value).run P w=.ok v w:=by
 unfold evBin at h;split at h
 · rename_i k a k' b;split at h
   · rename_i hk;subst hk
     cases op<;>simp at h<;>
      first
       | (obtain⟨h0,rfl⟩:=h
          simp[eqGuard,binOp,Op.intDiv,h0])
       | (subst h
          simp[eqGuard,binOp,Op.intArith,Op.intCmp]
          try(first|rfl|(by_cases hab:a=b<;>simp[hab])))
   cases h
 · rename_i a b;split at h
   · rename_i hb;have hu:=boolT_some hb;cases op<;>simp at h<;>subst h<;>cases a<;>cases b<;>simp[eqGuard,binOp,equal_bool hu]
   cases h
 cases h
end
end Go.Hl
