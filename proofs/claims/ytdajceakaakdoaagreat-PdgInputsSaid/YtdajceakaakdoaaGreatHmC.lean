/- HmC: part of an evaluator of Go code over abstract states, proved sound over the model; used by the proof of the claimed statement. Conditions: none. -/
import Derived.Test.YtdajceakaakdoaaGreatHmB
set_option linter.unusedSimpArgs false
set_option linter.unusedVariables false
namespace Go.Hl
open Go Go.RowKit
section
variable {P:Program} {F:Nat→Prop} {γ:Nat→Value} {w:World}
theorem XC {t:TypeId} {ti:TI} (h:XF P t=some ti):∃i d z,P.info? t=some i∧P.underlying t=some d∧i.zero=some z∧
  i.size=ti.size∧i.bytes=ti.bytes∧ti.agg=X6M d∧ti.zero=z.cells.toList∧ti.kind=X15 d:=by
 unfold XF at h;split at h
 · split at h
   · rename_i i d hi hd _ z hz;cases h;exact⟨i,d,z,hi,hd,hz,rfl,rfl,rfl,rfl,rfl⟩
   cases h
 cases h
theorem Q4 {t e:TypeId} (h:Z2 P t=some e):P.underlying t=some (.slice e):=by
 unfold Z2 at h;split at h
 · rename_i ti hti;obtain⟨i,d,z,hi,hd,hz,h1,h2,h3,h4,h5⟩:=XC hti;rw[h5]at h;cases d<;>simp[X15]at h
   subst h;exact hd
 cases h
theorem X5U {t e:TypeId} {n:Nat} (h:X8w P t=some (n,e)):P.underlying t=some (.array n e):=by
 unfold X8w at h;split at h
 · rename_i ti hti;obtain⟨i,d,z,hi,hd,hz,h1,h2,h3,h4,h5⟩:=XC hti;rw[h5]at h;cases d<;>simp[X15]at h
   obtain⟨rfl,rfl⟩:=h;exact hd
 cases h
theorem X3A {t:TypeId} {f o:Nat} {u:TypeId} (h:X2Q P t f=some (o,u)):
  ∃fs x,P.underlying t=some (.struct fs)∧fs[f]? =some x∧x.offset=o∧x.type=u:=by
 unfold X2Q at h;split at h
 · rename_i ti hti;obtain⟨i,d,z,hi,hd,hz,h1,h2,h3,h4,h5⟩:=XC hti;rw[h5]at h;cases d<;>simp[X15]at h
   rename_i fs;obtain⟨x,hx,rfl,rfl⟩:=h;exact⟨fs,x,hd,by simpa using hx,rfl,rfl⟩
 cases h
theorem Wg {t:TypeId} {d:TypeDesc} (h:P.underlying t=some d) (w:World):(isAgg t).run P w=.ok (X6M d) w:=by
 unfold isAgg;cases d<;>simp[run_underlying h,X6M]
theorem XA {t:TypeId} {i:TypeInfo} (h:P.info? t=some i) (w:World):(sizeOf t).run P w=.ok i.size w:=by
 simp[sizeOf,typeInfo,h]
theorem Xk.part {xs:List CV} {vs:Array Value} (h:Xk F γ w xs vs) (off n:Nat):
  Xk F γ w ((xs.drop off).take n) (vs.extract off (off+n)):=by
 obtain⟨hs,hc⟩:=h;refine⟨by simp only[Array.size_extract,List.length_take,List.length_drop,hs];omega,fun j x u hx hu=>?_⟩;rw[List.getElem?_take]at hx;split at hx
 · rw[List.getElem?_drop]at hx;rw[Array.getElem?_extract]at hu;split at hu
   · exact hc _ x u hx hu
   cases hu
 cases hx
theorem X3J {t:TypeId} {ti:TI} (hti:XF P t=some ti) {xs:List CV} {vs:Array Value} (h:Xk F γ w xs vs) {off:Nat} {r:RV}
  (hr:WY ti xs off=some r):∃v,(part t vs off).run P w=.ok v w∧X9 F γ w r v:=by
 obtain⟨i,d,z,hi,hd,hz,h1,h2,h3,h4,h5⟩:=XC hti;unfold WY at hr;unfold part;by_cases ha:ti.agg=true
 · rw[if_pos ha]at hr;by_cases hle:off+ti.size≤xs.length
   · rw[if_pos hle]at hr;cases hr;refine⟨.agg (vs.extract off (off+ti.size)),?_,⟨_,rfl,h.part off ti.size⟩⟩;simp[Wg hd,←h3,ha,XA hi,h1]
   rw[if_neg hle]at hr;cases hr
 rw[if_neg ha]at hr;cases hx:xs[off]? with
 |none=>simp[hx]at hr
 | some x=>
   simp only[hx]at hr;cases hr
   have hlt:off<vs.size:=by
    rw[h.1];exact(List.getElem?_eq_some_iff.1 hx).1
   refine⟨vs[off],?_,h.2 off x _ hx (by simp[hlt])⟩;simp[Wg hd,←h3,ha,hlt]
theorem X9z {r:RV} {v:Value} (h:Wc r=some v):r=.v (.one (.c (.lit v))):=by
 unfold Wc at h;split at h<;>simp_all
theorem X9.lit_eq {r:RV} {v u:Value} (h:Wc r=some v) (hr:X9 F γ w r u):u=v:=by
 rw[X9z h]at hr;cases hr;rfl
theorem X9.litG_eq {r:RV} {b:Bool} {v u:Value} (h:X45 r=some (b,v)) (hb:b=true) (hr:X9 F γ w r u):u=v:=by
 unfold X45 at h;split at h
 · cases h;cases hr;rfl
 · cases h;have h2:CRel F w (.lit v) u:=hr.1 hb;cases h2;rfl
 cases h
theorem X9.mkLit (v:Value):X9 F γ w (lit v) v:=CRel.lit v
theorem X9D {t:TypeId} (h:X63 P t=true):P.underlying t=some .bool:=by
 unfold X63 at h;split at h
 · assumption
 cases h
theorem Xa3 {t:TypeId} {a b:Bool} (hu:P.underlying t=some .bool):(Op.equal t (.bool a) (.bool b)).run P w=.ok (a==b) w:=by
 show(Op.equalIn (9999+1) t (.bool a) (.bool b)).run P w=_;generalize 9999=n;unfold Op.equalIn;simp[run_underlying hu]
theorem X8T {op:BinOp} {a b v:Value} (t:TypeId) (h:X6a (X63 P t) op a b=some v) (x y:Operand):
  (do eqGuard op t x y a b;binOp op t a b:Sem Value).run P w=.ok v w:=by
 unfold X6a at h;split at h
 · rename_i k a k' b;split at h
   · rename_i hk;subst hk
     cases op<;>simp at h<;>
      first
       | (obtain⟨h0,rfl⟩:=h
          simp[eqGuard,binOp,Op.intDiv,h0])
       | (subst h
          simp[eqGuard,binOp,Op.intArith,Op.intCmp]
          try(first|rfl|(by_cases hab:a=b<;>simp[hab])))
   cases h
 · rename_i a b;split at h
   · rename_i hb;have hu:=X9D hb;cases op<;>simp at h<;>subst h<;>cases a<;>cases b<;>simp[eqGuard,binOp,Xa3 hu]
   cases h
 cases h
end
end Go.Hl
