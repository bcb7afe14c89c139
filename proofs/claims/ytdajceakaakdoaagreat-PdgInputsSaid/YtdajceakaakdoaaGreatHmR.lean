/- HmR: part of an evaluator of Go code over abstract states, proved sound over the model; used by the proof of the claimed statement. Conditions: none. -/
import Derived.Test.YtdajceakaakdoaaGreatHmQ
import Derived.Orders
set_option linter.unusedSimpArgs false
set_option linter.unusedVariables false
namespace Go.Hl
open Go Go.RowKit
def X3M:Op→Bool
 | .call {callee:=.builtin .append, .. }=>true
 |_=>false
def X16:Op→Bool
 | .mapUpdate _ _ _ _=>true
 |_=>false
def X0y (a b:Oper):Bool:=
 match Q7 a.op,Q7 b.op with
 | .neutral,_=>true
 |_,.neutral=>true
 | .alloc,.alloc=>true
 | .alloc,.read=>true
 | .alloc,.call=>true
 | .alloc,.write=> !X16 b.op
 | .read,.alloc=>true
 | .call,.alloc=>true
 | .write,.alloc=> !X16 a.op
 | .read,.read=>true
 | .read,.call=>true
 | .call,.read=>true
 |_,_=>false
def X6J (dst:Option Nat) (l:List Nat):Bool:=
 match dst with
 |some d=>l.contains d
 |none=>false
def WG (a b:Option Nat):Bool:=
 match a,b with
 |some x,some y=>x==y
 |_,_=>false
section
variable {P:Program} {ops:Array Oper}
theorem XaY {d:Nat} {s:HS} (h0:d<1000000) (hs:QG s.objs=true) (h1:∀k r,(k,r)∈s.regs→¬r.men d) (h2:∀n o,(n,o)∈s.objs→n≠d∧¬o.men d):QY d s=true:=by
 simp only[QY,Bool.and_eq_true,List.all_eq_true,decide_eq_true_eq];refine⟨⟨h0,hs⟩,fun p hp=>?_,fun p hp=>?_⟩
 · simp only[Bool.not_eq_true'];cases h:p.2.menB d with
   |false=>rfl
   |true=>exact absurd (RV.menB_iff.1 h) (h1 p.1 p.2 hp)
 simp only[bne_iff_ne,Bool.not_eq_true',Bool.and_eq_true];refine⟨(h2 p.1 p.2 hp).1,?_⟩;cases h:p.2.menB d with
 |false=>rfl
 |true=>exact absurd (Ob.menB_iff.1 h) (h2 p.1 p.2 hp).2
theorem X0A {d:Nat} {s:HS} (h:QY d s=true) {k:Nat} {r:RV} (hr:(k,r)∈s.regs):¬r.men d:=by
 simp only[QY,Bool.and_eq_true,List.all_eq_true]at h;have:=h.2.1 _ hr;intro hm;rw[RV.menB_iff.2 hm]at this;cases this
theorem ZM {d:Nat} {s:HS} (h:QY d s=true) (n:Nat) (o:Ob) (hr:(n,o)∈s.objs):n≠d∧¬o.men d:=by
 simp only[QY,Bool.and_eq_true,List.all_eq_true]at h;have:=h.2.2 _ hr;simp only[bne_iff_ne,ne_eq]at this;refine⟨this.1,fun hm=>?_⟩;rw[Ob.menB_iff.2 hm]at this;cases this.2
theorem X4e {b:Bool} {d e:Nat} (h:b=true→e≠d):∀{x:CV},x.onlyB b e=true→¬x.men d
 | .own n,hx,hm=>by
   simp only[CV.onlyB,Bool.and_eq_true,beq_iff_eq]at hx;exact h hx.1 (hx.2.symm.trans hm)
 | .at_ n _,hx,hm=>by
   simp only[CV.onlyB,Bool.and_eq_true,beq_iff_eq]at hx;exact h hx.1 (hx.2.symm.trans hm)
 | .el n _ _ _,hx,hm=>by
   simp only[CV.onlyB,Bool.and_eq_true,beq_iff_eq]at hx;exact h hx.1 (hx.2.symm.trans hm)
 | .sub n _,hx,hm=>by
   simp only[CV.onlyB,Bool.and_eq_true,beq_iff_eq]at hx;exact h hx.1 (hx.2.symm.trans hm)
 | .el2 n _ _ _ _,hx,hm=>by
   simp only[CV.onlyB,Bool.and_eq_true,beq_iff_eq]at hx;exact h hx.1 (hx.2.symm.trans hm)
 | .fn _ caps,hx,hm=>by
   simp only[CV.onlyB,List.isEmpty_iff]at hx;subst hx;obtain⟨p,hp,_⟩:=hm;cases hp
 | .gd _ _,hx,_=>by cases hx
 | .any,_,hm=>hm
 | .c _,_,hm=>hm
theorem Xbv {b:Bool} {d e:Nat} (h:b=true→e≠d) {x:RV} (hx:x.onlyB b e=true):¬x.men d:=by
 have ht:∀t:TV,t.onlyB b e=true→¬t.men d:=by
  intro t ht;cases t with
  |one x=>exact X4e h ht
  | agg xs=>
    simp only[TV.onlyB,List.all_eq_true]at ht;rintro⟨x,hx,hm⟩;exact X4e h (ht x hx) hm
 cases x with
 |v t=>exact ht t hx
 | tup ts=>
   simp only[RV.onlyB,List.all_eq_true]at hx;rintro⟨t,htm,hm⟩;exact ht t (hx t htm) hm
theorem XbH {b:Bool} {r:RV} {d:Nat} (h:¬r.men d):¬(ZH b r).men d:=by
 unfold ZH;split
 · unfold ungd;split
   · exact h
   exact h
 exact h
theorem gdR_men {b:Bool} {r:RV} {d:Nat} (h:¬r.men d):¬(gdR b r).men d:=by
 unfold gdR;split
 · exact h
 · split
   · exact h
   exact id
 · exact h
 exact id
theorem X2f {b q:Bool} {st fin:RV→RV} (h:Way b q st fin) {d:Nat} {r:RV} (hr:¬r.men d):¬(st r).men d∧¬(fin r).men d:=by
 rcases h with⟨_,rfl,rfl⟩|⟨_,rfl,rfl⟩
 · exact⟨hr,hr⟩
 exact⟨XbH hr,gdR_men hr⟩
theorem eff_men {objs objs':List (Nat×Ob)} {g:Operand→RV} {o:Oper} {r:RV} {d:Nat} {q:Bool} (h:Eff P objs g o r objs' q) (hd:Qo o=true→o.dst≠some d) (hm:∀x∈XQ o.op,¬(g x).men d)
  (ho:∀n o,(n,o)∈objs→n≠d∧¬o.men d):¬r.men d∧∀n o,(n,o)∈objs'→n≠d∧¬o.men d:=by
 cases h with
 |neutral hc h=>exact⟨evN_men h hm,ho⟩
 | alloc hc hdd h=>
   rename_i d' ob;have hne:d'≠d:=fun e=>hd (by simp[Qo,hc]) (by rw[hdd,e]);obtain⟨h1,h2⟩:=evA_men hne h hm;refine⟨h1,fun n o hn=>?_⟩;rcases X0e hn with e|hn
   · cases e;exact⟨hne,h2 _ rfl⟩
   exact ho n o hn
 |read hc h=>exact⟨evR_men h hm fun n o hl=>ho n o (Xy hl),ho⟩
 | write hc h=>
   refine evW_men (fun d' hd' _ e=>hd (by simp[Qo,hc]) (by rw[hd',e])) h hm ho
 | call hc ho' hdd hf hts hcon hown honly hflat=>
   rename_i x args ts d' f tvs fresh ob own es;have hne:d'≠d:=fun e=>hd (by simp[Qo,hc]) (by rw[hdd,e]);refine⟨Xbv (fun _=>hne) honly,fun n o hn=>?_⟩;cases ob with
   |none=>exact ho n o hn
   | some o'=>
     rcases X0e hn with e|hn
     · cases e;refine⟨hne,?_⟩;have:=hflat _ rfl;cases o with
       | box cs=>
         simp only[Ob.flat,List.all_eq_true]at this;rintro⟨y,hy,hym⟩;exact X4e (by simp) (this y hy) hym
       |row e s rows=>exact id
       |mp l=>exact id
       |mat e e' s rows=>exact id
       |refs e ns=>cases this
       |mps e ms=>cases this
       |it l seen=>cases this
     exact ho n o hn
theorem eff_sort {objs objs':List (Nat×Ob)} {g:Operand→RV} {o:Oper} {r:RV} {q:Bool} (h:Eff P objs g o r objs' q) (hs:QG objs=true):QG objs'=true:=by
 cases h with
 |neutral _ _=>exact hs
 |alloc _ _ _=>exact QZ hs
 |read _ _=>exact hs
 |write _ h=>exact evW_sort h hs
 | call hc ho hdd hf hts hcon hown honly hflat=>
   rename_i x args ts d f tvs fresh ob own es;cases ob with
   |none=>exact hs
   |some o'=>exact QZ hs
theorem XaF {o:Oper} {s s1:HS} {d:Nat} (h:Stp P ops o s s1) (hd:Qo o=true→o.dst≠some d) (hu:QY d s=true):QY d s1=true:=by
 obtain⟨hok,b,hg,⟨hb,rfl⟩|⟨hn,r,objs',q,st,fin,hw,he,rfl⟩⟩:=h
 · refine XaY (ZW hu) (show QG s.objs=true from X3L hu) (fun k r hr=>?_) fun n o ho=>ZM hu n o ho;cases hdst:o.dst with
   |none=>rw[hdst]at hr;exact X0A hu hr
   | some e=>
     rw[hdst]at hr;rcases X0e hr with e|hr
     · cases e;exact id
     exact X0A hu hr
 obtain⟨h1,h2⟩:=eff_men he hd (fun x _=>(X2f hw (X1e hu x)).1) (ZM hu);refine XaY (ZW hu) (eff_sort he (X3L hu)) (fun k r' hr=>?_) h2;cases hdst:o.dst with
 |none=>rw[hdst]at hr;exact X0A hu hr
 | some e=>
   rw[hdst]at hr;rcases X0e hr with e|hr
   · cases e;exact(X2f hw h1).2
   exact X0A hu hr
theorem X1Y {objs objs':List (Nat×Ob)} {g g':Operand→RV} {o:Oper} {r:RV} {q:Bool} (hg:∀x∈XQ o.op,g x=g' x) (h:Eff P objs g o r objs' q):Eff P objs g' o r objs' q:=by
 cases h with
 |neutral hc h=>exact .neutral hc (by rw[←XbO hg];exact h)
 |alloc hc hd h=>exact .alloc hc hd (by rw[←Xbt hg];exact h)
 |read hc h=>exact .read hc (by rw[←Xc2 hg];exact h)
 |write hc h=>exact .write hc (by rw[←Xbm hg];exact h)
 | call hc ho hd hf hts hcon hown honly hflat=>
   rename_i x args ts d f tvs fresh ob own es
   have hg':g x=g' x∧∀y∈args.toList,g y=g' y:=by
    rw[ho]at hg;exact⟨hg x (by simp[XQ]),fun y hy=>hg y (by simp only[XQ];exact List.mem_cons_of_mem _ hy)⟩
   refine .call hc ho hd (by rw[←hg'.1];exact hf) (by rw[←X5X _ hg'.2];exact hts) hcon ?_ honly hflat;rcases hown with h|h
   · exact .inl h
   refine .inr ?_;rw[←h];congr 1;rw[Bool.eq_iff_iff,List.any_eq_true,List.any_eq_true];constructor
   · rintro⟨y,hy,he⟩;exact⟨y,hy,by rw[hg'.2 y hy];exact he⟩
   rintro⟨y,hy,he⟩;exact⟨y,hy,by rw[←hg'.2 y hy];exact he⟩
theorem X6n {objs:List (Nat×Ob)} {g:Operand→RV} {o:Oper} {d:Nat} {ob:Ob} (hc:Q7 o.op=.write) (hmu:X16 o.op=false) (hs:QG objs=true) (hd:Qo o=true→o.dst≠some d) (hm:∀x∈XQ o.op,¬(g x).men d)
  (ho:∀n o,(n,o)∈objs→n≠d∧¬o.men d):evW P (ins d ob objs) g o.dst o.op=(evW P objs g o.dst o.op).map fun p=>(p.1,ins d ob p.2):=by
 have hdst:∀d',o.dst=some d'→d'≠d:=fun d' e e'=>hd (by simp[Qo,hc]) (by rw[e,e']);cases hop:o.op with
 |store t x y=>rw[hop]at hm;exact Xc9 hs (hm x (by simp[XQ])) (hm y (by simp[XQ]))
 |mapUpdate t m k v=>rw[hop]at hmu;cases hmu
 | call c=>
   obtain⟨callee,args,ts⟩:=c;rw[hop]at hc hm;cases callee with
   | builtin b=>
     cases b<;>simp[Q7]at hc
     exact X9T hs hdst ho fun x hx=>hm x (by simpa[XQ]using hx)
   |value f=>simp[Q7]at hc
   |invoke f m=>simp[Q7]at hc
 |_=>rw[hop]at hc;simp[Q7]at hc
theorem X71 {objs:List (Nat×Ob)} {g:Operand→RV} {o:Oper} {r:RV} {d:Nat} {ob:Ob} {q:Bool} (hmu:X16 o.op=false) (hs:QG objs=true) (hd:Qo o=true→o.dst≠some d) (hm:∀x∈XQ o.op,¬(g x).men d)
  (hob:∀n o,(n,o)∈objs→n≠d∧¬o.men d):
  (∀objs',Eff P objs g o r objs' q→Eff P (ins d ob objs) g o r (ins d ob objs') q)∧
  (∀objs'',Eff P (ins d ob objs) g o r objs'' q→∃objs',Eff P objs g o r objs' q∧objs''=ins d ob objs'):=by
 have hargs:∀{x:Operand} {args:Array Operand} {ts:Array TypeId},o.op=.call {callee:=.value x,args:=args,argTypes:=ts}→¬(g x).men d∧∀y∈args.toList,¬(g y).men d:=by
  intro x args ts ho;rw[ho]at hm;exact⟨hm x (by simp[XQ]),fun y hy=>hm y (by simp only[XQ];exact List.mem_cons_of_mem _ hy)⟩
 constructor
 · intro objs' h;cases h with
   |neutral hc h=>exact .neutral hc h
   | alloc hc hdd h=>
     rename_i d' ob';have hne:d'≠d:=fun e=>hd (by simp[Qo,hc]) (by rw[hdd,e]);rw[←W2 hne];exact .alloc hc hdd h
   |read hc h=>exact .read hc (by rw[X7m hm];exact h)
   | write hc h=>
     refine .write hc ?_;rw[X6n hc hmu hs hd hm hob,h];rfl
   | call hc ho hdd hf hts hcon hown honly hflat=>
     rename_i x args ts d' f tvs fresh ob' own es;have hne:d'≠d:=fun e=>hd (by simp[Qo,hc]) (by rw[hdd,e])
     have:ins d ob (X3l d' ob' objs)=X3l d' ob' (ins d ob objs):=by
      cases ob' with
      |none=>rfl
      |some o'=>exact(W2 hne _ _ _).symm
     rw[this];exact .call hc ho hdd (by rw[X2T hob (hargs ho).1];exact hf) (by rw[X5q hob (hargs ho).2];exact hts) hcon hown honly hflat
 intro objs'' h;cases h with
 |neutral hc h=>exact⟨objs,.neutral hc h,rfl⟩
 | alloc hc hdd h=>
   rename_i d' ob';have hne:d'≠d:=fun e=>hd (by simp[Qo,hc]) (by rw[hdd,e]);exact⟨_,.alloc hc hdd h,W2 hne _ _ _⟩
 |read hc h=>exact⟨objs,.read hc (by rw[←X7m hm];exact h),rfl⟩
 | write hc h=>
   rw[X6n hc hmu hs hd hm hob]at h;simp only[Option.map_eq_some_iff]at h;obtain⟨⟨r',objs'⟩,h1,h2⟩:=h;cases h2;exact⟨objs',.write hc h1,rfl⟩
 | call hc ho hdd hf hts hcon hown honly hflat=>
   rename_i x args ts d' f tvs fresh ob' own es;have hne:d'≠d:=fun e=>hd (by simp[Qo,hc]) (by rw[hdd,e]);refine⟨X3l d' ob' objs,.call hc ho hdd (by rw[←X2T hob (hargs ho).1];exact hf) (by rw[←X5q hob (hargs ho).2];exact hts) hcon hown honly hflat,?_⟩;cases ob' with
   |none=>rfl
   |some o'=>exact W2 hne _ _ _
end
end Go.Hl
