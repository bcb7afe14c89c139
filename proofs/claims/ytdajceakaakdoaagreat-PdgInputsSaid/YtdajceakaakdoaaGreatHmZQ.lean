/- HmZQ: part of an evaluator of Go code over abstract states, proved sound over the model; used by the proof of the claimed statement. Conditions: none. -/
import Derived.Test.YtdajceakaakdoaaGreatHmZP
set_option linter.unusedSimpArgs false
set_option linter.unusedVariables false
namespace Go.Hl
open Go Go.RowKit
abbrev D3:=Int×Int×Int
def d3V (x:D3):Value:=.agg #[.int .i64 x.1,.int .i64 x.2.1,.int .i64 x.2.2]
def d3C (x:D3):List CV:=[.c (.lit (.int .i64 x.1)),.c (.lit (.int .i64 x.2.1)),.c (.lit (.int .i64 x.2.2))]
def d3M (l:List D3):List (Value×CD):=l.map fun x=>(d3V x,.lit (.bool true))
def d3T (P:Program) (t:TypeId):Bool:=match P.underlying t with
 | some (.map k _)=>match X65 P k with
   |some [true,true,true]=>true
   |_=>false
 |_=>false
section
variable {P:Program} {F:Nat→Prop} {γ γ':Nat→Value} {w w' w0:World} {B:Nat→Prop} {π:Nat→Option Value}
theorem d3T_some {t:TypeId} (h:d3T P t=true):∃k e fs,P.underlying t=some (.map k e)∧P.underlying k=some (.struct fs)∧P.stoodInHeld k=false∧Zt P fs.toList 0=some [true,true,true]:=by
 unfold d3T at h;split at h
 · rename_i k e hu;split at h
   · rename_i hf;unfold X65 at hf;split at hf
     · rename_i fs hk;split at hf
       · rename_i hc;exact⟨k,e,fs,hu,hk,hc.1,hf⟩
       cases hf
     cases hf
   cases h
 cases h
theorem d3_eqFs (a b:D3):eqFs [true,true,true] (d3C a) (d3C b)=some (decide (a=b)):=by
 obtain⟨a1,a2,a3⟩:=a;obtain⟨b1,b2,b3⟩:=b;simp only[d3C,eqFs,if_true,Option.map_some,Option.some.injEq];rw[Bool.eq_iff_iff];simp
theorem Xa1 (a:D3):Xk F γ w (d3C a) #[.int .i64 a.1,.int .i64 a.2.1,.int .i64 a.2.2]:=by
 refine⟨rfl,fun j x u hx hu=>?_⟩
 match j with
 |0=>cases hx;cases hu;exact CRel.lit _
 |1=>cases hx;cases hu;exact CRel.lit _
 |2=>cases hx;cases hu;exact CRel.lit _
 |j+3=>simp[d3C]at hx
theorem d3_equal {k:TypeId} {fs:Array Field} (hk:P.underlying k=some (.struct fs)) (hs:P.stoodInHeld k=false) (hf:Zt P fs.toList 0=some [true,true,true]) (a b:D3):(Op.equal k (d3V a) (d3V b)).run P w=.ok (decide (a=b)) w:=by
 have hfo:P.fieldsOf k=fs:=by unfold Program.fieldsOf;rw[hk]
 have ha:=Xa1 (F:=fun _=>False) (γ:=fun _=>undef) (w:=w) a;have hb:=Xa1 (F:=fun _=>False) (γ:=fun _=>undef) (w:=w) b;show(Op.equalIn 10000 k (.agg _) (.agg _)).run P w=_;rw[show(10000:Nat)=(9998+1)+1 from rfl,run_equalIn_agg w (9998+1) k _ _ (by rw[hfo];exact hk) hs,hfo];exact X2y [true,true,true] (d3C a) (d3C b) _ fs.toList 0 _ _ hf (d3_eqFs a b) rfl rfl (fun j x u h1 h2=>ha.2 j x u h1 (by simpa using h2)) (fun j x u h1 h2=>hb.2 j x u h1 (by simpa using h2))
theorem X8M {k:TypeId} {fs:Array Field} (hk:P.underlying k=some (.struct fs)) (hf:Zt P fs.toList 0=some [true,true,true]) (em:Bool) (a:D3):(Instr.checkKey em 10000 k (d3V a)).run P w=.ok () w:=by
 show(Instr.checkKey em (9998+1+1) k (d3V a)).run P w=_;generalize 9998=n;unfold Instr.checkKey;simp only[d3V,Sem.run_bind,run_underlying hk,Result.andThen_ok];rw[←Array.forIn_toList]
 have key:∀(l:List Field) (ks:List Bool) (i:Nat),Zt P l i=some ks→(∀j,j<l.length→∃m,(#[Value.int .i64 a.1,.int .i64 a.2.1,.int .i64 a.2.2]:Array Value)[i+j]? =some (.int .i64 m))→
   (forIn l PUnit.unit fun f _=>(if f.name≠ "_" then(do
     let v←part f.type #[Value.int .i64 a.1,.int .i64 a.2.1,.int .i64 a.2.2] f.offset
     Instr.checkKey em (n+1) f.type v
     pure (ForInStep.yield PUnit.unit))else pure (ForInStep.yield PUnit.unit):Sem (ForInStep PUnit))).run P w=.ok PUnit.unit w:=by
  intro l
  induction l with
  |nil=>intro ks i _ _;simp
  | cons f l ih=>
    intro ks i hks hj;unfold Zt at hks;split at hks
    · rename_i a' b' h1 h2
      have hih:=ih _ _ h2 fun j hj'=>by
       obtain⟨m,hm⟩:=hj (j+1) (by simp only[List.length_cons];omega);exact⟨m,by rw[←hm];congr 1;omega⟩
      obtain⟨m,hm⟩:=hj 0 (by simp);rw[Nat.add_zero]at hm;unfold fkind at h1;split at h1
      · rename_i hn
        have hty:(∃q,P.underlying f.type=some (.int q))∨P.underlying f.type=some .string:=by
         split at h1
         · exact .inl ⟨_,by assumption⟩
         · exact .inr (by assumption)
         cases h1
        have hp:=X0J (P:=P) (w:=w) hty hm
        have hck:(Instr.checkKey em (n+1) f.type (.int .i64 m)).run P w=.ok () w:=by
         unfold Instr.checkKey;rcases hty with⟨q,hq⟩|hq<;>simp[run_underlying hq]
        simp only[List.forIn_cons,Sem.run_bind,ne_eq,hn.1,not_false_eq_true,if_true,hn.2,hp,Result.andThen_ok,hck,Sem.run_pure];exact hih
      cases h1
    cases hks
 have hlen:fs.toList.length=3:=by
  have:∀(l:List Field) (ks:List Bool) (i:Nat),Zt P l i=some ks→l.length=ks.length:=by
   intro l
   induction l with
   |nil=>intro ks i h;cases h;rfl
   | cons f l ih=>
     intro ks i h;unfold Zt at h;split at h
     · rename_i a' b' h1 h2;cases h;simp[ih _ _ h2]
     cases h
  exact this _ _ _ hf
 have hcell:∀j,j<fs.toList.length→∃m,(#[Value.int .i64 a.1,.int .i64 a.2.1,.int .i64 a.2.2]:Array Value)[0+j]? =some (.int .i64 m):=by
  intro j hj;rw[hlen]at hj
  match j,hj with
  |0,_=>exact⟨_,rfl⟩
  |1,_=>exact⟨_,rfl⟩
  |2,_=>exact⟨_,rfl⟩
 rw[key fs.toList _ 0 hf hcell];rfl
theorem Xar {k:TypeId} {fs:Array Field} (hk:P.underlying k=some (.struct fs)) (hs:P.stoodInHeld k=false) (hf:Zt P fs.toList 0=some [true,true,true]) (x:D3):∀(es:List MapEntry) (l:List D3) (i:Nat),es.map (·.key)=l.map d3V→
  (x∉l∧(Instr.findAsking k (d3V x) es i).run P w=.ok none w)∨(x∈l∧∃(j:Nat) (v:Value) (e:MapEntry),(Instr.findAsking k (d3V x) es i).run P w=.ok (some (i+j,v)) w∧es[j]? =some e∧e.key=d3V x)
 |[],[],i,_=>.inl ⟨by simp,by simp[Instr.findAsking]⟩
 | e::es,y::l,i,h=>by
   simp only[List.map_cons,List.cons.injEq]at h;have heq:=d3_equal (w:=w) hk hs hf x y;by_cases hxy:x=y
   · subst hxy;refine .inr ⟨by simp,0,e.val,e,?_,rfl,h.1⟩;unfold Instr.findAsking;simp[h.1,heq]
   rcases Xar hk hs hf x es l (i+1) h.2 with⟨h1,h2⟩|⟨h1,j,v,e',h2,h3,h4⟩
   · refine .inl ⟨by simp[hxy,h1],?_⟩;unfold Instr.findAsking;simp[h.1,heq,hxy,h2]
   refine .inr ⟨by simp[h1],j+1,v,e',?_,by simpa using h3,h4⟩;unfold Instr.findAsking;simp only[h.1,Sem.run_bind,heq,Result.andThen_ok,hxy,decide_false,Bool.false_eq_true,if_false,h2];congr 3;omega
 |[],_::_,_,h=>by simp at h
 |_::_,[],_,h=>by simp at h
theorem Xal {k:TypeId} {fs:Array Field} (hk:P.underlying k=some (.struct fs)) (hs:P.stoodInHeld k=false) (hf:Zt P fs.toList 0=some [true,true,true]) (x:D3) (es:List MapEntry) (l:List D3) (h:es.map (·.key)=l.map d3V):
  (x∉l∧(Instr.findKey k (d3V x) es).run P w=.ok none w)∨(x∈l∧∃(j:Nat) (v:Value) (e:MapEntry),(Instr.findKey k (d3V x) es).run P w=.ok (some (j,v)) w∧es[j]? =some e∧e.key=d3V x):=by
 unfold Instr.findKey;simp only[Sem.run_bind,run_underlying hk,Result.andThen_ok];cases es with
 | nil=>
   cases l with
   |nil=>exact .inl ⟨by simp,by simp[Instr.findNow]⟩
   |cons _ _=>simp at h
 | cons e es=>
   have hn:Instr.findNow (.struct fs) (d3V x) (e::es) 0=none:=by simp[Instr.findNow,Instr.sameNow,d3V]
   rw[hn];rcases Xar (w:=w) hk hs hf x (e::es) l 0 h with h1|⟨h1,j,v,e',h2,h3⟩
   · exact .inl h1
   rw[Nat.zero_add]at h2;exact .inr ⟨h1,j,v,e',h2,h3⟩
def ins3 (l:List D3) (x:D3):List D3:=if x∈l then l else l++[x]
theorem Qs.upd3 {ops:Array Oper} {q:Nat} {o:Oper} {s:HS} {n:Nat} {t:TypeId} {m k v:Operand} {l:List D3} {x:D3} (hop:ops[q]? =some o) (hg:o.guard=none) (ho:o.op=.mapUpdate t m k v) (hok:XJ s o.dst=true) (ht:d3T P t=true)
  (hm:opd s.regs m=.v (.one (.own n))) (hl:lkp s.objs n=some (.mp (d3M l))) (hk:opd s.regs k=.v (.agg (d3C x))) (hv:opd s.regs v=lit (.bool true)):
  Qs P ops q 1 s (fun u=>u=({s with objs:=ins n (.mp (d3M (ins3 l x))) s.objs}:HS).put o.dst (.v (.one .any))):=by
 intro w0 B π F γ a w Q Xj hr hK;obtain⟨kt,e,fs,hu,hku,hst,hfk⟩:=d3T_some ht;obtain⟨b,es,clock,hγ,hB,hb,hkeys,hborn,hrel⟩:=hr.heap.ob n _ hl;have hmv:=hr.opd m;rw[hm]at hmv;have hvm:a.eval m=.map (some b):=by rw[hmv.1,hγ];rfl
 have hkv:=hr.opd k;rw[hk]at hkv
 have ek:a.eval k=d3V x:=by
  obtain⟨vs,h1,h2⟩:=hkv;rw[h1];unfold d3V;congr 1;have lit0:∀{v u:Value},Xn F γ w (.c (.lit v)) u→u=v:=fun {v u} h=>X9.lit_eq (γ:=γ) (w:=w) (F:=F) (r:=lit v) rfl h;have hsz:vs.size=3:=h2.1;apply Array.ext (by rw[hsz];rfl);intro j h3 h4
  match j,h3 with
  |0,h3=>exact lit0 (h2.2 0 _ vs[0] rfl (by simp[h3]))
  |1,h3=>exact lit0 (h2.2 1 _ vs[1] rfl (by simp[h3]))
  |2,h3=>exact lit0 (h2.2 2 _ vs[2] rfl (by simp[h3]))
  |j+3,h3=>omega
 have ev:a.eval v=.bool true:=X9.lit_eq rfl (by have:=hr.opd v;rw[hv]at this;exact this);have hkeys':es.toList.map (·.key)=l.map d3V:=by rw[hkeys];simp[d3M]
 have hlen:es.size=l.length:=by have:=congrArg List.length hkeys';simpa using this
 have hlt:=WX hb;have hBn:Blk (γ n) b:=by rw[hγ];rfl
 have hck:=X8M (w:=w) hku hfk false x;show wpOps P ops Q (q::Xj) a w;rw[wpOps_cons];unfold wpOp;rw[hop];simp only;have hwant:Region.wanted o (yielded ops a.tmps)=true:=by unfold Region.wanted;rw[hg]
 rw[hwant];simp only[if_true];refine .inl ?_;unfold Oper.wp
 have fin:∀(es':Array MapEntry) (clock':Nat),(execOp a.eval o).run P w=.ok .skip {w with heap:=w.heap.setIfInBounds b (.map es' clock')}→
   XT F γ {w with heap:=w.heap.setIfInBounds b (.map es' clock')} B (.map (some b)) (.mp (d3M (ins3 l x)))→(execOp a.eval o).run P w=.ok .skip {w with heap:=w.heap.setIfInBounds b (.map es' clock')}∧o.upon P a (fun a w=>wpOps P ops Q Xj a w) Q (.ok .skip {w with heap:=w.heap.setIfInBounds b (.map es' clock')}):=by
  intro es' clock' hrun hob;refine⟨hrun,?_⟩;rw[Oper.upon_skip];have hkeep:∀c,c≠b→(w.heap.setIfInBounds b (.map es' clock'))[c]? =w.heap[c]? :=fun c hc=>by rw[Array.getElem?_setIfInBounds_ne (Ne.symm hc)]
  have hFk:∀c,F c→(w.heap.setIfInBounds b (.map es' clock'))[c]? =w.heap[c]? :=fun c hc=>hkeep c fun e'=>hr.heap.apart n _ hl b hBn (e'▸hc);refine hK _ F γ _ _ rfl (fun _ h=>h) (fun _ h=>.inl h) ?_;refine hr.step (dst:=o.dst) (r:=.v (.one .any)) hok (F':=F) (γ':=γ) (hr.heap.wrote hl (b:=b) hBn ⟨hr.heap.below.os,hr.heap.below.tape,hr.heap.below.output,by simpa using hr.heap.below.size,fun c hc=>(hkeep c fun e'=>hB (e'▸hc)).trans (hr.heap.below.block c hc)⟩ (by simp) (fun c _ hne=>hkeep c hne) (by rw[hγ];exact hob)) trivial fun _ _ _ _ hv=>hv.mono (fun _ h=>h) hFk
 rcases Xal (w:=w) hku hst hfk x es.toList l hkeys' with⟨hx,hfind⟩|⟨hx,j0,v0,e0,hfind,he0,hk0⟩
 · have hi3:ins3 l x=l++[x]:=by unfold ins3;rw[if_neg hx]
   obtain⟨h1,h2⟩:=fin (es.push {key:=d3V x,val:=.bool true,born:=clock}) (clock+1) (by
    unfold execOp;rw[ho];simp only[hvm,ek,ev];simp[Instr.mapUpdate,run_underlying hu,MapKept.run_getObj_map hb,hck,hfind,MapKept.run_setObj_map _ hb]) (by
    refine⟨b,es.push {key:=d3V x,val:=.bool true,born:=clock},clock+1,rfl,hB,by simp[hlt],by simp[hkeys',hi3,d3M],hborn.push _ _,fun j k d e h1 h2=>?_⟩
    have hd:d=.lit (.bool true):=by
     simp only[d3M,List.getElem?_map,Option.map_eq_some_iff]at h1;obtain⟨_,_,h1⟩:=h1;cases h1;rfl
    subst hd;rw[Array.getElem?_push]at h2;split at h2
    · cases h2;exact CRel.lit _
    rename_i hj;have hjl:j<l.length:=by rw[←hlen];exact(Array.getElem?_eq_some_iff.1 h2).1
    have h3:=hrel j (d3V l[j]) (.lit (.bool true)) e (by simp[d3M,hjl]) h2;rw[show e.val=.bool true from X9.lit_eq (γ:=γ) (w:=w) (F:=F) (r:=lit (.bool true)) rfl h3]
    exact CRel.lit _)
   rw[h1];exact h2
 have hi3:ins3 l x=l:=by unfold ins3;rw[if_pos hx]
 have he0':es[j0]? =some e0:=by simpa using he0
 have hstay:(Instr.keyThatStays (((es[j0]?).map (·.key)).getD (d3V x)) (d3V x)).run P w=.ok (d3V x) w:=by
  rw[he0',Option.map_some,Option.getD_some,hk0]
  have:Instr.sameBits 10000 (d3V x) (d3V x)=true:=by
   show Instr.sameBits (9999+1) (d3V x) (d3V x)=true;simp[d3V,Instr.sameBits]
  simp[Instr.keyThatStays,this]
 obtain⟨h1,h2⟩:=fin (es.modify j0 fun e=>{e with key:=d3V x,val:=.bool true}) clock (by
  unfold execOp;rw[ho];simp only[hvm,ek,ev];simp[Instr.mapUpdate,run_underlying hu,MapKept.run_getObj_map hb,hck,hfind,hstay,MapKept.run_setObj_map _ hb]) (by
  refine⟨b,es.modify j0 fun e=>{e with key:=d3V x,val:=.bool true},clock,rfl,hB,by simp[hlt],?_,hborn.modify _ _ fun _=>rfl,fun j k d e h1 h2=>?_⟩
  · rw[hi3,show(d3M l).map (·.1)=l.map d3V by simp[d3M],←hkeys'];apply List.ext_getElem?;intro j;simp only[List.getElem?_map,Array.getElem?_toList,Array.getElem?_modify];by_cases hj:j0=j
    · subst hj;rw[if_pos rfl,he0'];simp[hk0]
    rw[if_neg hj]
  rw[hi3]at h1
  have hd:d=.lit (.bool true):=by
   simp only[d3M,List.getElem?_map,Option.map_eq_some_iff]at h1;obtain⟨_,_,h1⟩:=h1;cases h1;rfl
  subst hd;rw[Array.getElem?_modify]at h2;by_cases hj:j0=j
  · subst hj;rw[if_pos rfl,he0']at h2;cases h2;exact CRel.lit _
  rw[if_neg hj]at h2;have hjl:j<l.length:=by rw[←hlen];exact(Array.getElem?_eq_some_iff.1 h2).1
  have h3:=hrel j (d3V l[j]) (.lit (.bool true)) e (by simp[d3M,hjl]) h2;rw[show e.val=.bool true from X9.lit_eq (γ:=γ) (w:=w) (F:=F) (r:=lit (.bool true)) rfl h3]
  exact CRel.lit _)
 rw[h1];exact h2
theorem RunsN.upd3 {ops:Array Oper} {l0:List Oper} {o:Oper} {s:HS} {K:HS→Prop} {n:Nat} {t:TypeId} {m k v:Operand} {l:List D3} {x:D3} (hg:o.guard=none) (ho:o.op=.mapUpdate t m k v) (hok:XJ s o.dst=true) (ht:d3T P t=true)
  (hm:opd s.regs m=.v (.one (.own n))) (hl:lkp s.objs n=some (.mp (d3M l))) (hk:opd s.regs k=.v (.agg (d3C x))) (hv:opd s.regs v=lit (.bool true))
  (hr:RunsN P ops l0 (({s with objs:=ins n (.mp (d3M (ins3 l x))) s.objs}:HS).put o.dst (.v (.one .any))) K):RunsN P ops (o::l0) s K:=by
 refine .many (M:=fun u=>u=_) 1 (fun q hq=>?_) fun u hu=>by rw[hu];exact hr
 exact Qs.upd3 (hq 0 o rfl) hg ho hok ht hm hl hk hv
theorem le_d3 {x:HS} (d:Nat) (y:D3) (h:lkp x.regs d=some (.v (.one (.c (.lit (d3V y)))))):le x {x with regs:=ins d (.v (.agg (d3C y))) x.regs}:=by
 intro w0 B π F γ a w hr;refine⟨F,γ,fun _ h=>h,fun _ h=>.inl h,⟨hr.heap,hr.defers,hr.nt,fun k r hk=>?_⟩⟩;rw[XL]at hk;split at hk
 · rename_i e;subst e;cases hk;have h1:=hr.regs _ _ h;have h2:=X9.lit_eq rfl h1;rw[h2];exact⟨_,rfl,Xa1 y⟩
 exact hr.regs k r hk
end
end Go.Hl
