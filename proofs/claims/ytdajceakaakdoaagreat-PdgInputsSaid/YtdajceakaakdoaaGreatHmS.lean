/- HmS: part of an evaluator of Go code over abstract states, proved sound over the model; used by the proof of the claimed statement. Conditions: none. -/
import Derived.Test.YtdajceakaakdoaaGreatHmR
set_option linter.unusedSimpArgs false
set_option linter.unusedVariables false
namespace Go.Hl
open Go Go.RowKit
section
variable {P:Program} {ops:Array Oper}
def lkpN (hs:List (Nat×Nat)) (k:Nat):Option Nat:=
 match lkp hs k with
 |some n=>if n=2000000 then none else some n
 |none=>none
def QD (hs:List (Nat×Nat)) (o:Oper):Option (Nat×Nat):=
 match o.op with
 | .load _ (.tmp k)=>(lkpN hs k).map fun n=>(k,n)
 | .store _ (.tmp k) _=>(lkpN hs k).map fun n=>(k,n)
 |_=>none
def dataX (hs:List (Nat×Nat)) (x:Operand):Bool:=
 match x with
 | .tmp k=>lkp hs k==some 2000000
 |_=>false
def Xa8 (op:Op):Bool:=
 match Q7 op with
 | .read=>true
 |_=>false
def X4A (hs:List (Nat×Nat)) (o:Oper):Bool:= !hs.isEmpty&&(Xa8 o.op&&(XQ o.op).all (dataX hs))
def HokD (hs:List (Nat×Nat)) (o:Oper) (g:Operand→RV):Prop:=X4A hs o=true→∀x∈XQ o.op,∀n,¬(g x).men n
def Hok (hs:List (Nat×Nat)) (o:Oper) (g:Operand→RV):Prop:=∀k n,QD hs o=some (k,n)→∃off,g (.tmp k)=.v (.one (.at_ n off))
def X2t:Op→Bool
 | .load _ _=>true
 |_=>false
def X0c:Op→Bool
 | .store _ _ _=>true
 |_=>false
def swB (hs:List (Nat×Nat)) (a b:Oper):Bool:=
 match QD hs a,QD hs b with
 |some (_,n),some (_,m)=>n !=m&&((X2t a.op&&X0c b.op)||(X0c a.op&&X2t b.op))
 |some _,none=>X2t a.op&&X3M b.op
 |none,some _=>X3M a.op&&X2t b.op
 |_,_=>false
def pairH (hs:List (Nat×Nat)) (a b:Oper):Bool:=X0y a b||swB hs a b
def dsB (hs:List (Nat×Nat)) (a b:Oper):Bool:=(X4A hs a&&X0c b.op)||(X0c a.op&&X4A hs b)
def X2M (hs:List (Nat×Nat)) (ops:Array Oper) (a b:Oper):Bool:=
 !WG a.dst b.dst&& !X6J a.dst (X3U ops b)&& !X6J b.dst (X3U ops a)&&(pairH hs a b||dsB hs a b)
theorem X8S {O:List (Nat×Ob)} {g:Operand→RV} {t:TypeId} {x:Operand} {r:RV} {n off:Nat} (h:evR P O g (.load t x)=some r) (hg:g x=.v (.one (.at_ n off))):∃cs,lkp O n=some (.box cs):=by
 simp only[evR,hg]at h;split at h
 · rename_i h1 h2;cases h2;split at h
   · rename_i cs hl;exact⟨cs,hl⟩
   cases h
 · rename_i h1 h2;cases h2
 · rename_i h1 h2;cases h2
 · rename_i h1 h2;cases h2
 cases h
theorem X4s {α:Type} {n m:Nat} {l:List (Nat×α)} (h:m≠n):lkp (del n l) m=lkp l m:=by rw[X01,if_neg h]
theorem X5E {O O' : List (Nat×Ob)} {g:Operand→RV} {dst:Option Nat} {op:Op} {r:RV} (ha:X3M op=true) (h:evW P O g dst op=some (r,O')) (n:Nat):
  (∀cs,(∀d,dst=some d→d≠n)→lkp O n=some (.box cs)→lkp O' n=lkp O n)∧(∀cs,lkp O' n=some (.box cs)→lkp O' n=lkp O n):=by
 cases op with
 | call c =>
   obtain⟨callee,args,ts⟩:=c;cases callee with
   | builtin b =>
     cases b<;>simp only[X3M]at ha<;>try cases ha
     simp only[evW]at h;cases dst with
     |none=>cases h
     | some d =>
       have fin:∀(X:Ob) (l:List (Nat×Ob)),(∀cs,X≠ .box cs)→(∀cs,lkp O n=some (.box cs)→lkp l n=lkp O n)→(∀cs,lkp l n=some (.box cs)→lkp l n=lkp O n)→O'=ins d X l→
         (∀cs,(∀d',some d=some d'→d'≠n)→lkp O n=some (.box cs)→lkp O' n=lkp O n)∧(∀cs,lkp O' n=some (.box cs)→lkp O' n=lkp O n):=by
        intro X l hX h1 h2 hO;subst hO;refine⟨fun cs hd hn=>?_,fun cs hn=>?_⟩
        · rw[Xw (Ne.symm (hd d rfl))];exact h1 cs hn
        rw[XL]at hn⊢;split
        · rename_i e;rw[if_pos e]at hn;cases hn;exact absurd rfl (hX cs)
        rename_i e;rw[if_neg e]at hn;exact h2 cs hn
       have hdel:∀(m:Nat) (l:List (Nat×Ob)),(∀cs,lkp l m≠some (.box cs))→(∀cs,lkp l n=some (.box cs)→lkp (del m l) n=lkp l n)∧(∀cs,lkp (del m l) n=some (.box cs)→lkp (del m l) n=lkp l n):=by
        intro m l hm;refine⟨fun cs hn=>X4s fun e=>?_,fun cs hn=>X4s fun e=>?_⟩
        · subst e;exact hm cs hn
        subst e;rw[X01,if_pos rfl]at hn;cases hn
       split at h
       · rename_i heq _ _ _ _;cases heq;split at h
         · split at h
           · split at h
             · split at h
               · rename_i O2 hmat;cases h;unfold Zg at hmat;split at hmat
                 · rename_i m _;split at hmat
                   · rename_i hl;split at hmat
                     · split at hmat
                       · rename_i q _;split at hmat
                         · rename_i hr;split at hmat
                           · rename_i hc;cases hmat;have d1:=hdel m O (fun cs e=>by rw[hl]at e;cases e)
                             have hq:∀cs,lkp (del m O) q≠some (.box cs):=by
                              intro cs e;rw[X01]at e;split at e
                              · cases e
                              rw[hr]at e;cases e
                             have d2:=hdel q (del m O) hq;refine fin _ _ (by simp) (fun cs hn=>?_) (fun cs hn=>?_) rfl
                             · have e1:=d1.1 cs hn;exact(d2.1 cs (e1.trans hn)).trans e1
                             have e2:=d2.2 cs hn;exact e2.trans (d1.2 cs (e2.symm.trans hn))
                           cases hmat
                         cases hmat
                       cases hmat
                     cases hmat
                   cases hmat
                 cases hmat
               split at h
               · rename_i m rows more hb hm;split at h
                 · cases h;cases m with
                   |none=>exact fin _ O (by simp) (fun _ _=>rfl) (fun _ _=>rfl) rfl
                   | some m=>
                     have hml:∀cs,lkp O m≠some (.box cs):=by
                      intro cs e;unfold WJ at hb;split at hb
                      · cases hb
                      · split at hb
                        · rename_i hl;split at hb
                          · cases hb;rw[hl]at e;cases e
                          cases hb
                        cases hb
                      cases hb
                     have d1:=hdel m O hml;exact fin _ _ (by simp) d1.1 d1.2 rfl
                 cases h
               cases h
             cases h
           cases h
         cases h
       cases h
   |_=>simp[X3M]at ha
 |_=>simp[X3M]at ha
theorem X6y {O O':List (Nat×Ob)} {g:Operand→RV} {dst:Option Nat} {t:TypeId} {x y:Operand} {r:RV} {m off:Nat} (h:evW P O g dst (.store t x y)=some (r,O')) (hg:g x=.v (.one (.at_ m off))) {n:Nat} (hne:m≠n):
  lkp O' n=lkp O n:=by
 simp only[evW,hg]at h;split at h
 · rename_i h1;cases h1;split at h
   · split at h
     · split at h
       · cases h;exact Xw (Ne.symm hne) _ _
       cases h
     cases h
   cases h
 · rename_i h1;cases h1
 · rename_i h1;cases h1
 cases h
theorem eff_swap {hs:List (Nat×Nat)} {O Oj Oij:List (Nat×Ob)} {gj gi:Operand→RV} {j i:Oper} {rj ri:RV} {qj qi:Bool} (hp:pairH hs j i=true) (hdst:WG j.dst i.dst=false) (hj:Eff P O gj j rj Oj qj) (hi:Eff P Oj gi i ri Oij qi)
  (nj:Qo j=true→∀d,j.dst=some d→(∀x,¬(gi x).men d)∧QG O=true∧∀n o,(n,o)∈O→n≠d∧¬o.men d) (ni:Qo i=true→∀d,i.dst=some d→(∀x,¬(gj x).men d)∧QG O=true∧∀n o,(n,o)∈O→n≠d∧¬o.men d)
  (hHj:Hok hs j gj) (hHi:Hok hs i gi):
  ∃Oi,Eff P O gi i ri Oi qi∧Eff P Oi gj j rj Oij qj:=by
 have hne:∀a b,j.dst=some a→i.dst=some b→a≠b:=by
  intro a b ha hb e;subst e;simp[WG,ha,hb]at hdst
 have hmu:∀o:Oper,(Q7 o.op=.alloc∨Q7 o.op=.read∨Q7 o.op=.call)→X16 o.op=false:=by
  intro o ho;cases h:o.op with
  |mapUpdate t m k v=>rw[h]at ho;simp[Q7]at ho
  |_=>rfl
 -- 'j' makes an object, 'i' looks past it
 have A:∀(d:Nat) (ob:Ob),Q7 j.op=.alloc→j.dst=some d→evA P gj d j.op=some (rj,some ob)→qj=false→Oj=ins d ob O→X16 i.op=false→∃Oi,Eff P O gi i ri Oi qi∧Eff P Oi gj j rj Oij qj:=by
  intro d ob hc hd h hq hO ha;subst hO;subst hq;obtain⟨n1,n2,n3⟩:=nj (by simp[Qo,hc]) d hd;obtain⟨Oi,h1,rfl⟩:=(X71 (P:=P) (objs:=O) (g:=gi) (o:=i) (r:=ri) (q:=qi) (d:=d) (ob:=ob) ha n2 (fun _ e=>hne d d hd e rfl) (fun x _=>n1 x) n3).2 _ hi;exact⟨Oi,h1,.alloc hc hd h⟩
 have Bq:Q7 i.op=.alloc→X16 j.op=false→∃Oi,Eff P O gi i ri Oi qi∧Eff P Oi gj j rj Oij qj:=by
  intro hc ha;cases hi with
  | alloc hc' hd h=>
    rename_i d ob;obtain⟨n1,n2,n3⟩:=ni (by simp[Qo,hc]) d hd;exact⟨_,.alloc hc' hd h,(X71 (P:=P) (objs:=O) (g:=gj) (o:=j) (r:=rj) (q:=qj) (d:=d) (ob:=ob) ha n2 (fun _ e=>hne d d e hd rfl) (fun x _=>n1 x) n3).1 _ hj⟩
  |neutral h=>rw[hc]at h;cases h
  |read h=>rw[hc]at h;cases h
  |write h=>rw[hc]at h;cases h
  |call h=>rw[hc]at h;cases h
 have nopair:X0y j i=false→swB hs j i=true:=by
  intro h;unfold pairH at hp;rw[h]at hp;simpa using hp
 have hcl:∀o:Oper,X2t o.op=true→∃t x,o.op=.load t x:=by
  intro o h;cases ho:o.op with
  |load t x=>exact⟨t,x,rfl⟩
  |_=>rw[ho]at h;cases h
 have hcs:∀o:Oper,X0c o.op=true→∃t x y,o.op=.store t x y:=by
  intro o h;cases ho:o.op with
  |store t x y=>exact⟨t,x,y,rfl⟩
  |_=>rw[ho]at h;cases h
 have hld:∀(o:Oper) (g:Operand→RV) (k n:Nat),Hok hs o g→QD hs o=some (k,n)→X2t o.op=true→∃t off,o.op=.load t (.tmp k)∧g (.tmp k)=.v (.one (.at_ n off)):=by
  intro o g k n hH hh hl;obtain⟨off,hg⟩:=hH k n hh;obtain⟨t,x,ho⟩:=hcl o hl;unfold QD at hh;rw[ho]at hh;cases x with
  | tmp k'=>
    simp only[Option.map_eq_some_iff]at hh;obtain⟨n',_,e⟩:=hh;cases e;exact⟨t,off,ho,hg⟩
  |_=>cases hh
 have hst:∀(o:Oper) (g:Operand→RV) (k n:Nat),Hok hs o g→QD hs o=some (k,n)→X0c o.op=true→∃t y off,o.op=.store t (.tmp k) y∧g (.tmp k)=.v (.one (.at_ n off)):=by
  intro o g k n hH hh hl;obtain⟨off,hg⟩:=hH k n hh;obtain⟨t,x,y,ho⟩:=hcs o hl;unfold QD at hh;rw[ho]at hh;cases x with
  | tmp k'=>
    simp only[Option.map_eq_some_iff]at hh;obtain⟨n',_,e⟩:=hh;cases e;exact⟨t,y,off,ho,hg⟩
  |_=>cases hh
 have clsL:∀o:Oper,X2t o.op=true→Q7 o.op=.read:=by intro o h;obtain⟨t,x,ho⟩:=hcl o h;rw[ho];rfl
 have clsS:∀o:Oper,X0c o.op=true→Q7 o.op=.write:=by intro o h;obtain⟨t,x,y,ho⟩:=hcs o h;rw[ho];rfl
 -- a block is read, another thing is written
 have rw1:Q7 j.op=.read→Q7 i.op=.write→swB hs j i=true→evR P O gj j.op=some rj→evW P O gi i.dst i.op=some (ri,Oij)→evR P Oij gj j.op=some rj:=by
  intro hcj hci hsw hr hw;unfold swB at hsw
  have fin:∀t k n off,j.op=.load t (.tmp k)→gj (.tmp k)=.v (.one (.at_ n off))→lkp Oij n=lkp O n→evR P Oij gj j.op=some rj:=by
   intro t k n off hop hg hl;rw[←hr,hop];refine X37 fun x hx m hm=>?_;simp only[XQ,List.mem_singleton]at hx;subst hx;rw[hg]at hm;cases(show n=m from hm);exact hl
  split at hsw
  · rename_i k n k' m hhj hhi;simp only[Bool.and_eq_true,bne_iff_ne,Bool.or_eq_true]at hsw;obtain⟨hnm,h|h⟩:=hsw
    · obtain⟨t,off,hop,hg⟩:=hld j gj k n hHj hhj h.1;obtain⟨t',y,off',hop',hg'⟩:=hst i gi k' m hHi hhi h.2;rw[hop']at hw;exact fin t k n off hop hg (X6y hw hg' (Ne.symm hnm))
    rw[clsL i h.2]at hci;cases hci
  · rename_i q hhj hhi;obtain⟨k,n⟩:=q;simp only[Bool.and_eq_true]at hsw;obtain⟨t,off,hop,hg⟩:=hld j gj k n hHj hhj hsw.1;rw[hop]at hr;obtain⟨cs,hbox⟩:=X8S hr hg;rw[←hop]at hr;refine fin t k n off hop hg ((X5E hsw.2 hw n).1 cs (fun d hd e=>?_) hbox);have hn:Qo i=true:=by simp[Qo,hci]
    have:=(ni hn d hd).1 (.tmp k);rw[hg]at this;exact this e.symm
  · simp only[Bool.and_eq_true]at hsw;rename_i q hhj hhi;rw[clsL i hsw.2]at hci;cases hci
  cases hsw
 have wr1:Q7 j.op=.write→Q7 i.op=.read→swB hs j i=true→evW P O gj j.dst j.op=some (rj,Oj)→evR P Oj gi i.op=some ri→evR P O gi i.op=some ri:=by
  intro hcj hci hsw hw hr;unfold swB at hsw
  have fin:∀t k n off,i.op=.load t (.tmp k)→gi (.tmp k)=.v (.one (.at_ n off))→lkp O n=lkp Oj n→evR P O gi i.op=some ri:=by
   intro t k n off hop hg hl;rw[←hr,hop];refine X37 fun x hx m hm=>?_;simp only[XQ,List.mem_singleton]at hx;subst hx;rw[hg]at hm;cases(show n=m from hm);exact hl
  split at hsw
  · rename_i k n k' m hhj hhi;simp only[Bool.and_eq_true,bne_iff_ne,Bool.or_eq_true]at hsw;obtain⟨hnm,h|h⟩:=hsw
    · rw[clsL j h.1]at hcj;cases hcj
    obtain⟨t,off,hop,hg⟩:=hld i gi k' m hHi hhi h.2;obtain⟨t',y,off',hop',hg'⟩:=hst j gj k n hHj hhj h.1;rw[hop']at hw;exact fin t k' m off hop hg (X6y hw hg' hnm).symm
  · simp only[Bool.and_eq_true]at hsw;rename_i q hhj hhi;rw[clsL j hsw.1]at hcj;cases hcj
  · rename_i q hhj hhi;obtain⟨k,n⟩:=q;simp only[Bool.and_eq_true]at hsw;obtain⟨t,off,hop,hg⟩:=hld i gi k n hHi hhi hsw.2;rw[hop]at hr;obtain⟨cs,hbox⟩:=X8S hr hg;rw[←hop]at hr;exact fin t k n off hop hg ((X5E hsw.1 hw n).2 cs hbox).symm
  cases hsw
 cases hj with
 |neutral hc h=>exact⟨Oij,hi,.neutral hc h⟩
 | alloc hc hd h=>
   cases hi with
   |neutral hc' h'=>exact⟨O,.neutral hc' h',.alloc hc hd h⟩
   |alloc hc' hd' h'=>exact A _ _ hc hd h rfl rfl (hmu i (by simp[hc']))
   |read hc' h'=>exact A _ _ hc hd h rfl rfl (hmu i (by simp[hc']))
   |call hc' ho hd' hf hts hcon hown honly hflat=>exact A _ _ hc hd h rfl rfl (hmu i (by simp[hc']))
   | write hc' h'=>
     refine A _ _ hc hd h rfl rfl ?_;cases hb:X0y j i with
     |true=>simpa only[X0y,hc,hc',Bool.not_eq_true']using hb
     | false=>
       have:=nopair hb;cases hm:X16 i.op with
       |false=>rfl
       | true=>
         simp only[X0y,hc,hc',hm]at hb
         have hh:QD hs i=none:=by
          unfold QD;cases ho:i.op with
          |mapUpdate t m k v=>rfl
          |_=>first|rfl|(rw[ho]at hm;cases hm)
         have hia:X3M i.op=false:=by
          cases ho:i.op with
          |mapUpdate t m k v=>rfl
          |_=>first|rfl|(rw[ho]at hm;cases hm)
         unfold swB at this;rw[hh]at this;split at this
         · rename_i h1;cases h1
         · rw[hia]at this;simp at this
         · rename_i h1;cases h1
         cases this
 | read hc h=>
   have hia:=hmu j (by simp[hc]);cases hi with
   |neutral hc' h'=>exact⟨_,.neutral hc' h',.read hc h⟩
   |alloc hc' hd' h'=>exact Bq hc' hia
   |read hc' h'=>exact⟨_,.read hc' h',.read hc h⟩
   | call hc' ho hd' hf hts hcon hown honly hflat=>
     rename_i x args ts d f tvs fresh ob own es;refine⟨_,.call hc' ho hd' hf hts hcon hown honly hflat,?_⟩;cases ob with
     |none=>exact .read hc h
     | some o'=>
       obtain⟨n1,n2,n3⟩:=ni (by simp[Qo,hc']) d hd';exact(X71 (P:=P) (objs:=O) (g:=gj) (o:=j) (r:=rj) (q:=true) (d:=d) (ob:=o') hia n2 (fun _ e=>hne d d e hd' rfl) (fun x _=>n1 x) n3).1 _ (.read hc h)
   | write hc' h'=>
     have hsw:=nopair (by simp[X0y,hc,hc']);exact⟨_,.write hc' h',.read hc (rw1 hc hc' hsw h h')⟩
 | write hc h=>
   cases hi with
   |neutral hc' h'=>exact⟨_,.neutral hc' h',.write hc h⟩
   | alloc hc' hd' h'=>
     refine Bq hc' ?_;cases hb:X0y j i with
     |true=>simpa only[X0y,hc,hc',Bool.not_eq_true']using hb
     | false=>
       have:=nopair hb;cases hm:X16 j.op with
       |false=>rfl
       | true=>
         have hh:QD hs j=none:=by
          unfold QD;cases ho:j.op with
          |mapUpdate t m k v=>rfl
          |_=>first|rfl|(rw[ho]at hm;cases hm)
         have hia:X3M j.op=false:=by
          cases ho:j.op with
          |mapUpdate t m k v=>rfl
          |_=>first|rfl|(rw[ho]at hm;cases hm)
         unfold swB at this;rw[hh]at this;split at this
         · rename_i h1 _;cases h1
         · rename_i h1 _;cases h1
         · rw[hia]at this;simp at this
         cases this
   | read hc' h'=>
     have hsw:=nopair (by simp[X0y,hc,hc']);exact⟨_,.read hc' (wr1 hc hc' hsw h h'),.write hc h⟩
   | write hc' h'=>
     have hsw:=nopair (by simp[X0y,hc,hc']);exfalso;unfold swB at hsw;split at hsw
     · simp only[Bool.and_eq_true,Bool.or_eq_true]at hsw;rcases hsw.2 with h|h
       · rw[clsL j h.1]at hc;cases hc
       rw[clsL i h.2]at hc';cases hc'
     · simp only[Bool.and_eq_true]at hsw;rw[clsL j hsw.1]at hc;cases hc
     · simp only[Bool.and_eq_true]at hsw;rw[clsL i hsw.2]at hc';cases hc'
     cases hsw
   | call hc' ho hd' hf hts hcon hown honly hflat=>
     have hsw:=nopair (by simp[X0y,hc,hc']);exfalso;unfold swB at hsw;have hop:QD hs i=none:=by unfold QD;rw[ho]
     rw[hop]at hsw;split at hsw
     · rename_i h1;cases h1
     · simp only[Bool.and_eq_true]at hsw;rw[clsL j hsw.1]at hc;cases hc
     · rename_i h1;cases h1
     cases hsw
 | call hc ho hd hf hts hcon hown honly hflat=>
   rename_i x args ts d f tvs fresh ob own es;have hia:=hmu j (by simp[hc]);have hj:Eff P O gj j rj (X3l d ob O) ob.isNone:=.call hc ho hd hf hts hcon hown honly hflat;have hoj:QD hs j=none:=by unfold QD;rw[ho]
   have haj:X3M j.op=false:=by rw[ho];rfl
   have noj:∀o:Oper,swB hs j o=true→False:=by
    intro o hsw;unfold swB at hsw;rw[hoj]at hsw;split at hsw
    · rename_i h1 _;cases h1
    · rename_i h1 _;cases h1
    · rw[haj]at hsw;simp at hsw
    cases hsw
   cases hi with
   |neutral hc' h'=>exact⟨O,.neutral hc' h',hj⟩
   |alloc hc' hd' h'=>exact Bq hc' hia
   | read hc' h'=>
     refine⟨O,?_,hj⟩;cases ob with
     |none=>exact .read hc' h'
     | some o'=>
       have:=X7m (P:=P) (g:=gi) (d:=d) (ob:=o') (objs:=O) (op:=i.op) fun x _=>(nj (by simp[Qo,hc]) d hd).1 x;refine .read hc' ?_;rw[←this];exact h'
   |write hc' h'=>exact(noj i (nopair (by simp[X0y,hc,hc']))).elim
   |call hc' ho' hd' hf' hts' hcon' hown' honly' hflat'=>exact(noj i (nopair (by simp[X0y,hc,hc']))).elim
theorem Xc0 {hs:List (Nat×Nat)} {O Oj Oij:List (Nat×Ob)} {gj gi:Operand→RV} {j i:Oper} {rj ri:RV} {qj qi:Bool} (hp:(pairH hs j i||dsB hs j i)=true) (hdst:WG j.dst i.dst=false) (hj:Eff P O gj j rj Oj qj) (hi:Eff P Oj gi i ri Oij qi)
  (nj:Qo j=true→∀d,j.dst=some d→(∀x,¬(gi x).men d)∧QG O=true∧∀n o,(n,o)∈O→n≠d∧¬o.men d) (ni:Qo i=true→∀d,i.dst=some d→(∀x,¬(gj x).men d)∧QG O=true∧∀n o,(n,o)∈O→n≠d∧¬o.men d)
  (hHj:Hok hs j gj) (hHi:Hok hs i gi) (hDj:HokD hs j gj) (hDi:HokD hs i gi):
  ∃Oi,Eff P O gi i ri Oi qi∧Eff P Oi gj j rj Oij qj:=by
 rw[Bool.or_eq_true]at hp;rcases hp with hp|hp
 · exact eff_swap hp hdst hj hi nj ni hHj hHi
 have hrd:∀o:Oper,X4A hs o=true→Q7 o.op=.read:=by
  intro o h;simp only[X4A,Bool.and_eq_true]at h;have h:=h.2.1;unfold Xa8 at h;split at h
  · assumption
  cases h
 have hwr:∀o:Oper,X0c o.op=true→Q7 o.op=.write:=by
  intro o h;cases ho:o.op with
  |store t x y=>rfl
  |_=>rw[ho]at h;cases h
 simp only[dsB,Bool.or_eq_true,Bool.and_eq_true]at hp;rcases hp with⟨hd,hst⟩|⟨hst,hd⟩
 · have e1:=hrd j hd;have e2:=hwr i hst;cases hj with
   |neutral hc h=>rw[e1]at hc;cases hc
   |alloc hc=>rw[e1]at hc;cases hc
   |write hc=>rw[e1]at hc;cases hc
   |call hc=>rw[e1]at hc;cases hc
   | read hc h=>
     cases hi with
     |neutral hc'=>rw[e2]at hc';cases hc'
     |alloc hc'=>rw[e2]at hc';cases hc'
     |read hc'=>rw[e2]at hc';cases hc'
     |call hc'=>rw[e2]at hc';cases hc'
     | write hc' h'=>
       exact⟨_,.write hc' h',.read hc (by rw[X37 (fun x hx n hn=>absurd hn (hDj hd x hx n))];exact h)⟩
 have e1:=hwr j hst;have e2:=hrd i hd;cases hj with
 |neutral hc h=>rw[e1]at hc;cases hc
 |alloc hc=>rw[e1]at hc;cases hc
 |read hc=>rw[e1]at hc;cases hc
 |call hc=>rw[e1]at hc;cases hc
 | write hc h=>
   cases hi with
   |neutral hc'=>rw[e2]at hc';cases hc'
   |alloc hc'=>rw[e2]at hc';cases hc'
   |write hc'=>rw[e2]at hc';cases hc'
   |call hc'=>rw[e2]at hc';cases hc'
   | read hc' h'=>
     exact⟨_,.read hc' (by rw[←X37 (fun x hx n hn=>absurd hn (hDi hd x hx n))];exact h'),.write hc h⟩
theorem Zy {o:Oper} {dst:Option Nat} {r:RV} {regs:List (Nat×RV)} (h:X6J dst (X3U ops o)=false):∀x∈XQ o.op,opd (WI dst r regs) x=opd regs x:=by
 cases dst with
 |none=>exact fun _ _=>rfl
 | some d=>
   refine opd_ins ?_;intro hm;simp only[X6J,X3U]at h;have:(Xag ops o++X2G (XQ o.op)).contains d=true:=by simp[hm]
   rw[this]at h;cases h
theorem X3X {o:Oper} {dst:Option Nat} {r:RV} {s:HS} {objs:List (Nat×Ob)} (h:X6J dst (X3U ops o)=false):Za ops o {s with regs:=WI dst r s.regs,objs:=objs}=Za ops o s:=by
 cases dst with
 |none=>rfl
 | some d=>
   unfold Za;cases hg:o.guard with
   |none=>rfl
   | some p=>
     obtain⟨k,want⟩:=p;simp only;cases hd:(ops[k]?).bind (·.dst)with
     |none=>rfl
     | some e=>
       simp only
       have:e≠d:=by
        rintro rfl;simp only[X6J,X3U,Xag,hg,hd]at h;simp at h
       simp only[WI];rw[Xw this]
theorem Xcc {a b:Option Nat} (h:WG a b=false) (x y:RV) (l:List (Nat×RV)):WI a x (WI b y l)=WI b y (WI a x l):=by
 cases a with
 |none=>rfl
 | some a=>
   cases b with
   |none=>rfl
   | some b=>
     refine W2 ?_ x y l;rintro rfl;simp[WG]at h
theorem X7y (a b:Option Nat):WG a b=WG b a:=by
 cases a<;>cases b<;>simp[WG,Bool.beq_comm]
def isAt (n:Nat) (r:RV):Prop:=∃off,r=.v (.one (.at_ n off))∨∃b,r=.v (.one (.gd b (.at_ n off)))
def HokW (hs:List (Nat×Nat)) (o:Oper) (g:Operand→RV):Prop:=∀k n,QD hs o=some (k,n)→isAt n (g (.tmp k))
def HokS (hs:List (Nat×Nat)) (o:Oper) (s:HS):Prop:=HokW hs o (opd s.regs)∧HokD hs o (opd s.regs)
theorem Xap {hs:List (Nat×Nat)} {o:Oper} {s:HS} (h:HokW hs o (opd s.regs)) {b q:Bool} {st fin:RV→RV} (hw:Way b q st fin):HokW hs o (fun x=>st (opd s.regs x)):=by
 intro k n hh;obtain⟨off,hg⟩:=h k n hh;refine⟨off,?_⟩;rcases hw with⟨_,rfl,_⟩|⟨_,rfl,_⟩
 · exact hg
 rcases hg with hg|⟨b',hg⟩
 · simp only[hg];exact .inl rfl
 simp only[hg,ZH,ungd];split
 · exact .inl rfl
 exact .inr ⟨_,rfl⟩
theorem X5h {hs:List (Nat×Nat)} {o:Oper} {g:Operand→RV} {O O':List (Nat×Ob)} {r:RV} {q:Bool} (h:HokW hs o g) (he:Eff P O g o r O' q):Hok hs o g:=by
 intro k n hh;obtain⟨off,hg|⟨b,hg⟩⟩:=h k n hh
 · exact⟨off,hg⟩
 exfalso;unfold QD at hh;split at hh
 · rename_i t k' ho;simp only[Option.map_eq_some_iff]at hh;obtain⟨_,_,e⟩:=hh;cases e;cases he with
   |neutral hc=>rw[ho]at hc;cases hc
   |alloc hc=>rw[ho]at hc;cases hc
   |read hc h=>rw[ho]at h;simp only[evR,hg]at h;split at h<;>simp_all
   |write hc=>rw[ho]at hc;cases hc
   |call hc=>rw[ho]at hc;cases hc
 · rename_i t k' y ho;simp only[Option.map_eq_some_iff]at hh;obtain⟨_,_,e⟩:=hh;cases e;cases he with
   |neutral hc=>rw[ho]at hc;cases hc
   |alloc hc=>rw[ho]at hc;cases hc
   |read hc=>rw[ho]at hc;cases hc
   |write hc h=>rw[ho]at h;simp only[evW,hg]at h;split at h<;>simp_all
   |call hc=>rw[ho]at hc;cases hc
 cases hh
theorem X5D {hs:List (Nat×Nat)} {o:Oper} {k n:Nat} (h:QD hs o=some (k,n)):Operand.tmp k∈XQ o.op:=by
 unfold QD at h;split at h
 · rename_i ho;simp only[Option.map_eq_some_iff]at h;obtain⟨_,_,e⟩:=h;cases e;rw[ho];simp[XQ]
 · rename_i ho;simp only[Option.map_eq_some_iff]at h;obtain⟨_,_,e⟩:=h;cases e;rw[ho];simp[XQ]
 cases h
theorem stp_swap {hs:List (Nat×Nat)} {j i:Oper} {s s1 s2:HS} (hx:X2M hs ops j i=true) (hj:Stp P ops j s s1) (hi:Stp P ops i s1 s2) (nj:QX s j) (ni:QX s i) (hHj:HokS hs j s) (hHi:HokS hs i s1):∃s1',Stp P ops i s s1'∧Stp P ops j s1' s2∧HokS hs i s∧HokS hs j s1':=by
 simp only[X2M,Bool.and_eq_true,Bool.not_eq_true']at hx;obtain⟨⟨⟨hdst,hji⟩,hij⟩,hp⟩:=hx
 have hHi':HokS hs i s:=by
  refine⟨fun k n hh=>?_,fun hd x hx n=>?_⟩
  · have hg:=hHi.1 k n hh;obtain⟨_,_,_,⟨_,rfl⟩|⟨_,_,_,_,_,_,_,_,rfl⟩⟩:=hj
    · rw[←Zy hji _ (X5D hh)];exact hg
    rw[←Zy hji _ (X5D hh)];exact hg
  have hg:=hHi.2 hd x hx n;obtain⟨_,_,_,⟨_,rfl⟩|⟨_,_,_,_,_,_,_,_,rfl⟩⟩:=hj
  · rw[←Zy hji _ hx];exact hg
  rw[←Zy hji _ hx];exact hg
 have hHj':∀(r:RV) (objs:List (Nat×Ob)),HokS hs j {s with regs:=WI i.dst r s.regs,objs:=objs}:=by
  intro r objs;refine⟨fun k n hh=>?_,fun hd x hx n=>?_⟩
  · have hg:=hHj.1 k n hh;rw[Zy hij _ (X5D hh)];exact hg
  have hg:=hHj.2 hd x hx n;rw[Zy hij _ hx];exact hg
 have hj0:=hj;obtain⟨hokj,bj,hgj,hj⟩:=hj;obtain⟨hoki,bi,hgi,hi⟩:=hi
 -- names stay free W6 the other's step
 have keep:∀(a b:Oper) (t t1:HS),WG a.dst b.dst=false→Stp P ops b t t1→QX t a→QX t1 a:=by
  intro a b t t1 hs hst hn hna d hd;refine XaF hst (fun _ e=>?_) (hn hna d hd);simp[WG,hd,e]at hs
 have nsz:s1.nt=s.nt:=by
  rcases hj with⟨_,rfl⟩|⟨_,_,_,_,_,_,_,_,rfl⟩<;>rfl
 have hoki':XJ s i.dst=true:=by
  unfold XJ at*;cases hd:i.dst with
  |none=>rfl
  |some d=>rw[hd]at hoki;simp only at hoki⊢;rw[←nsz];exact hoki
 have fin:∀(t:HS),t.nt=s.nt→XJ t j.dst=true:=by
  intro t ht;unfold XJ at*;cases hd:j.dst with
  |none=>rfl
  |some d=>rw[hd]at hokj;simp only at hokj⊢;rw[ht];exact hokj
 have comm:∀x y l,WI i.dst x (WI j.dst y l)=WI j.dst y (WI i.dst x l):=fun x y l=>Xcc (by rw[X7y];exact hdst) x y l;have asObjs:∀(r:List (Nat×RV)),({s with regs:=r}:HS)={s with regs:=r,objs:=s.objs}:=fun _=>rfl;rcases hj with⟨hbj,rfl⟩|⟨hnj,rj,Oj,qj,stj,fj,hwj,hej,rfl⟩
 · rw[asObjs,X3X hji]at hgi;rcases hi with⟨hbi,rfl⟩|⟨hni,ri,Oij,qi,sti,fi,hwi,hei,rfl⟩
   · refine⟨_,⟨hoki',bi,hgi,.inl ⟨hbi,rfl⟩⟩,⟨fin _ rfl,bj,?_,.inl ⟨hbj,?_⟩⟩,hHi',hHj' _ _⟩
     · rw[asObjs,X3X hij];exact hgj
     simp only;rw[comm]
   refine⟨_,⟨hoki',bi,hgi,.inr ⟨ni,ri,Oij,qi,sti,fi,hwi,X1Y (fun x hx=>congrArg sti (Zy hji x hx)) hei,rfl⟩⟩,⟨fin _ rfl,bj,?_,.inl ⟨hbj,?_⟩⟩,hHi',hHj' _ _⟩
   · rw[X3X hij];exact hgj
   simp only;rw[comm]
 rw[X3X hji]at hgi;rcases hi with⟨hbi,rfl⟩|⟨hni,ri,Oij,qi,sti,fi,hwi,hei,rfl⟩
 · have h1:Stp P ops i s {s with regs:=WI i.dst (.v (.one .any)) s.regs}:=⟨hoki',bi,hgi,.inl ⟨hbi,rfl⟩⟩;refine⟨_,h1,⟨fin _ rfl,bj,?_,.inr ⟨keep j i _ _ hdst h1 nj,rj,Oj,qj,stj,fj,hwj,X1Y (fun x hx=>congrArg stj (Zy hij x hx).symm) hej,?_⟩⟩,hHi',hHj' _ _⟩
   · rw[asObjs,X3X hij];exact hgj
   simp only;rw[comm]
 have hei':Eff P Oj (fun x=>sti (opd s.regs x)) i ri Oij qi:=X1Y (fun x hx=>congrArg sti (Zy hji x hx)) hei
 obtain⟨Oi,h1,h2⟩:=Xc0 hp hdst hej hei' (fun hn d hd=>⟨fun x=>(X2f hwi (X1e (nj hn d hd) x)).1,X3L (nj hn d hd),ZM (nj hn d hd)⟩)
  (fun hn d hd=>⟨fun x=>(X2f hwj (X1e (ni hn d hd) x)).1,X3L (ni hn d hd),ZM (ni hn d hd)⟩) (X5h (Xap hHj.1 hwj) hej) (X5h (Xap hHi'.1 hwi) hei') (fun hd x hx n=>(X2f hwj (hHj.2 hd x hx n)).1) (fun hd x hx n=>(X2f hwi (hHi'.2 hd x hx n)).1)
 have hs1:Stp P ops i s {s with regs:=WI i.dst (fi ri) s.regs,objs:=Oi}:=⟨hoki',bi,hgi,.inr ⟨ni,ri,Oi,qi,sti,fi,hwi,h1,rfl⟩⟩;refine⟨_,hs1,⟨fin _ rfl,bj,?_,.inr ⟨keep j i _ _ hdst hs1 nj,rj,Oij,qj,stj,fj,hwj,X1Y (fun x hx=>congrArg stj (Zy hij x hx).symm) h2,?_⟩⟩,hHi',hHj' _ _⟩
 · rw[X3X hij];exact hgj
 simp only;rw[comm]
def QM (a b:Oper):Bool:=Qo a&&Qo b&&WG a.dst b.dst
theorem Wd {o b:Oper} {s s1:HS} (h:Stp P ops o s s1) (hc:QM o b=false) (hn:QX s b):QX s1 b:=by
 intro hb d hd;refine XaF h (fun ho e=>?_) (hn hb d hd);simp[QM,ho,hb,e,hd,WG]at hc
def X1i (P:Program) (ops:Array Oper) (hs:List (Nat×Nat)):List Oper→HS→(HS→Prop)→Prop
 |[],s,K=>K s
 |o::l,s,K=>∃s1,Stp P ops o s s1∧HokS hs o s∧X1i P ops hs l s1 K
theorem hok_nil {o:Oper} {s:HS}:HokS [] o s:=by
 refine⟨fun k n h=>?_,fun h=>by simp[X4A]at h⟩;unfold QD at h;split at h<;>cases h
theorem X4p {K:HS→Prop}:∀(l:List Oper) (s:HS),l.Pairwise (fun a b=>QM a b=false)→(∀o∈l,QX s o)→wpR P ops l s K→X1i P ops [] l s K
 |[],_,_,_,h=>h
 | o::l,s,hp,hn,h=>by
   obtain⟨s1,h1,h2⟩:=X2N (hn o (by simp)) h;have hp':=List.pairwise_cons.1 hp;exact⟨s1,h1,hok_nil,X4p l s1 hp'.2 (fun p hpl=>Wd h1 (hp'.1 p hpl) (hn p (by simp[hpl]))) h2⟩
def noMen (r:RV):Bool:=
 match r with
 | .v (.one (.c _))=>true
 | .v (.one (.gd _ (.c _)))=>true
 |_=>false
theorem noMen_ok {r:RV} (h:noMen r=true) (n:Nat):¬r.men n:=by
 intro hm;have hm:=RV.menB_iff.2 hm;unfold noMen at h;split at h
 · simp[RV.menB,TV.menB,CV.menB]at hm
 · simp[RV.menB,TV.menB,CV.menB]at hm
 cases h
def hokB (hs:List (Nat×Nat)) (o:Oper) (s:HS):Bool:=
 (match QD hs o with
 | some (k,n)=>match opd s.regs (.tmp k)with
   | .v (.one (.at_ m _))=>m==n
   | .v (.one (.gd _ (.at_ m _)))=>m==n
   |_=>false
 |none=>true)&&(!X4A hs o||(XQ o.op).all fun x=>noMen (opd s.regs x))
def evsH (P:Program) (ops:Array Oper) (hs:List (Nat×Nat)):List Oper→HS→Option HS
 |[],s=>some s
 | o::l,s=>if hokB hs o s=true then match evs P ops [o] s with
   |some s'=>evsH P ops hs l s'
   |none=>none
   else none
theorem X6I {hs:List (Nat×Nat)} {o:Oper} {s:HS} (h:hokB hs o s=true):HokS hs o s:=by
 unfold hokB at h;rw[Bool.and_eq_true]at h;obtain⟨h,hdat⟩:=h;refine⟨fun k n hh=>?_,fun hd x hx n=>?_⟩
 rotate_left
 · rw[hd]at hdat;simp only[Bool.not_true,Bool.false_or,List.all_eq_true]at hdat;exact noMen_ok (hdat x hx) n
 rw[hh]at h;simp only at h;split at h
 · rename_i m off hg;simp only[beq_iff_eq]at h;subst h;exact⟨off,.inl hg⟩
 · rename_i b m off hg;simp only[beq_iff_eq]at h;subst h;exact⟨off,.inr ⟨b,hg⟩⟩
 cases h
theorem X3f {hs:List (Nat×Nat)} {K:HS→Prop}:∀(l:List Oper) (s s':HS),l.Pairwise (fun a b=>QM a b=false)→(∀o∈l,QX s o)→evsH P ops hs l s=some s'→K s'→X1i P ops hs l s K
 |[],s,s',_,_,h,hk=>by cases h;exact hk
 | o ::l,s,s',hp,hn,h,hk=>by
   unfold evsH at h;split at h
   · rename_i hb;split at h
     · rename_i s1 he;have hw:wpR P ops [o] s (fun t=>t=s1):=X11 _ _ _ he rfl;obtain⟨s2,h1,h2⟩:=X2N (hn o (by simp)) hw;have e:s2=s1:=h2;subst e;have hp':=List.pairwise_cons.1 hp;exact⟨s2,h1,X6I hb,X3f l s2 s' hp'.2 (fun p hpl=>Wd h1 (hp'.1 p hpl) (hn p (by simp[hpl]))) h hk⟩
     cases h
   cases h
theorem pull {hs:List (Nat×Nat)} {oi:Oper} {l2:List Oper} {K:HS→Prop}:∀(l1:List Oper) (s:HS),(∀j∈l1,X2M hs ops j oi=true)→(∀j∈l1,QM oi j=false∧QM j oi=false)→(∀j∈l2,QM oi j=false)→
  (l1++l2).Pairwise (fun a b=>QM a b=false)→QX s oi→(∀o∈l1++l2,QX s o)→X1i P ops hs (l1++oi::l2) s K→
  ∃s',Stp P ops oi s s'∧HokS hs oi s∧X1i P ops hs (l1++l2) s' K∧∀o∈l1++l2,QX s' o
 | [],s,_,_,h2,_,hni,hn,hw=>by
   obtain⟨s',h1,hH,h3⟩:=hw;exact⟨s',h1,hH,h3,fun o ho=>Wd h1 (h2 o ho) (hn o ho)⟩
 | j::l1,s,hx,hc1,hc2,hpw,hni,hn,hw=>by
   have hnj:QX s j:=hn j (by simp);obtain⟨s1,hj,hHj,hw1⟩:=hw;rw[List.cons_append]at hpw;have hpw':=List.pairwise_cons.1 hpw;have hcj:=hc1 j (by simp)
   obtain⟨s2,hi,hHi,hw2,hn2⟩:=pull l1 s1 (fun k hk=>hx k (by simp[hk])) (fun k hk=>hc1 k (by simp[hk])) hc2 hpw'.2 (Wd hj hcj.2 hni)
    (fun o ho=>Wd hj (hpw'.1 o ho) (hn o (by simp only[List.cons_append];exact List.mem_cons_of_mem _ ho))) hw1
   obtain⟨s1',hi',hj',hHi',hHj'⟩:=stp_swap (hx j (by simp)) hj hi hnj hni hHj hHi;refine⟨s1',hi',hHi',⟨s2,hj',hHj',hw2⟩,fun o ho=>?_⟩;refine Wd hi' ?_ (hn o ho);rw[List.cons_append]at ho;rcases List.mem_cons.1 ho with rfl|ho
   · exact hcj.1
   rcases List.mem_append.1 ho with ho|ho
   · exact(hc1 o (by simp[ho])).1
   exact hc2 o ho
def X3O (ops:Array Oper):Nat→Nat→Nat→Bool
 |0,_,_=>false
 | n+1,i,j=>match ops[i]? with
   |some o=>o.after.toList.any fun e=>Region.binds .any e&&(e.on==j||X3O ops n e.on j)
   |none=>false
def X2p (hs:List (Nat×Nat)) (ops:Array Oper):Bool:=
 (List.range ops.size).all fun i=>match ops[i]? with
  |none=>true
  | some o=>(o.after.toList.all fun e=> !Region.binds .any e||decide (e.on<i))&&
    (List.range i).all fun j=>match ops[j]? with
     |none=>true
     |some p=>(X3O ops ops.size i j||X2M hs ops p o)&& !QM p o&& !QM o p
def X0k (ops:List Oper) (s:HS):Bool:=ops.all fun o=> !Qo o||match o.dst with|some d=>QY d s|none=>true
def Xj (ops:Array Oper) (listed:Array Bool):List Nat:=(List.range ops.size).filter fun i=> !listed.getD i true
def Qv (ops:Array Oper) (l:List Nat):List Oper:=l.filterMap (ops[·]?)
theorem Qw {listed:Array Bool} {i:Nat}:i∈Region.ready .any ops listed↔i<ops.size∧listed.getD i true=false∧∃o,ops[i]? =some o∧∀e∈o.after,Region.binds .any e=true→listed.getD e.on false=true:=by
 unfold Region.ready;simp only[List.mem_filter,List.mem_range,Bool.and_eq_true,Bool.not_eq_true'];constructor
 · rintro⟨h1,h2,h3⟩;refine⟨h1,h2,ops[i],by simp,?_⟩;simp only[Array.getElem?_eq_getElem h1,Option.map_some,Option.getD_some,Array.all_eq_true_iff_forall_mem,Bool.or_eq_true,Bool.not_eq_true']at h3;intro e he hb;rcases h3 e he with h|h
   · rw[hb]at h;cases h
   exact h
 rintro⟨h1,h2,o,ho,h3⟩;refine⟨h1,h2,?_⟩;simp only[ho,Option.map_some,Option.getD_some,Array.all_eq_true_iff_forall_mem,Bool.or_eq_true,Bool.not_eq_true'];intro e he;cases hb:Region.binds .any e with
 |false=>exact .inl rfl
 |true=>exact .inr (h3 e he hb)
theorem X0b {listed:Array Bool} (hdc:∀i o,ops[i]? =some o→listed.getD i false=true→∀e∈o.after,Region.binds .any e=true→listed.getD e.on false=true):
  ∀(n i j:Nat) (o:Oper),ops[i]? =some o→(∀e∈o.after,Region.binds .any e=true→listed.getD e.on false=true)→X3O ops n i j=true→listed.getD j false=true
 |0,_,_,_,_,_,h=>by cases h
 | n+1,i,j,o,ho,hr,h=>by
   simp only[X3O,ho,List.any_eq_true,Bool.and_eq_true,Bool.or_eq_true,beq_iff_eq]at h;obtain⟨e,he,hb,h⟩:=h;replace he:=Array.mem_toList_iff.1 he;have hl:=hr e he hb;rcases h with rfl|h
   · exact hl
   cases hoe:ops[e.on]? with
   |none=>cases n<;>simp[X3O,hoe]at h
   |some p=>exact X0b hdc n e.on j p hoe (hdc e.on p hoe hl) h
theorem ZF {hs:List (Nat×Nat)} (hd:X2p hs ops=true) {i:Nat} {o:Oper} (ho:ops[i]? =some o):(∀e∈o.after,Region.binds .any e=true→e.on<i)∧
  ∀j p,j<i→ops[j]? =some p→(X3O ops ops.size i j=true∨X2M hs ops p o=true)∧QM p o=false∧QM o p=false:=by
 have hi:i<ops.size:=(Array.getElem?_eq_some_iff.1 ho).1;unfold X2p at hd;rw[List.all_eq_true]at hd;have:=hd i (by simpa using hi);simp only[ho,Bool.and_eq_true,List.all_eq_true,Bool.or_eq_true,Bool.not_eq_true',decide_eq_true_eq]at this;refine⟨fun e he hb=>?_,fun j p hj hp=>?_⟩
 · rcases this.1 e (Array.mem_toList_iff.2 he)with h|h
   · rw[hb]at h;cases h
   exact h
 have h2:=this.2 j (by simpa using hj);simp only[hp,Bool.and_eq_true,Bool.or_eq_true,Bool.not_eq_true']at h2;exact⟨h2.1.1,h2.1.2,h2.2⟩
theorem XM {listed:Array Bool} {i:Nat}:i∈Xj ops listed↔i<ops.size∧listed.getD i true=false:=by
 simp[Xj]
theorem Qd (listed:Array Bool):(Xj ops listed).Pairwise (· < ·):=List.Pairwise.filter _ List.pairwise_lt_range
theorem Wo {l:List Nat} {o:Oper}:o∈Qv ops l↔∃i∈l,ops[i]? =some o:=by simp[Qv]
theorem QC (l m:List Nat):Qv ops (l++m)=Qv ops l++Qv ops m:=by simp[Qv]
theorem X2B {i:Nat} {o:Oper} (h:ops[i]? =some o) (l:List Nat):Qv ops (i::l)=o::Qv ops l:=by simp[Qv,h]
theorem Wb {hs:List (Nat×Nat)} (hd:X2p hs ops=true):∀(l:List Nat),l.Pairwise (· < ·)→(Qv ops l).Pairwise (fun a b=>QM a b=false)
 |[],_=>by simp[Qv]
 | i ::l,h=>by
   have h':=List.pairwise_cons.1 h;cases ho:ops[i]? with
   | none=>
     have:Qv ops (i::l)=Qv ops l:=by simp[Qv,ho]
     rw[this];exact Wb hd l h'.2
   | some o=>
     rw[X2B ho];refine List.pairwise_cons.2 ⟨fun p hp=>?_,Wb hd l h'.2⟩;obtain⟨k,hk,hpk⟩:=Wo.1 hp;exact((ZF hd hpk).2 i o (h'.1 k hk) ho).2.1
theorem X9s {listed:Array Bool} {i:Nat} (hsz:listed.size=ops.size) (hi:i∈Xj ops listed):
  ∃l1 l2,Xj ops listed=l1++i::l2∧Xj ops (listed.setIfInBounds i true)=l1++l2∧(∀j∈l1,j<i)∧(∀j∈l2,i<j):=by
 obtain⟨l1,l2,he⟩:=List.append_of_mem hi;have hs:=Qd (ops:=ops) listed;rw[he]at hs;obtain⟨h1,h2,h3⟩:=List.pairwise_append.1 hs;have h2':=List.pairwise_cons.1 h2;have hlt:∀j∈l1,j<i:=fun j hj=>h3 j hj i (by simp);refine⟨l1,l2,he,?_,hlt,h2'.1⟩;have hii:i<listed.size:=by rw[hsz];exact(XM.1 hi).1
 have:Xj ops (listed.setIfInBounds i true)=(Xj ops listed).filter (fun j=>decide (j≠i)):=by
  unfold Xj;rw[List.filter_filter];apply List.filter_congr;intro j hj;by_cases e:j=i
  · subst e;simp[hii]
  simp only[Array.getD_eq_getD_getElem?,Array.getElem?_setIfInBounds_ne (Ne.symm e)];simp[e]
 rw[this,he,List.filter_append,List.filter_cons];simp only[ne_eq,not_true_eq_false,decide_false,Bool.false_eq_true,if_false];rw[List.filter_eq_self.2 fun j hj=>by simp;exact Nat.ne_of_lt (hlt j hj),List.filter_eq_self.2 fun j hj=>by simp;exact Nat.ne_of_gt (h2'.1 j hj)]
theorem XbP {hs:List (Nat×Nat)} {w0:World} {B:Nat→Prop} {π:Nat→Option Value} {K:HS→Prop} {Q:Exit→Act→World→Prop} (hd:X2p hs ops=true):∀(fuel:Nat) (listed:Array Bool) (s:HS) (F:Nat→Prop) (γ:Nat→Value) (a:Act) (w:World),
  listed.size=ops.size→(∀i o,ops[i]? =some o→listed.getD i false=true→∀e∈o.after,Region.binds .any e=true→listed.getD e.on false=true)→
  (Xj ops listed).length≤fuel→(∀o∈Qv ops (Xj ops listed),QX s o)→Rel w0 B π F γ s a w→X1i P ops hs (Qv ops (Xj ops listed)) s K→
  (∀s' F' γ' a' w',K s'→(∀b,F b→F' b)→(∀b,F' b→F b∨¬B b)→Rel w0 B π F' γ' s' a' w'→Q .normal a' w')→wpAny P .any ops Q fuel listed a w:=by
 -- where nothing can come up, nothing is left
 have done:∀(listed:Array Bool),listed.size=ops.size→Region.ready .any ops listed=[]→Xj ops listed=[]:=by
  intro listed hsz hr;cases hres:Xj ops listed with
  |nil=>rfl
  | cons i l=>
    exfalso;have hi:i∈Xj ops listed:=by rw[hres];simp
    obtain⟨hlt,hun⟩:=XM.1 hi
    have:i∈Region.ready .any ops listed:=by
     refine Qw.2 ⟨hlt,hun,ops[i],by simp[hlt],fun e he hb=>?_⟩;have hon:=(ZF hd (i:=i) (o:=ops[i]) (by simp[hlt])).1 e he hb
     have hnot:e.on∉Xj ops listed:=by
      intro hm;have hs:=Qd (ops:=ops) listed;rw[hres]at hs hm;rcases List.mem_cons.1 hm with e'|hm
      · omega
      have:=(List.pairwise_cons.1 hs).1 _ hm;omega
     rw[XM]at hnot;have hel:e.on<listed.size:=by omega
     rw[Array.getD_eq_getD_getElem?,Array.getElem?_eq_getElem hel]at hnot⊢;simp only[Option.getD_some,not_and,Bool.not_eq_false]at hnot⊢;exact hnot (by omega)
    rw[hr]at this;cases this
 intro fuel
 induction fuel with
 | zero=>
   intro listed s F γ a w hsz hdc hlen hn hr hw hK;have h0:Xj ops listed=[]:=List.eq_nil_of_length_eq_zero (by omega);refine⟨?_,?_⟩
   · cases hre:Region.ready .any ops listed with
     |nil=>rfl
     | cons i l=>
       exfalso;have hi:i∈Region.ready .any ops listed:=by rw[hre];simp
       obtain⟨h1,h2,_⟩:=Qw.1 hi;have:i∈Xj ops listed:=XM.2 ⟨h1,h2⟩;rw[h0]at this;cases this
   rw[h0]at hw;exact hK s F γ a w hw (fun _ h=>h) (fun _ h=>.inl h) hr
 | succ fuel ih=>
   intro listed s F γ a w hsz hdc hlen hn hr hw hK;refine⟨fun h0=>?_,fun i hi=>?_⟩
   · rw[done listed hsz h0]at hw;exact hK s F γ a w hw (fun _ h=>h) (fun _ h=>.inl h) hr
   obtain⟨hlt,hun,o,ho,hpre⟩:=Qw.1 hi;have hir:i∈Xj ops listed:=XM.2 ⟨hlt,hun⟩;obtain⟨l1,l2,he,he',h1,h2⟩:=X9s hsz hir;have hsort:=Qd (ops:=ops) listed;rw[he]at hw hn;rw[QC,X2B ho]at hw hn
   have hx:∀p∈Qv ops l1,X2M hs ops p o=true∧QM p o=false∧QM o p=false:=by
    intro p hp;obtain⟨j,hj,hpj⟩:=Wo.1 hp;have h3:=(ZF hd ho).2 j p (h1 j hj) hpj;refine⟨h3.1.resolve_left fun hpd=>?_,h3.2⟩;have hjl:=X0b hdc ops.size i j o ho hpre hpd;have hjr:j∈Xj ops listed:=by rw[he];simp[hj]
    have hjun:=(XM.1 hjr).2;have hjs:j<listed.size:=by rw[hsz];exact(XM.1 hjr).1
    rw[Array.getD_eq_getD_getElem?,Array.getElem?_eq_getElem hjs]at hjl hjun;simp only[Option.getD_some]at hjl hjun;rw[hjl]at hjun;cases hjun
   have hpw:(Qv ops l1++Qv ops l2).Pairwise (fun a b=>QM a b=false):=by
    rw[←QC];refine Wb hd _ ?_;rw[←he'];exact Qd _
   obtain⟨s',hst,_,hw',hn'⟩:=pull (P:=P) (ops:=ops) (hs:=hs) (oi:=o) (l2:=Qv ops l2) (K:=K) (Qv ops l1) s (fun p hp=>(hx p hp).1) (fun p hp=>⟨(hx p hp).2.2,(hx p hp).2.1⟩)
    (fun p hp=>by
     obtain⟨j,hj,hpj⟩:=Wo.1 hp
     exact((ZF hd hpj).2 i o (h2 j hj) ho).2.1) hpw (hn o (by simp)) (fun p hp=>hn p (by
      rcases List.mem_append.1 hp with hp|hp
      · simp[hp]
      simp[hp])) hw
   refine X4D ho hr hst fun F' γ' a' w' h3 h4 hr2=>?_;refine ih (listed.setIfInBounds i true) s' F' γ' a' w' (by simpa using hsz) ?_ ?_ ?_ hr2 ?_ fun s3 F3 γ3 a3 w3 hk3 h5 h6 hr3=>?_
   · intro k p hp hk e hee hb
     have hmono:∀x,listed.getD x false=true→(listed.setIfInBounds i true).getD x false=true:=by
      intro x hx';by_cases ex:x=i
      · subst ex;simp[hsz,hlt]
      rw[Array.getD_eq_getD_getElem?,Array.getElem?_setIfInBounds_ne (Ne.symm ex),←Array.getD_eq_getD_getElem?];exact hx'
     by_cases ek:k=i
     · subst ek;rw[ho]at hp;cases hp;exact hmono _ (hpre e hee hb)
     rw[Array.getD_eq_getD_getElem?,Array.getElem?_setIfInBounds_ne (Ne.symm ek),←Array.getD_eq_getD_getElem?]at hk;exact hmono _ (hdc k p hp hk e hee hb)
   · rw[he'];rw[he]at hlen;simp only[List.length_append,List.length_cons]at hlen⊢;omega
   · rw[he',QC];exact hn'
   · rw[he',QC];exact hw'
   exact hK s3 F3 γ3 a3 w3 hk3 (fun b hb=>h5 b (h3 b hb)) (fun b hb=>(h6 b hb).elim (h4 b) .inr) hr3
theorem X43 {α:Type}:∀(l:List α),(List.range l.length).filterMap (l[·]?)=l
 |[]=>rfl
 | x::l=>by
   rw[List.length_cons,List.range_succ_eq_map,List.filterMap_cons];simp only[List.getElem?_cons_zero,List.filterMap_map];congr 1;exact X43 l
theorem X56 {hs:List (Nat×Nat)} {id:Nat} {s:HS} {Q:Exit→HS→Prop} (hm:P.follows .mixedOrders=true) (hd:X2p hs ops=true) (hc:X0k ops.toList s=true)
  (h:ops.toList.Pairwise (fun a b=>QM a b=false)→(∀o∈ops.toList,QX s o)→X1i P ops hs ops.toList s (Q .normal)):HT P (.region id ops true) s Q:=by
 intro w0 B π F γ a w hr
 have hrest:Xj ops (Array.replicate ops.size false)=List.range ops.size:=by
  unfold Xj;refine List.filter_eq_self.2 fun i hi=>?_;have:i<ops.size:=by simpa using hi
  simp[this]
 have hopers:Qv ops (List.range ops.size)=ops.toList:=by
  unfold Qv;have:=X43 ops.toList;simpa using this
 have hok:∀o∈ops.toList,QX s o:=by
  intro o ho hn d hdd;unfold X0k at hc;rw[List.all_eq_true]at hc;have:=hc o ho;simpa[hn,hdd]using this
 have hruns:X1i P ops hs ops.toList s (Q .normal):=by
  refine h ?_ hok;rw[←hopers];exact Wb hd _ List.pairwise_lt_range
 refine wp_region_any hm (XbP (P:=P) (ops:=ops) (hs:=hs) (w0:=w0) (B:=B) (π:=π) (K:=Q .normal) hd ops.size (Array.replicate ops.size false) s F γ a {w with drawn:=w.drawn+1} (by simp) ?_ ?_ ?_ ?_ ?_ fun s' F' γ' a' w' hk h1 h2 h3=>⟨s',F',γ',hk,h1,h2,h3⟩)
 · intro i o ho hl;have hi:i<ops.size:=(Array.getElem?_eq_some_iff.1 ho).1;simp[hi]at hl
 · rw[hrest];simp
 · rw[hrest,hopers];exact hok
 · exact⟨hr.heap.drew,hr.defers,hr.nt,fun k r hk=>(hr.regs k r hk).mono (w:=w) (w':={w with drawn:=w.drawn+1}) (fun _ h=>h) fun _ _=>rfl⟩
 rw[hrest,hopers];exact hruns
def drawB (ops:Array Oper):Bool:=X2p [] ops
theorem X7D {id:Nat} {s:HS} {Q:Exit→HS→Prop} (hm:P.follows .mixedOrders=true) (hd:drawB ops=true) (hc:X0k ops.toList s=true) (h:wpR P ops ops.toList s (Q .normal)):HT P (.region id ops true) s Q:=
 X56 hm hd hc fun hp hok=>X4p _ _ hp hok h
theorem Qe {id:Nat} {s s':HS} {Q:Exit→HS→Prop} (hm:P.follows .mixedOrders=true) (hd:drawB ops=true) (hc:X0k ops.toList s=true) (h:evs P ops ops.toList s=some s') (hq:Q .normal s'):HT P (.region id ops true) s Q:=
 X7D hm hd hc (X11 _ _ _ h hq)
theorem QH {id:Nat} {s s':HS} {p:Prop} {Q:Exit→HS→Prop} (cs:List CR) (hm:P.follows .mixedOrders=true) (hd:drawB ops=true) (hc:X0k ops.toList s=true) (h:evc P ops ops.toList s cs=some (s',p)) (hp:p) (hq:Q .normal s'):HT P (.region id ops true) s Q:=
 X7D hm hd hc (QK _ _ _ _ _ h hp hq)
theorem X8s {id:Nat} (hs:List (Nat×Nat)) {s s':HS} {Q:Exit→HS→Prop} (hm:P.follows .mixedOrders=true) (hd:X2p hs ops=true) (hc:X0k ops.toList s=true) (h:evsH P ops hs ops.toList s=some s') (hq:Q .normal s'):HT P (.region id ops true) s Q:=
 X56 hm hd hc fun hp hok=>X3f _ _ _ hp hok h hq
end
end Go.Hl
