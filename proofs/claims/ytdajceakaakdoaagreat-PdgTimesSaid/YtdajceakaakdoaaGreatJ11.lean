/- Contracts of functions and plain facts about what they compute. Conditions: as each theorem states. -/
import Derived.Test.YtdajceakaakdoaaGreatJ4
import Derived.Test.YtdajceakaakdoaaGreatH6
import Derived.Test.YtdajceakaakdoaaGreatJ10
import Derived.Lib.SlicesCompact
import Derived.Shelf.Slices.CompactI
import Derived.Shelf.Sort.Plain
import Derived.Shelf.Slices.In.SortNone
set_option linter.unusedSimpArgs false
set_option linter.unusedVariables false
set_option linter.unnecessarySimpa false
set_option maxRecDepth 100000
set_option maxHeartbeats 2000000
namespace Go.Proofs.YtdajceakaakdoaaGreat
open Go Go.Hl
open Tryz(prog)
theorem one_all (b:Nat):∀s:St,oneC b s:=by
 have key:∀l:List St,∀s∈l,oneC b s:=by
  apply St.lists;intro l ih s hs;obtain⟨o,c,v,n,⟨tq,tn,tk⟩,sa,sb,bs⟩:=s;exact one_con b o c v n tq tn tk sa sb bs (X38 (ih _ hs).1) (X38 (ih _ hs).2)
 exact fun s=>key [s] s (by simp)
theorem lst_all (b:Nat) (l:List St):lstC b l:=X38 fun s _=>one_all b s
def bldF (l:List St):List (List CD):=
 let x:=Qb l [(false,0)] ([[iC 0,iC (-1),iC (-1),iC (-1)]],0)
 XB x.1.1.length x.2 x.1.1++[[iC 1,iC (-1),iC (-1),iC (-1)]]
def msG:List (Nat×List Nat):=[(511,[0,1,3,8]),(510,[1,3,8]),(509,[0,2,3,8]),(503,[0,1,4,8]),(255,[0,1,3]),(508,[2,3,8]),(502,[1,4,8]),(254,[1,3]),(505,[0,3,8]),(501,[0,2,4,8]),(253,[0,2,3]),(487,[0,1,5,8]),(247,[0,1,4]),(504,[3,8]),(500,[2,4,8]),(252,[2,3]),(486,[1,5,8]),(246,[1,4]),(497,[0,4,8]),(249,[0,3]),(485,[0,2,5,8]),(245,[0,2,4]),(455,[0,1,8]),(231,[0,1,5]),(496,[4,8]),(248,[3]),(484,[2,5,8]),(244,[2,4]),(454,[1,8]),(230,[1,5]),(481,[0,5,8]),(241,[0,4]),(453,[0,2,8]),(229,[0,2,5]),(199,[0,1]),(480,[5,8]),(240,[4]),(452,[2,8]),(228,[2,5]),(198,[1]),(449,[0,8]),(225,[0,5]),(197,[0,2]),(448,[6,8]),(224,[5]),(196,[2]),(193,[0]),(384,[7,8]),(192,[6]),(256,[8]),(128,[7])]
def nxG (b:Nat) (F:Ob) (l:List St) (nl:Nat) (x y:List (Nat×Ob)) (R:List Nat):HS:=
 {trS ⟨⟨38,some (pV b)⟩,[(1,.v (.one (.at_ 1 0))),(2,.v (.one (.at_ 2 0))),(3,.v (.one (.c (.lit (pV b)))))],[]⟩ [(0,10,.v (.one (.c (.lit (pV b))))),(1,11,.v (.one (.at_ 1 2))),(2,12,.v (lS l)),(3,13,.v (.one (.c (.lit (pV b))))),(4,14,.v (.one (.c (nxC b 0)))),(5,15,.v (.one (.own 15))),(6,16,.v (.one (.own 16))),(7,17,lit (.int .i64 nl)),(8,18,lit (.int .i64 0))] R with
  objs:=(1,F)::(2,.box [.c (.lit XX)])::if R.contains 5 then x else if R.contains 6 then(15,.row 250 1 [[nxC b 0]])::x else y}
attribute [simp] nxG
set_option maxHeartbeats 4000000 in
theorem X7B (f:Fl) (hn:1+X0l f.body<=1000000) (d:Nat):Con prog 119 false [aF f] (.v (.agg [.c (.sl 4 (bldF f.body))])) none d:=by
 obtain⟨vars,hats,body⟩:=f;simp only at hn;obtain⟨G,hG⟩:∃x,bldF body=x:=⟨_,rfl⟩;rw[hG];unfold bldF at hG;refine X5 Tryz.func119 ?_;simp only[Tryz.f119];simp only[aF,Fl.enc,Nk,Nr];refine X2 ?_;refine X0<|(Xs (by simp[*,XL,QH,Q1,cellsOf,Z2,W4];rfl) ?_);refine HT_pin 9 (cs:=[.own 7,.c (iC 0)]) [(1,.v (.one (.at_ 1 0))),(2,.v (.one (.at_ 2 0))),(3,.v (.one (.at_ 1000000 0)))] [(1,.box [.c (.sl 5 (Xk vars)),.c (.sl 6 (Xn hats)),.c (.sl 10 (X7 body))]),(2,.box [.c (.lit XX)]),(7,.row 195 4 [[iC 0,iC (-1),iC (-1),iC (-1)]]),(1000000,.box [.own 7,.c (iC 0)])] rfl rfl ?_ ?_ rfl fun b=>?_
 .simp[Zs,RV.okNil,TV.okNil,CV.okNil,RV.ren,TV.ren,CV.ren,lkp]
 .simp[Zs,Ob.okNil,CV.okNil,Ob.ren,CV.ren,lkp]
 have k0:okB [(false,0)] [[iC 0,iC (-1),iC (-1),iC (-1)]]:=⟨by simp,by simp⟩;have cA:=lst_all b body [(false,0)] [[iC 0,iC (-1),iC (-1),iC (-1)]] 0 k0 (by simp;omega) (by omega) (by omega) (by simp);have k1:=Wt body [(false,0)] ([[iC 0,iC (-1),iC (-1),iC (-1)]],0) k0;have l1:=ZN body [(false,0)] ([[iC 0,iC (-1),iC (-1),iC (-1)]],0);obtain⟨⟨⟨rows3,d3⟩,sl3⟩,hx⟩:∃x,Qb body [(false,0)] ([[iC 0,iC (-1),iC (-1),iC (-1)]],0)=x:=⟨_,rfl⟩;simp only[hx,List.length_singleton]at hG cA k1 l1;obtain⟨a1,a2,a3,a4,a5⟩:=k1;clear hx k0;refine XC (X4L (v:=pV b) 3 rfl rfl rfl) ?_;simp only[ins,Nat.reduceLT,Nat.reduceEqDiff,Nj,Nc];refine XC (s':=nxG b (.box [.c (.sl 5 (Xk vars)),.c (.sl 6 (Xn hats)),.c (.sl 10 (X7 body))]) body sl3.length (Wy [[iC 0,iC (-1),iC (-1),iC (-1)]] 0) [] (Zk 9 511)) ?_ ?_
 .refine Xw (fun n=>if n=900001 then 7 else n) [] rfl ?_ ?_ ?_
  .simp[trS, *]
  .simp[*]
  simp
 refine X0<|X0<|(Wj (nxG b (.box [.c (.sl 5 (Xk vars)),.c (.sl 6 (Xn hats)),.c (.sl 10 (X7 body))]) body sl3.length (Wy [[iC 0,iC (-1),iC (-1),iC (-1)]] 0) ((16,.row 250 1 (QR b sl3))::(102,.row 195 4 rows3)::[(1000000,.box [.own 102,.c (iC d3)])])) 9 511 msG rfl (by kernel_rfl) (by kernel_rfl) (by kernel_rfl) (by kernel_rfl) (by simp[trS]) ?_ ?_)
 .simp only[msG,X1E]
  repeat' apply And.intro
  all_goals first
   |(refine XP.evE rfl ?_;simp[trS,ins];done)
   | (refine XP.ev [⟨false,.v (.one (.c (nxC b 0))),none⟩] rfl (by simp[trS,ins];first|exact⟨rfl,Iff.rfl⟩|exact⟨rfl,trivial⟩|rfl) ?_ ?_
      .simpa using X2f b 0 14
      simp[trS,ins])
   | (refine XP.callA (fun n=>if n=1 then 15 else n) (fun n=>if n=1 then 16 else if n=900001 then 102 else n) cA rfl fun _ _=>?_
      simp[trS,ins,Qa,QE,del,CV.ren,Ob.ren])
 refine X3<|(Xg [] (fun(x:Nat×List (List CD))=>[(2,.v (.one (.at_ 2 0))),(3,.v (.one (.c (.lit (pV b))))),(16,.v (.one (.own 16))),(17,lit (.int .i64 sl3.length)),(18,lit (.int .i64 x.1))]) (fun(x:Nat×List (List CD))=>(2,.box [.c (.lit XX)])::(16,.row 250 1 (QR b sl3))::Wy x.2 d3) (fun(x:Nat×List (List CD))=>x.1<=sl3.length/\XB rows3.length (sl3.drop x.1) x.2=XB rows3.length sl3 rows3/\(∀r∈x.2,r.length=4)/\x.2.length=rows3.length) (fun(x:Nat×List (List CD))=>sl3.length - x.1) (0,rows3) ⟨Nq _,rfl,a1.four,rfl⟩ ?_ ?_)
 .exact Xw (fun n=>if n=900001 then 102 else n) [] rfl (by simp[upS,X8,trS]) (by simp[upS]) (by simp[upS])
 rintro⟨i,rows2⟩ ⟨g1,g2,g3,g4⟩;simp only[upS,Xz]
 simp only at g1 g2 g3 g4;simp only[nxG,trS];refine X2 ?_;refine X0<|(X6 rfl (fun h5=>Xe ?_) (fun h5=>?_))
 ·simp only[BN]at h5;have hi:i<sl3.length:=by simpa using h5
  obtain⟨q,hq,hqd⟩:=Xt hi;have hqe:=X57 (b:=b) hq;rw[hqd]at g2;simp only[XB]at g2;have cq:=X6Z b rows2 d3 rows2.length q g3 (by have:=a1.lt q (N4 hq);omega);have hw:=XD hi (by omega:sl3.length<=1000000000);have hin2:i+1<=sl3.length:=hi;rw[<-g4]at g2;clear hi hq h5 hqd;refine X0<|X3<|X0<|X1 ?_;refine XC (X4M (v:=pV b) 3 rfl rfl rfl) ?_;simp only[ins,Nat.reduceLT,Nat.reduceEqDiff,Nj,Nc];refine(XJ ?_);refine RunsN.cutE 6 [] (by simp;rfl) trivial (le_refl _) ?_;refine RunsN.callA (fun n=>n) (fun n=>if n=900001 then 101 else n) cq fun _ _=>?_;refine RunsN.doneE [] (by simp[Qa,CV.ren,Ob.ren];rfl) trivial ?_;refine XC (X4L (v:=pV b) 3 rfl rfl rfl) ?_;simp only[ins,Nat.reduceLT,Nat.reduceEqDiff,Nj,Nc];refine X1 ?_;exact⟨(i+1,X0M rows2 q rows2.length),⟨hin2,by rw[<-g4];exact g2,X0d g3,(X2o ..).trans g4⟩,by simp only;omega,X4 (fun n=>if n=900001 then 101 else n) []⟩
 simp only[BN]at h5
 have hi:i=sl3.length:=by
  have:¬i<sl3.length:=by simpa using h5
  omega
 subst hi;rw[Nw]at g2;simp only[XB]at g2;rw[<-g2]at hG;have hroom:W5 (rows3.length+1) 32:=Qc (by omega) (by decide);clear h5 g2;refine XC (X4M (v:=pV b) 3 rfl rfl rfl) ?_;simp only[ins,Nat.reduceLT,Nat.reduceEqDiff,Nj,Nc];refine(Xi ?_);refine X0<|(Xs (by simp[*,XL,QH,Q1,cellsOf,Z2,W4,Z3,Wr,Zw];rfl) ?_);refine XC (Qy 36 rfl) ?_;exact XZ ⟨⟨⟨38,some (pV b)⟩,[(2,.v (.one (.at_ 2 0)))],[(2,.box [.c (.sl 4 G)])]⟩,Xw (fun n=>n) [] rfl (by simp) (by simp[*]) (by simp),by rfl,.inr rfl,_,le_refl _,⟨_,by simp;rfl,by simp[XG]⟩,by simp,fun h=>by cases h⟩
structure Nd where
 k:Int
 a:Int
 n:Int
 o:Int
 deriving DecidableEq
def Nd.enc (x:Nd):List CD:=[iC x.k,iC x.a,iC x.n,iC x.o]
attribute [simp] Nd.enc
def Qv (l:List Nd):List (List CD):=l.map Nd.enc
@[simp] theorem X6r (l:List Nd):(Qv l).length=l.length:=by simp[Qv]
theorem X4f {l:List Nd} {i:Nat} {x:Nd} (h:l[i]? =some x):(Qv l)[i]? =some x.enc:=by simp[Qv,h]
mutual
def wdS:St->Nat
 | .mk o _ _ _ _ a b _=>(if o=4 then 2 else 1)+wdL a+wdL b
def wdL:List St->Nat
 |[]=>0
 |s::l=>wdS s+wdL l
end
mutual
def X1o:St->Int->Nat->Nat->List Nd
 | .mk o _ _ _ _ a b _,at_,k,after=>
   if o=3 then⟨3,at_,if a=[] then after else k+1,if b=[] then after else k+1+wdL a⟩::(X0o a (at_+1) (k+1) after++X0o b (at_+1+szL a) (k+1+wdL a) after)
   else if o=4 then⟨4,at_,k+1,-1⟩::⟨5,at_,if a=[] then k+1 else k+2,after⟩::X0o a (at_+1) (k+2) (k+1)
   else [⟨2,at_,after,-1⟩]
def X0o:List St->Int->Nat->Nat->List Nd
 |[],_,_,_=>[]
 |s::l,at_,k,after=>X1o s at_ k (if l=[] then after else k+wdS s)++X0o l (at_+szS s) (k+wdS s) after
end
def grN (l:List St):List Nd:=⟨0,-1,if l=[] then 1+wdL l else 1,-1⟩::(X0o l 0 1 (1+wdL l)++[⟨1,-1,-1,-1⟩])
theorem X6n {A B:List (List CD)} {s:Ww} {k:Nat} (h:s.2<A.length):X0M (A++B) s k=X0M A s k++B:=by
 unfold X0M setRow;rw[Nv h];split
 .rename_i e;rw[List.set_append,N8 h];simp only[e]
 rename_i e;simp only[e]
theorem X5Y {k:Nat}:∀(sl:List Ww) {A B:List (List CD)},(∀s∈sl,s.2<A.length)->XB k sl (A++B)=XB k sl A++B
 |[],_,_,_=>rfl
 | s::sl,A,B,h=>by
   simp only[XB];rw[X6n (h s (by simp)),X5Y sl fun x hx=>by rw[X2o];exact h x (by simp[hx])]
theorem X6g {k:Nat}:∀(x y:List Ww) (rows:List (List CD)),XB k (x++y) rows=XB k y (XB k x rows)
 |[],_,_=>rfl
 |s::x,y,rows=>by simp only[List.cons_append,XB];exact X6g x y _
theorem X9C {rows:List (List CD)} {i j f g:Nat} {u v:CD} (h4:∀r∈rows,r.length=4) (hf:f<4) (hg:g<4) (h:(i,f)≠(j,g)\/u=v):setRow (setRow rows i f [u]) j g [v]=setRow (setRow rows j g [v]) i f [u]:=by
 by_cases hij:i=j
 .subst hij;cases hr:rows[i]? with
  |none=>simp[setRow,hr]
  | some r=>
    have hi:i<rows.length:=(N6.1 hr).1;have hl:=h4 r (N4 hr);simp only[setRow,hr,NV hi,List.set_set];congr 1
    match r,hl with
    | [a,b,c,d],_=>
      match f,g,hf,hg with
      |0,0,_,_|1,1,_,_|2,2,_,_|3,3,_,_=>rcases h with h|h<;>simp_all
      |0,1,_,_|0,2,_,_|0,3,_,_|1,0,_,_|1,2,_,_|1,3,_,_|2,0,_,_|2,1,_,_|2,3,_,_|3,0,_,_|3,1,_,_|3,2,_,_=>rfl
 cases hi:rows[i]? with
 |none=>simp only[setRow,hi];cases hj:rows[j]? <;>simp[hi,Ne.symm hij]
 | some r=>
   cases hj:rows[j]? with
   |none=>simp[setRow,hi,hj,hij]
   | some q=>
     simp only[setRow,hi,hj,Dj hij,Dj (Ne.symm hij)];exact List.set_comm _ _ hij
theorem Xd2 {rows:List (List CD)} {s t:Ww} {j k:Nat} (h4:∀r∈rows,r.length=4) (h:s≠t\/j=k):X0M (X0M rows s j) t k=X0M (X0M rows t k) s j:=by
 unfold X0M;refine X9C h4 (by split<;>omega) (by split<;>omega) ?_;obtain⟨s1,s2⟩:=s;obtain⟨t1,t2⟩:=t;rcases h with h|h
 .refine .inl fun e=>h ?_;simp only[Prod.mk.injEq]at e⊢;refine⟨?_,e.1⟩;cases s1<;>cases t1<;>simp_all
 exact .inr (by rw[h])
theorem X35 {j k:Nat} {t:Ww}:∀(sl:List Ww) (rows:List (List CD)),(∀r∈rows,r.length=4)->((∀s∈sl,s≠t)\/j=k)->XB j sl (X0M rows t k)=X0M (XB j sl rows) t k
 |[],_,_,_=>rfl
 | s::sl,rows,h4,h=>by
   simp only[XB];rw[Xd2 h4 (h.imp (fun h=>Ne.symm (h s (by simp))) Eq.symm),X35 sl _ (X0d h4) (h.imp (fun h x hx=>h x (by simp[hx])) id)]
theorem X5n {k:Nat}:∀(x y:List Ww) (rows:List (List CD)),(∀r∈rows,r.length=4)->XB k x (XB k y rows)=XB k y (XB k x rows)
 |x,[],rows,_=>rfl
 | x,t::y,rows,h4=>by
   simp only[XB];rw[X5n x y _ (X0d h4),X35 x rows h4 (.inr rfl)]
theorem Xar:∀(l:List St) (sl:List Ww) (st:Bst),okB sl st.1->∀s∈(Qb l sl st).2,(l=[]/\s∈sl)\/st.1.length<=s.2:=by
 have one:∀(s:St),(∀l,l=s.then_\/l=s.else_->∀(sl:List Ww) (st:Bst),okB sl st.1->∀s∈(Qb l sl st).2,(l=[]/\s∈sl)\/st.1.length<=s.2)->
   ∀(k:Nat) (st:Bst),(∀r∈st.1,r.length=4)->k=st.1.length->∀q∈(Zf s k st).2,k<=q.2:=by
  intro s ih k st h4 hk q hq;obtain⟨o,c,v,n,t,a,b,bs⟩:=s;simp only[St.then_,St.else_]at ih;unfold Zf at hq;split at hq
  .have k1:okB [(false,k)] (st.1++[XQ 3 st.2]):=⟨Wv h4,by simp[hk]⟩;have ok:=Wt a [(false,k)] (st.1++[XQ 3 st.2],st.2+1) k1;have ia:=ih a (.inl rfl) [(false,k)] (st.1++[XQ 3 st.2],st.2+1) k1;obtain⟨x,hx⟩:∃x,Qb a [(false,k)] (st.1++[XQ 3 st.2],st.2+1)=x:=⟨_,rfl⟩;simp only[hx,Na,List.length_singleton]at hq ok ia;have ib:=ih b (.inr rfl) [(true,k)] x.1 ⟨ok.1.four,by simp;omega⟩;rcases Ni.1 hq with hq|hq
   .rcases ia q hq with⟨_,h⟩|h
    .rw[Nl.1 h];exact NI _
    omega
   rcases ib q hq with⟨_,h⟩|h
   .rw[Nl.1 h];exact NI _
   omega
  split at hq
  .rw[Nl.1 hq];exact Nat.le_succ _
  rw[Nl.1 hq];exact NI _
 apply St.lists;intro l ih sl st hok q hq
 have key:∀(l:List St),(∀s∈l,∀l',l'=s.then_\/l'=s.else_->∀(sl:List Ww) (st:Bst),okB sl st.1->∀s∈(Qb l' sl st).2,(l'=[]/\s∈sl)\/st.1.length<=s.2)->∀(sl:List Ww) (st:Bst),okB sl st.1->∀q∈(Qb l sl st).2,(l=[]/\q∈sl)\/st.1.length<=q.2:=by
  intro l
  induction l with
  |nil=>intro _ sl st _ q hq;exact .inl ⟨rfl,hq⟩
  | cons s l il=>
    intro ih sl st hok q hq;unfold Qb at hq;have h4:∀r∈XB st.1.length sl st.1,r.length=4:=ZV _ _ _ hok.four;have o1:=X5N s st.1.length (XB st.1.length sl st.1,st.2) h4 (Q8 ..).symm;have o2:=one s (ih s (by simp)) st.1.length (XB st.1.length sl st.1,st.2) h4 (Q8 ..).symm;obtain⟨x,hx⟩:∃x,Zf s st.1.length (XB st.1.length sl st.1,st.2)=x:=⟨_,rfl⟩;simp only[hx,Q8]at hq o1 o2;rcases il (fun s hs=>ih s (by simp[hs])) x.2 x.1 o1.1 q hq with⟨_,h⟩|h
    .exact .inr (o2 q h)
    exact .inr (Dz o1.2.1 h)
 exact key l (fun s hs l' h=>by
  rcases h with rfl|rfl
  .exact(ih s hs).1
  exact(ih s hs).2) sl st hok q hq
mutual
def gS:St->Bool
 | .mk o _ _ _ _ a b _=>(decide (o=3)||(decide (o=4)&&b.isEmpty)||(a.isEmpty&&b.isEmpty))&&(gL a&&gL b)
def gL:List St->Bool
 |[]=>true
 |s::l=>gS s&&gL l
end
theorem X9g {vars:List Vr} {nh:Nat}:∀(l:List St) (top:Bool),ssC vars nh l top=0->gL l=true
 |[],_,_=>rfl
 | .mk d c v n t a b bs::l,top,h=>by
   have hs:shB vars nh d v n t a.length b.length bs (top&&l.isEmpty)=true:=by
    simp only[ssC]at h;split at h
    .rename_i h0;unfold stC at h0;split at h0
     .cases h0
     rename_i hs;simpa using hs
    rename_i h0;exact absurd h h0
   have hr:ssC vars nh a false=0/\ssC vars nh b false=0/\ssC vars nh l top=0:=by
    simp only[ssC]at h;split at h
    .split at h
     .split at h
      .rename_i ha hb;exact⟨ha,hb,h⟩
      rename_i hb;exact absurd h hb
     rename_i ha;exact absurd h ha
    rename_i h0;exact absurd h h0
   simp only[gL,gS,N3,Nf,N5,De];refine⟨⟨?_,X9g a false hr.1,X9g b false hr.2.1⟩,X9g l top hr.2.2⟩;rcases XaJ hs with h1|h1|⟨h1,h2⟩
   .exact .inl (.inl h1)
   .refine .inl (.inr ⟨h1,?_⟩);subst h1;unfold shB at hs;simp at hs;exact hs.1.2
   exact .inr ⟨Ns h1,Ns h2⟩
mutual
theorem X6u:∀(s:St) (d:Int) (k after:Nat),gS s=true->(X1o s d k after).length=wdS s
 | .mk o c v n t a b bs,d,k,after,h=>by
   simp only[gS,N3,Nf,N5,De]at h;obtain⟨h,ha,hb⟩:=h;unfold X1o wdS;by_cases h3:o=3
   .have h4:¬o=4:=by omega
    rw[N8 h3,N7 h4];simp only[List.length_cons,Na,Wb a _ _ _ ha,Wb b _ _ _ hb];omega
   rw[N7 h3];by_cases h4:o=4
   .rw[N8 h4,N8 h4]
    have hb0:b=[]:=by
     rcases h with(h|h)|h
     .exact absurd h h3
     .exact h.2
     exact h.2
    subst hb0;simp only[List.length_cons,Wb a _ _ _ ha,wdL];omega
   rw[N7 h4,N7 h4]
   have h0:a=[]/\b=[]:=by
    rcases h with(h|h)|h
    .exact absurd h h3
    .exact absurd h.1 h4
    exact h
   rw[h0.1,h0.2];rfl
theorem Wb:∀(l:List St) (d:Int) (k after:Nat),gL l=true->(X0o l d k after).length=wdL l
 |[],_,_,_,_=>rfl
 | s::l,d,k,after,h=>by
   simp only[gL,N3]at h;unfold X0o wdL;rw[Na,X6u s _ _ _ h.1,Wb l _ _ _ h.2]
end
def layOK (l:List St):Prop:=gL l=true->∀(sl:List Ww) (st:Bst) (d:Int),okB sl st.1->st.2=d->
 (∀after:Nat,XB after (Qb l sl st).2 (Qb l sl st).1.1=XB (if l=[] then after else st.1.length) sl st.1++Qv (X0o l d st.1.length after))/\(Qb l sl st).1.2=d+szL l
def layOne (s:St):Prop:=gS s=true->∀(k:Nat) (st:Bst) (d:Int),(∀r∈st.1,r.length=4)->k=st.1.length->st.2=d->
 (∀after:Nat,XB after (Zf s k st).2 (Zf s k st).1.1=st.1++Qv (X1o s d k after))/\(Zf s k st).1.2=d+szS s
theorem Xdx (a b:List Nd):Qv (a++b)=Qv a++Qv b:=by simp[Qv]
theorem X1d {A:List (List CD)} {x:List CD} {o:Bool} {k v:Nat} (hk:k=A.length):X0M (A++[x]) (o,k) v=A++[if o=true then x.take 3++[iC v]++x.drop 4 else x.take 2++[iC v]++x.drop 3]:=by
 subst hk;unfold X0M setRow;simp;cases o<;>simp
theorem XdZ (s:St) (ha:layOK s.then_) (hb:layOK s.else_):layOne s:=by
 obtain⟨o,c,v,n,t,a,b,bs⟩:=s;simp only[St.then_,St.else_]at ha hb;intro hg k st d h4 hk hd;simp only[gS,N3,Nf,N5,De]at hg;obtain⟨hg,hga,hgb⟩:=hg;have ha:=ha hga;have hb:=hb hgb;subst hd;unfold Zf X1o szS;by_cases h3:o=3
 .simp only[N8 h3];have k1:okB [(false,k)] (st.1++[XQ 3 st.2]):=⟨Wv h4,by simp[hk]⟩;have ok:=Wt a [(false,k)] (st.1++[XQ 3 st.2],st.2+1) k1;have sa:=Xar a [(false,k)] (st.1++[XQ 3 st.2],st.2+1) k1;obtain⟨ia,ida⟩:=ha [(false,k)] (st.1++[XQ 3 st.2],st.2+1) _ k1 rfl;obtain⟨x,hx⟩:∃x,Qb a [(false,k)] (st.1++[XQ 3 st.2],st.2+1)=x:=⟨_,rfl⟩;simp only[hx,Na,List.length_singleton]at ok sa ia ida⊢;have k2:okB [(true,k)] x.1.1:=⟨ok.1.four,by simp;omega⟩;have ok2:=Wt b [(true,k)] x.1 k2;obtain⟨ib,idb⟩:=hb [(true,k)] x.1 _ k2 rfl;obtain⟨y,hy⟩:∃y,Qb b [(true,k)] x.1=y:=⟨_,rfl⟩;simp only[hy]at ok2 ib idb⊢
  have hlen:x.1.1.length=k+1+wdL a:=by
   have:=congrArg List.length (ia 0);rw[Q8,Na,Q8,Na,List.length_singleton,X6r,Wb a _ _ _ hga]at this;omega
  refine⟨fun after=>?_,by omega⟩;rw[X6g,X5n _ _ _ ok2.1.four,ib after,X5Y x.2 (fun s hs=>by rw[Q8];exact ok.1.lt s hs)];simp only[XB]
  rw[X35 x.2 _ ok.1.four (.inl fun s hs=>by
   rcases sa s hs with⟨_,h⟩|h
   .rw[Nl.1 h];simp
   intro e;rw[e]at h;simp at h;omega),ia after]
  simp only[XB];rw[X1d hk,X6n (by simp[hk]),X1d hk,hlen,ida,hk];simp only[NB,Nc,Nj,List.take,List.drop,List.nil_append,List.cons_append,Dq,Qv,Nk,DA,Nd.enc,Dx];refine congrArg (st.1++ ·) ?_;congr 2;by_cases h1:a=[]<;>by_cases h2:b=[]<;>simp[h1,h2]
 by_cases h4':o=4
 .simp only[N7 h3,N8 h4']
  have hb0:b=[]:=by
   rcases hg with(h|h)|h
   .exact absurd h h3
   .exact h.2
   exact h.2
  subst hb0
  have hR:setRow (st.1++[XQ 4 st.2]++[XQ 5 st.2]) k 2 [iC ((k:Int)+1)]=st.1++[[iC 4,iC st.2,iC ((k:Int)+1),iC (-1)]]++[XQ 5 st.2]:=by
   subst hk;simp[setRow]
  have k1:okB [(false,k+1)] (st.1++[[iC 4,iC st.2,iC ((k:Int)+1),iC (-1)]]++[XQ 5 st.2]):=by
   rw[<-hR];exact⟨X0K (Wv (Wv h4)) (by omega),by simp[hk]⟩
  rw[hR];have ok:=Wt a [(false,k+1)] (st.1++[[iC 4,iC st.2,iC ((k:Int)+1),iC (-1)]]++[XQ 5 st.2],st.2+1) k1;obtain⟨ia,ida⟩:=ha [(false,k+1)] (st.1++[[iC 4,iC st.2,iC ((k:Int)+1),iC (-1)]]++[XQ 5 st.2],st.2+1) _ k1 rfl;obtain⟨x,hx⟩:∃x,Qb a [(false,k+1)] (st.1++[[iC 4,iC st.2,iC ((k:Int)+1),iC (-1)]]++[XQ 5 st.2],st.2+1)=x:=⟨_,rfl⟩;simp only[hx]at ok ia ida⊢;refine⟨fun after=>?_,by simp only[szL];omega⟩;simp only[XB];rw[ia (k+1)];simp only[XB];rw[X1d (by simp[hk]),X6n (by simp[hk]),X1d (by simp[hk])];simp only[XQ,NB,Nc,Nj,List.take,List.drop,List.nil_append,List.cons_append,Dq,Qv,Nk,Nd.enc,Dx,Na,hk];refine congrArg (st.1++ ·) ?_;congr 2;by_cases h1:a=[]<;>simp[h1]
 simp only[N7 h3,N7 h4']
 have h0:a=[]/\b=[]:=by
  rcases hg with(h|h)|h
  .exact absurd h h3
  .exact absurd h.1 h4'
  exact h
 rw[h0.1,h0.2];refine⟨fun after=>?_,by simp only[szL];omega⟩;simp only[XB];rw[X1d hk];rfl
theorem Xdk:∀l:List St,layOK l:=by
 apply St.lists;intro l ih
 have key:∀l:List St,(∀s∈l,layOne s)->layOK l:=by
  intro l
  induction l with
  | nil=>
    intro _ _ sl st d hok hd;exact⟨fun after=>by simp[Qb,X0o,Qv],by simp[Qb,szL,hd]⟩
  | cons s l il=>
    intro h hg sl st d hok hd;simp only[gL,N3]at hg;have h4:∀r∈XB st.1.length sl st.1,r.length=4:=ZV _ _ _ hok.four;have o1:=X5N s st.1.length (XB st.1.length sl st.1,st.2) h4 (Q8 ..).symm;obtain⟨i1,id1⟩:=h s (by simp) hg.1 st.1.length (XB st.1.length sl st.1,st.2) d h4 (Q8 ..).symm hd;unfold Qb X0o szL;obtain⟨x,hx⟩:∃x,Zf s st.1.length (XB st.1.length sl st.1,st.2)=x:=⟨_,rfl⟩;simp only[hx]at o1 i1 id1⊢
    have hlen:x.1.1.length=st.1.length+wdS s:=by
     have:=congrArg List.length (i1 0);rw[Q8,Na,Q8,X6r,X6u s _ _ _ hg.1]at this;exact this
    obtain⟨i2,id2⟩:=il (fun s hs=>h s (by simp[hs])) hg.2 x.2 x.1 _ o1.1 id1;refine⟨fun after=>?_,by omega⟩;rw[i2 after,hlen,i1,Xdx,N7 (List.cons_ne_nil s l),Dx]
 exact key l fun s hs=>XdZ s (ih s hs).1 (ih s hs).2
theorem XcC (l:List St) (hg:gL l=true):bldF l=Qv (grN l):=by
 have k0:okB [(false,0)] [[iC 0,iC (-1),iC (-1),iC (-1)]]:=⟨by simp,by simp⟩;obtain⟨i1,_⟩:=Xdk l hg [(false,0)] ([[iC 0,iC (-1),iC (-1),iC (-1)]],0) 0 k0 rfl;unfold bldF;obtain⟨x,hx⟩:∃x,Qb l [(false,0)] ([[iC 0,iC (-1),iC (-1),iC (-1)]],0)=x:=⟨_,rfl⟩;simp only[hx]at i1⊢
 have hlen:x.1.1.length=1+wdL l:=by
  have:=congrArg List.length (i1 0);rw[Q8,Na,Q8,X6r,Wb l _ _ _ hg]at this;exact this
 rw[i1,hlen];unfold grN;simp only[XB,X0M,setRow,List.length_singleton];simp[Qv];by_cases h:l=[]<;>simp[h]
structure Sm (f:Fl):Prop where
 vars:f.vars.length<=1000
 hats:f.hats.length<=1000
 nodes:Xl f.body+QD f.hats<=1000
 bnd:Z9 f.body=true
mutual
theorem szN_le:∀s:St,szN s<=2*szS s
 | .mk _ _ _ _ _ a b _=>by have:=X48 a;have:=X48 b;simp only[szN,szS];omega
theorem X48:∀l:List St,X0l l<=2*szL l
 |[]=>by simp[X0l]
 |s::l=>by have:=szN_le s;have:=X48 l;simp only[X0l,szL];omega
end
theorem Sm.sz {f:Fl} (h:Sm f):szL f.body<=1000:=Dz (Zh f.body) (by have:=h.nodes;omega)
theorem X0T {f:Fl} (h:XR f=0):gL f.body=true:=X9g f.body true (Q6 h).2.2.2.1
mutual
theorem wdS_le:∀s:St,wdS s<=2*szS s
 | .mk o _ _ _ _ a b _=>by have:=X4I a;have:=X4I b;simp only[wdS,szS];split<;>omega
theorem X4I:∀l:List St,wdL l<=2*szL l
 |[]=>by simp[wdL]
 |s::l=>by have:=wdS_le s;have:=X4I l;simp only[wdL,szL];omega
end
theorem X1q {l:List St} (h:gL l=true):(grN l).length=2+wdL l:=by
 simp only[grN,List.length_cons,Na,Wb l _ _ _ h,List.length_nil];omega
abbrev grC (l:List St):CD:=.sl 4 (Qv (grN l))
theorem X86 (f:Fl) (h:Sm f) (d:Nat):Con prog 63 false [aF f] (.tup [.agg [.c (if XR f=0 then grC f.body else .lit XX)],li (XR f)]) none d:=by
 have cc:=X1u f (by have:=h.vars;omega) (by have:=h.hats;omega) (by have:=h.nodes;omega) h.bnd;have cb:=X7B f (by have:=h.sz;have:=X48 f.body;omega);have hg:=@X0T f;have he:=XcC f.body;obtain⟨vars,hats,body⟩:=f;simp only at he hg;obtain⟨C,hC⟩:∃x,XR ⟨vars,hats,body⟩=x:=⟨_,rfl⟩;rw[hC]at cc hg⊢;refine X5 Tryz.func63 ?_;simp only[Tryz.f63];simp only[aF,Fl.enc,Nk,Nr]at cc cb⊢;refine X2 ?_;refine X0<|X0<|(Xo [⟨true,.v (li C),none⟩] ?_ ?_)
 .first|exact cc _|exact trivial|simpa[*]using cc _
 refine X2 ?_;refine(Xb rfl (fun h3=>?_) fun h3=>?_)
 ·simp only[BN]at h3;have hz:¬C=0:=by simpa using h3
  clear h3 he hg cb;refine X0<|(Xs (by simp[*,XL,QH,cellsOf];rfl) ?_);exact XZ ⟨.inr rfl,_,le_refl _,⟨_,by simp;rfl,by simp[XG,hz,XX,li]⟩,by simp,fun h=>by cases h⟩
 simp only[BN]at h3;have hz:C=0:=by simpa using h3
 have he:=he (hg hz);rw[he]at cb;clear h3 he hg;refine X0<|(Wi [⟨false,.v (.agg [.c (.sl 4 (Qv (grN body)))]),none⟩] (by simp[*,cellsOf];first|exact⟨rfl,Iff.rfl⟩|exact⟨rfl,trivial⟩|rfl) ?_ ?_)
 .first|exact cb _|exact trivial|simpa[*,cellsOf,W4]using cb _
 exact XZ ⟨.inr rfl,_,le_refl _,⟨_,by simp;rfl,by simp[XG,hz,li]⟩,by simp,fun h=>by cases h⟩
@[simp] theorem fsN:X6k prog 195=some [true,true,true,true]/\arrI prog 195=none:=by and_intros<;>kernel_rfl
theorem eqN_con (a:List Nd) (ha:a.length<=1000000000) (d:Nat):Con prog 190 true [.one (.c (.sl 4 (Qv a))),.one (.c (.sl 4 (Qv a)))] (.v (lb true)) none d:=by
 refine X5 Tryz.func190 ?_;simp only[Tryz.f190];refine X2 ?_;refine X0<|X0<|X1 ?_;refine(Xb rfl (fun h2=>?_) fun h2=>?_)
 .cases h2
 simp only at h2;refine X0<|X0<|X1 ?_;refine X3<|(Xg [0,1,12] (fun(z:Nat)=>[(13,.v (li z))]) (fun z=>[]) (fun z=>z<=a.length) (fun z=>a.length - z) (0:Nat) (Nq _) ?_ ?_)
 .exact X4 (fun n=>n) []
 rintro k hk;simp only[upS,X8,Xz]
 simp only[KN,Nat.reduceBEq,Nj,Nc,ins,Nat.reduceLT]
 refine X2 ?_;refine X0<|(X6 rfl (fun h8=>Xe ?_) (fun h8=>?_))
 ·simp only[BN]at h8;have hlt:k<a.length:=by omega
  obtain⟨x,he,_⟩:=Xt hlt;have hw1:=XD hlt (by omega);have hk1:k+1<=a.length:=hlt;have he':=X4f he;simp only[Nd.enc]at he';clear hlt h8 he;refine X0<|X3<|X0<|X1 ?_;refine X0<|(N0 ?_);refine(Xb rfl (fun h11=>?_) fun h11=>?_)
  .cases h11
  simp only at h11;refine X1 ?_;exact⟨k+1,hk1,by omega,X4 (fun n=>n) []⟩
 simp only[BN]at h8;refine(Xi ?_);refine X2 ?_;exact Xc
theorem X85 (f:Fl) (h:Sm f) (h0:XR f=0) (d:Nat):Con prog 120 true [aF f,.agg [.c (grC f.body)]] (.v (li 0)) none d:=by
 have cc:=X1u f (by have:=h.vars;omega) (by have:=h.hats;omega) (by have:=h.nodes;omega) h.bnd;have cb:=X7B f (by have:=h.sz;have:=X48 f.body;omega);rw[XcC f.body (X0T h0)]at cb;have hlen:=X1q (X0T h0);have ce:=eqN_con (grN f.body) (by have:=h.sz;have:=X4I f.body;omega);obtain⟨vars,hats,body⟩:=f;rw[h0]at cc;clear h h0 hlen;simp only at ce cb;refine X5 Tryz.func120 ?_;simp only[Tryz.f120];simp only[aF,Fl.enc,Nk,Nr]at cc cb⊢;refine X2 ?_;refine X0<|X0<|(Xo [⟨true,.v (li 0),none⟩] ?_ ?_)
 .first|exact cc _|exact trivial|simpa[*]using cc _
 refine X2 ?_;refine(Xb rfl (fun h3=>?_) fun h3=>?_)
 .exact Bool.noConfusion h3
 simp only at h3;refine X0<|X0<|(XU [⟨false,.v (.agg [.c (.sl 4 (Qv (grN body)))]),none⟩,⟨true,.v (lb true),none⟩] (by kernel_rfl) (by kernel_rfl) (by rfl) (by simp[*];first|exact⟨rfl,Iff.rfl⟩|exact⟨rfl,trivial⟩|rfl) ?_ ?_)
 .first|exact⟨cb _,ce _⟩|exact trivial|(repeat' first|exact trivial|exact cb _|exact ce _|apply And.intro)
 refine(Xb rfl (fun h7=>?_) fun h7=>?_)
 .exact Bool.noConfusion h7
 simp only at h7;refine X2 ?_;exact Xc
mutual
def flS:St->List St
 | .mk d c v n t a b bs=>.mk d c v n t a b bs::(flL a++flL b)
def flL:List St->List St
 |[]=>[]
 |s::l=>flS s++flL l
end
theorem XbV (s:St):flS s=s::(flL s.then_++flL s.else_):=by cases s;rfl
mutual
theorem Xcf:∀s:St,(flS s).length=szS s
 | .mk _ _ _ _ _ a b _=>by simp only[flS,szS,List.length_cons,Na,Q2 a,Q2 b];omega
theorem Q2:∀l:List St,(flL l).length=szL l
 |[]=>rfl
 |s::l=>by simp only[flL,szL,Na,Xcf s,Q2 l]
end
theorem QB (a b:List St):X7 (a++b)=X7 a++X7 b:=by rw[WU,WU,WU,DA]
theorem XaP (l:List St):szL l<=1000->∀d:Nat,Con prog 121 false [lS l] (.v (lS (flL l))) none d:=by
 revert l
 apply St.lists;intro l ih hn d;have hlen:=X5I l;obtain⟨res,hres⟩:∃r,flL l=r:=⟨_,rfl⟩;rw[hres];refine X5 Tryz.func121 ?_;simp only[Tryz.f121];refine X0<|(Xs (by simp[*];rfl) ?_);refine X0<|(Xs (by simp[*];rfl) ?_);refine X0<|X0<|(Xs (by simp[*];rfl) ?_);refine X3<|(Xg [6,7] (fun(x:Nat×List St)=>[(3,.v (.one (.own 1003))),(8,.v (li x.1))]) (fun x=>[(1003,.row 70 10 (X7 x.2))]) (fun x=>x.1<=l.length/\x.2++flL (l.drop x.1)=res/\x.2.length+szL (l.drop x.1)<=1000) (fun x=>l.length - x.1) (0,[]) ⟨Nq _,by simpa using hres,by simpa using hn⟩ ?_ ?_)
 .exact Xw (fun n=>n) [1003] rfl (by simp[*,upS,X8,X7]) (by simp[*,upS]) (by simp[upS])
 rintro⟨k,acc⟩ ⟨hk,hJ,hal⟩;simp only[upS,X8,Xz]
 simp only[KN,Nat.reduceBEq,Nj,Nc,ins,Nat.reduceLT]
 simp only at hk hJ hal;clear hres;refine X0<|(Xs (by simp[*];rfl) ?_);refine X0<|(X6 rfl (fun h5=>Xe ?_) (fun h5=>?_))
 ·simp only[BN]at h5;have hlt:k<l.length:=by omega
  obtain⟨s,he,hd⟩:=Xt hlt;have hw1:=XD hlt (by omega);have hk1:k+1<=l.length:=hlt;have hmem:s∈l:=N4 he;rw[hd]at hJ hal;simp only[flL,XbV]at hJ;simp only[szL]at hal;have he':=Q4 he;have iha:=(ih s hmem).1;have ihb:=(ih s hmem).2;obtain⟨so,sc,sv,sn,⟨tq,tn,tk⟩,sa,sb,sbs⟩:=s;simp only[St.then_,St.else_]at iha ihb hJ;simp only[szS]at hal;have iha:=iha (by omega);have ihb:=ihb (by omega);have la:=Q2 sa;have lb:=Q2 sb;obtain⟨A,hA⟩:∃x,flL sa=x:=⟨_,rfl⟩;obtain⟨B,hB⟩:∃x,flL sb=x:=⟨_,rfl⟩;rw[hA]at iha hJ la;rw[hB]at ihb hJ lb;have r1:W5 (acc.length+1) 144:=Qc (by omega) (by decide);have r2:W5 (acc.length+1+A.length) 144:=Qc (by omega) (by decide);have r3:W5 (acc.length+(A.length+1)+B.length) 144:=Qc (by omega) (by decide);rw[la]at r2 r3;rw[lb]at r3;simp only[St.enc,Tm.enc,List.cons_append,List.nil_append]at he';clear hlt h5 ih hmem he hd hA hB;refine X0<|X3<|X0<|(Xs (by simp[*];rfl) ?_);refine X0<|(Xs (by simp[*];rfl) ?_);refine X0<|(Wi [⟨false,.v (lS A),none⟩] (by simp[*];first|exact⟨rfl,Iff.rfl⟩|exact⟨rfl,trivial⟩|rfl) ?_ ?_)
  .first|exact iha _|exact trivial|simpa[*,QB,X7]using iha _
  refine(Wi [⟨false,.v (lS B),none⟩] (by simp[*];first|exact⟨rfl,Iff.rfl⟩|exact⟨rfl,trivial⟩|rfl) ?_ ?_)
  .first|exact ihb _|exact trivial|simpa[*,QB,X7]using ihb _
  refine(Xs (by simp[*];rfl) ?_);exact⟨(k+1,acc++(.mk so sc sv sn (.mk tq tn tk) sa sb sbs::(A++B))),⟨hk1,by simpa using hJ,by simp only[Na,List.length_cons];omega⟩,by simp only;omega,Xw (fun n=>if n=1003 then 25 else n) [] rfl (by simp[*]) (by simp[*,QB,X7]) (by simp)⟩
 simp only[BN]at h5;have hkl:k=l.length:=by omega
 subst hkl;simp only[Nw,flL,Dq]at hJ;subst hJ;clear h5 ih;refine(Xi ?_);refine XC (Qy 1003 rfl) ?_;refine X0<|(Xs (by simp[*];rfl) ?_);exact XZ ⟨.inr rfl,_,le_refl _,⟨⟨_,by simp;rfl,by simp[XG]⟩,by simp,fun h=>by cases h⟩⟩
def Qk (steps:List St) (d:Nat):Int:=match steps[d]? with
 |some s=>s.var
 |none=>(d:Int) - steps.length
def WL (l:List Nat):List (List CD):=l.map fun d:Nat=>[iC d]
@[simp] theorem len_encD (l:List Nat):(WL l).length=l.length:=by simp[WL]
@[simp] theorem X6I (a b:List Nat):WL (a++b)=WL a++WL b:=by simp[WL]
@[simp] theorem encD_nil:WL []=[]:=rfl
@[simp] theorem encD_one (a:Nat):WL [a]=[[iC a]]:=rfl
def mpI (l:List Nat):List (Value×CD):=l.map fun d:Nat=>(.int .i64 d,bC true)
@[simp] theorem Xcp (l:List Nat):(mpI l).length=l.length:=by simp[mpI]
theorem Xcb {l:List Nat} {j:Nat} {k:Value} {v:CD} (h:(mpI l)[j]? =some (k,v)):∃d:Nat,l[j]? =some d/\k=.int .i64 d/\v=bC true:=by
 simp only[mpI,Nn,N9]at h;obtain⟨d,hd,he⟩:=h;cases he;exact⟨d,hd,rfl,rfl⟩
def setsC (S:List (List Nat)):CD:=.sl 1 (S.map fun l=>[.mp (mpI l)])
theorem varOf_lt {steps:List St} {d:Nat} (s:St) (h:steps[d]? =some s):Qk steps d=s.var:=by simp[Qk,h]
theorem varOf_ge {steps:List St} {d:Nat} (h:steps.length<=d):Qk steps d=(d:Int) - steps.length:=by simp[Qk,Ny h]
theorem X8v (steps:List St) (n:Nat) (hn:n<=1000000) (hl:steps.length<=1000000) (d:Nat):Con prog 122 true [li n,.one (.c (.ptr [.sl 10 (X7 steps)]))] (.v (li (Qk steps n))) none d:=by
 obtain⟨res,hres⟩:∃x,Qk steps n=x:=⟨_,rfl⟩;rw[hres];refine X5 Tryz.func122 ?_;simp only[Tryz.f122];refine X2 ?_;refine X0<|X0<|X1 ?_;refine(Xb rfl (fun h2=>?_) fun h2=>?_)
 ·simp only[BN]at h2;have hge:steps.length<=n:=by simpa using h2
  rw[varOf_ge hge]at hres;have hw:IntKind.i64.wrap ((n:Int) - steps.length)=(n:Int) - steps.length:=Xa;clear h2;refine X2 ?_;exact Xc
 simp only[BN]at h2;have hlt:n<steps.length:=by simpa using h2
 obtain⟨s,he,_⟩:=Xt hlt;have he':=Q4 he;rw[varOf_lt s he]at hres;obtain⟨so,sc,sv,sn,⟨tq,tn,tk⟩,sa,sb,sbs⟩:=s;simp only[St.enc,Tm.enc,List.cons_append,List.nil_append]at he';simp only[St.var]at hres;clear h2 he hlt;refine X2 ?_;exact Xc
def QK (steps:List St) (x:Nd):Bool:=decide (x.k=2)&&(match steps[x.a.toNat]? with
 |some s=>decide (s.do_=0)||decide (s.do_=5)
 |none=>false)
def Zv (steps:List St) (x:Nd):Int:=match steps[x.a.toNat]? with
 |some s=>s.var
 |none=>0
def X5V (steps:List St) (nv:Nat) (Si:List Nat) (x:Nd):List Nat:=
 if x.k=0 then(List.range nv).map fun v=>steps.length+v
 else Si.filter (fun d=> !QK steps x||decide (Qk steps d≠Zv steps x))++if QK steps x=true then [x.a.toNat] else []
def aftΦ (steps:List St) (nv:Nat) (Si:List Nat) (x:Nd) (l:List Nat):Prop:=(∀d,d∈l↔d∈X5V steps nv Si x)/\l.length<=5000
theorem WA {seen:List Nat} {n:Nat} (h:seen.Nodup) (hl:∀j∈seen,j<n):seen.length<=n:=by
 induction n generalizing seen with
 | zero=>
   cases seen with
   |nil=>simp
   |cons x l=>exact absurd (hl x (by simp)) (by omega)
 | succ n ih=>
   have h1:=ih (h.erase n) fun j hj=>by
    have h2:=(h.mem_erase_iff).1 hj;have:=hl j h2.2;omega
   have:=List.length_erase_of_mem (a:=n) (l:=seen);by_cases hm:n∈seen
   .rw[this hm]at h1;omega
   rw[List.erase_of_not_mem hm]at h1;omega
abbrev kC (steps:List St):CD:=.fn 122 [.ptr [.sl 10 (X7 steps)]]
theorem out_all {Si seen out:List Nat} {p:Nat->Bool} (hall:∀j:Nat,j<(mpI Si).length->j∈seen) (h:∀d,d∈out↔∃j∈seen,Si[j]? =some d/\p d=true) (d:Nat):d∈out↔d∈Si.filter p:=by
 rw[h,NN];constructor
 .rintro⟨j,_,h1,h2⟩;exact⟨N4 h1,h2⟩
 rintro⟨h1,h2⟩;obtain⟨j,hj⟩:=NK.1 h1;exact⟨j,hall j (by rw[Xcp];exact(N6.1 hj).1),hj,h2⟩
theorem X4O (l:List Nat):(Ob.row 3 1 (WL l)).lits:=by
 intro r hr c hc;simp only[WL,NG]at hr;obtain⟨_,_,rfl⟩:=hr;rw[Nl.1 hc];exact⟨_,rfl⟩
def X3x (l:List Nat) (n:Nat):Prop:=∀j∈l,j<n
set_option maxHeartbeats 4000000 in
theorem XdC (f:Fl) (N:List Nd) (steps:List St) (S:List (List Nat)) (i:Nat) (x:Nd) (Si:List Nat) (hx:N[i]? =some x) (hS:S[i]? =some Si) (hs:steps.length<=1000) (hv:f.vars.length<=1000) (hSi:Si.length<=2000) (hSb:∀d∈Si,d<=1000000) (ha:(x.k≠2/\x.a=-1)\/∃m:Nat,x.a=m/\m<steps.length) (dd:Nat) (hdd:dd<1000000):
  ConF (X:=List Nat) prog 123 true [li i,.one (.c (.ptr [.sl 4 (Qv N)])),.one (.c (.ptr f.enc)),.one (.c (.ptr [.sl 10 (X7 steps)])),.one (.c (.ptr [setsC S])),.one (.c (.ptr [kC steps]))] (aftΦ steps f.vars.length Si x) (fun _=>.v (.one (.own dd))) (fun l=>some (.row 3 1 (WL l))) dd:=by
 have hx':=X4f hx;have hSr:(S.map fun l=>[CD.mp (mpI l)])[i]? =some [CD.mp (mpI Si)]:=by simp[hS]
 obtain⟨vars,hats,body⟩:=f;obtain⟨xk,xa,xn,xo⟩:=x;simp only at hv;simp only[Nd.enc]at hx';clear hx hS;refine XaZ Tryz.func123 rfl (by kernel_rfl) (NL rfl) ?_;simp only[Tryz.f123];simp only[Fl.enc,setsC];refine X2 ?_;refine X2 ?_;refine X2 ?_;refine X0<|X0<|X1 ?_;refine(Xb rfl (fun h4=>?_) fun h4=>?_)
 ·simp only[BN]at h4;have hk:xk=0:=by simpa using h4
  clear h4 ha;refine X0<|X0<|X1 ?_;refine X3<|(Xg [3,23] (fun(y:Nat)=>[(9,.v (.one (.own 900001))),(24,.v (li y))]) (fun y=>[(900001,.row 3 1 (WL ((List.range y).map fun v=>steps.length+v)))]) (fun y=>y<=vars.length) (fun y=>vars.length - y) (0:Nat) (Nq _) ?_ ?_)
  .exact X4 (fun n=>n) [900001]
  rintro y hy;simp only[upS,X8,Xz]
  simp only[KN,Nat.reduceBEq,Nj,Nc,ins,Nat.reduceLT]
  refine X2 ?_;refine X0<|(X6 rfl (fun h8=>Xe ?_) (fun h8=>?_))
  ·simp only[BN]at h8;have hlt:y<vars.length:=by omega
   have hw1:=XD hlt (by omega);have hk1:y+1<=vars.length:=hlt;have hw2:IntKind.i64.wrap ((steps.length:Int)+y)=steps.length+y:=Xa;have hroom:W5 (y+1) 8:=Qc (by omega) (by decide)
   have hsn:WL ((List.range (y+1)).map fun v=>steps.length+v)=WL ((List.range y).map fun v=>steps.length+v)++[[iC ((steps.length:Int)+y)]]:=by
    rw[List.range_succ,DA,X6I];simp
   clear hlt h8 hx' hSr;refine X0<|X3<|X0<|X1 ?_;refine X1 ?_;refine X1 ?_;exact⟨y+1,hk1,by omega,X4 (fun n=>if n=900001 then 33 else n) []⟩
  simp only[BN]at h8;have hkl:y=vars.length:=by omega
  subst hkl;refine(Xi ?_);refine X2 ?_;exact XZ ⟨.inr rfl,(List.range vars.length).map fun v=>steps.length+v,⟨fun d=>by simp only[X5V,N8 hk],by simp;omega⟩,_,X45 7 900001 dd (by simp) rfl hdd,⟨⟨_,by simp;rfl,by simp[XG]⟩,by simp,fun _=>⟨rfl,fun o ho=>by cases ho;exact X4O _⟩⟩⟩
 simp only[BN]at h4;have hk:¬xk=0:=by simpa using h4
 clear h4;refine XT [0,3,4,5,8,9] (fun(z:Bool)=>[(11,.v (lb z))]) (fun(z:Bool)=>[(8,.box [.c (iC xk),.c (iC xa),.c (iC xn),.c (iC xo)])]) (fun(z:Bool)=>z=QK steps ⟨xk,xa,xn,xo⟩) ?_ ?_
 .rcases ha with⟨h2,rfl⟩|⟨m,rfl,hm⟩
  .simp only at h2;refine XJ ?_;refine RunsN.cutE 7 [] (by simp[*];rfl) trivial (le_refl _) ?_;refine RunsN.skip (.bool false) (by simp[Zq]) (by rfl) ?_;refine RunsN.skip (.bool false) (by simp[Zq]) (by rfl) ?_;refine RunsN.skip (.bool false) (by simp[Zq]) (by rfl) ?_;refine RunsN.skip (.bool false) (by simp[Zq]) (by rfl) ?_;refine RunsN.skip (.bool false) (by simp[Zq]) (by rfl) ?_;refine RunsN.cutE 3 [] (by simp[*];rfl) trivial (le_refl _) ?_;refine RunsN.skip (.bool false) (by simp[Zq]) (by rfl) ?_;refine RunsN.skip (.bool false) (by simp[Zq]) (by rfl) ?_;refine RunsN.skip (.bool false) (by simp[Zq]) (by rfl) ?_;refine RunsN.skip (.bool false) (by simp[Zq]) (by rfl) ?_;refine RunsN.doneE [] (by simp[*];rfl) trivial ?_;refine⟨_,rfl,Xw (fun n=>n) [] rfl (by simp[upS,X8,QK,h2]) (by simp[upS]) (by simp[upS])⟩
  obtain⟨q,he,_⟩:=Xt hm;have he':=Q4 he;obtain⟨so,sc,sv,sn,⟨tq,tn,tk⟩,sa,sb,sbs⟩:=q;simp only[St.enc,Tm.enc,List.cons_append,List.nil_append]at he';clear hm;by_cases h2:xk=2
  .refine Xs (by simp[*];rfl) ?_;refine⟨_,rfl,Xw (fun n=>n) [] rfl (by simp[upS,X8,QK,h2,he,St.do_]<;>rfl) (by simp[upS,h2]) (by simp[upS])⟩
  refine Xs (by simp[*];rfl) ?_;refine⟨_,rfl,Xw (fun n=>n) [] rfl (by simp[upS,X8,QK,h2]) (by simp[upS]) (by simp[upS])⟩
 rintro z hz;simp only[upS,X8,Xz]
 simp only[KN,Nat.reduceBEq,Nj,Nc,ins,Nat.reduceLT]
 have hz2:(xa=-1/\z=false)\/∃(m:Nat) (o c v n t1 t2:Int) (tk:List Tm) (sa sb:List St) (sbs:List Int),xa=m/\(X7 steps)[m]? =some [iC o,iC c,iC v,iC n,iC t1,iC t2,.sl 3 (Xx tk),.sl 10 (X7 sa),.sl 10 (X7 sb),.sl 1 (X9 sbs)]/\Zv steps ⟨xk,xa,xn,xo⟩=v:=by
  rcases ha with⟨h2,rfl⟩|⟨m,rfl,hm⟩
  .refine .inl ⟨rfl,?_⟩;simp only at h2;rw[hz];simp[QK,h2]
  obtain⟨q,he,_⟩:=Xt hm;have he':=Q4 he;obtain⟨so,sc,sv,sn,⟨tq,tn,tk⟩,sa,sb,sbs⟩:=q;exact .inr ⟨m,so,sc,sv,sn,tq,tn,tk,sa,sb,sbs,rfl,he',by simp[Zv,he,St.var]⟩
 obtain⟨V,hV⟩:∃x,Zv steps ⟨xk,xa,xn,xo⟩=x:=⟨_,rfl⟩
 have haft:∀d,d∈X5V steps vars.length Si ⟨xk,xa,xn,xo⟩↔d∈Si.filter (fun d=> !z||decide (Qk steps d≠V))++if z=true then [xa.toNat] else []:=by
  intro d;simp only[X5V,N7 hk,<-hz,hV]
 rw[hV]at hz2;clear hz hV ha;refine X0<|X0<|X1 ?_;refine X3<|(Xg [3,5,8,11,61] (fun(y:List Nat×List Nat)=>[(9,.v (.one (.own 900001)))]) (fun y=>[(8,.box [.c (iC xk),.c (iC xa),.c (iC xn),.c (iC xo)]),(61,.it (mpI Si) y.1),(900001,.row 3 1 (WL y.2))]) (fun y=>y.1.Nodup/\X3x y.1 Si.length/\(∀d,d∈y.2↔∃j∈y.1,Si[j]? =some d/\(!z||decide (Qk steps d≠V))=true)/\y.2.length<=y.1.length) (fun y=>Si.length - y.1.length) ([],[]) ⟨List.nodup_nil,by simp[X3x],by simp,NI _⟩ ?_ ?_)
 .exact X4 (fun n=>n) [900001]
 rintro⟨seen,out⟩ ⟨j1,j2,j3,j4⟩;simp only[upS,X8,Xz]
 simp only[KN,Nat.reduceBEq,Nj,Nc,ins,Nat.reduceLT]
 simp only at j1 j2 j3 j4;refine X6e (fun j k v hj hn=>?_) (fun hall=>?_)
 skip
 ·obtain⟨d,hd,rfl,rfl⟩:=Xcb hj;have hjl:j<Si.length:=(N6.1 hd).1
  have hnd:(seen++[j]).Nodup:=by
   rw[List.nodup_append];exact⟨j1,by simp,fun a ha b hb=>by rw[Nl.1 hb];exact fun e=>hn (e▸ha)⟩
  have hin:X3x (seen++[j]) Si.length:=fun i hi=>by
   rcases Ni.1 hi with h|h
   .exact j2 i h
   rw[Nl.1 h];exact hjl
  have hle:=WA hnd hin;simp only[Na,List.length_singleton]at hle;have hroom:W5 (out.length+1) 8:=Qc (by omega) (by decide);have hdb:=hSb d (N4 hd);clear hjl;have cv:=X8v steps d hdb (by omega);refine X3<|X0<|X1 ?_;refine XT [3,5,8,9,11,12,61] (fun(q:Bool)=>[(79,.v (lb q))]) (fun(q:Bool)=>[(8,.box [.c (iC xk),.c (iC xa),.c (iC xn),.c (iC xo)]),(61,.it (mpI Si) (seen++[j])),(900001,.row 3 1 (WL out))]) (fun(q:Bool)=>q=(!z||decide (Qk steps d≠V))) ?_ ?_
  .rcases hz2 with⟨rfl,rfl⟩|⟨m,po,pc,pv,pn,p1,p2,pk,pa,pb,pbs,rfl,he',rfl⟩
   .refine X2M [none] (by kernel_rfl) (by kernel_rfl) (by rfl) (by simp[*];first|exact⟨rfl,Iff.rfl⟩|exact⟨rfl,trivial⟩|rfl) ?_ ?_
    .trivial
    exact⟨_,rfl,Xw (fun n=>n) [] rfl (by simp[upS,X8]) (by simp[upS]) (by simp[upS])⟩
   cases z with
   | false=>
     refine X2M [none] (by kernel_rfl) (by kernel_rfl) (by rfl) (by simp[*];first|exact⟨rfl,Iff.rfl⟩|exact⟨rfl,trivial⟩|rfl) ?_ ?_
     .trivial
     exact⟨_,rfl,Xw (fun n=>n) [] rfl (by simp[upS,X8]) (by simp[upS]) (by simp[upS])⟩
   | true=>
     refine XU [⟨true,.v (li (Qk steps d)),none⟩] (by kernel_rfl) (by kernel_rfl) (by rfl) (by simp[*];first|exact⟨rfl,Iff.rfl⟩|exact⟨rfl,trivial⟩|rfl) ?_ ?_
     .first|exact cv _|simpa using cv _
     exact⟨_,rfl,Xw (fun n=>n) [] rfl (by simp[upS,X8]) (by simp[upS]) (by simp[upS])⟩
  rintro q hq;simp only[upS,X8,Xz]
  simp only[KN,Nat.reduceBEq,Nj,Nc,ins,Nat.reduceLT]
  refine(Xb rfl (fun h22=>?_) fun h22=>?_)
  ·have hp:(!z||decide (Qk steps d≠V))=true:=by rw[<-hq];simpa using h22
   have hmem:∀x,x∈out++[d]↔∃i∈seen++[j],Si[i]? =some x/\(!z||decide (Qk steps x≠V))=true:=by
    intro x;rw[Ni,j3,Nl];constructor
    .rintro(⟨i,h1,h2⟩|rfl)
     .exact⟨i,List.mem_append_left _ h1,h2⟩
     exact⟨j,by simp,hd,hp⟩
    rintro⟨i,h1,h2,h3⟩;rcases Ni.1 h1 with h1|h1
    .exact .inl ⟨i,h1,h2,h3⟩
    rw[Nl.1 h1,hd]at h2;exact .inr (Option.some.inj h2).symm
   refine X1 ?_;exact⟨(seen++[j],out++[d]),⟨hnd,hin,hmem,by simp only[Na,List.length_singleton];omega⟩,by simp only[Na,List.length_singleton];omega,X4 (fun n=>if n=900001 then 83 else n) []⟩
  have hp:(!z||decide (Qk steps d≠V))=false:=by rw[<-hq];simpa using h22
  have hmem:∀x,x∈out↔∃i∈seen++[j],Si[i]? =some x/\(!z||decide (Qk steps x≠V))=true:=by
   intro x;rw[j3];constructor
   .rintro⟨i,h1,h2⟩;exact⟨i,List.mem_append_left _ h1,h2⟩
   rintro⟨i,h1,h2,h3⟩;rcases Ni.1 h1 with h1|h1
   .exact⟨i,h1,h2,h3⟩
   rw[Nl.1 h1,hd]at h2;rw[<-Option.some.inj h2,hp]at h3;cases h3
  exact⟨(seen++[j],out),⟨hnd,hin,hmem,by simp only[Na,List.length_singleton];omega⟩,by simp only[Na,List.length_singleton];omega,X4 (fun n=>n) []⟩
 have hout:=out_all hall j3;have hle:=WA j1 j2;have hroom:W5 (out.length+1) 8:=Qc (by omega) (by decide);clear hall j1 j2 j3;refine(Xi ?_);refine X0<|X0<|X1 ?_;refine(Xb rfl (fun h27=>?_) fun h27=>?_)
 ·have hz':z=true:=by simpa using h27
  subst hz';obtain⟨m,po,pc,pv,pn,p1,p2,pk,pa,pb,pbs,rfl,_,_⟩:=hz2.resolve_left fun e=>Bool.noConfusion e.2;clear hz2;refine X1 ?_;refine X2 ?_;exact XZ ⟨.inr rfl,out++[m],⟨fun d=>by rw[haft,Ni,Ni,hout];simp,by simp;omega⟩,_,X45 (e:=3) (sz:=1) (rows:=WL (out++[m])) 7 89 dd (by simp) (by simp[X6I]) hdd,⟨⟨_,by simp;rfl,by simp[XG]⟩,by simp[X6I],fun _=>⟨rfl,fun o ho=>by cases ho;exact X4O _⟩⟩⟩
 have hz':z=false:=by simpa using h27
 subst hz';clear hz2;refine X2 ?_;exact XZ ⟨.inr rfl,out,⟨fun d=>by rw[haft,hout];simp,by omega⟩,_,X45 7 900001 dd (by simp) rfl hdd,⟨⟨_,by simp;rfl,by simp[XG]⟩,by simp,fun _=>⟨rfl,fun o ho=>by cases ho;exact X4O _⟩⟩⟩
def WJ (x:Nd) (tq:Nat):Prop:=x.n=tq\/x.o=tq
instance (x:Nd) (tq:Nat):Decidable (WJ x tq):=by unfold WJ;exact inferInstance
inductive Rc (N:List Nd) (steps:List St) (nv:Nat):Nat->Nat->Prop
 |entry {i tq v:Nat} {x:Nd}:N[i]? =some x->x.k=0->WJ x tq->v<nv->Rc N steps nv tq (steps.length+v)
 |pass {i tq d:Nat} {x:Nd}:N[i]? =some x->x.k≠0->WJ x tq->Rc N steps nv i d->(!QK steps x||decide (Qk steps d≠Zv steps x))=true->Rc N steps nv tq d
 |gen {i tq:Nat} {x:Nd}:N[i]? =some x->x.k≠0->WJ x tq->QK steps x=true->Rc N steps nv tq x.a.toNat
open Classical in
noncomputable def rcL (N:List Nd) (steps:List St) (nv:Nat):List (List Nat):=(List.range N.length).map fun tq=>(List.range (steps.length+nv)).filter fun d=>decide (Rc N steps nv tq d)
structure Gs (N:List Nd) (steps:List St) (nv:Nat) (S:List (List Nat)):Prop where
 len:S.length=N.length
 nod:∀l∈S,l.Nodup
 lt:∀l∈S,∀d∈l,d<steps.length+nv
 snd:∀(tq:Nat) l d,S[tq]? =some l->d∈l->Rc N steps nv tq d
def clo (N:List Nd) (steps:List St) (nv:Nat) (S:List (List Nat)) (i:Nat):Prop:=
 ∀x Si,N[i]? =some x->S[i]? =some Si->∀d∈X5V steps nv Si x,∀tq l,WJ x tq->S[tq]? =some l->d∈l
theorem aft_rc {N:List Nd} {steps:List St} {nv i:Nat} {S:List (List Nat)} {x:Nd} {Si:List Nat} (g:Gs N steps nv S) (hx:N[i]? =some x) (hS:S[i]? =some Si) {d:Nat} (hd:d∈X5V steps nv Si x) {tq:Nat} (ht:WJ x tq):Rc N steps nv tq d:=by
 unfold X5V at hd;split at hd
 .rename_i h0;obtain⟨v,hv,rfl⟩:=NG.1 hd;exact .entry hx h0 ht (by simpa using hv)
 rename_i h0;rcases Ni.1 hd with h|h
 .obtain⟨h1,h2⟩:=NN.1 h;exact .pass hx h0 ht (g.snd i Si d hS h1) h2
 split at h
 .rename_i ha;rw[Nl.1 h];exact .gen hx h0 ht ha
 cases h
theorem rc_lt {N:List Nd} {steps:List St} {nv:Nat} {tq d:Nat} (ha:∀x∈N,QK steps x=true->x.a.toNat<steps.length) (h:Rc N steps nv tq d):d<steps.length+nv:=by
 induction h with
 |entry _ _ _ hv=>omega
 |pass _ _ _ _ _ ih=>exact ih
 |gen hx _ _ h=>have:=ha _ (N4 hx) h;omega
theorem clo_rc {N:List Nd} {steps:List St} {nv:Nat} {S:List (List Nat)} (g:Gs N steps nv S) (hc:∀i,i<N.length->clo N steps nv S i) {tq d:Nat} {l:List Nat} (hl:S[tq]? =some l) (h:Rc N steps nv tq d):d∈l:=by
 induction h generalizing l with
 | entry hx h0 ht hv=>
   rename_i i tq v x;have hi:=(N6.1 hx).1;obtain⟨Si,hS,_⟩:=Xt (show i<S.length by rw[g.len];exact hi);refine hc i hi x Si hx hS _ ?_ tq l ht hl;unfold X5V;rw[N8 h0];exact NG.2 ⟨v,by simpa using hv,rfl⟩
 | pass hx h0 ht _ hk ih=>
   rename_i i tq d x _;have hi:=(N6.1 hx).1;obtain⟨Si,hS,_⟩:=Xt (show i<S.length by rw[g.len];exact hi);refine hc i hi x Si hx hS _ ?_ tq l ht hl;unfold X5V;rw[N7 h0];exact List.mem_append_left _ (NN.2 ⟨ih hS,hk⟩)
 | gen hx h0 ht h=>
   rename_i i tq x;have hi:=(N6.1 hx).1;obtain⟨Si,hS,_⟩:=Xt (show i<S.length by rw[g.len];exact hi);refine hc i hi x Si hx hS _ ?_ tq l ht hl;unfold X5V;rw[N7 h0,N8 h];simp
def srtN (l:List Nat):List Int:=(l.map Int.ofNat).mergeSort fun x y=>decide (x<=y)
theorem X8u:∀{l m:List Nat},l.Pairwise (· < ·)->m.Pairwise (· < ·)->(∀x,x∈l↔x∈m)->l=m
 |[],[],_,_,_=>rfl
 |[],b::m,_,_,h=>absurd ((h b).2 (by simp)) (by simp)
 |a::l,[],_,_,h=>absurd ((h a).1 (by simp)) (by simp)
 | a ::l,b::m,hl,hm,h=>by
   rw[NS]at hl hm
   have hab:a=b:=by
    rcases Ng.1 ((h a).1 (by simp))with e|e
    .exact e
    rcases Ng.1 ((h b).2 (by simp))with e2|e2
    .exact e2.symm
    have:=hm.1 a e;have:=hl.1 b e2;omega
   subst hab;congr 1;refine X8u hl.2 hm.2 fun x=>?_;constructor
   .intro hx;rcases Ng.1 ((h x).1 (by simp[hx]))with e|e
    .subst e;exact absurd (hl.1 x hx) (DB _)
    exact e
   intro hx;rcases Ng.1 ((h x).2 (by simp[hx]))with e|e
   .subst e;exact absurd (hm.1 x hx) (DB _)
   exact e
theorem Xe8 (n:Nat):(List.range n).Pairwise (· < ·):=List.pairwise_lt_range
theorem srt_eq {l:List Nat} {n:Nat} (hn:l.Nodup) {p:Nat->Bool} (h:∀x,x∈l↔x<n/\p x=true):X9 (srtN l)=WL ((List.range n).filter p):=by
 have h2:(l.mergeSort fun x y=>decide (x<=y))=(List.range n).filter p:=by
  refine X8u ?_ ((Xe8 n).filter _) fun x=>by rw[List.mem_mergeSort,h];simp
  have h3:=List.pairwise_mergeSort (le:=fun x y:Nat=>decide (x<=y)) (fun a b c h1 h2=>by simp at*;omega) (fun a b=>by simp;omega) l;have h4:(l.mergeSort fun x y=>decide (x<=y)).Nodup:=(List.mergeSort_perm l _).nodup_iff.2 hn;refine(List.pairwise_and_iff.2 ⟨h3,h4⟩).imp fun {a b} ⟨h5,h6⟩=>?_;have h5:a<=b:=by simpa using h5
  have h6:a≠b:=h6;omega
 rw[<-h2];unfold srtN X9 WL
 have:(l.map Int.ofNat).mergeSort (fun x y=>decide (x<=y))=(l.mergeSort fun x y=>decide (x<=y)).map Int.ofNat:=by
  rw[List.map_mergeSort];intro a _ b _;simp
 rw[this,List.map_map];rfl
def Za (rows:List (List Nat)):List (List CD):=rows.map fun l=>[.sl 1 (WL l)]
@[simp] theorem len_encDD (l:List (List Nat)):(Za l).length=l.length:=by simp[Za]
theorem X5Z (d:Nat):∀l:List Nat,X5m (.int .i64) (.int .i64 d) (mpI l)=some (if d∈l then some (bC true)else none)
 |[]=>rfl
 | k ::l=>by
   have e:mpI (k::l)=(.int .i64 k,bC true)::mpI l:=rfl;rw[e];unfold X5m
   have h1:Instr.sameNow (.int .i64) (.int .i64 (d:Int)) (.int .i64 (k:Int))=some (decide (d=k)):=by
    have h2:((d:Int)==(k:Int))=decide (d=k):=by
     rw[Dl];simp only[beq_iff_eq,N5];omega
    simp[Instr.sameNow,h2]
   rw[h1];by_cases hk:d=k
   .subst hk;simp
   simp only[hk,decide_false,Ng,false_or];exact X5Z d l
def Zn (S:List (List Nat)):Nat:=(S.map List.length).sum
theorem Xdm {S:List (List Nat)} {tq:Nat} {l:List Nat} (h:S[tq]? =some l) (d:Nat):Zn (S.set tq (l++[d]))=Zn S+1:=by
 induction S generalizing tq with
 |nil=>cases h
 | cons a S ih=>
   cases tq with
   |zero=>cases h;simp[Zn];omega
   | succ tq=>
     have:=ih (tq:=tq) h;simp only[Zn,List.set_cons_succ,Nk,List.sum_cons]at this⊢;omega
theorem XaY {N:List Nd} {steps:List St} {nv:Nat} {S:List (List Nat)} (g:Gs N steps nv S):Zn S<=N.length*(steps.length+nv):=by
 have key:∀S:List (List Nat),(∀l∈S,l.length<=steps.length+nv)->Zn S<=S.length*(steps.length+nv):=by
  intro S
  induction S with
  |nil=>simp[Zn]
  | cons a S ih=>
    intro h;have h1:=h a (by simp);have h2:=ih fun l hl=>h l (by simp[hl]);simp only[Zn,Nk,List.sum_cons,List.length_cons,D9,Nat.one_mul]at h2⊢;omega
 have:=key S fun l hl=>WA (g.nod l hl) (g.lt l hl)
 rwa [g.len]at this
theorem Gs.add {N:List Nd} {steps:List St} {nv tq d:Nat} {S:List (List Nat)} {l:List Nat} (g:Gs N steps nv S) (hl:S[tq]? =some l) (hd:d∉l) (hlt:d<steps.length+nv) (hr:Rc N steps nv tq d):Gs N steps nv (S.set tq (l++[d])):=by
 have hm:∀q∈S.set tq (l++[d]),q∈S\/q=l++[d]:=fun q hq=>Dy hq;refine⟨by rw[DI];exact g.len,fun q hq=>?_,fun q hq x hx=>?_,fun i q x hq hx=>?_⟩
 .rcases hm q hq with h|rfl
  .exact g.nod q h
  rw[List.nodup_append];exact⟨g.nod l (N4 hl),by simp,fun a ha b hb=>by rw[Nl.1 hb];exact fun e=>hd (e▸ha)⟩
 .rcases hm q hq with h|rfl
  .exact g.lt q h x hx
  rcases Ni.1 hx with h|h
  .exact g.lt l (N4 hl) x h
  rw[Nl.1 h];exact hlt
 rw[NY]at hq;split at hq
 .rename_i e;subst e;split at hq
  .cases hq;rcases Ni.1 hx with h|h
   .exact g.snd tq l x hl h
   rw[Nl.1 h];exact hr
  cases hq
 exact g.snd i q x hq hx
end Go.Proofs.YtdajceakaakdoaaGreat
namespace Go.Proofs.YtdajceakaakdoaaGreat
open Go Go.Hl
open Tryz(prog)
def X5t (m:Nat) (t:Int):Prop:=t=-1\/∃k:Nat,t=k/\k<m
structure ndOK (m n:Nat) (x:Nd):Prop where
 hn:X5t m x.n
 ho:X5t m x.o
 ha:(x.k≠2/\x.a=-1)\/∃t:Nat,x.a=t/\t<n
theorem X5t.nat {m t:Nat} (h:t<m):X5t m (t:Int):=.inr ⟨t,rfl,h⟩
theorem X8m (s:St):1<=wdS s:=by cases s;simp only[wdS];split<;>omega
theorem X5Q {l:List St} (h:l≠[]):1<=wdL l:=by
 cases l with
 |nil=>exact absurd rfl h
 |cons s l=>have:=X8m s;simp only[wdL];omega
theorem X5t.ite {m:Nat} {t e:Int} {l:List St} (h1:X5t m t) (h2:l≠[]->X5t m e):X5t m (if l=[] then t else e):=by
 split
 .exact h1
 rename_i h;exact h2 h
theorem X5t.mk {m:Nat} {t:Int} (k:Nat) (h:t=k) (hk:k<m):X5t m t:=.inr ⟨k,h,hk⟩
mutual
theorem layS_ok {m n:Nat}:∀(s:St) (p k after:Nat),gS s=true->p+szS s<=n->k+wdS s<=m->after<m->∀x∈X1o s p k after,ndOK m n x
 | .mk o c v q t a b bs,p,k,after,hg,hp,hk,haf,x,hx=>by
   simp only[gS,N3]at hg;simp only[szS]at hp;simp only[wdS]at hk;unfold X1o at hx;split at hx
   .rename_i h3;rw[N7 (by omega)]at hk;rcases Ng.1 hx with rfl|hx
    .refine⟨.ite (.nat haf) fun h=>.mk (k+1) (by simp) (by have:=X5Q h;omega),.ite (.nat haf) fun h=>.mk (k+1+wdL a) (by simp) (by have:=X5Q h;omega),.inr ⟨p,rfl,(show p<n by omega)⟩⟩
    rcases Ni.1 hx with hx|hx
    .exact X47 a (p+1) (k+1) after hg.2.1 (by omega) (by omega) haf x (by simpa using hx)
    exact X47 b (p+1+szL a) (k+1+wdL a) after hg.2.2 (by omega) (by omega) haf x (by simpa using hx)
   split at hx
   .rename_i h3 h4;rw[N8 h4]at hk;rcases Ng.1 hx with rfl|hx
    .exact⟨.mk (k+1) (by simp) (by omega),.inl rfl,.inr ⟨p,rfl,(show p<n by omega)⟩⟩
    rcases Ng.1 hx with rfl|hx
    .exact⟨.ite (.mk (k+1) (by simp) (by omega)) fun h=>.mk (k+2) (by simp) (by have:=X5Q h;omega),.nat haf,.inr ⟨p,rfl,(show p<n by omega)⟩⟩
    exact X47 a (p+1) (k+2) (k+1) hg.2.1 (by omega) (by omega) (by omega) x (by simpa using hx)
   rw[Nl.1 hx];have:1<=wdS (St.mk o c v q t a b bs):=X8m _;exact⟨X5t.nat haf,.inl rfl,.inr ⟨p,rfl,(show p<n by omega)⟩⟩
theorem X47 {m n:Nat}:∀(l:List St) (p k after:Nat),gL l=true->p+szL l<=n->k+wdL l<=m->after<m->∀x∈X0o l p k after,ndOK m n x
 |[],_,_,_,_,_,_,_,x,hx=>by simp[X0o]at hx
 | s ::l,p,k,after,hg,hp,hk,haf,x,hx=>by
   simp only[gL,N3]at hg;simp only[szL]at hp;simp only[wdL]at hk;unfold X0o at hx;rcases Ni.1 hx with hx|hx
   .refine layS_ok s p k _ hg.1 (by omega) (by omega) ?_ x hx;split
    .exact haf
    rename_i h;have:=X5Q h;omega
   exact X47 l (p+szS s) (k+wdS s) after hg.2 (by omega) (by omega) haf x (by simpa using hx)
end
theorem X6L {l:List St} (hg:gL l=true):∀x∈grN l,ndOK (grN l).length (szL l) x:=by
 rw[X1q hg];intro x hx;unfold grN at hx;rcases Ng.1 hx with rfl|hx
 .refine⟨.ite (.mk (1+wdL l) (by simp) (by omega)) fun h=>.mk 1 rfl (by omega),.inl rfl,.inl ⟨by simp,rfl⟩⟩
 rcases Ni.1 hx with hx|hx
 .exact X47 l 0 1 (1+wdL l) hg (by omega) (by omega) (by omega) x (by simpa using hx)
 rw[Nl.1 hx];exact⟨.inl rfl,.inl rfl,.inl ⟨by simp,rfl⟩⟩
structure Inv (N:List Nd) (steps:List St) (nv:Nat) (S0 S:List (List Nat)) (c:Bool) (P:Prop):Prop where
 g:Gs N steps nv S
 tot:Zn S0<=Zn S
 up:c=true->Zn S0<Zn S
 same:c=false->S=S0/\P
theorem Inv.mono {N:List Nd} {steps:List St} {nv:Nat} {S0 S:List (List Nat)} {c:Bool} {P Q:Prop} (h:Inv N steps nv S0 S c P) (hpq:S=S0->P->Q):Inv N steps nv S0 S c Q:=
 ⟨h.g,h.tot,h.up,fun hc=>⟨(h.same hc).1,hpq (h.same hc).1 (h.same hc).2⟩⟩
theorem Inv.add {N:List Nd} {steps:List St} {nv:Nat} {S0 S:List (List Nat)} {c:Bool} {P Q:Prop} (h:Inv N steps nv S0 S c P) {tq d:Nat} {l:List Nat} (hl:S[tq]? =some l) (hd:d∉l) (hlt:d<steps.length+nv) (hr:Rc N steps nv tq d):Inv N steps nv S0 (S.set tq (l++[d])) true Q:=by
 have:=Xdm hl d;exact⟨h.g.add hl hd hlt hr,by have:=h.tot;omega,fun _=>by have:=h.tot;omega,fun hc=>by cases hc⟩
def inS (S:List (List Nat)) (tq:Int) (d:Nat):Prop:=∀(m:Nat) l,tq=(m:Int)->S[m]? =some l->d∈l
def msS (S:List (List Nat)):List (Option (List (Value×CD))):=S.map fun l=>some (mpI l)
@[simp] theorem len_msS (S:List (List Nat)):(msS S).length=S.length:=by simp[msS]
@[simp] theorem map_msS (S:List (List Nat)):(msS S).map (fun r=>[mpC r])=S.map fun l=>[CD.mp (mpI l)]:=by simp[msS,mpC]
theorem Xcg {S:List (List Nat)} {i:Nat} {l:List Nat} (h:S[i]? =some l):(msS S)[i]? =some (some (mpI l)):=by simp[msS,h]
theorem set_msS (S:List (List Nat)) (i:Nat) (l:List Nat) (d:Nat):(msS S).set i (some (mpI l++[(.int .i64 d,bC true)]))=msS (S.set i (l++[d])):=by
 simp[msS,List.map_set,mpI]
def msI (y n:Nat):List (Option (List (Value×CD))):=List.replicate y (some [])++List.replicate (n - y) none
theorem msI_len {y n:Nat} (h:y<=n):(msI y n).length=n:=by simp[msI];omega
theorem msI_free {y n:Nat} (h:y<n):X27 (msI y n) y=true:=by
 obtain⟨k,hk⟩:∃k,n - y=k+1:=⟨n - y - 1,by omega⟩;simp[X27,msI,hk,List.replicate_succ]
theorem msI_set {y n:Nat} (h:y<n):(msI y n).set y (some [])=msI (y+1) n:=by
 obtain⟨k,hk⟩:∃k,n - y=k+1:=⟨n - y - 1,by omega⟩;have e:n - (y+1)=k:=by omega
 have e2:List.replicate (y+1) (some ([]:List (Value×CD)))=List.replicate y (some [])++[some []]:=List.replicate_succ';simp only[msI,hk,e,e2];rw[List.set_append,N7 (by simp)];simp[List.replicate_succ]
theorem msI_zero (n:Nat):msI 0 n=List.replicate n none:=by simp[msI]
theorem msI_end (n:Nat):msI n n=msS (List.replicate n []):=by simp[msI,msS,mpI]
theorem Gs.empty (N:List Nd) (steps:List St) (nv:Nat):Gs N steps nv (List.replicate N.length []):=by
 refine⟨by simp,fun l hl=>?_,fun l hl=>?_,fun tq l d h hd=>?_⟩
 .rw[(List.mem_replicate.1 hl).2];exact List.nodup_nil
 .rw[(List.mem_replicate.1 hl).2];simp
 have:=N4 h;rw[(List.mem_replicate.1 this).2]at hd;cases hd
def X33 (l:List Nat):Option (List (List CD)):=if l=[] then none else some (WL l)
def rwI (L:List (List Nat)) (y n:Nat):List (Option (List (List CD))):=(L.take y).map X33++List.replicate (n - y) none
theorem rwI_len {L:List (List Nat)} {y n:Nat} (h:y<=n) (hL:L.length=n):(rwI L y n).length=n:=by simp[rwI,hL];omega
theorem rwI_get {L:List (List Nat)} {y n:Nat} (h:y<n) (hL:L.length=n):(rwI L y n)[y]? =some none:=by
 have ht:((L.take y).map X33).length=y:=by rw[NW,NF];omega
 unfold rwI;rw[Np (by rw[ht];exact NI _),ht,Nat.sub_self];obtain⟨k,hk⟩:∃k,n - y=k+1:=⟨n - y - 1,by omega⟩;rw[hk];rfl
theorem rwI_set {L:List (List Nat)} {y n:Nat} {l:List Nat} (hl:L[y]? =some l) (h:y<n) (hL:L.length=n):(rwI L y n).set y (X33 l)=rwI L (y+1) n:=by
 have ht:((L.take y).map X33).length=y:=by rw[NW,NF];omega
 obtain⟨k,hk⟩:∃k,n - y=k+1:=⟨n - y - 1,by omega⟩;have e:n - (y+1)=k:=by omega
 unfold rwI;rw[List.set_append,N7 (by rw[ht];omega),ht,Nat.sub_self,List.take_add_one,hl,hk,e];simp[List.replicate_succ]
theorem rwI_zero (L:List (List Nat)) (n:Nat):rwI L 0 n=List.replicate n none:=by simp[rwI]
theorem rwI_end {L:List (List Nat)} {n:Nat} (hL:L.length=n):(rwI L n n).map (fun r=>[CD.sl 1 (r.getD [])])=Za L:=by
 unfold rwI Za;rw[<-hL,List.take_length,Nat.sub_self];simp only[List.replicate_zero,Dq,List.map_map];refine List.map_congr_left fun l _=>?_;unfold X33;simp only[Function.comp];split
 .rename_i h;subst h;rfl
 rfl
theorem encD_enc (l:List Nat):WL l=X9 (l.map Int.ofNat):=by simp[WL,X9]
end Go.Proofs.YtdajceakaakdoaaGreat
namespace Go.Proofs.YtdajceakaakdoaaGreat
open Go Go.Hl Go.Shelf Go.Sort
open Tryz(prog)
def sortR:Ren:=⟨fun f=>if f=125 then 89 else if f=128 then 159 else if f=129 then 160 else if f=189 then 46 else if f=215 then 176 else if f=216 then 156 else if f=257 then 88 else if f=294 then 150 else if f=295 then 151 else if f=296 then 152 else if f=297 then 153 else if f=298 then 154 else if f=299 then 155 else if f=300 then 157 else if f=301 then 158 else if f=328 then 207 else if f=329 then 208 else if f=330 then 209 else if f=331 then 210 else if f=332 then 211 else if f=343 then 245 else f,fun t=>if t=0 then 0 else if t=3 then 3 else if t=4 then 4 else if t=5 then 5 else if t=9 then 9 else if t=28 then 29 else if t=46 then 162 else if t=51 then 223 else if t=53 then 225 else if t=131 then 142 else if t=182 then 216 else if t=183 then 217 else if t=218 then 273 else if t=222 then 277 else if t=228 then 304 else if t=229 then 227 else t,fun g=>g⟩
theorem sortL:Lays.n189 prog sortR where
 mixed:=by kernel_rfl
 f125:=by kernel_rfl
 f128:=by kernel_rfl
 f129:=by kernel_rfl
 f189:=by kernel_rfl
 f215:=by kernel_rfl
 f216:=by kernel_rfl
 f257:=by kernel_rfl
 f294:=by kernel_rfl
 f295:=by kernel_rfl
 f296:=by kernel_rfl
 f297:=by kernel_rfl
 f298:=by kernel_rfl
 f299:=by kernel_rfl
 f300:=by kernel_rfl
 f301:=by kernel_rfl
 f328:=by kernel_rfl
 f329:=by kernel_rfl
 f330:=by kernel_rfl
 f331:=by kernel_rfl
 f332:=by kernel_rfl
 f343:=by kernel_rfl
 t0:=by kernel_rfl
 a0:=fun w=>rfl
 z0:=fun w=>rfl
 v0:=fun w=>rfl
 t3:=by kernel_rfl
 a3:=fun w=>rfl
 z3:=fun w=>rfl
 v3:=fun w=>rfl
 t4:=by kernel_rfl
 a4:=fun w=>rfl
 z4:=fun w=>rfl
 v4:=fun w=>rfl
 t5:=by kernel_rfl
 a5:=fun w=>rfl
 z5:=fun w=>rfl
 v5:=fun w=>rfl
 t9:=by kernel_rfl
 a9:=fun w=>rfl
 z9:=fun w=>rfl
 v9:=fun w=>rfl
 t28:=by kernel_rfl
 a28:=fun w=>rfl
 z28:=fun w=>rfl
 v28:=fun w=>rfl
 t46:=by kernel_rfl
 a46:=fun w=>rfl
 z46:=fun w=>rfl
 v46:=fun w=>rfl
 t51:=by kernel_rfl
 a51:=fun w=>rfl
 z51:=fun w=>rfl
 v51:=fun w=>rfl
 t53:=by kernel_rfl
 a53:=fun w=>rfl
 z53:=fun w=>rfl
 v53:=fun w=>rfl
 t131:=by kernel_rfl
 a131:=fun w=>rfl
 z131:=fun w=>rfl
 v131:=fun w=>rfl
 t182:=by kernel_rfl
 a182:=fun w=>rfl
 z182:=fun w=>rfl
 v182:=fun w=>rfl
 t183:=by kernel_rfl
 a183:=fun w=>rfl
 z183:=fun w=>rfl
 v183:=fun w=>rfl
 t218:=by kernel_rfl
 a218:=fun w=>rfl
 z218:=fun w=>rfl
 v218:=fun w=>rfl
 t222:=by kernel_rfl
 a222:=fun w=>rfl
 z222:=fun w=>rfl
 v222:=fun w=>rfl
 t228:=by kernel_rfl
 a228:=fun w=>rfl
 z228:=fun w=>rfl
 v228:=fun w=>rfl
 t229:=by kernel_rfl
 a229:=fun w=>rfl
 z229:=fun w=>rfl
 v229:=fun w=>rfl
def compR:Ren:=⟨fun f=>if f=20 then 47 else f,fun t=>if t=0 then 0 else if t=3 then 3 else if t=4 then 4 else if t=22 then 29 else t,fun g=>g⟩
theorem compL:Lays2.n20 prog compR where
 mixed:=by kernel_rfl
 f20:=by kernel_rfl
 t0:=by kernel_rfl
 a0:=fun w=>rfl
 z0:=fun w=>rfl
 v0:=fun w=>rfl
 t3:=by kernel_rfl
 a3:=fun w=>rfl
 z3:=fun w=>rfl
 v3:=fun w=>rfl
 t4:=by kernel_rfl
 a4:=fun w=>rfl
 z4:=fun w=>rfl
 v4:=fun w=>rfl
 t22:=by kernel_rfl
 a22:=fun w=>rfl
 z22:=fun w=>rfl
 v22:=fun w=>rfl
 i3:=by kernel_rfl
structure RowOut (w w':World) (g o:Nat) (ys:List Int):Prop where
 os:w'.os=w.os
 tape:w'.tape=w.tape
 output:w'.output=w.output
 size:w.heap.size<=w'.heap.size
 other:∀k,k<w.heap.size->k≠g->w'.heap[k]? =w.heap[k]?
 cells:∀cur t x,w.heap[g]? =some (.cells cur t x)->∃cur':Array Value,w'.heap[g]? =some (.cells cur' t x)/\cur'.size=cur.size/\∀k (hk:k<ys.length),o+k<cur.size->cur'[o+k]? =some (.int .i64 ys[k])
theorem X62 (w:World) (q g o:Nat) (os:Array Obj) (ys:List Int) (m:Nat) (hg:g<w.heap.size):RowOut w (grow (putRow (Value.int .i64) (Sort.ahead w q) g o (ys++List.replicate m 0).toArray) os) g o ys:=by
 have hsz:(putRow (Value.int .i64) (Sort.ahead w q) g o (ys++List.replicate m 0).toArray).heap.size=w.heap.size:=by simp[putRow,mapBlock]
 refine⟨rfl,rfl,rfl,by simp only[grow,Array.size_append,hsz];omega,fun k hk hne=>?_,fun cur t x hc=>?_⟩
 .rw[heap_grow_old _ _ (by rw[hsz];exact hk)];simp only[putRow,mapBlock,heap_ahead,Du];rw[N7 fun h=>hne h.symm]
 refine⟨putCells (Value.int .i64) o (ys++List.replicate m 0).toArray cur,?_,by simp[putCells],fun k hk hkc=>?_⟩
 .rw[heap_grow_old _ _ (by rw[hsz];exact hg)];simp only[putRow,mapBlock,heap_ahead,Du,Nj,hc];rfl
 simp only[putCells,Array.getElem?_mapIdx,NC hkc,Option.map_some,Nat.add_sub_cancel_left];rw[N8 ⟨by omega,by simp;omega⟩];congr 2;rw[getElem!_pos _ k (by simp;omega)];simp[hk]
theorem XaS {zs:List Int} {a b:Nat} {d:CD} (h:XK (X9 zs) a b=some d):b=0/\∃n,zs[a]? =some n/\d=iC n:=by
 unfold XK at h;rw[X6O]at h;cases hz:zs[a]? with
 |none=>rw[hz]at h;cases h
 | some n=>
   rw[hz]at h;cases b with
   |zero=>cases h;exact⟨rfl,n,rfl,rfl⟩
   |succ b=>cases h
theorem row_con {f:FuncId} (hcall:Q0 prog f=true) (zs ys:List Int) (hz:0<zs.length) (hle:ys.length<=zs.length) (r:RV) (rv:Nat->Nat->Nat->Value) (hr:∀(F:Nat->Prop) (T:Nat->Value) (w:World) (g o cap:Nat),T 900001=.slice (some ⟨g,o,none⟩) ys.length cap->Xd F T w r (rv g o cap))
  (key:∀(g o cap:Nat) (w:World),Holds (Value.int .i64) w g o zs.toArray->g<w.heap.size->zs.length<=cap->cap<=maxLen->Calls prog f #[.slice (some ⟨g,o,none⟩) zs.length cap] w fun e w'=>e=.returned (rv g o cap)/\RowOut w w' g o ys):
  X5A prog f [(900001,.row 3 1 (X9 zs))] [.one (.own 900001)] r [(900001,.row 3 1 (X9 ys))]:=by
 refine⟨hcall,fun F T w vs hh hsz hargs=>?_⟩;have hob:=hh.ob 900001 _ rfl;have hap:=hh.apart 900001 _ rfl;obtain⟨h0,hrs,xs,⟨hxl,hown⟩,hx1,hc⟩:=hob;rcases hown with⟨_,hn⟩|⟨g,o,cap,cur,hv,hB,hg,hcap,hmax,hcs,htake⟩
 .rw[Z6]at hn;omega
 rw[Z6]at hxl hcap htake hv;rw[DM]at hxl htake hcs;obtain⟨l⟩:=vs
 match l,hsz with
 | [v0],_=>
   have a0:Xq F T w (.own 900001) v0:=hargs 0 _ v0 rfl rfl;have e0:v0=.slice (some ⟨g,o,none⟩) zs.length cap:=by rw[a0.1,hv];rfl
   subst e0
   have hcur:∀k (hk:k<zs.length),cur[o+k]? =some (.int .i64 zs[k]):=by
    intro k hk;obtain⟨u,hu,hr⟩:=hc k 0 (iC zs[k]) (by unfold XK;rw[X6O];simp[hk]);cases hr;have:xs[k]? =cur[o+k]? :=by rw[<-htake,NE,N8 hk,Nx,D8]
    rw[<-this];simpa using hu
   have hH:Holds (Value.int .i64) w g o zs.toArray:=by
    intro k hk;have hk':k<zs.length:=by simpa using hk
    refine⟨?_,?_⟩
    .have:w.cell? ⟨g,o+k,none⟩=cur[o+k]? :=by simp[World.cell?,hg]
     rw[this,hcur k hk'];simp[hk']
    simp[World.frozen?,hg]
   have hgs:g<w.heap.size:=(NM.1 hg).1;refine(key g o cap w hH hgs hcap hmax).mono ?_;rintro e w' ⟨rfl,hout⟩;obtain⟨cur',hg',hcs',hcell⟩:=hout.cells cur _ _ hg
   have hkept:Kept (ownB T [(900001,.row 3 1 (X9 zs))] w) w w':=
    ⟨hout.os,hout.tape,hout.output,hout.size,fun k hk=>hout.other k hk.1 fun e=>by subst e;exact hB hk⟩
   have hnF:¬F g:=hap g (by rw[hv];rfl)
   let T':Nat->Value:=fun n=>if n=900001 then .slice (some ⟨g,o,none⟩) ys.length cap else T n
   have hγ:T' 900001=.slice (some ⟨g,o,none⟩) ys.length cap:=rfl
   have hrow:Xu (fun c=>F c\/False) w' (ownB T [(900001,.row 3 1 (X9 zs))] w) 3 1 (T' 900001) (X9 ys):=by
    refine⟨by decide,?_,ys.map (Value.int .i64),⟨by simp,.inr ⟨g,o,cap,cur',?_,hB,hg',by rw[Z6];omega,hmax,?_,?_⟩⟩,?_,?_⟩
    .intro r hr;simp only[X9,NG]at hr;obtain⟨n,_,rfl⟩:=hr;rfl
    .rw[hγ,Z6]
    .rw[hcs',DM];exact hcs
    .rw[Z6,DM];apply NX;intro k;rw[NE,Nx,Nn];by_cases hk:k<ys.length
     .rw[N8 hk,D8,hcell k hk (by omega)];simp[hk]
     rw[N7 hk,Ny (by omega)];rfl
    .intro u hu;obtain⟨n,_,rfl⟩:=NG.1 hu;rfl
    intro a b d hd;obtain⟨rfl,n,hn,rfl⟩:=XaS hd;exact⟨.int .i64 n,by simp[hn],CRel.lit _⟩
   have hblk:∀b,Blk (T' 900001) b↔b=g:=by
    intro b;rw[hγ];exact⟨fun h=>by cases h;rfl,fun h=>by subst h;rfl⟩
   have hlook:∀n o,lkp [(900001,Ob.row 3 1 (X9 ys))] n=some o->n=900001/\o=.row 3 1 (X9 ys):=by
    intro n o hl;simp only[lkp]at hl;split at hl
    .rename_i e;cases hl;exact⟨e.symm,rfl⟩
    cases hl
   refine⟨_,fun _=>False,T',rfl,hkept,fun c hc=>hc.elim,hr _ T' w' g o cap hγ,?_,fun n cs hl=>?_⟩
   .exact {
     below:=hkept
     hB:=fun b hb=>NJ hb.1 hout.size
     fsz:=fun c hc=>NJ (hh.fsz c (hc.resolve_right id)) hout.size
     ob:=fun n o hl=>by
      obtain⟨rfl,rfl⟩:=hlook n o hl;exact hrow
     apart:=fun n o hl b hb hFb=>by
      obtain⟨rfl,rfl⟩:=hlook n o hl;rw[hblk]at hb;subst hb;exact hnF (hFb.resolve_right id)
     sep:=fun n m on om hn hm hne=>by
      obtain⟨rfl,_⟩:=hlook n on hn;obtain⟨rfl,_⟩:=hlook m om hm;exact absurd rfl hne
     pin:=fun n v hv=>by cases hv}
   simp only[lkp]at hl;split at hl
   .cases hl
   cases hl
theorem X9r (zs:List Int) (hz:0<zs.length) (hl:zs.length<=17592186044416):
  X5A prog 47 [(900001,.row 3 1 (X9 zs))] [.one (.own 900001)] (.v (.one (.own 900001))) [(900001,.row 3 1 (X9 (Lib.compact zs)))]:=by
 have hle:(Lib.compact zs).length<=zs.length:=by
  unfold Lib.compact Lib.compactUpTo;rw[NW];exact Dz (Dh _ _) (by simp)
 refine row_con (by kernel_rfl) zs _ hz hle _ (fun g o cap=>.slice (some ⟨g,o,none⟩) (Lib.compact zs).length cap) (fun F T w g o cap h=>⟨by rw[h];rfl,rfl⟩) fun g o cap w hH hg hcap hmax=>?_;have h:=Any.slices_Compact_int compL g o cap zs w hH (by omega) hcap;refine h.mono ?_;rintro e w' ⟨rfl,q,rfl⟩;refine⟨rfl,?_⟩;have:=X62 w q g o #[] (Lib.compact zs) (zs.length - (Lib.compact zs).length) hg;have hgr:∀v:World,grow v #[]=v:=fun v=>by simp[grow]
 rwa [hgr]at this
theorem rowR_con {f:FuncId} (hcall:Q0 prog f=true) (zs ys:List Int) (hz:0<zs.length) (hle:ys.length=zs.length)
  (key:∀(g o cap:Nat) (w:World),Holds (Value.int .i64) w g o zs.toArray->g<w.heap.size->zs.length<=cap->cap<=maxLen->Calls prog f #[.slice (some ⟨g,o,none⟩) zs.length cap] w fun e w'=>e=.returned (.tuple #[])/\RowOut w w' g o ys):
  ConR prog f 3 1 (X9 zs) (X9 ys):=by
 refine⟨hcall,fun F B w v hro hF hvF=>?_⟩;obtain⟨h0,hrs,xs,⟨hxl,hown⟩,hx1,hc⟩:=hro;rcases hown with⟨_,hn⟩|⟨g,o,cap,cur,rfl,hB,hg,hcap,hmax,hcs,htake⟩
 .rw[Z6]at hn;omega
 rw[Z6]at hxl hcap htake⊢;rw[DM]at hxl htake hcs
 have hcur:∀k (hk:k<zs.length),cur[o+k]? =some (.int .i64 zs[k]):=by
  intro k hk;obtain⟨u,hu,hr⟩:=hc k 0 (iC zs[k]) (by unfold XK;rw[X6O];simp[hk]);cases hr;have:xs[k]? =cur[o+k]? :=by rw[<-htake,NE,N8 hk,Nx,D8]
  rw[<-this];simpa using hu
 have hH:Holds (Value.int .i64) w g o zs.toArray:=by
  intro k hk;have hk':k<zs.length:=by simpa using hk
  refine⟨?_,?_⟩
  .have:w.cell? ⟨g,o+k,none⟩=cur[o+k]? :=by simp[World.cell?,hg]
   rw[this,hcur k hk'];simp[hk']
  simp[World.frozen?,hg]
 have hgs:g<w.heap.size:=(NM.1 hg).1;refine(key g o cap w hH hgs hcap hmax).mono ?_;rintro e w' ⟨rfl,hout⟩;obtain⟨cur',hg',hcs',hcell⟩:=hout.cells cur _ _ hg;refine⟨rfl,hout.os,hout.tape,hout.output,hout.size,fun k hk hne=>hout.other k hk fun e=>hne (by rw[e];rfl),by decide,?_,ys.map (Value.int .i64),⟨by simp,.inr ⟨g,o,cap,cur',?_,hB,hg',by rw[Z6];omega,hmax,?_,?_⟩⟩,?_,?_⟩
 .intro r hr;simp only[X9,NG]at hr;obtain⟨n,_,rfl⟩:=hr;rfl
 .rw[Z6,hle]
 .rw[hcs',DM];exact hcs
 .rw[Z6,DM];apply NX;intro k;rw[NE,Nx,Nn];by_cases hk:k<ys.length
  .rw[N8 hk,D8,hcell k hk (by omega)];simp[hk]
  rw[N7 hk,Ny (by omega)];rfl
 .intro u hu;obtain⟨n,_,rfl⟩:=NG.1 hu;rfl
 intro a b d hd;obtain⟨rfl,n,hn,rfl⟩:=XaS hd;exact⟨.int .i64 n,by simp[hn],CRel.lit _⟩
theorem X7G (zs:List Int) (hz:0<zs.length) (hl:zs.length<=17592186044416):ConR prog 46 3 1 (X9 zs) (X9 (zs.mergeSort fun x y=>decide (x<=y))):=by
 refine rowR_con (by kernel_rfl) zs _ hz (List.length_mergeSort _) fun g o cap w hH hg hcap hmax=>?_;have h:=Any.slices_Sort_int sortL g o cap zs w hH hg (by omega);refine h.mono ?_;rintro e w' ⟨rfl,q,os,rfl⟩;refine⟨rfl,?_⟩;have:=X62 w q g o os (zs.mergeSort fun x y=>decide (x<=y)) 0 hg;simpa using this
theorem X4H (d:Nat):Con prog 46 true [lI []] (.tup []) none d:=by
 refine⟨by kernel_rfl,fun F w vs hF hsz hargs=>?_⟩;obtain⟨l⟩:=vs
 match l,hsz with
 | [v0],_=>
   have a0:CRel F w (.sl 1 []) v0:=hargs 0 _ v0 rfl rfl
   have key:∃p cap,v0=.slice p 0 cap:=by
    cases a0 with
    |nil=>exact⟨_,_,rfl⟩
    |emp a cap=>exact⟨_,_,rfl⟩
    |sl rows b o cap cells=>exact⟨_,_,rfl⟩
   obtain⟨p,cap,rfl⟩:=key;refine(Any.slices_Sort_int_none sortL p cap w).mono ?_;rintro e w' ⟨rfl,rfl⟩;exact⟨_,fun _=>False,noγ,rfl,⟨rfl,rfl,rfl,NI _,fun _ _=>rfl⟩,fun b hb=>hb.elim,⟨#[],rfl,rfl,fun j t u h1 h2=>by simp at h1⟩,fun o ho=>by cases ho⟩
end Go.Proofs.YtdajceakaakdoaaGreat
namespace Go.Proofs.YtdajceakaakdoaaGreat
open Go Go.Hl
open Tryz(prog)
def Pd (N:List Nd) (steps:List St) (nv:Nat) (S:List (List Nat)) (i:Nat) (Q:Prop):Prop:=(∀j,j<i->clo N steps nv S j)/\Q
def toA (xn xo:Int) (k:Nat):Int:=if k=0 then xn else xo
def toR (xn xo:Int):List (List CD):=[[iC xn],[iC xo]]
@[simp] theorem toR_len (xn xo:Int):(toR xn xo).length=2:=rfl
theorem toA_get {xn xo:Int} {k:Nat} (h:k<2):(toR xn xo)[k]? =some [iC (toA xn xo k)]:=by
 match k,h with
 |0,_=>rfl
 |1,_=>rfl
def lS2 (S:List (List Nat)) (tq:Int) (l:List Nat):Prop:=∀d∈l,inS S tq d
theorem clo_of {N:List Nd} {steps:List St} {nv i:Nat} {S:List (List Nat)} {x:Nd} {Si l:List Nat} (hx:N[i]? =some x) (hS:S[i]? =some Si) (hl:∀d,d∈l↔d∈X5V steps nv Si x) (h:∀j,j<2->lS2 S (toA x.n x.o j) l):clo N steps nv S i:=by
 intro x' Si' hx' hS' d hd tq q ht hq;rw[hx]at hx';rw[hS]at hS';cases hx';cases hS';rcases ht with ht|ht
 .exact h 0 (by omega) d ((hl d).2 hd) tq q ht hq
 exact h 1 (by omega) d ((hl d).2 hd) tq q ht hq
def X3B (R:List (Option (List (List CD)))) (y:Nat) (out:List Nat):List (Option (List (List CD))):=R.set y (X33 out)
@[simp] theorem matY_len (R:List (Option (List (List CD)))) (y:Nat) (out:List Nat):(X3B R y out).length=R.length:=by simp[X3B]
theorem X20 {R:List (Option (List (List CD)))} {y:Nat} (h:y+1<=R.length) (out:List Nat):(X3B R y out)[y]? =some (X33 out):=by
 unfold X3B;rw[NV (by omega)]
theorem Xe2 {R:List (Option (List (List CD)))} {y:Nat} (h:y+1<=R.length):X27 (X3B R y []) y=true:=by
 unfold X27;rw[X20 h];rfl
theorem XaD (R:List (Option (List (List CD)))) (y:Nat) (out:List Nat) (r:Option (List (List CD))):(X3B R y out).set y r=R.set y r:=by simp[X3B]
theorem X7P (R:List (Option (List (List CD)))) (y:Nat) (out l:List Nat) (d:Nat):(X3B R y out).set y (some (WL l++[[iC d]]))=X3B R y (l++[d]):=by
 rw[XaD];simp[X3B,X33]
theorem XdI {R:List (Option (List (List CD)))} {y:Nat} (h:R[y]? =some none):X3B R y []=R:=by
 unfold X3B X33;rw[N8 rfl];apply NX;intro k;rw[NY];split
 .rename_i e;subst e;rw[N8 (N6.1 h).1,h]
 rfl
theorem rcL_row {N:List Nd} {steps:List St} {nv:Nat} {S:List (List Nat)} (g:Gs N steps nv S) (hc:∀i,i<N.length->clo N steps nv S i) (hlt:∀tq d,Rc N steps nv tq d->d<steps.length+nv) {i:Nat} {Si:List Nat} (hS:S[i]? =some Si):
  ∃l,(rcL N steps nv)[i]? =some l/\(∀x,x∈Si↔x∈l)/\∀out:List Nat,out.Nodup->(∀x,x∈out↔x∈Si)->X9 (srtN out)=WL l:=by
 classical
 have hi:i<N.length:=by rw[<-g.len];exact(N6.1 hS).1
 refine⟨(List.range (steps.length+nv)).filter fun d=>decide (Rc N steps nv i d),by simp[rcL,hi],?_,fun out hn ho=>?_⟩
 .intro x;rw[NN,List.mem_range,N5];exact⟨fun h=>⟨g.lt Si (N4 hS) x h,g.snd i Si x hS h⟩,fun h=>clo_rc g hc hS h.2⟩
 refine srt_eq hn fun x=>?_;rw[ho,N5];exact⟨fun h=>⟨g.lt Si (N4 hS) x h,g.snd i Si x hS h⟩,fun h=>clo_rc g hc hS h.2⟩
theorem X3S (N:List Nd) (steps:List St) (nv:Nat):(rcL N steps nv).length=N.length:=by simp[rcL]
theorem X77 (d:Nat):Con prog 46 true [.one (.c (.lit XX))] (.tup []) none d:=by
 obtain⟨h1,h2⟩:=X4H d;refine⟨h1,fun F w vs hF hsz hargs=>h2 F w vs hF hsz fun j t u ht hu=>?_⟩;cases j with
 | zero=>
   cases ht;have a0:CRel F w (.lit XX) u:=hargs 0 _ u rfl hu;cases a0;exact CRel.nil 1
 |succ j=>simp at ht
set_option maxHeartbeats 8000000 in
theorem X8X (f:Fl) (h:Sm f) (h0:XR f=0) (d:Nat):Con prog 64 false [aF f,.agg [.c (grC f.body)]] (.tup [.one (.c (.sl 1 (Za (rcL (grN f.body) (flL f.body) f.vars.length)))),li 0]) none d:=by
 have cc:=X85 f h h0;have cf:=XaP f.body h.sz;have hok:=X6L (X0T h0);have hlen:=X1q (X0T h0);have hsl:=Q2 f.body;have hsz:=h.sz;have hwd:=X4I f.body;have hv:=h.vars;have caft:=XdC f (grN f.body) (flL f.body);obtain⟨vars,hats,body⟩:=f;simp only at cf hok hlen hsl hsz hwd hv caft;obtain⟨N,hN⟩:∃x,grN body=x:=⟨_,rfl⟩;obtain⟨steps,hst⟩:∃x,flL body=x:=⟨_,rfl⟩;simp only[grC,hN]at cc;rw[hN]at hok hlen;rw[hN,hst]at caft;rw[<-hsl]at hok;rw[hst]at cf hsl hok;simp only[grC,hN,hst];have hN2:N.length<=2002:=by omega
 have hs2:steps.length<=1000:=by omega
 clear hN hst h h0 hlen hwd hsl hsz;refine X5 Tryz.func64 ?_;simp only[Tryz.f64];simp only[aF,Fl.enc,Nk,Nr]at cc⊢;refine X2 ?_;refine X0<|X0<|(Xo [⟨true,.v (li 0),none⟩] ?_ ?_)
 .first|exact cc _|exact trivial|simpa[*]using cc _
 refine X2 ?_;refine(Xb rfl (fun h3=>?_) fun h3=>?_)
 .exact Bool.noConfusion h3
 simp only at h3;refine Xh [⟨false,.v (lS steps),none⟩] ?_ ?_
 .first|exact cf _|exact trivial|simpa[*]using cf _
 have hbig:(8:Int)*N.length<=281474976710656:=by omega
 have hmx:N.length<=maxLen:=by unfold maxLen;omega
 refine X2 ?_;refine XC (le_mps 36 (by decide) rfl rfl rfl) ?_;refine X0<|X0<|X1 ?_;refine X3<|(Xg [2,3,7,8,38] (fun(y:Nat)=>[(39,.v (li y))]) (fun y=>[(2,.box [.c (.sl 5 (Xk vars)),.c (.sl 6 (Xn hats)),.c (.sl 10 (X7 body))]),(3,.box [.c (.sl 4 (Qv N))]),(7,.box [.c (.sl 10 (X7 steps))]),(8,.box [.own 36]),(36,.mps 191 (msI y N.length))]) (fun y=>y<=N.length) (fun y=>N.length - y) (0:Nat) (Nq _) ?_ ?_)
 .exact Xw (fun n=>n) [] rfl (by simp[*,upS,X8]) (by simp[*,upS,msI_zero]) (by simp[upS])
 rintro y hy;simp only[upS,X8,Xz]
 simp only[KN,Nat.reduceBEq,Nj,Nc,ins,Nat.reduceLT]
 refine X2 ?_;refine X0<|(X6 rfl (fun h11=>Xe ?_) (fun h11=>?_))
 ·simp only[BN]at h11;have hlt:y<N.length:=by omega
  have hw1:=XD hlt (by omega);have hk1:y+1<=N.length:=hlt;have hin:y<(msI y N.length).length:=by rw[msI_len hy];exact hlt
  have hfr:=msI_free hlt;have hset:=msI_set hlt;clear hlt h11;refine X0<|X3<|X0<|X1 ?_;refine X1 ?_;refine X1 ?_;exact⟨y+1,hk1,by omega,X4 (fun n=>n) []⟩
 simp only[BN]at h11;have hyn:y=N.length:=by omega
 subst hyn;rw[msI_end];refine(Xi ?_);refine X2 ?_;refine X2 ?_;refine X0<|X0<|X1 ?_;refine X3<|(Xg [3,8,11] (fun(y:Bool×List (List Nat))=>[(12,.v (lb y.1))]) (fun(y:Bool×List (List Nat))=>[(2,.box [.c (.sl 5 (Xk vars)),.c (.sl 6 (Xn hats)),.c (.sl 10 (X7 body))]),(3,.box [.c (.sl 4 (Qv N))]),(7,.box [.c (.sl 10 (X7 steps))]),(8,.box [.own 36]),(10,.box [.fn 122 [(7,0)]]),(36,.mps 191 (msS y.2))]) (fun(y:Bool×List (List Nat))=>Gs N steps vars.length y.2/\(y.1=false->∀i,i<N.length->clo N steps vars.length y.2 i)) (fun(y:Bool×List (List Nat))=>2*(N.length*(steps.length+vars.length)+1 - Zn y.2)+(if y.1=true then 1 else 0)) (true,List.replicate N.length []) ⟨Gs.empty ..,fun h=>by cases h⟩ ?_ ?_)
 .exact X4 (fun n=>n) []
 rintro⟨c0,S0⟩ ⟨hg0,hcl0⟩;simp only[upS,X8,Xz]
 simp only[KN,Nat.reduceBEq,Nj,Nc,ins,Nat.reduceLT]
 simp only at hg0 hcl0;refine X0<|X0<|X1 ?_;refine(X6 rfl (fun h21=>Xe ?_) (fun h21=>?_))
 ·have hc0:c0=true:=by simpa using h21
  subst hc0;clear hcl0 h21;have htot0:=XaY hg0;refine X3<|X0<|X1 ?_;refine X2 ?_;refine X3<|(Xg [3,8,11,51,52] (fun(y:Nat×Bool×List (List Nat))=>[(12,.v (lb y.2.1)),(53,.v (li y.1))]) (fun(y:Nat×Bool×List (List Nat))=>[(2,.box [.c (.sl 5 (Xk vars)),.c (.sl 6 (Xn hats)),.c (.sl 10 (X7 body))]),(3,.box [.c (.sl 4 (Qv N))]),(7,.box [.c (.sl 10 (X7 steps))]),(8,.box [.own 36]),(10,.box [.fn 122 [(7,0)]]),(36,.mps 191 (msS y.2.2))]) (fun(y:Nat×Bool×List (List Nat))=>y.1<=N.length/\Inv N steps vars.length S0 y.2.2 y.2.1 (Pd N steps vars.length S0 y.1 True)) (fun(y:Nat×Bool×List (List Nat))=>N.length - y.1) (0,false,S0) ⟨Nq _,hg0,NI _,fun h=>(by cases h),fun _=>⟨rfl,fun j hj=>absurd hj (Dv j),trivial⟩⟩ ?_ ?_)
  .exact X4 (fun n=>n) []
  rintro⟨i,c1,S1⟩ ⟨hi,hI⟩;simp only[upS,X8,Xz]
  simp only[KN,Nat.reduceBEq,Nj,Nc,ins,Nat.reduceLT]
  simp only at hi hI;refine X2 ?_;refine X0<|(X6 rfl (fun h26=>Xe ?_) (fun h26=>?_))
  ·simp only[BN]at h26;have hlt:i<N.length:=by omega
   have hw1:=XD hlt (by omega);have hk1:i+1<=N.length:=hlt;obtain⟨x,hx,_⟩:=Xt hlt;obtain⟨Si,hS,_⟩:=Xt (show i<S1.length by rw[hI.g.len];exact hlt);have hxe:=X4f hx;have hxo:=hok x (N4 hx);have hSm:Si∈S1:=N4 hS;have ca:=caft S1 i x Si hx hS (by omega) hv (Dz (WA (hI.g.nod Si hSm) (hI.g.lt Si hSm)) (by omega)) (fun d hd=>by have:=hI.g.lt Si hSm d hd;omega) hxo.ha 60 (by decide);obtain⟨xk,xa,xn,xo⟩:=x;simp only[Nd.enc]at hxe;simp only[Fl.enc,setsC,kC]at ca;clear hlt h26;refine X0<|X3<|X0<|(Xs (by simp[*];rfl) ?_);refine X0<|(XJ ?_);refine RunsN.cutE 2 [] (by simp;rfl) trivial (le_refl _) ?_;refine RunsN.callFA ca fun l hl=>?_;refine RunsN.doneE [] (by simp[HS.made];rfl) trivial ?_;have hrc:∀d∈l,∀tq,WJ ⟨xk,xa,xn,xo⟩ tq->Rc N steps vars.length tq d:=fun d hd tq ht=>aft_rc hI.g hx hS ((hl.1 d).1 hd) ht
   have hrl:∀d∈l,∀tq,WJ ⟨xk,xa,xn,xo⟩ tq->d<steps.length+vars.length:=fun d hd tq ht=>rc_lt (fun x hx ha=>by
    rcases(hok x hx).ha with h|⟨m,h1,h2⟩
    .simp[QK,h.1]at ha
    rw[h1];simpa using h2) (hrc d hd tq ht)
   have hclo:∀S,S=S0->c1=false->(∀j,j<2->lS2 S (toA xn xo j) l)->clo N steps vars.length S0 i:=by
    intro S hS0 hc h;obtain⟨h1,_⟩:=hI.same hc;subst h1;subst hS0;exact clo_of hx hS hl.1 h
   have hS1c:c1=false->S1=S0:=fun hc=>(hI.same hc).1;have hll:=hl.2;clear ca hxe hS hSm caft;refine X2 ?_;refine X3<|(Xg [3,8,11,15,51,52,53,65,66] (fun(y:Nat×Bool×List (List Nat))=>[(12,.v (lb y.2.1)),(67,.v (li y.1))]) (fun(y:Nat×Bool×List (List Nat))=>[(2,.box [.c (.sl 5 (Xk vars)),.c (.sl 6 (Xn hats)),.c (.sl 10 (X7 body))]),(3,.box [.c (.sl 4 (Qv N))]),(7,.box [.c (.sl 10 (X7 steps))]),(8,.box [.own 36]),(10,.box [.fn 122 [(7,0)]]),(36,.mps 191 (msS y.2.2)),(60,.row 3 1 (WL l)),(65,.row 3 1 (toR xn xo))]) (fun(y:Nat×Bool×List (List Nat))=>y.1<=2/\Inv N steps vars.length S0 y.2.2 y.2.1 (Pd N steps vars.length S0 i (c1=false/\∀j,j<y.1->lS2 S0 (toA xn xo j) l))) (fun(y:Nat×Bool×List (List Nat))=>2 - y.1) (0,c1,S1) ⟨Nq _,⟨hI.g,hI.tot,hI.up,fun hc=>⟨(hI.same hc).1,(hI.same hc).2.1,hc,fun j hj=>absurd hj (Dv j)⟩⟩⟩ ?_ ?_)
   .exact Xw (fun n=>n) [] rfl (by simp[*,upS,X8]) (by simp[*,upS,toR]) (by simp[upS])
   rintro⟨k,c2,S2⟩ ⟨hk,hI2⟩;simp only[upS,X8,Xz]
   simp only[KN,Nat.reduceBEq,Nj,Nc,ins,Nat.reduceLT]
   simp only at hk hI2;refine X2 ?_;refine X0<|(X6 rfl (fun h32=>Xe ?_) (fun h32=>?_))
   .simp only[BN]at h32
    have hk2:k<2:=by
     have:(k:Int)<2:=by simpa using h32
     omega
    have hwk:=XD hk2 (by omega);have hkk:k+1<=2:=hk2;have hto:=toA_get (xn:=xn) (xo:=xo) hk2
    have hsuc:∀t:Nat,toA xn xo k=t->WJ ⟨xk,xa,xn,xo⟩ t:=by
     intro t ht;unfold toA at ht;split at ht
     .exact .inl ht
     exact .inr ht
    have htok:X5t N.length (toA xn xo k):=by
     unfold toA;split
     .exact hxo.hn
     exact hxo.ho
    obtain⟨tq,hto1⟩:∃x,toA xn xo k=x:=⟨_,rfl⟩;rw[hto1]at hto hsuc htok;clear h32 hk2;refine X0<|X3<|X0<|X1 ?_;refine X2 ?_;refine X3<|(Xg [3,8,11,15,17,51,52,53,65,66,67,71,72] (fun(y:Nat×Bool×List (List Nat))=>[(12,.v (lb y.2.1)),(73,.v (li y.1))]) (fun(y:Nat×Bool×List (List Nat))=>[(2,.box [.c (.sl 5 (Xk vars)),.c (.sl 6 (Xn hats)),.c (.sl 10 (X7 body))]),(3,.box [.c (.sl 4 (Qv N))]),(7,.box [.c (.sl 10 (X7 steps))]),(8,.box [.own 36]),(10,.box [.fn 122 [(7,0)]]),(36,.mps 191 (msS y.2.2)),(60,.row 3 1 (WL l)),(65,.row 3 1 (toR xn xo))]) (fun(y:Nat×Bool×List (List Nat))=>y.1<=l.length/\Inv N steps vars.length S0 y.2.2 y.2.1 (Pd N steps vars.length S0 i (c1=false/\(∀j,j<k->lS2 S0 (toA xn xo j) l)/\lS2 S0 tq (l.take y.1)))) (fun(y:Nat×Bool×List (List Nat))=>l.length - y.1) (0,c2,S2) ⟨Nq _,hI2.mono fun _ h=>⟨h.1,h.2.1,h.2.2,fun d hd=>by simp at hd⟩⟩ ?_ ?_)
    .exact X4 (fun n=>n) []
    rintro⟨m,c3,S3⟩ ⟨hm,hI3⟩;simp only[upS,X8,Xz]
    simp only[KN,Nat.reduceBEq,Nj,Nc,ins,Nat.reduceLT]
    simp only at hm hI3;refine X2 ?_;refine X0<|(X6 rfl (fun h37=>Xe ?_) (fun h37=>?_))
    ·simp only[BN]at h37;have hml:m<l.length:=by simpa using h37
     have hwm:=XD hml (by omega);have hm1:m+1<=l.length:=hml;obtain⟨d,hd,_⟩:=Xt hml;have hde:(WL l)[m]? =some [iC d]:=by simp[WL,hd]
     have hdm:=N4 hd;clear h37 hml;refine X0<|X3<|X0<|X1 ?_;refine XT [3,8,11,12,15,17,19,51,52,53,65,66,67,71,72,73] (fun(q:Bool)=>[(87,.v (lb q))]) (fun(q:Bool)=>[(2,.box [.c (.sl 5 (Xk vars)),.c (.sl 6 (Xn hats)),.c (.sl 10 (X7 body))]),(3,.box [.c (.sl 4 (Qv N))]),(7,.box [.c (.sl 10 (X7 steps))]),(8,.box [.own 36]),(10,.box [.fn 122 [(7,0)]]),(36,.mps 191 (msS S3)),(60,.row 3 1 (WL l)),(65,.row 3 1 (toR xn xo))]) (fun(q:Bool)=>(q=true->∃(t:Nat) (Lt:List Nat),tq=t/\S3[t]? =some Lt/\d∉Lt)/\(q=false->inS S3 tq d)) ?_ ?_
     .rcases htok with rfl|⟨t,rfl,htl⟩
      .refine Xs (by simp[*];rfl) ?_;refine⟨false,⟨fun h=>(by cases h),fun _ m l hm=>by omega⟩,Xw (fun n=>n) [] rfl (by simp[upS,X8]) (by simp[upS]) (by simp[upS])⟩
      obtain⟨Lt,hLt,_⟩:=Xt (show t<S3.length by rw[hI3.g.len];exact htl);have hms:=Xcg hLt;have hfd:=X5Z d Lt;have htl2:t+1<=S3.length:=by rw[hI3.g.len];exact htl
      by_cases hin:d∈Lt
      .rw[N8 hin]at hfd;refine Xs (by simp[hms,hfd];rfl) ?_;refine⟨false,⟨fun h=>(by cases h),fun _ m l hm hl2=>by rw[<-Int.ofNat.inj hm,hLt]at hl2;cases hl2;exact hin⟩,Xw (fun n=>n) [] rfl (by simp[upS,X8]) (by simp[upS]) (by simp[upS])⟩
      rw[N7 hin]at hfd;refine Xs (by simp[hms,hfd];rfl) ?_;refine⟨true,⟨fun _=>⟨t,Lt,rfl,hLt,hin⟩,fun h=>(by cases h)⟩,Xw (fun n=>n) [] rfl (by simp[upS,X8]) (by simp[upS]) (by simp[upS])⟩
     rintro q hq;simp only[upS,X8,Xz]
     simp only[KN,Nat.reduceBEq,Nj,Nc,ins,Nat.reduceLT]
     refine(Xb rfl (fun h40=>?_) fun h40=>?_)
     ·obtain⟨t,Lt,rfl,hLt,hnd⟩:=hq.1 (by simpa using h40);have hms:=Xcg hLt;have hfd:=X5Z d Lt;rw[N7 hnd]at hfd;have htl2:t+1<=S3.length:=(N6.1 hLt).1;have hset:=set_msS S3 t Lt d;have hinv:=hI3.add (Q:=Pd N steps vars.length S0 i (c1=false/\(∀j,j<k->lS2 S0 (toA xn xo j) l)/\lS2 S0 (t:Int) (l.take (m+1)))) hLt hnd (hrl d hdm t (hsuc t rfl)) (hrc d hdm t (hsuc t rfl));clear hq h40 hI3 hnd hLt;refine X0<|(Xs (by simp[hms,hfd,hset];rfl) ?_);refine X1 ?_;refine X1 ?_;exact⟨(m+1,true,S3.set t (Lt++[d])),⟨hm1,hinv⟩,by simp only;omega,X4 (fun n=>n) []⟩
     have hq2:=hq.2 (by simpa using h40);clear hq h40;refine X1 ?_
     exact⟨(m+1,c3,S3),⟨hm1,hI3.mono fun hs h=>⟨h.1,h.2.1,h.2.2.1,fun e he=>by
      rw[List.take_add_one,hd]at he;rcases Ni.1 he with h4|h4
      .exact h.2.2.2 e h4
      have:e=d:=by simpa using h4
      rw[this,<-hs];exact hq2⟩⟩,by simp only;omega,X4 (fun n=>n) []⟩
    simp only[BN]at h37
    have hml:m=l.length:=by
     have:¬m<l.length:=by simpa using h37
     omega
    subst hml;rw[List.take_length]at hI3;clear h37;refine(Xi ?_);refine X1 ?_
    exact⟨(k+1,c3,S3),⟨hkk,hI3.mono fun _ h=>⟨h.1,h.2.1,fun j hj=>by
     rcases Nat.lt_or_eq_of_le (Nat.le_of_lt_succ hj)with h4|h4
     .exact h.2.2.1 j h4
     rw[h4,hto1];exact h.2.2.2⟩⟩,by simp only;omega,X4 (fun n=>n) []⟩
   simp only[BN]at h32
   have hk2:k=2:=by
    have:¬(k:Int)<2:=by simpa using h32
    omega
   subst hk2;clear h32;refine(Xi ?_);refine X1 ?_
   exact⟨(i+1,c2,S2),⟨hk1,hI2.mono fun hs h=>⟨fun j hj=>by
    rcases Nat.lt_or_eq_of_le (Nat.le_of_lt_succ hj)with h4|h4
    .exact h.1 j h4
    rw[h4];exact hclo S2 hs h.2.1 (by rw[hs];exact h.2.2),trivial⟩⟩,by simp only;omega,X4 (fun n=>n) []⟩
  simp only[BN]at h26;have hin:i=N.length:=by omega
  subst hin;have htot1:=XaY hI.g;refine(Xi ?_)
  exact⟨(c1,S1),⟨hI.g,fun hc j hj=>by obtain⟨rfl,h1,_⟩:=hI.same hc;exact h1 j hj⟩,by
   simp only;cases c1 with
   |true=>have:=hI.up rfl;simp only[Nj];omega
   |false=>obtain⟨rfl,_⟩:=hI.same rfl;simp,X4 (fun n=>n) []⟩
 have hc0:c0=false:=by simpa using h21
 subst hc0;have hcl:=hcl0 rfl
 have hlt:∀tq d,Rc N steps vars.length tq d->d<steps.length+vars.length:=fun tq d h=>rc_lt (fun x hx ha=>by
  rcases(hok x hx).ha with h|⟨m,h1,h2⟩
  .simp[QK,h.1]at ha
  rw[h1];simpa using h2) h
 have hrow:=fun {i:Nat} {Si:List Nat}=>rcL_row (i:=i) (Si:=Si) hg0 hcl hlt;have hLl:=X3S N steps vars.length;obtain⟨L,hL⟩:∃x,rcL N steps vars.length=x:=⟨_,rfl⟩;rw[hL]at hLl⊢;simp only[hL]at hrow;have hSl:=hg0.len;have hbig2:(24:Int)*N.length<=281474976710656:=by omega
 have hSb:∀Si∈S0,Si.Nodup/\Si.length<=2000:=fun Si h=>⟨hg0.nod Si h,Dz (WA (hg0.nod Si h) (hg0.lt Si h)) (by omega)⟩;clear hcl0 h21 hcl hlt hL caft hg0 hy h11 cf cc hok;refine(Xi ?_);refine XC (le_frzQ 36 rfl) ?_;refine XC (s':=⟨⟨129,none⟩,[(8,.v (.one (.at_ 8 0)))],[(8,.box [.c (.sl 1 (S0.map fun l=>[.mp (mpI l)]))])]⟩) (Xw (fun n=>n) [] rfl (by simp[HS.frz,WI,RV.frz,TV.frz,CV.frz]) (by simp[HS.frz,WI,Ob.frz,CV.frz,del]) (by simp)) ?_;refine X2 ?_;refine XC (le_mat 98 3 1 (by decide) (by decide) rfl rfl rfl) ?_;refine X0<|X0<|X1 ?_;refine X3<|(Xg [20,99,100] (fun(y:Nat)=>[(101,.v (li y))]) (fun y=>[(98,.mat 29 3 1 (rwI L y N.length))]) (fun y=>y<=N.length) (fun y=>N.length - y) (0:Nat) (Nq _) ?_ ?_)
 .exact Xw (fun n=>n) [] rfl (by simp[*,upS,X8]) (by simp[*,upS,rwI_zero]) (by simp[upS])
 rintro y hy;simp only[upS,X8,Xz]
 simp only[KN,Nat.reduceBEq,Nj,Nc,ins,Nat.reduceLT]
 refine X2 ?_;refine X0<|(X6 rfl (fun h56=>Xe ?_) (fun h56=>?_))
 ·simp only[BN]at h56;have hlt:y<N.length:=by omega
  have hw1:=XD hlt (by omega);have hk1:y+1<=N.length:=hlt;obtain⟨Si,hS,_⟩:=Xt (show y<S0.length by omega);have hSr:(S0.map fun l=>[CD.mp (mpI l)])[y]? =some [CD.mp (mpI Si)]:=by simp[hS]
  obtain⟨hnod,hSi⟩:=hSb Si (N4 hS);obtain⟨lr,hlr,hmemr,hsrt⟩:=hrow hS;have hget:=rwI_get hlt hLl;have hRs:=rwI_set hlr hlt hLl;have hRl:y+1<=(rwI L y N.length).length:=by rw[rwI_len hy hLl];exact hlt
  obtain⟨R,hR⟩:∃x,rwI L y N.length=x:=⟨_,rfl⟩;rw[hR]at hget hRs hRl⊢;have hz:=XdI hget;clear hrow hSb hlt h56 hR hget hlr hS;refine X0<|X3<|X0<|X1 ?_;refine X0<|X0<|X1 ?_;refine X3<|(Xg [20,21,99,100,101,107] (fun(z:List Nat×List Nat)=>[]) (fun z=>[(98,.mat 29 3 1 (X3B R y z.2)),(107,.it (mpI Si) z.1)]) (fun z=>z.1.Nodup/\X3x z.1 Si.length/\(∀d,d∈z.2↔∃j∈z.1,Si[j]? =some d)/\z.2.Nodup/\z.2.length<=z.1.length) (fun z=>Si.length - z.1.length) ([],[]) ⟨List.nodup_nil,by simp[X3x],by simp,List.nodup_nil,NI _⟩ ?_ ?_)
  .exact X4 (fun n=>n) []
  rintro⟨seen,out⟩ ⟨j1,j2,j3,j4,j5⟩;simp only[upS,X8,Xz]
  simp only[KN,Nat.reduceBEq,Nj,Nc]
  simp only at j1 j2 j3 j4 j5;refine X6e (fun j k v hj hn=>?_) (fun hall=>?_)
  skip
  ·obtain⟨d,hd,rfl,rfl⟩:=Xcb hj;have hjl:j<Si.length:=(N6.1 hd).1
   have hnd:(seen++[j]).Nodup:=by
    rw[List.nodup_append];exact⟨j1,by simp,fun a ha b hb=>by rw[Nl.1 hb];exact fun e=>hn (e▸ha)⟩
   have hin:X3x (seen++[j]) Si.length:=fun i hi=>by
    rcases Ni.1 hi with h|h
    .exact j2 i h
    rw[Nl.1 h];exact hjl
   have hle:=WA hnd hin;simp only[Na,List.length_singleton]at hle
   have hmem:∀x,x∈out++[d]↔∃i∈seen++[j],Si[i]? =some x:=by
    intro x;rw[Ni,j3,Nl];constructor
    .rintro(⟨i,h1,h2⟩|rfl)
     .exact⟨i,List.mem_append_left _ h1,h2⟩
     exact⟨j,by simp,hd⟩
    rintro⟨i,h1,h2⟩;rcases Ni.1 h1 with h1|h1
    .exact .inl ⟨i,h1,h2⟩
    rw[Nl.1 h1,hd]at h2;exact .inr (Option.some.inj h2).symm
   have hdo:d∉out:=by
    intro h;obtain⟨i,h1,h2⟩:=(j3 d).1 h;have:=(List.getElem?_inj hjl hnod).1 (hd.trans h2.symm);exact hn (this▸h1)
   have hon:(out++[d]).Nodup:=by
    rw[List.nodup_append];exact⟨j4,by simp,fun a ha b hb=>by rw[Nl.1 hb];exact fun e=>hdo (e▸ha)⟩
   clear hjl j1 j3 j4 hn hdo hnod;refine X3<|X0<|X1 ?_;cases out with
   | nil=>
     have g1:=X20 hRl [];have g2:=Xe2 hRl;have g3:=X7P R y [] [] d;have hroom:W5 1 8:=Qc (by omega) (by decide);simp only[X33,Nj]at g1;simp only[encD_nil,List.nil_append]at g3;refine Xs (by simp[g1,g2,g3,hroom];rfl) ?_;exact⟨(seen++[j],[d]),⟨hnd,hin,hmem,hon,by simp⟩,by simp only[Na,List.length_singleton];omega,Xw (fun n=>n) [] rfl (by simp) (by simp) (by simp)⟩
   | cons a o=>
     have g1:=X20 hRl (a::o);have g3:=X7P R y (a::o) (a::o) d;have hroom:W5 ((a::o).length+1) 8:=Qc (by omega) (by decide);simp only[X33,List.cons_ne_nil,Nc]at g1;rw[List.length_cons]at hroom;refine XJ ?_;refine RunsN.cutE 8 [] (by simp[g1];rfl) trivial (le_refl _) ?_;refine RunsN.matA (by simp[matAP,neT,g1,g3,hroom];rfl) ?_;refine RunsN.doneE [] rfl trivial ?_;exact⟨(seen++[j],a::o++[d]),⟨hnd,hin,hmem,hon,by simp only[Na,List.length_singleton]at j5⊢;omega⟩,by simp only[Na,List.length_singleton];omega,Xw (fun n=>if n=98 then 120 else n) [] rfl (by simp[RV.mv,TV.mv,CV.mv]) (by simp[Ob.mv]) (by simp)⟩
  have hout:∀x,x∈out↔x∈Si:=by
   intro x;rw[j3];constructor
   .rintro⟨i,_,h2⟩;exact N4 h2
   intro h;obtain⟨i,hi⟩:=NK.1 h;exact⟨i,hall i (by rw[Xcp];exact(N6.1 hi).1),hi⟩
  have hle:=WA j1 j2;have hsrt:=hsrt out j4 hout
  have hlr0:lr=[]↔out=[]:=by
   constructor
   .intro h;rw[List.eq_nil_iff_forall_not_mem];intro x hx;have:=(hmemr x).1 ((hout x).1 hx);rw[h]at this;cases this
   intro h;rw[List.eq_nil_iff_forall_not_mem];intro x hx;have:=(hout x).2 ((hmemr x).2 hx);rw[h]at this;cases this
  have hfin:=XaD R y out (X33 lr);rw[hRs]at hfin;clear hall j1 j2 j3 j4 hRs hz hmemr hnod;refine(Xi ?_);cases out with
  | nil=>
    have g1:=X20 hRl [];have hlr1:=hlr0.2 rfl;subst hlr1
    have hz2:X3B R y []=rwI L (y+1) N.length:=by
     rw[<-hfin];apply NX;intro k;rw[NY];split
     .rename_i e;subst e;rw[N8 (by rw[matY_len];omega),g1]
     rfl
    simp only[X33,Nj]at g1;refine Wi [⟨true,.tup [],none⟩] (by simp[g1];first|exact⟨rfl,Iff.rfl⟩|exact⟨rfl,trivial⟩|rfl) ?_ ?_
    .first|exact X77 _|simpa using X77 _
    refine Xs (by simp[hw1];rfl) ?_;exact⟨y+1,hk1,by omega,Xw (fun n=>n) [] rfl (by simp) (by simp[hz2]) (by simp)⟩
  | cons a o=>
    have g1:=X20 hRl (a::o);have hlr1:¬lr=[]:=fun h=>by have:=hlr0.1 h;cases this
    simp only[X33,List.cons_ne_nil,Nc]at g1;simp only[X33,hlr1,Nc]at hfin;have cs:=X7G ((a::o).map Int.ofNat) (by simp) (by simp only[NW];omega);rw[<-encD_enc,show X9 (((a::o).map Int.ofNat).mergeSort fun x y=>decide (x<=y))=WL lr from hsrt]at cs;refine XJ ?_;refine RunsN.cutE 4 [] (by simp[g1];rfl) trivial (le_refl _) ?_;refine RunsN.subA (by simp[subAP,X3t,g1];exact⟨rfl,rfl,rfl,rfl,rfl⟩) cs ?_;refine RunsN.doneE [] rfl trivial ?_;refine Xs (by simp[hw1];rfl) ?_;exact⟨y+1,hk1,by omega,Xw (fun n=>n) [] rfl (by simp) (by simp[hfin]) (by simp)⟩
 simp only[BN]at h56;have hyn:y=N.length:=by omega
 subst hyn;have hend:=rwI_end hLl;clear hrow hSb;refine(Xi ?_);refine X2 ?_;refine XC (le_frzM0 98 rfl) ?_;exact XZ ⟨.inr rfl,_,le_refl _,⟨_,by simp[HS.frz,WI,RV.frz,TV.frz,CV.frz];rfl,by simp[XG,hend]⟩,by simp,fun h=>by cases h⟩
theorem X2e {vars:List Vr} {nh:Nat}:∀(l:List St) (top:Bool),ssC vars nh l top=0->∀q∈flL l,∃last,shB vars nh q.do_ q.var q.n q.term q.then_.length q.else_.length q.bounds last=true
 |[],_,_,q,hq=>by simp[flL]at hq
 | .mk d c v n t a b bs::l,top,h,q,hq=>by
   have hs:shB vars nh d v n t a.length b.length bs (top&&l.isEmpty)=true:=by
    simp only[ssC]at h;split at h
    .rename_i h0;unfold stC at h0;split at h0
     .cases h0
     rename_i hs;simpa using hs
    rename_i h0;exact absurd h h0
   have hr:ssC vars nh a false=0/\ssC vars nh b false=0/\ssC vars nh l top=0:=by
    simp only[ssC]at h;split at h
    .split at h
     .split at h
      .rename_i ha hb;exact⟨ha,hb,h⟩
      rename_i hb;exact absurd h hb
     rename_i ha;exact absurd h ha
    rename_i h0;exact absurd h h0
   simp only[flL,flS,List.cons_append,Ng,Ni]at hq;rcases hq with rfl|(hq|hq)|hq
   .exact⟨_,hs⟩
   .exact X2e a false hr.1 q hq
   .exact X2e b false hr.2.1 q hq
   exact X2e l top hr.2.2 q hq
mutual
def tmV:Tm->List Int
 | .mk o n ks=>(if o=24 then [n] else [])++X1S ks
def X1S:List Tm->List Int
 |[]=>[]
 |t::l=>tmV t++X1S l
end
mutual
theorem X88:∀t:Tm,(tmV t).length<=t.nodes
 | .mk o n ks=>by
   have:=X9V ks;simp only[tmV,Na,Tm.nodes];split
   .simp only[List.length_singleton];omega
   simp only[List.length_nil];omega
theorem X9V:∀l:List Tm,(X1S l).length<=Qm l
 |[]=>by simp[X1S]
 |t::l=>by have:=X88 t;have:=X9V l;simp only[X1S,Na,Qm];omega
end
def Sub {T:Type} (N:List T) (k:Nat) (l:List T):Prop:=∀i x,l[i]? =some x->N[k+i]? =some x
theorem Sub.cons {T:Type} {N:List T} {k:Nat} {x:T} {l:List T} (h:Sub N k (x::l)):N[k]? =some x/\Sub N (k+1) l:=
 ⟨h 0 x rfl,fun i y hy=>by have:=h (i+1) y (by simpa using hy);rwa [show k+(i+1)=k+1+i by omega]at this⟩
theorem Sub.app {T:Type} {N:List T} {k:Nat} {a b:List T} (h:Sub N k (a++b)):Sub N k a/\Sub N (k+a.length) b:=by
 refine⟨fun i x hx=>h i x ?_,fun i x hx=>?_⟩
 .have hi:=(N6.1 hx).1;rw[Nv hi,hx]
 have:=h (a.length+i) x (by rw[Np (by omega),show a.length+i - a.length=i by omega,hx])
 rwa [show k+(a.length+i)=k+a.length+i by omega]at this
theorem Sub.of_self {T:Type} (l:List T):Sub l 0 l:=fun i x hx=>by rwa [Nat.zero_add]
def updD (D:Nat->Nat) (v o:Nat):Nat->Nat:=fun x=>if x=v then o else D x
def X1P (vars:List Vr) (hv:List Int) (kO:Nat->Bool) (d c v n:Int) (t:Tm) (bs:List Int) (o:Nat) (x:Sta×(Nat->Nat)):Sta×(Nat->Nat):=
 if d=1/\kO o=false then x else(QV vars hv d v n t bs (tick x.1 c),if d=0\/d=5 then updD x.2 v.toNat o else x.2)
def X0N (c:Int) (t:Tm) (body:Sta×(Nat->Nat)->Sta×(Nat->Nat)):Nat->Sta×(Nat->Nat)->Sta×(Nat->Nat)
 |0,x=>x
 |k+1,x=>if vT x.1.vals t=0 then(tick x.1 c,x.2)else X0N c t body k (body (tick x.1 c,x.2))
def stD (vars:List Vr) (hv:List Int) (kO:Nat->Bool):List St->Nat->Sta×(Nat->Nat)->Sta×(Nat->Nat)
 |[],_=>fun x=>x
 | .mk d c v n t a b bs::l,o=>fun x=>
   stD vars hv kO l (o+(1+szL a+szL b)) (if d=4 then X0N c t (stD vars hv kO a (o+1)) n.toNat x
    else if d=3 then(if vT x.1.vals t=0 then stD vars hv kO b (o+1+szL a) (tick x.1 c,x.2)else stD vars hv kO a (o+1) (tick x.1 c,x.2))
    else X1P vars hv kO d c v n t bs o x)
section
variable {vars:List Vr} {hv:List Int} {kO:Nat->Bool}
def Qt (lo hi:Nat) (x y:Sta×(Nat->Nat)):Prop:=∀v:Nat,(y.2 v=x.2 v/\y.1.vals[v]? =x.1.vals[v]?)\/(lo<=y.2 v/\y.2 v<hi)
theorem Qt.refl (lo hi:Nat) (x:Sta×(Nat->Nat)):Qt lo hi x x:=fun _=>.inl ⟨rfl,rfl⟩
theorem Qt.trans {lo hi:Nat} {x y z:Sta×(Nat->Nat)} (h:Qt lo hi x y) (h2:Qt lo hi y z):Qt lo hi x z:=fun v=>by
 rcases h2 v with⟨h3,h4⟩|h3
 .rcases h v with⟨h5,h6⟩|h5
  .exact .inl ⟨h3.trans h5,h4.trans h6⟩
  exact .inr ⟨by omega,by omega⟩
 exact .inr h3
theorem Qt.wide {lo hi lo' hi':Nat} {x y:Sta×(Nat->Nat)} (h:Qt lo hi x y) (h1:lo'<=lo) (h2:hi<=hi'):Qt lo' hi' x y:=fun v=>by
 rcases h v with h3|h3
 .exact .inl h3
 exact .inr ⟨by omega,by omega⟩
theorem Qt.tick {lo hi:Nat} {x y:Sta×(Nat->Nat)} {c:Int} (h:Qt lo hi (tick x.1 c,x.2) y):Qt lo hi x y:=h
theorem qt_rnd {c:Int} {t:Tm} {lo hi:Nat} {body:Sta×(Nat->Nat)->Sta×(Nat->Nat)} (h:∀x,Qt lo hi x (body x)):∀(k:Nat) (x:Sta×(Nat->Nat)),Qt lo hi x (X0N c t body k x)
 |0,x=>Qt.refl _ _ _
 | k+1,x=>by
   simp only[X0N];split
   .exact Qt.refl lo hi x
   exact(Qt.tick (h _)).trans (qt_rnd h k _)
theorem X6j {vs:List Int} {v n:Int} {x:Nat} (h:x≠v.toNat):(X4t vars vs v n)[x]? =vs[x]? :=by
 unfold X4t;split
 .rw[Dj (Ne.symm h)]
 rfl
theorem WB {d v n:Int} {t:Tm} {bs:List Int} {s:Sta} {x:Nat} (h:x≠v.toNat\/¬(d=0\/d=5)):(QV vars hv d v n t bs s).vals[x]? =s.vals[x]? :=by
 unfold QV;split
 .rename_i h0;exact X6j (h.resolve_right fun h=>h (.inl h0))
 split
 .rfl
 split
 .rename_i h5;exact X6j (h.resolve_right fun h=>h (.inr h5))
 split<;>rfl
theorem X96:∀l:List St,∀(o:Nat) (x:Sta×(Nat->Nat)),Qt o (o+szL l) x (stD vars hv kO l o x):=by
 apply St.lind
 .intro o x;simp only[stD];exact Qt.refl _ _ _
 intro d c v n t a b bs l ia ib il o x;simp only[stD,szL,szS];refine Qt.trans ?_ ((il _ _).wide (by omega) (by omega));split
 .exact qt_rnd (fun x=>(ia (o+1) x).wide (by omega) (by omega)) _ _
 split
 .split
  .exact Qt.tick ((ib _ _).wide (by omega) (by omega))
  exact Qt.tick ((ia _ _).wide (by omega) (by omega))
 unfold X1P;split
 .exact Qt.refl _ _ _
 intro y;simp only;by_cases hd:d=0\/d=5
 .rw[N8 hd];by_cases hy:y=v.toNat
  .right;unfold updD;rw[N8 hy];omega
  left;unfold updD;rw[N7 hy];exact⟨rfl,WB (.inl hy)⟩
 rw[N7 hd];exact .inl ⟨rfl,WB (.inr hd)⟩
theorem X9N {c:Int} {t:Tm} {body:Sta×(Nat->Nat)->Sta×(Nat->Nat)} (h:∀x,(body x).1.vals.length=x.1.vals.length):∀(k:Nat) (x:Sta×(Nat->Nat)),(X0N c t body k x).1.vals.length=x.1.vals.length
 |0,x=>rfl
 | k+1,x=>by
   simp only[X0N];split
   .rfl
   rw[X9N h k,h];rfl
theorem Xbt {d c v n:Int} {t:Tm} {bs:List Int} {o:Nat} {x:Sta×(Nat->Nat)}:(X1P vars hv kO d c v n t bs o x).1.vals.length=x.1.vals.length:=by
 unfold X1P;split
 .rfl
 exact(X1h vars hv d v n t bs (tick x.1 c)).1
theorem X4h:∀l:List St,∀(o:Nat) (x:Sta×(Nat->Nat)),(stD vars hv kO l o x).1.vals.length=x.1.vals.length:=by
 apply St.lind
 .intro o x;simp only[stD]
 intro d c v n t a b bs l ia ib il o x;simp only[stD];rw[il];split
 .exact X9N (ia _) _ _
 split
 .split
  .exact ib _ _
  exact ia _ _
 exact Xbt
end
def rdB (x:Nd):Bool:=decide (0<=x.a)&&decide (x.k≠4)
def Wg (l:List St) (k after:Nat):Nat:=if l=[] then after else k
structure Gd (N:List Nd) (steps:List St) (nv k:Nat) (D:Nat->Nat):Prop where
 all:∀v,v<nv->Rc N steps nv k (D v)/\Qk steps (D v)=(v:Int)
section
variable {N:List Nd} {steps:List St} {nv:Nat} {vars:List Vr} {hv:List Int} {kO:Nat->Bool}
theorem Gd.pass {k tq:Nat} {D:Nat->Nat} {x:Nd} (h:Gd N steps nv k D) (hx:N[k]? =some x) (h0:x.k≠0) (hs:WJ x tq) (ha:QK steps x=false):Gd N steps nv tq D:=
 ⟨fun v hv=>⟨.pass hx h0 hs (h.all v hv).1 (by rw[ha];rfl),(h.all v hv).2⟩⟩
theorem Gd.asg {k tq:Nat} {D:Nat->Nat} {x:Nd} {v:Int} (h:Gd N steps nv k D) (hx:N[k]? =some x) (h0:x.k≠0) (hs:WJ x tq) (ha:QK steps x=true) (hv0:0<=v) (hva:Zv steps x=v) (hvo:Qk steps x.a.toNat=v):Gd N steps nv tq (updD D v.toNat x.a.toNat):=by
 refine⟨fun y hy=>?_⟩;unfold updD;by_cases e:y=v.toNat
 .rw[N8 e];exact⟨.gen hx h0 hs ha,by rw[hvo,e];omega⟩
 rw[N7 e];obtain⟨h1,h2⟩:=h.all y hy;refine⟨.pass hx h0 hs h1 ?_,h2⟩;rw[h2,hva];have:(y:Int)≠v:=by omega
 simp[this]
theorem gd_rnd {c:Int} {t:Tm} {k:Nat} {body:Sta×(Nat->Nat)->Sta×(Nat->Nat)} (h:∀x,Gd N steps nv k x.2->Gd N steps nv k (body x).2):∀(m:Nat) (x:Sta×(Nat->Nat)),Gd N steps nv k x.2->Gd N steps nv k (X0N c t body m x).2
 |0,x,hx=>hx
 | m+1,x,hx=>by
   simp only[X0N];split
   .exact hx
   exact gd_rnd h m _ (h _ hx)
structure Lies (N:List Nd) (steps:List St) (vars:List Vr) (nh:Nat) (l:List St) (o k after:Nat):Prop where
 g:gL l=true
 wf:wfL vars nh l=true
 nd:Sub N k (X0o l o k after)
 st:Sub steps o (flL l)
structure Lie1 (N:List Nd) (steps:List St) (vars:List Vr) (nh:Nat) (d c v n:Int) (t:Tm) (a b:List St) (bs:List Int) (o k mid:Nat):Prop where
 g:gS (.mk d c v n t a b bs)=true
 wf:wfS vars nh (.mk d c v n t a b bs)=true
 nd:Sub N k (X1o (.mk d c v n t a b bs) o k mid)
 st:steps[o]? =some (.mk d c v n t a b bs)
 sa:Sub steps (o+1) (flL a)
 sb:Sub steps (o+1+szL a) (flL b)
variable {nh:Nat}
theorem Lies.cons {d c v n:Int} {t:Tm} {a b:List St} {bs:List Int} {l:List St} {o k after:Nat} (h:Lies N steps vars nh (.mk d c v n t a b bs::l) o k after):
  Lie1 N steps vars nh d c v n t a b bs o k (Wg l (k+wdS (.mk d c v n t a b bs)) after)/\Lies N steps vars nh l (o+(1+szL a+szL b)) (k+wdS (.mk d c v n t a b bs)) after:=by
 obtain⟨hg,hw,hn,hs⟩:=h;simp only[gL,N3]at hg;simp only[wfL,N3]at hw;simp only[X0o]at hn;simp only[flL]at hs;obtain⟨n1,n2⟩:=hn.app;obtain⟨s1,s2⟩:=hs.app;rw[X6u _ _ _ _ hg.1]at n2;rw[Xcf]at s2;rw[XbV]at s1;simp only[szS,St.then_,St.else_]at s1 s2 n2;obtain⟨s3,s4⟩:=s1.cons;obtain⟨s5,s6⟩:=s4.app;rw[Q2]at s6;refine⟨⟨hg.1,hw.1,n1,s3,s5,s6⟩,hg.2,hw.2,?_,s2⟩;have:((o:Int)+((1+szL a+szL b:Nat):Int))=((o+(1+szL a+szL b):Nat):Int):=by omega
 rw[<-this];exact n2
theorem Lie1.if_ {d c v n:Int} {t:Tm} {a b:List St} {bs:List Int} {o k mid:Nat} (h:Lie1 N steps vars nh d c v n t a b bs o k mid) (hd:d=3):
  (∃x,N[k]? =some x/\x.k=3/\x.a=o/\WJ x (Wg a (k+1) mid)/\WJ x (Wg b (k+1+wdL a) mid))/\Lies N steps vars nh a (o+1) (k+1) mid/\Lies N steps vars nh b (o+1+szL a) (k+1+wdL a) mid:=by
 obtain⟨hg,hw,hn,_,hsa,hsb⟩:=h;simp only[gS,N3]at hg;simp only[wfS,N3]at hw;unfold X1o at hn;rw[N8 hd]at hn;obtain⟨h1,h2⟩:=hn.cons;obtain⟨h3,h4⟩:=h2.app;rw[Wb _ _ _ _ hg.2.1]at h4;refine⟨⟨_,h1,rfl,rfl,?_,?_⟩,⟨hg.2.1,hw.2.2.2.2.2.1,h3,hsa⟩,⟨hg.2.2,hw.2.2.2.2.2.2,?_,hsb⟩⟩
 .by_cases e:a=[]<;>simp[WJ,Wg,e]
 .by_cases e:b=[]<;>simp[WJ,Wg,e]
 have:((o:Int)+1+(szL a:Int))=((o+1+szL a:Nat):Int):=by omega
 rw[<-this];exact h4
theorem Lie1.loop {d c v n:Int} {t:Tm} {a b:List St} {bs:List Int} {o k mid:Nat} (h:Lie1 N steps vars nh d c v n t a b bs o k mid) (hd:d=4):
  (∃x,N[k]? =some x/\x.k=4/\WJ x (k+1))/\(∃x,N[k+1]? =some x/\x.k=5/\x.a=o/\WJ x (Wg a (k+2) (k+1))/\WJ x mid)/\Lies N steps vars nh a (o+1) (k+2) (k+1)/\b=[]:=by
 obtain⟨hg,hw,hn,_,hsa,hsb⟩:=h;simp only[gS,N3,Nf,N5,De]at hg;simp only[wfS,N3]at hw;unfold X1o at hn;rw[N7 (by omega),N8 hd]at hn;obtain⟨h1,h2⟩:=hn.cons;obtain⟨h3,h4⟩:=h2.cons;refine⟨⟨_,h1,rfl,?_⟩,⟨_,h3,rfl,rfl,?_,?_⟩,⟨hg.2.1,hw.2.2.2.2.2.1,h4,hsa⟩,?_⟩
 .simp[WJ]
 .by_cases e:a=[]<;>simp[WJ,Wg,e]
 .simp[WJ]
 rcases hg.1 with(h|h)|h
 .omega
 .exact h.2
 exact h.2
theorem Lie1.leaf {d c v n:Int} {t:Tm} {a b:List St} {bs:List Int} {o k mid:Nat} (h:Lie1 N steps vars nh d c v n t a b bs o k mid) (h3:d≠3) (h4:d≠4):∃x,N[k]? =some x/\x.k=2/\x.a=o/\WJ x mid:=by
 have hn:=h.nd;unfold X1o at hn;rw[N7 h3,N7 h4]at hn;exact⟨_,hn.cons.1,rfl,rfl,by simp[WJ]⟩
theorem Lie1.var {d c v n:Int} {t:Tm} {a b:List St} {bs:List Int} {o k mid:Nat} (h:Lie1 N steps vars nh d c v n t a b bs o k mid) (hd:d=0\/d=5):0<=v/\v.toNat<vars.length:=by
 have hw:=h.wf;simp only[wfS,N3,Nf,N5]at hw;have hl:=hw.2.1.resolve_left fun h=>by omega
 obtain⟨h0,w,hw2⟩:=X2H hl;exact⟨h0,(N6.1 hw2).1⟩
theorem W2 {x:Nd} (h:x.k≠2):QK steps x=false:=by simp[QK,h]
def st1 (vars:List Vr) (hv:List Int) (kO:Nat->Bool) (d c v n:Int) (t:Tm) (a b:List St) (bs:List Int) (o:Nat) (x:Sta×(Nat->Nat)):Sta×(Nat->Nat):=
 if d=4 then X0N c t (stD vars hv kO a (o+1)) n.toNat x
 else if d=3 then(if vT x.1.vals t=0 then stD vars hv kO b (o+1+szL a) (tick x.1 c,x.2)else stD vars hv kO a (o+1) (tick x.1 c,x.2))
 else X1P vars hv kO d c v n t bs o x
theorem X1a {d c v n:Int} {t:Tm} {a b:List St} {bs:List Int} {l:List St} {o:Nat} {x:Sta×(Nat->Nat)}:stD vars hv kO (.mk d c v n t a b bs::l) o x=stD vars hv kO l (o+(1+szL a+szL b)) (st1 vars hv kO d c v n t a b bs o x):=by
 simp only[stD,st1]
theorem X0J {o:Nat} {x:Sta×(Nat->Nat)}:stD vars hv kO [] o x=x:=by simp only[stD]
def GdL (N:List Nd) (steps:List St) (nv:Nat) (vars:List Vr) (nh:Nat) (hv:List Int) (kO:Nat->Bool) (l:List St):Prop:=
 ∀(o k after:Nat),Lies N steps vars nh l o k after->∀x,Gd N steps nv (Wg l k after) x.2->Gd N steps nv after (stD vars hv kO l o x).2
theorem X4i {d c v n:Int} {t:Tm} {a b:List St} {bs:List Int} {o k mid:Nat} (h:Lie1 N steps vars nh d c v n t a b bs o k mid) (ia:GdL N steps nv vars nh hv kO a) (ib:GdL N steps nv vars nh hv kO b) {x:Sta×(Nat->Nat)} (hx:Gd N steps nv k x.2):Gd N steps nv mid (st1 vars hv kO d c v n t a b bs o x).2:=by
 unfold st1;by_cases h4:d=4
 .rw[N8 h4];obtain⟨⟨y,y1,y2,y3⟩,⟨z,z1,z2,_,z3,z4⟩,hla,_⟩:=h.loop h4;have hx1:=hx.pass y1 (by omega) y3 (W2 (by omega));exact(gd_rnd (fun w hw=>ia _ _ _ hla w (hw.pass z1 (by omega) z3 (W2 (by omega)))) n.toNat x hx1).pass z1 (by omega) z4 (W2 (by omega))
 rw[N7 h4];by_cases h3:d=3
 .rw[N8 h3];obtain⟨⟨y,y1,y2,_,y3,y4⟩,hla,hlb⟩:=h.if_ h3;split
  .exact ib _ _ _ hlb _ (hx.pass y1 (by omega) y4 (W2 (by omega)))
  exact ia _ _ _ hla _ (hx.pass y1 (by omega) y3 (W2 (by omega)))
 rw[N7 h3];obtain⟨y,y1,y2,y3,y4⟩:=h.leaf h3 h4;have hs:=h.st;have e1:steps[y.a.toNat]? =some (.mk d c v n t a b bs):=by rw[y3,Int.toNat_natCast,hs]
 unfold X1P;split
 .rename_i h1;refine hx.pass y1 (by omega) y4 ?_;unfold QK;rw[e1];simp only[St.do_];have a1:¬d=0:=by omega
  have a2:¬d=5:=by omega
  simp[a1,a2]
 simp only;by_cases hd:d=0\/d=5
 .rw[N8 hd]
  have:=hx.asg (v:=v) y1 (by omega) y4 (by
   unfold QK;rw[e1]
   rcases hd with h|h<;>simp[St.do_,y2,h]) (h.var hd).1 (by unfold Zv;rw[e1];rfl) (by unfold Qk;rw[e1];rfl)
  rwa [y3,Int.toNat_natCast]at this
 rw[N7 hd];refine hx.pass y1 (by omega) y4 ?_;unfold QK;rw[e1];simp only[St.do_];have a1:¬d=0:=fun h=>hd (.inl h);have a2:¬d=5:=fun h=>hd (.inr h);simp[a1,a2]
theorem X03:∀l:List St,GdL N steps nv vars nh hv kO l:=by
 apply St.lind
 .intro o k after _ x hx;rw[X0J];exact hx
 intro d c v n t a b bs l ia ib il o k after hL x hx;obtain⟨h1,h2⟩:=hL.cons;rw[X1a];exact il _ _ _ h2 _ (X4i h1 ia ib hx)
end
theorem lay_nums:∀l:List St,gL l=true->∀(p k after:Nat),(((X0o l p k after).filter rdB).map (·.a)).Pairwise (· < ·)/\∀z∈((X0o l p k after).filter rdB).map (·.a),(p:Int)<=z/\z<p+szL l:=by
 apply St.lind
 .intro _ p k after;simp[X0o]
 intro d c v n t a b bs l ia ib il hg p k after;simp only[gL,gS,N3]at hg;obtain⟨⟨hs,ga,gb⟩,gl⟩:=hg;have e1:((p:Int)+1)=((p+1:Nat):Int):=by omega
 have e2:(((p+1:Nat):Int)+(szL a:Int))=((p+1+szL a:Nat):Int):=by omega
 have e3:((p:Int)+(szS (.mk d c v n t a b bs):Int))=((p+(1+szL a+szL b):Nat):Int):=by simp only[szS];omega
 have hst:∀after,(((X1o (.mk d c v n t a b bs) p k after).filter rdB).map (·.a)).Pairwise (· < ·)/\∀z∈((X1o (.mk d c v n t a b bs) p k after).filter rdB).map (·.a),(p:Int)<=z/\z<p+(1+szL a+szL b:Nat):=by
  intro after;unfold X1o;rw[e1,e2];split
  .obtain⟨a1,a2⟩:=ia ga (p+1) (k+1) after;obtain⟨b1,b2⟩:=ib gb (p+1+szL a) (k+1+wdL a) after;have hr:rdB ⟨3,p,if a=[] then after else k+1,if b=[] then after else k+1+wdL a⟩=true:=by simp[rdB]
   rw[DF hr];simp only[Da,Nk,DA];refine⟨NS.2 ⟨fun z hz=>?_,List.pairwise_append.2 ⟨a1,b1,fun x hx y hy=>?_⟩⟩,fun z hz=>?_⟩
   .rcases Ni.1 hz with h|h
    .have:=a2 z h;omega
    have:=b2 z h;omega
   .have:=a2 x hx;have:=b2 y hy;omega
   rcases Ng.1 hz with rfl|hz
   .omega
   rcases Ni.1 hz with h|h
   .have:=a2 z h;omega
   have:=b2 z h;omega
  split
  .obtain⟨a1,a2⟩:=ia ga (p+1) (k+2) (k+1);have hr:¬rdB ⟨4,p,(k:Int)+1,-1⟩=true:=by simp[rdB]
   have hr2:rdB ⟨5,p,if a=[] then(k:Int)+1 else(k:Int)+2,after⟩=true:=by simp[rdB]
   rw[DE hr,DF hr2];simp only[Nk];refine⟨NS.2 ⟨fun z hz=>?_,a1⟩,fun z hz=>?_⟩
   .have:=a2 z hz;omega
   rcases Ng.1 hz with rfl|hz
   .omega
   have:=a2 z hz;omega
  have hr:rdB ⟨2,p,after,-1⟩=true:=by simp[rdB]
  rw[DF hr];simp only[List.filter_nil,Nk,Nr];refine⟨List.pairwise_singleton ..,fun z hz=>?_⟩;rw[Nl.1 hz];omega
 obtain⟨s1,s2⟩:=hst (if l=[] then after else k+wdS (.mk d c v n t a b bs));obtain⟨l1,l2⟩:=il gl (p+(1+szL a+szL b)) (k+wdS (.mk d c v n t a b bs)) after;simp only[X0o];rw[e3];simp only[Da,DA,szL,szS];refine⟨List.pairwise_append.2 ⟨s1,l1,fun x hx y hy=>?_⟩,fun z hz=>?_⟩
 .have:=s2 x hx;have:=l2 y hy;omega
 rcases Ni.1 hz with h|h
 .have:=s2 z h;omega
 have:=l2 z h;omega
theorem grN_nums {l:List St} (hg:gL l=true):(((grN l).filter rdB).map (·.a)).Pairwise (· < ·):=by
 unfold grN;have h0:∀x:Int,¬rdB ⟨0,-1,x,-1⟩=true:=fun x=>by simp[rdB]
 have h1:¬rdB ⟨1,-1,-1,-1⟩=true:=by simp[rdB]
 rw[DE (h0 _),Da,DE h1,List.filter_nil,Dq];exact(lay_nums l hg 0 1 (1+wdL l)).1
mutual
def arS:St->Int->Nat->List Int
 | .mk _ _ _ _ _ a b _,outer,at_=>outer::(arL a at_ (at_+1)++arL b at_ (at_+1+szL a))
def arL:List St->Int->Nat->List Int
 |[],_,_=>[]
 |s::l,outer,at_=>arS s outer at_++arL l outer (at_+szS s)
end
theorem XbB (s:St) (o:Int) (p:Nat):arS s o p=o::(arL s.then_ p (p+1)++arL s.else_ p (p+1+szL s.then_)):=by cases s;rfl
mutual
theorem X5M:∀(s:St) (o:Int) (p:Nat),(arS s o p).length=szS s
 | .mk _ _ _ _ _ a b _,o,p=>by simp only[arS,szS,List.length_cons,Na,X0F a,X0F b];omega
theorem X0F:∀(l:List St) (o:Int) (p:Nat),(arL l o p).length=szL l
 |[],_,_=>rfl
 |s::l,o,p=>by simp only[arL,szL,Na,X5M s,X0F l]
end
@[simp] theorem encIs_app (a b:List Int):X9 (a++b)=X9 a++X9 b:=by simp[X9]
mutual
theorem X6E {vs ws:List Int}:∀t:Tm,(∀v∈tmV t,vs[v.toNat]? =ws[v.toNat]?)->vT vs t=vT ws t
 | .mk o n ks,h=>by
   simp only[tmV,Ni]at h;simp only[vT];rw[X7H ks fun v hv=>h v (.inr hv)];unfold valN;by_cases h24:o=24
   .have:=h n (.inl (by rw[N8 h24];simp));subst h24;simp only[this]
   simp only[N7 h24]
theorem X7H {vs ws:List Int}:∀l:List Tm,(∀v∈X1S l,vs[v.toNat]? =ws[v.toNat]?)->vTs vs l=vTs ws l
 |[],_=>by simp[vTs]
 | t::l,h=>by
   simp only[X1S,Ni]at h;simp only[vTs];rw[X6E t fun v hv=>h v (.inl hv),X7H l fun v hv=>h v (.inr hv)]
end
mutual
theorem X8O {vars:List Vr} {inp:Bool}:∀t:Tm,Qu vars inp t=true->∀v∈tmV t,0<=v/\v.toNat<vars.length
 | .mk o n ks,h,v,hv=>by
   simp only[Qu,N3]at h;simp only[tmV,Ni]at hv;rcases hv with hv|hv
   .split at hv
    .rename_i h24;rw[Nl.1 hv];have h1:=h.1;unfold Q3 at h1;rw[N7 (by omega),N8 h24]at h1;simp only[N3]at h1;have h2:=h1.2;unfold X0a at h2;simp only[N3,N5]at h2;refine⟨h2.1,?_⟩;cases hw:vars[n.toNat]? with
     |none=>rw[hw]at h2;exact absurd h2.2 (by simp)
     |some w=>exact(N6.1 hw).1
    cases hv
   exact X9i ks h.2 v hv
theorem X9i {vars:List Vr} {inp:Bool}:∀l:List Tm,WD vars inp l=true->∀v∈X1S l,0<=v/\v.toNat<vars.length
 |[],_,v,hv=>by simp[X1S]at hv
 | t::l,h,v,hv=>by
   simp only[WD,N3]at h;simp only[X1S,Ni]at hv;rcases hv with hv|hv
   .exact X8O t h.1 v hv
   exact X9i l h.2 v hv
end
section
variable {N:List Nd} {steps:List St} {vars:List Vr} {nh:Nat} {hv:List Int} {K:Nat->Bool} {ar:List Int} {kO:Nat->Bool}
def upK (ar:List Int) (K:Nat->Bool):Prop:=∀(j:Nat) a,ar[j]? =some a->0<=a->K j=true->K a.toNat=true
theorem X8W (h:upK ar K):∀l:List St,∀(p par:Nat),Sub ar p (arL l par p)->K par=false->∀j,p<=j->j<p+szL l->K j=false:=by
 apply St.lind
 .intro p par _ _ j h1 h2;simp only[szL]at h2;omega
 intro d c v n t a b bs l ia ib il p par hs hp j h1 h2;simp only[arL]at hs;obtain⟨s1,s2⟩:=hs.app;rw[X5M]at s2;rw[XbB]at s1;simp only[szS,St.then_,St.else_]at s1 s2;obtain⟨s3,s4⟩:=s1.cons;obtain⟨s5,s6⟩:=s4.app;rw[X0F]at s6
 have hk:K p=false:=by
  cases hk:K p with
  |false=>rfl
  |true=>exact absurd (h p _ s3 (by omega) hk) (by rw[Int.toNat_natCast,hp];simp)
 simp only[szL,szS]at h2;by_cases e:j=p
 .rw[e];exact hk
 by_cases e1:j<p+1+szL a
 .exact ia (p+1) p s5 hk j (by omega) e1
 by_cases e2:j<p+1+szL a+szL b
 .exact ib (p+1+szL a) p s6 hk j (by omega) e2
 exact il (p+(1+szL a+szL b)) par s2 hp j (by omega) (by omega)
structure Slc (N:List Nd) (steps:List St) (nv:Nat) (ar:List Int) (K:Nat->Bool):Prop where
 src:∀(o:Nat) q,K o=true->steps[o]? =some q->∀(k:Nat) (x:Nd),N[k]? =some x->x.k≠4->x.a=(o:Int)->∀d,Rc N steps nv k d->Qk steps d∈tmV q.term->d<steps.length->K d=true
 up:upK ar K
theorem X8t {d c v n:Int} {t:Tm} {a b:List St} {bs:List Int} {o:Nat} {x:Sta×(Nat->Nat)}:stD vars hv kO [.mk d c v n t a b bs] o x=st1 vars hv kO d c v n t a b bs o x:=by
 rw[X1a,X0J]
theorem Lie1.in_ {d c v n:Int} {t:Tm} {a b:List St} {bs:List Int} {o k mid:Nat} (h:Lie1 N steps vars nh d c v n t a b bs o k mid) {j:Nat} (h1:o<=j) (h2:j<o+(1+szL a+szL b)):j<steps.length:=by
 have key:∀(l:List St) (p:Nat),Sub steps p (flL l)->p<=j->j<p+szL l->j<steps.length:=fun l p hs h1 h2=>by
  have hl:j - p<(flL l).length:=by rw[Q2];omega
  have:=hs (j - p) (flL l)[j - p] (by simp[hl]);have:=(N6.1 this).1;omega
 by_cases e:j=o
 .rw[e];exact(N6.1 h.st).1
 by_cases e1:j<o+1+szL a
 .exact key a (o+1) h.sa (by omega) e1
 exact key b (o+1+szL a) h.sb (by omega) (by omega)
theorem X7q {xs ys:List Int} {v z:Int} (hv0:v.toNat<vars.length) (h1:xs.length=vars.length) (h2:ys.length=vars.length):(X4t vars xs v z)[v.toNat]? =(X4t vars ys v z)[v.toNat]? :=by
 unfold X4t;have:vars[v.toNat]? =some vars[v.toNat]:=by simp[hv0]
 rw[this];simp only;rw[NV (by omega),NV (by omega)]
theorem X7J {hw:List Int} {d v n:Int} {t:Tm} {bs:List Int} {s s':Sta} (ho:s.outs=s'.outs) (h1:s.vals.length=vars.length) (h2:s'.vals.length=vars.length) (hvl:d=0\/d=5->v.toNat<vars.length) (ht:d=0\/d=1->vT s.vals t=vT s'.vals t) (hh:d=5->(hv[n.toNat]?).getD 0=(hw[n.toNat]?).getD 0):
  (QV vars hv d v n t bs s).outs=(QV vars hw d v n t bs s').outs/\((d=0\/d=5)->(QV vars hv d v n t bs s).vals[v.toNat]? =(QV vars hw d v n t bs s').vals[v.toNat]?):=by
 unfold QV;by_cases d0:d=0
 .subst d0;rw[N8 rfl,N8 rfl];exact⟨ho,fun _=>by rw[ht (.inl rfl)];exact X7q (hvl (.inl rfl)) h1 h2⟩
 rw[N7 d0,N7 d0];by_cases d1:d=1
 .subst d1;rw[N8 rfl,N8 rfl];exact⟨by simp only;rw[ho,ht (.inr rfl)],fun h=>by omega⟩
 rw[N7 d1,N7 d1];by_cases d5:d=5
 .subst d5;rw[N8 rfl,N8 rfl];exact⟨ho,fun _=>by rw[hh rfl];exact X7q (hvl (.inr rfl)) h1 h2⟩
 rw[N7 d5,N7 d5];refine⟨?_,fun h=>by omega⟩;split<;>exact ho
end
end Go.Proofs.YtdajceakaakdoaaGreat
namespace Go.Proofs.YtdajceakaakdoaaGreat
open Go Go.Hl
open Tryz(prog)
theorem X0g {f:Fl} (h:Sm f) (h0:XR f=0):Lies (grN f.body) (flL f.body) f.vars f.hats.length f.body 0 1 (1+wdL f.body) where
 g:=X9g f.body true (Q6 h0).2.2.2.1
 wf:=(X3z h.bnd h0).1
 nd:=by
  have:Sub (grN f.body) 0 (grN f.body):=Sub.of_self _;exact(Sub.cons this).2.app.1
 st:=Sub.of_self _
theorem X3O (f:Fl):Gd (grN f.body) (flL f.body) f.vars.length (Wg f.body 1 (1+wdL f.body)) (fun v=>(flL f.body).length+v):=by
 refine⟨fun v hv=>⟨?_,?_⟩⟩
 .refine .entry (i:=0) (x:=⟨0,-1,if f.body=[] then 1+wdL f.body else 1,-1⟩) rfl rfl ?_ hv;by_cases e:f.body=[]<;>simp[WJ,Wg,e]
 unfold Qk;rw[Ny (by omega)];simp only;omega
structure Gw (N:List Nd) (steps:List St):Prop where
 ent:∃x,N[0]? =some x/\x.k=0
 k0:∀(i:Nat) x,N[i]? =some x->x.k=0->i=0
 n0:∀x∈N,x.n≠0/\x.o≠0
 inj:∀(i j:Nat) x y,N[i]? =some x->N[j]? =some y->QK steps x=true->QK steps y=true->x.a=y.a->i=j
 asg:∀x∈N,QK steps x=true->(∃a:Nat,x.a=a/\a<steps.length)/\0<=Zv steps x
theorem varOf_at {steps:List St} {x:Nd} {a:Nat} (hx:x.a=a) (ha:a<steps.length):Qk steps a=Zv steps x:=by
 unfold Qk Zv;rw[hx,Int.toNat_natCast,Nz ha]
theorem Xeb (steps:List St) (v:Nat):Qk steps (steps.length+v)=v:=by
 unfold Qk;rw[Ny (by omega)];simp only[Int.natCast_add];omega
section
variable {N:List Nd} {df:Nd->Int} {v:Int} {i0:Nat}
end
mutual
theorem layS_n0:∀(s:St) (p:Int) (k after:Nat),1<=after->∀x∈X1o s p k after,x.k≠0/\x.n≠0/\x.o≠0
 | .mk o c v q t a b bs,p,k,after,haf,x,hx=>by
   unfold X1o at hx;split at hx
   .rcases Ng.1 hx with rfl|hx
    .refine⟨by simp,?_,?_⟩<;>(simp only;split<;>omega)
    rcases Ni.1 hx with hx|hx
    .exact X2J a _ _ _ haf x hx
    exact X2J b _ _ _ haf x hx
   split at hx
   .rcases Ng.1 hx with rfl|hx
    .refine⟨by simp,?_,by simp⟩;simp only;omega
    rcases Ng.1 hx with rfl|hx
    .refine⟨by simp,?_,?_⟩
     .simp only;split<;>omega
     simp only;omega
    exact X2J a _ _ _ (by omega) x hx
   rw[Nl.1 hx];refine⟨by simp,?_,by simp⟩;simp only;omega
theorem X2J:∀(l:List St) (p:Int) (k after:Nat),1<=after->∀x∈X0o l p k after,x.k≠0/\x.n≠0/\x.o≠0
 |[],_,_,_,_,x,hx=>by simp[X0o]at hx
 | s ::l,p,k,after,haf,x,hx=>by
   unfold X0o at hx;rcases Ni.1 hx with hx|hx
   .refine layS_n0 s p k _ ?_ x hx;split
    .exact haf
    have:=X8m s;omega
   exact X2J l _ _ _ haf x hx
end
theorem pw_at {T:Type} {r:T->T->Prop} {l:List T} (h:l.Pairwise r) {i j:Nat} {x y:T} (hi:l[i]? =some x) (hj:l[j]? =some y) (hij:i<j):r x y:=by
 obtain⟨h1,e1⟩:=N6.1 hi;obtain⟨h2,e2⟩:=N6.1 hj;rw[<-e1,<-e2];exact List.pairwise_iff_getElem.1 h i j h1 h2 hij
theorem nums_at {N:List Nd} (h:((N.filter rdB).map (·.a)).Pairwise (· < ·)):∀(i j:Nat) (x y:Nd),N[i]? =some x->N[j]? =some y->rdB x=true->rdB y=true->i<j->x.a<y.a:=by
 have h2:N.Pairwise fun x y=>rdB x=true->rdB y=true->x.a<y.a:=by
  rw[List.pairwise_map,List.pairwise_filter]at h;exact h.imp fun h a b=>h a b
 intro i j x y hi hj hx hy hij;exact pw_at h2 hi hj hij hx hy
theorem asg_rd {steps:List St} {x:Nd} (h:QK steps x=true) (ha:0<=x.a):rdB x=true:=by
 unfold QK at h;simp only[N3,N5]at h;simp[rdB,ha,h.1]
theorem grN_w {f:Fl} (hg:gL f.body=true) (hs:∀q∈flL f.body,q.do_=0\/q.do_=5->0<=q.var):Gw (grN f.body) (flL f.body):=by
 have hok:=X6L hg;have hnum:=nums_at (grN_nums hg);rw[<-Q2]at hok
 have hasg:∀x∈grN f.body,QK (flL f.body) x=true->(∃a:Nat,x.a=a/\a<(flL f.body).length)/\0<=Zv (flL f.body) x:=by
  intro x hx ha
  have hk:x.k=2:=by
   unfold QK at ha;simp only[N3,N5]at ha;exact ha.1
  obtain⟨a,h1,h2⟩:=(hok x hx).ha.resolve_left fun h=>h.1 hk;refine⟨⟨a,h1,h2⟩,?_⟩;unfold QK at ha;unfold Zv;rw[h1,Int.toNat_natCast,Nz h2]at ha⊢;simp only[N3,Nf,N5]at ha;exact hs _ (DC h2) (by simpa using ha.2)
 refine⟨⟨_,rfl,rfl⟩,?_,?_,?_,hasg⟩
 .intro i x hi h0;cases i with
  |zero=>rfl
  | succ i=>
    have hm:x∈X0o f.body 0 1 (1+wdL f.body)++[⟨1,-1,-1,-1⟩]:=N4 (by simpa[grN]using hi);rcases Ni.1 hm with h|h
    .exact absurd h0 (X2J _ _ _ _ (by omega) x h).1
    rw[Nl.1 h]at h0;simp at h0
 .intro x hx;unfold grN at hx;rcases Ng.1 hx with rfl|hx
  .refine⟨?_,by simp⟩;simp only;split<;>omega
  rcases Ni.1 hx with h|h
  .exact(X2J _ _ _ _ (by omega) x h).2
  rw[Nl.1 h];simp
 intro i j x y hi hj hx hy he;have rx:=asg_rd hx (by obtain⟨⟨a,h,_⟩,_⟩:=hasg x (N4 hi) hx;omega);have ry:=asg_rd hy (by obtain⟨⟨a,h,_⟩,_⟩:=hasg y (N4 hj) hy;omega);rcases Nat.lt_trichotomy i j with h|h|h
 .have:=hnum i j x y hi hj rx ry h;omega
 .exact h
 have:=hnum j i y x hj hi ry rx h;omega
section
variable {N:List Nd} {steps:List St} {n m:Nat} {S:List (List Nat)}
end
end Go.Proofs.YtdajceakaakdoaaGreat
namespace Go.Proofs.YtdajceakaakdoaaGreat
open Go Go.Hl
open Tryz(prog)
abbrev Ds:=Nat->Nat->Prop
def paL (v:Nat):List St->Bool
 |[]=>true
 | .mk o _ w _ _ a b _::l=>(if o=3 then paL v a||paL v b else if o=4 then true else !(decide (o=0\/o=5)&&decide (w.toNat=v)))&&paL v l
def geL (v:Nat):List St->Nat->Nat->Prop
 |[],_,_=>False
 | .mk o _ w _ _ a b _::l,p,d=>(paL v l=true/\(if o=3 then geL v a (p+1) d\/geL v b (p+1+szL a) d else if o=4 then geL v a (p+1) d else(o=0\/o=5)/\w.toNat=v/\d=p))\/geL v l (p+(1+szL a+szL b)) d
def trL (l:List St) (p:Nat) (D:Ds):Ds:=fun v d=>(paL v l=true/\D v d)\/geL v l p d
def tr1 (o w:Int) (a b:List St) (p:Nat) (D:Ds):Ds:=fun v d=>
 ((if o=3 then paL v a||paL v b else if o=4 then true else !(decide (o=0\/o=5)&&decide (w.toNat=v)))=true/\D v d)\/
   (if o=3 then geL v a (p+1) d\/geL v b (p+1+szL a) d else if o=4 then geL v a (p+1) d else(o=0\/o=5)/\w.toNat=v/\d=p)
def lpD (a:List St) (p:Nat) (D:Ds):Ds:=fun v d=>D v d\/geL v a (p+1) d
theorem X2N {p:Nat} {D:Ds} {v d:Nat}:trL [] p D v d↔D v d:=by simp[trL,paL,geL]
theorem X1W {o c w n:Int} {t:Tm} {a b:List St} {bs:List Int} {l:List St} {p:Nat} {D:Ds} {v d:Nat}:trL (.mk o c w n t a b bs::l) p D v d↔trL l (p+(1+szL a+szL b)) (tr1 o w a b p D) v d:=by
 simp only[trL,tr1,paL,geL,N3];constructor
 .rintro(⟨⟨h1,h2⟩,h3⟩|⟨h1,h2⟩|h)
  .exact .inl ⟨h2,.inl ⟨h1,h3⟩⟩
  .exact .inl ⟨h1,.inr h2⟩
  exact .inr h
 rintro(⟨h1,⟨h2,h3⟩|h2⟩|h)
 .exact .inl ⟨⟨h2,h1⟩,h3⟩
 .exact .inr (.inl ⟨h1,h2⟩)
 exact .inr (.inr h)
theorem X4E {w:Int} {a b:List St} {p:Nat} {D:Ds} {v d:Nat}:tr1 3 w a b p D v d↔trL a (p+1) D v d\/trL b (p+1+szL a) D v d:=by
 simp only[tr1,trL,Nj,Nf];constructor
 .rintro(⟨h1|h1,h2⟩|h1|h1)
  .exact .inl (.inl ⟨h1,h2⟩)
  .exact .inr (.inl ⟨h1,h2⟩)
  .exact .inl (.inr h1)
  exact .inr (.inr h1)
 rintro((⟨h1,h2⟩|h1)|⟨h1,h2⟩|h1)
 .exact .inl ⟨.inl h1,h2⟩
 .exact .inr (.inl h1)
 .exact .inl ⟨.inr h1,h2⟩
 exact .inr (.inr h1)
theorem X6w {w:Int} {a b:List St} {p:Nat} {D:Ds} {v d:Nat}:tr1 4 w a b p D v d↔lpD a p D v d:=by
 simp[tr1,lpD]
theorem X6H {o w:Int} {a b:List St} {p:Nat} {D:Ds} {v d:Nat} (h3:o≠3) (h4:o≠4):tr1 o w a b p D v d↔(¬((o=0\/o=5)/\w.toNat=v)/\D v d)\/((o=0\/o=5)/\w.toNat=v/\d=p):=by
 simp only[tr1,N7 h3,N7 h4,Nu,NA,Nh];refine or_congr (and_congr ?_ Iff.rfl) Iff.rfl;rw[Decidable.not_and_iff_or_not]
theorem trL_lp {a:List St} {p:Nat} {D:Ds} {v d:Nat} (h:trL a (p+1) (lpD a p D) v d):lpD a p D v d:=by
 rcases h with⟨_,h⟩|h
 .exact h
 exact .inr h
def lcL:List St->Nat->Nat->Ds->Nat->Ds->Prop
 |[],_,_,_,_,_=>False
 | .mk o c w q t a b bs::l,p,k,D,n,Dn=>
   (if o=3 then(n=k/\Dn=D)\/lcL a (p+1) (k+1) D n Dn\/lcL b (p+1+szL a) (k+1+wdL a) D n Dn
    else if o=4 then(n=k/\Dn=D)\/(n=k+1/\Dn=lpD a p D)\/lcL a (p+1) (k+2) (lpD a p D) n Dn
    else n=k/\Dn=D)\/lcL l (p+(1+szL a+szL b)) (k+wdS (.mk o c w q t a b bs)) (tr1 o w a b p D) n Dn
theorem X63 {l:List St} (h:l≠[]) (p k:Nat) (D:Ds):lcL l p k D k D:=by
 cases l with
 |nil=>exact absurd rfl h
 | cons s l=>
   obtain⟨o,c,w,q,t,a,b,bs⟩:=s;unfold lcL;refine .inl ?_;split
   .exact .inl ⟨rfl,rfl⟩
   split
   .exact .inl ⟨rfl,rfl⟩
   exact⟨rfl,rfl⟩
theorem X92:∀l:List St,∀(p k:Nat) (D:Ds) (n:Nat) (Dn:Ds),gL l=true->lcL l p k D n Dn->k<=n/\n<k+wdL l:=by
 apply St.lind
 .intro p k D n Dn _ h;simp[lcL]at h
 intro o c w q t a b bs l ia ib il p k D n Dn hg h;simp only[gL,gS,N3]at hg;unfold lcL at h;simp only[wdL];rcases h with h|h
 .simp only[wdS];by_cases h3:o=3
  .rw[N8 h3]at h;rw[N7 (by omega)];rcases h with h|h|h
   .omega
   .have:=ia _ _ _ _ _ hg.1.2.1 h;omega
   have:=ib _ _ _ _ _ hg.1.2.2 h;omega
  rw[N7 h3]at h;by_cases h4:o=4
  .rw[N8 h4]at h;rw[N8 h4];rcases h with h|h|h
   .omega
   .omega
   have:=ia _ _ _ _ _ hg.1.2.1 h;omega
  rw[N7 h4]at h;rw[N7 h4];omega
 have:=il _ _ _ _ _ hg.2 h;omega
theorem lc_uni:∀l:List St,∀(p k:Nat) (D:Ds) (n:Nat) (Dn Dm:Ds),gL l=true->lcL l p k D n Dn->lcL l p k D n Dm->Dn=Dm:=by
 apply St.lind
 .intro p k D n Dn Dm _ h;simp[lcL]at h
 intro o c w q t a b bs l ia ib il p k D n Dn Dm hg h1 h2;have hg0:=hg;simp only[gL,gS,N3]at hg;have ra:=fun(p k:Nat) D n Dn=>X92 a p k D n Dn hg.1.2.1;have rb:=fun(p k:Nat) D n Dn=>X92 b p k D n Dn hg.1.2.2;have rl:=fun(p k:Nat) D n Dn=>X92 l p k D n Dn hg.2
 have rf:∀Dn,(if o=3 then(n=k/\Dn=D)\/lcL a (p+1) (k+1) D n Dn\/lcL b (p+1+szL a) (k+1+wdL a) D n Dn
  else if o=4 then(n=k/\Dn=D)\/(n=k+1/\Dn=lpD a p D)\/lcL a (p+1) (k+2) (lpD a p D) n Dn
  else n=k/\Dn=D)->n<k+wdS (.mk o c w q t a b bs):=by
  intro Dn h;simp only[wdS];by_cases h3:o=3
  .rw[N8 h3]at h;rw[N7 (by omega)];rcases h with h|h|h
   .omega
   .have:=ra _ _ _ _ _ h;omega
   have:=rb _ _ _ _ _ h;omega
  rw[N7 h3]at h;by_cases h4:o=4
  .rw[N8 h4]at h;rw[N8 h4];rcases h with h|h|h
   .omega
   .omega
   have:=ra _ _ _ _ _ h;omega
  rw[N7 h4]at h;rw[N7 h4];omega
 unfold lcL at h1 h2;rcases h1 with h1|h1
 .rcases h2 with h2|h2
  .split at h1
   .rename_i h3;rw[N8 h3]at h2;rcases h1 with h1|h1|h1
    .rcases h2 with h2|h2|h2
     .rw[h1.2,h2.2]
     .have:=ra _ _ _ _ _ h2;omega
     have:=rb _ _ _ _ _ h2;omega
    .rcases h2 with h2|h2|h2
     .have:=ra _ _ _ _ _ h1;omega
     .exact ia _ _ _ _ _ _ hg.1.2.1 h1 h2
     have:=ra _ _ _ _ _ h1;have:=rb _ _ _ _ _ h2;omega
    rcases h2 with h2|h2|h2
    .have:=rb _ _ _ _ _ h1;omega
    .have:=rb _ _ _ _ _ h1;have:=ra _ _ _ _ _ h2;omega
    exact ib _ _ _ _ _ _ hg.1.2.2 h1 h2
   rename_i h3;rw[N7 h3]at h2;split at h1
   .rename_i h4;rw[N8 h4]at h2;rcases h1 with h1|h1|h1
    .rcases h2 with h2|h2|h2
     .rw[h1.2,h2.2]
     .omega
     have:=ra _ _ _ _ _ h2;omega
    .rcases h2 with h2|h2|h2
     .omega
     .rw[h1.2,h2.2]
     have:=ra _ _ _ _ _ h2;omega
    rcases h2 with h2|h2|h2
    .have:=ra _ _ _ _ _ h1;omega
    .have:=ra _ _ _ _ _ h1;omega
    exact ia _ _ _ _ _ _ hg.1.2.1 h1 h2
   rename_i h4;rw[N7 h4]at h2;rw[h1.2,h2.2]
  have:=rf _ h1;have:=rl _ _ _ _ _ h2;omega
 rcases h2 with h2|h2
 .have:=rf _ h2;have:=rl _ _ _ _ _ h1;omega
 exact il _ _ _ _ _ _ hg.2 h1 h2
theorem lc_all:∀l:List St,∀(p k:Nat) (D:Ds) (n:Nat),gL l=true->k<=n->n<k+wdL l->∃Dn,lcL l p k D n Dn:=by
 apply St.lind
 .intro p k D n _ h1 h2;simp only[wdL]at h2;omega
 intro o c w q t a b bs l ia ib il p k D n hg h1 h2;simp only[gL,gS,N3,Nf,N5,De]at hg;simp only[wdL]at h2;by_cases hl:k+wdS (.mk o c w q t a b bs)<=n
 .obtain⟨Dn,h⟩:=il (p+(1+szL a+szL b)) (k+wdS (.mk o c w q t a b bs)) (tr1 o w a b p D) n hg.2 hl (by omega);exact⟨Dn,by unfold lcL;exact .inr h⟩
 have key:∃Dn,(if o=3 then(n=k/\Dn=D)\/lcL a (p+1) (k+1) D n Dn\/lcL b (p+1+szL a) (k+1+wdL a) D n Dn
 else if o=4 then(n=k/\Dn=D)\/(n=k+1/\Dn=lpD a p D)\/lcL a (p+1) (k+2) (lpD a p D) n Dn
 else n=k/\Dn=D):=by
  simp only[wdS]at hl;by_cases h3:o=3
  .simp only[N8 h3];rw[N7 (by omega)]at hl;by_cases e:n=k
   .exact⟨D,.inl ⟨e,rfl⟩⟩
   by_cases ha:n<k+1+wdL a
   .obtain⟨Dn,h⟩:=ia (p+1) (k+1) D n hg.1.2.1 (by omega) ha;exact⟨Dn,.inr (.inl h)⟩
   obtain⟨Dn,h⟩:=ib (p+1+szL a) (k+1+wdL a) D n hg.1.2.2 (by omega) (by omega);exact⟨Dn,.inr (.inr h)⟩
  simp only[N7 h3];by_cases h4:o=4
  .have hb:b=[]:=by
    rcases hg.1.1 with(h|h)|h
    .exact absurd h h3
    .exact h.2
    exact h.2
   subst hb;simp only[N8 h4];rw[N8 h4]at hl;simp only[wdL]at hl;by_cases e:n=k
   .exact⟨D,.inl ⟨e,rfl⟩⟩
   by_cases e2:n=k+1
   .exact⟨_,.inr (.inl ⟨e2,rfl⟩)⟩
   obtain⟨Dn,h⟩:=ia (p+1) (k+2) (lpD a p D) n hg.1.2.1 (by omega) (by omega);exact⟨Dn,.inr (.inr h)⟩
  have hab:a=[]/\b=[]:=by
   rcases hg.1.1 with(h|h)|h
   .exact absurd h h3
   .exact absurd h.1 h4
   exact⟨h.1,h.2⟩
  obtain⟨rfl,rfl⟩:=hab;simp only[N7 h4];rw[N7 h4]at hl;simp only[wdL]at hl;exact⟨D,by omega,rfl⟩
 obtain⟨Dn,h⟩:=key;exact⟨Dn,by unfold lcL;exact .inl h⟩
section
variable {N:List Nd} {steps:List St} {nv nh:Nat} {vars:List Vr}
theorem Lie1.ifN {c v n:Int} {t:Tm} {a b:List St} {bs:List Int} {o k mid:Nat} (h:Lie1 N steps vars nh 3 c v n t a b bs o k mid):N[k]? =some ⟨3,o,(Wg a (k+1) mid:Nat),(Wg b (k+1+wdL a) mid:Nat)⟩:=by
 have hn:=h.nd;unfold X1o at hn;rw[N8 rfl]at hn;rw[hn.cons.1];simp only[Wg];congr 2
 .split<;>simp
 split<;>simp
theorem Lie1.loopN {c v n:Int} {t:Tm} {a b:List St} {bs:List Int} {o k mid:Nat} (h:Lie1 N steps vars nh 4 c v n t a b bs o k mid):N[k]? =some ⟨4,o,(k+1:Nat),-1⟩/\N[k+1]? =some ⟨5,o,(Wg a (k+2) (k+1):Nat),(mid:Nat)⟩:=by
 have hn:=h.nd;unfold X1o at hn;rw[N7 (by decide),N8 rfl]at hn;refine⟨by rw[hn.cons.1];simp,?_⟩;rw[hn.cons.2.cons.1];simp only[Wg];congr 2;split<;>simp
theorem Lie1.leafN {d c v n:Int} {t:Tm} {a b:List St} {bs:List Int} {o k mid:Nat} (h:Lie1 N steps vars nh d c v n t a b bs o k mid) (h3:d≠3) (h4:d≠4):N[k]? =some ⟨2,o,(mid:Nat),-1⟩:=by
 have hn:=h.nd;unfold X1o at hn;rw[N7 h3,N7 h4]at hn;exact hn.cons.1
def flw (steps:List St) (x:Nd) (D:Ds):Ds:=fun v d=>(D v d/\¬(QK steps x=true/\Zv steps x=(v:Int)))\/(QK steps x=true/\Zv steps x=(v:Int)/\d=x.a.toNat)
theorem Xbm {x:Nd} (h:x.k≠2) {D:Ds} {v d:Nat} (hf:flw steps x D v d):D v d:=by
 rcases hf with⟨h1,_⟩|⟨h1,_⟩
 .exact h1
 rw[W2 h]at h1;cases h1
theorem Xas:∀l:List St,∀(p k after:Nat) (D:Ds),Lies N steps vars nh l p k after->∀(n:Nat) (Dn:Ds),lcL l p k D n Dn->
  ∃x,N[n]? =some x/\x.k≠0/\∀tq,WJ x tq->∀v d,flw steps x Dn v d->(∃Dt,lcL l p k D tq Dt/\Dt v d)\/(tq=after/\trL l p D v d):=by
 apply St.lind
 .intro p k after D _ n Dn h;simp[lcL]at h
 intro o c w q t a b bs l ia ib il p k after D hl n Dn h;obtain⟨h1,h2⟩:=hl.cons;obtain⟨mid,hmid⟩:∃m,Wg l (k+wdS (.mk o c w q t a b bs)) after=m:=⟨_,rfl⟩;rw[hmid]at h1
 have up:∀tq v d,tq=mid->tr1 o w a b p D v d->(∃Dt,lcL (.mk o c w q t a b bs::l) p k D tq Dt/\Dt v d)\/(tq=after/\trL (.mk o c w q t a b bs::l) p D v d):=by
  intro tq v d hto ht;by_cases e:l=[]
  .subst e;refine .inr ⟨?_,X1W.2 (X2N.2 ht)⟩;rw[hto,<-hmid,Wg,N8 rfl]
  refine .inl ⟨_,?_,ht⟩;unfold lcL;rw[hto,<-hmid,Wg,N7 e];exact .inr (X63 e _ _ _)
 unfold lcL at h;rcases h with h|h
 .by_cases h3:o=3
  .subst h3;rw[N8 rfl]at h;have inA:∀tq Dt,lcL a (p+1) (k+1) D tq Dt->lcL (.mk 3 c w q t a b bs::l) p k D tq Dt:=fun tq Dt h=>by unfold lcL;rw[N8 rfl];exact .inl (.inr (.inl h))
   have inB:∀tq Dt,lcL b (p+1+szL a) (k+1+wdL a) D tq Dt->lcL (.mk 3 c w q t a b bs::l) p k D tq Dt:=fun tq Dt h=>by unfold lcL;rw[N8 rfl];exact .inl (.inr (.inr h))
   obtain⟨_,la,lb⟩:=h1.if_ rfl;rcases h with⟨rfl,rfl⟩|h|h
   .refine⟨_,h1.ifN,by simp,fun tq hs v d hf=>?_⟩;have hD:=Xbm (by simp) hf;simp only[WJ]at hs;rcases hs with hs|hs
    .have hs:tq=Wg a (n+1) mid:=by omega
     by_cases e:a=[]
     .subst e;exact up tq v d (by rw[hs,Wg,N8 rfl]) (X4E.2 (.inl (X2N.2 hD)))
     refine .inl ⟨_,inA _ _ ?_,hD⟩;rw[hs,Wg,N7 e];exact X63 e _ _ _
    have hs:tq=Wg b (n+1+wdL a) mid:=by omega
    by_cases e:b=[]
    .subst e;exact up tq v d (by rw[hs,Wg,N8 rfl]) (X4E.2 (.inr (X2N.2 hD)))
    refine .inl ⟨_,inB _ _ ?_,hD⟩;rw[hs,Wg,N7 e];exact X63 e _ _ _
   .obtain⟨x,hx,hk,hc⟩:=ia _ _ _ D la n Dn h;refine⟨x,hx,hk,fun tq hs v d hf=>?_⟩;rcases hc tq hs v d hf with⟨Dt,h5,h6⟩|⟨h5,h6⟩
    .exact .inl ⟨Dt,inA _ _ h5,h6⟩
    exact up tq v d h5 (X4E.2 (.inl h6))
   obtain⟨x,hx,hk,hc⟩:=ib _ _ _ D lb n Dn h;refine⟨x,hx,hk,fun tq hs v d hf=>?_⟩;rcases hc tq hs v d hf with⟨Dt,h5,h6⟩|⟨h5,h6⟩
   .exact .inl ⟨Dt,inB _ _ h5,h6⟩
   exact up tq v d h5 (X4E.2 (.inr h6))
  rw[N7 h3]at h;by_cases h4:o=4
  .subst h4;rw[N8 rfl]at h;have inH:lcL (.mk 4 c w q t a b bs::l) p k D (k+1) (lpD a p D):=by unfold lcL;rw[N7 (by decide),N8 rfl];exact .inl (.inr (.inl ⟨rfl,rfl⟩))
   have inA:∀tq Dt,lcL a (p+1) (k+2) (lpD a p D) tq Dt->lcL (.mk 4 c w q t a b bs::l) p k D tq Dt:=fun tq Dt h=>by unfold lcL;rw[N7 (by decide),N8 rfl];exact .inl (.inr (.inr h))
   obtain⟨_,_,la,_⟩:=h1.loop rfl;obtain⟨n1,n2⟩:=h1.loopN;rcases h with⟨rfl,rfl⟩|⟨rfl,rfl⟩|h
   .refine⟨_,n1,by simp,fun tq hs v d hf=>?_⟩;have hD:=Xbm (by simp) hf;simp only[WJ]at hs;have hs:tq=n+1:=by omega
    subst hs;exact .inl ⟨_,inH,.inl hD⟩
   .refine⟨_,n2,by simp,fun tq hs v d hf=>?_⟩;have hD:=Xbm (by simp) hf;simp only[WJ]at hs;rcases hs with hs|hs
    .have hs:tq=Wg a (k+2) (k+1):=by omega
     by_cases e:a=[]
     .subst e;refine .inl ⟨_,?_,hD⟩;rw[hs,Wg,N8 rfl];exact inH
     refine .inl ⟨_,inA _ _ ?_,hD⟩;rw[hs,Wg,N7 e];exact X63 e _ _ _
    exact up tq v d (by omega) (X6w.2 hD)
   obtain⟨x,hx,hk,hc⟩:=ia _ _ _ (lpD a p D) la n Dn h;refine⟨x,hx,hk,fun tq hs v d hf=>?_⟩;rcases hc tq hs v d hf with⟨Dt,h5,h6⟩|⟨h5,h6⟩
   .exact .inl ⟨Dt,inA _ _ h5,h6⟩
   subst h5;exact .inl ⟨_,inH,trL_lp h6⟩
  rw[N7 h4]at h;obtain⟨rfl,rfl⟩:=h;refine⟨_,h1.leafN h3 h4,by simp,fun tq hs v d hf=>up tq v d ?_ ((X6H h3 h4).2 ?_)⟩
  .simp only[WJ]at hs;omega
  have hst:=h1.st
  have hisA:QK steps ⟨2,(p:Int),(mid:Int),-1⟩=true↔o=0\/o=5:=by
   unfold QK;rw[Int.toNat_natCast,hst];show(decide ((2:Int)=2)&&(decide (o=0)||decide (o=5)))=true↔_;simp
  have hvA:Zv steps ⟨2,(p:Int),(mid:Int),-1⟩=w:=by simp[Zv,hst,St.var]
  rcases hf with⟨hD,hn⟩|⟨ha,hv,hd⟩
  .refine .inl ⟨fun⟨h5,h6⟩=>hn ⟨hisA.2 h5,?_⟩,hD⟩;have:=(h1.var h5).1;rw[hvA];omega
  refine .inr ⟨hisA.1 ha,?_,by simpa using hd⟩;rw[hvA]at hv;omega
 obtain⟨x,hx,hk,hc⟩:=il _ _ _ (tr1 o w a b p D) h2 n Dn h;refine⟨x,hx,hk,fun tq hs v d hf=>?_⟩;rcases hc tq hs v d hf with⟨Dt,h5,h6⟩|⟨h5,h6⟩
 .exact .inl ⟨Dt,by unfold lcL;exact .inr h5,h6⟩
 exact .inr ⟨h5,X1W.2 h6⟩
def sdD (N:List Nd) (steps:List St) (nv k:Nat) (D:Ds):Prop:=∀v d,D v d->Rc N steps nv k d/\Qk steps d=(v:Int)
theorem sdD.go {k tq:Nat} {D:Ds} {x:Nd} (h:sdD N steps nv k D) (hx:N[k]? =some x) (h0:x.k≠0) (h2:x.k≠2) (hs:WJ x tq):sdD N steps nv tq D:=
 fun v d hd=>⟨.pass hx h0 hs (h v d hd).1 (by rw[W2 h2];rfl),(h v d hd).2⟩
theorem lc_snd:∀l:List St,∀(p k after:Nat) (D:Ds),Lies N steps vars nh l p k after->sdD N steps nv (Wg l k after) D->
  (∀(n:Nat) (Dn:Ds),lcL l p k D n Dn->sdD N steps nv n Dn)/\sdD N steps nv after (trL l p D):=by
 apply St.lind
 .intro p k after D _ hD;refine⟨fun n Dn h=>by simp[lcL]at h,fun v d hd=>?_⟩;have:=hD v d (X2N.1 hd)
  rwa [Wg,N8 rfl]at this
 intro o c w q t a b bs l ia ib il p k after D hl hD;rw[Wg,N7 (by simp)]at hD;obtain⟨h1,h2⟩:=hl.cons;obtain⟨mid,hmid⟩:∃m,Wg l (k+wdS (.mk o c w q t a b bs)) after=m:=⟨_,rfl⟩;rw[hmid]at h1
 have key:(∀n Dn,(if o=3 then(n=k/\Dn=D)\/lcL a (p+1) (k+1) D n Dn\/lcL b (p+1+szL a) (k+1+wdL a) D n Dn
  else if o=4 then(n=k/\Dn=D)\/(n=k+1/\Dn=lpD a p D)\/lcL a (p+1) (k+2) (lpD a p D) n Dn
  else n=k/\Dn=D)->sdD N steps nv n Dn)/\sdD N steps nv mid (tr1 o w a b p D):=by
  by_cases h3:o=3
  .subst h3;obtain⟨_,la,lb⟩:=h1.if_ rfl;have hx:=h1.ifN;obtain⟨a1,a2⟩:=ia _ _ _ D la (hD.go hx (by simp) (by simp) (.inl rfl));obtain⟨b1,b2⟩:=ib _ _ _ D lb (hD.go hx (by simp) (by simp) (.inr rfl));refine⟨fun n Dn h=>?_,fun v d hd=>?_⟩
   .rw[N8 rfl]at h;rcases h with⟨rfl,rfl⟩|h|h
    .exact hD
    .exact a1 n Dn h
    exact b1 n Dn h
   rcases X4E.1 hd with h|h
   .exact a2 v d h
   exact b2 v d h
  by_cases h4:o=4
  .subst h4;obtain⟨_,_,la,_⟩:=h1.loop rfl;obtain⟨n1,n2⟩:=h1.loopN;have hH:sdD N steps nv (k+1) D:=hD.go n1 (by simp) (by simp) (.inl rfl);obtain⟨_,a2⟩:=ia _ _ _ D la (hH.go n2 (by simp) (by simp) (.inl rfl))
   have hE:sdD N steps nv (k+1) (lpD a p D):=by
    rintro v d (h|h)
    .exact hH v d h
    exact a2 v d (.inr h)
   obtain⟨e1,_⟩:=ia _ _ _ (lpD a p D) la (hE.go n2 (by simp) (by simp) (.inl rfl));refine⟨fun n Dn h=>?_,fun v d hd=>hE.go n2 (by simp) (by simp) (.inr rfl) v d (X6w.1 hd)⟩;rw[N7 h3,N8 rfl]at h;rcases h with⟨rfl,rfl⟩|⟨rfl,rfl⟩|h
   .exact hD
   .exact hE
   exact e1 n Dn h
  have hx:=h1.leafN h3 h4;have hst:=h1.st
  have hisA:QK steps ⟨2,(p:Int),(mid:Int),-1⟩=true↔o=0\/o=5:=by
   unfold QK;rw[Int.toNat_natCast,hst];show(decide ((2:Int)=2)&&(decide (o=0)||decide (o=5)))=true↔_;simp
  have hvA:Zv steps ⟨2,(p:Int),(mid:Int),-1⟩=w:=by simp[Zv,hst,St.var]
  refine⟨fun n Dn h=>?_,fun v d hd=>?_⟩
  .rw[N7 h3,N7 h4]at h;obtain⟨rfl,rfl⟩:=h;exact hD
  rcases(X6H h3 h4).1 hd with⟨h5,h6⟩|⟨h5,h6,rfl⟩
  .obtain⟨r1,r2⟩:=hD v d h6;refine⟨.pass hx (by simp) (.inl rfl) r1 ?_,r2⟩;rw[r2,hvA];by_cases e:QK steps ⟨2,(p:Int),(mid:Int),-1⟩=true
   .have hA:=hisA.1 e;have:=(h1.var hA).1;have h8:(v:Int)≠w:=fun e=>h5 ⟨hA,by omega⟩;simp[h8]
   simp[e]
  have hA:=h5;have h7:=(h1.var hA).1;refine⟨?_,?_⟩
  .have:=Rc.gen (nv:=nv) hx (by simp) (.inl rfl) (hisA.2 hA);simpa using this
  unfold Qk;rw[hst];simp only[St.var];omega
 obtain⟨k1,k2⟩:=key;obtain⟨l1,l2⟩:=il _ _ _ (tr1 o w a b p D) h2 (by rw[hmid];exact k2);refine⟨fun n Dn h=>?_,fun v d hd=>l2 v d (X1W.1 hd)⟩;unfold lcL at h;rcases h with h|h
 .exact k1 n Dn h
 exact l1 n Dn h
end
def stD0 (n nv:Nat):Ds:=fun v d=>v<nv/\d=n+v
theorem lc_rc {f:Fl} (h:Sm f) (h0:XR f=0) {n:Nat} {Dn:Ds} (hn:lcL f.body 0 1 (stD0 (flL f.body).length f.vars.length) n Dn) (v d:Nat):Dn v d↔Rc (grN f.body) (flL f.body) f.vars.length n d/\Qk (flL f.body) d=(v:Int):=by
 have hg:=X0T h0;have hl:=X0g h h0
 have hw:Gw (grN f.body) (flL f.body):=grN_w hg fun q hq hd=>by
  obtain⟨i,hi⟩:=NK.1 hq;obtain⟨last,hsh⟩:=X2e f.body true (Q6 h0).2.2.2.1 q hq;unfold shB at hsh;rcases hd with hd|hd
  .rw[N8 hd]at hsh;simp only[N3]at hsh;have:=hsh.1.1.2;unfold W3 at this;simp only[N3,N5]at this;omega
  rw[hd]at hsh;simp only[N3,reduceCtorEq,Nc,Nj,Int.reduceEq]at hsh;have:=hsh.1.1.1.1.2;unfold W3 at this;simp only[N3,N5]at this;omega
 obtain⟨e0,he0,hk0⟩:=hw.ent
 have hent:WJ e0 (Wg f.body 1 (1+wdL f.body))/\∀tq,WJ e0 tq->tq=Wg f.body 1 (1+wdL f.body):=by
  have:e0=⟨0,-1,if f.body=[] then((1+wdL f.body:Nat):Int)else 1,-1⟩:=by
   unfold grN at he0;simp only[List.getElem?_cons_zero,Option.some.injEq]at he0;rw[<-he0];congr 1
  subst this;refine⟨.inl ?_,fun tq hs=>?_⟩
  .simp only[Wg];split<;>simp
  simp only[WJ,Wg]at hs⊢;split at hs
  .rename_i e;rw[N8 e];omega
  rename_i e;rw[N7 e];omega
 have hvo:∀v:Nat,Qk (flL f.body) ((flL f.body).length+v)=(v:Int):=Xeb _;constructor
 .intro hd;refine(lc_snd f.body 0 1 (1+wdL f.body) (stD0 (flL f.body).length f.vars.length) hl ?_).1 n Dn hn v d hd;rintro v d ⟨h1,rfl⟩;exact⟨.entry he0 hk0 hent.1 h1,hvo v⟩
 rintro⟨hr,hv⟩
 -- all that reaches a node is in its state, the end apart
 have key:∀tq d,Rc (grN f.body) (flL f.body) f.vars.length tq d->∀v:Nat,Qk (flL f.body) d=(v:Int)->(∃Dt,lcL f.body 0 1 (stD0 (flL f.body).length f.vars.length) tq Dt/\Dt v d)\/tq=1+wdL f.body:=by
  intro tq d hr
  induction hr with
  | entry hx hxk hs hlt=>
    rename_i i tq u x;intro v hv;have hi:=hw.k0 i x hx hxk;subst hi;rw[he0]at hx;cases hx;rw[hvo]at hv;have:u=v:=by omega
    subst this;have hto:=hent.2 tq hs;by_cases e:f.body=[]
    .refine .inr ?_;rw[hto,Wg,N8 e]
    refine .inl ⟨stD0 (flL f.body).length f.vars.length,?_,hlt,rfl⟩;rw[hto,Wg,N7 e];exact X63 e _ _ _
  | pass hx hxk hs _ hp ih=>
    rename_i i tq d x _;intro v hv;rcases ih v hv with⟨Di,h1,h2⟩|h1
    .obtain⟨y,hy,_,hc⟩:=Xas f.body 0 1 (1+wdL f.body) _ hl i Di h1;rw[hx]at hy;cases hy;rcases hc tq hs v d (.inl ⟨h2,fun⟨h3,h4⟩=>by rw[h3,hv,h4]at hp;simp at hp⟩)with h5|⟨h5,_⟩
     .exact .inl h5
     exact .inr h5
    exfalso;have hlen:=X1q hg;subst h1
    have:(grN f.body)[1+wdL f.body]? =some ⟨1,-1,-1,-1⟩:=by
     unfold grN;rw[Nat.add_comm,List.getElem?_cons_succ,Np (by rw[Wb _ _ _ _ hg];omega),Wb _ _ _ _ hg,Nat.sub_self];rfl
    rw[this]at hx;cases hx;simp only[WJ]at hs;omega
  | gen hx hxk hs ha=>
    rename_i i tq x;intro v hv;have hil:=(N6.1 hx).1;have hlen:=X1q hg
    have hi0:i≠0:=by
     rintro rfl;rw[he0]at hx;cases hx;exact hxk hk0
    by_cases hie:i=1+wdL f.body
    .exfalso;subst hie
     have:(grN f.body)[1+wdL f.body]? =some ⟨1,-1,-1,-1⟩:=by
      unfold grN;rw[Nat.add_comm,List.getElem?_cons_succ,Np (by rw[Wb _ _ _ _ hg];omega),Wb _ _ _ _ hg,Nat.sub_self];rfl
     rw[this]at hx;cases hx;simp only[WJ]at hs;omega
    obtain⟨Di,h1⟩:=lc_all f.body 0 1 (stD0 (flL f.body).length f.vars.length) i hg (by omega) (by omega);obtain⟨y,hy,_,hc⟩:=Xas f.body 0 1 (1+wdL f.body) _ hl i Di h1;rw[hx]at hy;cases hy;obtain⟨⟨m,hm1,hm2⟩,_⟩:=hw.asg x (N4 hx) ha
    have hva:Zv (flL f.body) x=(v:Int):=by
     rw[<-hv,hm1,Int.toNat_natCast];exact(varOf_at hm1 hm2).symm
    rcases hc tq hs v x.a.toNat (.inr ⟨ha,hva,rfl⟩)with h5|⟨h5,_⟩
    .exact .inl h5
    exact .inr h5
 rcases key n d hr v hv with⟨Dt,h1,h2⟩|h1
 .rw[lc_uni f.body 0 1 _ n Dn Dt hg hn h1];exact h2
 have:=X92 f.body 0 1 _ n Dn hg hn;omega
@[simp] theorem mpI_nil:mpI []=[]:=rfl
def addN (t:List Nat) (v:Nat):List Nat:=if v∈t then t else t++[v]
def addAll:List Nat->List Nat->List Nat
 |[],t=>t
 |v::l,t=>addAll l (addN t v)
structure Nb (n:Nat) (t:List Nat):Prop where
 nd:t.Nodup
 lt:∀d∈t,d<n
theorem Nb.len {n:Nat} {t:List Nat} (h:Nb n t):t.length<=n:=WA h.nd h.lt
theorem Nb.add {n v:Nat} {t:List Nat} (h:Nb n t) (hv:v<n):Nb n (addN t v):=by
 unfold addN;split
 .exact h
 rename_i hm;refine⟨?_,?_⟩
 .rw[List.nodup_append];exact⟨h.nd,by simp,fun a ha b hb=>by rw[Nl.1 hb];rintro rfl;exact hm ha⟩
 intro d hd;rcases Ni.1 hd with hd|hd
 .exact h.lt d hd
 rw[Nl.1 hd];exact hv
theorem Nb.nil (n:Nat):Nb n []:=⟨by simp,by simp⟩
theorem Nb.addAll {n:Nat} (l:List Nat) (hl:∀d∈l,d<n):∀{t},Nb n t->Nb n (addAll l t):=by
 induction l with
 |nil=>intro t h;exact h
 |cons v l ih=>intro t h;exact ih (fun d hd=>hl d (by simp[hd])) (h.add (hl v (by simp)))
theorem addN_mem (t:List Nat) (v d:Nat):d∈addN t v↔d∈t\/d=v:=by
 unfold addN;split
 .rename_i h;constructor
  .exact .inl
  rintro(h1|rfl)
  .exact h1
  exact h
 simp
theorem XbP (l:List Nat):∀(t:List Nat) (d:Nat),d∈addAll l t↔d∈t\/d∈l:=by
 induction l with
 |nil=>intro t d;simp[addAll]
 |cons v l ih=>intro t d;rw[addAll,ih,addN_mem,Ng,or_assoc]
structure Dp where
 f:Int
 t:Int
 k:Int
 deriving DecidableEq
def Dp.enc (x:Dp):List CD:=[iC x.f,iC x.t,iC x.k]
attribute [simp] Dp.enc
def Qp (l:List Dp):List (List CD):=l.map Dp.enc
@[simp] theorem X0b (l:List Dp):(Qp l).length=l.length:=by simp[Qp]
theorem X1e {l:List Dp} {i:Nat} {x:Dp} (h:l[i]? =some x):(Qp l)[i]? =some x.enc:=by simp[Qp,h]
@[simp] theorem encDp_nil:Qp []=[]:=rfl
theorem Xe5 (a b:List Dp):Qp (a++b)=Qp a++Qp b:=by simp[Qp]
abbrev Dfs:=List (List Nat)
def uniL (a b:List Nat):List Nat:=(addAll b a).mergeSort fun x y=>decide (x<=y)
def Zz:Dfs->Dfs->Dfs
 |a::A,b::B=>uniL a b::Zz A B
 |_,_=>[]
mutual
def ouS:St->Nat->Dfs->Dfs
 | .mk o _ w _ _ a b _,p,D=>if o=3 then Zz (ouL a (p+1) D) (ouL b (p+1+szL a) D)else if o=4 then Zz D (ouL a (p+1) D)else if o=0\/o=5 then D.set w.toNat [p] else D
def ouL:List St->Nat->Dfs->Dfs
 |[],_,D=>D
 |s::l,p,D=>ouL l (p+szS s) (ouS s p D)
end
def rdE (p:Nat) (D:Dfs) (t:Tm):List Dp:=(tmV t).flatMap fun v=>(D[v.toNat]?.getD []).map fun d:Nat=>(⟨(d:Int),(p:Int),0⟩:Dp)
def rlE (n p:Nat) (t:Tm):List Dp:=(tmV t).map fun v:Int=>(⟨(n:Int)+v,(p:Int),2⟩:Dp)
def ctE (c:Int) (p:Nat):List Dp:=if 0<=c then [⟨c,p,1⟩] else []
mutual
def edS (n:Nat) (hats:List Ht):St->Int->Nat->Dfs->List Dp
 | .mk o _ _ q t a b _,c,p,D=>ctE c p++(if o=0\/o=1 then rdE p D t else if o=5 then(match hats[q.toNat]? with|some h=>rlE n p h.term|none=>[])
   else if o=3 then rdE p D t++(edL n hats a p (p+1) D++edL n hats b p (p+1+szL a) D)
   else if o=4 then rdE p (Zz D (ouL a (p+1) D)) t++(⟨p,p,1⟩::edL n hats a p (p+1) (Zz D (ouL a (p+1) D)))else [])
def edL (n:Nat) (hats:List Ht):List St->Int->Nat->Dfs->List Dp
 |[],_,_,_=>[]
 |s::l,c,p,D=>edS n hats s c p D++edL n hats l c (p+szS s) (ouS s p D)
end
def ctL:List St->Int->Nat->List Dp
 |[],_,_=>[]
 | .mk o _ _ _ _ a b _::l,c,p=>ctE c p++((if o=4 then [⟨p,p,1⟩] else [])++(ctL a p (p+1)++(ctL b p (p+1+szL a)++ctL l c (p+(1+szL a+szL b)))))
structure okD (nv:Nat) (D:Dfs):Prop where
 len:D.length=nv
 asc:∀r∈D,r.Pairwise (· < ·)
def inD (D:Dfs):Ds:=fun v d=>∃r,D[v]? =some r/\d∈r
theorem X8c (l:List Nat):∀(t:List Nat),t.Nodup->(addAll l t).Nodup:=by
 induction l with
 |nil=>intro t h;exact h
 | cons v l ih=>
   intro t h;refine ih _ ?_;unfold addN;split
   .exact h
   rename_i hn;rw[List.nodup_append];exact⟨h,by simp,fun a ha b hb=>by rw[Nl.1 hb];rintro rfl;exact hn ha⟩
theorem XdR {l:List Nat} (h:l.Nodup):(l.mergeSort fun x y=>decide (x<=y)).Pairwise (· < ·):=by
 have h3:=List.pairwise_mergeSort (le:=fun x y:Nat=>decide (x<=y)) (fun a b c h1 h2=>by simp at*;omega) (fun a b=>by simp;omega) l;have h4:(l.mergeSort fun x y=>decide (x<=y)).Nodup:=(List.mergeSort_perm l _).nodup_iff.2 h;refine(List.pairwise_and_iff.2 ⟨h3,h4⟩).imp fun {a b} ⟨h5,h6⟩=>?_;have h5:a<=b:=by simpa using h5
 have h6:a≠b:=h6;omega
theorem Xe0 {l:List Nat} (h:l.Pairwise (· < ·)):l.Nodup:=h.imp fun {a b} h=>by show a≠b;omega
theorem X9F (a b:List Nat) (x:Nat):x∈uniL a b↔x∈a\/x∈b:=by rw[uniL,List.mem_mergeSort,XbP]
theorem X9I {a:List Nat} (b:List Nat) (h:a.Pairwise (· < ·)):(uniL a b).Pairwise (· < ·):=XdR (X8c _ _ (Xe0 h))
theorem X2z:∀{A B:Dfs},A.length=B.length->(Zz A B).length=A.length
 |[],[],_=>rfl
 |_::A,_::B,h=>by simp only[Zz,List.length_cons]at h⊢;rw[X2z (by omega)]
theorem X51:∀{A B:Dfs} {i:Nat} {a b:List Nat},A[i]? =some a->B[i]? =some b->(Zz A B)[i]? =some (uniL a b)
 |x::A,y::B,0,a,b,h1,h2=>by cases h1;cases h2;rfl
 |x::A,y::B,i+1,a,b,h1,h2=>by simp only[Zz,List.getElem?_cons_succ]at h1 h2⊢;exact X51 h1 h2
 |[],_,_,_,_,h1,_=>by simp at h1
 |_::_,[],_,_,_,_,h2=>by simp at h2
theorem X5X {nv:Nat} {A B:Dfs} (ha:okD nv A) (hb:B.length=nv):okD nv (Zz A B):=by
 refine⟨by rw[X2z (by rw[ha.len,hb]),ha.len],fun r hr=>?_⟩;obtain⟨i,hi⟩:=NK.1 hr;have hlt:=(N6.1 hi).1;rw[X2z (by rw[ha.len,hb])]at hlt;obtain⟨a,h1,_⟩:=Xt hlt;obtain⟨b,h2,_⟩:=Xt (show i<B.length by rw[hb,<-ha.len];exact hlt);rw[X51 h1 h2]at hi;cases hi;exact X9I b (ha.asc a (N4 h1))
theorem X6F {nv:Nat} {A B:Dfs} (ha:A.length=nv) (hb:B.length=nv) (v d:Nat):inD (Zz A B) v d↔inD A v d\/inD B v d:=by
 by_cases hv:v<nv
 .obtain⟨a,h1,_⟩:=Xt (show v<A.length by omega);obtain⟨b,h2,_⟩:=Xt (show v<B.length by omega);have h3:=X51 h1 h2;unfold inD;rw[h1,h2,h3];simp only[Option.some.injEq,exists_eq_left'];exact X9F a b d
 have e1:A[v]? =none:=Ny (by omega);have e2:B[v]? =none:=Ny (by omega);have e3:(Zz A B)[v]? =none:=Ny (by rw[X2z (by omega)];omega);unfold inD;rw[e1,e2,e3];simp
theorem set_in {D:Dfs} {i:Nat} {r:List Nat} (h:i<D.length) (v d:Nat):inD (D.set i r) v d↔if v=i then d∈r else inD D v d:=by
 unfold inD;rw[NY];by_cases e:i=v
 .subst e;simp[h]
 rw[N7 e,N7 (Ne.symm e)]
theorem set_ok {nv:Nat} {D:Dfs} (h:okD nv D) (i p:Nat):okD nv (D.set i [p]):=by
 refine⟨by rw[DI];exact h.len,fun r hr=>?_⟩;rcases Dy hr with h1|h1
 .exact h.asc r h1
 rw[h1];simp
def vaL (nv:Nat):List St->Bool
 |[]=>true
 | .mk o _ w _ _ a b _::l=>(!decide (o=0\/o=5)||decide (w.toNat<nv))&&vaL nv a&&vaL nv b&&vaL nv l
theorem ouS_eq (o c w q:Int) (t:Tm) (a b:List St) (bs:List Int) (p:Nat) (D:Dfs):ouS (.mk o c w q t a b bs) p D=if o=3 then Zz (ouL a (p+1) D) (ouL b (p+1+szL a) D)else if o=4 then Zz D (ouL a (p+1) D)else if o=0\/o=5 then D.set w.toNat [p] else D:=by
 rw[ouS]
theorem X3n {nv:Nat}:∀l:List St,∀(p:Nat) (D:Dfs),okD nv D->okD nv (ouL l p D):=by
 apply St.lind
 .intro p D h;rw[ouL];exact h
 intro o c w q t a b bs l ia ib il p D h;rw[ouL,ouS_eq];refine il _ _ ?_;split
 .exact X5X (ia _ _ h) (ib _ _ h).len
 split
 .exact X5X h (ia _ _ h).len
 split
 .exact set_ok h _ _
 exact h
theorem ouL_in {nv:Nat}:∀l:List St,∀(p:Nat) (D:Dfs),vaL nv l=true->okD nv D->∀v d,inD (ouL l p D) v d↔trL l p (inD D) v d:=by
 apply St.lind
 .intro p D _ h v d;rw[ouL];exact X2N.symm
 intro o c w q t a b bs l ia ib il p D hv h v d;simp only[vaL,N3,Nf,Nu,Nh,N5]at hv
 have hs:okD nv (ouS (.mk o c w q t a b bs) p D):=by
  have:=X3n (nv:=nv) [.mk o c w q t a b bs] p D h
  rwa [ouL,ouL]at this
 rw[ouL,il _ _ hv.2 hs,X1W,szS]
 have key:∀v d,inD (ouS (.mk o c w q t a b bs) p D) v d↔tr1 o w a b p (inD D) v d:=by
  intro v d;rw[ouS_eq];by_cases h3:o=3
  .subst h3;rw[N8 rfl,X6F (X3n a _ _ h).len (X3n b _ _ h).len,ia _ _ hv.1.1.2 h,ib _ _ hv.1.2 h,X4E]
  rw[N7 h3];by_cases h4:o=4
  .subst h4;rw[N8 rfl,X6F h.len (X3n a _ _ h).len,ia _ _ hv.1.1.2 h,X6w];constructor
   .rintro(h1|⟨_,h1⟩|h1)
    .exact .inl h1
    .exact .inl h1
    exact .inr h1
   rintro(h1|h1)
   .exact .inl h1
   exact .inr (.inr h1)
  rw[N7 h4,X6H h3 h4];by_cases h5:o=0\/o=5
  .rw[N8 h5,set_in (by rw[h.len];exact hv.1.1.1.resolve_left fun h=>h h5)];by_cases e:v=w.toNat
   .subst e;simp[h5]
   simp[h5,e,Ne.symm e]
  rw[N7 h5];simp[h5]
 have e:tr1 o w a b p (inD D)=inD (ouS (.mk o c w q t a b bs) p D):=by
  funext v d
  exact propext (key v d).symm
 rw[e]
theorem Xck {nv:Nat} {a:List St} {p:Nat} {D:Dfs} (hv:vaL nv a=true) (h:okD nv D):inD (Zz D (ouL a (p+1) D))=lpD a p (inD D):=by
 funext v d
 refine propext ?_;rw[X6F h.len (X3n a _ _ h).len,ouL_in a _ _ hv h];constructor
 .rintro(h1|⟨_,h1⟩|h1)
  .exact .inl h1
  .exact .inl h1
  exact .inr h1
 rintro(h1|h1)
 .exact .inl h1
 exact .inr (.inr h1)
theorem ouS_tr {nv:Nat} {o c w q:Int} {t:Tm} {a b:List St} {bs:List Int} {p:Nat} {D:Dfs} (hv:vaL nv [.mk o c w q t a b bs]=true) (h:okD nv D):inD (ouS (.mk o c w q t a b bs) p D)=tr1 o w a b p (inD D):=by
 funext v d
 refine propext ?_;have:=ouL_in (nv:=nv) [.mk o c w q t a b bs] p D hv h v d;rw[ouL,ouL,X1W,X2N]at this;exact this
def ndE (n:Nat) (hats:List Ht) (s:St) (a:Nat) (Dn:Ds) (e:Dp):Prop:=
 if s.do_=5 then ∃h,hats[s.n.toNat]? =some h/\∃v∈tmV h.term,e=⟨(n:Int)+v,a,2⟩
 else ∃v∈tmV s.term,∃d:Nat,Dn v.toNat d/\e=⟨d,a,0⟩
theorem X8h {p:Nat} {D:Dfs} {t:Tm} {e:Dp}:e∈rdE p D t↔∃v∈tmV t,∃d:Nat,inD D v.toNat d/\e=⟨d,p,0⟩:=by
 unfold rdE;simp only[List.mem_flatMap,NG];refine exists_congr fun v=>and_congr Iff.rfl ?_;constructor
 .rintro⟨d,hd,rfl⟩;cases h:D[v.toNat]? with
  |none=>rw[h]at hd;simp at hd
  |some r=>rw[h]at hd;exact⟨d,⟨r,h,by simpa using hd⟩,rfl⟩
 rintro⟨d,⟨r,h,hd⟩,rfl⟩;exact⟨d,by rw[h];exact hd,rfl⟩
theorem X5F {n p:Nat} {t:Tm} {e:Dp}:e∈rlE n p t↔∃v∈tmV t,e=⟨(n:Int)+v,p,2⟩:=by
 unfold rlE;simp only[NG];exact exists_congr fun v=>and_congr Iff.rfl eq_comm
def quL:List St->Bool
 |[]=>true
 | .mk o _ _ _ t a b _::l=>(decide (o=0\/o=1\/o=3\/o=4\/o=5)||decide (tmV t=[]))&&quL a&&quL b&&quL l
section
variable {N:List Nd} {steps:List St} {vars:List Vr} {nh:Nat}
def bkE (N:List Nd) (steps:List St) (n0:Nat) (hats:List Ht) (l:List St) (p k:Nat) (D:Ds) (e:Dp):Prop:=
 ∃(n:Nat) (Dn:Ds) (x:Nd) (a:Nat) (s:St),lcL l p k D n Dn/\N[n]? =some x/\x.k≠4/\x.a=(a:Int)/\steps[a]? =some s/\ndE n0 hats s a Dn e
theorem ed_mem {nv n0:Nat} {hats:List Ht}:∀l:List St,∀(c:Int) (p k after:Nat) (D:Dfs),Lies N steps vars nh l p k after->vaL nv l=true->quL l=true->okD nv D->∀e,
  e∈edL n0 hats l c p D↔e∈ctL l c p\/bkE N steps n0 hats l p k (inD D) e:=by
 apply St.lind
 .intro c p k after D _ _ _ _ e;simp[edL,ctL,bkE,lcL]
 intro o c' w q t a b bs l ia ib il c p k after D hl hv hq hD e;obtain⟨h1,h2⟩:=hl.cons;obtain⟨mid,hmid⟩:∃m,Wg l (k+wdS (.mk o c' w q t a b bs)) after=m:=⟨_,rfl⟩;rw[hmid]at h1;have hv0:=hv;simp only[vaL,N3]at hv;simp only[quL,N3,Nf,N5]at hq
 have hs:okD nv (ouS (.mk o c' w q t a b bs) p D):=by
  have:=X3n (nv:=nv) [.mk o c' w q t a b bs] p D hD
  rwa [ouL,ouL]at this
 have htr:inD (ouS (.mk o c' w q t a b bs) p D)=tr1 o w a b p (inD D):=ouS_tr (nv:=nv) (by simp[vaL,hv.1.1.2,hv.1.2];simpa using hv.1.1.1) hD;have hL:=il c (p+(1+szL a+szL b)) (k+wdS (.mk o c' w q t a b bs)) after _ h2 hv.2 hq.2 hs e;rw[htr]at hL;rw[edL,ctL,szS,Ni,hL];have hst:=h1.st
 -- the first step
 have key:e∈edS n0 hats (.mk o c' w q t a b bs) c p D↔(e∈ctE c p\/(e∈(if o=4 then [(⟨p,p,1⟩:Dp)] else [])\/(e∈ctL a p (p+1)\/e∈ctL b p (p+1+szL a))))\/
   ∃(n:Nat) (Dn:Ds) (x:Nd) (m:Nat) (s:St),(if o=3 then(n=k/\Dn=inD D)\/lcL a (p+1) (k+1) (inD D) n Dn\/lcL b (p+1+szL a) (k+1+wdL a) (inD D) n Dn
    else if o=4 then(n=k/\Dn=inD D)\/(n=k+1/\Dn=lpD a p (inD D))\/lcL a (p+1) (k+2) (lpD a p (inD D)) n Dn
    else n=k/\Dn=inD D)/\N[n]? =some x/\x.k≠4/\x.a=(m:Int)/\steps[m]? =some s/\ndE n0 hats s m Dn e:=by
  rw[edS,Ni];by_cases h3:o=3
  .subst h3;obtain⟨_,la,lb⟩:=h1.if_ rfl;have hx:=h1.ifN;have hA:=ia p (p+1) (k+1) mid D la hv.1.1.2 hq.1.1.2 hD e;have hB:=ib p (p+1+szL a) (k+1+wdL a) mid D lb hv.1.2 hq.1.2 hD e;simp only[show ¬((3:Int)=0\/(3:Int)=1) by decide,show ¬(3:Int)=5 by decide,show ¬(3:Int)=4 by decide,Nj,Nc,Ni,Dk,false_or];rw[hA,hB,X8h];constructor
   .rintro(h|h|(h|h)|(h|h))
    .exact .inl (.inl h)
    .exact .inr ⟨k,_,_,p,_,.inl ⟨rfl,rfl⟩,hx,by simp,rfl,hst,by simpa[ndE,St.do_,St.term]using h⟩
    .exact .inl (.inr (.inl h))
    .obtain⟨n,Dn,x,m,s,g1,g2⟩:=h;exact .inr ⟨n,Dn,x,m,s,.inr (.inl g1),g2⟩
    .exact .inl (.inr (.inr h))
    obtain⟨n,Dn,x,m,s,g1,g2⟩:=h;exact .inr ⟨n,Dn,x,m,s,.inr (.inr g1),g2⟩
   rintro((h|h|h)|⟨n,Dn,x,m,s,(⟨rfl,rfl⟩|g1|g1),g2⟩)
   .exact .inl h
   .exact .inr (.inr (.inl (.inl h)))
   .exact .inr (.inr (.inr (.inl h)))
   .obtain⟨g2,g3,g4,g5,g6⟩:=g2;rw[hx]at g2;cases g2;have:m=p:=by simp only at g4;omega
    subst this;rw[hst]at g5;cases g5;exact .inr (.inl (by simpa[ndE,St.do_,St.term]using g6))
   .exact .inr (.inr (.inl (.inr ⟨n,Dn,x,m,s,g1,g2⟩)))
   exact .inr (.inr (.inr (.inr ⟨n,Dn,x,m,s,g1,g2⟩)))
  by_cases h4:o=4
  .subst h4;obtain⟨_,_,la,hb⟩:=h1.loop rfl;subst hb;obtain⟨n1,n2⟩:=h1.loopN;have hE:okD nv (Zz D (ouL a (p+1) D)):=X5X hD (X3n a _ _ hD).len;have hA:=ia p (p+1) (k+2) (k+1) _ la hv.1.1.2 hq.1.1.2 hE e;rw[Xck hv.1.1.2 hD]at hA;simp only[show ¬((4:Int)=0\/(4:Int)=1) by decide,show ¬(4:Int)=5 by decide,show ¬(4:Int)=3 by decide,Nj,Nc,Ni,Ng,Dk,or_false,ctL];rw[hA,X8h,Xck hv.1.1.2 hD];constructor
   .rintro(h|h|h|(h|h))
    .exact .inl (.inl h)
    .exact .inr ⟨k+1,_,_,p,_,.inr (.inl ⟨rfl,rfl⟩),n2,by simp,rfl,hst,by simpa[ndE,St.do_,St.term]using h⟩
    .exact .inl (.inr (.inl h))
    .exact .inl (.inr (.inr h))
    obtain⟨n,Dn,x,m,s,g1,g2⟩:=h;exact .inr ⟨n,Dn,x,m,s,.inr (.inr g1),g2⟩
   rintro((h|h|h)|⟨n,Dn,x,m,s,(⟨rfl,rfl⟩|⟨rfl,rfl⟩|g1),g2⟩)
   .exact .inl h
   .exact .inr (.inr (.inl h))
   .exact .inr (.inr (.inr (.inl h)))
   .rw[n1]at g2;obtain⟨g2,g3,_⟩:=g2;cases g2;exact absurd rfl g3
   .obtain⟨g2,g3,g4,g5,g6⟩:=g2;rw[n2]at g2;cases g2;have:m=p:=by simp only at g4;omega
    subst this;rw[hst]at g5;cases g5;exact .inr (.inl (by simpa[ndE,St.do_,St.term]using g6))
   exact .inr (.inr (.inr (.inr ⟨n,Dn,x,m,s,g1,g2⟩)))
  have hab:a=[]/\b=[]:=by
   have:=h1.g;simp only[gS,N3,Nf,N5,De]at this;rcases this.1 with(h|h)|h
   .exact absurd h h3
   .exact absurd h.1 h4
   exact⟨h.1,h.2⟩
  obtain⟨rfl,rfl⟩:=hab;have hx:=h1.leafN h3 h4;simp only[N7 h3,N7 h4,ctL,Dk,or_false]
  have hnd:(∃(n:Nat) (Dn:Ds) (x:Nd) (m:Nat) (s:St),(n=k/\Dn=inD D)/\N[n]? =some x/\x.k≠4/\x.a=(m:Int)/\steps[m]? =some s/\ndE n0 hats s m Dn e)↔ndE n0 hats (.mk o c' w q t [] [] bs) p (inD D) e:=by
   constructor
   .rintro⟨n,Dn,x,m,s,⟨rfl,rfl⟩,g2,g3,g4,g5,g6⟩;rw[hx]at g2;cases g2;have:m=p:=by simp only at g4;omega
    subst this;rw[hst]at g5;cases g5;exact g6
   intro h;exact⟨k,_,_,p,_,⟨rfl,rfl⟩,hx,by simp,rfl,hst,h⟩
  rw[hnd];refine or_congr Iff.rfl ?_
  have hnd2:ndE n0 hats (.mk o c' w q t [] [] bs) p (inD D) e↔(if o=5 then ∃h,hats[q.toNat]? =some h/\∃v∈tmV h.term,e=⟨(n0:Int)+v,p,2⟩
   else ∃v∈tmV t,∃d:Nat,inD D v.toNat d/\e=⟨d,p,0⟩):=Iff.rfl
  rw[hnd2];by_cases h01:o=0\/o=1
  .rw[N8 h01,N7 (by omega),X8h]
  rw[N7 h01];by_cases h5:o=5
  .rw[N8 h5,N8 h5];cases hh:hats[q.toNat]? with
   |none=>simp
   | some h=>
     simp only[X5F,Option.some.injEq,exists_eq_left']
  rw[N7 h5,N7 h5]
  have ht:tmV t=[]:=hq.1.1.1.resolve_left fun h=>by
   have e1:¬o=0:=fun h=>h01 (.inl h);have e2:¬o=1:=fun h=>h01 (.inr h);rcases h with h|h|h|h|h
   .exact e1 h
   .exact e2 h
   .exact h3 h
   .exact h4 h
   exact h5 h
  simp[ht]
 rw[key];simp only[Ni]
 have hsp:bkE N steps n0 hats (.mk o c' w q t a b bs::l) p k (inD D) e↔(∃(n:Nat) (Dn:Ds) (x:Nd) (m:Nat) (s:St),(if o=3 then(n=k/\Dn=inD D)\/lcL a (p+1) (k+1) (inD D) n Dn\/lcL b (p+1+szL a) (k+1+wdL a) (inD D) n Dn
    else if o=4 then(n=k/\Dn=inD D)\/(n=k+1/\Dn=lpD a p (inD D))\/lcL a (p+1) (k+2) (lpD a p (inD D)) n Dn
    else n=k/\Dn=inD D)/\N[n]? =some x/\x.k≠4/\x.a=(m:Int)/\steps[m]? =some s/\ndE n0 hats s m Dn e)\/bkE N steps n0 hats l (p+(1+szL a+szL b)) (k+wdS (.mk o c' w q t a b bs)) (tr1 o w a b p (inD D)) e:=by
  unfold bkE;constructor
  .rintro⟨n,Dn,x,m,s,g1,g2⟩;unfold lcL at g1;rcases g1 with g1|g1
   .exact .inl ⟨n,Dn,x,m,s,g1,g2⟩
   exact .inr ⟨n,Dn,x,m,s,g1,g2⟩
  rintro(⟨n,Dn,x,m,s,g1,g2⟩|⟨n,Dn,x,m,s,g1,g2⟩)
  .exact⟨n,Dn,x,m,s,by unfold lcL;exact .inl g1,g2⟩
  exact⟨n,Dn,x,m,s,by unfold lcL;exact .inr g1,g2⟩
 rw[hsp];constructor
 .rintro(((h|h|h|h)|h)|(h|h))
  .exact .inl (.inl h)
  .exact .inl (.inr (.inl h))
  .exact .inl (.inr (.inr (.inl h)))
  .exact .inl (.inr (.inr (.inr (.inl h))))
  .exact .inr (.inl h)
  .exact .inl (.inr (.inr (.inr (.inr h))))
  exact .inr (.inr h)
 rintro((h|h|h|h|h)|(h|h))
 .exact .inl (.inl (.inl h))
 .exact .inl (.inl (.inr (.inl h)))
 .exact .inl (.inl (.inr (.inr (.inl h))))
 .exact .inl (.inl (.inr (.inr (.inr h))))
 .exact .inr (.inl h)
 .exact .inl (.inr h)
 exact .inr (.inr h)
end
end Go.Proofs.YtdajceakaakdoaaGreat
namespace Go.Proofs.YtdajceakaakdoaaGreat
open Go Go.Hl
open Tryz(prog)
def X2S (n0:Nat) (hats:List Ht) (steps:List St) (x:Nd) (row:List Nat):List Dp:=
 if x.a<0\/x.k=4 then [] else match steps[x.a.toNat]? with
  | some s=>if s.do_=5 then(match hats[s.n.toNat]? with|some h=>rlE n0 x.a.toNat h.term|none=>[])
    else(tmV s.term).flatMap fun v=>(row.filter fun d=>decide (Qk steps d=v)).map fun d:Nat=>(⟨(d:Int),(x.a.toNat:Int),0⟩:Dp)
  |none=>[]
def X2R (n0:Nat) (hats:List Ht) (steps:List St) (N:List Nd) (R:List (List Nat)):List Dp:=(N.zip R).flatMap fun p=>X2S n0 hats steps p.1 p.2
def D0 (n nv:Nat):Dfs:=(List.range nv).map fun x=>[n+x]
theorem D0_ok (n nv:Nat):okD nv (D0 n nv):=by
 refine⟨by simp[D0],fun r hr=>?_⟩;unfold D0 at hr;obtain⟨x,_,rfl⟩:=NG.1 hr;simp
theorem D0_in (n nv:Nat):inD (D0 n nv)=stD0 n nv:=by
 funext v d
 refine propext ?_;unfold inD stD0 D0;rw[Nn];by_cases h:v<nv
 .rw[List.getElem?_range h];simp[h]
 rw[Ny (by simpa using h)];simp[h]
theorem wf_va {vars:List Vr} {nh:Nat}:∀l:List St,wfL vars nh l=true->vaL vars.length l=true:=by
 apply St.lind
 .intro _;simp[vaL]
 intro o c w q t a b bs l ia ib il h;simp only[wfL,wfS,N3]at h;simp only[vaL,N3];refine⟨⟨⟨?_,ia h.1.2.2.2.2.2.1⟩,ib h.1.2.2.2.2.2.2⟩,il h.2⟩;simp only[Nf,Nu,Nh,N5];by_cases h5:o=0\/o=5
 .refine .inr ?_;have hw:=h.1.2.1;simp only[Nf,N5]at hw;have hl:=hw.resolve_left fun h=>by omega
  obtain⟨h0,x,hx⟩:=X2H hl;exact(N6.1 hx).1
 exact .inl h5
theorem X68 {t:Tm} (h:WQ t=true):tmV t=[]:=by
 obtain⟨o,n,ks⟩:=t;simp only[WQ,N3,N5]at h;obtain⟨ho,_,hk⟩:=h;have hk:ks=[]:=Ns hk;simp[tmV,X1S,hk,ho]
theorem ss_qu {vars:List Vr} {nh:Nat}:∀l:List St,(∀q∈flL l,∃last,shB vars nh q.do_ q.var q.n q.term q.then_.length q.else_.length q.bounds last=true)->quL l=true:=by
 apply St.lind
 .intro _;simp[quL]
 intro o c w q t a b bs l ia ib il h;simp only[flL,flS,Ni,Ng]at h;simp only[quL,N3];refine⟨⟨⟨?_,ia fun q hq=>h q (.inl (.inr (.inl hq)))⟩,ib fun q hq=>h q (.inl (.inr (.inr hq)))⟩,il fun q hq=>h q (.inr hq)⟩;obtain⟨last,hs⟩:=h (.mk o c w q t a b bs) (.inl (.inl rfl));simp only[St.do_,St.var,St.n,St.term,St.then_,St.else_,St.bounds]at hs;simp only[Nf,N5];unfold shB at hs;by_cases h2:o=2
 .subst h2;simp only[N3,Int.reduceEq,Nc,Nj]at hs;exact .inr (X68 hs.2)
 by_cases h6:o=6
 .subst h6;simp only[N3,Int.reduceEq,Nc,Nj]at hs;exact .inr (X68 hs.1.2)
 refine .inl ?_;by_cases h0:o=0
 .exact .inl h0
 by_cases h1:o=1
 .exact .inr (.inl h1)
 by_cases h3:o=3
 .exact .inr (.inr (.inl h3))
 by_cases h4:o=4
 .exact .inr (.inr (.inr (.inl h4)))
 by_cases h5:o=5
 .exact .inr (.inr (.inr (.inr h5)))
 rw[N7 h0,N7 h1,N7 h2,N7 h3,N7 h4,N7 h5,N7 h6]at hs;cases hs
theorem X8R {N:List Nd} {steps:List St} {nv n:Nat} {r:List Nat} (h:(rcL N steps nv)[n]? =some r) (d:Nat):d∈r↔d<steps.length+nv/\Rc N steps nv n d:=by
 classical
 have hlt:n<N.length:=by have:=(N6.1 h).1;simpa[rcL]using this
 have:(rcL N steps nv)[n]? =some ((List.range (steps.length+nv)).filter fun d=>decide (Rc N steps nv n d)):=by simp[rcL,hlt]
 rw[this]at h;cases h;rw[NN,List.mem_range,N5]
theorem X2E {T Y:Type}:∀{l:List T} {m:List Y} {p:T×Y},p∈l.zip m↔∃i:Nat,l[i]? =some p.1/\m[i]? =some p.2
 |[],m,p=>by simp
 |a::l,[],p=>by simp
 | a ::l,b::m,p=>by
   rw[List.zip_cons_cons,Ng,X2E];constructor
   .rintro(rfl|⟨i,h1,h2⟩)
    .exact⟨0,rfl,rfl⟩
    exact⟨i+1,by simpa using h1,by simpa using h2⟩
   rintro⟨i,h1,h2⟩;cases i with
   | zero=>
     simp only[List.getElem?_cons_zero,Option.some.injEq]at h1 h2;exact .inl (by obtain⟨x,y⟩:=p;simp only at h1 h2;rw[h1,h2])
   |succ i=>exact .inr ⟨i,by simpa using h1,by simpa using h2⟩
theorem dat_bk {f:Fl} (h:Sm f) (h0:XR f=0) (hvf:∀q∈flL f.body,∀v∈tmV q.term,0<=v) (e:Dp):
  e∈X2R (flL f.body).length f.hats (flL f.body) (grN f.body) (rcL (grN f.body) (flL f.body) f.vars.length)↔bkE (grN f.body) (flL f.body) (flL f.body).length f.hats f.body 0 1 (stD0 (flL f.body).length f.vars.length) e:=by
 have hg:=X0T h0;have hl:=X0g h h0;have hok:=X6L hg;have hlen:=X1q hg;have hrl:(rcL (grN f.body) (flL f.body) f.vars.length).length=(grN f.body).length:=X3S _ _ _;unfold X2R bkE;simp only[List.mem_flatMap]
 have key:∀(n:Nat) (x:Nd) (r:List Nat) (Dn:Ds),(grN f.body)[n]? =some x->(rcL (grN f.body) (flL f.body) f.vars.length)[n]? =some r->lcL f.body 0 1 (stD0 (flL f.body).length f.vars.length) n Dn->0<=x.a->x.k≠4->∀s,(flL f.body)[x.a.toNat]? =some s->
   (e∈X2S (flL f.body).length f.hats (flL f.body) x r↔ndE (flL f.body).length f.hats s x.a.toNat Dn e):=by
  intro n x r Dn hx hr hD ha hk s hs;unfold X2S ndE;rw[N7 (by omega),hs];simp only;split
  .cases hh:f.hats[s.n.toNat]? with
   |none=>simp
   |some hh=>simp only[X5F,Option.some.injEq,exists_eq_left']
  simp only[List.mem_flatMap,NG,NN,N5];constructor
  .rintro⟨v,hv,d,⟨hd,hvo⟩,rfl⟩;have hv0:=hvf s (N4 hs) v hv;refine⟨v,hv,d,(lc_rc h h0 hD _ _).2 ⟨((X8R hr d).1 hd).2,by rw[hvo];omega⟩,rfl⟩
  rintro⟨v,hv,d,hd,rfl⟩;have hv0:=hvf s (N4 hs) v hv;obtain⟨h1,h2⟩:=(lc_rc h h0 hD _ _).1 hd;refine⟨v,hv,d,⟨(X8R hr d).2 ⟨rc_lt (fun y hy hay=>?_) h1,h1⟩,by rw[h2];omega⟩,rfl⟩;rcases(hok y hy).ha with h5|⟨m,h5,h6⟩
  .simp[QK,h5.1]at hay
  rw[h5,Q2];simpa using h6
 constructor
 .rintro⟨⟨x,r⟩,hp,he⟩;obtain⟨n,hx,hr⟩:=X2E.1 hp;simp only at hx hr he
  have hnz:0<=x.a/\x.k≠4:=by
   by_cases hc:x.a<0\/x.k=4
   .unfold X2S at he;rw[N8 hc]at he;cases he
   omega
  have hrange:1<=n/\n<1+wdL f.body:=by
   have hnl:=(N6.1 hx).1;rw[hlen]at hnl;refine⟨Nat.pos_of_ne_zero ?_,?_⟩
   .rintro rfl;unfold grN at hx;simp only[List.getElem?_cons_zero,Option.some.injEq]at hx;rw[<-hx]at hnz;simp at hnz
   refine Nat.lt_of_le_of_ne (by omega) ?_;intro e'
   have:(grN f.body)[1+wdL f.body]? =some ⟨1,-1,-1,-1⟩:=by
    unfold grN;rw[Nat.add_comm,List.getElem?_cons_succ,Np (by rw[Wb _ _ _ _ hg];omega),Wb _ _ _ _ hg,Nat.sub_self];rfl
   rw[e',this]at hx;cases hx;simp at hnz
  obtain⟨Dn,hD⟩:=lc_all f.body 0 1 (stD0 (flL f.body).length f.vars.length) n hg hrange.1 hrange.2;obtain⟨m,hm1,hm2⟩:=((hok x (N4 hx)).ha).resolve_left fun h=>by omega
  rw[<-Q2]at hm2;have hs:(flL f.body)[x.a.toNat]? =some (flL f.body)[m]:=by rw[hm1,Int.toNat_natCast,Nz hm2]
  have:=(key n x r Dn hx hr hD hnz.1 hnz.2 _ hs).1 he;exact⟨n,Dn,x,x.a.toNat,_,hD,hx,hnz.2,by omega,hs,this⟩
 rintro⟨n,Dn,x,a,s,hD,hx,hk,ha,hs,he⟩;have hnl:=(N6.1 hx).1;obtain⟨r,hr,_⟩:=Xt (show n<(rcL (grN f.body) (flL f.body) f.vars.length).length by rw[hrl];exact hnl);have ha2:x.a.toNat=a:=by omega
 refine⟨(x,r),X2E.2 ⟨n,hx,hr⟩,?_⟩;exact(key n x r Dn hx hr hD (by omega) hk s (by rw[ha2];exact hs)).2 (by rw[ha2];exact he)
theorem prog_ref {f:Fl} (h:Sm f) (h0:XR f=0) (hvf:∀q∈flL f.body,∀v∈tmV q.term,0<=v) (e:Dp):
  e∈ctL f.body (-1) 0++X2R (flL f.body).length f.hats (flL f.body) (grN f.body) (rcL (grN f.body) (flL f.body) f.vars.length)↔e∈edL (flL f.body).length f.hats f.body (-1) 0 (D0 (flL f.body).length f.vars.length):=by
 have hl:=X0g h h0;rw[Ni,dat_bk h h0 hvf,ed_mem f.body (-1) 0 1 (1+wdL f.body) _ hl (wf_va _ hl.wf) (ss_qu _ (X2e f.body true (Q6 h0).2.2.2.1)) (D0_ok _ _),D0_in]
def tmP (cnd:St->Bool) (end_:Int) (steps:List St):List Dp:=(steps.zipIdx).flatMap fun s=>if cnd s.1=true then [⟨s.2,end_,1⟩] else []
theorem X87 (cnd:St->Bool) (end_:Int) (steps:List St) (e:Dp):e∈tmP cnd end_ steps↔∃(i:Nat) (s:St),steps[i]? =some s/\cnd s=true/\e=⟨(i:Nat),end_,1⟩:=by
 unfold tmP;simp only[List.mem_flatMap];constructor
 .rintro⟨⟨s,i⟩,hs,he⟩;have hs':=List.mem_zipIdx_iff_getElem?.1 hs;simp only at he hs';split at he
  .rename_i hc;exact⟨i,s,hs',hc,by simpa using he⟩
  cases he
 rintro⟨i,s,hs,hc,rfl⟩;exact⟨(s,i),List.mem_zipIdx_iff_getElem?.2 hs,by simp[hc]⟩
def dpB (a b:Dp):Bool:=decide (a.f<b.f)||(decide (a.f=b.f)&&(decide (a.t<b.t)||(decide (a.t=b.t)&&decide (a.k<b.k))))
theorem Ze {a b:Dp}:dpB a b=true↔a.f<b.f\/(a.f=b.f/\(a.t<b.t\/(a.t=b.t/\a.k<b.k))):=by simp[dpB]
theorem XbH:∀{l m:List Dp},l.Pairwise (fun a b=>dpB a b=true)->m.Pairwise (fun a b=>dpB a b=true)->(∀x,x∈l↔x∈m)->l=m
 |[],[],_,_,_=>rfl
 |[],b::m,_,_,h=>absurd ((h b).2 (by simp)) (by simp)
 |a::l,[],_,_,h=>absurd ((h a).1 (by simp)) (by simp)
 | a ::l,b::m,hl,hm,h=>by
   rw[NS]at hl hm
   have hab:a=b:=by
    rcases Ng.1 ((h a).1 (by simp))with e|e
    .exact e
    rcases Ng.1 ((h b).2 (by simp))with e2|e2
    .exact e2.symm
    have h1:=Ze.1 (hm.1 a e);have h2:=Ze.1 (hl.1 b e2);omega
   subst hab;have irr:∀x:Dp,¬dpB x x=true:=fun x hx=>by have:=Ze.1 hx;omega
   congr 1;refine XbH hl.2 hm.2 fun x=>?_;constructor
   .intro hx;rcases Ng.1 ((h x).1 (by simp[hx]))with e|e
    .subst e;exact absurd (hl.1 x hx) (irr x)
    exact e
   intro hx;rcases Ng.1 ((h x).2 (by simp[hx]))with e|e
   .subst e;exact absurd (hm.1 x hx) (irr x)
   exact e
def Z5 (t:List Dp) (v:Dp):List Dp:=if v∈t then t else t++[v]
def XV:List Dp->List Dp->List Dp
 |[],t=>t
 |v::l,t=>XV l (Z5 t v)
theorem X13 (a b:List Dp):∀t,XV (a++b) t=XV b (XV a t):=by
 induction a with
 |nil=>intro t;rfl
 |cons v a ih=>intro t;exact ih _
theorem XdU (t:List Dp) (v x:Dp):x∈Z5 t v↔x∈t\/x=v:=by
 unfold Z5;split
 .rename_i h;exact⟨.inl,fun h2=>h2.elim id fun e=>e▸h⟩
 simp
theorem Wm (l:List Dp):∀(t:List Dp) (x:Dp),x∈XV l t↔x∈t\/x∈l:=by
 induction l with
 |nil=>intro t x;simp[XV]
 | cons v l ih=>
   intro t x;rw[XV,ih,XdU,Ng,or_assoc]
theorem X9w {t:List Dp} (h:t.Nodup) (v:Dp):(Z5 t v).Nodup:=by
 unfold Z5;split
 .exact h
 rename_i hn;rw[List.nodup_append];exact⟨h,by simp,fun a ha b hb=>by rw[Nl.1 hb];rintro rfl;exact hn ha⟩
theorem X0I (l:List Dp):∀(t:List Dp),t.Nodup->(XV l t).Nodup:=by
 induction l with
 |nil=>intro t h;exact h
 |cons v l ih=>intro t h;exact ih _ (X9w h v)
def WH (l:List Dp):List Dp:=(XV l []).mergeSort fun a b=> !dpB b a
theorem Xed (a b:Dp):(!dpB b a|| !dpB a b)=true:=by
 cases h1:dpB b a with
 |false=>rfl
 | true=>
   cases h2:dpB a b with
   |false=>rfl
   |true=>have:=Ze.1 h1;have:=Ze.1 h2;omega
theorem XdN (a b c:Dp) (h1:(!dpB b a)=true) (h2:(!dpB c b)=true):(!dpB c a)=true:=by
 simp only[Nu,<-Bool.not_eq_true]at*;rw[Ze]at*;omega
theorem X0e (l:List Dp) (x:Dp):x∈WH l↔x∈l:=by
 rw[WH,List.mem_mergeSort,Wm];simp
theorem X0Y (l:List Dp):(WH l).Pairwise (fun a b=>dpB a b=true):=by
 have h3:=List.pairwise_mergeSort (le:=fun a b=> !dpB b a) (fun a b c=>XdN a b c) (fun a b=>Xed a b) (XV l []);have h4:(WH l).Nodup:=(List.mergeSort_perm _ _).nodup_iff.2 (X0I l [] (by simp));refine(List.pairwise_and_iff.2 ⟨h3,h4⟩).imp fun {a b} ⟨h5,h6⟩=>?_;simp only[Nu,<-Bool.not_eq_true]at h5;rw[Ze]at h5⊢;have h6:a≠b:=h6;have:¬(a.f=b.f/\a.t=b.t/\a.k=b.k):=fun⟨e1,e2,e3⟩=>h6 (by obtain⟨x,y,z⟩:=a;obtain⟨x',y',z'⟩:=b;simp only at e1 e2 e3;rw[e1,e2,e3]);omega
theorem X5e {l m:List Dp} (h:∀x,x∈l↔x∈m):WH l=WH m:=XbH (X0Y l) (X0Y m) fun x=>by rw[X0e,X0e,h]
theorem XaE {l m:List Dp} (h:m.Pairwise (fun a b=>dpB a b=true)) (hm:∀x,x∈m↔x∈l):m=WH l:=XbH h (X0Y l) fun x=>by rw[X0e,hm]
end Go.Proofs.YtdajceakaakdoaaGreat
