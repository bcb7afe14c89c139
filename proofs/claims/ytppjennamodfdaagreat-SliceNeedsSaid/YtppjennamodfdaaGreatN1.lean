/- Part 1: contracts of functions of the program and of the reference, and plain facts about what they compute; used by the proof of the claimed statement. Conditions: as each theorem states. -/
import Derived.Test.YtppjennamodfdaaGreatProg
import Derived.Test.YtppjennamodfdaaGreatNHmZ
import Derived.KernelRfl
import Derived.Test.YtppjennamodfdaaGreatNHmZI
import Derived.Test.YtppjennamodfdaaGreatNHmZJ
set_option linter.unusedSimpArgs false
set_option linter.unusedVariables false
set_option linter.unnecessarySimpa false
set_option maxRecDepth 100000
set_option maxHeartbeats 2000000
namespace Go.Proofs.YtppjennamodfdaaGreat
open Go Go.Hl
@[simp] theorem ty3:Q2 Tryz.prog 3=some ⟨1,8,false,[.int .i64 0],.other⟩:=by kernel_rfl
@[simp] theorem pf3:QE Tryz.prog 3=false:=by kernel_rfl
@[simp] theorem sf3:XL Tryz.prog 3=false:=by kernel_rfl
@[simp] theorem ty4:Q2 Tryz.prog 4=some ⟨1,1,false,[.bool false],.other⟩:=by kernel_rfl
@[simp] theorem bt4:X5q Tryz.prog 4=true:=by kernel_rfl
@[simp] theorem pf4:QE Tryz.prog 4=false:=by kernel_rfl
@[simp] theorem sf4:XL Tryz.prog 4=false:=by kernel_rfl
@[simp] theorem ty5:Q2 Tryz.prog 5=some ⟨1,1,false,[.int .u8 0],.other⟩:=by kernel_rfl
@[simp] theorem pf5:QE Tryz.prog 5=false:=by kernel_rfl
@[simp] theorem sf5:XL Tryz.prog 5=false:=by kernel_rfl
@[simp] theorem ty9:Q2 Tryz.prog 9=some ⟨1,16,false,[.string ⟨#[]⟩],.other⟩:=by kernel_rfl
@[simp] theorem st9:strT Tryz.prog 9=true:=by kernel_rfl
@[simp] theorem pf9:QE Tryz.prog 9=false:=by kernel_rfl
@[simp] theorem sf9:XL Tryz.prog 9=false:=by kernel_rfl
@[simp] theorem ty22:Q2 Tryz.prog 22=some ⟨1,24,false,[.slice none 0 0],.slice 64⟩:=by kernel_rfl
@[simp] theorem pf22:QE Tryz.prog 22=false:=by kernel_rfl
@[simp] theorem sl22:XL Tryz.prog 22=true:=by kernel_rfl
@[simp] theorem ty23:Q2 Tryz.prog 23=some ⟨1,24,false,[.slice none 0 0],.slice 99⟩:=by kernel_rfl
@[simp] theorem pf23:QE Tryz.prog 23=false:=by kernel_rfl
@[simp] theorem sl23:XL Tryz.prog 23=true:=by kernel_rfl
@[simp] theorem ty24:Q2 Tryz.prog 24=some ⟨1,24,false,[.slice none 0 0],.slice 76⟩:=by kernel_rfl
@[simp] theorem pf24:QE Tryz.prog 24=false:=by kernel_rfl
@[simp] theorem sl24:XL Tryz.prog 24=true:=by kernel_rfl
@[simp] theorem ty26:Q2 Tryz.prog 26=some ⟨3,72,true,[.slice none 0 0,.slice none 0 0,.slice none 0 0],.struct [(0,22),(1,23),(2,24)]⟩:=by kernel_rfl
@[simp] theorem pf26:QE Tryz.prog 26=false:=by kernel_rfl
@[simp] theorem sf26:XL Tryz.prog 26=false:=by kernel_rfl
@[simp] theorem ty27:Q2 Tryz.prog 27=some ⟨1,24,false,[.slice none 0 0],.slice 3⟩:=by kernel_rfl
@[simp] theorem pf27:QE Tryz.prog 27=false:=by kernel_rfl
@[simp] theorem sl27:XL Tryz.prog 27=true:=by kernel_rfl
@[simp] theorem ty30:Q2 Tryz.prog 30=some ⟨1,8,false,[.int .i64 0],.other⟩:=by kernel_rfl
@[simp] theorem pf30:QE Tryz.prog 30=false:=by kernel_rfl
@[simp] theorem sf30:XL Tryz.prog 30=false:=by kernel_rfl
@[simp] theorem ty32:Q2 Tryz.prog 32=some ⟨1,8,false,[.nilFunc],.other⟩:=by kernel_rfl
@[simp] theorem pf32:QE Tryz.prog 32=false:=by kernel_rfl
@[simp] theorem sf32:XL Tryz.prog 32=false:=by kernel_rfl
@[simp] theorem ty52:Q2 Tryz.prog 52=some ⟨3,72,true,[.slice none 0 0,.slice none 0 0,.slice none 0 0],.struct [(0,27),(1,27),(2,27)]⟩:=by kernel_rfl
@[simp] theorem pf52:QE Tryz.prog 52=false:=by kernel_rfl
@[simp] theorem sf52:XL Tryz.prog 52=false:=by kernel_rfl
@[simp] theorem ty55:Q2 Tryz.prog 55=some ⟨2,32,true,[.slice none 0 0,.int .i64 0],.struct [(0,27),(1,3)]⟩:=by kernel_rfl
@[simp] theorem pf55:QE Tryz.prog 55=false:=by kernel_rfl
@[simp] theorem sf55:XL Tryz.prog 55=false:=by kernel_rfl
@[simp] theorem ty61:Q2 Tryz.prog 61=some ⟨6,144,true,[.slice none 0 0,.slice none 0 0,.slice none 0 0,.slice none 0 0,.slice none 0 0,.slice none 0 0],.struct [(0,52),(3,52)]⟩:=by kernel_rfl
@[simp] theorem pf61:QE Tryz.prog 61=false:=by kernel_rfl
@[simp] theorem sf61:XL Tryz.prog 61=false:=by kernel_rfl
@[simp] theorem ty62:Q2 Tryz.prog 62=some ⟨1,8,false,[.int .i64 0],.other⟩:=by kernel_rfl
@[simp] theorem pf62:QE Tryz.prog 62=false:=by kernel_rfl
@[simp] theorem sf62:XL Tryz.prog 62=false:=by kernel_rfl
@[simp] theorem ty64:Q2 Tryz.prog 64=some ⟨5,48,true,[.string ⟨#[]⟩,.int .i64 0,.int .i64 0,.int .i64 0,.int .i64 0],.struct [(0,9),(1,62),(2,3),(3,3),(4,3)]⟩:=by kernel_rfl
@[simp] theorem pf64:QE Tryz.prog 64=false:=by kernel_rfl
@[simp] theorem sf64:XL Tryz.prog 64=false:=by kernel_rfl
@[simp] theorem ty66:Q2 Tryz.prog 66=some ⟨1,24,false,[.slice none 0 0],.slice 32⟩:=by kernel_rfl
@[simp] theorem pf66:QE Tryz.prog 66=false:=by kernel_rfl
@[simp] theorem sl66:XL Tryz.prog 66=true:=by kernel_rfl
@[simp] theorem ty70:Q2 Tryz.prog 70=some ⟨1,8,false,[.int .i64 0],.other⟩:=by kernel_rfl
@[simp] theorem pf70:QE Tryz.prog 70=false:=by kernel_rfl
@[simp] theorem sf70:XL Tryz.prog 70=false:=by kernel_rfl
@[simp] theorem ty71:Q2 Tryz.prog 71=some ⟨1,8,false,[.int .i64 0],.other⟩:=by kernel_rfl
@[simp] theorem pf71:QE Tryz.prog 71=false:=by kernel_rfl
@[simp] theorem sf71:XL Tryz.prog 71=false:=by kernel_rfl
@[simp] theorem ty72:Q2 Tryz.prog 72=some ⟨1,24,false,[.slice none 0 0],.slice 74⟩:=by kernel_rfl
@[simp] theorem pf72:QE Tryz.prog 72=false:=by kernel_rfl
@[simp] theorem sl72:XL Tryz.prog 72=true:=by kernel_rfl
@[simp] theorem ty74:Q2 Tryz.prog 74=some ⟨3,40,true,[.int .i64 0,.int .i64 0,.slice none 0 0],.struct [(0,71),(1,3),(2,72)]⟩:=by kernel_rfl
@[simp] theorem pf74:QE Tryz.prog 74=false:=by kernel_rfl
@[simp] theorem sf74:XL Tryz.prog 74=false:=by kernel_rfl
@[simp] theorem ty76:Q2 Tryz.prog 76=some ⟨10,144,true,[.int .i64 0,.int .i64 0,.int .i64 0,.int .i64 0,.int .i64 0,.int .i64 0,.slice none 0 0,.slice none 0 0,.slice none 0 0,.slice none 0 0],.struct [(0,70),(1,3),(2,3),(3,3),(4,74),(7,24),(8,24),(9,27)]⟩:=by kernel_rfl
@[simp] theorem pf76:QE Tryz.prog 76=false:=by kernel_rfl
@[simp] theorem sf76:XL Tryz.prog 76=false:=by kernel_rfl
@[simp] theorem ty77:Q2 Tryz.prog 77=some ⟨1,24,false,[.slice none 0 0],.slice 27⟩:=by kernel_rfl
@[simp] theorem pf77:QE Tryz.prog 77=false:=by kernel_rfl
@[simp] theorem sl77:XL Tryz.prog 77=true:=by kernel_rfl
@[simp] theorem ty82:Q2 Tryz.prog 82=some ⟨1,8,false,[.pointer none],.other⟩:=by kernel_rfl
@[simp] theorem pt82:QE Tryz.prog 82=true:=by kernel_rfl
@[simp] theorem sf82:XL Tryz.prog 82=false:=by kernel_rfl
@[simp] theorem ty86:Q2 Tryz.prog 86=some ⟨1,8,false,[.map none],.other⟩:=by kernel_rfl
@[simp] theorem mt86:mapT Tryz.prog 86=some (.int .i64,.bool false):=by kernel_rfl
@[simp] theorem im86:XaH Tryz.prog 86=true:=by kernel_rfl
@[simp] theorem pf86:QE Tryz.prog 86=false:=by kernel_rfl
@[simp] theorem sf86:XL Tryz.prog 86=false:=by kernel_rfl
@[simp] theorem ty90:Q2 Tryz.prog 90=some ⟨1,24,false,[.slice none 0 0],.slice 92⟩:=by kernel_rfl
@[simp] theorem pf90:QE Tryz.prog 90=false:=by kernel_rfl
@[simp] theorem sl90:XL Tryz.prog 90=true:=by kernel_rfl
@[simp] theorem ty92:Q2 Tryz.prog 92=some ⟨1,24,false,[.slice none 0 0],.slice 4⟩:=by kernel_rfl
@[simp] theorem pf92:QE Tryz.prog 92=false:=by kernel_rfl
@[simp] theorem sl92:XL Tryz.prog 92=true:=by kernel_rfl
@[simp] theorem ty96:Q2 Tryz.prog 96=some ⟨6,144,true,[.slice none 0 0,.slice none 0 0,.slice none 0 0,.slice none 0 0,.slice none 0 0,.slice none 0 0],.struct [(0,26),(3,24),(4,27),(5,77)]⟩:=by kernel_rfl
@[simp] theorem pf96:QE Tryz.prog 96=false:=by kernel_rfl
@[simp] theorem sf96:XL Tryz.prog 96=false:=by kernel_rfl
@[simp] theorem ty99:Q2 Tryz.prog 99=some ⟨6,72,true,[.string ⟨#[]⟩,.int .i64 0,.int .i64 0,.int .i64 0,.int .i64 0,.slice none 0 0],.struct [(0,9),(1,3),(2,3),(3,74)]⟩:=by kernel_rfl
@[simp] theorem pf99:QE Tryz.prog 99=false:=by kernel_rfl
@[simp] theorem sf99:XL Tryz.prog 99=false:=by kernel_rfl
@[simp] theorem ty100:Q2 Tryz.prog 100=some ⟨1,8,false,[.nilFunc],.other⟩:=by kernel_rfl
@[simp] theorem pf100:QE Tryz.prog 100=false:=by kernel_rfl
@[simp] theorem sf100:XL Tryz.prog 100=false:=by kernel_rfl
@[simp] theorem ty120:Q2 Tryz.prog 120=some ⟨3,56,true,[.slice none 0 0,.slice none 0 0,.int .i64 0],.struct [(0,27),(1,27),(2,3)]⟩:=by kernel_rfl
@[simp] theorem pf120:QE Tryz.prog 120=false:=by kernel_rfl
@[simp] theorem sf120:XL Tryz.prog 120=false:=by kernel_rfl
@[simp] theorem pf125:QE Tryz.prog 125=false:=by kernel_rfl
@[simp] theorem sf125:XL Tryz.prog 125=false:=by kernel_rfl
@[simp] theorem ty134:Q2 Tryz.prog 134=some ⟨1,8,false,[.nilFunc],.other⟩:=by kernel_rfl
@[simp] theorem pf134:QE Tryz.prog 134=false:=by kernel_rfl
@[simp] theorem sf134:XL Tryz.prog 134=false:=by kernel_rfl
@[simp] theorem ty137:Q2 Tryz.prog 137=some ⟨1,24,false,[.slice none 0 0],.slice 143⟩:=by kernel_rfl
@[simp] theorem pf137:QE Tryz.prog 137=false:=by kernel_rfl
@[simp] theorem sl137:XL Tryz.prog 137=true:=by kernel_rfl
@[simp] theorem ty139:Q2 Tryz.prog 139=some ⟨1,24,true,[.slice none 0 0],.struct [(0,137)]⟩:=by kernel_rfl
@[simp] theorem pf139:QE Tryz.prog 139=false:=by kernel_rfl
@[simp] theorem sf139:XL Tryz.prog 139=false:=by kernel_rfl
@[simp] theorem ty141:Q2 Tryz.prog 141=some ⟨1,8,false,[.int .i64 0],.other⟩:=by kernel_rfl
@[simp] theorem pf141:QE Tryz.prog 141=false:=by kernel_rfl
@[simp] theorem sf141:XL Tryz.prog 141=false:=by kernel_rfl
@[simp] theorem ty143:Q2 Tryz.prog 143=some ⟨4,32,true,[.int .i64 0,.int .i64 0,.int .i64 0,.int .i64 0],.struct [(0,141),(1,3),(2,3),(3,3)]⟩:=by kernel_rfl
@[simp] theorem pf143:QE Tryz.prog 143=false:=by kernel_rfl
@[simp] theorem sf143:XL Tryz.prog 143=false:=by kernel_rfl
@[simp] theorem ty161:Q2 Tryz.prog 161=some ⟨1,8,false,[.int .i64 0],.other⟩:=by kernel_rfl
@[simp] theorem pf161:QE Tryz.prog 161=false:=by kernel_rfl
@[simp] theorem sf161:XL Tryz.prog 161=false:=by kernel_rfl
@[simp] theorem pf168:QE Tryz.prog 168=false:=by kernel_rfl
@[simp] theorem sf168:XL Tryz.prog 168=false:=by kernel_rfl
@[simp] theorem pf170:QE Tryz.prog 170=false:=by kernel_rfl
@[simp] theorem sf170:XL Tryz.prog 170=false:=by kernel_rfl
@[simp] theorem ty174:Q2 Tryz.prog 174=some ⟨1,8,false,[.nilFunc],.other⟩:=by kernel_rfl
@[simp] theorem pf174:QE Tryz.prog 174=false:=by kernel_rfl
@[simp] theorem sf174:XL Tryz.prog 174=false:=by kernel_rfl
@[simp] theorem pf187:QE Tryz.prog 187=false:=by kernel_rfl
@[simp] theorem sf187:XL Tryz.prog 187=false:=by kernel_rfl
@[simp] theorem ty194:Q2 Tryz.prog 194=some ⟨1,24,false,[.slice none 0 0],.slice 86⟩:=by kernel_rfl
@[simp] theorem pf194:QE Tryz.prog 194=false:=by kernel_rfl
@[simp] theorem sl194:XL Tryz.prog 194=true:=by kernel_rfl
@[simp] theorem ty204:Q2 Tryz.prog 204=some ⟨2,16,true,[.int .i64 0,.bool false],.struct [(0,3),(1,4)]⟩:=by kernel_rfl
@[simp] theorem pf204:QE Tryz.prog 204=false:=by kernel_rfl
@[simp] theorem sf204:XL Tryz.prog 204=false:=by kernel_rfl
@[simp] theorem ty207:Q2 Tryz.prog 207=some ⟨3,24,true,[.int .i64 0,.int .i64 0,.int .i64 0],.struct [(0,3),(1,3),(2,3)]⟩:=by kernel_rfl
@[simp] theorem pf207:QE Tryz.prog 207=false:=by kernel_rfl
@[simp] theorem sf207:XL Tryz.prog 207=false:=by kernel_rfl
@[simp] theorem ty209:Q2 Tryz.prog 209=some ⟨1,8,false,[.pointer none],.other⟩:=by kernel_rfl
@[simp] theorem pt209:QE Tryz.prog 209=true:=by kernel_rfl
@[simp] theorem sf209:XL Tryz.prog 209=false:=by kernel_rfl
@[simp] theorem ty211:Q2 Tryz.prog 211=some ⟨2,32,true,[.slice none 0 0,.int .i64 0],.struct [(0,137),(1,3)]⟩:=by kernel_rfl
@[simp] theorem pf211:QE Tryz.prog 211=false:=by kernel_rfl
@[simp] theorem sf211:XL Tryz.prog 211=false:=by kernel_rfl
@[simp] theorem ty212:Q2 Tryz.prog 212=some ⟨1,24,false,[.slice none 0 0],.slice 100⟩:=by kernel_rfl
@[simp] theorem pf212:QE Tryz.prog 212=false:=by kernel_rfl
@[simp] theorem sl212:XL Tryz.prog 212=true:=by kernel_rfl
@[simp] theorem ty219:Q2 Tryz.prog 219=some ⟨1,24,false,[.slice none 0 0],.slice 62⟩:=by kernel_rfl
@[simp] theorem pf219:QE Tryz.prog 219=false:=by kernel_rfl
@[simp] theorem sl219:XL Tryz.prog 219=true:=by kernel_rfl
@[simp] theorem ty223:Q2 Tryz.prog 223=some ⟨1,24,false,[.slice none 0 0],.slice 24⟩:=by kernel_rfl
@[simp] theorem pf223:QE Tryz.prog 223=false:=by kernel_rfl
@[simp] theorem sl223:XL Tryz.prog 223=true:=by kernel_rfl
@[simp] theorem ty230:Q2 Tryz.prog 230=some ⟨2,16,true,[.int .i64 0,.int .i64 0],.struct [(0,3),(1,3)]⟩:=by kernel_rfl
@[simp] theorem pf230:QE Tryz.prog 230=false:=by kernel_rfl
@[simp] theorem sf230:XL Tryz.prog 230=false:=by kernel_rfl
@[simp] theorem ty237:Q2 Tryz.prog 237=some ⟨1,24,false,[.slice none 0 0],.slice 230⟩:=by kernel_rfl
@[simp] theorem pf237:QE Tryz.prog 237=false:=by kernel_rfl
@[simp] theorem sl237:XL Tryz.prog 237=true:=by kernel_rfl
@[simp] theorem fsV:flatS Tryz.prog 64=some [false,true,true,true,true]:=by kernel_rfl
@[simp] theorem arV:arrI Tryz.prog 64=none:=by kernel_rfl
theorem Xc {n:Int} (h1:-9223372036854775808≤n) (h2:n≤9223372036854775807):IntKind.i64.wrap n=n:=IntWalk.i64_in n ⟨h1,h2⟩
inductive Tm where
 |mk (op n:Int) (kids:List Tm)
mutual
def Tm.enc:Tm→List CD
 | .mk o n ks=>[iC o,iC n,.sl 3 (Xo ks)]
def Xo:List Tm→List (List CD)
 |[]=>[]
 |t::l=>t.enc::Xo l
end
inductive St where
 |mk (do_ cost var n:Int) (term:Tm) (then_ else_:List St) (bounds:List Int)
def Xj (l:List Int):List (List CD):=l.map fun n=>[iC n]
mutual
def St.enc:St→List CD
 | .mk d c v n t a b bs=>[iC d,iC c,iC v,iC n]++t.enc++[.sl 10 (Xa a),.sl 10 (Xa b),.sl 1 (Xj bs)]
def Xa:List St→List (List CD)
 |[]=>[]
 |s::l=>s.enc::Xa l
end
structure Vr where
 name:ByteArray
 kind:Int
 low:Int
 high:Int
 init:Int
structure Ht where
 name:ByteArray
 low:Int
 high:Int
 term:Tm
structure Fl where
 vars:List Vr
 hats:List Ht
 body:List St
def Vr.enc (v:Vr):List CD:=[sC v.name,iC v.kind,iC v.low,iC v.high,iC v.init]
def Ht.enc (h:Ht):List CD:=[sC h.name,iC h.low,iC h.high]++h.term.enc
def Xs (l:List Vr):List (List CD):=l.map Vr.enc
def Xt (l:List Ht):List (List CD):=l.map Ht.enc
def Fl.enc (f:Fl):List CD:=[.sl 5 (Xs f.vars),.sl 6 (Xt f.hats),.sl 10 (Xa f.body)]
attribute [simp] Vr.enc Ht.enc Fl.enc Tm.enc St.enc
theorem X0N (l:List Tm):Xo l=l.map Tm.enc:=by
 induction l with
 |nil=>simp[Xo]
 |cons t l ih=>simp[Xo,ih]
theorem W2 (l:List St):Xa l=l.map St.enc:=by
 induction l with
 |nil=>simp[Xa]
 |cons t l ih=>simp[Xa,ih]
theorem Tm.ind {p:Tm→Prop} (h:∀o n ks,(∀t∈ks,p t)→p (.mk o n ks)):∀t,p t
 | .mk o n ks=>h o n ks fun t ht=>Tm.ind h t
theorem St.ind {p:St→Prop} (h:∀d c v n t a b bs,(∀s∈a,p s)→(∀s∈b,p s)→p (.mk d c v n t a b bs)):∀s,p s
 | .mk d c v n t a b bs=>h d c v n t a b bs (fun s hs=>St.ind h s) (fun s hs=>St.ind h s)
def Tm.op:Tm→Int| .mk o _ _=>o
def Tm.n:Tm→Int| .mk _ n _=>n
def Tm.kids:Tm→List Tm| .mk _ _ k=>k
def St.do_:St→Int| .mk d _ _ _ _ _ _ _=>d
def St.cost:St→Int| .mk _ c _ _ _ _ _ _=>c
def St.var:St→Int| .mk _ _ v _ _ _ _ _=>v
def St.n:St→Int| .mk _ _ _ n _ _ _ _=>n
def St.term:St→Tm| .mk _ _ _ _ t _ _ _=>t
def St.then_:St→List St| .mk _ _ _ _ _ a _ _=>a
def St.else_:St→List St| .mk _ _ _ _ _ _ b _=>b
def St.bounds:St→List Int| .mk _ _ _ _ _ _ _ bs=>bs
abbrev aT (t:Tm):TV:=.agg (t.enc.map .c)
abbrev aS (s:St):TV:=.agg (s.enc.map .c)
abbrev aV (v:Vr):TV:=.agg (v.enc.map .c)
abbrev aH (h:Ht):TV:=.agg (h.enc.map .c)
abbrev aF (f:Fl):TV:=.agg (f.enc.map .c)
abbrev lV (l:List Vr):TV:=.one (.c (.sl 5 (Xs l)))
abbrev lS (l:List St):TV:=.one (.c (.sl 10 (Xa l)))
abbrev lI (l:List Int):TV:=.one (.c (.sl 1 (Xj l)))
theorem Wt {ks:List Tm} {i:Nat} {t:Tm} (h:ks[i]? =some t):(Xo ks)[i]? =some t.enc:=by rw[X0N,List.getElem?_map,h];rfl
theorem XX {ks:List St} {i:Nat} {t:St} (h:ks[i]? =some t):(Xa ks)[i]? =some t.enc:=by rw[W2,List.getElem?_map,h];rfl
@[simp] theorem len_encT (ks:List Tm):(Xo ks).length=ks.length:=by rw[X0N,List.length_map]
@[simp] theorem len_encS (ks:List St):(Xa ks).length=ks.length:=by rw[W2,List.length_map]
@[simp] theorem len_encV (ks:List Vr):(Xs ks).length=ks.length:=by simp[Xs]
@[simp] theorem len_encH (ks:List Ht):(Xt ks).length=ks.length:=by simp[Xt]
@[simp] theorem X1T (ks:List Int):(Xj ks).length=ks.length:=by simp[Xj]
@[simp] theorem get_encV (ks:List Vr) (i:Nat):(Xs ks)[i]? =ks[i]?.map Vr.enc:=by simp[Xs]
@[simp] theorem get_encH (ks:List Ht) (i:Nat):(Xt ks)[i]? =ks[i]?.map Ht.enc:=by simp[Xt]
@[simp] theorem X8y (ks:List Int) (i:Nat):(Xj ks)[i]? =ks[i]?.map fun n=>[iC n]:=by simp[Xj]
@[simp] theorem encV_nil:Xs []=[]:=rfl
@[simp] theorem encH_nil:Xt []=[]:=rfl
@[simp] theorem encI_nil:Xj []=[]:=rfl
attribute [simp] Xo Xa
theorem Xq {α:Type} {l:List α} {k:Nat} (h:k<l.length):∃x,l[k]? =some x∧l.drop k=x::l.drop (k+1):=
 ⟨l[k],List.getElem?_eq_getElem h,List.drop_eq_getElem_cons h⟩
theorem XA {k n:Nat} (h:k<n) (hn:n≤1000000000):IntKind.i64.wrap ((k:Int)+1)=(k:Int)+1:=Xc (by omega) (by omega)
end Go.Proofs.YtppjennamodfdaaGreat

namespace Go.Proofs.YtppjennamodfdaaGreat
open Go Go.Hl
abbrev Wr (rows:List (List CD)) (d:Int):List (Nat×Ob):=[(900001,.row 143 4 rows),(1000000,.box [.own 900001,.c (iC d)])]
theorem X15 {rows:List (List CD)} {d:Int}:∀n cs,lkp (Wr rows d) n=some (.box cs)→1000000≤n:=by
 intro n cs h;simp only[lkp]at h;split at h
 · cases h
 split at h
 · omega
 cases h
theorem X8c {rows:List (List CD)} {d:Int} {pv:Option Value}:∀v,pv=some v→∃cs,lkp (Wr rows d) 1000000=some (.box cs):=fun _ _=>⟨_,rfl⟩
abbrev atB:RV:=.v (.one (.at_ 1000000 0))
def nxB (v:Value) (rows rows':List (List CD)) (d k:Int) (m c:Nat) (x:RV) (R:List Nat):HS:=
 {trS ⟨⟨12,some v⟩,QX 0 [.one (.c (iC k)),.one (.c (.ptr [.lit v])),.one (.c (.ptr [iC m]))],[]⟩ [(0,4,x),(1,5,atB),(2,6,atB),(3,7,.v (.one (.own 900001))),(4,8,lit (.int .i64 m)),(5,9,lit (.int .i64 k)),(6,10,.v (.one (.el 900001 4 m 0))),(7,11,.v (.one (.el 900001 4 m c)))] R with objs:=if R.isEmpty then Wr rows' d else Wr rows d}
def stpB:List (List Nat×Nat):=[([0,1,2,3,4,5,6,7,8],0),([0,1,2,3,4,5,6,7,8],4),([0,1,2,3,4,5,6,7,8],5),([1,2,3,4,5,6,7,8],1),([1,2,3,4,5,6,7,8],4),([1,2,3,4,5,6,7,8],5),([0,1,2,3,5,6,7,8],0),([0,1,2,3,5,6,7,8],5),([0,1,2,3,4,6,7,8],0),([0,1,2,3,4,6,7,8],4),([2,3,4,5,6,7,8],2),([2,3,4,5,6,7,8],4),([2,3,4,5,6,7,8],5),([1,2,3,5,6,7,8],1),([1,2,3,5,6,7,8],5),([1,2,3,4,6,7,8],1),([1,2,3,4,6,7,8],4),([0,1,2,3,6,7,8],0),([3,4,5,6,7,8],3),([3,4,5,6,7,8],4),([3,4,5,6,7,8],5),([2,3,5,6,7,8],2),([2,3,5,6,7,8],5),([2,3,4,6,7,8],2),([2,3,4,6,7,8],4),([1,2,3,6,7,8],1),([4,5,6,7,8],4),([4,5,6,7,8],5),([3,5,6,7,8],3),([3,5,6,7,8],5),([3,4,6,7,8],3),([3,4,6,7,8],4),([2,3,6,7,8],2),([5,6,7,8],5),([4,6,7,8],4),([3,6,7,8],3),([6,7,8],6),([7,8],7),([8],8)]
theorem XbT (v:Value) (rows:List (List CD)) (d k:Int) (m:Nat) (r:List CD) (hr:rows[m]? =some r) (hl:r.length=4):
  X1q Tryz.prog 184 (some v) (Wr rows d) [.one (.c (iC k)),.one (.c (.ptr [.lit v])),.one (.c (.ptr [iC m]))] (fun _:Unit=>True) (fun _=>.tup []) (fun _=>Wr (setRow rows m 2 [iC k]) d):=by
 have hin:inR rows m=true:=by simp[inR,(List.getElem?_eq_some_iff.1 hr).1]
 have hlen:m<rows.length:=(List.getElem?_eq_some_iff.1 hr).1;refine Qs Tryz.func184 rfl (by kernel_rfl) (Nat.le_of_ble_eq_true rfl) ?_ ?_ ?_
 · exact X15
 · intro v' h;exact⟨_,rfl⟩
 simp only[Tryz.f184];refine X7f (nxB v rows (setRow rows m 2 [iC k]) d k m 2 atB) stpB rfl (by kernel_rfl) (by kernel_rfl) (by kernel_rfl) rfl ?_ ?_
 · simp only[stpB,List.forall_mem_cons,List.not_mem_nil,false_implies,implies_true,and_true];refine⟨?_,?_,?_,?_,?_,?_,?_,?_,?_,?_,?_,?_,?_,?_,?_,?_,?_,?_,?_,?_,?_,?_,?_,?_,?_,?_,?_,?_,?_,?_,?_,?_,?_,?_,?_,?_,?_,?_,?_⟩
   all_goals first
    |(refine XT.evE rfl ?_;simp[evc,evs,nxB,trS,QX,ins,W9,QA,hin,hlen];done)
    | (refine XT.evN (nxB v rows (setRow rows m 2 [iC k]) d k m 2 (.v (.one (.c (.lit v))))) rfl ?_ ?_
       · simp[evc,nxB,trS,QX,ins,W9,QA]
       refine XaY (v:=v) (cs:=[.own 900001,.c (iC d)]) rfl rfl rfl ?_ ?_<;>simp[nxB,trS,QX,ins,QA,Zr,pnR,pnC,pnO,pnL,lkp])
 refine⟨.inl rfl,(),trivial,_,le_refl _,⟨[],rfl,rfl⟩,?_⟩;intro n o h;simpa[nxB]using h
theorem XaP (v:Value) (rows:List (List CD)) (d k:Int) (m:Nat) (r:List CD) (hr:rows[m]? =some r) (hl:r.length=4):
  X1q Tryz.prog 200 (some v) (Wr rows d) [.one (.c (iC k)),.one (.c (.ptr [.lit v])),.one (.c (.ptr [iC m]))] (fun _:Unit=>True) (fun _=>.tup []) (fun _=>Wr (setRow rows m 3 [iC k]) d):=by
 have hin:inR rows m=true:=by simp[inR,(List.getElem?_eq_some_iff.1 hr).1]
 have hlen:m<rows.length:=(List.getElem?_eq_some_iff.1 hr).1;refine Qs Tryz.func200 rfl (by kernel_rfl) (Nat.le_of_ble_eq_true rfl) ?_ ?_ ?_
 · exact X15
 · intro v' h;exact⟨_,rfl⟩
 simp only[Tryz.f200];refine X7f (nxB v rows (setRow rows m 3 [iC k]) d k m 3 atB) stpB rfl (by kernel_rfl) (by kernel_rfl) (by kernel_rfl) rfl ?_ ?_
 · simp only[stpB,List.forall_mem_cons,List.not_mem_nil,false_implies,implies_true,and_true];refine⟨?_,?_,?_,?_,?_,?_,?_,?_,?_,?_,?_,?_,?_,?_,?_,?_,?_,?_,?_,?_,?_,?_,?_,?_,?_,?_,?_,?_,?_,?_,?_,?_,?_,?_,?_,?_,?_,?_,?_⟩
   all_goals first
    |(refine XT.evE rfl ?_;simp[evc,evs,nxB,trS,QX,ins,W9,QA,hin,hlen];done)
    | (refine XT.evN (nxB v rows (setRow rows m 3 [iC k]) d k m 3 (.v (.one (.c (.lit v))))) rfl ?_ ?_
       · simp[evc,nxB,trS,QX,ins,W9,QA]
       refine XaY (v:=v) (cs:=[.own 900001,.c (iC d)]) rfl rfl rfl ?_ ?_<;>simp[nxB,trS,QX,ins,QA,Zr,pnR,pnC,pnO,pnL,lkp])
 refine⟨.inl rfl,(),trivial,_,le_refl _,⟨[],rfl,rfl⟩,?_⟩;intro n o h;simpa[nxB]using h
end Go.Proofs.YtppjennamodfdaaGreat

namespace Go.Proofs.YtppjennamodfdaaGreat
open Go Go.Hl
abbrev pV (b:Nat):Value:=.pointer (some ⟨b,0,none⟩)
abbrev nxC (b m:Nat):CD:=.fn 184 [.ptr [.lit (pV b)],.ptr [iC m]]
abbrev otC (b m:Nat):CD:=.fn 200 [.ptr [.lit (pV b)],.ptr [iC m]]
theorem X1y (b m:Nat) (d:Nat):Con Tryz.prog 169 false [.one (.c (.lit (pV b))),.one (.c (iC m))] (.v (.one (.c (nxC b m)))) none d:=by
 refine X7 Tryz.func169 ?_;simp only[Tryz.f169];refine X4 ?_;refine X4 ?_;exact Xbc (fun h=>⟨.inr rfl,h⟩) (regs:=[(4,.v (.one (.c (nxC b m))))]) (XbI (by simp[Zr,X1S,X1u,Zs,lkp])) (by simp;rfl) rfl
theorem X4n (b m:Nat) (d:Nat):Con Tryz.prog 196 false [.one (.c (.lit (pV b))),.one (.c (iC m))] (.v (.one (.c (otC b m)))) none d:=by
 refine X7 Tryz.func196 ?_;simp only[Tryz.f196];refine X4 ?_;refine X4 ?_;exact Xbc (fun h=>⟨.inr rfl,h⟩) (regs:=[(4,.v (.one (.c (otC b m))))]) (XbI (by simp[Zr,X1S,X1u,Zs,lkp])) (by simp;rfl) rfl
end Go.Proofs.YtppjennamodfdaaGreat

namespace Go.Proofs.YtppjennamodfdaaGreat
open Go Go.Hl
abbrev Q0 (k d:Int):List CD:=[iC k,iC d,iC (-1),iC (-1)]
theorem WZ (b:Nat) (rows:List (List CD)) (d k:Int) (hr:rows.length≤2000000):
  X1q Tryz.prog 195 (some (pV b)) (Wr rows d) [.one (.c (.lit (pV b))),.one (.c (iC k))] (fun _:Unit=>True) (fun _=>.tup []) (fun _=>Wr (rows++[Q0 k d]) d):=by
 have hroom:Qa (rows.length+1) 32:=Xx (by omega) (by decide);refine Qs Tryz.func195 rfl (by kernel_rfl) (Nat.le_of_ble_eq_true rfl) X15 X8c ?_;simp only[Tryz.f195];refine XC (s':=⟨⟨19,some (pV b)⟩,[(0,atB),(1,lit (.int .i64 k))],Wr rows d⟩) (XaY (v:=pV b) (cs:=[.own 900001,.c (iC d)]) rfl rfl rfl (by simp[QX,Zr,pnR,pnC,lkp]) (by simp[Zr,pnO,pnL,pnC,lkp])) ?_;refine X5f [(7,1000000),(12,1000000),(18,1000000)] (by kernel_rfl) (by kernel_rfl) (by rfl) (by simp[evsH,X2h,Qq,hroom,XD,Qd,XQ,cellsOf,Qe,Wc,Wd,QY,WG,lkp,ins,del];rfl) ?_;refine⟨.inl rfl,(),trivial,⟨⟨19,some (pV b)⟩,[],Wr (rows++[Q0 k d]) d⟩,Xu (fun n=>if n=900001 then 16 else n) [] rfl ?_ ?_ ?_,⟨[],rfl,rfl⟩,fun n o h=>h⟩
 · trivial
 · simp[Zr,X0E,Ob.okNil,Ob.ren,lkp,CV.ren,CV.okNil]
 simp[Zr,X0E]
end Go.Proofs.YtppjennamodfdaaGreat

namespace Go.Proofs.YtppjennamodfdaaGreat
open Go Go.Hl
abbrev Wp:=Bool×Nat
abbrev Wp.c (b:Nat) (s:Wp):CD:=.fn (if s.1=true then 200 else 184) [.ptr [.lit (pV b)],.ptr [iC s.2]]
def X0z (rows:List (List CD)) (s:Wp) (k:Nat):List (List CD):=setRow rows s.2 (if s.1=true then 3 else 2) [iC k]
def XH (k:Nat):List Wp→List (List CD)→List (List CD)
 |[],rows=>rows
 |s::l,rows=>XH k l (X0z rows s k)
abbrev Bst:=List (List CD)×Int
mutual
def Z3:St→Nat→Bst→Bst×List Wp
 | .mk o _ _ _ _ a b _,k,st=>
   if o=3 then
    let x:=Qc a [(false,k)] (st.1++[Q0 3 st.2],st.2+1)
    let y:=Qc b [(true,k)] x.1
    (y.1,x.2++y.2)
   else if o=4 then
    let x:=Qc a [(false,k+1)] (setRow (st.1++[Q0 4 st.2]++[Q0 5 st.2]) k 2 [iC ((k:Int)+1)],st.2+1)
    ((XH (k+1) x.2 x.1.1,x.1.2),[(true,k+1)])
   else((st.1++[Q0 2 st.2],st.2+1),[(false,k)])
def Qc:List St→List Wp→Bst→Bst×List Wp
 |[],sl,st=>(st,sl)
 | s::l,sl,st=>
   let x:=Z3 s st.1.length (XH st.1.length sl st.1,st.2)
   Qc l x.2 x.1
end
mutual
def szN:St→Nat
 | .mk _ _ _ _ _ a b _=>2+X08 a+X08 b
def X08:List St→Nat
 |[]=>0
 |s::l=>szN s+X08 l
end
structure okB (sl:List Wp) (rows:List (List CD)):Prop where
 four:∀r∈rows,r.length=4
 lt:∀s∈sl,s.2<rows.length
theorem WC (rows:List (List CD)) (i off:Nat) (ds:List CD):(setRow rows i off ds).length=rows.length:=by
 unfold setRow;split<;>simp
theorem X0t {rows:List (List CD)} {i off:Nat} {x:CD} (h:∀r∈rows,r.length=4) (ho:off<4):∀r∈setRow rows i off [x],r.length=4:=by
 intro r hr;unfold setRow at hr;split at hr
 · rename_i r0 h0;rcases List.mem_or_eq_of_mem_set hr with hr|rfl
   · exact h r hr
   have:=h r0 (List.mem_of_getElem? h0);simp[this];omega
 exact h r hr
theorem X1F (rows:List (List CD)) (s:Wp) (k:Nat):(X0z rows s k).length=rows.length:=WC ..
theorem Q8 (k:Nat):∀(sl:List Wp) (rows:List (List CD)),(XH k sl rows).length=rows.length
 |[],_=>rfl
 |s::l,rows=>by rw[XH,Q8 k l,X1F]
theorem ZW {rows:List (List CD)} {s:Wp} {k:Nat} (h:∀r∈rows,r.length=4):∀r∈X0z rows s k,r.length=4:=
 X0t h (by split<;>omega)
theorem ZJ (k:Nat):∀(sl:List Wp) (rows:List (List CD)),(∀r∈rows,r.length=4)→∀r∈XH k sl rows,r.length=4
 |[],_,h=>h
 |s::l,rows,h=>ZJ k l _ (ZW h)
theorem Ws {rows:List (List CD)} {k d:Int} (h:∀r∈rows,r.length=4):∀r∈rows++[Q0 k d],r.length=4:=by
 intro r hr;rcases List.mem_append.1 hr with hr|hr
 · exact h r hr
 simp only[List.mem_singleton]at hr;rw[hr];rfl
mutual
theorem X54:∀(s:St) (k:Nat) (st:Bst),(∀r∈st.1,r.length=4)→k=st.1.length→
  okB (Z3 s k st).2 (Z3 s k st).1.1∧st.1.length≤(Z3 s k st).1.1.length∧(Z3 s k st).1.1.length≤st.1.length+szN s∧st.2≤(Z3 s k st).1.2∧(Z3 s k st).1.2≤st.2+szN s
 | .mk o c v n t a b bs,k,st,h4,hk=>by
   unfold Z3 szN;split
   · have ha:=Wq a [(false,k)] (st.1++[Q0 3 st.2],st.2+1) ⟨Ws h4,by simp[hk]⟩;obtain⟨a1,a2,a3,a4,a5⟩:=ha;obtain⟨x,hx⟩:∃x,Qc a [(false,k)] (st.1++[Q0 3 st.2],st.2+1)=x:=⟨_,rfl⟩;simp only[hx]at a1 a2 a3 a4 a5⊢;simp only[List.length_append,List.length_singleton]at a2 a3;have hb:=Wq b [(true,k)] x.1 ⟨a1.four,by simp;omega⟩;obtain⟨b1,b2,b3,b4,b5⟩:=hb;refine⟨⟨b1.four,fun s hs=>?_⟩,by omega,by omega,by omega,by omega⟩;rcases List.mem_append.1 hs with hs|hs
     · exact Nat.lt_of_lt_of_le (a1.lt s hs) b2
     exact b1.lt s hs
   split
   · have ha:=Wq a [(false,k+1)] (setRow (st.1++[Q0 4 st.2]++[Q0 5 st.2]) k 2 [iC ((k:Int)+1)],st.2+1) ⟨X0t (Ws (Ws h4)) (by omega),by simp[hk,WC]⟩;obtain⟨a1,a2,a3,a4,a5⟩:=ha;obtain⟨x,hx⟩:∃x,Qc a [(false,k+1)] (setRow (st.1++[Q0 4 st.2]++[Q0 5 st.2]) k 2 [iC ((k:Int)+1)],st.2+1)=x:=⟨_,rfl⟩;simp only[hx]at a1 a2 a3 a4 a5⊢;simp only[WC,List.length_append,List.length_singleton]at a2 a3;refine⟨⟨ZJ _ _ _ a1.four,fun s hs=>?_⟩,by rw[Q8];omega,by rw[Q8];omega,by omega,by omega⟩;simp only[List.mem_singleton]at hs;rw[hs,Q8];show k+1<_;omega
   refine⟨⟨Ws h4,fun s hs=>?_⟩,by simp,by simp;omega,by show st.2≤st.2+1;omega,by show st.2+1≤_;omega⟩;simp only[List.mem_singleton]at hs;rw[hs];simp[hk]
theorem Wq:∀(l:List St) (sl:List Wp) (st:Bst),okB sl st.1→
  okB (Qc l sl st).2 (Qc l sl st).1.1∧st.1.length≤(Qc l sl st).1.1.length∧(Qc l sl st).1.1.length≤st.1.length+X08 l∧st.2≤(Qc l sl st).1.2∧(Qc l sl st).1.2≤st.2+X08 l
 | [],sl,st,h=>by
   unfold Qc X08;exact⟨h,Nat.le_refl _,Nat.le_refl _,Int.le_refl _,by simp⟩
 | s::l,sl,st,h=>by
   unfold Qc X08;have ha:=X54 s st.1.length (XH st.1.length sl st.1,st.2) (ZJ _ _ _ h.four) (Q8 ..).symm;obtain⟨a1,a2,a3,a4,a5⟩:=ha;obtain⟨x,hx⟩:∃x,Z3 s st.1.length (XH st.1.length sl st.1,st.2)=x:=⟨_,rfl⟩;simp only[hx,Q8]at a1 a2 a3 a4 a5⊢;obtain⟨b1,b2,b3,b4,b5⟩:=Wq l x.2 x.1 a1;exact⟨b1,by omega,by omega,by omega,by omega⟩
end
mutual
theorem X8E:∀(s:St) (k:Nat) (st:Bst),(Z3 s k st).2.length≤szN s
 | .mk o c v n t a b bs,k,st=>by
   unfold Z3 szN;split
   · have h1:=Zw a [(false,k)] (st.1++[Q0 3 st.2],st.2+1);have h2:=Zw b [(true,k)] (Qc a [(false,k)] (st.1++[Q0 3 st.2],st.2+1)).1;simp only[List.length_singleton]at h1 h2;simp only[List.length_append];omega
   split<;>simp only[List.length_singleton]<;>omega
theorem Zw:∀(l:List St) (sl:List Wp) (st:Bst),(Qc l sl st).2.length≤max sl.length (X08 l)
 | [],sl,st=>by
   unfold Qc X08;exact Nat.le_max_left ..
 | s::l,sl,st=>by
   unfold Qc X08;have h1:=X8E s st.1.length (XH st.1.length sl st.1,st.2);have h2:=Zw l (Z3 s st.1.length (XH st.1.length sl st.1,st.2)).2 (Z3 s st.1.length (XH st.1.length sl st.1,st.2)).1;simp only at h1 h2⊢;omega
end
end Go.Proofs.YtppjennamodfdaaGreat

namespace Go.Proofs.YtppjennamodfdaaGreat
open Go Go.Hl
def QJ (b:Nat) (sl:List Wp):List (List CD):=sl.map fun s=>[s.c b]
@[simp] theorem len_encSl (b:Nat) (sl:List Wp):(QJ b sl).length=sl.length:=by simp[QJ]
theorem X3W {b:Nat} {sl:List Wp} {i:Nat} {s:Wp} (h:sl[i]? =some s):(QJ b sl)[i]? =some [s.c b]:=by simp[QJ,h]
def oneC (b:Nat) (s:St):Prop:=∀(k:Nat) (rows:List (List CD)) (d:Int),(∀r∈rows,r.length=4)→k=rows.length→rows.length+szN s≤1000000→0≤d→d+szN s≤1000000→
 X1q Tryz.prog 183 (some (pV b)) (Wr rows d) [.one (.c (.lit (pV b))),aS s,.one (.c (iC k))] (fun _:Unit=>True) (fun _=>.v (.one (.own 1))) (fun _=>(1,.row 100 1 (QJ b (Z3 s k (rows,d)).2))::Wr (Z3 s k (rows,d)).1.1 (Z3 s k (rows,d)).1.2)
theorem X63 (b:Nat) (rows:List (List CD)) (d:Int) (k:Nat) (s:Wp) (h4:∀r∈rows,r.length=4) (hs:s.2<rows.length):
  X1q Tryz.prog (if s.1=true then 200 else 184) (some (pV b)) (Wr rows d) [.one (.c (iC k)),.one (.c (.ptr [.lit (pV b)])),.one (.c (.ptr [iC s.2]))] (fun _:Unit=>True) (fun _=>.tup []) (fun _=>Wr (X0z rows s k) d):=by
 obtain⟨o,m⟩:=s;have hr:rows[m]? =some rows[m]:=List.getElem?_eq_getElem hs;unfold X0z;cases o with
 |true=>exact XaP (pV b) rows d k m _ hr (h4 _ (List.getElem_mem _))
 |false=>exact XbT (pV b) rows d k m _ hr (h4 _ (List.getElem_mem _))
theorem bldS_pin {x:Ob} {rows:List (List CD)} {d:Int} (hx:∀cs,x≠ .box cs):∀n cs,lkp ((1,x)::Wr rows d) n=some (.box cs)→1000000≤n:=by
 intro n cs h;simp only[lkp]at h;split at h
 · exact absurd (Option.some.inj h) (hx cs)
 exact X15 n cs h
set_option maxHeartbeats 4000000 in
theorem list_con (b:Nat) (l:List St) (hone:∀s∈l,oneC b s) (sl:List Wp) (rows:List (List CD)) (d:Int) (hok:okB sl rows) (hn:rows.length+X08 l≤1000000) (hd:0≤d) (hd2:d+X08 l≤1000000) (hl:l.length≤1000000) (hsl:sl.length≤1000000):
  X1q Tryz.prog 168 (some (pV b)) ((1,.row 100 1 (QJ b sl))::Wr rows d) [.one (.c (.lit (pV b))),lS l,.one (.own 1)] (fun _:Unit=>True) (fun _=>.v (.one (.own 1))) (fun _=>(1,.row 100 1 (QJ b (Qc l sl (rows,d)).2))::Wr (Qc l sl (rows,d)).1.1 (Qc l sl (rows,d)).1.2):=by
 obtain⟨RES,hR⟩:∃x,Qc l sl (rows,d)=x:=⟨_,rfl⟩;rw[hR];refine Qs Tryz.func168 rfl (by kernel_rfl) (Nat.le_of_ble_eq_true rfl) (bldS_pin (by intro cs;simp)) (fun _ _=>⟨_,rfl⟩) ?_;simp only[Tryz.f168];refine X0<|(Xn (by simp[*,Qj];rfl) ?_);refine X0<|X0<|(Xn (by simp[*,Qj];rfl) ?_);refine X5<|(Xd [0,12,13] (fun(x:Nat×List Wp×List (List CD)×Int)=>[(2,.v (.one (.own 1))),(14,lit (.int .i64 x.1))]) (fun(x:Nat×List Wp×List (List CD)×Int)=>(1,.row 100 1 (QJ b x.2.1))::Wr x.2.2.1 x.2.2.2) (fun(x:Nat×List Wp×List (List CD)×Int)=>okB x.2.1 x.2.2.1∧x.2.1.length≤1000000∧x.1≤l.length∧Qc (l.drop x.1) x.2.1 (x.2.2.1,x.2.2.2)=RES∧x.2.2.1.length+X08 (l.drop x.1)≤1000000∧0≤x.2.2.2∧x.2.2.2+X08 (l.drop x.1)≤1000000) (fun(x:Nat×List Wp×List (List CD)×Int)=>l.length - x.1) (0,sl,rows,d) ⟨hok,hsl,Nat.zero_le _,hR,hn,hd,hd2⟩ ?_ ?_)
 · exact Xu (fun n=>n) [] rfl (by simp[*,upS,X8,Qj]) (by simp[*,upS]) (by simp[upS])
 rintro⟨j,sl1,rows1,d1⟩ ⟨e1,e7,e2,e3,e4,e5,e6⟩;simp only[upS,X8,Xy]
 try simp only[X8,KN,Nat.reduceBEq,if_true,if_false,ins,Nat.reduceLT]
 simp only at e1 e7 e2 e3 e4 e5 e6;clear hR hok hn hd hd2 hsl;refine X0<|(Xn (by simp[*,Qj];rfl) ?_);refine X0<|(X9 rfl (fun h4=>Xb ?_) (fun h4=>?_))
 · (try simp only[BN]at h4);have hj:j<l.length:=by simpa using h4
   obtain⟨s,hs,hdr⟩:=Xq hj;have hse:=XX hs;rw[hdr]at e3 e4 e6;simp only[Qc,X08]at e3 e4 e6;have ho:=hone s (List.mem_of_getElem? hs);clear hone;obtain⟨o,c,v,n,⟨to,tn,tk⟩,sa,sb,bs⟩:=s;simp only[St.enc,Tm.enc,List.cons_append,List.nil_append]at hse;have hjn:j+1≤l.length:=hj;clear hj hs h4 hdr;refine X0<|X5<|X0<|(Xn (by simp[*,Qj];rfl) ?_);refine XC (X44 (v:=pV b) 0 rfl rfl rfl) ?_;simp only[ins,Nat.reduceLT,Nat.reduceEqDiff,if_true,if_false];refine X0<|(Xn (by simp[*,Qj];rfl) ?_);refine XC (X43 (v:=pV b) 0 rfl rfl rfl) ?_;simp only[ins,Nat.reduceLT,Nat.reduceEqDiff,if_true,if_false];refine X0<|X0<|(Xn (by simp[*,Qj];rfl) ?_);refine X5<|(Xd [0,8,9,12,13,14,23,24] (fun(x:Nat×List (List CD))=>[(25,lit (.int .i64 x.1))]) (fun(x:Nat×List (List CD))=>(1,.row 100 1 (QJ b sl1))::(8,.box [.c (iC o),.c (iC c),.c (iC v),.c (iC n),.c (iC to),.c (iC tn),.c (.sl 3 (Xo tk)),.c (.sl 10 (Xa sa)),.c (.sl 10 (Xa sb)),.c (.sl 1 (Xj bs))])::Wr x.2 d1) (fun(x:Nat×List (List CD))=>x.1≤sl1.length∧XH rows1.length (sl1.drop x.1) x.2=XH rows1.length sl1 rows1∧(∀r∈x.2,r.length=4)∧x.2.length=rows1.length) (fun(x:Nat×List (List CD))=>sl1.length - x.1) (0,rows1) ⟨Nat.zero_le _,rfl,e1.four,rfl⟩ ?_ ?_)
   · exact Xu (fun n=>n) [] rfl (by simp[*,upS,X8,Qj]) (by simp[*,upS]) (by simp[upS])
   rintro⟨i,rows2⟩ ⟨g1,g2,g3,g4⟩;simp only[upS,X8,Xy]
   try simp only[X8,KN,Nat.reduceBEq,if_true,if_false,ins,Nat.reduceLT]
   simp only at g1 g2 g3 g4;refine X0<|(Xn (by simp[*,Qj];rfl) ?_);refine X0<|(X9 rfl (fun h10=>Xb ?_) (fun h10=>?_))
   · (try simp only[BN]at h10);have hi:i<sl1.length:=by simpa using h10
     obtain⟨q,hq,hqd⟩:=Xq hi;have hqe:=X3W (b:=b) hq;rw[hqd]at g2;simp only[XH]at g2;have cq:=X63 b rows2 d1 rows1.length q g3 (by have:=e1.lt q (List.mem_of_getElem? hq);omega);have hw:=XA hi (by omega:sl1.length≤1000000000);have hin:i+1≤sl1.length:=hi;clear hi hq h10 hqd;refine X0<|X5<|X0<|(Xn (by simp[*,Qj];rfl) ?_);refine(XS ?_);refine RunsN.cutE 2 [] (by simp;rfl) trivial (le_refl _) ?_;refine RunsN.call (fun n=>n) (fun n=>if n=900001 then 40 else n) (by simp[gOfN,X3N,X1x,catT,TV.ren,CV.ren];rfl) (.inr ⟨rfl,rfl⟩) (WX (by simp[rbB,WQ,QK,CV.ren]) (by simp) (by simp) (by simp[rbB,WQ,QK,CV.ren]) (by simp[rbB,WQ,QK,CV.ren])) (fun _ _=>WX (by simp[rbB,WQ,QK,CV.ren]) (by simp) (by simp) (by simp[rbB,WQ,QK,CV.ren]) (by simp[rbB,WQ,QK,CV.ren])) cq (fun _ _=>rfl) fun _ _=>?_;refine RunsN.doneE [] (by simp;rfl) trivial ?_;refine(Xn (by simp[*,Qj];rfl) ?_);exact⟨(i+1,X0z rows2 q rows1.length),⟨hin,g2,ZW g3,(X1F ..).trans g4⟩,by simp only;omega,Xu (fun n=>if n=900001 then 40 else n) [] rfl (by simp[upS,X8, *,Qj]) (by simp[*,upS,Qj]) (by simp[upS])⟩
   try simp only[BN]at h10
   have hi:i=sl1.length:=by
    have:¬i<sl1.length:=by simpa using h10
    omega
   subst hi;rw[List.drop_length]at g2;simp only[XH]at g2;subst g2;clear h10 g1;have hb1:=X54 (.mk o c v n (.mk to tn tk) sa sb bs) rows1.length (XH rows1.length sl1 rows1,d1) g3 g4.symm;have hb2:=X8E (.mk o c v n (.mk to tn tk) sa sb bs) rows1.length (XH rows1.length sl1 rows1,d1);have cq:=ho rows1.length (XH rows1.length sl1 rows1) d1 g3 g4.symm (by omega) e5 (by omega);obtain⟨⟨⟨rows3,d3⟩,sl3⟩,hx⟩:∃x,Z3 (.mk o c v n (.mk to tn tk) sa sb bs) rows1.length (XH rows1.length sl1 rows1,d1)=x:=⟨_,rfl⟩;simp only[hx]at e3 hb1 hb2 cq;obtain⟨b1,b2,b3,b4,b5⟩:=hb1;rw[g4]at b2 b3;have hw:=XA (show j<l.length by omega) (by omega:l.length≤1000000000);clear ho hx e1 hse g3 g4;refine(Xg ?_);refine(XS ?_);refine RunsN.cutE 3 [] (by simp;rfl) trivial (le_refl _) ?_;refine RunsN.call (fun n=>n) (fun n=>if n=900001 then 40 else if n=1 then 41 else n) (by simp[gOfN,X3N,X1x,catT,TV.ren,CV.ren];rfl) (.inr ⟨rfl,rfl⟩) (WX (by simp[rbB,WQ,QK,CV.ren]) (by simp) (by simp) (by simp[rbB,WQ,QK,CV.ren]) (by simp[rbB,WQ,QK,CV.ren])) (fun _ _=>WX (by simp[rbB,WQ,QK,CV.ren]) (by simp) (by simp) (by simp[rbB,WQ,QK,CV.ren]) (by simp[rbB,WQ,QK,CV.ren])) cq (fun _ _=>rfl) fun _ _=>?_;refine RunsN.doneE [] (by simp;rfl) trivial ?_;refine(Xn (by simp[*,Qj];rfl) ?_);exact⟨(j+1,sl3,rows3,d3),⟨b1,by simp only;omega,hjn,e3,by simp only;omega,by simp only at b4⊢;omega,by simp only at b5⊢;omega⟩,by simp only;omega,Xu (fun n=>if n=900001 then 40 else if n=1 then 41 else n) [] rfl (by simp[upS,X8, *,Qj]) (by simp[*,upS,Qj]) (by simp[upS])⟩
 try simp only[BN]at h4
 have hj:j=l.length:=by
  have:¬j<l.length:=by simpa using h4
  omega
 subst hj;rw[List.drop_length]at e3;simp only[Qc]at e3;subst e3;clear h4 hone;refine(Xg ?_);refine X0<|(Xn (by simp[*,Qj];rfl) ?_);exact XU ⟨.inr rfl,(),trivial,_,le_refl _,⟨[.one (.own 1)],by simp,rfl⟩,fun n o h=>h⟩
end Go.Proofs.YtppjennamodfdaaGreat

namespace Go.Proofs.YtppjennamodfdaaGreat
open Go Go.Hl
theorem X9l:∀l:List St,l.length≤X08 l
 |[]=>Nat.le_refl _
 | .mk o c v n t a b bs::l=>by
   have:=X9l l;unfold X08 szN;simp only[List.length_cons];omega
def lstC (b:Nat) (l:List St):Prop:=∀(sl:List Wp) (rows:List (List CD)) (d:Int),okB sl rows→rows.length+X08 l≤1000000→0≤d→d+X08 l≤1000000→sl.length≤1000000→
 X1q Tryz.prog 168 (some (pV b)) ((1,.row 100 1 (QJ b sl))::Wr rows d) [.one (.c (.lit (pV b))),lS l,.one (.own 1)] (fun _:Unit=>True) (fun _=>.v (.one (.own 1))) (fun _=>(1,.row 100 1 (QJ b (Qc l sl (rows,d)).2))::Wr (Qc l sl (rows,d)).1.1 (Qc l sl (rows,d)).1.2)
theorem X2t {b:Nat} {l:List St} (h:∀s∈l,oneC b s):lstC b l:=fun sl rows d h1 h2 h3 h4 h5=>list_con b l h sl rows d h1 h2 h3 h4 (by have:=X9l l;omega) h5
abbrev X3i (o c v n to tn:Int) (tk:List Tm) (sa sb:List St) (bs:List Int):Ob:=.box [.c (iC o),.c (iC c),.c (iC v),.c (iC n),.c (iC to),.c (iC tn),.c (.sl 3 (Xo tk)),.c (.sl 10 (Xa sa)),.c (.sl 10 (Xa sb)),.c (.sl 1 (Xj bs))]
def ms6:List (Nat×List Nat):=[(511,[0,1,3,4]),(510,[1,3,4]),(509,[0,2,3,4]),(503,[0,1,4]),(495,[0,1,3]),(508,[2,3,4]),(502,[1,4]),(494,[1,3]),(505,[0,3,4]),(501,[0,2,4]),(493,[0,2,3]),(487,[0,1,5]),(504,[3,4]),(500,[2,4]),(492,[2,3]),(486,[1,5]),(497,[0,4]),(489,[0,3]),(485,[0,2,5]),(455,[0,1,6]),(496,[4]),(488,[3]),(484,[2,5]),(454,[1,6]),(481,[0,5]),(453,[0,2,6]),(391,[0,1]),(480,[5]),(452,[2,6]),(390,[1]),(449,[0,6]),(389,[0,2]),(448,[6]),(388,[2]),(385,[0]),(384,[7]),(256,[8])]
def ms7:List (Nat×List Nat):=[(2047,[0,1,2,4,5]),(2046,[1,2,4,5]),(2045,[0,2,4,5]),(2043,[0,1,3,4,5]),(2031,[0,1,2,5]),(2015,[0,1,2,4]),(2044,[2,4,5]),(2042,[1,3,4,5]),(2030,[1,2,5]),(2014,[1,2,4]),(2041,[0,3,4,5]),(2029,[0,2,5]),(2013,[0,2,4]),(2035,[0,1,4,5]),(2027,[0,1,3,5]),(2011,[0,1,3,4]),(1999,[0,1,2,6]),(2040,[3,4,5]),(2028,[2,5]),(2012,[2,4]),(2034,[1,4,5]),(2026,[1,3,5]),(2010,[1,3,4]),(1998,[1,2,6]),(2033,[0,4,5]),(2025,[0,3,5]),(2009,[0,3,4]),(1997,[0,2,6]),(2019,[0,1,5]),(2003,[0,1,4]),(1995,[0,1,3,6]),(1935,[0,1,2,7]),(2032,[4,5]),(2024,[3,5]),(2008,[3,4]),(1996,[2,6]),(2018,[1,5]),(2002,[1,4]),(1994,[1,3,6]),(1934,[1,2,7]),(2017,[0,5]),(2001,[0,4]),(1993,[0,3,6]),(1933,[0,2,7]),(1987,[0,1,6]),(1931,[0,1,3,7]),(1807,[0,1,2]),(2016,[5]),(2000,[4]),(1992,[3,6]),(1932,[2,7]),(1986,[1,6]),(1930,[1,3,7]),(1806,[1,2]),(1985,[0,6]),(1929,[0,3,7]),(1805,[0,2]),(1923,[0,1,7]),(1803,[0,1,3]),(1984,[6]),(1928,[3,7]),(1804,[2]),(1922,[1,7]),(1802,[1,3]),(1921,[0,7]),(1801,[0,3]),(1795,[0,1]),(1920,[7]),(1800,[3]),(1794,[1]),(1793,[0,8]),(1792,[8]),(1537,[0]),(1536,[9]),(1024,[10])]
def ms15:List (Nat×List Nat):=[(2047,[0,1,3,4,10]),(2046,[1,3,4,10]),(2045,[0,2,3,4,10]),(2039,[0,1,4,10]),(2031,[0,1,3,5,10]),(1023,[0,1,3,4]),(2044,[2,3,4,10]),(2038,[1,4,10]),(2030,[1,3,5,10]),(1022,[1,3,4]),(2041,[0,3,4,10]),(2037,[0,2,4,10]),(2029,[0,2,3,5,10]),(1021,[0,2,3,4]),(2023,[0,1,5,10]),(1015,[0,1,4]),(1999,[0,1,3,10]),(1007,[0,1,3,5]),(2040,[3,4,10]),(2036,[2,4,10]),(2028,[2,3,5,10]),(1020,[2,3,4]),(2022,[1,5,10]),(1014,[1,4]),(1998,[1,3,10]),(1006,[1,3,5]),(2033,[0,4,10]),(2025,[0,3,5,10]),(1017,[0,3,4]),(2021,[0,2,5,10]),(1013,[0,2,4]),(1997,[0,2,3,10]),(1005,[0,2,3,5]),(1991,[0,1,6,10]),(999,[0,1,5]),(975,[0,1,3]),(2032,[4,10]),(2024,[3,5,10]),(1016,[3,4]),(2020,[2,5,10]),(1012,[2,4]),(1996,[2,3,10]),(1004,[2,3,5]),(1990,[1,6,10]),(998,[1,5]),(974,[1,3]),(2017,[0,5,10]),(1009,[0,4]),(1993,[0,3,10]),(1001,[0,3,5]),(1989,[0,2,6,10]),(997,[0,2,5]),(973,[0,2,3]),(1927,[0,1,7,10]),(967,[0,1,6]),(2016,[5,10]),(1008,[4]),(1992,[3,10]),(1000,[3,5]),(1988,[2,6,10]),(996,[2,5]),(972,[2,3]),(1926,[1,7,10]),(966,[1,6]),(1985,[0,6,10]),(993,[0,5]),(969,[0,3]),(1925,[0,2,7,10]),(965,[0,2,6]),(1799,[0,1,10]),(903,[0,1,7]),(1984,[6,10]),(992,[5]),(968,[3]),(1924,[2,7,10]),(964,[2,6]),(1798,[1,10]),(902,[1,7]),(1921,[0,7,10]),(961,[0,6]),(1797,[0,2,10]),(901,[0,2,7]),(775,[0,1]),(1920,[7,10]),(960,[6]),(1796,[2,10]),(900,[2,7]),(774,[1]),(1793,[0,10]),(897,[0,7]),(773,[0,2]),(1792,[8,10]),(896,[7]),(772,[2]),(769,[0]),(1536,[9,10]),(768,[8]),(1024,[10]),(512,[9])]
def nx6 (b k:Nat) (B:Ob) (sa:List St) (x y:List (Nat×Ob)) (R:List Nat):HS:=
 {trS ⟨⟨100,some (pV b)⟩,[(0,.v (.one (.c (.lit (pV b))))),(2,lit (.int .i64 k)),(4,.v (.one (.at_ 4 0)))],[]⟩ [(0,23,.v (.one (.c (.lit (pV b))))),(1,24,.v (.one (.at_ 4 7))),(2,25,.v (lS sa)),(3,26,.v (.one (.c (.lit (pV b))))),(4,27,lit (.int .i64 k)),(5,28,.v (.one (.c (nxC b k)))),(6,29,.v (.one (.own 29))),(7,30,.v (.one (.own 30))),(8,7,.v (.one (.own 30)))] R with
  objs:=(4,B)::if R.contains 6 then x else if R.contains 7 then(29,.row 100 1 [[nxC b k]])::x else y}
def nx7 (b k:Nat) (B:Ob) (sb:List St) (r3 r4 r34:List (List CD)) (x y:List (Nat×Ob)) (R:List Nat):HS:=
 {trS ⟨⟨100,some (pV b)⟩,[(0,.v (.one (.c (.lit (pV b))))),(2,lit (.int .i64 k)),(4,.v (.one (.at_ 4 0))),(7,.v (.one (.own 30)))],[]⟩ [(0,31,.v (.one (.own 30))),(1,32,.v (.one (.c (.lit (pV b))))),(2,33,.v (.one (.at_ 4 8))),(3,34,.v (lS sb)),(4,35,.v (.one (.c (.lit (pV b))))),(5,36,lit (.int .i64 k)),(6,37,.v (.one (.c (otC b k)))),(7,38,.v (.one (.own 38))),(8,39,.v (.one (.own 39))),(9,40,.v (.one (.own 40))),(10,6,.v (.one (.own 40)))] R with
  objs:=(4,B)::if R.contains 7 then(30,.row 100 1 r3)::x else if R.contains 8 then(30,.row 100 1 r3)::(38,.row 100 1 [[otC b k]])::x else if R.contains 9 then(30,.row 100 1 r3)::(39,.row 100 1 r4)::y else(39,.row 100 1 r4)::(40,.row 100 1 r34)::y}
def X4X (b k:Nat) (B:Ob) (sa:List St) (nl:Nat) (x y:List (Nat×Ob)) (R:List Nat):HS:=
 {trS ⟨⟨100,some (pV b)⟩,[(0,.v (.one (.c (.lit (pV b))))),(2,lit (.int .i64 k)),(4,.v (.one (.at_ 4 0)))],[]⟩ [(0,63,.v (.one (.c (.lit (pV b))))),(1,64,.v (.one (.at_ 4 7))),(2,65,.v (lS sa)),(3,66,.v (.one (.c (.lit (pV b))))),(4,67,lit (.int .i64 k)),(5,68,lit (.int .i64 ((k:Int)+1))),(6,69,.v (.one (.c (nxC b (k+1))))),(7,70,.v (.one (.own 70))),(8,71,.v (.one (.own 71))),(9,72,lit (.int .i64 nl)),(10,73,lit (.int .i64 0))] R with
  objs:=(4,B)::if R.contains 7 then x else if R.contains 8 then(70,.row 100 1 [[nxC b (k+1)]])::x else y}
attribute [simp] nx6 nx7 X4X
@[simp] theorem encSl_next (b k:Nat):QJ b [(false,k)]=[[nxC b k]]:=rfl
@[simp] theorem encSl_oth (b k:Nat):QJ b [(true,k)]=[[otC b k]]:=rfl
@[simp] theorem encSl_app (b:Nat) (x y:List Wp):QJ b (x++y)=QJ b x++QJ b y:=by simp[QJ]
set_option maxHeartbeats 8000000 in
theorem one_then (b:Nat) (o c v n to tn:Int) (tk:List Tm) (sa sb:List St) (bs:List Int) (ha:lstC b sa) (hb:lstC b sb) (ho0:o=3):oneC b (.mk o c v n (.mk to tn tk) sa sb bs):=by
 intro k rows d h4 hk hn hd hd2;subst hk;obtain⟨RES,hR⟩:∃x,Z3 (.mk o c v n (.mk to tn tk) sa sb bs) rows.length (rows,d)=x:=⟨_,rfl⟩;rw[hR];simp only[szN]at hn hd2;unfold Z3 at hR;simp only[aS,St.enc,Tm.enc,List.map_cons,List.map_nil,List.cons_append,List.nil_append];refine Qs Tryz.func183 rfl (by kernel_rfl) (Nat.le_of_ble_eq_true rfl) X15 X8c ?_;simp only[Tryz.f183];have hw0:IntKind.i64.wrap (d+1)=d+1:=Xc (by omega) (by omega);have A3:=WZ b rows d 3 (by omega);have A4:=WZ b rows d 4 (by omega);have A2:=WZ b rows d 2 (by omega);have A5:=WZ b (rows++[Q0 4 d]) d 5 (by simp;omega);refine X4 ?_;refine X0<|X0<|X3 ?_;refine X5<|X0<|X3 ?_;refine(X9 rfl (fun h3=>?_) (fun h3=>?_))
 · (try simp only[BN]at h3);have ho:o=3:=ho0;rw[if_pos ho]at hR;clear A2 A4 A5;have cA:=ha [(false,rows.length)] (rows++[Q0 3 d]) (d+1) ⟨Ws h4,by simp⟩ (by simp;omega) (by omega) (by omega) (by simp);have k1:=Wq sa [(false,rows.length)] (rows++[Q0 3 d],d+1) ⟨Ws h4,by simp⟩;have l1:=Zw sa [(false,rows.length)] (rows++[Q0 3 d],d+1);simp only at hR;obtain⟨⟨⟨rows3,d3⟩,sl3⟩,hx⟩:∃x,Qc sa [(false,rows.length)] (rows++[Q0 3 d],d+1)=x:=⟨_,rfl⟩;simp only[hx]at hR cA k1 l1;obtain⟨a1,a2,a3,a4,a5⟩:=k1;simp only[List.length_append,List.length_singleton]at a2 a3 l1;have cB:=hb [(true,rows.length)] rows3 d3 ⟨a1.four,by simp;omega⟩ (by omega) (by omega) (by omega) (by simp);have k2:=Wq sb [(true,rows.length)] (rows3,d3) ⟨a1.four,by simp;omega⟩;have l2:=Zw sb [(true,rows.length)] (rows3,d3);obtain⟨⟨⟨rows4,d4⟩,sl4⟩,hy⟩:∃x,Qc sb [(true,rows.length)] (rows3,d3)=x:=⟨_,rfl⟩;simp only[hy]at hR cB k2 l2;simp only[List.length_singleton]at l2;subst hR;have hroom:Qa (sl3.length+sl4.length) 8:=Xx (by omega) (by decide);clear k2 hx hy;refine X0<|(XS ?_);refine RunsN.cutE 1 [] (by simp;rfl) trivial (le_refl _) ?_;refine RunsN.callA (fun n=>n) (fun n=>if n=900001 then 101 else n) A3 fun _ _=>?_;refine RunsN.doneE [] (by simp[Qj,CV.ren];rfl) trivial ?_;refine XC (X44 (v:=pV b) 0 rfl rfl rfl) ?_;simp only[ins,Nat.reduceLT,Nat.reduceEqDiff,if_true,if_false];refine X4 ?_;refine XC (X43 (v:=pV b) 0 rfl rfl rfl) ?_;simp only[ins,Nat.reduceLT,Nat.reduceEqDiff,if_true,if_false];refine XC (s':=nx6 b rows.length (X3i 3 c v n to tn tk sa sb bs) sa (Wr (rows++[Q0 3 d]) (d+1)) [] (Wi 9 511)) ?_ ?_
   · refine Xu (fun n=>if n=900001 then 101 else n) [] rfl ?_ ?_ ?_
     · simp[nx6,trS, *]
     · simp[nx6, *]
     simp[nx6]
   refine X0<|(QU (nx6 b rows.length (X3i 3 c v n to tn tk sa sb bs) sa (Wr (rows++[Q0 3 d]) (d+1)) ((30,.row 100 1 (QJ b sl3))::(102,.row 143 4 rows3)::[(1000000,.box [.own 102,.c (iC d3)])])) 9 511 ms6 rfl (by kernel_rfl) (by kernel_rfl) (by kernel_rfl) (by kernel_rfl) (by simp[nx6,trS]) ?_ ?_)
   · simp only[ms6,X03]
     repeat' apply And.intro
     all_goals first
      |(refine XT.evE rfl ?_;simp[nx6,trS,ins,W9];done)
      | (refine XT.ev [⟨false,.v (.one (.c (nxC b rows.length))),none⟩] rfl (by simp[nx6,trS,ins,W9];first|exact⟨rfl,Iff.rfl⟩|exact⟨rfl,trivial⟩|rfl) ?_ ?_
         · simpa using X1y b rows.length 28
         simp[nx6,trS,ins])
      | (refine XT.callA (fun n=>if n=1 then 29 else n) (fun n=>if n=1 then 30 else if n=900001 then 102 else n) cA rfl fun _ _=>?_
         simp[nx6,trS,ins,Qj,QT,del,CV.ren,Ob.ren])
   refine XC (s':=nx7 b rows.length (X3i 3 c v n to tn tk sa sb bs) sb (QJ b sl3) (QJ b sl4) (QJ b (sl3++sl4)) (Wr rows3 d3) ((103,.row 143 4 rows4)::[(1000000,.box [.own 103,.c (iC d4)])]) (Wi 11 2047)) ?_ ?_
   · refine Xu (fun n=>if n=900001 then 102 else n) [] rfl ?_ ?_ ?_
     · simp[nx6,nx7,trS, *]
     · simp[nx6,nx7, *]
     simp[nx7]
   refine X0<|(QU (nx7 b rows.length (X3i 3 c v n to tn tk sa sb bs) sb (QJ b sl3) (QJ b sl4) (QJ b (sl3++sl4)) (Wr rows3 d3) ((103,.row 143 4 rows4)::[(1000000,.box [.own 103,.c (iC d4)])])) 11 2047 ms7 rfl (by kernel_rfl) (by kernel_rfl) (by kernel_rfl) (by kernel_rfl) (by simp[nx7,trS]) ?_ ?_)
   · simp only[ms7,X03]
     repeat' apply And.intro
     all_goals first
      |(refine XT.evE rfl ?_;simp[nx7,trS,ins,W9,hroom];done)
      | (refine XT.ev [⟨false,.v (.one (.c (otC b rows.length))),none⟩] rfl (by simp[nx7,trS,ins,W9];first|exact⟨rfl,Iff.rfl⟩|exact⟨rfl,trivial⟩|rfl) ?_ ?_
         · simpa using X4n b rows.length 37
         simp[nx7,trS,ins])
      | (refine XT.callA (fun n=>if n=1 then 38 else n) (fun n=>if n=1 then 39 else if n=900001 then 103 else n) cB rfl fun _ _=>?_
         simp[nx7,trS,ins,Qj,QT,del,CV.ren,Ob.ren])
   exact XU ⟨.inr rfl,(),trivial,⟨⟨100,some (pV b)⟩,[(6,.v (.one (.own 1)))],(1,.row 100 1 (QJ b (sl3++sl4)))::Wr rows4 d4⟩,Xu (fun n=>if n=1 then 40 else if n=900001 then 103 else n) [] rfl (by simp[nx7,trS]) (by simp[nx7]) (by simp),⟨[.one (.own 1)],by simp,rfl⟩,fun n o h=>h⟩
 cases h3
set_option maxHeartbeats 8000000 in
theorem Xca (b:Nat) (o c v n to tn:Int) (tk:List Tm) (sa sb:List St) (bs:List Int) (ha:lstC b sa) (hb:lstC b sb) (ho3:¬o=3) (ho0:¬o=4):oneC b (.mk o c v n (.mk to tn tk) sa sb bs):=by
 intro k rows d h4 hk hn hd hd2;subst hk;obtain⟨RES,hR⟩:∃x,Z3 (.mk o c v n (.mk to tn tk) sa sb bs) rows.length (rows,d)=x:=⟨_,rfl⟩;rw[hR];simp only[szN]at hn hd2;unfold Z3 at hR;simp only[aS,St.enc,Tm.enc,List.map_cons,List.map_nil,List.cons_append,List.nil_append];refine Qs Tryz.func183 rfl (by kernel_rfl) (Nat.le_of_ble_eq_true rfl) X15 X8c ?_;simp only[Tryz.f183];have hw0:IntKind.i64.wrap (d+1)=d+1:=Xc (by omega) (by omega);have A3:=WZ b rows d 3 (by omega);have A4:=WZ b rows d 4 (by omega);have A2:=WZ b rows d 2 (by omega);have A5:=WZ b (rows++[Q0 4 d]) d 5 (by simp;omega);refine X4 ?_;refine X0<|X0<|X3 ?_;refine X5<|X0<|X3 ?_;refine(X9 rfl (fun h3=>?_) (fun h3=>?_))
 · cases h3
 (try simp only[BN]at h3);have ho:¬o=3:=ho3;rw[if_neg ho]at hR;clear A3;refine X4 ?_;refine(Xe rfl (fun h10=>?_) fun h10=>?_)
 · cases h10
 (try simp only[BN]at h10);have ho4:¬o=4:=ho0;rw[if_neg ho4]at hR;subst hR;clear A4 A5 h3 h10;refine X0<|(XS ?_);refine RunsN.cutE 1 [] (by simp;rfl) trivial (le_refl _) ?_;refine RunsN.callA (fun n=>n) (fun n=>if n=900001 then 101 else n) A2 fun _ _=>?_;refine RunsN.doneE [] (by simp[Qj,CV.ren];rfl) trivial ?_;refine XC (X44 (v:=pV b) 0 rfl rfl rfl) ?_;simp only[ins,Nat.reduceLT,Nat.reduceEqDiff,if_true,if_false];refine X4 ?_;refine XC (X43 (v:=pV b) 0 rfl rfl rfl) ?_;simp only[ins,Nat.reduceLT,Nat.reduceEqDiff,if_true,if_false];refine Xk [⟨false,.v (.one (.c (nxC b rows.length))),none⟩] ?_ ?_
 · first|exact X1y b rows.length 98|exact trivial|simpa[*]using X1y b rows.length 98
 exact XU ⟨.inr rfl,(),trivial,⟨⟨100,some (pV b)⟩,[(6,.v (.one (.own 1)))],(1,.row 100 1 (QJ b [(false,rows.length)]))::Wr (rows++[Q0 2 d]) (d+1)⟩,Xu (fun n=>if n=1 then 99 else if n=900001 then 101 else n) [] rfl (by simp) (by simp[QJ, *]) (by simp),⟨[.one (.own 1)],by simp,rfl⟩,fun n o h=>h⟩
end Go.Proofs.YtppjennamodfdaaGreat

namespace Go.Proofs.YtppjennamodfdaaGreat
open Go Go.Hl
set_option maxHeartbeats 8000000 in
theorem one_loop (b:Nat) (o c v n to tn:Int) (tk:List Tm) (sa sb:List St) (bs:List Int) (ha:lstC b sa) (hb:lstC b sb) (ho3:¬o=3) (ho0:o=4):oneC b (.mk o c v n (.mk to tn tk) sa sb bs):=by
 intro k rows d h4 hk hn hd hd2;subst hk;obtain⟨RES,hR⟩:∃x,Z3 (.mk o c v n (.mk to tn tk) sa sb bs) rows.length (rows,d)=x:=⟨_,rfl⟩;rw[hR];simp only[szN]at hn hd2;unfold Z3 at hR;simp only[aS,St.enc,Tm.enc,List.map_cons,List.map_nil,List.cons_append,List.nil_append];refine Qs Tryz.func183 rfl (by kernel_rfl) (Nat.le_of_ble_eq_true rfl) X15 X8c ?_;simp only[Tryz.f183];have hw0:IntKind.i64.wrap (d+1)=d+1:=Xc (by omega) (by omega);have A3:=WZ b rows d 3 (by omega);have A4:=WZ b rows d 4 (by omega);have A2:=WZ b rows d 2 (by omega);have A5:=WZ b (rows++[Q0 4 d]) d 5 (by simp;omega);refine X4 ?_;refine X0<|X0<|X3 ?_;refine X5<|X0<|X3 ?_;refine(X9 rfl (fun h3=>?_) (fun h3=>?_))
 · cases h3
 (try simp only[BN]at h3);have ho:¬o=3:=ho3;rw[if_neg ho]at hR;clear A3;refine X4 ?_;refine(Xe rfl (fun h10=>?_) fun h10=>?_)
 · (try simp only[BN]at h10);have ho4:o=4:=ho0;rw[if_pos ho4]at hR;clear A2 h10 h3;have hin:rows.length<(rows++[Q0 4 d]++[Q0 5 d]).length:=by simp
   have hw1:IntKind.i64.wrap ((rows.length:Int)+1)=(rows.length:Int)+1:=Xc (by omega) (by omega);refine X0<|(XS ?_);refine RunsN.cutE 1 [] (by simp;rfl) trivial (le_refl _) ?_;refine RunsN.callA (fun n=>n) (fun n=>if n=900001 then 101 else n) A4 fun _ _=>?_;refine RunsN.doneE [] (by simp[Qj,CV.ren];rfl) trivial ?_;refine XC (s':=⟨⟨100,some (pV b)⟩,[(0,.v (.one (.c (.lit (pV b))))),(2,lit (.int .i64 rows.length)),(4,.v (.one (.at_ 4 0)))],(4,X3i 4 c v n to tn tk sa sb bs)::Wr (rows++[Q0 4 d]) d⟩) (Xu (fun n=>if n=900001 then 101 else n) [] rfl (by simp) (by simp[*]) (by simp)) ?_;refine X0<|(XS ?_);refine RunsN.cutE 1 [] (by simp;rfl) trivial (le_refl _) ?_;refine RunsN.callA (fun n=>n) (fun n=>if n=900001 then 101 else n) A5 fun _ _=>?_;refine RunsN.doneE [] (by simp[Qj,CV.ren];rfl) trivial ?_;refine XC (s':=⟨⟨100,some (pV b)⟩,[(0,.v (.one (.c (.lit (pV b))))),(2,lit (.int .i64 rows.length)),(4,.v (.one (.at_ 4 0)))],(4,X3i 4 c v n to tn tk sa sb bs)::Wr (rows++[Q0 4 d]++[Q0 5 d]) d⟩) (Xu (fun n=>if n=900001 then 101 else n) [] rfl (by simp) (by simp) (by simp)) ?_;refine XC (X44 (v:=pV b) 0 rfl rfl rfl) ?_;simp only[ins,Nat.reduceLT,Nat.reduceEqDiff,if_true,if_false];refine X4 ?_;refine X4 ?_;have hRW:setRow (rows++[Q0 4 d]++[Q0 5 d]) rows.length 2 [iC ((rows.length:Int)+1)]=rows++[[iC 4,iC d,iC ((rows.length:Int)+1),iC (-1)],Q0 5 d]:=by simp[setRow]
   simp only[hRW]at hR
   have k0:okB [(false,rows.length+1)] (rows++[[iC 4,iC d,iC ((rows.length:Int)+1),iC (-1)],Q0 5 d]):=by
    rw[←hRW];exact⟨X0t (Ws (Ws h4)) (by omega),by simp[WC]⟩
   have cA:=ha [(false,rows.length+1)] (rows++[[iC 4,iC d,iC ((rows.length:Int)+1),iC (-1)],Q0 5 d]) (d+1) k0 (by simp;omega) (by omega) (by omega) (by simp);have k1:=Wq sa [(false,rows.length+1)] (rows++[[iC 4,iC d,iC ((rows.length:Int)+1),iC (-1)],Q0 5 d],d+1) k0;have l1:=Zw sa [(false,rows.length+1)] (rows++[[iC 4,iC d,iC ((rows.length:Int)+1),iC (-1)],Q0 5 d],d+1);obtain⟨⟨⟨rows3,d3⟩,sl3⟩,hx⟩:∃x,Qc sa [(false,rows.length+1)] (rows++[[iC 4,iC d,iC ((rows.length:Int)+1),iC (-1)],Q0 5 d],d+1)=x:=⟨_,rfl⟩;simp only[hx,List.length_singleton]at hR cA k1 l1;obtain⟨a1,a2,a3,a4,a5⟩:=k1;clear hRW hx k0 A4 A5;refine XC (X43 (v:=pV b) 0 rfl rfl rfl) ?_;simp only[ins,Nat.reduceLT,Nat.reduceEqDiff,if_true,if_false];refine XC (s':=X4X b rows.length (X3i 4 c v n to tn tk sa sb bs) sa sl3.length (Wr (rows++[[iC 4,iC d,iC ((rows.length:Int)+1),iC (-1)],Q0 5 d]) (d+1)) ((71,.row 100 1 (QJ b sl3))::(102,.row 143 4 rows3)::[(1000000,.box [.own 102,.c (iC d3)])]) (Wi 11 2047)) ?_ ?_
   · refine Xu (fun n=>n) [] rfl ?_ ?_ ?_
     · simp[X4X,trS, *]
     · simp[X4X, *]
     simp[X4X]
   refine X0<|X0<|(QU (X4X b rows.length (X3i 4 c v n to tn tk sa sb bs) sa sl3.length (Wr (rows++[[iC 4,iC d,iC ((rows.length:Int)+1),iC (-1)],Q0 5 d]) (d+1)) ((71,.row 100 1 (QJ b sl3))::(102,.row 143 4 rows3)::[(1000000,.box [.own 102,.c (iC d3)])])) 11 2047 ms15 rfl (by kernel_rfl) (by kernel_rfl) (by kernel_rfl) (by kernel_rfl) (by simp[X4X,trS]) ?_ ?_)
   · simp only[ms15,X03]
     repeat' apply And.intro
     all_goals first
      |(refine XT.evE rfl ?_;simp[X4X,trS,ins,W9,hw1];done)
      | (refine XT.ev [⟨false,.v (.one (.c (nxC b (rows.length+1)))),none⟩] rfl (by simp[X4X,trS,ins,W9];first|exact⟨rfl,Iff.rfl⟩|exact⟨rfl,trivial⟩|rfl) ?_ ?_
         · simpa using X1y b (rows.length+1) 69
         simp[X4X,trS,ins])
      | (refine XT.callA (fun n=>if n=1 then 70 else n) (fun n=>if n=1 then 71 else if n=900001 then 102 else n) cA rfl fun _ _=>?_
         simp[X4X,trS,ins,Qj,QT,del,CV.ren,Ob.ren])
   refine X5<|(Xd [] (fun(x:Nat×List (List CD))=>[(0,.v (.one (.c (.lit (pV b))))),(2,lit (.int .i64 rows.length)),(71,.v (.one (.own 71))),(72,lit (.int .i64 sl3.length)),(73,lit (.int .i64 x.1))]) (fun(x:Nat×List (List CD))=>(4,X3i 4 c v n to tn tk sa sb bs)::(71,.row 100 1 (QJ b sl3))::Wr x.2 d3) (fun(x:Nat×List (List CD))=>x.1≤sl3.length∧XH (rows.length+1) (sl3.drop x.1) x.2=XH (rows.length+1) sl3 rows3∧(∀r∈x.2,r.length=4)∧x.2.length=rows3.length) (fun(x:Nat×List (List CD))=>sl3.length - x.1) (0,rows3) ⟨Nat.zero_le _,rfl,a1.four,rfl⟩ ?_ ?_)
   · exact Xu (fun n=>if n=900001 then 102 else n) [] rfl (by simp[upS,X8,trS]) (by simp[upS]) (by simp[upS])
   rintro⟨i,rows2⟩ ⟨g1,g2,g3,g4⟩;simp only[upS,X8,Xy]
   try simp only[X8,KN,Nat.reduceBEq,if_true,if_false,ins,Nat.reduceLT]
   simp only at g1 g2 g3 g4;simp only[X4X,trS];refine X4 ?_;refine X0<|(X9 rfl (fun h18=>Xb ?_) (fun h18=>?_))
   · (try simp only[BN]at h18);have hi:i<sl3.length:=by simpa using h18
     obtain⟨q,hq,hqd⟩:=Xq hi;have hqe:=X3W (b:=b) hq;rw[hqd]at g2;simp only[XH]at g2;have cq:=X63 b rows2 d3 (rows.length+1) q g3 (by have:=a1.lt q (List.mem_of_getElem? hq);omega);have hw:=XA hi (by omega:sl3.length≤1000000000);have hin2:i+1≤sl3.length:=hi;clear hi hq h18 hqd;refine X0<|X5<|X0<|X3 ?_;refine(XS ?_);refine RunsN.cutE 3 [] (by simp[hw1];rfl) trivial (le_refl _) ?_;refine RunsN.callA (fun n=>n) (fun n=>if n=900001 then 101 else n) cq fun _ _=>?_;refine RunsN.doneE [] (by simp[Qj,CV.ren,Ob.ren];rfl) trivial ?_;refine X3 ?_;exact⟨(i+1,X0z rows2 q (rows.length+1)),⟨hin2,g2,ZW g3,(X1F ..).trans g4⟩,by simp only;omega,X6 (fun n=>if n=900001 then 101 else n) []⟩
   try simp only[BN]at h18
   have hi:i=sl3.length:=by
    have:¬i<sl3.length:=by simpa using h18
    omega
   subst hi;rw[List.drop_length]at g2;simp only[XH]at g2;rw[←g2]at hR;subst hR;clear h18;refine(Xg ?_);refine X0<|(QR [⟨false,.v (.one (.c (otC b (rows.length+1)))),none⟩] (by simp[*,hw1];first|exact⟨rfl,Iff.rfl⟩|exact⟨rfl,trivial⟩|rfl) ?_ ?_)
   · first|exact X4n b (rows.length+1) 85|exact trivial|simpa[*,hw1]using X4n b (rows.length+1) 85
   exact XU ⟨.inr rfl,(),trivial,⟨⟨100,some (pV b)⟩,[(6,.v (.one (.own 1)))],(1,.row 100 1 (QJ b [(true,rows.length+1)]))::Wr rows2 d3⟩,Xu (fun n=>if n=1 then 86 else n) [] rfl (by simp) (by simp[QJ, *]) (by simp),⟨[.one (.own 1)],by simp,rfl⟩,fun n o h=>h⟩
 cases h10
theorem one_con (b:Nat) (o c v n to tn:Int) (tk:List Tm) (sa sb:List St) (bs:List Int) (ha:lstC b sa) (hb:lstC b sb):oneC b (.mk o c v n (.mk to tn tk) sa sb bs):=by
 by_cases h3:o=3
 · exact one_then b o c v n to tn tk sa sb bs ha hb h3
 by_cases h4:o=4
 · exact one_loop b o c v n to tn tk sa sb bs ha hb h3 h4
 exact Xca b o c v n to tn tk sa sb bs ha hb h3 h4
end Go.Proofs.YtppjennamodfdaaGreat

namespace Go.Proofs.YtppjennamodfdaaGreat
open Go Go.Hl
def QN (a b:Int):Bool:=decide (a≤b)&&(decide (-1048576≤a)&&decide (b≤1048576))
theorem ZR (a b:Int) (d:Nat):Con Tryz.prog 176 true [li a,li b] (.v (lb (QN a b))) none d:=by
 refine X7 Tryz.func176 ?_;simp only[Tryz.f176];refine X4 ?_;refine X4 ?_;exact(Xm (fun h=>⟨.inr rfl,h⟩) _ (by simp[*];rfl) (by first|rfl|(simp[*,QN,Bool.and_assoc];done)|(simp only[XN,QN,Bool.and_assoc];(repeat' split)<;>first|rfl|(exfalso;omega)|simp_all)) (by simp))
theorem ZT (a b:Int) (d:Nat):Con Tryz.prog 63 true [li a,li b] (.v (lb (QN a b))) none d:=by
 refine X7 Tryz.func63 ?_;simp only[Tryz.f63];refine X4 ?_;refine X4 ?_;exact(Xm (fun h=>⟨.inr rfl,h⟩) _ (by simp[*];rfl) (by first|rfl|(simp[*,QN,Bool.and_assoc];done)|(simp only[XN,QN,Bool.and_assoc];(repeat' split)<;>first|rfl|(exfalso;omega)|simp_all)) (by simp))
def Qn (o:Int):Int×Int:=if o=0∨o=24 then(0,0)else if o=6∨o=7 then(1,1)else if 8≤o∧o≤22 then(2,2)else if o=23 then(3,3)else if o=25 then(2,33)else(-1,-1)
theorem X6M (o:Int) (d:Nat):Con Tryz.prog 198 true [li o] (.tup [li (Qn o).1,li (Qn o).2]) none d:=by
 refine X7 Tryz.func198 ?_;simp only[Tryz.f198];refine X4 ?_;refine X0<|X5<|X0<|X3 ?_;refine(X9 rfl (fun h2=>?_) (fun h2=>?_))
 · (try simp only[BN]at h2);refine X4 ?_;exact(Xm (fun h=>⟨.inr rfl,h⟩) _ (by simp[*];rfl) (by first|rfl|(simp[*,Qn];done)|(simp only[XN,Qn];(repeat' split)<;>first|rfl|(exfalso;omega)|simp_all)) (by simp))
 (try simp only[BN]at h2);refine X4 ?_;refine(X9 rfl (fun h6=>?_) (fun h6=>?_))
 · (try simp only[BN]at h6);refine X4 ?_;exact(Xm (fun h=>⟨.inr rfl,h⟩) _ (by simp[*];rfl) (by first|rfl|(simp[*,Qn];done)|(simp only[XN,Qn];(repeat' split)<;>first|rfl|(exfalso;omega)|simp_all)) (by simp))
 (try simp only[BN]at h6);refine X4 ?_;refine(X9 rfl (fun h10=>?_) (fun h10=>?_))
 · (try simp only[BN]at h10);refine X4 ?_;exact(Xm (fun h=>⟨.inr rfl,h⟩) _ (by simp[*];rfl) (by first|rfl|(simp[*,Qn];done)|(simp only[XN,Qn];(repeat' split)<;>first|rfl|(exfalso;omega)|simp_all)) (by simp))
 (try simp only[BN]at h10);refine X4 ?_;refine(X9 rfl (fun h14=>?_) (fun h14=>?_))
 · (try simp only[BN]at h14);refine X4 ?_;exact(Xm (fun h=>⟨.inr rfl,h⟩) _ (by simp[*];rfl) (by first|rfl|(simp[*,Qn];done)|(simp only[XN,Qn];(repeat' split)<;>first|rfl|(exfalso;omega)|simp_all)) (by simp))
 (try simp only[BN]at h14);refine X4 ?_;refine(Xe rfl (fun h18=>?_) fun h18=>?_)
 · (try simp only[BN]at h18);refine X4 ?_;exact(Xm (fun h=>⟨.inr rfl,h⟩) _ (by simp[*];rfl) (by first|rfl|(simp[*,Qn];done)|(simp only[XN,Qn];(repeat' split)<;>first|rfl|(exfalso;omega)|simp_all)) (by simp))
 (try simp only[BN]at h18);refine X4 ?_;exact(Xm (fun h=>⟨.inr rfl,h⟩) _ (by simp[*];rfl) (by first|rfl|(simp[*,Qn];done)|(simp only[XN,Qn];(repeat' split)<;>first|rfl|(exfalso;omega)|simp_all)) (by simp))
theorem Za (n:Int) (b:Bool) (d:Nat):Con Tryz.prog 162 true [.one (.c (.ptr [iC n,bC b]))] (.v (lb (b||decide (1024<n)))) none d:=by
 refine X7 Tryz.func162 ?_;simp only[Tryz.f162];refine X4 ?_;refine X4 ?_;exact Xh
def X3X (s:ByteArray) (i:Nat):Bool:=
 match s[i]? with
 |some b=>(decide (97≤(b.toNat:Int))&&decide ((b.toNat:Int)≤122))||(decide (i≠0)&&((decide (48≤(b.toNat:Int))&&decide ((b.toNat:Int)≤57))||decide ((b.toNat:Int)=46)||decide ((b.toNat:Int)=95)))
 |none=>false
def ZP (s:ByteArray):Bool:=decide (1≤s.size)&&decide (s.size≤40)&&(List.range s.size).all (X3X s)
theorem X7p {s:ByteArray} {k:Nat} (h:k<s.size):∃b,s[k]? =some b:=⟨s[k],by simp[h]⟩
theorem X9I {s:ByteArray}:s=⟨#[]⟩↔s.size=0:=by
 obtain⟨a⟩:=s;constructor
 · intro h;cases h;rfl
 intro h;have:a= #[]:=Array.eq_empty_of_size_eq_zero h;rw[this]
theorem X6x {s:ByteArray} {k:Nat} (hk:k<s.size) (h:X3X s k=false):ZP s=false:=by
 unfold ZP;rw[Bool.and_eq_false_iff];refine .inr ?_;rw[List.all_eq_false];exact⟨k,by simpa using hk,by simp[h]⟩
theorem X6i {s:ByteArray} (h1:1≤s.size) (h2:s.size≤40) (h:∀j:Nat,j<s.size→X3X s j=true):ZP s=true:=by
 unfold ZP;simp only[h1,h2,decide_true,Bool.true_and,List.all_eq_true,List.mem_range];exact h
theorem X2b (s:ByteArray) (d:Nat):Con Tryz.prog 174 true [sv s] (.v (lb (ZP s))) none d:=by
 refine X7 Tryz.func174 ?_;simp only[Tryz.f174];refine X4 ?_;refine X0<|X0<|X3 ?_;refine(Xe rfl (fun h2=>?_) fun h2=>?_)
 · try simp only[BN]at h2
   have hz:ZP s=false:=by
    unfold ZP;simp only[X9I]at h2;rw[Bool.and_eq_false_iff,Bool.and_eq_false_iff];simp only[decide_eq_false_iff_not];omega
   refine X4 ?_;exact Xh
 (try simp only[BN]at h2);simp only[X9I]at h2;have h1:1≤s.size:=by omega
 have h40:s.size≤40:=by omega
 refine X0<|X0<|X3 ?_;refine X5<|(Xd [0,14] (fun(x:Nat)=>[(15,.v (li x))]) (fun x=>[]) (fun x=>x≤s.size∧∀j:Nat,j<x→X3X s j=true) (fun x=>s.size - x) (0:Nat) ⟨Nat.zero_le _,fun j hj=>absurd hj (Nat.not_lt_zero j)⟩ ?_ ?_)
 · exact X6 (fun n=>n) []
 rintro k ⟨hk,hall⟩;simp only[upS,X8,Xy]
 try simp only[X8,KN,Nat.reduceBEq,if_true,if_false,ins,Nat.reduceLT]
 refine X4 ?_;refine X0<|(X9 rfl (fun h8=>Xb ?_) (fun h8=>?_))
 · (try simp only[BN]at h8);have hlt:k<s.size:=by omega
   obtain⟨b,hb⟩:=X7p hlt;have hw:=XA hlt (by omega);have hk1:k+1≤s.size:=hlt;clear hlt h8;refine X0<|X5<|X0<|X3 ?_;refine X4 ?_;refine X4 ?_;refine X4 ?_;refine(Xe rfl (fun h13=>?_) fun h13=>?_)
   · try simp only[BN]at h13
     have hbad:X3X s k=false:=by
      unfold X3X;rw[hb];simp only[Bool.or_eq_false_iff,Bool.and_eq_false_iff,decide_eq_false_iff_not];omega
     have hz:=X6x hk1 hbad;refine X4 ?_;exact Xh
   try simp only[BN]at h13
   have hgood:X3X s k=true:=by
    unfold X3X;rw[hb];simp only[Bool.or_eq_true,Bool.and_eq_true,decide_eq_true_eq];omega
   refine X3 ?_;exact⟨k+1,⟨by omega,fun j hj=>(Nat.lt_succ_iff_lt_or_eq.1 hj).elim (hall j) (fun e=>e▸hgood)⟩,by omega,X6 (fun n=>n) []⟩
 (try simp only[BN]at h8);have hz:=X6i h1 h40 (fun j hj=>hall j (by omega));refine(Xg ?_);refine X4 ?_;exact Xh
end Go.Proofs.YtppjennamodfdaaGreat
