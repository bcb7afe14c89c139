/- Part 1: contracts of functions of the program and of the reference, and plain facts about what they compute; used by the proof of the claimed statement. Conditions: as each theorem states. -/
import Derived.Test.YtppjennamodfdaaGreatProg
import Derived.Test.YtppjennamodfdaaGreatHmZ
import Derived.KernelRfl
import Derived.Test.YtppjennamodfdaaGreatHmZI
import Derived.Test.YtppjennamodfdaaGreatHmZJ
set_option linter.unusedSimpArgs false
set_option linter.unusedVariables false
set_option linter.unnecessarySimpa false
set_option maxRecDepth 100000
set_option maxHeartbeats 2000000
namespace Go.Proofs.YtppjennamodfdaaGreat
open Go Go.Hl
@[simp] theorem ty3:tyOf Tryz.prog 3=some ⟨1,8,false,[.int .i64 0],.other⟩:=by kernel_rfl
@[simp] theorem pf3:ptrT Tryz.prog 3=false:=by kernel_rfl
@[simp] theorem sf3:sliceT Tryz.prog 3=false:=by kernel_rfl
@[simp] theorem ty4:tyOf Tryz.prog 4=some ⟨1,1,false,[.bool false],.other⟩:=by kernel_rfl
@[simp] theorem bt4:boolT Tryz.prog 4=true:=by kernel_rfl
@[simp] theorem pf4:ptrT Tryz.prog 4=false:=by kernel_rfl
@[simp] theorem sf4:sliceT Tryz.prog 4=false:=by kernel_rfl
@[simp] theorem ty5:tyOf Tryz.prog 5=some ⟨1,1,false,[.int .u8 0],.other⟩:=by kernel_rfl
@[simp] theorem pf5:ptrT Tryz.prog 5=false:=by kernel_rfl
@[simp] theorem sf5:sliceT Tryz.prog 5=false:=by kernel_rfl
@[simp] theorem ty9:tyOf Tryz.prog 9=some ⟨1,16,false,[.string ⟨#[]⟩],.other⟩:=by kernel_rfl
@[simp] theorem st9:strT Tryz.prog 9=true:=by kernel_rfl
@[simp] theorem pf9:ptrT Tryz.prog 9=false:=by kernel_rfl
@[simp] theorem sf9:sliceT Tryz.prog 9=false:=by kernel_rfl
@[simp] theorem ty22:tyOf Tryz.prog 22=some ⟨1,24,false,[.slice none 0 0],.slice 64⟩:=by kernel_rfl
@[simp] theorem pf22:ptrT Tryz.prog 22=false:=by kernel_rfl
@[simp] theorem sl22:sliceT Tryz.prog 22=true:=by kernel_rfl
@[simp] theorem ty23:tyOf Tryz.prog 23=some ⟨1,24,false,[.slice none 0 0],.slice 99⟩:=by kernel_rfl
@[simp] theorem pf23:ptrT Tryz.prog 23=false:=by kernel_rfl
@[simp] theorem sl23:sliceT Tryz.prog 23=true:=by kernel_rfl
@[simp] theorem ty24:tyOf Tryz.prog 24=some ⟨1,24,false,[.slice none 0 0],.slice 76⟩:=by kernel_rfl
@[simp] theorem pf24:ptrT Tryz.prog 24=false:=by kernel_rfl
@[simp] theorem sl24:sliceT Tryz.prog 24=true:=by kernel_rfl
@[simp] theorem ty26:tyOf Tryz.prog 26=some ⟨3,72,true,[.slice none 0 0,.slice none 0 0,.slice none 0 0],.struct [(0,22),(1,23),(2,24)]⟩:=by kernel_rfl
@[simp] theorem pf26:ptrT Tryz.prog 26=false:=by kernel_rfl
@[simp] theorem sf26:sliceT Tryz.prog 26=false:=by kernel_rfl
@[simp] theorem ty27:tyOf Tryz.prog 27=some ⟨1,24,false,[.slice none 0 0],.slice 3⟩:=by kernel_rfl
@[simp] theorem pf27:ptrT Tryz.prog 27=false:=by kernel_rfl
@[simp] theorem sl27:sliceT Tryz.prog 27=true:=by kernel_rfl
@[simp] theorem ty30:tyOf Tryz.prog 30=some ⟨1,8,false,[.int .i64 0],.other⟩:=by kernel_rfl
@[simp] theorem pf30:ptrT Tryz.prog 30=false:=by kernel_rfl
@[simp] theorem sf30:sliceT Tryz.prog 30=false:=by kernel_rfl
@[simp] theorem ty32:tyOf Tryz.prog 32=some ⟨1,8,false,[.nilFunc],.other⟩:=by kernel_rfl
@[simp] theorem pf32:ptrT Tryz.prog 32=false:=by kernel_rfl
@[simp] theorem sf32:sliceT Tryz.prog 32=false:=by kernel_rfl
@[simp] theorem ty52:tyOf Tryz.prog 52=some ⟨3,72,true,[.slice none 0 0,.slice none 0 0,.slice none 0 0],.struct [(0,27),(1,27),(2,27)]⟩:=by kernel_rfl
@[simp] theorem pf52:ptrT Tryz.prog 52=false:=by kernel_rfl
@[simp] theorem sf52:sliceT Tryz.prog 52=false:=by kernel_rfl
@[simp] theorem ty55:tyOf Tryz.prog 55=some ⟨2,32,true,[.slice none 0 0,.int .i64 0],.struct [(0,27),(1,3)]⟩:=by kernel_rfl
@[simp] theorem pf55:ptrT Tryz.prog 55=false:=by kernel_rfl
@[simp] theorem sf55:sliceT Tryz.prog 55=false:=by kernel_rfl
@[simp] theorem ty61:tyOf Tryz.prog 61=some ⟨6,144,true,[.slice none 0 0,.slice none 0 0,.slice none 0 0,.slice none 0 0,.slice none 0 0,.slice none 0 0],.struct [(0,52),(3,52)]⟩:=by kernel_rfl
@[simp] theorem pf61:ptrT Tryz.prog 61=false:=by kernel_rfl
@[simp] theorem sf61:sliceT Tryz.prog 61=false:=by kernel_rfl
@[simp] theorem ty62:tyOf Tryz.prog 62=some ⟨1,8,false,[.int .i64 0],.other⟩:=by kernel_rfl
@[simp] theorem pf62:ptrT Tryz.prog 62=false:=by kernel_rfl
@[simp] theorem sf62:sliceT Tryz.prog 62=false:=by kernel_rfl
@[simp] theorem ty64:tyOf Tryz.prog 64=some ⟨5,48,true,[.string ⟨#[]⟩,.int .i64 0,.int .i64 0,.int .i64 0,.int .i64 0],.struct [(0,9),(1,62),(2,3),(3,3),(4,3)]⟩:=by kernel_rfl
@[simp] theorem pf64:ptrT Tryz.prog 64=false:=by kernel_rfl
@[simp] theorem sf64:sliceT Tryz.prog 64=false:=by kernel_rfl
@[simp] theorem ty66:tyOf Tryz.prog 66=some ⟨1,24,false,[.slice none 0 0],.slice 32⟩:=by kernel_rfl
@[simp] theorem pf66:ptrT Tryz.prog 66=false:=by kernel_rfl
@[simp] theorem sl66:sliceT Tryz.prog 66=true:=by kernel_rfl
@[simp] theorem ty70:tyOf Tryz.prog 70=some ⟨1,8,false,[.int .i64 0],.other⟩:=by kernel_rfl
@[simp] theorem pf70:ptrT Tryz.prog 70=false:=by kernel_rfl
@[simp] theorem sf70:sliceT Tryz.prog 70=false:=by kernel_rfl
@[simp] theorem ty71:tyOf Tryz.prog 71=some ⟨1,8,false,[.int .i64 0],.other⟩:=by kernel_rfl
@[simp] theorem pf71:ptrT Tryz.prog 71=false:=by kernel_rfl
@[simp] theorem sf71:sliceT Tryz.prog 71=false:=by kernel_rfl
@[simp] theorem ty72:tyOf Tryz.prog 72=some ⟨1,24,false,[.slice none 0 0],.slice 74⟩:=by kernel_rfl
@[simp] theorem pf72:ptrT Tryz.prog 72=false:=by kernel_rfl
@[simp] theorem sl72:sliceT Tryz.prog 72=true:=by kernel_rfl
@[simp] theorem ty74:tyOf Tryz.prog 74=some ⟨3,40,true,[.int .i64 0,.int .i64 0,.slice none 0 0],.struct [(0,71),(1,3),(2,72)]⟩:=by kernel_rfl
@[simp] theorem pf74:ptrT Tryz.prog 74=false:=by kernel_rfl
@[simp] theorem sf74:sliceT Tryz.prog 74=false:=by kernel_rfl
@[simp] theorem ty76:tyOf Tryz.prog 76=some ⟨10,144,true,[.int .i64 0,.int .i64 0,.int .i64 0,.int .i64 0,.int .i64 0,.int .i64 0,.slice none 0 0,.slice none 0 0,.slice none 0 0,.slice none 0 0],.struct [(0,70),(1,3),(2,3),(3,3),(4,74),(7,24),(8,24),(9,27)]⟩:=by kernel_rfl
@[simp] theorem pf76:ptrT Tryz.prog 76=false:=by kernel_rfl
@[simp] theorem sf76:sliceT Tryz.prog 76=false:=by kernel_rfl
@[simp] theorem ty77:tyOf Tryz.prog 77=some ⟨1,24,false,[.slice none 0 0],.slice 27⟩:=by kernel_rfl
@[simp] theorem pf77:ptrT Tryz.prog 77=false:=by kernel_rfl
@[simp] theorem sl77:sliceT Tryz.prog 77=true:=by kernel_rfl
@[simp] theorem ty82:tyOf Tryz.prog 82=some ⟨1,8,false,[.pointer none],.other⟩:=by kernel_rfl
@[simp] theorem pt82:ptrT Tryz.prog 82=true:=by kernel_rfl
@[simp] theorem sf82:sliceT Tryz.prog 82=false:=by kernel_rfl
@[simp] theorem ty86:tyOf Tryz.prog 86=some ⟨1,8,false,[.map none],.other⟩:=by kernel_rfl
@[simp] theorem mt86:mapT Tryz.prog 86=some (.int .i64,.bool false):=by kernel_rfl
@[simp] theorem im86:isMapT Tryz.prog 86=true:=by kernel_rfl
@[simp] theorem pf86:ptrT Tryz.prog 86=false:=by kernel_rfl
@[simp] theorem sf86:sliceT Tryz.prog 86=false:=by kernel_rfl
@[simp] theorem ty90:tyOf Tryz.prog 90=some ⟨1,24,false,[.slice none 0 0],.slice 92⟩:=by kernel_rfl
@[simp] theorem pf90:ptrT Tryz.prog 90=false:=by kernel_rfl
@[simp] theorem sl90:sliceT Tryz.prog 90=true:=by kernel_rfl
@[simp] theorem ty92:tyOf Tryz.prog 92=some ⟨1,24,false,[.slice none 0 0],.slice 4⟩:=by kernel_rfl
@[simp] theorem pf92:ptrT Tryz.prog 92=false:=by kernel_rfl
@[simp] theorem sl92:sliceT Tryz.prog 92=true:=by kernel_rfl
@[simp] theorem ty96:tyOf Tryz.prog 96=some ⟨6,144,true,[.slice none 0 0,.slice none 0 0,.slice none 0 0,.slice none 0 0,.slice none 0 0,.slice none 0 0],.struct [(0,26),(3,24),(4,27),(5,77)]⟩:=by kernel_rfl
@[simp] theorem pf96:ptrT Tryz.prog 96=false:=by kernel_rfl
@[simp] theorem sf96:sliceT Tryz.prog 96=false:=by kernel_rfl
@[simp] theorem ty99:tyOf Tryz.prog 99=some ⟨6,72,true,[.string ⟨#[]⟩,.int .i64 0,.int .i64 0,.int .i64 0,.int .i64 0,.slice none 0 0],.struct [(0,9),(1,3),(2,3),(3,74)]⟩:=by kernel_rfl
@[simp] theorem pf99:ptrT Tryz.prog 99=false:=by kernel_rfl
@[simp] theorem sf99:sliceT Tryz.prog 99=false:=by kernel_rfl
@[simp] theorem ty100:tyOf Tryz.prog 100=some ⟨1,8,false,[.nilFunc],.other⟩:=by kernel_rfl
@[simp] theorem pf100:ptrT Tryz.prog 100=false:=by kernel_rfl
@[simp] theorem sf100:sliceT Tryz.prog 100=false:=by kernel_rfl
@[simp] theorem ty120:tyOf Tryz.prog 120=some ⟨3,56,true,[.slice none 0 0,.slice none 0 0,.int .i64 0],.struct [(0,27),(1,27),(2,3)]⟩:=by kernel_rfl
@[simp] theorem pf120:ptrT Tryz.prog 120=false:=by kernel_rfl
@[simp] theorem sf120:sliceT Tryz.prog 120=false:=by kernel_rfl
@[simp] theorem pf125:ptrT Tryz.prog 125=false:=by kernel_rfl
@[simp] theorem sf125:sliceT Tryz.prog 125=false:=by kernel_rfl
@[simp] theorem ty134:tyOf Tryz.prog 134=some ⟨1,8,false,[.nilFunc],.other⟩:=by kernel_rfl
@[simp] theorem pf134:ptrT Tryz.prog 134=false:=by kernel_rfl
@[simp] theorem sf134:sliceT Tryz.prog 134=false:=by kernel_rfl
@[simp] theorem ty137:tyOf Tryz.prog 137=some ⟨1,24,false,[.slice none 0 0],.slice 143⟩:=by kernel_rfl
@[simp] theorem pf137:ptrT Tryz.prog 137=false:=by kernel_rfl
@[simp] theorem sl137:sliceT Tryz.prog 137=true:=by kernel_rfl
@[simp] theorem ty139:tyOf Tryz.prog 139=some ⟨1,24,true,[.slice none 0 0],.struct [(0,137)]⟩:=by kernel_rfl
@[simp] theorem pf139:ptrT Tryz.prog 139=false:=by kernel_rfl
@[simp] theorem sf139:sliceT Tryz.prog 139=false:=by kernel_rfl
@[simp] theorem ty141:tyOf Tryz.prog 141=some ⟨1,8,false,[.int .i64 0],.other⟩:=by kernel_rfl
@[simp] theorem pf141:ptrT Tryz.prog 141=false:=by kernel_rfl
@[simp] theorem sf141:sliceT Tryz.prog 141=false:=by kernel_rfl
@[simp] theorem ty143:tyOf Tryz.prog 143=some ⟨4,32,true,[.int .i64 0,.int .i64 0,.int .i64 0,.int .i64 0],.struct [(0,141),(1,3),(2,3),(3,3)]⟩:=by kernel_rfl
@[simp] theorem pf143:ptrT Tryz.prog 143=false:=by kernel_rfl
@[simp] theorem sf143:sliceT Tryz.prog 143=false:=by kernel_rfl
@[simp] theorem ty161:tyOf Tryz.prog 161=some ⟨1,8,false,[.int .i64 0],.other⟩:=by kernel_rfl
@[simp] theorem pf161:ptrT Tryz.prog 161=false:=by kernel_rfl
@[simp] theorem sf161:sliceT Tryz.prog 161=false:=by kernel_rfl
@[simp] theorem pf168:ptrT Tryz.prog 168=false:=by kernel_rfl
@[simp] theorem sf168:sliceT Tryz.prog 168=false:=by kernel_rfl
@[simp] theorem pf170:ptrT Tryz.prog 170=false:=by kernel_rfl
@[simp] theorem sf170:sliceT Tryz.prog 170=false:=by kernel_rfl
@[simp] theorem ty174:tyOf Tryz.prog 174=some ⟨1,8,false,[.nilFunc],.other⟩:=by kernel_rfl
@[simp] theorem pf174:ptrT Tryz.prog 174=false:=by kernel_rfl
@[simp] theorem sf174:sliceT Tryz.prog 174=false:=by kernel_rfl
@[simp] theorem pf187:ptrT Tryz.prog 187=false:=by kernel_rfl
@[simp] theorem sf187:sliceT Tryz.prog 187=false:=by kernel_rfl
@[simp] theorem ty194:tyOf Tryz.prog 194=some ⟨1,24,false,[.slice none 0 0],.slice 86⟩:=by kernel_rfl
@[simp] theorem pf194:ptrT Tryz.prog 194=false:=by kernel_rfl
@[simp] theorem sl194:sliceT Tryz.prog 194=true:=by kernel_rfl
@[simp] theorem ty204:tyOf Tryz.prog 204=some ⟨2,16,true,[.int .i64 0,.bool false],.struct [(0,3),(1,4)]⟩:=by kernel_rfl
@[simp] theorem pf204:ptrT Tryz.prog 204=false:=by kernel_rfl
@[simp] theorem sf204:sliceT Tryz.prog 204=false:=by kernel_rfl
@[simp] theorem ty207:tyOf Tryz.prog 207=some ⟨3,24,true,[.int .i64 0,.int .i64 0,.int .i64 0],.struct [(0,3),(1,3),(2,3)]⟩:=by kernel_rfl
@[simp] theorem pf207:ptrT Tryz.prog 207=false:=by kernel_rfl
@[simp] theorem sf207:sliceT Tryz.prog 207=false:=by kernel_rfl
@[simp] theorem ty209:tyOf Tryz.prog 209=some ⟨1,8,false,[.pointer none],.other⟩:=by kernel_rfl
@[simp] theorem pt209:ptrT Tryz.prog 209=true:=by kernel_rfl
@[simp] theorem sf209:sliceT Tryz.prog 209=false:=by kernel_rfl
@[simp] theorem ty211:tyOf Tryz.prog 211=some ⟨2,32,true,[.slice none 0 0,.int .i64 0],.struct [(0,137),(1,3)]⟩:=by kernel_rfl
@[simp] theorem pf211:ptrT Tryz.prog 211=false:=by kernel_rfl
@[simp] theorem sf211:sliceT Tryz.prog 211=false:=by kernel_rfl
@[simp] theorem ty212:tyOf Tryz.prog 212=some ⟨1,24,false,[.slice none 0 0],.slice 100⟩:=by kernel_rfl
@[simp] theorem pf212:ptrT Tryz.prog 212=false:=by kernel_rfl
@[simp] theorem sl212:sliceT Tryz.prog 212=true:=by kernel_rfl
@[simp] theorem ty219:tyOf Tryz.prog 219=some ⟨1,24,false,[.slice none 0 0],.slice 62⟩:=by kernel_rfl
@[simp] theorem pf219:ptrT Tryz.prog 219=false:=by kernel_rfl
@[simp] theorem sl219:sliceT Tryz.prog 219=true:=by kernel_rfl
@[simp] theorem ty223:tyOf Tryz.prog 223=some ⟨1,24,false,[.slice none 0 0],.slice 24⟩:=by kernel_rfl
@[simp] theorem pf223:ptrT Tryz.prog 223=false:=by kernel_rfl
@[simp] theorem sl223:sliceT Tryz.prog 223=true:=by kernel_rfl
@[simp] theorem ty230:tyOf Tryz.prog 230=some ⟨2,16,true,[.int .i64 0,.int .i64 0],.struct [(0,3),(1,3)]⟩:=by kernel_rfl
@[simp] theorem pf230:ptrT Tryz.prog 230=false:=by kernel_rfl
@[simp] theorem sf230:sliceT Tryz.prog 230=false:=by kernel_rfl
@[simp] theorem ty237:tyOf Tryz.prog 237=some ⟨1,24,false,[.slice none 0 0],.slice 230⟩:=by kernel_rfl
@[simp] theorem pf237:ptrT Tryz.prog 237=false:=by kernel_rfl
@[simp] theorem sl237:sliceT Tryz.prog 237=true:=by kernel_rfl
@[simp] theorem fsV:flatS Tryz.prog 64=some [false,true,true,true,true]:=by kernel_rfl
@[simp] theorem arV:arrI Tryz.prog 64=none:=by kernel_rfl
theorem wrap_in {n:Int} (h1:-9223372036854775808≤n) (h2:n≤9223372036854775807):IntKind.i64.wrap n=n:=IntWalk.i64_in n ⟨h1,h2⟩
inductive Tm where
 |mk (op n:Int) (kids:List Tm)
mutual
def Tm.enc:Tm→List CD
 | .mk o n ks=>[iC o,iC n,.sl 3 (encTs ks)]
def encTs:List Tm→List (List CD)
 |[]=>[]
 |t::l=>t.enc::encTs l
end
inductive St where
 |mk (do_ cost var n:Int) (term:Tm) (then_ else_:List St) (bounds:List Int)
def encIs (l:List Int):List (List CD):=l.map fun n=>[iC n]
mutual
def St.enc:St→List CD
 | .mk d c v n t a b bs=>[iC d,iC c,iC v,iC n]++t.enc++[.sl 10 (encSs a),.sl 10 (encSs b),.sl 1 (encIs bs)]
def encSs:List St→List (List CD)
 |[]=>[]
 |s::l=>s.enc::encSs l
end
structure Vr where
 name:ByteArray
 kind:Int
 low:Int
 high:Int
 init:Int
structure Ht where
 name:ByteArray
 low:Int
 high:Int
 term:Tm
structure Fl where
 vars:List Vr
 hats:List Ht
 body:List St
def Vr.enc (v:Vr):List CD:=[sC v.name,iC v.kind,iC v.low,iC v.high,iC v.init]
def Ht.enc (h:Ht):List CD:=[sC h.name,iC h.low,iC h.high]++h.term.enc
def encVs (l:List Vr):List (List CD):=l.map Vr.enc
def encHs (l:List Ht):List (List CD):=l.map Ht.enc
def Fl.enc (f:Fl):List CD:=[.sl 5 (encVs f.vars),.sl 6 (encHs f.hats),.sl 10 (encSs f.body)]
attribute [simp] Vr.enc Ht.enc Fl.enc Tm.enc St.enc
theorem encTs_map (l:List Tm):encTs l=l.map Tm.enc:=by
 induction l with
 |nil=>simp[encTs]
 |cons t l ih=>simp[encTs,ih]
theorem encSs_map (l:List St):encSs l=l.map St.enc:=by
 induction l with
 |nil=>simp[encSs]
 |cons t l ih=>simp[encSs,ih]
theorem Tm.ind {p:Tm→Prop} (h:∀o n ks,(∀t∈ks,p t)→p (.mk o n ks)):∀t,p t
 | .mk o n ks=>h o n ks fun t ht=>Tm.ind h t
theorem St.ind {p:St→Prop} (h:∀d c v n t a b bs,(∀s∈a,p s)→(∀s∈b,p s)→p (.mk d c v n t a b bs)):∀s,p s
 | .mk d c v n t a b bs=>h d c v n t a b bs (fun s hs=>St.ind h s) (fun s hs=>St.ind h s)
def Tm.op:Tm→Int| .mk o _ _=>o
def Tm.n:Tm→Int| .mk _ n _=>n
def Tm.kids:Tm→List Tm| .mk _ _ k=>k
def St.do_:St→Int| .mk d _ _ _ _ _ _ _=>d
def St.cost:St→Int| .mk _ c _ _ _ _ _ _=>c
def St.var:St→Int| .mk _ _ v _ _ _ _ _=>v
def St.n:St→Int| .mk _ _ _ n _ _ _ _=>n
def St.term:St→Tm| .mk _ _ _ _ t _ _ _=>t
def St.then_:St→List St| .mk _ _ _ _ _ a _ _=>a
def St.else_:St→List St| .mk _ _ _ _ _ _ b _=>b
def St.bounds:St→List Int| .mk _ _ _ _ _ _ _ bs=>bs
abbrev aT (t:Tm):TV:=.agg (t.enc.map .c)
abbrev aS (s:St):TV:=.agg (s.enc.map .c)
abbrev aV (v:Vr):TV:=.agg (v.enc.map .c)
abbrev aH (h:Ht):TV:=.agg (h.enc.map .c)
abbrev aF (f:Fl):TV:=.agg (f.enc.map .c)
abbrev lV (l:List Vr):TV:=.one (.c (.sl 5 (encVs l)))
abbrev lS (l:List St):TV:=.one (.c (.sl 10 (encSs l)))
abbrev lI (l:List Int):TV:=.one (.c (.sl 1 (encIs l)))
theorem get_encT {ks:List Tm} {i:Nat} {t:Tm} (h:ks[i]? =some t):(encTs ks)[i]? =some t.enc:=by rw[encTs_map,List.getElem?_map,h];rfl
theorem get_encS {ks:List St} {i:Nat} {t:St} (h:ks[i]? =some t):(encSs ks)[i]? =some t.enc:=by rw[encSs_map,List.getElem?_map,h];rfl
@[simp] theorem len_encT (ks:List Tm):(encTs ks).length=ks.length:=by rw[encTs_map,List.length_map]
@[simp] theorem len_encS (ks:List St):(encSs ks).length=ks.length:=by rw[encSs_map,List.length_map]
@[simp] theorem len_encV (ks:List Vr):(encVs ks).length=ks.length:=by simp[encVs]
@[simp] theorem len_encH (ks:List Ht):(encHs ks).length=ks.length:=by simp[encHs]
@[simp] theorem len_encI (ks:List Int):(encIs ks).length=ks.length:=by simp[encIs]
@[simp] theorem get_encV (ks:List Vr) (i:Nat):(encVs ks)[i]? =ks[i]?.map Vr.enc:=by simp[encVs]
@[simp] theorem get_encH (ks:List Ht) (i:Nat):(encHs ks)[i]? =ks[i]?.map Ht.enc:=by simp[encHs]
@[simp] theorem get_encI (ks:List Int) (i:Nat):(encIs ks)[i]? =ks[i]?.map fun n=>[iC n]:=by simp[encIs]
@[simp] theorem encV_nil:encVs []=[]:=rfl
@[simp] theorem encH_nil:encHs []=[]:=rfl
@[simp] theorem encI_nil:encIs []=[]:=rfl
attribute [simp] encTs encSs
theorem at_lt {α:Type} {l:List α} {k:Nat} (h:k<l.length):∃x,l[k]? =some x∧l.drop k=x::l.drop (k+1):=
 ⟨l[k],List.getElem?_eq_getElem h,List.drop_eq_getElem_cons h⟩
theorem wrap1 {k n:Nat} (h:k<n) (hn:n≤1000000000):IntKind.i64.wrap ((k:Int)+1)=(k:Int)+1:=wrap_in (by omega) (by omega)
end Go.Proofs.YtppjennamodfdaaGreat

namespace Go.Proofs.YtppjennamodfdaaGreat
open Go Go.Hl
abbrev bldO (rows:List (List CD)) (d:Int):List (Nat×Ob):=[(900001,.row 143 4 rows),(1000000,.box [.own 900001,.c (iC d)])]
theorem bld_pin {rows:List (List CD)} {d:Int}:∀n cs,lkp (bldO rows d) n=some (.box cs)→1000000≤n:=by
 intro n cs h;simp only[lkp]at h;split at h
 · cases h
 split at h
 · omega
 cases h
theorem bld_pv {rows:List (List CD)} {d:Int} {pv:Option Value}:∀v,pv=some v→∃cs,lkp (bldO rows d) 1000000=some (.box cs):=fun _ _=>⟨_,rfl⟩
abbrev atB:RV:=.v (.one (.at_ 1000000 0))
def nxB (v:Value) (rows rows':List (List CD)) (d k:Int) (m c:Nat) (x:RV) (R:List Nat):HS:=
 {trS ⟨⟨12,some v⟩,regsOf 0 [.one (.c (iC k)),.one (.c (.ptr [.lit v])),.one (.c (.ptr [iC m]))],[]⟩ [(0,4,x),(1,5,atB),(2,6,atB),(3,7,.v (.one (.own 900001))),(4,8,lit (.int .i64 m)),(5,9,lit (.int .i64 k)),(6,10,.v (.one (.el 900001 4 m 0))),(7,11,.v (.one (.el 900001 4 m c)))] R with objs:=if R.isEmpty then bldO rows' d else bldO rows d}
def stpB:List (List Nat×Nat):=[([0,1,2,3,4,5,6,7,8],0),([0,1,2,3,4,5,6,7,8],4),([0,1,2,3,4,5,6,7,8],5),([1,2,3,4,5,6,7,8],1),([1,2,3,4,5,6,7,8],4),([1,2,3,4,5,6,7,8],5),([0,1,2,3,5,6,7,8],0),([0,1,2,3,5,6,7,8],5),([0,1,2,3,4,6,7,8],0),([0,1,2,3,4,6,7,8],4),([2,3,4,5,6,7,8],2),([2,3,4,5,6,7,8],4),([2,3,4,5,6,7,8],5),([1,2,3,5,6,7,8],1),([1,2,3,5,6,7,8],5),([1,2,3,4,6,7,8],1),([1,2,3,4,6,7,8],4),([0,1,2,3,6,7,8],0),([3,4,5,6,7,8],3),([3,4,5,6,7,8],4),([3,4,5,6,7,8],5),([2,3,5,6,7,8],2),([2,3,5,6,7,8],5),([2,3,4,6,7,8],2),([2,3,4,6,7,8],4),([1,2,3,6,7,8],1),([4,5,6,7,8],4),([4,5,6,7,8],5),([3,5,6,7,8],3),([3,5,6,7,8],5),([3,4,6,7,8],3),([3,4,6,7,8],4),([2,3,6,7,8],2),([5,6,7,8],5),([4,6,7,8],4),([3,6,7,8],3),([6,7,8],6),([7,8],7),([8],8)]
theorem next1_con (v:Value) (rows:List (List CD)) (d k:Int) (m:Nat) (r:List CD) (hr:rows[m]? =some r) (hl:r.length=4):
  ConN Tryz.prog 184 (some v) (bldO rows d) [.one (.c (iC k)),.one (.c (.ptr [.lit v])),.one (.c (.ptr [iC m]))] (fun _:Unit=>True) (fun _=>.tup []) (fun _=>bldO (setRow rows m 2 [iC k]) d):=by
 have hin:inR rows m=true:=by simp[inR,(List.getElem?_eq_some_iff.1 hr).1]
 have hlen:m<rows.length:=(List.getElem?_eq_some_iff.1 hr).1;refine con_n_of_HT Tryz.func184 rfl (by kernel_rfl) (Nat.le_of_ble_eq_true rfl) ?_ ?_ ?_
 · exact bld_pin
 · intro v' h;exact⟨_,rfl⟩
 simp only[Tryz.f184];refine HT_bruteE (nxB v rows (setRow rows m 2 [iC k]) d k m 2 atB) stpB rfl (by kernel_rfl) (by kernel_rfl) (by kernel_rfl) rfl ?_ ?_
 · simp only[stpB,List.forall_mem_cons,List.not_mem_nil,false_implies,implies_true,and_true];refine⟨?_,?_,?_,?_,?_,?_,?_,?_,?_,?_,?_,?_,?_,?_,?_,?_,?_,?_,?_,?_,?_,?_,?_,?_,?_,?_,?_,?_,?_,?_,?_,?_,?_,?_,?_,?_,?_,?_,?_⟩
   all_goals first
    |(refine StepW.evE rfl ?_;simp[evc,evs,nxB,trS,regsOf,ins,putL,minus,hin,hlen];done)
    | (refine StepW.evN (nxB v rows (setRow rows m 2 [iC k]) d k m 2 (.v (.one (.c (.lit v))))) rfl ?_ ?_
       · simp[evc,nxB,trS,regsOf,ins,putL,minus]
       refine le_pin (v:=v) (cs:=[.own 900001,.c (iC d)]) rfl rfl rfl ?_ ?_<;>simp[nxB,trS,regsOf,ins,minus,allL,pnR,pnC,pnO,pnL,lkp])
 refine⟨.inl rfl,(),trivial,_,le_refl _,⟨[],rfl,rfl⟩,?_⟩;intro n o h;simpa[nxB]using h
theorem other1_con (v:Value) (rows:List (List CD)) (d k:Int) (m:Nat) (r:List CD) (hr:rows[m]? =some r) (hl:r.length=4):
  ConN Tryz.prog 200 (some v) (bldO rows d) [.one (.c (iC k)),.one (.c (.ptr [.lit v])),.one (.c (.ptr [iC m]))] (fun _:Unit=>True) (fun _=>.tup []) (fun _=>bldO (setRow rows m 3 [iC k]) d):=by
 have hin:inR rows m=true:=by simp[inR,(List.getElem?_eq_some_iff.1 hr).1]
 have hlen:m<rows.length:=(List.getElem?_eq_some_iff.1 hr).1;refine con_n_of_HT Tryz.func200 rfl (by kernel_rfl) (Nat.le_of_ble_eq_true rfl) ?_ ?_ ?_
 · exact bld_pin
 · intro v' h;exact⟨_,rfl⟩
 simp only[Tryz.f200];refine HT_bruteE (nxB v rows (setRow rows m 3 [iC k]) d k m 3 atB) stpB rfl (by kernel_rfl) (by kernel_rfl) (by kernel_rfl) rfl ?_ ?_
 · simp only[stpB,List.forall_mem_cons,List.not_mem_nil,false_implies,implies_true,and_true];refine⟨?_,?_,?_,?_,?_,?_,?_,?_,?_,?_,?_,?_,?_,?_,?_,?_,?_,?_,?_,?_,?_,?_,?_,?_,?_,?_,?_,?_,?_,?_,?_,?_,?_,?_,?_,?_,?_,?_,?_⟩
   all_goals first
    |(refine StepW.evE rfl ?_;simp[evc,evs,nxB,trS,regsOf,ins,putL,minus,hin,hlen];done)
    | (refine StepW.evN (nxB v rows (setRow rows m 3 [iC k]) d k m 3 (.v (.one (.c (.lit v))))) rfl ?_ ?_
       · simp[evc,nxB,trS,regsOf,ins,putL,minus]
       refine le_pin (v:=v) (cs:=[.own 900001,.c (iC d)]) rfl rfl rfl ?_ ?_<;>simp[nxB,trS,regsOf,ins,minus,allL,pnR,pnC,pnO,pnL,lkp])
 refine⟨.inl rfl,(),trivial,_,le_refl _,⟨[],rfl,rfl⟩,?_⟩;intro n o h;simpa[nxB]using h
end Go.Proofs.YtppjennamodfdaaGreat

namespace Go.Proofs.YtppjennamodfdaaGreat
open Go Go.Hl
abbrev pV (b:Nat):Value:=.pointer (some ⟨b,0,none⟩)
abbrev nxC (b m:Nat):CD:=.fn 184 [.ptr [.lit (pV b)],.ptr [iC m]]
abbrev otC (b m:Nat):CD:=.fn 200 [.ptr [.lit (pV b)],.ptr [iC m]]
theorem next_con (b m:Nat) (d:Nat):Con Tryz.prog 169 false [.one (.c (.lit (pV b))),.one (.c (iC m))] (.v (.one (.c (nxC b m)))) none d:=by
 refine con_of_HTA Tryz.func169 ?_;simp only[Tryz.f169];refine HT_sA ?_;refine HT_sA ?_;exact HT_retB (fun h=>⟨.inr rfl,h⟩) (regs:=[(4,.v (.one (.c (nxC b m))))]) (le_brwA (by simp[allL,brwT,frzP,frzC,lkp])) (by simp;rfl) rfl
theorem other_con (b m:Nat) (d:Nat):Con Tryz.prog 196 false [.one (.c (.lit (pV b))),.one (.c (iC m))] (.v (.one (.c (otC b m)))) none d:=by
 refine con_of_HTA Tryz.func196 ?_;simp only[Tryz.f196];refine HT_sA ?_;refine HT_sA ?_;exact HT_retB (fun h=>⟨.inr rfl,h⟩) (regs:=[(4,.v (.one (.c (otC b m))))]) (le_brwA (by simp[allL,brwT,frzP,frzC,lkp])) (by simp;rfl) rfl
end Go.Proofs.YtppjennamodfdaaGreat

namespace Go.Proofs.YtppjennamodfdaaGreat
open Go Go.Hl
abbrev nodeC (k d:Int):List CD:=[iC k,iC d,iC (-1),iC (-1)]
theorem add_con (b:Nat) (rows:List (List CD)) (d k:Int) (hr:rows.length≤2000000):
  ConN Tryz.prog 195 (some (pV b)) (bldO rows d) [.one (.c (.lit (pV b))),.one (.c (iC k))] (fun _:Unit=>True) (fun _=>.tup []) (fun _=>bldO (rows++[nodeC k d]) d):=by
 have hroom:room (rows.length+1) 32:=room_of (by omega) (by decide);refine con_n_of_HT Tryz.func195 rfl (by kernel_rfl) (Nat.le_of_ble_eq_true rfl) bld_pin bld_pv ?_;simp only[Tryz.f195];refine HT_le (s':=⟨⟨19,some (pV b)⟩,[(0,atB),(1,lit (.int .i64 k))],bldO rows d⟩) (le_pin (v:=pV b) (cs:=[.own 900001,.c (iC d)]) rfl rfl rfl (by simp[regsOf,allL,pnR,pnC,lkp]) (by simp[allL,pnO,pnL,pnC,lkp])) ?_;refine HT_drunH [(7,1000000),(12,1000000),(18,1000000)] (by kernel_rfl) (by kernel_rfl) (by rfl) (by simp[evsH,hokB,hintOf,hroom,allTyped,fillC,placeOf,cellsOf,dataOf,rowsOf,baseOf,moreOf,matApp,lkp,ins,del];rfl) ?_;refine⟨.inl rfl,(),trivial,⟨⟨19,some (pV b)⟩,[],bldO (rows++[nodeC k d]) d⟩,le_mk (fun n=>if n=900001 then 16 else n) [] rfl ?_ ?_ ?_,⟨[],rfl,rfl⟩,fun n o h=>h⟩
 · trivial
 · simp[allL,pinR,Ob.okNil,Ob.ren,lkp,CV.ren,CV.okNil]
 simp[allL,pinR]
end Go.Proofs.YtppjennamodfdaaGreat

namespace Go.Proofs.YtppjennamodfdaaGreat
open Go Go.Hl
abbrev Slot:=Bool×Nat
abbrev Slot.c (b:Nat) (s:Slot):CD:=.fn (if s.1=true then 200 else 184) [.ptr [.lit (pV b)],.ptr [iC s.2]]
def setS (rows:List (List CD)) (s:Slot) (k:Nat):List (List CD):=setRow rows s.2 (if s.1=true then 3 else 2) [iC k]
def setAll (k:Nat):List Slot→List (List CD)→List (List CD)
 |[],rows=>rows
 |s::l,rows=>setAll k l (setS rows s k)
abbrev Bst:=List (List CD)×Int
mutual
def bOne:St→Nat→Bst→Bst×List Slot
 | .mk o _ _ _ _ a b _,k,st=>
   if o=3 then
    let x:=bList a [(false,k)] (st.1++[nodeC 3 st.2],st.2+1)
    let y:=bList b [(true,k)] x.1
    (y.1,x.2++y.2)
   else if o=4 then
    let x:=bList a [(false,k+1)] (setRow (st.1++[nodeC 4 st.2]++[nodeC 5 st.2]) k 2 [iC ((k:Int)+1)],st.2+1)
    ((setAll (k+1) x.2 x.1.1,x.1.2),[(true,k+1)])
   else((st.1++[nodeC 2 st.2],st.2+1),[(false,k)])
def bList:List St→List Slot→Bst→Bst×List Slot
 |[],sl,st=>(st,sl)
 | s::l,sl,st=>
   let x:=bOne s st.1.length (setAll st.1.length sl st.1,st.2)
   bList l x.2 x.1
end
mutual
def szN:St→Nat
 | .mk _ _ _ _ _ a b _=>2+szNs a+szNs b
def szNs:List St→Nat
 |[]=>0
 |s::l=>szN s+szNs l
end
structure okB (sl:List Slot) (rows:List (List CD)):Prop where
 four:∀r∈rows,r.length=4
 lt:∀s∈sl,s.2<rows.length
theorem setRow_len (rows:List (List CD)) (i off:Nat) (ds:List CD):(setRow rows i off ds).length=rows.length:=by
 unfold setRow;split<;>simp
theorem setRow_four {rows:List (List CD)} {i off:Nat} {x:CD} (h:∀r∈rows,r.length=4) (ho:off<4):∀r∈setRow rows i off [x],r.length=4:=by
 intro r hr;unfold setRow at hr;split at hr
 · rename_i r0 h0;rcases List.mem_or_eq_of_mem_set hr with hr|rfl
   · exact h r hr
   have:=h r0 (List.mem_of_getElem? h0);simp[this];omega
 exact h r hr
theorem setS_len (rows:List (List CD)) (s:Slot) (k:Nat):(setS rows s k).length=rows.length:=setRow_len ..
theorem setAll_len (k:Nat):∀(sl:List Slot) (rows:List (List CD)),(setAll k sl rows).length=rows.length
 |[],_=>rfl
 |s::l,rows=>by rw[setAll,setAll_len k l,setS_len]
theorem setS_four {rows:List (List CD)} {s:Slot} {k:Nat} (h:∀r∈rows,r.length=4):∀r∈setS rows s k,r.length=4:=
 setRow_four h (by split<;>omega)
theorem setAll_four (k:Nat):∀(sl:List Slot) (rows:List (List CD)),(∀r∈rows,r.length=4)→∀r∈setAll k sl rows,r.length=4
 |[],_,h=>h
 |s::l,rows,h=>setAll_four k l _ (setS_four h)
theorem four_app {rows:List (List CD)} {k d:Int} (h:∀r∈rows,r.length=4):∀r∈rows++[nodeC k d],r.length=4:=by
 intro r hr;rcases List.mem_append.1 hr with hr|hr
 · exact h r hr
 simp only[List.mem_singleton]at hr;rw[hr];rfl
mutual
theorem bOne_ok:∀(s:St) (k:Nat) (st:Bst),(∀r∈st.1,r.length=4)→k=st.1.length→
  okB (bOne s k st).2 (bOne s k st).1.1∧st.1.length≤(bOne s k st).1.1.length∧(bOne s k st).1.1.length≤st.1.length+szN s∧st.2≤(bOne s k st).1.2∧(bOne s k st).1.2≤st.2+szN s
 | .mk o c v n t a b bs,k,st,h4,hk=>by
   unfold bOne szN;split
   · have ha:=bList_ok a [(false,k)] (st.1++[nodeC 3 st.2],st.2+1) ⟨four_app h4,by simp[hk]⟩;obtain⟨a1,a2,a3,a4,a5⟩:=ha;obtain⟨x,hx⟩:∃x,bList a [(false,k)] (st.1++[nodeC 3 st.2],st.2+1)=x:=⟨_,rfl⟩;simp only[hx]at a1 a2 a3 a4 a5⊢;simp only[List.length_append,List.length_singleton]at a2 a3;have hb:=bList_ok b [(true,k)] x.1 ⟨a1.four,by simp;omega⟩;obtain⟨b1,b2,b3,b4,b5⟩:=hb;refine⟨⟨b1.four,fun s hs=>?_⟩,by omega,by omega,by omega,by omega⟩;rcases List.mem_append.1 hs with hs|hs
     · exact Nat.lt_of_lt_of_le (a1.lt s hs) b2
     exact b1.lt s hs
   split
   · have ha:=bList_ok a [(false,k+1)] (setRow (st.1++[nodeC 4 st.2]++[nodeC 5 st.2]) k 2 [iC ((k:Int)+1)],st.2+1) ⟨setRow_four (four_app (four_app h4)) (by omega),by simp[hk,setRow_len]⟩;obtain⟨a1,a2,a3,a4,a5⟩:=ha;obtain⟨x,hx⟩:∃x,bList a [(false,k+1)] (setRow (st.1++[nodeC 4 st.2]++[nodeC 5 st.2]) k 2 [iC ((k:Int)+1)],st.2+1)=x:=⟨_,rfl⟩;simp only[hx]at a1 a2 a3 a4 a5⊢;simp only[setRow_len,List.length_append,List.length_singleton]at a2 a3;refine⟨⟨setAll_four _ _ _ a1.four,fun s hs=>?_⟩,by rw[setAll_len];omega,by rw[setAll_len];omega,by omega,by omega⟩;simp only[List.mem_singleton]at hs;rw[hs,setAll_len];show k+1<_;omega
   refine⟨⟨four_app h4,fun s hs=>?_⟩,by simp,by simp;omega,by show st.2≤st.2+1;omega,by show st.2+1≤_;omega⟩;simp only[List.mem_singleton]at hs;rw[hs];simp[hk]
theorem bList_ok:∀(l:List St) (sl:List Slot) (st:Bst),okB sl st.1→
  okB (bList l sl st).2 (bList l sl st).1.1∧st.1.length≤(bList l sl st).1.1.length∧(bList l sl st).1.1.length≤st.1.length+szNs l∧st.2≤(bList l sl st).1.2∧(bList l sl st).1.2≤st.2+szNs l
 | [],sl,st,h=>by
   unfold bList szNs;exact⟨h,Nat.le_refl _,Nat.le_refl _,Int.le_refl _,by simp⟩
 | s::l,sl,st,h=>by
   unfold bList szNs;have ha:=bOne_ok s st.1.length (setAll st.1.length sl st.1,st.2) (setAll_four _ _ _ h.four) (setAll_len ..).symm;obtain⟨a1,a2,a3,a4,a5⟩:=ha;obtain⟨x,hx⟩:∃x,bOne s st.1.length (setAll st.1.length sl st.1,st.2)=x:=⟨_,rfl⟩;simp only[hx,setAll_len]at a1 a2 a3 a4 a5⊢;obtain⟨b1,b2,b3,b4,b5⟩:=bList_ok l x.2 x.1 a1;exact⟨b1,by omega,by omega,by omega,by omega⟩
end
mutual
theorem bOne_len:∀(s:St) (k:Nat) (st:Bst),(bOne s k st).2.length≤szN s
 | .mk o c v n t a b bs,k,st=>by
   unfold bOne szN;split
   · have h1:=bList_len a [(false,k)] (st.1++[nodeC 3 st.2],st.2+1);have h2:=bList_len b [(true,k)] (bList a [(false,k)] (st.1++[nodeC 3 st.2],st.2+1)).1;simp only[List.length_singleton]at h1 h2;simp only[List.length_append];omega
   split<;>simp only[List.length_singleton]<;>omega
theorem bList_len:∀(l:List St) (sl:List Slot) (st:Bst),(bList l sl st).2.length≤max sl.length (szNs l)
 | [],sl,st=>by
   unfold bList szNs;exact Nat.le_max_left ..
 | s::l,sl,st=>by
   unfold bList szNs;have h1:=bOne_len s st.1.length (setAll st.1.length sl st.1,st.2);have h2:=bList_len l (bOne s st.1.length (setAll st.1.length sl st.1,st.2)).2 (bOne s st.1.length (setAll st.1.length sl st.1,st.2)).1;simp only at h1 h2⊢;omega
end
end Go.Proofs.YtppjennamodfdaaGreat

namespace Go.Proofs.YtppjennamodfdaaGreat
open Go Go.Hl
def encSl (b:Nat) (sl:List Slot):List (List CD):=sl.map fun s=>[s.c b]
@[simp] theorem len_encSl (b:Nat) (sl:List Slot):(encSl b sl).length=sl.length:=by simp[encSl]
theorem get_encSl {b:Nat} {sl:List Slot} {i:Nat} {s:Slot} (h:sl[i]? =some s):(encSl b sl)[i]? =some [s.c b]:=by simp[encSl,h]
def oneC (b:Nat) (s:St):Prop:=∀(k:Nat) (rows:List (List CD)) (d:Int),(∀r∈rows,r.length=4)→k=rows.length→rows.length+szN s≤1000000→0≤d→d+szN s≤1000000→
 ConN Tryz.prog 183 (some (pV b)) (bldO rows d) [.one (.c (.lit (pV b))),aS s,.one (.c (iC k))] (fun _:Unit=>True) (fun _=>.v (.one (.own 1))) (fun _=>(1,.row 100 1 (encSl b (bOne s k (rows,d)).2))::bldO (bOne s k (rows,d)).1.1 (bOne s k (rows,d)).1.2)
theorem slot_con (b:Nat) (rows:List (List CD)) (d:Int) (k:Nat) (s:Slot) (h4:∀r∈rows,r.length=4) (hs:s.2<rows.length):
  ConN Tryz.prog (if s.1=true then 200 else 184) (some (pV b)) (bldO rows d) [.one (.c (iC k)),.one (.c (.ptr [.lit (pV b)])),.one (.c (.ptr [iC s.2]))] (fun _:Unit=>True) (fun _=>.tup []) (fun _=>bldO (setS rows s k) d):=by
 obtain⟨o,m⟩:=s;have hr:rows[m]? =some rows[m]:=List.getElem?_eq_getElem hs;unfold setS;cases o with
 |true=>exact other1_con (pV b) rows d k m _ hr (h4 _ (List.getElem_mem _))
 |false=>exact next1_con (pV b) rows d k m _ hr (h4 _ (List.getElem_mem _))
theorem bldS_pin {x:Ob} {rows:List (List CD)} {d:Int} (hx:∀cs,x≠ .box cs):∀n cs,lkp ((1,x)::bldO rows d) n=some (.box cs)→1000000≤n:=by
 intro n cs h;simp only[lkp]at h;split at h
 · exact absurd (Option.some.inj h) (hx cs)
 exact bld_pin n cs h
set_option maxHeartbeats 4000000 in
theorem list_con (b:Nat) (l:List St) (hone:∀s∈l,oneC b s) (sl:List Slot) (rows:List (List CD)) (d:Int) (hok:okB sl rows) (hn:rows.length+szNs l≤1000000) (hd:0≤d) (hd2:d+szNs l≤1000000) (hl:l.length≤1000000) (hsl:sl.length≤1000000):
  ConN Tryz.prog 168 (some (pV b)) ((1,.row 100 1 (encSl b sl))::bldO rows d) [.one (.c (.lit (pV b))),lS l,.one (.own 1)] (fun _:Unit=>True) (fun _=>.v (.one (.own 1))) (fun _=>(1,.row 100 1 (encSl b (bList l sl (rows,d)).2))::bldO (bList l sl (rows,d)).1.1 (bList l sl (rows,d)).1.2):=by
 obtain⟨RES,hR⟩:∃x,bList l sl (rows,d)=x:=⟨_,rfl⟩;rw[hR];refine con_n_of_HT Tryz.func168 rfl (by kernel_rfl) (Nat.le_of_ble_eq_true rfl) (bldS_pin (by intro cs;simp)) (fun _ _=>⟨_,rfl⟩) ?_;simp only[Tryz.f168];refine HT_seq<|(HT_run (by simp[*,addS];rfl) ?_);refine HT_seq<|HT_seq<|(HT_run (by simp[*,addS];rfl) ?_);refine HT_block<|(HT_loopU [0,12,13] (fun(x:Nat×List Slot×List (List CD)×Int)=>[(2,.v (.one (.own 1))),(14,lit (.int .i64 x.1))]) (fun(x:Nat×List Slot×List (List CD)×Int)=>(1,.row 100 1 (encSl b x.2.1))::bldO x.2.2.1 x.2.2.2) (fun(x:Nat×List Slot×List (List CD)×Int)=>okB x.2.1 x.2.2.1∧x.2.1.length≤1000000∧x.1≤l.length∧bList (l.drop x.1) x.2.1 (x.2.2.1,x.2.2.2)=RES∧x.2.2.1.length+szNs (l.drop x.1)≤1000000∧0≤x.2.2.2∧x.2.2.2+szNs (l.drop x.1)≤1000000) (fun(x:Nat×List Slot×List (List CD)×Int)=>l.length - x.1) (0,sl,rows,d) ⟨hok,hsl,Nat.zero_le _,hR,hn,hd,hd2⟩ ?_ ?_)
 · exact le_mk (fun n=>n) [] rfl (by simp[*,upS,keepS,addS]) (by simp[*,upS]) (by simp[upS])
 rintro⟨j,sl1,rows1,d1⟩ ⟨e1,e7,e2,e3,e4,e5,e6⟩;simp only[upS,keepS,insS]
 try simp only[keepS,KN,Nat.reduceBEq,if_true,if_false,ins,Nat.reduceLT]
 simp only at e1 e7 e2 e3 e4 e5 e6;clear hR hok hn hd hd2 hsl;refine HT_seq<|(HT_run (by simp[*,addS];rfl) ?_);refine HT_seq<|(HT_cond rfl (fun h4=>HT_skip ?_) (fun h4=>?_))
 · (try simp only[BN]at h4);have hj:j<l.length:=by simpa using h4
   obtain⟨s,hs,hdr⟩:=at_lt hj;have hse:=get_encS hs;rw[hdr]at e3 e4 e6;simp only[bList,szNs]at e3 e4 e6;have ho:=hone s (List.mem_of_getElem? hs);clear hone;obtain⟨o,c,v,n,⟨to,tn,tk⟩,sa,sb,bs⟩:=s;simp only[St.enc,Tm.enc,List.cons_append,List.nil_append]at hse;have hjn:j+1≤l.length:=hj;clear hj hs h4 hdr;refine HT_seq<|HT_block<|HT_seq<|(HT_run (by simp[*,addS];rfl) ?_);refine HT_le (le_toB (v:=pV b) 0 rfl rfl rfl) ?_;simp only[ins,Nat.reduceLT,Nat.reduceEqDiff,if_true,if_false];refine HT_seq<|(HT_run (by simp[*,addS];rfl) ?_);refine HT_le (le_toV (v:=pV b) 0 rfl rfl rfl) ?_;simp only[ins,Nat.reduceLT,Nat.reduceEqDiff,if_true,if_false];refine HT_seq<|HT_seq<|(HT_run (by simp[*,addS];rfl) ?_);refine HT_block<|(HT_loopU [0,8,9,12,13,14,23,24] (fun(x:Nat×List (List CD))=>[(25,lit (.int .i64 x.1))]) (fun(x:Nat×List (List CD))=>(1,.row 100 1 (encSl b sl1))::(8,.box [.c (iC o),.c (iC c),.c (iC v),.c (iC n),.c (iC to),.c (iC tn),.c (.sl 3 (encTs tk)),.c (.sl 10 (encSs sa)),.c (.sl 10 (encSs sb)),.c (.sl 1 (encIs bs))])::bldO x.2 d1) (fun(x:Nat×List (List CD))=>x.1≤sl1.length∧setAll rows1.length (sl1.drop x.1) x.2=setAll rows1.length sl1 rows1∧(∀r∈x.2,r.length=4)∧x.2.length=rows1.length) (fun(x:Nat×List (List CD))=>sl1.length - x.1) (0,rows1) ⟨Nat.zero_le _,rfl,e1.four,rfl⟩ ?_ ?_)
   · exact le_mk (fun n=>n) [] rfl (by simp[*,upS,keepS,addS]) (by simp[*,upS]) (by simp[upS])
   rintro⟨i,rows2⟩ ⟨g1,g2,g3,g4⟩;simp only[upS,keepS,insS]
   try simp only[keepS,KN,Nat.reduceBEq,if_true,if_false,ins,Nat.reduceLT]
   simp only at g1 g2 g3 g4;refine HT_seq<|(HT_run (by simp[*,addS];rfl) ?_);refine HT_seq<|(HT_cond rfl (fun h10=>HT_skip ?_) (fun h10=>?_))
   · (try simp only[BN]at h10);have hi:i<sl1.length:=by simpa using h10
     obtain⟨q,hq,hqd⟩:=at_lt hi;have hqe:=get_encSl (b:=b) hq;rw[hqd]at g2;simp only[setAll]at g2;have cq:=slot_con b rows2 d1 rows1.length q g3 (by have:=e1.lt q (List.mem_of_getElem? hq);omega);have hw:=wrap1 hi (by omega:sl1.length≤1000000000);have hin:i+1≤sl1.length:=hi;clear hi hq h10 hqd;refine HT_seq<|HT_block<|HT_seq<|(HT_run (by simp[*,addS];rfl) ?_);refine(HT_runsN ?_);refine RunsN.cutE 2 [] (by simp;rfl) trivial (le_refl _) ?_;refine RunsN.call (fun n=>n) (fun n=>if n=900001 then 40 else n) (by simp[gOfN,capV,argsT,catT,TV.ren,CV.ren];rfl) (.inr ⟨rfl,rfl⟩) (handS_mk (by simp[rbB,okObB,okCell,CV.ren]) (by simp) (by simp) (by simp[rbB,okObB,okCell,CV.ren]) (by simp[rbB,okObB,okCell,CV.ren])) (fun _ _=>handS_mk (by simp[rbB,okObB,okCell,CV.ren]) (by simp) (by simp) (by simp[rbB,okObB,okCell,CV.ren]) (by simp[rbB,okObB,okCell,CV.ren])) cq (fun _ _=>rfl) fun _ _=>?_;refine RunsN.doneE [] (by simp;rfl) trivial ?_;refine(HT_run (by simp[*,addS];rfl) ?_);exact⟨(i+1,setS rows2 q rows1.length),⟨hin,g2,setS_four g3,(setS_len ..).trans g4⟩,by simp only;omega,le_mk (fun n=>if n=900001 then 40 else n) [] rfl (by simp[upS,keepS, *,addS]) (by simp[*,upS,addS]) (by simp[upS])⟩
   try simp only[BN]at h10
   have hi:i=sl1.length:=by
    have:¬i<sl1.length:=by simpa using h10
    omega
   subst hi;rw[List.drop_length]at g2;simp only[setAll]at g2;subst g2;clear h10 g1;have hb1:=bOne_ok (.mk o c v n (.mk to tn tk) sa sb bs) rows1.length (setAll rows1.length sl1 rows1,d1) g3 g4.symm;have hb2:=bOne_len (.mk o c v n (.mk to tn tk) sa sb bs) rows1.length (setAll rows1.length sl1 rows1,d1);have cq:=ho rows1.length (setAll rows1.length sl1 rows1) d1 g3 g4.symm (by omega) e5 (by omega);obtain⟨⟨⟨rows3,d3⟩,sl3⟩,hx⟩:∃x,bOne (.mk o c v n (.mk to tn tk) sa sb bs) rows1.length (setAll rows1.length sl1 rows1,d1)=x:=⟨_,rfl⟩;simp only[hx]at e3 hb1 hb2 cq;obtain⟨b1,b2,b3,b4,b5⟩:=hb1;rw[g4]at b2 b3;have hw:=wrap1 (show j<l.length by omega) (by omega:l.length≤1000000000);clear ho hx e1 hse g3 g4;refine(HT_exit ?_);refine(HT_runsN ?_);refine RunsN.cutE 3 [] (by simp;rfl) trivial (le_refl _) ?_;refine RunsN.call (fun n=>n) (fun n=>if n=900001 then 40 else if n=1 then 41 else n) (by simp[gOfN,capV,argsT,catT,TV.ren,CV.ren];rfl) (.inr ⟨rfl,rfl⟩) (handS_mk (by simp[rbB,okObB,okCell,CV.ren]) (by simp) (by simp) (by simp[rbB,okObB,okCell,CV.ren]) (by simp[rbB,okObB,okCell,CV.ren])) (fun _ _=>handS_mk (by simp[rbB,okObB,okCell,CV.ren]) (by simp) (by simp) (by simp[rbB,okObB,okCell,CV.ren]) (by simp[rbB,okObB,okCell,CV.ren])) cq (fun _ _=>rfl) fun _ _=>?_;refine RunsN.doneE [] (by simp;rfl) trivial ?_;refine(HT_run (by simp[*,addS];rfl) ?_);exact⟨(j+1,sl3,rows3,d3),⟨b1,by simp only;omega,hjn,e3,by simp only;omega,by simp only at b4⊢;omega,by simp only at b5⊢;omega⟩,by simp only;omega,le_mk (fun n=>if n=900001 then 40 else if n=1 then 41 else n) [] rfl (by simp[upS,keepS, *,addS]) (by simp[*,upS,addS]) (by simp[upS])⟩
 try simp only[BN]at h4
 have hj:j=l.length:=by
  have:¬j<l.length:=by simpa using h4
  omega
 subst hj;rw[List.drop_length]at e3;simp only[bList]at e3;subst e3;clear h4 hone;refine(HT_exit ?_);refine HT_seq<|(HT_run (by simp[*,addS];rfl) ?_);exact HT_ret ⟨.inr rfl,(),trivial,_,le_refl _,⟨[.one (.own 1)],by simp,rfl⟩,fun n o h=>h⟩
end Go.Proofs.YtppjennamodfdaaGreat

namespace Go.Proofs.YtppjennamodfdaaGreat
open Go Go.Hl
theorem len_szNs:∀l:List St,l.length≤szNs l
 |[]=>Nat.le_refl _
 | .mk o c v n t a b bs::l=>by
   have:=len_szNs l;unfold szNs szN;simp only[List.length_cons];omega
def lstC (b:Nat) (l:List St):Prop:=∀(sl:List Slot) (rows:List (List CD)) (d:Int),okB sl rows→rows.length+szNs l≤1000000→0≤d→d+szNs l≤1000000→sl.length≤1000000→
 ConN Tryz.prog 168 (some (pV b)) ((1,.row 100 1 (encSl b sl))::bldO rows d) [.one (.c (.lit (pV b))),lS l,.one (.own 1)] (fun _:Unit=>True) (fun _=>.v (.one (.own 1))) (fun _=>(1,.row 100 1 (encSl b (bList l sl (rows,d)).2))::bldO (bList l sl (rows,d)).1.1 (bList l sl (rows,d)).1.2)
theorem lst_of_one {b:Nat} {l:List St} (h:∀s∈l,oneC b s):lstC b l:=fun sl rows d h1 h2 h3 h4 h5=>list_con b l h sl rows d h1 h2 h3 h4 (by have:=len_szNs l;omega) h5
abbrev stepO (o c v n to tn:Int) (tk:List Tm) (sa sb:List St) (bs:List Int):Ob:=.box [.c (iC o),.c (iC c),.c (iC v),.c (iC n),.c (iC to),.c (iC tn),.c (.sl 3 (encTs tk)),.c (.sl 10 (encSs sa)),.c (.sl 10 (encSs sb)),.c (.sl 1 (encIs bs))]
def ms6:List (Nat×List Nat):=[(511,[0,1,3,4]),(510,[1,3,4]),(509,[0,2,3,4]),(503,[0,1,4]),(495,[0,1,3]),(508,[2,3,4]),(502,[1,4]),(494,[1,3]),(505,[0,3,4]),(501,[0,2,4]),(493,[0,2,3]),(487,[0,1,5]),(504,[3,4]),(500,[2,4]),(492,[2,3]),(486,[1,5]),(497,[0,4]),(489,[0,3]),(485,[0,2,5]),(455,[0,1,6]),(496,[4]),(488,[3]),(484,[2,5]),(454,[1,6]),(481,[0,5]),(453,[0,2,6]),(391,[0,1]),(480,[5]),(452,[2,6]),(390,[1]),(449,[0,6]),(389,[0,2]),(448,[6]),(388,[2]),(385,[0]),(384,[7]),(256,[8])]
def ms7:List (Nat×List Nat):=[(2047,[0,1,2,4,5]),(2046,[1,2,4,5]),(2045,[0,2,4,5]),(2043,[0,1,3,4,5]),(2031,[0,1,2,5]),(2015,[0,1,2,4]),(2044,[2,4,5]),(2042,[1,3,4,5]),(2030,[1,2,5]),(2014,[1,2,4]),(2041,[0,3,4,5]),(2029,[0,2,5]),(2013,[0,2,4]),(2035,[0,1,4,5]),(2027,[0,1,3,5]),(2011,[0,1,3,4]),(1999,[0,1,2,6]),(2040,[3,4,5]),(2028,[2,5]),(2012,[2,4]),(2034,[1,4,5]),(2026,[1,3,5]),(2010,[1,3,4]),(1998,[1,2,6]),(2033,[0,4,5]),(2025,[0,3,5]),(2009,[0,3,4]),(1997,[0,2,6]),(2019,[0,1,5]),(2003,[0,1,4]),(1995,[0,1,3,6]),(1935,[0,1,2,7]),(2032,[4,5]),(2024,[3,5]),(2008,[3,4]),(1996,[2,6]),(2018,[1,5]),(2002,[1,4]),(1994,[1,3,6]),(1934,[1,2,7]),(2017,[0,5]),(2001,[0,4]),(1993,[0,3,6]),(1933,[0,2,7]),(1987,[0,1,6]),(1931,[0,1,3,7]),(1807,[0,1,2]),(2016,[5]),(2000,[4]),(1992,[3,6]),(1932,[2,7]),(1986,[1,6]),(1930,[1,3,7]),(1806,[1,2]),(1985,[0,6]),(1929,[0,3,7]),(1805,[0,2]),(1923,[0,1,7]),(1803,[0,1,3]),(1984,[6]),(1928,[3,7]),(1804,[2]),(1922,[1,7]),(1802,[1,3]),(1921,[0,7]),(1801,[0,3]),(1795,[0,1]),(1920,[7]),(1800,[3]),(1794,[1]),(1793,[0,8]),(1792,[8]),(1537,[0]),(1536,[9]),(1024,[10])]
def ms15:List (Nat×List Nat):=[(2047,[0,1,3,4,10]),(2046,[1,3,4,10]),(2045,[0,2,3,4,10]),(2039,[0,1,4,10]),(2031,[0,1,3,5,10]),(1023,[0,1,3,4]),(2044,[2,3,4,10]),(2038,[1,4,10]),(2030,[1,3,5,10]),(1022,[1,3,4]),(2041,[0,3,4,10]),(2037,[0,2,4,10]),(2029,[0,2,3,5,10]),(1021,[0,2,3,4]),(2023,[0,1,5,10]),(1015,[0,1,4]),(1999,[0,1,3,10]),(1007,[0,1,3,5]),(2040,[3,4,10]),(2036,[2,4,10]),(2028,[2,3,5,10]),(1020,[2,3,4]),(2022,[1,5,10]),(1014,[1,4]),(1998,[1,3,10]),(1006,[1,3,5]),(2033,[0,4,10]),(2025,[0,3,5,10]),(1017,[0,3,4]),(2021,[0,2,5,10]),(1013,[0,2,4]),(1997,[0,2,3,10]),(1005,[0,2,3,5]),(1991,[0,1,6,10]),(999,[0,1,5]),(975,[0,1,3]),(2032,[4,10]),(2024,[3,5,10]),(1016,[3,4]),(2020,[2,5,10]),(1012,[2,4]),(1996,[2,3,10]),(1004,[2,3,5]),(1990,[1,6,10]),(998,[1,5]),(974,[1,3]),(2017,[0,5,10]),(1009,[0,4]),(1993,[0,3,10]),(1001,[0,3,5]),(1989,[0,2,6,10]),(997,[0,2,5]),(973,[0,2,3]),(1927,[0,1,7,10]),(967,[0,1,6]),(2016,[5,10]),(1008,[4]),(1992,[3,10]),(1000,[3,5]),(1988,[2,6,10]),(996,[2,5]),(972,[2,3]),(1926,[1,7,10]),(966,[1,6]),(1985,[0,6,10]),(993,[0,5]),(969,[0,3]),(1925,[0,2,7,10]),(965,[0,2,6]),(1799,[0,1,10]),(903,[0,1,7]),(1984,[6,10]),(992,[5]),(968,[3]),(1924,[2,7,10]),(964,[2,6]),(1798,[1,10]),(902,[1,7]),(1921,[0,7,10]),(961,[0,6]),(1797,[0,2,10]),(901,[0,2,7]),(775,[0,1]),(1920,[7,10]),(960,[6]),(1796,[2,10]),(900,[2,7]),(774,[1]),(1793,[0,10]),(897,[0,7]),(773,[0,2]),(1792,[8,10]),(896,[7]),(772,[2]),(769,[0]),(1536,[9,10]),(768,[8]),(1024,[10]),(512,[9])]
def nx6 (b k:Nat) (B:Ob) (sa:List St) (x y:List (Nat×Ob)) (R:List Nat):HS:=
 {trS ⟨⟨100,some (pV b)⟩,[(0,.v (.one (.c (.lit (pV b))))),(2,lit (.int .i64 k)),(4,.v (.one (.at_ 4 0)))],[]⟩ [(0,23,.v (.one (.c (.lit (pV b))))),(1,24,.v (.one (.at_ 4 7))),(2,25,.v (lS sa)),(3,26,.v (.one (.c (.lit (pV b))))),(4,27,lit (.int .i64 k)),(5,28,.v (.one (.c (nxC b k)))),(6,29,.v (.one (.own 29))),(7,30,.v (.one (.own 30))),(8,7,.v (.one (.own 30)))] R with
  objs:=(4,B)::if R.contains 6 then x else if R.contains 7 then(29,.row 100 1 [[nxC b k]])::x else y}
def nx7 (b k:Nat) (B:Ob) (sb:List St) (r3 r4 r34:List (List CD)) (x y:List (Nat×Ob)) (R:List Nat):HS:=
 {trS ⟨⟨100,some (pV b)⟩,[(0,.v (.one (.c (.lit (pV b))))),(2,lit (.int .i64 k)),(4,.v (.one (.at_ 4 0))),(7,.v (.one (.own 30)))],[]⟩ [(0,31,.v (.one (.own 30))),(1,32,.v (.one (.c (.lit (pV b))))),(2,33,.v (.one (.at_ 4 8))),(3,34,.v (lS sb)),(4,35,.v (.one (.c (.lit (pV b))))),(5,36,lit (.int .i64 k)),(6,37,.v (.one (.c (otC b k)))),(7,38,.v (.one (.own 38))),(8,39,.v (.one (.own 39))),(9,40,.v (.one (.own 40))),(10,6,.v (.one (.own 40)))] R with
  objs:=(4,B)::if R.contains 7 then(30,.row 100 1 r3)::x else if R.contains 8 then(30,.row 100 1 r3)::(38,.row 100 1 [[otC b k]])::x else if R.contains 9 then(30,.row 100 1 r3)::(39,.row 100 1 r4)::y else(39,.row 100 1 r4)::(40,.row 100 1 r34)::y}
def nx15 (b k:Nat) (B:Ob) (sa:List St) (nl:Nat) (x y:List (Nat×Ob)) (R:List Nat):HS:=
 {trS ⟨⟨100,some (pV b)⟩,[(0,.v (.one (.c (.lit (pV b))))),(2,lit (.int .i64 k)),(4,.v (.one (.at_ 4 0)))],[]⟩ [(0,63,.v (.one (.c (.lit (pV b))))),(1,64,.v (.one (.at_ 4 7))),(2,65,.v (lS sa)),(3,66,.v (.one (.c (.lit (pV b))))),(4,67,lit (.int .i64 k)),(5,68,lit (.int .i64 ((k:Int)+1))),(6,69,.v (.one (.c (nxC b (k+1))))),(7,70,.v (.one (.own 70))),(8,71,.v (.one (.own 71))),(9,72,lit (.int .i64 nl)),(10,73,lit (.int .i64 0))] R with
  objs:=(4,B)::if R.contains 7 then x else if R.contains 8 then(70,.row 100 1 [[nxC b (k+1)]])::x else y}
attribute [simp] nx6 nx7 nx15
@[simp] theorem encSl_next (b k:Nat):encSl b [(false,k)]=[[nxC b k]]:=rfl
@[simp] theorem encSl_oth (b k:Nat):encSl b [(true,k)]=[[otC b k]]:=rfl
@[simp] theorem encSl_app (b:Nat) (x y:List Slot):encSl b (x++y)=encSl b x++encSl b y:=by simp[encSl]
set_option maxHeartbeats 8000000 in
theorem one_then (b:Nat) (o c v n to tn:Int) (tk:List Tm) (sa sb:List St) (bs:List Int) (ha:lstC b sa) (hb:lstC b sb) (ho0:o=3):oneC b (.mk o c v n (.mk to tn tk) sa sb bs):=by
 intro k rows d h4 hk hn hd hd2;subst hk;obtain⟨RES,hR⟩:∃x,bOne (.mk o c v n (.mk to tn tk) sa sb bs) rows.length (rows,d)=x:=⟨_,rfl⟩;rw[hR];simp only[szN]at hn hd2;unfold bOne at hR;simp only[aS,St.enc,Tm.enc,List.map_cons,List.map_nil,List.cons_append,List.nil_append];refine con_n_of_HT Tryz.func183 rfl (by kernel_rfl) (Nat.le_of_ble_eq_true rfl) bld_pin bld_pv ?_;simp only[Tryz.f183];have hw0:IntKind.i64.wrap (d+1)=d+1:=wrap_in (by omega) (by omega);have A3:=add_con b rows d 3 (by omega);have A4:=add_con b rows d 4 (by omega);have A2:=add_con b rows d 2 (by omega);have A5:=add_con b (rows++[nodeC 4 d]) d 5 (by simp;omega);refine HT_sA ?_;refine HT_seq<|HT_seq<|HT_runA ?_;refine HT_block<|HT_seq<|HT_runA ?_;refine(HT_cond rfl (fun h3=>?_) (fun h3=>?_))
 · (try simp only[BN]at h3);have ho:o=3:=ho0;rw[if_pos ho]at hR;clear A2 A4 A5;have cA:=ha [(false,rows.length)] (rows++[nodeC 3 d]) (d+1) ⟨four_app h4,by simp⟩ (by simp;omega) (by omega) (by omega) (by simp);have k1:=bList_ok sa [(false,rows.length)] (rows++[nodeC 3 d],d+1) ⟨four_app h4,by simp⟩;have l1:=bList_len sa [(false,rows.length)] (rows++[nodeC 3 d],d+1);simp only at hR;obtain⟨⟨⟨rows3,d3⟩,sl3⟩,hx⟩:∃x,bList sa [(false,rows.length)] (rows++[nodeC 3 d],d+1)=x:=⟨_,rfl⟩;simp only[hx]at hR cA k1 l1;obtain⟨a1,a2,a3,a4,a5⟩:=k1;simp only[List.length_append,List.length_singleton]at a2 a3 l1;have cB:=hb [(true,rows.length)] rows3 d3 ⟨a1.four,by simp;omega⟩ (by omega) (by omega) (by omega) (by simp);have k2:=bList_ok sb [(true,rows.length)] (rows3,d3) ⟨a1.four,by simp;omega⟩;have l2:=bList_len sb [(true,rows.length)] (rows3,d3);obtain⟨⟨⟨rows4,d4⟩,sl4⟩,hy⟩:∃x,bList sb [(true,rows.length)] (rows3,d3)=x:=⟨_,rfl⟩;simp only[hy]at hR cB k2 l2;simp only[List.length_singleton]at l2;subst hR;have hroom:room (sl3.length+sl4.length) 8:=room_of (by omega) (by decide);clear k2 hx hy;refine HT_seq<|(HT_runsN ?_);refine RunsN.cutE 1 [] (by simp;rfl) trivial (le_refl _) ?_;refine RunsN.callA (fun n=>n) (fun n=>if n=900001 then 101 else n) A3 fun _ _=>?_;refine RunsN.doneE [] (by simp[addS,CV.ren];rfl) trivial ?_;refine HT_le (le_toB (v:=pV b) 0 rfl rfl rfl) ?_;simp only[ins,Nat.reduceLT,Nat.reduceEqDiff,if_true,if_false];refine HT_sA ?_;refine HT_le (le_toV (v:=pV b) 0 rfl rfl rfl) ?_;simp only[ins,Nat.reduceLT,Nat.reduceEqDiff,if_true,if_false];refine HT_le (s':=nx6 b rows.length (stepO 3 c v n to tn tk sa sb bs) sa (bldO (rows++[nodeC 3 d]) (d+1)) [] (bitsL 9 511)) ?_ ?_
   · refine le_mk (fun n=>if n=900001 then 101 else n) [] rfl ?_ ?_ ?_
     · simp[nx6,trS, *]
     · simp[nx6, *]
     simp[nx6]
   refine HT_seq<|(HT_bruteM (nx6 b rows.length (stepO 3 c v n to tn tk sa sb bs) sa (bldO (rows++[nodeC 3 d]) (d+1)) ((30,.row 100 1 (encSl b sl3))::(102,.row 143 4 rows3)::[(1000000,.box [.own 102,.c (iC d3)])])) 9 511 ms6 rfl (by kernel_rfl) (by kernel_rfl) (by kernel_rfl) (by kernel_rfl) (by simp[nx6,trS]) ?_ ?_)
   · simp only[ms6,allM]
     repeat' apply And.intro
     all_goals first
      |(refine StepW.evE rfl ?_;simp[nx6,trS,ins,putL];done)
      | (refine StepW.ev [⟨false,.v (.one (.c (nxC b rows.length))),none⟩] rfl (by simp[nx6,trS,ins,putL];first|exact⟨rfl,Iff.rfl⟩|exact⟨rfl,trivial⟩|rfl) ?_ ?_
         · simpa using next_con b rows.length 28
         simp[nx6,trS,ins])
      | (refine StepW.callA (fun n=>if n=1 then 29 else n) (fun n=>if n=1 then 30 else if n=900001 then 102 else n) cA rfl fun _ _=>?_
         simp[nx6,trS,ins,addS,dels,del,CV.ren,Ob.ren])
   refine HT_le (s':=nx7 b rows.length (stepO 3 c v n to tn tk sa sb bs) sb (encSl b sl3) (encSl b sl4) (encSl b (sl3++sl4)) (bldO rows3 d3) ((103,.row 143 4 rows4)::[(1000000,.box [.own 103,.c (iC d4)])]) (bitsL 11 2047)) ?_ ?_
   · refine le_mk (fun n=>if n=900001 then 102 else n) [] rfl ?_ ?_ ?_
     · simp[nx6,nx7,trS, *]
     · simp[nx6,nx7, *]
     simp[nx7]
   refine HT_seq<|(HT_bruteM (nx7 b rows.length (stepO 3 c v n to tn tk sa sb bs) sb (encSl b sl3) (encSl b sl4) (encSl b (sl3++sl4)) (bldO rows3 d3) ((103,.row 143 4 rows4)::[(1000000,.box [.own 103,.c (iC d4)])])) 11 2047 ms7 rfl (by kernel_rfl) (by kernel_rfl) (by kernel_rfl) (by kernel_rfl) (by simp[nx7,trS]) ?_ ?_)
   · simp only[ms7,allM]
     repeat' apply And.intro
     all_goals first
      |(refine StepW.evE rfl ?_;simp[nx7,trS,ins,putL,hroom];done)
      | (refine StepW.ev [⟨false,.v (.one (.c (otC b rows.length))),none⟩] rfl (by simp[nx7,trS,ins,putL];first|exact⟨rfl,Iff.rfl⟩|exact⟨rfl,trivial⟩|rfl) ?_ ?_
         · simpa using other_con b rows.length 37
         simp[nx7,trS,ins])
      | (refine StepW.callA (fun n=>if n=1 then 38 else n) (fun n=>if n=1 then 39 else if n=900001 then 103 else n) cB rfl fun _ _=>?_
         simp[nx7,trS,ins,addS,dels,del,CV.ren,Ob.ren])
   exact HT_ret ⟨.inr rfl,(),trivial,⟨⟨100,some (pV b)⟩,[(6,.v (.one (.own 1)))],(1,.row 100 1 (encSl b (sl3++sl4)))::bldO rows4 d4⟩,le_mk (fun n=>if n=1 then 40 else if n=900001 then 103 else n) [] rfl (by simp[nx7,trS]) (by simp[nx7]) (by simp),⟨[.one (.own 1)],by simp,rfl⟩,fun n o h=>h⟩
 cases h3
set_option maxHeartbeats 8000000 in
theorem one_plain (b:Nat) (o c v n to tn:Int) (tk:List Tm) (sa sb:List St) (bs:List Int) (ha:lstC b sa) (hb:lstC b sb) (ho3:¬o=3) (ho0:¬o=4):oneC b (.mk o c v n (.mk to tn tk) sa sb bs):=by
 intro k rows d h4 hk hn hd hd2;subst hk;obtain⟨RES,hR⟩:∃x,bOne (.mk o c v n (.mk to tn tk) sa sb bs) rows.length (rows,d)=x:=⟨_,rfl⟩;rw[hR];simp only[szN]at hn hd2;unfold bOne at hR;simp only[aS,St.enc,Tm.enc,List.map_cons,List.map_nil,List.cons_append,List.nil_append];refine con_n_of_HT Tryz.func183 rfl (by kernel_rfl) (Nat.le_of_ble_eq_true rfl) bld_pin bld_pv ?_;simp only[Tryz.f183];have hw0:IntKind.i64.wrap (d+1)=d+1:=wrap_in (by omega) (by omega);have A3:=add_con b rows d 3 (by omega);have A4:=add_con b rows d 4 (by omega);have A2:=add_con b rows d 2 (by omega);have A5:=add_con b (rows++[nodeC 4 d]) d 5 (by simp;omega);refine HT_sA ?_;refine HT_seq<|HT_seq<|HT_runA ?_;refine HT_block<|HT_seq<|HT_runA ?_;refine(HT_cond rfl (fun h3=>?_) (fun h3=>?_))
 · cases h3
 (try simp only[BN]at h3);have ho:¬o=3:=ho3;rw[if_neg ho]at hR;clear A3;refine HT_sA ?_;refine(HT_cs rfl (fun h10=>?_) fun h10=>?_)
 · cases h10
 (try simp only[BN]at h10);have ho4:¬o=4:=ho0;rw[if_neg ho4]at hR;subst hR;clear A4 A5 h3 h10;refine HT_seq<|(HT_runsN ?_);refine RunsN.cutE 1 [] (by simp;rfl) trivial (le_refl _) ?_;refine RunsN.callA (fun n=>n) (fun n=>if n=900001 then 101 else n) A2 fun _ _=>?_;refine RunsN.doneE [] (by simp[addS,CV.ren];rfl) trivial ?_;refine HT_le (le_toB (v:=pV b) 0 rfl rfl rfl) ?_;simp only[ins,Nat.reduceLT,Nat.reduceEqDiff,if_true,if_false];refine HT_sA ?_;refine HT_le (le_toV (v:=pV b) 0 rfl rfl rfl) ?_;simp only[ins,Nat.reduceLT,Nat.reduceEqDiff,if_true,if_false];refine HT_scA [⟨false,.v (.one (.c (nxC b rows.length))),none⟩] ?_ ?_
 · first|exact next_con b rows.length 98|exact trivial|simpa[*]using next_con b rows.length 98
 exact HT_ret ⟨.inr rfl,(),trivial,⟨⟨100,some (pV b)⟩,[(6,.v (.one (.own 1)))],(1,.row 100 1 (encSl b [(false,rows.length)]))::bldO (rows++[nodeC 2 d]) (d+1)⟩,le_mk (fun n=>if n=1 then 99 else if n=900001 then 101 else n) [] rfl (by simp) (by simp[encSl, *]) (by simp),⟨[.one (.own 1)],by simp,rfl⟩,fun n o h=>h⟩
end Go.Proofs.YtppjennamodfdaaGreat

namespace Go.Proofs.YtppjennamodfdaaGreat
open Go Go.Hl
set_option maxHeartbeats 8000000 in
theorem one_loop (b:Nat) (o c v n to tn:Int) (tk:List Tm) (sa sb:List St) (bs:List Int) (ha:lstC b sa) (hb:lstC b sb) (ho3:¬o=3) (ho0:o=4):oneC b (.mk o c v n (.mk to tn tk) sa sb bs):=by
 intro k rows d h4 hk hn hd hd2;subst hk;obtain⟨RES,hR⟩:∃x,bOne (.mk o c v n (.mk to tn tk) sa sb bs) rows.length (rows,d)=x:=⟨_,rfl⟩;rw[hR];simp only[szN]at hn hd2;unfold bOne at hR;simp only[aS,St.enc,Tm.enc,List.map_cons,List.map_nil,List.cons_append,List.nil_append];refine con_n_of_HT Tryz.func183 rfl (by kernel_rfl) (Nat.le_of_ble_eq_true rfl) bld_pin bld_pv ?_;simp only[Tryz.f183];have hw0:IntKind.i64.wrap (d+1)=d+1:=wrap_in (by omega) (by omega);have A3:=add_con b rows d 3 (by omega);have A4:=add_con b rows d 4 (by omega);have A2:=add_con b rows d 2 (by omega);have A5:=add_con b (rows++[nodeC 4 d]) d 5 (by simp;omega);refine HT_sA ?_;refine HT_seq<|HT_seq<|HT_runA ?_;refine HT_block<|HT_seq<|HT_runA ?_;refine(HT_cond rfl (fun h3=>?_) (fun h3=>?_))
 · cases h3
 (try simp only[BN]at h3);have ho:¬o=3:=ho3;rw[if_neg ho]at hR;clear A3;refine HT_sA ?_;refine(HT_cs rfl (fun h10=>?_) fun h10=>?_)
 · (try simp only[BN]at h10);have ho4:o=4:=ho0;rw[if_pos ho4]at hR;clear A2 h10 h3;have hin:rows.length<(rows++[nodeC 4 d]++[nodeC 5 d]).length:=by simp
   have hw1:IntKind.i64.wrap ((rows.length:Int)+1)=(rows.length:Int)+1:=wrap_in (by omega) (by omega);refine HT_seq<|(HT_runsN ?_);refine RunsN.cutE 1 [] (by simp;rfl) trivial (le_refl _) ?_;refine RunsN.callA (fun n=>n) (fun n=>if n=900001 then 101 else n) A4 fun _ _=>?_;refine RunsN.doneE [] (by simp[addS,CV.ren];rfl) trivial ?_;refine HT_le (s':=⟨⟨100,some (pV b)⟩,[(0,.v (.one (.c (.lit (pV b))))),(2,lit (.int .i64 rows.length)),(4,.v (.one (.at_ 4 0)))],(4,stepO 4 c v n to tn tk sa sb bs)::bldO (rows++[nodeC 4 d]) d⟩) (le_mk (fun n=>if n=900001 then 101 else n) [] rfl (by simp) (by simp[*]) (by simp)) ?_;refine HT_seq<|(HT_runsN ?_);refine RunsN.cutE 1 [] (by simp;rfl) trivial (le_refl _) ?_;refine RunsN.callA (fun n=>n) (fun n=>if n=900001 then 101 else n) A5 fun _ _=>?_;refine RunsN.doneE [] (by simp[addS,CV.ren];rfl) trivial ?_;refine HT_le (s':=⟨⟨100,some (pV b)⟩,[(0,.v (.one (.c (.lit (pV b))))),(2,lit (.int .i64 rows.length)),(4,.v (.one (.at_ 4 0)))],(4,stepO 4 c v n to tn tk sa sb bs)::bldO (rows++[nodeC 4 d]++[nodeC 5 d]) d⟩) (le_mk (fun n=>if n=900001 then 101 else n) [] rfl (by simp) (by simp) (by simp)) ?_;refine HT_le (le_toB (v:=pV b) 0 rfl rfl rfl) ?_;simp only[ins,Nat.reduceLT,Nat.reduceEqDiff,if_true,if_false];refine HT_sA ?_;refine HT_sA ?_;have hRW:setRow (rows++[nodeC 4 d]++[nodeC 5 d]) rows.length 2 [iC ((rows.length:Int)+1)]=rows++[[iC 4,iC d,iC ((rows.length:Int)+1),iC (-1)],nodeC 5 d]:=by simp[setRow]
   simp only[hRW]at hR
   have k0:okB [(false,rows.length+1)] (rows++[[iC 4,iC d,iC ((rows.length:Int)+1),iC (-1)],nodeC 5 d]):=by
    rw[←hRW];exact⟨setRow_four (four_app (four_app h4)) (by omega),by simp[setRow_len]⟩
   have cA:=ha [(false,rows.length+1)] (rows++[[iC 4,iC d,iC ((rows.length:Int)+1),iC (-1)],nodeC 5 d]) (d+1) k0 (by simp;omega) (by omega) (by omega) (by simp);have k1:=bList_ok sa [(false,rows.length+1)] (rows++[[iC 4,iC d,iC ((rows.length:Int)+1),iC (-1)],nodeC 5 d],d+1) k0;have l1:=bList_len sa [(false,rows.length+1)] (rows++[[iC 4,iC d,iC ((rows.length:Int)+1),iC (-1)],nodeC 5 d],d+1);obtain⟨⟨⟨rows3,d3⟩,sl3⟩,hx⟩:∃x,bList sa [(false,rows.length+1)] (rows++[[iC 4,iC d,iC ((rows.length:Int)+1),iC (-1)],nodeC 5 d],d+1)=x:=⟨_,rfl⟩;simp only[hx,List.length_singleton]at hR cA k1 l1;obtain⟨a1,a2,a3,a4,a5⟩:=k1;clear hRW hx k0 A4 A5;refine HT_le (le_toV (v:=pV b) 0 rfl rfl rfl) ?_;simp only[ins,Nat.reduceLT,Nat.reduceEqDiff,if_true,if_false];refine HT_le (s':=nx15 b rows.length (stepO 4 c v n to tn tk sa sb bs) sa sl3.length (bldO (rows++[[iC 4,iC d,iC ((rows.length:Int)+1),iC (-1)],nodeC 5 d]) (d+1)) ((71,.row 100 1 (encSl b sl3))::(102,.row 143 4 rows3)::[(1000000,.box [.own 102,.c (iC d3)])]) (bitsL 11 2047)) ?_ ?_
   · refine le_mk (fun n=>n) [] rfl ?_ ?_ ?_
     · simp[nx15,trS, *]
     · simp[nx15, *]
     simp[nx15]
   refine HT_seq<|HT_seq<|(HT_bruteM (nx15 b rows.length (stepO 4 c v n to tn tk sa sb bs) sa sl3.length (bldO (rows++[[iC 4,iC d,iC ((rows.length:Int)+1),iC (-1)],nodeC 5 d]) (d+1)) ((71,.row 100 1 (encSl b sl3))::(102,.row 143 4 rows3)::[(1000000,.box [.own 102,.c (iC d3)])])) 11 2047 ms15 rfl (by kernel_rfl) (by kernel_rfl) (by kernel_rfl) (by kernel_rfl) (by simp[nx15,trS]) ?_ ?_)
   · simp only[ms15,allM]
     repeat' apply And.intro
     all_goals first
      |(refine StepW.evE rfl ?_;simp[nx15,trS,ins,putL,hw1];done)
      | (refine StepW.ev [⟨false,.v (.one (.c (nxC b (rows.length+1)))),none⟩] rfl (by simp[nx15,trS,ins,putL];first|exact⟨rfl,Iff.rfl⟩|exact⟨rfl,trivial⟩|rfl) ?_ ?_
         · simpa using next_con b (rows.length+1) 69
         simp[nx15,trS,ins])
      | (refine StepW.callA (fun n=>if n=1 then 70 else n) (fun n=>if n=1 then 71 else if n=900001 then 102 else n) cA rfl fun _ _=>?_
         simp[nx15,trS,ins,addS,dels,del,CV.ren,Ob.ren])
   refine HT_block<|(HT_loopU [] (fun(x:Nat×List (List CD))=>[(0,.v (.one (.c (.lit (pV b))))),(2,lit (.int .i64 rows.length)),(71,.v (.one (.own 71))),(72,lit (.int .i64 sl3.length)),(73,lit (.int .i64 x.1))]) (fun(x:Nat×List (List CD))=>(4,stepO 4 c v n to tn tk sa sb bs)::(71,.row 100 1 (encSl b sl3))::bldO x.2 d3) (fun(x:Nat×List (List CD))=>x.1≤sl3.length∧setAll (rows.length+1) (sl3.drop x.1) x.2=setAll (rows.length+1) sl3 rows3∧(∀r∈x.2,r.length=4)∧x.2.length=rows3.length) (fun(x:Nat×List (List CD))=>sl3.length - x.1) (0,rows3) ⟨Nat.zero_le _,rfl,a1.four,rfl⟩ ?_ ?_)
   · exact le_mk (fun n=>if n=900001 then 102 else n) [] rfl (by simp[upS,keepS,trS]) (by simp[upS]) (by simp[upS])
   rintro⟨i,rows2⟩ ⟨g1,g2,g3,g4⟩;simp only[upS,keepS,insS]
   try simp only[keepS,KN,Nat.reduceBEq,if_true,if_false,ins,Nat.reduceLT]
   simp only at g1 g2 g3 g4;simp only[nx15,trS];refine HT_sA ?_;refine HT_seq<|(HT_cond rfl (fun h18=>HT_skip ?_) (fun h18=>?_))
   · (try simp only[BN]at h18);have hi:i<sl3.length:=by simpa using h18
     obtain⟨q,hq,hqd⟩:=at_lt hi;have hqe:=get_encSl (b:=b) hq;rw[hqd]at g2;simp only[setAll]at g2;have cq:=slot_con b rows2 d3 (rows.length+1) q g3 (by have:=a1.lt q (List.mem_of_getElem? hq);omega);have hw:=wrap1 hi (by omega:sl3.length≤1000000000);have hin2:i+1≤sl3.length:=hi;clear hi hq h18 hqd;refine HT_seq<|HT_block<|HT_seq<|HT_runA ?_;refine(HT_runsN ?_);refine RunsN.cutE 3 [] (by simp[hw1];rfl) trivial (le_refl _) ?_;refine RunsN.callA (fun n=>n) (fun n=>if n=900001 then 101 else n) cq fun _ _=>?_;refine RunsN.doneE [] (by simp[addS,CV.ren,Ob.ren];rfl) trivial ?_;refine HT_runA ?_;exact⟨(i+1,setS rows2 q (rows.length+1)),⟨hin2,g2,setS_four g3,(setS_len ..).trans g4⟩,by simp only;omega,le_mkA (fun n=>if n=900001 then 101 else n) []⟩
   try simp only[BN]at h18
   have hi:i=sl3.length:=by
    have:¬i<sl3.length:=by simpa using h18
    omega
   subst hi;rw[List.drop_length]at g2;simp only[setAll]at g2;rw[←g2]at hR;subst hR;clear h18;refine(HT_exit ?_);refine HT_seq<|(HT_runc [⟨false,.v (.one (.c (otC b (rows.length+1)))),none⟩] (by simp[*,hw1];first|exact⟨rfl,Iff.rfl⟩|exact⟨rfl,trivial⟩|rfl) ?_ ?_)
   · first|exact other_con b (rows.length+1) 85|exact trivial|simpa[*,hw1]using other_con b (rows.length+1) 85
   exact HT_ret ⟨.inr rfl,(),trivial,⟨⟨100,some (pV b)⟩,[(6,.v (.one (.own 1)))],(1,.row 100 1 (encSl b [(true,rows.length+1)]))::bldO rows2 d3⟩,le_mk (fun n=>if n=1 then 86 else n) [] rfl (by simp) (by simp[encSl, *]) (by simp),⟨[.one (.own 1)],by simp,rfl⟩,fun n o h=>h⟩
 cases h10
theorem one_con (b:Nat) (o c v n to tn:Int) (tk:List Tm) (sa sb:List St) (bs:List Int) (ha:lstC b sa) (hb:lstC b sb):oneC b (.mk o c v n (.mk to tn tk) sa sb bs):=by
 by_cases h3:o=3
 · exact one_then b o c v n to tn tk sa sb bs ha hb h3
 by_cases h4:o=4
 · exact one_loop b o c v n to tn tk sa sb bs ha hb h3 h4
 exact one_plain b o c v n to tn tk sa sb bs ha hb h3 h4
end Go.Proofs.YtppjennamodfdaaGreat
