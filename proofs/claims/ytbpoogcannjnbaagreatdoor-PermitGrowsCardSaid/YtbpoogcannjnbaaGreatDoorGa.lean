/- Own work. -/
import Derived.Calls
import Derived.CallsIn
import Derived.Orders
import Derived.KernelRfl
import Derived.Laws.AppendOwn
import Derived.Laws.CopyRow
import Derived.Deep.AppendSrc
import Derived.Deep.LoopGhost
import Derived.Laws.StructEq
import Derived.Laws.BytesArg
import Derived.Laws.NewBlocks
import Derived.Great.BuildSlice
import Derived.Laws.MakeOwn
import Derived.Lib.AppendZerosOnto
set_option linter.unusedVariables false
set_option linter.unusedSimpArgs false
namespace Go
abbrev fa:=List (Nat×Operand)
abbrev ez:=List Bool
abbrev em:=List TypeId
abbrev eh:=List ByteArray
abbrev dw:=List Operand
abbrev dq:=List Nat
abbrev dp:=List UInt8
abbrev dj:=Nat->Value
abbrev di:=List (Int×Int)
abbrev dh:=List (Value×Value)
abbrev dg:=List (Int×Bool)
abbrev dd:=List Int
abbrev cv:=List Value
universe u
theorem bt{α:Type u}{l:List α}{i:Nat}{a:α}(h:l[i]? =some a):i<l.length:=(_root_.List.getElem?_eq_some_iff.1 h).1
theorem bu{α:Type u}{l:List α}{i:Nat}(h:i<l.length):l[i]? =some l[i]:=_root_.List.getElem?_eq_getElem h
theorem bx{α:Type u}{l:List α}{i:Nat}{a:α}(h:l[i]? =some a):a∈l:=_root_.List.mem_of_getElem? h
theorem bz{α:Type u}{a b:List α}:(a++b).length=a.length+b.length:=_root_.List.length_append
theorem ca{α:Type u}{i:Nat}{l:List α}(h:l.length<=i):l.take i=l:=_root_.List.take_of_length_le h
theorem cd{α:Type u}{β:Type u}{f:α->β}{a b:List α}:(a++b).map f=a.map f++b.map f:=_root_.List.map_append
theorem ce{α:Type u}{a b:α}:(some a=some b)=(a=b):=Option.some.injEq a b
theorem cg{a b:Bool}:((a&&b)=true)=(a=true∧b=true):=Bool.and_eq_true a b
theorem ci{a b:Nat}(h:Nat.beq a b=true):a=b:=Nat.eq_of_beq_eq_true h
theorem cj{α:Type u}{l:List α}{i:Nat}:l.take (i+1)=l.take i++l[i]?.toList:=_root_.List.take_add_one
theorem cm{p:Prop}[Decidable p]:(decide p=true)=p:=decide_eq_true_eq
theorem cn{α:Type u}{a:Array α}{i:Nat}:a.toList[i]? =a[i]?:=Array.getElem?_toList
theorem cq{α:Type u}{a:α}{l:List α}:(a::l).length=l.length+1:=_root_.List.length_cons
theorem cr{a b c:Nat}(h:a<=b)(g:b<=c):a<=c:=Nat.le_trans h g
theorem ct{a b c:Nat}(h:a<b)(g:b<=c):a<c:=Nat.lt_of_lt_of_le h g
theorem be{α:Sort u}{a b:α}(h:a=b:=by kernel_rfl):a=b:=h
theorem bf{p:Prop}(h:p:=by simp):p:=h
theorem bg{p:Prop}(h:p:=by decide):p:=h
theorem bh{p:Prop}(h:p:=by simp_all):p:=h
theorem bi{p:Prop}(h:p:=by rw[@List.length_map];omega):p:=h
theorem bj{p:Prop}(h:p:=by simp;omega):p:=h
theorem bk{p:Prop}(h:p:=by grind):p:=h
theorem bl{p:Prop}(h:p:=by dsimp only;omega):p:=h
theorem bo{p:Prop}(h:p:=by dsimp only;omega):p:=h
theorem bm{a i:Nat}(h:i<a:=by omega):a-(i+1)<a-i:=by omega
theorem br{p q:Prop}(h:p)(e:p->q:=by intro h;simpa using h):q:=e h
theorem aC{p:Prop}(h:p:=by omega):p:=h
end Go
namespace Go.Vc
open Go List
abbrev PH:=Nat->Nat->Option Value
abbrev MH:=Nat->Option Obj
abbrev en:=Int×Nat×di×(Int×Int)×Bool×MH
structure Sl where
 a:Option Addr
 len:Nat
 cap:Nat
abbrev er:=Nat×Nat×Sl×Sl×MH×PH
abbrev dm:=List (ByteArray×Sl)
abbrev dk:=List Sl
def Sl.val(s:Sl):Value:=.slice s.a s.len s.cap
inductive At where
 |val (v:Value)
 |ptr (k o:Nat)
 |lst (k:Nat)
 |el (k i sz o:Nat)
 |junk
abbrev dt:=List At
inductive SV where
 |at(x:At)
 |agg (cs:dt)
 |tup (xs:List (Sum At dt))
abbrev eo:=List (Nat×SV)
abbrev ej:=List SV
inductive Own where
 |cellsP (p:Option Nat) (T:TypeId) (cs:dt)
 |lst (E:TypeId) (sz:Nat) (xs:List cv)
abbrev eb:=List (Option Own)
abbrev Own.cells(T:TypeId)(cs:dt):Own:=.cellsP none T cs
structure St where
 sl:ej
 own:eb
 m:MH
 h:PH
inductive CV where
 |val (v:Value)
 |lst (E:TypeId) (sz:Nat) (xs:List cv)
 |tup (xs:List CV)
abbrev du:=List CV
abbrev dc:=CV->MH->PH->Prop
abbrev Spec:=du->MH->PH->dc->Prop
structure Dec where
 X:Type
 enc:X->cv
inductive AZ where
 |normal
 |exit (id:Nat)
 |ret
structure Ol where
 A:Type
 st:A->St
 inv:A->Prop
 mu:A->Nat
structure Z5 where
 A:Type
 st:A->St
 inv:A->Prop
structure uY where
 A:Type
 st:A->St
 frz:Bool:=false
abbrev dx:=List (Nat×uY)
structure Ctx where
 P:Program
 loops2:dx
 cuts2:dx
 rcuts:List (Nat×dx)
 heapT:em
 specs:List (Nat×Spec)
 dec:TypeId->Dec
 loops:List (Nat×Ol)
 cuts:List (Nat×Z5)
 moves:List (Nat×dq)
 retMove:Bool
 yield:Option Spec
 elemT:em:=[]
def nth{α:Type}:List α->Nat->Option α
 |[],_=>none
 |x::_,0=>some x
 |_::xs,n+1=>nth xs n
def O9:dq->Nat->Bool
 |[],_=>false
 |x::r,n=>match Nat.beq x n with|true=>true|false=>O9 r n
def assoc.{u}{α:Type u}:List (Nat×α)->Nat->Option α
 |[],_=>none
 |(k,v)::r,n=>match Nat.beq k n with|true=>some v|false=>assoc r n
def branch(c:Bool)(A B:Prop):Prop:=match c with|true=>A|false=>B
def St.ev(σ:St):Operand->SV
 |.tmp t=>match nth σ.sl t with|some x=>x|none=>.at .junk
 |.const v=>.at (.val v)
 |.global g=>.at (.val (.pointer (some ⟨g,0,none⟩)))
 |.func f=>.at (.val (.func (.func f) #[] #[]))
def St.put(σ:St)(d:Option Tmp)(x:SV):St:=
 match d with
 |some d=>{σ with sl:=σ.sl.set d x}
 |none=>σ
def At.sub(k:Nat)(f:At->At):At->At
 |.val v=>.val v
 |.ptr j o=>match Nat.beq j k with|true=>f (.ptr j o)|false=>.ptr j o
 |.lst j=>match Nat.beq j k with|true=>f (.lst j)|false=>.lst j
 |.el j i a o=>match Nat.beq j k with|true=>f (.el j i a o)|false=>.el j i a o
 |.junk=>.junk
def SV.sub(k:Nat)(f:At->At):SV->SV
 |.at x=>.at (x.sub k f)
 |.agg cs=>.agg (cs.map (At.sub k f))
 |.tup a=>.tup (a.map λ |.inl x=>.inl (x.sub k f)|.inr cs=>.inr (cs.map (At.sub k f)))
def Own.sub(k:Nat)(f:At->At):Own->Own
 |.cellsP p T cs=>.cellsP p T (cs.map (At.sub k f))
 |.lst E a b=>.lst E a b
def St.sub(σ:St)(k:Nat)(f:At->At):St:=
 {σ with sl:=σ.sl.map (SV.sub k f),own:=σ.own.map (Option.map (Own.sub k f))}
def St.kill(σ:St)(k:Nat):St:=
 let τ:=σ.sub k (λ_=>.junk)
 {τ with own:=τ.own.set k none}
def St.setOwn(σ:St)(k:Nat)(o:Option Own):St:={σ with own:=σ.own.set k o}
def At.val? :At->Option Value
 |.val v=>some v
 |_=>none
def vL:dt->Option cv
 |[]=>some []
 |.val v::r=>match vL r with|some l=>some (v::l)|none=>none
 |_::_=>none
def SV.val? :SV->Option Value
 |.at (.val v)=>some v
 |.agg cs=>match vL cs with|some l=>some (.agg l.toArray)|none=>none
 |_=>none
def SV.cells? :SV->Option dt
 |.at (.val (.agg cs))=>some (cs.toList.map .val)
 |.at (.val (.tuple _))=>none
 |.at .junk=>none
 |.at x=>some [x]
 |.agg cs=>some cs
 |.tup _=>none
def At.storable:At->Bool
 |.val (.agg _)=>false
 |.val (.tuple _)=>false
 |.junk=>false
 |_=>true
def tR:dt->Bool
 |[]=>true
 |x::r=>match x.storable with|true=>tR r|false=>false
def A2{α:Type}(P:Program):Sem α->Option α
 |.pure a=>some a
 |.program k=>A2 P (k P)
 |.mark _ k=>A2 P k
 |_=>none
def St.rho(σ:St)(x:Operand):Value:=match(σ.ev x).val? with|some v=>v|none=>undef
def Oh(σ:St):dw->Bool
 |[]=>true
 |x::r=>match(σ.ev x).val? with|some _=>Oh σ r|none=>false
structure bA(h:PH)(b o:Nat)(l:cv):Prop where
 rd:∀i v,l[i]? =some v->h b (o+i)=some v
inductive aJ(m:MH)(h:PH)(b off:Nat)(l:cv):Prop
 |imm (hr:bA h b off l):aJ m h b off l
 |lent (cs:Array Value) (E:TypeId) (fz:Nat×Nat) (hm:m b=some (.cells cs E fz)) (hl:(cs.toList.drop off).take l.length=l):aJ m h b off l
structure CA(m:MH)(b:Nat)(o:Obj):Prop where
 at_:m b=some o
structure dL(m:MH)(h:PH)(b:Nat):Prop where
 m_:m b=none
 h_:∀i,h b i=none
def Cm(P:Program)(t:TypeId):Bool:=
 match P.underlying t with
 |some (.struct _)=>true
 |some (.array _ _)=>true
 |_=>false
def mk(P:Program)(T:TypeId)(cs:dt):SV:=
 match Cm P T with
 |true=>.agg cs
 |false=>match cs with|[x]=>.at x|_=>.at .junk
def xH(C:Ctx)(o:Oper)(σ:St)(K:St->Prop):Prop:=
 match Oh σ o.op.operands.toList with
 |true=>match A2 C.P (execOp σ.rho o)with
  |some (.value v)=>K (σ.put o.dst (.at (.val v)))
  |_=>False
 |false=>False
def iU(P:Program)(T:TypeId):Bool:=
 match P.underlying T with
 |some _=>match P.cellsOf T with|0=>false|_=>true
 |none=>false
def bmQ(C:Ctx)(T:TypeId)(R:cv->Prop)(K:cv->Prop):Prop:=
 ∃y:(C.dec T).X,R ((C.dec T).enc y)/\
  match Nat.beq ((C.dec T).enc y).length (C.P.cellsOf T)with
  |true=>K ((C.dec T).enc y)
  |false=>False
def XX(C:Ctx)(o:Oper)(T:TypeId)(x:Operand)(σ:St)(K:St->Prop):Prop:=
 match iU C.P T with
 |false=>False
 |true=>
  match σ.ev x with
  |.at (.ptr k a)=>
   match nth σ.own k with
   |some (some (.cellsP _ _ cs))=>
    match Nat.ble (a+C.P.cellsOf T) cs.length with
    |true=>K (σ.put o.dst (mk C.P T ((cs.drop a).take (C.P.cellsOf T))))
    |false=>False
   |_=>False
  |.at (.el k i c a)=>
   match nth σ.own k with
   |some (some (.lst _ s d))=>
    match Nat.beq s c with
    |true=>∃e:cv,d[i]? =some e/\bmQ C T (λl=>(e.drop a).take (C.P.cellsOf T)=l) λl=>K (σ.put o.dst (mk C.P T (l.map .val)))
    |false=>False
   |_=>False
  |.at (.val (.pointer (some ⟨b,a,none⟩)))=>
   bmQ C T (aJ σ.m σ.h b a) λl=>K (σ.put o.dst (mk C.P T (l.map .val)))
  |_=>False
def splice{α:Type}(cs:List α)(off:Nat)(new:List α):List α:=cs.take off++new++cs.drop (off+new.length)
structure gR(m m':MH)(b:Nat)(o:Obj):Prop where
 at_:m' b=some o
 other:∀b',b'≠b->m' b'=m b'
def Tp(C:Ctx)(T:TypeId)(x v:Operand)(σ:St)(K:St->Prop):Prop:=
 match(σ.ev v).cells? with
 |none=>False
 |some new=>
 match Nat.beq new.length (C.P.cellsOf T),tR new,iU C.P T with
 |true,true,true=>
  match σ.ev x with
  |.at (.ptr k a)=>
   match nth σ.own k with
   |some (some (.cellsP p E cs))=>
    match Nat.ble (a+new.length) cs.length with
    |true=>K (σ.setOwn k (some (.cellsP p E (splice cs a new))))
    |false=>False
   |_=>False
  |.at (.el k i f a)=>
   match nth σ.own k,vL new with
   |some (some (.lst E s c)),some l=>
    match Nat.beq s f with
    |true=>∃e:cv,c[i]? =some e/\a+l.length<=e.length/\
     K (σ.setOwn k (some (.lst E s (c.set i (splice e a l)))))
    |false=>False
   |_,_=>False
  |.at (.val (.pointer (some ⟨b,a,none⟩)))=>
   match vL new with
   |some l=>∃(cs:Array Value)(E:TypeId),CA σ.m b (.cells cs E (0,0))/\a+l.length<=cs.size/\
    ∀d:MH,gR σ.m d b (.cells (splice cs.toList a l).toArray E (0,0))->K {σ with m:=d}
   |none=>False
  |_=>False
 |_,_,_=>False
def KH(P:Program)(T:TypeId)(f:Nat):Option (Nat×TypeId):=
 match P.underlying T with
 |some (.struct a)=>match nth a.toList f with
  |some g=>match Nat.beq (P.cellsOf g.type) 0 with|true=>none|false=>some (g.offset,g.type)
  |none=>none
 |_=>none
def Gy(C:Ctx)(o:Oper)(T:TypeId)(x:Operand)(f:Nat)(σ:St)(K:St->Prop):Prop:=
 match KH C.P T f with
 |none=>False
 |some (g,_)=>
  match σ.ev x with
  |.at (.ptr k a)=>K (σ.put o.dst (.at (.ptr k (a+g))))
  |.at (.el k i c a)=>K (σ.put o.dst (.at (.el k i c (a+g))))
  |.at (.val (.pointer (some ⟨b,a,none⟩)))=>K (σ.put o.dst (.at (.val (.pointer (some ⟨b,a+g,none⟩)))))
  |_=>False
def Iz(o:Oper)(x:Operand)(σ:St)(K:St->Prop):Prop:=
 match σ.ev x with
 |.at (.ptr k b)=>K (σ.put o.dst (.at (.ptr k b)))
 |.at (.el k i c b)=>K (σ.put o.dst (.at (.el k i c b)))
 |.at (.val (.pointer (some a)))=>K (σ.put o.dst (.at (.val (.pointer (some a)))))
 |_=>False
def Gs(C:Ctx)(o:Oper)(T:TypeId)(x i:Operand)(σ:St)(K:St->Prop):Prop:=
 match σ.ev i with
 |.at (.val (.int _ n))=>
  match C.P.underlying T with
  |some (.slice E)=>
   match iU C.P E with
   |true=>
    match σ.ev x with
    |.at (.lst k)=>
     match nth σ.own k with
     |some (some (.lst _ d e))=>match Nat.beq d (C.P.cellsOf E)with
      |true=>0<=n/\n<(e.length:Int)/\K (σ.put o.dst (.at (.el k n.toNat d 0)))
      |false=>False
     |_=>False
    |.at (.val (.slice a len _))=>
     ∃b c,a=some ⟨b,c,none⟩/\0<=n/\n<(len:Int)/\
      K (σ.put o.dst (.at (.val (.pointer (some ⟨b,c+n.toNat*C.P.cellsOf E,none⟩)))))
    |_=>False
   |false=>False
  |some (.array len E)=>
   match iU C.P E with
   |true=>
    match σ.ev x with
    |.at (.ptr k c)=>0<=n/\n<(len:Int)/\K (σ.put o.dst (.at (.ptr k (c+n.toNat*C.P.cellsOf E))))
    |.at (.val (.pointer (some ⟨b,c,none⟩)))=>0<=n/\n<(len:Int)/\K (σ.put o.dst (.at (.val (.pointer (some ⟨b,c+n.toNat*C.P.cellsOf E,none⟩)))))
    |_=>False
   |false=>False
  |_=>False
 |_=>False
def ajZ(o:Oper)(op:BinOp)(x y:Operand)(σ:St)(K:St->Prop):Prop:=
 match σ.ev x,σ.ev y with
 |.at (.val (.int k a)),.at (.val (.int c b))=>
  match decide (k=c)with
  |true=>
   b≠0/\(match op with
    |.quo=>K (σ.put o.dst (.at (.val (.int k (k.wrap (a.tdiv b))))))
    |.rem=>K (σ.put o.dst (.at (.val (.int k (a.tmod b)))))
    |_=>False)
  |false=>False
 |_,_=>False
def P8(C:Ctx)(o:Oper)(x y:Operand)(σ:St)(K:St->Prop):Prop:=
 match σ.ev x,σ.ev y with
 |.at (.val (.string a)),.at (.val (.string b))=>a.size+b.size<=9223372036854775807/\K (σ.put o.dst (.at (.val (.string (a++b)))))
 |_,_=>xH C o σ K
def XR(o:Oper)(c a b:Operand)(σ:St)(K:St->Prop):Prop:=
 match σ.ev c with
 |.at (.val (.bool t))=>branch t (K (σ.put o.dst (σ.ev a))) (K (σ.put o.dst (σ.ev b)))
 |_=>False
structure bX(h:PH)(s:Sl)(sz:Nat)(xs:List cv):Prop where
 len:s.len=xs.length
 row:xs=[]\/∃b o,s.a=some ⟨b,o,none⟩/\∀i e,xs[i]? =some e->bA h b (o+i*sz) e
 cap:s.len<=s.cap
structure PH.le(h h':PH):Prop where
 le:∀b o v,h b o=some v->h' b o=some v
def vT(σ:St)(K:St->Prop):dq->Prop
 |[]=>K σ
 |k::ks=>
  match nth σ.own k with
  |some (some (.lst _ b c))=>
   ∀(s:Sl)(a:PH),PH.le σ.h a->bX a s b c->
    vT {(σ.sub k (λ |.lst _=>.val s.val|_=>.junk)).setOwn k none with h:=a} K ks
  |_=>False
def LD:dt->dq
 |[]=>[]
 |.lst k::r=>match(LD r).contains k with|true=>LD r|false=>k::LD r
 |_::r=>LD r
def SV.keys:SV->dq
 |.at x=>LD [x]
 |.agg cs=>LD cs
 |.tup _=>[]
def zeroCells(P:Program)(T:TypeId):Option cv:=
 match P.info? T with
 |some i=>match i.zero with
  |some v=>some v.cells.toList
  |none=>none
 |none=>none
def Ui(C:Ctx)(o:Oper)(T:TypeId)(σ:St)(K:St->Prop):Prop:=
 match o.dst,zeroCells C.P T with
 |some d,some z=>K (((σ.kill d).setOwn d (some (.cells T (z.map .val)))).put (some d) (.at (.ptr d 0)))
 |_,_=>False
def akJ(o:Oper)(T:TypeId)(x:Operand)(σ:St)(K:St->Prop):Prop:=
 match o.dst,(σ.ev x).cells? with
 |some d,some cs=>K (((σ.kill d).setOwn d (some (.cells T (cs.map (At.sub d (λ_=>.junk)))))).put (some d) (.at (.ptr d 0)))
 |_,_=>False
def partAt(P:Program)(T:TypeId)(i:Nat):Option (Nat×Nat):=
 match P.underlying T with
 |some (.struct a)=>match nth a.toList i with|some g=>some (g.offset,P.cellsOf g.type)|none=>none
 |some (.array _ E)=>some (i*P.cellsOf E,P.cellsOf E)
 |_=>none
def OO(P:Program)(T:TypeId):Bool:=
 match P.underlying T with
 |some (.struct a)=>a.toList.all λf=>(P.info? f.type).isSome
 |some (.array _ E)=>(P.info? E).isSome
 |_=>false
def DZ(P:Program)(T:TypeId)(σ:St):fa->dt->Option dt
 |[],cs=>some cs
 |(i,x)::r,cs=>
  match partAt P T i,(σ.ev x).cells? with
  |some (a,b),some new=>
   match Nat.beq new.length b,Nat.ble (a+new.length) cs.length with
   |true,true=>DZ P T σ r (splice cs a new)
   |_,_=>none
  |_,_=>none
def Uf(C:Ctx)(o:Oper)(T:TypeId)(parts:fa)(σ:St)(K:St->Prop):Prop:=
 match zeroCells C.P T with
 |some z=>match DZ C.P T σ parts (z.map .val),OO C.P T with
  |some cs,true=>K (σ.put o.dst (.agg cs))
  |_,_=>False
 |none=>False
def DY(σ:St)(sz:Nat):fa->List cv->Option (List cv)
 |[],a=>some a
 |(i,x)::r,a=>
  match(σ.ev x).cells? with
  |some cs=>match vL cs with
   |some l=>match Nat.beq l.length sz,Nat.ble (i+1) a.length,tR cs with
    |true,true,true=>DY σ sz r (a.set i l)
    |_,_,_=>none
   |none=>none
  |none=>none
def Gb(σ:St):dw->dq
 |[]=>[]
 |x::r=>(σ.ev x).keys++(Gb σ r).filter (λk=> !(σ.ev x).keys.contains k)
def elemOf(P:Program)(T:TypeId):Option (TypeId×cv):=
 match P.underlying T with
 |some (.slice E)=>match zeroCells P E with
  |some z=>match Nat.beq z.length (P.cellsOf E),Nat.beq (P.cellsOf E) 0,z.all Value.oneCell' with
   |true,false,true=>some (E,z)
   |_,_,_=>none
  |none=>none
 |_=>none
def FC(C:Ctx)(o:Oper)(T:TypeId)(n:Nat)(parts:fa)(σ:St)(K:St->Prop):Prop:=
 vT σ (λτ=>
  match o.dst,elemOf C.P T with
  |some d,some (E,z)=>
   match DY τ (C.P.cellsOf E) parts (replicate n z),Nat.ble (n*C.P.cellsOf E) 16777216 with
   |some a,true=>K (((τ.kill d).setOwn d (some (.lst E (C.P.cellsOf E) a))).put (some d) (.at (.lst d)))
   |_,_=>False
  |_,_=>False) (Gb σ (parts.map (·.2)))
structure dQ(sz:Nat)(ys:List cv):Prop where
 len:∀e∈ys,e.length=sz
 one:∀e∈ys,∀u∈e,u.oneCell'=true
structure cT(m:MH)(s:Sl)(E:TypeId)(sz:Nat)(xs:List cv):Prop where
 rows:dQ sz xs
 ex:(s=⟨none,0,0⟩/\xs=[])\/∃b cap cur,s=⟨some ⟨b,0,none⟩,xs.length,cap⟩/\m b=some (.cells cur E (0,0))/\xs.length<=cap/\cap<=maxLen/\cur.size=cap*sz/\cur.toList.take (xs.length*sz)=xs.flatten
structure rK(m m':MH)(h:PH)(s:Sl)(E:TypeId)(sz:Nat)(xs:List cv):Prop where
 row:cT m' s E sz xs
 other:∀b,(∀i,s.a≠some ⟨b,i,none⟩)->m' b=m b
 fresh:∀b i,s.a=some ⟨b,i,none⟩->dL m h b
def DU(σ:St)(K:St->Prop):dq->Prop
 |[]=>K σ
 |k::ks=>
  match nth σ.own k with
  |some (some (.lst E b c))=>
   ∀(s:Sl)(a:MH),rK σ.m a σ.h s E b c->
    DU {(σ.sub k (λ |.lst _=>.val s.val|_=>.junk)).setOwn k none with m:=a} K ks
  |_=>False
def Gl(C:Ctx)(o:Oper)(T:TypeId)(l c:Operand)(σ:St)(K:St->Prop):Prop:=
 match o.dst,elemOf C.P T,σ.ev l,σ.ev c with
 |some d,some (E,z),.at (.val (.int _ n)),.at (.val (.int _ m))=>
  0<=n/\n<=m/\m*(C.P.bytesOf E:Int)<=281474976710656/\m<=281474976710656/\
   K (((σ.kill d).setOwn d (some (.lst E (C.P.cellsOf E) (replicate n.toNat z)))).put (some d) (.at (.lst d)))
 |_,_,_,_=>False
def jW(s:ByteArray):List cv:=s.data.toList.map λb=>[.int .u8 b.toNat]
inductive oW(m:MH)(h:PH)(s:Sl)(sz:Nat)(ys:List cv):Prop
 |imm (hr:bX h s sz ys):oW m h s sz ys
 |lent (b o:Nat) (cs:Array Value) (E:TypeId) (fz:Nat×Nat) (hs:s.a=some ⟨b,o,none⟩) (hn:s.len=ys.length) (hm:m b=some (.cells cs E fz)) (hl:(cs.toList.drop o).take ys.flatten.length=ys.flatten):oW m h s sz ys
def b7Q(a:Bool)(σ:St)(s:Sl)(sz:Nat)(b:List cv):Prop:=match a with|true=>oW σ.m σ.h s sz b|false=>bX σ.h s sz b
def Jg(P:Program)(b:Bool)(σ:St)(sz:Nat)(tx:TypeId)(y:SV)(K:List cv->Prop):Prop:=
 match y,P.underlying tx with
 |.at (.lst k),some (.slice _)=>match nth σ.own k with
  |some (some (.lst _ s d))=>match Nat.beq s sz with|true=>K d|false=>False
  |_=>False
 |.at (.val (.slice a n c)),some (.slice _)=>∃d:List cv,dQ sz d/\b7Q b σ ⟨a,n,c⟩ sz d/\K d
 |.at (.val (.string s)),some .string=>match Nat.beq sz 1 with|true=>K (jW s)|false=>False
 |_,_=>False
structure dV(m m':MH)(s s':Sl)(E:TypeId)(sz:Nat)(zs:List cv):Prop where
 row:cT m' s' E sz zs
 other:∀b o,m b=some o->(∀i,s.a≠some ⟨b,i,none⟩)->m' b=some o
 fresh:∀b i,s'.a=some ⟨b,i,none⟩->m b=none\/∃i,s.a=some ⟨b,i,none⟩
 old:s'.a=s.a\/∀b o,m b=some o->m' b=some o
def sameKey(y:SV)(k:Nat):Bool:=match y with|.at (.lst a)=>Nat.beq a k|_=>false
def Z8(y:SV)(d:Option TypeDesc):Option Int:=
 match d with
 |some (.int _)=>match y with
  |.at (.val (.int _ n))=>some n
  |_=>none
 |_=>none
def Pd(C:Ctx):Bool:=match C.heapT with|[]=>false|_=>true
def inM(C:Ctx)(T:TypeId):Bool:=O9 C.heapT (1000+T)
def cgZ(C:Ctx)(T:TypeId):Bool:=O9 C.heapT (3000+T)
def cgX(C:Ctx)(T:TypeId):Bool:=O9 C.heapT (4000+T)
def a4Q(e:Bool)(a:Option Addr)(b:List cv)(R Q:Prop):Prop:=
 match e with
 |true=>(a≠none->b=[]->Q)/\(a=none\/0<b.length->R)
 |false=>(a=none\/0<b.length)/\R
def Qd(C:Ctx)(o:Oper)(T tx:TypeId)(x y:Operand)(σ:St)(K:St->Prop):Prop:=
 match o.dst,elemOf C.P T with
 |some d,some (E,z)=>
  match inM C T,cgZ C T,σ.ev x with
  |false,true,.at (.val (.slice a n c))=>
   c=n/\∃e:List cv,dQ (C.P.cellsOf E) e/\bX σ.h ⟨a,n,c⟩ (C.P.cellsOf E) e/\
    Jg C.P (Pd C) σ (C.P.cellsOf E) tx (σ.ev y) λb=>
     a4Q (cgX C T) a b ((e.length+b.length)*C.P.bytesOf E<=140737488355328/\e.length+b.length<=140737488355328/\
     K (((σ.kill d).setOwn d (some (.lst E (C.P.cellsOf E) (e++b)))).put (some d) (.at (.lst d)))) (K (σ.put (some d) (.at (.val (.slice a n c)))))
  |true,_,.at (.val (.slice a n c))=>
   ∃e:List cv,cT σ.m ⟨a,n,c⟩ E (C.P.cellsOf E) e/\
    Jg C.P (Pd C) σ (C.P.cellsOf E) tx (σ.ev y) λb=>
     (e.length+b.length)*C.P.bytesOf E<=140737488355328/\e.length+b.length<=140737488355328/\
     ∀(f:Sl)(g:MH),dV σ.m g ⟨a,n,c⟩ f E (C.P.cellsOf E) (e++b)->K ({σ with m:=g}.put (some d) (.at (.val f.val)))
  |_,_,_=>match σ.ev x with
  |.at (.val (.slice none 0 0))=>
   match Z8 (σ.ev y) (C.P.underlying tx)with
   |some n=>0<n/\n*(C.P.bytesOf E:Int)<=140737488355328/\n<=140737488355328/\
    K (((σ.kill d).setOwn d (some (.lst E (C.P.cellsOf E) (replicate n.toNat z)))).put (some d) (.at (.lst d)))
   |none=>Jg C.P (Pd C) σ (C.P.cellsOf E) tx (σ.ev y) λb=>
    b.length*C.P.bytesOf E<=140737488355328/\b.length<=140737488355328/\
    K (((σ.kill d).setOwn d (some (.lst E (C.P.cellsOf E) b))).put (some d) (.at (.lst d)))
  |.at (.lst k)=>
   match nth σ.own k,sameKey (σ.ev y) k with
   |some (some (.lst E' i e)),false=>
    match Nat.beq E' E,Nat.beq i (C.P.cellsOf E)with
    |true,true=>
     Jg C.P (Pd C) σ i tx (σ.ev y) λb=>
      (e.length+b.length)*C.P.bytesOf E<=140737488355328/\e.length+b.length<=140737488355328/\
      K (((σ.kill k).setOwn k (some (.lst E i (e++b)))).put (some d) (.at (.lst k)))
    |_,_=>False
   |_,_=>False
  |.at (.val (.slice a n c))=>
   ∃e:List cv,cT σ.m ⟨a,n,c⟩ E (C.P.cellsOf E) e/\
    Jg C.P (Pd C) σ (C.P.cellsOf E) tx (σ.ev y) λb=>
     (e.length+b.length)*C.P.bytesOf E<=140737488355328/\e.length+b.length<=140737488355328/\
     ∀(f:Sl)(g:MH),dV σ.m g ⟨a,n,c⟩ f E (C.P.cellsOf E) (e++b)->K ({σ with m:=g}.put (some d) (.at (.val f.val)))
  |_=>False
 |_,_=>False
def ZJ(C:Ctx)(o:Oper)(T tx:TypeId)(x y:Operand)(σ:St)(K:St->Prop):Prop:=
 match elemOf C.P T,σ.ev x with
 |some (E,_),.at (.val (.slice e n _))=>∃(b a:Nat),e=some ⟨b,a,none⟩/\
  Jg C.P (Pd C) σ (C.P.cellsOf E) tx (σ.ev y) λc=>
   c.length<=n/\∃(cs:Array Value)(E':TypeId),CA σ.m b (.cells cs E' (0,0))/\a+c.length*C.P.cellsOf E<=cs.size/\
    ∀d:MH,gR σ.m d b (.cells (splice cs.toList a c.flatten).toArray E' (0,0))->K ({σ with m:=d}.put o.dst (.at (.val (.int .i64 c.length))))
 |_,_=>False
def VH(P:Program)(a:em):Bool:=
 match a with
 |t::_=>match P.underlying t with
  |some (.slice _)=>true
  |_=>false
 |[]=>false
def a1X(C:Ctx)(o:Oper)(x:Operand)(a:em)(σ:St)(K:St->Prop):Prop:=
 match σ.ev x with
 |.at (.lst k)=>match nth σ.own k,VH C.P a with
  |some (some (.lst _ _ b)),true=>K (σ.put o.dst (.at (.val (.int .i64 b.length))))
  |_,_=>False
 |_=>xH C o σ K
structure Dw(sz:Nat)(x:Sl)(i:Nat)(s:Sl):Prop where
 a_:s.a=if x.cap=i then x.a else x.a.map λy=>y.add (i*sz)
 len:s.len=x.len-i
 cap:s.cap=x.cap-i
def Tr(C:Ctx)(o:Oper)(T:TypeId)(x:Operand)(f g h:Option Operand)(σ:St)(K:St->Prop):Prop:=
 match σ.ev x,f,g,h with
 |.at (.lst k),none,some n,none=>
  match nth σ.own k,σ.ev n,C.P.underlying T with
  |some (some (.lst E l e)),.at (.val (.int _ i)),some (.slice E')=>
   match iU C.P E' with
   |true=>0<=i/\i<=(e.length:Int)/\K (((σ.kill k).setOwn k (some (.lst E l (e.take i.toNat)))).put o.dst (.at (.lst k)))
   |false=>False
  |_,_,_=>False
 |.at (.val (.slice a _ c)),none,some n,none=>
  match σ.ev n,C.P.underlying T with
  |.at (.val (.int _ i)),some (.slice E')=>
   match iU C.P E' with
   |true=>0<=i/\i<=(c:Int)/\K (σ.put o.dst (.at (.val (.slice a i.toNat c))))
   |false=>False
  |_,_=>False
 |.at (.val (.slice a _ c)),none,some n,some k=>
  match σ.ev n,σ.ev k,C.P.underlying T with
  |.at (.val (.int _ i)),.at (.val (.int _ j)),some (.slice E')=>
   match iU C.P E' with
   |true=>0<=i/\i<=j/\j<=(c:Int)/\K (σ.put o.dst (.at (.val (.slice a i.toNat j.toNat))))
   |false=>False
  |_,_,_=>False
 |.at (.val (.slice a _ c)),some n,some k,none=>
  match σ.ev n,σ.ev k,C.P.underlying T with
  |.at (.val (.int _ i)),.at (.val (.int _ j)),some (.slice E')=>
   match iU C.P E' with
   |true=>0<=i/\i<=j/\j<=(c:Int)/\∀s:Sl,Dw (C.P.cellsOf E') ⟨a,j.toNat,c⟩ i.toNat s->K (σ.put o.dst (.at (.val (.slice s.a s.len s.cap))))
   |false=>False
  |_,_,_=>False
 |.at (.val (.slice a len c)),some n,none,none=>
  match σ.ev n,C.P.underlying T with
  |.at (.val (.int _ i)),some (.slice E')=>
   match iU C.P E' with
   |true=>0<=i/\i<=(len:Int)/\len<=c/\∀s:Sl,Dw (C.P.cellsOf E') ⟨a,len,c⟩ i.toNat s->K (σ.put o.dst (.at (.val (.slice s.a s.len s.cap))))
   |false=>False
  |_,_=>False
 |.at (.val (.pointer (some ⟨b,d,none⟩))),none,some n,none=>
  match σ.ev n,C.P.underlying T with
  |.at (.val (.int _ i)),some (.array len E')=>
   match iU C.P E' with
   |true=>0<=i/\i<=(len:Int)/\K (σ.put o.dst (.at (.val (.slice (some ⟨b,d,none⟩) i.toNat len))))
   |false=>False
  |_,_=>False
 |_,_,_,_=>False
def T2(C:Ctx)(o:Oper)(T:TypeId)(x:Operand)(f:Nat)(σ:St)(K:St->Prop):Prop:=
 match KH C.P T f,(σ.ev x).cells?,(match σ.ev x with|.agg _=>true|.at (.val (.agg _))=>true|_=>false)with
 |some (g,T'),some cs,true=>
  match Nat.ble (g+C.P.cellsOf T') cs.length&&iU C.P T' with
  |true=>K (σ.put o.dst (mk C.P T' ((cs.drop g).take (C.P.cellsOf T'))))
  |false=>False
 |_,_,_=>False
def TV(P:Program)(E:TypeId)(cs:dt)(n:Int)(K:SV->Prop):Nat->Nat->Prop
 |0,_=>True
 |f+1,i=>branch (n==(i:Int)) (K (mk P E ((cs.drop (i*P.cellsOf E)).take (P.cellsOf E)))) (TV P E cs n K f (i+1))
def TS(C:Ctx)(o:Oper)(T:TypeId)(x i:Operand)(σ:St)(K:St->Prop):Prop:=
 match σ.ev i,C.P.underlying T with
 |.at (.val (.int _ n)),some (.array len E)=>
  match(σ.ev x).cells? with
  |some cs=>match Nat.beq cs.length (len*C.P.cellsOf E),iU C.P E,(match σ.ev x with|.agg _=>true|.at (.val (.agg _))=>true|_=>false)with
   |true,true,true=>0<=n/\n<(len:Int)/\TV C.P E cs n (λv=>K (σ.put o.dst v)) len 0
   |_,_,_=>False
  |none=>False
 |.at (.val (.int _ n)),some .string=>
  match σ.ev x with
  |.at (.val (.string s))=>0<=n/\∃b,s.data.toList[n.toNat]? =some b/\K (σ.put o.dst (.at (.val (.int .u8 b.toNat))))
  |_=>False
 |_,_=>False
def Mm(C:Ctx)(o:Oper)(x:Operand)(i:Nat)(σ:St)(K:St->Prop):Prop:=
 match σ.ev x with
 |.tup a=>match nth a i with
  |some (.inl y)=>K (σ.put o.dst (.at y))
  |some (.inr cs)=>K (σ.put o.dst (.agg cs))
  |none=>False
 |_=>xH C o σ K
def cC(a:dp):List cv:=a.map λb=>[.int .u8 b.toNat]
def Mp(C:Ctx)(o:Oper)(src a:TypeId)(x:Operand)(σ:St)(K:St->Prop):Prop:=
 match σ.ev x with
 |.at (.lst k)=>
  match nth σ.own k,C.P.underlying src,C.P.underlying a with
  |some (some (.lst _ _ c)),some (.slice E),some .string=>
   match C.P.underlying E with
   |some (.int .u8)=>∃b:dp,c=cC b/\K (σ.put o.dst (.at (.val (.string ⟨b.toArray⟩))))
   |_=>False
  |_,_,_=>False
 |_=>xH C o σ K
def pJ(σ:St):dw->dq
 |[]=>[]
 |x::r=>match σ.ev x with
  |.at (.ptr k _)=>match(pJ σ r).contains k with|true=>pJ σ r|false=>k::pJ σ r
  |_=>pJ σ r
def Gn(σ:St)(K:St->Prop):dq->Prop
 |[]=>K σ
 |k::ks=>
  match nth σ.own k with
  |some (some (.cellsP _ T cs))=>
   match vL cs with
   |some l=>
    ∀(b:Nat)(a:MH),dL σ.m σ.h b->gR σ.m a b (.cells l.toArray T (0,0))->
     Gn {(σ.sub k (λ |.ptr _ o=>.val (.pointer (some ⟨b,o,none⟩))|_=>.junk)).setOwn k none with m:=a} K ks
   |none=>False
  |_=>False
def r9(P:Program)(σ:St)(mv:dq):Nat->dw->em->Option du
 |_,[],_=>some []
 |i,x::r,b=>
  match r9 P σ mv (i+1) r b.tail with
  |none=>none
  |some a=>
   match mv.contains i with
   |true=>match σ.ev x with
    |.at (.lst k)=>match nth σ.own k with
     |some (some (.lst E c d))=>some (.lst E c d::a)
     |_=>none
    |.at (.val (.slice none 0 0))=>match elemOf P (b.headD 0)with
     |some (E,_)=>some (.lst E (P.cellsOf E) []::a)
     |none=>none
    |_=>none
   |false=>match(σ.ev x).val? with
    |some u=>some (.val u::a)
    |none=>none
def jX(σ:St)(mv:dq):Nat->dw->dq
 |_,[]=>[]
 |i,x::r=>match mv.contains i,σ.ev x with
  |true,.at (.lst k)=>k::jX σ mv (i+1) r
  |_,_=>jX σ mv (i+1) r
def Fq(mv:dq):Nat->dw->dw
 |_,[]=>[]
 |i,x::r=>match mv.contains i with
  |true=>Fq mv (i+1) r
  |false=>x::Fq mv (i+1) r
def BR(σ:St):dq->St
 |[]=>σ
 |k::ks=>BR (σ.kill k) ks
def Eb:du->Option (List (Sum At dt))
 |[]=>some []
 |.val v::r=>match Eb r with|some l=>some (.inl (.val v)::l)|none=>none
 |_::_=>none
def bXJ(o:Oper)(σ:St)(a:dq)(K:St->Prop)(r:CV)(m:MH)(h:PH):Prop:=
 match r with
 |.val v=>K ({σ with m:=m,h:=h}.put o.dst (.at (.val v)))
 |.lst E b c=>match o.dst with
  |some d=>K ((({σ with m:=m,h:=h}.kill (a.headD d)).setOwn (a.headD d) (some (.lst E b c))).put (some d) (.at (.lst (a.headD d))))
  |none=>False
 |.tup e=>match Eb e with
  |some l=>K ({σ with m:=m,h:=h}.put o.dst (.tup l))
  |none=>False
def Ly:dq->Bool
 |[]=>true
 |x::r=>match r.contains x with|true=>false|false=>Ly r
def HE(C:Ctx)(f:Nat):dq:=match assoc C.moves f with|some l=>l|none=>[]
def ZP(C:Ctx)(o:Oper)(f:FuncId)(args:dw)(b:em)(σ:St)(K:St->Prop):Prop:=
 match assoc C.specs f with
 |none=>False
 |some S=>
  vT σ (λτ=>Gn τ (λυ=>
   match r9 C.P υ (HE C f) 0 args b,Ly (jX υ (HE C f) 0 args)with
   |some a,true=>S a υ.m υ.h (bXJ o (BR υ (jX υ (HE C f) 0 args)) (jX υ (HE C f) 0 args) K)
   |_,_=>False) (pJ τ args))
   (Gb σ (Fq (HE C f) 0 args))
structure StructEq(P:Program)(T:TypeId)(x y:Value)(r:Bool):Prop where
 guard:P.eqGuardType P.depth T=false
 eq:∀w,(Op.equalIn 10000 T x y).run P w= .ok r w
def Ed(C:Ctx)(o:Oper)(neg:Bool)(T:TypeId)(x y:Operand)(σ:St)(K:St->Prop):Prop:=
 match(σ.ev x).val?,(σ.ev y).val? with
 |some (.agg a),some (.agg b)=>∃r,StructEq C.P T (.agg a) (.agg b) r/\K (σ.put o.dst (.at (.val (.bool (match neg with|true=> !r|false=>r)))))
 |_,_=>False
structure tB(m:MH)(b:Nat)(kvs:dh):Prop where
 ex:∃(es:Array MapEntry)(clock:Nat),m b=some (.map es clock)/\es.toList.map (λe=>(e.key,e.val))=kvs
structure KeyLaw(P:Program)(kt:TypeId)(Ok:Value->Prop):Prop where
 under:∃d,P.underlying kt=some d
 check:∀v w b,Ok v->(Instr.checkKey b 10000 kt v).run P w= .ok () w
 eq:∀x y w,Ok x->Ok y->∃r,(Op.equal kt x y).run P w= .ok r w/\(r=true↔x=y)
 now:∀d x y r,P.underlying kt=some d->Ok x->Ok y->Instr.sameNow d x y=some r->(r=true↔x=y)
structure iV(m m':MH)(b:Nat):Prop where
 other:∀b',b'≠b->m' b'=m b'
def LB(o:Oper)(r:Option Operand)(σ:St)(K:St->Prop):Prop:=
 match r with
 |none=>∀(b:Nat)(a:MH),dL σ.m σ.h b->gR σ.m a b (.map #[] 0)->K ({σ with m:=a}.put o.dst (.at (.val (.map (some b)))))
 |some _=>False
def Tb(P:Program)(T:TypeId):Option Value:=
 match P.info? T with
 |some i=>match i.zero with
  |some (.int k n)=>some (.int k n)
  |some (.bool b)=>some (.bool b)
  |some (.slice none 0 0)=>some (.slice none 0 0)
  |_=>none
 |none=>none
def only:cv->Value
 |[u]=>u
 |_=>undef
def Pa(C:Ctx)(o:Oper)(T:TypeId)(x k:Operand)(ok:Bool)(σ:St)(K:St->Prop):Prop:=
 match C.P.underlying T,σ.ev x,(σ.ev k).val? with
 |some (.map f c),.at (.val (.map (some b))),some d=>
  match Tb C.P c with
  |some z=>
   ∃(a:List (Value×(C.dec c).X))(Ok:Value->Prop),tB σ.m b (a.map λp=>(p.1,only ((C.dec c).enc p.2)))/\KeyLaw C.P f Ok/\Ok d/\(∀e∈a,Ok e.1)/\
    ((∀e∈a,e.1≠d)->K (σ.put o.dst (match ok with|true=>.tup [.inl (.val z),.inl (.val (.bool false))]|false=>.at (.val z))))/\
    ∀y,(d,y)∈a->match(C.dec c).enc y with
     |[u]=>K (σ.put o.dst (match ok with|true=>.tup [.inl (.val u),.inl (.val (.bool true))]|false=>.at (.val u)))
     |_=>False
  |none=>False
 |_,_,_=>False
def Dj(C:Ctx)(T:TypeId)(x k v:Operand)(σ:St)(K:St->Prop):Prop:=
 match C.P.underlying T,σ.ev x,(σ.ev k).val?,(σ.ev v).val? with
 |some (.map f _),.at (.val (.map (some b))),some c,some u=>
  ∃(a:dh)(Ok:Value->Prop),tB σ.m b a/\KeyLaw C.P f Ok/\Ok c/\(∀e∈a,Ok e.1)/\(∀e∈a,e.1≠c)/\
   ∀d:MH,iV σ.m d b->tB d b (a++[(c,u)])->K {σ with m:=d}
 |_,_,_,_=>False
structure mO(m:MH)(b:Nat)(kvs:dh):Prop where
 ex:∃(es:Array MapEntry)(clock:Nat),m b=some (.map es clock)/\es.toList.map (λe=>(e.key,e.val))=kvs/\(∀e∈es.toList,e.born<clock)/\(es.toList.map (·.born)).Nodup
def Kv(C:Ctx)(T:TypeId)(x k v:Operand)(σ:St)(K:St->Prop):Prop:=
 match C.P.underlying T,σ.ev x,(σ.ev k).val?,(σ.ev v).val? with
 |some (.map h _),.at (.val (.map (some b))),some c,some u=>
  ∃(a:dh)(Ok:Value->Prop),mO σ.m b a/\KeyLaw C.P h Ok/\Ok c/\Instr.sameBits 10000 c c=true/\(∀e∈a,Ok e.1)/\
   ((∀e∈a,e.1≠c)->∀d:MH,iV σ.m d b->mO d b (a++[(c,u)])->K {σ with m:=d})/\
   ∀(f:dh)(i:Value)(g:dh),a=f++(c,i)::g->∀d:MH,iV σ.m d b->mO d b (f++(c,u)::g)->K {σ with m:=d}
 |_,_,_,_=>False
structure lU(m:MH)(b r:Nat)(kvs left:dh):Prop where
 ex:∃(es:Array MapEntry)(clock since:Nat)(seen:Array Nat)(c0:Nat),m b=some (.map es clock)/\es.toList.map (λe=>(e.key,e.val))=kvs/\(∀e∈es.toList,e.born<clock)/\(es.toList.map (·.born)).Nodup/\
  m r=some (.mapIter (some b) since seen c0)/\(∀e∈es.toList,e.born<since)/\since<=c0/\since<=clock/\(es.toList.filter λe=> !seen.contains e.born).map (λe=>(e.key,e.val))=left
structure FE(m:MH)(b r:Nat)(kvs left:dh)(x:Value×Value):Prop where
 it:lU m b r kvs left
 ex:∃(es:Array MapEntry)(clock since:Nat)(seen:Array Nat)(e:MapEntry),m b=some (.map es clock)/\(es.toList.map (·.born)).Nodup/\m r=some (.mapIter (some b) since (seen.push e.born) clock)/\e∈es.toList/\x=(e.key,e.val)
def Tx(C:Ctx)(o:Oper)(T:TypeId)(x:Operand)(σ:St)(K:St->Prop):Prop:=
 match C.P.underlying T,σ.ev x with
 |some .string,.at (.val (.string s))=>
  ∀(b:Nat)(c:MH),dL σ.m σ.h b->gR σ.m c b (.stringIter s 0)->K ({σ with m:=c}.put o.dst (.at (.val (.pointer (some ⟨b,0,none⟩)))))
 |some (.map _ _),.at (.val (.map (some b)))=>
  ∃a:dh,mO σ.m b a/\∀(r:Nat)(c:MH),dL σ.m σ.h r->iV σ.m c r->lU c b r a a->K ({σ with m:=c}.put o.dst (.at (.val (.pointer (some ⟨r,0,none⟩)))))
 |_,_=>False
def XU(o:Oper)(x:Operand)(c:Bool)(σ:St)(K:St->Prop):Prop:=
 match σ.ev x,c with
 |.at (.val (.pointer (some ⟨b,0,none⟩))),true=>
  ∃(s:ByteArray)(a:Nat),CA σ.m b (.stringIter s a)/\
   (s.size<=a->K (σ.put o.dst (.tup [.inl (.val (.bool false))])))/\
   (a<s.size->∀d:MH,gR σ.m d b (.stringIter s (a+(Utf8.decode s a).2))->
    K ({σ with m:=d}.put o.dst (.tup [.inl (.val (.bool true)),.inl (.val (.int .i64 a)),.inl (.val (.int .i32 (Utf8.decode s a).1))])))
 |.at (.val (.pointer (some ⟨r,0,none⟩))),false=>
  ∃(b:Nat)(e left:dh),lU σ.m b r e left/\
   (left=[]->K (σ.put o.dst (.tup [.inl (.val (.bool false))])))/\
   ∀(f:dh)(x:Value×Value)(g:dh),left=f++x::g->∀d:MH,iV σ.m d r->FE d b r e (f++g) x->
    K ({σ with m:=d}.put o.dst (.tup [.inl (.val (.bool true)),.inl (.val x.1),.inl (.val x.2)]))
 |_,_=>False
def T8(C:Ctx)(o:Oper)(x:Operand)(σ:St)(K:St->Prop):Prop:=
 match σ.ev x with
 |.at (.val (.pointer (some ⟨r,0,none⟩)))=>∃(b:Nat)(c left:dh)(x:Value×Value),FE σ.m b r c left x/\
  match O9 C.heapT 410000 with
  |true=>∃s:Sl,x.2=Sl.val s/\K (σ.put o.dst (.tup [.inl (.val x.1),.inl (.val (.slice s.a s.len s.cap))]))
  |false=>K (σ.put o.dst (.tup [.inl (.val x.1),.inl (.val x.2)]))
 |_=>False
def avJ(σ:St)(x v:Operand):dq:=match σ.ev x with|.at (.ptr _ _)=>[]|_=>(σ.ev v).keys
def Gw(C:Ctx)(o:Oper)(T:TypeId):dq:=match o.dst with|some d=>(match O9 C.heapT T||O9 C.heapT (200000+d)with|true=>[d]|false=>[])|none=>[]
def cfX(C:Ctx)(o:Oper)(T:TypeId):Bool:=match Gw C o T with|[]=>false|_=>true
def afQ(C:Ctx)(o:Oper)(τ:St):dq:=match o.dst with|some d=>(match O9 C.heapT (100000+d)with|true=>(τ.ev (.tmp d)).keys|false=>[])|none=>[]
structure Xt(w:World)(m:MH)(h:PH):Prop where
 hsat:∀b o v,h b o=some v->w.cell? ⟨b,o,none⟩=some v
 msat:∀b o,m b=some o->w.heap[b]? =some o
 disj:∀b o,m b=some o->∀i,h b i=none
structure Qu(w:World)(m:MH)(h:PH)(m':MH)(h':PH)(w':World):Prop where
 tape:w'.tape=w.tape
 os:w'.os=w.os
 output:w'.output=w.output
 drawn:w.drawn<=w'.drawn
 size:w.heap.size<=w'.heap.size
 frame:∀b,b<w.heap.size->m b=none->w'.heap[b]? =w.heap[b]?
 heapy:Xt w' m' h'
 hle:PH.le h h'
 hold:∀b,b<w.heap.size->m b=none->h' b=h b
 mfr:∀b o,m' b=some o->w.heap.size<=b\/m b≠none
def valOf(P:Program)(T:TypeId)(cs:cv):Value:=
 match Cm P T with
 |true=>.agg cs.toArray
 |false=>match cs with|[x]=>x|_=>undef
structure FAt(P:Program)(f:FuncId)(T:TypeId)(cvs:du)(m:MH)(h:PH)(R:cv->MH->PH->Prop):Prop where
 fn:∃fn,P.funcs[f]? =some fn/\fn.body.isSome=true/\(fn.name== "runtime.NumGoroutine")=false
 go:∀(vs:cv)(w:World),cvs=vs.map .val->Xt w m h->Calls P f vs.toArray w λe w'=>∃l m' h',e= .returned (valOf P T l)/\R l m' h'/\Qu w m h m' h' w'
def Oi:du->cv->du
 |[],l=>l.map .val
 |c::r,l=>c::Oi r l
def chJ:em->Option TypeId
 |[]=>none
 |x::r=>match Nat.ble 510000 x with|true=>some (Nat.sub x 510000)|false=>chJ r
def cmQ(C:Ctx):Operand->Option TypeId
 |.tmp _=>chJ C.heapT
 |_=>none
def blZ(C:Ctx)(o:Oper)(T:TypeId)(f:FuncId)(a:cv)(args:dw)(σ:St)(K:St->Prop):Prop:=
 match r9 C.P σ [] 0 args []with
 |some b=>∃R:(C.dec T).X->MH->PH->Prop,FAt C.P f T (Oi b a) σ.m σ.h (λl m h=>∃x,l=(C.dec T).enc x/\R x m h)/\
  ∀(x:(C.dec T).X)(m:MH)(h:PH),R x m h->K ({σ with m:=m,h:=h}.put o.dst (mk C.P T (((C.dec T).enc x).map .val)))
 |none=>False
def QH(C:Ctx)(o:Oper)(σ:St)(K:St->Prop):Prop:=
 match o.op with
 |.move x=>K (σ.put o.dst (σ.ev x))
 |.assign x=>K (σ.put o.dst (σ.ev x))
 |.pick c a b=>XR o c a b σ K
 |.alloc T=>Ui C o T σ (λτ=>Gn τ K (Gw C o T))
 |.box T x=>match cfX C o T with
  |true=>vT σ (λτ=>akJ o T x τ (λυ=>Gn υ K (Gw C o T))) (σ.ev x).keys
  |false=>akJ o T x σ K
 |.build T e=>Uf C o T e.toList σ K
 |.buildSlice T n e=>FC C o T n e.toList σ (λτ=>DU τ (λυ=>vT υ K (afQ C o υ)) (Gw C o T))
 |.load T x=>XX C o T x σ K
 |.store T x v=>match o.dst with|none=>vT σ (λτ=>Tp C T x v τ K) (avJ σ x v)|some _=>False
 |.makeFunc _ _ cs=>Gn σ (λτ=>xH C o τ K) (pJ σ cs.toList)
 |.nilCheck x=>Iz o x σ K
 |.binOp .quo _ x y _=>ajZ o .quo x y σ K
 |.binOp .rem _ x y _=>ajZ o .rem x y σ K
 |.binOp .eql T x y _=>match Cm C.P T with|true=>Ed C o false T x y σ K|false=>xH C o σ K
 |.binOp .neq T x y _=>match Cm C.P T with|true=>Ed C o true T x y σ K|false=>xH C o σ K
 |.binOp .add _ x y _=>P8 C o x y σ K
 |.binOp .. =>xH C o σ K
 |.unOp .. =>xH C o σ K
 |.convert s d x=>Mp C o s d x σ K
 |.makeSlice T l c=>Gl C o T l c σ (λτ=>DU τ K (Gw C o (2000+T)))
 |.slice T x m p q=>Tr C o T x m p q σ K
 |.fieldAddr T x f=>Gy C o T x f σ K
 |.field T x f=>T2 C o T x f σ K
 |.indexAddr T x i=>Gs C o T x i σ K
 |.index T x i=>TS C o T x i σ K
 |.extract x i=>Mm C o x i σ K
 |.makeMap _ r=>LB o r σ K
 |.lookup T x k ok=>Pa C o T x k ok σ K
 |.mapUpdate T x k v=>match o.dst with|none=>(match O9 C.heapT 400000 with|true=>Kv C T x k v σ K|false=>Dj C T x k v σ K)|some _=>False
 |.range T x=>Tx C o T x σ K
 |.next x b=>XU o x b σ K
 |.entry x=>T8 C o x σ K
 |.call c=>match c.callee with
  |.builtin .len=>match c.args.toList with
   |[x]=>a1X C o x c.argTypes.toList σ K
   |_=>False
  |.builtin .append=>match c.args.toList,c.argTypes.toList with
   |[x,y],[T,h]=>Qd C o T h x y σ (λτ=>vT τ K (afQ C o τ))
   |_,_=>False
  |.builtin .copy=>match c.args.toList,c.argTypes.toList with
   |[x,y],[T,h]=>ZJ C o T h x y σ K
   |_,_=>False
  |.builtin .cap=>xH C o σ K
  |.builtin .min=>xH C o σ K
  |.builtin .max=>xH C o σ K
  |.builtin _=>False
  |.value g=>match σ.ev g with
   |.at (.val (.func (.func f) j cs))=>match cmQ C g with
    |some T=>match j.toList with
     |[]=>blZ C o T f cs.toList c.args.toList σ K
     |_=>False
    |none=>match j.toList,cs.toList with
     |[],[]=>ZP C o f c.args.toList c.argTypes.toList σ K
     |_,_=>False
   |_=>False
  |.invoke .. =>False
 |_=>False
def setTmp(σ:St)(c:Operand)(b:Bool):St:=
 match c with
 |.tmp t=>{σ with sl:=σ.sl.set t (.at (.val (.bool b)))}
 |_=>σ
def Pl(f:Oper->St->(St->Prop)->Prop)(ops:Array Oper)(o:Oper)(σ:St)(K:St->Prop):Prop:=
 match o.guard with
 |none=>f o σ K
 |some (j,a)=>
  match nth ops.toList j with
  |none=>False
  |some g=>match g.dst with
   |none=>False
   |some d=>match σ.ev (.tmp d)with
    |.at (.val (.bool t))=>
     branch t
      (match a with|true=>f o (setTmp σ (.tmp d) true) K|false=>K ((setTmp σ (.tmp d) true).put o.dst (.at (.val undef))))
      (match a with|false=>f o (setTmp σ (.tmp d) false) K|true=>K ((setTmp σ (.tmp d) false).put o.dst (.at (.val undef))))
    |.at (.val (.tuple _))=>K (σ.put o.dst (.at (.val undef)))
    |_=>False
def TW(C:Ctx)(ops:Array Oper)(o:Oper)(σ:St)(K:St->Prop):Prop:=Pl (QH C) ops o σ K
structure Mw(P:Program)(S:Spec):Prop where
 go:∀(l:Nat)(vs:cv)(m:MH)(h:PH)(w:World)(K:dc),S (.val (.func (.yield l) #[] #[])::vs.map .val) m h K->Xt w m h->
  ∃fn tmps assign body,(Instr.yield l vs.toArray).run P w= .ok (.round l fn tmps assign body) w/\
   RoundIn Fence.wide 0 P l fn tmps assign body w λe w'=>∃u m' h',e= .returned u/\K (.val u) m' h'/\Qu w m h m' h' w'
def Td(C:Ctx)(o:Oper)(v:Value)(args:dw)(σ:St)(K:St->Prop):Prop:=
 match C.yield with
 |none=>False
 |some S=>
  match r9 C.P σ [] 0 args []with
  |some a=>Mw C.P S/\S (.val v::a) σ.m σ.h (λr m h=>match r with
   |.val u=>K ({σ with m:=m,h:=h}.put o.dst (.at (.val u)))
   |_=>False)
  |none=>False
def Rb(C:Ctx)(o:Oper)(σ:St)(K:St->Prop):Prop:=
 match o.op with
 |.call c=>match c.callee with
  |.value g=>match σ.ev g with
   |.at (.val (.func (.yield l) a cs))=>match a.toList,cs.toList with
    |[],[]=>Td C o (.func (.yield l) #[] #[]) c.args.toList σ K
    |_,_=>False
   |_=>QH C o σ K
  |_=>QH C o σ K
 |_=>QH C o σ K
def Q1(C:Ctx)(ops:Array Oper):List Oper->St->(St->Prop)->Prop
 |[],σ,K=>K σ
 |o::r,σ,K=>Pl (Rb C) ops o σ (λτ=>Q1 C ops r τ K)
def Bj(P:Program)(o:Oper):Bool:=
 match o.op with
 |.load .. =>true
 |.convert src _ _=>match P.underlying src with
  |some (.slice _)=>true
  |_=>false
 |_=>false
def FR:Op->Bool
 |.move _|.assign _|.pick .. |.build .. |.load .. |.nilCheck _|.unOp .. |.fieldAddr .. |.field .. |.indexAddr .. |.index .. |.extract .. =>true
 |.binOp .. =>true
 |.convert .. =>true
 |.call {callee:=.builtin .len,.. }=>true
 |.call {callee:=.builtin .min,.. }=>true
 |.call {callee:=.builtin .max,.. }=>true
 |_=>false
def HG(ops:Array Oper):dq->Option (Nat×Oper)
 |[]=>none
 |i::r=>match nth ops.toList i with
  |some o=>match FR o.op with|true=>some (i,o)|false=>HG ops r
  |none=>HG ops r
def waits(a:Oper)(i:Nat):Bool:=a.after.toList.any λe=>Region.binds .any e&&Nat.beq e.on i
def Ad(σ:St)(a:Oper)(k:Nat):Bool:=
 (match a.dst with|some d=>Nat.beq d k|none=>false)||
 match a.op with
 |.store _ x _=>match σ.ev x with
  |.at (.ptr j _)=>Nat.beq j k
  |_=>false
 |.call c=>match c.callee with
  |.value _=>(pJ σ c.args.toList).contains k
  |_=>false
 |_=>false
def AG(ops:Array Oper)(σ:St)(b:Oper):Bool:=
 match b.guard with
 |none=>false
 |some (j,a)=>match nth ops.toList j with
  |none=>false
  |some g=>match g.dst with
   |none=>false
   |some d=>match σ.ev (.tmp d)with
    |.at (.val (.bool t))=>match t,a with
     |true,false=>true
     |false,true=>true
     |_,_=>false
    |.at (.val (.tuple _))=>true
    |_=>false
def bBZ:Op->Bool
 |.move _=>true
 |_=>false
def ciQ(ops:Array Oper)(ok:Oper)(i:Nat):Bool:=
 waits ok i||ops.toList.zipIdx.any λx=>waits ok x.2&&waits x.1 i
def b6J(ops:Array Oper):Bool:=
 let l:=ops.toList
 let n:=l.length
 (List.range n).all λi=>match nth l i with
  |none=>true
  |some a=>(a.after.toList.all λe=> !Region.binds .any e||Nat.blt e.on i)&&((List.range n).all λk=>match nth l k with
   |none=>true
   |some ok=>match ok.dst with
    |none=>true
    |some d=>Nat.beq i k|| !(a.dst==some d))&&
   (((List.range n).all λk=>match nth l k with
   |none=>true
   |some ok=>match ok.dst with
    |none=>true
    |some d=> !(a.looksAt ops).contains d||waits a k)||
   (bBZ a.op&&(List.range n).all λk=>match nth l k with
   |none=>true
   |some ok=>match ok.dst with
    |none=>true
    |some d=> !(a.looksAt ops).contains d||ciQ ops ok i))
def AR:Op->Bool
 |.alloc _|.box .. |.buildSlice .. |.makeSlice .. |.makeMap .. |.lookup .. =>true
 |_=>false
def rU(o:Oper):Option dw:=
 match o.op with
 |.call c=>match c.callee with
  |.value _=>some c.args.toList
  |_=>none
 |_=>none
def H4(σ:St)(k:Nat):dw->Bool
 |[]=>true
 |x::r=>(match σ.ev x with
  |.at (.lst j)=>match nth σ.own j with|some (some _)=> !Nat.beq j k|_=>false
  |.at (.ptr j _)=>match nth σ.own j with|some (some _)=> !Nat.beq j k|_=>false
  |_=>true)&&H4 σ k r
def Uh(σ:St)(a:Oper)(k:Nat):Bool:=
 AR a.op||match rU a with|some l=>H4 σ k l|none=>false
def ML(P:Program)(n:Bool)(σ:St)(c f:Oper)(K:Prop):Prop:=
 match Bj P f with
 |false=>K
 |true=>
  match f.op with
  |.load T x=>match iU P T with
   |false=>False
   |true=>match σ.ev x,f.dst with
    |.at (.ptr k a),_=>match nth σ.own k with
     |some (some (.cellsP _ _ cs))=>match Ad σ c k,Nat.ble (a+P.cellsOf T) cs.length with
      |false,true=>K
      |_,_=>False
     |_=>False
    |.at (.val (.pointer (some ⟨b,o,none⟩))),some d=>match(σ.ev (.tmp d)).cells? with
     |some cs=>match vL cs with
      |some l=>match Nat.beq l.length (P.cellsOf T)with
       |true=>match AR c.op||n with
        |true=>aJ σ.m σ.h b o l/\K
        |false=>bA σ.h b o l/\K
       |false=>False
      |none=>False
     |none=>False
    |.at (.el k i p a),some d=>match nth σ.own k,(σ.ev (.tmp d)).cells? with
     |some (some (.lst _ s g)),some cs=>match vL cs,Nat.beq s p,Uh σ c k with
      |some l,true,true=>match Nat.beq l.length (P.cellsOf T)with
       |true=>(∃e:cv,g[i]? =some e/\(e.drop a).take (P.cellsOf T)=l)/\K
       |false=>False
      |_,_,_=>False
     |_,_=>False
    |_,_=>False
  |.convert src j x=>match σ.ev x,f.dst with
   |.at (.lst k),some d=>match nth σ.own k,σ.ev (.tmp d)with
    |some (some (.lst _ _ g)),.at (.val (.string s))=>match P.underlying src,P.underlying j with
     |some (.slice E),some .string=>match P.underlying E with
      |some (.int .u8)=>match Uh σ c k with
       |true=>g=jW s/\K
       |false=>False
      |_=>False
     |_,_=>False
    |_,_=>False
   |_,_=>False
  |_=>False
def Ll(P:Program)(c:Bool)(ops:Array Oper)(a:Array Bool)(σ:St)(b:Oper):Nat->List Oper->Prop->Prop
 |_,[],K=>K
 |i,d::r,K=>
  match a.getD i false,FR d.op,waits b i,AG ops σ d with
  |true,true,false,false=>ML P c σ b d (Ll P c ops a σ b (i+1) r K)
  |_,_,_,_=>Ll P c ops a σ b (i+1) r K
def Jf(σ:St)(c a:Oper)(τ:St)(K:Prop):Prop:=
 match a.op with
 |.load _ x=>match σ.ev x,a.dst with
  |.at (.val (.pointer (some ⟨b,o,none⟩))),some d=>match(σ.ev (.tmp d)).cells? with
   |some cs=>match vL cs with
    |some l=>match AR c.op with
     |true=>K
     |false=>aJ τ.m τ.h b o l/\K
    |none=>K
   |none=>K
  |_,_=>K
 |_=>K
def GL(ops:Array Oper)(a:Array Bool)(σ:St)(b:Oper)(τ:St):Nat->List Oper->Prop->Prop
 |_,[],K=>K
 |i,c::r,K=>
  match a.getD i false,FR c.op,waits b i,AG ops σ c with
  |true,true,false,false=>Jf σ b c τ (GL ops a σ b τ (i+1) r K)
  |_,_,_,_=>GL ops a σ b τ (i+1) r K
def ZU(C:Ctx):Bool:=O9 C.heapT 0
def K6(C:Ctx)(ops:Array Oper)(a:Array Bool)(σ:St)(b:Oper)(τ:St)(K:Prop):Prop:=match ZU C with|true=>GL ops a σ b τ 0 ops.toList K|false=>K
def bnZ(g:Nat->Prop):dq->Prop
 |[]=>True
 |[j]=>g j
 |j::r=>g j/\bnZ g r
def Dt(C:Ctx)(ops:Array Oper):Nat->Array Bool->St->(St->Prop)->Prop
 |0,a,σ,K=>match Region.ready .any ops a with|[]=>K σ|_=>False
 |n+1,a,σ,K=>
  match Region.ready .any ops a with
  |[]=>K σ
  |rs=>match HG ops rs with
   |some (i,o)=>TW C ops o σ (λτ=>Dt C ops n (a.setIfInBounds i true) τ K)
   |none=>
    bnZ (λj=>match nth ops.toList j with
     |some o=>Ll C.P (ZU C) ops a σ o 0 ops.toList (TW C ops o σ (λτ=>K6 C ops a σ o τ (Dt C ops n (a.setIfInBounds j true) τ K)))
     |none=>False) rs
def lL:Code->Option Nat
 |.region id _ _=>some id
 |.seq a b=>match lL a with|some i=>some i|none=>lL b
 |.cond _ a b=>match lL a with|some i=>some i|none=>lL b
 |.block _ a=>lL a
 |.loop a=>lL a
 |.scope a=>lL a
 |_=>none
def Di:ej->ej->Prop->Prop
 |[],[],K=>K
 |x::xs,.at .junk::ys,K=>match x with|_=>Di xs ys K
 |x::xs,y::ys,K=>x=y/\Di xs ys K
 |_,_,_=>False
def yQ:eb->eb->Prop->Prop
 |[],[],K=>K
 |_::xs,none::ys,K=>yQ xs ys K
 |x::xs,some y::ys,K=>x=some y/\yQ xs ys K
 |_,_,_=>False
def Ub(τ:St):ej->Nat->St->St
 |[],_,σ=>σ
 |y::ys,i,σ=>
  Ub τ ys (i+1) (match y with
   |.at (.lst k)=>match nth σ.sl i with
    |some (.at (.val (.slice none 0 0)))=>match nth τ.own k,nth σ.own k with
     |some (some (.lst E a _)),some none=>((σ.kill k).setOwn k (some (.lst E a []))).put (some i) (.at (.lst k))
     |_,_=>σ
    |_=>σ
   |_=>σ)
def Ir(σ:St)(q j:Nat)(x:At):St:=
 match nth σ.own q with
 |some (some (.cellsP p T cs))=>σ.setOwn q (some (.cellsP p T (cs.set j x)))
 |_=>σ
def H0(τ:St)(q:Nat):dt->Nat->St->St
 |[],_,σ=>σ
 |y::ys,j,σ=>
  H0 τ q ys (j+1) (match y with
   |.lst k=>match nth σ.own q with
    |some (some (.cellsP _ _ cs))=>match nth cs j with
     |some (.val (.slice none 0 0))=>match nth τ.own k,nth σ.own k with
      |some (some (.lst E a _)),some none=>Ir ((σ.kill k).setOwn k (some (.lst E a []))) q j (.lst k)
      |_,_=>σ
     |_=>σ
    |_=>σ
   |_=>σ)
def Of(τ:St):eb->Nat->St->St
 |[],_,σ=>σ
 |y::ys,q,σ=>
  Of τ ys (q+1) (match y with
   |some (.cellsP _ _ cs)=>H0 τ q cs 0 σ
   |_=>σ)
def conv(σ τ:St):St:=Of τ τ.own 0 (Ub τ τ.sl 0 σ)
def yO(σ τ:St)(K:Prop):Prop:=
 Di (conv σ τ).sl τ.sl (yQ (conv σ τ).own τ.own ((conv σ τ).m=τ.m/\(conv σ τ).h=τ.h/\K))
structure zB(m:MH)(h:PH):Prop where
 disj:∀b o,m b=some o->∀i,h b i=none
structure vX(m:MH)(h:PH)(m2:MH)(h2:PH):Prop where
 sub:∀b o,m2 b=some o->m b=some o
 le:PH.le h h2
 new:∀b i v,h2 b i=some v->h b i=some v\/∃cs E fz,m b=some (.cells cs E fz)/\cs[i]? =some v/\m2 b=none
def TJ(σ τ:St)(K:Prop):Prop:=
 Di (conv σ τ).sl τ.sl (yQ (conv σ τ).own τ.own (vX (conv σ τ).m (conv σ τ).h τ.m τ.h/\K))
def Jm(c:uY)(R:c.A->Prop)(τ:St):Prop:=match c.frz with
 |false=>∃x,R x/\yO τ (c.st x) True
 |true=>zB τ.m τ.h->∃x,R x/\TJ τ (c.st x) True
def Uj(c:uY)(I:c.A->Prop)(S:c.A->Prop)(τ:St):Prop:=match c.frz with
 |false=>∃x,I x/\S x/\yO τ (c.st x) True
 |true=>zB τ.m τ.h->∃x,I x/\S x/\TJ τ (c.st x) True
def vV{α:Type}(d:α)(l:List (Nat×α)):Nat->Nat->List α
 |0,_=>[]
 |n+1,i=>(match assoc l i with|some x=>x|none=>d)::vV d l n (i+1)
def bU(n a:Nat)(sl:eo)(own:List (Nat×Own))(m:MH)(h:PH):St:=
 {sl:=vV (.at .junk) sl n 0,own:=vV none (own.map λp=>(p.1,some p.2)) a 0,m:=m,h:=h}
def akQ(C:Ctx)(b:Code):Option Z5:=match lL b with|some i=>assoc C.cuts i|none=>none
def b8X(C:Ctx)(b:Code):Option Ol:=match lL b with|some i=>assoc C.loops i|none=>none
def P5(C:Ctx)(b:Code):Option uY:=match lL b with|some i=>assoc C.cuts2 i|none=>none
def bAX(C:Ctx)(b:Code):Option uY:=match lL b with|some i=>assoc C.loops2 i|none=>none
def abQ(C:Ctx)(ops:Array Oper):dx->List Oper->St->(St->Prop)->Prop
 |[],l,σ,K=>Q1 C ops l σ K
 |(n,a)::r,l,σ,K=>∃I:a.A->Prop,Q1 C ops (l.take n) σ (λτ=>∃x,I x/\yO τ (a.st x) True)/\∀x,I x->abQ C ops r (l.drop n) (a.st x) K
def Lo(C:Ctx)(id:Nat):dx:=match assoc C.rcuts id with|some l=>l|none=>[]
def VC(C:Ctx):Code->St->(AZ->St->Prop)->Prop
 |.skip,σ,Q=>Q .normal σ
 |.label _,σ,Q=>Q .normal σ
 |.region id d false,σ,Q=>abQ C d (Lo C id) d.toList σ (Q .normal)
 |.region _ d true,σ,Q=>match b6J d,Region.noSelect d,C.P.follows .mixedOrders with
  |true,true,true=>Dt C d d.size (Array.replicate d.size false) σ (Q .normal)
  |_,_,_=>False
 |.seq a b,σ,Q=>
  match akQ C b with
  |some c=>VC C a σ (λe τ=>match e with
   |.normal=>∃x,c.inv x/\yO τ (c.st x) True
   |e=>Q e τ)/\∀x,c.inv x->VC C b (c.st x) Q
  |none=>match P5 C b with
   |some c=>∃I:c.A->Prop,VC C a σ (λe τ=>match e with
    |.normal=>Jm c I τ
    |e=>Q e τ)/\∀x,I x->VC C b (c.st x) Q
   |none=>VC C a σ (λe τ=>match e with
    |.normal=>VC C b τ Q
    |e=>Q e τ)
 |.cond c x y,σ,Q=>
  match σ.ev c with
  |.at (.val (.bool t))=>branch t (VC C x (setTmp σ c true) Q) (VC C y (setTmp σ c false) Q)
  |_=>False
 |.block id c,σ,Q=>
  VC C c σ (λe τ=>match e with
   |.exit i=>match Nat.beq i id with|true=>Q .normal τ|false=>Q (.exit i) τ
   |e=>Q e τ)
 |.loop c,σ,Q=>
  match b8X C c with
  |some l=>
   (∃x,l.inv x/\yO σ (l.st x) True)/\
   ∀x,l.inv x->VC C c (l.st x) (λe τ=>match e with
    |.normal=>∃y,l.inv y/\l.mu y<l.mu x/\yO τ (l.st y) True
    |e=>Q e τ)
  |none=>match bAX C c with
   |some l=>∃(I:l.A->Prop)(f:l.A->Nat),
    Jm l I σ/\
    ∀x,I x->VC C c (l.st x) (λe τ=>match e with
     |.normal=>Uj l I (λy=>f y<f x) τ
     |e=>Q e τ)
   |none=>False
 |.exit id,σ,Q=>Q (.exit id) σ
 |.ret,σ,Q=>Q .ret σ
 |_,_,_=>False
def acQ(C:Ctx)(σ:St):ResultVar->Option SV
 |.tmp t=>some (σ.ev (.tmp t))
 |.cell a T=>match σ.ev (.tmp a)with
  |.at (.ptr k b)=>match nth σ.own k with
   |some (some (.cellsP _ _ cs))=>match Nat.ble (b+C.P.cellsOf T) cs.length,iU C.P T with
    |true,true=>some (mk C.P T ((cs.drop b).take (C.P.cellsOf T)))
    |_,_=>none
   |_=>none
  |_=>none
def Iv(C:Ctx)(σ:St):List ResultVar->Option ej
 |[]=>some []
 |r::rs=>match acQ C σ r,Iv C σ rs with
  |some x,some l=>some (x::l)
  |_,_=>none
def adJ:ej->dq
 |[]=>[]
 |x::r=>x.keys++(adJ r).filter (λk=> !x.keys.contains k)
def D4(P:Program)(σ:St)(mv:Bool):ej->em->Option du
 |[],_=>some []
 |x::r,a=>match D4 P σ mv r a.tail with
  |none=>none
  |some l=>match mv with
   |true=>match x with
    |.at (.lst k)=>match nth σ.own k with
     |some (some (.lst E b c))=>some (.lst E b c::l)
     |_=>none
    |.at (.val (.slice none 0 0))=>match elemOf P (a.headD 0)with
     |some (E,_)=>some (.lst E (P.cellsOf E) []::l)
     |none=>none
    |_=>none
   |false=>match x.val? with
    |some v=>some (.val v::l)
    |none=>none
def Jk:ej->dq
 |[]=>[]
 |.at (.ptr k _)::r=>match(Jk r).contains k with|true=>Jk r|false=>k::Jk r
 |_::r=>Jk r
def DR(C:Ctx)(fn:Func)(K:dc)(σ:St):Prop:=
 match Iv C σ fn.results.toList with
 |none=>False
 |some a=>
  vT σ (λτ=>Gn τ (λυ=>
   match Iv C υ fn.results.toList with
   |none=>False
   |some b=>match D4 C.P υ C.retMove b fn.resultTypes.toList with
    |some [r]=>K r υ.m υ.h
    |some c=>match C.retMove with|true=>False|false=>K (.tup c) υ.m υ.h
    |none=>False) (match C.retMove with|true=>[]|false=>Jk a)) (match C.retMove with|true=>[]|false=>adJ a)
def HZ(n:Nat):Nat->du->ej
 |_,[]=>[]
 |i,.val v::r=>.at (.val v)::HZ n (i+1) r
 |i,.lst _ _ _::r=>.at (.lst (n+i))::HZ n (i+1) r
 |i,.tup _::r=>.at .junk::HZ n (i+1) r
def AV:du->eb
 |[]=>[]
 |.lst E a b::r=>some (.lst E a b)::AV r
 |_::r=>none::AV r
def entry(n:Nat)(args:du)(m:MH)(h:PH):St:=
 {sl:=HZ n 0 args++replicate (n-args.length) (.at .junk),own:=replicate n none++AV args,m:=m,h:=h}
def tM(C:Ctx)(fn:Func)(c:Code)(σ:St)(K:dc):Prop:=
 VC C c σ (λe τ=>match e with
  |.normal=>DR C fn K τ
  |.ret=>DR C fn K τ
  |_=>False)
end Go.Vc
namespace Go.Vc
open Go List
theorem jN{α:Type}:∀(l:List α)(i:Nat),nth l i=l[i]?
 |[],i=>by simp[nth]
 |x::xs,0=>by simp[nth]
 |x::xs,n+1=>by simp[nth,jN xs n]
def Aa(ι:dj):At->Value->Prop
 |.val v,u=>u=v
 |.ptr k o,u=>∃b,ι k= .pointer (some ⟨b,0,none⟩)/\u= .pointer (some ⟨b,o,none⟩)
 |.lst k,u=>u=ι k
 |.el k i a o,u=>∃b n c,ι k= .slice (some ⟨b,0,none⟩) n c/\u= .pointer (some ⟨b,i*a+o,none⟩)
 |.junk,_=>True
def iM(ι:dj):dt->cv->Prop
 |[],[]=>True
 |x::xs,v::vs=>Aa ι x v/\iM ι xs vs
 |_,_=>False
def Qv(ι:dj):List (Sum At dt)->cv->Prop
 |[],[]=>True
 |.inl x::xs,v::vs=>Aa ι x v/\Qv ι xs vs
 |.inr cs::xs,v::vs=>(∃a:Array Value,v= .agg a/\iM ι cs a.toList)/\Qv ι xs vs
 |_,_=>False
def Dnt(ι:dj):SV->Value->Prop
 |.at x,u=>Aa ι x u
 |.agg cs,u=>∃a:Array Value,u= .agg a/\iM ι cs a.toList
 |.tup b,u=>∃a:Array Value,u= .tuple a/\Qv ι b a.toList
def DenS(ι:dj):ej->cv->Prop
 |[],[]=>True
 |x::xs,v::vs=>Dnt ι x v/\DenS ι xs vs
 |_,_=>False
theorem iM.length{ι:dj}:∀{cs:dt}{vs:cv},iM ι cs vs->cs.length=vs.length
 |[],[],_=>rfl
 |_::_,_::_,h=>by simp[iM.length h.2]
 |[],_::_,h=>h.elim
 |_::_,[],h=>h.elim
theorem iM.get{ι:dj}:∀{cs:dt}{vs:cv}(_:iM ι cs vs)(i:Nat)(x:At),cs[i]? =some x->∃v,vs[i]? =some v/\Aa ι x v
 |[],[],_,i,x,a=>by simp at a
 |_::_,v::_,h,0,x,a=>by simp at a;subst a;exact⟨v,rfl,h.1⟩
 |_::_,_::_,h,i+1,x,a=>by simp at a⊢;exact iM.get h.2 i x a
 |[],_::_,h,_,_,_=>h.elim
 |_::_,[],h,_,_,_=>h.elim
theorem iM.take{ι:dj}:∀{cs:dt}{vs:cv}(n:Nat),iM ι cs vs->iM ι (cs.take n) (vs.take n)
 |_,_,0,_=>by simp[iM]
 |[],[],n+1,h=>by simp[iM]
 |_::_,_::_,n+1,h=>by simp only[take_succ_cons];exact⟨h.1,h.2.take n⟩
 |[],_::_,_+1,h=>h.elim
 |_::_,[],_+1,h=>h.elim
theorem iM.drop{ι:dj}:∀{cs:dt}{vs:cv}(n:Nat),iM ι cs vs->iM ι (cs.drop n) (vs.drop n)
 |_,_,0,h=>br h
 |[],[],n+1,h=>by simp[iM]
 |_::_,_::_,n+1,h=>by simp only[drop_succ_cons];exact h.2.drop n
 |[],_::_,_+1,h=>h.elim
 |_::_,[],_+1,h=>h.elim
theorem iM.append{ι:dj}:∀{cs a:dt}{vs b:cv},iM ι cs vs->iM ι a b->iM ι (cs++a) (vs++b)
 |[],_,[],_,_,c=>bk
 |_::_,_,_::_,_,h,c=>⟨h.1,h.2.append c⟩
 |[],_,_::_,_,h,_=>h.elim
 |_::_,_,[],_,h,_=>h.elim
theorem iM.splice{ι:dj}{cs new:dt}{vs us:cv}(off:Nat)(h:iM ι cs vs)(a:iM ι new us):
 iM ι (splice cs off new) (splice vs off us):=by
 unfold Vc.splice;rw[a.length];exact((h.take off).append a).append (h.drop _)
theorem iM.set{ι:dj}:∀{cs:dt}{vs:cv}(j:Nat){x:At}{v:Value},iM ι cs vs->Aa ι x v->iM ι (cs.set j x) (vs.set j v)
 |[],[],_,_,_,_,_=>by simp[iM]
 |_::_,_::_,0,_,_,h,a=>⟨a,h.2⟩
 |_::_,_::_,j+1,_,_,h,a=>⟨h.1,h.2.set j a⟩
 |[],_::_,_,_,_,h,_=>h.elim
 |_::_,[],_,_,_,h,_=>h.elim
theorem iM.vals{ι:dj}:∀{l:cv}{vs:cv},iM ι (l.map .val) vs↔vs=l
 |[],[]=>by simp[iM]
 |[],_::_=>by simp[iM]
 |_::_,[]=>by simp[iM]
 |a::l,v::vs=>by simp only[map_cons,iM,Aa,iM.vals,List.cons.injEq]
theorem DQ:∀{cs:dt}{l:cv},vL cs=some l->cs=l.map .val
 |[],l,h=>by simp[vL]at h;subst h;rfl
 |.val v::r,l,h=>by
  simp only[vL]at h;cases a:vL r with
  |none=>grind
  |some b=>simp[a]at h;subst h;simp[DQ a]
 |.ptr _ _::_,_,h=>by simp[vL]at h
 |.lst _::_,_,h=>by simp[vL]at h
 |.el _ _ _ _::_,_,h=>by simp[vL]at h
 |.junk::_,_,h=>by simp[vL]at h
theorem Dnt.val?{ι:dj}{x:SV}{u v:Value}(h:Dnt ι x u)(a:x.val? =some v):u=v:=by
 cases x with
 |agg cs=>
  simp only[SV.val?]at a;cases b:vL cs with
  |none=>grind
  |some l=>
   simp[b]at a;obtain⟨d,rfl,c⟩:=h;rw[DQ b,iM.vals]at c;subst a;congr 1
   grind
 |tup e=>simp[SV.val?]at a
 |_ y=>cases y<;>simp[SV.val?]at a;subst a;exact h
theorem DenS.length{ι:dj}:∀{xs:ej}{vs:cv},DenS ι xs vs->xs.length=vs.length
 |[],[],_=>rfl
 |_::_,_::_,h=>by simp[DenS.length h.2]
 |[],_::_,h=>h.elim
 |_::_,[],h=>h.elim
theorem DenS.get{ι:dj}:∀{xs:ej}{vs:cv}(_:DenS ι xs vs)(i:Nat)(x:SV),xs[i]? =some x->∃v,vs[i]? =some v/\Dnt ι x v
 |[],[],_,i,x,a=>by simp at a
 |_::_,v::_,h,0,x,a=>by simp at a;subst a;exact⟨v,rfl,h.1⟩
 |_::_,_::_,h,i+1,x,a=>by simp at a⊢;exact DenS.get h.2 i x a
 |[],_::_,h,_,_,_=>h.elim
 |_::_,[],h,_,_,_=>h.elim
theorem DenS.set{ι:dj}:∀{xs:ej}{vs:cv}(j:Nat){x:SV}{v:Value},DenS ι xs vs->Dnt ι x v->DenS ι (xs.set j x) (vs.set j v)
 |[],[],_,_,_,_,_=>by simp[DenS]
 |_::_,_::_,0,_,_,h,a=>⟨a,h.2⟩
 |_::_,_::_,j+1,_,_,h,a=>⟨h.1,h.2.set j a⟩
 |[],_::_,_,_,_,h,_=>h.elim
 |_::_,[],_,_,_,h,_=>h.elim
def upd(ι:dj)(k:Nat)(u:Value):Nat->Value:=λj=>if j=k then u else ι j
@[simp] theorem upd_same (ι:dj) (k:Nat) (u:Value):upd ι k u k=u:=by simp[upd]
theorem pY(ι:dj){k j:Nat}(u:Value)(h:j≠k):upd ι k u j=ι j:=by simp[upd,h]
def At.key:At->Option Nat
 |.ptr k _=>some k
 |.lst k=>some k
 |.el k _ _ _=>some k
 |_=>none
theorem Aa.sub{ι:dj}{k:Nat}{u:Value}{f:At->At}(g:∀x v,x.key=some k->Aa ι x v->Aa (upd ι k u) (f x) v){x:At}{v:Value}(h:Aa ι x v):
 Aa (upd ι k u) (x.sub k f) v:=by
 cases x with
 |val w=>exact h
 |junk=>trivial
 |ptr j o=>
  simp only[At.sub];split
  .rename_i a;exact g _ _ (by simp only[At.key,ce];exact ci a) h
  .rename_i a;have d:j≠k:=λe=>by subst e;simp at a
   obtain⟨b,l,m⟩:=h;exact⟨b,by rw[pY _ _ d];exact l,m⟩
 |lst j=>
  simp only[At.sub];split
  .rename_i a;exact g _ _ (by simp only[At.key,ce];exact ci a) h
  .rename_i a;have d:j≠k:=λe=>by subst e;simp at a
   simp only[Aa]at h⊢
   rw[pY _ _ d];exact h
 |el j i p o=>
  simp only[At.sub];split
  .rename_i a;exact g _ _ (by simp only[At.key,ce];exact ci a) h
  .rename_i a;have d:j≠k:=λe=>by subst e;simp at a
   obtain⟨b,n,c,l,m⟩:=h;exact⟨b,n,c,by rw[pY _ _ d];exact l,m⟩
theorem iM.sub{ι:dj}{k:Nat}{u:Value}{f:At->At}(a:∀x v,x.key=some k->Aa ι x v->Aa (upd ι k u) (f x) v):∀{cs:dt}{vs:cv},iM ι cs vs->
 iM (upd ι k u) (cs.map (At.sub k f)) vs
 |[],[],_=>trivial
 |_::_,_::_,h=>⟨Aa.sub a h.1,iM.sub a h.2⟩
 |[],_::_,h=>h.elim
 |_::_,[],h=>h.elim
theorem Qv.sub{ι:dj}{k:Nat}{u:Value}{f:At->At}(a:∀x v,x.key=some k->Aa ι x v->Aa (upd ι k u) (f x) v):∀{cs:List (Sum At dt)}{vs:cv},Qv ι cs vs->
 Qv (upd ι k u) (cs.map λ |.inl x=>.inl (x.sub k f)|.inr cs=>.inr (cs.map (At.sub k f))) vs
 |[],[],_=>trivial
 |.inl _::_,_::_,h=>⟨Aa.sub a h.1,Qv.sub a h.2⟩
 |.inr _::_,_::_,h=>⟨let⟨us,e,hd⟩:=h.1;⟨us,e,iM.sub a hd⟩,Qv.sub a h.2⟩
 |[],_::_,h=>h.elim
 |.inl _::_,[],h=>h.elim
 |.inr _::_,[],h=>h.elim
theorem Dnt.sub{ι:dj}{k:Nat}{u:Value}{f:At->At}(a:∀x v,x.key=some k->Aa ι x v->Aa (upd ι k u) (f x) v){x:SV}{v:Value}(h:Dnt ι x v):
 Dnt (upd ι k u) (x.sub k f) v:=by
 cases x with
 |agg cs=>obtain⟨b,e,c⟩:=h;exact⟨b,e,iM.sub a c⟩
 |tup d=>obtain⟨b,e,c⟩:=h;exact⟨b,e,Qv.sub a c⟩
 |_ y=>exact Aa.sub a h
theorem DenS.sub{ι:dj}{k:Nat}{u:Value}{f:At->At}(a:∀x v,x.key=some k->Aa ι x v->Aa (upd ι k u) (f x) v):∀{xs:ej}{vs:cv},DenS ι xs vs->
 DenS (upd ι k u) (xs.map (SV.sub k f)) vs
 |[],[],_=>trivial
 |_::_,_::_,h=>⟨Dnt.sub a h.1,DenS.sub a h.2⟩
 |[],_::_,h=>h.elim
 |_::_,[],h=>h.elim
structure rL where
 w0:World
 E:Nat->Prop
 h0:PH
 dfs:List Deferred
def blk:Value->Option Nat
 |.pointer (some a)=>some a.block
 |.slice (some a) _ _=>some a.block
 |_=>none
def D9(ι:dj)(w:World)(v:Value):Own->Prop
 |.cellsP p T cs=>∃b c,v= .pointer (some ⟨b,0,none⟩)/\w.heap[b]? =some (.cells c T (0,0))/\iM ι cs c.toList/\∀q,p=some q->b=q
 |.lst E d a=>dQ d a/\w.ownsRow 0 E d v a.length a.flatten
structure xC(B:rL)(m:MH)(h:PH)(w:World):Prop where
 tape:w.tape=B.w0.tape
 os:w.os=B.w0.os
 output:w.output=B.w0.output
 drawn:B.w0.drawn<=w.drawn
 size:B.w0.heap.size<=w.heap.size
 frame:∀b,b<B.w0.heap.size->¬B.E b->w.heap[b]? =B.w0.heap[b]?
 hsat:∀b o v,h b o=some v->w.cell? ⟨b,o,none⟩=some v
 msat:∀b o,m b=some o->w.heap[b]? =some o
 disj:∀b o,m b=some o->∀i,h b i=none
 hle:∀b o v,B.h0 b o=some v->h b o=some v
 hold:∀b,b<B.w0.heap.size->¬B.E b->h b=B.h0 b
 mfr:∀b o,m b=some o->B.w0.heap.size<=b\/B.E b
structure aK(B:rL)(ι:dj)(σ:St)(a:Act)(w:World):Prop where
 slots:DenS ι σ.sl a.tmps.toList
 defers:a.defers=B.dfs
 own:∀k o,nth σ.own k=some (some o)->D9 ι w (ι k) o
 dist:∀k k' o o' b,nth σ.own k=some (some o)->nth σ.own k'=some (some o')->blk (ι k)=some b->blk (ι k')=some b->k=k'
 fresh:∀k o b,nth σ.own k=some (some o)->blk (ι k)=some b->(B.w0.heap.size<=b\/B.E b)/\σ.m b=none/\∀i,σ.h b i=none
 wrel:xC B σ.m σ.h w
 one:∀k,(ι k).oneCell'=true
theorem Af{α:Type}(l:List α)(k j:Nat)(x:α):nth (l.set k x) j=if j=k/\k<l.length then some x else nth l j:=by
 rw[jN,jN,getElem?_set]
 grind
theorem Bo{α β:Type}(f:α->β)(l:List α)(j:Nat):nth (l.map f) j=(nth l j).map f:=by
 rw[jN,jN,getElem?_map]
theorem Act.toList_put(a:Act)(d:Nat)(v:Value):(a.put (some d) v).tmps.toList=a.tmps.toList.set d v:=by
 simp[Act.put]
theorem aK.put{B:rL}{ι:dj}{σ:St}{a:Act}{w:World}(h:aK B ι σ a w)(d:Option Tmp){x:SV}{v:Value}(hx:Dnt ι x v):
 aK B ι (σ.put d x) (a.put d v) w:=by
 cases d with
 |none=>exact h
 |some d=>
  refine⟨?_,h.defers,h.own,h.dist,h.fresh,h.wrel,h.one⟩;rw[Act.toList_put];exact h.slots.set d hx
theorem aK.ev{B:rL}{ι:dj}{σ:St}{a:Act}{w:World}(h:aK B ι σ a w)(x:Operand):Dnt ι (σ.ev x) (a.eval x):=by
 cases x with
 |const v=>rfl
 |global g=>rfl
 |func f=>rfl
 |tmp t=>
  simp only[St.ev,jN];cases b:σ.sl[t]? with
  |none=>exact trivial
  |some x=>
   obtain⟨v,c,d⟩:=h.slots.get t x b
   have:a.eval (.tmp t)=v:=by
    simp only[Act.eval,Array.getD_eq_getD_getElem?]
    grind
   grind
theorem aK.rho{B:rL}{ι:dj}{σ:St}{a:Act}{w:World}(h:aK B ι σ a w){x:Operand}{v:Value}(hx:(σ.ev x).val? =some v):
 a.eval x=v:=(h.ev x).val? hx
theorem qG{ι:dj}{w:World}{v:Value}{o:Own}{b:Nat}(h:D9 ι w v o)(a:blk v=some b):b<w.heap.size:=by
 cases o with
 |cellsP p T cs=>
  obtain⟨c,g,rfl,d,_⟩:=h;simp[blk]at a;grind
 |lst E i j=>
  rcases h.2.2 with⟨rfl,_⟩|⟨c,e,f,rfl,_,d,_⟩
  .simp[blk]at a
  .simp[blk]at a;grind
theorem D9.world{ι:dj}{w w':World}{v:Value}{o:Own}(h:D9 ι w v o)(f:∀b,blk v=some b->w'.heap[b]? =w.heap[b]?):D9 ι w' v o:=by
 cases o with
 |cellsP p T cs=>
  obtain⟨a,g,rfl,c,i⟩:=h;exact⟨a,g,rfl,by rw[f _ rfl];exact c,i⟩
 |lst E l m=>
  refine⟨h.1,h.2.1,?_⟩;rcases h.2.2 with⟨rfl,n⟩|⟨a,d,e,rfl,j,c,k⟩
  .grind
  .exact .inr ⟨a,d,e,rfl,j,by rw[f _ rfl];exact c,k⟩
theorem D9.sub{ι:dj}{w:World}{v:Value}{o:Own}{k:Nat}{u:Value}{f:At->At}(a:∀x v,x.key=some k->Aa ι x v->Aa (upd ι k u) (f x) v)(h:D9 ι w v o):
 D9 (upd ι k u) w v (o.sub k f):=by
 cases o with
 |cellsP p T cs=>
  obtain⟨b,c,rfl,d,e,g⟩:=h;exact⟨b,c,rfl,d,iM.sub a e,g⟩
 |lst E i j=>exact h
theorem qL{σ:St}{k j:Nat}{f:At->At}{b:Own}(h:nth ((σ.sub k f).setOwn k none).own j=some (some b)):
 j≠k/\∃o,nth σ.own j=some (some o)/\b=o.sub k f:=by
 simp only[St.setOwn,St.sub,Af,Bo]at h;by_cases a:j=k
 .subst a;by_cases c:j<σ.own.length
  .grind
  .simp[c,jN]at h
 .simp only[a,false_and,if_false]at h;refine⟨a,?_⟩;cases d:nth σ.own j with
  |none=>grind
  |some x=>
   cases x with
   |none=>grind
   |some o=>grind
theorem Tf{ι:dj}(h:∀k,(ι k).oneCell'=true)(k:Nat){u:Value}(a:u.oneCell'=true):∀j,(upd ι k u j).oneCell'=true:=by
 intro j;unfold upd
 grind
theorem aK.drop{B:rL}{ι:dj}{σ:St}{a:Act}{w:World}(h:aK B ι σ a w)(k:Nat)(u:Value)(r:u.oneCell'=true)(f:At->At)
 (p:∀x v,x.key=some k->Aa ι x v->Aa (upd ι k u) (f x) v):aK B (upd ι k u) ((σ.sub k f).setOwn k none) a w:=by
 refine⟨DenS.sub p h.slots,h.defers,?_,?_,?_,h.wrel,Tf h.one k r⟩
 .intro j q d;obtain⟨c,o,e,rfl⟩:=qL d;rw[pY _ _ c];exact(h.own j o e).sub p
 .intro j s o q b d m g i;obtain⟨c,o,e,rfl⟩:=qL d;obtain⟨l,q,n,rfl⟩:=qL m;rw[pY _ _ c]at g;rw[pY _ _ l]at i;exact h.dist j s _ _ b e n g i
 .intro j o b d g;obtain⟨c,o,e,rfl⟩:=qL d;rw[pY _ _ c]at g;exact h.fresh j o b e g
theorem Oc(σ:St)(k:Nat):σ.kill k=(σ.sub k (λ_=>.junk)).setOwn k none:=rfl
theorem aK.kill{B:rL}{ι:dj}{σ:St}{a:Act}{w:World}(h:aK B ι σ a w)(k:Nat)(u:Value)(b:u.oneCell'=true):aK B (upd ι k u) (σ.kill k) a w:=
 h.drop k u b _ (λ_ _ _ _=>trivial)
structure D6(S:Nat->Prop)(w w':World):Prop where
 tape:w'.tape=w.tape
 os:w'.os=w.os
 output:w'.output=w.output
 drawn:w.drawn<=w'.drawn
 size:w.heap.size<=w'.heap.size
 block:∀b,b<w.heap.size->¬S b->w'.heap[b]? =w.heap[b]?
theorem D6.refl(S:Nat->Prop)(w:World):D6 S w w:=⟨rfl,rfl,rfl,Nat.le_refl _,Nat.le_refl _,λ_ _ _=>rfl⟩
theorem xC.ext{B:rL}{m:MH}{h:PH}{w w':World}{S:Nat->Prop}(a:xC B m h w)(c:D6 S w w')(n:∀b,S b->(B.w0.heap.size<=b\/B.E b)/\m b=none/\∀i,h b i=none):
 xC B m h w':=by
 refine⟨c.tape.trans a.tape,c.os.trans a.os,c.output.trans a.output,cr a.drawn c.drawn,cr a.size c.size,?_,?_,?_,a.disj,a.hle,a.hold,a.mfr⟩
 .intro b f j;rw[c.block b (ct f a.size) (λg=>?_)]
  .exact a.frame b f j
  grind
 .intro b o v k;have e:=a.hsat b o v k
  have d:b<w.heap.size:=by
   unfold World.cell? at e
   grind
  have p:=c.block b d (λg=>bk);unfold World.cell? at e⊢
  grind
 .intro b o l;have e:=a.msat b o l;have d:=(Array.getElem?_eq_some_iff.1 e).1;rw[c.block b d (λg=>bk)];exact e
theorem aK.place{B:rL}{ι:dj}{σ:St}{a:Act}{w w':World}(h:aK B ι σ a w)(k:Nat)(o:Own)(v:Value)
 (J:D6 (λb=>(∃l,nth σ.own k=some (some l))/\blk (ι k)=some b) w w')
 (N:D9 (upd ι k v) w' v o)(z:v.oneCell'=true)
 (O:∀b,blk v=some b->w.heap.size<=b\/((∃l,nth σ.own k=some (some l))/\blk (ι k)=some b)):
 aK B (upd ι k v) ((σ.kill k).setOwn k (some o)) a w':=by
 have P:∀b,((∃l,nth σ.own k=some (some l))/\blk (ι k)=some b)->(B.w0.heap.size<=b\/B.E b)/\σ.m b=none/\∀i,σ.h b i=none:=
  λb⟨⟨l,s⟩,D⟩=>h.fresh k l b s D
 have F:=h.wrel.ext J P
 have A:∀b,blk v=some b->(B.w0.heap.size<=b\/B.E b)/\σ.m b=none/\∀i,σ.h b i=none:=by
  intro b K;rcases O b K with G|L
  .refine⟨.inl (cr h.wrel.size G),?_,?_⟩
   .cases Q:σ.m b with
    |none=>rfl
    |some R=>have:=(Array.getElem?_eq_some_iff.1 (h.wrel.msat b R Q)).1;omega
   .intro i;cases S:σ.h b i with
    |none=>rfl
    |some u=>
     have T:=h.wrel.hsat b i u S;unfold World.cell? at T
     grind
  grind
 have c:∀j l,nth ((σ.kill k).setOwn k (some o)).own j=some (some l)->
  (j=k/\l=o)\/(j≠k/\∃n,nth σ.own j=some (some n)/\l=n.sub k (λ_=>.junk)):=by
  intro j l q;simp only[Oc,St.setOwn,St.sub,Af,Bo,length_set,length_map]at q;by_cases e:j=k
  .subst e;by_cases t:j<σ.own.length
   .grind
   .simp[t,jN]at q
  .simp only[e,false_and,if_false]at q;refine .inr ⟨e,?_⟩;cases W:nth σ.own j with
   |none=>grind
   |some x=>
    cases x with
    |none=>grind
    |some n=>grind
 have other:∀j n,j≠k->nth σ.own j=some (some n)->∀b,blk (ι j)=some b->blk v≠some b/\w'.heap[b]? =w.heap[b]? :=by
  intro j n e g b d;have t:=qG (h.own j n g) d;have y:¬((∃l,nth σ.own k=some (some l))/\blk (ι k)=some b):=λ⟨⟨l,s⟩,D⟩=>e (h.dist j k n l b g s d D);refine⟨λK=>?_,J.block b t y⟩
  grind
 refine⟨DenS.sub (f:=λ_=>.junk) (λ_ _ _ _=>trivial) h.slots,h.defers,?_,?_,?_,F,Tf h.one k z⟩
 .intro j l q;rcases c j l q with⟨rfl,rfl⟩|⟨e,n,g,rfl⟩
  .rw[upd_same];exact N
  .rw[pY _ _ e];refine D9.world ((h.own j n g).sub (f:=λ_=>.junk) (λ_ _ _ _=>trivial)) (λb d=>(other j n e g b d).2)
 .intro j M n U b q H d p;rcases c j n q with⟨rfl,rfl⟩|⟨e,C,g,rfl⟩<;>rcases c M U H with⟨rfl,rfl⟩|⟨r,V,I,rfl⟩
  .rfl
  .rw[upd_same]at d;rw[pY _ _ r]at p
   grind
  .rw[upd_same]at p;rw[pY _ _ e]at d
   grind
  .rw[pY _ _ e]at d;rw[pY _ _ r]at p;exact h.dist j M _ _ b g I d p
 .intro j n b q d;rcases c j n q with⟨rfl,rfl⟩|⟨e,C,g,rfl⟩
  .rw[upd_same]at d;exact A b d
  .rw[pY _ _ e]at d;exact h.fresh j C b g d
theorem aK.adopt{B:rL}{ι:dj}{σ:St}{a:Act}{w:World}(h:aK B ι σ a w)(k:Nat)(o:Own)(v:Value)
 (C:D9 (upd ι k v) w v o)(s:v.oneCell'=true)
 (D:∀b,blk v=some b->((B.w0.heap.size<=b\/B.E b)/\σ.m b=none/\∀i,σ.h b i=none)/\∀j q,j≠k->nth σ.own j=some (some q)->blk (ι j)≠some b):
 aK B (upd ι k v) ((σ.kill k).setOwn k (some o)) a w:=by
 have c:∀j q,nth ((σ.kill k).setOwn k (some o)).own j=some (some q)->
  (j=k/\q=o)\/(j≠k/\∃n,nth σ.own j=some (some n)/\q=n.sub k (λ_=>.junk)):=by
  intro j q p;simp only[Oc,St.setOwn,St.sub,Af,Bo,length_set,length_map]at p;by_cases d:j=k
  .subst d;by_cases u:j<σ.own.length
   .grind
   .simp[u,jN]at p
  .simp only[d,false_and,if_false]at p;refine .inr ⟨d,?_⟩;cases H:nth σ.own j with
   |none=>grind
   |some x=>
    cases x with
    |none=>grind
    |some n=>grind
 refine⟨DenS.sub (f:=λ_=>.junk) (λ_ _ _ _=>trivial) h.slots,h.defers,?_,?_,?_,h.wrel,Tf h.one k s⟩
 .intro j q p;rcases c j q p with⟨rfl,rfl⟩|⟨d,n,l,rfl⟩
  .rw[upd_same];exact C
  .rw[pY _ _ d];exact(h.own j n l).sub (f:=λ_=>.junk) (λ_ _ _ _=>trivial)
 .intro j A n F b p y e g;rcases c j n p with⟨rfl,rfl⟩|⟨d,t,l,rfl⟩<;>rcases c A F y with⟨rfl,rfl⟩|⟨r,G,z,rfl⟩
  .rfl
  .rw[upd_same]at e;rw[pY _ _ r]at g
   grind
  .rw[upd_same]at g;rw[pY _ _ d]at e
   grind
  .rw[pY _ _ d]at e;rw[pY _ _ r]at g;exact h.dist j A _ _ b l z e g
 .intro j n b p e;rcases c j n p with⟨rfl,rfl⟩|⟨d,t,l,rfl⟩
  .rw[upd_same]at e;exact(D b e).1
  .rw[pY _ _ d]at e;exact h.fresh j t b l e
theorem I7(ι:dj)(k:Nat):upd ι k (ι k)=ι:=by
 funext j;unfold upd
 grind
structure Fz(σ σ':St):Prop where
 cells:∀k p T cs,nth σ.own k=some (some (.cellsP p T cs))->∃cs',nth σ'.own k=some (some (.cellsP p T cs'))
 imm:∀b off v,σ.h b off=some v->σ'.h b off=some v
 ptr:∀x k off,σ'.ev x= .at (.ptr k off)->σ.ev x= .at (.ptr k off)
 lst:∀x k,σ'.ev x= .at (.lst k)->σ.ev x= .at (.lst k)
 m_:σ'.m=σ.m
theorem Fz.refl(σ:St):Fz σ σ:=⟨λ_ _ _ cs h=>⟨cs,h⟩,λ_ _ _ h=>h,λ_ _ _ h=>h,λ_ _ h=>h,rfl⟩
theorem Fz.trans{σ τ υ:St}(h:Fz σ τ)(a:Fz τ υ):Fz σ υ:=
 ⟨λk p T cs d=>let⟨cs',hk'⟩:=h.cells k p T cs d;a.cells k p T cs' hk',λb o v e=>a.imm b o v (h.imm b o v e),λx k o c=>h.ptr x k o (a.ptr x k o c),λx k c=>h.lst x k (a.lst x k c),a.m_.trans h.m_⟩
theorem ZF(σ:St)(k:Nat)(f:At->At)(m:MH)(h:PH)(own:eb)(x:Operand):
 St.ev {sl:=σ.sl.map (SV.sub k f),own:=own,m:=m,h:=h} x=(σ.ev x).sub k f\/(∃v,x= .const v\/(∃g,x= .global g)\/∃g,x= .func g):=by
 cases x with
 |tmp t=>
  left;simp only[St.ev,Bo];cases nth σ.sl t with
  |none=>rfl
  |some y=>rfl
 |const v=>grind
 |global g=>exact .inr ⟨undef,.inr (.inl ⟨g,rfl⟩)⟩
 |func g=>exact .inr ⟨undef,.inr (.inr ⟨g,rfl⟩)⟩
theorem bxJ{k:Nat}{f:At->At}(a:∀x j o,f x≠ .ptr j o){x:SV}{j o:Nat}(h:x.sub k f= .at (.ptr j o)):x= .at (.ptr j o):=by
 cases x with
 |agg cs=>simp[SV.sub]at h
 |tup b=>simp[SV.sub]at h
 |_ y=>
  cases y<;>simp only[SV.sub,At.sub,SV.at.injEq]at h⊢
  case val=>exact h
  case junk=>exact h
  all_goals
   split at h
   .exact absurd h (a _ _ _)
   .exact h
theorem aaZ{k:Nat}{f:At->At}(a:∀x j,f x≠ .lst j){x:SV}{j:Nat}(h:x.sub k f= .at (.lst j)):x= .at (.lst j):=by
 cases x with
 |agg cs=>simp[SV.sub]at h
 |tup b=>simp[SV.sub]at h
 |_ y=>
  cases y<;>simp only[SV.sub,At.sub,SV.at.injEq]at h⊢
  case val=>exact h
  case junk=>exact h
  all_goals
   split at h
   .exact absurd h (a _ _)
   .exact h
theorem a3J{σ:St}{k:Nat}{f:At->At}{m:MH}{h:PH}(n:m=σ.m)(q:∀x j o,f x≠ .ptr j o)(d:∀x j,f x≠ .lst j)(r:∀p T cs,nth σ.own k≠some (some (.cellsP p T cs)))(s:∀b off v,σ.h b off=some v->h b off=some v):
 Fz σ {(σ.sub k f).setOwn k none with m:=m,h:=h}:=by
 refine⟨?_,s,?_,?_,n⟩
 .intro j p T cs l;have i:j≠k:=λe=>r p T cs (e▸l);refine⟨cs.map (At.sub k f),?_⟩;simp only[St.setOwn,St.sub,Af,Bo,i,false_and,if_false,l];rfl
 .intro x j off c;rcases ZF σ k f m h ((σ.sub k f).setOwn k none).own x with a|⟨v,a⟩
  .have:(σ.ev x).sub k f= .at (.ptr j off):=a▸c;exact bxJ q this
  .rcases a with rfl|⟨g,rfl⟩|⟨g,rfl⟩<;>exact c
 .intro x j c;rcases ZF σ k f m h ((σ.sub k f).setOwn k none).own x with a|⟨v,a⟩
  .have:(σ.ev x).sub k f= .at (.lst j):=a▸c;exact aaZ d this
  .rcases a with rfl|⟨g,rfl⟩|⟨g,rfl⟩<;>exact c
end Go.Vc
namespace Go.Vc
open Go List
theorem B6{α:Type}(P:Program):∀(s:Sem α)(x:α),A2 P s=some x->∀w,s.run P w= .ok x w:=by
 intro s
 induction s with
 |pure a=>intro x h w;simp[A2]at h;subst h;rfl
 |program k b=>intro x h w;simp only[A2]at h;simp only[Sem.run];grind
 |mark m k b=>intro x h w;simp only[A2]at h;simp only[Sem.run];grind
 |_=>intro x h w;simp[A2]at h
def Ut(C:Ctx)(ι:dj)(o:Oper)(σ:St)(K:St->Prop)(a:Act)(w:World):Prop:=
 ∃v x,(∀b,(Bj C.P o=false\/b=w)->(execOp a.eval o).run C.P b= .ok (.value v) b)/\Dnt ι x v/\K (σ.put o.dst x)
section
variable{B:rL}{C:Ctx}{ι:dj}{σ:St}{a:Act}{w:World}{o:Oper}{K:St->Prop}
theorem Nk(d:aK B ι σ a w):∀(l:dw),Oh σ l=true->∀x∈l,σ.rho x=a.eval x
 |[],_,x,b=>by cases b
 |y::l,h,x,b=>by
  simp only[Oh]at h;cases c:(σ.ev y).val? with
  |none=>grind
  |some v=>
   simp[c]at h;rcases mem_cons.1 b with rfl|b
   .simp only[St.rho,c];exact(d.rho c).symm
   .exact Nk d l h x b
theorem lW(d:aK B ι σ a w)(e:∀cs b,o.op≠ .select cs b)(h:xH C o σ K):Ut C ι o σ K a w:=by
 unfold xH at h;split at h
 .rename_i f;have g:execOp a.eval o=execOp σ.rho o:=execOp_congr o e λx j=>(Nk d _ f x bk).symm;split at h
  .rename_i v i;exact⟨v,.at (.val v),λc _=>by rw[g];exact B6 _ _ _ i c,rfl,h⟩
  grind
 grind
theorem Addr.add_none(b o j:Nat):(⟨b,o,none⟩:Addr).add j=⟨b,o+j,none⟩:=by unfold Addr.add;grind
def mkV(P:Program)(T:TypeId)(cs:cv):Value:=match Cm P T with|true=>.agg cs.toArray|false=>cs.headD undef
theorem fL{P:Program}{T:TypeId}(h:iU P T=true):∃i d,P.info? T=some i/\P.underlying T=some d/\P.cellsOf T=i.size/\0<i.size:=by
 unfold iU at h;split at h
 .rename_i d c;split at h
  .cases h
  .rename_i e;cases b:P.info? T with
   |none=>simp[Program.underlying,b]at c
   |some i=>
    have f:P.cellsOf T=i.size:=by simp[Program.cellsOf,b]
    grind
 .cases h
theorem Q6{P:Program}{T:TypeId}{d:TypeDesc}(h:P.underlying T=some d)(w:World):(isAgg T).run P w= .ok (Cm P T) w:=by
 unfold isAgg Cm;rw[Sem.run_bind,run_underlying h w,h];cases d<;>rfl
theorem run_sizeOf{P:Program}{T:TypeId}{i:TypeInfo}(h:P.info? T=some i)(w:World):(sizeOf T).run P w= .ok i.size w:=by
 simp[sizeOf,typeInfo,program,Sem.run,h]
theorem AO{P:Program}{T:TypeId}{w:World}{b off:Nat}{cs:cv}(k:iU P T=true)(c:cs.length=P.cellsOf T)
 (l:∀j v,cs[j]? =some v->w.cell? ⟨b,off+j,none⟩=some v):(loadVar T ⟨b,off,none⟩).run P w= .ok (mkV P T cs) w:=by
 obtain⟨i,d,m,n,e,f⟩:=fL k;rw[e]at c;unfold loadVar;rw[Sem.run_bind,Q6 n];simp only[Result.andThen_ok];unfold mkV;cases g:Cm P T with
 |true=>
  have p:(loadCells ⟨b,off,none⟩ cs.length).run P w= .ok cs.toArray w:=
   run_loadCells_list (P:=P) w ⟨b,off,none⟩ cs (λj v q=>by rw[Addr.add_none];grind)
  simp[run_sizeOf m, <-c,p]
 |false=>
  cases cs with
  |nil=>grind
  |cons v r=>
   have h:=l 0 v rfl;simp only[Nat.add_zero]at h;simp[load,Sem.run,h]
theorem IQ{P:Program}{T:TypeId}{ats:dt}{cs:cv}(h:iM ι ats cs):Dnt ι (mk P T ats) (mkV P T cs):=by
 unfold mk mkV;cases Cm P T with
 |true=>exact⟨cs.toArray,rfl,br h⟩
 |false=>
  cases ats with
  |nil=>exact trivial
  |cons x r=>
   cases cs with
   |nil=>exact h.elim
   |cons v l=>
    cases r with
    |nil=>exact h.1
    |cons y r=>exact trivial
theorem w9(c:aK B ι σ a w){k:Nat}{T:TypeId}{cs:dt}{p:Option Nat}(d:nth σ.own k=some (some (.cellsP p T cs))):
 ∃b vs,ι k= .pointer (some ⟨b,0,none⟩)/\w.heap[b]? =some (.cells vs T (0,0))/\iM ι cs vs.toList:=
 let⟨b,vs,h1,h2,h3,_⟩:=c.own k _ d;⟨b,vs,h1,h2,h3⟩
theorem acJ(c:aK B ι σ a w){k q:Nat}{T:TypeId}{cs:dt}(d:nth σ.own k=some (some (.cellsP (some q) T cs))):ι k= .pointer (some ⟨q,0,none⟩):=by
 obtain⟨b,e,f,_,_,g⟩:=c.own k _ d
 grind
theorem cell_of_heap{w:World}{b o:Nat}{vs:Array Value}{T:TypeId}{c:Nat×Nat}(h:w.heap[b]? =some (.cells vs T c)):w.cell? ⟨b,o,none⟩=vs.toList[o]? :=by
 simp[World.cell?,h]
theorem QY{vs:cv}{off n j:Nat}{v:Value}(h:((vs.drop off).take n)[j]? =some v):vs[off+j]? =some v:=by
 grind
theorem Ej(c:xC B σ.m σ.h w){b off:Nat}{l:cv}(h:aJ σ.m σ.h b off l):∀j v,l[j]? =some v->w.cell? ⟨b,off+j,none⟩=some v:=by
 intro j v d;cases h with
 |imm e=>exact c.hsat _ _ _ (e.rd j v d)
 |lent cs E g f i=>
  rw[cell_of_heap (c.msat _ _ f)]
  grind
theorem oU{xs:List cv}{sz i:Nat}{e:cv}(b:∀e∈xs,e.length=sz)(c:xs[i]? =some e)(j:Nat)(v:Value)(d:e[j]? =some v):
 xs.flatten[i*sz+j]? =some v:=by
 induction xs generalizing i with
 |nil=>simp at c
 |cons x r f=>
  have g:x.length=sz:=b x bf;cases i with
  |zero=>
   grind
  |succ i=>
   grind
theorem sN(b:aK B ι σ a w){k:Nat}{E sz:Nat}{xs:List cv}(c:nth σ.own k=some (some (.lst E sz xs))):
 dQ sz xs/\w.ownsRow 0 E sz (ι k) xs.length xs.flatten:=b.own k _ c
theorem XW(F:aK B ι σ a w){T:TypeId}{x:Operand}(R:o.op= .load T x)(h:XX C o T x σ K):Ut C ι o σ K a w:=by
 have l:∀(b d:Nat)(cs:cv),a.eval x= .pointer (some ⟨b,d,none⟩)->iU C.P T=true->cs.length=C.P.cellsOf T->(∀j v,cs[j]? =some v->w.cell? ⟨b,d+j,none⟩=some v)->
  ∀m,(Bj C.P o=false\/m=w)->(execOp a.eval o).run C.P m= .ok (.value (mkV C.P T cs)) m:=by
  intro b d cs r z S U m G;have G:m=w:=G.resolve_left (by simp[Bj,R]);subst G;have:=AO z S U;unfold execOp;simp only[R,r,Instr.loadAt,Instr.sureAddr,Sem.run_bind,Sem.run_pure,Result.andThen_ok,this]
 have f:=F.ev x;unfold XX at h;split at h
 .exact h.elim
 .rename_i z;split at h
  .rename_i k d r;rw[r]at f;split at h
   .rename_i p T' cs H;split at h
    .rename_i I;obtain⟨b,V,J,W,X⟩:=w9 F H;obtain⟨b',t,L⟩:=f;rw[J]at t;simp only[Value.pointer.injEq,ce,Addr.mk.injEq]at t;obtain⟨rfl, -, -⟩:=t;have A:=(X.drop d).take (C.P.cellsOf T);refine⟨_,_,l b d ((V.toList.drop d).take (C.P.cellsOf T)) L z ?_ ?_,IQ A,h⟩
     .rw[<-A.length];have:=Nat.le_of_ble_eq_true I;simp;omega
     .intro j v M;rw[cell_of_heap W]
      grind
    grind
   grind
  .rename_i k i sz d r;rw[r]at f;split at h
   .rename_i E s xs H;split at h
    .rename_i N;have N:=ci N;subst N;obtain⟨e,Y,y,O,h⟩:=h;split at h
     .rename_i q;obtain⟨u,D⟩:=sN F H;obtain⟨b,n,c,J,L⟩:=f;refine⟨_,_,l b _ _ L z (ci q) ?_,IQ (iM.vals.2 rfl),h⟩;intro j v M;rw[<-O]at M;have Q:=QY M;have Z:=oU u.len Y _ _ Q;have:=D.cells (g:=b) (by rw[J];rfl) _ _ Z;rw[Addr.add_none]at this
      grind
     grind
    grind
   grind
  .rename_i b d r;rw[r]at f;obtain⟨y,O,h⟩:=h;split at h
   .rename_i q;exact⟨_,_,l b d _ f z (ci q) (Ej F.wrel O),IQ (iM.vals.2 rfl),h⟩
   grind
  grind
theorem O7(c:aK B ι σ a w){x:Operand}(b:o.op= .move x\/o.op= .assign x)(h:K (σ.put o.dst (σ.ev x))):Ut C ι o σ K a w:=by
 refine⟨a.eval x,σ.ev x,λd _=>?_,c.ev x,h⟩;rcases b with b|b<;>simp[execOp,b]
theorem tQ{c:Bool}{A D:Prop}(h:branch c A D):(c=true/\A)\/(c=false/\D):=by
 cases c
 .exact .inr ⟨rfl,h⟩
 .exact .inl ⟨rfl,h⟩
theorem XQ(d:aK B ι σ a w){c x y:Operand}(f:o.op= .pick c x y)(h:XR o c x y σ K):Ut C ι o σ K a w:=by
 have b:=d.ev c;unfold XR at h;split at h
 .rename_i t g;rw[g]at b;have b:a.eval c= .bool t:=b;rcases tQ h with⟨rfl,h⟩|⟨rfl,h⟩
  .exact⟨a.eval x,σ.ev x,λe _=>by simp[execOp,f,b,asBool],d.ev x,h⟩
  .exact⟨a.eval y,σ.ev y,λe _=>by simp[execOp,f,b,asBool],d.ev y,h⟩
 grind
theorem KG{P:Program}{T f g T':Nat}(h:KH P T f=some (g,T')):∃c QB,P.underlying T=some (.struct c)/\c[f]? =some QB/\QB.offset=g/\QB.type=T'/\P.cellsOf T'≠0:=by
 unfold KH at h;split at h
 .rename_i c d;split at h
  .rename_i QB b;split at h
   .cases h
   .rename_i i;simp only[ce,Prod.mk.injEq]at h;obtain⟨rfl,rfl⟩:=h;rw[jN,cn]at b;exact⟨c,QB,d,b,rfl,rfl,λe=>by rw[e]at i;simp at i⟩
  .cases h
 .cases h
theorem U7{P:Program}{T f g T':Nat}(h:KH P T f=some (g,T'))(w:World)(b off:Nat):
 (Instr.fieldAt T (.pointer (some ⟨b,off,none⟩)) f).run P w= .ok (.pointer (some ⟨b,off+g,none⟩)) w:=by
 obtain⟨l,QB,j,k,rfl,rfl,e⟩:=KG h;cases c:P.info? QB.type with
 |none=>simp[Program.cellsOf,c]at e
 |some i=>
  have d:i.size≠0:=by simpa[Program.cellsOf,c]using e
  simp[Instr.fieldAt,run_underlying j,k,Instr.sureAddr,fieldPlace,run_sizeOf c,d,Addr.add_none]
theorem Nu(r:aK B ι σ a w){T f:Nat}{x:Operand}(s:o.op= .fieldAddr T x f)(h:Gy C o T x f σ K):Ut C ι o σ K a w:=by
 have e:=r.ev x;unfold Gy at h;split at h
 .exact h.elim
 .rename_i g T' t
  have j:∀b d,a.eval x= .pointer (some ⟨b,d,none⟩)->∀l,(Bj C.P o=false\/l=w)->(execOp a.eval o).run C.P l= .ok (.value (.pointer (some ⟨b,d+g,none⟩))) l:=by
   intro b d m l _;unfold execOp;simp only[s,m,Sem.run_bind,U7 t,Result.andThen_ok,Sem.run_pure]
  split at h
  .rename_i k d m;rw[m]at e;obtain⟨b,p,q⟩:=e;exact⟨_,.at (.ptr k (d+g)),j b d q,⟨b,p,rfl⟩,h⟩
  .rename_i k i u d m;rw[m]at e;obtain⟨b,n,c,p,q⟩:=e;exact⟨_,.at (.el k i u (d+g)),j b _ q,⟨b,n,c,p,bk⟩,h⟩
  .rename_i b d m;rw[m]at e;exact⟨_,.at (.val _),j b d e,rfl,h⟩
  grind
theorem O0(q:aK B ι σ a w){x:Operand}(r:o.op= .nilCheck x)(h:Iz o x σ K):Ut C ι o σ K a w:=by
 have d:=q.ev x
 have e:∀l,a.eval x= .pointer (some l)->∀f,(Bj C.P o=false\/f=w)->(execOp a.eval o).run C.P f= .ok (.value (.pointer (some l))) f:=by
  intro l g f _;unfold execOp;simp[r,g]
 unfold Iz at h;split at h
 .rename_i k j g;rw[g]at d;obtain⟨b,m,p⟩:=d;exact⟨_,.at (.ptr k j),e _ p,⟨b,m,rfl⟩,h⟩
 .rename_i k i s j g;rw[g]at d;obtain⟨b,n,c,m,p⟩:=d;exact⟨_,.at (.el k i s j),e _ p,⟨b,n,c,m,rfl⟩,h⟩
 .rename_i l g;rw[g]at d;exact⟨_,.at (.val _),e _ d,rfl,h⟩
 grind
end
end Go.Vc
namespace Go.Vc
open Go List
section
variable{B:rL}{C:Ctx}{ι:dj}{σ:St}{a:Act}{w:World}{o:Oper}{K:St->Prop}
theorem B3(g:∀k,(ι k).oneCell'=true){x:SV}{v:Value}{cs:dt}(h:Dnt ι x v)(d:x.cells? =some cs):iM ι cs v.cells.toList:=by
 have one:∀u:Value,u.oneCell'=true->u.cells= #[u]:=λu j=>by cases u<;>first|rfl|(simp[Value.oneCell']at j)
 cases x with
 |agg l=>
  simp only[SV.cells?,ce]at d;subst d;obtain⟨q,rfl,m⟩:=h;exact m
 |tup r=>simp[SV.cells?]at d
 |_ y=>
  cases y with
  |val u=>
   have h:v=u:=h;subst h;cases v<;>simp only[SV.cells?,ce,reduceCtorEq]at d<;>subst d<;>first|exact⟨rfl,trivial⟩|skip
   exact iM.vals.2 rfl
  |junk=>simp[SV.cells?]at d
  |ptr k e=>
   simp only[SV.cells?,ce]at d;subst d;obtain⟨b,f,rfl⟩:=h;exact⟨⟨b,f,rfl⟩,trivial⟩
  |lst k=>
   simp only[SV.cells?,ce]at d;subst d;have h:v=ι k:=h;rw[one v bk];exact⟨h,trivial⟩
  |el k i p e=>
   simp only[SV.cells?,ce]at d;subst d;obtain⟨b,n,c,f,rfl⟩:=h;exact⟨⟨b,n,c,f,rfl⟩,trivial⟩
theorem run_indexAt_slice{P:Program}{T E:TypeId}(e:P.underlying T=some (.slice E))(f:iU P E=true)(w:World)(b off len cap:Nat)(k:IntKind)(n:Int)(g:0<=n)(h:n<(len:Int)):
 (Instr.indexAt T (.slice (some ⟨b,off,none⟩) len cap) (.int k n)).run P w= .ok (.pointer (some ⟨b,off+n.toNat*P.cellsOf E,none⟩)) w:=by
 obtain⟨i,d,j,m,l,c⟩:=fL f;rw[l];simp[Instr.indexAt,asIntOf,run_underlying e,g,h,run_sizeOf j,Addr.add_none]
theorem run_indexAt_array{P:Program}{T E len:Nat}(e:P.underlying T=some (.array len E))(f:iU P E=true)(w:World)(b off:Nat)(k:IntKind)(n:Int)(g:0<=n)(h:n<(len:Int)):
 (Instr.indexAt T (.pointer (some ⟨b,off,none⟩)) (.int k n)).run P w= .ok (.pointer (some ⟨b,off+n.toNat*P.cellsOf E,none⟩)) w:=by
 obtain⟨i,d,j,m,l,c⟩:=fL f;rw[l];simp[Instr.indexAt,asIntOf,run_underlying e,Instr.sureAddr,g,h,run_sizeOf j,Addr.add_none]
theorem Nt(t:aK B ι σ a w){T:Nat}{x i:Operand}(D:o.op= .indexAddr T x i)(h:Gs C o T x i σ K):Ut C ι o σ K a w:=by
 have e:=t.ev x;have f:=t.ev i;unfold Gs at h;split at h
 .rename_i u n F;rw[F]at f;have f:a.eval i= .int u n:=f;split at h
  .rename_i E v;split at h
   .rename_i y
    have j:∀b c len l,a.eval x= .slice (some ⟨b,c,none⟩) len l->0<=n->n<(len:Int)->∀d,(Bj C.P o=false\/d=w)->(execOp a.eval o).run C.P d= .ok (.value (.pointer (some ⟨b,c+n.toNat*C.P.cellsOf E,none⟩))) d:=by
     intro b c len l m p q d _;unfold execOp;simp only[D,m,f,Sem.run_bind,run_indexAt_slice v y d b c len l u n p q,Result.andThen_ok,Sem.run_pure]
    split at h
    .rename_i k m;rw[m]at e;have e:a.eval x=ι k:=e;split at h
     .rename_i E' G M H;split at h
      .rename_i r;have r:=ci r;obtain⟨p,q,h⟩:=h;obtain⟨z,s⟩:=sN t H;rcases s.2 with⟨A,N⟩|⟨g,l,I,A,_⟩
       .omega
       .refine⟨_,.at (.el k n.toNat G 0),j g 0 _ l (by rw[e,A]) p q,⟨g,_,l,A,?_⟩,h⟩
        grind
      grind
     grind
    .rename_i O len l m;rw[m]at e;obtain⟨b,c,rfl,p,q,h⟩:=h;exact⟨_,.at (.val _),j b c len l e p q,rfl,h⟩
    grind
   grind
  .rename_i len E v;split at h
   .rename_i y
    have j:∀b c,a.eval x= .pointer (some ⟨b,c,none⟩)->0<=n->n<(len:Int)->∀d,(Bj C.P o=false\/d=w)->(execOp a.eval o).run C.P d= .ok (.value (.pointer (some ⟨b,c+n.toNat*C.P.cellsOf E,none⟩))) d:=by
     intro b c m p q d _;unfold execOp;simp only[D,m,f,Sem.run_bind,run_indexAt_array v y d b c u n p q,Result.andThen_ok,Sem.run_pure]
    split at h
    .rename_i k c m;rw[m]at e;obtain⟨b,J,L⟩:=e;obtain⟨p,q,h⟩:=h;exact⟨_,.at (.ptr k (c+n.toNat*C.P.cellsOf E)),j b c L p q,⟨b,J,rfl⟩,h⟩
    .rename_i b c m;rw[m]at e;obtain⟨p,q,h⟩:=h;exact⟨_,.at (.val _),j b c e p q,rfl,h⟩
    grind
   grind
  grind
 grind
theorem aRX(i:aK B ι σ a w){op:BinOp}{tx q:Nat}{x y:Operand}(j:o.op= .binOp op tx x y q)(h:ajZ o op x y σ K):Ut C ι o σ K a w:=by
 have b:=i.ev x;have c:=i.ev y;unfold ajZ at h;split at h
 .rename_i k n l m d e;rw[d]at b;rw[e]at c;have b:a.eval x= .int k n:=b;have c:a.eval y= .int l m:=c;split at h
  .rename_i f;have f:k=l:=of_decide_eq_true f;subst f;obtain⟨p,h⟩:=h;split at h
   .exact⟨_,.at (.val _),λg _=>by unfold execOp;simp[j,b,c,eqGuard,binOp,Op.intDiv,p],rfl,h⟩
   .exact⟨_,.at (.val _),λg _=>by unfold execOp;simp[j,b,c,eqGuard,binOp,Op.intDiv,p],rfl,h⟩
   grind
  grind
 grind
theorem Uc(e:aK B ι σ a w){tx j:Nat}{x y:Operand}(k:o.op= .binOp .add tx x y j)(h:P8 C o x y σ K):Ut C ι o σ K a w:=by
 have c:=e.ev x;have d:=e.ev y;unfold P8 at h;split at h
 .rename_i s t f g;rw[f]at c;rw[g]at d;have c:a.eval x= .string s:=c;have d:a.eval y= .string t:=d;obtain⟨m,h⟩:=h
  have i:¬((s.size+t.size:Nat):Int)>IntKind.i64.max:=by
   have:IntKind.i64.max=9223372036854775807:=bg
   omega
  exact⟨_,.at (.val _),λl _=>by unfold execOp;simp only[k,c,d,eqGuard,binOp,Op.stringOp,if_neg i];simp,rfl,h⟩
 .exact lW e (λcs b=>bk) h
theorem F6(f:aK B ι σ a w){neg:Bool}{tx k:Nat}{x y:Operand}(g:o.op= .binOp (match neg with|true=>.neq|false=>.eql) tx x y k)(h:Ed C o neg tx x y σ K):Ut C ι o σ K a w:=by
 unfold Ed at h;split at h
 .rename_i l m d e;have i:a.eval x= .agg l:=(f.ev x).val? d;have j:a.eval y= .agg m:=(f.ev y).val? e;obtain⟨r,c,h⟩:=h;refine⟨_,.at (.val _),λb _=>?_,rfl,h⟩;cases neg
  .unfold execOp;simp[g,i,j,run_eqGuard_agg _ _ _ _ _ _ _ c.guard,run_eql_struct,c.eq b]
  .unfold execOp;simp[g,i,j,run_eqGuard_agg _ _ _ _ _ _ _ c.guard,run_neq_struct,c.eq b]
 grind
theorem afX(off:Nat):∀(l:cv)(s:Nat)(cs:Array Value),off+s+l.length<=cs.size->
 ((l.zipIdx s).foldl (λcs x=>cs.setIfInBounds (off+x.2) x.1) cs).toList=splice cs.toList (off+s) l
 |[],s,cs,_=>by simp[splice]
 |v::l,s,cs,h=>by
  simp only[cq]at h;simp only[zipIdx_cons,foldl_cons];have:=afX off l (s+1) (cs.setIfInBounds (off+s) v) bj;rw[this];simp only[Array.toList_setIfInBounds,splice,cq];exact list_seg_step cs.toList (off+s) v l bj
theorem Rr{place:Nat->Option (Nat×Nat)}{cells:Array Value}{i off size:Nat}{v:Value}{rest:List (Nat×Value)}(c:place i=some (off,size))(e:v.cells.size=size)(d:off+v.cells.size<=cells.size):
 Instr.fill place cells ((i,v)::rest)=Instr.fill place (splice cells.toList off v.cells.toList).toArray rest:=by
 have b:=afX off v.cells.toList 0 cells aC;simp only[Nat.add_zero]at b;simp only[Instr.fill,c];rw[if_neg bj];congr 1;apply Array.toList_inj.1;rw[<-b];rw[<-Array.foldl_toList];simp
theorem Dx{α:Type}(cs new:List α)(off:Nat)(h:off+new.length<=cs.length):(splice cs off new).length=cs.length:=by
 unfold splice;simp;omega
theorem Bd(k:aK B ι σ a w)(place:Nat->Option (Nat×Nat)){P:Program}{T:TypeId}(b:∀i r,partAt P T i=some r->place i=some r):
 ∀(parts:fa)(cs:dt)(cells:Array Value)(out:dt),iM ι cs cells.toList->DZ P T σ parts cs=some out->
  ∃r,Instr.fill place cells (parts.map λp=>(p.1,a.eval p.2))=some r/\iM ι out r.toList
 |[],cs,cells,out,j,h=>by
  simp[DZ]at h;subst h;exact⟨cells,rfl,j⟩
 |(i,x)::parts,cs,cells,out,j,h=>by
  simp only[DZ]at h;split at h
  .rename_i c d new s e;split at h
   .rename_i q f;have q:=ci q;have f:=Nat.le_of_ble_eq_true f;have g:=B3 k.one (k.ev x) e;have l:(a.eval x).cells.size=d:=by have:=g.length;grind
    have m:=j.length;simp at m;have:=Bd k place b parts (splice cs c new) (splice cells.toList c (a.eval x).cells.toList).toArray out (br (j.splice c g)) h;obtain⟨r,t,n⟩:=this;refine⟨r,?_,n⟩;simp only[map_cons];rw[Rr (b i _ s) l aC];exact t
   .cases h
  .cases h
theorem B5{P:Program}{T:TypeId}{z:cv}(h:zeroCells P T=some z):∃i v,P.info? T=some i/\i.zero=some v/\z=v.cells.toList:=by
 unfold zeroCells at h
 grind
theorem MW{P:Program}:∀(b:List Field),(b.all λf=>(P.info? f.type).isSome)=true->
 ∃c,b.mapM (λf=>(P.info? f.type).map λi=>(f.offset,i.size))=some c/\c.length=b.length/\∀(i:Nat)(g:Field),b[i]? =some g->c[i]? =some (g.offset,P.cellsOf g.type)
 |[],_=>⟨[],bf,rfl,λi g h=>by simp at h⟩
 |f::b,h=>by
  simp only[all_cons,cg]at h;obtain⟨c,e,d,k⟩:=MW b h.2;cases l:P.info? f.type with
  |none=>grind
  |some i=>
   refine⟨(f.offset,i.size)::c,?_,by simp[d],?_⟩
   .simp[mapM_cons,l,e]
   .intro j g m;cases j with
    |zero=>simp at m;subst m;simp[Program.cellsOf,l]
    |succ j=>grind
theorem Xg(u:aK B ι σ a w){T:Nat}{ps:Array (Nat×Operand)}(G:o.op= .build T ps)(h:Uf C o T ps.toList σ K):Ut C ι o σ K a w:=by
 unfold Uf at h;split at h
 .rename_i z H;split at h
  .rename_i cs e m;obtain⟨L,v,f,y,rfl⟩:=B5 H
   have key:∃r,C.P.built T ((ps.map λp=>(p.1,a.eval p.2)).toList)=some r/\iM ι cs r.toList:=by
    unfold OO at m;have j:iM ι (v.cells.toList.map .val) v.cells.toList:=iM.vals.2 rfl;split at m
    .rename_i I k;obtain⟨A,s,D,F⟩:=MW I.toList m
     have b:∀i r,partAt C.P T i=some r->A.toArray[i]? =some r:=by
      intro i r c;unfold partAt at c;simp only[k]at c;split at c
      .rename_i g J;rw[jN]at J
       grind
      .cases c
     obtain⟨r,c,d⟩:=Bd u (λi=>A.toArray[i]?) b ps.toList _ v.cells cs j e;refine⟨r,?_,d⟩;unfold Program.built;simp only[f,k,y,s];simpa using c
    .rename_i n E k;cases l:C.P.info? E with
     |none=>grind
     |some q=>
      have b:∀i r,partAt C.P T i=some r->(λi=>some (i*q.size,q.size)) i=some r:=by
       intro i r c;unfold partAt at c;simp only[k,Program.cellsOf,l]at c
       grind
      obtain⟨r,c,d⟩:=Bd u (λi=>some (i*q.size,q.size)) b ps.toList _ v.cells cs j e;refine⟨r,?_,d⟩;unfold Program.built;simp only[f,k,y,l];simpa using c
    .cases m
   obtain⟨r,c,d⟩:=key;refine⟨.agg r,.agg cs,λt _=>?_,⟨r,rfl,d⟩,h⟩;unfold execOp;simp only[G,Sem.run_bind,run_build t T _ r c,Result.andThen_ok,Sem.run_pure]
  grind
 grind
theorem ayJ(m:aK B ι σ a w){x:Operand}{c:Call}(s:o.op= .call c)(u:c.callee= .builtin .len)(hx:c.args.toList=[x])
 (h:a1X C o x c.argTypes.toList σ K):Ut C ι o σ K a w:=by
 unfold a1X at h;split at h
 .rename_i k y;split at h
  .rename_i E I z i d
   have n:∃t E,c.argTypes[0]? =some t/\C.P.underlying t=some (.slice E):=by
    unfold VH at d;split at d
    .rename_i t r l;split at d
     .rename_i E A;exact⟨t,E,by rw[<-cn,l];rfl,A⟩
     .cases d
    .cases d
   obtain⟨t,E',l,v⟩:=n;have e:=m.ev x;rw[y]at e;have e:a.eval x=ι k:=e;obtain⟨p,j⟩:=sN m i;have f:c.args= #[x]:=bk
   refine⟨.int .i64 z.length,.at (.val _),λD _=>?_,rfl,h⟩;rcases j.2 with⟨q,F⟩|⟨g,G,H,q,_⟩
   .unfold execOp;simp[s,resolve,u,invoke,builtin,Builtin.len_,f,l,e,q,run_underlying v,goInt,F]
   .unfold execOp;simp[s,resolve,u,invoke,builtin,Builtin.len_,f,l,e,q,run_underlying v,goInt]
  grind
 .exact lW m (λcs b=>bk) h
theorem U6{P:Program}{T:TypeId}{cs:Array Value}{off:Nat}(g:iU P T=true)(b:off+P.cellsOf T<=cs.size)(w:World):
 (part T cs off).run P w= .ok (mkV P T ((cs.toList.drop off).take (P.cellsOf T))) w:=by
 obtain⟨i,d,h,j,k,f⟩:=fL g;unfold part mkV;rw[Sem.run_bind,Q6 j];simp only[Result.andThen_ok];rw[k]at b⊢
 cases Cm P T with
 |true=>
  simp only[if_true,Sem.run_bind,run_sizeOf h,Result.andThen_ok,Sem.run_pure];congr 2
  grind
 |false=>
  have c:off<cs.size:=by omega
  have e:(cs.toList.drop off)=cs[off]::cs.toList.drop (off+1):=by
   rw[<-getElem_cons_drop aC];simp
  simp only[Bool.false_eq_true,if_false,Array.getElem?_eq_getElem c];rw[e];cases l:i.size with
  |zero=>omega
  |succ n=>simp
theorem VW(n:aK B ι σ a w){T f:Nat}{x:Operand}(v:o.op= .field T x f)(h:T2 C o T x f σ K):Ut C ι o σ K a w:=by
 unfold T2 at h;split at h
 .rename_i g T' cs y p c;split at h
  .rename_i i;simp only[cg]at i;have t:=Nat.le_of_ble_eq_true i.1;have j:=B3 n.one (n.ev x) p;obtain⟨D,QB,z,q,rfl,rfl,E⟩:=KG y
   have A:∃d,a.eval x= .agg d:=by
    have b:=n.ev x;split at c
    .rename_i l r;rw[r]at b;obtain⟨d,e,_⟩:=b;grind
    .rename_i d r;rw[r]at b;exact⟨d,b⟩
    .cases c
   obtain⟨d,k⟩:=A;rw[k]at j;have j:iM ι cs d.toList:=j;have u:cs.length=d.size:=by have:=j.length;omega
   have m:QB.offset+C.P.cellsOf QB.type<=d.size:=by omega
   refine⟨_,_,λs _=>?_,IQ ((j.drop QB.offset).take (C.P.cellsOf QB.type)),h⟩;unfold execOp;simp only[v,Instr.field,Sem.run_bind,run_underlying z,Result.andThen_ok,q,k,asAgg,Sem.run_pure,U6 i.2 m s]
  grind
 grind
theorem KO:∀{xs:List (Sum At dt)}{vs:cv}(_:Qv ι xs vs)(i:Nat)(y:Sum At dt),xs[i]? =some y->∃v,vs[i]? =some v/\Dnt ι (match y with|.inl x=>.at x|.inr cs=>.agg cs) v
 |[],[],_,i,y,b=>by simp at b
 |.inl x::_,v::_,h,0,y,b=>by simp at b;subst b;exact⟨v,rfl,h.1⟩
 |.inr cs::_,v::_,h,0,y,b=>by simp at b;subst b;exact⟨v,rfl,h.1⟩
 |.inl _::_,_::_,h,i+1,y,b=>by simp at b⊢;exact KO h.2 i y b
 |.inr _::_,_::_,h,i+1,y,b=>by simp at b⊢;exact KO h.2 i y b
 |[],_::_,h,_,_,_=>h.elim
 |.inl _::_,[],h,_,_,_=>h.elim
 |.inr _::_,[],h,_,_,_=>h.elim
theorem QK(l:aK B ι σ a w){x:Operand}{i:Nat}(n:o.op= .extract x i)(h:Mm C o x i σ K):Ut C ι o σ K a w:=by
 have g:=l.ev x;unfold Mm at h;split at h
 .rename_i r p;rw[p]at g;obtain⟨q,k,m⟩:=g
  have d:∀v,q.toList[i]? =some v->∀c,(Bj C.P o=false\/c=w)->(execOp a.eval o).run C.P c= .ok (.value v) c:=by
   intro v f c _;unfold execOp;rw[cn]at f;simp[n,k,Instr.extract,f]
  split at h
  .rename_i y j;rw[jN]at j;obtain⟨v,f,e⟩:=KO m i _ j;exact⟨v,.at y,d v f,e,h⟩
  .rename_i cs j;rw[jN]at j;obtain⟨v,f,e⟩:=KO m i _ j;exact⟨v,.agg cs,d v f,e,h⟩
  grind
 .exact lW l (λcs b=>bk) h
theorem M4{P:Program}{E:TypeId}{cs:dt}{n:Int}{Q:SV->Prop}:∀(f i:Nat),TV P E cs n Q f i->(i:Int)<=n->n<((i+f:Nat):Int)->
 Q (mk P E ((cs.drop (n.toNat*P.cellsOf E)).take (P.cellsOf E)))
 |0,i,_,c,d=>by omega
 |f+1,i,h,c,d=>by
  simp only[TV]at h;rcases tQ h with⟨e,b⟩|⟨e,b⟩
  .grind
  .have:n≠(i:Int):=bk
   exact M4 f (i+1) b aC aC
theorem VJ(m:aK B ι σ a w){T:Nat}{x i:Operand}(I:o.op= .index T x i)(h:TS C o T x i σ K):Ut C ι o σ K a w:=by
 have c:=m.ev i;unfold TS at h;split at h
 .rename_i t n len E u v;rw[u]at c;have c:a.eval i= .int t n:=c;split at h
  .rename_i cs y;split at h
   .rename_i g J j;have g:=ci g;obtain⟨z,O,h⟩:=h;have p:=B3 m.one (m.ev x) y
    have Q:∃k,a.eval x= .agg k:=by
     have f:=m.ev x;split at j
     .rename_i l A;rw[A]at f;obtain⟨k,e,_⟩:=f;grind
     .rename_i k A;rw[A]at f;exact⟨k,f⟩
     .cases j
    obtain⟨k,q⟩:=Q;rw[q]at p;have p:iM ι cs k.toList:=p;have D:cs.length=k.size:=by have:=p.length;omega
    obtain⟨V,d,F,R,L,M⟩:=fL J;have S:=M4 len 0 h aC aC;refine⟨_,_,λr _=>?_,IQ ((p.drop (n.toNat*C.P.cellsOf E)).take (C.P.cellsOf E)),S⟩
    have G:n.toNat*C.P.cellsOf E+C.P.cellsOf E<=k.size:=by
     rw[<-D,g, <-Nat.succ_mul];exact Nat.mul_le_mul_right _ aC
    have N:=U6 J G r;unfold execOp;rw[L]at N;simp only[I,Instr.index,c,asIntOf,Sem.run_bind,Sem.run_pure,run_underlying v,Result.andThen_ok,q,z,O,and_self,if_true,run_sizeOf F,N,L]
   grind
  grind
 .rename_i t n u v;rw[u]at c;have c:a.eval i= .int t n:=c;split at h
  .rename_i s U;have f:=m.ev x;rw[U]at f;have f:a.eval x= .string s:=f;obtain⟨z,b,W,h⟩:=h;refine⟨_,.at (.val _),λr _=>?_,rfl,h⟩
   have H:s[n.toNat]? =some b:=by
    have:s[n.toNat]? =s.data[n.toNat]? :=by
     simp only[getElem?_def];rfl
    grind
   unfold execOp;simp[I,Instr.index,c,asIntOf,run_underlying v,f,z,H]
  grind
 grind
end
end Go.Vc
namespace Go.Vc
open Go List
section
variable{B:rL}{C:Ctx}{ι:dj}{σ:St}{a:Act}{w:World}{o:Oper}{K:St->Prop}
theorem FH{P:Program}{k:World}{src d E E' sz:Nat}{x:Operand}{v:Value}{c:dp}(r:o.op= .convert src d x)(s:P.underlying src=some (.slice E))(n:P.underlying E=some (.int .u8))(t:P.underlying d=some .string)
 (l:a.eval x=v)(f:k.ownsRow 0 E' sz v (cC c).length (cC c).flatten):(execOp a.eval o).run P k= .ok (.value (.string ⟨c.toArray⟩)) k:=by
 have h:(cC c).length=c.length:=by simp[cC]
 rcases f.2 with⟨p,u⟩|⟨g,q,z,p,_⟩
 .rw[h]at u;have:c=[]:=eq_nil_of_length_eq_zero u;subst this;unfold execOp;simp only[r,l,p,Sem.run_bind,run_convert_bytes_nil k src E s n 0 0 d t,Result.andThen_ok,Sem.run_pure];rfl
 .have m:strOfNums (c.map λb=>(b.toNat:Int))=⟨c.toArray⟩:=by
   unfold strOfNums;congr 1;simp[Function.comp_def]
  have j:∀i,i<c.length->k.cell? ⟨g,0+i,none⟩=some (.int .u8 ((c.map λb=>(b.toNat:Int)).getD i 0)):=by
   intro i A
   have D:(cC c).flatten[i*1+0]? =some (.int .u8 (c[i].toNat:Int)):=
    oU (sz:=1) (e:=[.int .u8 (c[i].toNat:Int)]) (λe n=>by obtain⟨b,_,rfl⟩:=mem_map.1 n;rfl) (by simp[cC,A]) 0 _ rfl
   have:=f.cells (g:=g) (by rw[p];rfl) _ _ D;rw[Addr.add_none]at this
   grind
  have y:=run_convert_bytes_arg (P:=P) k src E s n g 0 c.length q (c.map λb=>(b.toNat:Int)) bf j d t;rw[m]at y;unfold execOp;simp only[r,l,p,h,Sem.run_bind,y,Result.andThen_ok,Sem.run_pure]
theorem QL(i:aK B ι σ a w){src e:Nat}{x:Operand}(m:o.op= .convert src e x)(h:Mp C o src e x σ K):Ut C ι o σ K a w:=by
 unfold Mp at h;split at h
 .rename_i k p;split at h
  .rename_i E' s t E f n q;split at h
   .rename_i r;obtain⟨u,rfl,h⟩:=h;have d:=i.ev x;rw[p]at d;have d:a.eval x=ι k:=d;obtain⟨j,g⟩:=sN i f;refine⟨_,.at (.val _),λl c=>?_,rfl,h⟩;have c:l=w:=c.resolve_left (by simp[Bj,m,n]);rw[c];exact FH m n r q d g
   grind
  grind
 .exact lW i (λcs b=>bk) h
structure IX(σ:St)(ι:dj)(o:Oper)(w w':World):Prop where
 cells:∀k p T cs b,nth σ.own k=some (some (.cellsP p T cs))->Ad σ o k=false->ι k= .pointer (some ⟨b,0,none⟩)->w'.heap[b]? =w.heap[b]?
 imm:∀b off v,σ.h b off=some v->w'.cell? ⟨b,off,none⟩=some v
 ext:AR o.op=true->∀b,b<w.heap.size->w'.heap[b]? =w.heap[b]?
 args:∀l b,rU o=some l->b<w.heap.size->σ.m b=none->(∀x∈l,∀k,(σ.ev x= .at (.lst k)\/∃off,σ.ev x= .at (.ptr k off))->blk (ι k)≠some b)->w'.heap[b]? =w.heap[b]?
def Uo(B:rL)(C:Ctx)(ι:dj)(o:Oper)(σ:St)(K:St->Prop)(a:Act)(w:World):Prop:=
 ∀(next:Act->World->Prop)(Q:Exit->Act->World->Prop),(∀e c d b,aK B e c d b->K c->IX σ ι o w b->next d b)->o.wp C.P a w next Q
theorem Dk(g:aK B ι σ a w){w':World}(j:Nat)(A:(∃p T cs,nth σ.own j=some (some (.cellsP p T cs)))->Ad σ o j=true)
 (r:∀b,b<w.heap.size->¬((∃h,nth σ.own j=some (some h))/\blk (ι j)=some b)->w'.heap[b]? =w.heap[b]?)(t:AR o.op=true->∀b,b<w.heap.size->w'.heap[b]? =w.heap[b]?)
 (u:∀l,rU o=some l->∀b,b<w.heap.size->w'.heap[b]? =w.heap[b]?):IX σ ι o w w':=by
 refine⟨?_,?_,t,λl b i m _ _=>u l i b m⟩
 .intro k p T cs b s D y;have n:=g.own k _ s;have f:blk (ι k)=some b:=by rw[y];rfl
  refine r b (qG n f) ?_;rintro⟨⟨h,d⟩,e⟩;have:=g.dist k j _ _ b s d f e
  grind
 .intro b c v z;have i:=g.wrel.hsat b c v z;have q:b<w.heap.size:=World.block_lt_of_cell? w ⟨b,c,none⟩ i
  have m:=r b q (by
   rintro⟨⟨h,d⟩,e⟩;have:=(g.fresh j h b d e).2.2 c
   grind)
  rw[<-i];exact World.cell?_of_block (w:=w) (w':=w') (a:=⟨b,c,none⟩) m
theorem AL{d:Nat}(b:o.dst=some d):Ad σ o d=true:=by
 unfold Ad;simp[b]
theorem kM(w:World)(ob:Obj):(w.alloc ob).heap[w.heap.size]? =some ob:=by
 show(w.heap.push ob)[w.heap.size]? =_;simp
theorem fH(w:World)(ob:Obj){b:Nat}(h:b<w.heap.size):(w.alloc ob).heap[b]? =w.heap[b]? :=by
 show(w.heap.push ob)[b]? =_
 grind
theorem XE(S:Nat->Prop)(w:World)(ob:Obj):D6 S w (w.alloc ob):=
 ⟨rfl,rfl,rfl,Nat.le_refl _,by show w.heap.size<=(w.heap.push ob).size;simp,λb c _=>fH w ob c⟩
theorem GO(h:aK B ι σ a w){d:Nat}(i:o.dst=some d){ob:Obj}{g:Own}{v:Value}{x:SV}(p:blk v=some w.heap.size)(f:v.oneCell'=true)
 (l:D9 (upd ι d v) (w.alloc ob) v g)(hx:Dnt (upd ι d v) x v)
 {next:Act->World->Prop}(c:∀m j k w',aK B m j k w'->K j->IX σ ι o w w'->next k w')
 (n:K (((σ.kill d).setOwn d (some g)).put (some d) x)):next (a.put o.dst v) (w.alloc ob):=by
 rw[i];refine c (upd ι d v) _ _ _ ?_ n ?_
 .refine aK.put ?_ (some d) hx;exact h.place d g v (XE _ w ob) l f (λb e=>bk)
 .exact Dk h d (λ_=>AL i) (λb e _=>fH w ob e) (λ_ b e=>fH w ob e) (λ_ _ b e=>fH w ob e)
theorem Xk(g:aK B ι σ a w){T:Nat}(i:o.op= .alloc T)(h:Ui C o T σ K):Uo B C ι o σ K a w:=by
 intro next Q b
 unfold Ui at h;split at h
 .rename_i d z j k;obtain⟨m,v,f,l,rfl⟩:=B5 k
  have c:(execOp a.eval o).run C.P w= .ok (.value (.pointer (some ⟨w.heap.size,0,none⟩))) (w.alloc (.cells v.cells T)):=by
   unfold execOp;simp[i,Instr.alloc,zeroValue,typeInfo,f,l,newVar,newRow]
  unfold Oper.wp;rw[c,Oper.upon_value];refine GO g j rfl rfl ?_ (x:=.at (.ptr d 0)) ⟨w.heap.size,bf,rfl⟩ b h;exact⟨w.heap.size,v.cells,rfl,kM _ _,iM.vals.2 rfl,λ_ e=>by cases e⟩
 grind
theorem SO(g:aK B ι σ a w){T:Nat}{x:Operand}(j:o.op= .box T x)(h:akJ o T x σ K):Uo B C ι o σ K a w:=by
 intro next Q b
 unfold akJ at h;split at h
 .rename_i d cs k i
  have c:(execOp a.eval o).run C.P w= .ok (.value (.pointer (some ⟨w.heap.size,0,none⟩))) (w.alloc (.cells (a.eval x).cells T)):=by
   unfold execOp;simp[j,Instr.box,newVar,newRow]
  unfold Oper.wp;rw[c,Oper.upon_value];refine GO g k rfl rfl ?_ (x:=.at (.ptr d 0)) ⟨w.heap.size,bf,rfl⟩ b h;exact⟨w.heap.size,_,rfl,kM _ _,iM.sub (f:=λ_=>.junk) (λ_ _ _ _=>trivial) (B3 g.one (g.ev x) i),λ_ e=>by cases e⟩
 grind
end
end Go.Vc
namespace Go.Vc
open Go List
section
variable{B:rL}{C:Ctx}{ι:dj}{σ:St}{a:Act}{w:World}{o:Oper}{K:St->Prop}
theorem bCZ(A:aK B ι σ a w){k E sz:Nat}{xs:List cv}(N:nth σ.own k=some (some (.lst E sz xs))):
 ∃(s:Sl)(l:PH),PH.le σ.h l/\bX l s sz xs/\ι k=s.val/\
  aK B ι {(σ.sub k (λ |.lst _=>.val s.val|_=>.junk)).setOwn k none with h:=l} a w/\
  Fz σ {(σ.sub k (λ |.lst _=>.val s.val|_=>.junk)).setOwn k none with h:=l}:=by
 obtain⟨r,n⟩:=sN A N;have G:∀p T cs,nth σ.own k≠some (some (.cellsP p T cs)):=λp T cs e=>bk
 have q:∀(s:Sl),ι k=s.val->aK B ι ((σ.sub k (λ |.lst _=>.val s.val|_=>.junk)).setOwn k none) a w:=by
  intro s M
  have:=A.drop k (ι k) (A.one k) (λ |.lst _=>.val s.val|_=>.junk) (by
   intro x v H O;cases x<;>simp only[At.key,ce,reduceCtorEq]at H
   case ptr=>trivial
   case el=>trivial
   case lst j=>
    subst H;have O:v=ι j:=O;show v=s.val;rw[O,M])
  rwa [I7]at this
 rcases n.2 with⟨t,V⟩|⟨g,u,W,t,_,hg,I,X,Y,P⟩
 .have H:xs=[]:=eq_nil_of_length_eq_zero V;refine⟨⟨none,0,0⟩,σ.h,⟨λ_ _ _ h=>h⟩,⟨by simp[H],.inl H,Nat.le_refl _⟩,t,q _ t,?_⟩;exact a3J (m:=σ.m) (h:=σ.h) rfl (λx j o=>bk) (λx j=>bk) G (λ_ _ _ h=>h)
 .have Q:=A.fresh k _ g N (by rw[t];rfl)
  let l:PH:=λb o=>if b=g then xs.flatten[o]? else σ.h b o
  have y:∀b o v,σ.h b o=some v->l b o=some v:=by
   grind
  have M:ι k=Sl.val ⟨some ⟨g,0,none⟩,xs.length,u⟩:=t;refine⟨⟨some ⟨g,0,none⟩,xs.length,u⟩,l,⟨y⟩,⟨rfl,.inr ⟨g,0,rfl,?_⟩,I⟩,M,?_,?_⟩
  .intro i e Z;constructor;intro j v D;show(if g=g then _ else _)=_;rw[if_pos rfl,Nat.zero_add];exact oU r.len Z j v D
  .have c:=q _ M
   have z:∀j J,nth ((σ.sub k (λ |.lst _=>.val (Sl.val ⟨some ⟨g,0,none⟩,xs.length,u⟩)|_=>.junk)).setOwn k none).own j=some (some J)->blk (ι j)≠some g:=by
    intro j J D L;obtain⟨R,o1,S,_⟩:=qL D;exact R (A.dist j k _ _ g S N L (by rw[t];rfl))
   refine⟨c.slots,c.defers,c.own,c.dist,?_,?_,c.one⟩
   .intro j J b D L;obtain⟨h1,h2,h3⟩:=c.fresh j J b D L;refine⟨h1,h2,λi=>?_⟩;show(if b=g then _ else _)=_;rw[if_neg (λe:b=g=>z j J D bk)];exact h3 i
   .have d:=A.wrel;refine⟨d.tape,d.os,d.output,d.drawn,d.size,d.frame,?_,d.msat,?_,λb o v h=>y b o v (d.hle b o v h),?_,d.mfr⟩
    .intro b f v F;have F:(if b=g then xs.flatten[f]? else σ.h b f)=some v:=F;by_cases e:b=g
     .subst e;rw[if_pos rfl]at F;have:=n.cells (g:=b) (by rw[t];rfl) f v F
      rwa [Addr.add_none,Nat.zero_add]at this
     .rw[if_neg e]at F;exact d.hsat b f v F
    .intro b ob U i;show(if b=g then _ else _)=_;rw[if_neg (λe=>by subst e;have:=Q.2.1;simp only[St.setOwn,St.sub]at U;grind)];exact d.disj b ob U i
    .intro b L hE;funext i;show(if b=g then _ else _)=_;rw[if_neg (λe=>bk)];exact congrFun (d.hold b L hE) i
  .exact a3J (m:=σ.m) (h:=l) rfl (λx j o=>bk) (λx j=>bk) G y
theorem oT:∀(ks:dq)(σ:St),aK B ι σ a w->vT σ K ks->∃b,aK B ι b a w/\K b/\Fz σ b
 |[],σ,e,h=>⟨σ,e,h,Fz.refl σ⟩
 |k::ks,σ,e,h=>by
  simp only[vT]at h;split at h
  .rename_i E p q l;obtain⟨s,m,f,c,_,g,i⟩:=bCZ e l;obtain⟨b,j,n,d⟩:=oT ks _ g (h s m f c);exact⟨b,j,n,i.trans d⟩
  grind
theorem Dr{P:Program}{T E:Nat}{z:cv}(h:elemOf P T=some (E,z)):
 ∃i v,P.underlying T=some (.slice E)/\P.info? E=some i/\i.zero=some v/\z=v.cells.toList/\v.cells.size=i.size/\P.cellsOf E=i.size/\0<i.size/\∀u∈z,u.oneCell'=true:=by
 unfold elemOf at h;split at h
 .rename_i E' e;split at h
  .rename_i f c;split at h
   .rename_i b g j;simp only[ce,Prod.mk.injEq]at h;obtain⟨rfl,rfl⟩:=h;obtain⟨i,v,d,k,rfl⟩:=B5 c;have l:P.cellsOf E'=i.size:=by simp[Program.cellsOf,d]
    have b:=ci b
    grind
   .cases h
  .cases h
 .cases h
theorem cM{sz:Nat}:∀{xs:List cv},(∀e∈xs,e.length=sz)->xs.flatten.length=xs.length*sz
 |[],_=>bf
 |x::xs,h=>by
  rw[flatten_cons,bz,cM (λe b=>h e (by simp[b])),h x bf,cq,Nat.succ_mul];omega
theorem FJ(q:aK B ι σ a w){sz:Nat}(s:0<sz):∀(parts:fa)(es:List cv)(out:List cv),dQ sz es->DY σ sz parts es=some out->
 dQ sz out/\out.length=es.length/\Instr.fill (λi=>some (i*sz,sz)) es.flatten.toArray (parts.map λp=>(p.1,a.eval p.2))=some out.flatten.toArray
 |[],es,out,j,h=>by simp[DY]at h;subst h;exact⟨j,rfl,rfl⟩
 |(i,x)::parts,es,out,j,h=>by
  simp only[DY]at h;split at h
  .rename_i cs t;split at h
   .rename_i l v;split at h
    .rename_i b f z;have b:=ci b;have f:=Nat.le_of_ble_eq_true f;have n:=B3 q.one (q.ev x) t;rw[DQ v,iM.vals]at n
     have D:∀u∈l,u.oneCell'=true:=by
      intro u J;have E:=DQ v;clear n v
      have:∀(cs:dt),tR cs=true->∀x∈cs,x.storable=true:=by
       intro cs
       induction cs with
       |nil=>grind
       |cons y r F=>
        intro G x L;simp only[tR]at G
        grind
      have d:=this cs z (.val u) bk;cases u<;>first|rfl|(simp[At.storable]at d)
     have A:dQ sz (es.set i l):=by
      constructor
      .intro e k;rcases mem_or_eq_of_mem_set k with d|d
       .exact j.len e d
       grind
      .intro e k;rcases mem_or_eq_of_mem_set k with d|d
       .exact j.one e d
       grind
     obtain⟨d,M,H⟩:=FJ q s parts (es.set i l) out A h;refine⟨d,bk,?_⟩;simp only[map_cons]
     have g:∀(es:List cv)(i:Nat),(∀e∈es,e.length=sz)->i<es.length->splice es.flatten (i*sz) l=(es.set i l).flatten:=by
      intro es
      induction es with
      |nil=>grind
      |cons e r F=>
       intro i c N;have k:e.length=sz:=c e bf;cases i with
       |zero=>
        simp only[splice,Nat.zero_mul,take_zero,nil_append,Nat.zero_add,flatten_cons,set_cons_zero,b]
        grind
       |succ i=>
        have:=F i (λe k=>c e (by simp[k])) bk;simp only[flatten_cons,set_cons_succ, <-this,splice];have I:(i+1)*sz=e.length+i*sz:=bk
        rw[I,take_length_add_append,show e.length+i*sz+l.length=e.length+(i*sz+l.length)by omega,drop_length_add_append];simp
     have m:=cM j.len;rw[Rr rfl bk (by rw[<-Array.length_toList,n];simp only[size_toArray,m,b];rw[<-Nat.succ_mul];exact Nat.mul_le_mul_right _ f),n];rw[g es i j.len aC];exact H
    .cases h
   .cases h
  .cases h
end
end Go.Vc
namespace Go.Vc
open Go List
section
variable{B:rL}{C:Ctx}{ι:dj}{σ:St}{a:Act}{w:World}{o:Oper}{K:St->Prop}
theorem Kw{z:Array Value}{sz:Nat}(b:z.size=sz)(f:0<sz)(n:Nat):(madeCells z (n*sz)).toList=(replicate n z.toList).flatten:=by
 apply ext_getElem?;intro j;by_cases g:j<n*sz
 .have h:j/sz<n:=Nat.div_lt_of_lt_mul bk;have c:j%sz<sz:=Nat.mod_lt _ f;have d:=oU (xs:=replicate n z.toList) (sz:=sz) (i:=j/sz) (e:=z.toList) (λe k=>bk) (by simp[h]) (j%sz) z[j%sz] (by simp[b,c]);rw[show j/sz*sz+j%sz=j by rw[Nat.mul_comm];exact Nat.div_add_mod j sz]at d;rw[d];simp[madeCells,g,b,c]
 .rw[getElem?_eq_none,getElem?_eq_none]
  .rw[cM (sz:=sz) (λe k=>bk)];simp;omega
  .simp[madeCells];omega
theorem pZ{z:cv}{sz:Nat}(c:z.length=sz)(d:∀u∈z,u.oneCell'=true)(n:Nat):dQ sz (replicate n z):=
 ⟨λe b=>bk,λe b=>bk⟩
theorem Ot{τ:St}(e:Fz σ τ){k:Nat}(h:Ad σ o k=false):Ad τ o k=false:=by
 have m:∀(l:dw)(j:Nat),j∈pJ τ l->j∈pJ σ l:=by
  intro l
  induction l with
  |nil=>intro j c;cases c
  |cons x r n=>
   intro j c
   have f:∀(υ:St)(j:Nat),j∈pJ υ (x::r)↔(∃b,υ.ev x= .at (.ptr j b))\/j∈pJ υ r:=by
    intro υ j;simp only[pJ]
    grind
   rw[f]at c⊢
   rcases c with⟨b,c⟩|c
   .exact .inl ⟨b,e.ptr _ _ _ c⟩
   grind
 unfold Ad at h⊢
 rw[Bool.or_eq_false_iff]at h⊢
 refine⟨h.1,?_⟩;have d:=h.2;split at d
 .rename_i t x v g;split
  .rename_i j b i;rw[e.ptr _ _ _ i]at d;exact d
  .rfl
 .grind
 .rfl
theorem IX.of_fz{τ:St}{w':World}(d:Fz σ τ)(h:IX τ ι o w w'):IX σ ι o w w':=
 ⟨λk p T cs b f g i=>let⟨cs',hk'⟩:=d.cells k p T cs f;h.cells k p T cs' b hk' (Ot d g) i,λb c v j=>h.imm b c v (d.imm b c v j),h.ext,λl b m n q r=>h.args l b m n (by rw[d.m_];exact q) (λx s k f=>r x s k (f.imp (d.lst x k) (λ⟨c,e⟩=>⟨c,d.ptr x k c e⟩)))⟩
theorem axJ(ps:Array (Nat×Operand))(a:Act):(ps.map fun(i,x)=>(i,a.eval x)).toList=ps.toList.map λp=>(p.1,a.eval p.2):=by simp
theorem Mt(F:aK B ι σ a w){T n:Nat}{ps:Array (Nat×Operand)}(G:o.op= .buildSlice T n ps)(h:FC C o T n ps.toList σ K):Uo B C ι o σ K a w:=by
 intro next Q f
 unfold FC at h;obtain⟨τ,k,h,s⟩:=oT _ _ F h;split at h
 .rename_i d E z H I;split at h
  .rename_i j l g;obtain⟨q,v,y,A,J,rfl,t,L,e,m⟩:=Dr I;rw[L]at l g h;have g:=Nat.le_of_ble_eq_true g;obtain⟨r,c,b⟩:=FJ k e ps.toList _ j (pZ aC m n) l;simp only[length_replicate]at c
   have p:(execOp a.eval o).run C.P w= .ok (.value (.slice (some ⟨w.heap.size,0,none⟩) n n)) (w.alloc (.cells j.flatten.toArray E)):=by
    have M:(Instr.buildSlice T n (ps.map fun(i,x)=>(i,a.eval x))).run C.P w= .ok (.slice (some ⟨w.heap.size,0,none⟩) n n) (w.alloc (.cells j.flatten.toArray E)):=by
     by_cases D:n*q.size=0
     .have N:n=0:=by rcases Nat.mul_eq_zero.1 D with h|h<;>omega
      subst N;have:j=[]:=eq_nil_of_length_eq_zero c;subst this;simp only[replicate_zero,flatten_nil]at b;have u:Array.map (λ_:Nat=>(default:Value)) (Array.range 0)= #[]:=bk
      simp[Instr.buildSlice,run_underlying y,run_sizeOf A,newRow];rw[u,b];simp
     .refine run_buildSlice w T E n _ j.flatten.toArray q v y A J aC D ?_
      have:((Array.range (n*q.size)).map (v.cells[· %v.cells.size]!))=(replicate n v.cells.toList).flatten.toArray:=by
       apply Array.toList_inj.1;have:=Kw t e n;unfold madeCells at this;rw[this]
      rw[this,axJ];exact b
    unfold execOp;simp only[G,Sem.run_bind,M,Result.andThen_ok,Sem.run_pure]
   unfold Oper.wp;rw[p,Oper.upon_value];refine GO k H rfl rfl ?_ (x:=.at (.lst d)) (by show _=_;simp) (λO R S U V W X=>f O R S U V W (X.of_fz s)) h;refine⟨r,cM r.len,.inr ⟨w.heap.size,n,j.flatten.toArray,by rw[c],Nat.zero_le _,kM _ _,aC,?_,?_,?_⟩⟩
   .have:n<=n*q.size:=Nat.le_mul_of_pos_right n e;unfold maxLen;omega
   .simp only[size_toArray,cM r.len,c]
   .rw[ca];rw[cM r.len];omega
  grind
 grind
theorem Ns(r:aK B ι σ a w){T:Nat}{l c:Operand}(I:o.op= .makeSlice T l c)(h:Gl C o T l c σ K):Uo B C ι o σ K a w:=by
 intro next Q f
 have k:=r.ev l;have p:=r.ev c;unfold Gl at h;split at h
 .rename_i d E z D n F m J L s t;rw[s]at k;rw[t]at p;have k:a.eval l= .int D n:=k;have p:a.eval c= .int F m:=p;obtain⟨q,v,M,G,N,rfl,u,y,i,b⟩:=Dr L;obtain⟨O,R,H,S,h⟩:=h;rw[y]at h;have A:C.P.bytesOf E=q.bytes:=by simp[Program.bytesOf,G]
  rw[A,Int.mul_comm]at H
  have j:(execOp a.eval o).run C.P w= .ok (.value (.slice (some ⟨w.heap.size,0,none⟩) n.toNat m.toNat)) (w.alloc (.cells (madeCells v.cells (m.toNat*q.size)) E)):=by
   unfold execOp;simp only[I,k,p,Sem.run_bind,run_make (P:=C.P) w T E q v M G N D F n m O R H aC,Result.andThen_ok,Sem.run_pure]
  unfold Oper.wp;rw[j,Oper.upon_value];refine GO r J rfl rfl ?_ (x:=.at (.lst d)) (by show _=_;simp) f h;have g:v.cells.toList.length=q.size:=by omega
  refine⟨pZ g b _,cM (pZ g b _).len,.inr ⟨w.heap.size,m.toNat,_,bk,Nat.zero_le _,kM _ _,?_,?_,size_madeCells _ _,?_⟩⟩
  .simp;omega
  .unfold maxLen;omega
  .rw[Kw u i]
   have e:replicate m.toNat v.cells.toList=replicate n.toNat v.cells.toList++replicate (m.toNat-n.toNat) v.cells.toList:=by
    rw[replicate_append_replicate];grind
   rw[e,flatten_append,take_left'];rw[cM (pZ g b _).len]
 grind
theorem xG{P:Program}(w:World)(t tx N e:TypeId)(i:TypeInfo)(z:Value)(O:P.underlying t=some (.slice e))(Q:P.info? e=some i)(Y:i.zero=some z)
 (T:z.cells.size=i.size)(v:Value)(n:Nat)(xs:cv)(p:w.ownsRow 0 e i.size v n xs)(x:Value)(m:Nat)(d:cv)(D:Src P i.size tx x m d w)
 (H:n+m<=maxLen)(q:(n+m)*i.bytes<=140737488355328):
 ∃I w',(Builtin.append_ #[t,tx] N #[v,x]).run P w= .ok I w'/\w'.ownsRow 0 e i.size I (n+m) (xs++d)/\D6 (λb=>v.ownBlock=some b) w w'/\
  (∀b,I.ownBlock=some b->w.heap.size<=b\/v.ownBlock=some b)/\I.oneCell'=true/\
  ((∃a k c k' c',v= .slice a k c/\I= .slice a k' c')\/∀k,k<w.heap.size->w'.heap[k]? =w.heap[k]?):=by
 have R:n+m<=9223372036854775807:=by simp only[maxLen]at H;omega
 have Z:=D.newsLen;have s:(xs++d).length=(n+m)*i.size:=by rw[bz,p.1,Z,Nat.add_mul]
 have grown:∀(h:Nat),h<n+m->∀(S:Nat->Prop),
  (w.drew.alloc (.cells ((xs++d).toArray++Builtin.zeroCells z.cells (grownCap w (n+m) h e-(n+m))) e)).ownsRow 0 e i.size
   (.slice (some ⟨w.heap.size,0,none⟩) (n+m) (grownCap w (n+m) h e)) (n+m) (xs++d)/\
  D6 S w (w.drew.alloc (.cells ((xs++d).toArray++Builtin.zeroCells z.cells (grownCap w (n+m) h e-(n+m))) e)):=by
  intro h ho S;have U:=grownCap_ge w (n+m) h e;have E:grownCap w (n+m) h e<=maxLen:=grownCap_le_maxLen w (n+m) h e H;refine⟨⟨s,.inr ⟨w.heap.size,_,_,rfl,Nat.zero_le _,heap_alloc_new w.drew _,U,E,?_,?_⟩⟩,⟨rfl,rfl,rfl,Nat.le_succ _,bf,λk r _=>heap_alloc_old w.drew _ k r⟩⟩
  .simp only[Array.size_append,size_toArray,size_zeroCells,T,s, <-Nat.add_mul]
   grind
  grind
 rcases p.2 with⟨rfl,rfl⟩|⟨g,f,y,rfl,V,hg,a0,E,W,X⟩
 .have hx:xs=[]:=eq_nil_of_length_eq_zero bk;subst hx;by_cases hm:m=0
  .subst hm;have hn:d=[]:=eq_nil_of_length_eq_zero aC;subst hn;refine⟨.slice none 0 0,w,?_,World.ownsRow_nil w 0 e i.size,D6.refl _ _,λb G=>bk,rfl,.inr λ_ _=>rfl⟩;rcases D.kind with⟨e',r⟩|r<;>simp[Builtin.append_,run_underlying O,run_underlying r,sizeOf,typeInfo,Q,D.len,D.cells]
  .have J:=run_append_grow_src (P:=P) w t tx N e i z O Q Y none 0 0 [] (by simp[Builtin.firstCells]) x m d D aC aC (growslice_fits aC q);have A:=grown 0 aC (λb=>Value.ownBlock (.slice none 0 0)=some b);exact⟨_,_,J,A.1,A.2,λb G=>by simp[Value.ownBlock]at G;left;omega,rfl,.inr λk r=>heap_alloc_old w.drew _ k r⟩
 .by_cases l:n+m<=f
  .have a':n*i.size+d.length<=y.size:=by rw[Z,W, <-Nat.add_mul];exact Nat.mul_le_mul_right _ l
   have L:=run_storeCells_at P g (n*i.size) e d 0 y w hg aC D.one;simp only[Nat.add_zero]at L
   have J:(Builtin.append_ #[t,tx] N #[.slice (some ⟨g,0,none⟩) n f,x]).run P w= .ok (.slice (some ⟨g,0,none⟩) (n+m) f) (w.setRow g (y.toList.take (n*i.size)++d++y.toList.drop (n*i.size+d.length)).toArray):=by
    rcases D.kind with⟨e',r⟩|r<;>simp[Builtin.append_,run_underlying O,run_underlying r,sizeOf,typeInfo,Q,D.len,l,D.cells,Addr.add_lit,L]
   refine⟨_,_,J,⟨s,.inr ⟨g,f,_,rfl,V,setRow_heap w g y _ e _ hg,l,E,?_,?_⟩⟩,⟨rfl,rfl,rfl,Nat.le_refl _,bf,λk _ r=>setRow_other w g k _ (λe=>r (by simp[Value.ownBlock,e]))⟩,λb G=>.inr G,rfl,.inl ⟨_,_,_,_,_,rfl,rfl⟩⟩
   .grind
   grind
  .have F:∀j u,xs[j]? =some u->w.cell? ((⟨g,0,none⟩:Addr).add j)=some u:=p.cells (g:=g) rfl
   have M:(Builtin.firstCells i.size n (.slice (some ⟨g,0,none⟩) n f)).run P w.drew= .ok xs.toArray w.drew:=
    run_firstCells_some w.drew i.size n ⟨g,0,none⟩ n f xs p.1 (br F)
   have J:=run_append_grow_src (P:=P) w t tx N e i z O Q Y (some ⟨g,0,none⟩) n f xs M x m d D aC aC (growslice_fits aC q);have A:=grown f aC (λb=>Value.ownBlock (.slice (some ⟨g,0,none⟩) n f)=some b);exact⟨_,_,J,A.1,A.2,λb G=>by simp[Value.ownBlock]at G;left;omega,rfl,.inr λk r=>heap_alloc_old w.drew _ k r⟩
end
end Go.Vc
namespace Go.Vc
open Go Go.Lib List
theorem Tc{z:Array Value}{sz:Nat}(b:z.size=sz)(f:0<sz)(n:Nat):(Builtin.zeroCells z n).toList=(replicate n z.toList).flatten:=by
 apply ext_getElem?;intro j;by_cases g:j<n*sz
 .have h:j/sz<n:=Nat.div_lt_of_lt_mul bk;have c:j%sz<sz:=Nat.mod_lt _ f;have d:=oU (xs:=replicate n z.toList) (sz:=sz) (i:=j/sz) (e:=z.toList) (λe k=>bk) (by simp[h]) (j%sz) z[j%sz] (by simp[b,c]);rw[show j/sz*sz+j%sz=j by rw[Nat.mul_comm];exact Nat.div_add_mod j sz]at d;rw[d];simp[Builtin.zeroCells,g,b,c]
 .rw[getElem?_eq_none,getElem?_eq_none]
  .rw[cM (sz:=sz) (λe k=>bk)];simp;omega
  .simp[Builtin.zeroCells,b];omega
theorem Ls{P:Program}(w:World)(t g l e:TypeId)(i:TypeInfo)(z:Value)(m n:IntKind)(u:P.underlying t=some (.slice e))(h:P.underlying g=some (.int n))(v:P.info? e=some i)(y:i.zero=some z)
 (c:z.cells.size=i.size)(p:0<i.size)(k:Nat)(q:0<k)(d:k*i.bytes<=140737488355328)(A:k<=140737488355328):
 ∃f w',(Builtin.append_ #[t,g] l #[.slice none 0 0,.int m k]).run P w= .ok f w'/\w'.ownsRow 0 e i.size f k (replicate k z.cells.toList).flatten/\D6 (λ_=>False) w w'/\
  (∀b,f.ownBlock=some b->w.heap.size<=b)/\f.oneCell'=true:=by
 have r:=run_append_grow_zeros w t g l e i z m n u h v y none 0 0 [] (run_firstCells_none w.drew i.size 0 0 0) k q p aC aC aC (by rw[Nat.zero_add,nextslicecap_zero q];omega);rw[Nat.zero_add]at r;have D:=grownCap_ge w k 0 e;have j:=grownCap_le_maxLen w k 0 e (by unfold maxLen;omega);refine⟨_,_,r,?_,?_,?_,rfl⟩
 .refine⟨cM (sz:=i.size) (λx s=>bk) |>.trans bf,.inr ⟨w.heap.size,_,_,rfl,Nat.zero_le _,kM _ _,aC,j,?_,?_⟩⟩
  .simp[Builtin.zeroCells,c];rw[<-Nat.add_mul]
   grind
  .simp only[Array.toList_append,Tc c p];rw[take_append_of_le_length]
   .simp only[nil_append];rw[ca];rw[cM (sz:=i.size) (λx s=>bk)];simp
   .simp only[nil_append];rw[cM (sz:=i.size) (λx s=>bk)];simp
 .exact⟨rfl,rfl,rfl,Nat.le_succ _,by show w.heap.size<=(w.heap.push _).size;simp,λb d _=>fH w.drew _ d⟩
 .intro b d;simp[Value.ownBlock]at d;omega
end Go.Vc
namespace Go.Vc
open Go List
section
variable{B:rL}{C:Ctx}{ι:dj}{σ:St}{a:Act}{w:World}{o:Oper}{K:St->Prop}
theorem Gx{sz:Nat}:∀{xs:List cv}(_:∀e∈xs,e.length=sz) {j:Nat} {v:Value},xs.flatten[j]? =some v->∃(i:Nat)(e:cv)(q:Nat),xs[i]? =some e/\e[q]? =some v/\j=i*sz+q
 |[],_,j,v,h=>by simp at h
 |x::xs,b,j,v,h=>by
  have g:=b x bf;rw[flatten_cons]at h;by_cases c:j<x.length
  .rw[getElem?_append_left c]at h;exact⟨0,x,j,rfl,h,bf⟩
  .rw[getElem?_append_right aC]at h;obtain⟨i,e,q,k,d,l⟩:=Gx (λe f=>b e (by simp[f])) h;exact⟨i+1,e,q,bk,d,bk⟩
theorem byQ{P:Program}{tx j E sz:Nat}{v:Value}{b:List cv}(f:P.underlying tx=some (.slice j))(h:dQ sz b)(i:w.ownsRow 0 E sz v b.length b.flatten):
 Src P sz tx v b.length b.flatten w:=by
 have k:∀u∈b.flatten,u.oneCell'=true:=λu l=>by
  obtain⟨e,m,c⟩:=mem_flatten.1 l;exact h.one e m u c
 rcases i.2 with⟨rfl,n⟩|⟨g,d,p,rfl,_⟩
 .have:b=[]:=eq_nil_of_length_eq_zero n;subst this;exact Src.ofNil w f 0
 .exact Src.ofSlice w f ⟨g,0,none⟩ _ d _ (cM h.len) (i.cells (g:=g) rfl) k
theorem Tq{P:Program}{tx z sz:Nat}{h:PH}(A:P.underlying tx=some (.slice z)){l:Option Addr}{n c:Nat}{k:List cv}(s:dQ sz k)(d:bX h ⟨l,n,c⟩ sz k)
 (m:∀b o v,h b o=some v->w.cell? ⟨b,o,none⟩=some v):Src P sz tx (.slice l n c) k.length k.flatten w:=by
 have D:∀u∈k.flatten,u.oneCell'=true:=λu t=>by
  obtain⟨e,E,y⟩:=mem_flatten.1 t;exact s.one e E u y
 have p:n=k.length:=d.len;subst p;rcases d.row with rfl|⟨b,r,f,g⟩
 .refine⟨.inl ⟨z,A⟩,λ_=>rfl,?_,?_,bf,λu t=>by simp at t⟩
  .cases l<;>simp[Builtin.firstCells,loadCells,loadCellsFrom]
  .cases l<;>simp[Builtin.firstCells,loadCells,loadCellsFrom]
 .have f:l=some ⟨b,r,none⟩:=f;subst f;refine Src.ofSlice w A ⟨b,r,none⟩ _ c _ (cM s.len) ?_ D;intro j u F;obtain⟨i,e,q,G,H,rfl⟩:=Gx s.len F;rw[Addr.add_none];have:=m _ _ _ ((g i e G).rd q u H)
  grind
theorem IS(s:ByteArray):(jW s).flatten=byteCells s:=by
 unfold jW byteCells
 induction s.data.toList with
 |nil=>rfl
 |cons b r c=>simp[c]
theorem Ox(p:aK B ι σ a w){sz tx:Nat}{y:Operand}{R:List cv->Prop}{lent:Bool}(h:Jg C.P lent σ sz tx (σ.ev y) R):
 ∃i,dQ sz i/\Src C.P sz tx (a.eval y) i.length i.flatten w/\R i:=by
 have d:=p.ev y;unfold Jg at h;split at h
 .rename_i k G q l;rw[q]at d;have d:a.eval y=ι k:=d;split at h
  .rename_i E s i r;split at h
   .rename_i g;have g:=ci g;subst g;obtain⟨m,H⟩:=sN p r;exact⟨i,m,by rw[d];exact byQ l m H,h⟩
   grind
  grind
 .rename_i D n c G q l;rw[q]at d;have d:a.eval y= .slice D n c:=d;obtain⟨i,m,f,h⟩:=h;refine⟨i,m,?_,h⟩;rw[d];cases lent with
  |false=>exact Tq l m f p.wrel.hsat
  |true=>
   cases f with
   |imm f=>exact Tq l m f p.wrel.hsat
   |lent b o cs E L g z I F=>
    have g:D=some ⟨b,o,none⟩:=g;have z:n=i.length:=z;subst g z
    have J:∀u∈i.flatten,u.oneCell'=true:=λu l=>by
     obtain⟨e,t,A⟩:=mem_flatten.1 l;exact m.one e t u A
    refine Src.ofSlice w l ⟨b,o,none⟩ _ c _ (cM m.len) ?_ J;intro j u M;rw[Addr.add_none,cell_of_heap (p.wrel.msat b _ I)]
    grind
 .rename_i s q l;rw[q]at d;have d:a.eval y= .string s:=d;split at h
  .rename_i g;have g:=ci g;subst g;refine⟨jW s,⟨λe t=>by obtain⟨b,_,rfl⟩:=mem_map.1 t;rfl,λe t u v=>by obtain⟨b,_,rfl⟩:=mem_map.1 t;simp at v;subst v;rfl⟩,?_,h⟩;rw[d,IS];have F:(jW s).length=s.size:=by simp[jW]
   rw[F];exact Src.ofString w l s
  grind
 grind
theorem D6.mono{S S':Nat->Prop}{w w':World}(h:D6 S w w')(d:∀b,S b->S' b):D6 S' w w':=⟨h.tape,h.os,h.output,h.drawn,h.size,λb e f=>h.block b e (λc=>f (d b c))⟩
theorem Em{v:Value}{b:Nat}(h:v.ownBlock=some b):blk v=some b:=by
 cases v<;>simp[Value.ownBlock]at h
 case slice ad n c=>cases ad<;>simp at h;simpa[blk]using h
theorem Dy{sz:Nat}{xs c:List cv}(hx:dQ sz xs)(d:dQ sz c):dQ sz (xs++c):=
 ⟨λe b=>(mem_append.1 b).elim (hx.len e) (d.len e),λe b=>(mem_append.1 b).elim (hx.one e) (d.one e)⟩
theorem Ae{E sz n:Nat}{v:Value}{l:cv}(h:w.ownsRow 0 E sz v n l){b:Nat}(c:blk v=some b):v.ownBlock=some b:=by
 rcases h.2 with⟨rfl,_⟩|⟨g,d,e,rfl,_⟩
 .simp[blk]at c
 .simpa[blk,Value.ownBlock]using c
theorem VA(f:aK B ι σ a w){w':World}{m':MH}{S:Nat->Prop}(n:D6 S w w')(D:∀b,S b->σ.m b≠none)(s:∀b o,m' b=some o->w'.heap[b]? =some o/\(σ.m b≠none\/w.heap.size<=b)):
 aK B ι {σ with m:=m'} a w'/\∀o,AR o.op=false->IX σ ι o w w':=by
 have c:=f.wrel
 have z:∀b,w.heap.size<=b->∀i,σ.h b i=none:=by
  intro b d i;cases e:σ.h b i with
  |none=>rfl
  |some v=>have:=World.block_lt_of_cell? w ⟨b,i,none⟩ (c.hsat _ _ _ e);grind
 have E:∀b,S b->∀i,σ.h b i=none:=by
  intro b d i;cases e:σ.m b with
  |none=>grind
  |some x=>exact c.disj b x e i
 have t:∀k q b,nth σ.own k=some (some q)->blk (ι k)=some b->¬S b:=by
  intro k q b g d u;exact D b u (f.fresh k q b g d).2.1
 have j:∀b i v,σ.h b i=some v->w'.cell? ⟨b,i,none⟩=some v:=by
  intro b i v F;have y:=c.hsat b i v F;rw[<-y];exact World.cell?_of_block (w:=w) (w':=w') (a:=⟨b,i,none⟩) (n.block b (World.block_lt_of_cell? w ⟨b,i,none⟩ y) (λu=>bk))
 refine⟨⟨f.slots,f.defers,λk q g=>(f.own k q g).world (λb d=>n.block b (qG (f.own k q g) d) (t k q b g d)),f.dist,?_,?_,f.one⟩,λo L=>⟨?_,j,λh=>bk,λl b _ r y _=>n.block b r (λu=>D b u y)⟩⟩
 .intro k q b g d;obtain⟨G,M,H⟩:=f.fresh k q b g d;refine⟨G,?_,H⟩;show m' b=none;cases e:m' b with
  |none=>rfl
  |some x=>
   rcases(s b x e).2 with r|r
   .grind
   .have:=qG (f.own k q g) d;omega
 .refine⟨n.tape.trans c.tape,n.os.trans c.os,n.output.trans c.output,cr c.drawn n.drawn,cr c.size n.size,?_,j,λb o e=>(s b o e).1,?_,c.hle,c.hold,?_⟩
  .intro b d I;rw[n.block b (ct d c.size) (λu=>?_)]
   .exact c.frame b d I
   .cases e:σ.m b with
    |none=>grind
    |some x=>
     rcases c.mfr b x e with r|r
     .omega
     grind
  .intro b o e i;rcases(s b o e).2 with r|r
   .cases A:σ.m b with
    |none=>grind
    |some x=>exact c.disj b x A i
   grind
  .intro b o e;rcases(s b o e).2 with r|r
   .cases A:σ.m b with
    |none=>grind
    |some x=>exact c.mfr b x A
   .exact .inl (cr c.size r)
 .intro k p T cs b g _ J;have d:blk (ι k)=some b:=by rw[J];rfl
  exact n.block b (qG (f.own k _ g) d) (t k _ b g d)
theorem Lt{P:Program}{w:World}(t tx j e:TypeId)(i:TypeInfo)(k:P.underlying t=some (.slice e))(l:P.info? e=some i)(g:Addr)(b c:Nat)(x:Value)(f:Src P i.size tx x 0 [] w)(d:b<=c):
 (Builtin.append_ #[t,tx] j #[.slice (some g) b c,x]).run P w= .ok (.slice (some g) b c) w:=by
 rcases f.kind with⟨m,h⟩|h<;>simp[Builtin.append_,run_underlying k,run_underlying h,sizeOf,typeInfo,l,f.len,d,f.cells,storeCells]
theorem Ug(N:aK B ι σ a w){T tx:Nat}{x y:Operand}{c:Call}(ho:o.op= .call c)(hc:c.callee= .builtin .append)(hx:c.args.toList=[x,y])(ht:c.argTypes.toList=[T,tx])
 (h:Qd C o T tx x y σ K):Uo B C ι o σ K a w:=by
 intro next Q R
 have b2:c.args= #[x,y]:=bk
 have b8:c.argTypes= #[T,tx]:=bk
 unfold Qd at h;split at h
 .rename_i d E z hd hE;obtain⟨it,zv,hu,hi,hv,rfl,a3,a',d3,b9⟩:=Dr hE;have a4:C.P.bytesOf E=it.bytes:=by simp[Program.bytesOf,hi]
  have V:∀O U,(Builtin.append_ #[T,tx] o.type #[a.eval x,a.eval y]).run C.P w= .ok O U->(execOp a.eval o).run C.P w= .ok (.value O) U:=by
   intro O U hr;unfold execOp;simp only[ho,resolve,hc,b2,b8,invoke,builtin,Sem.run_bind,Sem.run_pure,Result.andThen_ok,map_toArray,map_cons,map_nil];rw[hr];rfl
  have c3:∀(X:Option Addr)(n cp:Nat),σ.ev x= .at (.val (.slice X n cp))->(∃t:List cv,cT σ.m ⟨X,n,cp⟩ E (C.P.cellsOf E) t/\
   Jg C.P (Pd C) σ (C.P.cellsOf E) tx (σ.ev y) λL=>
    (t.length+L.length)*C.P.bytesOf E<=140737488355328/\t.length+L.length<=140737488355328/\
    ∀(s':Sl)(m':MH),dV σ.m m' ⟨X,n,cp⟩ s' E (C.P.cellsOf E) (t++L)->K ({σ with m:=m'}.put (some d) (.at (.val s'.val))))->o.wp C.P a w next Q:=by
   intro X n cp a0 h;have A:=N.ev x;rw[a0]at A;have A:a.eval x= .slice X n cp:=A;obtain⟨t,D,h⟩:=h;obtain⟨L,hr,s,S,a9,h⟩:=Ox N h;rw[a']at hr s h;rw[a4]at S;have a1:=D.rows;rw[a']at a1
   have b3:w.ownsRow 0 E it.size (.slice X n cp) t.length t.flatten:=by
    refine⟨cM a1.len,?_⟩;rcases D.ex with⟨H,e2⟩|⟨b,a5,a2,H,hm,v,h2,h3,h4⟩
    .grind
    .simp only[Sl.mk.injEq]at H;obtain⟨rfl,rfl,rfl⟩:=H;exact .inr ⟨b,_,a2,rfl,Nat.zero_le _,N.wrel.msat b _ hm,v,h2,bk,bk⟩
   have b4:∀b,Value.ownBlock (.slice X n cp)=some b->σ.m b≠none:=by
    intro b f;rcases D.ex with⟨H,e2⟩|⟨b',a5,a2,H,hm,_⟩
    .simp only[Sl.mk.injEq]at H;obtain⟨rfl,rfl,rfl⟩:=H;simp[Value.ownBlock]at f
    .simp only[Sl.mk.injEq]at H;obtain⟨rfl,rfl,rfl⟩:=H;simp[Value.ownBlock]at f
     grind
   obtain⟨O,U,a6,J,p,I,F,G⟩:=xG (P:=C.P) w T tx o.type E it zv hu hi hv a3 (.slice X n cp) t.length t.flatten b3 (a.eval y) L.length L.flatten s (by unfold maxLen;omega) S;rw[<-flatten_append, <-bz]at J
   obtain⟨M,n',W,rfl⟩:∃M n' W,O= .slice M n' W:=by
    rcases J.2 with⟨e,_⟩|⟨g,a5,a2,e,_⟩
    .grind
    grind
   let m':MH:=λb=>if Value.ownBlock (.slice M n' W)=some b then U.heap[b]? else σ.m b
   have b1:∀b,Value.ownBlock (.slice M n' W)=some b->m' b=U.heap[b]? :=λb f=>bk
   obtain⟨c4,hk⟩:=VA (m':=m') N p b4 (by
    intro b ob f;by_cases H:Value.ownBlock (.slice M n' W)=some b
    .grind
    .simp only[m',if_neg H]at f;refine⟨?_,.inl (by rw[f];simp)⟩;have v:=N.wrel.msat b ob f;rcases G with⟨_,_,_,_,_,a7,a8⟩|G
     .simp only[Value.slice.injEq]at a7 a8;obtain⟨rfl,rfl,rfl⟩:=a7;obtain⟨rfl,rfl,rfl⟩:=a8;rw[p.block b (Array.getElem?_eq_some_iff.1 v).1 λe=>H (by cases M<;>exact e)];exact v
     .rw[G b (Array.getElem?_eq_some_iff.1 v).1];exact v)
   unfold Oper.wp;rw[V _ U (by rw[A];exact a6),Oper.upon_value,hd];refine R ι _ _ _ (c4.put (some d) (x:=.at (.val (.slice M n' W))) rfl) (h ⟨M,n',W⟩ m' ⟨⟨?_,?_⟩,?_,?_,?_⟩) (hk o (by rw[ho];rfl))
   .exact Dy a1 hr
   .rcases J.2 with⟨H,e2⟩|⟨b,a5,a2,H,_,hh,v,h2,h3,h4⟩
    .grind
    .simp only[Value.slice.injEq]at H;obtain⟨rfl,rfl,rfl⟩:=H;exact .inr ⟨b,_,a2,rfl,by rw[b1 b rfl];exact hh,v,h2,h3,h4⟩
   .intro b ob f Y
    have e2:Value.ownBlock (.slice X n cp)≠some b:=by
     intro e;rcases D.ex with⟨H,_⟩|⟨b',a5,a2,H,hm,_⟩
     .simp only[Sl.mk.injEq]at H;obtain⟨rfl,rfl,rfl⟩:=H;simp[Value.ownBlock]at e
     .simp only[Sl.mk.injEq]at H;obtain⟨rfl,rfl,rfl⟩:=H;simp[Value.ownBlock]at e
      grind
    have H:Value.ownBlock (.slice M n' W)≠some b:=by
     intro e;rcases I b e with v|v
     .have:=(Array.getElem?_eq_some_iff.1 (N.wrel.msat b ob f)).1;omega
     grind
    simp only[m',if_neg H];exact f
   .intro b i e;have e:M=some ⟨b,i,none⟩:=e;rcases I b (by rw[e];rfl)with v|v
    .left;cases e2:σ.m b with
     |none=>rfl
     |some x=>have:=(Array.getElem?_eq_some_iff.1 (N.wrel.msat b x e2)).1;omega
    .right;rcases D.ex with⟨H,_⟩|⟨b',a5,a2,H,hm,_⟩
     .simp only[Sl.mk.injEq]at H;obtain⟨rfl,rfl,rfl⟩:=H;simp[Value.ownBlock]at v
     .simp only[Sl.mk.injEq]at H;obtain⟨rfl,rfl,rfl⟩:=H;simp[Value.ownBlock]at v
      grind
   .rcases G with⟨_,_,_,_,_,a7,a8⟩|G
    .simp only[Value.slice.injEq]at a7 a8;exact .inl (by rw[a8.1,a7.1])
    .refine .inr λb ob f=>?_;have v:=N.wrel.msat b ob f;by_cases H:Value.ownBlock (.slice M n' W)=some b
     .rw[b1 b H,G b (Array.getElem?_eq_some_iff.1 v).1];exact v
     .simp only[m',if_neg H];exact f
  split at h
  .rename_i X n cp d4 d5 a0;have A:=N.ev x;rw[a0]at A;have A:a.eval x= .slice X n cp:=A;obtain⟨rfl,t,Z,D,h⟩:=h;obtain⟨L,hr,s,hf⟩:=Ox N h;clear h;by_cases Y:¬(X=none\/0<L.length)
   .rw[not_or]at Y;have hy:L=[]:=eq_nil_of_length_eq_zero aC;unfold a4Q at hf;split at hf
    .obtain⟨M,rfl⟩:=Option.ne_none_iff_exists'.1 Y.1;subst hy;have h:=hf.1 Y.1 rfl;unfold Oper.wp;rw[a']at s;rw[V _ w (by rw[A];exact Lt T tx o.type E it hu hi M _ _ _ s (Nat.le_refl _)),Oper.upon_value,hd];exact R ι _ _ _ (N.put (some d) (x:=.at (.val (.slice (some M) cp cp))) rfl) h (Dk N d (λ_=>AL hd) (λb f _=>rfl) (λ_ _ _=>rfl) (λl e=>by simp_all [rU]))
    .exact(not_or.2 Y hf.1).elim
   have Y:=Classical.not_not.1 Y
   have h:=(show(t.length+L.length)*C.P.bytesOf E<=140737488355328/\t.length+L.length<=140737488355328/\
    K (((σ.kill d).setOwn d (some (.lst E (C.P.cellsOf E) (t++L)))).put (some d) (.at (.lst d)))by
    unfold a4Q at hf;split at hf
    .exact hf.2 Y
    .exact hf.2)
   clear hf;obtain⟨S,a9,h⟩:=h;rw[a']at hr s h Z D;rw[a4]at S;have hn:cp=t.length:=D.len;subst hn
   have fin:∃O U,(Builtin.append_ #[T,tx] o.type #[.slice X t.length t.length,a.eval y]).run C.P w= .ok O U/\U.ownsRow 0 E it.size O (t.length+L.length) (t++L).flatten/\D6 (λ_=>False) w U/\
    (∀b,O.ownBlock=some b->w.heap.size<=b)/\O.oneCell'=true:=by
    cases X with
    |none=>
     have c5:t=[]:=by
      rcases D.row with e|⟨b,b5,e,_⟩
      .exact e
      .cases e
     subst c5;obtain⟨O,U,v,h2,h3,h4,h5,_⟩:=xG (P:=C.P) w T tx o.type E it zv hu hi hv a3 (.slice none 0 0) 0 [] (World.ownsRow_nil w 0 E it.size) (a.eval y) L.length L.flatten s (by unfold maxLen;omega) aC;refine⟨O,U,v,bk,h3.mono (λb f=>by simp[Value.ownBlock]at f),λb f=>?_,h5⟩;rcases h4 b f with e|e
     .exact e
     .simp[Value.ownBlock]at e
    |some X=>
     have hy:0<L.length:=by
      grind
     have d6:=Tq (P:=C.P) (w:=w) (tx:=T) hu Z D N.wrel.hsat;have c6:t.length+L.length<=maxLen:=by unfold maxLen;omega
     have c':(t.flatten++L.flatten).length=(t.length+L.length)*it.size:=by rw[bz,cM Z.len,cM hr.len,Nat.add_mul]
     have c7:=grownCap_ge w (t.length+L.length) t.length E;have c8:grownCap w (t.length+L.length) t.length E<=maxLen:=grownCap_le_maxLen w _ _ E c6
     have c0:(Builtin.firstCells it.size t.length (.slice (some X) t.length t.length)).run C.P w.drew= .ok t.flatten.toArray w.drew:=by
      rcases D.row with rfl|⟨b,b5,e,hc⟩
      .simp[Builtin.firstCells,loadCells,loadCellsFrom]
      .have e:some X=some ⟨b,b5,none⟩:=e;cases e;refine run_firstCells_some w.drew it.size t.length ⟨b,b5,none⟩ t.length t.length t.flatten (cM Z.len) λj u hj=>?_;obtain⟨i,e,q,v,h2,rfl⟩:=Gx Z.len hj;rw[Addr.add_none];have:=N.wrel.hsat _ _ _ ((hc i e v).rd q u h2);rw[<-Nat.add_assoc];exact this
     have c9:=run_append_grow_src (P:=C.P) w T tx o.type E it zv hu hi hv (some X) t.length t.length t.flatten c0 (a.eval y) L.length L.flatten s aC aC (growslice_fits aC S);refine⟨_,_,c9,⟨?_,.inr ⟨w.heap.size,_,_,rfl,Nat.zero_le _,heap_alloc_new w.drew _,c7,c8,?_,?_⟩⟩,⟨rfl,rfl,rfl,Nat.le_succ _,bf,λk hk _=>heap_alloc_old w.drew _ k hk⟩,λb f=>by simp[Value.ownBlock]at f;omega,rfl⟩
     .grind
     .simp only[Array.size_append,size_toArray,size_zeroCells,a3,c', <-Nat.add_mul]
      grind
     grind
   obtain⟨O,U,a6,r,p,I,F⟩:=fin;rw[<-bz]at r;unfold Oper.wp;rw[V O U bk,Oper.upon_value,hd];refine R (upd ι d O) _ _ _ ?_ h ?_
   .refine aK.put ?_ (some d) (by show _=_;simp);exact N.place d _ O (p.mono (λb f=>f.elim)) ⟨Dy Z hr,r⟩ F (λb f=>.inl (I b (Ae r f)))
   .exact Dk N d (λ_=>AL hd) (λb f _=>p.block b f (λv=>v.elim)) (λhg=>by rw[ho]at hg;simp[AR]at hg) (λl e=>by simp_all [rU])
  .grind
  rename_i b6 c1;clear c1 b6;split at h
  .rename_i a0;have A:=N.ev x;rw[a0]at A;have A:a.eval x= .slice none 0 0:=A;split at h
   .rename_i n d'
    obtain⟨kn,kq,d0,d1⟩:∃kn kq,C.P.underlying tx=some (.int kn)/\σ.ev y= .at (.val (.int kq n)):=by
     unfold Z8 at d'
     grind
    have hy:=N.ev y;rw[d1]at hy;have hy:a.eval y= .int kq n:=hy;obtain⟨h0,S,a9,h⟩:=h;rw[a']at h;rw[a4]at S;obtain⟨k,rfl⟩:∃k:Nat,n=k:=⟨n.toNat,aC⟩
    have c2:k*it.bytes<=140737488355328:=by omega
    obtain⟨O,U,a6,r,p,I,F⟩:=Ls (P:=C.P) w T tx o.type E it zv kq kn hu d0 hi hv a3 aC k aC c2 aC;unfold Oper.wp;rw[V O U bk,Oper.upon_value,hd];refine R (upd ι d O) _ _ _ ?_ h ?_
    .refine aK.put ?_ (some d) (by show _=_;simp);refine N.place d _ O (p.mono (λb f=>f.elim)) ⟨?_,?_⟩ F (λb f=>.inl (I b (Ae r f)))
     .exact pZ aC b9 _
     grind
    .exact Dk N d (λ_=>AL hd) (λb f _=>p.block b f (λv=>v.elim)) (λhg=>by rw[ho]at hg;simp[AR]at hg) (λl e=>by simp_all [rU])
   .obtain⟨L,hr,s,S,a9,h⟩:=Ox N h;rw[a']at hr s h;rw[a4]at S;obtain⟨O,U,a6,r,p,I,F,G⟩:=xG (P:=C.P) w T tx o.type E it zv hu hi hv a3 (.slice none 0 0) 0 [] (World.ownsRow_nil w 0 E it.size) (a.eval y) L.length L.flatten s (by unfold maxLen;omega) bk;simp only[Nat.zero_add,nil_append]at r;unfold Oper.wp;rw[V O U bk,Oper.upon_value,hd];refine R (upd ι d O) _ _ _ ?_ h ?_
    .refine aK.put ?_ (some d) (by show _=_;simp);refine N.place d _ O (p.mono (λb f=>by simp[Value.ownBlock]at f)) ⟨hr,r⟩ F (λb f=>?_);rcases I b (Ae r f)with v|v
     .exact .inl v
     .simp[Value.ownBlock]at v
    .exact Dk N d (λ_=>AL hd) (λb f _=>p.block b f (λv=>by simp[Value.ownBlock]at v)) (λhg=>by rw[ho]at hg;simp[AR]at hg) (λl e=>by simp_all [rU])
  .rename_i k a0;have A:=N.ev x;rw[a0]at A;have A:a.eval x=ι k:=A;split at h
   .rename_i E' sz t r d2;split at h
    .rename_i b7 b0;have b7:=ci b7;have b0:=ci b0;subst b7;rw[a']at b0;subst b0;obtain⟨L,hr,s,S,a9,h⟩:=Ox N h;rw[a4]at S;obtain⟨Z,b3⟩:=sN N r;obtain⟨O,U,a6,J,p,I,F,G⟩:=xG (P:=C.P) w T tx o.type E' it zv hu hi hv a3 (ι k) t.length t.flatten b3 (a.eval y) L.length L.flatten s (by unfold maxLen;omega) S;rw[<-flatten_append, <-bz]at J;unfold Oper.wp;rw[V O U bk,Oper.upon_value,hd];refine R (upd ι k O) _ _ _ ?_ h ?_
     .refine aK.put ?_ (some d) (by show _=_;simp);refine N.place k _ O (p.mono (λb f=>⟨⟨_,r⟩,Em f⟩)) ⟨Dy Z hr,J⟩ F (λb f=>?_);rcases I b (Ae J f)with v|v
      .exact .inl v
      .exact .inr ⟨⟨_,r⟩,Em v⟩
     .refine Dk N k (λ⟨p',T',d7,e⟩=>bk) (λb f hn=>p.block b f (λv=>hn ⟨⟨_,r⟩,Em v⟩)) (λhg=>by rw[ho]at hg;simp[AR]at hg) (λl e=>by simp_all [rU])
    grind
   grind
  .grind
  grind
 grind
theorem aK.rewrite(d:aK B ι σ a w){k:Nat}{t h:Own}{w':World}(p:nth σ.own k=some (some t))(u:D6 (λb=>blk (ι k)=some b) w w')(z:D9 ι w' (ι k) h):
 aK B ι (σ.setOwn k (some h)) a w':=by
 have c:∀j m,nth (σ.setOwn k (some h)).own j=some (some m)->(j=k/\m=h)\/(j≠k/\nth σ.own j=some (some m)):=by
  intro j m l;simp only[St.setOwn,Af]at l;by_cases e:j=k
  .subst e;by_cases A:j<σ.own.length
   .grind
   .simp[A,jN]at l
  grind
 refine⟨d.slots,d.defers,?_,?_,?_,?_,d.one⟩
 .intro j m l;rcases c j m l with⟨rfl,rfl⟩|⟨n,i⟩
  .exact z
  .have q:=d.own j m i;refine q.world (λb f=>u.block b (qG q f) (λg=>n (d.dist j k _ _ b i p f g)))
 .intro j D s E b l i f g;rcases c j s l with⟨rfl,rfl⟩|⟨n,r⟩<;>rcases c D E i with⟨rfl,rfl⟩|⟨v,y⟩
  .rfl
  .exact d.dist _ _ _ _ b p y f g
  .exact d.dist _ _ _ _ b r p f g
  .exact d.dist _ _ _ _ b r y f g
 .intro j s b l f;rcases c j s l with⟨rfl,rfl⟩|⟨n,r⟩
  .exact d.fresh _ _ b p f
  .exact d.fresh _ _ b r f
 .exact d.wrel.ext u (λb f=>d.fresh k t b p f)
theorem Je(e:∀k,(ι k).oneCell'=true):∀{cs:dt}{vs:cv},tR cs=true->iM ι cs vs->∀v∈vs,v.oneCell'=true
 |[],[],_,_,v,f=>by cases f
 |x::cs,u::vs,g,l,v,f=>by
  simp only[tR]at g;split at g
  .rename_i m;rcases mem_cons.1 f with rfl|f
   .have d:=l.1;cases x with
    |val p=>
     have:v=p:=d;subst this;cases v<;>first|rfl|(simp[At.storable]at m)
    |ptr k j=>obtain⟨b,_,rfl⟩:=d;rfl
    |lst k=>have:v=ι k:=d;grind
    |el k i q j=>obtain⟨b,n,c,_,rfl⟩:=d;rfl
    |junk=>simp[At.storable]at m
   .exact Je e g l.2 v f
  .cases g
 |[],_::_,_,h,_,_=>h.elim
 |_::_,[],_,h,_,_=>h.elim
theorem Tt{P:Program}{T:TypeId}{w:World}{g off:Nat}{b:Array Value}{E:TypeId}{v:Value}(h:iU P T=true)(e:v.cells.size=P.cellsOf T)(j:w.heap[g]? =some (.cells b E (0,0)))
 (k:off+v.cells.size<=b.size)(l:∀u∈v.cells.toList,u.oneCell'=true):
 (storeVar T ⟨g,off,none⟩ v).run P w= .ok () (w.setRow g (splice b.toList off v.cells.toList).toArray):=by
 obtain⟨i,d,m,p,n,f⟩:=fL h;have c:=run_storeCells_at P g off E v.cells.toList 0 b w j aC l;simp only[Nat.add_zero]at c;unfold storeVar;rw[n]at e;simp only[Sem.run_bind,run_sizeOf m,Result.andThen_ok];rw[if_neg aC];simp only[c,splice]
theorem CG(w:World)(g:Nat)(cs:Array Value):D6 (λb=>b=g) w (w.setRow g cs):=
 ⟨rfl,rfl,rfl,Nat.le_refl _,bf,λb _ c=>setRow_other w g b cs c⟩
theorem ZI(q:aK B ι σ a w){T tx:Nat}{x y:Operand}{c:Call}(L:o.op= .call c)(S:c.callee= .builtin .copy)(hx:c.args.toList=[x,y])(U:c.argTypes.toList=[T,tx])
 (h:ZJ C o T tx x y σ K):Uo B C ι o σ K a w:=by
 intro next Q k
 have l:c.args= #[x,y]:=by apply Array.toList_inj.1;simpa using hx
 have r:c.argTypes= #[T,tx]:=by apply Array.toList_inj.1;simpa using U
 unfold ZJ at h;split at h
 .rename_i E z ad n V W D;obtain⟨it,zv,X,Y,hv,rfl,Z,F,M,N⟩:=Dr W;obtain⟨b,f,rfl,h⟩:=h;have g:=q.ev x;rw[D]at g;have g:a.eval x= .slice (some ⟨b,f,none⟩) n V:=g;obtain⟨p,hr,d,G,cs,E',H,s,h⟩:=Ox q h;rw[F]at hr d s;have O:=q.wrel.msat b _ H.at_;have a':=d.newsLen;have t:=run_storeCells_at C.P b f E' p.flatten 0 cs w O aC d.one
  have u:(execOp a.eval o).run C.P w= .ok (.value (.int .i64 p.length)) (w.setRow b (splice cs.toList f p.flatten).toArray):=by
   unfold execOp;simp only[L,resolve,S,l,r,invoke,builtin,Sem.run_bind,Sem.run_pure,Result.andThen_ok,map_toArray,map_cons,map_nil];rw[g];have v:=d.cells;generalize p.flatten=fl at t v⊢
   simp[Builtin.copy_,run_underlying X,d.len,sizeOf,typeInfo,Y,Nat.min_eq_left G,v,t];exact⟨rfl,by simp[splice]⟩
  let m':MH:=λi=>if i=b then some (.cells (splice cs.toList f p.flatten).toArray E' (0,0))else σ.m i
  have j:=CG w b (splice cs.toList f p.flatten).toArray
  obtain⟨I,hk⟩:=VA (m':=m') q j (λi e=>by subst e;rw[H.at_];simp) (by
   intro i ob A;by_cases e:i=b
   .subst e;simp only[m',if_true]at A;refine⟨?_,.inl (by rw[H.at_];simp)⟩;rw[setRow_heap w i cs _ E' _ O];exact A
   .simp only[m',if_neg e]at A;have R:=q.wrel.msat i ob A;refine⟨?_,.inl (by rw[A];simp)⟩;rw[j.block i (Array.getElem?_eq_some_iff.1 R).1 e];exact R)
  unfold Oper.wp;rw[u,Oper.upon_value];exact k ι _ _ _ (I.put o.dst (x:=.at (.val (.int .i64 p.length))) rfl) (h m' ⟨by simp[m'],λi J=>by simp[m',J]⟩) (hk o (by rw[L];rfl))
 .exact h.elim
theorem F2{cs:dt}{l vs:cv}(c:vL cs=some l)(b:iM ι cs vs):vs=l:=by
 rw[DQ c,iM.vals]at b;exact b
theorem flatten_set{sz:Nat}{l:cv}:∀{xs:List cv}{i:Nat}{e:cv}{off:Nat},(∀e∈xs,e.length=sz)->xs[i]? =some e->off+l.length<=e.length->
 splice xs.flatten (i*sz+off) l=(xs.set i (splice e off l)).flatten
 |[],i,e,off,_,b,_=>by simp at b
 |x::xs,0,e,off,d,b,c=>by
  simp at b;subst b;simp only[splice,Nat.zero_mul,Nat.zero_add,flatten_cons,set_cons_zero,append_assoc]
  grind
 |x::xs,i+1,e,off,d,b,c=>by
  simp only[getElem?_cons_succ]at b;have j:x.length=sz:=d x bf;have f:=flatten_set (λe g=>d e (by simp[g])) b c;rw[set_cons_succ,flatten_cons,flatten_cons, <-f];simp only[splice];have h:(i+1)*sz+off=x.length+(i*sz+off):=bk
  rw[h,take_length_add_append,show x.length+(i*sz+off)+l.length=x.length+(i*sz+off+l.length)by omega,drop_length_add_append];simp
theorem QE{sz:Nat}{xs:List cv}{i off:Nat}{e l:cv}(c:dQ sz xs)(n:xs[i]? =some e)(f:off+l.length<=e.length)(p:∀u∈l,u.oneCell'=true):
 dQ sz (xs.set i (splice e off l)):=by
 have b:e∈xs:=bx n;constructor
 .intro g j;rcases mem_or_eq_of_mem_set j with h|h
  .exact c.len g h
  .rw[h,Dx _ _ _ f];exact c.len e b
 .intro g j u d;rcases mem_or_eq_of_mem_set j with h|h
  .exact c.one g h u d
  .rw[h]at d;unfold splice at d;rcases mem_append.1 d with k|k
   .rcases mem_append.1 k with m|m
    .exact c.one e b u (mem_of_mem_take m)
    grind
   .exact c.one e b u (mem_of_mem_drop k)
theorem UP(u l:cv)(p N:Nat)(b:p+l.length<=N)(c:N<=u.length):(splice u p l).take N=splice (u.take N) p l:=by
 apply ext_getElem?;intro j;simp only[splice,getElem?_take,getElem?_append,bz,length_take,getElem?_drop]
 grind
theorem US(z:aK B ι σ a w){T:Nat}{x v:Operand}(Z:o.op= .store T x v)(a':o.dst=none)(h:Tp C T x v σ K):Uo B C ι o σ K a w:=by
 intro next Q J
 have F:=z.ev x;unfold Tp at h;split at h
 .exact h.elim
 .rename_i new a0;split at h
  .rename_i U a6 hT;have U:=ci U;have hd:=B3 z.one (z.ev v) a0;have h1:=Je z.one a6 hd;have b8:new.length=(a.eval v).cells.size:=by have:=hd.length;omega
   have L:∀g j A E,a.eval x= .pointer (some ⟨g,j,none⟩)->w.heap[g]? =some (.cells A E (0,0))->j+(a.eval v).cells.size<=A.size->
    (execOp a.eval o).run C.P w= .ok .skip (w.setRow g (splice A.toList j (a.eval v).cells.toList).toArray):=by
    intro g j A E V I G;unfold execOp;simp only[Z,V,Instr.storeAt,Instr.sureAddr,Sem.run_bind,Sem.run_pure,Result.andThen_ok,Tt hT aC I G h1]
   have qE:a.put o.dst undef=a:=by rw[a'];rfl
   split at h
   .rename_i k j V;rw[V]at F;split at h
    .rename_i p E cs D;split at h
     .rename_i G;have G:=Nat.le_of_ble_eq_true G;obtain⟨b,vs,O,hh,a1⟩:=w9 z D;obtain⟨d,f,hp⟩:=F;rw[O]at f;simp only[Value.pointer.injEq,ce,Addr.mk.injEq]at f;obtain⟨rfl, -, -⟩:=f;have b9:cs.length=vs.size:=by have:=a1.length;omega
      unfold Oper.wp;rw[L b j vs E hp hh aC,Oper.upon_skip,qE];have a7:blk (ι k)=some b:=by rw[O];rfl
      have r:=CG w b (splice vs.toList j (a.eval v).cells.toList).toArray;refine J ι _ _ _ (z.rewrite D (r.mono (λd f=>bk)) ?_) h ?_
      .exact⟨b,_,O,setRow_heap w b vs _ E _ hh,br (a1.splice j hd),λq e=>by subst e;have:=acJ z D;grind⟩
      .refine Dk z k (λ_=>?_) (λd f hn=>r.block d f (λe=>hn ⟨⟨_,D⟩,bk⟩)) (λI=>by rw[Z]at I;simp[AR]at I) (λl e=>by simp_all [rU]);unfold Ad;simp[Z,V]
     grind
    grind
   .rename_i k i sz j V;rw[V]at F;split at h
    .rename_i E s xs l D hl;split at h
     .rename_i hs;have hs:=ci hs;subst hs;obtain⟨e,he,G,h⟩:=h;obtain⟨hr,a2⟩:=sN z D;obtain⟨b,n,c,O,hp⟩:=F;have R:(a.eval v).cells.toList=l:=F2 hl hd;rcases a2.2 with⟨hv,hn⟩|⟨g,c',A,hv,_,I,a8,a9,c0,W⟩
      .grind
      .rw[O]at hv;simp only[Value.slice.injEq,ce,Addr.mk.injEq]at hv;obtain⟨⟨rfl, -, -⟩,rfl,rfl⟩:=hv;have b0:i<xs.length:=(bt he);have c1:e.length=s:=hr.len e (bx he);have b1:(a.eval v).cells.size=l.length:=bk
       have b2:=cM hr.len
       have b3:i*s+j+l.length<=xs.length*s:=by
        have:(i+1)*s<=xs.length*s:=Nat.mul_le_mul_right _ b0
        grind
       have b7:xs.length*s<=c*s:=Nat.mul_le_mul_right _ a8;unfold Oper.wp;rw[L b (i*s+j) A E hp I aC,Oper.upon_skip,qE];have a7:blk (ι k)=some b:=by rw[O];rfl
       have r:=CG w b (splice A.toList (i*s+j) (a.eval v).cells.toList).toArray;have a3:∀u∈l,u.oneCell'=true:=bk
       refine J ι _ _ _ (z.rewrite D (r.mono (λd f=>bk)) ?_) h ?_
       .have a4:=QE hr he G a3;refine⟨a4,cM a4.len,.inr ⟨b,c,_,bk,Nat.zero_le _,setRow_heap w b A _ E _ I,bk,a9,?_,?_⟩⟩
        .simp only[size_toArray,R];rw[Dx]
         .omega
         grind
        .rw[length_set];rw[<-flatten_set hr.len he G,R, <-W];have c2:A.toList.length=c*s:=by omega
         exact UP A.toList l (i*s+j) (xs.length*s) b3 aC
       .refine Dk z k (λ⟨p',T',b4,e'⟩=>bk) (λd f b5=>r.block d f (λe'=>b5 ⟨⟨_,D⟩,bk⟩)) (λI=>by rw[Z]at I;simp[AR]at I) (λl e=>by simp_all [rU])
     grind
    grind
   .rename_i b j V;rw[V]at F;have F:a.eval x= .pointer (some ⟨b,j,none⟩):=F;split at h
    .rename_i l hl;obtain⟨cs,E,X,G,h⟩:=h;have R:(a.eval v).cells.toList=l:=F2 hl hd;have b1:(a.eval v).cells.size=l.length:=bk
     have I:=z.wrel.msat b _ X.at_
     let m':MH:=λd=>if d=b then some (.cells (splice cs.toList j l).toArray E (0,0))else σ.m d
     unfold Oper.wp;rw[L b j cs E F I aC,Oper.upon_skip,qE,R];have r:=CG w b (splice cs.toList j l).toArray
     have a5:∀k S,nth σ.own k=some (some S)->blk (ι k)≠some b:=by
      intro k S D hb;have:=(z.fresh k S b D hb).2.1;rw[X.at_]at this;cases this
     refine J ι {σ with m:=m'} _ _ ?_ (h m' ⟨by simp[m'],λd f=>bk⟩) ?_
     .refine⟨z.slots,z.defers,?_,z.dist,?_,?_,z.one⟩
      .intro k S D;exact(z.own k S D).world (λd f=>r.block d (qG (z.own k S D) f) (λe=>a5 k S D (e▸f)))
      .intro k S d D f;obtain⟨f1,f2,f3⟩:=z.fresh k S d D f
       grind
      .have H:=z.wrel;refine⟨H.tape,H.os,H.output,H.drawn,cr H.size r.size,?_,?_,?_,?_,H.hle,H.hold,?_⟩
       .intro d f hE
        have M:d≠b:=λe=>by
         subst e;rcases H.mfr d _ X.at_ with N|N
         .omega
         grind
        rw[r.block d (ct f H.size) M];exact H.frame d f hE
       .intro d y u Y;have M:d≠b:=λe=>by subst e;rw[H.disj d _ X.at_ y]at Y;cases Y
        have N:=H.hsat d y u Y;rw[<-N];exact World.cell?_of_block (w:=w) (a:=⟨d,y,none⟩) (r.block d (World.block_lt_of_cell? w ⟨d,y,none⟩ N) M)
       .intro d ob f;have t:(if d=b then some (Obj.cells (splice cs.toList j l).toArray E (0,0))else σ.m d)=some ob:=f;by_cases e:d=b
        .subst e;rw[if_pos rfl]at t;rw[setRow_heap w d cs _ E _ I];exact t
        .rw[if_neg e]at t;have N:=H.msat d ob t;rw[r.block d (Array.getElem?_eq_some_iff.1 N).1 e];exact N
       .intro d ob f i;have t:(if d=b then some (Obj.cells (splice cs.toList j l).toArray E (0,0))else σ.m d)=some ob:=f;by_cases e:d=b
        .subst e;exact H.disj d _ X.at_ i
        .rw[if_neg e]at t;exact H.disj d _ t i
       .intro d ob f;have t:(if d=b then some (Obj.cells (splice cs.toList j l).toArray E (0,0))else σ.m d)=some ob:=f;by_cases e:d=b
        .subst e;exact H.mfr d _ X.at_
        .rw[if_neg e]at t;exact H.mfr d _ t
     .constructor
      .intro k p' T' b4 d D ht O;exact r.block d (qG (z.own k _ D) (by rw[O];rfl)) (λe=>a5 k _ D (by rw[O, <-e];rfl))
      .intro d y u Y;have M:d≠b:=λe=>by subst e;rw[z.wrel.disj d _ X.at_ y]at Y;cases Y
       have N:=z.wrel.hsat d y u Y;rw[<-N];exact World.cell?_of_block (w:=w) (a:=⟨d,y,none⟩) (r.block d (World.block_lt_of_cell? w ⟨d,y,none⟩ N) M)
      .intro I;rw[Z]at I;simp[AR]at I
      .intro l' d b6;simp[rU,Z]at b6
    grind
   grind
  grind
end
end Go.Vc
namespace Go.Vc
open Go List
section
variable{B:rL}{C:Ctx}{ι:dj}{σ:St}{a:Act}{w:World}{o:Oper}{K:St->Prop}
theorem lB(d:aK B ι σ a w):IX σ ι o w w:=
 ⟨λ_ _ _ _ _ _ _ _=>rfl,λb c v e=>d.wrel.hsat b c v e,λ_ _ _=>rfl,λ_ _ _ _ _ _=>rfl⟩
theorem U0(r:aK B ι σ a w){T:Nat}{x:Operand}{lo hi mx:Option Operand}(L:o.op= .slice T x lo hi mx)(h:Tr C o T x lo hi mx σ K):Uo B C ι o σ K a w:=by
 intro next Q l
 have d:=r.ev x;unfold Tr at h;split at h
 .rename_i k n y;rw[y]at d;have d:a.eval x=ι k:=d;have c:=r.ev n;split at h
  .rename_i E sz z A i E' U D v;rw[D]at c;have c:a.eval n= .int A i:=c;split at h
   case h_2=>exact h.elim
   rename_i t;obtain⟨F,H,h⟩:=h;obtain⟨hr,V⟩:=sN r U;have I:dQ sz (z.take i.toNat):=⟨λe he=>hr.len e (mem_of_mem_take he),λe he=>hr.one e (mem_of_mem_take he)⟩
   have G:(z.take i.toNat).length=i.toNat:=bk
   obtain⟨W,_,q,_⟩:=fL t;rcases V.2 with⟨hv,a6⟩|⟨g,m,a0,hv,a7,hg,a8,a1,a2,M⟩
   .have a3:i=0:=by omega
    subst a3
    have f:(execOp a.eval o).run C.P w= .ok (.value (.slice none 0 0)) w:=by
     unfold execOp;simp[L,d,hv,c,Instr.sliceAt,run_underlying v,Instr.slice,Instr.sliceBounds,Instr.sliceBound,asIntOf,run_sizeOf q]
    unfold Oper.wp;rw[f,Oper.upon_value];refine l (upd ι k (.slice none 0 0)) _ _ _ ?_ h (lB r);refine aK.put ?_ o.dst (by show _=_;simp);refine r.place k _ _ (D6.refl _ _) ⟨I,?_⟩ rfl (λb hb=>bk)
    grind
   .have f:(execOp a.eval o).run C.P w= .ok (.value (.slice (some ⟨g,0,none⟩) i.toNat m)) w:=by
     have a4:i<=(m:Int):=by omega
     unfold execOp;simp[L,d,hv,c,Instr.sliceAt,run_underlying v,Instr.slice,Instr.sliceBounds,Instr.sliceBound,asIntOf,run_sizeOf q,F,a4,Addr.add_none]
    unfold Oper.wp;rw[f,Oper.upon_value];refine l (upd ι k (.slice (some ⟨g,0,none⟩) i.toNat m)) _ _ _ ?_ h (lB r);refine aK.put ?_ o.dst (by show _=_;simp);refine r.place k _ _ (D6.refl _ _) ⟨I,cM I.len,.inr ⟨g,m,a0,by rw[G],Nat.zero_le _,hg,aC,a1,a2,?_⟩⟩ rfl (λb hb=>.inr ⟨⟨_,U⟩,by rw[hv];exact hb⟩);rw[G]
    have X:(z.take i.toNat).flatten=z.flatten.take (i.toNat*sz):=by
     have:z=z.take i.toNat++z.drop i.toNat:=(take_append_drop _ _).symm;rw[show z.flatten=(z.take i.toNat).flatten++(z.drop i.toNat).flatten by grind];rw[take_left'];rw[cM I.len,G]
    rw[X, <-M,take_take];congr 1;have:i.toNat*sz<=z.length*sz:=Nat.mul_le_mul_right _ aC;omega
  .exact h.elim
 .rename_i u len m n y;rw[y]at d;have d:a.eval x= .slice u len m:=d;have c:=r.ev n;split at h
  .rename_i A i E' D v;rw[D]at c;have c:a.eval n= .int A i:=c;split at h
   case h_2=>exact h.elim
   rename_i t;obtain⟨F,H,h⟩:=h;obtain⟨W,_,q,_⟩:=fL t
   have f:(execOp a.eval o).run C.P w= .ok (.value (.slice u i.toNat m)) w:=by
    unfold execOp;simp[L,d,c,Instr.sliceAt,run_underlying v,Instr.slice,Instr.sliceBounds,Instr.sliceBound,asIntOf,run_sizeOf q,F,H];cases u<;>simp[Addr.add]
   unfold Oper.wp;rw[f,Oper.upon_value];exact l ι _ _ _ (r.put o.dst (x:=.at (.val _)) rfl) h (lB r)
  .exact h.elim
 .rename_i u len m n k y;rw[y]at d;have d:a.eval x= .slice u len m:=d;have c:=r.ev n;have p:=r.ev k;split at h
  .rename_i A i kj j E' D U v;rw[D]at c;rw[U]at p;have c:a.eval n= .int A i:=c;have p:a.eval k= .int kj j:=p;split at h
   case h_2=>exact h.elim
   rename_i t;obtain⟨F,H,h2,h⟩:=h;obtain⟨W,_,q,_⟩:=fL t
   have f:(execOp a.eval o).run C.P w= .ok (.value (.slice u i.toNat j.toNat)) w:=by
    have N:0<=j:=by omega
    have O:max j 0=j:=by omega
    unfold execOp;simp[O,L,d,c,p,Instr.sliceAt,run_underlying v,Instr.slice,Instr.sliceBounds,Instr.sliceBound,asIntOf,run_sizeOf q,F,H,h2,N];cases u<;>simp[Addr.add]
   unfold Oper.wp;rw[f,Oper.upon_value];exact l ι _ _ _ (r.put o.dst (x:=.at (.val _)) rfl) h (lB r)
  .exact h.elim
 .rename_i u len m n k y;rw[y]at d;have d:a.eval x= .slice u len m:=d;have c:=r.ev n;have p:=r.ev k;split at h
  .rename_i A i kj j E' D U v;rw[D]at c;rw[U]at p;have c:a.eval n= .int A i:=c;have p:a.eval k= .int kj j:=p;split at h
   case h_2=>exact h.elim
   rename_i t;obtain⟨F,H,h2,h⟩:=h;obtain⟨W,_,q,a5,R,Y⟩:=fL t;have S:=run_sizeOf q;obtain⟨s,J⟩:∃s:Sl,Dw (C.P.cellsOf E') ⟨u,j.toNat,m⟩ i.toNat s:=⟨⟨_,_,_⟩,rfl,rfl,rfl⟩
   have f:(execOp a.eval o).run C.P w= .ok (.value (.slice s.a s.len s.cap)) w:=by
    have N:=J.a_;have O:=J.len;have Z:=J.cap;dsimp only at N O Z;have h6:0<=j:=by omega
    have h7:max j 0=j:=by omega
    unfold execOp;simp[L,d,c,p,Instr.sliceAt,run_underlying v,Instr.slice,Instr.sliceBounds,Instr.sliceBound,asIntOf,S,F,H,h2,h6,h7,N,O,Z,R]
   unfold Oper.wp;rw[f,Oper.upon_value];exact l ι _ _ _ (r.put o.dst (x:=.at (.val _)) rfl) (h s J) (lB r)
  .exact h.elim
 .rename_i u len m n y;rw[y]at d;have d:a.eval x= .slice u len m:=d;have c:=r.ev n;split at h
  .rename_i A i E' D v;rw[D]at c;have c:a.eval n= .int A i:=c;split at h
   case h_2=>exact h.elim
   rename_i t;obtain⟨F,H,hc,h⟩:=h;obtain⟨W,_,q,a5,R,Y⟩:=fL t;have S:=run_sizeOf q;obtain⟨s,J⟩:∃s:Sl,Dw (C.P.cellsOf E') ⟨u,len,m⟩ i.toNat s:=⟨⟨_,_,_⟩,rfl,rfl,rfl⟩
   have f:(execOp a.eval o).run C.P w= .ok (.value (.slice s.a s.len s.cap)) w:=by
    have N:=J.a_;have O:=J.len;have Z:=J.cap;dsimp only at N O Z;unfold execOp;simp[L,d,c,Instr.sliceAt,run_underlying v,Instr.slice,Instr.sliceBounds,Instr.sliceBound,asIntOf,S,F,H,N,O,Z,R]
   unfold Oper.wp;rw[f,Oper.upon_value];exact l ι _ _ _ (r.put o.dst (x:=.at (.val _)) rfl) (h s J) (lB r)
  .exact h.elim
 .rename_i b a' n y;rw[y]at d;have d:a.eval x= .pointer (some ⟨b,a',none⟩):=d;have c:=r.ev n;split at h
  .rename_i A i len E' D v;rw[D]at c;have c:a.eval n= .int A i:=c;split at h
   case h_2=>exact h.elim
   rename_i t;obtain⟨F,H,h⟩:=h;obtain⟨W,_,q,_⟩:=fL t
   have f:(execOp a.eval o).run C.P w= .ok (.value (.slice (some ⟨b,a',none⟩) i.toNat len)) w:=by
    unfold execOp;simp[L,d,c,Instr.sliceAt,run_underlying v,Instr.sliceBounds,Instr.sliceBound,asIntOf,run_sizeOf q,F,H,Instr.sureAddr,asAddr,Addr.add]
   unfold Oper.wp;rw[f,Oper.upon_value];exact l ι _ _ _ (r.put o.dst (x:=.at (.val _)) rfl) h (lB r)
  .exact h.elim
 .exact h.elim
structure Ld(ι:dj)(σ σ':St)(ks:dq):Prop where
 cells:∀k p T cs,nth σ.own k=some (some (.cellsP p T cs))->k∉ks->∃cs',nth σ'.own k=some (some (.cellsP p T cs'))
 imm:σ'.h=σ.h
 lst:∀x k,σ'.ev x= .at (.lst k)->σ.ev x= .at (.lst k)
 m_:∀b,σ.m b=none->σ'.m b≠none->∃k∈ks,blk (ι k)=some b
theorem PY{σ:St}{k:Nat}{f:At->At}{m:MH}{h:PH}{own:eb}(c:∀x j,f x≠ .lst j){x:Operand}{j:Nat}(hx:St.ev {sl:=σ.sl.map (SV.sub k f),own:=own,m:=m,h:=h} x= .at (.lst j)):σ.ev x= .at (.lst j):=by
 rcases ZF σ k f m h own x with b|⟨v,b⟩
 .exact aaZ c (b▸hx)
 .rcases b with rfl|⟨g,rfl⟩|⟨g,rfl⟩<;>exact hx
theorem ceJ(s:aK B ι σ a w){k T:Nat}{p:Option Nat}{cs:dt}{l:cv}(D:nth σ.own k=some (some (.cellsP p T cs)))(J:vL cs=some l):
 ∃(b:Nat)(m':MH),dL σ.m σ.h b/\gR σ.m m' b (.cells l.toArray T (0,0))/\
  aK B ι {(σ.sub k (λ |.ptr _ o=>.val (.pointer (some ⟨b,o,none⟩))|_=>.junk)).setOwn k none with m:=m'} a w/\
  Ld ι σ {(σ.sub k (λ |.ptr _ o=>.val (.pointer (some ⟨b,o,none⟩))|_=>.junk)).setOwn k none with m:=m'} [k]:=by
 obtain⟨b,L,H,M,E⟩:=w9 s D;have N:L.toList=l:=F2 J E;have u:blk (ι k)=some b:=by rw[H];rfl
 obtain⟨V,O,I⟩:=s.fresh k _ b D u
 let m':MH:=λf=>if f=b then some (.cells l.toArray T (0,0))else σ.m f
 have g:aK B ι ((σ.sub k (λ |.ptr _ o=>.val (.pointer (some ⟨b,o,none⟩))|_=>.junk)).setOwn k none) a w:=by
  have:=s.drop k (ι k) (s.one k) (λ |.ptr _ o=>.val (.pointer (some ⟨b,o,none⟩))|_=>.junk) (by
   intro x v A E;cases x<;>simp only[At.key,ce,reduceCtorEq]at A
   case lst=>trivial
   case el=>trivial
   case ptr j off=>
    subst A;obtain⟨f,d,P⟩:=E;rw[H]at d;simp only[Value.pointer.injEq,ce,Addr.mk.injEq]at d;obtain⟨rfl, -, -⟩:=d;exact P)
  rwa [I7]at this
 have r:∀j y,nth ((σ.sub k (λ |.ptr _ o=>.val (.pointer (some ⟨b,o,none⟩))|_=>.junk)).setOwn k none).own j=some (some y)->blk (ι j)≠some b:=by
  intro j y t Q;obtain⟨r,W,F,_⟩:=qL t;exact r (s.dist j k _ _ b F D Q u)
 refine⟨b,m',⟨O,I⟩,⟨by simp[m'],λf d=>bk⟩,⟨g.slots,g.defers,g.own,g.dist,?_,?_,g.one⟩,?_⟩
 .intro j y f t d;obtain⟨R,S,U⟩:=g.fresh j y f t d;refine⟨R,?_,U⟩;have:f≠b:=λe=>r j y t (e▸d);show(if f=b then _ else σ.m f)=none;rw[if_neg this];exact S
 .have n:=s.wrel;refine⟨n.tape,n.os,n.output,n.drawn,n.size,n.frame,n.hsat,?_,?_,n.hle,n.hold,?_⟩
  .intro f q d;have c:(if f=b then some (Obj.cells l.toArray T (0,0))else σ.m f)=some q:=d;by_cases e:f=b
   .subst e;rw[if_pos rfl]at c;rw[M, <-c];congr 2
    grind
   .rw[if_neg e]at c;exact n.msat f q c
  .intro f q d i;have c:(if f=b then some (Obj.cells l.toArray T (0,0))else σ.m f)=some q:=d;by_cases e:f=b
   .subst e;exact I i
   .rw[if_neg e]at c;exact n.disj f q c i
  .intro f q d;have c:(if f=b then some (Obj.cells l.toArray T (0,0))else σ.m f)=some q:=d;by_cases e:f=b
   .grind
   .rw[if_neg e]at c;exact n.mfr f q c
 .refine⟨?_,rfl,λx j A=>PY (λx j=>bk) A,λf X Y=>⟨k,bf,?_⟩⟩
  case refine_2=>
   grind
  intro j Z T' G t z;simp only[mem_singleton]at z;refine⟨G.map (At.sub k (λ |.ptr _ o=>.val (.pointer (some ⟨b,o,none⟩))|_=>.junk)),?_⟩
  .simp only[St.setOwn,St.sub,Af,Bo,z,false_and,if_false,t];rfl
theorem cfQ{σ τ υ:St}{k:Nat}{ks:dq}(h:Ld ι σ τ [k])(c:Ld ι τ υ ks){b:Nat}(d:σ.m b=none)(f:υ.m b≠none):∃j∈k::ks,blk (ι j)=some b:=by
 cases e:τ.m b with
 |none=>
  obtain⟨j,g,i⟩:=c.m_ b e f
  grind
 |some o=>
  obtain⟨j,g,i⟩:=h.m_ b d (by rw[e];simp)
  grind
theorem zU:∀(ks:dq)(σ:St),aK B ι σ a w->Gn σ K ks->∃e,aK B ι e a w/\K e/\Ld ι σ e ks
 |[],σ,g,h=>⟨σ,g,h,⟨λ_ _ _ cs h _=>⟨cs,h⟩,rfl,λ_ _ h=>h,λ_ i m=>(m i).elim⟩⟩
 |k::ks,σ,g,h=>by
  simp only[Gn]at h;split at h
  .rename_i p T cs z;split at h
   .rename_i l A;obtain⟨b,D,n,q,r,d⟩:=ceJ g z A;obtain⟨e,s,E,c⟩:=zU ks _ r (h b D n q);refine⟨e,s,E,⟨λj v T' t F y=>?_,c.imm.trans d.imm,λx j G=>d.lst x j (c.lst x j G),λb i m=>cfQ d c i m⟩⟩;simp only[mem_cons,not_or]at y;obtain⟨f,u⟩:=d.cells j v T' t F bk;exact c.cells j v T' f u y.2
   grind
  grind
theorem a1Q(G:aK B ι σ a w){k E sz:Nat}{xs:List cv}(Q:nth σ.own k=some (some (.lst E sz xs))):
 ∃(s:Sl)(m':MH),rK σ.m m' σ.h s E sz xs/\aK B ι {(σ.sub k (λ |.lst _=>.val s.val|_=>.junk)).setOwn k none with m:=m'} a w/\
  Ld ι σ {(σ.sub k (λ |.lst _=>.val s.val|_=>.junk)).setOwn k none with m:=m'} [k]:=by
 obtain⟨hr,t⟩:=sN G Q
 obtain⟨s,R⟩:∃s:Sl,ι k=s.val:=by
  rcases t.2 with⟨r,_⟩|⟨g,n,p,r,_⟩
  .exact⟨⟨none,0,0⟩,r⟩
  .exact⟨⟨some ⟨g,0,none⟩,xs.length,n⟩,r⟩
 have l:aK B ι ((σ.sub k (λ |.lst _=>.val s.val|_=>.junk)).setOwn k none) a w:=by
  have:=G.drop k (ι k) (G.one k) (λ |.lst _=>.val s.val|_=>.junk) (by
   intro x v N S;cases x<;>simp only[At.key,ce,reduceCtorEq]at N
   case ptr=>trivial
   case el=>trivial
   case lst j=>
    subst N;have S:v=ι j:=S;show v=s.val;rw[S,R])
  rwa [I7]at this
 have I:∀m':MH,(∀b,σ.m b=none->m' b≠none->blk (ι k)=some b)->Ld ι σ {(σ.sub k (λ |.lst _=>.val s.val|_=>.junk)).setOwn k none with m:=m'} [k]:=by
  intro m' T;refine⟨?_,rfl,λx j N=>PY (λx j=>bk) N,λd O P=>⟨k,bf,T d O P⟩⟩;intro j p' T' U H J;simp only[mem_singleton]at J;refine⟨U.map (At.sub k (λ |.lst _=>.val s.val|_=>.junk)),?_⟩;simp only[St.setOwn,St.sub,Af,Bo,J,false_and,if_false,H];rfl
 rcases t.2 with⟨r,V⟩|⟨g,n,p,r,a',hg,W,X,Y,A⟩
 .have D:s=⟨none,0,0⟩:=by
   rw[R]at r;obtain⟨x,y,z⟩:=s;simp only[Sl.val,Value.slice.injEq]at r
   grind
  subst D;exact⟨⟨none,0,0⟩,σ.m,⟨⟨hr,.inl ⟨rfl,eq_nil_of_length_eq_zero V⟩⟩,λ_ _=>rfl,λb i e=>by cases e⟩,l,I σ.m (λb O P=>(P O).elim)⟩
 .have L:blk (ι k)=some g:=by rw[r];rfl
  obtain⟨f1,f2,f3⟩:=G.fresh k _ g Q L
  have D:s=⟨some ⟨g,0,none⟩,xs.length,n⟩:=by
   rw[R]at r;obtain⟨x,y,z⟩:=s;simp only[Sl.val,Value.slice.injEq]at r
   grind
  subst D
  let m':MH:=λd=>if d=g then some (.cells p E (0,0))else σ.m d
  have F:∀j M,nth ((σ.sub k (λ |.lst _=>.val (Sl.mk (some ⟨g,0,none⟩) xs.length n).val|_=>.junk)).setOwn k none).own j=some (some M)->blk (ι j)≠some g:=by
   intro j M H hb;obtain⟨F,o1,Z,_⟩:=qL H;exact F (G.dist j k _ _ g Z Q hb L)
  refine⟨⟨some ⟨g,0,none⟩,xs.length,n⟩,m',⟨⟨hr,.inr ⟨g,n,p,rfl,by simp[m'],W,X,Y,A⟩⟩,λd f=>?_,λb i e=>?_⟩,⟨l.slots,l.defers,l.own,l.dist,?_,?_,l.one⟩,I m' (λb O P=>?_)⟩
  .grind
  .simp only[ce,Addr.mk.injEq]at e;obtain⟨rfl,_,_⟩:=e;exact⟨f2,f3⟩
  .intro j M d H f;obtain⟨g1,g2,g3⟩:=l.fresh j M d H f;refine⟨g1,?_,g3⟩;have:d≠g:=λe=>F j M H (e▸f);show(if d=g then _ else σ.m d)=none;rw[if_neg this];exact g2
  .have q:=G.wrel;refine⟨q.tape,q.os,q.output,q.drawn,q.size,q.frame,q.hsat,?_,?_,q.hle,q.hold,?_⟩
   .intro d u f;have c:(if d=g then some (Obj.cells p E (0,0))else σ.m d)=some u:=f;by_cases e:d=g
    .grind
    .rw[if_neg e]at c;exact q.msat d u c
   .intro d u f i;have c:(if d=g then some (Obj.cells p E (0,0))else σ.m d)=some u:=f;by_cases e:d=g
    .subst e;exact f3 i
    .rw[if_neg e]at c;exact q.disj d u c i
   .intro d u f;have c:(if d=g then some (Obj.cells p E (0,0))else σ.m d)=some u:=f;by_cases e:d=g
    .grind
    .rw[if_neg e]at c;exact q.mfr d u c
  grind
theorem DL:∀(ks:dq)(σ:St),aK B ι σ a w->DU σ K ks->∃e,aK B ι e a w/\K e/\Ld ι σ e ks
 |[],σ,i,h=>⟨σ,i,h,⟨λ_ _ _ cs h _=>⟨cs,h⟩,rfl,λ_ _ h=>h,λ_ l m=>(m l).elim⟩⟩
 |k::ks,σ,i,h=>by
  simp only[DU]at h;split at h
  .rename_i E F G v;obtain⟨s,y,f,n,d⟩:=a1Q i v;obtain⟨e,p,z,c⟩:=DL ks _ n (h s y f);refine⟨e,p,z,⟨λj t T' q A u=>?_,c.imm.trans d.imm,λx j D=>d.lst x j (c.lst x j D),λb l m=>cfQ d c l m⟩⟩;simp only[mem_cons,not_or]at u;obtain⟨g,r⟩:=d.cells j t T' q A bk;exact c.cells j t T' g r u.2
  grind
end
end Go.Vc
namespace Go.Vc
open Go List
def Ea(w:World):CV->Value->Prop
 |.val v,u=>u=v
 |.lst E c b,u=>dQ c b/\w.ownsRow 0 E c u b.length b.flatten
 |.tup e,u=>∃d:Array Value,u= .tuple d/\e=d.toList.map .val
def gA:CV->Value->Option Nat
 |.lst _ _ _,u=>blk u
 |_,_=>none
def Cy(w:World):du->cv->Prop
 |[],[]=>True
 |c::cs,v::vs=>Ea w c v/\Cy w cs vs
 |_,_=>False
def tA(m:MH)(d:du)(vs:cv)(b:Nat):Prop:=m b≠none\/∃(i:Nat)(c:CV)(u:Value),d[i]? =some c/\vs[i]? =some u/\gA c u=some b
structure AK(w:World)(m:MH)(h:PH)(cvs:du)(vs:cv):Prop where
 args:Cy w cvs vs
 hsat:∀b o v,h b o=some v->w.cell? ⟨b,o,none⟩=some v
 msat:∀b o,m b=some o->w.heap[b]? =some o
 disj:∀b o,m b=some o->∀i,h b i=none
 sep:∀(i j:Nat)(c d:CV)(u v:Value)(b:Nat),cvs[i]? =some c->vs[i]? =some u->cvs[j]? =some d->vs[j]? =some v->gA c u=some b->gA d v=some b->i=j
 free:∀(i:Nat)(c:CV)(u:Value)(b:Nat),cvs[i]? =some c->vs[i]? =some u->gA c u=some b->m b=none/\∀o,h b o=none
def Sound(P:Program)(f:FuncId)(S:Spec):Prop:=
 (∃g,P.funcs[f]? =some g/\g.body.isSome=true/\(g.name== "runtime.NumGoroutine")=false)/\
 ∀c d m h w K,S c m h K->AK w m h c d->
  Calls P f d.toArray w λe l=>∃r u j k,e= .returned u/\K r j k/\Ea l r u/\xC ⟨w,tA m c d,h,[]⟩ j k l/\
   (∀b,gA r u=some b->(w.heap.size<=b\/tA m c d b)/\j b=none/\∀i,k b i=none)
section
variable{B:rL}{C:Ctx}{ι:dj}{σ:St}{a:Act}{w:World}{o:Oper}{K:St->Prop}
theorem Iu(sz:Nat):dQ sz []:=⟨(λe b=>by cases b),(λe b=>by cases b)⟩
theorem FK(p:aK B ι σ a w){mv:dq}:∀(i:Nat)(l:dw)(t:em)(f:du),r9 C.P σ mv i l t=some f->
 Cy w f (l.map a.eval)/\∀(j:Nat)(c:CV)(u:Value)(b:Nat),f[j]? =some c->(l.map a.eval)[j]? =some u->gA c u=some b->
  ∃x k q,l[j]? =some x/\mv.contains (i+j)=true/\σ.ev x= .at (.lst k)/\nth σ.own k=some (some q)/\u=ι k
 |i,[],t,f,h=>by
  simp[r9]at h;subst h;exact⟨trivial,λj c u b H=>by simp at H⟩
 |i,x::r,t,f,h=>by
  simp only[r9]at h;split at h
  .cases h
  .rename_i g m;obtain⟨n,I⟩:=FK p (i+1) r t.tail g m
   have d:∀(D:CV),(∀(u:Value)(b:Nat),(a.eval x)=u->gA D u=some b->∃k q,mv.contains i=true/\σ.ev x= .at (.lst k)/\nth σ.own k=some (some q)/\u=ι k)->
    ∀(j:Nat)(c:CV)(u:Value)(b:Nat),(D::g)[j]? =some c->((x::r).map a.eval)[j]? =some u->gA c u=some b->
     ∃F k q,(x::r)[j]? =some F/\mv.contains (i+j)=true/\σ.ev F= .at (.lst k)/\nth σ.own k=some (some q)/\u=ι k:=by
    grind
   split at h
   .rename_i y;split at h
    .rename_i k v;have e:=p.ev x;rw[v]at e;have e:a.eval x=ι k:=e;split at h
     .rename_i E L M G;simp only[ce]at h;subst h;obtain⟨J,N⟩:=sN p G;refine⟨⟨⟨J,bk⟩,n⟩,d _ (λu b s _=>⟨k,_,y,v,G,bk⟩)⟩
     .cases h
    .rename_i v;have e:=p.ev x;rw[v]at e;have e:a.eval x= .slice none 0 0:=e;split at h
     .rename_i E z O;simp only[ce]at h;subst h;refine⟨⟨⟨Iu _,by rw[e];exact World.ownsRow_nil w 0 E _⟩,n⟩,d _ (λu b s A=>?_)⟩;rw[e]at s;subst s;simp[gA,blk]at A
     .cases h
    .cases h
   .split at h
    .rename_i u s;simp only[ce]at h;subst h;exact⟨⟨p.rho s,n⟩,d _ (λu b _ A=>by simp[gA]at A)⟩
    .cases h
theorem DJ{mv:dq}:∀(i:Nat)(l:dw)(j:Nat)(x:Operand)(k:Nat),l[j]? =some x->mv.contains (i+j)=true->σ.ev x= .at (.lst k)->k∈jX σ mv i l
 |i,[],j,x,k,h,_,_=>by simp at h
 |i,y::r,0,x,k,h,b,c=>by
  simp at h;subst h;simp only[Nat.add_zero]at b;simp only[jX,b,c]
  grind
 |i,y::r,j+1,x,k,h,b,c=>by
  simp only[getElem?_cons_succ]at h;have:=DJ (i+1) r j x k h (by rw[show i+1+j=i+(j+1)by omega];exact b) c;simp only[jX]
  grind
theorem Ic{mv:dq}:∀(i:Nat)(l:dw),Ly (jX σ mv i l)=true->∀(j c:Nat)(x e:Operand)(k:Nat),l[j]? =some x->l[c]? =some e->
 mv.contains (i+j)=true->mv.contains (i+c)=true->σ.ev x= .at (.lst k)->σ.ev e= .at (.lst k)->j=c
 |i,[],_,j,_,_,_,_,h,_,_,_,_,_=>by simp at h
 |i,y::r,b,j,c,x,e,k,h,q,D,t,u,f=>by
  have key:∀j x,r[j]? =some x->mv.contains (i+(j+1))=true->σ.ev x= .at (.lst k)->∀g,y=g->mv.contains i=true->σ.ev g= .at (.lst k)->False:=by
   intro j x v z m g A n p;subst A;simp only[jX,n,p]at b;have s:=DJ (σ:=σ) (mv:=mv) (i+1) r j x k v bk m;simp only[Ly]at b
   grind
  have d:Ly (jX σ mv (i+1) r)=true:=by
   simp only[jX]at b;split at b
   .simp only[Ly]at b
    grind
   .exact b
  cases j with
  |zero=>
   grind
  |succ j=>
   cases c with
   |zero=>
    grind
   |succ c=>
    simp only[getElem?_cons_succ]at h q;have:=Ic (i+1) r d j c x e k h q bk bk u f;rw[this]
theorem Ie:∀(ks:dq)(σ:St),aK B ι σ a w->aK B ι (BR σ ks) a w/\(BR σ ks).m=σ.m/\(BR σ ks).h=σ.h/\
 (∀j b,nth (BR σ ks).own j=some (some b)->j∉ks/\∃e,nth σ.own j=some (some e))
 |[],σ,d=>⟨d,rfl,rfl,λj b h=>⟨bf,b,h⟩⟩
 |k::ks,σ,d=>by
  have f:=d.kill k (ι k) (d.one k);rw[I7]at f;obtain⟨g,i,l,n⟩:=Ie ks (σ.kill k) f;refine⟨g,i,l,λj b p=>?_⟩;obtain⟨s,e,c⟩:=n j b p;rw[Oc]at c;obtain⟨q,t,r,_⟩:=qL c
  grind
theorem xC.trans{m m':MH}{h j:PH}{w w':World}{E:Nat->Prop}(d:xC B m h w)(c:xC ⟨w,E,h,[]⟩ m' j w')(p:∀b,E b->B.w0.heap.size<=b\/B.E b):xC B m' j w':=by
 refine⟨c.tape.trans d.tape,c.os.trans d.os,c.output.trans d.output,cr d.drawn c.drawn,cr d.size c.size,?_,c.hsat,c.msat,c.disj,λb o v l=>c.hle b o v (d.hle b o v l),?_,?_⟩
 .intro b f i
  have g:¬E b:=λe=>by
   grind
  rw[c.frame b (ct f d.size) g];exact d.frame b f i
 .intro b f i
  have g:¬E b:=λe=>by
   grind
  rw[c.hold b (ct f d.size) g];exact d.hold b f i
 .intro b n f;rcases c.mfr b n f with k|k
  .exact .inl (cr d.size k)
  grind
theorem aK.called{m':MH}{l:PH}{w':World}{E:Nat->Prop}(d:aK B ι σ a w)(n:xC ⟨w,E,σ.h,[]⟩ m' l w')(q:∀b,E b->B.w0.heap.size<=b\/B.E b)
 (e:∀j f b,nth σ.own j=some (some f)->blk (ι j)=some b->¬E b):aK B ι {σ with m:=m',h:=l} a w':=by
 refine⟨d.slots,d.defers,?_,d.dist,?_,d.wrel.trans n q,d.one⟩
 .intro j f g;have c:=d.own j f g;exact c.world (λb k=>n.frame b (qG c k) (e j f b g k))
 .intro j f b g k;have c:=d.own j f g;obtain⟨r,z,s⟩:=d.fresh j f b g k;have p:=qG c k;have t:=e j f b g k;refine⟨r,?_,λi=>?_⟩
  .show m' b=none;cases u:m' b with
   |none=>rfl
   |some v=>
    rcases n.mfr b v u with y|y
    .grind
    grind
  .have:l b=σ.h b:=n.hold b p t;show l b i=none;rw[this];exact s i
theorem I9:∀{rs:du}{l:List (Sum At dt)}{us:cv},Eb rs=some l->rs=us.map .val->Qv ι l us
 |[],l,us,h,b=>by
  simp[Eb]at h;subst h;cases us with
  |nil=>trivial
  |cons u us=>simp at b
 |.val v::r,l,us,h,b=>by
  cases us with
  |nil=>simp at b
  |cons u us=>
   simp only[map_cons,List.cons.injEq,CV.val.injEq]at b;simp only[Eb]at h;split at h
   .rename_i d c;simp only[ce]at h;subst h;exact⟨b.1.symm,I9 c b.2⟩
   .cases h
 |.lst _ _ _::_,l,us,h,_=>by simp[Eb]at h
 |.tup _::_,l,us,h,_=>by simp[Eb]at h
theorem MP{E sz n:Nat}{v:Value}{l:cv}(h:w.ownsRow 0 E sz v n l):v.oneCell'=true:=by
 rcases h.2 with⟨rfl,_⟩|⟨g,b,c,rfl,_⟩<;>rfl
theorem MN{σ:St}{k:Nat}:∀{l:dw},k∈pJ σ l->∃x∈l,∃off,σ.ev x= .at (.ptr k off)
 |[],h=>by cases h
 |x::r,h=>by
  have b:=λh=>MN (σ:=σ) (k:=k) (l:=r) h;have c:k∈pJ σ r->∃y∈x::r,∃off,σ.ev y= .at (.ptr k off):=λh=>let⟨y,hy,off,e⟩:=b h;⟨y,mem_cons_of_mem _ hy,off,e⟩
  simp only[pJ]at h
  grind
theorem ZO(X:∀g S,assoc C.specs g=some S->Sound C.P g S)(hM:aK B ι σ a w){c:Call}{g:Operand}{f:FuncId}{fs cs:Array Value}(ho:o.op= .call c)(hc:c.callee= .value g)
 (hg:σ.ev g= .at (.val (.func (.func f) fs cs)))(e8:fs.toList=[])(e9:cs.toList=[])(h:ZP C o f c.args.toList c.argTypes.toList σ K):Uo B C ι o σ K a w:=by
 intro next Q G
 unfold ZP at h;split at h
 .exact h.elim
 .rename_i S hS;obtain⟨⟨fn,c2,c3,c4⟩,Y⟩:=X f S hS;obtain⟨τ,c5,h,J⟩:=oT _ _ hM h;obtain⟨υ,q,h,Z⟩:=zU _ _ c5 h;split at h
  .rename_i R b0 c6;generalize HE C f=mv at*
   obtain⟨U,z⟩:=FK q 0 _ _ _ b0
   have b1:AK w υ.m υ.h R (c.args.toList.map a.eval):=by
    refine⟨U,q.wrel.hsat,q.wrel.msat,q.wrel.disj,?_,?_⟩
    .intro i j A d1 u v b N hu hj hv V a3;obtain⟨x,k,ow,hx,hm,hk,t,rfl⟩:=z i A u b N hu V;obtain⟨x',W,f',a4,c7,a',a5,rfl⟩:=z j d1 v b hj hv a3;have y:blk (ι k)=some b:=by cases A<;>simp[gA]at V;exact V
     have D:blk (ι W)=some b:=by cases d1<;>simp[gA]at a3;exact a3
     have c8:=q.dist k W _ _ b t a5 y D;subst c8;exact Ic (σ:=υ) (mv:=mv) 0 c.args.toList c6 i j x x' k hx a4 hm c7 hk a'
    .intro i A u b N hu V;obtain⟨x,k,ow,hx,hm,hk,t,rfl⟩:=z i A u b N hu V;have y:blk (ι k)=some b:=by cases A<;>simp[gA]at V;exact V
     exact(q.fresh k ow b t y).2
   have a6:=Y R _ υ.m υ.h w _ h b1;have c9:a.eval g= .func (.func f) fs cs:=by have:=hM.ev g;rw[hg]at this;exact this
   have b3:fs= #[]:=bk
   have b4:cs= #[]:=bk
   subst b3 b4;have a0:c.args.map a.eval=(c.args.toList.map a.eval).toArray:=bk
   have d':¬fn.body=none:=bk
   have d0:¬fn.name= "runtime.NumGoroutine" :=bk
   have b5:(execOp a.eval o).run C.P w= .ok (.enter f (c.args.toList.map a.eval).toArray) w:=by
    unfold execOp;simp only[ho,resolve,hc,c9,Deferred.ofValue,Sem.run_bind,Sem.run_pure,Result.andThen_ok,invoke,callFunc];simp[program,Sem.run,c2,d0,d',a0]
   unfold Oper.wp;rw[b5,Oper.upon_enter];refine Calls.mono a6 ?_;rintro e w' ⟨r,u,m',h',rfl,hK,hr,hw,V⟩;show next (a.put o.dst u) w'
   obtain⟨b6,f0,f4,a7⟩:=Ie (jX υ mv 0 c.args.toList) υ q
   have b7:∀b,tA υ.m R (c.args.toList.map a.eval) b->B.w0.heap.size<=b\/B.E b:=by
    rintro b (L|⟨i,A,O,N,F,s⟩)
    .cases H:υ.m b with
     |none=>grind
     |some ob=>exact q.wrel.mfr b ob H
    .obtain⟨x,k,ow,hx,H,hk,t,rfl⟩:=z i A O b N F s;have y:blk (ι k)=some b:=by cases A<;>simp[gA]at s;exact s
     exact(q.fresh k ow b t y).1
   have a8:∀j o' b,nth (BR υ (jX υ mv 0 c.args.toList)).own j=some (some o')->blk (ι j)=some b->¬tA υ.m R (c.args.toList.map a.eval) b:=by
    intro j o' b hj a1 b8;obtain⟨b9,o1,c'⟩:=a7 j o' hj;rcases b8 with L|⟨i,A,O,N,F,s⟩
    .exact L (q.fresh j o1 b c' a1).2.1
    .obtain⟨x,k,ow,hx,H,hk,t,rfl⟩:=z i A O b N F s;have y:blk (ι k)=some b:=by cases A<;>simp[gA]at s;exact s
     have:=q.dist j k _ _ b c' t a1 y;subst this;exact b9 (DJ 0 _ i x j hx aC hk)
   have a9:aK B ι {BR υ (jX υ mv 0 c.args.toList)with m:=m',h:=h'} a w':=by
    refine b6.called (E:=tA υ.m R (c.args.toList.map a.eval)) ?_ b7 a8
    grind
   have I:IX σ ι o w w':=by
    constructor
    .intro k p T d2 b hk ht hι;obtain⟨d3,d4⟩:=J.cells k p T d2 hk;have d5:=Ot J ht
     have d6:k∉pJ τ c.args.toList:=by
      unfold Ad at d5
      grind
     obtain⟨f5,a2⟩:=Z.cells k p T d3 d4 d6;have y:blk (ι k)=some b:=by rw[hι];rfl
     refine hw.frame b (qG (q.own k _ a2) y) ?_;rintro(L|⟨i,A,O,N,F,s⟩)
     .exact L (q.fresh k _ b a2 y).2.1
     .obtain⟨x,W,ow,hx,H,a',t,rfl⟩:=z i A O b N F s;have D:blk (ι W)=some b:=by cases A<;>simp[gA]at s;exact s
      have:=q.dist k W _ _ b a2 t y D;subst this;cases A<;>simp[gA]at s;rename_i E1 f6 f7;have b':=q.own k _ a2;obtain⟨b2,f8,e2,_,_⟩:=b'
      have e5:∃ad n cp,ι k= .slice ad n cp:=by
       have c0:∀(l:du)(vs:cv),Cy w l vs->∀(i:Nat)(A:CV)(O:Value),l[i]? =some A->vs[i]? =some O->Ea w A O:=by
        intro l
        induction l with
        |nil=>grind
        |cons x0 r0 d7=>
         intro vs hv i A O h1 h2;cases vs with
         |nil=>exact hv.elim
         |cons v0 d8=>
          cases i with
          |zero=>simp at h1 h2;subst h1 h2;exact hv.1
          |succ i=>simp at h1 h2;exact d7 d8 hv.2 i A O h1 h2
       have:=c0 _ _ U i _ _ N F;rcases this.2.2 with⟨e3,_⟩|⟨g3,e6,e7,e3,_⟩
       .grind
       grind
      grind
    .intro b M v hv;have h1:=J.imm b M v hv;rw[<-Z.imm]at h1;exact hw.hsat b M v (hw.hle b M v h1)
    .intro hg;rw[ho]at hg;simp[AR]at hg
    .intro l b hl V L hx;have hl:c.args.toList=l:=by simpa[rU,ho,hc]using hl
     refine hw.frame b V ?_;rintro(H|⟨i,A,O,N,F,s⟩)
     .obtain⟨k,hk,y⟩:=Z.m_ b (by rw[J.m_];exact L) H;obtain⟨x,d9,M,e'⟩:=MN hk;exact hx x (hl▸d9) k (.inr ⟨M,J.ptr x k M e'⟩) y
     .obtain⟨x,W,ow,a4,H,a',t,rfl⟩:=z i A O b N F s;have D:blk (ι W)=some b:=by cases A<;>simp[gA]at s;exact s
      exact hx x (hl▸bx a4) W (.inl (J.lst x W (Z.lst x W a'))) D
   unfold bXJ at hK;split at hK
   .rename_i v;exact G ι _ _ _ (a9.put o.dst (x:=.at (.val v)) hr) hK I
   .rename_i E sz xs;split at hK
    .rename_i d hd;rw[hd];generalize (jX υ mv 0 c.args.toList).headD d=kd at hK;refine G (upd ι kd u) _ _ _ (aK.put ?_ (some d) (x:=.at (.lst kd)) (by show _=_;simp)) hK I;refine a9.adopt kd _ u ⟨hr.1,hr.2⟩ (MP hr.2) (λb e0=>?_);obtain⟨f1,f2,f3⟩:=V b e0;refine⟨⟨?_,f2,f3⟩,?_⟩
     .rcases f1 with f1|f1
      .exact .inl (cr q.wrel.size f1)
      grind
     .intro j o' _ hj a1;have e1:nth (BR υ (jX υ mv 0 c.args.toList)).own j=some (some o'):=hj;rcases f1 with f1|f1
      .have:=qG (b6.own j o' e1) a1;omega
      grind
    grind
   .rename_i rs;split at hK
    .rename_i l hl;obtain⟨us,rfl,e4⟩:=hr;exact G ι _ _ _ (a9.put o.dst (x:=.tup l) ⟨us,rfl,I9 hl e4⟩) hK I
    grind
  grind
end
end Go.Vc
