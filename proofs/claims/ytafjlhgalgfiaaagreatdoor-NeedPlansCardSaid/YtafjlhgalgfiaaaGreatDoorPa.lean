/- Own work. -/
import Derived.Calls
import Derived.CallsIn
import Derived.Orders
import Derived.KernelRfl
import Derived.Laws.AppendOwn
import Derived.Laws.CopyRow
import Derived.Deep.AppendSrc
import Derived.Deep.LoopGhost
import Derived.Laws.StructEq
import Derived.Laws.BytesArg
import Derived.Laws.NewBlocks
import Derived.Great.BuildSlice
import Derived.Laws.MakeOwn
import Derived.Lib.AppendZerosOnto
set_option linter.unusedVariables false
set_option linter.unusedSimpArgs false
namespace Go
abbrev fa:=List (Nat×Operand)
abbrev eu:=List TypeId
abbrev dx:=List Operand
abbrev dt:=List Bool
abbrev dr:=List UInt8
abbrev dq:=List Nat
abbrev dm:=Nat->Value
abbrev dk:=List (Value×Value)
abbrev di:=List (Int×Bool)
abbrev dh:=List (Int×Int)
abbrev dc:=List Value
abbrev db:=List Int
universe u
theorem bz{α:Type u}{l:List α}{i:Nat}{a:α}(h:l[i]? =some a):i<l.length:=(_root_.List.getElem?_eq_some_iff.1 h).1
theorem cd{α:Type u}{l:List α}{i:Nat}(h:i<l.length):l[i]? =some l[i]:=_root_.List.getElem?_eq_getElem h
theorem ce{α:Type u}{l:List α}{i:Nat}{a:α}(h:l[i]? =some a):a∈l:=_root_.List.mem_of_getElem? h
theorem cg{α:Type u}{a b:List α}:(a++b).length=a.length+b.length:=_root_.List.length_append
theorem ci{α:Type u}{i:Nat}{l:List α}(h:l.length<=i):l.take i=l:=_root_.List.take_of_length_le h
theorem cj{α:Type u}{β:Type u}{f:α->β}{a b:List α}:(a++b).map f=a.map f++b.map f:=_root_.List.map_append
theorem ck{α:Type u}{a b:α}:(some a=some b)=(a=b):=Option.some.injEq a b
theorem cm{a b:Bool}:((a&&b)=true)=(a=true∧b=true):=Bool.and_eq_true a b
theorem cn{a b:Nat}(h:Nat.beq a b=true):a=b:=Nat.eq_of_beq_eq_true h
theorem cq{α:Type u}{l:List α}{i:Nat}:l.take (i+1)=l.take i++l[i]?.toList:=_root_.List.take_add_one
theorem cr{p:Prop}[Decidable p]:(decide p=true)=p:=decide_eq_true_eq
theorem ct{α:Type u}{a:Array α}{i:Nat}:a.toList[i]? =a[i]?:=Array.getElem?_toList
theorem cu{α:Type u}{a:α}{l:List α}:(a::l).length=l.length+1:=_root_.List.length_cons
theorem cv{a b c:Nat}(h:a<=b)(g:b<=c):a<=c:=Nat.le_trans h g
theorem cw{a b c:Nat}(h:a<b)(g:b<=c):a<c:=Nat.lt_of_lt_of_le h g
theorem bh{α:Sort u}{a b:α}(h:a=b:=by kernel_rfl):a=b:=h
theorem bi{p:Prop}(h:p:=by simp):p:=h
theorem bj{p:Prop}(h:p:=by decide):p:=h
theorem bk{p:Prop}(h:p:=by simp_all):p:=h
theorem bm{p:Prop}(h:p:=by rw[@List.length_map];omega):p:=h
theorem bn{p:Prop}(h:p:=by simp;omega):p:=h
theorem bo{p:Prop}(h:p:=by grind):p:=h
theorem br{p:Prop}(h:p:=by dsimp only;omega):p:=h
theorem bu{p:Prop}(h:p:=by dsimp only;omega):p:=h
theorem bt{a i:Nat}(h:i<a:=by omega):a-(i+1)<a-i:=by omega
theorem bx{p q:Prop}(h:p)(e:p->q:=by intro h;simpa using h):q:=e h
theorem aD{p:Prop}(h:p:=by omega):p:=h
end Go
namespace Go.Vc
open Go List
abbrev PH:=Nat->Nat->Option Value
abbrev MH:=Nat->Option Obj
abbrev en:=Int×Nat×dh×(Int×Int)×Bool×MH
structure Sl where
 a:Option Addr
 len:Nat
 cap:Nat
abbrev fb:=List (Value×Sl)
abbrev ef:=List (ByteArray×Sl)
abbrev dg:=List Sl
def Sl.val(s:Sl):Value:=.slice s.a s.len s.cap
inductive At where
 |val (v:Value)
 |ptr (k o:Nat)
 |lst (k:Nat)
 |el (k i sz o:Nat)
 |junk
abbrev dv:=List At
inductive SV where
 |at(x:At)
 |agg (cs:dv)
 |tup (xs:List (Sum At dv))
abbrev ej:=List SV
inductive Own where
 |cellsP (p:Option Nat) (T:TypeId) (cs:dv)
 |lst (E:TypeId) (sz:Nat) (xs:List dc)
abbrev ei:=List (Option Own)
abbrev Own.cells(T:TypeId)(cs:dv):Own:=.cellsP none T cs
structure St where
 sl:ej
 own:ei
 m:MH
 h:PH
inductive CV where
 |val (v:Value)
 |lst (E:TypeId) (sz:Nat) (xs:List dc)
 |tup (xs:List CV)
abbrev du:=List CV
abbrev da:=CV->MH->PH->Prop
abbrev Spec:=du->MH->PH->da->Prop
structure Dec where
 X:Type
 enc:X->dc
inductive Hm where
 |normal
 |exit (id:Nat)
 |ret
structure PU where
 A:Type
 st:A->St
 inv:A->Prop
 mu:A->Nat
structure aBZ where
 A:Type
 st:A->St
 inv:A->Prop
structure zT where
 A:Type
 st:A->St
 frz:Bool:=false
abbrev em:=List (Nat×zT)
structure Ctx where
 P:Program
 loops2:em
 cuts2:em
 rcuts:List (Nat×em)
 heapT:eu
 specs:List (Nat×Spec)
 dec:TypeId->Dec
 loops:List (Nat×PU)
 cuts:List (Nat×aBZ)
 moves:List (Nat×dq)
 retMove:Bool
 yield:Option Spec
 elemT:eu:=[]
def nth{α:Type}:List α->Nat->Option α
 |[],_=>none
 |x::_,0=>some x
 |_::xs,n+1=>nth xs n
def Sy:dq->Nat->Bool
 |[],_=>false
 |x::r,n=>match Nat.beq x n with|true=>true|false=>Sy r n
def assoc.{u}{α:Type u}:List (Nat×α)->Nat->Option α
 |[],_=>none
 |(k,v)::r,n=>match Nat.beq k n with|true=>some v|false=>assoc r n
def branch(c:Bool)(A B:Prop):=match c with|true=>A|false=>B
def St.ev(σ:St):Operand->SV
 |.tmp t=>match nth σ.sl t with|some x=>x|none=>.at .junk
 |.const v=>.at (.val v)
 |.global g=>.at (.val (.pointer (some ⟨g,0,none⟩)))
 |.func f=>.at (.val (.func (.func f) #[] #[]))
def St.put(σ:St)(d:Option Tmp)(x:SV):=
 match d with
 |some d=>{σ with sl:=σ.sl.set d x}
 |none=>σ
def At.sub(k:Nat)(f:At->At):At->At
 |.val v=>.val v
 |.ptr j o=>match Nat.beq j k with|true=>f (.ptr j o)|false=>.ptr j o
 |.lst j=>match Nat.beq j k with|true=>f (.lst j)|false=>.lst j
 |.el j i a o=>match Nat.beq j k with|true=>f (.el j i a o)|false=>.el j i a o
 |.junk=>.junk
def SV.sub(k:Nat)(f:At->At):SV->SV
 |.at x=>.at (x.sub k f)
 |.agg a=>.agg (a.map (At.sub k f))
 |.tup b=>.tup (b.map λ |.inl x=>.inl (x.sub k f)|.inr a=>.inr (a.map (At.sub k f)))
def Own.sub(k:Nat)(f:At->At):Own->Own
 |.cellsP p T a=>.cellsP p T (a.map (At.sub k f))
 |.lst E b c=>.lst E b c
def St.sub(σ:St)(k:Nat)(f:At->At):=
 {σ with sl:=σ.sl.map (SV.sub k f),own:=σ.own.map (Option.map (Own.sub k f))}
def St.kill(σ:St)(k:Nat):=
 let τ:=σ.sub k (λ_=>.junk)
 {τ with own:=τ.own.set k none}
def St.setOwn(σ:St)(k:Nat)(o:Option Own):={σ with own:=σ.own.set k o}
def At.val? :At->Option Value
 |.val v=>some v
 |_=>none
def xV:dv->Option dc
 |[]=>some []
 |.val v::r=>match xV r with|some l=>some (v::l)|none=>none
 |_::_=>none
def SV.val? :SV->Option Value
 |.at (.val v)=>some v
 |.agg a=>match xV a with|some l=>some (.agg l.toArray)|none=>none
 |_=>none
def SV.cells? :SV->Option dv
 |.at (.val (.agg a))=>some (a.toList.map .val)
 |.at (.val (.tuple _))=>none
 |.at .junk=>none
 |.at x=>some [x]
 |.agg a=>some a
 |.tup _=>none
def At.storable:At->Bool
 |.val (.agg _)=>false
 |.val (.tuple _)=>false
 |.junk=>false
 |_=>true
def vZ:dv->Bool
 |[]=>true
 |x::r=>match x.storable with|true=>vZ r|false=>false
def Ci{α:Type}(P:Program):Sem α->Option α
 |.pure a=>some a
 |.program k=>Ci P (k P)
 |.mark _ k=>Ci P k
 |_=>none
def St.rho(σ:St)(x:Operand):=match(σ.ev x).val? with|some v=>v|none=>undef
def PR(σ:St):dx->Bool
 |[]=>true
 |x::r=>match(σ.ev x).val? with|some _=>PR σ r|none=>false
structure bU(h:PH)(b o:Nat)(l:dc):Prop where
 rd:∀i v,l[i]? =some v->h b (o+i)=some v
inductive aL(m:MH)(h:PH)(b off:Nat)(l:dc):Prop
 |imm (hr:bU h b off l):aL m h b off l
 |lent (cs:Array Value) (E:TypeId) (fz:Nat×Nat) (hm:m b=some (.cells cs E fz)) (hl:(cs.toList.drop off).take l.length=l):aL m h b off l
structure Ze(m:MH)(b:Nat)(o:Obj):Prop where
 at_:m b=some o
structure rT(m:MH)(h:PH)(b:Nat):Prop where
 m_:m b=none
 h_:∀i,h b i=none
def Bc(P:Program)(t:TypeId):=
 match P.underlying t with
 |some (.struct _)=>true
 |some (.array _ _)=>true
 |_=>false
def mk(P:Program)(T:TypeId)(cs:dv):SV:=
 match Bc P T with
 |true=>.agg cs
 |false=>match cs with|[x]=>.at x|_=>.at .junk
def Ae(C:Ctx)(o:Oper)(σ:St)(K:St->Prop):=
 match PR σ o.op.operands.toList with
 |true=>match Ci C.P (execOp σ.rho o)with
  |some (.value v)=>K (σ.put o.dst (.at (.val v)))
  |_=>False
 |false=>False
def jU(P:Program)(T:TypeId):=
 match P.underlying T with
 |some _=>match P.cellsOf T with|0=>false|_=>true
 |none=>false
def bXJ(C:Ctx)(T:TypeId)(R K:dc->Prop):=
 ∃y:(C.dec T).X,R ((C.dec T).enc y)/\
  match Nat.beq ((C.dec T).enc y).length (C.P.cellsOf T)with
  |true=>K ((C.dec T).enc y)
  |false=>False
def ZN(C:Ctx)(o:Oper)(T:TypeId)(x:Operand)(σ:St)(K:St->Prop):=
 match jU C.P T with
 |false=>False
 |true=>
  match σ.ev x with
  |.at (.ptr k a)=>
   match nth σ.own k with
   |some (some (.cellsP _ _ c))=>
    match Nat.ble (a+C.P.cellsOf T) c.length with
    |true=>K (σ.put o.dst (mk C.P T ((c.drop a).take (C.P.cellsOf T))))
    |false=>False
   |_=>False
  |.at (.el k i d a)=>
   match nth σ.own k with
   |some (some (.lst _ s f))=>
    match Nat.beq s d with
    |true=>∃e:dc,f[i]? =some e/\bXJ C T (λl=>(e.drop a).take (C.P.cellsOf T)=l) λl=>K (σ.put o.dst (mk C.P T (l.map .val)))
    |false=>False
   |_=>False
  |.at (.val (.pointer (some ⟨b,a,none⟩)))=>
   bXJ C T (aL σ.m σ.h b a) λl=>K (σ.put o.dst (mk C.P T (l.map .val)))
  |_=>False
def splice{α}(cs:List α)(off:Nat)(new:List α):=cs.take off++new++cs.drop (off+new.length)
structure pO(m m':MH)(b:Nat)(o:Obj):Prop where
 at_:m' b=some o
 other:∀b',b'≠b->m' b'=m b'
def Vh(C:Ctx)(T:TypeId)(x v:Operand)(σ:St)(K:St->Prop):=
 match(σ.ev v).cells? with
 |none=>False
 |some new=>
 match Nat.beq new.length (C.P.cellsOf T),vZ new,jU C.P T with
 |true,true,true=>
  match σ.ev x with
  |.at (.ptr k a)=>
   match nth σ.own k with
   |some (some (.cellsP p E c))=>
    match Nat.ble (a+new.length) c.length with
    |true=>K (σ.setOwn k (some (.cellsP p E (splice c a new))))
    |false=>False
   |_=>False
  |.at (.el k i g a)=>
   match nth σ.own k,xV new with
   |some (some (.lst E s d)),some l=>
    match Nat.beq s g with
    |true=>∃e:dc,d[i]? =some e/\a+l.length<=e.length/\
     K (σ.setOwn k (some (.lst E s (d.set i (splice e a l)))))
    |false=>False
   |_,_=>False
  |.at (.val (.pointer (some ⟨b,a,none⟩)))=>
   match xV new with
   |some l=>∃(c:Array Value)(E:TypeId),Ze σ.m b (.cells c E (0,0))/\a+l.length<=c.size/\
    ∀f:MH,pO σ.m f b (.cells (splice c.toList a l).toArray E (0,0))->K {σ with m:=f}
   |none=>False
  |_=>False
 |_,_,_=>False
def Me(P:Program)(T:TypeId)(f:Nat):=
 match P.underlying T with
 |some (.struct a)=>match nth a.toList f with
  |some g=>match Nat.beq (P.cellsOf g.type) 0 with|true=>none|false=>some (g.offset,g.type)
  |none=>none
 |_=>none
def Ia(C:Ctx)(o:Oper)(T:TypeId)(x:Operand)(f:Nat)(σ:St)(K:St->Prop):=
 match Me C.P T f with
 |none=>False
 |some (g,_)=>
  match σ.ev x with
  |.at (.ptr k a)=>K (σ.put o.dst (.at (.ptr k (a+g))))
  |.at (.el k i c a)=>K (σ.put o.dst (.at (.el k i c (a+g))))
  |.at (.val (.pointer (some ⟨b,a,none⟩)))=>K (σ.put o.dst (.at (.val (.pointer (some ⟨b,a+g,none⟩)))))
  |_=>False
def J9(o:Oper)(x:Operand)(σ:St)(K:St->Prop):=
 match σ.ev x with
 |.at (.ptr k b)=>K (σ.put o.dst (.at (.ptr k b)))
 |.at (.el k i c b)=>K (σ.put o.dst (.at (.el k i c b)))
 |.at (.val (.pointer (some a)))=>K (σ.put o.dst (.at (.val (.pointer (some a)))))
 |_=>False
def HY(C:Ctx)(o:Oper)(T:TypeId)(x i:Operand)(σ:St)(K:St->Prop):Prop:=
 match σ.ev i with
 |.at (.val (.int _ n))=>
  match C.P.underlying T with
  |some (.slice E)=>
   match jU C.P E with
   |true=>
    match σ.ev x with
    |.at (.lst k)=>
     match nth σ.own k with
     |some (some (.lst _ d e))=>match Nat.beq d (C.P.cellsOf E)with
      |true=>0<=n/\n<(e.length:Int)/\K (σ.put o.dst (.at (.el k n.toNat d 0)))
      |false=>False
     |_=>False
    |.at (.val (.slice a len _))=>
     ∃b c,a=some ⟨b,c,none⟩/\0<=n/\n<(len:Int)/\
      K (σ.put o.dst (.at (.val (.pointer (some ⟨b,c+n.toNat*C.P.cellsOf E,none⟩)))))
    |_=>False
   |false=>False
  |some (.array len E)=>
   match jU C.P E with
   |true=>
    match σ.ev x with
    |.at (.ptr k c)=>0<=n/\n<(len:Int)/\K (σ.put o.dst (.at (.ptr k (c+n.toNat*C.P.cellsOf E))))
    |.at (.val (.pointer (some ⟨b,c,none⟩)))=>0<=n/\n<(len:Int)/\K (σ.put o.dst (.at (.val (.pointer (some ⟨b,c+n.toNat*C.P.cellsOf E,none⟩)))))
    |_=>False
   |false=>False
  |_=>False
 |_=>False
def aNZ(o:Oper)(op:BinOp)(x y:Operand)(σ:St)(K:St->Prop):=
 match σ.ev x,σ.ev y with
 |.at (.val (.int k a)),.at (.val (.int c b))=>
  match decide (k=c)with
  |true=>
   b≠0/\(match op with
    |.quo=>K (σ.put o.dst (.at (.val (.int k (k.wrap (a.tdiv b))))))
    |.rem=>K (σ.put o.dst (.at (.val (.int k (a.tmod b)))))
    |_=>False)
  |false=>False
 |_,_=>False
def RQ(C:Ctx)(o:Oper)(x y:Operand)(σ:St)(K:St->Prop):=
 match σ.ev x,σ.ev y with
 |.at (.val (.string a)),.at (.val (.string b))=>a.size+b.size<=9223372036854775807/\K (σ.put o.dst (.at (.val (.string (a++b)))))
 |_,_=>Ae C o σ K
def Zw(o:Oper)(c a b:Operand)(σ:St)(K:St->Prop):=
 match σ.ev c with
 |.at (.val (.bool t))=>branch t (K (σ.put o.dst (σ.ev a))) (K (σ.put o.dst (σ.ev b)))
 |_=>False
structure cO(h:PH)(s:Sl)(sz:Nat)(xs:List dc):Prop where
 len:s.len=xs.length
 row:xs=[]\/∃b o,s.a=some ⟨b,o,none⟩/\∀i e,xs[i]? =some e->bU h b (o+i*sz) e
 cap:s.len<=s.cap
structure PH.le(h h':PH):Prop where
 le:∀b o v,h b o=some v->h' b o=some v
def yB(σ:St)(K:St->Prop):dq->Prop
 |[]=>K σ
 |k::ks=>
  match nth σ.own k with
  |some (some (.lst _ b c))=>
   ∀(s:Sl)(a:PH),PH.le σ.h a->cO a s b c->
    yB {(σ.sub k (λ |.lst _=>.val s.val|_=>.junk)).setOwn k none with h:=a} K ks
  |_=>False
def Nc:dv->dq
 |[]=>[]
 |.lst k::r=>match(Nc r).contains k with|true=>Nc r|false=>k::Nc r
 |_::r=>Nc r
def SV.keys:SV->dq
 |.at x=>Nc [x]
 |.agg a=>Nc a
 |.tup _=>[]
def zeroCells(P:Program)(T:TypeId):=
 match P.info? T with
 |some i=>match i.zero with
  |some v=>some v.cells.toList
  |none=>none
 |none=>none
def V4(C:Ctx)(o:Oper)(T:TypeId)(σ:St)(K:St->Prop):=
 match o.dst,zeroCells C.P T with
 |some d,some z=>K (((σ.kill d).setOwn d (some (.cells T (z.map .val)))).put (some d) (.at (.ptr d 0)))
 |_,_=>False
def aOX(o:Oper)(T:TypeId)(x:Operand)(σ:St)(K:St->Prop):=
 match o.dst,(σ.ev x).cells? with
 |some d,some a=>K (((σ.kill d).setOwn d (some (.cells T (a.map (At.sub d (λ_=>.junk)))))).put (some d) (.at (.ptr d 0)))
 |_,_=>False
def partAt(P:Program)(T:TypeId)(i:Nat):=
 match P.underlying T with
 |some (.struct a)=>match nth a.toList i with|some g=>some (g.offset,P.cellsOf g.type)|none=>none
 |some (.array _ E)=>some (i*P.cellsOf E,P.cellsOf E)
 |_=>none
def Qw(P:Program)(T:TypeId):=
 match P.underlying T with
 |some (.struct a)=>a.toList.all λf=>(P.info? f.type).isSome
 |some (.array _ E)=>(P.info? E).isSome
 |_=>false
def Fx(P:Program)(T:TypeId)(σ:St):fa->dv->Option dv
 |[],c=>some c
 |(i,x)::r,c=>
  match partAt P T i,(σ.ev x).cells? with
  |some (a,b),some new=>
   match Nat.beq new.length b,Nat.ble (a+new.length) c.length with
   |true,true=>Fx P T σ r (splice c a new)
   |_,_=>none
  |_,_=>none
def V1(C:Ctx)(o:Oper)(T:TypeId)(parts:fa)(σ:St)(K:St->Prop):=
 match zeroCells C.P T with
 |some z=>match Fx C.P T σ parts (z.map .val),Qw C.P T with
  |some a,true=>K (σ.put o.dst (.agg a))
  |_,_=>False
 |none=>False
def Fw(σ:St)(sz:Nat):fa->List dc->Option (List dc)
 |[],a=>some a
 |(i,x)::r,a=>
  match(σ.ev x).cells? with
  |some b=>match xV b with
   |some l=>match Nat.beq l.length sz,Nat.ble (i+1) a.length,vZ b with
    |true,true,true=>Fw σ sz r (a.set i l)
    |_,_,_=>none
   |none=>none
  |none=>none
def HH(σ:St):dx->dq
 |[]=>[]
 |x::r=>(σ.ev x).keys++(HH σ r).filter (λk=> !(σ.ev x).keys.contains k)
def elemOf(P:Program)(T:TypeId):=
 match P.underlying T with
 |some (.slice E)=>match zeroCells P E with
  |some z=>match Nat.beq z.length (P.cellsOf E),Nat.beq (P.cellsOf E) 0,z.all Value.oneCell' with
   |true,false,true=>some (E,z)
   |_,_,_=>none
  |none=>none
 |_=>none
def G9(C:Ctx)(o:Oper)(T:TypeId)(n:Nat)(parts:fa)(σ:St)(K:St->Prop):=
 yB σ (λτ=>
  match o.dst,elemOf C.P T with
  |some d,some (E,z)=>
   match Fw τ (C.P.cellsOf E) parts (replicate n z),Nat.ble (n*C.P.cellsOf E) 16777216 with
   |some a,true=>K (((τ.kill d).setOwn d (some (.lst E (C.P.cellsOf E) a))).put (some d) (.at (.lst d)))
   |_,_=>False
  |_,_=>False) (HH σ (parts.map (·.2)))
structure eU(sz:Nat)(ys:List dc):Prop where
 len:∀e∈ys,e.length=sz
 one:∀e∈ys,∀u∈e,u.oneCell'=true
structure fA(m:MH)(s:Sl)(E:TypeId)(sz:Nat)(xs:List dc):Prop where
 rows:eU sz xs
 ex:(s=⟨none,0,0⟩/\xs=[])\/∃b cap cur,s=⟨some ⟨b,0,none⟩,xs.length,cap⟩/\m b=some (.cells cur E (0,0))/\xs.length<=cap/\cap<=maxLen/\cur.size=cap*sz/\cur.toList.take (xs.length*sz)=xs.flatten
structure sX(m m':MH)(h:PH)(s:Sl)(E:TypeId)(sz:Nat)(xs:List dc):Prop where
 row:fA m' s E sz xs
 other:∀b,(∀i,s.a≠some ⟨b,i,none⟩)->m' b=m b
 fresh:∀b i,s.a=some ⟨b,i,none⟩->rT m h b
def Fs(σ:St)(K:St->Prop):dq->Prop
 |[]=>K σ
 |k::ks=>
  match nth σ.own k with
  |some (some (.lst E b c))=>
   ∀(s:Sl)(a:MH),sX σ.m a σ.h s E b c->
    Fs {(σ.sub k (λ |.lst _=>.val s.val|_=>.junk)).setOwn k none with m:=a} K ks
  |_=>False
def HR(C:Ctx)(o:Oper)(T:TypeId)(l c:Operand)(σ:St)(K:St->Prop):=
 match o.dst,elemOf C.P T,σ.ev l,σ.ev c with
 |some d,some (E,z),.at (.val (.int _ n)),.at (.val (.int _ m))=>
  0<=n/\n<=m/\m*(C.P.bytesOf E:Int)<=281474976710656/\m<=281474976710656/\
   K (((σ.kill d).setOwn d (some (.lst E (C.P.cellsOf E) (replicate n.toNat z)))).put (some d) (.at (.lst d)))
 |_,_,_,_=>False
def gR(s:ByteArray):List dc:=s.data.toList.map λb=>[.int .u8 b.toNat]
inductive sV(m:MH)(h:PH)(s:Sl)(sz:Nat)(ys:List dc):Prop
 |imm (hr:cO h s sz ys):sV m h s sz ys
 |lent (b o:Nat) (cs:Array Value) (E:TypeId) (fz:Nat×Nat) (hs:s.a=some ⟨b,o,none⟩) (hn:s.len=ys.length) (hm:m b=some (.cells cs E fz)) (hl:(cs.toList.drop o).take ys.flatten.length=ys.flatten):sV m h s sz ys
def cPJ(a:Bool)(σ:St)(s:Sl)(sz:Nat)(b:List dc):=match a with|true=>sV σ.m σ.h s sz b|false=>cO σ.h s sz b
def Og(P:Program)(b:Bool)(σ:St)(sz:Nat)(tx:TypeId)(y:SV)(K:List dc->Prop):=
 match y,P.underlying tx with
 |.at (.lst k),some (.slice _)=>match nth σ.own k with
  |some (some (.lst _ s d))=>match Nat.beq s sz with|true=>K d|false=>False
  |_=>False
 |.at (.val (.slice a n c)),some (.slice _)=>∃d:List dc,eU sz d/\cPJ b σ ⟨a,n,c⟩ sz d/\K d
 |.at (.val (.string s)),some .string=>match Nat.beq sz 1 with|true=>K (gR s)|false=>False
 |_,_=>False
structure kK(m m':MH)(s s':Sl)(E:TypeId)(sz:Nat)(zs:List dc):Prop where
 row:fA m' s' E sz zs
 other:∀b o,m b=some o->(∀i,s.a≠some ⟨b,i,none⟩)->m' b=some o
 fresh:∀b i,s'.a=some ⟨b,i,none⟩->m b=none\/∃i,s.a=some ⟨b,i,none⟩
def sameKey(y:SV)(k:Nat):=match y with|.at (.lst a)=>Nat.beq a k|_=>false
def aCZ(y:SV)(d:Option TypeDesc):=
 match d with
 |some (.int _)=>match y with
  |.at (.val (.int _ n))=>some n
  |_=>none
 |_=>none
def Tc(C:Ctx):=match C.heapT with|[]=>false|_=>true
def inM(C:Ctx)(T:TypeId):=Sy C.heapT (1000+T)
def c1Q(C:Ctx)(T:TypeId):=Sy C.heapT (3000+T)
def RX(C:Ctx)(o:Oper)(T tx:TypeId)(x y:Operand)(σ:St)(K:St->Prop):=
 match o.dst,elemOf C.P T with
 |some d,some (E,z)=>
  match inM C T,c1Q C T,σ.ev x with
  |false,true,.at (.val (.slice a n c))=>
   c=n/\∃e:List dc,eU (C.P.cellsOf E) e/\cO σ.h ⟨a,n,c⟩ (C.P.cellsOf E) e/\
    Og C.P (Tc C) σ (C.P.cellsOf E) tx (σ.ev y) λb=>
     (a=none\/0<b.length)/\(e.length+b.length)*C.P.bytesOf E<=140737488355328/\e.length+b.length<=140737488355328/\
     K (((σ.kill d).setOwn d (some (.lst E (C.P.cellsOf E) (e++b)))).put (some d) (.at (.lst d)))
  |true,_,.at (.val (.slice a n c))=>
   ∃e:List dc,fA σ.m ⟨a,n,c⟩ E (C.P.cellsOf E) e/\
    Og C.P (Tc C) σ (C.P.cellsOf E) tx (σ.ev y) λb=>
     (e.length+b.length)*C.P.bytesOf E<=140737488355328/\e.length+b.length<=140737488355328/\
     ∀(f:Sl)(g:MH),kK σ.m g ⟨a,n,c⟩ f E (C.P.cellsOf E) (e++b)->K ({σ with m:=g}.put (some d) (.at (.val f.val)))
  |_,_,_=>match σ.ev x with
  |.at (.val (.slice none 0 0))=>
   match aCZ (σ.ev y) (C.P.underlying tx)with
   |some n=>0<n/\n*(C.P.bytesOf E:Int)<=140737488355328/\n<=140737488355328/\
    K (((σ.kill d).setOwn d (some (.lst E (C.P.cellsOf E) (replicate n.toNat z)))).put (some d) (.at (.lst d)))
   |none=>Og C.P (Tc C) σ (C.P.cellsOf E) tx (σ.ev y) λb=>
    b.length*C.P.bytesOf E<=140737488355328/\b.length<=140737488355328/\
    K (((σ.kill d).setOwn d (some (.lst E (C.P.cellsOf E) b))).put (some d) (.at (.lst d)))
  |.at (.lst k)=>
   match nth σ.own k,sameKey (σ.ev y) k with
   |some (some (.lst E' i e)),false=>
    match Nat.beq E' E,Nat.beq i (C.P.cellsOf E)with
    |true,true=>
     Og C.P (Tc C) σ i tx (σ.ev y) λb=>
      (e.length+b.length)*C.P.bytesOf E<=140737488355328/\e.length+b.length<=140737488355328/\
      K (((σ.kill k).setOwn k (some (.lst E i (e++b)))).put (some d) (.at (.lst k)))
    |_,_=>False
   |_,_=>False
  |.at (.val (.slice a n c))=>
   ∃e:List dc,fA σ.m ⟨a,n,c⟩ E (C.P.cellsOf E) e/\
    Og C.P (Tc C) σ (C.P.cellsOf E) tx (σ.ev y) λb=>
     (e.length+b.length)*C.P.bytesOf E<=140737488355328/\e.length+b.length<=140737488355328/\
     ∀(f:Sl)(g:MH),kK σ.m g ⟨a,n,c⟩ f E (C.P.cellsOf E) (e++b)->K ({σ with m:=g}.put (some d) (.at (.val f.val)))
  |_=>False
 |_,_=>False
def Xk(P:Program)(ts:eu):=
 match ts with
 |t::_=>match P.underlying t with
  |some (.slice _)=>true
  |_=>false
 |[]=>false
def bAZ(C:Ctx)(o:Oper)(x:Operand)(ts:eu)(σ:St)(K:St->Prop):=
 match σ.ev x with
 |.at (.lst k)=>match nth σ.own k,Xk C.P ts with
  |some (some (.lst _ _ a)),true=>K (σ.put o.dst (.at (.val (.int .i64 a.length))))
  |_,_=>False
 |_=>Ae C o σ K
structure xD(sz:Nat)(x:Sl)(i:Nat)(s:Sl):Prop where
 a_:s.a=if x.cap=i then x.a else x.a.map λy=>y.add (i*sz)
 len:s.len=x.len-i
 cap:s.cap=x.cap-i
def Vl(C:Ctx)(o:Oper)(T:TypeId)(x:Operand)(f g h:Option Operand)(σ:St)(K:St->Prop):=
 match σ.ev x,f,g,h with
 |.at (.lst k),none,some n,none=>
  match nth σ.own k,σ.ev n,C.P.underlying T with
  |some (some (.lst E l e)),.at (.val (.int _ i)),some (.slice E')=>
   match jU C.P E' with
   |true=>0<=i/\i<=(e.length:Int)/\K (((σ.kill k).setOwn k (some (.lst E l (e.take i.toNat)))).put o.dst (.at (.lst k)))
   |false=>False
  |_,_,_=>False
 |.at (.val (.slice a _ c)),none,some n,none=>
  match σ.ev n,C.P.underlying T with
  |.at (.val (.int _ i)),some (.slice E')=>
   match jU C.P E' with
   |true=>0<=i/\i<=(c:Int)/\K (σ.put o.dst (.at (.val (.slice a i.toNat c))))
   |false=>False
  |_,_=>False
 |.at (.val (.slice a _ c)),none,some n,some k=>
  match σ.ev n,σ.ev k,C.P.underlying T with
  |.at (.val (.int _ i)),.at (.val (.int _ j)),some (.slice E')=>
   match jU C.P E' with
   |true=>0<=i/\i<=j/\j<=(c:Int)/\K (σ.put o.dst (.at (.val (.slice a i.toNat j.toNat))))
   |false=>False
  |_,_,_=>False
 |.at (.val (.slice a len c)),some n,none,none=>
  match σ.ev n,C.P.underlying T with
  |.at (.val (.int _ i)),some (.slice E')=>
   match jU C.P E' with
   |true=>0<=i/\i<=(len:Int)/\len<=c/\∀s:Sl,xD (C.P.cellsOf E') ⟨a,len,c⟩ i.toNat s->K (σ.put o.dst (.at (.val (.slice s.a s.len s.cap))))
   |false=>False
  |_,_=>False
 |.at (.val (.pointer (some ⟨b,d,none⟩))),none,some n,none=>
  match σ.ev n,C.P.underlying T with
  |.at (.val (.int _ i)),some (.array len E')=>
   match jU C.P E' with
   |true=>0<=i/\i<=(len:Int)/\K (σ.put o.dst (.at (.val (.slice (some ⟨b,d,none⟩) i.toNat len))))
   |false=>False
  |_,_=>False
 |_,_,_,_=>False
def VR(C:Ctx)(o:Oper)(T:TypeId)(x:Operand)(f:Nat)(σ:St)(K:St->Prop):=
 match Me C.P T f,(σ.ev x).cells?,(match σ.ev x with|.agg _=>true|.at (.val (.agg _))=>true|_=>false)with
 |some (g,T'),some a,true=>
  match Nat.ble (g+C.P.cellsOf T') a.length&&jU C.P T' with
  |true=>K (σ.put o.dst (mk C.P T' ((a.drop g).take (C.P.cellsOf T'))))
  |false=>False
 |_,_,_=>False
def VJ(P:Program)(E:TypeId)(cs:dv)(n:Int)(K:SV->Prop):Nat->Nat->Prop
 |0,_=>True
 |f+1,i=>branch (n==(i:Int)) (K (mk P E ((cs.drop (i*P.cellsOf E)).take (P.cellsOf E)))) (VJ P E cs n K f (i+1))
def VI(C:Ctx)(o:Oper)(T:TypeId)(x i:Operand)(σ:St)(K:St->Prop):=
 match σ.ev i,C.P.underlying T with
 |.at (.val (.int _ n)),some (.array len E)=>
  match(σ.ev x).cells? with
  |some a=>match Nat.beq a.length (len*C.P.cellsOf E),jU C.P E,(match σ.ev x with|.agg _=>true|.at (.val (.agg _))=>true|_=>false)with
   |true,true,true=>0<=n/\n<(len:Int)/\VJ C.P E a n (λv=>K (σ.put o.dst v)) len 0
   |_,_,_=>False
  |none=>False
 |.at (.val (.int _ n)),some .string=>
  match σ.ev x with
  |.at (.val (.string s))=>0<=n/\∃b,s.data.toList[n.toNat]? =some b/\K (σ.put o.dst (.at (.val (.int .u8 b.toNat))))
  |_=>False
 |_,_=>False
def NM(C:Ctx)(o:Oper)(x:Operand)(i:Nat)(σ:St)(K:St->Prop):=
 match σ.ev x with
 |.tup a=>match nth a i with
  |some (.inl y)=>K (σ.put o.dst (.at y))
  |some (.inr b)=>K (σ.put o.dst (.agg b))
  |none=>False
 |_=>Ae C o σ K
def bJ(a:dr):List dc:=a.map λb=>[.int .u8 b.toNat]
def NP(C:Ctx)(o:Oper)(src a:TypeId)(x:Operand)(σ:St)(K:St->Prop):=
 match σ.ev x with
 |.at (.lst k)=>
  match nth σ.own k,C.P.underlying src,C.P.underlying a with
  |some (some (.lst _ _ c)),some (.slice E),some .string=>
   match C.P.underlying E with
   |some (.int .u8)=>∃b:dr,c=bJ b/\K (σ.put o.dst (.at (.val (.string ⟨b.toArray⟩))))
   |_=>False
  |_,_,_=>False
 |_=>Ae C o σ K
def rV(σ:St):dx->dq
 |[]=>[]
 |x::r=>match σ.ev x with
  |.at (.ptr k _)=>match(rV σ r).contains k with|true=>rV σ r|false=>k::rV σ r
  |_=>rV σ r
def HT(σ:St)(K:St->Prop):dq->Prop
 |[]=>K σ
 |k::ks=>
  match nth σ.own k with
  |some (some (.cellsP _ T c))=>
   match xV c with
   |some l=>
    ∀(b:Nat)(a:MH),rT σ.m σ.h b->pO σ.m a b (.cells l.toArray T (0,0))->
     HT {(σ.sub k (λ |.ptr _ o=>.val (.pointer (some ⟨b,o,none⟩))|_=>.junk)).setOwn k none with m:=a} K ks
   |none=>False
  |_=>False
def uK(P:Program)(σ:St)(mv:dq):Nat->dx->eu->Option du
 |_,[],_=>some []
 |i,x::r,b=>
  match uK P σ mv (i+1) r b.tail with
  |none=>none
  |some a=>
   match mv.contains i with
   |true=>match σ.ev x with
    |.at (.lst k)=>match nth σ.own k with
     |some (some (.lst E c d))=>some (.lst E c d::a)
     |_=>none
    |.at (.val (.slice none 0 0))=>match elemOf P (b.headD 0)with
     |some (E,_)=>some (.lst E (P.cellsOf E) []::a)
     |none=>none
    |_=>none
   |false=>match(σ.ev x).val? with
    |some u=>some (.val u::a)
    |none=>none
def kV(σ:St)(mv:dq):Nat->dx->dq
 |_,[]=>[]
 |i,x::r=>match mv.contains i,σ.ev x with
  |true,.at (.lst k)=>k::kV σ mv (i+1) r
  |_,_=>kV σ mv (i+1) r
def GX(mv:dq):Nat->dx->dx
 |_,[]=>[]
 |i,x::r=>match mv.contains i with
  |true=>GX mv (i+1) r
  |false=>x::GX mv (i+1) r
def Dk(σ:St):dq->St
 |[]=>σ
 |k::ks=>Dk (σ.kill k) ks
def FO:du->Option (List (Sum At dv))
 |[]=>some []
 |.val v::r=>match FO r with|some l=>some (.inl (.val v)::l)|none=>none
 |_::_=>none
def cGX(o:Oper)(σ:St)(a:dq)(K:St->Prop)(r:CV)(m:MH)(h:PH):=
 match r with
 |.val v=>K ({σ with m:=m,h:=h}.put o.dst (.at (.val v)))
 |.lst E b c=>match o.dst with
  |some d=>K ((({σ with m:=m,h:=h}.kill (a.headD d)).setOwn (a.headD d) (some (.lst E b c))).put (some d) (.at (.lst (a.headD d))))
  |none=>False
 |.tup e=>match FO e with
  |some l=>K ({σ with m:=m,h:=h}.put o.dst (.tup l))
  |none=>False
def M0:dq->Bool
 |[]=>true
 |x::r=>match r.contains x with|true=>false|false=>M0 r
def Jj(C:Ctx)(f:Nat):=match assoc C.moves f with|some l=>l|none=>[]
def avJ(C:Ctx)(o:Oper)(f:FuncId)(args:dx)(ts:eu)(σ:St)(K:St->Prop):=
 match assoc C.specs f with
 |none=>False
 |some S=>
  yB σ (λτ=>HT τ (λυ=>
   match uK C.P υ (Jj C f) 0 args ts,M0 (kV υ (Jj C f) 0 args)with
   |some a,true=>S a υ.m υ.h (cGX o (Dk υ (kV υ (Jj C f) 0 args)) (kV υ (Jj C f) 0 args) K)
   |_,_=>False) (rV τ args))
   (HH σ (GX (Jj C f) 0 args))
structure StructEq(P:Program)(T:TypeId)(x y:Value)(r:Bool):Prop where
 guard:P.eqGuardType P.depth T=false
 eq:∀w,(Op.equalIn 10000 T x y).run P w= .ok r w
def FQ(C:Ctx)(o:Oper)(neg:Bool)(T:TypeId)(x y:Operand)(σ:St)(K:St->Prop):=
 match(σ.ev x).val?,(σ.ev y).val? with
 |some (.agg a),some (.agg b)=>∃r,StructEq C.P T (.agg a) (.agg b) r/\K (σ.put o.dst (.at (.val (.bool (match neg with|true=> !r|false=>r)))))
 |_,_=>False
structure zW(m:MH)(b:Nat)(kvs:dk):Prop where
 ex:∃(es:Array MapEntry)(clock:Nat),m b=some (.map es clock)/\es.toList.map (λe=>(e.key,e.val))=kvs
structure KeyLaw(P:Program)(kt:TypeId)(Ok:Value->Prop):Prop where
 under:∃d,P.underlying kt=some d
 check:∀v w b,Ok v->(Instr.checkKey b 10000 kt v).run P w= .ok () w
 eq:∀x y w,Ok x->Ok y->∃r,(Op.equal kt x y).run P w= .ok r w/\(r=true↔x=y)
 now:∀d x y r,P.underlying kt=some d->Ok x->Ok y->Instr.sameNow d x y=some r->(r=true↔x=y)
structure tG(m m':MH)(b:Nat):Prop where
 other:∀b',b'≠b->m' b'=m b'
def M6(o:Oper)(r:Option Operand)(σ:St)(K:St->Prop):=
 match r with
 |none=>∀(b:Nat)(a:MH),rT σ.m σ.h b->pO σ.m a b (.map #[] 0)->K ({σ with m:=a}.put o.dst (.at (.val (.map (some b)))))
 |some _=>False
def U8(P:Program)(T:TypeId):Option Value:=
 match P.info? T with
 |some i=>match i.zero with
  |some (.int k n)=>some (.int k n)
  |some (.bool b)=>some (.bool b)
  |some (.slice none 0 0)=>some (.slice none 0 0)
  |_=>none
 |none=>none
def only:dc->Value
 |[u]=>u
 |_=>undef
def QU(C:Ctx)(o:Oper)(T:TypeId)(x k:Operand)(ok:Bool)(σ:St)(K:St->Prop):Prop:=
 match C.P.underlying T,σ.ev x,(σ.ev k).val? with
 |some (.map f c),.at (.val (.map (some b))),some d=>
  match U8 C.P c with
  |some z=>
   ∃(a:List (Value×(C.dec c).X))(Ok:Value->Prop),zW σ.m b (a.map λp=>(p.1,only ((C.dec c).enc p.2)))/\KeyLaw C.P f Ok/\Ok d/\(∀e∈a,Ok e.1)/\
    ((∀e∈a,e.1≠d)->K (σ.put o.dst (match ok with|true=>.tup [.inl (.val z),.inl (.val (.bool false))]|false=>.at (.val z))))/\
    ∀y,(d,y)∈a->match(C.dec c).enc y with
     |[u]=>K (σ.put o.dst (match ok with|true=>.tup [.inl (.val u),.inl (.val (.bool true))]|false=>.at (.val u)))
     |_=>False
  |none=>False
 |_,_,_=>False
def EK(C:Ctx)(T:TypeId)(x k v:Operand)(σ:St)(K:St->Prop):=
 match C.P.underlying T,σ.ev x,(σ.ev k).val?,(σ.ev v).val? with
 |some (.map f _),.at (.val (.map (some b))),some c,some u=>
  ∃(a:dk)(Ok:Value->Prop),zW σ.m b a/\KeyLaw C.P f Ok/\Ok c/\(∀e∈a,Ok e.1)/\(∀e∈a,e.1≠c)/\
   ∀d:MH,tG σ.m d b->zW d b (a++[(c,u)])->K {σ with m:=d}
 |_,_,_,_=>False
structure zX(m:MH)(b:Nat)(kvs:dk):Prop where
 ex:∃(es:Array MapEntry)(clock:Nat),m b=some (.map es clock)/\es.toList.map (λe=>(e.key,e.val))=kvs/\(∀e∈es.toList,e.born<clock)/\(es.toList.map (·.born)).Nodup
def LY(C:Ctx)(T:TypeId)(x k v:Operand)(σ:St)(K:St->Prop):=
 match C.P.underlying T,σ.ev x,(σ.ev k).val?,(σ.ev v).val? with
 |some (.map h _),.at (.val (.map (some b))),some c,some u=>
  ∃(a:dk)(Ok:Value->Prop),zX σ.m b a/\KeyLaw C.P h Ok/\Ok c/\Instr.sameBits 10000 c c=true/\(∀e∈a,Ok e.1)/\
   ((∀e∈a,e.1≠c)->∀d:MH,tG σ.m d b->zX d b (a++[(c,u)])->K {σ with m:=d})/\
   ∀(f:dk)(i:Value)(g:dk),a=f++(c,i)::g->∀d:MH,tG σ.m d b->zX d b (f++(c,u)::g)->K {σ with m:=d}
 |_,_,_,_=>False
structure oR(m:MH)(b r:Nat)(kvs left:dk):Prop where
 ex:∃(es:Array MapEntry)(clock since:Nat)(seen:Array Nat)(c0:Nat),m b=some (.map es clock)/\es.toList.map (λe=>(e.key,e.val))=kvs/\(∀e∈es.toList,e.born<clock)/\(es.toList.map (·.born)).Nodup/\
  m r=some (.mapIter (some b) since seen c0)/\(∀e∈es.toList,e.born<since)/\since<=c0/\since<=clock/\(es.toList.filter λe=> !seen.contains e.born).map (λe=>(e.key,e.val))=left
structure Hc(m:MH)(b r:Nat)(kvs left:dk)(x:Value×Value):Prop where
 it:oR m b r kvs left
 ex:∃(es:Array MapEntry)(clock since:Nat)(seen:Array Nat)(e:MapEntry),m b=some (.map es clock)/\(es.toList.map (·.born)).Nodup/\m r=some (.mapIter (some b) since (seen.push e.born) clock)/\e∈es.toList/\x=(e.key,e.val)
def Vp(C:Ctx)(o:Oper)(T:TypeId)(x:Operand)(σ:St)(K:St->Prop):=
 match C.P.underlying T,σ.ev x with
 |some .string,.at (.val (.string s))=>
  ∀(b:Nat)(c:MH),rT σ.m σ.h b->pO σ.m c b (.stringIter s 0)->K ({σ with m:=c}.put o.dst (.at (.val (.pointer (some ⟨b,0,none⟩)))))
 |some (.map _ _),.at (.val (.map (some b)))=>
  ∃a:dk,zX σ.m b a/\∀(r:Nat)(c:MH),rT σ.m σ.h r->tG σ.m c r->oR c b r a a->K ({σ with m:=c}.put o.dst (.at (.val (.pointer (some ⟨r,0,none⟩)))))
 |_,_=>False
def ZJ(o:Oper)(x:Operand)(c:Bool)(σ:St)(K:St->Prop):=
 match σ.ev x,c with
 |.at (.val (.pointer (some ⟨b,0,none⟩))),true=>
  ∃(s:ByteArray)(a:Nat),Ze σ.m b (.stringIter s a)/\
   (s.size<=a->K (σ.put o.dst (.tup [.inl (.val (.bool false))])))/\
   (a<s.size->∀d:MH,pO σ.m d b (.stringIter s (a+(Utf8.decode s a).2))->
    K ({σ with m:=d}.put o.dst (.tup [.inl (.val (.bool true)),.inl (.val (.int .i64 a)),.inl (.val (.int .i32 (Utf8.decode s a).1))])))
 |.at (.val (.pointer (some ⟨r,0,none⟩))),false=>
  ∃(b:Nat)(e left:dk),oR σ.m b r e left/\
   (left=[]->K (σ.put o.dst (.tup [.inl (.val (.bool false))])))/\
   ∀(f:dk)(x:Value×Value)(g:dk),left=f++x::g->∀d:MH,tG σ.m d r->Hc d b r e (f++g) x->
    K ({σ with m:=d}.put o.dst (.tup [.inl (.val (.bool true)),.inl (.val x.1),.inl (.val x.2)]))
 |_,_=>False
def VW(C:Ctx)(o:Oper)(x:Operand)(σ:St)(K:St->Prop):=
 match σ.ev x with
 |.at (.val (.pointer (some ⟨r,0,none⟩)))=>∃(b:Nat)(c left:dk)(x:Value×Value),Hc σ.m b r c left x/\
  match Sy C.heapT 410000 with
  |true=>∃s:Sl,x.2=Sl.val s/\K (σ.put o.dst (.tup [.inl (.val x.1),.inl (.val (.slice s.a s.len s.cap))]))
  |false=>K (σ.put o.dst (.tup [.inl (.val x.1),.inl (.val x.2)]))
 |_=>False
def aWZ(σ:St)(x v:Operand):=match σ.ev x with|.at (.ptr _ _)=>[]|_=>(σ.ev v).keys
def H5(C:Ctx)(o:Oper)(T:TypeId):=match o.dst with|some d=>(match Sy C.heapT T||Sy C.heapT (200000+d)with|true=>[d]|false=>[])|none=>[]
def c0J C o T:=match H5 C o T with|[]=>false|_=>true
def aIX(C:Ctx)(o:Oper)(τ:St):=match o.dst with|some d=>(match Sy C.heapT (100000+d)with|true=>(τ.ev (.tmp d)).keys|false=>[])|none=>[]
structure Zg(w:World)(m:MH)(h:PH):Prop where
 hsat:∀b o v,h b o=some v->w.cell? ⟨b,o,none⟩=some v
 msat:∀b o,m b=some o->w.heap[b]? =some o
 disj:∀b o,m b=some o->∀i,h b i=none
structure Wj(w:World)(m:MH)(h:PH)(m':MH)(h':PH)(w':World):Prop where
 tape:w'.tape=w.tape
 os:w'.os=w.os
 output:w'.output=w.output
 drawn:w.drawn<=w'.drawn
 size:w.heap.size<=w'.heap.size
 frame:∀b,b<w.heap.size->m b=none->w'.heap[b]? =w.heap[b]?
 heapy:Zg w' m' h'
 hle:PH.le h h'
 hold:∀b,b<w.heap.size->m b=none->h' b=h b
 mfr:∀b o,m' b=some o->w.heap.size<=b\/m b≠none
def valOf(P:Program)(T:TypeId)(cs:dc):Value:=
 match Bc P T with
 |true=>.agg cs.toArray
 |false=>match cs with|[x]=>x|_=>undef
structure FAt(P:Program)(f:FuncId)(T:TypeId)(cvs:du)(m:MH)(h:PH)(R:dc->MH->PH->Prop):Prop where
 fn:∃fn,P.funcs[f]? =some fn/\fn.body.isSome=true/\(fn.name== "runtime.NumGoroutine")=false
 go:∀(vs:dc)(w:World),cvs=vs.map .val->Zg w m h->Calls P f vs.toArray w λe w'=>∃l m' h',e= .returned (valOf P T l)/\R l m' h'/\Wj w m h m' h' w'
def PS:du->dc->du
 |[],l=>l.map .val
 |c::r,l=>c::PS r l
def c1Z:eu->Option TypeId
 |[]=>none
 |x::r=>match Nat.ble 510000 x with|true=>some (Nat.sub x 510000)|false=>c1Z r
def c7J(C:Ctx):Operand->Option TypeId
 |.tmp _=>c1Z C.heapT
 |_=>none
def bXZ(C:Ctx)(o:Oper)(T:TypeId)(f:FuncId)(a:dc)(args:dx)(σ:St)(K:St->Prop):=
 match uK C.P σ [] 0 args []with
 |some b=>∃R:(C.dec T).X->MH->PH->Prop,FAt C.P f T (PS b a) σ.m σ.h (λl m h=>∃x,l=(C.dec T).enc x/\R x m h)/\
  ∀(x:(C.dec T).X)(m:MH)(h:PH),R x m h->K ({σ with m:=m,h:=h}.put o.dst (mk C.P T (((C.dec T).enc x).map .val)))
 |none=>False
def Vs(C:Ctx)(o:Oper)(σ:St)(K:St->Prop):=
 match o.op with
 |.move x=>K (σ.put o.dst (σ.ev x))
 |.assign x=>K (σ.put o.dst (σ.ev x))
 |.pick c a b=>Zw o c a b σ K
 |.alloc T=>V4 C o T σ (λτ=>HT τ K (H5 C o T))
 |.box T x=>match c0J C o T with
  |true=>yB σ (λτ=>aOX o T x τ (λυ=>HT υ K (H5 C o T))) (σ.ev x).keys
  |false=>aOX o T x σ K
 |.build T h=>V1 C o T h.toList σ K
 |.buildSlice T n h=>G9 C o T n h.toList σ (λτ=>Fs τ (λυ=>yB υ K (aIX C o υ)) (H5 C o T))
 |.load T x=>ZN C o T x σ K
 |.store T x v=>match o.dst with|none=>yB σ (λτ=>Vh C T x v τ K) (aWZ σ x v)|some _=>False
 |.makeFunc _ _ e=>HT σ (λτ=>Ae C o τ K) (rV σ e.toList)
 |.nilCheck x=>J9 o x σ K
 |.binOp .quo _ x y _=>aNZ o .quo x y σ K
 |.binOp .rem _ x y _=>aNZ o .rem x y σ K
 |.binOp .eql T x y _=>match Bc C.P T with|true=>FQ C o false T x y σ K|false=>Ae C o σ K
 |.binOp .neq T x y _=>match Bc C.P T with|true=>FQ C o true T x y σ K|false=>Ae C o σ K
 |.binOp .add _ x y _=>RQ C o x y σ K
 |.binOp .. =>Ae C o σ K
 |.unOp .. =>Ae C o σ K
 |.convert s d x=>NP C o s d x σ K
 |.makeSlice T l c=>HR C o T l c σ (λτ=>Fs τ K (H5 C o (2000+T)))
 |.slice T x m p t=>Vl C o T x m p t σ K
 |.fieldAddr T x f=>Ia C o T x f σ K
 |.field T x f=>VR C o T x f σ K
 |.indexAddr T x i=>HY C o T x i σ K
 |.index T x i=>VI C o T x i σ K
 |.extract x i=>NM C o x i σ K
 |.makeMap _ r=>M6 o r σ K
 |.lookup T x k ok=>QU C o T x k ok σ K
 |.mapUpdate T x k v=>match o.dst with|none=>(match Sy C.heapT 400000 with|true=>LY C T x k v σ K|false=>EK C T x k v σ K)|some _=>False
 |.range T x=>Vp C o T x σ K
 |.next x b=>ZJ o x b σ K
 |.entry x=>VW C o x σ K
 |.call c=>match c.callee with
  |.builtin .len=>match c.args.toList with
   |[x]=>bAZ C o x c.argTypes.toList σ K
   |_=>False
  |.builtin .append=>match c.args.toList,c.argTypes.toList with
   |[x,y],[T,u]=>RX C o T u x y σ (λτ=>yB τ K (aIX C o τ))
   |_,_=>False
  |.builtin .cap=>Ae C o σ K
  |.builtin .min=>Ae C o σ K
  |.builtin .max=>Ae C o σ K
  |.builtin _=>False
  |.value g=>match σ.ev g with
   |.at (.val (.func (.func f) j e))=>match c7J C g with
    |some T=>match j.toList with
     |[]=>bXZ C o T f e.toList c.args.toList σ K
     |_=>False
    |none=>match j.toList,e.toList with
     |[],[]=>avJ C o f c.args.toList c.argTypes.toList σ K
     |_,_=>False
   |_=>False
  |.invoke .. =>False
 |_=>False
def setTmp(σ:St)(c:Operand)(b:Bool):=
 match c with
 |.tmp t=>{σ with sl:=σ.sl.set t (.at (.val (.bool b)))}
 |_=>σ
def Q6(f:Oper->St->(St->Prop)->Prop)(ops:Array Oper)(o:Oper)(σ:St)(K:St->Prop):=
 match o.guard with
 |none=>f o σ K
 |some (j,a)=>
  match nth ops.toList j with
  |none=>False
  |some g=>match g.dst with
   |none=>False
   |some d=>match σ.ev (.tmp d)with
    |.at (.val (.bool t))=>
     branch t
      (match a with|true=>f o (setTmp σ (.tmp d) true) K|false=>K ((setTmp σ (.tmp d) true).put o.dst (.at (.val undef))))
      (match a with|false=>f o (setTmp σ (.tmp d) false) K|true=>K ((setTmp σ (.tmp d) false).put o.dst (.at (.val undef))))
    |.at (.val (.tuple _))=>K (σ.put o.dst (.at (.val undef)))
    |_=>False
def VK C ops o σ K:=Q6 (Vs C) ops o σ K
structure axJ(P:Program)(S:Spec):Prop where
 go:∀(l:Nat)(vs:dc)(m:MH)(h:PH)(w:World)(K:da),S (.val (.func (.yield l) #[] #[])::vs.map .val) m h K->Zg w m h->
  ∃fn tmps assign body,(Instr.yield l vs.toArray).run P w= .ok (.round l fn tmps assign body) w/\
   RoundIn Fence.wide 0 P l fn tmps assign body w λe w'=>∃u m' h',e= .returned u/\K (.val u) m' h'/\Wj w m h m' h' w'
def Va(C:Ctx)(o:Oper)(v:Value)(args:dx)(σ:St)(K:St->Prop):=
 match C.yield with
 |none=>False
 |some S=>
  match uK C.P σ [] 0 args []with
  |some a=>axJ C.P S/\S (.val v::a) σ.m σ.h (λr m h=>match r with
   |.val u=>K ({σ with m:=m,h:=h}.put o.dst (.at (.val u)))
   |_=>False)
  |none=>False
def aGZ(C:Ctx)(o:Oper)(σ:St)(K:St->Prop):=
 match o.op with
 |.call c=>match c.callee with
  |.value g=>match σ.ev g with
   |.at (.val (.func (.yield l) a b))=>match a.toList,b.toList with
    |[],[]=>Va C o (.func (.yield l) #[] #[]) c.args.toList σ K
    |_,_=>False
   |_=>Vs C o σ K
  |_=>Vs C o σ K
 |_=>Vs C o σ K
def aEX(C:Ctx)(ops:Array Oper):List Oper->St->(St->Prop)->Prop
 |[],σ,K=>K σ
 |o::r,σ,K=>Q6 (aGZ C) ops o σ (λτ=>aEX C ops r τ K)
def Cz(P:Program)(o:Oper):=
 match o.op with
 |.load .. =>true
 |.convert src _ _=>match P.underlying src with
  |some (.slice _)=>true
  |_=>false
 |_=>false
def Hq:Op->Bool
 |.move _|.assign _|.pick .. |.build .. |.load .. |.nilCheck _|.unOp .. |.fieldAddr .. |.field .. |.indexAddr .. |.index .. |.extract .. =>true
 |.binOp .. =>true
 |.convert .. =>true
 |.call {callee:=.builtin .len,.. }=>true
 |.call {callee:=.builtin .min,.. }=>true
 |.call {callee:=.builtin .max,.. }=>true
 |_=>false
def Jn(ops:Array Oper):dq->Option (Nat×Oper)
 |[]=>none
 |i::r=>match nth ops.toList i with
  |some o=>match Hq o.op with|true=>some (i,o)|false=>Jn ops r
  |none=>Jn ops r
def waits(a:Oper)(i:Nat):=a.after.toList.any λe=>Region.binds .any e&&Nat.beq e.on i
def Bm(σ:St)(a:Oper)(k:Nat):=
 (match a.dst with|some d=>Nat.beq d k|none=>false)||
 match a.op with
 |.store _ x _=>match σ.ev x with
  |.at (.ptr j _)=>Nat.beq j k
  |_=>false
 |.call c=>match c.callee with
  |.value _=>(rV σ c.args.toList).contains k
  |_=>false
 |_=>false
def BW(ops:Array Oper)(σ:St)(b:Oper):=
 match b.guard with
 |none=>false
 |some (j,a)=>match nth ops.toList j with
  |none=>false
  |some g=>match g.dst with
   |none=>false
   |some d=>match σ.ev (.tmp d)with
    |.at (.val (.bool t))=>match t,a with
     |true,false=>true
     |false,true=>true
     |_,_=>false
    |.at (.val (.tuple _))=>true
    |_=>false
def chJ:Op->Bool
 |.move _=>true
 |_=>false
def c2X(ops:Array Oper)(ok:Oper)(i:Nat):=
 waits ok i||ops.toList.zipIdx.any λx=>waits ok x.2&&waits x.1 i
def cPX(ops:Array Oper):=
 let l:=ops.toList
 let n:=l.length
 (List.range n).all λi=>match nth l i with
  |none=>true
  |some a=>(a.after.toList.all λe=> !Region.binds .any e||Nat.blt e.on i)&&((List.range n).all λk=>match nth l k with
   |none=>true
   |some ok=>match ok.dst with
    |none=>true
    |some d=>Nat.beq i k|| !(a.dst==some d))&&
   (((List.range n).all λk=>match nth l k with
   |none=>true
   |some ok=>match ok.dst with
    |none=>true
    |some d=> !(a.looksAt ops).contains d||waits a k)||
   (chJ a.op&&(List.range n).all λk=>match nth l k with
   |none=>true
   |some ok=>match ok.dst with
    |none=>true
    |some d=> !(a.looksAt ops).contains d||c2X ops ok i))
def B9:Op->Bool
 |.alloc _|.box .. |.buildSlice .. |.makeSlice .. |.makeMap .. |.lookup .. =>true
 |_=>false
def vY(o:Oper):=
 match o.op with
 |.call c=>match c.callee with
  |.value _=>some c.args.toList
  |_=>none
 |_=>none
def JI(σ:St)(k:Nat):dx->Bool
 |[]=>true
 |x::r=>(match σ.ev x with
  |.at (.lst j)=>match nth σ.own j with|some (some _)=> !Nat.beq j k|_=>false
  |.at (.ptr j _)=>match nth σ.own j with|some (some _)=> !Nat.beq j k|_=>false
  |_=>true)&&JI σ k r
def V3 σ a k:=
 B9 a.op||match vY a with|some l=>JI σ k l|none=>false
def Of(P:Program)(p:Bool)(σ:St)(f g:Oper)(K:Prop):=
 match Cz P g with
 |false=>K
 |true=>
  match g.op with
  |.load T x=>match jU P T with
   |false=>False
   |true=>match σ.ev x,g.dst with
    |.at (.ptr k a),_=>match nth σ.own k with
     |some (some (.cellsP _ _ c))=>match Bm σ f k,Nat.ble (a+P.cellsOf T) c.length with
      |false,true=>K
      |_,_=>False
     |_=>False
    |.at (.val (.pointer (some ⟨b,o,none⟩))),some d=>match(σ.ev (.tmp d)).cells? with
     |some c=>match xV c with
      |some l=>match Nat.beq l.length (P.cellsOf T)with
       |true=>match B9 f.op||p with
        |true=>aL σ.m σ.h b o l/\K
        |false=>bU σ.h b o l/\K
       |false=>False
      |none=>False
     |none=>False
    |.at (.el k i r a),some d=>match nth σ.own k,(σ.ev (.tmp d)).cells? with
     |some (some (.lst _ s j)),some c=>match xV c,Nat.beq s r,V3 σ f k with
      |some l,true,true=>match Nat.beq l.length (P.cellsOf T)with
       |true=>(∃e:dc,j[i]? =some e/\(e.drop a).take (P.cellsOf T)=l)/\K
       |false=>False
      |_,_,_=>False
     |_,_=>False
    |_,_=>False
  |.convert src n x=>match σ.ev x,g.dst with
   |.at (.lst k),some d=>match nth σ.own k,σ.ev (.tmp d)with
    |some (some (.lst _ _ j)),.at (.val (.string s))=>match P.underlying src,P.underlying n with
     |some (.slice E),some .string=>match P.underlying E with
      |some (.int .u8)=>match V3 σ f k with
       |true=>j=gR s/\K
       |false=>False
      |_=>False
     |_,_=>False
    |_,_=>False
   |_,_=>False
  |_=>False
def MI(P:Program)(c:Bool)(ops:Array Oper)(a:Array Bool)(σ:St)(b:Oper):Nat->List Oper->Prop->Prop
 |_,[],K=>K
 |i,d::r,K=>
  match a.getD i false,Hq d.op,waits b i,BW ops σ d with
  |true,true,false,false=>Of P c σ b d (MI P c ops a σ b (i+1) r K)
  |_,_,_,_=>MI P c ops a σ b (i+1) r K
def KE(σ:St)(c a:Oper)(τ:St)(K:Prop):=
 match a.op with
 |.load _ x=>match σ.ev x,a.dst with
  |.at (.val (.pointer (some ⟨b,o,none⟩))),some d=>match(σ.ev (.tmp d)).cells? with
   |some e=>match xV e with
    |some l=>match B9 c.op with
     |true=>K
     |false=>aL τ.m τ.h b o l/\K
    |none=>K
   |none=>K
  |_,_=>K
 |_=>K
def Iu(ops:Array Oper)(a:Array Bool)(σ:St)(b:Oper)(τ:St):Nat->List Oper->Prop->Prop
 |_,[],K=>K
 |i,c::r,K=>
  match a.getD i false,Hq c.op,waits b i,BW ops σ c with
  |true,true,false,false=>KE σ b c τ (Iu ops a σ b τ (i+1) r K)
  |_,_,_,_=>Iu ops a σ b τ (i+1) r K
def axZ(C:Ctx):=Sy C.heapT 0
def Mx C ops a σ b τ K:=match axZ C with|true=>Iu ops a σ b τ 0 ops.toList K|false=>K
def bZX(g:Nat->Prop):dq->Prop
 |[]=>True
 |[j]=>g j
 |j::r=>g j/\bZX g r
def EP(C:Ctx)(ops:Array Oper):Nat->Array Bool->St->(St->Prop)->Prop
 |0,a,σ,K=>match Region.ready .any ops a with|[]=>K σ|_=>False
 |n+1,a,σ,K=>
  match Region.ready .any ops a with
  |[]=>K σ
  |rs=>match Jn ops rs with
   |some (i,o)=>VK C ops o σ (λτ=>EP C ops n (a.setIfInBounds i true) τ K)
   |none=>
    bZX (λj=>match nth ops.toList j with
     |some o=>MI C.P (axZ C) ops a σ o 0 ops.toList (VK C ops o σ (λτ=>Mx C ops a σ o τ (EP C ops n (a.setIfInBounds j true) τ K)))
     |none=>False) rs
def mU:Code->Option Nat
 |.region id _ _=>some id
 |.seq a b=>match mU a with|some i=>some i|none=>mU b
 |.cond _ a b=>match mU a with|some i=>some i|none=>mU b
 |.block _ a=>mU a
 |.loop a=>mU a
 |.scope a=>mU a
 |_=>none
def EJ:ej->ej->Prop->Prop
 |[],[],K=>K
 |x::xs,.at .junk::ys,K=>match x with|_=>EJ xs ys K
 |x::xs,y::ys,K=>x=y/\EJ xs ys K
 |_,_,_=>False
def AN:ei->ei->Prop->Prop
 |[],[],K=>K
 |_::xs,none::ys,K=>AN xs ys K
 |x::xs,some y::ys,K=>x=some y/\AN xs ys K
 |_,_,_=>False
def VY(τ:St):ej->Nat->St->St
 |[],_,σ=>σ
 |y::ys,i,σ=>
  VY τ ys (i+1) (match y with
   |.at (.lst k)=>match nth σ.sl i with
    |some (.at (.val (.slice none 0 0)))=>match nth τ.own k,nth σ.own k with
     |some (some (.lst E a _)),some none=>((σ.kill k).setOwn k (some (.lst E a []))).put (some i) (.at (.lst k))
     |_,_=>σ
    |_=>σ
   |_=>σ)
def JV(σ:St)(q j:Nat)(x:At):=
 match nth σ.own q with
 |some (some (.cellsP p T a))=>σ.setOwn q (some (.cellsP p T (a.set j x)))
 |_=>σ
def JE(τ:St)(q:Nat):dv->Nat->St->St
 |[],_,σ=>σ
 |y::ys,j,σ=>
  JE τ q ys (j+1) (match y with
   |.lst k=>match nth σ.own q with
    |some (some (.cellsP _ _ a))=>match nth a j with
     |some (.val (.slice none 0 0))=>match nth τ.own k,nth σ.own k with
      |some (some (.lst E b _)),some none=>JV ((σ.kill k).setOwn k (some (.lst E b []))) q j (.lst k)
      |_,_=>σ
     |_=>σ
    |_=>σ
   |_=>σ)
def PO(τ:St):ei->Nat->St->St
 |[],_,σ=>σ
 |y::ys,q,σ=>
  PO τ ys (q+1) (match y with
   |some (.cellsP _ _ a)=>JE τ q a 0 σ
   |_=>σ)
def conv σ τ:=PO τ τ.own 0 (VY τ τ.sl 0 σ)
def Dj σ τ K:=
 EJ (conv σ τ).sl τ.sl (AN (conv σ τ).own τ.own ((conv σ τ).m=τ.m/\(conv σ τ).h=τ.h/\K))
structure Hf(m:MH)(h:PH):Prop where
 disj:∀b o,m b=some o->∀i,h b i=none
structure Hp(m:MH)(h:PH)(m2:MH)(h2:PH):Prop where
 sub:∀b o,m2 b=some o->m b=some o
 le:PH.le h h2
 new:∀b i v,h2 b i=some v->h b i=some v\/∃cs E fz,m b=some (.cells cs E fz)/\cs[i]? =some v/\m2 b=none
def VA σ τ K:=
 EJ (conv σ τ).sl τ.sl (AN (conv σ τ).own τ.own (Hp (conv σ τ).m (conv σ τ).h τ.m τ.h/\K))
def KN(c:zT)(R:c.A->Prop)(τ:St):=match c.frz with
 |false=>∃x,R x/\Dj τ (c.st x) True
 |true=>Hf τ.m τ.h->∃x,R x/\VA τ (c.st x) True
def V6(c:zT)(I S:c.A->Prop)(τ:St):=match c.frz with
 |false=>∃x,I x/\S x/\Dj τ (c.st x) True
 |true=>Hf τ.m τ.h->∃x,I x/\S x/\VA τ (c.st x) True
def Rb{α:Type}(d:α)(l:List (Nat×α)):Nat->Nat->List α
 |0,_=>[]
 |n+1,i=>(match assoc l i with|some x=>x|none=>d)::Rb d l n (i+1)
def bS(n a:Nat)(sl:List (Nat×SV))(own:List (Nat×Own))(m:MH)(h:PH):St:=
 {sl:=Rb (.at .junk) sl n 0,own:=Rb none (own.map λp=>(p.1,some p.2)) a 0,m:=m,h:=h}
def c1J(C:Ctx)(b:Code):=match mU b with|some i=>assoc C.cuts i|none=>none
def cSX(C:Ctx)(b:Code):=match mU b with|some i=>assoc C.loops i|none=>none
def bYQ(C:Ctx)(b:Code):=match mU b with|some i=>assoc C.cuts2 i|none=>none
def chQ(C:Ctx)(b:Code):=match mU b with|some i=>assoc C.loops2 i|none=>none
def bsZ(C:Ctx)(ops:Array Oper):em->List Oper->St->(St->Prop)->Prop
 |[],l,σ,K=>aEX C ops l σ K
 |(n,a)::r,l,σ,K=>∃I:a.A->Prop,aEX C ops (l.take n) σ (λτ=>∃x,I x/\Dj τ (a.st x) True)/\∀x,I x->bsZ C ops r (l.drop n) (a.st x) K
def Zq(C:Ctx)(id:Nat):=match assoc C.rcuts id with|some l=>l|none=>[]
def VC(C:Ctx):Code->St->(Hm->St->Prop)->Prop
 |.skip,σ,Q=>Q .normal σ
 |.label _,σ,Q=>Q .normal σ
 |.region id d false,σ,Q=>bsZ C d (Zq C id) d.toList σ (Q .normal)
 |.region _ d true,σ,Q=>match cPX d,Region.noSelect d,C.P.follows .mixedOrders with
  |true,true,true=>EP C d d.size (Array.replicate d.size false) σ (Q .normal)
  |_,_,_=>False
 |.seq a b,σ,Q=>
  match c1J C b with
  |some c=>VC C a σ (λe τ=>match e with
   |.normal=>∃x,c.inv x/\Dj τ (c.st x) True
   |e=>Q e τ)/\∀x,c.inv x->VC C b (c.st x) Q
  |none=>match bYQ C b with
   |some c=>∃I:c.A->Prop,VC C a σ (λe τ=>match e with
    |.normal=>KN c I τ
    |e=>Q e τ)/\∀x,I x->VC C b (c.st x) Q
   |none=>VC C a σ (λe τ=>match e with
    |.normal=>VC C b τ Q
    |e=>Q e τ)
 |.cond c x y,σ,Q=>
  match σ.ev c with
  |.at (.val (.bool t))=>branch t (VC C x (setTmp σ c true) Q) (VC C y (setTmp σ c false) Q)
  |_=>False
 |.block id c,σ,Q=>
  VC C c σ (λe τ=>match e with
   |.exit i=>match Nat.beq i id with|true=>Q .normal τ|false=>Q (.exit i) τ
   |e=>Q e τ)
 |.loop c,σ,Q=>
  match cSX C c with
  |some l=>
   (∃x,l.inv x/\Dj σ (l.st x) True)/\
   ∀x,l.inv x->VC C c (l.st x) (λe τ=>match e with
    |.normal=>∃y,l.inv y/\l.mu y<l.mu x/\Dj τ (l.st y) True
    |e=>Q e τ)
  |none=>match chQ C c with
   |some l=>∃(I:l.A->Prop)(f:l.A->Nat),
    KN l I σ/\
    ∀x,I x->VC C c (l.st x) (λe τ=>match e with
     |.normal=>V6 l I (λy=>f y<f x) τ
     |e=>Q e τ)
   |none=>False
 |.exit id,σ,Q=>Q (.exit id) σ
 |.ret,σ,Q=>Q .ret σ
 |_,_,_=>False
def aFX(C:Ctx)(σ:St):ResultVar->Option SV
 |.tmp t=>some (σ.ev (.tmp t))
 |.cell a T=>match σ.ev (.tmp a)with
  |.at (.ptr k b)=>match nth σ.own k with
   |some (some (.cellsP _ _ c))=>match Nat.ble (b+C.P.cellsOf T) c.length,jU C.P T with
    |true,true=>some (mk C.P T ((c.drop b).take (C.P.cellsOf T)))
    |_,_=>none
   |_=>none
  |_=>none
def J0(C:Ctx)(σ:St):List ResultVar->Option ej
 |[]=>some []
 |r::rs=>match aFX C σ r,J0 C σ rs with
  |some x,some l=>some (x::l)
  |_,_=>none
def aHJ:ej->dq
 |[]=>[]
 |x::r=>x.keys++(aHJ r).filter (λk=> !x.keys.contains k)
def FF(P:Program)(σ:St)(mv:Bool):ej->eu->Option du
 |[],_=>some []
 |x::r,a=>match FF P σ mv r a.tail with
  |none=>none
  |some l=>match mv with
   |true=>match x with
    |.at (.lst k)=>match nth σ.own k with
     |some (some (.lst E b c))=>some (.lst E b c::l)
     |_=>none
    |.at (.val (.slice none 0 0))=>match elemOf P (a.headD 0)with
     |some (E,_)=>some (.lst E (P.cellsOf E) []::l)
     |none=>none
    |_=>none
   |false=>match x.val? with
    |some v=>some (.val v::l)
    |none=>none
def KL:ej->dq
 |[]=>[]
 |.at (.ptr k _)::r=>match(KL r).contains k with|true=>KL r|false=>k::KL r
 |_::r=>KL r
def SY(C:Ctx)(fn:Func)(K:da)(σ:St):=
 match J0 C σ fn.results.toList with
 |none=>False
 |some a=>
  yB σ (λτ=>HT τ (λυ=>
   match J0 C υ fn.results.toList with
   |none=>False
   |some b=>match FF C.P υ C.retMove b fn.resultTypes.toList with
    |some [r]=>K r υ.m υ.h
    |some c=>match C.retMove with|true=>False|false=>K (.tup c) υ.m υ.h
    |none=>False) (match C.retMove with|true=>[]|false=>KL a)) (match C.retMove with|true=>[]|false=>aHJ a)
def JD(n:Nat):Nat->du->ej
 |_,[]=>[]
 |i,.val v::r=>.at (.val v)::JD n (i+1) r
 |i,.lst _ _ _::r=>.at (.lst (n+i))::JD n (i+1) r
 |i,.tup _::r=>.at .junk::JD n (i+1) r
def Ca:du->ei
 |[]=>[]
 |.lst E a b::r=>some (.lst E a b)::Ca r
 |_::r=>none::Ca r
def entry(n:Nat)(args:du)(m:MH)(h:PH):St:=
 {sl:=JD n 0 args++replicate (n-args.length) (.at .junk),own:=replicate n none++Ca args,m:=m,h:=h}
def yC C fn c σ K:=
 VC C c σ (λe τ=>match e with
  |.normal=>SY C fn K τ
  |.ret=>SY C fn K τ
  |_=>False)
end Go.Vc
namespace Go.Vc
open Go List
theorem lS{α:Type}:∀(l:List α)(i:Nat),nth l i=l[i]?
 |[],i=>by simp[nth]
 |x::xs,0=>by simp[nth]
 |x::xs,n+1=>by simp[nth,lS xs n]
def Bk(ι:dm):At->Value->Prop
 |.val v,u=>u=v
 |.ptr k o,u=>∃b,ι k= .pointer (some ⟨b,0,none⟩)/\u= .pointer (some ⟨b,o,none⟩)
 |.lst k,u=>u=ι k
 |.el k i a o,u=>∃b n c,ι k= .slice (some ⟨b,0,none⟩) n c/\u= .pointer (some ⟨b,i*a+o,none⟩)
 |.junk,_=>True
def jX(ι:dm):dv->dc->Prop
 |[],[]=>True
 |x::xs,v::vs=>Bk ι x v/\jX ι xs vs
 |_,_=>False
def Sn(ι:dm):List (Sum At dv)->dc->Prop
 |[],[]=>True
 |.inl x::xs,v::vs=>Bk ι x v/\Sn ι xs vs
 |.inr b::xs,v::vs=>(∃a:Array Value,v= .agg a/\jX ι b a.toList)/\Sn ι xs vs
 |_,_=>False
def Den(ι:dm):SV->Value->Prop
 |.at x,u=>Bk ι x u
 |.agg b,u=>∃a:Array Value,u= .agg a/\jX ι b a.toList
 |.tup c,u=>∃a:Array Value,u= .tuple a/\Sn ι c a.toList
def DenS(ι:dm):ej->dc->Prop
 |[],[]=>True
 |x::xs,v::vs=>Den ι x v/\DenS ι xs vs
 |_,_=>False
theorem jX.length{ι:dm}:∀{cs:dv}{vs:dc},jX ι cs vs->cs.length=vs.length
 |[],[],_=>rfl
 |_::_,_::_,h=>by simp[jX.length h.2]
 |[],_::_,h=>h.elim
 |_::_,[],h=>h.elim
theorem jX.get{ι:dm}:∀{cs:dv}{vs:dc}(_:jX ι cs vs)(i:Nat)(x:At),cs[i]? =some x->∃v,vs[i]? =some v/\Bk ι x v
 |[],[],_,i,x,a=>by simp at a
 |_::_,v::_,h,0,x,a=>by simp at a;subst a;exact⟨v,rfl,h.1⟩
 |_::_,_::_,h,i+1,x,a=>by simp at a⊢;exact jX.get h.2 i x a
 |[],_::_,h,_,_,_=>h.elim
 |_::_,[],h,_,_,_=>h.elim
theorem jX.take{ι:dm}:∀{cs:dv}{vs:dc}(n:Nat),jX ι cs vs->jX ι (cs.take n) (vs.take n)
 |_,_,0,_=>by simp[jX]
 |[],[],n+1,h=>by simp[jX]
 |_::_,_::_,n+1,h=>by simp only[take_succ_cons];exact⟨h.1,h.2.take n⟩
 |[],_::_,_+1,h=>h.elim
 |_::_,[],_+1,h=>h.elim
theorem jX.drop{ι:dm}:∀{cs:dv}{vs:dc}(n:Nat),jX ι cs vs->jX ι (cs.drop n) (vs.drop n)
 |_,_,0,h=>bx h
 |[],[],n+1,h=>by simp[jX]
 |_::_,_::_,n+1,h=>by simp only[drop_succ_cons];exact h.2.drop n
 |[],_::_,_+1,h=>h.elim
 |_::_,[],_+1,h=>h.elim
theorem jX.append{ι:dm}:∀{cs a:dv}{vs b:dc},jX ι cs vs->jX ι a b->jX ι (cs++a) (vs++b)
 |[],_,[],_,_,c=>bo
 |_::_,_,_::_,_,h,c=>⟨h.1,h.2.append c⟩
 |[],_,_::_,_,h,_=>h.elim
 |_::_,_,[],_,h,_=>h.elim
theorem jX.splice{ι cs new vs us} off(h:jX ι cs vs)(a:jX ι new us):
 jX ι (splice cs off new) (splice vs off us):=by
 unfold Vc.splice;rw[a.length];exact((h.take off).append a).append (h.drop _)
theorem jX.set{ι:dm}:∀{cs:dv}{vs:dc}(j:Nat){x:At}{v:Value},jX ι cs vs->Bk ι x v->jX ι (cs.set j x) (vs.set j v)
 |[],[],_,_,_,_,_=>by simp[jX]
 |_::_,_::_,0,_,_,h,a=>⟨a,h.2⟩
 |_::_,_::_,j+1,_,_,h,a=>⟨h.1,h.2.set j a⟩
 |[],_::_,_,_,_,h,_=>h.elim
 |_::_,[],_,_,_,h,_=>h.elim
theorem jX.vals{ι:dm}:∀{l:dc}{vs:dc},jX ι (l.map .val) vs↔vs=l
 |[],[]=>by simp[jX]
 |[],_::_=>by simp[jX]
 |_::_,[]=>by simp[jX]
 |a::l,v::vs=>by simp only[map_cons,jX,Bk,jX.vals,List.cons.injEq]
theorem Fk:∀{cs:dv}{l:dc},xV cs=some l->cs=l.map .val
 |[],l,h=>by simp[xV]at h;subst h;rfl
 |.val v::r,l,h=>by
  simp only[xV]at h;cases a:xV r with
  |none=>grind
  |some b=>simp[a]at h;subst h;simp[Fk a]
 |.ptr _ _::_,_,h=>by simp[xV]at h
 |.lst _::_,_,h=>by simp[xV]at h
 |.el _ _ _ _::_,_,h=>by simp[xV]at h
 |.junk::_,_,h=>by simp[xV]at h
theorem Den.val?{ι x u v}(h:Den ι x u)(a:x.val? =some v):u=v:=by
 cases x with
 |«at» y=>cases y<;>simp[SV.val?]at a;subst a;exact h
 |agg c=>
  simp only[SV.val?]at a;cases b:xV c with
  |none=>grind
  |some l=>
   simp[b]at a;obtain⟨e,rfl,d⟩:=h;rw[Fk b,jX.vals]at d;subst a;congr 1
   grind
 |tup f=>simp[SV.val?]at a
theorem DenS.length{ι:dm}:∀{xs:ej}{vs:dc},DenS ι xs vs->xs.length=vs.length
 |[],[],_=>rfl
 |_::_,_::_,h=>by simp[DenS.length h.2]
 |[],_::_,h=>h.elim
 |_::_,[],h=>h.elim
theorem DenS.get{ι:dm}:∀{xs:ej}{vs:dc}(_:DenS ι xs vs)(i:Nat)(x:SV),xs[i]? =some x->∃v,vs[i]? =some v/\Den ι x v
 |[],[],_,i,x,a=>by simp at a
 |_::_,v::_,h,0,x,a=>by simp at a;subst a;exact⟨v,rfl,h.1⟩
 |_::_,_::_,h,i+1,x,a=>by simp at a⊢;exact DenS.get h.2 i x a
 |[],_::_,h,_,_,_=>h.elim
 |_::_,[],h,_,_,_=>h.elim
theorem DenS.set{ι:dm}:∀{xs:ej}{vs:dc}(j:Nat){x:SV}{v:Value},DenS ι xs vs->Den ι x v->DenS ι (xs.set j x) (vs.set j v)
 |[],[],_,_,_,_,_=>by simp[DenS]
 |_::_,_::_,0,_,_,h,a=>⟨a,h.2⟩
 |_::_,_::_,j+1,_,_,h,a=>⟨h.1,h.2.set j a⟩
 |[],_::_,_,_,_,h,_=>h.elim
 |_::_,[],_,_,_,h,_=>h.elim
def upd(ι:dm)(k:Nat)(u:Value):=λj=>if j=k then u else ι j
@[simp] theorem upd_same (ι:dm) (k:Nat) (u:Value):upd ι k u k=u:=by simp[upd]
theorem sH ι{k j} u(h:j≠k):upd ι k u j=ι j:=by simp[upd,h]
def At.key:At->Option Nat
 |.ptr k _=>some k
 |.lst k=>some k
 |.el k _ _ _=>some k
 |_=>none
theorem Bk.sub{ι k u f}(g:∀x v,x.key=some k->Bk ι x v->Bk (upd ι k u) (f x) v){x v}(h:Bk ι x v):
 Bk (upd ι k u) (x.sub k f) v:=by
 cases x with
 |val w=>exact h
 |junk=>trivial
 |ptr j o=>
  simp only[At.sub];split
  .rename_i a;exact g _ _ (by simp only[At.key,ck];exact cn a) h
  .rename_i a;have d:j≠k:=λe=>by subst e;simp at a
   obtain⟨b,l,m⟩:=h;exact⟨b,by rw[sH _ _ d];exact l,m⟩
 |lst j=>
  simp only[At.sub];split
  .rename_i a;exact g _ _ (by simp only[At.key,ck];exact cn a) h
  .rename_i a;have d:j≠k:=λe=>by subst e;simp at a
   simp only[Bk]at h⊢
   rw[sH _ _ d];exact h
 |el j i p o=>
  simp only[At.sub];split
  .rename_i a;exact g _ _ (by simp only[At.key,ck];exact cn a) h
  .rename_i a;have d:j≠k:=λe=>by subst e;simp at a
   obtain⟨b,n,c,l,m⟩:=h;exact⟨b,n,c,by rw[sH _ _ d];exact l,m⟩
theorem jX.sub{ι:dm}{k:Nat}{u:Value}{f:At->At}(a:∀x v,x.key=some k->Bk ι x v->Bk (upd ι k u) (f x) v):∀{cs:dv}{vs:dc},jX ι cs vs->
 jX (upd ι k u) (cs.map (At.sub k f)) vs
 |[],[],_=>trivial
 |_::_,_::_,h=>⟨Bk.sub a h.1,jX.sub a h.2⟩
 |[],_::_,h=>h.elim
 |_::_,[],h=>h.elim
theorem Sn.sub{ι:dm}{k:Nat}{u:Value}{f:At->At}(a:∀x v,x.key=some k->Bk ι x v->Bk (upd ι k u) (f x) v):∀{cs:List (Sum At dv)}{vs:dc},Sn ι cs vs->
 Sn (upd ι k u) (cs.map λ |.inl x=>.inl (x.sub k f)|.inr cs=>.inr (cs.map (At.sub k f))) vs
 |[],[],_=>trivial
 |.inl _::_,_::_,h=>⟨Bk.sub a h.1,Sn.sub a h.2⟩
 |.inr _::_,_::_,h=>⟨let⟨us,e,hd⟩:=h.1;⟨us,e,jX.sub a hd⟩,Sn.sub a h.2⟩
 |[],_::_,h=>h.elim
 |.inl _::_,[],h=>h.elim
 |.inr _::_,[],h=>h.elim
theorem Den.sub{ι k u f}(a:∀x v,x.key=some k->Bk ι x v->Bk (upd ι k u) (f x) v){x v}(h:Den ι x v):
 Den (upd ι k u) (x.sub k f) v:=by
 cases x with
 |«at» y=>exact Bk.sub a h
 |agg d=>obtain⟨b,e,c⟩:=h;exact⟨b,e,jX.sub a c⟩
 |tup g=>obtain⟨b,e,c⟩:=h;exact⟨b,e,Sn.sub a c⟩
theorem DenS.sub{ι:dm}{k:Nat}{u:Value}{f:At->At}(a:∀x v,x.key=some k->Bk ι x v->Bk (upd ι k u) (f x) v):∀{xs:ej}{vs:dc},DenS ι xs vs->
 DenS (upd ι k u) (xs.map (SV.sub k f)) vs
 |[],[],_=>trivial
 |_::_,_::_,h=>⟨Den.sub a h.1,DenS.sub a h.2⟩
 |[],_::_,h=>h.elim
 |_::_,[],h=>h.elim
structure xC where
 w0:World
 E:Nat->Prop
 h0:PH
 dfs:List Deferred
def blk:Value->Option Nat
 |.pointer (some a)=>some a.block
 |.slice (some a) _ _=>some a.block
 |_=>none
def FK(ι:dm)(w:World)(v:Value):Own->Prop
 |.cellsP p T e=>∃b c,v= .pointer (some ⟨b,0,none⟩)/\w.heap[b]? =some (.cells c T (0,0))/\jX ι e c.toList/\∀q,p=some q->b=q
 |.lst E d a=>eU d a/\w.ownsRow 0 E d v a.length a.flatten
structure D4(B:xC)(m:MH)(h:PH)(w:World):Prop where
 tape:w.tape=B.w0.tape
 os:w.os=B.w0.os
 output:w.output=B.w0.output
 drawn:B.w0.drawn<=w.drawn
 size:B.w0.heap.size<=w.heap.size
 frame:∀b,b<B.w0.heap.size->¬B.E b->w.heap[b]? =B.w0.heap[b]?
 hsat:∀b o v,h b o=some v->w.cell? ⟨b,o,none⟩=some v
 msat:∀b o,m b=some o->w.heap[b]? =some o
 disj:∀b o,m b=some o->∀i,h b i=none
 hle:∀b o v,B.h0 b o=some v->h b o=some v
 hold:∀b,b<B.w0.heap.size->¬B.E b->h b=B.h0 b
 mfr:∀b o,m b=some o->B.w0.heap.size<=b\/B.E b
structure aR(B:xC)(ι:dm)(σ:St)(a:Act)(w:World):Prop where
 slots:DenS ι σ.sl a.tmps.toList
 defers:a.defers=B.dfs
 own:∀k o,nth σ.own k=some (some o)->FK ι w (ι k) o
 dist:∀k k' o o' b,nth σ.own k=some (some o)->nth σ.own k'=some (some o')->blk (ι k)=some b->blk (ι k')=some b->k=k'
 fresh:∀k o b,nth σ.own k=some (some o)->blk (ι k)=some b->(B.w0.heap.size<=b\/B.E b)/\σ.m b=none/\∀i,σ.h b i=none
 wrel:D4 B σ.m σ.h w
 one:∀k,(ι k).oneCell'=true
theorem Bp{α}(l:List α) k j x:nth (l.set k x) j=if j=k/\k<l.length then some x else nth l j:=by
 rw[lS,lS,getElem?_set]
 grind
theorem CE{α β}(f:α->β) l j:nth (l.map f) j=(nth l j).map f:=by
 rw[lS,lS,getElem?_map]
theorem Act.toList_put(a:Act) d v:(a.put (some d) v).tmps.toList=a.tmps.toList.set d v:=by
 simp[Act.put]
theorem aR.put{B ι σ a w}(h:aR B ι σ a w) d{x v}(b:Den ι x v):
 aR B ι (σ.put d x) (a.put d v) w:=by
 cases d with
 |none=>exact h
 |some d=>
  refine⟨?_,h.defers,h.own,h.dist,h.fresh,h.wrel,h.one⟩;rw[Act.toList_put];exact h.slots.set d b
theorem aR.ev{B ι σ a w}(h:aR B ι σ a w) x:Den ι (σ.ev x) (a.eval x):=by
 cases x with
 |const v=>rfl
 |global g=>rfl
 |func f=>rfl
 |tmp t=>
  simp only[St.ev,lS];cases b:σ.sl[t]? with
  |none=>exact trivial
  |some x=>
   obtain⟨v,c,d⟩:=h.slots.get t x b
   have:a.eval (.tmp t)=v:=by
    simp only[Act.eval,Array.getD_eq_getD_getElem?]
    grind
   grind
theorem aR.rho{B ι σ a w}(h:aR B ι σ a w){x v}(b:(σ.ev x).val? =some v):
 a.eval x=v:=(h.ev x).val? b
theorem uC{ι w v o b}(h:FK ι w v o)(a:blk v=some b):b<w.heap.size:=by
 cases o with
 |cellsP p T g=>
  obtain⟨c,i,rfl,d,_⟩:=h;simp[blk]at a;grind
 |lst E j l=>
  rcases h.2.2 with⟨rfl,_⟩|⟨c,e,f,rfl,_,d,_⟩
  .simp[blk]at a
  .simp[blk]at a;grind
theorem FK.world{ι w w' v o}(h:FK ι w v o)(f:∀b,blk v=some b->w'.heap[b]? =w.heap[b]?):FK ι w' v o:=by
 cases o with
 |cellsP p T m=>
  obtain⟨a,g,rfl,c,i⟩:=h;exact⟨a,g,rfl,by rw[f _ rfl];exact c,i⟩
 |lst E n r=>
  refine⟨h.1,h.2.1,?_⟩;rcases h.2.2 with⟨rfl,s⟩|⟨a,d,e,rfl,j,c,l⟩
  .grind
  .exact .inr ⟨a,d,e,rfl,j,by rw[f _ rfl];exact c,l⟩
theorem FK.sub{ι w v o k u f}(a:∀x v,x.key=some k->Bk ι x v->Bk (upd ι k u) (f x) v)(h:FK ι w v o):
 FK (upd ι k u) w v (o.sub k f):=by
 cases o with
 |cellsP p T i=>
  obtain⟨b,c,rfl,d,e,g⟩:=h;exact⟨b,c,rfl,d,jX.sub a e,g⟩
 |lst E j l=>exact h
theorem tB{σ:St}{k j f o'}(h:nth ((σ.sub k f).setOwn k none).own j=some (some o')):
 j≠k/\∃o,nth σ.own j=some (some o)/\o'=o.sub k f:=by
 simp only[St.setOwn,St.sub,Bp,CE]at h;by_cases a:j=k
 .subst a;by_cases b:j<σ.own.length
  .grind
  .simp[b,lS]at h
 .simp only[a,false_and,if_false]at h;refine⟨a,?_⟩;cases c:nth σ.own j with
  |none=>grind
  |some x=>
   cases x with
   |none=>grind
   |some o=>grind
theorem Vb{ι}(h:∀k,(ι k).oneCell'=true) k{u}(a:u.oneCell'=true):∀j,(upd ι k u j).oneCell'=true:=by
 intro j;unfold upd
 grind
theorem aR.drop{B ι σ a w}(h:aR B ι σ a w) k u(s:u.oneCell'=true) f(p:∀x v,x.key=some k->Bk ι x v->Bk (upd ι k u) (f x) v):aR B (upd ι k u) ((σ.sub k f).setOwn k none) a w:=by
 refine⟨DenS.sub p h.slots,h.defers,?_,?_,?_,h.wrel,Vb h.one k s⟩
 .intro j r d;obtain⟨c,o,e,rfl⟩:=tB d;rw[sH _ _ c];exact(h.own j o e).sub p
 .intro j t o r b d m g i;obtain⟨c,o,e,rfl⟩:=tB d;obtain⟨l,r,n,rfl⟩:=tB m;rw[sH _ _ c]at g;rw[sH _ _ l]at i;exact h.dist j t _ _ b e n g i
 .intro j o b d g;obtain⟨c,o,e,rfl⟩:=tB d;rw[sH _ _ c]at g;exact h.fresh j o b e g
theorem PM(σ:St) k:σ.kill k=(σ.sub k (λ_=>.junk)).setOwn k none:=rfl
theorem aR.kill{B ι σ a w}(h:aR B ι σ a w) k u(b:u.oneCell'=true):aR B (upd ι k u) (σ.kill k) a w:=
 h.drop k u b _ (λ_ _ _ _=>trivial)
structure FH(S:Nat->Prop)(w w':World):Prop where
 tape:w'.tape=w.tape
 os:w'.os=w.os
 output:w'.output=w.output
 drawn:w.drawn<=w'.drawn
 size:w.heap.size<=w'.heap.size
 block:∀b,b<w.heap.size->¬S b->w'.heap[b]? =w.heap[b]?
theorem FH.refl S w:FH S w w:=⟨rfl,rfl,rfl,Nat.le_refl _,Nat.le_refl _,λ_ _ _=>rfl⟩
theorem D4.ext{B m h w w' S}(a:D4 B m h w)(c:FH S w w')(p:∀b,S b->(B.w0.heap.size<=b\/B.E b)/\m b=none/\∀i,h b i=none):
 D4 B m h w':=by
 refine⟨c.tape.trans a.tape,c.os.trans a.os,c.output.trans a.output,cv a.drawn c.drawn,cv a.size c.size,?_,?_,?_,a.disj,a.hle,a.hold,a.mfr⟩
 .intro b f j;rw[c.block b (cw f a.size) (λg=>?_)]
  .exact a.frame b f j
  grind
 .intro b o v l;have e:=a.hsat b o v l
  have d:b<w.heap.size:=by
   unfold World.cell? at e
   grind
  have r:=c.block b d (λg=>bo);unfold World.cell? at e⊢
  grind
 .intro b o n;have e:=a.msat b o n;have d:=(Array.getElem?_eq_some_iff.1 e).1;rw[c.block b d (λg=>bo)];exact e
theorem aR.place{B ι σ a w w'}(h:aR B ι σ a w) k o v(J:FH (λb=>(∃o',nth σ.own k=some (some o'))/\blk (ι k)=some b) w w')(N:FK (upd ι k v) w' v o)(z:v.oneCell'=true)(O:∀b,blk v=some b->w.heap.size<=b\/((∃o',nth σ.own k=some (some o'))/\blk (ι k)=some b)):
 aR B (upd ι k v) ((σ.kill k).setOwn k (some o)) a w':=by
 have P:∀b,((∃o',nth σ.own k=some (some o'))/\blk (ι k)=some b)->(B.w0.heap.size<=b\/B.E b)/\σ.m b=none/\∀i,σ.h b i=none:=
  λb⟨⟨o',s⟩,D⟩=>h.fresh k o' b s D
 have F:=h.wrel.ext J P
 have A:∀b,blk v=some b->(B.w0.heap.size<=b\/B.E b)/\σ.m b=none/\∀i,σ.h b i=none:=by
  intro b K;rcases O b K with G|L
  .refine⟨.inl (cv h.wrel.size G),?_,?_⟩
   .cases Q:σ.m b with
    |none=>rfl
    |some R=>have:=(Array.getElem?_eq_some_iff.1 (h.wrel.msat b R Q)).1;omega
   .intro i;cases S:σ.h b i with
    |none=>rfl
    |some u=>
     have T:=h.wrel.hsat b i u S;unfold World.cell? at T
     grind
  grind
 have c:∀j o',nth ((σ.kill k).setOwn k (some o)).own j=some (some o')->
  (j=k/\o'=o)\/(j≠k/\∃l,nth σ.own j=some (some l)/\o'=l.sub k (λ_=>.junk)):=by
  intro j o' p;simp only[PM,St.setOwn,St.sub,Bp,CE,length_set,length_map]at p;by_cases e:j=k
  .subst e;by_cases t:j<σ.own.length
   .grind
   .simp[t,lS]at p
  .simp only[e,false_and,if_false]at p;refine .inr ⟨e,?_⟩;cases W:nth σ.own j with
   |none=>grind
   |some x=>
    cases x with
    |none=>grind
    |some l=>grind
 have other:∀j l,j≠k->nth σ.own j=some (some l)->∀b,blk (ι j)=some b->blk v≠some b/\w'.heap[b]? =w.heap[b]? :=by
  intro j l e g b d;have t:=uC (h.own j l g) d;have y:¬((∃o',nth σ.own k=some (some o'))/\blk (ι k)=some b):=λ⟨⟨o',s⟩,D⟩=>e (h.dist j k l o' b g s d D);refine⟨λK=>?_,J.block b t y⟩
  grind
 refine⟨DenS.sub (f:=λ_=>.junk) (λ_ _ _ _=>trivial) h.slots,h.defers,?_,?_,?_,F,Vb h.one k z⟩
 .intro j o' p;rcases c j o' p with⟨rfl,rfl⟩|⟨e,l,g,rfl⟩
  .rw[upd_same];exact N
  .rw[sH _ _ e];refine FK.world ((h.own j l g).sub (f:=λ_=>.junk) (λ_ _ _ _=>trivial)) (λb d=>(other j l e g b d).2)
 .intro j M l U b p H d n;rcases c j l p with⟨rfl,rfl⟩|⟨e,C,g,rfl⟩<;>rcases c M U H with⟨rfl,rfl⟩|⟨r,V,I,rfl⟩
  .rfl
  .rw[upd_same]at d;rw[sH _ _ r]at n
   grind
  .rw[upd_same]at n;rw[sH _ _ e]at d
   grind
  .rw[sH _ _ e]at d;rw[sH _ _ r]at n;exact h.dist j M _ _ b g I d n
 .intro j l b p d;rcases c j l p with⟨rfl,rfl⟩|⟨e,C,g,rfl⟩
  .rw[upd_same]at d;exact A b d
  .rw[sH _ _ e]at d;exact h.fresh j C b g d
theorem aR.adopt{B ι σ a w}(h:aR B ι σ a w) k o v(C:FK (upd ι k v) w v o)(s:v.oneCell'=true)(D:∀b,blk v=some b->((B.w0.heap.size<=b\/B.E b)/\σ.m b=none/\∀i,σ.h b i=none)/\∀j o',j≠k->nth σ.own j=some (some o')->blk (ι j)≠some b):
 aR B (upd ι k v) ((σ.kill k).setOwn k (some o)) a w:=by
 have c:∀j o',nth ((σ.kill k).setOwn k (some o)).own j=some (some o')->
  (j=k/\o'=o)\/(j≠k/\∃n,nth σ.own j=some (some n)/\o'=n.sub k (λ_=>.junk)):=by
  intro j o' p;simp only[PM,St.setOwn,St.sub,Bp,CE,length_set,length_map]at p;by_cases d:j=k
  .subst d;by_cases u:j<σ.own.length
   .grind
   .simp[u,lS]at p
  .simp only[d,false_and,if_false]at p;refine .inr ⟨d,?_⟩;cases H:nth σ.own j with
   |none=>grind
   |some x=>
    cases x with
    |none=>grind
    |some n=>grind
 refine⟨DenS.sub (f:=λ_=>.junk) (λ_ _ _ _=>trivial) h.slots,h.defers,?_,?_,?_,h.wrel,Vb h.one k s⟩
 .intro j o' p;rcases c j o' p with⟨rfl,rfl⟩|⟨d,n,l,rfl⟩
  .rw[upd_same];exact C
  .rw[sH _ _ d];exact(h.own j n l).sub (f:=λ_=>.junk) (λ_ _ _ _=>trivial)
 .intro j A n F b p y e g;rcases c j n p with⟨rfl,rfl⟩|⟨d,t,l,rfl⟩<;>rcases c A F y with⟨rfl,rfl⟩|⟨r,G,z,rfl⟩
  .rfl
  .rw[upd_same]at e;rw[sH _ _ r]at g
   grind
  .rw[upd_same]at g;rw[sH _ _ d]at e
   grind
  .rw[sH _ _ d]at e;rw[sH _ _ r]at g;exact h.dist j A _ _ b l z e g
 .intro j n b p e;rcases c j n p with⟨rfl,rfl⟩|⟨d,t,l,rfl⟩
  .rw[upd_same]at e;exact(D b e).1
  .rw[sH _ _ d]at e;exact h.fresh j t b l e
theorem Kx ι k:upd ι k (ι k)=ι:=by
 funext j;unfold upd
 grind
structure Fz(σ σ':St):Prop where
 cells:∀k p T cs,nth σ.own k=some (some (.cellsP p T cs))->∃cs',nth σ'.own k=some (some (.cellsP p T cs'))
 imm:∀b off v,σ.h b off=some v->σ'.h b off=some v
 ptr:∀x k off,σ'.ev x= .at (.ptr k off)->σ.ev x= .at (.ptr k off)
 lst:∀x k,σ'.ev x= .at (.lst k)->σ.ev x= .at (.lst k)
 m_:σ'.m=σ.m
theorem Fz.refl σ:Fz σ σ:=⟨λ_ _ _ a h=>⟨a,h⟩,λ_ _ _ h=>h,λ_ _ _ h=>h,λ_ _ h=>h,rfl⟩
theorem Fz.trans{σ τ υ}(h:Fz σ τ)(a:Fz τ υ):Fz σ υ:=
 ⟨λk p T d e=>let⟨cs',hk'⟩:=h.cells k p T d e;a.cells k p T cs' hk',λb o v f=>a.imm b o v (h.imm b o v f),λx k o c=>h.ptr x k o (a.ptr x k o c),λx k c=>h.lst x k (a.lst x k c),a.m_.trans h.m_⟩
theorem auQ(σ:St) k f m h own x:
 St.ev {sl:=σ.sl.map (SV.sub k f),own:=own,m:=m,h:=h} x=(σ.ev x).sub k f\/(∃v,x= .const v\/(∃g,x= .global g)\/∃g,x= .func g):=by
 cases x with
 |tmp t=>
  left;simp only[St.ev,CE];cases nth σ.sl t with
  |none=>rfl
  |some y=>rfl
 |const v=>grind
 |global g=>exact .inr ⟨undef,.inr (.inl ⟨g,rfl⟩)⟩
 |func g=>exact .inr ⟨undef,.inr (.inr ⟨g,rfl⟩)⟩
theorem ceQ{k f}(a:∀x j o,f x≠ .ptr j o){x:SV}{j o}(h:x.sub k f= .at (.ptr j o)):x= .at (.ptr j o):=by
 cases x with
 |«at» y=>
  cases y<;>simp only[SV.sub,At.sub,SV.at.injEq]at h⊢
  case val=>exact h
  case junk=>exact h
  all_goals
   split at h
   .exact absurd h (a _ _ _)
   .exact h
 |agg b=>simp[SV.sub]at h
 |tup c=>simp[SV.sub]at h
theorem aDJ{k f}(a:∀x j,f x≠ .lst j){x:SV}{j}(h:x.sub k f= .at (.lst j)):x= .at (.lst j):=by
 cases x with
 |«at» y=>
  cases y<;>simp only[SV.sub,At.sub,SV.at.injEq]at h⊢
  case val=>exact h
  case junk=>exact h
  all_goals
   split at h
   .exact absurd h (a _ _)
   .exact h
 |agg b=>simp[SV.sub]at h
 |tup c=>simp[SV.sub]at h
theorem bCZ{σ k f m h}(n:m=σ.m)(r:∀x j o,f x≠ .ptr j o)(d:∀x j,f x≠ .lst j)(s:∀p T cs,nth σ.own k≠some (some (.cellsP p T cs)))(t:∀b off v,σ.h b off=some v->h b off=some v):
 Fz σ {(σ.sub k f).setOwn k none with m:=m,h:=h}:=by
 refine⟨?_,t,?_,?_,n⟩
 .intro j p T cs l;have i:j≠k:=λe=>s p T cs (e▸l);refine⟨cs.map (At.sub k f),?_⟩;simp only[St.setOwn,St.sub,Bp,CE,i,false_and,if_false,l];rfl
 .intro x j off c;rcases auQ σ k f m h ((σ.sub k f).setOwn k none).own x with a|⟨v,a⟩
  .have:(σ.ev x).sub k f= .at (.ptr j off):=a▸c;exact ceQ r this
  .rcases a with rfl|⟨g,rfl⟩|⟨g,rfl⟩<;>exact c
 .intro x j c;rcases auQ σ k f m h ((σ.sub k f).setOwn k none).own x with a|⟨v,a⟩
  .have:(σ.ev x).sub k f= .at (.lst j):=a▸c;exact aDJ d this
  .rcases a with rfl|⟨g,rfl⟩|⟨g,rfl⟩<;>exact c
end Go.Vc
namespace Go.Vc
open Go List
theorem DE{α} P:∀(s:Sem α)(x:α),Ci P s=some x->∀w,s.run P w= .ok x w:=by
 intro s
 induction s with
 |pure a=>intro x h w;simp[Ci]at h;subst h;rfl
 |program k b=>intro x h w;simp only[Ci]at h;simp only[Sem.run];grind
 |mark m k b=>intro x h w;simp only[Ci]at h;simp only[Sem.run];grind
 |_=>intro x h w;simp[Ci]at h
def We(C:Ctx)(ι:dm)(o:Oper)(σ:St)(K:St->Prop)(a:Act)(w:World):=
 ∃v x,(∀b,(Cz C.P o=false\/b=w)->(execOp a.eval o).run C.P b= .ok (.value v) b)/\Den ι x v/\K (σ.put o.dst x)
section
variable{B:xC}{C:Ctx}{ι:dm}{σ:St}{a:Act}{w:World}{o:Oper}{K:St->Prop}
theorem ON(d:aR B ι σ a w):∀(l:dx),PR σ l=true->∀x∈l,σ.rho x=a.eval x
 |[],_,x,b=>by cases b
 |y::l,h,x,b=>by
  simp only[PR]at h;cases c:(σ.ev y).val? with
  |none=>grind
  |some v=>
   simp[c]at h;rcases mem_cons.1 b with rfl|b
   .simp only[St.rho,c];exact(d.rho c).symm
   .exact ON d l h x b
theorem nJ(d:aR B ι σ a w)(e:∀cs b,o.op≠ .select cs b)(h:Ae C o σ K):We C ι o σ K a w:=by
 unfold Ae at h;split at h
 .rename_i f;have g:execOp a.eval o=execOp σ.rho o:=execOp_congr o e λx j=>(ON d _ f x bo).symm;split at h
  .rename_i v i;exact⟨v,.at (.val v),λc _=>by rw[g];exact DE _ _ _ i c,rfl,h⟩
  grind
 grind
theorem Addr.add_none b o j:(⟨b,o,none⟩:Addr).add j=⟨b,o+j,none⟩:=by unfold Addr.add;grind
def mkV(P:Program)(T:TypeId)(cs:dc):Value:=match Bc P T with|true=>.agg cs.toArray|false=>cs.headD undef
theorem iI{P T}(h:jU P T=true):∃i d,P.info? T=some i/\P.underlying T=some d/\P.cellsOf T=i.size/\0<i.size:=by
 unfold jU at h;split at h
 .rename_i d c;split at h
  .cases h
  .rename_i e;cases b:P.info? T with
   |none=>simp[Program.underlying,b]at c
   |some i=>
    have f:P.cellsOf T=i.size:=by simp[Program.cellsOf,b]
    grind
 .cases h
theorem SS{P T d}(h:P.underlying T=some d) w:(isAgg T).run P w= .ok (Bc P T) w:=by
 unfold isAgg Bc;rw[Sem.run_bind,run_underlying h w,h];cases d<;>rfl
theorem run_sizeOf{P T i}(h:P.info? T=some i) w:(sizeOf T).run P w= .ok i.size w:=by
 simp[sizeOf,typeInfo,program,Sem.run,h]
theorem B0{P T w b off cs}(l:jU P T=true)(c:cs.length=P.cellsOf T)(m:∀j v,cs[j]? =some v->w.cell? ⟨b,off+j,none⟩=some v):(loadVar T ⟨b,off,none⟩).run P w= .ok (mkV P T cs) w:=by
 obtain⟨i,d,n,p,e,f⟩:=iI l;rw[e]at c;unfold loadVar;rw[Sem.run_bind,SS p];simp only[Result.andThen_ok];unfold mkV;cases g:Bc P T with
 |true=>
  have s:(loadCells ⟨b,off,none⟩ cs.length).run P w= .ok cs.toArray w:=
   run_loadCells_list (P:=P) w ⟨b,off,none⟩ cs (λj v t=>by rw[Addr.add_none];grind)
  simp[run_sizeOf n, <-c,s]
 |false=>
  cases cs with
  |nil=>grind
  |cons v r=>
   have h:=m 0 v rfl;simp only[Nat.add_zero]at h;simp[load,Sem.run,h]
theorem Ko{P T ats cs}(h:jX ι ats cs):Den ι (mk P T ats) (mkV P T cs):=by
 unfold mk mkV;cases Bc P T with
 |true=>exact⟨cs.toArray,rfl,bx h⟩
 |false=>
  cases ats with
  |nil=>exact trivial
  |cons x r=>
   cases cs with
   |nil=>exact h.elim
   |cons v l=>
    cases r with
    |nil=>exact h.1
    |cons y r=>exact trivial
theorem A5(c:aR B ι σ a w){k T cs p}(d:nth σ.own k=some (some (.cellsP p T cs))):
 ∃b vs,ι k= .pointer (some ⟨b,0,none⟩)/\w.heap[b]? =some (.cells vs T (0,0))/\jX ι cs vs.toList:=
 let⟨b,vs,h1,h2,h3,_⟩:=c.own k _ d;⟨b,vs,h1,h2,h3⟩
theorem aGX(c:aR B ι σ a w){k q T cs}(d:nth σ.own k=some (some (.cellsP (some q) T cs))):ι k= .pointer (some ⟨q,0,none⟩):=by
 obtain⟨b,e,f,_,_,g⟩:=c.own k _ d
 grind
theorem cell_of_heap{w:World}{b o vs T c}(h:w.heap[b]? =some (.cells vs T c)):w.cell? ⟨b,o,none⟩=vs.toList[o]? :=by
 simp[World.cell?,h]
theorem SO{vs:dc}{off n j v}(h:((vs.drop off).take n)[j]? =some v):vs[off+j]? =some v:=by
 grind
theorem FY(c:D4 B σ.m σ.h w){b off l}(h:aL σ.m σ.h b off l):∀j v,l[j]? =some v->w.cell? ⟨b,off+j,none⟩=some v:=by
 intro j v d;cases h with
 |imm e=>exact c.hsat _ _ _ (e.rd j v d)
 |lent g E i f n=>
  rw[cell_of_heap (c.msat _ _ f)]
  grind
theorem oO{xs:List dc}{sz i e}(b:∀e∈xs,e.length=sz)(c:xs[i]? =some e) j v(d:e[j]? =some v):
 xs.flatten[i*sz+j]? =some v:=by
 induction xs generalizing i with
 |nil=>simp at c
 |cons x r f=>
  have g:x.length=sz:=b x bi;cases i with
  |zero=>
   grind
  |succ i=>
   grind
theorem uX(b:aR B ι σ a w){k E sz xs}(c:nth σ.own k=some (some (.lst E sz xs))):
 eU sz xs/\w.ownsRow 0 E sz (ι k) xs.length xs.flatten:=b.own k _ c
theorem ZM(H:aR B ι σ a w){T x}(U:o.op= .load T x)(h:ZN C o T x σ K):We C ι o σ K a w:=by
 have l:∀(b d:Nat)(A:dc),a.eval x= .pointer (some ⟨b,d,none⟩)->jU C.P T=true->A.length=C.P.cellsOf T->(∀j v,A[j]? =some v->w.cell? ⟨b,d+j,none⟩=some v)->
  ∀m,(Cz C.P o=false\/m=w)->(execOp a.eval o).run C.P m= .ok (.value (mkV C.P T A)) m:=by
  intro b d A t D V W m I;have I:m=w:=I.resolve_left (by simp[Cz,U]);subst I;have:=B0 D V W;unfold execOp;simp only[U,t,Instr.loadAt,Instr.sureAddr,Sem.run_bind,Sem.run_pure,Result.andThen_ok,this]
 have f:=H.ev x;unfold ZN at h;split at h
 .exact h.elim
 .rename_i D;split at h
  .rename_i k d t;rw[t]at f;split at h
   .rename_i p T' A J;split at h
    .rename_i L;obtain⟨b,X,M,Y,Z⟩:=A5 H J;obtain⟨b',u,N⟩:=f;rw[M]at u;simp only[Value.pointer.injEq,ck,Addr.mk.injEq]at u;obtain⟨rfl, -, -⟩:=u;have F:=(Z.drop d).take (C.P.cellsOf T);refine⟨_,_,l b d ((X.toList.drop d).take (C.P.cellsOf T)) N D ?_ ?_,Ko F,h⟩
     .rw[<-F.length];have:=Nat.le_of_ble_eq_true L;simp;omega
     .intro j v O;rw[cell_of_heap Y]
      grind
    grind
   grind
  .rename_i k i sz d t;rw[t]at f;split at h
   .rename_i E s xs J;split at h
    .rename_i Q;have Q:=cn Q;subst Q;obtain⟨e,he,y,R,h⟩:=h;split at h
     .rename_i r;obtain⟨z,G⟩:=uX H J;obtain⟨b,n,c,M,N⟩:=f;refine⟨_,_,l b _ _ N D (cn r) ?_,Ko (jX.vals.2 rfl),h⟩;intro j v O;rw[<-R]at O;have S:=SO O;have hf:=oO z.len he _ _ S;have:=G.cells (g:=b) (by rw[M];rfl) _ _ hf;rw[Addr.add_none]at this
      grind
     grind
    grind
   grind
  .rename_i b d t;rw[t]at f;obtain⟨y,R,h⟩:=h;split at h
   .rename_i r;exact⟨_,_,l b d _ f D (cn r) (FY H.wrel R),Ko (jX.vals.2 rfl),h⟩
   grind
  grind
theorem QR(c:aR B ι σ a w){x}(b:o.op= .move x\/o.op= .assign x)(h:K (σ.put o.dst (σ.ev x))):We C ι o σ K a w:=by
 refine⟨a.eval x,σ.ev x,λd _=>?_,c.ev x,h⟩;rcases b with b|b<;>simp[execOp,b]
theorem zS{c A D}(h:branch c A D):(c=true/\A)\/(c=false/\D):=by
 cases c
 .exact .inr ⟨rfl,h⟩
 .exact .inl ⟨rfl,h⟩
theorem Zv(d:aR B ι σ a w){c x y}(f:o.op= .pick c x y)(h:Zw o c x y σ K):We C ι o σ K a w:=by
 have b:=d.ev c;unfold Zw at h;split at h
 .rename_i t g;rw[g]at b;have b:a.eval c= .bool t:=b;rcases zS h with⟨rfl,h⟩|⟨rfl,h⟩
  .exact⟨a.eval x,σ.ev x,λe _=>by simp[execOp,f,b,asBool],d.ev x,h⟩
  .exact⟨a.eval y,σ.ev y,λe _=>by simp[execOp,f,b,asBool],d.ev y,h⟩
 grind
theorem Md{P T f g T'}(h:Me P T f=some (g,T')):∃c Su,P.underlying T=some (.struct c)/\c[f]? =some Su/\Su.offset=g/\Su.type=T'/\P.cellsOf T'≠0:=by
 unfold Me at h;split at h
 .rename_i c d;split at h
  .rename_i Su b;split at h
   .cases h
   .rename_i i;simp only[ck,Prod.mk.injEq]at h;obtain⟨rfl,rfl⟩:=h;rw[lS,ct]at b;exact⟨c,Su,d,b,rfl,rfl,λe=>by rw[e]at i;simp at i⟩
  .cases h
 .cases h
theorem WU{P T f g T'}(h:Me P T f=some (g,T')) w b off:
 (Instr.fieldAt T (.pointer (some ⟨b,off,none⟩)) f).run P w= .ok (.pointer (some ⟨b,off+g,none⟩)) w:=by
 obtain⟨m,Su,j,l,rfl,rfl,e⟩:=Md h;cases c:P.info? Su.type with
 |none=>simp[Program.cellsOf,c]at e
 |some i=>
  have d:i.size≠0:=by simpa[Program.cellsOf,c]using e
  simp[Instr.fieldAt,run_underlying j,l,Instr.sureAddr,fieldPlace,run_sizeOf c,d,Addr.add_none]
theorem O3(s:aR B ι σ a w){T f x}(t:o.op= .fieldAddr T x f)(h:Ia C o T x f σ K):We C ι o σ K a w:=by
 have e:=s.ev x;unfold Ia at h;split at h
 .exact h.elim
 .rename_i g T' u
  have j:∀b d,a.eval x= .pointer (some ⟨b,d,none⟩)->∀l,(Cz C.P o=false\/l=w)->(execOp a.eval o).run C.P l= .ok (.value (.pointer (some ⟨b,d+g,none⟩))) l:=by
   intro b d m l _;unfold execOp;simp only[t,m,Sem.run_bind,WU u,Result.andThen_ok,Sem.run_pure]
  split at h
  .rename_i k d m;rw[m]at e;obtain⟨b,p,r⟩:=e;exact⟨_,.at (.ptr k (d+g)),j b d r,⟨b,p,rfl⟩,h⟩
  .rename_i k i v d m;rw[m]at e;obtain⟨b,n,c,p,r⟩:=e;exact⟨_,.at (.el k i v (d+g)),j b _ r,⟨b,n,c,p,bo⟩,h⟩
  .rename_i b d m;rw[m]at e;exact⟨_,.at (.val _),j b d e,rfl,h⟩
  grind
theorem QF(r:aR B ι σ a w){x}(s:o.op= .nilCheck x)(h:J9 o x σ K):We C ι o σ K a w:=by
 have d:=r.ev x
 have e:∀l,a.eval x= .pointer (some l)->∀f,(Cz C.P o=false\/f=w)->(execOp a.eval o).run C.P f= .ok (.value (.pointer (some l))) f:=by
  intro l g f _;unfold execOp;simp[s,g]
 unfold J9 at h;split at h
 .rename_i k j g;rw[g]at d;obtain⟨b,m,p⟩:=d;exact⟨_,.at (.ptr k j),e _ p,⟨b,m,rfl⟩,h⟩
 .rename_i k i t j g;rw[g]at d;obtain⟨b,n,c,m,p⟩:=d;exact⟨_,.at (.el k i t j),e _ p,⟨b,n,c,m,rfl⟩,h⟩
 .rename_i l g;rw[g]at d;exact⟨_,.at (.val _),e _ d,rfl,h⟩
 grind
end
end Go.Vc
namespace Go.Vc
open Go List
section
variable{B:xC}{C:Ctx}{ι:dm}{σ:St}{a:Act}{w:World}{o:Oper}{K:St->Prop}
theorem Dx(g:∀k,(ι k).oneCell'=true){x v cs}(h:Den ι x v)(d:x.cells? =some cs):jX ι cs v.cells.toList:=by
 have one:∀u:Value,u.oneCell'=true->u.cells= #[u]:=λu j=>by cases u<;>first|rfl|(simp[Value.oneCell']at j)
 cases x with
 |«at» y=>
  cases y with
  |val u=>
   have h:v=u:=h;subst h;cases v<;>simp only[SV.cells?,ck,reduceCtorEq]at d<;>subst d<;>first|exact⟨rfl,trivial⟩|skip
   exact jX.vals.2 rfl
  |junk=>simp[SV.cells?]at d
  |ptr k e=>
   simp only[SV.cells?,ck]at d;subst d;obtain⟨b,f,rfl⟩:=h;exact⟨⟨b,f,rfl⟩,trivial⟩
  |lst k=>
   simp only[SV.cells?,ck]at d;subst d;have h:v=ι k:=h;rw[one v bo];exact⟨h,trivial⟩
  |el k i p e=>
   simp only[SV.cells?,ck]at d;subst d;obtain⟨b,n,c,f,rfl⟩:=h;exact⟨⟨b,n,c,f,rfl⟩,trivial⟩
 |agg l=>
  simp only[SV.cells?,ck]at d;subst d;obtain⟨r,rfl,m⟩:=h;exact m
 |tup s=>simp[SV.cells?]at d
theorem run_indexAt_slice{P T E}(f:P.underlying T=some (.slice E))(g:jU P E=true) w b off(len:Nat) c k n(h:0<=n)(j:n<(len:Int)):
 (Instr.indexAt T (.slice (some ⟨b,off,none⟩) len c) (.int k n)).run P w= .ok (.pointer (some ⟨b,off+n.toNat*P.cellsOf E,none⟩)) w:=by
 obtain⟨i,d,l,p,m,e⟩:=iI g;rw[m];simp[Instr.indexAt,asIntOf,run_underlying f,h,j,run_sizeOf l,Addr.add_none]
theorem run_indexAt_array{P:Program}{T E len}(e:P.underlying T=some (.array len E))(f:jU P E=true) w b off k n(g:0<=n)(h:n<(len:Int)):
 (Instr.indexAt T (.pointer (some ⟨b,off,none⟩)) (.int k n)).run P w= .ok (.pointer (some ⟨b,off+n.toNat*P.cellsOf E,none⟩)) w:=by
 obtain⟨i,d,j,m,l,c⟩:=iI f;rw[l];simp[Instr.indexAt,asIntOf,run_underlying e,Instr.sureAddr,g,h,run_sizeOf j,Addr.add_none]
theorem O2(u:aR B ι σ a w){T x i}(F:o.op= .indexAddr T x i)(h:HY C o T x i σ K):We C ι o σ K a w:=by
 have e:=u.ev x;have f:=u.ev i;unfold HY at h;split at h
 .rename_i v n G;rw[G]at f;have f:a.eval i= .int v n:=f;split at h
  .rename_i E y;split at h
   .rename_i z
    have j:∀b c len l,a.eval x= .slice (some ⟨b,c,none⟩) len l->0<=n->n<(len:Int)->∀d,(Cz C.P o=false\/d=w)->(execOp a.eval o).run C.P d= .ok (.value (.pointer (some ⟨b,c+n.toNat*C.P.cellsOf E,none⟩))) d:=by
     intro b c len l m p r d _;unfold execOp;simp only[F,m,f,Sem.run_bind,run_indexAt_slice y z d b c len l v n p r,Result.andThen_ok,Sem.run_pure]
    split at h
    .rename_i k m;rw[m]at e;have e:a.eval x=ι k:=e;split at h
     .rename_i E' H N I;split at h
      .rename_i s;have s:=cn s;obtain⟨p,r,h⟩:=h;obtain⟨A,t⟩:=uX u I;rcases t.2 with⟨D,O⟩|⟨g,l,J,D,_⟩
       .omega
       .refine⟨_,.at (.el k n.toNat H 0),j g 0 _ l (by rw[e,D]) p r,⟨g,_,l,D,?_⟩,h⟩
        grind
      grind
     grind
    .rename_i Q len l m;rw[m]at e;obtain⟨b,c,rfl,p,r,h⟩:=h;exact⟨_,.at (.val _),j b c len l e p r,rfl,h⟩
    grind
   grind
  .rename_i len E y;split at h
   .rename_i z
    have j:∀b c,a.eval x= .pointer (some ⟨b,c,none⟩)->0<=n->n<(len:Int)->∀d,(Cz C.P o=false\/d=w)->(execOp a.eval o).run C.P d= .ok (.value (.pointer (some ⟨b,c+n.toNat*C.P.cellsOf E,none⟩))) d:=by
     intro b c m p r d _;unfold execOp;simp only[F,m,f,Sem.run_bind,run_indexAt_array y z d b c v n p r,Result.andThen_ok,Sem.run_pure]
    split at h
    .rename_i k c m;rw[m]at e;obtain⟨b,L,M⟩:=e;obtain⟨p,r,h⟩:=h;exact⟨_,.at (.ptr k (c+n.toNat*C.P.cellsOf E)),j b c M p r,⟨b,L,rfl⟩,h⟩
    .rename_i b c m;rw[m]at e;obtain⟨p,r,h⟩:=h;exact⟨_,.at (.val _),j b c e p r,rfl,h⟩
    grind
   grind
  grind
 grind
theorem bmZ(i:aR B ι σ a w){op tx r x y}(j:o.op= .binOp op tx x y r)(h:aNZ o op x y σ K):We C ι o σ K a w:=by
 have b:=i.ev x;have c:=i.ev y;unfold aNZ at h;split at h
 .rename_i k n l m d e;rw[d]at b;rw[e]at c;have b:a.eval x= .int k n:=b;have c:a.eval y= .int l m:=c;split at h
  .rename_i f;have f:k=l:=of_decide_eq_true f;subst f;obtain⟨p,h⟩:=h;split at h
   .exact⟨_,.at (.val _),λg _=>by unfold execOp;simp[j,b,c,eqGuard,binOp,Op.intDiv,p],rfl,h⟩
   .exact⟨_,.at (.val _),λg _=>by unfold execOp;simp[j,b,c,eqGuard,binOp,Op.intDiv,p],rfl,h⟩
   grind
  grind
 grind
theorem VZ(e:aR B ι σ a w){tx j x y}(l:o.op= .binOp .add tx x y j)(h:RQ C o x y σ K):We C ι o σ K a w:=by
 have c:=e.ev x;have d:=e.ev y;unfold RQ at h;split at h
 .rename_i s t f g;rw[f]at c;rw[g]at d;have c:a.eval x= .string s:=c;have d:a.eval y= .string t:=d;obtain⟨n,h⟩:=h
  have i:¬((s.size+t.size:Nat):Int)>IntKind.i64.max:=by
   have:IntKind.i64.max=9223372036854775807:=bj
   omega
  exact⟨_,.at (.val _),λm _=>by unfold execOp;simp only[l,c,d,eqGuard,binOp,Op.stringOp,if_neg i];simp,rfl,h⟩
 .exact nJ e (λp b=>bo) h
theorem HB(f:aR B ι σ a w){neg tx l x y}(g:o.op= .binOp (match neg with|true=>.neq|false=>.eql) tx x y l)(h:FQ C o neg tx x y σ K):We C ι o σ K a w:=by
 unfold FQ at h;split at h
 .rename_i m n d e;have i:a.eval x= .agg m:=(f.ev x).val? d;have j:a.eval y= .agg n:=(f.ev y).val? e;obtain⟨r,c,h⟩:=h;refine⟨_,.at (.val _),λb _=>?_,rfl,h⟩;cases neg
  .unfold execOp;simp[g,i,j,run_eqGuard_agg _ _ _ _ _ _ _ c.guard,run_eql_struct,c.eq b]
  .unfold execOp;simp[g,i,j,run_eqGuard_agg _ _ _ _ _ _ _ c.guard,run_neq_struct,c.eq b]
 grind
theorem aIZ(off:Nat):∀(l:dc)(s:Nat)(cs:Array Value),off+s+l.length<=cs.size->
 ((l.zipIdx s).foldl (λcs x=>cs.setIfInBounds (off+x.2) x.1) cs).toList=splice cs.toList (off+s) l
 |[],s,cs,_=>by simp[splice]
 |v::l,s,cs,h=>by
  simp only[cu]at h;simp only[zipIdx_cons,foldl_cons];have:=aIZ off l (s+1) (cs.setIfInBounds (off+s) v) bn;rw[this];simp only[Array.toList_setIfInBounds,splice,cu];exact list_seg_step cs.toList (off+s) v l bn
theorem Tj{place cells i off size v rest}(c:place i=some (off,size))(e:v.cells.size=size)(d:off+v.cells.size<=cells.size):
 Instr.fill place cells ((i,v)::rest)=Instr.fill place (splice cells.toList off v.cells.toList).toArray rest:=by
 have b:=aIZ off v.cells.toList 0 cells aD;simp only[Nat.add_zero]at b;simp only[Instr.fill,c];rw[if_neg bn];congr 1;apply Array.toList_inj.1;rw[<-b];rw[<-Array.foldl_toList];simp
theorem Bn{α}(cs:List α) new off(h:off+new.length<=cs.length):(splice cs off new).length=cs.length:=by
 unfold splice;simp;omega
theorem Cs(l:aR B ι σ a w)(place:Nat->Option (Nat×Nat)){P:Program}{T:TypeId}(b:∀i r,partAt P T i=some r->place i=some r):
 ∀(parts:fa)(cs:dv)(cells:Array Value)(out:dv),jX ι cs cells.toList->Fx P T σ parts cs=some out->
  ∃r,Instr.fill place cells (parts.map λp=>(p.1,a.eval p.2))=some r/\jX ι out r.toList
 |[],cs,cells,out,j,h=>by
  simp[Fx]at h;subst h;exact⟨cells,rfl,j⟩
 |(i,x)::parts,cs,cells,out,j,h=>by
  simp only[Fx]at h;split at h
  .rename_i c d new u e;split at h
   .rename_i t f;have t:=cn t;have f:=Nat.le_of_ble_eq_true f;have g:=Dx l.one (l.ev x) e;have m:(a.eval x).cells.size=d:=by have:=g.length;grind
    have n:=j.length;simp at n;have:=Cs l place b parts (splice cs c new) (splice cells.toList c (a.eval x).cells.toList).toArray out (bx (j.splice c g)) h;obtain⟨r,v,s⟩:=this;refine⟨r,?_,s⟩;simp only[map_cons];rw[Tj (b i _ u) m aD];exact v
   .cases h
  .cases h
theorem DB{P T z}(h:zeroCells P T=some z):∃i v,P.info? T=some i/\i.zero=some v/\z=v.cells.toList:=by
 unfold zeroCells at h
 grind
theorem Oy{P:Program}:∀(b:List Field),(b.all λf=>(P.info? f.type).isSome)=true->
 ∃c,b.mapM (λf=>(P.info? f.type).map λi=>(f.offset,i.size))=some c/\c.length=b.length/\∀(i:Nat)(g:Field),b[i]? =some g->c[i]? =some (g.offset,P.cellsOf g.type)
 |[],_=>⟨[],bi,rfl,λi g h=>by simp at h⟩
 |f::b,h=>by
  simp only[all_cons,cm]at h;obtain⟨c,e,d,l⟩:=Oy b h.2;cases m:P.info? f.type with
  |none=>grind
  |some i=>
   refine⟨(f.offset,i.size)::c,?_,by simp[d],?_⟩
   .simp[mapM_cons,m,e]
   .intro j g n;cases j with
    |zero=>simp at n;subst n;simp[Program.cellsOf,m]
    |succ j=>grind
theorem YV(A:aR B ι σ a w){T ps}(I:o.op= .build T ps)(h:V1 C o T ps.toList σ K):We C ι o σ K a w:=by
 unfold V1 at h;split at h
 .rename_i z J;split at h
  .rename_i s e t;obtain⟨N,v,f,D,rfl⟩:=DB J
   have key:∃r,C.P.built T ((ps.map λp=>(p.1,a.eval p.2)).toList)=some r/\jX ι s r.toList:=by
    unfold Qw at t;have j:jX ι (v.cells.toList.map .val) v.cells.toList:=jX.vals.2 rfl;split at t
    .rename_i L l;obtain⟨F,x,G,H⟩:=Oy L.toList t
     have b:∀i r,partAt C.P T i=some r->F.toArray[i]? =some r:=by
      intro i r c;unfold partAt at c;simp only[l]at c;split at c
      .rename_i g M;rw[lS]at M
       grind
      .cases c
     obtain⟨r,c,d⟩:=Cs A (λi=>F.toArray[i]?) b ps.toList _ v.cells s j e;refine⟨r,?_,d⟩;unfold Program.built;simp only[f,l,D,x];simpa using c
    .rename_i n E l;cases m:C.P.info? E with
     |none=>grind
     |some u=>
      have b:∀i r,partAt C.P T i=some r->(λi=>some (i*u.size,u.size)) i=some r:=by
       intro i r c;unfold partAt at c;simp only[l,Program.cellsOf,m]at c
       grind
      obtain⟨r,c,d⟩:=Cs A (λi=>some (i*u.size,u.size)) b ps.toList _ v.cells s j e;refine⟨r,?_,d⟩;unfold Program.built;simp only[f,l,D,m];simpa using c
    .cases t
   obtain⟨r,c,d⟩:=key;refine⟨.agg r,.agg s,λy _=>?_,⟨r,rfl,d⟩,h⟩;unfold execOp;simp only[I,Sem.run_bind,run_build y T _ r c,Result.andThen_ok,Sem.run_pure]
  grind
 grind
theorem a2Q(m:aR B ι σ a w){x c}(u:o.op= .call c)(v:c.callee= .builtin .len)(J:c.args.toList=[x])(h:bAZ C o x c.argTypes.toList σ K):We C ι o σ K a w:=by
 unfold bAZ at h;split at h
 .rename_i k z;split at h
  .rename_i E L A i d
   have n:∃t E,c.argTypes[0]? =some t/\C.P.underlying t=some (.slice E):=by
    unfold Xk at d;split at d
    .rename_i t r l;split at d
     .rename_i E D;exact⟨t,E,by rw[<-ct,l];rfl,D⟩
     .cases d
    .cases d
   obtain⟨t,E',l,y⟩:=n;have e:=m.ev x;rw[z]at e;have e:a.eval x=ι k:=e;obtain⟨p,j⟩:=uX m i;have f:c.args= #[x]:=bo
   refine⟨.int .i64 A.length,.at (.val _),λF _=>?_,rfl,h⟩;rcases j.2 with⟨s,G⟩|⟨g,H,I,s,_⟩
   .unfold execOp;simp[u,resolve,v,invoke,builtin,Builtin.len_,f,l,e,s,run_underlying y,goInt,G]
   .unfold execOp;simp[u,resolve,v,invoke,builtin,Builtin.len_,f,l,e,s,run_underlying y,goInt]
  grind
 .exact nJ m (λM b=>bo) h
theorem WT{P T cs off}(g:jU P T=true)(b:off+P.cellsOf T<=cs.size) w:
 (part T cs off).run P w= .ok (mkV P T ((cs.toList.drop off).take (P.cellsOf T))) w:=by
 obtain⟨i,d,h,j,l,f⟩:=iI g;unfold part mkV;rw[Sem.run_bind,SS j];simp only[Result.andThen_ok];rw[l]at b⊢
 cases Bc P T with
 |true=>
  simp only[if_true,Sem.run_bind,run_sizeOf h,Result.andThen_ok,Sem.run_pure];congr 2
  grind
 |false=>
  have c:off<cs.size:=by omega
  have e:(cs.toList.drop off)=cs[off]::cs.toList.drop (off+1):=by
   rw[<-getElem_cons_drop aD];simp
  simp only[Bool.false_eq_true,if_false,Array.getElem?_eq_getElem c];rw[e];cases m:i.size with
  |zero=>omega
  |succ n=>simp
theorem Xw(p:aR B ι σ a w){T f x}(A:o.op= .field T x f)(h:VR C o T x f σ K):We C ι o σ K a w:=by
 unfold VR at h;split at h
 .rename_i g T' v D r c;split at h
  .rename_i i;simp only[cm]at i;have y:=Nat.le_of_ble_eq_true i.1;have j:=Dx p.one (p.ev x) r;obtain⟨G,Su,E,s,rfl,rfl,H⟩:=Md D
   have F:∃d,a.eval x= .agg d:=by
    have b:=p.ev x;split at c
    .rename_i l t;rw[t]at b;obtain⟨d,e,_⟩:=b;grind
    .rename_i d t;rw[t]at b;exact⟨d,b⟩
    .cases c
   obtain⟨d,m⟩:=F;rw[m]at j;have j:jX ι v d.toList:=j;have z:v.length=d.size:=by have:=j.length;omega
   have n:Su.offset+C.P.cellsOf Su.type<=d.size:=by omega
   refine⟨_,_,λu _=>?_,Ko ((j.drop Su.offset).take (C.P.cellsOf Su.type)),h⟩;unfold execOp;simp only[A,Instr.field,Sem.run_bind,run_underlying E,Result.andThen_ok,s,m,asAgg,Sem.run_pure,WT i.2 n u]
  grind
 grind
theorem Mm:∀{xs:List (Sum At dv)}{vs:dc}(_:Sn ι xs vs)(i:Nat)(y:Sum At dv),xs[i]? =some y->∃v,vs[i]? =some v/\Den ι (match y with|.inl x=>.at x|.inr cs=>.agg cs) v
 |[],[],_,i,y,b=>by simp at b
 |.inl x::_,v::_,h,0,y,b=>by simp at b;subst b;exact⟨v,rfl,h.1⟩
 |.inr cs::_,v::_,h,0,y,b=>by simp at b;subst b;exact⟨v,rfl,h.1⟩
 |.inl _::_,_::_,h,i+1,y,b=>by simp at b⊢;exact Mm h.2 i y b
 |.inr _::_,_::_,h,i+1,y,b=>by simp at b⊢;exact Mm h.2 i y b
 |[],_::_,h,_,_,_=>h.elim
 |.inl _::_,[],h,_,_,_=>h.elim
 |.inr _::_,[],h,_,_,_=>h.elim
theorem SC(m:aR B ι σ a w){x i}(r:o.op= .extract x i)(h:NM C o x i σ K):We C ι o σ K a w:=by
 have g:=m.ev x;unfold NM at h;split at h
 .rename_i u s;rw[s]at g;obtain⟨t,l,n⟩:=g
  have d:∀v,t.toList[i]? =some v->∀c,(Cz C.P o=false\/c=w)->(execOp a.eval o).run C.P c= .ok (.value v) c:=by
   intro v f c _;unfold execOp;rw[ct]at f;simp[r,l,Instr.extract,f]
  split at h
  .rename_i y j;rw[lS]at j;obtain⟨v,f,e⟩:=Mm n i _ j;exact⟨v,.at y,d v f,e,h⟩
  .rename_i p j;rw[lS]at j;obtain⟨v,f,e⟩:=Mm n i _ j;exact⟨v,.agg p,d v f,e,h⟩
  grind
 .exact nJ m (λp b=>bo) h
theorem OF{P:Program}{E:TypeId}{cs:dv}{n:Int}{Q:SV->Prop}:∀(f i:Nat),VJ P E cs n Q f i->(i:Int)<=n->n<((i+f:Nat):Int)->
 Q (mk P E ((cs.drop (n.toNat*P.cellsOf E)).take (P.cellsOf E)))
 |0,i,_,c,d=>by omega
 |f+1,i,h,c,d=>by
  simp only[VJ]at h;rcases zS h with⟨e,b⟩|⟨e,b⟩
  .grind
  .have:n≠(i:Int):=bo
   exact OF f (i+1) b aD aD
theorem Xn(p:aR B ι σ a w){T x i}(L:o.op= .index T x i)(h:VI C o T x i σ K):We C ι o σ K a w:=by
 have c:=p.ev i;unfold VI at h;split at h
 .rename_i v n len E y z;rw[y]at c;have c:a.eval i= .int v n:=c;split at h
  .rename_i M A;split at h
   .rename_i g N j;have g:=cn g;obtain⟨D,S,h⟩:=h;have r:=Dx p.one (p.ev x) A
    have U:∃m,a.eval x= .agg m:=by
     have f:=p.ev x;split at j
     .rename_i l F;rw[F]at f;obtain⟨m,e,_⟩:=f;grind
     .rename_i m F;rw[F]at f;exact⟨m,f⟩
     .cases j
    obtain⟨m,t⟩:=U;rw[t]at r;have r:jX ι M m.toList:=r;have G:M.length=m.size:=by have:=r.length;omega
    obtain⟨Y,d,H,V,O,Q⟩:=iI N;have W:=OF len 0 h aD aD;refine⟨_,_,λu _=>?_,Ko ((r.drop (n.toNat*C.P.cellsOf E)).take (C.P.cellsOf E)),W⟩
    have I:n.toNat*C.P.cellsOf E+C.P.cellsOf E<=m.size:=by
     rw[<-G,g, <-Nat.succ_mul];exact Nat.mul_le_mul_right _ aD
    have R:=WT N I u;unfold execOp;rw[O]at R;simp only[L,Instr.index,c,asIntOf,Sem.run_bind,Sem.run_pure,run_underlying z,Result.andThen_ok,t,D,S,and_self,if_true,run_sizeOf H,R,O]
   grind
  grind
 .rename_i v n y z;rw[y]at c;have c:a.eval i= .int v n:=c;split at h
  .rename_i s X;have f:=p.ev x;rw[X]at f;have f:a.eval x= .string s:=f;obtain⟨D,b,Z,h⟩:=h;refine⟨_,.at (.val _),λu _=>?_,rfl,h⟩
   have J:s[n.toNat]? =some b:=by
    have:s[n.toNat]? =s.data[n.toNat]? :=by
     simp only[getElem?_def];rfl
    grind
   unfold execOp;simp[L,Instr.index,c,asIntOf,run_underlying z,f,D,J]
  grind
 grind
end
end Go.Vc
namespace Go.Vc
open Go List
section
variable{B:xC}{C:Ctx}{ι:dm}{σ:St}{a:Act}{w:World}{o:Oper}{K:St->Prop}
theorem Hh{P l src d E E' sz x v c}(t:o.op= .convert src d x)(u:P.underlying src=some (.slice E))(p:P.underlying E=some (.int .u8))(y:P.underlying d=some .string)(m:a.eval x=v)(f:l.ownsRow 0 E' sz v (bJ c).length (bJ c).flatten):(execOp a.eval o).run P l= .ok (.value (.string ⟨c.toArray⟩)) l:=by
 have h:(bJ c).length=c.length:=by simp[bJ]
 rcases f.2 with⟨r,z⟩|⟨g,s,D,r,_⟩
 .rw[h]at z;have:c=[]:=eq_nil_of_length_eq_zero z;subst this;unfold execOp;simp only[t,m,r,Sem.run_bind,run_convert_bytes_nil l src E u p 0 0 d y,Result.andThen_ok,Sem.run_pure];rfl
 .have n:strOfNums (c.map λb=>(b.toNat:Int))=⟨c.toArray⟩:=by
   unfold strOfNums;congr 1;simp[Function.comp_def]
  have j:∀i,i<c.length->l.cell? ⟨g,0+i,none⟩=some (.int .u8 ((c.map λb=>(b.toNat:Int)).getD i 0)):=by
   intro i F
   have G:(bJ c).flatten[i*1+0]? =some (.int .u8 (c[i].toNat:Int)):=
    oO (sz:=1) (e:=[.int .u8 (c[i].toNat:Int)]) (λe p=>by obtain⟨b,_,rfl⟩:=mem_map.1 p;rfl) (by simp[bJ,F]) 0 _ rfl
   have:=f.cells (g:=g) (by rw[r];rfl) _ _ G;rw[Addr.add_none]at this
   grind
  have A:=run_convert_bytes_arg (P:=P) l src E u p g 0 c.length s (c.map λb=>(b.toNat:Int)) bi j d y;rw[n]at A;unfold execOp;simp only[t,m,r,h,Sem.run_bind,A,Result.andThen_ok,Sem.run_pure]
theorem SD(i:aR B ι σ a w){src e x}(m:o.op= .convert src e x)(h:NP C o src e x σ K):We C ι o σ K a w:=by
 unfold NP at h;split at h
 .rename_i k p;split at h
  .rename_i E' t u E f n r;split at h
   .rename_i s;obtain⟨v,rfl,h⟩:=h;have d:=i.ev x;rw[p]at d;have d:a.eval x=ι k:=d;obtain⟨j,g⟩:=uX i f;refine⟨_,.at (.val _),λl c=>?_,rfl,h⟩;have c:l=w:=c.resolve_left (by simp[Cz,m,n]);rw[c];exact Hh m n s r d g
   grind
  grind
 .exact nJ i (λy b=>bo) h
structure Kt(σ:St)(ι:dm)(o:Oper)(w w':World):Prop where
 cells:∀k p T cs b,nth σ.own k=some (some (.cellsP p T cs))->Bm σ o k=false->ι k= .pointer (some ⟨b,0,none⟩)->w'.heap[b]? =w.heap[b]?
 imm:∀b off v,σ.h b off=some v->w'.cell? ⟨b,off,none⟩=some v
 ext:B9 o.op=true->∀b,b<w.heap.size->w'.heap[b]? =w.heap[b]?
 args:∀l b,vY o=some l->b<w.heap.size->σ.m b=none->(∀x∈l,∀k,(σ.ev x= .at (.lst k)\/∃off,σ.ev x= .at (.ptr k off))->blk (ι k)≠some b)->w'.heap[b]? =w.heap[b]?
def Ws(B:xC)(C:Ctx)(ι:dm)(o:Oper)(σ:St)(K:St->Prop)(a:Act)(w:World):=
 ∀(next:Act->World->Prop)(Q:Exit->Act->World->Prop),(∀e c d b,aR B e c d b->K c->Kt σ ι o w b->next d b)->o.wp C.P a w next Q
theorem GY(g:aR B ι σ a w){w'} j(z:(∃p T cs,nth σ.own j=some (some (.cellsP p T cs)))->Bm σ o j=true)(r:∀b,b<w.heap.size->¬((∃o',nth σ.own j=some (some o'))/\blk (ι j)=some b)->w'.heap[b]? =w.heap[b]?)(t:B9 o.op=true->∀b,b<w.heap.size->w'.heap[b]? =w.heap[b]?)(u:∀l,vY o=some l->∀b,b<w.heap.size->w'.heap[b]? =w.heap[b]?):Kt σ ι o w w':=by
 refine⟨?_,?_,t,λl b h i _ _=>u l h b i⟩
 .intro k p T cs b s A x;have m:=g.own k _ s;have f:blk (ι k)=some b:=by rw[x];rfl
  refine r b (uC m f) ?_;rintro⟨⟨o',d⟩,e⟩;have:=g.dist k j _ _ b s d f e
  grind
 .intro b c v y;have h:=g.wrel.hsat b c v y;have n:b<w.heap.size:=World.block_lt_of_cell? w ⟨b,c,none⟩ h
  have i:=r b n (by
   rintro⟨⟨o',d⟩,e⟩;have:=(g.fresh j o' b d e).2.2 c
   grind)
  rw[<-h];exact World.cell?_of_block (w:=w) (w':=w') (a:=⟨b,c,none⟩) i
theorem D8{d}(b:o.dst=some d):Bm σ o d=true:=by
 unfold Bm;simp[b]
theorem qI(w:World) ob:(w.alloc ob).heap[w.heap.size]? =some ob:=by
 show(w.heap.push ob)[w.heap.size]? =_;simp
theorem iY(w:World) ob{b}(h:b<w.heap.size):(w.alloc ob).heap[b]? =w.heap[b]? :=by
 show(w.heap.push ob)[b]? =_
 grind
theorem Zp S w ob:FH S w (w.alloc ob):=
 ⟨rfl,rfl,rfl,Nat.le_refl _,by show w.heap.size<=(w.heap.push ob).size;simp,λb c _=>iY w ob c⟩
theorem Iy(h:aR B ι σ a w){d}(i:o.dst=some d){ob g v x}(s:blk v=some w.heap.size)(f:v.oneCell'=true)(m:FK (upd ι d v) (w.alloc ob) v g)(n:Den (upd ι d v) x v){next:Act->World->Prop}(c:∀p j l w',aR B p j l w'->K j->Kt σ ι o w w'->next l w')(r:K (((σ.kill d).setOwn d (some g)).put (some d) x)):next (a.put o.dst v) (w.alloc ob):=by
 rw[i];refine c (upd ι d v) _ _ _ ?_ r ?_
 .refine aR.put ?_ (some d) n;exact h.place d g v (Zp _ w ob) m f (λb e=>bo)
 .exact GY h d (λ_=>D8 i) (λb e _=>iY w ob e) (λ_ b e=>iY w ob e) (λ_ _ b e=>iY w ob e)
theorem YZ(g:aR B ι σ a w){T}(i:o.op= .alloc T)(h:V4 C o T σ K):Ws B C ι o σ K a w:=by
 intro next Q b
 unfold V4 at h;split at h
 .rename_i d z j l;obtain⟨n,v,f,m,rfl⟩:=DB l
  have c:(execOp a.eval o).run C.P w= .ok (.value (.pointer (some ⟨w.heap.size,0,none⟩))) (w.alloc (.cells v.cells T)):=by
   unfold execOp;simp[i,Instr.alloc,zeroValue,typeInfo,f,m,newVar,newRow]
  unfold Oper.wp;rw[c,Oper.upon_value];refine Iy g j rfl rfl ?_ (x:=.at (.ptr d 0)) ⟨w.heap.size,bi,rfl⟩ b h;exact⟨w.heap.size,v.cells,rfl,qI _ _,jX.vals.2 rfl,λ_ e=>by cases e⟩
 grind
theorem UO(g:aR B ι σ a w){T x}(j:o.op= .box T x)(h:aOX o T x σ K):Ws B C ι o σ K a w:=by
 intro next Q b
 unfold aOX at h;split at h
 .rename_i d m l i
  have c:(execOp a.eval o).run C.P w= .ok (.value (.pointer (some ⟨w.heap.size,0,none⟩))) (w.alloc (.cells (a.eval x).cells T)):=by
   unfold execOp;simp[j,Instr.box,newVar,newRow]
  unfold Oper.wp;rw[c,Oper.upon_value];refine Iy g l rfl rfl ?_ (x:=.at (.ptr d 0)) ⟨w.heap.size,bi,rfl⟩ b h;exact⟨w.heap.size,_,rfl,qI _ _,jX.sub (f:=λ_=>.junk) (λ_ _ _ _=>trivial) (Dx g.one (g.ev x) i),λ_ e=>by cases e⟩
 grind
end
end Go.Vc
namespace Go.Vc
open Go List
section
variable{B:xC}{C:Ctx}{ι:dm}{σ:St}{a:Act}{w:World}{o:Oper}{K:St->Prop}
theorem ciZ(D:aR B ι σ a w){k E sz xs}(O:nth σ.own k=some (some (.lst E sz xs))):
 ∃(s:Sl)(l:PH),PH.le σ.h l/\cO l s sz xs/\ι k=s.val/\
  aR B ι {(σ.sub k (λ |.lst _=>.val s.val|_=>.junk)).setOwn k none with h:=l} a w/\
  Fz σ {(σ.sub k (λ |.lst _=>.val s.val|_=>.junk)).setOwn k none with h:=l}:=by
 obtain⟨t,n⟩:=uX D O;have H:∀p T V,nth σ.own k≠some (some (.cellsP p T V)):=λp T V e=>bo
 have r:∀(s:Sl),ι k=s.val->aR B ι ((σ.sub k (λ |.lst _=>.val s.val|_=>.junk)).setOwn k none) a w:=by
  intro s N
  have:=D.drop k (ι k) (D.one k) (λ |.lst _=>.val s.val|_=>.junk) (by
   intro x v I P;cases x<;>simp only[At.key,ck,reduceCtorEq]at I
   case ptr=>trivial
   case el=>trivial
   case lst j=>
    subst I;have P:v=ι j:=P;show v=s.val;rw[P,N])
  rwa [Kx]at this
 rcases n.2 with⟨u,X⟩|⟨g,y,Y,u,_,hg,J,Z,a',Q⟩
 .have I:xs=[]:=eq_nil_of_length_eq_zero X;refine⟨⟨none,0,0⟩,σ.h,⟨λ_ _ _ h=>h⟩,⟨by simp[I],.inl I,Nat.le_refl _⟩,u,r _ u,?_⟩;exact bCZ (m:=σ.m) (h:=σ.h) rfl (λx j o=>bo) (λx j=>bo) H (λ_ _ _ h=>h)
 .have R:=D.fresh k _ g O (by rw[u];rfl)
  let l:PH:=λb o=>if b=g then xs.flatten[o]? else σ.h b o
  have z:∀b o v,σ.h b o=some v->l b o=some v:=by
   grind
  have N:ι k=Sl.val ⟨some ⟨g,0,none⟩,xs.length,y⟩:=u;refine⟨⟨some ⟨g,0,none⟩,xs.length,y⟩,l,⟨z⟩,⟨rfl,.inr ⟨g,0,rfl,?_⟩,J⟩,N,?_,?_⟩
  .intro i e hi;constructor;intro j v F;show(if g=g then _ else _)=_;rw[if_pos rfl,Nat.zero_add];exact oO t.len hi j v F
  .have c:=r _ N
   have A:∀j L,nth ((σ.sub k (λ |.lst _=>.val (Sl.val ⟨some ⟨g,0,none⟩,xs.length,y⟩)|_=>.junk)).setOwn k none).own j=some (some L)->blk (ι j)≠some g:=by
    intro j L F M;obtain⟨S,o1,U,_⟩:=tB F;exact S (D.dist j k _ _ g U O M (by rw[u];rfl))
   refine⟨c.slots,c.defers,c.own,c.dist,?_,?_,c.one⟩
   .intro j L b F M;obtain⟨h1,h2,h3⟩:=c.fresh j L b F M;refine⟨h1,h2,λi=>?_⟩;show(if b=g then _ else _)=_;rw[if_neg (λe:b=g=>A j L F bo)];exact h3 i
   .have d:=D.wrel;refine⟨d.tape,d.os,d.output,d.drawn,d.size,d.frame,?_,d.msat,?_,λb o v h=>z b o v (d.hle b o v h),?_,d.mfr⟩
    .intro b f v G;have G:(if b=g then xs.flatten[f]? else σ.h b f)=some v:=G;by_cases e:b=g
     .subst e;rw[if_pos rfl]at G;have:=n.cells (g:=b) (by rw[u];rfl) f v G
      rwa [Addr.add_none,Nat.zero_add]at this
     .rw[if_neg e]at G;exact d.hsat b f v G
    .intro b ob W i;show(if b=g then _ else _)=_;rw[if_neg (λe=>by subst e;have:=R.2.1;simp only[St.setOwn,St.sub]at W;grind)];exact d.disj b ob W i
    .intro b M hE;funext i;show(if b=g then _ else _)=_;rw[if_neg (λe=>bo)];exact congrFun (d.hold b M hE) i
  .exact bCZ (m:=σ.m) (h:=l) rfl (λx j o=>bo) (λx j=>bo) H z
theorem rD:∀(ks:dq)(σ:St),aR B ι σ a w->yB σ K ks->∃b,aR B ι b a w/\K b/\Fz σ b
 |[],σ,e,h=>⟨σ,e,h,Fz.refl σ⟩
 |k::ks,σ,e,h=>by
  simp only[yB]at h;split at h
  .rename_i E p r l;obtain⟨s,m,f,c,_,g,i⟩:=ciZ e l;obtain⟨b,j,n,d⟩:=rD ks _ g (h s m f c);exact⟨b,j,n,i.trans d⟩
  grind
theorem Ic{P T E z}(h:elemOf P T=some (E,z)):
 ∃i v,P.underlying T=some (.slice E)/\P.info? E=some i/\i.zero=some v/\z=v.cells.toList/\v.cells.size=i.size/\P.cellsOf E=i.size/\0<i.size/\∀u∈z,u.oneCell'=true:=by
 unfold elemOf at h;split at h
 .rename_i E' e;split at h
  .rename_i f c;split at h
   .rename_i b g j;simp only[ck,Prod.mk.injEq]at h;obtain⟨rfl,rfl⟩:=h;obtain⟨i,v,d,l,rfl⟩:=DB c;have m:P.cellsOf E'=i.size:=by simp[Program.cellsOf,d]
    have b:=cn b
    grind
   .cases h
  .cases h
 .cases h
theorem dJ{sz:Nat}:∀{xs:List dc},(∀e∈xs,e.length=sz)->xs.flatten.length=xs.length*sz
 |[],_=>bi
 |x::xs,h=>by
  rw[flatten_cons,cg,dJ (λe b=>h e (by simp[b])),h x bi,cu,Nat.succ_mul];omega
theorem Hi(v:aR B ι σ a w){sz:Nat}(z:0<sz):∀(parts:fa)(es:List dc)(out:List dc),eU sz es->Fw σ sz parts es=some out->
 eU sz out/\out.length=es.length/\Instr.fill (λi=>some (i*sz,sz)) es.flatten.toArray (parts.map λp=>(p.1,a.eval p.2))=some out.flatten.toArray
 |[],es,out,j,h=>by simp[Fw]at h;subst h;exact⟨j,rfl,rfl⟩
 |(i,x)::parts,es,out,j,h=>by
  simp only[Fw]at h;split at h
  .rename_i m A;split at h
   .rename_i l D;split at h
    .rename_i b f E;have b:=cn b;have f:=Nat.le_of_ble_eq_true f;have t:=Dx v.one (v.ev x) A;rw[Fk D,jX.vals]at t
     have G:∀u∈l,u.oneCell'=true:=by
      intro u N;have H:=Fk D;clear t D
      have:∀(m:dv),vZ m=true->∀x∈m,x.storable=true:=by
       intro m
       induction m with
       |nil=>grind
       |cons y r I=>
        intro J x O;simp only[vZ]at J
        grind
      have d:=this m E (.val u) bo;cases u<;>first|rfl|(simp[At.storable]at d)
     have F:eU sz (es.set i l):=by
      constructor
      .intro e n;rcases mem_or_eq_of_mem_set n with d|d
       .exact j.len e d
       grind
      .intro e n;rcases mem_or_eq_of_mem_set n with d|d
       .exact j.one e d
       grind
     obtain⟨d,P,L⟩:=Hi v z parts (es.set i l) out F h;refine⟨d,bo,?_⟩;simp only[map_cons]
     have g:∀(es:List dc)(i:Nat),(∀e∈es,e.length=sz)->i<es.length->splice es.flatten (i*sz) l=(es.set i l).flatten:=by
      intro es
      induction es with
      |nil=>grind
      |cons e r I=>
       intro i c Q;have n:e.length=sz:=c e bi;cases i with
       |zero=>
        simp only[splice,Nat.zero_mul,take_zero,nil_append,Nat.zero_add,flatten_cons,set_cons_zero,b]
        grind
       |succ i=>
        have:=I i (λe n=>c e (by simp[n])) bo;simp only[flatten_cons,set_cons_succ, <-this,splice];have M:(i+1)*sz=e.length+i*sz:=bo
        rw[M,take_length_add_append,show e.length+i*sz+l.length=e.length+(i*sz+l.length)by omega,drop_length_add_append];simp
     have s:=dJ j.len;rw[Tj rfl bo (by rw[<-Array.length_toList,t];simp only[size_toArray,s,b];rw[<-Nat.succ_mul];exact Nat.mul_le_mul_right _ f),t];rw[g es i j.len aD];exact L
    .cases h
   .cases h
  .cases h
end
end Go.Vc
namespace Go.Vc
open Go List
section
variable{B:xC}{C:Ctx}{ι:dm}{σ:St}{a:Act}{w:World}{o:Oper}{K:St->Prop}
theorem LZ{z sz}(b:z.size=sz)(f:0<sz) n:(madeCells z (n*sz)).toList=(replicate n z.toList).flatten:=by
 apply ext_getElem?;intro j;by_cases g:j<n*sz
 .have h:j/sz<n:=Nat.div_lt_of_lt_mul bo;have c:j%sz<sz:=Nat.mod_lt _ f;have d:=oO (xs:=replicate n z.toList) (sz:=sz) (i:=j/sz) (e:=z.toList) (λe l=>bo) (by simp[h]) (j%sz) z[j%sz] (by simp[b,c]);rw[show j/sz*sz+j%sz=j by rw[Nat.mul_comm];exact Nat.div_add_mod j sz]at d;rw[d];simp[madeCells,g,b,c]
 .rw[getElem?_eq_none,getElem?_eq_none]
  .rw[dJ (sz:=sz) (λe l=>bo)];simp;omega
  .simp[madeCells];omega
theorem sL{z sz}(c:z.length=sz)(d:∀u∈z,u.oneCell'=true) n:eU sz (replicate n z):=
 ⟨λe b=>bo,λe b=>bo⟩
theorem P6{τ}(e:Fz σ τ){k}(h:Bm σ o k=false):Bm τ o k=false:=by
 have m:∀(l:dx)(j:Nat),j∈rV τ l->j∈rV σ l:=by
  intro l
  induction l with
  |nil=>intro j c;cases c
  |cons x r n=>
   intro j c
   have f:∀(υ:St)(j:Nat),j∈rV υ (x::r)↔(∃b,υ.ev x= .at (.ptr j b))\/j∈rV υ r:=by
    intro υ j;simp only[rV]
    grind
   rw[f]at c⊢
   rcases c with⟨b,c⟩|c
   .exact .inl ⟨b,e.ptr _ _ _ c⟩
   grind
 unfold Bm at h⊢
 rw[Bool.or_eq_false_iff]at h⊢
 refine⟨h.1,?_⟩;have d:=h.2;split at d
 .rename_i t x v g;split
  .rename_i j b i;rw[e.ptr _ _ _ i]at d;exact d
  .rfl
 .grind
 .rfl
theorem Kt.of_fz{τ w'}(d:Fz σ τ)(h:Kt τ ι o w w'):Kt σ ι o w w':=
 ⟨λk p T g b f i j=>let⟨cs',hk'⟩:=d.cells k p T g f;h.cells k p T cs' b hk' (P6 d i) j,λb c v m=>h.imm b c v (d.imm b c v m),h.ext,λl b n r s t=>h.args l b n r (by rw[d.m_];exact s) (λx u k f=>t x u k (f.imp (d.lst x k) (λ⟨c,e⟩=>⟨c,d.ptr x k c e⟩)))⟩
theorem aZJ(ps:Array (Nat×Operand))(a:Act):(ps.map fun(i,x)=>(i,a.eval x)).toList=ps.toList.map λp=>(p.1,a.eval p.2):=bi
theorem NT(H:aR B ι σ a w){T n ps}(I:o.op= .buildSlice T n ps)(h:G9 C o T n ps.toList σ K):Ws B C ι o σ K a w:=by
 intro next Q f
 unfold G9 at h;obtain⟨τ,l,h,u⟩:=rD _ _ H h;split at h
 .rename_i d E z J L;split at h
  .rename_i j m g;obtain⟨s,v,D,F,M,rfl,y,N,e,p⟩:=Ic L;rw[N]at m g h;have g:=Nat.le_of_ble_eq_true g;obtain⟨t,c,b⟩:=Hi l e ps.toList _ j (sL aD p n) m;simp only[length_replicate]at c
   have r:(execOp a.eval o).run C.P w= .ok (.value (.slice (some ⟨w.heap.size,0,none⟩) n n)) (w.alloc (.cells j.flatten.toArray E)):=by
    have O:(Instr.buildSlice T n (ps.map fun(i,x)=>(i,a.eval x))).run C.P w= .ok (.slice (some ⟨w.heap.size,0,none⟩) n n) (w.alloc (.cells j.flatten.toArray E)):=by
     by_cases G:n*s.size=0
     .have R:n=0:=by rcases Nat.mul_eq_zero.1 G with h|h<;>omega
      subst R;have:j=[]:=eq_nil_of_length_eq_zero c;subst this;simp only[replicate_zero,flatten_nil]at b;have A:Array.map (λ_:Nat=>(default:Value)) (Array.range 0)= #[]:=bo
      simp[Instr.buildSlice,run_underlying D,run_sizeOf F,newRow];rw[A,b];simp
     .refine run_buildSlice w T E n _ j.flatten.toArray s v D F M aD G ?_
      have:((Array.range (n*s.size)).map (v.cells[· %v.cells.size]!))=(replicate n v.cells.toList).flatten.toArray:=by
       apply Array.toList_inj.1;have:=LZ y e n;unfold madeCells at this;rw[this]
      rw[this,aZJ];exact b
    unfold execOp;simp only[I,Sem.run_bind,O,Result.andThen_ok,Sem.run_pure]
   unfold Oper.wp;rw[r,Oper.upon_value];refine Iy l J rfl rfl ?_ (x:=.at (.lst d)) (by show _=_;simp) (λS U V W X Y Z=>f S U V W X Y (Z.of_fz u)) h;refine⟨t,dJ t.len,.inr ⟨w.heap.size,n,j.flatten.toArray,by rw[c],Nat.zero_le _,qI _ _,aD,?_,?_,?_⟩⟩
   .have:n<=n*s.size:=Nat.le_mul_of_pos_right n e;unfold maxLen;omega
   .simp only[size_toArray,dJ t.len,c]
   .rw[ci];rw[dJ t.len];omega
  grind
 grind
theorem OZ(t:aR B ι σ a w){T l c}(L:o.op= .makeSlice T l c)(h:HR C o T l c σ K):Ws B C ι o σ K a w:=by
 intro next Q f
 have p:=t.ev l;have r:=t.ev c;unfold HR at h;split at h
 .rename_i d E z G n H m M N u y;rw[u]at p;rw[y]at r;have p:a.eval l= .int G n:=p;have r:a.eval c= .int H m:=r;obtain⟨s,v,O,I,R,rfl,A,D,i,b⟩:=Ic N;obtain⟨S,U,J,V,h⟩:=h;rw[D]at h;have F:C.P.bytesOf E=s.bytes:=by simp[Program.bytesOf,I]
  rw[F,Int.mul_comm]at J
  have j:(execOp a.eval o).run C.P w= .ok (.value (.slice (some ⟨w.heap.size,0,none⟩) n.toNat m.toNat)) (w.alloc (.cells (madeCells v.cells (m.toNat*s.size)) E)):=by
   unfold execOp;simp only[L,p,r,Sem.run_bind,run_make (P:=C.P) w T E s v O I R G H n m S U J aD,Result.andThen_ok,Sem.run_pure]
  unfold Oper.wp;rw[j,Oper.upon_value];refine Iy t M rfl rfl ?_ (x:=.at (.lst d)) (by show _=_;simp) f h;have g:v.cells.toList.length=s.size:=by omega
  refine⟨sL g b _,dJ (sL g b _).len,.inr ⟨w.heap.size,m.toNat,_,bo,Nat.zero_le _,qI _ _,?_,?_,size_madeCells _ _,?_⟩⟩
  .simp;omega
  .unfold maxLen;omega
  .rw[LZ A i]
   have e:replicate m.toNat v.cells.toList=replicate n.toNat v.cells.toList++replicate (m.toNat-n.toNat) v.cells.toList:=by
    rw[replicate_append_replicate];grind
   rw[e,flatten_append,take_left'];rw[dJ (sL g b _).len]
 grind
theorem Ac{P:Program}(w:World)(t tx M e:TypeId) i z(N:P.underlying t=some (.slice e))(O:P.info? e=some i)(Y:i.zero=some z)(T:z.cells.size=i.size) v n xs(l:w.ownsRow 0 e i.size v n xs) x m c(A:Src P i.size tx x m c w)(H:n+m<=maxLen)(p:(n+m)*i.bytes<=140737488355328):
 ∃Q w',(Builtin.append_ #[t,tx] M #[v,x]).run P w= .ok Q w'/\w'.ownsRow 0 e i.size Q (n+m) (xs++c)/\FH (λb=>v.ownBlock=some b) w w'/\
  (∀b,Q.ownBlock=some b->w.heap.size<=b\/v.ownBlock=some b)/\Q.oneCell'=true:=by
 have R:n+m<=9223372036854775807:=by simp only[maxLen]at H;omega
 have Z:=A.newsLen;have r:(xs++c).length=(n+m)*i.size:=by rw[cg,l.1,Z,Nat.add_mul]
 have grown:∀(f:Nat),f<n+m->∀(S:Nat->Prop),
  (w.drew.alloc (.cells ((xs++c).toArray++Builtin.zeroCells z.cells (grownCap w (n+m) f e-(n+m))) e)).ownsRow 0 e i.size
   (.slice (some ⟨w.heap.size,0,none⟩) (n+m) (grownCap w (n+m) f e)) (n+m) (xs++c)/\
  FH S w (w.drew.alloc (.cells ((xs++c).toArray++Builtin.zeroCells z.cells (grownCap w (n+m) f e-(n+m))) e)):=by
  intro f ho S;have U:=grownCap_ge w (n+m) f e;have E:grownCap w (n+m) f e<=maxLen:=grownCap_le_maxLen w (n+m) f e H;refine⟨⟨r,.inr ⟨w.heap.size,_,_,rfl,Nat.zero_le _,heap_alloc_new w.drew _,U,E,?_,?_⟩⟩,⟨rfl,rfl,rfl,Nat.le_succ _,bi,λk D _=>heap_alloc_old w.drew _ k D⟩⟩
  .simp only[Array.size_append,size_toArray,size_zeroCells,T,r, <-Nat.add_mul]
   grind
  grind
 rcases l.2 with⟨rfl,rfl⟩|⟨g,d,s,rfl,V,hg,a0,E,W,X⟩
 .have hx:xs=[]:=eq_nil_of_length_eq_zero bo;subst hx;by_cases hm:m=0
  .subst hm;have hn:c=[]:=eq_nil_of_length_eq_zero aD;subst hn;refine⟨.slice none 0 0,w,?_,World.ownsRow_nil w 0 e i.size,FH.refl _ _,λb G=>bo,rfl⟩;rcases A.kind with⟨e',D⟩|D<;>simp[Builtin.append_,run_underlying N,run_underlying D,sizeOf,typeInfo,O,A.len,A.cells]
  .have I:=run_append_grow_src (P:=P) w t tx M e i z N O Y none 0 0 [] (by simp[Builtin.firstCells]) x m c A aD aD (growslice_fits aD p);have y:=grown 0 aD (λb=>Value.ownBlock (.slice none 0 0)=some b);exact⟨_,_,I,y.1,y.2,λb G=>by simp[Value.ownBlock]at G;left;omega,rfl⟩
 .by_cases h:n+m<=d
  .have a':n*i.size+c.length<=s.size:=by rw[Z,W, <-Nat.add_mul];exact Nat.mul_le_mul_right _ h
   have J:=run_storeCells_at P g (n*i.size) e c 0 s w hg aD A.one;simp only[Nat.add_zero]at J
   have I:(Builtin.append_ #[t,tx] M #[.slice (some ⟨g,0,none⟩) n d,x]).run P w= .ok (.slice (some ⟨g,0,none⟩) (n+m) d) (w.setRow g (s.toList.take (n*i.size)++c++s.toList.drop (n*i.size+c.length)).toArray):=by
    rcases A.kind with⟨e',D⟩|D<;>simp[Builtin.append_,run_underlying N,run_underlying D,sizeOf,typeInfo,O,A.len,h,A.cells,Addr.add_lit,J]
   refine⟨_,_,I,⟨r,.inr ⟨g,d,_,rfl,V,setRow_heap w g s _ e _ hg,h,E,?_,?_⟩⟩,⟨rfl,rfl,rfl,Nat.le_refl _,bi,λk _ D=>setRow_other w g k _ (λe=>D (by simp[Value.ownBlock,e]))⟩,λb G=>.inr G,rfl⟩
   .grind
   grind
  .have F:∀j u,xs[j]? =some u->w.cell? ((⟨g,0,none⟩:Addr).add j)=some u:=l.cells (g:=g) rfl
   have L:(Builtin.firstCells i.size n (.slice (some ⟨g,0,none⟩) n d)).run P w.drew= .ok xs.toArray w.drew:=
    run_firstCells_some w.drew i.size n ⟨g,0,none⟩ n d xs l.1 (bx F)
   have I:=run_append_grow_src (P:=P) w t tx M e i z N O Y (some ⟨g,0,none⟩) n d xs L x m c A aD aD (growslice_fits aD p);have y:=grown d aD (λb=>Value.ownBlock (.slice (some ⟨g,0,none⟩) n d)=some b);exact⟨_,_,I,y.1,y.2,λb G=>by simp[Value.ownBlock]at G;left;omega,rfl⟩
end
end Go.Vc
namespace Go.Vc
open Go Go.Lib List
theorem U9{z sz}(b:z.size=sz)(f:0<sz) n:(Builtin.zeroCells z n).toList=(replicate n z.toList).flatten:=by
 apply ext_getElem?;intro j;by_cases g:j<n*sz
 .have h:j/sz<n:=Nat.div_lt_of_lt_mul bo;have c:j%sz<sz:=Nat.mod_lt _ f;have d:=oO (xs:=replicate n z.toList) (sz:=sz) (i:=j/sz) (e:=z.toList) (λe l=>bo) (by simp[h]) (j%sz) z[j%sz] (by simp[b,c]);rw[show j/sz*sz+j%sz=j by rw[Nat.mul_comm];exact Nat.div_add_mod j sz]at d;rw[d];simp[Builtin.zeroCells,g,b,c]
 .rw[getElem?_eq_none,getElem?_eq_none]
  .rw[dJ (sz:=sz) (λe l=>bo)];simp;omega
  .simp[Builtin.zeroCells,b];omega
theorem MR{P:Program}(w:World)(t g:TypeId) l e i z m n(v:P.underlying t=some (.slice e))(h:P.underlying g=some (.int n))(y:P.info? e=some i)(A:i.zero=some z)(c:z.cells.size=i.size)(p:0<i.size) k(r:0<k)(d:k*i.bytes<=140737488355328)(D:k<=140737488355328):
 ∃f w',(Builtin.append_ #[t,g] l #[.slice none 0 0,.int m k]).run P w= .ok f w'/\w'.ownsRow 0 e i.size f k (replicate k z.cells.toList).flatten/\FH (λ_=>False) w w'/\
  (∀b,f.ownBlock=some b->w.heap.size<=b)/\f.oneCell'=true:=by
 have s:=run_append_grow_zeros w t g l e i z m n v h y A none 0 0 [] (run_firstCells_none w.drew i.size 0 0 0) k r p aD aD aD (by rw[Nat.zero_add,nextslicecap_zero r];omega);rw[Nat.zero_add]at s;have E:=grownCap_ge w k 0 e;have j:=grownCap_le_maxLen w k 0 e (by unfold maxLen;omega);refine⟨_,_,s,?_,?_,?_,rfl⟩
 .refine⟨dJ (sz:=i.size) (λx u=>bo) |>.trans bi,.inr ⟨w.heap.size,_,_,rfl,Nat.zero_le _,qI _ _,aD,j,?_,?_⟩⟩
  .simp[Builtin.zeroCells,c];rw[<-Nat.add_mul]
   grind
  .simp only[Array.toList_append,U9 c p];rw[take_append_of_le_length]
   .simp only[nil_append];rw[ci];rw[dJ (sz:=i.size) (λx u=>bo)];simp
   .simp only[nil_append];rw[dJ (sz:=i.size) (λx u=>bo)];simp
 .exact⟨rfl,rfl,rfl,Nat.le_succ _,by show w.heap.size<=(w.heap.push _).size;simp,λb d _=>iY w.drew _ d⟩
 .intro b d;simp[Value.ownBlock]at d;omega
end Go.Vc
namespace Go.Vc
open Go List
section
variable{B:xC}{C:Ctx}{ι:dm}{σ:St}{a:Act}{w:World}{o:Oper}{K:St->Prop}
theorem H8{sz:Nat}:∀{xs:List dc}(_:∀e∈xs,e.length=sz) {j:Nat} {v:Value},xs.flatten[j]? =some v->∃(i:Nat)(e:dc)(q:Nat),xs[i]? =some e/\e[q]? =some v/\j=i*sz+q
 |[],_,j,v,h=>by simp at h
 |x::xs,b,j,v,h=>by
  have g:=b x bi;rw[flatten_cons]at h;by_cases c:j<x.length
  .rw[getElem?_append_left c]at h;exact⟨0,x,j,rfl,h,bi⟩
  .rw[getElem?_append_right aD]at h;obtain⟨i,e,q,l,d,m⟩:=H8 (λe f=>b e (by simp[f])) h;exact⟨i+1,e,q,bo,d,bo⟩
theorem ceX{P tx j E sz v b}(f:P.underlying tx=some (.slice j))(h:eU sz b)(i:w.ownsRow 0 E sz v b.length b.flatten):
 Src P sz tx v b.length b.flatten w:=by
 have l:∀u∈b.flatten,u.oneCell'=true:=λu m=>by
  obtain⟨e,n,c⟩:=mem_flatten.1 m;exact h.one e n u c
 rcases i.2 with⟨rfl,p⟩|⟨g,d,r,rfl,_⟩
 .have:b=[]:=eq_nil_of_length_eq_zero p;subst this;exact Src.ofNil w f 0
 .exact Src.ofSlice w f ⟨g,0,none⟩ _ d _ (dJ h.len) (i.cells (g:=g) rfl) l
theorem Vj{P tx z sz h}(A:P.underlying tx=some (.slice z)){m n c l}(t:eU sz l)(d:cO h ⟨m,n,c⟩ sz l)(p:∀b o v,h b o=some v->w.cell? ⟨b,o,none⟩=some v):Src P sz tx (.slice m n c) l.length l.flatten w:=by
 have D:∀u∈l.flatten,u.oneCell'=true:=λu x=>by
  obtain⟨e,E,y⟩:=mem_flatten.1 x;exact t.one e E u y
 have r:n=l.length:=d.len;subst r;rcases d.row with rfl|⟨b,s,f,g⟩
 .refine⟨.inl ⟨z,A⟩,λ_=>rfl,?_,?_,bi,λu x=>by simp at x⟩
  .cases m<;>simp[Builtin.firstCells,loadCells,loadCellsFrom]
  .cases m<;>simp[Builtin.firstCells,loadCells,loadCellsFrom]
 .have f:m=some ⟨b,s,none⟩:=f;subst f;refine Src.ofSlice w A ⟨b,s,none⟩ _ c _ (dJ t.len) ?_ D;intro j u F;obtain⟨i,e,q,G,H,rfl⟩:=H8 t.len F;rw[Addr.add_none];have:=p _ _ _ ((g i e G).rd q u H)
  grind
theorem Kp s:(gR s).flatten=byteCells s:=by
 unfold gR byteCells
 induction s.data.toList with
 |nil=>rfl
 |cons b r c=>simp[c]
theorem Vi(p:aR B ι σ a w){sz tx y R lent}(h:Og C.P lent σ sz tx (σ.ev y) R):
 ∃i,eU sz i/\Src C.P sz tx (a.eval y) i.length i.flatten w/\R i:=by
 have d:=p.ev y;unfold Og at h;split at h
 .rename_i k G r l;rw[r]at d;have d:a.eval y=ι k:=d;split at h
  .rename_i E s i t;split at h
   .rename_i g;have g:=cn g;subst g;obtain⟨m,H⟩:=uX p t;exact⟨i,m,by rw[d];exact ceX l m H,h⟩
   grind
  grind
 .rename_i D n c G r l;rw[r]at d;have d:a.eval y= .slice D n c:=d;obtain⟨i,m,f,h⟩:=h;refine⟨i,m,?_,h⟩;rw[d];cases lent with
  |false=>exact Vj l m f p.wrel.hsat
  |true=>
   cases f with
   |imm f=>exact Vj l m f p.wrel.hsat
   |lent b o L E M g z I F=>
    have g:D=some ⟨b,o,none⟩:=g;have z:n=i.length:=z;subst g z
    have J:∀u∈i.flatten,u.oneCell'=true:=λu l=>by
     obtain⟨e,v,A⟩:=mem_flatten.1 l;exact m.one e v u A
    refine Src.ofSlice w l ⟨b,o,none⟩ _ c _ (dJ m.len) ?_ J;intro j u N;rw[Addr.add_none,cell_of_heap (p.wrel.msat b _ I)]
    grind
 .rename_i s r l;rw[r]at d;have d:a.eval y= .string s:=d;split at h
  .rename_i g;have g:=cn g;subst g;refine⟨gR s,⟨λe v=>by obtain⟨b,_,rfl⟩:=mem_map.1 v;rfl,λe v u x=>by obtain⟨b,_,rfl⟩:=mem_map.1 v;simp at x;subst x;rfl⟩,?_,h⟩;rw[d,Kp];have F:(gR s).length=s.size:=by simp[gR]
   rw[F];exact Src.ofString w l s
  grind
 grind
theorem FH.mono{S S' w w'}(h:FH S w w')(d:∀b,S b->S' b):FH S' w w':=⟨h.tape,h.os,h.output,h.drawn,h.size,λb e f=>h.block b e (λc=>f (d b c))⟩
theorem FZ{v b}(h:v.ownBlock=some b):blk v=some b:=by
 cases v<;>simp[Value.ownBlock]at h
 case slice ad n c=>cases ad<;>simp at h;simpa[blk]using h
theorem EV{sz xs c}(d:eU sz xs)(f:eU sz c):eU sz (xs++c):=
 ⟨λe b=>(mem_append.1 b).elim (d.len e) (f.len e),λe b=>(mem_append.1 b).elim (d.one e) (f.one e)⟩
theorem Bo{E sz n v l}(h:w.ownsRow 0 E sz v n l){b}(c:blk v=some b):v.ownBlock=some b:=by
 rcases h.2 with⟨rfl,_⟩|⟨g,d,e,rfl,_⟩
 .simp[blk]at c
 .simpa[blk,Value.ownBlock]using c
theorem bzJ(f:aR B ι σ a w){w' m' S}(n:FH S w w')(E:∀b,S b->σ.m b≠none)(t:∀b o,m' b=some o->w'.heap[b]? =some o/\(σ.m b≠none\/w.heap.size<=b)):
 aR B ι {σ with m:=m'} a w'/\∀o,B9 o.op=false->Kt σ ι o w w':=by
 have c:=f.wrel
 have A:∀b,w.heap.size<=b->∀i,σ.h b i=none:=by
  intro b d i;cases e:σ.h b i with
  |none=>rfl
  |some v=>have:=World.block_lt_of_cell? w ⟨b,i,none⟩ (c.hsat _ _ _ e);grind
 have F:∀b,S b->∀i,σ.h b i=none:=by
  intro b d i;cases e:σ.m b with
  |none=>grind
  |some x=>exact c.disj b x e i
 have u:∀k r b,nth σ.own k=some (some r)->blk (ι k)=some b->¬S b:=by
  intro k r b g d y;exact E b y (f.fresh k r b g d).2.1
 have j:∀b i v,σ.h b i=some v->w'.cell? ⟨b,i,none⟩=some v:=by
  intro b i v G;have z:=c.hsat b i v G;rw[<-z];exact World.cell?_of_block (w:=w) (w':=w') (a:=⟨b,i,none⟩) (n.block b (World.block_lt_of_cell? w ⟨b,i,none⟩ z) (λy=>bo))
 refine⟨⟨f.slots,f.defers,λk r g=>(f.own k r g).world (λb d=>n.block b (uC (f.own k r g) d) (u k r b g d)),f.dist,?_,?_,f.one⟩,λo M=>⟨?_,j,λh=>bo,λl b _ s z _=>n.block b s (λy=>E b y z)⟩⟩
 .intro k r b g d;obtain⟨H,N,I⟩:=f.fresh k r b g d;refine⟨H,?_,I⟩;show m' b=none;cases e:m' b with
  |none=>rfl
  |some x=>
   rcases(t b x e).2 with s|s
   .grind
   .have:=uC (f.own k r g) d;omega
 .refine⟨n.tape.trans c.tape,n.os.trans c.os,n.output.trans c.output,cv c.drawn n.drawn,cv c.size n.size,?_,j,λb o e=>(t b o e).1,?_,c.hle,c.hold,?_⟩
  .intro b d J;rw[n.block b (cw d c.size) (λy=>?_)]
   .exact c.frame b d J
   .cases e:σ.m b with
    |none=>grind
    |some x=>
     rcases c.mfr b x e with s|s
     .omega
     grind
  .intro b o e i;rcases(t b o e).2 with s|s
   .cases D:σ.m b with
    |none=>grind
    |some x=>exact c.disj b x D i
   grind
  .intro b o e;rcases(t b o e).2 with s|s
   .cases D:σ.m b with
    |none=>grind
    |some x=>exact c.mfr b x D
   .exact .inl (cv c.size s)
 .intro k p T O b g _ L;have d:blk (ι k)=some b:=by rw[L];rfl
  exact n.block b (uC (f.own k _ g) d) (u k _ b g d)
theorem V2(L:aR B ι σ a w){T tx x y c}(ho:o.op= .call c)(hc:c.callee= .builtin .append)(hx:c.args.toList=[x,y])(ht:c.argTypes.toList=[T,tx])(h:RX C o T tx x y σ K):Ws B C ι o σ K a w:=by
 intro next Q O
 have a8:c.args= #[x,y]:=bo
 have b4:c.argTypes= #[T,tx]:=bo
 unfold RX at h;split at h
 .rename_i d E z hd hE;obtain⟨Y,zv,hu,hi,hv,rfl,a1,a2,d1,b5⟩:=Ic hE;have a3:C.P.bytesOf E=Y.bytes:=by simp[Program.bytesOf,hi]
  have V:∀I R,(Builtin.append_ #[T,tx] o.type #[a.eval x,a.eval y]).run C.P w= .ok I R->(execOp a.eval o).run C.P w= .ok (.value I) R:=by
   intro I R hr;unfold execOp;simp only[ho,resolve,hc,a8,b4,invoke,builtin,Sem.run_bind,Sem.run_pure,Result.andThen_ok,map_toArray,map_cons,map_nil];rw[hr];rfl
  have c0:∀(S:Option Addr)(n cp:Nat),σ.ev x= .at (.val (.slice S n cp))->(∃s:List dc,fA σ.m ⟨S,n,cp⟩ E (C.P.cellsOf E) s/\
   Og C.P (Tc C) σ (C.P.cellsOf E) tx (σ.ev y) λM=>
    (s.length+M.length)*C.P.bytesOf E<=140737488355328/\s.length+M.length<=140737488355328/\
    ∀(s':Sl)(m':MH),kK σ.m m' ⟨S,n,cp⟩ s' E (C.P.cellsOf E) (s++M)->K ({σ with m:=m'}.put (some d) (.at (.val s'.val))))->o.wp C.P a w next Q:=by
   intro S n cp Z h;have D:=L.ev x;rw[Z]at D;have D:a.eval x= .slice S n cp:=D;obtain⟨s,t,h⟩:=h;obtain⟨M,hr,v,N,a6,h⟩:=Vi L h;rw[a2]at hr v h;rw[a3]at N;have a':=t.rows;rw[a2]at a'
   have a9:w.ownsRow 0 E Y.size (.slice S n cp) s.length s.flatten:=by
    refine⟨dJ a'.len,?_⟩;rcases t.ex with⟨J,e2⟩|⟨b,a4,a0,J,hm,F,h2,h3,h4⟩
    .grind
    .simp only[Sl.mk.injEq]at J;obtain⟨rfl,rfl,rfl⟩:=J;exact .inr ⟨b,_,a0,rfl,Nat.zero_le _,L.wrel.msat b _ hm,F,h2,bo,bo⟩
   have b0:∀b,Value.ownBlock (.slice S n cp)=some b->σ.m b≠none:=by
    intro b r;rcases t.ex with⟨J,e2⟩|⟨b',a4,a0,J,hm,_⟩
    .simp only[Sl.mk.injEq]at J;obtain⟨rfl,rfl,rfl⟩:=J;simp[Value.ownBlock]at r
    .simp only[Sl.mk.injEq]at J;obtain⟨rfl,rfl,rfl⟩:=J;simp[Value.ownBlock]at r
     grind
   obtain⟨I,R,a5,H,f,G,A⟩:=Ac (P:=C.P) w T tx o.type E Y zv hu hi hv a1 (.slice S n cp) s.length s.flatten a9 (a.eval y) M.length M.flatten v (by unfold maxLen;omega) N;rw[<-flatten_append, <-cg]at H
   obtain⟨U,n',W,rfl⟩:∃U n' W,I= .slice U n' W:=by
    rcases H.2 with⟨e,_⟩|⟨g,a4,a0,e,_⟩
    .grind
    grind
   let m':MH:=λb=>if Value.ownBlock (.slice U n' W)=some b then R.heap[b]? else if Value.ownBlock (.slice S n cp)=some b then none else σ.m b
   have b6:∀b,Value.ownBlock (.slice U n' W)=some b->m' b=R.heap[b]? :=λb r=>bo
   obtain⟨c1,hk⟩:=bzJ (m':=m') L f b0 (by
    intro b ob r;by_cases J:Value.ownBlock (.slice U n' W)=some b
    .grind
    .by_cases e2:Value.ownBlock (.slice S n cp)=some b
     .grind
     .simp only[m',if_neg J,if_neg e2]at r;refine⟨?_,.inl (by rw[r];simp)⟩;have F:=L.wrel.msat b ob r;rw[f.block b (Array.getElem?_eq_some_iff.1 F).1 e2];exact F)
   unfold Oper.wp;rw[V _ R (by rw[D];exact a5),Oper.upon_value,hd];refine O ι _ _ _ (c1.put (some d) (x:=.at (.val (.slice U n' W))) rfl) (h ⟨U,n',W⟩ m' ⟨⟨?_,?_⟩,?_,?_⟩) (hk o (by rw[ho];rfl))
   .exact EV a' hr
   .rcases H.2 with⟨J,e2⟩|⟨b,a4,a0,J,_,hh,F,h2,h3,h4⟩
    .grind
    .simp only[Value.slice.injEq]at J;obtain⟨rfl,rfl,rfl⟩:=J;exact .inr ⟨b,_,a0,rfl,by rw[b6 b rfl];exact hh,F,h2,h3,h4⟩
   .intro b ob r c2
    have e2:Value.ownBlock (.slice S n cp)≠some b:=by
     intro e;rcases t.ex with⟨J,_⟩|⟨b',a4,a0,J,hm,_⟩
     .simp only[Sl.mk.injEq]at J;obtain⟨rfl,rfl,rfl⟩:=J;simp[Value.ownBlock]at e
     .simp only[Sl.mk.injEq]at J;obtain⟨rfl,rfl,rfl⟩:=J;simp[Value.ownBlock]at e
      grind
    have J:Value.ownBlock (.slice U n' W)≠some b:=by
     intro e;rcases G b e with F|F
     .have:=(Array.getElem?_eq_some_iff.1 (L.wrel.msat b ob r)).1;omega
     grind
    grind
   .intro b i e;have e:U=some ⟨b,i,none⟩:=e;rcases G b (by rw[e];rfl)with F|F
    .left;cases e2:σ.m b with
     |none=>rfl
     |some x=>have:=(Array.getElem?_eq_some_iff.1 (L.wrel.msat b x e2)).1;omega
    .right;rcases t.ex with⟨J,_⟩|⟨b',a4,a0,J,hm,_⟩
     .simp only[Sl.mk.injEq]at J;obtain⟨rfl,rfl,rfl⟩:=J;simp[Value.ownBlock]at F
     .simp only[Sl.mk.injEq]at J;obtain⟨rfl,rfl,rfl⟩:=J;simp[Value.ownBlock]at F
      grind
  split at h
  .rename_i S n cp d2 d3 Z;have D:=L.ev x;rw[Z]at D;have D:a.eval x= .slice S n cp:=D;obtain⟨rfl,s,X,t,h⟩:=h;obtain⟨M,hr,v,c2,N,a6,h⟩:=Vi L h;rw[a2]at hr v h X t;rw[a3]at N;have hn:cp=s.length:=t.len;subst hn
   have fin:∃I R,(Builtin.append_ #[T,tx] o.type #[.slice S s.length s.length,a.eval y]).run C.P w= .ok I R/\R.ownsRow 0 E Y.size I (s.length+M.length) (s++M).flatten/\FH (λ_=>False) w R/\
    (∀b,I.ownBlock=some b->w.heap.size<=b)/\I.oneCell'=true:=by
    cases S with
    |none=>
     have c3:s=[]:=by
      rcases t.row with e|⟨b,b1,e,_⟩
      .exact e
      .cases e
     subst c3;obtain⟨I,R,F,h2,h3,h4,h5⟩:=Ac (P:=C.P) w T tx o.type E Y zv hu hi hv a1 (.slice none 0 0) 0 [] (World.ownsRow_nil w 0 E Y.size) (a.eval y) M.length M.flatten v (by unfold maxLen;omega) aD;refine⟨I,R,F,bo,h3.mono (λb r=>by simp[Value.ownBlock]at r),λb r=>?_,h5⟩;rcases h4 b r with e|e
     .exact e
     .simp[Value.ownBlock]at e
    |some S=>
     have hy:0<M.length:=by
      grind
     have d4:=Vj (P:=C.P) (w:=w) (tx:=T) hu X t L.wrel.hsat;have c4:s.length+M.length<=maxLen:=by unfold maxLen;omega
     have b7:(s.flatten++M.flatten).length=(s.length+M.length)*Y.size:=by rw[cg,dJ X.len,dJ hr.len,Nat.add_mul]
     have c5:=grownCap_ge w (s.length+M.length) s.length E;have c6:grownCap w (s.length+M.length) s.length E<=maxLen:=grownCap_le_maxLen w _ _ E c4
     have b8:(Builtin.firstCells Y.size s.length (.slice (some S) s.length s.length)).run C.P w.drew= .ok s.flatten.toArray w.drew:=by
      rcases t.row with rfl|⟨b,b1,e,hc⟩
      .simp[Builtin.firstCells,loadCells,loadCellsFrom]
      .have e:some S=some ⟨b,b1,none⟩:=e;cases e;refine run_firstCells_some w.drew Y.size s.length ⟨b,b1,none⟩ s.length s.length s.flatten (dJ X.len) λj u hj=>?_;obtain⟨i,e,q,F,h2,rfl⟩:=H8 X.len hj;rw[Addr.add_none];have:=L.wrel.hsat _ _ _ ((hc i e F).rd q u h2);rw[<-Nat.add_assoc];exact this
     have c7:=run_append_grow_src (P:=C.P) w T tx o.type E Y zv hu hi hv (some S) s.length s.length s.flatten b8 (a.eval y) M.length M.flatten v aD aD (growslice_fits aD N);refine⟨_,_,c7,⟨?_,.inr ⟨w.heap.size,_,_,rfl,Nat.zero_le _,heap_alloc_new w.drew _,c5,c6,?_,?_⟩⟩,⟨rfl,rfl,rfl,Nat.le_succ _,bi,λk hk _=>heap_alloc_old w.drew _ k hk⟩,λb r=>by simp[Value.ownBlock]at r;omega,rfl⟩
     .grind
     .simp only[Array.size_append,size_toArray,size_zeroCells,a1,b7, <-Nat.add_mul]
      grind
     grind
   obtain⟨I,R,a5,p,f,G,A⟩:=fin;rw[<-cg]at p;unfold Oper.wp;rw[V I R bo,Oper.upon_value,hd];refine O (upd ι d I) _ _ _ ?_ h ?_
   .refine aR.put ?_ (some d) (by show _=_;simp);exact L.place d _ I (f.mono (λb r=>r.elim)) ⟨EV X hr,p⟩ A (λb r=>.inl (G b (Bo p r)))
   .exact GY L d (λ_=>D8 hd) (λb r _=>f.block b r (λF=>F.elim)) (λhg=>by rw[ho]at hg;simp[B9]at hg) (λl e=>by simp_all [vY])
  .grind
  rename_i b2 b9;clear b9 b2;split at h
  .rename_i Z;have D:=L.ev x;rw[Z]at D;have D:a.eval x= .slice none 0 0:=D;split at h
   .rename_i n c8
    obtain⟨kn,kq,c9,d'⟩:∃kn kq,C.P.underlying tx=some (.int kn)/\σ.ev y= .at (.val (.int kq n)):=by
     unfold aCZ at c8
     grind
    have hy:=L.ev y;rw[d']at hy;have hy:a.eval y= .int kq n:=hy;obtain⟨h0,N,a6,h⟩:=h;rw[a2]at h;rw[a3]at N;obtain⟨k,rfl⟩:∃k:Nat,n=k:=⟨n.toNat,aD⟩
    have c':k*Y.bytes<=140737488355328:=by omega
    obtain⟨I,R,a5,p,f,G,A⟩:=MR (P:=C.P) w T tx o.type E Y zv kq kn hu c9 hi hv a1 aD k aD c' aD;unfold Oper.wp;rw[V I R bo,Oper.upon_value,hd];refine O (upd ι d I) _ _ _ ?_ h ?_
    .refine aR.put ?_ (some d) (by show _=_;simp);refine L.place d _ I (f.mono (λb r=>r.elim)) ⟨?_,?_⟩ A (λb r=>.inl (G b (Bo p r)))
     .exact sL aD b5 _
     grind
    .exact GY L d (λ_=>D8 hd) (λb r _=>f.block b r (λF=>F.elim)) (λhg=>by rw[ho]at hg;simp[B9]at hg) (λl e=>by simp_all [vY])
   .obtain⟨M,hr,v,N,a6,h⟩:=Vi L h;rw[a2]at hr v h;rw[a3]at N;obtain⟨I,R,a5,p,f,G,A⟩:=Ac (P:=C.P) w T tx o.type E Y zv hu hi hv a1 (.slice none 0 0) 0 [] (World.ownsRow_nil w 0 E Y.size) (a.eval y) M.length M.flatten v (by unfold maxLen;omega) bo;simp only[Nat.zero_add,nil_append]at p;unfold Oper.wp;rw[V I R bo,Oper.upon_value,hd];refine O (upd ι d I) _ _ _ ?_ h ?_
    .refine aR.put ?_ (some d) (by show _=_;simp);refine L.place d _ I (f.mono (λb r=>by simp[Value.ownBlock]at r)) ⟨hr,p⟩ A (λb r=>?_);rcases G b (Bo p r)with F|F
     .exact .inl F
     .simp[Value.ownBlock]at F
    .exact GY L d (λ_=>D8 hd) (λb r _=>f.block b r (λF=>by simp[Value.ownBlock]at F)) (λhg=>by rw[ho]at hg;simp[B9]at hg) (λl e=>by simp_all [vY])
  .rename_i k Z;have D:=L.ev x;rw[Z]at D;have D:a.eval x=ι k:=D;split at h
   .rename_i E' sz s p d0;split at h
    .rename_i b3 a7;have b3:=cn b3;have a7:=cn a7;subst b3;rw[a2]at a7;subst a7;obtain⟨M,hr,v,N,a6,h⟩:=Vi L h;rw[a3]at N;obtain⟨X,a9⟩:=uX L p;obtain⟨I,R,a5,H,f,G,A⟩:=Ac (P:=C.P) w T tx o.type E' Y zv hu hi hv a1 (ι k) s.length s.flatten a9 (a.eval y) M.length M.flatten v (by unfold maxLen;omega) N;rw[<-flatten_append, <-cg]at H;unfold Oper.wp;rw[V I R bo,Oper.upon_value,hd];refine O (upd ι k I) _ _ _ ?_ h ?_
     .refine aR.put ?_ (some d) (by show _=_;simp);refine L.place k _ I (f.mono (λb r=>⟨⟨_,p⟩,FZ r⟩)) ⟨EV X hr,H⟩ A (λb r=>?_);rcases G b (Bo H r)with F|F
      .exact .inl F
      .exact .inr ⟨⟨_,p⟩,FZ F⟩
     .refine GY L k (λ⟨p',T',d5,e⟩=>bo) (λb r hn=>f.block b r (λF=>hn ⟨⟨_,p⟩,FZ F⟩)) (λhg=>by rw[ho]at hg;simp[B9]at hg) (λl e=>by simp_all [vY])
    grind
   grind
  .grind
  grind
 grind
theorem aR.rewrite(d:aR B ι σ a w){k u h w'}(p:nth σ.own k=some (some u))(v:FH (λb=>blk (ι k)=some b) w w')(z:FK ι w' (ι k) h):
 aR B ι (σ.setOwn k (some h)) a w':=by
 have c:∀j m,nth (σ.setOwn k (some h)).own j=some (some m)->(j=k/\m=h)\/(j≠k/\nth σ.own j=some (some m)):=by
  intro j m l;simp only[St.setOwn,Bp]at l;by_cases e:j=k
  .subst e;by_cases A:j<σ.own.length
   .grind
   .simp[A,lS]at l
  grind
 refine⟨d.slots,d.defers,?_,?_,?_,?_,d.one⟩
 .intro j m l;rcases c j m l with⟨rfl,rfl⟩|⟨n,i⟩
  .exact z
  .have r:=d.own j m i;refine r.world (λb f=>v.block b (uC r f) (λg=>n (d.dist j k _ _ b i p f g)))
 .intro j D t E b l i f g;rcases c j t l with⟨rfl,rfl⟩|⟨n,s⟩<;>rcases c D E i with⟨rfl,rfl⟩|⟨x,y⟩
  .rfl
  .exact d.dist _ _ _ _ b p y f g
  .exact d.dist _ _ _ _ b s p f g
  .exact d.dist _ _ _ _ b s y f g
 .intro j t b l f;rcases c j t l with⟨rfl,rfl⟩|⟨n,s⟩
  .exact d.fresh _ _ b p f
  .exact d.fresh _ _ b s f
 .exact d.wrel.ext v (λb f=>d.fresh k u b p f)
theorem KC(e:∀k,(ι k).oneCell'=true):∀{cs:dv}{vs:dc},vZ cs=true->jX ι cs vs->∀v∈vs,v.oneCell'=true
 |[],[],_,_,v,f=>by cases f
 |x::cs,u::vs,g,l,v,f=>by
  simp only[vZ]at g;split at g
  .rename_i m;rcases mem_cons.1 f with rfl|f
   .have d:=l.1;cases x with
    |val p=>
     have:v=p:=d;subst this;cases v<;>first|rfl|(simp[At.storable]at m)
    |ptr k j=>obtain⟨b,_,rfl⟩:=d;rfl
    |lst k=>have:v=ι k:=d;grind
    |el k i r j=>obtain⟨b,n,c,_,rfl⟩:=d;rfl
    |junk=>simp[At.storable]at m
   .exact KC e g l.2 v f
  .cases g
 |[],_::_,_,h,_,_=>h.elim
 |_::_,[],_,h,_,_=>h.elim
theorem Vn{P T w g off b E v}(h:jU P T=true)(e:v.cells.size=P.cellsOf T)(j:w.heap[g]? =some (.cells b E (0,0)))(l:off+v.cells.size<=b.size)(m:∀u∈v.cells.toList,u.oneCell'=true):
 (storeVar T ⟨g,off,none⟩ v).run P w= .ok () (w.setRow g (splice b.toList off v.cells.toList).toArray):=by
 obtain⟨i,d,n,r,p,f⟩:=iI h;have c:=run_storeCells_at P g off E v.cells.toList 0 b w j aD m;simp only[Nat.add_zero]at c;unfold storeVar;rw[p]at e;simp only[Sem.run_bind,run_sizeOf n,Result.andThen_ok];rw[if_neg aD];simp only[c,splice]
theorem Hw w g cs:FH (λb=>b=g) w (w.setRow g cs):=
 ⟨rfl,rfl,rfl,Nat.le_refl _,bi,λb _ c=>setRow_other w g b cs c⟩
theorem Hx{cs l vs}(c:xV cs=some l)(b:jX ι cs vs):vs=l:=by
 rw[Fk c,jX.vals]at b;exact b
theorem flatten_set{sz:Nat}{l:dc}:∀{xs:List dc}{i:Nat}{e:dc}{off:Nat},(∀e∈xs,e.length=sz)->xs[i]? =some e->off+l.length<=e.length->
 splice xs.flatten (i*sz+off) l=(xs.set i (splice e off l)).flatten
 |[],i,e,off,_,b,_=>by simp at b
 |x::xs,0,e,off,d,b,c=>by
  simp at b;subst b;simp only[splice,Nat.zero_mul,Nat.zero_add,flatten_cons,set_cons_zero,append_assoc]
  grind
 |x::xs,i+1,e,off,d,b,c=>by
  simp only[getElem?_cons_succ]at b;have j:x.length=sz:=d x bi;have f:=flatten_set (λe g=>d e (by simp[g])) b c;rw[set_cons_succ,flatten_cons,flatten_cons, <-f];simp only[splice];have h:(i+1)*sz+off=x.length+(i*sz+off):=bo
  rw[h,take_length_add_append,show x.length+(i*sz+off)+l.length=x.length+(i*sz+off+l.length)by omega,drop_length_add_append];simp
theorem Sw{sz xs i off e l}(c:eU sz xs)(p:xs[i]? =some e)(f:off+l.length<=e.length)(r:∀u∈l,u.oneCell'=true):
 eU sz (xs.set i (splice e off l)):=by
 have b:e∈xs:=ce p;constructor
 .intro g j;rcases mem_or_eq_of_mem_set j with h|h
  .exact c.len g h
  .rw[h,Bn _ _ _ f];exact c.len e b
 .intro g j u d;rcases mem_or_eq_of_mem_set j with h|h
  .exact c.one g h u d
  .rw[h]at d;unfold splice at d;rcases mem_append.1 d with m|m
   .rcases mem_append.1 m with n|n
    .exact c.one e b u (mem_of_mem_take n)
    grind
   .exact c.one e b u (mem_of_mem_drop m)
theorem N9(u:dc) l p N(b:p+l.length<=N)(c:N<=u.length):(splice u p l).take N=splice (u.take N) p l:=by
 apply ext_getElem?;intro j;simp only[splice,getElem?_take,getElem?_append,cg,length_take,getElem?_drop]
 grind
theorem WG(z:aR B ι σ a w){T x v}(ho:o.op= .store T x v)(a':o.dst=none)(h:Vh C T x v σ K):Ws B C ι o σ K a w:=by
 intro next Q J
 have F:=z.ev x;unfold Vh at h;split at h
 .exact h.elim
 .rename_i new a0;split at h
  .rename_i V a6 hT;have V:=cn V;have hd:=Dx z.one (z.ev v) a0;have h1:=KC z.one a6 hd;have b8:new.length=(a.eval v).cells.size:=by have:=hd.length;omega
   have L:∀g j A E,a.eval x= .pointer (some ⟨g,j,none⟩)->w.heap[g]? =some (.cells A E (0,0))->j+(a.eval v).cells.size<=A.size->
    (execOp a.eval o).run C.P w= .ok .skip (w.setRow g (splice A.toList j (a.eval v).cells.toList).toArray):=by
    intro g j A E W I G;unfold execOp;simp only[ho,W,Instr.storeAt,Instr.sureAddr,Sem.run_bind,Sem.run_pure,Result.andThen_ok,Vn hT aD I G h1]
   have xZ:a.put o.dst undef=a:=by rw[a'];rfl
   split at h
   .rename_i k j W;rw[W]at F;split at h
    .rename_i p E O D;split at h
     .rename_i G;have G:=Nat.le_of_ble_eq_true G;obtain⟨b,vs,R,hh,a1⟩:=A5 z D;obtain⟨d,f,hp⟩:=F;rw[R]at f;simp only[Value.pointer.injEq,ck,Addr.mk.injEq]at f;obtain⟨rfl, -, -⟩:=f;have b9:O.length=vs.size:=by have:=a1.length;omega
      unfold Oper.wp;rw[L b j vs E hp hh aD,Oper.upon_skip,xZ];have a7:blk (ι k)=some b:=by rw[R];rfl
      have r:=Hw w b (splice vs.toList j (a.eval v).cells.toList).toArray;refine J ι _ _ _ (z.rewrite D (r.mono (λd f=>bo)) ?_) h ?_
      .exact⟨b,_,R,setRow_heap w b vs _ E _ hh,bx (a1.splice j hd),λq e=>by subst e;have:=aGX z D;grind⟩
      .refine GY z k (λ_=>?_) (λd f hn=>r.block d f (λe=>hn ⟨⟨_,D⟩,bo⟩)) (λI=>by rw[ho]at I;simp[B9]at I) (λl e=>by simp_all [vY]);unfold Bm;simp[ho,W]
     grind
    grind
   .rename_i k i sz j W;rw[W]at F;split at h
    .rename_i E s xs l D hl;split at h
     .rename_i hs;have hs:=cn hs;subst hs;obtain⟨e,he,G,h⟩:=h;obtain⟨hr,a2⟩:=uX z D;obtain⟨b,n,c,R,hp⟩:=F;have S:(a.eval v).cells.toList=l:=Hx hl hd;rcases a2.2 with⟨hv,hn⟩|⟨g,c',A,hv,_,I,a8,a9,c0,X⟩
      .grind
      .rw[R]at hv;simp only[Value.slice.injEq,ck,Addr.mk.injEq]at hv;obtain⟨⟨rfl, -, -⟩,rfl,rfl⟩:=hv;have b0:i<xs.length:=(bz he);have c1:e.length=s:=hr.len e (ce he);have b1:(a.eval v).cells.size=l.length:=bo
       have b2:=dJ hr.len
       have b3:i*s+j+l.length<=xs.length*s:=by
        have:(i+1)*s<=xs.length*s:=Nat.mul_le_mul_right _ b0
        grind
       have b7:xs.length*s<=c*s:=Nat.mul_le_mul_right _ a8;unfold Oper.wp;rw[L b (i*s+j) A E hp I aD,Oper.upon_skip,xZ];have a7:blk (ι k)=some b:=by rw[R];rfl
       have r:=Hw w b (splice A.toList (i*s+j) (a.eval v).cells.toList).toArray;have a3:∀u∈l,u.oneCell'=true:=bo
       refine J ι _ _ _ (z.rewrite D (r.mono (λd f=>bo)) ?_) h ?_
       .have a4:=Sw hr he G a3;refine⟨a4,dJ a4.len,.inr ⟨b,c,_,bo,Nat.zero_le _,setRow_heap w b A _ E _ I,bo,a9,?_,?_⟩⟩
        .simp only[size_toArray,S];rw[Bn]
         .omega
         grind
        .rw[length_set];rw[<-flatten_set hr.len he G,S, <-X];have c2:A.toList.length=c*s:=by omega
         exact N9 A.toList l (i*s+j) (xs.length*s) b3 aD
       .refine GY z k (λ⟨p',T',b4,e'⟩=>bo) (λd f b5=>r.block d f (λe'=>b5 ⟨⟨_,D⟩,bo⟩)) (λI=>by rw[ho]at I;simp[B9]at I) (λl e=>by simp_all [vY])
     grind
    grind
   .rename_i b j W;rw[W]at F;have F:a.eval x= .pointer (some ⟨b,j,none⟩):=F;split at h
    .rename_i l hl;obtain⟨O,E,Y,G,h⟩:=h;have S:(a.eval v).cells.toList=l:=Hx hl hd;have b1:(a.eval v).cells.size=l.length:=bo
     have I:=z.wrel.msat b _ Y.at_
     let m':MH:=λd=>if d=b then some (.cells (splice O.toList j l).toArray E (0,0))else σ.m d
     unfold Oper.wp;rw[L b j O E F I aD,Oper.upon_skip,xZ,S];have r:=Hw w b (splice O.toList j l).toArray
     have a5:∀k U,nth σ.own k=some (some U)->blk (ι k)≠some b:=by
      intro k U D hb;have:=(z.fresh k U b D hb).2.1;rw[Y.at_]at this;cases this
     refine J ι {σ with m:=m'} _ _ ?_ (h m' ⟨by simp[m'],λd f=>bo⟩) ?_
     .refine⟨z.slots,z.defers,?_,z.dist,?_,?_,z.one⟩
      .intro k U D;exact(z.own k U D).world (λd f=>r.block d (uC (z.own k U D) f) (λe=>a5 k U D (e▸f)))
      .intro k U d D f;obtain⟨f1,f2,f3⟩:=z.fresh k U d D f
       grind
      .have H:=z.wrel;refine⟨H.tape,H.os,H.output,H.drawn,cv H.size r.size,?_,?_,?_,?_,H.hle,H.hold,?_⟩
       .intro d f hE
        have M:d≠b:=λe=>by
         subst e;rcases H.mfr d _ Y.at_ with N|N
         .omega
         grind
        rw[r.block d (cw f H.size) M];exact H.frame d f hE
       .intro d y u Z;have M:d≠b:=λe=>by subst e;rw[H.disj d _ Y.at_ y]at Z;cases Z
        have N:=H.hsat d y u Z;rw[<-N];exact World.cell?_of_block (w:=w) (a:=⟨d,y,none⟩) (r.block d (World.block_lt_of_cell? w ⟨d,y,none⟩ N) M)
       .intro d ob f;have t:(if d=b then some (Obj.cells (splice O.toList j l).toArray E (0,0))else σ.m d)=some ob:=f;by_cases e:d=b
        .subst e;rw[if_pos rfl]at t;rw[setRow_heap w d O _ E _ I];exact t
        .rw[if_neg e]at t;have N:=H.msat d ob t;rw[r.block d (Array.getElem?_eq_some_iff.1 N).1 e];exact N
       .intro d ob f i;have t:(if d=b then some (Obj.cells (splice O.toList j l).toArray E (0,0))else σ.m d)=some ob:=f;by_cases e:d=b
        .subst e;exact H.disj d _ Y.at_ i
        .rw[if_neg e]at t;exact H.disj d _ t i
       .intro d ob f;have t:(if d=b then some (Obj.cells (splice O.toList j l).toArray E (0,0))else σ.m d)=some ob:=f;by_cases e:d=b
        .subst e;exact H.mfr d _ Y.at_
        .rw[if_neg e]at t;exact H.mfr d _ t
     .constructor
      .intro k p' T' b4 d D ht R;exact r.block d (uC (z.own k _ D) (by rw[R];rfl)) (λe=>a5 k _ D (by rw[R, <-e];rfl))
      .intro d y u Z;have M:d≠b:=λe=>by subst e;rw[z.wrel.disj d _ Y.at_ y]at Z;cases Z
       have N:=z.wrel.hsat d y u Z;rw[<-N];exact World.cell?_of_block (w:=w) (a:=⟨d,y,none⟩) (r.block d (World.block_lt_of_cell? w ⟨d,y,none⟩ N) M)
      .intro I;rw[ho]at I;simp[B9]at I
      .intro l' d b6;simp[vY,ho]at b6
    grind
   grind
  grind
end
end Go.Vc
namespace Go.Vc
open Go List
section
variable{B:xC}{C:Ctx}{ι:dm}{σ:St}{a:Act}{w:World}{o:Oper}{K:St->Prop}
theorem nE(d:aR B ι σ a w):Kt σ ι o w w:=
 ⟨λ_ _ _ _ _ _ _ _=>rfl,λb c v e=>d.wrel.hsat b c v e,λ_ _ _=>rfl,λ_ _ _ _ _ _=>rfl⟩
theorem WO(r:aR B ι σ a w){T x lo hi mx}(M:o.op= .slice T x lo hi mx)(h:Vl C o T x lo hi mx σ K):Ws B C ι o σ K a w:=by
 intro next Q l
 have d:=r.ev x;unfold Vl at h;split at h
 .rename_i k n D;rw[D]at d;have d:a.eval x=ι k:=d;have c:=r.ev n;split at h
  .rename_i E S v F i E' U G z;rw[G]at c;have c:a.eval n= .int F i:=c;split at h
   case h_2=>exact h.elim
   rename_i t;obtain⟨H,J,h⟩:=h;obtain⟨hr,N⟩:=uX r U;have I:eU S (v.take i.toNat):=⟨λe he=>hr.len e (mem_of_mem_take he),λe he=>hr.one e (mem_of_mem_take he)⟩
   have y:(v.take i.toNat).length=i.toNat:=bo
   obtain⟨V,_,p,_⟩:=iI t;rcases N.2 with⟨W,a7⟩|⟨g,m,a',W,a8,hg,a9,a0,a1,L⟩
   .have a2:i=0:=by omega
    subst a2
    have f:(execOp a.eval o).run C.P w= .ok (.value (.slice none 0 0)) w:=by
     unfold execOp;simp[M,d,W,c,Instr.sliceAt,run_underlying z,Instr.slice,Instr.sliceBounds,Instr.sliceBound,asIntOf,run_sizeOf p]
    unfold Oper.wp;rw[f,Oper.upon_value];refine l (upd ι k (.slice none 0 0)) _ _ _ ?_ h (nE r);refine aR.put ?_ o.dst (by show _=_;simp);refine r.place k _ _ (FH.refl _ _) ⟨I,?_⟩ rfl (λb hb=>bo)
    grind
   .have f:(execOp a.eval o).run C.P w= .ok (.value (.slice (some ⟨g,0,none⟩) i.toNat m)) w:=by
     have a3:i<=(m:Int):=by omega
     unfold execOp;simp[M,d,W,c,Instr.sliceAt,run_underlying z,Instr.slice,Instr.sliceBounds,Instr.sliceBound,asIntOf,run_sizeOf p,H,a3,Addr.add_none]
    unfold Oper.wp;rw[f,Oper.upon_value];refine l (upd ι k (.slice (some ⟨g,0,none⟩) i.toNat m)) _ _ _ ?_ h (nE r);refine aR.put ?_ o.dst (by show _=_;simp);refine r.place k _ _ (FH.refl _ _) ⟨I,dJ I.len,.inr ⟨g,m,a',by rw[y],Nat.zero_le _,hg,aD,a0,a1,?_⟩⟩ rfl (λb hb=>.inr ⟨⟨_,U⟩,by rw[W];exact hb⟩);rw[y]
    have O:(v.take i.toNat).flatten=v.flatten.take (i.toNat*S):=by
     have:v=v.take i.toNat++v.drop i.toNat:=(take_append_drop _ _).symm;rw[show v.flatten=(v.take i.toNat).flatten++(v.drop i.toNat).flatten by grind];rw[take_left'];rw[dJ I.len,y]
    rw[O, <-L,take_take];congr 1;have:i.toNat*S<=v.length*S:=Nat.mul_le_mul_right _ aD;omega
  grind
 .rename_i A len m n D;rw[D]at d;have d:a.eval x= .slice A len m:=d;have c:=r.ev n;split at h
  .rename_i F i E' G z;rw[G]at c;have c:a.eval n= .int F i:=c;split at h
   case h_2=>exact h.elim
   rename_i t;obtain⟨H,J,h⟩:=h;obtain⟨V,_,p,_⟩:=iI t
   have f:(execOp a.eval o).run C.P w= .ok (.value (.slice A i.toNat m)) w:=by
    unfold execOp;simp[M,d,c,Instr.sliceAt,run_underlying z,Instr.slice,Instr.sliceBounds,Instr.sliceBound,asIntOf,run_sizeOf p,H,J];cases A<;>simp[Addr.add]
   unfold Oper.wp;rw[f,Oper.upon_value];exact l ι _ _ _ (r.put o.dst (x:=.at (.val _)) rfl) h (nE r)
  grind
 .rename_i A len m n k D;rw[D]at d;have d:a.eval x= .slice A len m:=d;have c:=r.ev n;have u:=r.ev k;split at h
  .rename_i F i kj j E' G U z;rw[G]at c;rw[U]at u;have c:a.eval n= .int F i:=c;have u:a.eval k= .int kj j:=u;split at h
   case h_2=>exact h.elim
   rename_i t;obtain⟨H,J,h2,h⟩:=h;obtain⟨V,_,p,_⟩:=iI t
   have f:(execOp a.eval o).run C.P w= .ok (.value (.slice A i.toNat j.toNat)) w:=by
    have X:0<=j:=by omega
    have Y:max j 0=j:=by omega
    unfold execOp;simp[Y,M,d,c,u,Instr.sliceAt,run_underlying z,Instr.slice,Instr.sliceBounds,Instr.sliceBound,asIntOf,run_sizeOf p,H,J,h2,X];cases A<;>simp[Addr.add]
   unfold Oper.wp;rw[f,Oper.upon_value];exact l ι _ _ _ (r.put o.dst (x:=.at (.val _)) rfl) h (nE r)
  grind
 .rename_i A len m n D;rw[D]at d;have d:a.eval x= .slice A len m:=d;have c:=r.ev n;split at h
  .rename_i F i E' G z;rw[G]at c;have c:a.eval n= .int F i:=c;split at h
   case h_2=>exact h.elim
   rename_i t;obtain⟨H,J,hc,h⟩:=h;obtain⟨V,_,p,b',a4,a6⟩:=iI t;have a5:=run_sizeOf p;obtain⟨s,Z⟩:∃s:Sl,xD (C.P.cellsOf E') ⟨A,len,m⟩ i.toNat s:=⟨⟨_,_,_⟩,rfl,rfl,rfl⟩
   have f:(execOp a.eval o).run C.P w= .ok (.value (.slice s.a s.len s.cap)) w:=by
    have X:=Z.a_;have Y:=Z.len;have h5:=Z.cap;dsimp only at X Y h5;unfold execOp;simp[M,d,c,Instr.sliceAt,run_underlying z,Instr.slice,Instr.sliceBounds,Instr.sliceBound,asIntOf,a5,H,J,X,Y,h5,a4]
   unfold Oper.wp;rw[f,Oper.upon_value];exact l ι _ _ _ (r.put o.dst (x:=.at (.val _)) rfl) (h s Z) (nE r)
  grind
 .rename_i b R n D;rw[D]at d;have d:a.eval x= .pointer (some ⟨b,R,none⟩):=d;have c:=r.ev n;split at h
  .rename_i F i len E' G z;rw[G]at c;have c:a.eval n= .int F i:=c;split at h
   case h_2=>exact h.elim
   rename_i t;obtain⟨H,J,h⟩:=h;obtain⟨V,_,p,_⟩:=iI t
   have f:(execOp a.eval o).run C.P w= .ok (.value (.slice (some ⟨b,R,none⟩) i.toNat len)) w:=by
    unfold execOp;simp[M,d,c,Instr.sliceAt,run_underlying z,Instr.sliceBounds,Instr.sliceBound,asIntOf,run_sizeOf p,H,J,Instr.sureAddr,asAddr,Addr.add]
   unfold Oper.wp;rw[f,Oper.upon_value];exact l ι _ _ _ (r.put o.dst (x:=.at (.val _)) rfl) h (nE r)
  grind
 grind
structure Ld(ι:dm)(σ σ':St)(ks:dq):Prop where
 cells:∀k p T cs,nth σ.own k=some (some (.cellsP p T cs))->k∉ks->∃cs',nth σ'.own k=some (some (.cellsP p T cs'))
 imm:σ'.h=σ.h
 lst:∀x k,σ'.ev x= .at (.lst k)->σ.ev x= .at (.lst k)
 m_:∀b,σ.m b=none->σ'.m b≠none->∃k∈ks,blk (ι k)=some b
theorem RO{σ:St}{k f m h own}(d:∀x j,f x≠ .lst j){x j}(c:St.ev {sl:=σ.sl.map (SV.sub k f),own:=own,m:=m,h:=h} x= .at (.lst j)):σ.ev x= .at (.lst j):=by
 rcases auQ σ k f m h own x with b|⟨v,b⟩
 .exact aDJ d (b▸c)
 .rcases b with rfl|⟨g,rfl⟩|⟨g,rfl⟩<;>exact c
theorem cZJ(t:aR B ι σ a w){k T p cs l}(E:nth σ.own k=some (some (.cellsP p T cs)))(L:xV cs=some l):
 ∃(b:Nat)(m':MH),rT σ.m σ.h b/\pO σ.m m' b (.cells l.toArray T (0,0))/\
  aR B ι {(σ.sub k (λ |.ptr _ o=>.val (.pointer (some ⟨b,o,none⟩))|_=>.junk)).setOwn k none with m:=m'} a w/\
  Ld ι σ {(σ.sub k (λ |.ptr _ o=>.val (.pointer (some ⟨b,o,none⟩))|_=>.junk)).setOwn k none with m:=m'} [k]:=by
 obtain⟨b,M,I,N,F⟩:=A5 t E;have O:M.toList=l:=Hx L F;have y:blk (ι k)=some b:=by rw[I];rfl
 obtain⟨W,P,J⟩:=t.fresh k _ b E y
 let m':MH:=λf=>if f=b then some (.cells l.toArray T (0,0))else σ.m f
 have g:aR B ι ((σ.sub k (λ |.ptr _ o=>.val (.pointer (some ⟨b,o,none⟩))|_=>.junk)).setOwn k none) a w:=by
  have:=t.drop k (ι k) (t.one k) (λ |.ptr _ o=>.val (.pointer (some ⟨b,o,none⟩))|_=>.junk) (by
   intro x v D F;cases x<;>simp only[At.key,ck,reduceCtorEq]at D
   case lst=>trivial
   case el=>trivial
   case ptr j off=>
    subst D;obtain⟨f,d,Q⟩:=F;rw[I]at d;simp only[Value.pointer.injEq,ck,Addr.mk.injEq]at d;obtain⟨rfl, -, -⟩:=d;exact Q)
  rwa [Kx]at this
 have s:∀j z,nth ((σ.sub k (λ |.ptr _ o=>.val (.pointer (some ⟨b,o,none⟩))|_=>.junk)).setOwn k none).own j=some (some z)->blk (ι j)≠some b:=by
  intro j z u R;obtain⟨s,X,G,_⟩:=tB u;exact s (t.dist j k _ _ b G E R y)
 refine⟨b,m',⟨P,J⟩,⟨by simp[m'],λf d=>bo⟩,⟨g.slots,g.defers,g.own,g.dist,?_,?_,g.one⟩,?_⟩
 .intro j z f u d;obtain⟨S,U,V⟩:=g.fresh j z f u d;refine⟨S,?_,V⟩;have:f≠b:=λe=>s j z u (e▸d);show(if f=b then _ else σ.m f)=none;rw[if_neg this];exact U
 .have n:=t.wrel;refine⟨n.tape,n.os,n.output,n.drawn,n.size,n.frame,n.hsat,?_,?_,n.hle,n.hold,?_⟩
  .intro f r d;have c:(if f=b then some (Obj.cells l.toArray T (0,0))else σ.m f)=some r:=d;by_cases e:f=b
   .subst e;rw[if_pos rfl]at c;rw[N, <-c];congr 2
    grind
   .rw[if_neg e]at c;exact n.msat f r c
  .intro f r d i;have c:(if f=b then some (Obj.cells l.toArray T (0,0))else σ.m f)=some r:=d;by_cases e:f=b
   .subst e;exact J i
   .rw[if_neg e]at c;exact n.disj f r c i
  .intro f r d;have c:(if f=b then some (Obj.cells l.toArray T (0,0))else σ.m f)=some r:=d;by_cases e:f=b
   .grind
   .rw[if_neg e]at c;exact n.mfr f r c
 .refine⟨?_,rfl,λx j D=>RO (λx j=>bo) D,λf Y Z=>⟨k,bi,?_⟩⟩
  case refine_2=>
   grind
  intro j p' T' H u A;simp only[mem_singleton]at A;refine⟨H.map (At.sub k (λ |.ptr _ o=>.val (.pointer (some ⟨b,o,none⟩))|_=>.junk)),?_⟩
  .simp only[St.setOwn,St.sub,Bp,CE,A,false_and,if_false,u];rfl
theorem c0Q{σ τ υ k ks}(h:Ld ι σ τ [k])(c:Ld ι τ υ ks){b}(d:σ.m b=none)(f:υ.m b≠none):∃j∈k::ks,blk (ι j)=some b:=by
 cases e:τ.m b with
 |none=>
  obtain⟨j,g,i⟩:=c.m_ b e f
  grind
 |some o=>
  obtain⟨j,g,i⟩:=h.m_ b d (by rw[e];simp)
  grind
theorem Ba:∀(ks:dq)(σ:St),aR B ι σ a w->HT σ K ks->∃e,aR B ι e a w/\K e/\Ld ι σ e ks
 |[],σ,g,h=>⟨σ,g,h,⟨λ_ _ _ y h _=>⟨y,h⟩,rfl,λ_ _ h=>h,λ_ i m=>(m i).elim⟩⟩
 |k::ks,σ,g,h=>by
  simp only[HT]at h;split at h
  .rename_i p T y D;split at h
   .rename_i l E;obtain⟨b,F,n,r,s,d⟩:=cZJ g D E;obtain⟨e,t,G,c⟩:=Ba ks _ s (h b F n r);refine⟨e,t,G,⟨λj z T' u H A=>?_,c.imm.trans d.imm,λx j I=>d.lst x j (c.lst x j I),λb i m=>c0Q d c i m⟩⟩;simp only[mem_cons,not_or]at A;obtain⟨f,v⟩:=d.cells j z T' u H bo;exact c.cells j z T' f v A.2
   grind
  grind
theorem bAX(H:aR B ι σ a w){k E sz xs}(R:nth σ.own k=some (some (.lst E sz xs))):
 ∃(s:Sl)(m':MH),sX σ.m m' σ.h s E sz xs/\aR B ι {(σ.sub k (λ |.lst _=>.val s.val|_=>.junk)).setOwn k none with m:=m'} a w/\
  Ld ι σ {(σ.sub k (λ |.lst _=>.val s.val|_=>.junk)).setOwn k none with m:=m'} [k]:=by
 obtain⟨hr,u⟩:=uX H R
 obtain⟨s,S⟩:∃s:Sl,ι k=s.val:=by
  rcases u.2 with⟨t,_⟩|⟨g,n,p,t,_⟩
  .exact⟨⟨none,0,0⟩,t⟩
  .exact⟨⟨some ⟨g,0,none⟩,xs.length,n⟩,t⟩
 have l:aR B ι ((σ.sub k (λ |.lst _=>.val s.val|_=>.junk)).setOwn k none) a w:=by
  have:=H.drop k (ι k) (H.one k) (λ |.lst _=>.val s.val|_=>.junk) (by
   intro x v O T;cases x<;>simp only[At.key,ck,reduceCtorEq]at O
   case ptr=>trivial
   case el=>trivial
   case lst j=>
    subst O;have T:v=ι j:=T;show v=s.val;rw[T,S])
  rwa [Kx]at this
 have J:∀m':MH,(∀b,σ.m b=none->m' b≠none->blk (ι k)=some b)->Ld ι σ {(σ.sub k (λ |.lst _=>.val s.val|_=>.junk)).setOwn k none with m:=m'} [k]:=by
  intro m' U;refine⟨?_,rfl,λx j O=>RO (λx j=>bo) O,λd P Q=>⟨k,bi,U d P Q⟩⟩;intro j p' T' V I L;simp only[mem_singleton]at L;refine⟨V.map (At.sub k (λ |.lst _=>.val s.val|_=>.junk)),?_⟩;simp only[St.setOwn,St.sub,Bp,CE,L,false_and,if_false,I];rfl
 rcases u.2 with⟨t,W⟩|⟨g,n,p,t,a0,hg,X,Y,Z,D⟩
 .have F:s=⟨none,0,0⟩:=by
   rw[S]at t;obtain⟨x,y,z⟩:=s;simp only[Sl.val,Value.slice.injEq]at t
   grind
  subst F;exact⟨⟨none,0,0⟩,σ.m,⟨⟨hr,.inl ⟨rfl,eq_nil_of_length_eq_zero W⟩⟩,λ_ _=>rfl,λb i e=>by cases e⟩,l,J σ.m (λb P Q=>(Q P).elim)⟩
 .have M:blk (ι k)=some g:=by rw[t];rfl
  obtain⟨f1,f2,f3⟩:=H.fresh k _ g R M
  have F:s=⟨some ⟨g,0,none⟩,xs.length,n⟩:=by
   rw[S]at t;obtain⟨x,y,z⟩:=s;simp only[Sl.val,Value.slice.injEq]at t
   grind
  subst F
  let m':MH:=λd=>if d=g then some (.cells p E (0,0))else σ.m d
  have G:∀j N,nth ((σ.sub k (λ |.lst _=>.val (Sl.mk (some ⟨g,0,none⟩) xs.length n).val|_=>.junk)).setOwn k none).own j=some (some N)->blk (ι j)≠some g:=by
   intro j N I hb;obtain⟨G,o1,a',_⟩:=tB I;exact G (H.dist j k _ _ g a' R hb M)
  refine⟨⟨some ⟨g,0,none⟩,xs.length,n⟩,m',⟨⟨hr,.inr ⟨g,n,p,rfl,by simp[m'],X,Y,Z,D⟩⟩,λd f=>?_,λb i e=>?_⟩,⟨l.slots,l.defers,l.own,l.dist,?_,?_,l.one⟩,J m' (λb P Q=>?_)⟩
  .grind
  .simp only[ck,Addr.mk.injEq]at e;obtain⟨rfl,_,_⟩:=e;exact⟨f2,f3⟩
  .intro j N d I f;obtain⟨g1,g2,g3⟩:=l.fresh j N d I f;refine⟨g1,?_,g3⟩;have:d≠g:=λe=>G j N I (e▸f);show(if d=g then _ else σ.m d)=none;rw[if_neg this];exact g2
  .have r:=H.wrel;refine⟨r.tape,r.os,r.output,r.drawn,r.size,r.frame,r.hsat,?_,?_,r.hle,r.hold,?_⟩
   .intro d A f;have c:(if d=g then some (Obj.cells p E (0,0))else σ.m d)=some A:=f;by_cases e:d=g
    .grind
    .rw[if_neg e]at c;exact r.msat d A c
   .intro d A f i;have c:(if d=g then some (Obj.cells p E (0,0))else σ.m d)=some A:=f;by_cases e:d=g
    .subst e;exact f3 i
    .rw[if_neg e]at c;exact r.disj d A c i
   .intro d A f;have c:(if d=g then some (Obj.cells p E (0,0))else σ.m d)=some A:=f;by_cases e:d=g
    .grind
    .rw[if_neg e]at c;exact r.mfr d A c
  grind
theorem Fb:∀(ks:dq)(σ:St),aR B ι σ a w->Fs σ K ks->∃e,aR B ι e a w/\K e/\Ld ι σ e ks
 |[],σ,i,h=>⟨σ,i,h,⟨λ_ _ _ y h _=>⟨y,h⟩,rfl,λ_ _ h=>h,λ_ l m=>(m l).elim⟩⟩
 |k::ks,σ,i,h=>by
  simp only[Fs]at h;split at h
  .rename_i E H I z;obtain⟨s,A,f,n,d⟩:=bAX i z;obtain⟨e,p,D,c⟩:=Fb ks _ n (h s A f);refine⟨e,p,D,⟨λj u T' r F v=>?_,c.imm.trans d.imm,λx j G=>d.lst x j (c.lst x j G),λb l m=>c0Q d c l m⟩⟩;simp only[mem_cons,not_or]at v;obtain⟨g,t⟩:=d.cells j u T' r F bo;exact c.cells j u T' g t v.2
  grind
end
end Go.Vc
namespace Go.Vc
open Go List
def JK(w:World):CV->Value->Prop
 |.val v,u=>u=v
 |.lst E c b,u=>eU c b/\w.ownsRow 0 E c u b.length b.flatten
 |.tup e,u=>∃d:Array Value,u= .tuple d/\e=d.toList.map .val
def jF:CV->Value->Option Nat
 |.lst _ _ _,u=>blk u
 |_,_=>none
def DY(w:World):du->dc->Prop
 |[],[]=>True
 |c::cs,v::vs=>JK w c v/\DY w cs vs
 |_,_=>False
def zU(m:MH)(d:du)(vs:dc)(b:Nat):=m b≠none\/∃(i:Nat)(c:CV)(u:Value),d[i]? =some c/\vs[i]? =some u/\jF c u=some b
structure Dr(w:World)(m:MH)(h:PH)(cvs:du)(vs:dc):Prop where
 args:DY w cvs vs
 hsat:∀b o v,h b o=some v->w.cell? ⟨b,o,none⟩=some v
 msat:∀b o,m b=some o->w.heap[b]? =some o
 disj:∀b o,m b=some o->∀i,h b i=none
 sep:∀(i j:Nat)(c d:CV)(u v:Value)(b:Nat),cvs[i]? =some c->vs[i]? =some u->cvs[j]? =some d->vs[j]? =some v->jF c u=some b->jF d v=some b->i=j
 free:∀(i:Nat)(c:CV)(u:Value)(b:Nat),cvs[i]? =some c->vs[i]? =some u->jF c u=some b->m b=none/\∀o,h b o=none
def Sound(P:Program)(f:FuncId)(S:Spec):=
 (∃g,P.funcs[f]? =some g/\g.body.isSome=true/\(g.name== "runtime.NumGoroutine")=false)/\
 ∀c d m h w K,S c m h K->Dr w m h c d->
  Calls P f d.toArray w λe n=>∃r u j l,e= .returned u/\K r j l/\JK n r u/\D4 ⟨w,zU m c d,h,[]⟩ j l n/\
   (∀b,jF r u=some b->(w.heap.size<=b\/zU m c d b)/\j b=none/\∀i,l b i=none)
section
variable{B:xC}{C:Ctx}{ι:dm}{σ:St}{a:Act}{w:World}{o:Oper}{K:St->Prop}
theorem JY sz:eU sz []:=⟨(λe b=>by cases b),(λe b=>by cases b)⟩
theorem Hk(p:aR B ι σ a w){mv:dq}:∀(i:Nat)(l:dx)(ts:eu)(f:du),uK C.P σ mv i l ts=some f->
 DY w f (l.map a.eval)/\∀(j:Nat)(c:CV)(u:Value)(b:Nat),f[j]? =some c->(l.map a.eval)[j]? =some u->jF c u=some b->
  ∃x k s,l[j]? =some x/\mv.contains (i+j)=true/\σ.ev x= .at (.lst k)/\nth σ.own k=some (some s)/\u=ι k
 |i,[],ts,f,h=>by
  simp[uK]at h;subst h;exact⟨trivial,λj c u b H=>by simp at H⟩
 |i,x::r,ts,f,h=>by
  simp only[uK]at h;split at h
  .cases h
  .rename_i g m;obtain⟨n,I⟩:=Hk p (i+1) r ts.tail g m
   have d:∀(D:CV),(∀(u:Value)(b:Nat),(a.eval x)=u->jF D u=some b->∃k s,mv.contains i=true/\σ.ev x= .at (.lst k)/\nth σ.own k=some (some s)/\u=ι k)->
    ∀(j:Nat)(c:CV)(u:Value)(b:Nat),(D::g)[j]? =some c->((x::r).map a.eval)[j]? =some u->jF c u=some b->
     ∃F k s,(x::r)[j]? =some F/\mv.contains (i+j)=true/\σ.ev F= .at (.lst k)/\nth σ.own k=some (some s)/\u=ι k:=by
    grind
   split at h
   .rename_i y;split at h
    .rename_i k v;have e:=p.ev x;rw[v]at e;have e:a.eval x=ι k:=e;split at h
     .rename_i E L M G;simp only[ck]at h;subst h;obtain⟨J,N⟩:=uX p G;refine⟨⟨⟨J,bo⟩,n⟩,d _ (λu b t _=>⟨k,_,y,v,G,bo⟩)⟩
     .cases h
    .rename_i v;have e:=p.ev x;rw[v]at e;have e:a.eval x= .slice none 0 0:=e;split at h
     .rename_i E z O;simp only[ck]at h;subst h;refine⟨⟨⟨JY _,by rw[e];exact World.ownsRow_nil w 0 E _⟩,n⟩,d _ (λu b t A=>?_)⟩;rw[e]at t;subst t;simp[jF,blk]at A
     .cases h
    .cases h
   .split at h
    .rename_i u t;simp only[ck]at h;subst h;exact⟨⟨p.rho t,n⟩,d _ (λu b _ A=>by simp[jF]at A)⟩
    .cases h
theorem Fa{mv:dq}:∀(i:Nat)(l:dx)(j:Nat)(x:Operand)(k:Nat),l[j]? =some x->mv.contains (i+j)=true->σ.ev x= .at (.lst k)->k∈kV σ mv i l
 |i,[],j,x,k,h,_,_=>by simp at h
 |i,y::r,0,x,k,h,b,c=>by
  simp at h;subst h;simp only[Nat.add_zero]at b;simp only[kV,b,c]
  grind
 |i,y::r,j+1,x,k,h,b,c=>by
  simp only[getElem?_cons_succ]at h;have:=Fa (i+1) r j x k h (by rw[show i+1+j=i+(j+1)by omega];exact b) c;simp only[kV]
  grind
theorem JO{mv:dq}:∀(i:Nat)(l:dx),M0 (kV σ mv i l)=true->∀(j c:Nat)(x e:Operand)(k:Nat),l[j]? =some x->l[c]? =some e->
 mv.contains (i+j)=true->mv.contains (i+c)=true->σ.ev x= .at (.lst k)->σ.ev e= .at (.lst k)->j=c
 |i,[],_,j,_,_,_,_,h,_,_,_,_,_=>by simp at h
 |i,y::r,b,j,c,x,e,k,h,s,E,u,v,f=>by
  have key:∀j x,r[j]? =some x->mv.contains (i+(j+1))=true->σ.ev x= .at (.lst k)->∀g,y=g->mv.contains i=true->σ.ev g= .at (.lst k)->False:=by
   intro j x z A m g D n p;subst D;simp only[kV,n,p]at b;have t:=Fa (σ:=σ) (mv:=mv) (i+1) r j x k z bo m;simp only[M0]at b
   grind
  have d:M0 (kV σ mv (i+1) r)=true:=by
   simp only[kV]at b;split at b
   .simp only[M0]at b
    grind
   .exact b
  cases j with
  |zero=>
   grind
  |succ j=>
   cases c with
   |zero=>
    grind
   |succ c=>
    simp only[getElem?_cons_succ]at h s;have:=JO (i+1) r d j c x e k h s bo bo v f;rw[this]
theorem JR:∀(ks:dq)(σ:St),aR B ι σ a w->aR B ι (Dk σ ks) a w/\(Dk σ ks).m=σ.m/\(Dk σ ks).h=σ.h/\
 (∀j o',nth (Dk σ ks).own j=some (some o')->j∉ks/\∃d,nth σ.own j=some (some d))
 |[],σ,c=>⟨c,rfl,rfl,λj o' h=>⟨bi,o',h⟩⟩
 |k::ks,σ,c=>by
  have e:=c.kill k (ι k) (c.one k);rw[Kx]at e;obtain⟨f,g,i,l⟩:=JR ks (σ.kill k) e;refine⟨f,g,i,λj o' n=>?_⟩;obtain⟨s,d,b⟩:=l j o' n;rw[PM]at b;obtain⟨p,t,r,_⟩:=tB b
  grind
theorem D4.trans{m m' h j w w' E}(d:D4 B m h w)(c:D4 ⟨w,E,h,[]⟩ m' j w')(r:∀b,E b->B.w0.heap.size<=b\/B.E b):D4 B m' j w':=by
 refine⟨c.tape.trans d.tape,c.os.trans d.os,c.output.trans d.output,cv d.drawn c.drawn,cv d.size c.size,?_,c.hsat,c.msat,c.disj,λb o v n=>c.hle b o v (d.hle b o v n),?_,?_⟩
 .intro b f i
  have g:¬E b:=λe=>by
   grind
  rw[c.frame b (cw f d.size) g];exact d.frame b f i
 .intro b f i
  have g:¬E b:=λe=>by
   grind
  rw[c.hold b (cw f d.size) g];exact d.hold b f i
 .intro b p f;rcases c.mfr b p f with l|l
  .exact .inl (cv d.size l)
  grind
theorem aR.called{m' l w' E}(d:aR B ι σ a w)(n:D4 ⟨w,E,σ.h,[]⟩ m' l w')(r:∀b,E b->B.w0.heap.size<=b\/B.E b)(e:∀j o' b,nth σ.own j=some (some o')->blk (ι j)=some b->¬E b):aR B ι {σ with m:=m',h:=l} a w':=by
 refine⟨d.slots,d.defers,?_,d.dist,?_,d.wrel.trans n r,d.one⟩
 .intro j o' f;have c:=d.own j o' f;exact c.world (λb g=>n.frame b (uC c g) (e j o' b f g))
 .intro j o' b f g;have c:=d.own j o' f;obtain⟨s,z,t⟩:=d.fresh j o' b f g;have p:=uC c g;have u:=e j o' b f g;refine⟨s,?_,λi=>?_⟩
  .show m' b=none;cases v:m' b with
   |none=>rfl
   |some x=>
    rcases n.mfr b x v with y|y
    .grind
    grind
  .have:l b=σ.h b:=n.hold b p u;show l b i=none;rw[this];exact t i
theorem Kz:∀{rs:du}{l:List (Sum At dv)}{us:dc},FO rs=some l->rs=us.map .val->Sn ι l us
 |[],l,us,h,b=>by
  simp[FO]at h;subst h;cases us with
  |nil=>trivial
  |cons u us=>simp at b
 |.val v::r,l,us,h,b=>by
  cases us with
  |nil=>simp at b
  |cons u us=>
   simp only[map_cons,List.cons.injEq,CV.val.injEq]at b;simp only[FO]at h;split at h
   .rename_i d c;simp only[ck]at h;subst h;exact⟨b.1.symm,Kz c b.2⟩
   .cases h
 |.lst _ _ _::_,l,us,h,_=>by simp[FO]at h
 |.tup _::_,l,us,h,_=>by simp[FO]at h
theorem Ot{E sz n v l}(h:w.ownsRow 0 E sz v n l):v.oneCell'=true:=by
 rcases h.2 with⟨rfl,_⟩|⟨g,b,c,rfl,_⟩<;>rfl
theorem Ol{σ:St}{k:Nat}:∀{l:dx},k∈rV σ l->∃x∈l,∃off,σ.ev x= .at (.ptr k off)
 |[],h=>by cases h
 |x::r,h=>by
  have b:=λh=>Ol (σ:=σ) (k:=k) (l:=r) h;have c:k∈rV σ r->∃y∈x::r,∃off,σ.ev y= .at (.ptr k off):=λh=>let⟨y,hy,off,e⟩:=b h;⟨y,mem_cons_of_mem _ hy,off,e⟩
  simp only[rV]at h
  grind
theorem avZ(Y:∀g S,assoc C.specs g=some S->Sound C.P g S)(hM:aR B ι σ a w){c g f fs cs}(ho:o.op= .call c)(hc:c.callee= .value g)(hg:σ.ev g= .at (.val (.func (.func f) fs cs)))(e9:fs.toList=[])(f':cs.toList=[])(h:avJ C o f c.args.toList c.argTypes.toList σ K):Ws B C ι o σ K a w:=by
 intro next Q H
 unfold avJ at h;split at h
 .exact h.elim
 .rename_i S hS;obtain⟨⟨fn,c3,c4,c5⟩,Z⟩:=Y f S hS;obtain⟨τ,c6,h,L⟩:=rD _ _ hM h;obtain⟨υ,s,h,a'⟩:=Ba _ _ c6 h;split at h
  .rename_i U b1 c7;generalize Jj C f=mv at*
   obtain⟨V,A⟩:=Hk s 0 _ _ _ b1
   have b3:Dr w υ.m υ.h U (c.args.toList.map a.eval):=by
    refine⟨V,s.wrel.hsat,s.wrel.msat,s.wrel.disj,?_,?_⟩
    .intro i j D d1 u v b O hu hj hv W a4;obtain⟨x,k,ow,hx,hm,hk,y,rfl⟩:=A i D u b O hu W;obtain⟨x',X,f0,a5,c8,a0,a6,rfl⟩:=A j d1 v b hj hv a4;have z:blk (ι k)=some b:=by cases D<;>simp[jF]at W;exact W
     have F:blk (ι X)=some b:=by cases d1<;>simp[jF]at a4;exact a4
     have c9:=s.dist k X _ _ b y a6 z F;subst c9;exact JO (σ:=υ) (mv:=mv) 0 c.args.toList c7 i j x x' k hx a5 hm c8 hk a0
    .intro i D u b O hu W;obtain⟨x,k,ow,hx,hm,hk,y,rfl⟩:=A i D u b O hu W;have z:blk (ι k)=some b:=by cases D<;>simp[jF]at W;exact W
     exact(s.fresh k ow b y z).2
   have a7:=Z U _ υ.m υ.h w _ h b3;have d':a.eval g= .func (.func f) fs cs:=by have:=hM.ev g;rw[hg]at this;exact this
   have b4:fs= #[]:=by grind
   have b5:cs= #[]:=by grind
   subst b4 b5;have a1:c.args.map a.eval=(c.args.toList.map a.eval).toArray:=by grind
   have d0:¬fn.body=none:=by grind
   have d2:¬fn.name= "runtime.NumGoroutine" :=by grind
   have b6:(execOp a.eval o).run C.P w= .ok (.enter f (c.args.toList.map a.eval).toArray) w:=by
    unfold execOp;simp only[ho,resolve,hc,d',Deferred.ofValue,Sem.run_bind,Sem.run_pure,Result.andThen_ok,invoke,callFunc];simp[program,Sem.run,c3,d2,d0,a1]
   unfold Oper.wp;rw[b6,Oper.upon_enter];refine Calls.mono a7 ?_;rintro e w' ⟨r,u,m',h',rfl,hK,hr,hw,W⟩;show next (a.put o.dst u) w'
   obtain⟨b7,f4,f5,a8⟩:=JR (kV υ mv 0 c.args.toList) υ s
   have b8:∀b,zU υ.m U (c.args.toList.map a.eval) b->B.w0.heap.size<=b\/B.E b:=by
    rintro b (M|⟨i,D,R,O,G,t⟩)
    .cases I:υ.m b with
     |none=>grind
     |some ob=>exact s.wrel.mfr b ob I
    .obtain⟨x,k,ow,hx,I,hk,y,rfl⟩:=A i D R b O G t;have z:blk (ι k)=some b:=by cases D<;>simp[jF]at t;exact t
     exact(s.fresh k ow b y z).1
   have a9:∀j o' b,nth (Dk υ (kV υ mv 0 c.args.toList)).own j=some (some o')->blk (ι j)=some b->¬zU υ.m U (c.args.toList.map a.eval) b:=by
    intro j o' b hj a2 b9;obtain⟨c',o1,c0⟩:=a8 j o' hj;rcases b9 with M|⟨i,D,R,O,G,t⟩
    .exact M (s.fresh j o1 b c0 a2).2.1
    .obtain⟨x,k,ow,hx,I,hk,y,rfl⟩:=A i D R b O G t;have z:blk (ι k)=some b:=by cases D<;>simp[jF]at t;exact t
     have:=s.dist j k _ _ b c0 y a2 z;subst this;exact c' (Fa 0 _ i x j hx aD hk)
   have b':aR B ι {Dk υ (kV υ mv 0 c.args.toList)with m:=m',h:=h'} a w':=by
    refine b7.called (E:=zU υ.m U (c.args.toList.map a.eval)) ?_ b8 a9
    grind
   have J:Kt σ ι o w w':=by
    constructor
    .intro k p T d3 b hk ht hι;obtain⟨d4,d5⟩:=L.cells k p T d3 hk;have d6:=P6 L ht
     have d7:k∉rV τ c.args.toList:=by
      unfold Bm at d6
      grind
     obtain⟨f6,a3⟩:=a'.cells k p T d4 d5 d7;have z:blk (ι k)=some b:=by rw[hι];rfl
     refine hw.frame b (uC (s.own k _ a3) z) ?_;rintro(M|⟨i,D,R,O,G,t⟩)
     .exact M (s.fresh k _ b a3 z).2.1
     .obtain⟨x,X,ow,hx,I,a0,y,rfl⟩:=A i D R b O G t;have F:blk (ι X)=some b:=by cases D<;>simp[jF]at t;exact t
      have:=s.dist k X _ _ b a3 y z F;subst this;cases D<;>simp[jF]at t;rename_i E1 f7 f8;have b0:=s.own k _ a3;obtain⟨b2,f9,e2,_,_⟩:=b0
      have e6:∃ad n cp,ι k= .slice ad n cp:=by
       have c2:∀(l:du)(vs:dc),DY w l vs->∀(i:Nat)(D:CV)(R:Value),l[i]? =some D->vs[i]? =some R->JK w D R:=by
        intro l
        induction l with
        |nil=>grind
        |cons x0 r0 d8=>
         intro vs hv i D R h1 h2;cases vs with
         |nil=>exact hv.elim
         |cons v0 d9=>
          cases i with
          |zero=>simp at h1 h2;subst h1 h2;exact hv.1
          |succ i=>simp at h1 h2;exact d8 d9 hv.2 i D R h1 h2
       have:=c2 _ _ V i _ _ O G;rcases this.2.2 with⟨e3,_⟩|⟨g3,e7,e8,e3,_⟩
       .grind
       grind
      grind
    .intro b N v hv;have h1:=L.imm b N v hv;rw[<-a'.imm]at h1;exact hw.hsat b N v (hw.hle b N v h1)
    .intro hg;rw[ho]at hg;simp[B9]at hg
    .intro l b hl W M hx;have hl:c.args.toList=l:=by simpa[vY,ho,hc]using hl
     refine hw.frame b W ?_;rintro(I|⟨i,D,R,O,G,t⟩)
     .obtain⟨k,hk,z⟩:=a'.m_ b (by rw[L.m_];exact M) I;obtain⟨x,e',N,e0⟩:=Ol hk;exact hx x (hl▸e') k (.inr ⟨N,L.ptr x k N e0⟩) z
     .obtain⟨x,X,ow,a5,I,a0,y,rfl⟩:=A i D R b O G t;have F:blk (ι X)=some b:=by cases D<;>simp[jF]at t;exact t
      exact hx x (hl▸mem_of_getElem? a5) X (.inl (L.lst x X (a'.lst x X a0))) F
   unfold cGX at hK;split at hK
   .rename_i v;exact H ι _ _ _ (b'.put o.dst (x:=.at (.val v)) hr) hK J
   .rename_i E sz xs;split at hK
    .rename_i d hd;rw[hd];generalize (kV υ mv 0 c.args.toList).headD d=kd at hK;refine H (upd ι kd u) _ _ _ (aR.put ?_ (some d) (x:=.at (.lst kd)) (by show _=_;simp)) hK J;refine b'.adopt kd _ u ⟨hr.1,hr.2⟩ (Ot hr.2) (λb e1=>?_);obtain⟨f1,f2,f3⟩:=W b e1;refine⟨⟨?_,f2,f3⟩,?_⟩
     .rcases f1 with f1|f1
      .exact .inl (Nat.le_trans s.wrel.size f1)
      grind
     .intro j o' _ hj a2;have e4:nth (Dk υ (kV υ mv 0 c.args.toList)).own j=some (some o'):=hj;rcases f1 with f1|f1
      .have:=uC (b7.own j o' e4) a2;omega
      grind
    grind
   .rename_i rs;split at hK
    .rename_i l hl;obtain⟨us,rfl,e5⟩:=hr;exact H ι _ _ _ (b'.put o.dst (x:=.tup l) ⟨us,rfl,Kz hl e5⟩) hK J
    grind
  grind
end
end Go.Vc
