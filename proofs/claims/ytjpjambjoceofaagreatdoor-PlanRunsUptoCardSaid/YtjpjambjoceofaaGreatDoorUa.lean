/- Own work. -/
import Derived.Calls
import Derived.CallsIn
import Derived.Orders
import Derived.KernelRfl
import Derived.Laws.AppendOwn
import Derived.Laws.CopyRow
import Derived.Deep.AppendSrc
import Derived.Deep.LoopGhost
import Derived.Laws.StructEq
import Derived.Laws.BytesArg
import Derived.Laws.NewBlocks
import Derived.Great.BuildSlice
import Derived.Laws.MakeOwn
import Derived.Lib.AppendZerosOnto
set_option linter.unusedVariables false
set_option linter.unusedSimpArgs false
namespace Go
abbrev fe:=List (Nat×Operand)
abbrev fb:=List TypeId
abbrev eu:=List ByteArray
abbrev ej:=List Operand
abbrev ei:=List Bool
abbrev ed:=List Nat
abbrev dw:=List UInt8
abbrev du:=Nat->Value
abbrev dt:=List (Value×Value)
abbrev dr:=List (Int×Bool)
abbrev dq:=List (Int×Int)
abbrev dl:=List Int
abbrev dj:=List Value
universe u
theorem cn{α:Type u}{l:List α}{i:Nat}{a:α}(h:l[i]? =some a):i<l.length:=(_root_.List.getElem?_eq_some_iff.1 h).1
theorem cq{α:Type u}{l:List α}{i:Nat}(h:i<l.length):l[i]? =some l[i]:=_root_.List.getElem?_eq_getElem h
theorem cr{α:Type u}{l:List α}{i:Nat}{a:α}(h:l[i]? =some a):a∈l:=_root_.List.mem_of_getElem? h
theorem ct{α:Type u}{a b:List α}:(a++b).length=a.length+b.length:=_root_.List.length_append
theorem cu{α:Type u}{i:Nat}{l:List α}(h:l.length<=i):l.take i=l:=_root_.List.take_of_length_le h
theorem cv{α:Type u}{β:Type u}{f:α->β}{a b:List α}:(a++b).map f=a.map f++b.map f:=_root_.List.map_append
theorem cw{α:Type u}{a b:α}:(some a=some b)=(a=b):=Option.some.injEq a b
theorem cz{a b:Bool}:((a&&b)=true)=(a=true∧b=true):=Bool.and_eq_true a b
theorem da{a b:Nat}(h:Nat.beq a b=true):a=b:=Nat.eq_of_beq_eq_true h
theorem db{α:Type u}{l:List α}{i:Nat}:l.take (i+1)=l.take i++l[i]?.toList:=_root_.List.take_add_one
theorem dc{p:Prop}[Decidable p]:(decide p=true)=p:=decide_eq_true_eq
theorem dd{α:Type u}{a:Array α}{i:Nat}:a.toList[i]? =a[i]?:=Array.getElem?_toList
theorem de{α:Type u}{a:α}{l:List α}:(a::l).length=l.length+1:=_root_.List.length_cons
theorem dg{a b c:Nat}(h:a<=b)(g:b<=c):a<=c:=Nat.le_trans h g
theorem dh{a b c:Nat}(h:a<b)(g:b<=c):a<c:=Nat.lt_of_lt_of_le h g
theorem bu{α:Sort u}{a b:α}(h:a=b:=by kernel_rfl):a=b:=h
theorem bx{p:Prop}(h:p:=by simp):p:=h
theorem bz{p:Prop}(h:p:=by decide):p:=h
theorem ca{p:Prop}(h:p:=by simp_all):p:=h
theorem cd{p:Prop}(h:p:=by rw[@List.length_map];omega):p:=h
theorem ce{p:Prop}(h:p:=by simp;omega):p:=h
theorem cg{p:Prop}(h:p:=by grind):p:=h
theorem ci{p:Prop}(h:p:=by dsimp only;omega):p:=h
theorem ck{p:Prop}(h:p:=by dsimp only;omega):p:=h
theorem cj{a i:Nat}(h:i<a:=by omega):a-(i+1)<a-i:=by omega
theorem cm{p q:Prop}(h:p)(e:p->q:=by intro h;simpa using h):q:=e h
theorem aC{p:Prop}(h:p:=by omega):p:=h
end Go
namespace Go.Vc
open Go List
abbrev PH:=Nat->Nat->Option Value
abbrev MH:=Nat->Option Obj
abbrev fa:=Int×Nat×dq×(Int×Int)×Bool×MH
structure Sl where
 a:Option Addr
 len:Nat
 cap:Nat
abbrev fc:=List (Value×Sl)
abbrev dy:=List (ByteArray×Sl)
abbrev dn:=List Sl
def Sl.val(s:Sl):Value:=.slice s.a s.len s.cap
inductive At where
 |val (v:Value)
 |ptr (k o:Nat)
 |lst (k:Nat)
 |el (k i sz o:Nat)
 |junk
abbrev dz:=List At
inductive SV where
 |at(x:At)
 |agg (cs:dz)
 |tup (xs:List (Sum At dz))
abbrev fd:=List SV
inductive Own where
 |cellsP (p:Option Nat) (T:TypeId) (cs:dz)
 |lst (E:TypeId) (sz:Nat) (xs:List dj)
abbrev ez:=List (Option Own)
abbrev Own.cells(T:TypeId)(cs:dz):Own:=.cellsP none T cs
structure St where
 sl:fd
 own:ez
 m:MH
 h:PH
inductive CV where
 |val (v:Value)
 |lst (E:TypeId) (sz:Nat) (xs:List dj)
 |tup (xs:List CV)
abbrev eb:=List CV
abbrev dk:=CV->MH->PH->Prop
abbrev Spec:=eb->MH->PH->dk->Prop
structure Dec where
 X:Type
 enc:X->dj
inductive Lr where
 |normal
 |exit (id:Nat)
 |ret
structure OH where
 A:Type
 st:A->St
 inv:A->Prop
 mu:A->Nat
structure akJ where
 A:Type
 st:A->St
 inv:A->Prop
structure vQ where
 A:Type
 st:A->St
 frz:Bool:=false
abbrev eo:=List (Nat×vQ)
structure Ctx where
 P:Program
 loops2:eo
 cuts2:eo
 rcuts:List (Nat×eo)
 heapT:fb
 specs:List (Nat×Spec)
 dec:TypeId->Dec
 loops:List (Nat×OH)
 cuts:List (Nat×akJ)
 moves:List (Nat×ed)
 retMove:Bool
 yield:Option Spec
 elemT:fb:=[]
def nth{α:Type}:List α->Nat->Option α
 |[],_=>none
 |x::_,0=>some x
 |_::xs,n+1=>nth xs n
def Rg:ed->Nat->Bool
 |[],_=>false
 |x::r,n=>match Nat.beq x n with|true=>true|false=>Rg r n
def assoc.{u}{α:Type u}:List (Nat×α)->Nat->Option α
 |[],_=>none
 |(k,v)::r,n=>match Nat.beq k n with|true=>some v|false=>assoc r n
def branch(c:Bool)(A B:Prop):Prop:=match c with|true=>A|false=>B
def St.ev(σ:St):Operand->SV
 |.tmp t=>match nth σ.sl t with|some x=>x|none=>.at .junk
 |.const v=>.at (.val v)
 |.global g=>.at (.val (.pointer (some ⟨g,0,none⟩)))
 |.func f=>.at (.val (.func (.func f) #[] #[]))
def St.put(σ:St)(d:Option Tmp)(x:SV):St:=
 match d with
 |some d=>{σ with sl:=σ.sl.set d x}
 |none=>σ
def At.sub(k:Nat)(f:At->At):At->At
 |.val v=>.val v
 |.ptr j o=>match Nat.beq j k with|true=>f (.ptr j o)|false=>.ptr j o
 |.lst j=>match Nat.beq j k with|true=>f (.lst j)|false=>.lst j
 |.el j i a o=>match Nat.beq j k with|true=>f (.el j i a o)|false=>.el j i a o
 |.junk=>.junk
def SV.sub(k:Nat)(f:At->At):SV->SV
 |.at x=>.at (x.sub k f)
 |.agg a=>.agg (a.map (At.sub k f))
 |.tup b=>.tup (b.map λ |.inl x=>.inl (x.sub k f)|.inr a=>.inr (a.map (At.sub k f)))
def Own.sub(k:Nat)(f:At->At):Own->Own
 |.cellsP p T a=>.cellsP p T (a.map (At.sub k f))
 |.lst E b c=>.lst E b c
def St.sub(σ:St)(k:Nat)(f:At->At):St:=
 {σ with sl:=σ.sl.map (SV.sub k f),own:=σ.own.map (Option.map (Own.sub k f))}
def St.kill(σ:St)(k:Nat):St:=
 let τ:=σ.sub k (λ_=>.junk)
 {τ with own:=τ.own.set k none}
def St.setOwn(σ:St)(k:Nat)(o:Option Own):St:={σ with own:=σ.own.set k o}
def At.val? :At->Option Value
 |.val v=>some v
 |_=>none
def wP:dz->Option dj
 |[]=>some []
 |.val v::r=>match wP r with|some l=>some (v::l)|none=>none
 |_::_=>none
def SV.val? :SV->Option Value
 |.at (.val v)=>some v
 |.agg a=>match wP a with|some l=>some (.agg l.toArray)|none=>none
 |_=>none
def SV.cells? :SV->Option dz
 |.at (.val (.agg a))=>some (a.toList.map .val)
 |.at (.val (.tuple _))=>none
 |.at .junk=>none
 |.at x=>some [x]
 |.agg a=>some a
 |.tup _=>none
def At.storable:At->Bool
 |.val (.agg _)=>false
 |.val (.tuple _)=>false
 |.junk=>false
 |_=>true
def tG:dz->Bool
 |[]=>true
 |x::r=>match x.storable with|true=>tG r|false=>false
def zG{α:Type}(P:Program):Sem α->Option α
 |.pure a=>some a
 |.program k=>zG P (k P)
 |.mark _ k=>zG P k
 |_=>none
def St.rho(σ:St)(x:Operand):Value:=match(σ.ev x).val? with|some v=>v|none=>undef
def OD(σ:St):ej->Bool
 |[]=>true
 |x::r=>match(σ.ev x).val? with|some _=>OD σ r|none=>false
structure bZ(h:PH)(b o:Nat)(l:dj):Prop where
 rd:∀i v,l[i]? =some v->h b (o+i)=some v
inductive aR(m:MH)(h:PH)(b off:Nat)(l:dj):Prop
 |imm (hr:bZ h b off l):aR m h b off l
 |lent (cs:Array Value) (E:TypeId) (fz:Nat×Nat) (hm:m b=some (.cells cs E fz)) (hl:(cs.toList.drop off).take l.length=l):aR m h b off l
structure Gc(m:MH)(b:Nat)(o:Obj):Prop where
 at_:m b=some o
structure lZ(m:MH)(h:PH)(b:Nat):Prop where
 m_:m b=none
 h_:∀i,h b i=none
def Cu(P:Program)(t:TypeId):Bool:=
 match P.underlying t with
 |some (.struct _)=>true
 |some (.array _ _)=>true
 |_=>false
def mk(P:Program)(T:TypeId)(cs:dz):SV:=
 match Cu P T with
 |true=>.agg cs
 |false=>match cs with|[x]=>.at x|_=>.at .junk
def xE(C:Ctx)(o:Oper)(σ:St)(K:St->Prop):Prop:=
 match OD σ o.op.operands.toList with
 |true=>match zG C.P (execOp σ.rho o)with
  |some (.value v)=>K (σ.put o.dst (.at (.val v)))
  |_=>False
 |false=>False
def jE(P:Program)(T:TypeId):Bool:=
 match P.underlying T with
 |some _=>match P.cellsOf T with|0=>false|_=>true
 |none=>false
def cfZ(C:Ctx)(T:TypeId)(R:dj->Prop)(K:dj->Prop):Prop:=
 ∃y:(C.dec T).X,R ((C.dec T).enc y)/\
  match Nat.beq ((C.dec T).enc y).length (C.P.cellsOf T)with
  |true=>K ((C.dec T).enc y)
  |false=>False
def Ys(C:Ctx)(o:Oper)(T:TypeId)(x:Operand)(σ:St)(K:St->Prop):Prop:=
 match jE C.P T with
 |false=>False
 |true=>
  match σ.ev x with
  |.at (.ptr k off)=>
   match nth σ.own k with
   |some (some (.cellsP _ _ a))=>
    match Nat.ble (off+C.P.cellsOf T) a.length with
    |true=>K (σ.put o.dst (mk C.P T ((a.drop off).take (C.P.cellsOf T))))
    |false=>False
   |_=>False
  |.at (.el k i c off)=>
   match nth σ.own k with
   |some (some (.lst _ s d))=>
    match Nat.beq s c with
    |true=>∃e:dj,d[i]? =some e/\cfZ C T (λl=>(e.drop off).take (C.P.cellsOf T)=l) λl=>K (σ.put o.dst (mk C.P T (l.map .val)))
    |false=>False
   |_=>False
  |.at (.val (.pointer (some ⟨b,off,none⟩)))=>
   cfZ C T (aR σ.m σ.h b off) λl=>K (σ.put o.dst (mk C.P T (l.map .val)))
  |_=>False
def splice{α:Type}(cs:List α)(off:Nat)(new:List α):List α:=cs.take off++new++cs.drop (off+new.length)
structure iD(m m':MH)(b:Nat)(o:Obj):Prop where
 at_:m' b=some o
 other:∀b',b'≠b->m' b'=m b'
def Ud(C:Ctx)(T:TypeId)(x v:Operand)(σ:St)(K:St->Prop):Prop:=
 match(σ.ev v).cells? with
 |none=>False
 |some new=>
 match Nat.beq new.length (C.P.cellsOf T),tG new,jE C.P T with
 |true,true,true=>
  match σ.ev x with
  |.at (.ptr k off)=>
   match nth σ.own k with
   |some (some (.cellsP p E a))=>
    match Nat.ble (off+new.length) a.length with
    |true=>K (σ.setOwn k (some (.cellsP p E (splice a off new))))
    |false=>False
   |_=>False
  |.at (.el k i f off)=>
   match nth σ.own k,wP new with
   |some (some (.lst E s c)),some l=>
    match Nat.beq s f with
    |true=>∃e:dj,c[i]? =some e/\off+l.length<=e.length/\
     K (σ.setOwn k (some (.lst E s (c.set i (splice e off l)))))
    |false=>False
   |_,_=>False
  |.at (.val (.pointer (some ⟨b,off,none⟩)))=>
   match wP new with
   |some l=>∃(a:Array Value)(E:TypeId),Gc σ.m b (.cells a E (0,0))/\off+l.length<=a.size/\
    ∀d:MH,iD σ.m d b (.cells (splice a.toList off l).toArray E (0,0))->K {σ with m:=d}
   |none=>False
  |_=>False
 |_,_,_=>False
def K1(P:Program)(T:TypeId)(f:Nat):Option (Nat×TypeId):=
 match P.underlying T with
 |some (.struct a)=>match nth a.toList f with
  |some g=>match Nat.beq (P.cellsOf g.type) 0 with|true=>none|false=>some (g.offset,g.type)
  |none=>none
 |_=>none
def GN(C:Ctx)(o:Oper)(T:TypeId)(x:Operand)(f:Nat)(σ:St)(K:St->Prop):Prop:=
 match K1 C.P T f with
 |none=>False
 |some (g,_)=>
  match σ.ev x with
  |.at (.ptr k off)=>K (σ.put o.dst (.at (.ptr k (off+g))))
  |.at (.el k i a off)=>K (σ.put o.dst (.at (.el k i a (off+g))))
  |.at (.val (.pointer (some ⟨b,off,none⟩)))=>K (σ.put o.dst (.at (.val (.pointer (some ⟨b,off+g,none⟩)))))
  |_=>False
def I8(o:Oper)(x:Operand)(σ:St)(K:St->Prop):Prop:=
 match σ.ev x with
 |.at (.ptr k off)=>K (σ.put o.dst (.at (.ptr k off)))
 |.at (.el k i b off)=>K (σ.put o.dst (.at (.el k i b off)))
 |.at (.val (.pointer (some a)))=>K (σ.put o.dst (.at (.val (.pointer (some a)))))
 |_=>False
def GF(C:Ctx)(o:Oper)(T:TypeId)(x i:Operand)(σ:St)(K:St->Prop):Prop:=
 match σ.ev i with
 |.at (.val (.int _ n))=>
  match C.P.underlying T with
  |some (.slice E)=>
   match jE C.P E with
   |true=>
    match σ.ev x with
    |.at (.lst k)=>
     match nth σ.own k with
     |some (some (.lst _ c d))=>match Nat.beq c (C.P.cellsOf E)with
      |true=>0<=n/\n<(d.length:Int)/\K (σ.put o.dst (.at (.el k n.toNat c 0)))
      |false=>False
     |_=>False
    |.at (.val (.slice a len _))=>
     ∃b off,a=some ⟨b,off,none⟩/\0<=n/\n<(len:Int)/\
      K (σ.put o.dst (.at (.val (.pointer (some ⟨b,off+n.toNat*C.P.cellsOf E,none⟩)))))
    |_=>False
   |false=>False
  |some (.array len E)=>
   match jE C.P E with
   |true=>
    match σ.ev x with
    |.at (.ptr k off)=>0<=n/\n<(len:Int)/\K (σ.put o.dst (.at (.ptr k (off+n.toNat*C.P.cellsOf E))))
    |.at (.val (.pointer (some ⟨b,off,none⟩)))=>0<=n/\n<(len:Int)/\K (σ.put o.dst (.at (.val (.pointer (some ⟨b,off+n.toNat*C.P.cellsOf E,none⟩)))))
    |_=>False
   |false=>False
  |_=>False
 |_=>False
def auZ(o:Oper)(op:BinOp)(x y:Operand)(σ:St)(K:St->Prop):Prop:=
 match σ.ev x,σ.ev y with
 |.at (.val (.int k a)),.at (.val (.int c b))=>
  match decide (k=c)with
  |true=>
   b≠0/\(match op with
    |.quo=>K (σ.put o.dst (.at (.val (.int k (k.wrap (a.tdiv b))))))
    |.rem=>K (σ.put o.dst (.at (.val (.int k (a.tmod b)))))
    |_=>False)
  |false=>False
 |_,_=>False
def Qy(C:Ctx)(o:Oper)(x y:Operand)(σ:St)(K:St->Prop):Prop:=
 match σ.ev x,σ.ev y with
 |.at (.val (.string a)),.at (.val (.string b))=>a.size+b.size<=9223372036854775807/\K (σ.put o.dst (.at (.val (.string (a++b)))))
 |_,_=>xE C o σ K
def Yi(o:Oper)(c a b:Operand)(σ:St)(K:St->Prop):Prop:=
 match σ.ev c with
 |.at (.val (.bool t))=>branch t (K (σ.put o.dst (σ.ev a))) (K (σ.put o.dst (σ.ev b)))
 |_=>False
structure cE(h:PH)(s:Sl)(sz:Nat)(xs:List dj):Prop where
 len:s.len=xs.length
 row:xs=[]\/∃b o,s.a=some ⟨b,o,none⟩/\∀i e,xs[i]? =some e->bZ h b (o+i*sz) e
 cap:s.len<=s.cap
structure PH.le(h h':PH):Prop where
 le:∀b o v,h b o=some v->h' b o=some v
def vI(σ:St)(K:St->Prop):ed->Prop
 |[]=>K σ
 |k::ks=>
  match nth σ.own k with
  |some (some (.lst _ b c))=>
   ∀(s:Sl)(a:PH),PH.le σ.h a->cE a s b c->
    vI {(σ.sub k (λ |.lst _=>.val s.val|_=>.junk)).setOwn k none with h:=a} K ks
  |_=>False
def LZ:dz->ed
 |[]=>[]
 |.lst k::r=>match(LZ r).contains k with|true=>LZ r|false=>k::LZ r
 |_::r=>LZ r
def SV.keys:SV->ed
 |.at x=>LZ [x]
 |.agg a=>LZ a
 |.tup _=>[]
def zeroCells(P:Program)(T:TypeId):Option dj:=
 match P.info? T with
 |some i=>match i.zero with
  |some v=>some v.cells.toList
  |none=>none
 |none=>none
def UX(C:Ctx)(o:Oper)(T:TypeId)(σ:St)(K:St->Prop):Prop:=
 match o.dst,zeroCells C.P T with
 |some d,some z=>K (((σ.kill d).setOwn d (some (.cells T (z.map .val)))).put (some d) (.at (.ptr d 0)))
 |_,_=>False
def awQ(o:Oper)(T:TypeId)(x:Operand)(σ:St)(K:St->Prop):Prop:=
 match o.dst,(σ.ev x).cells? with
 |some d,some a=>K (((σ.kill d).setOwn d (some (.cells T (a.map (At.sub d (λ_=>.junk)))))).put (some d) (.at (.ptr d 0)))
 |_,_=>False
def partAt(P:Program)(T:TypeId)(i:Nat):Option (Nat×Nat):=
 match P.underlying T with
 |some (.struct a)=>match nth a.toList i with|some g=>some (g.offset,P.cellsOf g.type)|none=>none
 |some (.array _ E)=>some (i*P.cellsOf E,P.cellsOf E)
 |_=>none
def Pa(P:Program)(T:TypeId):Bool:=
 match P.underlying T with
 |some (.struct a)=>a.toList.all λf=>(P.info? f.type).isSome
 |some (.array _ E)=>(P.info? E).isSome
 |_=>false
def D2(P:Program)(T:TypeId)(σ:St):fe->dz->Option dz
 |[],b=>some b
 |(i,x)::r,b=>
  match partAt P T i,(σ.ev x).cells? with
  |some (off,a),some new=>
   match Nat.beq new.length a,Nat.ble (off+new.length) b.length with
   |true,true=>D2 P T σ r (splice b off new)
   |_,_=>none
  |_,_=>none
def UT(C:Ctx)(o:Oper)(T:TypeId)(parts:fe)(σ:St)(K:St->Prop):Prop:=
 match zeroCells C.P T with
 |some z=>match D2 C.P T σ parts (z.map .val),Pa C.P T with
  |some a,true=>K (σ.put o.dst (.agg a))
  |_,_=>False
 |none=>False
def D1(σ:St)(sz:Nat):fe->List dj->Option (List dj)
 |[],a=>some a
 |(i,x)::r,a=>
  match(σ.ev x).cells? with
  |some b=>match wP b with
   |some l=>match Nat.beq l.length sz,Nat.ble (i+1) a.length,tG b with
    |true,true,true=>D1 σ sz r (a.set i l)
    |_,_,_=>none
   |none=>none
  |none=>none
def Gs(σ:St):ej->ed
 |[]=>[]
 |x::r=>(σ.ev x).keys++(Gs σ r).filter (λk=> !(σ.ev x).keys.contains k)
def elemOf(P:Program)(T:TypeId):Option (TypeId×dj):=
 match P.underlying T with
 |some (.slice E)=>match zeroCells P E with
  |some z=>match Nat.beq z.length (P.cellsOf E),Nat.beq (P.cellsOf E) 0,z.all Value.oneCell' with
   |true,false,true=>some (E,z)
   |_,_,_=>none
  |none=>none
 |_=>none
def FP(C:Ctx)(o:Oper)(T:TypeId)(n:Nat)(parts:fe)(σ:St)(K:St->Prop):Prop:=
 vI σ (λτ=>
  match o.dst,elemOf C.P T with
  |some d,some (E,z)=>
   match D1 τ (C.P.cellsOf E) parts (replicate n z),Nat.ble (n*C.P.cellsOf E) 16777216 with
   |some a,true=>K (((τ.kill d).setOwn d (some (.lst E (C.P.cellsOf E) a))).put (some d) (.at (.lst d)))
   |_,_=>False
  |_,_=>False) (Gs σ (parts.map (·.2)))
structure cZ(sz:Nat)(ys:List dj):Prop where
 len:∀e∈ys,e.length=sz
 one:∀e∈ys,∀u∈e,u.oneCell'=true
structure dC(m:MH)(s:Sl)(E:TypeId)(sz:Nat)(xs:List dj):Prop where
 rows:cZ sz xs
 ex:(s=⟨none,0,0⟩/\xs=[])\/∃b cap cur,s=⟨some ⟨b,0,none⟩,xs.length,cap⟩/\m b=some (.cells cur E (0,0))/\xs.length<=cap/\cap<=maxLen/\cur.size=cap*sz/\cur.toList.take (xs.length*sz)=xs.flatten
structure qE(m m':MH)(h:PH)(s:Sl)(E:TypeId)(sz:Nat)(xs:List dj):Prop where
 row:dC m' s E sz xs
 other:∀b,(∀i,s.a≠some ⟨b,i,none⟩)->m' b=m b
 fresh:∀b i,s.a=some ⟨b,i,none⟩->lZ m h b
def DX(σ:St)(K:St->Prop):ed->Prop
 |[]=>K σ
 |k::ks=>
  match nth σ.own k with
  |some (some (.lst E b c))=>
   ∀(s:Sl)(a:MH),qE σ.m a σ.h s E b c->
    DX {(σ.sub k (λ |.lst _=>.val s.val|_=>.junk)).setOwn k none with m:=a} K ks
  |_=>False
def Gy(C:Ctx)(o:Oper)(T:TypeId)(l c:Operand)(σ:St)(K:St->Prop):Prop:=
 match o.dst,elemOf C.P T,σ.ev l,σ.ev c with
 |some d,some (E,z),.at (.val (.int _ n)),.at (.val (.int _ m))=>
  0<=n/\n<=m/\m*(C.P.bytesOf E:Int)<=281474976710656/\m<=281474976710656/\
   K (((σ.kill d).setOwn d (some (.lst E (C.P.cellsOf E) (replicate n.toNat z)))).put (some d) (.at (.lst d)))
 |_,_,_,_=>False
def i7(s:ByteArray):List dj:=s.data.toList.map λb=>[.int .u8 b.toNat]
inductive nC(m:MH)(h:PH)(s:Sl)(sz:Nat)(ys:List dj):Prop
 |imm (hr:cE h s sz ys):nC m h s sz ys
 |lent (b o:Nat) (cs:Array Value) (E:TypeId) (fz:Nat×Nat) (hs:s.a=some ⟨b,o,none⟩) (hn:s.len=ys.length) (hm:m b=some (.cells cs E fz)) (hl:(cs.toList.drop o).take ys.flatten.length=ys.flatten):nC m h s sz ys
def coZ(a:Bool)(σ:St)(s:Sl)(sz:Nat)(b:List dj):Prop:=match a with|true=>nC σ.m σ.h s sz b|false=>cE σ.h s sz b
def M5(P:Program)(b:Bool)(σ:St)(sz:Nat)(tx:TypeId)(y:SV)(K:List dj->Prop):Prop:=
 match y,P.underlying tx with
 |.at (.lst k),some (.slice _)=>match nth σ.own k with
  |some (some (.lst _ s d))=>match Nat.beq s sz with|true=>K d|false=>False
  |_=>False
 |.at (.val (.slice a n c)),some (.slice _)=>∃d:List dj,cZ sz d/\coZ b σ ⟨a,n,c⟩ sz d/\K d
 |.at (.val (.string s)),some .string=>match Nat.beq sz 1 with|true=>K (i7 s)|false=>False
 |_,_=>False
structure dY(m m':MH)(s s':Sl)(E:TypeId)(sz:Nat)(zs:List dj):Prop where
 row:dC m' s' E sz zs
 other:∀b o,m b=some o->(∀i,s.a≠some ⟨b,i,none⟩)->m' b=some o
 fresh:∀b i,s'.a=some ⟨b,i,none⟩->m b=none\/∃i,s.a=some ⟨b,i,none⟩
 old:s'.a=s.a\/∀b o,m b=some o->m' b=some o
def sameKey(y:SV)(k:Nat):Bool:=match y with|.at (.lst a)=>Nat.beq a k|_=>false
def alJ(y:SV)(d:Option TypeDesc):Option Int:=
 match d with
 |some (.int _)=>match y with
  |.at (.val (.int _ n))=>some n
  |_=>none
 |_=>none
def RX(C:Ctx):Bool:=match C.heapT with|[]=>false|_=>true
def inM(C:Ctx)(T:TypeId):Bool:=Rg C.heapT (1000+T)
def cBX(C:Ctx)(T:TypeId):Bool:=Rg C.heapT (3000+T)
def QK(C:Ctx)(o:Oper)(T tx:TypeId)(x y:Operand)(σ:St)(K:St->Prop):Prop:=
 match o.dst,elemOf C.P T with
 |some d,some (E,z)=>
  match inM C T,cBX C T,σ.ev x with
  |false,true,.at (.val (.slice a n c))=>
   c=n/\∃e:List dj,cZ (C.P.cellsOf E) e/\cE σ.h ⟨a,n,c⟩ (C.P.cellsOf E) e/\
    M5 C.P (RX C) σ (C.P.cellsOf E) tx (σ.ev y) λb=>
     (a=none\/0<b.length)/\(e.length+b.length)*C.P.bytesOf E<=140737488355328/\e.length+b.length<=140737488355328/\
     K (((σ.kill d).setOwn d (some (.lst E (C.P.cellsOf E) (e++b)))).put (some d) (.at (.lst d)))
  |true,_,.at (.val (.slice a n c))=>
   ∃e:List dj,dC σ.m ⟨a,n,c⟩ E (C.P.cellsOf E) e/\
    M5 C.P (RX C) σ (C.P.cellsOf E) tx (σ.ev y) λb=>
     (e.length+b.length)*C.P.bytesOf E<=140737488355328/\e.length+b.length<=140737488355328/\
     ∀(f:Sl)(g:MH),dY σ.m g ⟨a,n,c⟩ f E (C.P.cellsOf E) (e++b)->K ({σ with m:=g}.put (some d) (.at (.val f.val)))
  |_,_,_=>match σ.ev x with
  |.at (.val (.slice none 0 0))=>
   match alJ (σ.ev y) (C.P.underlying tx)with
   |some n=>0<n/\n*(C.P.bytesOf E:Int)<=140737488355328/\n<=140737488355328/\
    K (((σ.kill d).setOwn d (some (.lst E (C.P.cellsOf E) (replicate n.toNat z)))).put (some d) (.at (.lst d)))
   |none=>M5 C.P (RX C) σ (C.P.cellsOf E) tx (σ.ev y) λb=>
    b.length*C.P.bytesOf E<=140737488355328/\b.length<=140737488355328/\
    K (((σ.kill d).setOwn d (some (.lst E (C.P.cellsOf E) b))).put (some d) (.at (.lst d)))
  |.at (.lst k)=>
   match nth σ.own k,sameKey (σ.ev y) k with
   |some (some (.lst E' i e)),false=>
    match Nat.beq E' E,Nat.beq i (C.P.cellsOf E)with
    |true,true=>
     M5 C.P (RX C) σ i tx (σ.ev y) λb=>
      (e.length+b.length)*C.P.bytesOf E<=140737488355328/\e.length+b.length<=140737488355328/\
      K (((σ.kill k).setOwn k (some (.lst E i (e++b)))).put (some d) (.at (.lst k)))
    |_,_=>False
   |_,_=>False
  |.at (.val (.slice a n c))=>
   ∃e:List dj,dC σ.m ⟨a,n,c⟩ E (C.P.cellsOf E) e/\
    M5 C.P (RX C) σ (C.P.cellsOf E) tx (σ.ev y) λb=>
     (e.length+b.length)*C.P.bytesOf E<=140737488355328/\e.length+b.length<=140737488355328/\
     ∀(f:Sl)(g:MH),dY σ.m g ⟨a,n,c⟩ f E (C.P.cellsOf E) (e++b)->K ({σ with m:=g}.put (some d) (.at (.val f.val)))
  |_=>False
 |_,_=>False
def Wb(P:Program)(ts:fb):Bool:=
 match ts with
 |t::_=>match P.underlying t with
  |some (.slice _)=>true
  |_=>false
 |[]=>false
def beQ(C:Ctx)(o:Oper)(x:Operand)(ts:fb)(σ:St)(K:St->Prop):Prop:=
 match σ.ev x with
 |.at (.lst k)=>match nth σ.own k,Wb C.P ts with
  |some (some (.lst _ _ a)),true=>K (σ.put o.dst (.at (.val (.int .i64 a.length))))
  |_,_=>False
 |_=>xE C o σ K
structure zC(sz:Nat)(x:Sl)(i:Nat)(s:Sl):Prop where
 a_:s.a=if x.cap=i then x.a else x.a.map λy=>y.add (i*sz)
 len:s.len=x.len-i
 cap:s.cap=x.cap-i
def Ug(C:Ctx)(o:Oper)(T:TypeId)(x:Operand)(e f g:Option Operand)(σ:St)(K:St->Prop):Prop:=
 match σ.ev x,e,f,g with
 |.at (.lst k),none,some n,none=>
  match nth σ.own k,σ.ev n,C.P.underlying T with
  |some (some (.lst E h d)),.at (.val (.int _ i)),some (.slice E')=>
   match jE C.P E' with
   |true=>0<=i/\i<=(d.length:Int)/\K (((σ.kill k).setOwn k (some (.lst E h (d.take i.toNat)))).put o.dst (.at (.lst k)))
   |false=>False
  |_,_,_=>False
 |.at (.val (.slice a _ c)),none,some n,none=>
  match σ.ev n,C.P.underlying T with
  |.at (.val (.int _ i)),some (.slice E')=>
   match jE C.P E' with
   |true=>0<=i/\i<=(c:Int)/\K (σ.put o.dst (.at (.val (.slice a i.toNat c))))
   |false=>False
  |_,_=>False
 |.at (.val (.slice a _ c)),none,some n,some k=>
  match σ.ev n,σ.ev k,C.P.underlying T with
  |.at (.val (.int _ i)),.at (.val (.int _ j)),some (.slice E')=>
   match jE C.P E' with
   |true=>0<=i/\i<=j/\j<=(c:Int)/\K (σ.put o.dst (.at (.val (.slice a i.toNat j.toNat))))
   |false=>False
  |_,_,_=>False
 |.at (.val (.slice a len c)),some n,none,none=>
  match σ.ev n,C.P.underlying T with
  |.at (.val (.int _ i)),some (.slice E')=>
   match jE C.P E' with
   |true=>0<=i/\i<=(len:Int)/\len<=c/\∀s:Sl,zC (C.P.cellsOf E') ⟨a,len,c⟩ i.toNat s->K (σ.put o.dst (.at (.val (.slice s.a s.len s.cap))))
   |false=>False
  |_,_=>False
 |.at (.val (.pointer (some ⟨b,off,none⟩))),none,some n,none=>
  match σ.ev n,C.P.underlying T with
  |.at (.val (.int _ i)),some (.array len E')=>
   match jE C.P E' with
   |true=>0<=i/\i<=(len:Int)/\K (σ.put o.dst (.at (.val (.slice (some ⟨b,off,none⟩) i.toNat len))))
   |false=>False
  |_,_=>False
 |_,_,_,_=>False
def UI(C:Ctx)(o:Oper)(T:TypeId)(x:Operand)(f:Nat)(σ:St)(K:St->Prop):Prop:=
 match K1 C.P T f,(σ.ev x).cells?,(match σ.ev x with|.agg _=>true|.at (.val (.agg _))=>true|_=>false)with
 |some (g,T'),some a,true=>
  match Nat.ble (g+C.P.cellsOf T') a.length&&jE C.P T' with
  |true=>K (σ.put o.dst (mk C.P T' ((a.drop g).take (C.P.cellsOf T'))))
  |false=>False
 |_,_,_=>False
def UB(P:Program)(E:TypeId)(cs:dz)(n:Int)(K:SV->Prop):Nat->Nat->Prop
 |0,_=>True
 |f+1,i=>branch (n==(i:Int)) (K (mk P E ((cs.drop (i*P.cellsOf E)).take (P.cellsOf E)))) (UB P E cs n K f (i+1))
def Uz(C:Ctx)(o:Oper)(T:TypeId)(x i:Operand)(σ:St)(K:St->Prop):Prop:=
 match σ.ev i,C.P.underlying T with
 |.at (.val (.int _ n)),some (.array len E)=>
  match(σ.ev x).cells? with
  |some a=>match Nat.beq a.length (len*C.P.cellsOf E),jE C.P E,(match σ.ev x with|.agg _=>true|.at (.val (.agg _))=>true|_=>false)with
   |true,true,true=>0<=n/\n<(len:Int)/\UB C.P E a n (λv=>K (σ.put o.dst v)) len 0
   |_,_,_=>False
  |none=>False
 |.at (.val (.int _ n)),some .string=>
  match σ.ev x with
  |.at (.val (.string s))=>0<=n/\∃b,s.data.toList[n.toNat]? =some b/\K (σ.put o.dst (.at (.val (.int .u8 b.toNat))))
  |_=>False
 |_,_=>False
def My(C:Ctx)(o:Oper)(x:Operand)(i:Nat)(σ:St)(K:St->Prop):Prop:=
 match σ.ev x with
 |.tup a=>match nth a i with
  |some (.inl y)=>K (σ.put o.dst (.at y))
  |some (.inr b)=>K (σ.put o.dst (.agg b))
  |none=>False
 |_=>xE C o σ K
def bH(a:dw):List dj:=a.map λb=>[.int .u8 b.toNat]
def MD(C:Ctx)(o:Oper)(src a:TypeId)(x:Operand)(σ:St)(K:St->Prop):Prop:=
 match σ.ev x with
 |.at (.lst k)=>
  match nth σ.own k,C.P.underlying src,C.P.underlying a with
  |some (some (.lst _ _ c)),some (.slice E),some .string=>
   match C.P.underlying E with
   |some (.int .u8)=>∃b:dw,c=bH b/\K (σ.put o.dst (.at (.val (.string ⟨b.toArray⟩))))
   |_=>False
  |_,_,_=>False
 |_=>xE C o σ K
def pC(σ:St):ej->ed
 |[]=>[]
 |x::r=>match σ.ev x with
  |.at (.ptr k _)=>match(pC σ r).contains k with|true=>pC σ r|false=>k::pC σ r
  |_=>pC σ r
def GA(σ:St)(K:St->Prop):ed->Prop
 |[]=>K σ
 |k::ks=>
  match nth σ.own k with
  |some (some (.cellsP _ T c))=>
   match wP c with
   |some l=>
    ∀(b:Nat)(a:MH),lZ σ.m σ.h b->iD σ.m a b (.cells l.toArray T (0,0))->
     GA {(σ.sub k (λ |.ptr _ o=>.val (.pointer (some ⟨b,o,none⟩))|_=>.junk)).setOwn k none with m:=a} K ks
   |none=>False
  |_=>False
def rQ(P:Program)(σ:St)(mv:ed):Nat->ej->fb->Option eb
 |_,[],_=>some []
 |i,x::r,b=>
  match rQ P σ mv (i+1) r b.tail with
  |none=>none
  |some a=>
   match mv.contains i with
   |true=>match σ.ev x with
    |.at (.lst k)=>match nth σ.own k with
     |some (some (.lst E c d))=>some (.lst E c d::a)
     |_=>none
    |.at (.val (.slice none 0 0))=>match elemOf P (b.headD 0)with
     |some (E,_)=>some (.lst E (P.cellsOf E) []::a)
     |none=>none
    |_=>none
   |false=>match(σ.ev x).val? with
    |some u=>some (.val u::a)
    |none=>none
def jQ(σ:St)(mv:ed):Nat->ej->ed
 |_,[]=>[]
 |i,x::r=>match mv.contains i,σ.ev x with
  |true,.at (.lst k)=>k::jQ σ mv (i+1) r
  |_,_=>jQ σ mv (i+1) r
def FA(mv:ed):Nat->ej->ej
 |_,[]=>[]
 |i,x::r=>match mv.contains i with
  |true=>FA mv (i+1) r
  |false=>x::FA mv (i+1) r
def B6(σ:St):ed->St
 |[]=>σ
 |k::ks=>B6 (σ.kill k) ks
def Eb:eb->Option (List (Sum At dz))
 |[]=>some []
 |.val v::r=>match Eb r with|some l=>some (.inl (.val v)::l)|none=>none
 |_::_=>none
def cfQ(o:Oper)(σ:St)(a:ed)(K:St->Prop)(r:CV)(m:MH)(h:PH):Prop:=
 match r with
 |.val v=>K ({σ with m:=m,h:=h}.put o.dst (.at (.val v)))
 |.lst E b c=>match o.dst with
  |some d=>K ((({σ with m:=m,h:=h}.kill (a.headD d)).setOwn (a.headD d) (some (.lst E b c))).put (some d) (.at (.lst (a.headD d))))
  |none=>False
 |.tup e=>match Eb e with
  |some l=>K ({σ with m:=m,h:=h}.put o.dst (.tup l))
  |none=>False
def LO:ed->Bool
 |[]=>true
 |x::r=>match r.contains x with|true=>false|false=>LO r
def H9(C:Ctx)(f:Nat):ed:=match assoc C.moves f with|some l=>l|none=>[]
def afQ(C:Ctx)(o:Oper)(f:FuncId)(args:ej)(ts:fb)(σ:St)(K:St->Prop):Prop:=
 match assoc C.specs f with
 |none=>False
 |some S=>
  vI σ (λτ=>GA τ (λυ=>
   match rQ C.P υ (H9 C f) 0 args ts,LO (jQ υ (H9 C f) 0 args)with
   |some a,true=>S a υ.m υ.h (cfQ o (B6 υ (jQ υ (H9 C f) 0 args)) (jQ υ (H9 C f) 0 args) K)
   |_,_=>False) (pC τ args))
   (Gs σ (FA (H9 C f) 0 args))
structure StructEq(P:Program)(T:TypeId)(x y:Value)(r:Bool):Prop where
 guard:P.eqGuardType P.depth T=false
 eq:∀w,(Op.equalIn 10000 T x y).run P w= .ok r w
def Ed(C:Ctx)(o:Oper)(neg:Bool)(T:TypeId)(x y:Operand)(σ:St)(K:St->Prop):Prop:=
 match(σ.ev x).val?,(σ.ev y).val? with
 |some (.agg a),some (.agg b)=>∃r,StructEq C.P T (.agg a) (.agg b) r/\K (σ.put o.dst (.at (.val (.bool (match neg with|true=> !r|false=>r)))))
 |_,_=>False
structure qM(m:MH)(b:Nat)(kvs:dt):Prop where
 ex:∃(es:Array MapEntry)(clock:Nat),m b=some (.map es clock)/\es.toList.map (λe=>(e.key,e.val))=kvs
structure KeyLaw(P:Program)(kt:TypeId)(Ok:Value->Prop):Prop where
 under:∃d,P.underlying kt=some d
 check:∀v w b,Ok v->(Instr.checkKey b 10000 kt v).run P w= .ok () w
 eq:∀x y w,Ok x->Ok y->∃r,(Op.equal kt x y).run P w= .ok r w/\(r=true↔x=y)
 now:∀d x y r,P.underlying kt=some d->Ok x->Ok y->Instr.sameNow d x y=some r->(r=true↔x=y)
structure qD(m m':MH)(b:Nat):Prop where
 other:∀b',b'≠b->m' b'=m b'
def LX(o:Oper)(r:Option Operand)(σ:St)(K:St->Prop):Prop:=
 match r with
 |none=>∀(b:Nat)(a:MH),lZ σ.m σ.h b->iD σ.m a b (.map #[] 0)->K ({σ with m:=a}.put o.dst (.at (.val (.map (some b)))))
 |some _=>False
def T4(P:Program)(T:TypeId):Option Value:=
 match P.info? T with
 |some i=>match i.zero with
  |some (.int k n)=>some (.int k n)
  |some (.bool b)=>some (.bool b)
  |some (.slice none 0 0)=>some (.slice none 0 0)
  |_=>none
 |none=>none
def only:dj->Value
 |[u]=>u
 |_=>undef
def PB(C:Ctx)(o:Oper)(T:TypeId)(x k:Operand)(ok:Bool)(σ:St)(K:St->Prop):Prop:=
 match C.P.underlying T,σ.ev x,(σ.ev k).val? with
 |some (.map f c),.at (.val (.map (some b))),some d=>
  match T4 C.P c with
  |some z=>
   ∃(a:List (Value×(C.dec c).X))(Ok:Value->Prop),qM σ.m b (a.map λp=>(p.1,only ((C.dec c).enc p.2)))/\KeyLaw C.P f Ok/\Ok d/\(∀e∈a,Ok e.1)/\
    ((∀e∈a,e.1≠d)->K (σ.put o.dst (match ok with|true=>.tup [.inl (.val z),.inl (.val (.bool false))]|false=>.at (.val z))))/\
    ∀y,(d,y)∈a->match(C.dec c).enc y with
     |[u]=>K (σ.put o.dst (match ok with|true=>.tup [.inl (.val u),.inl (.val (.bool true))]|false=>.at (.val u)))
     |_=>False
  |none=>False
 |_,_,_=>False
def Dw(C:Ctx)(T:TypeId)(x k v:Operand)(σ:St)(K:St->Prop):Prop:=
 match C.P.underlying T,σ.ev x,(σ.ev k).val?,(σ.ev v).val? with
 |some (.map f _),.at (.val (.map (some b))),some c,some u=>
  ∃(a:dt)(Ok:Value->Prop),qM σ.m b a/\KeyLaw C.P f Ok/\Ok c/\(∀e∈a,Ok e.1)/\(∀e∈a,e.1≠c)/\
   ∀d:MH,qD σ.m d b->qM d b (a++[(c,u)])->K {σ with m:=d}
 |_,_,_,_=>False
structure w8(m:MH)(b:Nat)(kvs:dt):Prop where
 ex:∃(es:Array MapEntry)(clock:Nat),m b=some (.map es clock)/\es.toList.map (λe=>(e.key,e.val))=kvs/\(∀e∈es.toList,e.born<clock)/\(es.toList.map (·.born)).Nodup
def KN(C:Ctx)(T:TypeId)(x k v:Operand)(σ:St)(K:St->Prop):Prop:=
 match C.P.underlying T,σ.ev x,(σ.ev k).val?,(σ.ev v).val? with
 |some (.map h _),.at (.val (.map (some b))),some c,some u=>
  ∃(a:dt)(Ok:Value->Prop),w8 σ.m b a/\KeyLaw C.P h Ok/\Ok c/\Instr.sameBits 10000 c c=true/\(∀e∈a,Ok e.1)/\
   ((∀e∈a,e.1≠c)->∀d:MH,qD σ.m d b->w8 d b (a++[(c,u)])->K {σ with m:=d})/\
   ∀(f:dt)(i:Value)(g:dt),a=f++(c,i)::g->∀d:MH,qD σ.m d b->w8 d b (f++(c,u)::g)->K {σ with m:=d}
 |_,_,_,_=>False
structure mT(m:MH)(b r:Nat)(kvs left:dt):Prop where
 ex:∃(es:Array MapEntry)(clock since:Nat)(seen:Array Nat)(c0:Nat),m b=some (.map es clock)/\es.toList.map (λe=>(e.key,e.val))=kvs/\(∀e∈es.toList,e.born<clock)/\(es.toList.map (·.born)).Nodup/\
  m r=some (.mapIter (some b) since seen c0)/\(∀e∈es.toList,e.born<since)/\since<=c0/\since<=clock/\(es.toList.filter λe=> !seen.contains e.born).map (λe=>(e.key,e.val))=left
structure FV(m:MH)(b r:Nat)(kvs left:dt)(x:Value×Value):Prop where
 it:mT m b r kvs left
 ex:∃(es:Array MapEntry)(clock since:Nat)(seen:Array Nat)(e:MapEntry),m b=some (.map es clock)/\(es.toList.map (·.born)).Nodup/\m r=some (.mapIter (some b) since (seen.push e.born) clock)/\e∈es.toList/\x=(e.key,e.val)
def Uk(C:Ctx)(o:Oper)(T:TypeId)(x:Operand)(σ:St)(K:St->Prop):Prop:=
 match C.P.underlying T,σ.ev x with
 |some .string,.at (.val (.string s))=>
  ∀(b:Nat)(c:MH),lZ σ.m σ.h b->iD σ.m c b (.stringIter s 0)->K ({σ with m:=c}.put o.dst (.at (.val (.pointer (some ⟨b,0,none⟩)))))
 |some (.map _ _),.at (.val (.map (some b)))=>
  ∃a:dt,w8 σ.m b a/\∀(r:Nat)(c:MH),lZ σ.m σ.h r->qD σ.m c r->mT c b r a a->K ({σ with m:=c}.put o.dst (.at (.val (.pointer (some ⟨r,0,none⟩)))))
 |_,_=>False
def Yq(o:Oper)(x:Operand)(c:Bool)(σ:St)(K:St->Prop):Prop:=
 match σ.ev x,c with
 |.at (.val (.pointer (some ⟨b,0,none⟩))),true=>
  ∃(s:ByteArray)(a:Nat),Gc σ.m b (.stringIter s a)/\
   (s.size<=a->K (σ.put o.dst (.tup [.inl (.val (.bool false))])))/\
   (a<s.size->∀d:MH,iD σ.m d b (.stringIter s (a+(Utf8.decode s a).2))->
    K ({σ with m:=d}.put o.dst (.tup [.inl (.val (.bool true)),.inl (.val (.int .i64 a)),.inl (.val (.int .i32 (Utf8.decode s a).1))])))
 |.at (.val (.pointer (some ⟨r,0,none⟩))),false=>
  ∃(b:Nat)(e left:dt),mT σ.m b r e left/\
   (left=[]->K (σ.put o.dst (.tup [.inl (.val (.bool false))])))/\
   ∀(f:dt)(x:Value×Value)(g:dt),left=f++x::g->∀d:MH,qD σ.m d r->FV d b r e (f++g) x->
    K ({σ with m:=d}.put o.dst (.tup [.inl (.val (.bool true)),.inl (.val x.1),.inl (.val x.2)]))
 |_,_=>False
def UN(C:Ctx)(o:Oper)(x:Operand)(σ:St)(K:St->Prop):Prop:=
 match σ.ev x with
 |.at (.val (.pointer (some ⟨r,0,none⟩)))=>∃(b:Nat)(c left:dt)(x:Value×Value),FV σ.m b r c left x/\
  match Rg C.heapT 410000 with
  |true=>∃s:Sl,x.2=Sl.val s/\K (σ.put o.dst (.tup [.inl (.val x.1),.inl (.val (.slice s.a s.len s.cap))]))
  |false=>K (σ.put o.dst (.tup [.inl (.val x.1),.inl (.val x.2)]))
 |_=>False
def aGX(σ:St)(x v:Operand):ed:=match σ.ev x with|.at (.ptr _ _)=>[]|_=>(σ.ev v).keys
def GK(C:Ctx)(o:Oper)(T:TypeId):ed:=match o.dst with|some d=>(match Rg C.heapT T||Rg C.heapT (200000+d)with|true=>[d]|false=>[])|none=>[]
def cAJ(C:Ctx)(o:Oper)(T:TypeId):Bool:=match GK C o T with|[]=>false|_=>true
def apJ(C:Ctx)(o:Oper)(τ:St):ed:=match o.dst with|some d=>(match Rg C.heapT (100000+d)with|true=>(τ.ev (.tmp d)).keys|false=>[])|none=>[]
structure bMZ(w:World)(m:MH)(h:PH):Prop where
 hsat:∀b o v,h b o=some v->w.cell? ⟨b,o,none⟩=some v
 msat:∀b o,m b=some o->w.heap[b]? =some o
 disj:∀b o,m b=some o->∀i,h b i=none
structure akQ(w:World)(m:MH)(h:PH)(m':MH)(h':PH)(w':World):Prop where
 tape:w'.tape=w.tape
 os:w'.os=w.os
 output:w'.output=w.output
 drawn:w.drawn<=w'.drawn
 size:w.heap.size<=w'.heap.size
 frame:∀b,b<w.heap.size->m b=none->w'.heap[b]? =w.heap[b]?
 heapy:bMZ w' m' h'
 hle:PH.le h h'
 hold:∀b,b<w.heap.size->m b=none->h' b=h b
 mfr:∀b o,m' b=some o->w.heap.size<=b\/m b≠none
def valOf(P:Program)(T:TypeId)(cs:dj):Value:=
 match Cu P T with
 |true=>.agg cs.toArray
 |false=>match cs with|[x]=>x|_=>undef
structure FAt(P:Program)(f:FuncId)(T:TypeId)(cvs:eb)(m:MH)(h:PH)(R:dj->MH->PH->Prop):Prop where
 fn:∃fn,P.funcs[f]? =some fn/\fn.body.isSome=true/\(fn.name== "runtime.NumGoroutine")=false
 go:∀(vs:dj)(w:World),cvs=vs.map .val->bMZ w m h->Calls P f vs.toArray w λe w'=>∃l m' h',e= .returned (valOf P T l)/\R l m' h'/\akQ w m h m' h' w'
def OE:eb->dj->eb
 |[],l=>l.map .val
 |c::r,l=>c::OE r l
def cCZ:fb->Option TypeId
 |[]=>none
 |x::r=>match Nat.ble 510000 x with|true=>some (Nat.sub x 510000)|false=>cCZ r
def cIX(C:Ctx):Operand->Option TypeId
 |.tmp _=>cCZ C.heapT
 |_=>none
def bCJ(C:Ctx)(o:Oper)(T:TypeId)(f:FuncId)(a:dj)(args:ej)(σ:St)(K:St->Prop):Prop:=
 match rQ C.P σ [] 0 args []with
 |some b=>∃R:(C.dec T).X->MH->PH->Prop,FAt C.P f T (OE b a) σ.m σ.h (λl m h=>∃x,l=(C.dec T).enc x/\R x m h)/\
  ∀(x:(C.dec T).X)(m:MH)(h:PH),R x m h->K ({σ with m:=m,h:=h}.put o.dst (mk C.P T (((C.dec T).enc x).map .val)))
 |none=>False
def Rf(C:Ctx)(o:Oper)(σ:St)(K:St->Prop):Prop:=
 match o.op with
 |.move x=>K (σ.put o.dst (σ.ev x))
 |.assign x=>K (σ.put o.dst (σ.ev x))
 |.pick c a b=>Yi o c a b σ K
 |.alloc T=>UX C o T σ (λτ=>GA τ K (GK C o T))
 |.box T x=>match cAJ C o T with
  |true=>vI σ (λτ=>awQ o T x τ (λυ=>GA υ K (GK C o T))) (σ.ev x).keys
  |false=>awQ o T x σ K
 |.build T h=>UT C o T h.toList σ K
 |.buildSlice T n h=>FP C o T n h.toList σ (λτ=>DX τ (λυ=>vI υ K (apJ C o υ)) (GK C o T))
 |.load T x=>Ys C o T x σ K
 |.store T x v=>match o.dst with|none=>vI σ (λτ=>Ud C T x v τ K) (aGX σ x v)|some _=>False
 |.makeFunc _ _ e=>GA σ (λτ=>xE C o τ K) (pC σ e.toList)
 |.nilCheck x=>I8 o x σ K
 |.binOp .quo _ x y _=>auZ o .quo x y σ K
 |.binOp .rem _ x y _=>auZ o .rem x y σ K
 |.binOp .eql T x y _=>match Cu C.P T with|true=>Ed C o false T x y σ K|false=>xE C o σ K
 |.binOp .neq T x y _=>match Cu C.P T with|true=>Ed C o true T x y σ K|false=>xE C o σ K
 |.binOp .add _ x y _=>Qy C o x y σ K
 |.binOp .. =>xE C o σ K
 |.unOp .. =>xE C o σ K
 |.convert s d x=>MD C o s d x σ K
 |.makeSlice T l c=>Gy C o T l c σ (λτ=>DX τ K (GK C o (2000+T)))
 |.slice T x m p q=>Ug C o T x m p q σ K
 |.fieldAddr T x f=>GN C o T x f σ K
 |.field T x f=>UI C o T x f σ K
 |.indexAddr T x i=>GF C o T x i σ K
 |.index T x i=>Uz C o T x i σ K
 |.extract x i=>My C o x i σ K
 |.makeMap _ r=>LX o r σ K
 |.lookup T x k ok=>PB C o T x k ok σ K
 |.mapUpdate T x k v=>match o.dst with|none=>(match Rg C.heapT 400000 with|true=>KN C T x k v σ K|false=>Dw C T x k v σ K)|some _=>False
 |.range T x=>Uk C o T x σ K
 |.next x b=>Yq o x b σ K
 |.entry x=>UN C o x σ K
 |.call c=>match c.callee with
  |.builtin .len=>match c.args.toList with
   |[x]=>beQ C o x c.argTypes.toList σ K
   |_=>False
  |.builtin .append=>match c.args.toList,c.argTypes.toList with
   |[x,y],[T,t]=>QK C o T t x y σ (λτ=>vI τ K (apJ C o τ))
   |_,_=>False
  |.builtin .cap=>xE C o σ K
  |.builtin .min=>xE C o σ K
  |.builtin .max=>xE C o σ K
  |.builtin _=>False
  |.value g=>match σ.ev g with
   |.at (.val (.func (.func f) j e))=>match cIX C g with
    |some T=>match j.toList with
     |[]=>bCJ C o T f e.toList c.args.toList σ K
     |_=>False
    |none=>match j.toList,e.toList with
     |[],[]=>afQ C o f c.args.toList c.argTypes.toList σ K
     |_,_=>False
   |_=>False
  |.invoke .. =>False
 |_=>False
def setTmp(σ:St)(c:Operand)(b:Bool):St:=
 match c with
 |.tmp t=>{σ with sl:=σ.sl.set t (.at (.val (.bool b)))}
 |_=>σ
def PL(f:Oper->St->(St->Prop)->Prop)(ops:Array Oper)(o:Oper)(σ:St)(K:St->Prop):Prop:=
 match o.guard with
 |none=>f o σ K
 |some (j,a)=>
  match nth ops.toList j with
  |none=>False
  |some g=>match g.dst with
   |none=>False
   |some d=>match σ.ev (.tmp d)with
    |.at (.val (.bool t))=>
     branch t
      (match a with|true=>f o (setTmp σ (.tmp d) true) K|false=>K ((setTmp σ (.tmp d) true).put o.dst (.at (.val undef))))
      (match a with|false=>f o (setTmp σ (.tmp d) false) K|true=>K ((setTmp σ (.tmp d) false).put o.dst (.at (.val undef))))
    |.at (.val (.tuple _))=>K (σ.put o.dst (.at (.val undef)))
    |_=>False
def UC(C:Ctx)(ops:Array Oper)(o:Oper)(σ:St)(K:St->Prop):Prop:=PL (Rf C) ops o σ K
structure QO(P:Program)(S:Spec):Prop where
 go:∀(l:Nat)(vs:dj)(m:MH)(h:PH)(w:World)(K:dk),S (.val (.func (.yield l) #[] #[])::vs.map .val) m h K->bMZ w m h->
  ∃fn tmps assign body,(Instr.yield l vs.toArray).run P w= .ok (.round l fn tmps assign body) w/\
   RoundIn Fence.wide 0 P l fn tmps assign body w λe w'=>∃u m' h',e= .returned u/\K (.val u) m' h'/\akQ w m h m' h' w'
def T6(C:Ctx)(o:Oper)(v:Value)(args:ej)(σ:St)(K:St->Prop):Prop:=
 match C.yield with
 |none=>False
 |some S=>
  match rQ C.P σ [] 0 args []with
  |some a=>QO C.P S/\S (.val v::a) σ.m σ.h (λr m h=>match r with
   |.val u=>K ({σ with m:=m,h:=h}.put o.dst (.at (.val u)))
   |_=>False)
  |none=>False
def RS(C:Ctx)(o:Oper)(σ:St)(K:St->Prop):Prop:=
 match o.op with
 |.call c=>match c.callee with
  |.value g=>match σ.ev g with
   |.at (.val (.func (.yield l) a b))=>match a.toList,b.toList with
    |[],[]=>T6 C o (.func (.yield l) #[] #[]) c.args.toList σ K
    |_,_=>False
   |_=>Rf C o σ K
  |_=>Rf C o σ K
 |_=>Rf C o σ K
def RH(C:Ctx)(ops:Array Oper):List Oper->St->(St->Prop)->Prop
 |[],σ,K=>K σ
 |o::r,σ,K=>PL (RS C) ops o σ (λτ=>RH C ops r τ K)
def Br(P:Program)(o:Oper):Bool:=
 match o.op with
 |.load .. =>true
 |.convert src _ _=>match P.underlying src with
  |some (.slice _)=>true
  |_=>false
 |_=>false
def F8:Op->Bool
 |.move _|.assign _|.pick .. |.build .. |.load .. |.nilCheck _|.unOp .. |.fieldAddr .. |.field .. |.indexAddr .. |.index .. |.extract .. =>true
 |.binOp .. =>true
 |.convert .. =>true
 |.call {callee:=.builtin .len,.. }=>true
 |.call {callee:=.builtin .min,.. }=>true
 |.call {callee:=.builtin .max,.. }=>true
 |_=>false
def Ig(ops:Array Oper):ed->Option (Nat×Oper)
 |[]=>none
 |i::r=>match nth ops.toList i with
  |some o=>match F8 o.op with|true=>some (i,o)|false=>Ig ops r
  |none=>Ig ops r
def waits(a:Oper)(i:Nat):Bool:=a.after.toList.any λe=>Region.binds .any e&&Nat.beq e.on i
def Ag(σ:St)(a:Oper)(k:Nat):Bool:=
 (match a.dst with|some d=>Nat.beq d k|none=>false)||
 match a.op with
 |.store _ x _=>match σ.ev x with
  |.at (.ptr j _)=>Nat.beq j k
  |_=>false
 |.call c=>match c.callee with
  |.value _=>(pC σ c.args.toList).contains k
  |_=>false
 |_=>false
def AU(ops:Array Oper)(σ:St)(b:Oper):Bool:=
 match b.guard with
 |none=>false
 |some (j,a)=>match nth ops.toList j with
  |none=>false
  |some g=>match g.dst with
   |none=>false
   |some d=>match σ.ev (.tmp d)with
    |.at (.val (.bool t))=>match t,a with
     |true,false=>true
     |false,true=>true
     |_,_=>false
    |.at (.val (.tuple _))=>true
    |_=>false
def bUZ:Op->Bool
 |.move _=>true
 |_=>false
def cDQ(ops:Array Oper)(ok:Oper)(i:Nat):Bool:=
 waits ok i||ops.toList.zipIdx.any λx=>waits ok x.2&&waits x.1 i
def coQ(ops:Array Oper):Bool:=
 let l:=ops.toList
 let n:=l.length
 (List.range n).all λi=>match nth l i with
  |none=>true
  |some a=>(a.after.toList.all λe=> !Region.binds .any e||Nat.blt e.on i)&&((List.range n).all λk=>match nth l k with
   |none=>true
   |some ok=>match ok.dst with
    |none=>true
    |some d=>Nat.beq i k|| !(a.dst==some d))&&
   (((List.range n).all λk=>match nth l k with
   |none=>true
   |some ok=>match ok.dst with
    |none=>true
    |some d=> !(a.looksAt ops).contains d||waits a k)||
   (bUZ a.op&&(List.range n).all λk=>match nth l k with
   |none=>true
   |some ok=>match ok.dst with
    |none=>true
    |some d=> !(a.looksAt ops).contains d||cDQ ops ok i))
def A2:Op->Bool
 |.alloc _|.box .. |.buildSlice .. |.makeSlice .. |.makeMap .. |.lookup .. =>true
 |_=>false
def tE(o:Oper):Option ej:=
 match o.op with
 |.call c=>match c.callee with
  |.value _=>some c.args.toList
  |_=>none
 |_=>none
def IA(σ:St)(k:Nat):ej->Bool
 |[]=>true
 |x::r=>(match σ.ev x with
  |.at (.lst j)=>match nth σ.own j with|some (some _)=> !Nat.beq j k|_=>false
  |.at (.ptr j _)=>match nth σ.own j with|some (some _)=> !Nat.beq j k|_=>false
  |_=>true)&&IA σ k r
def UW(σ:St)(a:Oper)(k:Nat):Bool:=
 A2 a.op||match tE a with|some l=>IA σ k l|none=>false
def M4(P:Program)(n:Bool)(σ:St)(c f:Oper)(K:Prop):Prop:=
 match Br P f with
 |false=>K
 |true=>
  match f.op with
  |.load T x=>match jE P T with
   |false=>False
   |true=>match σ.ev x,f.dst with
    |.at (.ptr k off),_=>match nth σ.own k with
     |some (some (.cellsP _ _ a))=>match Ag σ c k,Nat.ble (off+P.cellsOf T) a.length with
      |false,true=>K
      |_,_=>False
     |_=>False
    |.at (.val (.pointer (some ⟨b,o,none⟩))),some d=>match(σ.ev (.tmp d)).cells? with
     |some a=>match wP a with
      |some l=>match Nat.beq l.length (P.cellsOf T)with
       |true=>match A2 c.op||n with
        |true=>aR σ.m σ.h b o l/\K
        |false=>bZ σ.h b o l/\K
       |false=>False
      |none=>False
     |none=>False
    |.at (.el k i p off),some d=>match nth σ.own k,(σ.ev (.tmp d)).cells? with
     |some (some (.lst _ s g)),some a=>match wP a,Nat.beq s p,UW σ c k with
      |some l,true,true=>match Nat.beq l.length (P.cellsOf T)with
       |true=>(∃e:dj,g[i]? =some e/\(e.drop off).take (P.cellsOf T)=l)/\K
       |false=>False
      |_,_,_=>False
     |_,_=>False
    |_,_=>False
  |.convert src j x=>match σ.ev x,f.dst with
   |.at (.lst k),some d=>match nth σ.own k,σ.ev (.tmp d)with
    |some (some (.lst _ _ g)),.at (.val (.string s))=>match P.underlying src,P.underlying j with
     |some (.slice E),some .string=>match P.underlying E with
      |some (.int .u8)=>match UW σ c k with
       |true=>g=i7 s/\K
       |false=>False
      |_=>False
     |_,_=>False
    |_,_=>False
   |_,_=>False
  |_=>False
def Ly(P:Program)(c:Bool)(ops:Array Oper)(a:Array Bool)(σ:St)(b:Oper):Nat->List Oper->Prop->Prop
 |_,[],K=>K
 |i,d::r,K=>
  match a.getD i false,F8 d.op,waits b i,AU ops σ d with
  |true,true,false,false=>M4 P c σ b d (Ly P c ops a σ b (i+1) r K)
  |_,_,_,_=>Ly P c ops a σ b (i+1) r K
def JC(σ:St)(c a:Oper)(τ:St)(K:Prop):Prop:=
 match a.op with
 |.load _ x=>match σ.ev x,a.dst with
  |.at (.val (.pointer (some ⟨b,o,none⟩))),some d=>match(σ.ev (.tmp d)).cells? with
   |some e=>match wP e with
    |some l=>match A2 c.op with
     |true=>K
     |false=>aR τ.m τ.h b o l/\K
    |none=>K
   |none=>K
  |_,_=>K
 |_=>K
def G9(ops:Array Oper)(a:Array Bool)(σ:St)(b:Oper)(τ:St):Nat->List Oper->Prop->Prop
 |_,[],K=>K
 |i,c::r,K=>
  match a.getD i false,F8 c.op,waits b i,AU ops σ c with
  |true,true,false,false=>JC σ b c τ (G9 ops a σ b τ (i+1) r K)
  |_,_,_,_=>G9 ops a σ b τ (i+1) r K
def agJ(C:Ctx):Bool:=Rg C.heapT 0
def Lo(C:Ctx)(ops:Array Oper)(a:Array Bool)(σ:St)(b:Oper)(τ:St)(K:Prop):Prop:=match agJ C with|true=>G9 ops a σ b τ 0 ops.toList K|false=>K
def bEZ(g:Nat->Prop):ed->Prop
 |[]=>True
 |[j]=>g j
 |j::r=>g j/\bEZ g r
def DB(C:Ctx)(ops:Array Oper):Nat->Array Bool->St->(St->Prop)->Prop
 |0,a,σ,K=>match Region.ready .any ops a with|[]=>K σ|_=>False
 |n+1,a,σ,K=>
  match Region.ready .any ops a with
  |[]=>K σ
  |rs=>match Ig ops rs with
   |some (i,o)=>UC C ops o σ (λτ=>DB C ops n (a.setIfInBounds i true) τ K)
   |none=>
    bEZ (λj=>match nth ops.toList j with
     |some o=>Ly C.P (agJ C) ops a σ o 0 ops.toList (UC C ops o σ (λτ=>Lo C ops a σ o τ (DB C ops n (a.setIfInBounds j true) τ K)))
     |none=>False) rs
def lK:Code->Option Nat
 |.region id _ _=>some id
 |.seq a b=>match lK a with|some i=>some i|none=>lK b
 |.cond _ a b=>match lK a with|some i=>some i|none=>lK b
 |.block _ a=>lK a
 |.loop a=>lK a
 |.scope a=>lK a
 |_=>none
def Dv:fd->fd->Prop->Prop
 |[],[],K=>K
 |x::xs,.at .junk::ys,K=>match x with|_=>Dv xs ys K
 |x::xs,y::ys,K=>x=y/\Dv xs ys K
 |_,_,_=>False
def yS:ez->ez->Prop->Prop
 |[],[],K=>K
 |_::xs,none::ys,K=>yS xs ys K
 |x::xs,some y::ys,K=>x=some y/\yS xs ys K
 |_,_,_=>False
def UQ(τ:St):fd->Nat->St->St
 |[],_,σ=>σ
 |y::ys,i,σ=>
  UQ τ ys (i+1) (match y with
   |.at (.lst k)=>match nth σ.sl i with
    |some (.at (.val (.slice none 0 0)))=>match nth τ.own k,nth σ.own k with
     |some (some (.lst E a _)),some none=>((σ.kill k).setOwn k (some (.lst E a []))).put (some i) (.at (.lst k))
     |_,_=>σ
    |_=>σ
   |_=>σ)
def IS(σ:St)(q j:Nat)(x:At):St:=
 match nth σ.own q with
 |some (some (.cellsP p T a))=>σ.setOwn q (some (.cellsP p T (a.set j x)))
 |_=>σ
def Ix(τ:St)(q:Nat):dz->Nat->St->St
 |[],_,σ=>σ
 |y::ys,j,σ=>
  Ix τ q ys (j+1) (match y with
   |.lst k=>match nth σ.own q with
    |some (some (.cellsP _ _ a))=>match nth a j with
     |some (.val (.slice none 0 0))=>match nth τ.own k,nth σ.own k with
      |some (some (.lst E b _)),some none=>IS ((σ.kill k).setOwn k (some (.lst E b []))) q j (.lst k)
      |_,_=>σ
     |_=>σ
    |_=>σ
   |_=>σ)
def OB(τ:St):ez->Nat->St->St
 |[],_,σ=>σ
 |y::ys,q,σ=>
  OB τ ys (q+1) (match y with
   |some (.cellsP _ _ a)=>Ix τ q a 0 σ
   |_=>σ)
def conv(σ τ:St):St:=OB τ τ.own 0 (UQ τ τ.sl 0 σ)
def yQ(σ τ:St)(K:Prop):Prop:=
 Dv (conv σ τ).sl τ.sl (yS (conv σ τ).own τ.own ((conv σ τ).m=τ.m/\(conv σ τ).h=τ.h/\K))
structure Bn(m:MH)(h:PH):Prop where
 disj:∀b o,m b=some o->∀i,h b i=none
structure CG(m:MH)(h:PH)(m2:MH)(h2:PH):Prop where
 sub:∀b o,m2 b=some o->m b=some o
 le:PH.le h h2
 new:∀b i v,h2 b i=some v->h b i=some v\/∃cs E fz,m b=some (.cells cs E fz)/\cs[i]? =some v/\m2 b=none
def Ur(σ τ:St)(K:Prop):Prop:=
 Dv (conv σ τ).sl τ.sl (yS (conv σ τ).own τ.own (CG (conv σ τ).m (conv σ τ).h τ.m τ.h/\K))
def NR(c:vQ)(R:c.A->Prop)(τ:St):Prop:=match c.frz with
 |false=>∃x,R x/\yQ τ (c.st x) True
 |true=>Bn τ.m τ.h->∃x,R x/\Ur τ (c.st x) True
def UY(c:vQ)(I:c.A->Prop)(S:c.A->Prop)(τ:St):Prop:=match c.frz with
 |false=>∃x,I x/\S x/\yQ τ (c.st x) True
 |true=>Bn τ.m τ.h->∃x,I x/\S x/\Ur τ (c.st x) True
def vK{α:Type}(d:α)(l:List (Nat×α)):Nat->Nat->List α
 |0,_=>[]
 |n+1,i=>(match assoc l i with|some x=>x|none=>d)::vK d l n (i+1)
def bO(n a:Nat)(sl:List (Nat×SV))(own:List (Nat×Own))(m:MH)(h:PH):St:=
 {sl:=vK (.at .junk) sl n 0,own:=vK none (own.map λp=>(p.1,some p.2)) a 0,m:=m,h:=h}
def avQ(C:Ctx)(b:Code):Option akJ:=match lK b with|some i=>assoc C.cuts i|none=>none
def crZ(C:Ctx)(b:Code):Option OH:=match lK b with|some i=>assoc C.loops i|none=>none
def UP(C:Ctx)(b:Code):Option vQ:=match lK b with|some i=>assoc C.cuts2 i|none=>none
def bTZ(C:Ctx)(b:Code):Option vQ:=match lK b with|some i=>assoc C.loops2 i|none=>none
def anQ(C:Ctx)(ops:Array Oper):eo->List Oper->St->(St->Prop)->Prop
 |[],l,σ,K=>RH C ops l σ K
 |(n,a)::r,l,σ,K=>∃I:a.A->Prop,RH C ops (l.take n) σ (λτ=>∃x,I x/\yQ τ (a.st x) True)/\∀x,I x->anQ C ops r (l.drop n) (a.st x) K
def OU(C:Ctx)(id:Nat):eo:=match assoc C.rcuts id with|some l=>l|none=>[]
def VC(C:Ctx):Code->St->(Lr->St->Prop)->Prop
 |.skip,σ,Q=>Q .normal σ
 |.label _,σ,Q=>Q .normal σ
 |.region id d false,σ,Q=>anQ C d (OU C id) d.toList σ (Q .normal)
 |.region _ d true,σ,Q=>match coQ d,Region.noSelect d,C.P.follows .mixedOrders with
  |true,true,true=>DB C d d.size (Array.replicate d.size false) σ (Q .normal)
  |_,_,_=>False
 |.seq a b,σ,Q=>
  match avQ C b with
  |some c=>VC C a σ (λe τ=>match e with
   |.normal=>∃x,c.inv x/\yQ τ (c.st x) True
   |e=>Q e τ)/\∀x,c.inv x->VC C b (c.st x) Q
  |none=>match UP C b with
   |some c=>∃I:c.A->Prop,VC C a σ (λe τ=>match e with
    |.normal=>NR c I τ
    |e=>Q e τ)/\∀x,I x->VC C b (c.st x) Q
   |none=>VC C a σ (λe τ=>match e with
    |.normal=>VC C b τ Q
    |e=>Q e τ)
 |.cond c x y,σ,Q=>
  match σ.ev c with
  |.at (.val (.bool t))=>branch t (VC C x (setTmp σ c true) Q) (VC C y (setTmp σ c false) Q)
  |_=>False
 |.block id c,σ,Q=>
  VC C c σ (λe τ=>match e with
   |.exit i=>match Nat.beq i id with|true=>Q .normal τ|false=>Q (.exit i) τ
   |e=>Q e τ)
 |.loop c,σ,Q=>
  match crZ C c with
  |some l=>
   (∃x,l.inv x/\yQ σ (l.st x) True)/\
   ∀x,l.inv x->VC C c (l.st x) (λe τ=>match e with
    |.normal=>∃y,l.inv y/\l.mu y<l.mu x/\yQ τ (l.st y) True
    |e=>Q e τ)
  |none=>match bTZ C c with
   |some l=>∃(I:l.A->Prop)(f:l.A->Nat),
    NR l I σ/\
    ∀x,I x->VC C c (l.st x) (λe τ=>match e with
     |.normal=>UY l I (λy=>f y<f x) τ
     |e=>Q e τ)
   |none=>False
 |.exit id,σ,Q=>Q (.exit id) σ
 |.ret,σ,Q=>Q .ret σ
 |_,_,_=>False
def anZ(C:Ctx)(σ:St):ResultVar->Option SV
 |.tmp t=>some (σ.ev (.tmp t))
 |.cell a T=>match σ.ev (.tmp a)with
  |.at (.ptr k off)=>match nth σ.own k with
   |some (some (.cellsP _ _ b))=>match Nat.ble (off+C.P.cellsOf T) b.length,jE C.P T with
    |true,true=>some (mk C.P T ((b.drop off).take (C.P.cellsOf T)))
    |_,_=>none
   |_=>none
  |_=>none
def LH(C:Ctx)(σ:St):List ResultVar->Option fd
 |[]=>some []
 |r::rs=>match anZ C σ r,LH C σ rs with
  |some x,some l=>some (x::l)
  |_,_=>none
def apX:fd->ed
 |[]=>[]
 |x::r=>x.keys++(apX r).filter (λk=> !x.keys.contains k)
def D5(P:Program)(σ:St)(mv:Bool):fd->fb->Option eb
 |[],_=>some []
 |x::r,a=>match D5 P σ mv r a.tail with
  |none=>none
  |some l=>match mv with
   |true=>match x with
    |.at (.lst k)=>match nth σ.own k with
     |some (some (.lst E b c))=>some (.lst E b c::l)
     |_=>none
    |.at (.val (.slice none 0 0))=>match elemOf P (a.headD 0)with
     |some (E,_)=>some (.lst E (P.cellsOf E) []::l)
     |none=>none
    |_=>none
   |false=>match x.val? with
    |some v=>some (.val v::l)
    |none=>none
def JI:fd->ed
 |[]=>[]
 |.at (.ptr k _)::r=>match(JI r).contains k with|true=>JI r|false=>k::JI r
 |_::r=>JI r
def FY(C:Ctx)(fn:Func)(K:dk)(σ:St):Prop:=
 match LH C σ fn.results.toList with
 |none=>False
 |some a=>
  vI σ (λτ=>GA τ (λυ=>
   match LH C υ fn.results.toList with
   |none=>False
   |some b=>match D5 C.P υ C.retMove b fn.resultTypes.toList with
    |some [r]=>K r υ.m υ.h
    |some c=>match C.retMove with|true=>False|false=>K (.tup c) υ.m υ.h
    |none=>False) (match C.retMove with|true=>[]|false=>JI a)) (match C.retMove with|true=>[]|false=>apX a)
def Iw(n:Nat):Nat->eb->fd
 |_,[]=>[]
 |i,.val v::r=>.at (.val v)::Iw n (i+1) r
 |i,.lst _ _ _::r=>.at (.lst (n+i))::Iw n (i+1) r
 |i,.tup _::r=>.at .junk::Iw n (i+1) r
def A4:eb->ez
 |[]=>[]
 |.lst E a b::r=>some (.lst E a b)::A4 r
 |_::r=>none::A4 r
def entry(n:Nat)(args:eb)(m:MH)(h:PH):St:=
 {sl:=Iw n 0 args++replicate (n-args.length) (.at .junk),own:=replicate n none++A4 args,m:=m,h:=h}
def tB(C:Ctx)(fn:Func)(c:Code)(σ:St)(K:dk):Prop:=
 VC C c σ (λe τ=>match e with
  |.normal=>FY C fn K τ
  |.ret=>FY C fn K τ
  |_=>False)
end Go.Vc
namespace Go.Vc
open Go List
theorem jI{α:Type}:∀(l:List α)(i:Nat),nth l i=l[i]?
 |[],i=>by simp[nth]
 |x::xs,0=>by simp[nth]
 |x::xs,n+1=>by simp[nth,jI xs n]
def Af(ι:du):At->Value->Prop
 |.val v,u=>u=v
 |.ptr k o,u=>∃b,ι k= .pointer (some ⟨b,0,none⟩)/\u= .pointer (some ⟨b,o,none⟩)
 |.lst k,u=>u=ι k
 |.el k i a o,u=>∃b n c,ι k= .slice (some ⟨b,0,none⟩) n c/\u= .pointer (some ⟨b,i*a+o,none⟩)
 |.junk,_=>True
def iW(ι:du):dz->dj->Prop
 |[],[]=>True
 |x::xs,v::vs=>Af ι x v/\iW ι xs vs
 |_,_=>False
def Q5(ι:du):List (Sum At dz)->dj->Prop
 |[],[]=>True
 |.inl x::xs,v::vs=>Af ι x v/\Q5 ι xs vs
 |.inr b::xs,v::vs=>(∃a:Array Value,v= .agg a/\iW ι b a.toList)/\Q5 ι xs vs
 |_,_=>False
def Den(ι:du):SV->Value->Prop
 |.at x,u=>Af ι x u
 |.agg b,u=>∃a:Array Value,u= .agg a/\iW ι b a.toList
 |.tup c,u=>∃a:Array Value,u= .tuple a/\Q5 ι c a.toList
def DenS(ι:du):fd->dj->Prop
 |[],[]=>True
 |x::xs,v::vs=>Den ι x v/\DenS ι xs vs
 |_,_=>False
theorem iW.length{ι:du}:∀{cs:dz}{vs:dj},iW ι cs vs->cs.length=vs.length
 |[],[],_=>rfl
 |_::_,_::_,h=>by simp[iW.length h.2]
 |[],_::_,h=>h.elim
 |_::_,[],h=>h.elim
theorem iW.get{ι:du}:∀{cs:dz}{vs:dj}(_:iW ι cs vs)(i:Nat)(x:At),cs[i]? =some x->∃v,vs[i]? =some v/\Af ι x v
 |[],[],_,i,x,a=>by simp at a
 |_::_,v::_,h,0,x,a=>by simp at a;subst a;exact⟨v,rfl,h.1⟩
 |_::_,_::_,h,i+1,x,a=>by simp at a⊢;exact iW.get h.2 i x a
 |[],_::_,h,_,_,_=>h.elim
 |_::_,[],h,_,_,_=>h.elim
theorem iW.take{ι:du}:∀{cs:dz}{vs:dj}(n:Nat),iW ι cs vs->iW ι (cs.take n) (vs.take n)
 |_,_,0,_=>by simp[iW]
 |[],[],n+1,h=>cg
 |_::_,_::_,n+1,h=>by simp only[take_succ_cons];exact⟨h.1,h.2.take n⟩
 |[],_::_,_+1,h=>h.elim
 |_::_,[],_+1,h=>h.elim
theorem iW.drop{ι:du}:∀{cs:dz}{vs:dj}(n:Nat),iW ι cs vs->iW ι (cs.drop n) (vs.drop n)
 |_,_,0,h=>cg
 |[],[],n+1,h=>cg
 |_::_,_::_,n+1,h=>by simp only[drop_succ_cons];exact h.2.drop n
 |[],_::_,_+1,h=>h.elim
 |_::_,[],_+1,h=>h.elim
theorem iW.append{ι:du}:∀{cs a:dz}{vs b:dj},iW ι cs vs->iW ι a b->iW ι (cs++a) (vs++b)
 |[],_,[],_,_,c=>cg
 |_::_,_,_::_,_,h,c=>⟨h.1,h.2.append c⟩
 |[],_,_::_,_,h,_=>h.elim
 |_::_,_,[],_,h,_=>h.elim
theorem iW.splice{ι:du}{cs new:dz}{vs us:dj}(off:Nat)(h:iW ι cs vs)(a:iW ι new us):
 iW ι (splice cs off new) (splice vs off us):=by
 unfold Vc.splice;rw[a.length];exact((h.take off).append a).append (h.drop _)
theorem iW.set{ι:du}:∀{cs:dz}{vs:dj}(j:Nat){x:At}{v:Value},iW ι cs vs->Af ι x v->iW ι (cs.set j x) (vs.set j v)
 |[],[],_,_,_,_,_=>cg
 |_::_,_::_,0,_,_,h,a=>⟨a,h.2⟩
 |_::_,_::_,j+1,_,_,h,a=>⟨h.1,h.2.set j a⟩
 |[],_::_,_,_,_,h,_=>h.elim
 |_::_,[],_,_,_,h,_=>h.elim
theorem iW.vals{ι:du}:∀{l:dj}{vs:dj},iW ι (l.map .val) vs↔vs=l
 |[],[]=>by simp[iW]
 |[],_::_=>by simp[iW]
 |_::_,[]=>by simp[iW]
 |a::l,v::vs=>by simp only[map_cons,iW,Af,iW.vals,List.cons.injEq]
theorem Gf:∀{cs:dz}{l:dj},wP cs=some l->cs=l.map .val
 |[],l,h=>by simp[wP]at h;grind
 |.val v::r,l,h=>by
  simp only[wP]at h;cases a:wP r with
  |none=>grind
  |some b=>simp[a]at h;subst h;simp[Gf a]
 |.ptr _ _::_,_,h=>by simp[wP]at h
 |.lst _::_,_,h=>by simp[wP]at h
 |.el _ _ _ _::_,_,h=>by simp[wP]at h
 |.junk::_,_,h=>by simp[wP]at h
theorem Den.val?{ι:du}{x:SV}{u v:Value}(h:Den ι x u)(a:x.val? =some v):u=v:=by
 cases x with
 |«at» y=>cases y<;>simp[SV.val?]at a;subst a;exact h
 |agg c=>
  simp only[SV.val?]at a;cases b:wP c with
  |none=>grind
  |some l=>
   simp[b]at a;obtain⟨e,rfl,d⟩:=h;rw[Gf b,iW.vals]at d;subst a;congr 1
   grind
 |tup f=>simp[SV.val?]at a
theorem DenS.length{ι:du}:∀{xs:fd}{vs:dj},DenS ι xs vs->xs.length=vs.length
 |[],[],_=>rfl
 |_::_,_::_,h=>by simp[DenS.length h.2]
 |[],_::_,h=>h.elim
 |_::_,[],h=>h.elim
theorem DenS.get{ι:du}:∀{xs:fd}{vs:dj}(_:DenS ι xs vs)(i:Nat)(x:SV),xs[i]? =some x->∃v,vs[i]? =some v/\Den ι x v
 |[],[],_,i,x,a=>by simp at a
 |_::_,v::_,h,0,x,a=>by simp at a;subst a;exact⟨v,rfl,h.1⟩
 |_::_,_::_,h,i+1,x,a=>by simp at a⊢;exact DenS.get h.2 i x a
 |[],_::_,h,_,_,_=>h.elim
 |_::_,[],h,_,_,_=>h.elim
theorem DenS.set{ι:du}:∀{xs:fd}{vs:dj}(j:Nat){x:SV}{v:Value},DenS ι xs vs->Den ι x v->DenS ι (xs.set j x) (vs.set j v)
 |[],[],_,_,_,_,_=>cg
 |_::_,_::_,0,_,_,h,a=>⟨a,h.2⟩
 |_::_,_::_,j+1,_,_,h,a=>⟨h.1,h.2.set j a⟩
 |[],_::_,_,_,_,h,_=>h.elim
 |_::_,[],_,_,_,h,_=>h.elim
def upd(ι:du)(k:Nat)(u:Value):Nat->Value:=λj=>if j=k then u else ι j
@[simp] theorem upd_same (ι:du) (k:Nat) (u:Value):upd ι k u k=u:=by simp[upd]
theorem pO(ι:du){k j:Nat}(u:Value)(h:j≠k):upd ι k u j=ι j:=by simp[upd,h]
def At.key:At->Option Nat
 |.ptr k _=>some k
 |.lst k=>some k
 |.el k _ _ _=>some k
 |_=>none
theorem Af.sub{ι:du}{k:Nat}{u:Value}{f:At->At}(g:∀x v,x.key=some k->Af ι x v->Af (upd ι k u) (f x) v){x:At}{v:Value}(h:Af ι x v):
 Af (upd ι k u) (x.sub k f) v:=by
 cases x with
 |val w=>exact h
 |junk=>trivial
 |ptr j o=>
  simp only[At.sub];split
  .rename_i a;exact g _ _ (by simp only[At.key,cw];exact da a) h
  .rename_i a;have d:j≠k:=λe=>by subst e;simp at a
   obtain⟨b,l,m⟩:=h;exact⟨b,by rw[pO _ _ d];exact l,m⟩
 |lst j=>
  simp only[At.sub];split
  .rename_i a;exact g _ _ (by simp only[At.key,cw];exact da a) h
  .rename_i a;have d:j≠k:=λe=>by subst e;simp at a
   simp only[Af]at h⊢
   rw[pO _ _ d];exact h
 |el j i p o=>
  simp only[At.sub];split
  .rename_i a;exact g _ _ (by simp only[At.key,cw];exact da a) h
  .rename_i a;have d:j≠k:=λe=>by subst e;simp at a
   obtain⟨b,n,c,l,m⟩:=h;exact⟨b,n,c,by rw[pO _ _ d];exact l,m⟩
theorem iW.sub{ι:du}{k:Nat}{u:Value}{f:At->At}(a:∀x v,x.key=some k->Af ι x v->Af (upd ι k u) (f x) v):∀{cs:dz}{vs:dj},iW ι cs vs->
 iW (upd ι k u) (cs.map (At.sub k f)) vs
 |[],[],_=>trivial
 |_::_,_::_,h=>⟨Af.sub a h.1,iW.sub a h.2⟩
 |[],_::_,h=>h.elim
 |_::_,[],h=>h.elim
theorem Q5.sub{ι:du}{k:Nat}{u:Value}{f:At->At}(a:∀x v,x.key=some k->Af ι x v->Af (upd ι k u) (f x) v):∀{cs:List (Sum At dz)}{vs:dj},Q5 ι cs vs->
 Q5 (upd ι k u) (cs.map λ |.inl x=>.inl (x.sub k f)|.inr cs=>.inr (cs.map (At.sub k f))) vs
 |[],[],_=>trivial
 |.inl _::_,_::_,h=>⟨Af.sub a h.1,Q5.sub a h.2⟩
 |.inr _::_,_::_,h=>⟨let⟨us,e,hd⟩:=h.1;⟨us,e,iW.sub a hd⟩,Q5.sub a h.2⟩
 |[],_::_,h=>h.elim
 |.inl _::_,[],h=>h.elim
 |.inr _::_,[],h=>h.elim
theorem Den.sub{ι:du}{k:Nat}{u:Value}{f:At->At}(a:∀x v,x.key=some k->Af ι x v->Af (upd ι k u) (f x) v){x:SV}{v:Value}(h:Den ι x v):
 Den (upd ι k u) (x.sub k f) v:=by
 cases x with
 |«at» y=>exact Af.sub a h
 |agg d=>obtain⟨b,e,c⟩:=h;exact⟨b,e,iW.sub a c⟩
 |tup g=>obtain⟨b,e,c⟩:=h;exact⟨b,e,Q5.sub a c⟩
theorem DenS.sub{ι:du}{k:Nat}{u:Value}{f:At->At}(a:∀x v,x.key=some k->Af ι x v->Af (upd ι k u) (f x) v):∀{xs:fd}{vs:dj},DenS ι xs vs->
 DenS (upd ι k u) (xs.map (SV.sub k f)) vs
 |[],[],_=>trivial
 |_::_,_::_,h=>⟨Den.sub a h.1,DenS.sub a h.2⟩
 |[],_::_,h=>h.elim
 |_::_,[],h=>h.elim
structure tI where
 w0:World
 E:Nat->Prop
 h0:PH
 dfs:List Deferred
def blk:Value->Option Nat
 |.pointer (some a)=>some a.block
 |.slice (some a) _ _=>some a.block
 |_=>none
def D9(ι:du)(w:World)(v:Value):Own->Prop
 |.cellsP p T e=>∃b c,v= .pointer (some ⟨b,0,none⟩)/\w.heap[b]? =some (.cells c T (0,0))/\iW ι e c.toList/\∀q,p=some q->b=q
 |.lst E d a=>cZ d a/\w.ownsRow 0 E d v a.length a.flatten
structure A7(B:tI)(m:MH)(h:PH)(w:World):Prop where
 tape:w.tape=B.w0.tape
 os:w.os=B.w0.os
 output:w.output=B.w0.output
 drawn:B.w0.drawn<=w.drawn
 size:B.w0.heap.size<=w.heap.size
 frame:∀b,b<B.w0.heap.size->¬B.E b->w.heap[b]? =B.w0.heap[b]?
 hsat:∀b o v,h b o=some v->w.cell? ⟨b,o,none⟩=some v
 msat:∀b o,m b=some o->w.heap[b]? =some o
 disj:∀b o,m b=some o->∀i,h b i=none
 hle:∀b o v,B.h0 b o=some v->h b o=some v
 hold:∀b,b<B.w0.heap.size->¬B.E b->h b=B.h0 b
 mfr:∀b o,m b=some o->B.w0.heap.size<=b\/B.E b
structure aL(B:tI)(ι:du)(σ:St)(a:Act)(w:World):Prop where
 slots:DenS ι σ.sl a.tmps.toList
 defers:a.defers=B.dfs
 own:∀k o,nth σ.own k=some (some o)->D9 ι w (ι k) o
 dist:∀k k' o o' b,nth σ.own k=some (some o)->nth σ.own k'=some (some o')->blk (ι k)=some b->blk (ι k')=some b->k=k'
 fresh:∀k o b,nth σ.own k=some (some o)->blk (ι k)=some b->(B.w0.heap.size<=b\/B.E b)/\σ.m b=none/\∀i,σ.h b i=none
 wrel:A7 B σ.m σ.h w
 one:∀k,(ι k).oneCell'=true
theorem Aj{α:Type}(l:List α)(k j:Nat)(x:α):nth (l.set k x) j=if j=k/\k<l.length then some x else nth l j:=by
 rw[jI,jI,getElem?_set]
 grind
theorem CR{α β:Type}(f:α->β)(l:List α)(j:Nat):nth (l.map f) j=(nth l j).map f:=by
 rw[jI,jI,getElem?_map]
theorem Act.toList_put(a:Act)(d:Nat)(v:Value):(a.put (some d) v).tmps.toList=a.tmps.toList.set d v:=by
 simp[Act.put]
theorem aL.put{B:tI}{ι:du}{σ:St}{a:Act}{w:World}(h:aL B ι σ a w)(d:Option Tmp){x:SV}{v:Value}(b:Den ι x v):
 aL B ι (σ.put d x) (a.put d v) w:=by
 cases d with
 |none=>exact h
 |some d=>
  refine⟨?_,h.defers,h.own,h.dist,h.fresh,h.wrel,h.one⟩;rw[Act.toList_put];exact h.slots.set d b
theorem aL.ev{B:tI}{ι:du}{σ:St}{a:Act}{w:World}(h:aL B ι σ a w)(x:Operand):Den ι (σ.ev x) (a.eval x):=by
 cases x with
 |const v=>rfl
 |global g=>rfl
 |func f=>rfl
 |tmp t=>
  simp only[St.ev,jI];cases b:σ.sl[t]? with
  |none=>exact trivial
  |some x=>
   obtain⟨v,c,d⟩:=h.slots.get t x b
   have:a.eval (.tmp t)=v:=by
    simp only[Act.eval,Array.getD_eq_getD_getElem?]
    grind
   grind
theorem aL.rho{B:tI}{ι:du}{σ:St}{a:Act}{w:World}(h:aL B ι σ a w){x:Operand}{v:Value}(b:(σ.ev x).val? =some v):
 a.eval x=v:=(h.ev x).val? b
theorem rC{ι:du}{w:World}{v:Value}{o:Own}{b:Nat}(h:D9 ι w v o)(a:blk v=some b):b<w.heap.size:=by
 cases o with
 |cellsP p T g=>
  obtain⟨c,i,rfl,d,_⟩:=h;simp[blk]at a;grind
 |lst E j k=>
  rcases h.2.2 with⟨rfl,_⟩|⟨c,e,f,rfl,_,d,_⟩
  .simp[blk]at a
  .simp[blk]at a;grind
theorem D9.world{ι:du}{w w':World}{v:Value}{o:Own}(h:D9 ι w v o)(f:∀b,blk v=some b->w'.heap[b]? =w.heap[b]?):D9 ι w' v o:=by
 cases o with
 |cellsP p T l=>
  obtain⟨a,g,rfl,c,i⟩:=h;exact⟨a,g,rfl,by rw[f _ rfl];exact c,i⟩
 |lst E m n=>
  refine⟨h.1,h.2.1,?_⟩;rcases h.2.2 with⟨rfl,q⟩|⟨a,d,e,rfl,j,c,k⟩
  .grind
  .exact .inr ⟨a,d,e,rfl,j,by rw[f _ rfl];exact c,k⟩
theorem D9.sub{ι:du}{w:World}{v:Value}{o:Own}{k:Nat}{u:Value}{f:At->At}(a:∀x v,x.key=some k->Af ι x v->Af (upd ι k u) (f x) v)(h:D9 ι w v o):
 D9 (upd ι k u) w v (o.sub k f):=by
 cases o with
 |cellsP p T i=>
  obtain⟨b,c,rfl,d,e,g⟩:=h;exact⟨b,c,rfl,d,iW.sub a e,g⟩
 |lst E j l=>exact h
theorem qH{σ:St}{k j:Nat}{f:At->At}{o':Own}(h:nth ((σ.sub k f).setOwn k none).own j=some (some o')):
 j≠k/\∃o,nth σ.own j=some (some o)/\o'=o.sub k f:=by
 simp only[St.setOwn,St.sub,Aj,CR]at h;by_cases a:j=k
 .subst a;by_cases b:j<σ.own.length
  .grind
  .simp[b,jI]at h
 .simp only[a,false_and,if_false]at h;refine⟨a,?_⟩;cases c:nth σ.own j with
  |none=>grind
  |some x=>
   cases x with
   |none=>grind
   |some o=>grind
theorem T8{ι:du}(h:∀k,(ι k).oneCell'=true)(k:Nat){u:Value}(a:u.oneCell'=true):∀j,(upd ι k u j).oneCell'=true:=by
 intro j;unfold upd
 grind
theorem aL.drop{B:tI}{ι:du}{σ:St}{a:Act}{w:World}(h:aL B ι σ a w)(k:Nat)(u:Value)(r:u.oneCell'=true)(f:At->At)
 (p:∀x v,x.key=some k->Af ι x v->Af (upd ι k u) (f x) v):aL B (upd ι k u) ((σ.sub k f).setOwn k none) a w:=by
 refine⟨DenS.sub p h.slots,h.defers,?_,?_,?_,h.wrel,T8 h.one k r⟩
 .intro j q d;obtain⟨c,o,e,rfl⟩:=qH d;rw[pO _ _ c];exact(h.own j o e).sub p
 .intro j s o q b d m g i;obtain⟨c,o,e,rfl⟩:=qH d;obtain⟨l,q,n,rfl⟩:=qH m;rw[pO _ _ c]at g;rw[pO _ _ l]at i;exact h.dist j s _ _ b e n g i
 .intro j o b d g;obtain⟨c,o,e,rfl⟩:=qH d;rw[pO _ _ c]at g;exact h.fresh j o b e g
theorem Ov(σ:St)(k:Nat):σ.kill k=(σ.sub k (λ_=>.junk)).setOwn k none:=rfl
theorem aL.kill{B:tI}{ι:du}{σ:St}{a:Act}{w:World}(h:aL B ι σ a w)(k:Nat)(u:Value)(b:u.oneCell'=true):aL B (upd ι k u) (σ.kill k) a w:=
 h.drop k u b _ (λ_ _ _ _=>trivial)
structure D6(S:Nat->Prop)(w w':World):Prop where
 tape:w'.tape=w.tape
 os:w'.os=w.os
 output:w'.output=w.output
 drawn:w.drawn<=w'.drawn
 size:w.heap.size<=w'.heap.size
 block:∀b,b<w.heap.size->¬S b->w'.heap[b]? =w.heap[b]?
theorem D6.refl(S:Nat->Prop)(w:World):D6 S w w:=⟨rfl,rfl,rfl,Nat.le_refl _,Nat.le_refl _,λ_ _ _=>rfl⟩
theorem A7.ext{B:tI}{m:MH}{h:PH}{w w':World}{S:Nat->Prop}(a:A7 B m h w)(c:D6 S w w')(n:∀b,S b->(B.w0.heap.size<=b\/B.E b)/\m b=none/\∀i,h b i=none):
 A7 B m h w':=by
 refine⟨c.tape.trans a.tape,c.os.trans a.os,c.output.trans a.output,dg a.drawn c.drawn,dg a.size c.size,?_,?_,?_,a.disj,a.hle,a.hold,a.mfr⟩
 .intro b f j;rw[c.block b (dh f a.size) (λg=>?_)]
  .exact a.frame b f j
  grind
 .intro b o v k;have e:=a.hsat b o v k
  have d:b<w.heap.size:=by
   unfold World.cell? at e
   grind
  have p:=c.block b d (λg=>cg);unfold World.cell? at e⊢
  grind
 .intro b o l;have e:=a.msat b o l;have d:=(Array.getElem?_eq_some_iff.1 e).1;rw[c.block b d (λg=>cg)];exact e
theorem aL.place{B:tI}{ι:du}{σ:St}{a:Act}{w w':World}(h:aL B ι σ a w)(k:Nat)(o:Own)(v:Value)
 (I:D6 (λb=>(∃o',nth σ.own k=some (some o'))/\blk (ι k)=some b) w w')
 (M:D9 (upd ι k v) w' v o)(y:v.oneCell'=true)
 (N:∀b,blk v=some b->w.heap.size<=b\/((∃o',nth σ.own k=some (some o'))/\blk (ι k)=some b)):
 aL B (upd ι k v) ((σ.kill k).setOwn k (some o)) a w':=by
 have O:∀b,((∃o',nth σ.own k=some (some o'))/\blk (ι k)=some b)->(B.w0.heap.size<=b\/B.E b)/\σ.m b=none/\∀i,σ.h b i=none:=
  λb⟨⟨o',r⟩,C⟩=>h.fresh k o' b r C
 have D:=h.wrel.ext I O
 have z:∀b,blk v=some b->(B.w0.heap.size<=b\/B.E b)/\σ.m b=none/\∀i,σ.h b i=none:=by
  intro b J;rcases N b J with F|K
  .refine⟨.inl (dg h.wrel.size F),?_,?_⟩
   .cases P:σ.m b with
    |none=>rfl
    |some Q=>have:=(Array.getElem?_eq_some_iff.1 (h.wrel.msat b Q P)).1;omega
   .intro i;cases R:σ.h b i with
    |none=>rfl
    |some u=>
     have S:=h.wrel.hsat b i u R;unfold World.cell? at S
     grind
  grind
 have c:∀j o',nth ((σ.kill k).setOwn k (some o)).own j=some (some o')->
  (j=k/\o'=o)\/(j≠k/\∃l,nth σ.own j=some (some l)/\o'=l.sub k (λ_=>.junk)):=by
  intro j o' p;simp only[Ov,St.setOwn,St.sub,Aj,CR,length_set,length_map]at p;by_cases e:j=k
  .subst e;by_cases s:j<σ.own.length
   .grind
   .simp[s,jI]at p
  .simp only[e,false_and,if_false]at p;refine .inr ⟨e,?_⟩;cases V:nth σ.own j with
   |none=>grind
   |some x=>
    cases x with
    |none=>grind
    |some l=>grind
 have other:∀j l,j≠k->nth σ.own j=some (some l)->∀b,blk (ι j)=some b->blk v≠some b/\w'.heap[b]? =w.heap[b]? :=by
  intro j l e g b d;have s:=rC (h.own j l g) d;have t:¬((∃o',nth σ.own k=some (some o'))/\blk (ι k)=some b):=λ⟨⟨o',r⟩,C⟩=>e (h.dist j k l o' b g r d C);refine⟨λJ=>?_,I.block b s t⟩
  grind
 refine⟨DenS.sub (f:=λ_=>.junk) (λ_ _ _ _=>trivial) h.slots,h.defers,?_,?_,?_,D,T8 h.one k y⟩
 .intro j o' p;rcases c j o' p with⟨rfl,rfl⟩|⟨e,l,g,rfl⟩
  .rw[upd_same];exact M
  .rw[pO _ _ e];refine D9.world ((h.own j l g).sub (f:=λ_=>.junk) (λ_ _ _ _=>trivial)) (λb d=>(other j l e g b d).2)
 .intro j L l T b p G d n;rcases c j l p with⟨rfl,rfl⟩|⟨e,A,g,rfl⟩<;>rcases c L T G with⟨rfl,rfl⟩|⟨q,U,H,rfl⟩
  .rfl
  .rw[upd_same]at d;rw[pO _ _ q]at n
   grind
  .rw[upd_same]at n;rw[pO _ _ e]at d
   grind
  .rw[pO _ _ e]at d;rw[pO _ _ q]at n;exact h.dist j L _ _ b g H d n
 .intro j l b p d;rcases c j l p with⟨rfl,rfl⟩|⟨e,A,g,rfl⟩
  .rw[upd_same]at d;exact z b d
  .rw[pO _ _ e]at d;exact h.fresh j A b g d
theorem aL.adopt{B:tI}{ι:du}{σ:St}{a:Act}{w:World}(h:aL B ι σ a w)(k:Nat)(o:Own)(v:Value)
 (A:D9 (upd ι k v) w v o)(r:v.oneCell'=true)
 (C:∀b,blk v=some b->((B.w0.heap.size<=b\/B.E b)/\σ.m b=none/\∀i,σ.h b i=none)/\∀j o',j≠k->nth σ.own j=some (some o')->blk (ι j)≠some b):
 aL B (upd ι k v) ((σ.kill k).setOwn k (some o)) a w:=by
 have c:∀j o',nth ((σ.kill k).setOwn k (some o)).own j=some (some o')->
  (j=k/\o'=o)\/(j≠k/\∃n,nth σ.own j=some (some n)/\o'=n.sub k (λ_=>.junk)):=by
  intro j o' p;simp only[Ov,St.setOwn,St.sub,Aj,CR,length_set,length_map]at p;by_cases d:j=k
  .subst d;by_cases t:j<σ.own.length
   .grind
   .simp[t,jI]at p
  .simp only[d,false_and,if_false]at p;refine .inr ⟨d,?_⟩;cases G:nth σ.own j with
   |none=>grind
   |some x=>
    cases x with
    |none=>grind
    |some n=>grind
 refine⟨DenS.sub (f:=λ_=>.junk) (λ_ _ _ _=>trivial) h.slots,h.defers,?_,?_,?_,h.wrel,T8 h.one k r⟩
 .intro j o' p;rcases c j o' p with⟨rfl,rfl⟩|⟨d,n,l,rfl⟩
  .rw[upd_same];exact A
  .rw[pO _ _ d];exact(h.own j n l).sub (f:=λ_=>.junk) (λ_ _ _ _=>trivial)
 .intro j z n D b p u e g;rcases c j n p with⟨rfl,rfl⟩|⟨d,s,l,rfl⟩<;>rcases c z D u with⟨rfl,rfl⟩|⟨q,F,y,rfl⟩
  .rfl
  .rw[upd_same]at e;rw[pO _ _ q]at g
   grind
  .rw[upd_same]at g;rw[pO _ _ d]at e
   grind
  .rw[pO _ _ d]at e;rw[pO _ _ q]at g;exact h.dist j z _ _ b l y e g
 .intro j n b p e;rcases c j n p with⟨rfl,rfl⟩|⟨d,s,l,rfl⟩
  .rw[upd_same]at e;exact(C b e).1
  .rw[pO _ _ d]at e;exact h.fresh j s b l e
theorem Jx(ι:du)(k:Nat):upd ι k (ι k)=ι:=by
 funext j;unfold upd
 grind
structure Fz(σ σ':St):Prop where
 cells:∀k p T cs,nth σ.own k=some (some (.cellsP p T cs))->∃cs',nth σ'.own k=some (some (.cellsP p T cs'))
 imm:∀b off v,σ.h b off=some v->σ'.h b off=some v
 ptr:∀x k off,σ'.ev x= .at (.ptr k off)->σ.ev x= .at (.ptr k off)
 lst:∀x k,σ'.ev x= .at (.lst k)->σ.ev x= .at (.lst k)
 m_:σ'.m=σ.m
theorem Fz.refl(σ:St):Fz σ σ:=⟨λ_ _ _ a h=>⟨a,h⟩,λ_ _ _ h=>h,λ_ _ _ h=>h,λ_ _ h=>h,rfl⟩
theorem Fz.trans{σ τ υ:St}(h:Fz σ τ)(a:Fz τ υ):Fz σ υ:=
 ⟨λk p T d e=>let⟨cs',hk'⟩:=h.cells k p T d e;a.cells k p T cs' hk',λb o v f=>a.imm b o v (h.imm b o v f),λx k o c=>h.ptr x k o (a.ptr x k o c),λx k c=>h.lst x k (a.lst x k c),a.m_.trans h.m_⟩
theorem adJ(σ:St)(k:Nat)(f:At->At)(m:MH)(h:PH)(own:ez)(x:Operand):
 St.ev {sl:=σ.sl.map (SV.sub k f),own:=own,m:=m,h:=h} x=(σ.ev x).sub k f\/(∃v,x= .const v\/(∃g,x= .global g)\/∃g,x= .func g):=by
 cases x with
 |tmp t=>
  left;simp only[St.ev,CR];cases nth σ.sl t with
  |none=>rfl
  |some y=>rfl
 |const v=>grind
 |global g=>exact .inr ⟨undef,.inr (.inl ⟨g,rfl⟩)⟩
 |func g=>exact .inr ⟨undef,.inr (.inr ⟨g,rfl⟩)⟩
theorem bRX{k:Nat}{f:At->At}(a:∀x j o,f x≠ .ptr j o){x:SV}{j o:Nat}(h:x.sub k f= .at (.ptr j o)):x= .at (.ptr j o):=by
 cases x with
 |«at» y=>
  cases y<;>simp only[SV.sub,At.sub,SV.at.injEq]at h⊢
  case val=>exact h
  case junk=>exact h
  all_goals
   split at h
   .exact absurd h (a _ _ _)
   .exact h
 |agg b=>simp[SV.sub]at h
 |tup c=>simp[SV.sub]at h
theorem amZ{k:Nat}{f:At->At}(a:∀x j,f x≠ .lst j){x:SV}{j:Nat}(h:x.sub k f= .at (.lst j)):x= .at (.lst j):=by
 cases x with
 |«at» y=>
  cases y<;>simp only[SV.sub,At.sub,SV.at.injEq]at h⊢
  case val=>exact h
  case junk=>exact h
  all_goals
   split at h
   .exact absurd h (a _ _)
   .exact h
 |agg b=>simp[SV.sub]at h
 |tup c=>simp[SV.sub]at h
theorem bfZ{σ:St}{k:Nat}{f:At->At}{m:MH}{h:PH}(n:m=σ.m)(q:∀x j o,f x≠ .ptr j o)(d:∀x j,f x≠ .lst j)(r:∀p T cs,nth σ.own k≠some (some (.cellsP p T cs)))(s:∀b off v,σ.h b off=some v->h b off=some v):
 Fz σ {(σ.sub k f).setOwn k none with m:=m,h:=h}:=by
 refine⟨?_,s,?_,?_,n⟩
 .intro j p T cs l;have i:j≠k:=λe=>r p T cs (e▸l);refine⟨cs.map (At.sub k f),?_⟩;simp only[St.setOwn,St.sub,Aj,CR,i,false_and,if_false,l];rfl
 .intro x j off c;rcases adJ σ k f m h ((σ.sub k f).setOwn k none).own x with a|⟨v,a⟩
  .have:(σ.ev x).sub k f= .at (.ptr j off):=a▸c;exact bRX q this
  .rcases a with rfl|⟨g,rfl⟩|⟨g,rfl⟩<;>exact c
 .intro x j c;rcases adJ σ k f m h ((σ.sub k f).setOwn k none).own x with a|⟨v,a⟩
  .have:(σ.ev x).sub k f= .at (.lst j):=a▸c;exact amZ d this
  .rcases a with rfl|⟨g,rfl⟩|⟨g,rfl⟩<;>exact c
end Go.Vc
namespace Go.Vc
open Go List
theorem zF{α:Type}(P:Program):∀(s:Sem α)(x:α),zG P s=some x->∀w,s.run P w= .ok x w:=by
 intro s
 induction s with
 |pure a=>intro x h w;simp[zG]at h;subst h;rfl
 |program k b=>intro x h w;simp only[zG]at h;simp only[Sem.run];grind
 |mark m k b=>intro x h w;simp only[zG]at h;simp only[Sem.run];grind
 |_=>intro x h w;simp[zG]at h
def U5(C:Ctx)(ι:du)(o:Oper)(σ:St)(K:St->Prop)(a:Act)(w:World):Prop:=
 ∃v x,(∀b,(Br C.P o=false\/b=w)->(execOp a.eval o).run C.P b= .ok (.value v) b)/\Den ι x v/\K (σ.put o.dst x)
section
variable{B:tI}{C:Ctx}{ι:du}{σ:St}{a:Act}{w:World}{o:Oper}{K:St->Prop}
theorem Nw(d:aL B ι σ a w):∀(l:ej),OD σ l=true->∀x∈l,σ.rho x=a.eval x
 |[],_,x,b=>by cases b
 |y::l,h,x,b=>by
  simp only[OD]at h;cases c:(σ.ev y).val? with
  |none=>grind
  |some v=>
   simp[c]at h;rcases mem_cons.1 b with rfl|b
   .simp only[St.rho,c];exact(d.rho c).symm
   .exact Nw d l h x b
theorem lR(d:aL B ι σ a w)(e:∀cs b,o.op≠ .select cs b)(h:xE C o σ K):U5 C ι o σ K a w:=by
 unfold xE at h;split at h
 .rename_i f;have g:execOp a.eval o=execOp σ.rho o:=execOp_congr o e λx j=>(Nw d _ f x cg).symm;split at h
  .rename_i v i;exact⟨v,.at (.val v),λc _=>by rw[g];exact zF _ _ _ i c,rfl,h⟩
  grind
 grind
theorem Addr.add_none(b o j:Nat):(⟨b,o,none⟩:Addr).add j=⟨b,o+j,none⟩:=by unfold Addr.add;grind
def mkV(P:Program)(T:TypeId)(cs:dj):Value:=match Cu P T with|true=>.agg cs.toArray|false=>cs.headD undef
theorem fZ{P:Program}{T:TypeId}(h:jE P T=true):∃i d,P.info? T=some i/\P.underlying T=some d/\P.cellsOf T=i.size/\0<i.size:=by
 unfold jE at h;split at h
 .rename_i d c;split at h
  .cases h
  .rename_i e;cases b:P.info? T with
   |none=>simp[Program.underlying,b]at c
   |some i=>
    have f:P.cellsOf T=i.size:=by simp[Program.cellsOf,b]
    grind
 .cases h
theorem RL{P:Program}{T:TypeId}{d:TypeDesc}(h:P.underlying T=some d)(w:World):(isAgg T).run P w= .ok (Cu P T) w:=by
 unfold isAgg Cu;rw[Sem.run_bind,run_underlying h w,h];cases d<;>rfl
theorem run_sizeOf{P:Program}{T:TypeId}{i:TypeInfo}(h:P.info? T=some i)(w:World):(sizeOf T).run P w= .ok i.size w:=by
 simp[sizeOf,typeInfo,program,Sem.run,h]
theorem CN{P:Program}{T:TypeId}{w:World}{b off:Nat}{cs:dj}(k:jE P T=true)(c:cs.length=P.cellsOf T)
 (l:∀j v,cs[j]? =some v->w.cell? ⟨b,off+j,none⟩=some v):(loadVar T ⟨b,off,none⟩).run P w= .ok (mkV P T cs) w:=by
 obtain⟨i,d,m,n,e,f⟩:=fZ k;rw[e]at c;unfold loadVar;rw[Sem.run_bind,RL n];simp only[Result.andThen_ok];unfold mkV;cases g:Cu P T with
 |true=>
  have p:(loadCells ⟨b,off,none⟩ cs.length).run P w= .ok cs.toArray w:=
   run_loadCells_list (P:=P) w ⟨b,off,none⟩ cs (λj v q=>by rw[Addr.add_none];grind)
  simp[run_sizeOf m, <-c,p]
 |false=>
  cases cs with
  |nil=>grind
  |cons v r=>
   have h:=l 0 v rfl;simp only[Nat.add_zero]at h;simp[load,Sem.run,h]
theorem MA{P:Program}{T:TypeId}{b:dz}{cs:dj}(h:iW ι b cs):Den ι (mk P T b) (mkV P T cs):=by
 unfold mk mkV;cases Cu P T with
 |true=>exact⟨cs.toArray,rfl,cm h⟩
 |false=>
  cases b with
  |nil=>exact trivial
  |cons x r=>
   cases cs with
   |nil=>exact h.elim
   |cons v l=>
    cases r with
    |nil=>exact h.1
    |cons y r=>exact trivial
theorem wS(c:aL B ι σ a w){k:Nat}{T:TypeId}{cs:dz}{p:Option Nat}(d:nth σ.own k=some (some (.cellsP p T cs))):
 ∃b vs,ι k= .pointer (some ⟨b,0,none⟩)/\w.heap[b]? =some (.cells vs T (0,0))/\iW ι cs vs.toList:=
 let⟨b,vs,h1,h2,h3,_⟩:=c.own k _ d;⟨b,vs,h1,h2,h3⟩
theorem aoQ(c:aL B ι σ a w){k q:Nat}{T:TypeId}{cs:dz}(d:nth σ.own k=some (some (.cellsP (some q) T cs))):ι k= .pointer (some ⟨q,0,none⟩):=by
 obtain⟨b,e,f,_,_,g⟩:=c.own k _ d
 grind
theorem cell_of_heap{w:World}{b o:Nat}{vs:Array Value}{T:TypeId}{c:Nat×Nat}(h:w.heap[b]? =some (.cells vs T c)):w.cell? ⟨b,o,none⟩=vs.toList[o]? :=by
 simp[World.cell?,h]
theorem RB{vs:dj}{off n j:Nat}{v:Value}(h:((vs.drop off).take n)[j]? =some v):vs[off+j]? =some v:=by
 grind
theorem IW(c:A7 B σ.m σ.h w){b off:Nat}{l:dj}(h:aR σ.m σ.h b off l):∀j v,l[j]? =some v->w.cell? ⟨b,off+j,none⟩=some v:=by
 intro j v d;cases h with
 |imm e=>exact c.hsat _ _ _ (e.rd j v d)
 |lent g E i f k=>
  rw[cell_of_heap (c.msat _ _ f)]
  grind
theorem lJ{xs:List dj}{sz i:Nat}{e:dj}(b:∀e∈xs,e.length=sz)(c:xs[i]? =some e)(j:Nat)(v:Value)(d:e[j]? =some v):
 xs.flatten[i*sz+j]? =some v:=by
 induction xs generalizing i with
 |nil=>simp at c
 |cons x r f=>
  have g:x.length=sz:=b x bx;cases i with
  |zero=>
   grind
  |succ i=>
   grind
theorem sE(b:aL B ι σ a w){k:Nat}{E sz:Nat}{xs:List dj}(c:nth σ.own k=some (some (.lst E sz xs))):
 cZ sz xs/\w.ownsRow 0 E sz (ι k) xs.length xs.flatten:=b.own k _ c
theorem Yr(F:aL B ι σ a w){T:TypeId}{x:Operand}(R:o.op= .load T x)(h:Ys C o T x σ K):U5 C ι o σ K a w:=by
 have f:∀(b off:Nat)(u:dj),a.eval x= .pointer (some ⟨b,off,none⟩)->jE C.P T=true->u.length=C.P.cellsOf T->(∀j v,u[j]? =some v->w.cell? ⟨b,off+j,none⟩=some v)->
  ∀l,(Br C.P o=false\/l=w)->(execOp a.eval o).run C.P l= .ok (.value (mkV C.P T u)) l:=by
  intro b off u q z S U l G;have G:l=w:=G.resolve_left (by simp[Br,R]);subst G;have:=CN z S U;unfold execOp;simp only[R,q,Instr.loadAt,Instr.sureAddr,Sem.run_bind,Sem.run_pure,Result.andThen_ok,this]
 have d:=F.ev x;unfold Ys at h;split at h
 .exact h.elim
 .rename_i z;split at h
  .rename_i k off q;rw[q]at d;split at h
   .rename_i p T' u H;split at h
    .rename_i I;obtain⟨b,V,J,W,X⟩:=wS F H;obtain⟨b',r,L⟩:=d;rw[J]at r;simp only[Value.pointer.injEq,cw,Addr.mk.injEq]at r;obtain⟨rfl, -, -⟩:=r;have A:=(X.drop off).take (C.P.cellsOf T);refine⟨_,_,f b off ((V.toList.drop off).take (C.P.cellsOf T)) L z ?_ ?_,MA A,h⟩
     .rw[<-A.length];have:=Nat.le_of_ble_eq_true I;simp;omega
     .intro j v M;rw[cell_of_heap W]
      grind
    grind
   grind
  .rename_i k i sz off q;rw[q]at d;split at h
   .rename_i E s xs H;split at h
    .rename_i N;have N:=da N;subst N;obtain⟨e,Y,y,O,h⟩:=h;split at h
     .rename_i m;obtain⟨t,D⟩:=sE F H;obtain⟨b,n,c,J,L⟩:=d;refine⟨_,_,f b _ _ L z (da m) ?_,MA (iW.vals.2 rfl),h⟩;intro j v M;rw[<-O]at M;have Q:=RB M;have Z:=lJ t.len Y _ _ Q;have:=D.cells (g:=b) (by rw[J];rfl) _ _ Z;rw[Addr.add_none]at this
      grind
     grind
    grind
   grind
  .rename_i b off q;rw[q]at d;obtain⟨y,O,h⟩:=h;split at h
   .rename_i m;exact⟨_,_,f b off _ d z (da m) (IW F.wrel O),MA (iW.vals.2 rfl),h⟩
   grind
  grind
theorem Pz(c:aL B ι σ a w){x:Operand}(b:o.op= .move x\/o.op= .assign x)(h:K (σ.put o.dst (σ.ev x))):U5 C ι o σ K a w:=by
 refine⟨a.eval x,σ.ev x,λd _=>?_,c.ev x,h⟩;rcases b with b|b<;>simp[execOp,b]
theorem A6{c:Bool}{A D:Prop}(h:branch c A D):(c=true/\A)\/(c=false/\D):=by
 cases c
 .exact .inr ⟨rfl,h⟩
 .exact .inl ⟨rfl,h⟩
theorem Yh(d:aL B ι σ a w){c x y:Operand}(f:o.op= .pick c x y)(h:Yi o c x y σ K):U5 C ι o σ K a w:=by
 have b:=d.ev c;unfold Yi at h;split at h
 .rename_i t g;rw[g]at b;have b:a.eval c= .bool t:=b;rcases A6 h with⟨rfl,h⟩|⟨rfl,h⟩
  .exact⟨a.eval x,σ.ev x,λe _=>by simp[execOp,f,b,asBool],d.ev x,h⟩
  .exact⟨a.eval y,σ.ev y,λe _=>by simp[execOp,f,b,asBool],d.ev y,h⟩
 grind
theorem KZ{P:Program}{T f g T':Nat}(h:K1 P T f=some (g,T')):∃c II,P.underlying T=some (.struct c)/\c[f]? =some II/\II.offset=g/\II.type=T'/\P.cellsOf T'≠0:=by
 unfold K1 at h;split at h
 .rename_i c d;split at h
  .rename_i II b;split at h
   .cases h
   .rename_i i;simp only[cw,Prod.mk.injEq]at h;obtain⟨rfl,rfl⟩:=h;rw[jI,dd]at b;exact⟨c,II,d,b,rfl,rfl,λe=>by rw[e]at i;simp at i⟩
  .cases h
 .cases h
theorem VH{P:Program}{T f g T':Nat}(h:K1 P T f=some (g,T'))(w:World)(b off:Nat):
 (Instr.fieldAt T (.pointer (some ⟨b,off,none⟩)) f).run P w= .ok (.pointer (some ⟨b,off+g,none⟩)) w:=by
 obtain⟨l,II,j,k,rfl,rfl,e⟩:=KZ h;cases c:P.info? II.type with
 |none=>simp[Program.cellsOf,c]at e
 |some i=>
  have d:i.size≠0:=by simpa[Program.cellsOf,c]using e
  simp[Instr.fieldAt,run_underlying j,k,Instr.sureAddr,fieldPlace,run_sizeOf c,d,Addr.add_none]
theorem NH(q:aL B ι σ a w){T f:Nat}{x:Operand}(r:o.op= .fieldAddr T x f)(h:GN C o T x f σ K):U5 C ι o σ K a w:=by
 have d:=q.ev x;unfold GN at h;split at h
 .exact h.elim
 .rename_i g T' s
  have e:∀b off,a.eval x= .pointer (some ⟨b,off,none⟩)->∀j,(Br C.P o=false\/j=w)->(execOp a.eval o).run C.P j= .ok (.value (.pointer (some ⟨b,off+g,none⟩))) j:=by
   intro b off l j _;unfold execOp;simp only[r,l,Sem.run_bind,VH s,Result.andThen_ok,Sem.run_pure]
  split at h
  .rename_i k off l;rw[l]at d;obtain⟨b,m,p⟩:=d;exact⟨_,.at (.ptr k (off+g)),e b off p,⟨b,m,rfl⟩,h⟩
  .rename_i k i t off l;rw[l]at d;obtain⟨b,n,c,m,p⟩:=d;exact⟨_,.at (.el k i t (off+g)),e b _ p,⟨b,n,c,m,cg⟩,h⟩
  .rename_i b off l;rw[l]at d;exact⟨_,.at (.val _),e b off d,rfl,h⟩
  grind
theorem Pn(p:aL B ι σ a w){x:Operand}(q:o.op= .nilCheck x)(h:I8 o x σ K):U5 C ι o σ K a w:=by
 have d:=p.ev x
 have e:∀j,a.eval x= .pointer (some j)->∀f,(Br C.P o=false\/f=w)->(execOp a.eval o).run C.P f= .ok (.value (.pointer (some j))) f:=by
  intro j g f _;unfold execOp;simp[q,g]
 unfold I8 at h;split at h
 .rename_i k off g;rw[g]at d;obtain⟨b,l,m⟩:=d;exact⟨_,.at (.ptr k off),e _ m,⟨b,l,rfl⟩,h⟩
 .rename_i k i r off g;rw[g]at d;obtain⟨b,n,c,l,m⟩:=d;exact⟨_,.at (.el k i r off),e _ m,⟨b,n,c,l,rfl⟩,h⟩
 .rename_i j g;rw[g]at d;exact⟨_,.at (.val _),e _ d,rfl,h⟩
 grind
end
end Go.Vc
namespace Go.Vc
open Go List
section
variable{B:tI}{C:Ctx}{ι:du}{σ:St}{a:Act}{w:World}{o:Oper}{K:St->Prop}
theorem Cb(f:∀k,(ι k).oneCell'=true){x:SV}{v:Value}{cs:dz}(h:Den ι x v)(d:x.cells? =some cs):iW ι cs v.cells.toList:=by
 have one:∀u:Value,u.oneCell'=true->u.cells= #[u]:=λu g=>by cases u<;>first|rfl|(simp[Value.oneCell']at g)
 cases x with
 |«at» y=>
  cases y with
  |val u=>
   have h:v=u:=h;subst h;cases v<;>simp only[SV.cells?,cw,reduceCtorEq]at d<;>subst d<;>first|exact⟨rfl,trivial⟩|skip
   exact iW.vals.2 rfl
  |junk=>simp[SV.cells?]at d
  |ptr k off=>
   simp only[SV.cells?,cw]at d;subst d;obtain⟨b,e,rfl⟩:=h;exact⟨⟨b,e,rfl⟩,trivial⟩
  |lst k=>
   simp only[SV.cells?,cw]at d;subst d;have h:v=ι k:=h;rw[one v cg];exact⟨h,trivial⟩
  |el k i m off=>
   simp only[SV.cells?,cw]at d;subst d;obtain⟨b,n,c,e,rfl⟩:=h;exact⟨⟨b,n,c,e,rfl⟩,trivial⟩
 |agg l=>
  simp only[SV.cells?,cw]at d;subst d;obtain⟨p,rfl,j⟩:=h;exact j
 |tup q=>simp[SV.cells?]at d
theorem run_indexAt_slice{P:Program}{T E:TypeId}(f:P.underlying T=some (.slice E))(g:jE P E=true)(w:World)(b off len c:Nat)(k:IntKind)(n:Int)(h:0<=n)(j:n<(len:Int)):
 (Instr.indexAt T (.slice (some ⟨b,off,none⟩) len c) (.int k n)).run P w= .ok (.pointer (some ⟨b,off+n.toNat*P.cellsOf E,none⟩)) w:=by
 obtain⟨i,d,l,p,m,e⟩:=fZ g;rw[m];simp[Instr.indexAt,asIntOf,run_underlying f,h,j,run_sizeOf l,Addr.add_none]
theorem run_indexAt_array{P:Program}{T E len:Nat}(e:P.underlying T=some (.array len E))(f:jE P E=true)(w:World)(b off:Nat)(k:IntKind)(n:Int)(g:0<=n)(h:n<(len:Int)):
 (Instr.indexAt T (.pointer (some ⟨b,off,none⟩)) (.int k n)).run P w= .ok (.pointer (some ⟨b,off+n.toNat*P.cellsOf E,none⟩)) w:=by
 obtain⟨i,d,j,m,l,c⟩:=fZ f;rw[l];simp[Instr.indexAt,asIntOf,run_underlying e,Instr.sureAddr,g,h,run_sizeOf j,Addr.add_none]
theorem NG(s:aL B ι σ a w){T:Nat}{x i:Operand}(z:o.op= .indexAddr T x i)(h:GF C o T x i σ K):U5 C ι o σ K a w:=by
 have d:=s.ev x;have e:=s.ev i;unfold GF at h;split at h
 .rename_i t n D;rw[D]at e;have e:a.eval i= .int t n:=e;split at h
  .rename_i E u;split at h
   .rename_i v
    have f:∀b off len j,a.eval x= .slice (some ⟨b,off,none⟩) len j->0<=n->n<(len:Int)->∀c,(Br C.P o=false\/c=w)->(execOp a.eval o).run C.P c= .ok (.value (.pointer (some ⟨b,off+n.toNat*C.P.cellsOf E,none⟩))) c:=by
     intro b off len j l m p c _;unfold execOp;simp only[z,l,e,Sem.run_bind,run_indexAt_slice u v c b off len j t n m p,Result.andThen_ok,Sem.run_pure]
    split at h
    .rename_i k l;rw[l]at d;have d:a.eval x=ι k:=d;split at h
     .rename_i E' F L G;split at h
      .rename_i q;have q:=da q;obtain⟨m,p,h⟩:=h;obtain⟨y,r⟩:=sE s G;rcases r.2 with⟨A,M⟩|⟨g,j,H,A,_⟩
       .omega
       .refine⟨_,.at (.el k n.toNat F 0),f g 0 _ j cg m p,⟨g,_,j,A,?_⟩,h⟩
        grind
      grind
     grind
    .rename_i N len j l;rw[l]at d;obtain⟨b,off,rfl,m,p,h⟩:=h;exact⟨_,.at (.val _),f b off len j d m p,rfl,h⟩
    grind
   grind
  .rename_i len E u;split at h
   .rename_i v
    have f:∀b off,a.eval x= .pointer (some ⟨b,off,none⟩)->0<=n->n<(len:Int)->∀c,(Br C.P o=false\/c=w)->(execOp a.eval o).run C.P c= .ok (.value (.pointer (some ⟨b,off+n.toNat*C.P.cellsOf E,none⟩))) c:=by
     intro b off l m p c _;unfold execOp;simp only[z,l,e,Sem.run_bind,run_indexAt_array u v c b off t n m p,Result.andThen_ok,Sem.run_pure]
    split at h
    .rename_i k off l;rw[l]at d;obtain⟨b,I,J⟩:=d;obtain⟨m,p,h⟩:=h;exact⟨_,.at (.ptr k (off+n.toNat*C.P.cellsOf E)),f b off J m p,⟨b,I,rfl⟩,h⟩
    .rename_i b off l;rw[l]at d;obtain⟨m,p,h⟩:=h;exact⟨_,.at (.val _),f b off d m p,rfl,h⟩
    grind
   grind
  grind
 grind
theorem a1X(i:aL B ι σ a w){op:BinOp}{tx q:Nat}{x y:Operand}(j:o.op= .binOp op tx x y q)(h:auZ o op x y σ K):U5 C ι o σ K a w:=by
 have b:=i.ev x;have c:=i.ev y;unfold auZ at h;split at h
 .rename_i k n l m d e;rw[d]at b;rw[e]at c;have b:a.eval x= .int k n:=b;have c:a.eval y= .int l m:=c;split at h
  .rename_i f;have f:k=l:=of_decide_eq_true f;subst f;obtain⟨p,h⟩:=h;split at h
   .exact⟨_,.at (.val _),λg _=>by unfold execOp;simp[j,b,c,eqGuard,binOp,Op.intDiv,p],rfl,h⟩
   .exact⟨_,.at (.val _),λg _=>by unfold execOp;simp[j,b,c,eqGuard,binOp,Op.intDiv,p],rfl,h⟩
   grind
  grind
 grind
theorem UR(e:aL B ι σ a w){tx j:Nat}{x y:Operand}(k:o.op= .binOp .add tx x y j)(h:Qy C o x y σ K):U5 C ι o σ K a w:=by
 have c:=e.ev x;have d:=e.ev y;unfold Qy at h;split at h
 .rename_i s t f g;rw[f]at c;rw[g]at d;have c:a.eval x= .string s:=c;have d:a.eval y= .string t:=d;obtain⟨m,h⟩:=h
  have i:¬((s.size+t.size:Nat):Int)>IntKind.i64.max:=by
   have:IntKind.i64.max=9223372036854775807:=bz
   omega
  exact⟨_,.at (.val _),λl _=>by unfold execOp;simp only[k,c,d,eqGuard,binOp,Op.stringOp,if_neg i];simp,rfl,h⟩
 .exact lR e (λn b=>cg) h
theorem Gj(f:aL B ι σ a w){neg:Bool}{tx k:Nat}{x y:Operand}(g:o.op= .binOp (match neg with|true=>.neq|false=>.eql) tx x y k)(h:Ed C o neg tx x y σ K):U5 C ι o σ K a w:=by
 unfold Ed at h;split at h
 .rename_i l m d e;have i:a.eval x= .agg l:=(f.ev x).val? d;have j:a.eval y= .agg m:=(f.ev y).val? e;obtain⟨r,c,h⟩:=h;refine⟨_,.at (.val _),λb _=>?_,rfl,h⟩;cases neg
  .unfold execOp;simp[g,i,j,run_eqGuard_agg _ _ _ _ _ _ _ c.guard,run_eql_struct,c.eq b]
  .unfold execOp;simp[g,i,j,run_eqGuard_agg _ _ _ _ _ _ _ c.guard,run_neq_struct,c.eq b]
 grind
theorem aqQ(off:Nat):∀(l:dj)(s:Nat)(cs:Array Value),off+s+l.length<=cs.size->
 ((l.zipIdx s).foldl (λcs x=>cs.setIfInBounds (off+x.2) x.1) cs).toList=splice cs.toList (off+s) l
 |[],s,cs,_=>by simp[splice]
 |v::l,s,cs,h=>by
  simp only[de]at h;simp only[zipIdx_cons,foldl_cons];have:=aqQ off l (s+1) (cs.setIfInBounds (off+s) v) cg;rw[this];simp only[Array.toList_setIfInBounds,splice,de];exact list_seg_step cs.toList (off+s) v l aC
theorem R5{place:Nat->Option (Nat×Nat)}{cells:Array Value}{i off size:Nat}{v:Value}{rest:List (Nat×Value)}(c:place i=some (off,size))(e:v.cells.size=size)(d:off+v.cells.size<=cells.size):
 Instr.fill place cells ((i,v)::rest)=Instr.fill place (splice cells.toList off v.cells.toList).toArray rest:=by
 have b:=aqQ off v.cells.toList 0 cells aC;simp only[Nat.add_zero]at b;simp only[Instr.fill,c];rw[if_neg cg];congr 1;apply Array.toList_inj.1;rw[<-b];rw[<-Array.foldl_toList];simp
theorem DG{α:Type}(cs new:List α)(off:Nat)(h:off+new.length<=cs.length):(splice cs off new).length=cs.length:=by
 unfold splice;grind
theorem Bj(j:aL B ι σ a w)(place:Nat->Option (Nat×Nat)){P:Program}{T:TypeId}(b:∀i r,partAt P T i=some r->place i=some r):
 ∀(parts:fe)(cs:dz)(cells:Array Value)(out:dz),iW ι cs cells.toList->D2 P T σ parts cs=some out->
  ∃r,Instr.fill place cells (parts.map λp=>(p.1,a.eval p.2))=some r/\iW ι out r.toList
 |[],cs,cells,out,g,h=>by
  simp[D2]at h;subst h;exact⟨cells,rfl,g⟩
 |(i,x)::parts,cs,cells,out,g,h=>by
  simp only[D2]at h;split at h
  .rename_i off c new q d;split at h
   .rename_i n e;have n:=da n;have e:=Nat.le_of_ble_eq_true e;have f:=Cb j.one (j.ev x) d;have k:(a.eval x).cells.size=c:=by have:=f.length;grind
    have l:=g.length;simp at l;have:=Bj j place b parts (splice cs off new) (splice cells.toList off (a.eval x).cells.toList).toArray out (cm (g.splice off f)) h;obtain⟨r,s,m⟩:=this;refine⟨r,?_,m⟩;simp only[map_cons];rw[R5 (b i _ q) k aC];exact s
   .cases h
  .cases h
theorem Ce{P:Program}{T:TypeId}{z:dj}(h:zeroCells P T=some z):∃i v,P.info? T=some i/\i.zero=some v/\z=v.cells.toList:=by
 unfold zeroCells at h
 grind
theorem Nh{P:Program}:∀(b:List Field),(b.all λf=>(P.info? f.type).isSome)=true->
 ∃c,b.mapM (λf=>(P.info? f.type).map λi=>(f.offset,i.size))=some c/\c.length=b.length/\∀(i:Nat)(g:Field),b[i]? =some g->c[i]? =some (g.offset,P.cellsOf g.type)
 |[],_=>⟨[],bx,rfl,λi g h=>by simp at h⟩
 |f::b,h=>by
  simp only[all_cons,cz]at h;obtain⟨c,d,e,k⟩:=Nh b h.2;cases l:P.info? f.type with
  |none=>grind
  |some i=>
   refine⟨(f.offset,i.size)::c,?_,cg,?_⟩
   .simp[mapM_cons,l,d]
   .intro j g m;cases j with
    |zero=>simp at m;subst m;simp[Program.cellsOf,l]
    |succ j=>grind
theorem XB(x:aL B ι σ a w){T:Nat}{ps:Array (Nat×Operand)}(G:o.op= .build T ps)(h:UT C o T ps.toList σ K):U5 C ι o σ K a w:=by
 unfold UT at h;split at h
 .rename_i z H;split at h
  .rename_i m e s;obtain⟨L,v,f,y,rfl⟩:=Ce H
   have key:∃r,C.P.built T ((ps.map λp=>(p.1,a.eval p.2)).toList)=some r/\iW ι m r.toList:=by
    unfold Pa at s;have j:iW ι (v.cells.toList.map .val) v.cells.toList:=iW.vals.2 rfl;split at s
    .rename_i I k;obtain⟨A,t,D,F⟩:=Nh I.toList s
     have b:∀i r,partAt C.P T i=some r->A.toArray[i]? =some r:=by
      intro i r c;unfold partAt at c;simp only[k]at c;split at c
      .rename_i g J;rw[jI]at J
       grind
      grind
     obtain⟨r,c,d⟩:=Bj x (λi=>A.toArray[i]?) b ps.toList _ v.cells m j e;refine⟨r,?_,d⟩;unfold Program.built;simp only[f,k,y,t];simpa using c
    .rename_i n E k;cases l:C.P.info? E with
     |none=>grind
     |some q=>
      have b:∀i r,partAt C.P T i=some r->(λi=>some (i*q.size,q.size)) i=some r:=by
       intro i r c;unfold partAt at c;simp only[k,Program.cellsOf,l]at c
       grind
      obtain⟨r,c,d⟩:=Bj x (λi=>some (i*q.size,q.size)) b ps.toList _ v.cells m j e;refine⟨r,?_,d⟩;unfold Program.built;simp only[f,k,y,l];simpa using c
    grind
   obtain⟨r,c,d⟩:=key;refine⟨.agg r,.agg m,λu _=>?_,⟨r,rfl,d⟩,h⟩;unfold execOp;simp only[G,Sem.run_bind,run_build u T _ r c,Result.andThen_ok,Sem.run_pure]
  grind
 grind
theorem aLQ(m:aL B ι σ a w){x:Operand}{c:Call}(s:o.op= .call c)(u:c.callee= .builtin .len)(I:c.args.toList=[x])
 (h:beQ C o x c.argTypes.toList σ K):U5 C ι o σ K a w:=by
 unfold beQ at h;split at h
 .rename_i k y;split at h
  .rename_i E J z i f
   have n:∃t E,c.argTypes[0]? =some t/\C.P.underlying t=some (.slice E):=by
    unfold Wb at f;split at f
    .rename_i t r l;split at f
     .rename_i E A;exact⟨t,E,by rw[<-dd,l];rfl,A⟩
     grind
    grind
   obtain⟨t,E',l,v⟩:=n;have d:=m.ev x;rw[y]at d;have d:a.eval x=ι k:=d;obtain⟨p,j⟩:=sE m i;have e:c.args= #[x]:=cg
   refine⟨.int .i64 z.length,.at (.val _),λD _=>?_,rfl,h⟩;rcases j.2 with⟨q,F⟩|⟨g,G,H,q,_⟩
   .unfold execOp;simp[s,resolve,u,invoke,builtin,Builtin.len_,e,l,d,q,run_underlying v,goInt,F]
   .unfold execOp;simp[s,resolve,u,invoke,builtin,Builtin.len_,e,l,d,q,run_underlying v,goInt]
  grind
 .exact lR m (λL b=>cg) h
theorem VG{P:Program}{T:TypeId}{cs:Array Value}{off:Nat}(g:jE P T=true)(b:off+P.cellsOf T<=cs.size)(w:World):
 (part T cs off).run P w= .ok (mkV P T ((cs.toList.drop off).take (P.cellsOf T))) w:=by
 obtain⟨i,d,h,j,k,f⟩:=fZ g;unfold part mkV;rw[Sem.run_bind,RL j];simp only[Result.andThen_ok];rw[k]at b⊢
 cases Cu P T with
 |true=>
  simp only[if_true,Sem.run_bind,run_sizeOf h,Result.andThen_ok,Sem.run_pure];congr 2
  grind
 |false=>
  have c:off<cs.size:=by omega
  have e:(cs.toList.drop off)=cs[off]::cs.toList.drop (off+1):=by
   rw[<-getElem_cons_drop aC];simp
  simp only[Bool.false_eq_true,if_false,Array.getElem?_eq_getElem c];rw[e];cases l:i.size with
  |zero=>omega
  |succ n=>simp
theorem Wo(n:aL B ι σ a w){T f:Nat}{x:Operand}(y:o.op= .field T x f)(h:UI C o T x f σ K):U5 C ι o σ K a w:=by
 unfold UI at h;split at h
 .rename_i g T' t z p i;split at h
  .rename_i d;simp only[cz]at d;have u:=Nat.le_of_ble_eq_true d.1;have j:=Cb n.one (n.ev x) p;obtain⟨E,II,A,q,rfl,rfl,F⟩:=KZ z
   have D:∃c,a.eval x= .agg c:=by
    have b:=n.ev x;split at i
    .rename_i l r;rw[r]at b;obtain⟨c,e,_⟩:=b;grind
    .rename_i c r;rw[r]at b;exact⟨c,b⟩
    grind
   obtain⟨c,k⟩:=D;rw[k]at j;have j:iW ι t c.toList:=j;have v:t.length=c.size:=by have:=j.length;omega
   have m:II.offset+C.P.cellsOf II.type<=c.size:=by omega
   refine⟨_,_,λs _=>?_,MA ((j.drop II.offset).take (C.P.cellsOf II.type)),h⟩;unfold execOp;simp only[y,Instr.field,Sem.run_bind,run_underlying A,Result.andThen_ok,q,k,asAgg,Sem.run_pure,VG d.2 m s]
  grind
 grind
theorem Lb:∀{xs:List (Sum At dz)}{vs:dj}(_:Q5 ι xs vs)(i:Nat)(y:Sum At dz),xs[i]? =some y->∃v,vs[i]? =some v/\Den ι (match y with|.inl x=>.at x|.inr cs=>.agg cs) v
 |[],[],_,i,y,b=>by simp at b
 |.inl x::_,v::_,h,0,y,b=>by simp at b;subst b;exact⟨v,rfl,h.1⟩
 |.inr cs::_,v::_,h,0,y,b=>by simp at b;subst b;exact⟨v,rfl,h.1⟩
 |.inl _::_,_::_,h,i+1,y,b=>by simp at b⊢;exact Lb h.2 i y b
 |.inr _::_,_::_,h,i+1,y,b=>by simp at b⊢;exact Lb h.2 i y b
 |[],_::_,h,_,_,_=>h.elim
 |.inl _::_,[],h,_,_,_=>h.elim
 |.inr _::_,[],h,_,_,_=>h.elim
theorem Rl(l:aL B ι σ a w){x:Operand}{i:Nat}(p:o.op= .extract x i)(h:My C o x i σ K):U5 C ι o σ K a w:=by
 have g:=l.ev x;unfold My at h;split at h
 .rename_i s q;rw[q]at g;obtain⟨r,k,m⟩:=g
  have d:∀v,r.toList[i]? =some v->∀c,(Br C.P o=false\/c=w)->(execOp a.eval o).run C.P c= .ok (.value v) c:=by
   intro v f c _;unfold execOp;rw[dd]at f;simp[p,k,Instr.extract,f]
  split at h
  .rename_i y j;rw[jI]at j;obtain⟨v,f,e⟩:=Lb m i _ j;exact⟨v,.at y,d v f,e,h⟩
  .rename_i n j;rw[jI]at j;obtain⟨v,f,e⟩:=Lb m i _ j;exact⟨v,.agg n,d v f,e,h⟩
  grind
 .exact lR l (λn b=>cg) h
theorem Nn{P:Program}{E:TypeId}{cs:dz}{n:Int}{Q:SV->Prop}:∀(f i:Nat),UB P E cs n Q f i->(i:Int)<=n->n<((i+f:Nat):Int)->
 Q (mk P E ((cs.drop (n.toNat*P.cellsOf E)).take (P.cellsOf E)))
 |0,i,_,c,d=>by omega
 |f+1,i,h,c,d=>by
  simp only[UB]at h;rcases A6 h with⟨e,b⟩|⟨e,b⟩
  .grind
  .have:n≠(i:Int):=cg
   exact Nn f (i+1) b aC aC
theorem We(k:aL B ι σ a w){T:Nat}{x i:Operand}(I:o.op= .index T x i)(h:Uz C o T x i σ K):U5 C ι o σ K a w:=by
 have c:=k.ev i;unfold Uz at h;split at h
 .rename_i t n len E u v;rw[u]at c;have c:a.eval i= .int t n:=c;split at h
  .rename_i J y;split at h
   .rename_i g L m;have g:=da g;obtain⟨z,Q,h⟩:=h;have p:=Cb k.one (k.ev x) y
    have R:∃j,a.eval x= .agg j:=by
     have f:=k.ev x;split at m
     .rename_i l A;rw[A]at f;obtain⟨j,e,_⟩:=f;grind
     .rename_i j A;rw[A]at f;exact⟨j,f⟩
     grind
    obtain⟨j,q⟩:=R;rw[q]at p;have p:iW ι J j.toList:=p;have D:J.length=j.size:=by have:=p.length;omega
    obtain⟨W,d,F,S,M,N⟩:=fZ L;have U:=Nn len 0 h aC aC;refine⟨_,_,λr _=>?_,MA ((p.drop (n.toNat*C.P.cellsOf E)).take (C.P.cellsOf E)),U⟩
    have G:n.toNat*C.P.cellsOf E+C.P.cellsOf E<=j.size:=by
     rw[<-D,g, <-Nat.succ_mul];exact Nat.mul_le_mul_right _ aC
    have O:=VG L G r;unfold execOp;rw[M]at O;simp only[I,Instr.index,c,asIntOf,Sem.run_bind,Sem.run_pure,run_underlying v,Result.andThen_ok,q,z,Q,and_self,if_true,run_sizeOf F,O,M]
   grind
  grind
 .rename_i t n u v;rw[u]at c;have c:a.eval i= .int t n:=c;split at h
  .rename_i s V;have f:=k.ev x;rw[V]at f;have f:a.eval x= .string s:=f;obtain⟨z,b,X,h⟩:=h;refine⟨_,.at (.val _),λr _=>?_,rfl,h⟩
   have H:s[n.toNat]? =some b:=by
    have:s[n.toNat]? =s.data[n.toNat]? :=by
     simp only[getElem?_def];rfl
    grind
   unfold execOp;simp[I,Instr.index,c,asIntOf,run_underlying v,f,z,H]
  grind
 grind
end
end Go.Vc
namespace Go.Vc
open Go List
section
variable{B:tI}{C:Ctx}{ι:du}{σ:St}{a:Act}{w:World}{o:Oper}{K:St->Prop}
theorem FX{P:Program}{k:World}{src d E E' sz:Nat}{x:Operand}{v:Value}{c:dw}(r:o.op= .convert src d x)(s:P.underlying src=some (.slice E))(n:P.underlying E=some (.int .u8))(t:P.underlying d=some .string)
 (l:a.eval x=v)(f:k.ownsRow 0 E' sz v (bH c).length (bH c).flatten):(execOp a.eval o).run P k= .ok (.value (.string ⟨c.toArray⟩)) k:=by
 have h:(bH c).length=c.length:=by simp[bH]
 rcases f.2 with⟨p,u⟩|⟨g,q,z,p,_⟩
 .rw[h]at u;have:c=[]:=eq_nil_of_length_eq_zero u;subst this;unfold execOp;simp only[r,l,p,Sem.run_bind,run_convert_bytes_nil k src E s n 0 0 d t,Result.andThen_ok,Sem.run_pure];rfl
 .have m:strOfNums (c.map λb=>(b.toNat:Int))=⟨c.toArray⟩:=by
   unfold strOfNums;congr 1;simp[Function.comp_def]
  have j:∀i,i<c.length->k.cell? ⟨g,0+i,none⟩=some (.int .u8 ((c.map λb=>(b.toNat:Int)).getD i 0)):=by
   intro i A
   have D:(bH c).flatten[i*1+0]? =some (.int .u8 (c[i].toNat:Int)):=
    lJ (sz:=1) (e:=[.int .u8 (c[i].toNat:Int)]) (λe n=>by obtain⟨b,_,rfl⟩:=mem_map.1 n;rfl) (by simp[bH,A]) 0 _ rfl
   have:=f.cells (g:=g) (by rw[p];rfl) _ _ D;rw[Addr.add_none]at this
   grind
  have y:=run_convert_bytes_arg (P:=P) k src E s n g 0 c.length q (c.map λb=>(b.toNat:Int)) bx j d t;rw[m]at y;unfold execOp;simp only[r,l,p,h,Sem.run_bind,y,Result.andThen_ok,Sem.run_pure]
theorem Rm(i:aL B ι σ a w){src e:Nat}{x:Operand}(m:o.op= .convert src e x)(h:MD C o src e x σ K):U5 C ι o σ K a w:=by
 unfold MD at h;split at h
 .rename_i k p;split at h
  .rename_i E' s t E f n q;split at h
   .rename_i r;obtain⟨u,rfl,h⟩:=h;have d:=i.ev x;rw[p]at d;have d:a.eval x=ι k:=d;obtain⟨j,g⟩:=sE i f;refine⟨_,.at (.val _),λl c=>?_,rfl,h⟩;have c:l=w:=c.resolve_left (by simp[Br,m,n]);rw[c];exact FX m n r q d g
   grind
  grind
 .exact lR i (λv b=>cg) h
structure Js(σ:St)(ι:du)(o:Oper)(w w':World):Prop where
 cells:∀k p T cs b,nth σ.own k=some (some (.cellsP p T cs))->Ag σ o k=false->ι k= .pointer (some ⟨b,0,none⟩)->w'.heap[b]? =w.heap[b]?
 imm:∀b off v,σ.h b off=some v->w'.cell? ⟨b,off,none⟩=some v
 ext:A2 o.op=true->∀b,b<w.heap.size->w'.heap[b]? =w.heap[b]?
 args:∀l b,tE o=some l->b<w.heap.size->σ.m b=none->(∀x∈l,∀k,(σ.ev x= .at (.lst k)\/∃off,σ.ev x= .at (.ptr k off))->blk (ι k)≠some b)->w'.heap[b]? =w.heap[b]?
def Vi(B:tI)(C:Ctx)(ι:du)(o:Oper)(σ:St)(K:St->Prop)(a:Act)(w:World):Prop:=
 ∀(next:Act->World->Prop)(Q:Exit->Act->World->Prop),(∀e c d b,aL B e c d b->K c->Js σ ι o w b->next d b)->o.wp C.P a w next Q
theorem FB(f:aL B ι σ a w){w':World}(j:Nat)(x:(∃p T cs,nth σ.own j=some (some (.cellsP p T cs)))->Ag σ o j=true)
 (n:∀b,b<w.heap.size->¬((∃o',nth σ.own j=some (some o'))/\blk (ι j)=some b)->w'.heap[b]? =w.heap[b]?)(r:A2 o.op=true->∀b,b<w.heap.size->w'.heap[b]? =w.heap[b]?)
 (s:∀l,tE o=some l->∀b,b<w.heap.size->w'.heap[b]? =w.heap[b]?):Js σ ι o w w':=by
 refine⟨?_,?_,r,λl b g h _ _=>s l g b h⟩
 .intro k p T cs b q y t;have i:=f.own k _ q;have e:blk (ι k)=some b:=by rw[t];rfl
  refine n b (rC i e) ?_;rintro⟨⟨o',c⟩,d⟩;have:=f.dist k j _ _ b q c e d
  grind
 .intro b off v u;have g:=f.wrel.hsat b off v u;have m:b<w.heap.size:=World.block_lt_of_cell? w ⟨b,off,none⟩ g
  have h:=n b m (by
   rintro⟨⟨o',c⟩,d⟩;have:=(f.fresh j o' b c d).2.2 off
   grind)
  rw[<-g];exact World.cell?_of_block (w:=w) (w':=w') (a:=⟨b,off,none⟩) h
theorem CJ{d:Nat}(b:o.dst=some d):Ag σ o d=true:=by
 unfold Ag;simp[b]
theorem kC(w:World)(ob:Obj):(w.alloc ob).heap[w.heap.size]? =some ob:=by
 show(w.heap.push ob)[w.heap.size]? =_;simp
theorem fG(w:World)(ob:Obj){b:Nat}(h:b<w.heap.size):(w.alloc ob).heap[b]? =w.heap[b]? :=by
 show(w.heap.push ob)[b]? =_
 grind
theorem X7(S:Nat->Prop)(w:World)(ob:Obj):D6 S w (w.alloc ob):=
 ⟨rfl,rfl,rfl,Nat.le_refl _,by show w.heap.size<=(w.heap.push ob).size;simp,λb c _=>fG w ob c⟩
theorem Hc(h:aL B ι σ a w){d:Nat}(i:o.dst=some d){ob:Obj}{g:Own}{v:Value}{x:SV}(q:blk v=some w.heap.size)(f:v.oneCell'=true)
 (l:D9 (upd ι d v) (w.alloc ob) v g)(m:Den (upd ι d v) x v)
 {next:Act->World->Prop}(c:∀n j k w',aL B n j k w'->K j->Js σ ι o w w'->next k w')
 (p:K (((σ.kill d).setOwn d (some g)).put (some d) x)):next (a.put o.dst v) (w.alloc ob):=by
 rw[i];refine c (upd ι d v) _ _ _ ?_ p ?_
 .refine aL.put ?_ (some d) m;exact h.place d g v (X7 _ w ob) l f (λb e=>cg)
 .exact FB h d (λ_=>CJ i) (λb e _=>fG w ob e) (λ_ b e=>fG w ob e) (λ_ _ b e=>fG w ob e)
theorem XG(g:aL B ι σ a w){T:Nat}(i:o.op= .alloc T)(h:UX C o T σ K):Vi B C ι o σ K a w:=by
 intro next Q b
 unfold UX at h;split at h
 .rename_i d z j k;obtain⟨m,v,f,l,rfl⟩:=Ce k
  have c:(execOp a.eval o).run C.P w= .ok (.value (.pointer (some ⟨w.heap.size,0,none⟩))) (w.alloc (.cells v.cells T)):=by
   unfold execOp;simp[i,Instr.alloc,zeroValue,typeInfo,f,l,newVar,newRow]
  unfold Oper.wp;rw[c,Oper.upon_value];refine Hc g j rfl rfl ?_ (x:=.at (.ptr d 0)) ⟨w.heap.size,bx,rfl⟩ b h;exact⟨w.heap.size,v.cells,rfl,kC _ _,iW.vals.2 rfl,λ_ e=>by cases e⟩
 grind
theorem TO(g:aL B ι σ a w){T:Nat}{x:Operand}(j:o.op= .box T x)(h:awQ o T x σ K):Vi B C ι o σ K a w:=by
 intro next Q b
 unfold awQ at h;split at h
 .rename_i d l k i
  have c:(execOp a.eval o).run C.P w= .ok (.value (.pointer (some ⟨w.heap.size,0,none⟩))) (w.alloc (.cells (a.eval x).cells T)):=by
   unfold execOp;simp[j,Instr.box,newVar,newRow]
  unfold Oper.wp;rw[c,Oper.upon_value];refine Hc g k rfl rfl ?_ (x:=.at (.ptr d 0)) ⟨w.heap.size,bx,rfl⟩ b h;exact⟨w.heap.size,_,rfl,kC _ _,iW.sub (f:=λ_=>.junk) (λ_ _ _ _=>trivial) (Cb g.one (g.ev x) i),λ_ e=>by cases e⟩
 grind
end
end Go.Vc
namespace Go.Vc
open Go List
section
variable{B:tI}{C:Ctx}{ι:du}{σ:St}{a:Act}{w:World}{o:Oper}{K:St->Prop}
theorem bVQ(z:aL B ι σ a w){k E sz:Nat}{xs:List dj}(M:nth σ.own k=some (some (.lst E sz xs))):
 ∃(s:Sl)(f:PH),PH.le σ.h f/\cE f s sz xs/\ι k=s.val/\
  aL B ι {(σ.sub k (λ |.lst _=>.val s.val|_=>.junk)).setOwn k none with h:=f} a w/\
  Fz σ {(σ.sub k (λ |.lst _=>.val s.val|_=>.junk)).setOwn k none with h:=f}:=by
 obtain⟨q,l⟩:=sE z M;have F:∀p T S,nth σ.own k≠some (some (.cellsP p T S)):=λp T S e=>cg
 have n:∀(s:Sl),ι k=s.val->aL B ι ((σ.sub k (λ |.lst _=>.val s.val|_=>.junk)).setOwn k none) a w:=by
  intro s L
  have:=z.drop k (ι k) (z.one k) (λ |.lst _=>.val s.val|_=>.junk) (by
   intro x v G N;cases x<;>simp only[At.key,cw,reduceCtorEq]at G
   case ptr=>trivial
   case el=>trivial
   case lst j=>
    subst G;have N:v=ι j:=N;show v=s.val;rw[N,L])
  rwa [Jx]at this
 rcases l.2 with⟨r,V⟩|⟨g,t,W,r,_,hg,H,X,Y,O⟩
 .have G:xs=[]:=eq_nil_of_length_eq_zero V;refine⟨⟨none,0,0⟩,σ.h,⟨λ_ _ _ h=>h⟩,⟨by simp[G],.inl G,Nat.le_refl _⟩,r,n _ r,?_⟩;exact bfZ (m:=σ.m) (h:=σ.h) rfl (λx j o=>cg) (λx j=>cg) F (λ_ _ _ h=>h)
 .have P:=z.fresh k _ g M (by rw[r];rfl)
  let f:PH:=λb o=>if b=g then xs.flatten[o]? else σ.h b o
  have u:∀b o v,σ.h b o=some v->f b o=some v:=by
   grind
  have L:ι k=Sl.val ⟨some ⟨g,0,none⟩,xs.length,t⟩:=r;refine⟨⟨some ⟨g,0,none⟩,xs.length,t⟩,f,⟨u⟩,⟨rfl,.inr ⟨g,0,rfl,?_⟩,H⟩,L,?_,?_⟩
  .intro i e Z;constructor;intro j v A;show(if g=g then _ else _)=_;rw[if_pos rfl,Nat.zero_add];exact lJ q.len Z j v A
  .have c:=n _ L
   have y:∀j I,nth ((σ.sub k (λ |.lst _=>.val (Sl.val ⟨some ⟨g,0,none⟩,xs.length,t⟩)|_=>.junk)).setOwn k none).own j=some (some I)->blk (ι j)≠some g:=by
    intro j I A J;obtain⟨Q,o1,R,_⟩:=qH A;exact Q (z.dist j k _ _ g R M J (by rw[r];rfl))
   refine⟨c.slots,c.defers,c.own,c.dist,?_,?_,c.one⟩
   .intro j I b A J;obtain⟨h1,h2,h3⟩:=c.fresh j I b A J;refine⟨h1,h2,λi=>?_⟩;show(if b=g then _ else _)=_;rw[if_neg (λe:b=g=>y j I A cg)];exact h3 i
   .have d:=z.wrel;refine⟨d.tape,d.os,d.output,d.drawn,d.size,d.frame,?_,d.msat,?_,λb o v h=>u b o v (d.hle b o v h),?_,d.mfr⟩
    .intro b off v D;have D:(if b=g then xs.flatten[off]? else σ.h b off)=some v:=D;by_cases e:b=g
     .subst e;rw[if_pos rfl]at D;have:=l.cells (g:=b) (by rw[r];rfl) off v D
      rwa [Addr.add_none,Nat.zero_add]at this
     .rw[if_neg e]at D;exact d.hsat b off v D
    .intro b ob U i;show(if b=g then _ else _)=_;rw[if_neg (λe=>by subst e;have:=P.2.1;simp only[St.setOwn,St.sub]at U;grind)];exact d.disj b ob U i
    .intro b J hE;funext i;show(if b=g then _ else _)=_;rw[if_neg (λe=>cg)];exact congrFun (d.hold b J hE) i
  .exact bfZ (m:=σ.m) (h:=f) rfl (λx j o=>cg) (λx j=>cg) F u
theorem oH:∀(ks:ed)(σ:St),aL B ι σ a w->vI σ K ks->∃b,aL B ι b a w/\K b/\Fz σ b
 |[],σ,e,h=>⟨σ,e,h,Fz.refl σ⟩
 |k::ks,σ,e,h=>by
  simp only[vI]at h;split at h
  .rename_i E p q l;obtain⟨s,m,f,c,_,g,i⟩:=bVQ e l;obtain⟨b,j,n,d⟩:=oH ks _ g (h s m f c);exact⟨b,j,n,i.trans d⟩
  grind
theorem GO{P:Program}{T E:Nat}{z:dj}(h:elemOf P T=some (E,z)):
 ∃i v,P.underlying T=some (.slice E)/\P.info? E=some i/\i.zero=some v/\z=v.cells.toList/\v.cells.size=i.size/\P.cellsOf E=i.size/\0<i.size/\∀u∈z,u.oneCell'=true:=by
 unfold elemOf at h;split at h
 .rename_i E' e;split at h
  .rename_i f c;split at h
   .rename_i b g j;simp only[cw,Prod.mk.injEq]at h;obtain⟨rfl,rfl⟩:=h;obtain⟨i,v,d,k,rfl⟩:=Ce c;have l:P.cellsOf E'=i.size:=by simp[Program.cellsOf,d]
    have b:=da b
    grind
   .cases h
  .cases h
 .cases h
theorem dH{sz:Nat}:∀{xs:List dj},(∀e∈xs,e.length=sz)->xs.flatten.length=xs.length*sz
 |[],_=>bx
 |x::xs,h=>by
  rw[flatten_cons,ct,dH (λe b=>h e (by simp[b])),h x bx,de,Nat.succ_mul];omega
theorem F1(t:aL B ι σ a w){sz:Nat}(v:0<sz):∀(parts:fe)(b:List dj)(out:List dj),cZ sz b->D1 σ sz parts b=some out->
 cZ sz out/\out.length=b.length/\Instr.fill (λi=>some (i*sz,sz)) b.flatten.toArray (parts.map λp=>(p.1,a.eval p.2))=some out.flatten.toArray
 |[],b,out,k,h=>by simp[D1]at h;subst h;exact⟨k,rfl,rfl⟩
 |(i,x)::parts,b,out,k,h=>by
  simp only[D1]at h;split at h
  .rename_i m z;split at h
   .rename_i l A;split at h
    .rename_i c g D;have c:=da c;have g:=Nat.le_of_ble_eq_true g;have s:=Cb t.one (t.ev x) z;rw[Gf A,iW.vals]at s
     have F:∀u∈l,u.oneCell'=true:=by
      intro u M;have G:=Gf A;clear s A
      have:∀(m:dz),tG m=true->∀x∈m,x.storable=true:=by
       intro m
       induction m with
       |nil=>grind
       |cons y r H=>
        intro I x N;simp only[tG]at I
        grind
      have f:=this m D (.val u) cg;cases u<;>first|rfl|(simp[At.storable]at f)
     have E:cZ sz (b.set i l):=by
      constructor
      .intro e n;rcases mem_or_eq_of_mem_set n with f|f
       .exact k.len e f
       grind
      .intro e n;rcases mem_or_eq_of_mem_set n with f|f
       .exact k.one e f
       grind
     obtain⟨f,O,J⟩:=F1 t v parts (b.set i l) out E h;refine⟨f,cg,?_⟩;simp only[map_cons]
     have j:∀(b:List dj)(i:Nat),(∀e∈b,e.length=sz)->i<b.length->splice b.flatten (i*sz) l=(b.set i l).flatten:=by
      intro b
      induction b with
      |nil=>grind
      |cons e r H=>
       intro i d P;have n:e.length=sz:=d e bx;cases i with
       |zero=>
        simp only[splice,Nat.zero_mul,take_zero,nil_append,Nat.zero_add,flatten_cons,set_cons_zero,c]
        grind
       |succ i=>
        have:=H i (λe n=>d e (by simp[n])) cg;simp only[flatten_cons,set_cons_succ, <-this,splice];have L:(i+1)*sz=e.length+i*sz:=cg
        rw[L,take_length_add_append,show e.length+i*sz+l.length=e.length+(i*sz+l.length)by omega,drop_length_add_append];simp
     have q:=dH k.len;rw[R5 rfl cg (by rw[<-Array.length_toList,s];simp only[size_toArray,q,c];rw[<-Nat.succ_mul];exact Nat.mul_le_mul_right _ g),s];rw[j b i k.len aC];exact J
    .cases h
   .cases h
  .cases h
end
end Go.Vc
namespace Go.Vc
open Go List
section
variable{B:tI}{C:Ctx}{ι:du}{σ:St}{a:Act}{w:World}{o:Oper}{K:St->Prop}
theorem KO{z:Array Value}{sz:Nat}(b:z.size=sz)(f:0<sz)(n:Nat):(madeCells z (n*sz)).toList=(replicate n z.toList).flatten:=by
 apply ext_getElem?;intro j;by_cases g:j<n*sz
 .have h:j/sz<n:=Nat.div_lt_of_lt_mul cg;have c:j%sz<sz:=Nat.mod_lt _ f;have d:=lJ (xs:=replicate n z.toList) (sz:=sz) (i:=j/sz) (e:=z.toList) (λe k=>cg) (by simp[h]) (j%sz) z[j%sz] (by simp[b,c]);rw[show j/sz*sz+j%sz=j by rw[Nat.mul_comm];exact Nat.div_add_mod j sz]at d;rw[d];simp[madeCells,g,b,c]
 .rw[getElem?_eq_none,getElem?_eq_none]
  .rw[dH (sz:=sz) (λe k=>cg)];simp;omega
  .simp[madeCells];omega
theorem pP{z:dj}{sz:Nat}(c:z.length=sz)(d:∀u∈z,u.oneCell'=true)(n:Nat):cZ sz (replicate n z):=
 ⟨λe b=>cg,λe b=>cg⟩
theorem OK{τ:St}(d:Fz σ τ){k:Nat}(h:Ag σ o k=false):Ag τ o k=false:=by
 have i:∀(l:ej)(j:Nat),j∈pC τ l->j∈pC σ l:=by
  intro l
  induction l with
  |nil=>intro j b;cases b
  |cons x r m=>
   intro j b
   have e:∀(υ:St)(j:Nat),j∈pC υ (x::r)↔(∃off,υ.ev x= .at (.ptr j off))\/j∈pC υ r:=by
    intro υ j;simp only[pC]
    grind
   rw[e]at b⊢
   rcases b with⟨off,b⟩|b
   .exact .inl ⟨off,d.ptr _ _ _ b⟩
   grind
 unfold Ag at h⊢
 rw[Bool.or_eq_false_iff]at h⊢
 refine⟨h.1,?_⟩;have c:=h.2;split at c
 .rename_i t x v f;split
  .rename_i j off g;rw[d.ptr _ _ _ g]at c;exact c
  .rfl
 .grind
 .rfl
theorem Js.of_fz{τ:St}{w':World}(c:Fz σ τ)(h:Js τ ι o w w'):Js σ ι o w w':=
 ⟨λk p T f b d g i=>let⟨cs',hk'⟩:=c.cells k p T f d;h.cells k p T cs' b hk' (OK c g) i,λb off v j=>h.imm b off v (c.imm b off v j),h.ext,λl b m n q r=>h.args l b m n (by rw[c.m_];exact q) (λx s k d=>r x s k (d.imp (c.lst x k) (λ⟨off,e⟩=>⟨off,c.ptr x k off e⟩)))⟩
theorem aKQ(ps:Array (Nat×Operand))(a:Act):(ps.map fun(i,x)=>(i,a.eval x)).toList=ps.toList.map λp=>(p.1,a.eval p.2):=bx
theorem MI(F:aL B ι σ a w){T n:Nat}{ps:Array (Nat×Operand)}(G:o.op= .buildSlice T n ps)(h:FP C o T n ps.toList σ K):Vi B C ι o σ K a w:=by
 intro next Q f
 unfold FP at h;obtain⟨τ,k,h,s⟩:=oH _ _ F h;split at h
 .rename_i d E z H I;split at h
  .rename_i j l g;obtain⟨q,v,y,A,J,rfl,t,L,e,m⟩:=GO I;rw[L]at l g h;have g:=Nat.le_of_ble_eq_true g;obtain⟨r,c,b⟩:=F1 k e ps.toList _ j (pP aC m n) l;simp only[length_replicate]at c
   have p:(execOp a.eval o).run C.P w= .ok (.value (.slice (some ⟨w.heap.size,0,none⟩) n n)) (w.alloc (.cells j.flatten.toArray E)):=by
    have M:(Instr.buildSlice T n (ps.map fun(i,x)=>(i,a.eval x))).run C.P w= .ok (.slice (some ⟨w.heap.size,0,none⟩) n n) (w.alloc (.cells j.flatten.toArray E)):=by
     by_cases D:n*q.size=0
     .have N:n=0:=by rcases Nat.mul_eq_zero.1 D with h|h<;>omega
      subst N;have:j=[]:=eq_nil_of_length_eq_zero c;subst this;simp only[replicate_zero,flatten_nil]at b;have u:Array.map (λ_:Nat=>(default:Value)) (Array.range 0)= #[]:=cg
      simp[Instr.buildSlice,run_underlying y,run_sizeOf A,newRow];rw[u,b];simp
     .refine run_buildSlice w T E n _ j.flatten.toArray q v y A J aC D ?_
      have:((Array.range (n*q.size)).map (v.cells[· %v.cells.size]!))=(replicate n v.cells.toList).flatten.toArray:=by
       apply Array.toList_inj.1;have:=KO t e n;unfold madeCells at this;rw[this]
      rw[this,aKQ];exact b
    unfold execOp;simp only[G,Sem.run_bind,M,Result.andThen_ok,Sem.run_pure]
   unfold Oper.wp;rw[p,Oper.upon_value];refine Hc k H rfl rfl ?_ (x:=.at (.lst d)) (by show _=_;simp) (λO R S U V W X=>f O R S U V W (X.of_fz s)) h;refine⟨r,dH r.len,.inr ⟨w.heap.size,n,j.flatten.toArray,by rw[c],Nat.zero_le _,kC _ _,aC,?_,?_,?_⟩⟩
   .have:n<=n*q.size:=Nat.le_mul_of_pos_right n e;unfold maxLen;omega
   .simp only[size_toArray,dH r.len,c]
   .rw[cu];rw[dH r.len];omega
  grind
 grind
theorem NF(r:aL B ι σ a w){T:Nat}{l c:Operand}(I:o.op= .makeSlice T l c)(h:Gy C o T l c σ K):Vi B C ι o σ K a w:=by
 intro next Q f
 have k:=r.ev l;have p:=r.ev c;unfold Gy at h;split at h
 .rename_i d E z D n F m J L s t;rw[s]at k;rw[t]at p;have k:a.eval l= .int D n:=k;have p:a.eval c= .int F m:=p;obtain⟨q,v,M,G,N,rfl,u,y,i,b⟩:=GO L;obtain⟨O,R,H,S,h⟩:=h;rw[y]at h;have A:C.P.bytesOf E=q.bytes:=by simp[Program.bytesOf,G]
  rw[A,Int.mul_comm]at H
  have j:(execOp a.eval o).run C.P w= .ok (.value (.slice (some ⟨w.heap.size,0,none⟩) n.toNat m.toNat)) (w.alloc (.cells (madeCells v.cells (m.toNat*q.size)) E)):=by
   unfold execOp;simp only[I,k,p,Sem.run_bind,run_make (P:=C.P) w T E q v M G N D F n m O R H aC,Result.andThen_ok,Sem.run_pure]
  unfold Oper.wp;rw[j,Oper.upon_value];refine Hc r J rfl rfl ?_ (x:=.at (.lst d)) (by show _=_;simp) f h;have g:v.cells.toList.length=q.size:=by omega
  refine⟨pP g b _,dH (pP g b _).len,.inr ⟨w.heap.size,m.toNat,_,cg,Nat.zero_le _,kC _ _,?_,?_,size_madeCells _ _,?_⟩⟩
  .simp;omega
  .unfold maxLen;omega
  .rw[KO u i]
   have e:replicate m.toNat v.cells.toList=replicate n.toNat v.cells.toList++replicate (m.toNat-n.toNat) v.cells.toList:=by
    rw[replicate_append_replicate];grind
   rw[e,flatten_append,take_left'];rw[dH (pP g b _).len]
 grind
theorem xD{P:Program}(w:World)(t tx N e:TypeId)(i:TypeInfo)(z:Value)(O:P.underlying t=some (.slice e))(Q:P.info? e=some i)(Y:i.zero=some z)
 (T:z.cells.size=i.size)(v:Value)(n:Nat)(xs:dj)(p:w.ownsRow 0 e i.size v n xs)(x:Value)(m:Nat)(d:dj)(D:Src P i.size tx x m d w)
 (H:n+m<=maxLen)(q:(n+m)*i.bytes<=140737488355328):
 ∃I w',(Builtin.append_ #[t,tx] N #[v,x]).run P w= .ok I w'/\w'.ownsRow 0 e i.size I (n+m) (xs++d)/\D6 (λb=>v.ownBlock=some b) w w'/\
  (∀b,I.ownBlock=some b->w.heap.size<=b\/v.ownBlock=some b)/\I.oneCell'=true/\
  ((∃a k c k' c',v= .slice a k c/\I= .slice a k' c')\/∀k,k<w.heap.size->w'.heap[k]? =w.heap[k]?):=by
 have R:n+m<=9223372036854775807:=by simp only[maxLen]at H;omega
 have Z:=D.newsLen;have s:(xs++d).length=(n+m)*i.size:=by rw[ct,p.1,Z,Nat.add_mul]
 have grown:∀(h:Nat),h<n+m->∀(S:Nat->Prop),
  (w.drew.alloc (.cells ((xs++d).toArray++Builtin.zeroCells z.cells (grownCap w (n+m) h e-(n+m))) e)).ownsRow 0 e i.size
   (.slice (some ⟨w.heap.size,0,none⟩) (n+m) (grownCap w (n+m) h e)) (n+m) (xs++d)/\
  D6 S w (w.drew.alloc (.cells ((xs++d).toArray++Builtin.zeroCells z.cells (grownCap w (n+m) h e-(n+m))) e)):=by
  intro h ho S;have U:=grownCap_ge w (n+m) h e;have E:grownCap w (n+m) h e<=maxLen:=grownCap_le_maxLen w (n+m) h e H;refine⟨⟨s,.inr ⟨w.heap.size,_,_,rfl,Nat.zero_le _,heap_alloc_new w.drew _,U,E,?_,?_⟩⟩,⟨rfl,rfl,rfl,Nat.le_succ _,bx,λk r _=>heap_alloc_old w.drew _ k r⟩⟩
  .simp only[Array.size_append,size_toArray,size_zeroCells,T,s, <-Nat.add_mul]
   grind
  grind
 rcases p.2 with⟨rfl,rfl⟩|⟨g,f,y,rfl,V,hg,a0,E,W,X⟩
 .have hx:xs=[]:=eq_nil_of_length_eq_zero cg;subst hx;by_cases hm:m=0
  .subst hm;have hn:d=[]:=eq_nil_of_length_eq_zero aC;subst hn;refine⟨.slice none 0 0,w,?_,World.ownsRow_nil w 0 e i.size,D6.refl _ _,λb G=>cg,rfl,.inr λ_ _=>rfl⟩;rcases D.kind with⟨e',r⟩|r<;>simp[Builtin.append_,run_underlying O,run_underlying r,sizeOf,typeInfo,Q,D.len,D.cells]
  .have J:=run_append_grow_src (P:=P) w t tx N e i z O Q Y none 0 0 [] (by simp[Builtin.firstCells]) x m d D aC aC (growslice_fits aC q);have A:=grown 0 aC (λb=>Value.ownBlock (.slice none 0 0)=some b);exact⟨_,_,J,A.1,A.2,λb G=>by simp[Value.ownBlock]at G;left;omega,rfl,.inr λk r=>heap_alloc_old w.drew _ k r⟩
 .by_cases l:n+m<=f
  .have a':n*i.size+d.length<=y.size:=by rw[Z,W, <-Nat.add_mul];exact Nat.mul_le_mul_right _ l
   have L:=run_storeCells_at P g (n*i.size) e d 0 y w hg aC D.one;simp only[Nat.add_zero]at L
   have J:(Builtin.append_ #[t,tx] N #[.slice (some ⟨g,0,none⟩) n f,x]).run P w= .ok (.slice (some ⟨g,0,none⟩) (n+m) f) (w.setRow g (y.toList.take (n*i.size)++d++y.toList.drop (n*i.size+d.length)).toArray):=by
    rcases D.kind with⟨e',r⟩|r<;>simp[Builtin.append_,run_underlying O,run_underlying r,sizeOf,typeInfo,Q,D.len,l,D.cells,Addr.add_lit,L]
   refine⟨_,_,J,⟨s,.inr ⟨g,f,_,rfl,V,setRow_heap w g y _ e _ hg,l,E,?_,?_⟩⟩,⟨rfl,rfl,rfl,Nat.le_refl _,bx,λk _ r=>setRow_other w g k _ (λe=>r (by simp[Value.ownBlock,e]))⟩,λb G=>.inr G,rfl,.inl ⟨_,_,_,_,_,rfl,rfl⟩⟩
   .grind
   grind
  .have F:∀j u,xs[j]? =some u->w.cell? ((⟨g,0,none⟩:Addr).add j)=some u:=p.cells (g:=g) rfl
   have M:(Builtin.firstCells i.size n (.slice (some ⟨g,0,none⟩) n f)).run P w.drew= .ok xs.toArray w.drew:=
    run_firstCells_some w.drew i.size n ⟨g,0,none⟩ n f xs p.1 (cm F)
   have J:=run_append_grow_src (P:=P) w t tx N e i z O Q Y (some ⟨g,0,none⟩) n f xs M x m d D aC aC (growslice_fits aC q);have A:=grown f aC (λb=>Value.ownBlock (.slice (some ⟨g,0,none⟩) n f)=some b);exact⟨_,_,J,A.1,A.2,λb G=>by simp[Value.ownBlock]at G;left;omega,rfl,.inr λk r=>heap_alloc_old w.drew _ k r⟩
end
end Go.Vc
namespace Go.Vc
open Go Go.Lib List
theorem T5{z:Array Value}{sz:Nat}(b:z.size=sz)(f:0<sz)(n:Nat):(Builtin.zeroCells z n).toList=(replicate n z.toList).flatten:=by
 apply ext_getElem?;intro j;by_cases g:j<n*sz
 .have h:j/sz<n:=Nat.div_lt_of_lt_mul cg;have c:j%sz<sz:=Nat.mod_lt _ f;have d:=lJ (xs:=replicate n z.toList) (sz:=sz) (i:=j/sz) (e:=z.toList) (λe k=>cg) (by simp[h]) (j%sz) z[j%sz] (by simp[b,c]);rw[show j/sz*sz+j%sz=j by rw[Nat.mul_comm];exact Nat.div_add_mod j sz]at d;rw[d];simp[Builtin.zeroCells,g,b,c]
 .rw[getElem?_eq_none,getElem?_eq_none]
  .rw[dH (sz:=sz) (λe k=>cg)];simp;omega
  .simp[Builtin.zeroCells,b];omega
theorem LD{P:Program}(w:World)(t g l e:TypeId)(i:TypeInfo)(z:Value)(m n:IntKind)(u:P.underlying t=some (.slice e))(h:P.underlying g=some (.int n))(v:P.info? e=some i)(y:i.zero=some z)
 (c:z.cells.size=i.size)(p:0<i.size)(k:Nat)(q:0<k)(d:k*i.bytes<=140737488355328)(A:k<=140737488355328):
 ∃f w',(Builtin.append_ #[t,g] l #[.slice none 0 0,.int m k]).run P w= .ok f w'/\w'.ownsRow 0 e i.size f k (replicate k z.cells.toList).flatten/\D6 (λ_=>False) w w'/\
  (∀b,f.ownBlock=some b->w.heap.size<=b)/\f.oneCell'=true:=by
 have r:=run_append_grow_zeros w t g l e i z m n u h v y none 0 0 [] (run_firstCells_none w.drew i.size 0 0 0) k q p aC aC aC (by rw[Nat.zero_add,nextslicecap_zero q];omega);rw[Nat.zero_add]at r;have D:=grownCap_ge w k 0 e;have j:=grownCap_le_maxLen w k 0 e (by unfold maxLen;omega);refine⟨_,_,r,?_,?_,?_,rfl⟩
 .refine⟨dH (sz:=i.size) (λx s=>cg) |>.trans bx,.inr ⟨w.heap.size,_,_,rfl,Nat.zero_le _,kC _ _,aC,j,?_,?_⟩⟩
  .simp[Builtin.zeroCells,c];rw[<-Nat.add_mul]
   grind
  .simp only[Array.toList_append,T5 c p];rw[take_append_of_le_length]
   .simp only[nil_append];rw[cu];rw[dH (sz:=i.size) (λx s=>cg)];simp
   .simp only[nil_append];rw[dH (sz:=i.size) (λx s=>cg)];simp
 .exact⟨rfl,rfl,rfl,Nat.le_succ _,by show w.heap.size<=(w.heap.push _).size;simp,λb d _=>fG w.drew _ d⟩
 .intro b d;simp[Value.ownBlock]at d;omega
end Go.Vc
namespace Go.Vc
open Go List
section
variable{B:tI}{C:Ctx}{ι:du}{σ:St}{a:Act}{w:World}{o:Oper}{K:St->Prop}
theorem GL{sz:Nat}:∀{xs:List dj}(_:∀e∈xs,e.length=sz) {j:Nat} {v:Value},xs.flatten[j]? =some v->∃(i:Nat)(e:dj)(q:Nat),xs[i]? =some e/\e[q]? =some v/\j=i*sz+q
 |[],_,j,v,h=>by simp at h
 |x::xs,b,j,v,h=>by
  have g:=b x bx;rw[flatten_cons]at h;by_cases c:j<x.length
  .rw[getElem?_append_left c]at h;exact⟨0,x,j,rfl,h,bx⟩
  .rw[getElem?_append_right aC]at h;obtain⟨i,e,q,k,d,l⟩:=GL (λe f=>b e (by simp[f])) h;exact⟨i+1,e,q,cg,d,cg⟩
theorem bRZ{P:Program}{tx j E sz:Nat}{v:Value}{b:List dj}(f:P.underlying tx=some (.slice j))(h:cZ sz b)(i:w.ownsRow 0 E sz v b.length b.flatten):
 Src P sz tx v b.length b.flatten w:=by
 have k:∀u∈b.flatten,u.oneCell'=true:=λu l=>by
  obtain⟨e,m,c⟩:=mem_flatten.1 l;exact h.one e m u c
 rcases i.2 with⟨rfl,n⟩|⟨g,d,p,rfl,_⟩
 .have:b=[]:=eq_nil_of_length_eq_zero n;subst this;exact Src.ofNil w f 0
 .exact Src.ofSlice w f ⟨g,0,none⟩ _ d _ (dH h.len) (i.cells (g:=g) rfl) k
theorem Uf{P:Program}{tx x sz:Nat}{h:PH}(y:P.underlying tx=some (.slice x)){l:Option Addr}{n c:Nat}{k:List dj}(r:cZ sz k)(d:cE h ⟨l,n,c⟩ sz k)
 (m:∀b o v,h b o=some v->w.cell? ⟨b,o,none⟩=some v):Src P sz tx (.slice l n c) k.length k.flatten w:=by
 have z:∀u∈k.flatten,u.oneCell'=true:=λu s=>by
  obtain⟨e,A,t⟩:=mem_flatten.1 s;exact r.one e A u t
 have p:n=k.length:=d.len;subst p;rcases d.row with rfl|⟨b,off,f,g⟩
 .refine⟨.inl ⟨x,y⟩,λ_=>rfl,?_,?_,bx,λu s=>by simp at s⟩
  .cases l<;>simp[Builtin.firstCells,loadCells,loadCellsFrom]
  .cases l<;>simp[Builtin.firstCells,loadCells,loadCellsFrom]
 .have f:l=some ⟨b,off,none⟩:=f;subst f;refine Src.ofSlice w y ⟨b,off,none⟩ _ c _ (dH r.len) ?_ z;intro j u D;obtain⟨i,e,q,E,F,rfl⟩:=GL r.len D;rw[Addr.add_none];have:=m _ _ _ ((g i e E).rd q u F)
  grind
theorem Jn(s:ByteArray):(i7 s).flatten=byteCells s:=by
 unfold i7 byteCells
 induction s.data.toList with
 |nil=>rfl
 |cons b r c=>simp[c]
theorem Ue(p:aL B ι σ a w){sz tx:Nat}{y:Operand}{R:List dj->Prop}{lent:Bool}(h:M5 C.P lent σ sz tx (σ.ev y) R):
 ∃i,cZ sz i/\Src C.P sz tx (a.eval y) i.length i.flatten w/\R i:=by
 have d:=p.ev y;unfold M5 at h;split at h
 .rename_i k F q l;rw[q]at d;have d:a.eval y=ι k:=d;split at h
  .rename_i E s i r;split at h
   .rename_i g;have g:=da g;subst g;obtain⟨m,G⟩:=sE p r;exact⟨i,m,by rw[d];exact bRZ l m G,h⟩
   grind
  grind
 .rename_i A n c F q l;rw[q]at d;have d:a.eval y= .slice A n c:=d;obtain⟨i,m,f,h⟩:=h;refine⟨i,m,?_,h⟩;rw[d];cases lent with
  |false=>exact Uf l m f p.wrel.hsat
  |true=>
   cases f with
   |imm f=>exact Uf l m f p.wrel.hsat
   |lent b o J E L g x H D=>
    have g:A=some ⟨b,o,none⟩:=g;have x:n=i.length:=x;subst g x
    have I:∀u∈i.flatten,u.oneCell'=true:=λu l=>by
     obtain⟨e,t,z⟩:=mem_flatten.1 l;exact m.one e t u z
    refine Src.ofSlice w l ⟨b,o,none⟩ _ c _ (dH m.len) ?_ I;intro j u M;rw[Addr.add_none,cell_of_heap (p.wrel.msat b _ H)]
    grind
 .rename_i s q l;rw[q]at d;have d:a.eval y= .string s:=d;split at h
  .rename_i g;have g:=da g;subst g;refine⟨i7 s,⟨λe t=>by obtain⟨b,_,rfl⟩:=mem_map.1 t;rfl,λe t u v=>by obtain⟨b,_,rfl⟩:=mem_map.1 t;simp at v;subst v;rfl⟩,?_,h⟩;rw[d,Jn];have D:(i7 s).length=s.size:=by simp[i7]
   rw[D];exact Src.ofString w l s
  grind
 grind
theorem D6.mono{S S':Nat->Prop}{w w':World}(h:D6 S w w')(d:∀b,S b->S' b):D6 S' w w':=⟨h.tape,h.os,h.output,h.drawn,h.size,λb e f=>h.block b e (λc=>f (d b c))⟩
theorem Ek{v:Value}{b:Nat}(h:v.ownBlock=some b):blk v=some b:=by
 cases v<;>simp[Value.ownBlock]at h
 case slice ad n c=>cases ad<;>simp at h;simpa[blk]using h
theorem DH{sz:Nat}{xs c:List dj}(d:cZ sz xs)(f:cZ sz c):cZ sz (xs++c):=
 ⟨λe b=>(mem_append.1 b).elim (d.len e) (f.len e),λe b=>(mem_append.1 b).elim (d.one e) (f.one e)⟩
theorem Ai{E sz n:Nat}{v:Value}{l:dj}(h:w.ownsRow 0 E sz v n l){b:Nat}(c:blk v=some b):v.ownBlock=some b:=by
 rcases h.2 with⟨rfl,_⟩|⟨g,d,e,rfl,_⟩
 .simp[blk]at c
 .simpa[blk,Value.ownBlock]using c
theorem bdQ(f:aL B ι σ a w){w':World}{m':MH}{S:Nat->Prop}(n:D6 S w w')(D:∀b,S b->σ.m b≠none)(s:∀b o,m' b=some o->w'.heap[b]? =some o/\(σ.m b≠none\/w.heap.size<=b)):
 aL B ι {σ with m:=m'} a w'/\∀o,A2 o.op=false->Js σ ι o w w':=by
 have c:=f.wrel
 have z:∀b,w.heap.size<=b->∀i,σ.h b i=none:=by
  intro b d i;cases e:σ.h b i with
  |none=>rfl
  |some v=>have:=World.block_lt_of_cell? w ⟨b,i,none⟩ (c.hsat _ _ _ e);grind
 have E:∀b,S b->∀i,σ.h b i=none:=by
  intro b d i;cases e:σ.m b with
  |none=>grind
  |some x=>exact c.disj b x e i
 have t:∀k q b,nth σ.own k=some (some q)->blk (ι k)=some b->¬S b:=by
  intro k q b g d u;exact D b u (f.fresh k q b g d).2.1
 have j:∀b i v,σ.h b i=some v->w'.cell? ⟨b,i,none⟩=some v:=by
  intro b i v F;have y:=c.hsat b i v F;rw[<-y];exact World.cell?_of_block (w:=w) (w':=w') (a:=⟨b,i,none⟩) (n.block b (World.block_lt_of_cell? w ⟨b,i,none⟩ y) (λu=>cg))
 refine⟨⟨f.slots,f.defers,λk q g=>(f.own k q g).world (λb d=>n.block b (rC (f.own k q g) d) (t k q b g d)),f.dist,?_,?_,f.one⟩,λo L=>⟨?_,j,λh=>cg,λl b _ r y _=>n.block b r (λu=>D b u y)⟩⟩
 .intro k q b g d;obtain⟨G,M,H⟩:=f.fresh k q b g d;refine⟨G,?_,H⟩;show m' b=none;cases e:m' b with
  |none=>rfl
  |some x=>
   rcases(s b x e).2 with r|r
   .grind
   .have:=rC (f.own k q g) d;omega
 .refine⟨n.tape.trans c.tape,n.os.trans c.os,n.output.trans c.output,dg c.drawn n.drawn,dg c.size n.size,?_,j,λb o e=>(s b o e).1,?_,c.hle,c.hold,?_⟩
  .intro b d I;rw[n.block b (dh d c.size) (λu=>?_)]
   .exact c.frame b d I
   .cases e:σ.m b with
    |none=>grind
    |some x=>
     rcases c.mfr b x e with r|r
     .omega
     grind
  .intro b o e i;rcases(s b o e).2 with r|r
   .cases A:σ.m b with
    |none=>grind
    |some x=>exact c.disj b x A i
   grind
  .intro b o e;rcases(s b o e).2 with r|r
   .cases A:σ.m b with
    |none=>grind
    |some x=>exact c.mfr b x A
   .exact .inl (dg c.size r)
 .intro k p T N b g _ J;have d:blk (ι k)=some b:=by rw[J];rfl
  exact n.block b (rC (f.own k _ g) d) (t k _ b g d)
theorem UU(M:aL B ι σ a w){T tx:Nat}{x y:Operand}{c:Call}(ho:o.op= .call c)(hc:c.callee= .builtin .append)(hx:c.args.toList=[x,y])(ht:c.argTypes.toList=[T,tx])
 (h:QK C o T tx x y σ K):Vi B C ι o σ K a w:=by
 intro next Q R
 have b2:c.args= #[x,y]:=cg
 have b7:c.argTypes= #[T,tx]:=cg
 unfold QK at h;split at h
 .rename_i d E z hd hE;obtain⟨Z,zv,hu,hi,hv,rfl,a2,a3,d3,b8⟩:=GO hE;have a4:C.P.bytesOf E=Z.bytes:=by simp[Program.bytesOf,hi]
  have W:∀L U,(Builtin.append_ #[T,tx] o.type #[a.eval x,a.eval y]).run C.P w= .ok L U->(execOp a.eval o).run C.P w= .ok (.value L) U:=by
   intro L U hr;unfold execOp;simp only[ho,resolve,hc,b2,b7,invoke,builtin,Sem.run_bind,Sem.run_pure,Result.andThen_ok,map_toArray,map_cons,map_nil];rw[hr];rfl
  have c2:∀(X:Option Addr)(n cp:Nat),σ.ev x= .at (.val (.slice X n cp))->(∃s:List dj,dC σ.m ⟨X,n,cp⟩ E (C.P.cellsOf E) s/\
   M5 C.P (RX C) σ (C.P.cellsOf E) tx (σ.ev y) λN=>
    (s.length+N.length)*C.P.bytesOf E<=140737488355328/\s.length+N.length<=140737488355328/\
    ∀(s':Sl)(m':MH),dY σ.m m' ⟨X,n,cp⟩ s' E (C.P.cellsOf E) (s++N)->K ({σ with m:=m'}.put (some d) (.at (.val s'.val))))->o.wp C.P a w next Q:=by
   intro X n cp a' h;have G:=M.ev x;rw[a']at G;have G:a.eval x= .slice X n cp:=G;obtain⟨s,t,h⟩:=h;obtain⟨N,hr,v,O,a9,h⟩:=Ue M h;rw[a3]at hr v h;rw[a4]at O;have a0:=t.rows;rw[a3]at a0
   have b3:w.ownsRow 0 E Z.size (.slice X n cp) s.length s.flatten:=by
    refine⟨dH a0.len,?_⟩;rcases t.ex with⟨H,e2⟩|⟨b,a5,a1,H,hm,A,h2,h3,h4⟩
    .grind
    .simp only[Sl.mk.injEq]at H;obtain⟨rfl,rfl,rfl⟩:=H;exact .inr ⟨b,_,a1,rfl,Nat.zero_le _,M.wrel.msat b _ hm,A,h2,cg,cg⟩
   have b4:∀b,Value.ownBlock (.slice X n cp)=some b->σ.m b≠none:=by
    intro b r;rcases t.ex with⟨H,e2⟩|⟨b',a5,a1,H,hm,_⟩
    .simp only[Sl.mk.injEq]at H;obtain⟨rfl,rfl,rfl⟩:=H;simp[Value.ownBlock]at r
    .simp only[Sl.mk.injEq]at H;obtain⟨rfl,rfl,rfl⟩:=H;simp[Value.ownBlock]at r
     grind
   obtain⟨L,U,a6,J,f,I,D,F⟩:=xD (P:=C.P) w T tx o.type E Z zv hu hi hv a2 (.slice X n cp) s.length s.flatten b3 (a.eval y) N.length N.flatten v (by unfold maxLen;omega) O;rw[<-flatten_append, <-ct]at J
   obtain⟨S,n',V,rfl⟩:∃S n' V,L= .slice S n' V:=by
    rcases J.2 with⟨e,_⟩|⟨g,a5,a1,e,_⟩
    .grind
    grind
   let m':MH:=λb=>if Value.ownBlock (.slice S n' V)=some b then U.heap[b]? else σ.m b
   have b1:∀b,Value.ownBlock (.slice S n' V)=some b->m' b=U.heap[b]? :=λb r=>cg
   obtain⟨c3,hk⟩:=bdQ (m':=m') M f b4 (by
    intro b ob r;by_cases H:Value.ownBlock (.slice S n' V)=some b
    .grind
    .simp only[m',if_neg H]at r;refine⟨?_,.inl cg⟩;have A:=M.wrel.msat b ob r;rcases F with⟨_,_,_,_,_,a7,a8⟩|F
     .simp only[Value.slice.injEq]at a7 a8;obtain⟨rfl,rfl,rfl⟩:=a7;obtain⟨rfl,rfl,rfl⟩:=a8;rw[f.block b (Array.getElem?_eq_some_iff.1 A).1 λe=>H (by cases S<;>exact e)];exact A
     .rw[F b (Array.getElem?_eq_some_iff.1 A).1];exact A)
   unfold Oper.wp;rw[W _ U (by rw[G];exact a6),Oper.upon_value,hd];refine R ι _ _ _ (c3.put (some d) (x:=.at (.val (.slice S n' V))) rfl) (h ⟨S,n',V⟩ m' ⟨⟨?_,?_⟩,?_,?_,?_⟩) (hk o (by rw[ho];rfl))
   .exact DH a0 hr
   .rcases J.2 with⟨H,e2⟩|⟨b,a5,a1,H,_,hh,A,h2,h3,h4⟩
    .grind
    .simp only[Value.slice.injEq]at H;obtain⟨rfl,rfl,rfl⟩:=H;exact .inr ⟨b,_,a1,rfl,by rw[b1 b rfl];exact hh,A,h2,h3,h4⟩
   .intro b ob r c4
    have e2:Value.ownBlock (.slice X n cp)≠some b:=by
     intro e;rcases t.ex with⟨H,_⟩|⟨b',a5,a1,H,hm,_⟩
     .simp only[Sl.mk.injEq]at H;obtain⟨rfl,rfl,rfl⟩:=H;simp[Value.ownBlock]at e
     .simp only[Sl.mk.injEq]at H;obtain⟨rfl,rfl,rfl⟩:=H;simp[Value.ownBlock]at e
      grind
    have H:Value.ownBlock (.slice S n' V)≠some b:=by
     intro e;rcases I b e with A|A
     .have:=(Array.getElem?_eq_some_iff.1 (M.wrel.msat b ob r)).1;omega
     grind
    simp only[m',if_neg H];exact r
   .intro b i e;have e:S=some ⟨b,i,none⟩:=e;rcases I b (by rw[e];rfl)with A|A
    .left;cases e2:σ.m b with
     |none=>rfl
     |some x=>have:=(Array.getElem?_eq_some_iff.1 (M.wrel.msat b x e2)).1;omega
    .right;rcases t.ex with⟨H,_⟩|⟨b',a5,a1,H,hm,_⟩
     .simp only[Sl.mk.injEq]at H;obtain⟨rfl,rfl,rfl⟩:=H;simp[Value.ownBlock]at A
     .simp only[Sl.mk.injEq]at H;obtain⟨rfl,rfl,rfl⟩:=H;simp[Value.ownBlock]at A
      grind
   .rcases F with⟨_,_,_,_,_,a7,a8⟩|F
    .simp only[Value.slice.injEq]at a7 a8;exact .inl (by rw[a8.1,a7.1])
    .refine .inr λb ob r=>?_;have A:=M.wrel.msat b ob r;by_cases H:Value.ownBlock (.slice S n' V)=some b
     .rw[b1 b H,F b (Array.getElem?_eq_some_iff.1 A).1];exact A
     .simp only[m',if_neg H];exact r
  split at h
  .rename_i X n cp d4 d5 a';have G:=M.ev x;rw[a']at G;have G:a.eval x= .slice X n cp:=G;obtain⟨rfl,s,Y,t,h⟩:=h;obtain⟨N,hr,v,c4,O,a9,h⟩:=Ue M h;rw[a3]at hr v h Y t;rw[a4]at O;have hn:cp=s.length:=t.len;subst hn
   have fin:∃L U,(Builtin.append_ #[T,tx] o.type #[.slice X s.length s.length,a.eval y]).run C.P w= .ok L U/\U.ownsRow 0 E Z.size L (s.length+N.length) (s++N).flatten/\D6 (λ_=>False) w U/\
    (∀b,L.ownBlock=some b->w.heap.size<=b)/\L.oneCell'=true:=by
    cases X with
    |none=>
     have c5:s=[]:=by
      rcases t.row with e|⟨b,off,e,_⟩
      .exact e
      .cases e
     subst c5;obtain⟨L,U,A,h2,h3,h4,h5,_⟩:=xD (P:=C.P) w T tx o.type E Z zv hu hi hv a2 (.slice none 0 0) 0 [] (World.ownsRow_nil w 0 E Z.size) (a.eval y) N.length N.flatten v (by unfold maxLen;omega) aC;refine⟨L,U,A,cg,h3.mono (λb r=>by simp[Value.ownBlock]at r),λb r=>?_,h5⟩;rcases h4 b r with e|e
     .exact e
     .simp[Value.ownBlock]at e
    |some X=>
     have hy:0<N.length:=by
      grind
     have d6:=Uf (P:=C.P) (w:=w) (tx:=T) hu Y t M.wrel.hsat;have c6:s.length+N.length<=maxLen:=by unfold maxLen;omega
     have b9:(s.flatten++N.flatten).length=(s.length+N.length)*Z.size:=by rw[ct,dH Y.len,dH hr.len,Nat.add_mul]
     have c7:=grownCap_ge w (s.length+N.length) s.length E;have c8:grownCap w (s.length+N.length) s.length E<=maxLen:=grownCap_le_maxLen w _ _ E c6
     have c':(Builtin.firstCells Z.size s.length (.slice (some X) s.length s.length)).run C.P w.drew= .ok s.flatten.toArray w.drew:=by
      rcases t.row with rfl|⟨b,off,e,hc⟩
      .simp[Builtin.firstCells,loadCells,loadCellsFrom]
      .have e:some X=some ⟨b,off,none⟩:=e;cases e;refine run_firstCells_some w.drew Z.size s.length ⟨b,off,none⟩ s.length s.length s.flatten (dH Y.len) λj u hj=>?_;obtain⟨i,e,q,A,h2,rfl⟩:=GL Y.len hj;rw[Addr.add_none];have:=M.wrel.hsat _ _ _ ((hc i e A).rd q u h2);rw[<-Nat.add_assoc];exact this
     have c9:=run_append_grow_src (P:=C.P) w T tx o.type E Z zv hu hi hv (some X) s.length s.length s.flatten c' (a.eval y) N.length N.flatten v aC aC (growslice_fits aC O);refine⟨_,_,c9,⟨?_,.inr ⟨w.heap.size,_,_,rfl,Nat.zero_le _,heap_alloc_new w.drew _,c7,c8,?_,?_⟩⟩,⟨rfl,rfl,rfl,Nat.le_succ _,bx,λk hk _=>heap_alloc_old w.drew _ k hk⟩,λb r=>by simp[Value.ownBlock]at r;omega,rfl⟩
     .grind
     .simp only[Array.size_append,size_toArray,size_zeroCells,a2,b9, <-Nat.add_mul]
      grind
     grind
   obtain⟨L,U,a6,p,f,I,D⟩:=fin;rw[<-ct]at p;unfold Oper.wp;rw[W L U cg,Oper.upon_value,hd];refine R (upd ι d L) _ _ _ ?_ h ?_
   .refine aL.put ?_ (some d) (by show _=_;simp);exact M.place d _ L (f.mono (λb r=>r.elim)) ⟨DH Y hr,p⟩ D (λb r=>.inl (I b (Ai p r)))
   .exact FB M d (λ_=>CJ hd) (λb r _=>f.block b r (λA=>A.elim)) (λhg=>by rw[ho]at hg;simp[A2]at hg) (λl e=>by simp_all [tE])
  .grind
  rename_i b5 c0;clear c0 b5;split at h
  .rename_i a';have G:=M.ev x;rw[a']at G;have G:a.eval x= .slice none 0 0:=G;split at h
   .rename_i n d'
    obtain⟨kn,kq,d0,d1⟩:∃kn kq,C.P.underlying tx=some (.int kn)/\σ.ev y= .at (.val (.int kq n)):=by
     unfold alJ at d'
     grind
    have hy:=M.ev y;rw[d1]at hy;have hy:a.eval y= .int kq n:=hy;obtain⟨h0,O,a9,h⟩:=h;rw[a3]at h;rw[a4]at O;obtain⟨k,rfl⟩:∃k:Nat,n=k:=⟨n.toNat,aC⟩
    have c1:k*Z.bytes<=140737488355328:=by omega
    obtain⟨L,U,a6,p,f,I,D⟩:=LD (P:=C.P) w T tx o.type E Z zv kq kn hu d0 hi hv a2 aC k aC c1 aC;unfold Oper.wp;rw[W L U cg,Oper.upon_value,hd];refine R (upd ι d L) _ _ _ ?_ h ?_
    .refine aL.put ?_ (some d) (by show _=_;simp);refine M.place d _ L (f.mono (λb r=>r.elim)) ⟨?_,?_⟩ D (λb r=>.inl (I b (Ai p r)))
     .exact pP aC b8 _
     grind
    .exact FB M d (λ_=>CJ hd) (λb r _=>f.block b r (λA=>A.elim)) (λhg=>by rw[ho]at hg;simp[A2]at hg) (λl e=>by simp_all [tE])
   .obtain⟨N,hr,v,O,a9,h⟩:=Ue M h;rw[a3]at hr v h;rw[a4]at O;obtain⟨L,U,a6,p,f,I,D,F⟩:=xD (P:=C.P) w T tx o.type E Z zv hu hi hv a2 (.slice none 0 0) 0 [] (World.ownsRow_nil w 0 E Z.size) (a.eval y) N.length N.flatten v (by unfold maxLen;omega) cg;simp only[Nat.zero_add,nil_append]at p;unfold Oper.wp;rw[W L U cg,Oper.upon_value,hd];refine R (upd ι d L) _ _ _ ?_ h ?_
    .refine aL.put ?_ (some d) (by show _=_;simp);refine M.place d _ L (f.mono (λb r=>by simp[Value.ownBlock]at r)) ⟨hr,p⟩ D (λb r=>?_);rcases I b (Ai p r)with A|A
     .omega
     .simp[Value.ownBlock]at A
    .exact FB M d (λ_=>CJ hd) (λb r _=>f.block b r (λA=>by simp[Value.ownBlock]at A)) (λhg=>by rw[ho]at hg;simp[A2]at hg) (λl e=>by simp_all [tE])
  .rename_i k a';have G:=M.ev x;rw[a']at G;have G:a.eval x=ι k:=G;split at h
   .rename_i E' sz s p d2;split at h
    .rename_i b6 b0;have b6:=da b6;have b0:=da b0;subst b6;rw[a3]at b0;subst b0;obtain⟨N,hr,v,O,a9,h⟩:=Ue M h;rw[a4]at O;obtain⟨Y,b3⟩:=sE M p;obtain⟨L,U,a6,J,f,I,D,F⟩:=xD (P:=C.P) w T tx o.type E' Z zv hu hi hv a2 (ι k) s.length s.flatten b3 (a.eval y) N.length N.flatten v (by unfold maxLen;omega) O;rw[<-flatten_append, <-ct]at J;unfold Oper.wp;rw[W L U cg,Oper.upon_value,hd];refine R (upd ι k L) _ _ _ ?_ h ?_
     .refine aL.put ?_ (some d) (by show _=_;simp);refine M.place k _ L (f.mono (λb r=>⟨⟨_,p⟩,Ek r⟩)) ⟨DH Y hr,J⟩ D (λb r=>?_);rcases I b (Ai J r)with A|A
      .omega
      .exact .inr ⟨⟨_,p⟩,Ek A⟩
     .refine FB M k (λ⟨p',T',d7,e⟩=>cg) (λb r hn=>f.block b r (λA=>hn ⟨⟨_,p⟩,Ek A⟩)) (λhg=>by rw[ho]at hg;simp[A2]at hg) (λl e=>by simp_all [tE])
    grind
   grind
  .grind
  grind
 grind
theorem aL.rewrite(d:aL B ι σ a w){k:Nat}{t h:Own}{w':World}(p:nth σ.own k=some (some t))(u:D6 (λb=>blk (ι k)=some b) w w')(y:D9 ι w' (ι k) h):
 aL B ι (σ.setOwn k (some h)) a w':=by
 have c:∀j m,nth (σ.setOwn k (some h)).own j=some (some m)->(j=k/\m=h)\/(j≠k/\nth σ.own j=some (some m)):=by
  intro j m l;simp only[St.setOwn,Aj]at l;by_cases e:j=k
  .subst e;by_cases z:j<σ.own.length
   .grind
   .simp[z,jI]at l
  grind
 refine⟨d.slots,d.defers,?_,?_,?_,?_,d.one⟩
 .intro j m l;rcases c j m l with⟨rfl,rfl⟩|⟨n,i⟩
  .exact y
  .have q:=d.own j m i;refine q.world (λb f=>u.block b (rC q f) (λg=>n (d.dist j k _ _ b i p f g)))
 .intro j A s D b l i f g;rcases c j s l with⟨rfl,rfl⟩|⟨n,r⟩<;>rcases c A D i with⟨rfl,rfl⟩|⟨v,x⟩
  .rfl
  .exact d.dist _ _ _ _ b p x f g
  .exact d.dist _ _ _ _ b r p f g
  .exact d.dist _ _ _ _ b r x f g
 .intro j s b l f;rcases c j s l with⟨rfl,rfl⟩|⟨n,r⟩
  .exact d.fresh _ _ b p f
  .exact d.fresh _ _ b r f
 .exact d.wrel.ext u (λb f=>d.fresh k t b p f)
theorem JB(e:∀k,(ι k).oneCell'=true):∀{cs:dz}{vs:dj},tG cs=true->iW ι cs vs->∀v∈vs,v.oneCell'=true
 |[],[],_,_,v,f=>by cases f
 |x::cs,u::vs,g,j,v,f=>by
  simp only[tG]at g;split at g
  .rename_i l;rcases mem_cons.1 f with rfl|f
   .have d:=j.1;cases x with
    |val m=>
     have:v=m:=d;subst this;cases v<;>first|rfl|(simp[At.storable]at l)
    |ptr k off=>obtain⟨b,_,rfl⟩:=d;rfl
    |lst k=>have:v=ι k:=d;grind
    |el k i p off=>obtain⟨b,n,c,_,rfl⟩:=d;rfl
    |junk=>simp[At.storable]at l
   .exact JB e g j.2 v f
  grind
 |[],_::_,_,h,_,_=>h.elim
 |_::_,[],_,h,_,_=>h.elim
theorem Uj{P:Program}{T:TypeId}{w:World}{g off:Nat}{b:Array Value}{E:TypeId}{v:Value}(h:jE P T=true)(e:v.cells.size=P.cellsOf T)(j:w.heap[g]? =some (.cells b E (0,0)))
 (k:off+v.cells.size<=b.size)(l:∀u∈v.cells.toList,u.oneCell'=true):
 (storeVar T ⟨g,off,none⟩ v).run P w= .ok () (w.setRow g (splice b.toList off v.cells.toList).toArray):=by
 obtain⟨i,d,m,p,n,f⟩:=fZ h;have c:=run_storeCells_at P g off E v.cells.toList 0 b w j aC l;simp only[Nat.add_zero]at c;unfold storeVar;rw[n]at e;simp only[Sem.run_bind,run_sizeOf m,Result.andThen_ok];rw[if_neg aC];simp only[c,splice]
theorem Gd(w:World)(g:Nat)(cs:Array Value):D6 (λb=>b=g) w (w.setRow g cs):=
 ⟨rfl,rfl,rfl,Nat.le_refl _,bx,λb _ c=>setRow_other w g b cs c⟩
theorem Ge{cs:dz}{l vs:dj}(c:wP cs=some l)(b:iW ι cs vs):vs=l:=by
 rw[Gf c,iW.vals]at b;exact b
theorem flatten_set{sz:Nat}{l:dj}:∀{xs:List dj}{i:Nat}{e:dj}{off:Nat},(∀e∈xs,e.length=sz)->xs[i]? =some e->off+l.length<=e.length->
 splice xs.flatten (i*sz+off) l=(xs.set i (splice e off l)).flatten
 |[],i,e,off,_,b,_=>by simp at b
 |x::xs,0,e,off,d,b,c=>by
  simp at b;subst b;simp only[splice,Nat.zero_mul,Nat.zero_add,flatten_cons,set_cons_zero,append_assoc]
  grind
 |x::xs,i+1,e,off,d,b,c=>by
  simp only[getElem?_cons_succ]at b;have j:x.length=sz:=d x bx;have f:=flatten_set (λe g=>d e (by simp[g])) b c;rw[set_cons_succ,flatten_cons,flatten_cons, <-f];simp only[splice];have h:(i+1)*sz+off=x.length+(i*sz+off):=cg
  rw[h,take_length_add_append,show x.length+(i*sz+off)+l.length=x.length+(i*sz+off+l.length)by omega,drop_length_add_append];simp
theorem Rb{sz:Nat}{xs:List dj}{i off:Nat}{e l:dj}(c:cZ sz xs)(n:xs[i]? =some e)(f:off+l.length<=e.length)(p:∀u∈l,u.oneCell'=true):
 cZ sz (xs.set i (splice e off l)):=by
 have b:e∈xs:=cr n;constructor
 .intro g j;rcases mem_or_eq_of_mem_set j with h|h
  .exact c.len g h
  .rw[h,DG _ _ _ f];exact c.len e b
 .intro g j u d;rcases mem_or_eq_of_mem_set j with h|h
  .exact c.one g h u d
  .rw[h]at d;unfold splice at d;rcases mem_append.1 d with k|k
   .rcases mem_append.1 k with m|m
    .exact c.one e b u (mem_of_mem_take m)
    grind
   .exact c.one e b u (mem_of_mem_drop k)
theorem MY(u l:dj)(p N:Nat)(b:p+l.length<=N)(c:N<=u.length):(splice u p l).take N=splice (u.take N) p l:=by
 apply ext_getElem?;intro j;simp only[splice,getElem?_take,getElem?_append,ct,length_take,getElem?_drop]
 grind
theorem Vx(y:aL B ι σ a w){T:Nat}{x v:Operand}(Z:o.op= .store T x v)(a':o.dst=none)(h:Ud C T x v σ K):Vi B C ι o σ K a w:=by
 intro next Q I
 have D:=y.ev x;unfold Ud at h;split at h
 .exact h.elim
 .rename_i new a0;split at h
  .rename_i U a6 hT;have U:=da U;have hd:=Cb y.one (y.ev v) a0;have h1:=JB y.one a6 hd;have b8:new.length=(a.eval v).cells.size:=by have:=hd.length;omega
   have J:∀g off z E,a.eval x= .pointer (some ⟨g,off,none⟩)->w.heap[g]? =some (.cells z E (0,0))->off+(a.eval v).cells.size<=z.size->
    (execOp a.eval o).run C.P w= .ok .skip (w.setRow g (splice z.toList off (a.eval v).cells.toList).toArray):=by
    intro g off z E V H F;unfold execOp;simp only[Z,V,Instr.storeAt,Instr.sureAddr,Sem.run_bind,Sem.run_pure,Result.andThen_ok,Uj hT aC H F h1]
   have oZ:a.put o.dst undef=a:=by rw[a'];rfl
   split at h
   .rename_i k off V;rw[V]at D;split at h
    .rename_i p E N A;split at h
     .rename_i F;have F:=Nat.le_of_ble_eq_true F;obtain⟨b,vs,O,hh,a1⟩:=wS y A;obtain⟨d,f,hp⟩:=D;rw[O]at f;simp only[Value.pointer.injEq,cw,Addr.mk.injEq]at f;obtain⟨rfl, -, -⟩:=f;have b9:N.length=vs.size:=by have:=a1.length;omega
      unfold Oper.wp;rw[J b off vs E hp hh aC,Oper.upon_skip,oZ];have a7:blk (ι k)=some b:=by rw[O];rfl
      have j:=Gd w b (splice vs.toList off (a.eval v).cells.toList).toArray;refine I ι _ _ _ (y.rewrite A (j.mono (λd f=>cg)) ?_) h ?_
      .exact⟨b,_,O,setRow_heap w b vs _ E _ hh,cm (a1.splice off hd),λq e=>by subst e;have:=aoQ y A;grind⟩
      .refine FB y k (λ_=>?_) (λd f hn=>j.block d f (λe=>hn ⟨⟨_,A⟩,cg⟩)) (λH=>by rw[Z]at H;simp[A2]at H) (λl e=>by simp_all [tE]);unfold Ag;simp[Z,V]
     grind
    grind
   .rename_i k i sz off V;rw[V]at D;split at h
    .rename_i E s xs l A hl;split at h
     .rename_i hs;have hs:=da hs;subst hs;obtain⟨e,he,F,h⟩:=h;obtain⟨hr,a2⟩:=sE y A;obtain⟨b,n,c,O,hp⟩:=D;have R:(a.eval v).cells.toList=l:=Ge hl hd;rcases a2.2 with⟨hv,hn⟩|⟨g,c',z,hv,_,H,a8,a9,c0,W⟩
      .grind
      .rw[O]at hv;simp only[Value.slice.injEq,cw,Addr.mk.injEq]at hv;obtain⟨⟨rfl, -, -⟩,rfl,rfl⟩:=hv;have b0:i<xs.length:=(cn he);have c1:e.length=s:=hr.len e (cr he);have b1:(a.eval v).cells.size=l.length:=cg
       have b2:=dH hr.len
       have b3:i*s+off+l.length<=xs.length*s:=by
        have:(i+1)*s<=xs.length*s:=Nat.mul_le_mul_right _ b0
        grind
       have b7:xs.length*s<=c*s:=Nat.mul_le_mul_right _ a8;unfold Oper.wp;rw[J b (i*s+off) z E hp H aC,Oper.upon_skip,oZ];have a7:blk (ι k)=some b:=by rw[O];rfl
       have j:=Gd w b (splice z.toList (i*s+off) (a.eval v).cells.toList).toArray;have a3:∀u∈l,u.oneCell'=true:=cg
       refine I ι _ _ _ (y.rewrite A (j.mono (λd f=>cg)) ?_) h ?_
       .have a4:=Rb hr he F a3;refine⟨a4,dH a4.len,.inr ⟨b,c,_,cg,Nat.zero_le _,setRow_heap w b z _ E _ H,cg,a9,?_,?_⟩⟩
        .simp only[size_toArray,R];rw[DG]
         .omega
         grind
        .rw[length_set];rw[<-flatten_set hr.len he F,R, <-W];have c2:z.toList.length=c*s:=by omega
         exact MY z.toList l (i*s+off) (xs.length*s) b3 aC
       .refine FB y k (λ⟨p',T',b4,e'⟩=>cg) (λd f b5=>j.block d f (λe'=>b5 ⟨⟨_,A⟩,cg⟩)) (λH=>by rw[Z]at H;simp[A2]at H) (λl e=>by simp_all [tE])
     grind
    grind
   .rename_i b off V;rw[V]at D;have D:a.eval x= .pointer (some ⟨b,off,none⟩):=D;split at h
    .rename_i l hl;obtain⟨N,E,X,F,h⟩:=h;have R:(a.eval v).cells.toList=l:=Ge hl hd;have b1:(a.eval v).cells.size=l.length:=cg
     have H:=y.wrel.msat b _ X.at_
     let m':MH:=λd=>if d=b then some (.cells (splice N.toList off l).toArray E (0,0))else σ.m d
     unfold Oper.wp;rw[J b off N E D H aC,Oper.upon_skip,oZ,R];have j:=Gd w b (splice N.toList off l).toArray
     have a5:∀k S,nth σ.own k=some (some S)->blk (ι k)≠some b:=by
      intro k S A hb;have:=(y.fresh k S b A hb).2.1;rw[X.at_]at this;cases this
     refine I ι {σ with m:=m'} _ _ ?_ (h m' ⟨by simp[m'],λd f=>cg⟩) ?_
     .refine⟨y.slots,y.defers,?_,y.dist,?_,?_,y.one⟩
      .intro k S A;exact(y.own k S A).world (λd f=>j.block d (rC (y.own k S A) f) (λe=>a5 k S A (e▸f)))
      .intro k S d A f;obtain⟨f1,f2,f3⟩:=y.fresh k S d A f
       grind
      .have G:=y.wrel;refine⟨G.tape,G.os,G.output,G.drawn,dg G.size j.size,?_,?_,?_,?_,G.hle,G.hold,?_⟩
       .intro d f hE
        have L:d≠b:=λe=>by
         subst e;rcases G.mfr d _ X.at_ with M|M
         .omega
         grind
        rw[j.block d (dh f G.size) L];exact G.frame d f hE
       .intro d t u Y;have L:d≠b:=λe=>by subst e;rw[G.disj d _ X.at_ t]at Y;cases Y
        have M:=G.hsat d t u Y;rw[<-M];exact World.cell?_of_block (w:=w) (a:=⟨d,t,none⟩) (j.block d (World.block_lt_of_cell? w ⟨d,t,none⟩ M) L)
       .intro d ob f;have r:(if d=b then some (Obj.cells (splice N.toList off l).toArray E (0,0))else σ.m d)=some ob:=f;by_cases e:d=b
        .subst e;rw[if_pos rfl]at r;rw[setRow_heap w d N _ E _ H];exact r
        .rw[if_neg e]at r;have M:=G.msat d ob r;rw[j.block d (Array.getElem?_eq_some_iff.1 M).1 e];exact M
       .intro d ob f i;have r:(if d=b then some (Obj.cells (splice N.toList off l).toArray E (0,0))else σ.m d)=some ob:=f;by_cases e:d=b
        .subst e;exact G.disj d _ X.at_ i
        .rw[if_neg e]at r;exact G.disj d _ r i
       .intro d ob f;have r:(if d=b then some (Obj.cells (splice N.toList off l).toArray E (0,0))else σ.m d)=some ob:=f;by_cases e:d=b
        .subst e;exact G.mfr d _ X.at_
        .rw[if_neg e]at r;exact G.mfr d _ r
     .constructor
      .intro k p' T' b4 d A ht O;exact j.block d (rC (y.own k _ A) (by rw[O];rfl)) (λe=>a5 k _ A (by rw[O, <-e];rfl))
      .intro d t u Y;have L:d≠b:=λe=>by subst e;rw[y.wrel.disj d _ X.at_ t]at Y;cases Y
       have M:=y.wrel.hsat d t u Y;rw[<-M];exact World.cell?_of_block (w:=w) (a:=⟨d,t,none⟩) (j.block d (World.block_lt_of_cell? w ⟨d,t,none⟩ M) L)
      .intro H;rw[Z]at H;simp[A2]at H
      .intro l' d b6;simp[tE,Z]at b6
    grind
   grind
  grind
end
end Go.Vc
namespace Go.Vc
open Go List
section
variable{B:tI}{C:Ctx}{ι:du}{σ:St}{a:Act}{w:World}{o:Oper}{K:St->Prop}
theorem lP(c:aL B ι σ a w):Js σ ι o w w:=
 ⟨λ_ _ _ _ _ _ _ _=>rfl,λb off v d=>c.wrel.hsat b off v d,λ_ _ _=>rfl,λ_ _ _ _ _ _=>rfl⟩
theorem VD(q:aL B ι σ a w){T:Nat}{x:Operand}{lo hi mx:Option Operand}(L:o.op= .slice T x lo hi mx)(h:Ug C o T x lo hi mx σ K):Vi B C ι o σ K a w:=by
 intro next Q l
 have d:=q.ev x;unfold Ug at h;split at h
 .rename_i k n A;rw[A]at d;have d:a.eval x=ι k:=d;have c:=q.ev n;split at h
  .rename_i E O u D i E' R F y;rw[F]at c;have c:a.eval n= .int D i:=c;split at h
   case h_2=>exact h.elim
   rename_i r;obtain⟨G,I,h⟩:=h;obtain⟨hr,M⟩:=sE q R;have H:cZ O (u.take i.toNat):=⟨λe Y=>hr.len e (mem_of_mem_take Y),λe Y=>hr.one e (mem_of_mem_take Y)⟩
   have v:(u.take i.toNat).length=i.toNat:=cg
   obtain⟨S,_,p,_⟩:=fZ r;rcases M.2 with⟨U,a6⟩|⟨g,m,Z,U,a7,hg,a8,a',a0,J⟩
   .have a1:i=0:=by omega
    subst a1
    have f:(execOp a.eval o).run C.P w= .ok (.value (.slice none 0 0)) w:=by
     unfold execOp;simp[L,d,U,c,Instr.sliceAt,run_underlying y,Instr.slice,Instr.sliceBounds,Instr.sliceBound,asIntOf,run_sizeOf p]
    unfold Oper.wp;rw[f,Oper.upon_value];refine l (upd ι k (.slice none 0 0)) _ _ _ ?_ h (lP q);refine aL.put ?_ o.dst (by show _=_;simp);refine q.place k _ _ (D6.refl _ _) ⟨H,?_⟩ rfl (λb hb=>cg)
    grind
   .have f:(execOp a.eval o).run C.P w= .ok (.value (.slice (some ⟨g,0,none⟩) i.toNat m)) w:=by
     have a2:i<=(m:Int):=by omega
     unfold execOp;simp[L,d,U,c,Instr.sliceAt,run_underlying y,Instr.slice,Instr.sliceBounds,Instr.sliceBound,asIntOf,run_sizeOf p,G,a2,Addr.add_none]
    unfold Oper.wp;rw[f,Oper.upon_value];refine l (upd ι k (.slice (some ⟨g,0,none⟩) i.toNat m)) _ _ _ ?_ h (lP q);refine aL.put ?_ o.dst (by show _=_;simp);refine q.place k _ _ (D6.refl _ _) ⟨H,dH H.len,.inr ⟨g,m,Z,by rw[v],Nat.zero_le _,hg,aC,a',a0,?_⟩⟩ rfl (λb hb=>.inr ⟨⟨_,R⟩,by rw[U];exact hb⟩);rw[v]
    have N:(u.take i.toNat).flatten=u.flatten.take (i.toNat*O):=by
     have:u=u.take i.toNat++u.drop i.toNat:=(take_append_drop _ _).symm;rw[show u.flatten=(u.take i.toNat).flatten++(u.drop i.toNat).flatten by grind];rw[take_left'];rw[dH H.len,v]
    rw[N, <-J,take_take];congr 1;have:i.toNat*O<=u.length*O:=Nat.mul_le_mul_right _ aC;omega
  grind
 .rename_i z len m n A;rw[A]at d;have d:a.eval x= .slice z len m:=d;have c:=q.ev n;split at h
  .rename_i D i E' F y;rw[F]at c;have c:a.eval n= .int D i:=c;split at h
   case h_2=>exact h.elim
   rename_i r;obtain⟨G,I,h⟩:=h;obtain⟨S,_,p,_⟩:=fZ r
   have f:(execOp a.eval o).run C.P w= .ok (.value (.slice z i.toNat m)) w:=by
    unfold execOp;simp[L,d,c,Instr.sliceAt,run_underlying y,Instr.slice,Instr.sliceBounds,Instr.sliceBound,asIntOf,run_sizeOf p,G,I];cases z<;>simp[Addr.add]
   unfold Oper.wp;rw[f,Oper.upon_value];exact l ι _ _ _ (q.put o.dst (x:=.at (.val _)) rfl) h (lP q)
  grind
 .rename_i z len m n k A;rw[A]at d;have d:a.eval x= .slice z len m:=d;have c:=q.ev n;have t:=q.ev k;split at h
  .rename_i D i kj j E' F R y;rw[F]at c;rw[R]at t;have c:a.eval n= .int D i:=c;have t:a.eval k= .int kj j:=t;split at h
   case h_2=>exact h.elim
   rename_i r;obtain⟨G,I,h2,h⟩:=h;obtain⟨S,_,p,_⟩:=fZ r
   have f:(execOp a.eval o).run C.P w= .ok (.value (.slice z i.toNat j.toNat)) w:=by
    have V:0<=j:=by omega
    have W:max j 0=j:=by omega
    unfold execOp;simp[W,L,d,c,t,Instr.sliceAt,run_underlying y,Instr.slice,Instr.sliceBounds,Instr.sliceBound,asIntOf,run_sizeOf p,G,I,h2,V];cases z<;>simp[Addr.add]
   unfold Oper.wp;rw[f,Oper.upon_value];exact l ι _ _ _ (q.put o.dst (x:=.at (.val _)) rfl) h (lP q)
  grind
 .rename_i z len m n A;rw[A]at d;have d:a.eval x= .slice z len m:=d;have c:=q.ev n;split at h
  .rename_i D i E' F y;rw[F]at c;have c:a.eval n= .int D i:=c;split at h
   case h_2=>exact h.elim
   rename_i r;obtain⟨G,I,hc,h⟩:=h;obtain⟨S,_,p,a9,a3,a5⟩:=fZ r;have a4:=run_sizeOf p;obtain⟨s,X⟩:∃s:Sl,zC (C.P.cellsOf E') ⟨z,len,m⟩ i.toNat s:=⟨⟨_,_,_⟩,rfl,rfl,rfl⟩
   have f:(execOp a.eval o).run C.P w= .ok (.value (.slice s.a s.len s.cap)) w:=by
    have V:=X.a_;have W:=X.len;have h5:=X.cap;dsimp only at V W h5;unfold execOp;simp[L,d,c,Instr.sliceAt,run_underlying y,Instr.slice,Instr.sliceBounds,Instr.sliceBound,asIntOf,a4,G,I,V,W,h5,a3]
   unfold Oper.wp;rw[f,Oper.upon_value];exact l ι _ _ _ (q.put o.dst (x:=.at (.val _)) rfl) (h s X) (lP q)
  grind
 .rename_i b off n A;rw[A]at d;have d:a.eval x= .pointer (some ⟨b,off,none⟩):=d;have c:=q.ev n;split at h
  .rename_i D i len E' F y;rw[F]at c;have c:a.eval n= .int D i:=c;split at h
   case h_2=>exact h.elim
   rename_i r;obtain⟨G,I,h⟩:=h;obtain⟨S,_,p,_⟩:=fZ r
   have f:(execOp a.eval o).run C.P w= .ok (.value (.slice (some ⟨b,off,none⟩) i.toNat len)) w:=by
    unfold execOp;simp[L,d,c,Instr.sliceAt,run_underlying y,Instr.sliceBounds,Instr.sliceBound,asIntOf,run_sizeOf p,G,I,Instr.sureAddr,asAddr,Addr.add]
   unfold Oper.wp;rw[f,Oper.upon_value];exact l ι _ _ _ (q.put o.dst (x:=.at (.val _)) rfl) h (lP q)
  grind
 grind
structure Ld(ι:du)(σ σ':St)(ks:ed):Prop where
 cells:∀k p T cs,nth σ.own k=some (some (.cellsP p T cs))->k∉ks->∃cs',nth σ'.own k=some (some (.cellsP p T cs'))
 imm:σ'.h=σ.h
 lst:∀x k,σ'.ev x= .at (.lst k)->σ.ev x= .at (.lst k)
 m_:∀b,σ.m b=none->σ'.m b≠none->∃k∈ks,blk (ι k)=some b
theorem Qu{σ:St}{k:Nat}{f:At->At}{m:MH}{h:PH}{own:ez}(d:∀x j,f x≠ .lst j){x:Operand}{j:Nat}(c:St.ev {sl:=σ.sl.map (SV.sub k f),own:=own,m:=m,h:=h} x= .at (.lst j)):σ.ev x= .at (.lst j):=by
 rcases adJ σ k f m h own x with b|⟨v,b⟩
 .exact amZ d (b▸c)
 .rcases b with rfl|⟨g,rfl⟩|⟨g,rfl⟩<;>exact c
theorem czJ(s:aL B ι σ a w){k T:Nat}{p:Option Nat}{cs:dz}{l:dj}(D:nth σ.own k=some (some (.cellsP p T cs)))(J:wP cs=some l):
 ∃(b:Nat)(m':MH),lZ σ.m σ.h b/\iD σ.m m' b (.cells l.toArray T (0,0))/\
  aL B ι {(σ.sub k (λ |.ptr _ o=>.val (.pointer (some ⟨b,o,none⟩))|_=>.junk)).setOwn k none with m:=m'} a w/\
  Ld ι σ {(σ.sub k (λ |.ptr _ o=>.val (.pointer (some ⟨b,o,none⟩))|_=>.junk)).setOwn k none with m:=m'} [k]:=by
 obtain⟨b,L,H,M,E⟩:=wS s D;have N:L.toList=l:=Ge J E;have u:blk (ι k)=some b:=by rw[H];rfl
 obtain⟨V,O,I⟩:=s.fresh k _ b D u
 let m':MH:=λf=>if f=b then some (.cells l.toArray T (0,0))else σ.m f
 have g:aL B ι ((σ.sub k (λ |.ptr _ o=>.val (.pointer (some ⟨b,o,none⟩))|_=>.junk)).setOwn k none) a w:=by
  have:=s.drop k (ι k) (s.one k) (λ |.ptr _ o=>.val (.pointer (some ⟨b,o,none⟩))|_=>.junk) (by
   intro x v A E;cases x<;>simp only[At.key,cw,reduceCtorEq]at A
   case lst=>trivial
   case el=>trivial
   case ptr j off=>
    subst A;obtain⟨f,d,P⟩:=E;rw[H]at d;simp only[Value.pointer.injEq,cw,Addr.mk.injEq]at d;obtain⟨rfl, -, -⟩:=d;exact P)
  rwa [Jx]at this
 have r:∀j y,nth ((σ.sub k (λ |.ptr _ o=>.val (.pointer (some ⟨b,o,none⟩))|_=>.junk)).setOwn k none).own j=some (some y)->blk (ι j)≠some b:=by
  intro j y t Q;obtain⟨r,W,F,_⟩:=qH t;exact r (s.dist j k _ _ b F D Q u)
 refine⟨b,m',⟨O,I⟩,⟨by simp[m'],λf d=>cg⟩,⟨g.slots,g.defers,g.own,g.dist,?_,?_,g.one⟩,?_⟩
 .intro j y f t d;obtain⟨R,S,U⟩:=g.fresh j y f t d;refine⟨R,?_,U⟩;have:f≠b:=λe=>r j y t (e▸d);show(if f=b then _ else σ.m f)=none;rw[if_neg this];exact S
 .have n:=s.wrel;refine⟨n.tape,n.os,n.output,n.drawn,n.size,n.frame,n.hsat,?_,?_,n.hle,n.hold,?_⟩
  .intro f q d;have c:(if f=b then some (Obj.cells l.toArray T (0,0))else σ.m f)=some q:=d;by_cases e:f=b
   .subst e;rw[if_pos rfl]at c;rw[M, <-c];congr 2
    grind
   .rw[if_neg e]at c;exact n.msat f q c
  .intro f q d i;have c:(if f=b then some (Obj.cells l.toArray T (0,0))else σ.m f)=some q:=d;by_cases e:f=b
   .subst e;exact I i
   .rw[if_neg e]at c;exact n.disj f q c i
  .intro f q d;have c:(if f=b then some (Obj.cells l.toArray T (0,0))else σ.m f)=some q:=d;by_cases e:f=b
   .grind
   .rw[if_neg e]at c;exact n.mfr f q c
 .refine⟨?_,rfl,λx j A=>Qu (λx j=>cg) A,λf X Y=>⟨k,bx,?_⟩⟩
  case refine_2=>
   grind
  intro j Z T' G t z;simp only[mem_singleton]at z;refine⟨G.map (At.sub k (λ |.ptr _ o=>.val (.pointer (some ⟨b,o,none⟩))|_=>.junk)),?_⟩
  .simp only[St.setOwn,St.sub,Aj,CR,z,false_and,if_false,t];rfl
theorem cAQ{σ τ υ:St}{k:Nat}{ks:ed}(h:Ld ι σ τ [k])(c:Ld ι τ υ ks){b:Nat}(d:σ.m b=none)(f:υ.m b≠none):∃j∈k::ks,blk (ι j)=some b:=by
 cases e:τ.m b with
 |none=>
  obtain⟨j,g,i⟩:=c.m_ b e f
  grind
 |some o=>
  obtain⟨j,g,i⟩:=h.m_ b d cg
  grind
theorem z6:∀(ks:ed)(σ:St),aL B ι σ a w->GA σ K ks->∃e,aL B ι e a w/\K e/\Ld ι σ e ks
 |[],σ,g,h=>⟨σ,g,h,⟨λ_ _ _ v h _=>⟨v,h⟩,rfl,λ_ _ h=>h,λ_ i m=>(m i).elim⟩⟩
 |k::ks,σ,g,h=>by
  simp only[GA]at h;split at h
  .rename_i p T v A;split at h
   .rename_i l D;obtain⟨b,E,n,q,r,d⟩:=czJ g A D;obtain⟨e,s,F,c⟩:=z6 ks _ r (h b E n q);refine⟨e,s,F,⟨λj y T' t G z=>?_,c.imm.trans d.imm,λx j H=>d.lst x j (c.lst x j H),λb i m=>cAQ d c i m⟩⟩;simp only[mem_cons,not_or]at z;obtain⟨f,u⟩:=d.cells j y T' t G cg;exact c.cells j y T' f u z.2
   grind
  grind
theorem bdJ(G:aL B ι σ a w){k E sz:Nat}{xs:List dj}(Q:nth σ.own k=some (some (.lst E sz xs))):
 ∃(s:Sl)(m':MH),qE σ.m m' σ.h s E sz xs/\aL B ι {(σ.sub k (λ |.lst _=>.val s.val|_=>.junk)).setOwn k none with m:=m'} a w/\
  Ld ι σ {(σ.sub k (λ |.lst _=>.val s.val|_=>.junk)).setOwn k none with m:=m'} [k]:=by
 obtain⟨Y,t⟩:=sE G Q
 obtain⟨s,Z⟩:∃s:Sl,ι k=s.val:=by
  rcases t.2 with⟨r,_⟩|⟨g,n,p,r,_⟩
  .exact⟨⟨none,0,0⟩,r⟩
  .exact⟨⟨some ⟨g,0,none⟩,xs.length,n⟩,r⟩
 have l:aL B ι ((σ.sub k (λ |.lst _=>.val s.val|_=>.junk)).setOwn k none) a w:=by
  have:=G.drop k (ι k) (G.one k) (λ |.lst _=>.val s.val|_=>.junk) (by
   intro x v N hd;cases x<;>simp only[At.key,cw,reduceCtorEq]at N
   case ptr=>trivial
   case el=>trivial
   case lst j=>
    subst N;have hd:v=ι j:=hd;show v=s.val
    grind)
  rwa [Jx]at this
 have I:∀m':MH,(∀b,σ.m b=none->m' b≠none->blk (ι k)=some b)->Ld ι σ {(σ.sub k (λ |.lst _=>.val s.val|_=>.junk)).setOwn k none with m:=m'} [k]:=by
  intro m' R;refine⟨?_,rfl,λx j N=>Qu (λx j=>cg) N,λd O P=>⟨k,bx,R d O P⟩⟩;intro j p' T' S H J;simp only[mem_singleton]at J;refine⟨S.map (At.sub k (λ |.lst _=>.val s.val|_=>.junk)),?_⟩;simp only[St.setOwn,St.sub,Aj,CR,J,false_and,if_false,H];rfl
 rcases t.2 with⟨r,T⟩|⟨g,n,p,r,a',hg,U,V,W,A⟩
 .have D:s=⟨none,0,0⟩:=by
   rw[Z]at r;obtain⟨x,y,z⟩:=s;simp only[Sl.val,Value.slice.injEq]at r
   grind
  subst D;exact⟨⟨none,0,0⟩,σ.m,⟨⟨Y,.inl ⟨rfl,eq_nil_of_length_eq_zero T⟩⟩,λ_ _=>rfl,λb i e=>by cases e⟩,l,I σ.m (λb O P=>(P O).elim)⟩
 .have L:blk (ι k)=some g:=by rw[r];rfl
  obtain⟨f1,f2,f3⟩:=G.fresh k _ g Q L
  have D:s=⟨some ⟨g,0,none⟩,xs.length,n⟩:=by
   rw[Z]at r;obtain⟨x,y,z⟩:=s;simp only[Sl.val,Value.slice.injEq]at r
   grind
  subst D
  let m':MH:=λd=>if d=g then some (.cells p E (0,0))else σ.m d
  have F:∀j M,nth ((σ.sub k (λ |.lst _=>.val (Sl.mk (some ⟨g,0,none⟩) xs.length n).val|_=>.junk)).setOwn k none).own j=some (some M)->blk (ι j)≠some g:=by
   intro j M H hb;obtain⟨F,o1,X,_⟩:=qH H;exact F (G.dist j k _ _ g X Q hb L)
  refine⟨⟨some ⟨g,0,none⟩,xs.length,n⟩,m',⟨⟨Y,.inr ⟨g,n,p,rfl,by simp[m'],U,V,W,A⟩⟩,λd f=>?_,λb i e=>?_⟩,⟨l.slots,l.defers,l.own,l.dist,?_,?_,l.one⟩,I m' (λb O P=>?_)⟩
  .grind
  .simp only[cw,Addr.mk.injEq]at e;obtain⟨rfl,_,_⟩:=e;exact⟨f2,f3⟩
  .intro j M d H f;obtain⟨g1,g2,g3⟩:=l.fresh j M d H f;refine⟨g1,?_,g3⟩;have:d≠g:=λe=>F j M H (e▸f);show(if d=g then _ else σ.m d)=none;rw[if_neg this];exact g2
  .have q:=G.wrel;refine⟨q.tape,q.os,q.output,q.drawn,q.size,q.frame,q.hsat,?_,?_,q.hle,q.hold,?_⟩
   .intro d u f;have c:(if d=g then some (Obj.cells p E (0,0))else σ.m d)=some u:=f;by_cases e:d=g
    .grind
    .rw[if_neg e]at c;exact q.msat d u c
   .intro d u f i;have c:(if d=g then some (Obj.cells p E (0,0))else σ.m d)=some u:=f;by_cases e:d=g
    .subst e;exact f3 i
    .rw[if_neg e]at c;exact q.disj d u c i
   .intro d u f;have c:(if d=g then some (Obj.cells p E (0,0))else σ.m d)=some u:=f;by_cases e:d=g
    .grind
    .rw[if_neg e]at c;exact q.mfr d u c
  grind
theorem DR:∀(ks:ed)(σ:St),aL B ι σ a w->DX σ K ks->∃e,aL B ι e a w/\K e/\Ld ι σ e ks
 |[],σ,i,h=>⟨σ,i,h,⟨λ_ _ _ v h _=>⟨v,h⟩,rfl,λ_ _ h=>h,λ_ l m=>(m l).elim⟩⟩
 |k::ks,σ,i,h=>by
  simp only[DX]at h;split at h
  .rename_i E G H y;obtain⟨s,z,f,n,d⟩:=bdJ i y;obtain⟨e,p,A,c⟩:=DR ks _ n (h s z f);refine⟨e,p,A,⟨λj t T' q D u=>?_,c.imm.trans d.imm,λx j F=>d.lst x j (c.lst x j F),λb l m=>cAQ d c l m⟩⟩;simp only[mem_cons,not_or]at u;obtain⟨g,r⟩:=d.cells j t T' q D cg;exact c.cells j t T' g r u.2
  grind
end
end Go.Vc
namespace Go.Vc
open Go List
def G5(w:World):CV->Value->Prop
 |.val v,u=>u=v
 |.lst E c b,u=>cZ c b/\w.ownsRow 0 E c u b.length b.flatten
 |.tup e,u=>∃d:Array Value,u= .tuple d/\e=d.toList.map .val
def iG:CV->Value->Option Nat
 |.lst _ _ _,u=>blk u
 |_,_=>none
def DV(w:World):eb->dj->Prop
 |[],[]=>True
 |c::cs,v::vs=>G5 w c v/\DV w cs vs
 |_,_=>False
def y7(m:MH)(d:eb)(vs:dj)(b:Nat):Prop:=m b≠none\/∃(i:Nat)(c:CV)(u:Value),d[i]? =some c/\vs[i]? =some u/\iG c u=some b
structure B9(w:World)(m:MH)(h:PH)(cvs:eb)(vs:dj):Prop where
 args:DV w cvs vs
 hsat:∀b o v,h b o=some v->w.cell? ⟨b,o,none⟩=some v
 msat:∀b o,m b=some o->w.heap[b]? =some o
 disj:∀b o,m b=some o->∀i,h b i=none
 sep:∀(i j:Nat)(c d:CV)(u v:Value)(b:Nat),cvs[i]? =some c->vs[i]? =some u->cvs[j]? =some d->vs[j]? =some v->iG c u=some b->iG d v=some b->i=j
 free:∀(i:Nat)(c:CV)(u:Value)(b:Nat),cvs[i]? =some c->vs[i]? =some u->iG c u=some b->m b=none/\∀o,h b o=none
def Sound(P:Program)(f:FuncId)(S:Spec):Prop:=
 (∃g,P.funcs[f]? =some g/\g.body.isSome=true/\(g.name== "runtime.NumGoroutine")=false)/\
 ∀c d m h w K,S c m h K->B9 w m h c d->
  Calls P f d.toArray w λe l=>∃r u j k,e= .returned u/\K r j k/\G5 l r u/\A7 ⟨w,y7 m c d,h,[]⟩ j k l/\
   (∀b,iG r u=some b->(w.heap.size<=b\/y7 m c d b)/\j b=none/\∀i,k b i=none)
section
variable{B:tI}{C:Ctx}{ι:du}{σ:St}{a:Act}{w:World}{o:Oper}{K:St->Prop}
theorem IV(sz:Nat):cZ sz []:=⟨(λe b=>by cases b),(λe b=>by cases b)⟩
theorem F2(p:aL B ι σ a w){mv:ed}:∀(i:Nat)(l:ej)(ts:fb)(f:eb),rQ C.P σ mv i l ts=some f->
 DV w f (l.map a.eval)/\∀(j:Nat)(c:CV)(u:Value)(b:Nat),f[j]? =some c->(l.map a.eval)[j]? =some u->iG c u=some b->
  ∃x k q,l[j]? =some x/\mv.contains (i+j)=true/\σ.ev x= .at (.lst k)/\nth σ.own k=some (some q)/\u=ι k
 |i,[],ts,f,h=>by
  simp[rQ]at h;subst h;exact⟨trivial,λj c u b G=>by simp at G⟩
 |i,x::r,ts,f,h=>by
  simp only[rQ]at h;split at h
  .cases h
  .rename_i g m;obtain⟨n,H⟩:=F2 p (i+1) r ts.tail g m
   have d:∀(A:CV),(∀(u:Value)(b:Nat),(a.eval x)=u->iG A u=some b->∃k q,mv.contains i=true/\σ.ev x= .at (.lst k)/\nth σ.own k=some (some q)/\u=ι k)->
    ∀(j:Nat)(c:CV)(u:Value)(b:Nat),(A::g)[j]? =some c->((x::r).map a.eval)[j]? =some u->iG c u=some b->
     ∃D k q,(x::r)[j]? =some D/\mv.contains (i+j)=true/\σ.ev D= .at (.lst k)/\nth σ.own k=some (some q)/\u=ι k:=by
    grind
   split at h
   .rename_i v;split at h
    .rename_i k t;have e:=p.ev x;rw[t]at e;have e:a.eval x=ι k:=e;split at h
     .rename_i E J L F;simp only[cw]at h;subst h;obtain⟨I,M⟩:=sE p F;refine⟨⟨⟨I,cg⟩,n⟩,d _ (λu b s _=>⟨k,_,v,t,F,cg⟩)⟩
     .cases h
    .rename_i t;have e:=p.ev x;rw[t]at e;have e:a.eval x= .slice none 0 0:=e;split at h
     .rename_i E z N;simp only[cw]at h;subst h;refine⟨⟨⟨IV _,by rw[e];exact World.ownsRow_nil w 0 E _⟩,n⟩,d _ (λu b s y=>?_)⟩;rw[e]at s;subst s;simp[iG,blk]at y
     .cases h
    .cases h
   .split at h
    .rename_i u s;simp only[cw]at h;subst h;exact⟨⟨p.rho s,n⟩,d _ (λu b _ y=>by simp[iG]at y)⟩
    .cases h
theorem DQ{mv:ed}:∀(i:Nat)(l:ej)(j:Nat)(x:Operand)(k:Nat),l[j]? =some x->mv.contains (i+j)=true->σ.ev x= .at (.lst k)->k∈jQ σ mv i l
 |i,[],j,x,k,h,_,_=>by simp at h
 |i,y::r,0,x,k,h,b,c=>by
  simp at h;subst h;simp only[Nat.add_zero]at b;simp only[jQ,b,c]
  grind
 |i,y::r,j+1,x,k,h,b,c=>by
  simp only[getElem?_cons_succ]at h;have:=DQ (i+1) r j x k h (by rw[show i+1+j=i+(j+1)by omega];exact b) c;simp only[jQ]
  grind
theorem IF{mv:ed}:∀(i:Nat)(l:ej),LO (jQ σ mv i l)=true->∀(j c:Nat)(x e:Operand)(k:Nat),l[j]? =some x->l[c]? =some e->
 mv.contains (i+j)=true->mv.contains (i+c)=true->σ.ev x= .at (.lst k)->σ.ev e= .at (.lst k)->j=c
 |i,[],_,j,_,_,_,_,h,_,_,_,_,_=>by simp at h
 |i,y::r,b,j,c,x,e,k,h,q,D,t,u,f=>by
  have key:∀j x,r[j]? =some x->mv.contains (i+(j+1))=true->σ.ev x= .at (.lst k)->∀g,y=g->mv.contains i=true->σ.ev g= .at (.lst k)->False:=by
   intro j x v z m g A n p;subst A;simp only[jQ,n,p]at b;have s:=DQ (σ:=σ) (mv:=mv) (i+1) r j x k v cg m;simp only[LO]at b
   grind
  have d:LO (jQ σ mv (i+1) r)=true:=by
   simp only[jQ]at b;split at b
   .simp only[LO]at b
    grind
   omega
  cases j with
  |zero=>
   grind
  |succ j=>
   cases c with
   |zero=>
    grind
   |succ c=>
    simp only[getElem?_cons_succ]at h q;have:=IF (i+1) r d j c x e k h q cg cg u f;rw[this]
theorem IH:∀(ks:ed)(σ:St),aL B ι σ a w->aL B ι (B6 σ ks) a w/\(B6 σ ks).m=σ.m/\(B6 σ ks).h=σ.h/\
 (∀j o',nth (B6 σ ks).own j=some (some o')->j∉ks/\∃d,nth σ.own j=some (some d))
 |[],σ,c=>⟨c,rfl,rfl,λj o' h=>⟨bx,o',h⟩⟩
 |k::ks,σ,c=>by
  have e:=c.kill k (ι k) (c.one k);rw[Jx]at e;obtain⟨f,g,i,l⟩:=IH ks (σ.kill k) e;refine⟨f,g,i,λj o' n=>?_⟩;obtain⟨r,d,b⟩:=l j o' n;rw[Ov]at b;obtain⟨p,s,q,_⟩:=qH b
  grind
theorem A7.trans{m m':MH}{h j:PH}{w w':World}{E:Nat->Prop}(d:A7 B m h w)(c:A7 ⟨w,E,h,[]⟩ m' j w')(p:∀b,E b->B.w0.heap.size<=b\/B.E b):A7 B m' j w':=by
 refine⟨c.tape.trans d.tape,c.os.trans d.os,c.output.trans d.output,dg d.drawn c.drawn,dg d.size c.size,?_,c.hsat,c.msat,c.disj,λb o v l=>c.hle b o v (d.hle b o v l),?_,?_⟩
 .intro b f i
  have g:¬E b:=λe=>by
   grind
  rw[c.frame b (dh f d.size) g];exact d.frame b f i
 .intro b f i
  have g:¬E b:=λe=>by
   grind
  rw[c.hold b (dh f d.size) g];exact d.hold b f i
 .intro b n f;rcases c.mfr b n f with k|k
  .exact .inl (dg d.size k)
  grind
theorem aL.called{m':MH}{k:PH}{w':World}{E:Nat->Prop}(d:aL B ι σ a w)(l:A7 ⟨w,E,σ.h,[]⟩ m' k w')(p:∀b,E b->B.w0.heap.size<=b\/B.E b)
 (e:∀j o' b,nth σ.own j=some (some o')->blk (ι j)=some b->¬E b):aL B ι {σ with m:=m',h:=k} a w':=by
 refine⟨d.slots,d.defers,?_,d.dist,?_,d.wrel.trans l p,d.one⟩
 .intro j o' f;have c:=d.own j o' f;exact c.world (λb g=>l.frame b (rC c g) (e j o' b f g))
 .intro j o' b f g;have c:=d.own j o' f;obtain⟨q,x,r⟩:=d.fresh j o' b f g;have n:=rC c g;have s:=e j o' b f g;refine⟨q,?_,λi=>?_⟩
  .show m' b=none;cases t:m' b with
   |none=>rfl
   |some u=>
    rcases l.mfr b u t with v|v
    .grind
    grind
  .have:k b=σ.h b:=l.hold b n s;show k b i=none;rw[this];exact r i
theorem Jz:∀{rs:eb}{l:List (Sum At dz)}{us:dj},Eb rs=some l->rs=us.map .val->Q5 ι l us
 |[],l,us,h,b=>by
  simp[Eb]at h;subst h;cases us with
  |nil=>trivial
  |cons u us=>simp at b
 |.val v::r,l,us,h,b=>by
  cases us with
  |nil=>simp at b
  |cons u us=>
   simp only[map_cons,List.cons.injEq,CV.val.injEq]at b;simp only[Eb]at h;split at h
   .rename_i d c;simp only[cw]at h;subst h;exact⟨b.1.symm,Jz c b.2⟩
   .cases h
 |.lst _ _ _::_,l,us,h,_=>by simp[Eb]at h
 |.tup _::_,l,us,h,_=>by simp[Eb]at h
theorem Nd{E sz n:Nat}{v:Value}{l:dj}(h:w.ownsRow 0 E sz v n l):v.oneCell'=true:=by
 rcases h.2 with⟨rfl,_⟩|⟨g,b,c,rfl,_⟩<;>rfl
theorem M9{σ:St}{k:Nat}:∀{l:ej},k∈pC σ l->∃x∈l,∃off,σ.ev x= .at (.ptr k off)
 |[],h=>by cases h
 |x::r,h=>by
  have b:=λh=>M9 (σ:=σ) (k:=k) (l:=r) h;have c:k∈pC σ r->∃y∈x::r,∃off,σ.ev y= .at (.ptr k off):=λh=>let⟨y,hy,off,e⟩:=b h;⟨y,mem_cons_of_mem _ hy,off,e⟩
  simp only[pC]at h
  grind
theorem aeJ(W:∀g S,assoc C.specs g=some S->Sound C.P g S)(hM:aL B ι σ a w){c:Call}{g:Operand}{f:FuncId}{fs cs:Array Value}(ho:o.op= .call c)(hc:c.callee= .value g)
 (hg:σ.ev g= .at (.val (.func (.func f) fs cs)))(e8:fs.toList=[])(e9:cs.toList=[])(h:afQ C o f c.args.toList c.argTypes.toList σ K):Vi B C ι o σ K a w:=by
 intro next Q G
 unfold afQ at h;split at h
 .exact h.elim
 .rename_i S hS;obtain⟨⟨fn,c2,c3,c4⟩,X⟩:=W f S hS;obtain⟨τ,c5,h,J⟩:=oH _ _ hM h;obtain⟨υ,q,h,Y⟩:=z6 _ _ c5 h;split at h
  .rename_i O b0 c6;generalize H9 C f=mv at*
   obtain⟨R,z⟩:=F2 q 0 _ _ _ b0
   have b1:B9 w υ.m υ.h O (c.args.toList.map a.eval):=by
    refine⟨R,q.wrel.hsat,q.wrel.msat,q.wrel.disj,?_,?_⟩
    .intro i j A d1 u v b M hu hj hv U a3;obtain⟨x,k,ow,Z,hm,hk,t,rfl⟩:=z i A u b M hu U;obtain⟨x',V,f',a4,c7,a',a5,rfl⟩:=z j d1 v b hj hv a3;have y:blk (ι k)=some b:=by cases A<;>simp[iG]at U;exact U
     have D:blk (ι V)=some b:=by cases d1<;>simp[iG]at a3;exact a3
     have c8:=q.dist k V _ _ b t a5 y D;subst c8;exact IF (σ:=υ) (mv:=mv) 0 c.args.toList c6 i j x x' k Z a4 hm c7 hk a'
    .intro i A u b M hu U;obtain⟨x,k,ow,Z,hm,hk,t,rfl⟩:=z i A u b M hu U;have y:blk (ι k)=some b:=by cases A<;>simp[iG]at U;exact U
     exact(q.fresh k ow b t y).2
   have a6:=X O _ υ.m υ.h w _ h b1;have c9:a.eval g= .func (.func f) fs cs:=by have:=hM.ev g;rw[hg]at this;exact this
   have b3:fs= #[]:=cg
   have b4:cs= #[]:=cg
   subst b3 b4;have a0:c.args.map a.eval=(c.args.toList.map a.eval).toArray:=cg
   have d':¬fn.body=none:=cg
   have d0:¬fn.name= "runtime.NumGoroutine" :=cg
   have b5:(execOp a.eval o).run C.P w= .ok (.enter f (c.args.toList.map a.eval).toArray) w:=by
    unfold execOp;simp only[ho,resolve,hc,c9,Deferred.ofValue,Sem.run_bind,Sem.run_pure,Result.andThen_ok,invoke,callFunc];simp[program,Sem.run,c2,d0,d',a0]
   unfold Oper.wp;rw[b5,Oper.upon_enter];refine Calls.mono a6 ?_;rintro e w' ⟨r,u,m',h',rfl,hK,hr,hw,U⟩;show next (a.put o.dst u) w'
   obtain⟨b6,f0,f4,a7⟩:=IH (jQ υ mv 0 c.args.toList) υ q
   have b7:∀b,y7 υ.m O (c.args.toList.map a.eval) b->B.w0.heap.size<=b\/B.E b:=by
    rintro b (L|⟨i,A,N,M,F,s⟩)
    .cases H:υ.m b with
     |none=>grind
     |some ob=>exact q.wrel.mfr b ob H
    .obtain⟨x,k,ow,Z,H,hk,t,rfl⟩:=z i A N b M F s;have y:blk (ι k)=some b:=by cases A<;>simp[iG]at s;exact s
     exact(q.fresh k ow b t y).1
   have a8:∀j o' b,nth (B6 υ (jQ υ mv 0 c.args.toList)).own j=some (some o')->blk (ι j)=some b->¬y7 υ.m O (c.args.toList.map a.eval) b:=by
    intro j o' b hj a1 b8;obtain⟨b9,o1,c'⟩:=a7 j o' hj;rcases b8 with L|⟨i,A,N,M,F,s⟩
    .exact L (q.fresh j o1 b c' a1).2.1
    .obtain⟨x,k,ow,Z,H,hk,t,rfl⟩:=z i A N b M F s;have y:blk (ι k)=some b:=by cases A<;>simp[iG]at s;exact s
     have:=q.dist j k _ _ b c' t a1 y;subst this;exact b9 (DQ 0 _ i x j Z aC hk)
   have a9:aL B ι {B6 υ (jQ υ mv 0 c.args.toList)with m:=m',h:=h'} a w':=by
    refine b6.called (E:=y7 υ.m O (c.args.toList.map a.eval)) ?_ b7 a8
    grind
   have I:Js σ ι o w w':=by
    constructor
    .intro k p T d2 b hk ht hι;obtain⟨d3,d4⟩:=J.cells k p T d2 hk;have d5:=OK J ht
     have d6:k∉pC τ c.args.toList:=by
      unfold Ag at d5
      grind
     obtain⟨f5,a2⟩:=Y.cells k p T d3 d4 d6;have y:blk (ι k)=some b:=by rw[hι];rfl
     refine hw.frame b (rC (q.own k _ a2) y) ?_;rintro(L|⟨i,A,N,M,F,s⟩)
     .exact L (q.fresh k _ b a2 y).2.1
     .obtain⟨x,V,ow,Z,H,a',t,rfl⟩:=z i A N b M F s;have D:blk (ι V)=some b:=by cases A<;>simp[iG]at s;exact s
      have:=q.dist k V _ _ b a2 t y D;subst this;cases A<;>simp[iG]at s;rename_i E1 f6 f7;have b':=q.own k _ a2;obtain⟨b2,f8,e2,_,_⟩:=b'
      have e5:∃ad n cp,ι k= .slice ad n cp:=by
       have c0:∀(l:eb)(vs:dj),DV w l vs->∀(i:Nat)(A:CV)(N:Value),l[i]? =some A->vs[i]? =some N->G5 w A N:=by
        intro l
        induction l with
        |nil=>grind
        |cons x0 r0 d7=>
         intro vs hv i A N h1 h2;cases vs with
         |nil=>exact hv.elim
         |cons v0 d8=>
          cases i with
          |zero=>simp at h1 h2;subst h1 h2;exact hv.1
          |succ i=>simp at h1 h2;exact d7 d8 hv.2 i A N h1 h2
       have:=c0 _ _ R i _ _ M F;rcases this.2.2 with⟨e3,_⟩|⟨g3,e6,e7,e3,_⟩
       .grind
       grind
      grind
    .intro b off v hv;have h1:=J.imm b off v hv;rw[<-Y.imm]at h1;exact hw.hsat b off v (hw.hle b off v h1)
    .intro hg;rw[ho]at hg;simp[A2]at hg
    .intro l b hl U L Z;have hl:c.args.toList=l:=by simpa[tE,ho,hc]using hl
     refine hw.frame b U ?_;rintro(H|⟨i,A,N,M,F,s⟩)
     .obtain⟨k,hk,y⟩:=Y.m_ b (by rw[J.m_];exact L) H;obtain⟨x,d9,off,e'⟩:=M9 hk;exact Z x (hl▸d9) k (.inr ⟨off,J.ptr x k off e'⟩) y
     .obtain⟨x,V,ow,a4,H,a',t,rfl⟩:=z i A N b M F s;have D:blk (ι V)=some b:=by cases A<;>simp[iG]at s;exact s
      exact Z x (hl▸cr a4) V (.inl (J.lst x V (Y.lst x V a'))) D
   unfold cfQ at hK;split at hK
   .rename_i v;exact G ι _ _ _ (a9.put o.dst (x:=.at (.val v)) hr) hK I
   .rename_i E sz xs;split at hK
    .rename_i d hd;rw[hd];generalize (jQ υ mv 0 c.args.toList).headD d=kd at hK;refine G (upd ι kd u) _ _ _ (aL.put ?_ (some d) (x:=.at (.lst kd)) (by show _=_;simp)) hK I;refine a9.adopt kd _ u ⟨hr.1,hr.2⟩ (Nd hr.2) (λb e0=>?_);obtain⟨f1,f2,f3⟩:=U b e0;refine⟨⟨?_,f2,f3⟩,?_⟩
     .rcases f1 with f1|f1
      .exact .inl (dg q.wrel.size f1)
      grind
     .intro j o' _ hj a1;have e1:nth (B6 υ (jQ υ mv 0 c.args.toList)).own j=some (some o'):=hj;rcases f1 with f1|f1
      .have:=rC (b6.own j o' e1) a1;omega
      grind
    grind
   .rename_i rs;split at hK
    .rename_i l hl;obtain⟨us,rfl,e4⟩:=hr;exact G ι _ _ _ (a9.put o.dst (x:=.tup l) ⟨us,rfl,Jz hl e4⟩) hK I
    grind
  grind
end
end Go.Vc
