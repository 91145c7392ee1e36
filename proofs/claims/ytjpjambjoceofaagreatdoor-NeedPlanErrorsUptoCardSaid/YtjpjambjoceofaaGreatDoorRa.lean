/- Own work. -/
import Derived.Calls
import Derived.CallsIn
import Derived.Orders
import Derived.KernelRfl
import Derived.Laws.AppendOwn
import Derived.Laws.CopyRow
import Derived.Deep.AppendSrc
import Derived.Deep.LoopGhost
import Derived.Laws.StructEq
import Derived.Laws.BytesArg
import Derived.Laws.NewBlocks
import Derived.Great.BuildSlice
import Derived.Laws.MakeOwn
import Derived.Lib.AppendZerosOnto
set_option linter.unusedVariables false
set_option linter.unusedSimpArgs false
namespace Go
abbrev ed:=List (Nat×Operand)
abbrev dx:=List TypeId
abbrev du:=List ByteArray
abbrev dp:=List Operand
abbrev dm:=List Bool
abbrev dl:=List Nat
abbrev di:=List UInt8
abbrev dc:=Nat->Value
abbrev db:=List (Value×Value)
abbrev cv:=List (Int×Bool)
abbrev cu:=List (Int×Int)
abbrev cq:=List Int
abbrev cn:=List Value
universe u
theorem bm{α:Type u}{l:List α}{i:Nat}{a:α}(h:l[i]? =some a):i<l.length:=(_root_.List.getElem?_eq_some_iff.1 h).1
theorem bo{α:Type u}{l:List α}{i:Nat}(h:i<l.length):l[i]? =some l[i]:=_root_.List.getElem?_eq_getElem h
theorem br{α:Type u}{l:List α}{i:Nat}{a:α}(h:l[i]? =some a):a∈l:=_root_.List.mem_of_getElem? h
theorem bt{α:Type u}{a b:List α}:(a++b).length=a.length+b.length:=_root_.List.length_append
theorem bu{α:Type u}{i:Nat}{l:List α}(h:l.length<=i):l.take i=l:=_root_.List.take_of_length_le h
theorem bw{α:Type u}{β:Type u}{f:α->β}{a b:List α}:(a++b).map f=a.map f++b.map f:=_root_.List.map_append
theorem bx{α:Type u}{a b:α}:(some a=some b)=(a=b):=Option.some.injEq a b
theorem bz{a b:Bool}:((a&&b)=true)=(a=true∧b=true):=Bool.and_eq_true a b
theorem ca{a b:Nat}(h:Nat.beq a b=true):a=b:=Nat.eq_of_beq_eq_true h
theorem cd{α:Type u}{l:List α}{i:Nat}:l.take (i+1)=l.take i++l[i]?.toList:=_root_.List.take_add_one
theorem ce{p:Prop}[Decidable p]:(decide p=true)=p:=decide_eq_true_eq
theorem cg{α:Type u}{a:Array α}{i:Nat}:a.toList[i]? =a[i]?:=Array.getElem?_toList
theorem ci{α:Type u}{a:α}{l:List α}:(a::l).length=l.length+1:=_root_.List.length_cons
theorem cj{a b c:Nat}(h:a<=b)(g:b<=c):a<=c:=Nat.le_trans h g
theorem ck{a b c:Nat}(h:a<b)(g:b<=c):a<c:=Nat.lt_of_lt_of_le h g
theorem ax{α:Sort u}{a b:α}(h:a=b:=by kernel_rfl):a=b:=h
theorem ay{p:Prop}(h:p:=by simp):p:=h
theorem az{p:Prop}(h:p:=by decide):p:=h
theorem aB{p:Prop}(h:p:=by simp_all):p:=h
theorem bd{p:Prop}(h:p:=by rw[@List.length_map];omega):p:=h
theorem bf{p:Prop}(h:p:=by simp;omega):p:=h
theorem bg{p:Prop}(h:p:=by grind):p:=h
theorem bh{p:Prop}(h:p:=by dsimp only;omega):p:=h
theorem bj{p:Prop}(h:p:=by dsimp only;omega):p:=h
theorem bi{a i:Nat}(h:i<a:=by omega):a-(i+1)<a-i:=by omega
theorem bk{p q:Prop}(h:p)(e:p->q:=by intro h;simpa using h):q:=e h
theorem aD{p:Prop}(h:p:=by omega):p:=h
end Go
namespace Go.Vc
open Go List
abbrev PH:=Nat->Nat->Option Value
abbrev MH:=Nat->Option Obj
abbrev dw:=Int×Nat×cu×(Int×Int)×Bool×MH
structure Sl where
 a:Option Addr
 len:Nat
 cap:Nat
abbrev dy:=List (Value×Sl)
abbrev dh:=List (ByteArray×Sl)
abbrev da:=List Sl
def Sl.val(s:Sl):Value:=.slice s.a s.len s.cap
inductive At where
 |val (v:Value)
 |ptr (k o:Nat)
 |lst (k:Nat)
 |el (k i sz o:Nat)
 |junk
abbrev dj:=List At
inductive SV where
 |at(x:At)
 |agg (cs:dj)
 |tup (xs:List (Sum At dj))
abbrev dz:=List SV
inductive Own where
 |cellsP (p:Option Nat) (T:TypeId) (cs:dj)
 |lst (E:TypeId) (sz:Nat) (xs:List cn)
abbrev dv:=List (Option Own)
abbrev Own.cells(T:TypeId)(cs:dj):Own:=.cellsP none T cs
structure St where
 sl:dz
 own:dv
 m:MH
 h:PH
inductive CV where
 |val (v:Value)
 |lst (E:TypeId) (sz:Nat) (xs:List cn)
 |tup (xs:List CV)
abbrev dk:=List CV
abbrev cr:=CV->MH->PH->Prop
abbrev Spec:=dk->MH->PH->cr->Prop
structure Dec where
 X:Type
 enc:X->cn
inductive Kr where
 |normal
 |exit (id:Nat)
 |ret
structure Nz where
 A:Type
 st:A->St
 inv:A->Prop
 mu:A->Nat
structure Zn where
 A:Type
 st:A->St
 inv:A->Prop
structure wQ where
 A:Type
 st:A->St
 frz:Bool:=false
abbrev dt:=List (Nat×wQ)
structure Ctx where
 P:Program
 loops2:dt
 cuts2:dt
 rcuts:List (Nat×dt)
 heapT:dx
 specs:List (Nat×Spec)
 dec:TypeId->Dec
 loops:List (Nat×Nz)
 cuts:List (Nat×Zn)
 moves:List (Nat×dl)
 retMove:Bool
 yield:Option Spec
 elemT:dx:=[]
def nth{α:Type}:List α->Nat->Option α
 |[],_=>none
 |x::_,0=>some x
 |_::xs,n+1=>nth xs n
def PT:dl->Nat->Bool
 |[],_=>false
 |x::r,n=>match Nat.beq x n with|true=>true|false=>PT r n
def assoc.{u}{α:Type u}:List (Nat×α)->Nat->Option α
 |[],_=>none
 |(k,v)::r,n=>match Nat.beq k n with|true=>some v|false=>assoc r n
def branch(c:Bool)(A B:Prop):Prop:=match c with|true=>A|false=>B
def St.ev(σ:St):Operand->SV
 |.tmp t=>match nth σ.sl t with|some x=>x|none=>.at .junk
 |.const v=>.at (.val v)
 |.global g=>.at (.val (.pointer (some ⟨g,0,none⟩)))
 |.func f=>.at (.val (.func (.func f) #[] #[]))
def St.put(σ:St)(d:Option Tmp)(x:SV):St:=
 match d with
 |some d=>{σ with sl:=σ.sl.set d x}
 |none=>σ
def At.sub(k:Nat)(f:At->At):At->At
 |.val v=>.val v
 |.ptr j o=>match Nat.beq j k with|true=>f (.ptr j o)|false=>.ptr j o
 |.lst j=>match Nat.beq j k with|true=>f (.lst j)|false=>.lst j
 |.el j i a o=>match Nat.beq j k with|true=>f (.el j i a o)|false=>.el j i a o
 |.junk=>.junk
def SV.sub(k:Nat)(f:At->At):SV->SV
 |.at x=>.at (x.sub k f)
 |.agg a=>.agg (a.map (At.sub k f))
 |.tup b=>.tup (b.map λ |.inl x=>.inl (x.sub k f)|.inr a=>.inr (a.map (At.sub k f)))
def Own.sub(k:Nat)(f:At->At):Own->Own
 |.cellsP p T a=>.cellsP p T (a.map (At.sub k f))
 |.lst E b c=>.lst E b c
def St.sub(σ:St)(k:Nat)(f:At->At):St:=
 {σ with sl:=σ.sl.map (SV.sub k f),own:=σ.own.map (Option.map (Own.sub k f))}
def St.kill(σ:St)(k:Nat):St:=
 let τ:=σ.sub k (λ_=>.junk)
 {τ with own:=τ.own.set k none}
def St.setOwn(σ:St)(k:Nat)(o:Option Own):St:={σ with own:=σ.own.set k o}
def At.val? :At->Option Value
 |.val v=>some v
 |_=>none
def wK:dj->Option cn
 |[]=>some []
 |.val v::r=>match wK r with|some l=>some (v::l)|none=>none
 |_::_=>none
def SV.val? :SV->Option Value
 |.at (.val v)=>some v
 |.agg a=>match wK a with|some l=>some (.agg l.toArray)|none=>none
 |_=>none
def SV.cells? :SV->Option dj
 |.at (.val (.agg a))=>some (a.toList.map .val)
 |.at (.val (.tuple _))=>none
 |.at .junk=>none
 |.at x=>some [x]
 |.agg a=>some a
 |.tup _=>none
def At.storable:At->Bool
 |.val (.agg _)=>false
 |.val (.tuple _)=>false
 |.junk=>false
 |_=>true
def tU:dj->Bool
 |[]=>true
 |x::r=>match x.storable with|true=>tU r|false=>false
def AS{α:Type}(P:Program):Sem α->Option α
 |.pure a=>some a
 |.program k=>AS P (k P)
 |.mark _ k=>AS P k
 |_=>none
def St.rho(σ:St)(x:Operand):Value:=match(σ.ev x).val? with|some v=>v|none=>undef
def Nw(σ:St):dp->Bool
 |[]=>true
 |x::r=>match(σ.ev x).val? with|some _=>Nw σ r|none=>false
structure bM(h:PH)(b o:Nat)(l:cn):Prop where
 rd:∀i v,l[i]? =some v->h b (o+i)=some v
inductive aU(m:MH)(h:PH)(b off:Nat)(l:cn):Prop
 |imm (hr:bM h b off l):aU m h b off l
 |lent (cs:Array Value) (E:TypeId) (fz:Nat×Nat) (hm:m b=some (.cells cs E fz)) (hl:(cs.toList.drop off).take l.length=l):aU m h b off l
structure E8(m:MH)(b:Nat)(o:Obj):Prop where
 at_:m b=some o
structure mL(m:MH)(h:PH)(b:Nat):Prop where
 m_:m b=none
 h_:∀i,h b i=none
def zC(P:Program)(t:TypeId):Bool:=
 match P.underlying t with
 |some (.struct _)=>true
 |some (.array _ _)=>true
 |_=>false
def mk(P:Program)(T:TypeId)(cs:dj):SV:=
 match zC P T with
 |true=>.agg cs
 |false=>match cs with|[x]=>.at x|_=>.at .junk
def w8(C:Ctx)(o:Oper)(σ:St)(K:St->Prop):Prop:=
 match Nw σ o.op.operands.toList with
 |true=>match AS C.P (execOp σ.rho o)with
  |some (.value v)=>K (σ.put o.dst (.at (.val v)))
  |_=>False
 |false=>False
def jN(P:Program)(T:TypeId):Bool:=
 match P.underlying T with
 |some _=>match P.cellsOf T with|0=>false|_=>true
 |none=>false
def bOJ(C:Ctx)(T:TypeId)(R:cn->Prop)(K:cn->Prop):Prop:=
 ∃y:(C.dec T).X,R ((C.dec T).enc y)/\
  match Nat.beq ((C.dec T).enc y).length (C.P.cellsOf T)with
  |true=>K ((C.dec T).enc y)
  |false=>False
def W2(C:Ctx)(o:Oper)(T:TypeId)(x:Operand)(σ:St)(K:St->Prop):Prop:=
 match jN C.P T with
 |false=>False
 |true=>
  match σ.ev x with
  |.at (.ptr k off)=>
   match nth σ.own k with
   |some (some (.cellsP _ _ a))=>
    match Nat.ble (off+C.P.cellsOf T) a.length with
    |true=>K (σ.put o.dst (mk C.P T ((a.drop off).take (C.P.cellsOf T))))
    |false=>False
   |_=>False
  |.at (.el k i c off)=>
   match nth σ.own k with
   |some (some (.lst _ s d))=>
    match Nat.beq s c with
    |true=>∃e:cn,d[i]? =some e/\bOJ C T (λl=>(e.drop off).take (C.P.cellsOf T)=l) λl=>K (σ.put o.dst (mk C.P T (l.map .val)))
    |false=>False
   |_=>False
  |.at (.val (.pointer (some ⟨b,off,none⟩)))=>
   bOJ C T (aU σ.m σ.h b off) λl=>K (σ.put o.dst (mk C.P T (l.map .val)))
  |_=>False
def splice{α:Type}(cs:List α)(off:Nat)(new:List α):List α:=cs.take off++new++cs.drop (off+new.length)
structure iP(m m':MH)(b:Nat)(o:Obj):Prop where
 at_:m' b=some o
 other:∀b',b'≠b->m' b'=m b'
def SK(C:Ctx)(T:TypeId)(x v:Operand)(σ:St)(K:St->Prop):Prop:=
 match(σ.ev v).cells? with
 |none=>False
 |some new=>
 match Nat.beq new.length (C.P.cellsOf T),tU new,jN C.P T with
 |true,true,true=>
  match σ.ev x with
  |.at (.ptr k off)=>
   match nth σ.own k with
   |some (some (.cellsP p E a))=>
    match Nat.ble (off+new.length) a.length with
    |true=>K (σ.setOwn k (some (.cellsP p E (splice a off new))))
    |false=>False
   |_=>False
  |.at (.el k i f off)=>
   match nth σ.own k,wK new with
   |some (some (.lst E s c)),some l=>
    match Nat.beq s f with
    |true=>∃e:cn,c[i]? =some e/\off+l.length<=e.length/\
     K (σ.setOwn k (some (.lst E s (c.set i (splice e off l)))))
    |false=>False
   |_,_=>False
  |.at (.val (.pointer (some ⟨b,off,none⟩)))=>
   match wK new with
   |some l=>∃(a:Array Value)(E:TypeId),E8 σ.m b (.cells a E (0,0))/\off+l.length<=a.size/\
    ∀d:MH,iP σ.m d b (.cells (splice a.toList off l).toArray E (0,0))->K {σ with m:=d}
   |none=>False
  |_=>False
 |_,_,_=>False
def J4(P:Program)(T:TypeId)(f:Nat):Option (Nat×TypeId):=
 match P.underlying T with
 |some (.struct a)=>match nth a.toList f with
  |some g=>match Nat.beq (P.cellsOf g.type) 0 with|true=>none|false=>some (g.offset,g.type)
  |none=>none
 |_=>none
def F3(C:Ctx)(o:Oper)(T:TypeId)(x:Operand)(f:Nat)(σ:St)(K:St->Prop):Prop:=
 match J4 C.P T f with
 |none=>False
 |some (g,_)=>
  match σ.ev x with
  |.at (.ptr k off)=>K (σ.put o.dst (.at (.ptr k (off+g))))
  |.at (.el k i a off)=>K (σ.put o.dst (.at (.el k i a (off+g))))
  |.at (.val (.pointer (some ⟨b,off,none⟩)))=>K (σ.put o.dst (.at (.val (.pointer (some ⟨b,off+g,none⟩)))))
  |_=>False
def HW(o:Oper)(x:Operand)(σ:St)(K:St->Prop):Prop:=
 match σ.ev x with
 |.at (.ptr k off)=>K (σ.put o.dst (.at (.ptr k off)))
 |.at (.el k i b off)=>K (σ.put o.dst (.at (.el k i b off)))
 |.at (.val (.pointer (some a)))=>K (σ.put o.dst (.at (.val (.pointer (some a)))))
 |_=>False
def FX(C:Ctx)(o:Oper)(T:TypeId)(x i:Operand)(σ:St)(K:St->Prop):Prop:=
 match σ.ev i with
 |.at (.val (.int _ n))=>
  match C.P.underlying T with
  |some (.slice E)=>
   match jN C.P E with
   |true=>
    match σ.ev x with
    |.at (.lst k)=>
     match nth σ.own k with
     |some (some (.lst _ c d))=>match Nat.beq c (C.P.cellsOf E)with
      |true=>0<=n/\n<(d.length:Int)/\K (σ.put o.dst (.at (.el k n.toNat c 0)))
      |false=>False
     |_=>False
    |.at (.val (.slice a len _))=>
     ∃b off,a=some ⟨b,off,none⟩/\0<=n/\n<(len:Int)/\
      K (σ.put o.dst (.at (.val (.pointer (some ⟨b,off+n.toNat*C.P.cellsOf E,none⟩)))))
    |_=>False
   |false=>False
  |some (.array len E)=>
   match jN C.P E with
   |true=>
    match σ.ev x with
    |.at (.ptr k off)=>0<=n/\n<(len:Int)/\K (σ.put o.dst (.at (.ptr k (off+n.toNat*C.P.cellsOf E))))
    |.at (.val (.pointer (some ⟨b,off,none⟩)))=>0<=n/\n<(len:Int)/\K (σ.put o.dst (.at (.val (.pointer (some ⟨b,off+n.toNat*C.P.cellsOf E,none⟩)))))
    |_=>False
   |false=>False
  |_=>False
 |_=>False
def Z5(o:Oper)(op:BinOp)(x y:Operand)(σ:St)(K:St->Prop):Prop:=
 match σ.ev x,σ.ev y with
 |.at (.val (.int k a)),.at (.val (.int c b))=>
  match decide (k=c)with
  |true=>
   b≠0/\(match op with
    |.quo=>K (σ.put o.dst (.at (.val (.int k (k.wrap (a.tdiv b))))))
    |.rem=>K (σ.put o.dst (.at (.val (.int k (a.tmod b)))))
    |_=>False)
  |false=>False
 |_,_=>False
def Pd(C:Ctx)(o:Oper)(x y:Operand)(σ:St)(K:St->Prop):Prop:=
 match σ.ev x,σ.ev y with
 |.at (.val (.string a)),.at (.val (.string b))=>a.size+b.size<=9223372036854775807/\K (σ.put o.dst (.at (.val (.string (a++b)))))
 |_,_=>w8 C o σ K
def WH(o:Oper)(c a b:Operand)(σ:St)(K:St->Prop):Prop:=
 match σ.ev c with
 |.at (.val (.bool t))=>branch t (K (σ.put o.dst (σ.ev a))) (K (σ.put o.dst (σ.ev b)))
 |_=>False
structure cC(h:PH)(s:Sl)(sz:Nat)(xs:List cn):Prop where
 len:s.len=xs.length
 row:xs=[]\/∃b o,s.a=some ⟨b,o,none⟩/\∀i e,xs[i]? =some e->bM h b (o+i*sz) e
 cap:s.len<=s.cap
structure PH.le(h h':PH):Prop where
 le:∀b o v,h b o=some v->h' b o=some v
def vI(σ:St)(K:St->Prop):dl->Prop
 |[]=>K σ
 |k::ks=>
  match nth σ.own k with
  |some (some (.lst _ b c))=>
   ∀(s:Sl)(a:PH),PH.le σ.h a->cC a s b c->
    vI {(σ.sub k (λ |.lst _=>.val s.val|_=>.junk)).setOwn k none with h:=a} K ks
  |_=>False
def KZ:dj->dl
 |[]=>[]
 |.lst k::r=>match(KZ r).contains k with|true=>KZ r|false=>k::KZ r
 |_::r=>KZ r
def SV.keys:SV->dl
 |.at x=>KZ [x]
 |.agg a=>KZ a
 |.tup _=>[]
def zeroCells(P:Program)(T:TypeId):Option cn:=
 match P.info? T with
 |some i=>match i.zero with
  |some v=>some v.cells.toList
  |none=>none
 |none=>none
def TC(C:Ctx)(o:Oper)(T:TypeId)(σ:St)(K:St->Prop):Prop:=
 match o.dst,zeroCells C.P T with
 |some d,some z=>K (((σ.kill d).setOwn d (some (.cells T (z.map .val)))).put (some d) (.at (.ptr d 0)))
 |_,_=>False
def Z8(o:Oper)(T:TypeId)(x:Operand)(σ:St)(K:St->Prop):Prop:=
 match o.dst,(σ.ev x).cells? with
 |some d,some a=>K (((σ.kill d).setOwn d (some (.cells T (a.map (At.sub d (λ_=>.junk)))))).put (some d) (.at (.ptr d 0)))
 |_,_=>False
def partAt(P:Program)(T:TypeId)(i:Nat):Option (Nat×Nat):=
 match P.underlying T with
 |some (.struct a)=>match nth a.toList i with|some g=>some (g.offset,P.cellsOf g.type)|none=>none
 |some (.array _ E)=>some (i*P.cellsOf E,P.cellsOf E)
 |_=>none
def N1(P:Program)(T:TypeId):Bool:=
 match P.underlying T with
 |some (.struct a)=>a.toList.all λf=>(P.info? f.type).isSome
 |some (.array _ E)=>(P.info? E).isSome
 |_=>false
def DA(P:Program)(T:TypeId)(σ:St):ed->dj->Option dj
 |[],b=>some b
 |(i,x)::r,b=>
  match partAt P T i,(σ.ev x).cells? with
  |some (off,a),some new=>
   match Nat.beq new.length a,Nat.ble (off+new.length) b.length with
   |true,true=>DA P T σ r (splice b off new)
   |_,_=>none
  |_,_=>none
def Tz(C:Ctx)(o:Oper)(T:TypeId)(parts:ed)(σ:St)(K:St->Prop):Prop:=
 match zeroCells C.P T with
 |some z=>match DA C.P T σ parts (z.map .val),N1 C.P T with
  |some a,true=>K (σ.put o.dst (.agg a))
  |_,_=>False
 |none=>False
def Dz(σ:St)(sz:Nat):ed->List cn->Option (List cn)
 |[],a=>some a
 |(i,x)::r,a=>
  match(σ.ev x).cells? with
  |some b=>match wK b with
   |some l=>match Nat.beq l.length sz,Nat.ble (i+1) a.length,tU b with
    |true,true,true=>Dz σ sz r (a.set i l)
    |_,_,_=>none
   |none=>none
  |none=>none
def FG(σ:St):dp->dl
 |[]=>[]
 |x::r=>(σ.ev x).keys++(FG σ r).filter (λk=> !(σ.ev x).keys.contains k)
def elemOf(P:Program)(T:TypeId):Option (TypeId×cn):=
 match P.underlying T with
 |some (.slice E)=>match zeroCells P E with
  |some z=>match Nat.beq z.length (P.cellsOf E),Nat.beq (P.cellsOf E) 0,z.all Value.oneCell' with
   |true,false,true=>some (E,z)
   |_,_,_=>none
  |none=>none
 |_=>none
def E4(C:Ctx)(o:Oper)(T:TypeId)(n:Nat)(parts:ed)(σ:St)(K:St->Prop):Prop:=
 vI σ (λτ=>
  match o.dst,elemOf C.P T with
  |some d,some (E,z)=>
   match Dz τ (C.P.cellsOf E) parts (replicate n z),Nat.ble (n*C.P.cellsOf E) 16777216 with
   |some a,true=>K (((τ.kill d).setOwn d (some (.lst E (C.P.cellsOf E) a))).put (some d) (.at (.lst d)))
   |_,_=>False
  |_,_=>False) (FG σ (parts.map (·.2)))
structure i6(sz:Nat)(ys:List cn):Prop where
 len:∀e∈ys,e.length=sz
 one:∀e∈ys,∀u∈e,u.oneCell'=true
structure dE(m:MH)(s:Sl)(E:TypeId)(sz:Nat)(xs:List cn):Prop where
 rows:i6 sz xs
 ex:(s=⟨none,0,0⟩/\xs=[])\/∃b cap cur,s=⟨some ⟨b,0,none⟩,xs.length,cap⟩/\m b=some (.cells cur E (0,0))/\xs.length<=cap/\cap<=maxLen/\cur.size=cap*sz/\cur.toList.take (xs.length*sz)=xs.flatten
structure qI(m m':MH)(h:PH)(s:Sl)(E:TypeId)(sz:Nat)(xs:List cn):Prop where
 row:dE m' s E sz xs
 other:∀b,(∀i,s.a≠some ⟨b,i,none⟩)->m' b=m b
 fresh:∀b i,s.a=some ⟨b,i,none⟩->mL m h b
def Dv(σ:St)(K:St->Prop):dl->Prop
 |[]=>K σ
 |k::ks=>
  match nth σ.own k with
  |some (some (.lst E b c))=>
   ∀(s:Sl)(a:MH),qI σ.m a σ.h s E b c->
    Dv {(σ.sub k (λ |.lst _=>.val s.val|_=>.junk)).setOwn k none with m:=a} K ks
  |_=>False
def FO(C:Ctx)(o:Oper)(T:TypeId)(l c:Operand)(σ:St)(K:St->Prop):Prop:=
 match o.dst,elemOf C.P T,σ.ev l,σ.ev c with
 |some d,some (E,z),.at (.val (.int _ n)),.at (.val (.int _ m))=>
  0<=n/\n<=m/\m*(C.P.bytesOf E:Int)<=281474976710656/\m<=281474976710656/\
   K (((σ.kill d).setOwn d (some (.lst E (C.P.cellsOf E) (replicate n.toNat z)))).put (some d) (.at (.lst d)))
 |_,_,_,_=>False
def fR(s:ByteArray):List cn:=s.data.toList.map λb=>[.int .u8 b.toNat]
inductive oP(m:MH)(h:PH)(s:Sl)(sz:Nat)(ys:List cn):Prop
 |imm (hr:cC h s sz ys):oP m h s sz ys
 |lent (b o:Nat) (cs:Array Value) (E:TypeId) (fz:Nat×Nat) (hs:s.a=some ⟨b,o,none⟩) (hn:s.len=ys.length) (hm:m b=some (.cells cs E fz)) (hl:(cs.toList.drop o).take ys.flatten.length=ys.flatten):oP m h s sz ys
def bYX(a:Bool)(σ:St)(s:Sl)(sz:Nat)(b:List cn):Prop:=match a with|true=>oP σ.m σ.h s sz b|false=>cC σ.h s sz b
def L8(P:Program)(b:Bool)(σ:St)(sz:Nat)(tx:TypeId)(y:SV)(K:List cn->Prop):Prop:=
 match y,P.underlying tx with
 |.at (.lst k),some (.slice _)=>match nth σ.own k with
  |some (some (.lst _ s d))=>match Nat.beq s sz with|true=>K d|false=>False
  |_=>False
 |.at (.val (.slice a n c)),some (.slice _)=>∃d:List cn,i6 sz d/\bYX b σ ⟨a,n,c⟩ sz d/\K d
 |.at (.val (.string s)),some .string=>match Nat.beq sz 1 with|true=>K (fR s)|false=>False
 |_,_=>False
structure eF(m m':MH)(s s':Sl)(E:TypeId)(sz:Nat)(zs:List cn):Prop where
 row:dE m' s' E sz zs
 other:∀b o,m b=some o->(∀i,s.a≠some ⟨b,i,none⟩)->m' b=some o
 fresh:∀b i,s'.a=some ⟨b,i,none⟩->m b=none\/∃i,s.a=some ⟨b,i,none⟩
def sameKey(y:SV)(k:Nat):Bool:=match y with|.at (.lst a)=>Nat.beq a k|_=>false
def Zq(y:SV)(d:Option TypeDesc):Option Int:=
 match d with
 |some (.int _)=>match y with
  |.at (.val (.int _ n))=>some n
  |_=>none
 |_=>none
def Qw(C:Ctx):Bool:=match C.heapT with|[]=>false|_=>true
def inM(C:Ctx)(T:TypeId):Bool:=PT C.heapT (1000+T)
def cbZ(C:Ctx)(T:TypeId):Bool:=PT C.heapT (3000+T)
def Pl(C:Ctx)(o:Oper)(T tx:TypeId)(x y:Operand)(σ:St)(K:St->Prop):Prop:=
 match o.dst,elemOf C.P T with
 |some d,some (E,z)=>
  match inM C T,cbZ C T,σ.ev x with
  |false,true,.at (.val (.slice a n c))=>
   c=n/\∃e:List cn,i6 (C.P.cellsOf E) e/\cC σ.h ⟨a,n,c⟩ (C.P.cellsOf E) e/\
    L8 C.P (Qw C) σ (C.P.cellsOf E) tx (σ.ev y) λb=>
     (a=none\/0<b.length)/\(e.length+b.length)*C.P.bytesOf E<=140737488355328/\e.length+b.length<=140737488355328/\
     K (((σ.kill d).setOwn d (some (.lst E (C.P.cellsOf E) (e++b)))).put (some d) (.at (.lst d)))
  |true,_,.at (.val (.slice a n c))=>
   ∃e:List cn,dE σ.m ⟨a,n,c⟩ E (C.P.cellsOf E) e/\
    L8 C.P (Qw C) σ (C.P.cellsOf E) tx (σ.ev y) λb=>
     (e.length+b.length)*C.P.bytesOf E<=140737488355328/\e.length+b.length<=140737488355328/\
     ∀(f:Sl)(g:MH),eF σ.m g ⟨a,n,c⟩ f E (C.P.cellsOf E) (e++b)->K ({σ with m:=g}.put (some d) (.at (.val f.val)))
  |_,_,_=>match σ.ev x with
  |.at (.val (.slice none 0 0))=>
   match Zq (σ.ev y) (C.P.underlying tx)with
   |some n=>0<n/\n*(C.P.bytesOf E:Int)<=140737488355328/\n<=140737488355328/\
    K (((σ.kill d).setOwn d (some (.lst E (C.P.cellsOf E) (replicate n.toNat z)))).put (some d) (.at (.lst d)))
   |none=>L8 C.P (Qw C) σ (C.P.cellsOf E) tx (σ.ev y) λb=>
    b.length*C.P.bytesOf E<=140737488355328/\b.length<=140737488355328/\
    K (((σ.kill d).setOwn d (some (.lst E (C.P.cellsOf E) b))).put (some d) (.at (.lst d)))
  |.at (.lst k)=>
   match nth σ.own k,sameKey (σ.ev y) k with
   |some (some (.lst E' i e)),false=>
    match Nat.beq E' E,Nat.beq i (C.P.cellsOf E)with
    |true,true=>
     L8 C.P (Qw C) σ i tx (σ.ev y) λb=>
      (e.length+b.length)*C.P.bytesOf E<=140737488355328/\e.length+b.length<=140737488355328/\
      K (((σ.kill k).setOwn k (some (.lst E i (e++b)))).put (some d) (.at (.lst k)))
    |_,_=>False
   |_,_=>False
  |.at (.val (.slice a n c))=>
   ∃e:List cn,dE σ.m ⟨a,n,c⟩ E (C.P.cellsOf E) e/\
    L8 C.P (Qw C) σ (C.P.cellsOf E) tx (σ.ev y) λb=>
     (e.length+b.length)*C.P.bytesOf E<=140737488355328/\e.length+b.length<=140737488355328/\
     ∀(f:Sl)(g:MH),eF σ.m g ⟨a,n,c⟩ f E (C.P.cellsOf E) (e++b)->K ({σ with m:=g}.put (some d) (.at (.val f.val)))
  |_=>False
 |_,_=>False
def UM(P:Program)(ts:dx):Bool:=
 match ts with
 |t::_=>match P.underlying t with
  |some (.slice _)=>true
  |_=>false
 |[]=>false
def aPJ(C:Ctx)(o:Oper)(x:Operand)(ts:dx)(σ:St)(K:St->Prop):Prop:=
 match σ.ev x with
 |.at (.lst k)=>match nth σ.own k,UM C.P ts with
  |some (some (.lst _ _ a)),true=>K (σ.put o.dst (.at (.val (.int .i64 a.length))))
  |_,_=>False
 |_=>w8 C o σ K
structure bRJ(sz:Nat)(x:Sl)(i:Nat)(s:Sl):Prop where
 a_:s.a=if x.cap=i then x.a else x.a.map λy=>y.add (i*sz)
 len:s.len=x.len-i
 cap:s.cap=x.cap-i
def SN(C:Ctx)(o:Oper)(T:TypeId)(x:Operand)(e f g:Option Operand)(σ:St)(K:St->Prop):Prop:=
 match σ.ev x,e,f,g with
 |.at (.lst k),none,some n,none=>
  match nth σ.own k,σ.ev n,C.P.underlying T with
  |some (some (.lst E h d)),.at (.val (.int _ i)),some (.slice E')=>
   match jN C.P E' with
   |true=>0<=i/\i<=(d.length:Int)/\K (((σ.kill k).setOwn k (some (.lst E h (d.take i.toNat)))).put o.dst (.at (.lst k)))
   |false=>False
  |_,_,_=>False
 |.at (.val (.slice a _ c)),none,some n,none=>
  match σ.ev n,C.P.underlying T with
  |.at (.val (.int _ i)),some (.slice E')=>
   match jN C.P E' with
   |true=>0<=i/\i<=(c:Int)/\K (σ.put o.dst (.at (.val (.slice a i.toNat c))))
   |false=>False
  |_,_=>False
 |.at (.val (.slice a _ c)),none,some n,some k=>
  match σ.ev n,σ.ev k,C.P.underlying T with
  |.at (.val (.int _ i)),.at (.val (.int _ j)),some (.slice E')=>
   match jN C.P E' with
   |true=>0<=i/\i<=j/\j<=(c:Int)/\K (σ.put o.dst (.at (.val (.slice a i.toNat j.toNat))))
   |false=>False
  |_,_,_=>False
 |.at (.val (.slice a len c)),some n,none,none=>
  match σ.ev n,C.P.underlying T with
  |.at (.val (.int _ i)),some (.slice E')=>
   match jN C.P E' with
   |true=>0<=i/\i<=(len:Int)/\len<=c/\∀s:Sl,bRJ (C.P.cellsOf E') ⟨a,len,c⟩ i.toNat s->K (σ.put o.dst (.at (.val (.slice s.a s.len s.cap))))
   |false=>False
  |_,_=>False
 |.at (.val (.pointer (some ⟨b,off,none⟩))),none,some n,none=>
  match σ.ev n,C.P.underlying T with
  |.at (.val (.int _ i)),some (.array len E')=>
   match jN C.P E' with
   |true=>0<=i/\i<=(len:Int)/\K (σ.put o.dst (.at (.val (.slice (some ⟨b,off,none⟩) i.toNat len))))
   |false=>False
  |_,_=>False
 |_,_,_,_=>False
def Tl(C:Ctx)(o:Oper)(T:TypeId)(x:Operand)(f:Nat)(σ:St)(K:St->Prop):Prop:=
 match J4 C.P T f,(σ.ev x).cells?,(match σ.ev x with|.agg _=>true|.at (.val (.agg _))=>true|_=>false)with
 |some (g,T'),some a,true=>
  match Nat.ble (g+C.P.cellsOf T') a.length&&jN C.P T' with
  |true=>K (σ.put o.dst (mk C.P T' ((a.drop g).take (C.P.cellsOf T'))))
  |false=>False
 |_,_,_=>False
def Te(P:Program)(E:TypeId)(cs:dj)(n:Int)(K:SV->Prop):Nat->Nat->Prop
 |0,_=>True
 |f+1,i=>branch (n==(i:Int)) (K (mk P E ((cs.drop (i*P.cellsOf E)).take (P.cellsOf E)))) (Te P E cs n K f (i+1))
def Tc(C:Ctx)(o:Oper)(T:TypeId)(x i:Operand)(σ:St)(K:St->Prop):Prop:=
 match σ.ev i,C.P.underlying T with
 |.at (.val (.int _ n)),some (.array len E)=>
  match(σ.ev x).cells? with
  |some a=>match Nat.beq a.length (len*C.P.cellsOf E),jN C.P E,(match σ.ev x with|.agg _=>true|.at (.val (.agg _))=>true|_=>false)with
   |true,true,true=>0<=n/\n<(len:Int)/\Te C.P E a n (λv=>K (σ.put o.dst v)) len 0
   |_,_,_=>False
  |none=>False
 |.at (.val (.int _ n)),some .string=>
  match σ.ev x with
  |.at (.val (.string s))=>0<=n/\∃b,s.data.toList[n.toNat]? =some b/\K (σ.put o.dst (.at (.val (.int .u8 b.toNat))))
  |_=>False
 |_,_=>False
def LC(C:Ctx)(o:Oper)(x:Operand)(i:Nat)(σ:St)(K:St->Prop):Prop:=
 match σ.ev x with
 |.tup a=>match nth a i with
  |some (.inl y)=>K (σ.put o.dst (.at y))
  |some (.inr b)=>K (σ.put o.dst (.agg b))
  |none=>False
 |_=>w8 C o σ K
def bA(a:di):List cn:=a.map λb=>[.int .u8 b.toNat]
def LH(C:Ctx)(o:Oper)(src a:TypeId)(x:Operand)(σ:St)(K:St->Prop):Prop:=
 match σ.ev x with
 |.at (.lst k)=>
  match nth σ.own k,C.P.underlying src,C.P.underlying a with
  |some (some (.lst _ _ c)),some (.slice E),some .string=>
   match C.P.underlying E with
   |some (.int .u8)=>∃b:di,c=bA b/\K (σ.put o.dst (.at (.val (.string ⟨b.toArray⟩))))
   |_=>False
  |_,_,_=>False
 |_=>w8 C o σ K
def pM(σ:St):dp->dl
 |[]=>[]
 |x::r=>match σ.ev x with
  |.at (.ptr k _)=>match(pM σ r).contains k with|true=>pM σ r|false=>k::pM σ r
  |_=>pM σ r
def FQ(σ:St)(K:St->Prop):dl->Prop
 |[]=>K σ
 |k::ks=>
  match nth σ.own k with
  |some (some (.cellsP _ T c))=>
   match wK c with
   |some l=>
    ∀(b:Nat)(a:MH),mL σ.m σ.h b->iP σ.m a b (.cells l.toArray T (0,0))->
     FQ {(σ.sub k (λ |.ptr _ o=>.val (.pointer (some ⟨b,o,none⟩))|_=>.junk)).setOwn k none with m:=a} K ks
   |none=>False
  |_=>False
def rT(P:Program)(σ:St)(mv:dl):Nat->dp->dx->Option dk
 |_,[],_=>some []
 |i,x::r,b=>
  match rT P σ mv (i+1) r b.tail with
  |none=>none
  |some a=>
   match mv.contains i with
   |true=>match σ.ev x with
    |.at (.lst k)=>match nth σ.own k with
     |some (some (.lst E c d))=>some (.lst E c d::a)
     |_=>none
    |.at (.val (.slice none 0 0))=>match elemOf P (b.headD 0)with
     |some (E,_)=>some (.lst E (P.cellsOf E) []::a)
     |none=>none
    |_=>none
   |false=>match(σ.ev x).val? with
    |some u=>some (.val u::a)
    |none=>none
def j5(σ:St)(mv:dl):Nat->dp->dl
 |_,[]=>[]
 |i,x::r=>match mv.contains i,σ.ev x with
  |true,.at (.lst k)=>k::j5 σ mv (i+1) r
  |_,_=>j5 σ mv (i+1) r
def ER(mv:dl):Nat->dp->dp
 |_,[]=>[]
 |i,x::r=>match mv.contains i with
  |true=>ER mv (i+1) r
  |false=>x::ER mv (i+1) r
def BG(σ:St):dl->St
 |[]=>σ
 |k::ks=>BG (σ.kill k) ks
def DL:dk->Option (List (Sum At dj))
 |[]=>some []
 |.val v::r=>match DL r with|some l=>some (.inl (.val v)::l)|none=>none
 |_::_=>none
def bOX(o:Oper)(σ:St)(a:dl)(K:St->Prop)(r:CV)(m:MH)(h:PH):Prop:=
 match r with
 |.val v=>K ({σ with m:=m,h:=h}.put o.dst (.at (.val v)))
 |.lst E b c=>match o.dst with
  |some d=>K ((({σ with m:=m,h:=h}.kill (a.headD d)).setOwn (a.headD d) (some (.lst E b c))).put (some d) (.at (.lst (a.headD d))))
  |none=>False
 |.tup e=>match DL e with
  |some l=>K ({σ with m:=m,h:=h}.put o.dst (.tup l))
  |none=>False
def KN:dl->Bool
 |[]=>true
 |x::r=>match r.contains x with|true=>false|false=>KN r
def G2(C:Ctx)(f:Nat):dl:=match assoc C.moves f with|some l=>l|none=>[]
def Y4(C:Ctx)(o:Oper)(f:FuncId)(args:dp)(ts:dx)(σ:St)(K:St->Prop):Prop:=
 match assoc C.specs f with
 |none=>False
 |some S=>
  vI σ (λτ=>FQ τ (λυ=>
   match rT C.P υ (G2 C f) 0 args ts,KN (j5 υ (G2 C f) 0 args)with
   |some a,true=>S a υ.m υ.h (bOX o (BG υ (j5 υ (G2 C f) 0 args)) (j5 υ (G2 C f) 0 args) K)
   |_,_=>False) (pM τ args))
   (FG σ (ER (G2 C f) 0 args))
structure StructEq(P:Program)(T:TypeId)(x y:Value)(r:Bool):Prop where
 guard:P.eqGuardType P.depth T=false
 eq:∀w,(Op.equalIn 10000 T x y).run P w= .ok r w
def DN(C:Ctx)(o:Oper)(neg:Bool)(T:TypeId)(x y:Operand)(σ:St)(K:St->Prop):Prop:=
 match(σ.ev x).val?,(σ.ev y).val? with
 |some (.agg a),some (.agg b)=>∃r,StructEq C.P T (.agg a) (.agg b) r/\K (σ.put o.dst (.at (.val (.bool (match neg with|true=> !r|false=>r)))))
 |_,_=>False
structure wS(m:MH)(b:Nat)(kvs:db):Prop where
 ex:∃(es:Array MapEntry)(clock:Nat),m b=some (.map es clock)/\es.toList.map (λe=>(e.key,e.val))=kvs
structure KeyLaw(P:Program)(kt:TypeId)(Ok:Value->Prop):Prop where
 under:∃d,P.underlying kt=some d
 check:∀v w b,Ok v->(Instr.checkKey b 10000 kt v).run P w= .ok () w
 eq:∀x y w,Ok x->Ok y->∃r,(Op.equal kt x y).run P w= .ok r w/\(r=true↔x=y)
 now:∀d x y r,P.underlying kt=some d->Ok x->Ok y->Instr.sameNow d x y=some r->(r=true↔x=y)
structure qV(m m':MH)(b:Nat):Prop where
 other:∀b',b'≠b->m' b'=m b'
def KU(o:Oper)(r:Option Operand)(σ:St)(K:St->Prop):Prop:=
 match r with
 |none=>∀(b:Nat)(a:MH),mL σ.m σ.h b->iP σ.m a b (.map #[] 0)->K ({σ with m:=a}.put o.dst (.at (.val (.map (some b)))))
 |some _=>False
def SA(P:Program)(T:TypeId):Option Value:=
 match P.info? T with
 |some i=>match i.zero with
  |some (.int k n)=>some (.int k n)
  |some (.bool b)=>some (.bool b)
  |some (.slice none 0 0)=>some (.slice none 0 0)
  |_=>none
 |none=>none
def only:cn->Value
 |[u]=>u
 |_=>undef
def On(C:Ctx)(o:Oper)(T:TypeId)(x k:Operand)(ok:Bool)(σ:St)(K:St->Prop):Prop:=
 match C.P.underlying T,σ.ev x,(σ.ev k).val? with
 |some (.map f c),.at (.val (.map (some b))),some d=>
  match SA C.P c with
  |some z=>
   ∃(a:List (Value×(C.dec c).X))(Ok:Value->Prop),wS σ.m b (a.map λp=>(p.1,only ((C.dec c).enc p.2)))/\KeyLaw C.P f Ok/\Ok d/\(∀e∈a,Ok e.1)/\
    ((∀e∈a,e.1≠d)->K (σ.put o.dst (match ok with|true=>.tup [.inl (.val z),.inl (.val (.bool false))]|false=>.at (.val z))))/\
    ∀y,(d,y)∈a->match(C.dec c).enc y with
     |[u]=>K (σ.put o.dst (match ok with|true=>.tup [.inl (.val u),.inl (.val (.bool true))]|false=>.at (.val u)))
     |_=>False
  |none=>False
 |_,_,_=>False
def CS(C:Ctx)(T:TypeId)(x k v:Operand)(σ:St)(K:St->Prop):Prop:=
 match C.P.underlying T,σ.ev x,(σ.ev k).val?,(σ.ev v).val? with
 |some (.map f _),.at (.val (.map (some b))),some c,some u=>
  ∃(a:db)(Ok:Value->Prop),wS σ.m b a/\KeyLaw C.P f Ok/\Ok c/\(∀e∈a,Ok e.1)/\(∀e∈a,e.1≠c)/\
   ∀d:MH,qV σ.m d b->wS d b (a++[(c,u)])->K {σ with m:=d}
 |_,_,_,_=>False
structure wV(m:MH)(b:Nat)(kvs:db):Prop where
 ex:∃(es:Array MapEntry)(clock:Nat),m b=some (.map es clock)/\es.toList.map (λe=>(e.key,e.val))=kvs/\(∀e∈es.toList,e.born<clock)/\(es.toList.map (·.born)).Nodup
def JR(C:Ctx)(T:TypeId)(x k v:Operand)(σ:St)(K:St->Prop):Prop:=
 match C.P.underlying T,σ.ev x,(σ.ev k).val?,(σ.ev v).val? with
 |some (.map h _),.at (.val (.map (some b))),some c,some u=>
  ∃(a:db)(Ok:Value->Prop),wV σ.m b a/\KeyLaw C.P h Ok/\Ok c/\Instr.sameBits 10000 c c=true/\(∀e∈a,Ok e.1)/\
   ((∀e∈a,e.1≠c)->∀d:MH,qV σ.m d b->wV d b (a++[(c,u)])->K {σ with m:=d})/\
   ∀(f:db)(i:Value)(g:db),a=f++(c,i)::g->∀d:MH,qV σ.m d b->wV d b (f++(c,u)::g)->K {σ with m:=d}
 |_,_,_,_=>False
structure mQ(m:MH)(b r:Nat)(kvs left:db):Prop where
 ex:∃(es:Array MapEntry)(clock since:Nat)(seen:Array Nat)(c0:Nat),m b=some (.map es clock)/\es.toList.map (λe=>(e.key,e.val))=kvs/\(∀e∈es.toList,e.born<clock)/\(es.toList.map (·.born)).Nodup/\
  m r=some (.mapIter (some b) since seen c0)/\(∀e∈es.toList,e.born<since)/\since<=c0/\since<=clock/\(es.toList.filter λe=> !seen.contains e.born).map (λe=>(e.key,e.val))=left
structure E7(m:MH)(b r:Nat)(kvs left:db)(x:Value×Value):Prop where
 it:mQ m b r kvs left
 ex:∃(es:Array MapEntry)(clock since:Nat)(seen:Array Nat)(e:MapEntry),m b=some (.map es clock)/\(es.toList.map (·.born)).Nodup/\m r=some (.mapIter (some b) since (seen.push e.born) clock)/\e∈es.toList/\x=(e.key,e.val)
def SQ(C:Ctx)(o:Oper)(T:TypeId)(x:Operand)(σ:St)(K:St->Prop):Prop:=
 match C.P.underlying T,σ.ev x with
 |some .string,.at (.val (.string s))=>
  ∀(b:Nat)(c:MH),mL σ.m σ.h b->iP σ.m c b (.stringIter s 0)->K ({σ with m:=c}.put o.dst (.at (.val (.pointer (some ⟨b,0,none⟩)))))
 |some (.map _ _),.at (.val (.map (some b)))=>
  ∃a:db,wV σ.m b a/\∀(r:Nat)(c:MH),mL σ.m σ.h r->qV σ.m c r->mQ c b r a a->K ({σ with m:=c}.put o.dst (.at (.val (.pointer (some ⟨r,0,none⟩)))))
 |_,_=>False
def WW(o:Oper)(x:Operand)(c:Bool)(σ:St)(K:St->Prop):Prop:=
 match σ.ev x,c with
 |.at (.val (.pointer (some ⟨b,0,none⟩))),true=>
  ∃(s:ByteArray)(a:Nat),E8 σ.m b (.stringIter s a)/\
   (s.size<=a->K (σ.put o.dst (.tup [.inl (.val (.bool false))])))/\
   (a<s.size->∀d:MH,iP σ.m d b (.stringIter s (a+(Utf8.decode s a).2))->
    K ({σ with m:=d}.put o.dst (.tup [.inl (.val (.bool true)),.inl (.val (.int .i64 a)),.inl (.val (.int .i32 (Utf8.decode s a).1))])))
 |.at (.val (.pointer (some ⟨r,0,none⟩))),false=>
  ∃(b:Nat)(e left:db),mQ σ.m b r e left/\
   (left=[]->K (σ.put o.dst (.tup [.inl (.val (.bool false))])))/\
   ∀(f:db)(x:Value×Value)(g:db),left=f++x::g->∀d:MH,qV σ.m d r->E7 d b r e (f++g) x->
    K ({σ with m:=d}.put o.dst (.tup [.inl (.val (.bool true)),.inl (.val x.1),.inl (.val x.2)]))
 |_,_=>False
def Tt(C:Ctx)(o:Oper)(x:Operand)(σ:St)(K:St->Prop):Prop:=
 match σ.ev x with
 |.at (.val (.pointer (some ⟨r,0,none⟩)))=>∃(b:Nat)(c left:db)(x:Value×Value),E7 σ.m b r c left x/\
  match PT C.heapT 410000 with
  |true=>∃s:Sl,x.2=Sl.val s/\K (σ.put o.dst (.tup [.inl (.val x.1),.inl (.val (.slice s.a s.len s.cap))]))
  |false=>K (σ.put o.dst (.tup [.inl (.val x.1),.inl (.val x.2)]))
 |_=>False
def ahX(σ:St)(x v:Operand):dl:=match σ.ev x with|.at (.ptr _ _)=>[]|_=>(σ.ev v).keys
def F0(C:Ctx)(o:Oper)(T:TypeId):dl:=match o.dst with|some d=>(match PT C.heapT T||PT C.heapT (200000+d)with|true=>[d]|false=>[])|none=>[]
def cbQ(C:Ctx)(o:Oper)(T:TypeId):Bool:=match F0 C o T with|[]=>false|_=>true
def ZJ(C:Ctx)(o:Oper)(τ:St):dl:=match o.dst with|some d=>(match PT C.heapT (100000+d)with|true=>(τ.ev (.tmp d)).keys|false=>[])|none=>[]
structure bmQ(w:World)(m:MH)(h:PH):Prop where
 hsat:∀b o v,h b o=some v->w.cell? ⟨b,o,none⟩=some v
 msat:∀b o,m b=some o->w.heap[b]? =some o
 disj:∀b o,m b=some o->∀i,h b i=none
structure Zl(w:World)(m:MH)(h:PH)(m':MH)(h':PH)(w':World):Prop where
 tape:w'.tape=w.tape
 os:w'.os=w.os
 output:w'.output=w.output
 drawn:w.drawn<=w'.drawn
 size:w.heap.size<=w'.heap.size
 frame:∀b,b<w.heap.size->m b=none->w'.heap[b]? =w.heap[b]?
 heapy:bmQ w' m' h'
 hle:PH.le h h'
 hold:∀b,b<w.heap.size->m b=none->h' b=h b
 mfr:∀b o,m' b=some o->w.heap.size<=b\/m b≠none
def valOf(P:Program)(T:TypeId)(cs:cn):Value:=
 match zC P T with
 |true=>.agg cs.toArray
 |false=>match cs with|[x]=>x|_=>undef
structure FAt(P:Program)(f:FuncId)(T:TypeId)(cvs:dk)(m:MH)(h:PH)(R:cn->MH->PH->Prop):Prop where
 fn:∃fn,P.funcs[f]? =some fn/\fn.body.isSome=true/\(fn.name== "runtime.NumGoroutine")=false
 go:∀(vs:cn)(w:World),cvs=vs.map .val->bmQ w m h->Calls P f vs.toArray w λe w'=>∃l m' h',e= .returned (valOf P T l)/\R l m' h'/\Zl w m h m' h' w'
def Nx:dk->cn->dk
 |[],l=>l.map .val
 |c::r,l=>c::Nx r l
def ccJ:dx->Option TypeId
 |[]=>none
 |x::r=>match Nat.ble 510000 x with|true=>some (Nat.sub x 510000)|false=>ccJ r
def cjQ(C:Ctx):Operand->Option TypeId
 |.tmp _=>ccJ C.heapT
 |_=>none
def bcJ(C:Ctx)(o:Oper)(T:TypeId)(f:FuncId)(a:cn)(args:dp)(σ:St)(K:St->Prop):Prop:=
 match rT C.P σ [] 0 args []with
 |some b=>∃R:(C.dec T).X->MH->PH->Prop,FAt C.P f T (Nx b a) σ.m σ.h (λl m h=>∃x,l=(C.dec T).enc x/\R x m h)/\
  ∀(x:(C.dec T).X)(m:MH)(h:PH),R x m h->K ({σ with m:=m,h:=h}.put o.dst (mk C.P T (((C.dec T).enc x).map .val)))
 |none=>False
def PR(C:Ctx)(o:Oper)(σ:St)(K:St->Prop):Prop:=
 match o.op with
 |.move x=>K (σ.put o.dst (σ.ev x))
 |.assign x=>K (σ.put o.dst (σ.ev x))
 |.pick c a b=>WH o c a b σ K
 |.alloc T=>TC C o T σ (λτ=>FQ τ K (F0 C o T))
 |.box T x=>match cbQ C o T with
  |true=>vI σ (λτ=>Z8 o T x τ (λυ=>FQ υ K (F0 C o T))) (σ.ev x).keys
  |false=>Z8 o T x σ K
 |.build T h=>Tz C o T h.toList σ K
 |.buildSlice T n h=>E4 C o T n h.toList σ (λτ=>Dv τ (λυ=>vI υ K (ZJ C o υ)) (F0 C o T))
 |.load T x=>W2 C o T x σ K
 |.store T x v=>match o.dst with|none=>vI σ (λτ=>SK C T x v τ K) (ahX σ x v)|some _=>False
 |.makeFunc _ _ e=>FQ σ (λτ=>w8 C o τ K) (pM σ e.toList)
 |.nilCheck x=>HW o x σ K
 |.binOp .quo _ x y _=>Z5 o .quo x y σ K
 |.binOp .rem _ x y _=>Z5 o .rem x y σ K
 |.binOp .eql T x y _=>match zC C.P T with|true=>DN C o false T x y σ K|false=>w8 C o σ K
 |.binOp .neq T x y _=>match zC C.P T with|true=>DN C o true T x y σ K|false=>w8 C o σ K
 |.binOp .add _ x y _=>Pd C o x y σ K
 |.binOp .. =>w8 C o σ K
 |.unOp .. =>w8 C o σ K
 |.convert s d x=>LH C o s d x σ K
 |.makeSlice T l c=>FO C o T l c σ (λτ=>Dv τ K (F0 C o (2000+T)))
 |.slice T x m p t=>SN C o T x m p t σ K
 |.fieldAddr T x f=>F3 C o T x f σ K
 |.field T x f=>Tl C o T x f σ K
 |.indexAddr T x i=>FX C o T x i σ K
 |.index T x i=>Tc C o T x i σ K
 |.extract x i=>LC C o x i σ K
 |.makeMap _ r=>KU o r σ K
 |.lookup T x k ok=>On C o T x k ok σ K
 |.mapUpdate T x k v=>match o.dst with|none=>(match PT C.heapT 400000 with|true=>JR C T x k v σ K|false=>CS C T x k v σ K)|some _=>False
 |.range T x=>SQ C o T x σ K
 |.next x b=>WW o x b σ K
 |.entry x=>Tt C o x σ K
 |.call c=>match c.callee with
  |.builtin .len=>match c.args.toList with
   |[x]=>aPJ C o x c.argTypes.toList σ K
   |_=>False
  |.builtin .append=>match c.args.toList,c.argTypes.toList with
   |[x,y],[T,u]=>Pl C o T u x y σ (λτ=>vI τ K (ZJ C o τ))
   |_,_=>False
  |.builtin .cap=>w8 C o σ K
  |.builtin .min=>w8 C o σ K
  |.builtin .max=>w8 C o σ K
  |.builtin _=>False
  |.value g=>match σ.ev g with
   |.at (.val (.func (.func f) j e))=>match cjQ C g with
    |some T=>match j.toList with
     |[]=>bcJ C o T f e.toList c.args.toList σ K
     |_=>False
    |none=>match j.toList,e.toList with
     |[],[]=>Y4 C o f c.args.toList c.argTypes.toList σ K
     |_,_=>False
   |_=>False
  |.invoke .. =>False
 |_=>False
def setTmp(σ:St)(c:Operand)(b:Bool):St:=
 match c with
 |.tmp t=>{σ with sl:=σ.sl.set t (.at (.val (.bool b)))}
 |_=>σ
def OA(f:Oper->St->(St->Prop)->Prop)(ops:Array Oper)(o:Oper)(σ:St)(K:St->Prop):Prop:=
 match o.guard with
 |none=>f o σ K
 |some (j,a)=>
  match nth ops.toList j with
  |none=>False
  |some g=>match g.dst with
   |none=>False
   |some d=>match σ.ev (.tmp d)with
    |.at (.val (.bool t))=>
     branch t
      (match a with|true=>f o (setTmp σ (.tmp d) true) K|false=>K ((setTmp σ (.tmp d) true).put o.dst (.at (.val undef))))
      (match a with|false=>f o (setTmp σ (.tmp d) false) K|true=>K ((setTmp σ (.tmp d) false).put o.dst (.at (.val undef))))
    |.at (.val (.tuple _))=>K (σ.put o.dst (.at (.val undef)))
    |_=>False
def Tf(C:Ctx)(ops:Array Oper)(o:Oper)(σ:St)(K:St->Prop):Prop:=OA (PR C) ops o σ K
structure Pm(P:Program)(S:Spec):Prop where
 go:∀(l:Nat)(vs:cn)(m:MH)(h:PH)(w:World)(K:cr),S (.val (.func (.yield l) #[] #[])::vs.map .val) m h K->bmQ w m h->
  ∃fn tmps assign body,(Instr.yield l vs.toArray).run P w= .ok (.round l fn tmps assign body) w/\
   RoundIn Fence.wide 0 P l fn tmps assign body w λe w'=>∃u m' h',e= .returned u/\K (.val u) m' h'/\Zl w m h m' h' w'
def SC(C:Ctx)(o:Oper)(v:Value)(args:dp)(σ:St)(K:St->Prop):Prop:=
 match C.yield with
 |none=>False
 |some S=>
  match rT C.P σ [] 0 args []with
  |some a=>Pm C.P S/\S (.val v::a) σ.m σ.h (λr m h=>match r with
   |.val u=>K ({σ with m:=m,h:=h}.put o.dst (.at (.val u)))
   |_=>False)
  |none=>False
def Qp(C:Ctx)(o:Oper)(σ:St)(K:St->Prop):Prop:=
 match o.op with
 |.call c=>match c.callee with
  |.value g=>match σ.ev g with
   |.at (.val (.func (.yield l) a b))=>match a.toList,b.toList with
    |[],[]=>SC C o (.func (.yield l) #[] #[]) c.args.toList σ K
    |_,_=>False
   |_=>PR C o σ K
  |_=>PR C o σ K
 |_=>PR C o σ K
def Qg(C:Ctx)(ops:Array Oper):List Oper->St->(St->Prop)->Prop
 |[],σ,K=>K σ
 |o::r,σ,K=>OA (Qp C) ops o σ (λτ=>Qg C ops r τ K)
def A9(P:Program)(o:Oper):Bool:=
 match o.op with
 |.load .. =>true
 |.convert src _ _=>match P.underlying src with
  |some (.slice _)=>true
  |_=>false
 |_=>false
def Fl:Op->Bool
 |.move _|.assign _|.pick .. |.build .. |.load .. |.nilCheck _|.unOp .. |.fieldAddr .. |.field .. |.indexAddr .. |.index .. |.extract .. =>true
 |.binOp .. =>true
 |.convert .. =>true
 |.call {callee:=.builtin .len,.. }=>true
 |.call {callee:=.builtin .min,.. }=>true
 |.call {callee:=.builtin .max,.. }=>true
 |_=>false
def G3(ops:Array Oper):dl->Option (Nat×Oper)
 |[]=>none
 |i::r=>match nth ops.toList i with
  |some o=>match Fl o.op with|true=>some (i,o)|false=>G3 ops r
  |none=>G3 ops r
def waits(a:Oper)(i:Nat):Bool:=a.after.toList.any λe=>Region.binds .any e&&Nat.beq e.on i
def zK(σ:St)(a:Oper)(k:Nat):Bool:=
 (match a.dst with|some d=>Nat.beq d k|none=>false)||
 match a.op with
 |.store _ x _=>match σ.ev x with
  |.at (.ptr j _)=>Nat.beq j k
  |_=>false
 |.call c=>match c.callee with
  |.value _=>(pM σ c.args.toList).contains k
  |_=>false
 |_=>false
def As(ops:Array Oper)(σ:St)(b:Oper):Bool:=
 match b.guard with
 |none=>false
 |some (j,a)=>match nth ops.toList j with
  |none=>false
  |some g=>match g.dst with
   |none=>false
   |some d=>match σ.ev (.tmp d)with
    |.at (.val (.bool t))=>match t,a with
     |true,false=>true
     |false,true=>true
     |_,_=>false
    |.at (.val (.tuple _))=>true
    |_=>false
def buZ:Op->Bool
 |.move _=>true
 |_=>false
def cdX(ops:Array Oper)(ok:Oper)(i:Nat):Bool:=
 waits ok i||ops.toList.zipIdx.any λx=>waits ok x.2&&waits x.1 i
def bXJ(ops:Array Oper):Bool:=
 let l:=ops.toList
 let n:=l.length
 (List.range n).all λi=>match nth l i with
  |none=>true
  |some a=>(a.after.toList.all λe=> !Region.binds .any e||Nat.blt e.on i)&&((List.range n).all λk=>match nth l k with
   |none=>true
   |some ok=>match ok.dst with
    |none=>true
    |some d=>Nat.beq i k|| !(a.dst==some d))&&
   (((List.range n).all λk=>match nth l k with
   |none=>true
   |some ok=>match ok.dst with
    |none=>true
    |some d=> !(a.looksAt ops).contains d||waits a k)||
   (buZ a.op&&(List.range n).all λk=>match nth l k with
   |none=>true
   |some ok=>match ok.dst with
    |none=>true
    |some d=> !(a.looksAt ops).contains d||cdX ops ok i))
def AD:Op->Bool
 |.alloc _|.box .. |.buildSlice .. |.makeSlice .. |.makeMap .. |.lookup .. =>true
 |_=>false
def tT(o:Oper):Option dp:=
 match o.op with
 |.call c=>match c.callee with
  |.value _=>some c.args.toList
  |_=>none
 |_=>none
def Hq(σ:St)(k:Nat):dp->Bool
 |[]=>true
 |x::r=>(match σ.ev x with
  |.at (.lst j)=>match nth σ.own j with|some (some _)=> !Nat.beq j k|_=>false
  |.at (.ptr j _)=>match nth σ.own j with|some (some _)=> !Nat.beq j k|_=>false
  |_=>true)&&Hq σ k r
def TB(σ:St)(a:Oper)(k:Nat):Bool:=
 AD a.op||match tT a with|some l=>Hq σ k l|none=>false
def L7(P:Program)(n:Bool)(σ:St)(c f:Oper)(K:Prop):Prop:=
 match A9 P f with
 |false=>K
 |true=>
  match f.op with
  |.load T x=>match jN P T with
   |false=>False
   |true=>match σ.ev x,f.dst with
    |.at (.ptr k off),_=>match nth σ.own k with
     |some (some (.cellsP _ _ a))=>match zK σ c k,Nat.ble (off+P.cellsOf T) a.length with
      |false,true=>K
      |_,_=>False
     |_=>False
    |.at (.val (.pointer (some ⟨b,o,none⟩))),some d=>match(σ.ev (.tmp d)).cells? with
     |some a=>match wK a with
      |some l=>match Nat.beq l.length (P.cellsOf T)with
       |true=>match AD c.op||n with
        |true=>aU σ.m σ.h b o l/\K
        |false=>bM σ.h b o l/\K
       |false=>False
      |none=>False
     |none=>False
    |.at (.el k i p off),some d=>match nth σ.own k,(σ.ev (.tmp d)).cells? with
     |some (some (.lst _ s g)),some a=>match wK a,Nat.beq s p,TB σ c k with
      |some l,true,true=>match Nat.beq l.length (P.cellsOf T)with
       |true=>(∃e:cn,g[i]? =some e/\(e.drop off).take (P.cellsOf T)=l)/\K
       |false=>False
      |_,_,_=>False
     |_,_=>False
    |_,_=>False
  |.convert src j x=>match σ.ev x,f.dst with
   |.at (.lst k),some d=>match nth σ.own k,σ.ev (.tmp d)with
    |some (some (.lst _ _ g)),.at (.val (.string s))=>match P.underlying src,P.underlying j with
     |some (.slice E),some .string=>match P.underlying E with
      |some (.int .u8)=>match TB σ c k with
       |true=>g=fR s/\K
       |false=>False
      |_=>False
     |_,_=>False
    |_,_=>False
   |_,_=>False
  |_=>False
def Ky(P:Program)(c:Bool)(ops:Array Oper)(a:Array Bool)(σ:St)(b:Oper):Nat->List Oper->Prop->Prop
 |_,[],K=>K
 |i,d::r,K=>
  match a.getD i false,Fl d.op,waits b i,As ops σ d with
  |true,true,false,false=>L7 P c σ b d (Ky P c ops a σ b (i+1) r K)
  |_,_,_,_=>Ky P c ops a σ b (i+1) r K
def IA(σ:St)(c a:Oper)(τ:St)(K:Prop):Prop:=
 match a.op with
 |.load _ x=>match σ.ev x,a.dst with
  |.at (.val (.pointer (some ⟨b,o,none⟩))),some d=>match(σ.ev (.tmp d)).cells? with
   |some e=>match wK e with
    |some l=>match AD c.op with
     |true=>K
     |false=>aU τ.m τ.h b o l/\K
    |none=>K
   |none=>K
  |_,_=>K
 |_=>K
def Gl(ops:Array Oper)(a:Array Bool)(σ:St)(b:Oper)(τ:St):Nat->List Oper->Prop->Prop
 |_,[],K=>K
 |i,c::r,K=>
  match a.getD i false,Fl c.op,waits b i,As ops σ c with
  |true,true,false,false=>IA σ b c τ (Gl ops a σ b τ (i+1) r K)
  |_,_,_,_=>Gl ops a σ b τ (i+1) r K
def Y8(C:Ctx):Bool:=PT C.heapT 0
def Km(C:Ctx)(ops:Array Oper)(a:Array Bool)(σ:St)(b:Oper)(τ:St)(K:Prop):Prop:=match Y8 C with|true=>Gl ops a σ b τ 0 ops.toList K|false=>K
def beQ(g:Nat->Prop):dl->Prop
 |[]=>True
 |[j]=>g j
 |j::r=>g j/\beQ g r
def C0(C:Ctx)(ops:Array Oper):Nat->Array Bool->St->(St->Prop)->Prop
 |0,a,σ,K=>match Region.ready .any ops a with|[]=>K σ|_=>False
 |n+1,a,σ,K=>
  match Region.ready .any ops a with
  |[]=>K σ
  |rs=>match G3 ops rs with
   |some (i,o)=>Tf C ops o σ (λτ=>C0 C ops n (a.setIfInBounds i true) τ K)
   |none=>
    beQ (λj=>match nth ops.toList j with
     |some o=>Ky C.P (Y8 C) ops a σ o 0 ops.toList (Tf C ops o σ (λτ=>Km C ops a σ o τ (C0 C ops n (a.setIfInBounds j true) τ K)))
     |none=>False) rs
def lG:Code->Option Nat
 |.region id _ _=>some id
 |.seq a b=>match lG a with|some i=>some i|none=>lG b
 |.cond _ a b=>match lG a with|some i=>some i|none=>lG b
 |.block _ a=>lG a
 |.loop a=>lG a
 |.scope a=>lG a
 |_=>none
def CR:dz->dz->Prop->Prop
 |[],[],K=>K
 |x::xs,.at .junk::ys,K=>match x with|_=>CR xs ys K
 |x::xs,y::ys,K=>x=y/\CR xs ys K
 |_,_,_=>False
def yC:dv->dv->Prop->Prop
 |[],[],K=>K
 |_::xs,none::ys,K=>yC xs ys K
 |x::xs,some y::ys,K=>x=some y/\yC xs ys K
 |_,_,_=>False
def Tw(τ:St):dz->Nat->St->St
 |[],_,σ=>σ
 |y::ys,i,σ=>
  Tw τ ys (i+1) (match y with
   |.at (.lst k)=>match nth σ.sl i with
    |some (.at (.val (.slice none 0 0)))=>match nth τ.own k,nth σ.own k with
     |some (some (.lst E a _)),some none=>((σ.kill k).setOwn k (some (.lst E a []))).put (some i) (.at (.lst k))
     |_,_=>σ
    |_=>σ
   |_=>σ)
def HK(σ:St)(q j:Nat)(x:At):St:=
 match nth σ.own q with
 |some (some (.cellsP p T a))=>σ.setOwn q (some (.cellsP p T (a.set j x)))
 |_=>σ
def Hh(τ:St)(q:Nat):dj->Nat->St->St
 |[],_,σ=>σ
 |y::ys,j,σ=>
  Hh τ q ys (j+1) (match y with
   |.lst k=>match nth σ.own q with
    |some (some (.cellsP _ _ a))=>match nth a j with
     |some (.val (.slice none 0 0))=>match nth τ.own k,nth σ.own k with
      |some (some (.lst E b _)),some none=>HK ((σ.kill k).setOwn k (some (.lst E b []))) q j (.lst k)
      |_,_=>σ
     |_=>σ
    |_=>σ
   |_=>σ)
def Nu(τ:St):dv->Nat->St->St
 |[],_,σ=>σ
 |y::ys,q,σ=>
  Nu τ ys (q+1) (match y with
   |some (.cellsP _ _ a)=>Hh τ q a 0 σ
   |_=>σ)
def conv(σ τ:St):St:=Nu τ τ.own 0 (Tw τ τ.sl 0 σ)
def yA(σ τ:St)(K:Prop):Prop:=
 CR (conv σ τ).sl τ.sl (yC (conv σ τ).own τ.own ((conv σ τ).m=τ.m/\(conv σ τ).h=τ.h/\K))
structure yK(m:MH)(h:PH):Prop where
 disj:∀b o,m b=some o->∀i,h b i=none
structure sZ(m:MH)(h:PH)(m2:MH)(h2:PH):Prop where
 sub:∀b o,m2 b=some o->m b=some o
 le:PH.le h h2
 new:∀b i v,h2 b i=some v->h b i=some v\/∃cs E fz,m b=some (.cells cs E fz)/\cs[i]? =some v/\m2 b=none
def S5(σ τ:St)(K:Prop):Prop:=
 CR (conv σ τ).sl τ.sl (yC (conv σ τ).own τ.own (sZ (conv σ τ).m (conv σ τ).h τ.m τ.h/\K))
def MS(c:wQ)(R:c.A->Prop)(τ:St):Prop:=match c.frz with
 |false=>∃x,R x/\yA τ (c.st x) True
 |true=>yK τ.m τ.h->∃x,R x/\S5 τ (c.st x) True
def TD(c:wQ)(I:c.A->Prop)(S:c.A->Prop)(τ:St):Prop:=match c.frz with
 |false=>∃x,I x/\S x/\yA τ (c.st x) True
 |true=>yK τ.m τ.h->∃x,I x/\S x/\S5 τ (c.st x) True
def vK{α:Type}(d:α)(l:List (Nat×α)):Nat->Nat->List α
 |0,_=>[]
 |n+1,i=>(match assoc l i with|some x=>x|none=>d)::vK d l n (i+1)
def bQ(n a:Nat)(sl:List (Nat×SV))(own:List (Nat×Own))(m:MH)(h:PH):St:=
 {sl:=vK (.at .junk) sl n 0,own:=vK none (own.map λp=>(p.1,some p.2)) a 0,m:=m,h:=h}
def Z7(C:Ctx)(b:Code):Option Zn:=match lG b with|some i=>assoc C.cuts i|none=>none
def b2X(C:Ctx)(b:Code):Option Nz:=match lG b with|some i=>assoc C.loops i|none=>none
def Tv(C:Ctx)(b:Code):Option wQ:=match lG b with|some i=>assoc C.cuts2 i|none=>none
def btZ(C:Ctx)(b:Code):Option wQ:=match lG b with|some i=>assoc C.loops2 i|none=>none
def Zy(C:Ctx)(ops:Array Oper):dt->List Oper->St->(St->Prop)->Prop
 |[],l,σ,K=>Qg C ops l σ K
 |(n,a)::r,l,σ,K=>∃I:a.A->Prop,Qg C ops (l.take n) σ (λτ=>∃x,I x/\yA τ (a.st x) True)/\∀x,I x->Zy C ops r (l.drop n) (a.st x) K
def NO(C:Ctx)(id:Nat):dt:=match assoc C.rcuts id with|some l=>l|none=>[]
def VC(C:Ctx):Code->St->(Kr->St->Prop)->Prop
 |.skip,σ,Q=>Q .normal σ
 |.label _,σ,Q=>Q .normal σ
 |.region id d false,σ,Q=>Zy C d (NO C id) d.toList σ (Q .normal)
 |.region _ d true,σ,Q=>match bXJ d,Region.noSelect d,C.P.follows .mixedOrders with
  |true,true,true=>C0 C d d.size (Array.replicate d.size false) σ (Q .normal)
  |_,_,_=>False
 |.seq a b,σ,Q=>
  match Z7 C b with
  |some c=>VC C a σ (λe τ=>match e with
   |.normal=>∃x,c.inv x/\yA τ (c.st x) True
   |e=>Q e τ)/\∀x,c.inv x->VC C b (c.st x) Q
  |none=>match Tv C b with
   |some c=>∃I:c.A->Prop,VC C a σ (λe τ=>match e with
    |.normal=>MS c I τ
    |e=>Q e τ)/\∀x,I x->VC C b (c.st x) Q
   |none=>VC C a σ (λe τ=>match e with
    |.normal=>VC C b τ Q
    |e=>Q e τ)
 |.cond c x y,σ,Q=>
  match σ.ev c with
  |.at (.val (.bool t))=>branch t (VC C x (setTmp σ c true) Q) (VC C y (setTmp σ c false) Q)
  |_=>False
 |.block id c,σ,Q=>
  VC C c σ (λe τ=>match e with
   |.exit i=>match Nat.beq i id with|true=>Q .normal τ|false=>Q (.exit i) τ
   |e=>Q e τ)
 |.loop c,σ,Q=>
  match b2X C c with
  |some l=>
   (∃x,l.inv x/\yA σ (l.st x) True)/\
   ∀x,l.inv x->VC C c (l.st x) (λe τ=>match e with
    |.normal=>∃y,l.inv y/\l.mu y<l.mu x/\yA τ (l.st y) True
    |e=>Q e τ)
  |none=>match btZ C c with
   |some l=>∃(I:l.A->Prop)(f:l.A->Nat),
    MS l I σ/\
    ∀x,I x->VC C c (l.st x) (λe τ=>match e with
     |.normal=>TD l I (λy=>f y<f x) τ
     |e=>Q e τ)
   |none=>False
 |.exit id,σ,Q=>Q (.exit id) σ
 |.ret,σ,Q=>Q .ret σ
 |_,_,_=>False
def ZB(C:Ctx)(σ:St):ResultVar->Option SV
 |.tmp t=>some (σ.ev (.tmp t))
 |.cell a T=>match σ.ev (.tmp a)with
  |.at (.ptr k off)=>match nth σ.own k with
   |some (some (.cellsP _ _ b))=>match Nat.ble (off+C.P.cellsOf T) b.length,jN C.P T with
    |true,true=>some (mk C.P T ((b.drop off).take (C.P.cellsOf T)))
    |_,_=>none
   |_=>none
  |_=>none
def KI(C:Ctx)(σ:St):List ResultVar->Option dz
 |[]=>some []
 |r::rs=>match ZB C σ r,KI C σ rs with
  |some x,some l=>some (x::l)
  |_,_=>none
def ZH:dz->dl
 |[]=>[]
 |x::r=>x.keys++(ZH r).filter (λk=> !x.keys.contains k)
def DE(P:Program)(σ:St)(mv:Bool):dz->dx->Option dk
 |[],_=>some []
 |x::r,a=>match DE P σ mv r a.tail with
  |none=>none
  |some l=>match mv with
   |true=>match x with
    |.at (.lst k)=>match nth σ.own k with
     |some (some (.lst E b c))=>some (.lst E b c::l)
     |_=>none
    |.at (.val (.slice none 0 0))=>match elemOf P (a.headD 0)with
     |some (E,_)=>some (.lst E (P.cellsOf E) []::l)
     |none=>none
    |_=>none
   |false=>match x.val? with
    |some v=>some (.val v::l)
    |none=>none
def IH:dz->dl
 |[]=>[]
 |.at (.ptr k _)::r=>match(IH r).contains k with|true=>IH r|false=>k::IH r
 |_::r=>IH r
def Fc(C:Ctx)(fn:Func)(K:cr)(σ:St):Prop:=
 match KI C σ fn.results.toList with
 |none=>False
 |some a=>
  vI σ (λτ=>FQ τ (λυ=>
   match KI C υ fn.results.toList with
   |none=>False
   |some b=>match DE C.P υ C.retMove b fn.resultTypes.toList with
    |some [r]=>K r υ.m υ.h
    |some c=>match C.retMove with|true=>False|false=>K (.tup c) υ.m υ.h
    |none=>False) (match C.retMove with|true=>[]|false=>IH a)) (match C.retMove with|true=>[]|false=>ZH a)
def Hg(n:Nat):Nat->dk->dz
 |_,[]=>[]
 |i,.val v::r=>.at (.val v)::Hg n (i+1) r
 |i,.lst _ _ _::r=>.at (.lst (n+i))::Hg n (i+1) r
 |i,.tup _::r=>.at .junk::Hg n (i+1) r
def AG:dk->dv
 |[]=>[]
 |.lst E a b::r=>some (.lst E a b)::AG r
 |_::r=>none::AG r
def entry(n:Nat)(args:dk)(m:MH)(h:PH):St:=
 {sl:=Hg n 0 args++replicate (n-args.length) (.at .junk),own:=replicate n none++AG args,m:=m,h:=h}
def tQ(C:Ctx)(fn:Func)(c:Code)(σ:St)(K:cr):Prop:=
 VC C c σ (λe τ=>match e with
  |.normal=>Fc C fn K τ
  |.ret=>Fc C fn K τ
  |_=>False)
end Go.Vc
namespace Go.Vc
open Go List
theorem jS{α:Type}:∀(l:List α)(i:Nat),nth l i=l[i]?
 |[],i=>by simp[nth]
 |x::xs,0=>by simp[nth]
 |x::xs,n+1=>by simp[nth,jS xs n]
def zJ(ι:dc):At->Value->Prop
 |.val v,u=>u=v
 |.ptr k o,u=>∃b,ι k= .pointer (some ⟨b,0,none⟩)/\u= .pointer (some ⟨b,o,none⟩)
 |.lst k,u=>u=ι k
 |.el k i a o,u=>∃b n c,ι k= .slice (some ⟨b,0,none⟩) n c/\u= .pointer (some ⟨b,i*a+o,none⟩)
 |.junk,_=>True
def iN(ι:dc):dj->cn->Prop
 |[],[]=>True
 |x::xs,v::vs=>zJ ι x v/\iN ι xs vs
 |_,_=>False
def PE(ι:dc):List (Sum At dj)->cn->Prop
 |[],[]=>True
 |.inl x::xs,v::vs=>zJ ι x v/\PE ι xs vs
 |.inr b::xs,v::vs=>(∃a:Array Value,v= .agg a/\iN ι b a.toList)/\PE ι xs vs
 |_,_=>False
def Den(ι:dc):SV->Value->Prop
 |.at x,u=>zJ ι x u
 |.agg b,u=>∃a:Array Value,u= .agg a/\iN ι b a.toList
 |.tup c,u=>∃a:Array Value,u= .tuple a/\PE ι c a.toList
def DenS(ι:dc):dz->cn->Prop
 |[],[]=>True
 |x::xs,v::vs=>Den ι x v/\DenS ι xs vs
 |_,_=>False
theorem iN.length{ι:dc}:∀{cs:dj}{vs:cn},iN ι cs vs->cs.length=vs.length
 |[],[],_=>rfl
 |_::_,_::_,h=>by simp[iN.length h.2]
 |[],_::_,h=>h.elim
 |_::_,[],h=>h.elim
theorem iN.get{ι:dc}:∀{cs:dj}{vs:cn}(_:iN ι cs vs)(i:Nat)(x:At),cs[i]? =some x->∃v,vs[i]? =some v/\zJ ι x v
 |[],[],_,i,x,a=>by simp at a
 |_::_,v::_,h,0,x,a=>by simp at a;subst a;exact⟨v,rfl,h.1⟩
 |_::_,_::_,h,i+1,x,a=>by simp at a⊢;exact iN.get h.2 i x a
 |[],_::_,h,_,_,_=>h.elim
 |_::_,[],h,_,_,_=>h.elim
theorem iN.take{ι:dc}:∀{cs:dj}{vs:cn}(n:Nat),iN ι cs vs->iN ι (cs.take n) (vs.take n)
 |_,_,0,_=>by simp[iN]
 |[],[],n+1,h=>by simp[iN]
 |_::_,_::_,n+1,h=>by simp only[take_succ_cons];exact⟨h.1,h.2.take n⟩
 |[],_::_,_+1,h=>h.elim
 |_::_,[],_+1,h=>h.elim
theorem iN.drop{ι:dc}:∀{cs:dj}{vs:cn}(n:Nat),iN ι cs vs->iN ι (cs.drop n) (vs.drop n)
 |_,_,0,h=>bk h
 |[],[],n+1,h=>by simp[iN]
 |_::_,_::_,n+1,h=>by simp only[drop_succ_cons];exact h.2.drop n
 |[],_::_,_+1,h=>h.elim
 |_::_,[],_+1,h=>h.elim
theorem iN.append{ι:dc}:∀{cs a:dj}{vs b:cn},iN ι cs vs->iN ι a b->iN ι (cs++a) (vs++b)
 |[],_,[],_,_,c=>bg
 |_::_,_,_::_,_,h,c=>⟨h.1,h.2.append c⟩
 |[],_,_::_,_,h,_=>h.elim
 |_::_,_,[],_,h,_=>h.elim
theorem iN.splice{ι:dc}{cs new:dj}{vs us:cn}(off:Nat)(h:iN ι cs vs)(a:iN ι new us):
 iN ι (splice cs off new) (splice vs off us):=by
 unfold Vc.splice;rw[a.length];exact((h.take off).append a).append (h.drop _)
theorem iN.set{ι:dc}:∀{cs:dj}{vs:cn}(j:Nat){x:At}{v:Value},iN ι cs vs->zJ ι x v->iN ι (cs.set j x) (vs.set j v)
 |[],[],_,_,_,_,_=>by simp[iN]
 |_::_,_::_,0,_,_,h,a=>⟨a,h.2⟩
 |_::_,_::_,j+1,_,_,h,a=>⟨h.1,h.2.set j a⟩
 |[],_::_,_,_,_,h,_=>h.elim
 |_::_,[],_,_,_,h,_=>h.elim
theorem iN.vals{ι:dc}:∀{l:cn}{vs:cn},iN ι (l.map .val) vs↔vs=l
 |[],[]=>by simp[iN]
 |[],_::_=>by simp[iN]
 |_::_,[]=>by simp[iN]
 |a::l,v::vs=>by simp only[map_cons,iN,zJ,iN.vals,List.cons.injEq]
theorem Fu:∀{cs:dj}{l:cn},wK cs=some l->cs=l.map .val
 |[],l,h=>by simp[wK]at h;subst h;rfl
 |.val v::r,l,h=>by
  simp only[wK]at h;cases a:wK r with
  |none=>grind
  |some b=>simp[a]at h;subst h;simp[Fu a]
 |.ptr _ _::_,_,h=>by simp[wK]at h
 |.lst _::_,_,h=>by simp[wK]at h
 |.el _ _ _ _::_,_,h=>by simp[wK]at h
 |.junk::_,_,h=>by simp[wK]at h
theorem Den.val?{ι:dc}{x:SV}{u v:Value}(h:Den ι x u)(a:x.val? =some v):u=v:=by
 cases x with
 |agg c=>
  simp only[SV.val?]at a;cases b:wK c with
  |none=>grind
  |some l=>
   simp[b]at a;obtain⟨e,rfl,d⟩:=h;rw[Fu b,iN.vals]at d;subst a;congr 1
   grind
 |tup f=>simp[SV.val?]at a
 |_ y=>cases y<;>simp[SV.val?]at a;subst a;exact h
theorem DenS.length{ι:dc}:∀{xs:dz}{vs:cn},DenS ι xs vs->xs.length=vs.length
 |[],[],_=>rfl
 |_::_,_::_,h=>by simp[DenS.length h.2]
 |[],_::_,h=>h.elim
 |_::_,[],h=>h.elim
theorem DenS.get{ι:dc}:∀{xs:dz}{vs:cn}(_:DenS ι xs vs)(i:Nat)(x:SV),xs[i]? =some x->∃v,vs[i]? =some v/\Den ι x v
 |[],[],_,i,x,a=>by simp at a
 |_::_,v::_,h,0,x,a=>by simp at a;subst a;exact⟨v,rfl,h.1⟩
 |_::_,_::_,h,i+1,x,a=>by simp at a⊢;exact DenS.get h.2 i x a
 |[],_::_,h,_,_,_=>h.elim
 |_::_,[],h,_,_,_=>h.elim
theorem DenS.set{ι:dc}:∀{xs:dz}{vs:cn}(j:Nat){x:SV}{v:Value},DenS ι xs vs->Den ι x v->DenS ι (xs.set j x) (vs.set j v)
 |[],[],_,_,_,_,_=>by simp[DenS]
 |_::_,_::_,0,_,_,h,a=>⟨a,h.2⟩
 |_::_,_::_,j+1,_,_,h,a=>⟨h.1,h.2.set j a⟩
 |[],_::_,_,_,_,h,_=>h.elim
 |_::_,[],_,_,_,h,_=>h.elim
def upd(ι:dc)(k:Nat)(u:Value):Nat->Value:=λj=>if j=k then u else ι j
@[simp] theorem upd_same (ι:dc) (k:Nat) (u:Value):upd ι k u k=u:=by simp[upd]
theorem pV(ι:dc){k j:Nat}(u:Value)(h:j≠k):upd ι k u j=ι j:=by simp[upd,h]
def At.key:At->Option Nat
 |.ptr k _=>some k
 |.lst k=>some k
 |.el k _ _ _=>some k
 |_=>none
theorem zJ.sub{ι:dc}{k:Nat}{u:Value}{f:At->At}(g:∀x v,x.key=some k->zJ ι x v->zJ (upd ι k u) (f x) v){x:At}{v:Value}(h:zJ ι x v):
 zJ (upd ι k u) (x.sub k f) v:=by
 cases x with
 |val w=>exact h
 |junk=>trivial
 |ptr j o=>
  simp only[At.sub];split
  .rename_i a;exact g _ _ (by simp only[At.key,bx];exact ca a) h
  .rename_i a;have d:j≠k:=λe=>by subst e;simp at a
   obtain⟨b,l,m⟩:=h;exact⟨b,by rw[pV _ _ d];exact l,m⟩
 |lst j=>
  simp only[At.sub];split
  .rename_i a;exact g _ _ (by simp only[At.key,bx];exact ca a) h
  .rename_i a;have d:j≠k:=λe=>by subst e;simp at a
   simp only[zJ]at h⊢
   rw[pV _ _ d];exact h
 |el j i p o=>
  simp only[At.sub];split
  .rename_i a;exact g _ _ (by simp only[At.key,bx];exact ca a) h
  .rename_i a;have d:j≠k:=λe=>by subst e;simp at a
   obtain⟨b,n,c,l,m⟩:=h;exact⟨b,n,c,by rw[pV _ _ d];exact l,m⟩
theorem iN.sub{ι:dc}{k:Nat}{u:Value}{f:At->At}(a:∀x v,x.key=some k->zJ ι x v->zJ (upd ι k u) (f x) v):∀{cs:dj}{vs:cn},iN ι cs vs->
 iN (upd ι k u) (cs.map (At.sub k f)) vs
 |[],[],_=>trivial
 |_::_,_::_,h=>⟨zJ.sub a h.1,iN.sub a h.2⟩
 |[],_::_,h=>h.elim
 |_::_,[],h=>h.elim
theorem PE.sub{ι:dc}{k:Nat}{u:Value}{f:At->At}(a:∀x v,x.key=some k->zJ ι x v->zJ (upd ι k u) (f x) v):∀{cs:List (Sum At dj)}{vs:cn},PE ι cs vs->
 PE (upd ι k u) (cs.map λ |.inl x=>.inl (x.sub k f)|.inr cs=>.inr (cs.map (At.sub k f))) vs
 |[],[],_=>trivial
 |.inl _::_,_::_,h=>⟨zJ.sub a h.1,PE.sub a h.2⟩
 |.inr _::_,_::_,h=>⟨let⟨us,e,hd⟩:=h.1;⟨us,e,iN.sub a hd⟩,PE.sub a h.2⟩
 |[],_::_,h=>h.elim
 |.inl _::_,[],h=>h.elim
 |.inr _::_,[],h=>h.elim
theorem Den.sub{ι:dc}{k:Nat}{u:Value}{f:At->At}(a:∀x v,x.key=some k->zJ ι x v->zJ (upd ι k u) (f x) v){x:SV}{v:Value}(h:Den ι x v):
 Den (upd ι k u) (x.sub k f) v:=by
 cases x with
 |agg d=>obtain⟨b,e,c⟩:=h;exact⟨b,e,iN.sub a c⟩
 |tup g=>obtain⟨b,e,c⟩:=h;exact⟨b,e,PE.sub a c⟩
 |_ y=>exact zJ.sub a h
theorem DenS.sub{ι:dc}{k:Nat}{u:Value}{f:At->At}(a:∀x v,x.key=some k->zJ ι x v->zJ (upd ι k u) (f x) v):∀{xs:dz}{vs:cn},DenS ι xs vs->
 DenS (upd ι k u) (xs.map (SV.sub k f)) vs
 |[],[],_=>trivial
 |_::_,_::_,h=>⟨Den.sub a h.1,DenS.sub a h.2⟩
 |[],_::_,h=>h.elim
 |_::_,[],h=>h.elim
structure tW where
 w0:World
 E:Nat->Prop
 h0:PH
 dfs:List Deferred
def blk:Value->Option Nat
 |.pointer (some a)=>some a.block
 |.slice (some a) _ _=>some a.block
 |_=>none
def DI(ι:dc)(w:World)(v:Value):Own->Prop
 |.cellsP p T e=>∃b c,v= .pointer (some ⟨b,0,none⟩)/\w.heap[b]? =some (.cells c T (0,0))/\iN ι e c.toList/\∀q,p=some q->b=q
 |.lst E d a=>i6 d a/\w.ownsRow 0 E d v a.length a.flatten
structure AO(B:tW)(m:MH)(h:PH)(w:World):Prop where
 tape:w.tape=B.w0.tape
 os:w.os=B.w0.os
 output:w.output=B.w0.output
 drawn:B.w0.drawn<=w.drawn
 size:B.w0.heap.size<=w.heap.size
 frame:∀b,b<B.w0.heap.size->¬B.E b->w.heap[b]? =B.w0.heap[b]?
 hsat:∀b o v,h b o=some v->w.cell? ⟨b,o,none⟩=some v
 msat:∀b o,m b=some o->w.heap[b]? =some o
 disj:∀b o,m b=some o->∀i,h b i=none
 hle:∀b o v,B.h0 b o=some v->h b o=some v
 hold:∀b,b<B.w0.heap.size->¬B.E b->h b=B.h0 b
 mfr:∀b o,m b=some o->B.w0.heap.size<=b\/B.E b
structure aK(B:tW)(ι:dc)(σ:St)(a:Act)(w:World):Prop where
 slots:DenS ι σ.sl a.tmps.toList
 defers:a.defers=B.dfs
 own:∀k o,nth σ.own k=some (some o)->DI ι w (ι k) o
 dist:∀k k' o o' b,nth σ.own k=some (some o)->nth σ.own k'=some (some o')->blk (ι k)=some b->blk (ι k')=some b->k=k'
 fresh:∀k o b,nth σ.own k=some (some o)->blk (ι k)=some b->(B.w0.heap.size<=b\/B.E b)/\σ.m b=none/\∀i,σ.h b i=none
 wrel:AO B σ.m σ.h w
 one:∀k,(ι k).oneCell'=true
theorem zN{α:Type}(l:List α)(k j:Nat)(x:α):nth (l.set k x) j=if j=k/\k<l.length then some x else nth l j:=by
 rw[jS,jS,getElem?_set]
 grind
theorem Cr{α β:Type}(f:α->β)(l:List α)(j:Nat):nth (l.map f) j=(nth l j).map f:=by
 rw[jS,jS,getElem?_map]
theorem Act.toList_put(a:Act)(d:Nat)(v:Value):(a.put (some d) v).tmps.toList=a.tmps.toList.set d v:=by
 simp[Act.put]
theorem aK.put{B:tW}{ι:dc}{σ:St}{a:Act}{w:World}(h:aK B ι σ a w)(d:Option Tmp){x:SV}{v:Value}(b:Den ι x v):
 aK B ι (σ.put d x) (a.put d v) w:=by
 cases d with
 |none=>exact h
 |some d=>
  refine⟨?_,h.defers,h.own,h.dist,h.fresh,h.wrel,h.one⟩;rw[Act.toList_put];exact h.slots.set d b
theorem aK.ev{B:tW}{ι:dc}{σ:St}{a:Act}{w:World}(h:aK B ι σ a w)(x:Operand):Den ι (σ.ev x) (a.eval x):=by
 cases x with
 |const v=>rfl
 |global g=>rfl
 |func f=>rfl
 |tmp t=>
  simp only[St.ev,jS];cases b:σ.sl[t]? with
  |none=>exact trivial
  |some x=>
   obtain⟨v,c,d⟩:=h.slots.get t x b
   have:a.eval (.tmp t)=v:=by
    simp only[Act.eval,Array.getD_eq_getD_getElem?]
    grind
   grind
theorem aK.rho{B:tW}{ι:dc}{σ:St}{a:Act}{w:World}(h:aK B ι σ a w){x:Operand}{v:Value}(b:(σ.ev x).val? =some v):
 a.eval x=v:=(h.ev x).val? b
theorem rH{ι:dc}{w:World}{v:Value}{o:Own}{b:Nat}(h:DI ι w v o)(a:blk v=some b):b<w.heap.size:=by
 cases o with
 |cellsP p T g=>
  obtain⟨c,i,rfl,d,_⟩:=h;simp[blk]at a;grind
 |lst E j l=>
  rcases h.2.2 with⟨rfl,_⟩|⟨c,e,f,rfl,_,d,_⟩
  .simp[blk]at a
  .simp[blk]at a;grind
theorem DI.world{ι:dc}{w w':World}{v:Value}{o:Own}(h:DI ι w v o)(f:∀b,blk v=some b->w'.heap[b]? =w.heap[b]?):DI ι w' v o:=by
 cases o with
 |cellsP p T m=>
  obtain⟨a,g,rfl,c,i⟩:=h;exact⟨a,g,rfl,by rw[f _ rfl];exact c,i⟩
 |lst E n r=>
  refine⟨h.1,h.2.1,?_⟩;rcases h.2.2 with⟨rfl,s⟩|⟨a,d,e,rfl,j,c,l⟩
  .grind
  .exact .inr ⟨a,d,e,rfl,j,by rw[f _ rfl];exact c,l⟩
theorem DI.sub{ι:dc}{w:World}{v:Value}{o:Own}{k:Nat}{u:Value}{f:At->At}(a:∀x v,x.key=some k->zJ ι x v->zJ (upd ι k u) (f x) v)(h:DI ι w v o):
 DI (upd ι k u) w v (o.sub k f):=by
 cases o with
 |cellsP p T i=>
  obtain⟨b,c,rfl,d,e,g⟩:=h;exact⟨b,c,rfl,d,iN.sub a e,g⟩
 |lst E j l=>exact h
theorem qN{σ:St}{k j:Nat}{f:At->At}{o':Own}(h:nth ((σ.sub k f).setOwn k none).own j=some (some o')):
 j≠k/\∃o,nth σ.own j=some (some o)/\o'=o.sub k f:=by
 simp only[St.setOwn,St.sub,zN,Cr]at h;by_cases a:j=k
 .subst a;by_cases b:j<σ.own.length
  .grind
  .simp[b,jS]at h
 .simp only[a,false_and,if_false]at h;refine⟨a,?_⟩;cases c:nth σ.own j with
  |none=>grind
  |some x=>
   cases x with
   |none=>grind
   |some o=>grind
theorem SE{ι:dc}(h:∀k,(ι k).oneCell'=true)(k:Nat){u:Value}(a:u.oneCell'=true):∀j,(upd ι k u j).oneCell'=true:=by
 intro j;unfold upd
 grind
theorem aK.drop{B:tW}{ι:dc}{σ:St}{a:Act}{w:World}(h:aK B ι σ a w)(k:Nat)(u:Value)(s:u.oneCell'=true)(f:At->At)
 (p:∀x v,x.key=some k->zJ ι x v->zJ (upd ι k u) (f x) v):aK B (upd ι k u) ((σ.sub k f).setOwn k none) a w:=by
 refine⟨DenS.sub p h.slots,h.defers,?_,?_,?_,h.wrel,SE h.one k s⟩
 .intro j r d;obtain⟨c,o,e,rfl⟩:=qN d;rw[pV _ _ c];exact(h.own j o e).sub p
 .intro j t o r b d m g i;obtain⟨c,o,e,rfl⟩:=qN d;obtain⟨l,r,n,rfl⟩:=qN m;rw[pV _ _ c]at g;rw[pV _ _ l]at i;exact h.dist j t _ _ b e n g i
 .intro j o b d g;obtain⟨c,o,e,rfl⟩:=qN d;rw[pV _ _ c]at g;exact h.fresh j o b e g
theorem Nr(σ:St)(k:Nat):σ.kill k=(σ.sub k (λ_=>.junk)).setOwn k none:=rfl
theorem aK.kill{B:tW}{ι:dc}{σ:St}{a:Act}{w:World}(h:aK B ι σ a w)(k:Nat)(u:Value)(b:u.oneCell'=true):aK B (upd ι k u) (σ.kill k) a w:=
 h.drop k u b _ (λ_ _ _ _=>trivial)
structure DG(S:Nat->Prop)(w w':World):Prop where
 tape:w'.tape=w.tape
 os:w'.os=w.os
 output:w'.output=w.output
 drawn:w.drawn<=w'.drawn
 size:w.heap.size<=w'.heap.size
 block:∀b,b<w.heap.size->¬S b->w'.heap[b]? =w.heap[b]?
theorem DG.refl(S:Nat->Prop)(w:World):DG S w w:=⟨rfl,rfl,rfl,Nat.le_refl _,Nat.le_refl _,λ_ _ _=>rfl⟩
theorem AO.ext{B:tW}{m:MH}{h:PH}{w w':World}{S:Nat->Prop}(a:AO B m h w)(c:DG S w w')(p:∀b,S b->(B.w0.heap.size<=b\/B.E b)/\m b=none/\∀i,h b i=none):
 AO B m h w':=by
 refine⟨c.tape.trans a.tape,c.os.trans a.os,c.output.trans a.output,cj a.drawn c.drawn,cj a.size c.size,?_,?_,?_,a.disj,a.hle,a.hold,a.mfr⟩
 .intro b f j;rw[c.block b (ck f a.size) (λg=>?_)]
  .exact a.frame b f j
  grind
 .intro b o v l;have e:=a.hsat b o v l
  have d:b<w.heap.size:=by
   unfold World.cell? at e
   grind
  have r:=c.block b d (λg=>bg);unfold World.cell? at e⊢
  grind
 .intro b o n;have e:=a.msat b o n;have d:=(Array.getElem?_eq_some_iff.1 e).1;rw[c.block b d (λg=>bg)];exact e
theorem aK.place{B:tW}{ι:dc}{σ:St}{a:Act}{w w':World}(h:aK B ι σ a w)(k:Nat)(o:Own)(v:Value)
 (J:DG (λb=>(∃o',nth σ.own k=some (some o'))/\blk (ι k)=some b) w w')
 (N:DI (upd ι k v) w' v o)(z:v.oneCell'=true)
 (O:∀b,blk v=some b->w.heap.size<=b\/((∃o',nth σ.own k=some (some o'))/\blk (ι k)=some b)):
 aK B (upd ι k v) ((σ.kill k).setOwn k (some o)) a w':=by
 have P:∀b,((∃o',nth σ.own k=some (some o'))/\blk (ι k)=some b)->(B.w0.heap.size<=b\/B.E b)/\σ.m b=none/\∀i,σ.h b i=none:=
  λb⟨⟨o',s⟩,D⟩=>h.fresh k o' b s D
 have F:=h.wrel.ext J P
 have A:∀b,blk v=some b->(B.w0.heap.size<=b\/B.E b)/\σ.m b=none/\∀i,σ.h b i=none:=by
  intro b K;rcases O b K with G|L
  .refine⟨.inl (cj h.wrel.size G),?_,?_⟩
   .cases Q:σ.m b with
    |none=>rfl
    |some R=>have:=(Array.getElem?_eq_some_iff.1 (h.wrel.msat b R Q)).1;omega
   .intro i;cases S:σ.h b i with
    |none=>rfl
    |some u=>
     have T:=h.wrel.hsat b i u S;unfold World.cell? at T
     grind
  grind
 have c:∀j o',nth ((σ.kill k).setOwn k (some o)).own j=some (some o')->
  (j=k/\o'=o)\/(j≠k/\∃l,nth σ.own j=some (some l)/\o'=l.sub k (λ_=>.junk)):=by
  intro j o' p;simp only[Nr,St.setOwn,St.sub,zN,Cr,length_set,length_map]at p;by_cases e:j=k
  .subst e;by_cases t:j<σ.own.length
   .grind
   .simp[t,jS]at p
  .simp only[e,false_and,if_false]at p;refine .inr ⟨e,?_⟩;cases W:nth σ.own j with
   |none=>grind
   |some x=>
    cases x with
    |none=>grind
    |some l=>grind
 have other:∀j l,j≠k->nth σ.own j=some (some l)->∀b,blk (ι j)=some b->blk v≠some b/\w'.heap[b]? =w.heap[b]? :=by
  intro j l e g b d;have t:=rH (h.own j l g) d;have y:¬((∃o',nth σ.own k=some (some o'))/\blk (ι k)=some b):=λ⟨⟨o',s⟩,D⟩=>e (h.dist j k l o' b g s d D);refine⟨λK=>?_,J.block b t y⟩
  grind
 refine⟨DenS.sub (f:=λ_=>.junk) (λ_ _ _ _=>trivial) h.slots,h.defers,?_,?_,?_,F,SE h.one k z⟩
 .intro j o' p;rcases c j o' p with⟨rfl,rfl⟩|⟨e,l,g,rfl⟩
  .rw[upd_same];exact N
  .rw[pV _ _ e];refine DI.world ((h.own j l g).sub (f:=λ_=>.junk) (λ_ _ _ _=>trivial)) (λb d=>(other j l e g b d).2)
 .intro j M l U b p H d n;rcases c j l p with⟨rfl,rfl⟩|⟨e,C,g,rfl⟩<;>rcases c M U H with⟨rfl,rfl⟩|⟨r,V,I,rfl⟩
  .rfl
  .rw[upd_same]at d;rw[pV _ _ r]at n
   grind
  .rw[upd_same]at n;rw[pV _ _ e]at d
   grind
  .rw[pV _ _ e]at d;rw[pV _ _ r]at n;exact h.dist j M _ _ b g I d n
 .intro j l b p d;rcases c j l p with⟨rfl,rfl⟩|⟨e,C,g,rfl⟩
  .rw[upd_same]at d;exact A b d
  .rw[pV _ _ e]at d;exact h.fresh j C b g d
theorem aK.adopt{B:tW}{ι:dc}{σ:St}{a:Act}{w:World}(h:aK B ι σ a w)(k:Nat)(o:Own)(v:Value)
 (C:DI (upd ι k v) w v o)(s:v.oneCell'=true)
 (D:∀b,blk v=some b->((B.w0.heap.size<=b\/B.E b)/\σ.m b=none/\∀i,σ.h b i=none)/\∀j o',j≠k->nth σ.own j=some (some o')->blk (ι j)≠some b):
 aK B (upd ι k v) ((σ.kill k).setOwn k (some o)) a w:=by
 have c:∀j o',nth ((σ.kill k).setOwn k (some o)).own j=some (some o')->
  (j=k/\o'=o)\/(j≠k/\∃n,nth σ.own j=some (some n)/\o'=n.sub k (λ_=>.junk)):=by
  intro j o' p;simp only[Nr,St.setOwn,St.sub,zN,Cr,length_set,length_map]at p;by_cases d:j=k
  .subst d;by_cases u:j<σ.own.length
   .grind
   .simp[u,jS]at p
  .simp only[d,false_and,if_false]at p;refine .inr ⟨d,?_⟩;cases H:nth σ.own j with
   |none=>grind
   |some x=>
    cases x with
    |none=>grind
    |some n=>grind
 refine⟨DenS.sub (f:=λ_=>.junk) (λ_ _ _ _=>trivial) h.slots,h.defers,?_,?_,?_,h.wrel,SE h.one k s⟩
 .intro j o' p;rcases c j o' p with⟨rfl,rfl⟩|⟨d,n,l,rfl⟩
  .rw[upd_same];exact C
  .rw[pV _ _ d];exact(h.own j n l).sub (f:=λ_=>.junk) (λ_ _ _ _=>trivial)
 .intro j A n F b p y e g;rcases c j n p with⟨rfl,rfl⟩|⟨d,t,l,rfl⟩<;>rcases c A F y with⟨rfl,rfl⟩|⟨r,G,z,rfl⟩
  .rfl
  .rw[upd_same]at e;rw[pV _ _ r]at g
   grind
  .rw[upd_same]at g;rw[pV _ _ d]at e
   grind
  .rw[pV _ _ d]at e;rw[pV _ _ r]at g;exact h.dist j A _ _ b l z e g
 .intro j n b p e;rcases c j n p with⟨rfl,rfl⟩|⟨d,t,l,rfl⟩
  .rw[upd_same]at e;exact(D b e).1
  .rw[pV _ _ d]at e;exact h.fresh j t b l e
theorem It(ι:dc)(k:Nat):upd ι k (ι k)=ι:=by
 funext j;unfold upd
 grind
structure Fz(σ σ':St):Prop where
 cells:∀k p T cs,nth σ.own k=some (some (.cellsP p T cs))->∃cs',nth σ'.own k=some (some (.cellsP p T cs'))
 imm:∀b off v,σ.h b off=some v->σ'.h b off=some v
 ptr:∀x k off,σ'.ev x= .at (.ptr k off)->σ.ev x= .at (.ptr k off)
 lst:∀x k,σ'.ev x= .at (.lst k)->σ.ev x= .at (.lst k)
 m_:σ'.m=σ.m
theorem Fz.refl(σ:St):Fz σ σ:=⟨λ_ _ _ a h=>⟨a,h⟩,λ_ _ _ h=>h,λ_ _ _ h=>h,λ_ _ h=>h,rfl⟩
theorem Fz.trans{σ τ υ:St}(h:Fz σ τ)(a:Fz τ υ):Fz σ υ:=
 ⟨λk p T d e=>let⟨cs',hk'⟩:=h.cells k p T d e;a.cells k p T cs' hk',λb o v f=>a.imm b o v (h.imm b o v f),λx k o c=>h.ptr x k o (a.ptr x k o c),λx k c=>h.lst x k (a.lst x k c),a.m_.trans h.m_⟩
theorem YW(σ:St)(k:Nat)(f:At->At)(m:MH)(h:PH)(own:dv)(x:Operand):
 St.ev {sl:=σ.sl.map (SV.sub k f),own:=own,m:=m,h:=h} x=(σ.ev x).sub k f\/(∃v,x= .const v\/(∃g,x= .global g)\/∃g,x= .func g):=by
 cases x with
 |tmp t=>
  left;simp only[St.ev,Cr];cases nth σ.sl t with
  |none=>rfl
  |some y=>rfl
 |const v=>grind
 |global g=>exact .inr ⟨undef,.inr (.inl ⟨g,rfl⟩)⟩
 |func g=>exact .inr ⟨undef,.inr (.inr ⟨g,rfl⟩)⟩
theorem bqJ{k:Nat}{f:At->At}(a:∀x j o,f x≠ .ptr j o){x:SV}{j o:Nat}(h:x.sub k f= .at (.ptr j o)):x= .at (.ptr j o):=by
 cases x with
 |agg b=>simp[SV.sub]at h
 |tup c=>simp[SV.sub]at h
 |_ y=>
  cases y<;>simp only[SV.sub,At.sub,SV.at.injEq]at h⊢
  case val=>exact h
  case junk=>exact h
  all_goals
   split at h
   .exact absurd h (a _ _ _)
   .exact h
theorem Zv{k:Nat}{f:At->At}(a:∀x j,f x≠ .lst j){x:SV}{j:Nat}(h:x.sub k f= .at (.lst j)):x= .at (.lst j):=by
 cases x with
 |agg b=>simp[SV.sub]at h
 |tup c=>simp[SV.sub]at h
 |_ y=>
  cases y<;>simp only[SV.sub,At.sub,SV.at.injEq]at h⊢
  case val=>exact h
  case junk=>exact h
  all_goals
   split at h
   .exact absurd h (a _ _)
   .exact h
theorem aRX{σ:St}{k:Nat}{f:At->At}{m:MH}{h:PH}(n:m=σ.m)(r:∀x j o,f x≠ .ptr j o)(d:∀x j,f x≠ .lst j)(s:∀p T cs,nth σ.own k≠some (some (.cellsP p T cs)))(t:∀b off v,σ.h b off=some v->h b off=some v):
 Fz σ {(σ.sub k f).setOwn k none with m:=m,h:=h}:=by
 refine⟨?_,t,?_,?_,n⟩
 .intro j p T cs l;have i:j≠k:=λe=>s p T cs (e▸l);refine⟨cs.map (At.sub k f),?_⟩;simp only[St.setOwn,St.sub,zN,Cr,i,false_and,if_false,l];rfl
 .intro x j off c;rcases YW σ k f m h ((σ.sub k f).setOwn k none).own x with a|⟨v,a⟩
  .have:(σ.ev x).sub k f= .at (.ptr j off):=a▸c;exact bqJ r this
  .rcases a with rfl|⟨g,rfl⟩|⟨g,rfl⟩<;>exact c
 .intro x j c;rcases YW σ k f m h ((σ.sub k f).setOwn k none).own x with a|⟨v,a⟩
  .have:(σ.ev x).sub k f= .at (.lst j):=a▸c;exact Zv d this
  .rcases a with rfl|⟨g,rfl⟩|⟨g,rfl⟩<;>exact c
end Go.Vc
namespace Go.Vc
open Go List
theorem BU{α:Type}(P:Program):∀(s:Sem α)(x:α),AS P s=some x->∀w,s.run P w= .ok x w:=by
 intro s
 induction s with
 |pure a=>intro x h w;simp[AS]at h;subst h;rfl
 |program k b=>intro x h w;simp only[AS]at h;simp only[Sem.run];grind
 |mark m k b=>intro x h w;simp only[AS]at h;simp only[Sem.run];grind
 |_=>intro x h w;simp[AS]at h
def TK(C:Ctx)(ι:dc)(o:Oper)(σ:St)(K:St->Prop)(a:Act)(w:World):Prop:=
 ∃v x,(∀b,(A9 C.P o=false\/b=w)->(execOp a.eval o).run C.P b= .ok (.value v) b)/\Den ι x v/\K (σ.put o.dst x)
section
variable{B:tW}{C:Ctx}{ι:dc}{σ:St}{a:Act}{w:World}{o:Oper}{K:St->Prop}
theorem MD(d:aK B ι σ a w):∀(l:dp),Nw σ l=true->∀x∈l,σ.rho x=a.eval x
 |[],_,x,b=>by cases b
 |y::l,h,x,b=>by
  simp only[Nw]at h;cases c:(σ.ev y).val? with
  |none=>grind
  |some v=>
   simp[c]at h;rcases mem_cons.1 b with rfl|b
   .simp only[St.rho,c];exact(d.rho c).symm
   .exact MD d l h x b
theorem lT(d:aK B ι σ a w)(e:∀cs b,o.op≠ .select cs b)(h:w8 C o σ K):TK C ι o σ K a w:=by
 unfold w8 at h;split at h
 .rename_i f;have g:execOp a.eval o=execOp σ.rho o:=execOp_congr o e λx j=>(MD d _ f x bg).symm;split at h
  .rename_i v i;exact⟨v,.at (.val v),λc _=>by rw[g];exact BU _ _ _ i c,rfl,h⟩
  grind
 grind
theorem Addr.add_none(b o j:Nat):(⟨b,o,none⟩:Addr).add j=⟨b,o+j,none⟩:=by unfold Addr.add;grind
def mkV(P:Program)(T:TypeId)(cs:cn):Value:=match zC P T with|true=>.agg cs.toArray|false=>cs.headD undef
theorem gK{P:Program}{T:TypeId}(h:jN P T=true):∃i d,P.info? T=some i/\P.underlying T=some d/\P.cellsOf T=i.size/\0<i.size:=by
 unfold jN at h;split at h
 .rename_i d c;split at h
  .cases h
  .rename_i e;cases b:P.info? T with
   |none=>simp[Program.underlying,b]at c
   |some i=>
    have f:P.cellsOf T=i.size:=by simp[Program.cellsOf,b]
    grind
 .cases h
theorem Qj{P:Program}{T:TypeId}{d:TypeDesc}(h:P.underlying T=some d)(w:World):(isAgg T).run P w= .ok (zC P T) w:=by
 unfold isAgg zC;rw[Sem.run_bind,run_underlying h w,h];cases d<;>rfl
theorem run_sizeOf{P:Program}{T:TypeId}{i:TypeInfo}(h:P.info? T=some i)(w:World):(sizeOf T).run P w= .ok i.size w:=by
 simp[sizeOf,typeInfo,program,Sem.run,h]
theorem Cp{P:Program}{T:TypeId}{w:World}{b off:Nat}{cs:cn}(l:jN P T=true)(c:cs.length=P.cellsOf T)
 (m:∀j v,cs[j]? =some v->w.cell? ⟨b,off+j,none⟩=some v):(loadVar T ⟨b,off,none⟩).run P w= .ok (mkV P T cs) w:=by
 obtain⟨i,d,n,p,e,f⟩:=gK l;rw[e]at c;unfold loadVar;rw[Sem.run_bind,Qj p];simp only[Result.andThen_ok];unfold mkV;cases g:zC P T with
 |true=>
  have s:(loadCells ⟨b,off,none⟩ cs.length).run P w= .ok cs.toArray w:=
   run_loadCells_list (P:=P) w ⟨b,off,none⟩ cs (λj v t=>by rw[Addr.add_none];grind)
  simp[run_sizeOf n, <-c,s]
 |false=>
  cases cs with
  |nil=>grind
  |cons v r=>
   have h:=m 0 v rfl;simp only[Nat.add_zero]at h;simp[load,Sem.run,h]
theorem LD{P:Program}{T:TypeId}{b:dj}{cs:cn}(h:iN ι b cs):Den ι (mk P T b) (mkV P T cs):=by
 unfold mk mkV;cases zC P T with
 |true=>exact⟨cs.toArray,rfl,bk h⟩
 |false=>
  cases b with
  |nil=>exact trivial
  |cons x r=>
   cases cs with
   |nil=>exact h.elim
   |cons v l=>
    cases r with
    |nil=>exact h.1
    |cons y r=>exact trivial
theorem wN(c:aK B ι σ a w){k:Nat}{T:TypeId}{cs:dj}{p:Option Nat}(d:nth σ.own k=some (some (.cellsP p T cs))):
 ∃b vs,ι k= .pointer (some ⟨b,0,none⟩)/\w.heap[b]? =some (.cells vs T (0,0))/\iN ι cs vs.toList:=
 let⟨b,vs,h1,h2,h3,_⟩:=c.own k _ d;⟨b,vs,h1,h2,h3⟩
theorem ZE(c:aK B ι σ a w){k q:Nat}{T:TypeId}{cs:dj}(d:nth σ.own k=some (some (.cellsP (some q) T cs))):ι k= .pointer (some ⟨q,0,none⟩):=by
 obtain⟨b,e,f,_,_,g⟩:=c.own k _ d
 grind
theorem cell_of_heap{w:World}{b o:Nat}{vs:Array Value}{T:TypeId}{c:Nat×Nat}(h:w.heap[b]? =some (.cells vs T c)):w.cell? ⟨b,o,none⟩=vs.toList[o]? :=by
 simp[World.cell?,h]
theorem Qd{vs:cn}{off n j:Nat}{v:Value}(h:((vs.drop off).take n)[j]? =some v):vs[off+j]? =some v:=by
 grind
theorem HO(c:AO B σ.m σ.h w){b off:Nat}{l:cn}(h:aU σ.m σ.h b off l):∀j v,l[j]? =some v->w.cell? ⟨b,off+j,none⟩=some v:=by
 intro j v d;cases h with
 |imm e=>exact c.hsat _ _ _ (e.rd j v d)
 |lent g E i f n=>
  rw[cell_of_heap (c.msat _ _ f)]
  grind
theorem mO{xs:List cn}{sz i:Nat}{e:cn}(b:∀e∈xs,e.length=sz)(c:xs[i]? =some e)(j:Nat)(v:Value)(d:e[j]? =some v):
 xs.flatten[i*sz+j]? =some v:=by
 induction xs generalizing i with
 |nil=>simp at c
 |cons x r f=>
  have g:x.length=sz:=b x ay;cases i with
  |zero=>
   grind
  |succ i=>
   grind
theorem sK(b:aK B ι σ a w){k:Nat}{E sz:Nat}{xs:List cn}(c:nth σ.own k=some (some (.lst E sz xs))):
 i6 sz xs/\w.ownsRow 0 E sz (ι k) xs.length xs.flatten:=b.own k _ c
theorem W0(G:aK B ι σ a w){T:TypeId}{x:Operand}(S:o.op= .load T x)(h:W2 C o T x σ K):TK C ι o σ K a w:=by
 have f:∀(b off:Nat)(z:cn),a.eval x= .pointer (some ⟨b,off,none⟩)->jN C.P T=true->z.length=C.P.cellsOf T->(∀j v,z[j]? =some v->w.cell? ⟨b,off+j,none⟩=some v)->
  ∀l,(A9 C.P o=false\/l=w)->(execOp a.eval o).run C.P l= .ok (.value (mkV C.P T z)) l:=by
  intro b off z r A U V l H;have H:l=w:=H.resolve_left (by simp[A9,S]);subst H;have:=Cp A U V;unfold execOp;simp only[S,r,Instr.loadAt,Instr.sureAddr,Sem.run_bind,Sem.run_pure,Result.andThen_ok,this]
 have d:=G.ev x;unfold W2 at h;split at h
 .exact h.elim
 .rename_i A;split at h
  .rename_i k off r;rw[r]at d;split at h
   .rename_i p T' z I;split at h
    .rename_i J;obtain⟨b,W,L,X,Y⟩:=wN G I;obtain⟨b',t,M⟩:=d;rw[L]at t;simp only[Value.pointer.injEq,bx,Addr.mk.injEq]at t;obtain⟨rfl, -, -⟩:=t;have D:=(Y.drop off).take (C.P.cellsOf T);refine⟨_,_,f b off ((W.toList.drop off).take (C.P.cellsOf T)) M A ?_ ?_,LD D,h⟩
     .rw[<-D.length];have:=Nat.le_of_ble_eq_true J;simp;omega
     .intro j v N;rw[cell_of_heap X]
      grind
    grind
   grind
  .rename_i k i sz off r;rw[r]at d;split at h
   .rename_i E s xs I;split at h
    .rename_i O;have O:=ca O;subst O;obtain⟨e,Z,y,Q,h⟩:=h;split at h
     .rename_i m;obtain⟨u,F⟩:=sK G I;obtain⟨b,n,c,L,M⟩:=d;refine⟨_,_,f b _ _ M A (ca m) ?_,LD (iN.vals.2 rfl),h⟩;intro j v N;rw[<-Q]at N;have R:=Qd N;have hf:=mO u.len Z _ _ R;have:=F.cells (g:=b) (by rw[L];rfl) _ _ hf;rw[Addr.add_none]at this
      grind
     grind
    grind
   grind
  .rename_i b off r;rw[r]at d;obtain⟨y,Q,h⟩:=h;split at h
   .rename_i m;exact⟨_,_,f b off _ d A (ca m) (HO G.wrel Q),LD (iN.vals.2 rfl),h⟩
   grind
  grind
theorem Ol(c:aK B ι σ a w){x:Operand}(b:o.op= .move x\/o.op= .assign x)(h:K (σ.put o.dst (σ.ev x))):TK C ι o σ K a w:=by
 refine⟨a.eval x,σ.ev x,λd _=>?_,c.ev x,h⟩;rcases b with b|b<;>simp[execOp,b]
theorem AL{c:Bool}{A D:Prop}(h:branch c A D):(c=true/\A)\/(c=false/\D):=by
 cases c
 .exact .inr ⟨rfl,h⟩
 .exact .inl ⟨rfl,h⟩
theorem WG(d:aK B ι σ a w){c x y:Operand}(f:o.op= .pick c x y)(h:WH o c x y σ K):TK C ι o σ K a w:=by
 have b:=d.ev c;unfold WH at h;split at h
 .rename_i t g;rw[g]at b;have b:a.eval c= .bool t:=b;rcases AL h with⟨rfl,h⟩|⟨rfl,h⟩
  .exact⟨a.eval x,σ.ev x,λe _=>by simp[execOp,f,b,asBool],d.ev x,h⟩
  .exact⟨a.eval y,σ.ev y,λe _=>by simp[execOp,f,b,asBool],d.ev y,h⟩
 grind
theorem J3{P:Program}{T f g T':Nat}(h:J4 P T f=some (g,T')):∃c PM,P.underlying T=some (.struct c)/\c[f]? =some PM/\PM.offset=g/\PM.type=T'/\P.cellsOf T'≠0:=by
 unfold J4 at h;split at h
 .rename_i c d;split at h
  .rename_i PM b;split at h
   .cases h
   .rename_i i;simp only[bx,Prod.mk.injEq]at h;obtain⟨rfl,rfl⟩:=h;rw[jS,cg]at b;exact⟨c,PM,d,b,rfl,rfl,λe=>by rw[e]at i;simp at i⟩
  .cases h
 .cases h
theorem Ui{P:Program}{T f g T':Nat}(h:J4 P T f=some (g,T'))(w:World)(b off:Nat):
 (Instr.fieldAt T (.pointer (some ⟨b,off,none⟩)) f).run P w= .ok (.pointer (some ⟨b,off+g,none⟩)) w:=by
 obtain⟨m,PM,j,l,rfl,rfl,e⟩:=J3 h;cases c:P.info? PM.type with
 |none=>simp[Program.cellsOf,c]at e
 |some i=>
  have d:i.size≠0:=by simpa[Program.cellsOf,c]using e
  simp[Instr.fieldAt,run_underlying j,l,Instr.sureAddr,fieldPlace,run_sizeOf c,d,Addr.add_none]
theorem MM(r:aK B ι σ a w){T f:Nat}{x:Operand}(s:o.op= .fieldAddr T x f)(h:F3 C o T x f σ K):TK C ι o σ K a w:=by
 have d:=r.ev x;unfold F3 at h;split at h
 .exact h.elim
 .rename_i g T' t
  have e:∀b off,a.eval x= .pointer (some ⟨b,off,none⟩)->∀j,(A9 C.P o=false\/j=w)->(execOp a.eval o).run C.P j= .ok (.value (.pointer (some ⟨b,off+g,none⟩))) j:=by
   intro b off l j _;unfold execOp;simp only[s,l,Sem.run_bind,Ui t,Result.andThen_ok,Sem.run_pure]
  split at h
  .rename_i k off l;rw[l]at d;obtain⟨b,m,p⟩:=d;exact⟨_,.at (.ptr k (off+g)),e b off p,⟨b,m,rfl⟩,h⟩
  .rename_i k i u off l;rw[l]at d;obtain⟨b,n,c,m,p⟩:=d;exact⟨_,.at (.el k i u (off+g)),e b _ p,⟨b,n,c,m,bg⟩,h⟩
  .rename_i b off l;rw[l]at d;exact⟨_,.at (.val _),e b off d,rfl,h⟩
  grind
theorem N9(p:aK B ι σ a w){x:Operand}(r:o.op= .nilCheck x)(h:HW o x σ K):TK C ι o σ K a w:=by
 have d:=p.ev x
 have e:∀j,a.eval x= .pointer (some j)->∀f,(A9 C.P o=false\/f=w)->(execOp a.eval o).run C.P f= .ok (.value (.pointer (some j))) f:=by
  intro j g f _;unfold execOp;simp[r,g]
 unfold HW at h;split at h
 .rename_i k off g;rw[g]at d;obtain⟨b,l,m⟩:=d;exact⟨_,.at (.ptr k off),e _ m,⟨b,l,rfl⟩,h⟩
 .rename_i k i s off g;rw[g]at d;obtain⟨b,n,c,l,m⟩:=d;exact⟨_,.at (.el k i s off),e _ m,⟨b,n,c,l,rfl⟩,h⟩
 .rename_i j g;rw[g]at d;exact⟨_,.at (.val _),e _ d,rfl,h⟩
 grind
end
end Go.Vc
namespace Go.Vc
open Go List
section
variable{B:tW}{C:Ctx}{ι:dc}{σ:St}{a:Act}{w:World}{o:Oper}{K:St->Prop}
theorem BO(f:∀k,(ι k).oneCell'=true){x:SV}{v:Value}{cs:dj}(h:Den ι x v)(d:x.cells? =some cs):iN ι cs v.cells.toList:=by
 have one:∀u:Value,u.oneCell'=true->u.cells= #[u]:=λu g=>by cases u<;>first|rfl|(simp[Value.oneCell']at g)
 cases x with
 |agg l=>
  simp only[SV.cells?,bx]at d;subst d;obtain⟨p,rfl,j⟩:=h;exact j
 |tup r=>simp[SV.cells?]at d
 |_ y=>
  cases y with
  |val u=>
   have h:v=u:=h;subst h;cases v<;>simp only[SV.cells?,bx,reduceCtorEq]at d<;>subst d<;>first|exact⟨rfl,trivial⟩|skip
   exact iN.vals.2 rfl
  |junk=>simp[SV.cells?]at d
  |ptr k off=>
   simp only[SV.cells?,bx]at d;subst d;obtain⟨b,e,rfl⟩:=h;exact⟨⟨b,e,rfl⟩,trivial⟩
  |lst k=>
   simp only[SV.cells?,bx]at d;subst d;have h:v=ι k:=h;rw[one v bg];exact⟨h,trivial⟩
  |el k i m off=>
   simp only[SV.cells?,bx]at d;subst d;obtain⟨b,n,c,e,rfl⟩:=h;exact⟨⟨b,n,c,e,rfl⟩,trivial⟩
theorem run_indexAt_slice{P:Program}{T E:TypeId}(f:P.underlying T=some (.slice E))(g:jN P E=true)(w:World)(b off len c:Nat)(k:IntKind)(n:Int)(h:0<=n)(j:n<(len:Int)):
 (Instr.indexAt T (.slice (some ⟨b,off,none⟩) len c) (.int k n)).run P w= .ok (.pointer (some ⟨b,off+n.toNat*P.cellsOf E,none⟩)) w:=by
 obtain⟨i,d,l,p,m,e⟩:=gK g;rw[m];simp[Instr.indexAt,asIntOf,run_underlying f,h,j,run_sizeOf l,Addr.add_none]
theorem run_indexAt_array{P:Program}{T E len:Nat}(e:P.underlying T=some (.array len E))(f:jN P E=true)(w:World)(b off:Nat)(k:IntKind)(n:Int)(g:0<=n)(h:n<(len:Int)):
 (Instr.indexAt T (.pointer (some ⟨b,off,none⟩)) (.int k n)).run P w= .ok (.pointer (some ⟨b,off+n.toNat*P.cellsOf E,none⟩)) w:=by
 obtain⟨i,d,j,m,l,c⟩:=gK f;rw[l];simp[Instr.indexAt,asIntOf,run_underlying e,Instr.sureAddr,g,h,run_sizeOf j,Addr.add_none]
theorem ML(t:aK B ι σ a w){T:Nat}{x i:Operand}(D:o.op= .indexAddr T x i)(h:FX C o T x i σ K):TK C ι o σ K a w:=by
 have d:=t.ev x;have e:=t.ev i;unfold FX at h;split at h
 .rename_i u n F;rw[F]at e;have e:a.eval i= .int u n:=e;split at h
  .rename_i E v;split at h
   .rename_i y
    have f:∀b off len j,a.eval x= .slice (some ⟨b,off,none⟩) len j->0<=n->n<(len:Int)->∀c,(A9 C.P o=false\/c=w)->(execOp a.eval o).run C.P c= .ok (.value (.pointer (some ⟨b,off+n.toNat*C.P.cellsOf E,none⟩))) c:=by
     intro b off len j l m p c _;unfold execOp;simp only[D,l,e,Sem.run_bind,run_indexAt_slice v y c b off len j u n m p,Result.andThen_ok,Sem.run_pure]
    split at h
    .rename_i k l;rw[l]at d;have d:a.eval x=ι k:=d;split at h
     .rename_i E' G M H;split at h
      .rename_i r;have r:=ca r;obtain⟨m,p,h⟩:=h;obtain⟨z,s⟩:=sK t H;rcases s.2 with⟨A,N⟩|⟨g,j,I,A,_⟩
       .omega
       .refine⟨_,.at (.el k n.toNat G 0),f g 0 _ j (by rw[d,A]) m p,⟨g,_,j,A,?_⟩,h⟩
        grind
      grind
     grind
    .rename_i O len j l;rw[l]at d;obtain⟨b,off,rfl,m,p,h⟩:=h;exact⟨_,.at (.val _),f b off len j d m p,rfl,h⟩
    grind
   grind
  .rename_i len E v;split at h
   .rename_i y
    have f:∀b off,a.eval x= .pointer (some ⟨b,off,none⟩)->0<=n->n<(len:Int)->∀c,(A9 C.P o=false\/c=w)->(execOp a.eval o).run C.P c= .ok (.value (.pointer (some ⟨b,off+n.toNat*C.P.cellsOf E,none⟩))) c:=by
     intro b off l m p c _;unfold execOp;simp only[D,l,e,Sem.run_bind,run_indexAt_array v y c b off u n m p,Result.andThen_ok,Sem.run_pure]
    split at h
    .rename_i k off l;rw[l]at d;obtain⟨b,J,L⟩:=d;obtain⟨m,p,h⟩:=h;exact⟨_,.at (.ptr k (off+n.toNat*C.P.cellsOf E)),f b off L m p,⟨b,J,rfl⟩,h⟩
    .rename_i b off l;rw[l]at d;obtain⟨m,p,h⟩:=h;exact⟨_,.at (.val _),f b off d m p,rfl,h⟩
    grind
   grind
  grind
 grind
theorem aAJ(i:aK B ι σ a w){op:BinOp}{tx r:Nat}{x y:Operand}(j:o.op= .binOp op tx x y r)(h:Z5 o op x y σ K):TK C ι o σ K a w:=by
 have b:=i.ev x;have c:=i.ev y;unfold Z5 at h;split at h
 .rename_i k n l m d e;rw[d]at b;rw[e]at c;have b:a.eval x= .int k n:=b;have c:a.eval y= .int l m:=c;split at h
  .rename_i f;have f:k=l:=of_decide_eq_true f;subst f;obtain⟨p,h⟩:=h;split at h
   .exact⟨_,.at (.val _),λg _=>by unfold execOp;simp[j,b,c,eqGuard,binOp,Op.intDiv,p],rfl,h⟩
   .exact⟨_,.at (.val _),λg _=>by unfold execOp;simp[j,b,c,eqGuard,binOp,Op.intDiv,p],rfl,h⟩
   grind
  grind
 grind
theorem Tx(e:aK B ι σ a w){tx j:Nat}{x y:Operand}(l:o.op= .binOp .add tx x y j)(h:Pd C o x y σ K):TK C ι o σ K a w:=by
 have c:=e.ev x;have d:=e.ev y;unfold Pd at h;split at h
 .rename_i s t f g;rw[f]at c;rw[g]at d;have c:a.eval x= .string s:=c;have d:a.eval y= .string t:=d;obtain⟨n,h⟩:=h
  have i:¬((s.size+t.size:Nat):Int)>IntKind.i64.max:=by
   have:IntKind.i64.max=9223372036854775807:=az
   omega
  exact⟨_,.at (.val _),λm _=>by unfold execOp;simp only[l,c,d,eqGuard,binOp,Op.stringOp,if_neg i];simp,rfl,h⟩
 .exact lT e (λp b=>bg) h
theorem FA(f:aK B ι σ a w){neg:Bool}{tx l:Nat}{x y:Operand}(g:o.op= .binOp (match neg with|true=>.neq|false=>.eql) tx x y l)(h:DN C o neg tx x y σ K):TK C ι o σ K a w:=by
 unfold DN at h;split at h
 .rename_i m n d e;have i:a.eval x= .agg m:=(f.ev x).val? d;have j:a.eval y= .agg n:=(f.ev y).val? e;obtain⟨r,c,h⟩:=h;refine⟨_,.at (.val _),λb _=>?_,rfl,h⟩;cases neg
  .unfold execOp;simp[g,i,j,run_eqGuard_agg _ _ _ _ _ _ _ c.guard,run_eql_struct,c.eq b]
  .unfold execOp;simp[g,i,j,run_eqGuard_agg _ _ _ _ _ _ _ c.guard,run_neq_struct,c.eq b]
 grind
theorem ZK(off:Nat):∀(l:cn)(s:Nat)(cs:Array Value),off+s+l.length<=cs.size->
 ((l.zipIdx s).foldl (λcs x=>cs.setIfInBounds (off+x.2) x.1) cs).toList=splice cs.toList (off+s) l
 |[],s,cs,_=>by simp[splice]
 |v::l,s,cs,h=>by
  simp only[ci]at h;simp only[zipIdx_cons,foldl_cons];have:=ZK off l (s+1) (cs.setIfInBounds (off+s) v) bf;rw[this];simp only[Array.toList_setIfInBounds,splice,ci];exact list_seg_step cs.toList (off+s) v l bf
theorem QC{place:Nat->Option (Nat×Nat)}{cells:Array Value}{i off size:Nat}{v:Value}{rest:List (Nat×Value)}(c:place i=some (off,size))(e:v.cells.size=size)(d:off+v.cells.size<=cells.size):
 Instr.fill place cells ((i,v)::rest)=Instr.fill place (splice cells.toList off v.cells.toList).toArray rest:=by
 have b:=ZK off v.cells.toList 0 cells aD;simp only[Nat.add_zero]at b;simp only[Instr.fill,c];rw[if_neg bf];congr 1;apply Array.toList_inj.1;rw[<-b];rw[<-Array.foldl_toList];simp
theorem zL{α:Type}(cs new:List α)(off:Nat)(h:off+new.length<=cs.length):(splice cs off new).length=cs.length:=by
 unfold splice;simp;omega
theorem A4(j:aK B ι σ a w)(place:Nat->Option (Nat×Nat)){P:Program}{T:TypeId}(b:∀i r,partAt P T i=some r->place i=some r):
 ∀(parts:ed)(cs:dj)(cells:Array Value)(out:dj),iN ι cs cells.toList->DA P T σ parts cs=some out->
  ∃r,Instr.fill place cells (parts.map λp=>(p.1,a.eval p.2))=some r/\iN ι out r.toList
 |[],cs,cells,out,g,h=>by
  simp[DA]at h;subst h;exact⟨cells,rfl,g⟩
 |(i,x)::parts,cs,cells,out,g,h=>by
  simp only[DA]at h;split at h
  .rename_i off c new t d;split at h
   .rename_i s e;have s:=ca s;have e:=Nat.le_of_ble_eq_true e;have f:=BO j.one (j.ev x) d;have l:(a.eval x).cells.size=c:=by have:=f.length;grind
    have m:=g.length;simp at m;have:=A4 j place b parts (splice cs off new) (splice cells.toList off (a.eval x).cells.toList).toArray out (bk (g.splice off f)) h;obtain⟨r,u,n⟩:=this;refine⟨r,?_,n⟩;simp only[map_cons];rw[QC (b i _ t) l aD];exact u
   .cases h
  .cases h
theorem BR{P:Program}{T:TypeId}{z:cn}(h:zeroCells P T=some z):∃i v,P.info? T=some i/\i.zero=some v/\z=v.cells.toList:=by
 unfold zeroCells at h
 grind
theorem Mo{P:Program}:∀(b:List Field),(b.all λf=>(P.info? f.type).isSome)=true->
 ∃c,b.mapM (λf=>(P.info? f.type).map λi=>(f.offset,i.size))=some c/\c.length=b.length/\∀(i:Nat)(g:Field),b[i]? =some g->c[i]? =some (g.offset,P.cellsOf g.type)
 |[],_=>⟨[],ay,rfl,λi g h=>by simp at h⟩
 |f::b,h=>by
  simp only[all_cons,bz]at h;obtain⟨c,e,d,l⟩:=Mo b h.2;cases m:P.info? f.type with
  |none=>grind
  |some i=>
   refine⟨(f.offset,i.size)::c,?_,by simp[d],?_⟩
   .simp[mapM_cons,m,e]
   .intro j g n;cases j with
    |zero=>simp at n;subst n;simp[Program.cellsOf,m]
    |succ j=>grind
theorem V4(A:aK B ι σ a w){T:Nat}{ps:Array (Nat×Operand)}(I:o.op= .build T ps)(h:Tz C o T ps.toList σ K):TK C ι o σ K a w:=by
 unfold Tz at h;split at h
 .rename_i z J;split at h
  .rename_i s e t;obtain⟨N,v,f,D,rfl⟩:=BR J
   have key:∃r,C.P.built T ((ps.map λp=>(p.1,a.eval p.2)).toList)=some r/\iN ι s r.toList:=by
    unfold N1 at t;have j:iN ι (v.cells.toList.map .val) v.cells.toList:=iN.vals.2 rfl;split at t
    .rename_i L l;obtain⟨F,x,G,H⟩:=Mo L.toList t
     have b:∀i r,partAt C.P T i=some r->F.toArray[i]? =some r:=by
      intro i r c;unfold partAt at c;simp only[l]at c;split at c
      .rename_i g M;rw[jS]at M
       grind
      .cases c
     obtain⟨r,c,d⟩:=A4 A (λi=>F.toArray[i]?) b ps.toList _ v.cells s j e;refine⟨r,?_,d⟩;unfold Program.built;simp only[f,l,D,x];simpa using c
    .rename_i n E l;cases m:C.P.info? E with
     |none=>grind
     |some u=>
      have b:∀i r,partAt C.P T i=some r->(λi=>some (i*u.size,u.size)) i=some r:=by
       intro i r c;unfold partAt at c;simp only[l,Program.cellsOf,m]at c
       grind
      obtain⟨r,c,d⟩:=A4 A (λi=>some (i*u.size,u.size)) b ps.toList _ v.cells s j e;refine⟨r,?_,d⟩;unfold Program.built;simp only[f,l,D,m];simpa using c
    .cases t
   obtain⟨r,c,d⟩:=key;refine⟨.agg r,.agg s,λy _=>?_,⟨r,rfl,d⟩,h⟩;unfold execOp;simp only[I,Sem.run_bind,run_build y T _ r c,Result.andThen_ok,Sem.run_pure]
  grind
 grind
theorem amX(m:aK B ι σ a w){x:Operand}{c:Call}(u:o.op= .call c)(v:c.callee= .builtin .len)(J:c.args.toList=[x])
 (h:aPJ C o x c.argTypes.toList σ K):TK C ι o σ K a w:=by
 unfold aPJ at h;split at h
 .rename_i k z;split at h
  .rename_i E L A i d
   have n:∃t E,c.argTypes[0]? =some t/\C.P.underlying t=some (.slice E):=by
    unfold UM at d;split at d
    .rename_i t r l;split at d
     .rename_i E D;exact⟨t,E,by rw[<-cg,l];rfl,D⟩
     .cases d
    .cases d
   obtain⟨t,E',l,y⟩:=n;have e:=m.ev x;rw[z]at e;have e:a.eval x=ι k:=e;obtain⟨p,j⟩:=sK m i;have f:c.args= #[x]:=bg
   refine⟨.int .i64 A.length,.at (.val _),λF _=>?_,rfl,h⟩;rcases j.2 with⟨s,G⟩|⟨g,H,I,s,_⟩
   .unfold execOp;simp[u,resolve,v,invoke,builtin,Builtin.len_,f,l,e,s,run_underlying y,goInt,G]
   .unfold execOp;simp[u,resolve,v,invoke,builtin,Builtin.len_,f,l,e,s,run_underlying y,goInt]
  grind
 .exact lT m (λM b=>bg) h
theorem Uh{P:Program}{T:TypeId}{cs:Array Value}{off:Nat}(g:jN P T=true)(b:off+P.cellsOf T<=cs.size)(w:World):
 (part T cs off).run P w= .ok (mkV P T ((cs.toList.drop off).take (P.cellsOf T))) w:=by
 obtain⟨i,d,h,j,l,f⟩:=gK g;unfold part mkV;rw[Sem.run_bind,Qj j];simp only[Result.andThen_ok];rw[l]at b⊢
 cases zC P T with
 |true=>
  simp only[if_true,Sem.run_bind,run_sizeOf h,Result.andThen_ok,Sem.run_pure];congr 2
  grind
 |false=>
  have c:off<cs.size:=by omega
  have e:(cs.toList.drop off)=cs[off]::cs.toList.drop (off+1):=by
   rw[<-getElem_cons_drop aD];simp
  simp only[Bool.false_eq_true,if_false,Array.getElem?_eq_getElem c];rw[e];cases m:i.size with
  |zero=>omega
  |succ n=>simp
theorem UY(p:aK B ι σ a w){T f:Nat}{x:Operand}(A:o.op= .field T x f)(h:Tl C o T x f σ K):TK C ι o σ K a w:=by
 unfold Tl at h;split at h
 .rename_i g T' v D r c;split at h
  .rename_i i;simp only[bz]at i;have y:=Nat.le_of_ble_eq_true i.1;have j:=BO p.one (p.ev x) r;obtain⟨G,PM,E,s,rfl,rfl,H⟩:=J3 D
   have F:∃d,a.eval x= .agg d:=by
    have b:=p.ev x;split at c
    .rename_i l t;rw[t]at b;obtain⟨d,e,_⟩:=b;grind
    .rename_i d t;rw[t]at b;exact⟨d,b⟩
    .cases c
   obtain⟨d,m⟩:=F;rw[m]at j;have j:iN ι v d.toList:=j;have z:v.length=d.size:=by have:=j.length;omega
   have n:PM.offset+C.P.cellsOf PM.type<=d.size:=by omega
   refine⟨_,_,λu _=>?_,LD ((j.drop PM.offset).take (C.P.cellsOf PM.type)),h⟩;unfold execOp;simp only[A,Instr.field,Sem.run_bind,run_underlying E,Result.andThen_ok,s,m,asAgg,Sem.run_pure,Uh i.2 n u]
  grind
 grind
theorem Kb:∀{xs:List (Sum At dj)}{vs:cn}(_:PE ι xs vs)(i:Nat)(y:Sum At dj),xs[i]? =some y->∃v,vs[i]? =some v/\Den ι (match y with|.inl x=>.at x|.inr cs=>.agg cs) v
 |[],[],_,i,y,b=>by simp at b
 |.inl x::_,v::_,h,0,y,b=>by simp at b;subst b;exact⟨v,rfl,h.1⟩
 |.inr cs::_,v::_,h,0,y,b=>by simp at b;subst b;exact⟨v,rfl,h.1⟩
 |.inl _::_,_::_,h,i+1,y,b=>by simp at b⊢;exact Kb h.2 i y b
 |.inr _::_,_::_,h,i+1,y,b=>by simp at b⊢;exact Kb h.2 i y b
 |[],_::_,h,_,_,_=>h.elim
 |.inl _::_,[],h,_,_,_=>h.elim
 |.inr _::_,[],h,_,_,_=>h.elim
theorem P0(m:aK B ι σ a w){x:Operand}{i:Nat}(r:o.op= .extract x i)(h:LC C o x i σ K):TK C ι o σ K a w:=by
 have g:=m.ev x;unfold LC at h;split at h
 .rename_i u s;rw[s]at g;obtain⟨t,l,n⟩:=g
  have d:∀v,t.toList[i]? =some v->∀c,(A9 C.P o=false\/c=w)->(execOp a.eval o).run C.P c= .ok (.value v) c:=by
   intro v f c _;unfold execOp;rw[cg]at f;simp[r,l,Instr.extract,f]
  split at h
  .rename_i y j;rw[jS]at j;obtain⟨v,f,e⟩:=Kb n i _ j;exact⟨v,.at y,d v f,e,h⟩
  .rename_i p j;rw[jS]at j;obtain⟨v,f,e⟩:=Kb n i _ j;exact⟨v,.agg p,d v f,e,h⟩
  grind
 .exact lT m (λp b=>bg) h
theorem Mt{P:Program}{E:TypeId}{cs:dj}{n:Int}{Q:SV->Prop}:∀(f i:Nat),Te P E cs n Q f i->(i:Int)<=n->n<((i+f:Nat):Int)->
 Q (mk P E ((cs.drop (n.toNat*P.cellsOf E)).take (P.cellsOf E)))
 |0,i,_,c,d=>by omega
 |f+1,i,h,c,d=>by
  simp only[Te]at h;rcases AL h with⟨e,b⟩|⟨e,b⟩
  .grind
  .have:n≠(i:Int):=bg
   exact Mt f (i+1) b aD aD
theorem UO(p:aK B ι σ a w){T:Nat}{x i:Operand}(L:o.op= .index T x i)(h:Tc C o T x i σ K):TK C ι o σ K a w:=by
 have c:=p.ev i;unfold Tc at h;split at h
 .rename_i v n len E y z;rw[y]at c;have c:a.eval i= .int v n:=c;split at h
  .rename_i M A;split at h
   .rename_i g N j;have g:=ca g;obtain⟨D,S,h⟩:=h;have r:=BO p.one (p.ev x) A
    have U:∃m,a.eval x= .agg m:=by
     have f:=p.ev x;split at j
     .rename_i l F;rw[F]at f;obtain⟨m,e,_⟩:=f;grind
     .rename_i m F;rw[F]at f;exact⟨m,f⟩
     .cases j
    obtain⟨m,t⟩:=U;rw[t]at r;have r:iN ι M m.toList:=r;have G:M.length=m.size:=by have:=r.length;omega
    obtain⟨Y,d,H,V,O,Q⟩:=gK N;have W:=Mt len 0 h aD aD;refine⟨_,_,λu _=>?_,LD ((r.drop (n.toNat*C.P.cellsOf E)).take (C.P.cellsOf E)),W⟩
    have I:n.toNat*C.P.cellsOf E+C.P.cellsOf E<=m.size:=by
     rw[<-G,g, <-Nat.succ_mul];exact Nat.mul_le_mul_right _ aD
    have R:=Uh N I u;unfold execOp;rw[O]at R;simp only[L,Instr.index,c,asIntOf,Sem.run_bind,Sem.run_pure,run_underlying z,Result.andThen_ok,t,D,S,and_self,if_true,run_sizeOf H,R,O]
   grind
  grind
 .rename_i v n y z;rw[y]at c;have c:a.eval i= .int v n:=c;split at h
  .rename_i s X;have f:=p.ev x;rw[X]at f;have f:a.eval x= .string s:=f;obtain⟨D,b,Z,h⟩:=h;refine⟨_,.at (.val _),λu _=>?_,rfl,h⟩
   have J:s[n.toNat]? =some b:=by
    have:s[n.toNat]? =s.data[n.toNat]? :=by
     simp only[getElem?_def];rfl
    grind
   unfold execOp;simp[L,Instr.index,c,asIntOf,run_underlying z,f,D,J]
  grind
 grind
end
end Go.Vc
namespace Go.Vc
open Go List
section
variable{B:tW}{C:Ctx}{ι:dc}{σ:St}{a:Act}{w:World}{o:Oper}{K:St->Prop}
theorem Fb{P:Program}{l:World}{src d E E' sz:Nat}{x:Operand}{v:Value}{c:di}(t:o.op= .convert src d x)(u:P.underlying src=some (.slice E))(p:P.underlying E=some (.int .u8))(y:P.underlying d=some .string)
 (m:a.eval x=v)(f:l.ownsRow 0 E' sz v (bA c).length (bA c).flatten):(execOp a.eval o).run P l= .ok (.value (.string ⟨c.toArray⟩)) l:=by
 have h:(bA c).length=c.length:=by simp[bA]
 rcases f.2 with⟨r,z⟩|⟨g,s,D,r,_⟩
 .rw[h]at z;have:c=[]:=eq_nil_of_length_eq_zero z;subst this;unfold execOp;simp only[t,m,r,Sem.run_bind,run_convert_bytes_nil l src E u p 0 0 d y,Result.andThen_ok,Sem.run_pure];rfl
 .have n:strOfNums (c.map λb=>(b.toNat:Int))=⟨c.toArray⟩:=by
   unfold strOfNums;congr 1;simp[Function.comp_def]
  have j:∀i,i<c.length->l.cell? ⟨g,0+i,none⟩=some (.int .u8 ((c.map λb=>(b.toNat:Int)).getD i 0)):=by
   intro i F
   have G:(bA c).flatten[i*1+0]? =some (.int .u8 (c[i].toNat:Int)):=
    mO (sz:=1) (e:=[.int .u8 (c[i].toNat:Int)]) (λe p=>by obtain⟨b,_,rfl⟩:=mem_map.1 p;rfl) (by simp[bA,F]) 0 _ rfl
   have:=f.cells (g:=g) (by rw[r];rfl) _ _ G;rw[Addr.add_none]at this
   grind
  have A:=run_convert_bytes_arg (P:=P) l src E u p g 0 c.length s (c.map λb=>(b.toNat:Int)) ay j d y;rw[n]at A;unfold execOp;simp only[t,m,r,h,Sem.run_bind,A,Result.andThen_ok,Sem.run_pure]
theorem P1(i:aK B ι σ a w){src e:Nat}{x:Operand}(m:o.op= .convert src e x)(h:LH C o src e x σ K):TK C ι o σ K a w:=by
 unfold LH at h;split at h
 .rename_i k p;split at h
  .rename_i E' t u E f n r;split at h
   .rename_i s;obtain⟨v,rfl,h⟩:=h;have d:=i.ev x;rw[p]at d;have d:a.eval x=ι k:=d;obtain⟨j,g⟩:=sK i f;refine⟨_,.at (.val _),λl c=>?_,rfl,h⟩;have c:l=w:=c.resolve_left (by simp[A9,m,n]);rw[c];exact Fb m n s r d g
   grind
  grind
 .exact lT i (λy b=>bg) h
structure Ip(σ:St)(ι:dc)(o:Oper)(w w':World):Prop where
 cells:∀k p T cs b,nth σ.own k=some (some (.cellsP p T cs))->zK σ o k=false->ι k= .pointer (some ⟨b,0,none⟩)->w'.heap[b]? =w.heap[b]?
 imm:∀b off v,σ.h b off=some v->w'.cell? ⟨b,off,none⟩=some v
 ext:AD o.op=true->∀b,b<w.heap.size->w'.heap[b]? =w.heap[b]?
 args:∀l b,tT o=some l->b<w.heap.size->σ.m b=none->(∀x∈l,∀k,(σ.ev x= .at (.lst k)\/∃off,σ.ev x= .at (.ptr k off))->blk (ι k)≠some b)->w'.heap[b]? =w.heap[b]?
def TS(B:tW)(C:Ctx)(ι:dc)(o:Oper)(σ:St)(K:St->Prop)(a:Act)(w:World):Prop:=
 ∀(next:Act->World->Prop)(Q:Exit->Act->World->Prop),(∀e c d b,aK B e c d b->K c->Ip σ ι o w b->next d b)->o.wp C.P a w next Q
theorem ES(f:aK B ι σ a w){w':World}(j:Nat)(y:(∃p T cs,nth σ.own j=some (some (.cellsP p T cs)))->zK σ o j=true)
 (n:∀b,b<w.heap.size->¬((∃o',nth σ.own j=some (some o'))/\blk (ι j)=some b)->w'.heap[b]? =w.heap[b]?)(s:AD o.op=true->∀b,b<w.heap.size->w'.heap[b]? =w.heap[b]?)
 (t:∀l,tT o=some l->∀b,b<w.heap.size->w'.heap[b]? =w.heap[b]?):Ip σ ι o w w':=by
 refine⟨?_,?_,s,λl b g h _ _=>t l g b h⟩
 .intro k p T cs b r z u;have i:=f.own k _ r;have e:blk (ι k)=some b:=by rw[u];rfl
  refine n b (rH i e) ?_;rintro⟨⟨o',c⟩,d⟩;have:=f.dist k j _ _ b r c e d
  grind
 .intro b off v x;have g:=f.wrel.hsat b off v x;have m:b<w.heap.size:=World.block_lt_of_cell? w ⟨b,off,none⟩ g
  have h:=n b m (by
   rintro⟨⟨o',c⟩,d⟩;have:=(f.fresh j o' b c d).2.2 off
   grind)
  rw[<-g];exact World.cell?_of_block (w:=w) (w':=w') (a:=⟨b,off,none⟩) h
theorem Cm{d:Nat}(b:o.dst=some d):zK σ o d=true:=by
 unfold zK;simp[b]
theorem kK(w:World)(ob:Obj):(w.alloc ob).heap[w.heap.size]? =some ob:=by
 show(w.heap.push ob)[w.heap.size]? =_;simp
theorem fL(w:World)(ob:Obj){b:Nat}(h:b<w.heap.size):(w.alloc ob).heap[b]? =w.heap[b]? :=by
 show(w.heap.push ob)[b]? =_
 grind
theorem Ww(S:Nat->Prop)(w:World)(ob:Obj):DG S w (w.alloc ob):=
 ⟨rfl,rfl,rfl,Nat.le_refl _,by show w.heap.size<=(w.heap.push ob).size;simp,λb c _=>fL w ob c⟩
theorem Gn(h:aK B ι σ a w){d:Nat}(i:o.dst=some d){ob:Obj}{g:Own}{v:Value}{x:SV}(s:blk v=some w.heap.size)(f:v.oneCell'=true)
 (m:DI (upd ι d v) (w.alloc ob) v g)(n:Den (upd ι d v) x v)
 {next:Act->World->Prop}(c:∀p j l w',aK B p j l w'->K j->Ip σ ι o w w'->next l w')
 (r:K (((σ.kill d).setOwn d (some g)).put (some d) x)):next (a.put o.dst v) (w.alloc ob):=by
 rw[i];refine c (upd ι d v) _ _ _ ?_ r ?_
 .refine aK.put ?_ (some d) n;exact h.place d g v (Ww _ w ob) m f (λb e=>bg)
 .exact ES h d (λ_=>Cm i) (λb e _=>fL w ob e) (λ_ b e=>fL w ob e) (λ_ _ b e=>fL w ob e)
theorem Wa(g:aK B ι σ a w){T:Nat}(i:o.op= .alloc T)(h:TC C o T σ K):TS B C ι o σ K a w:=by
 intro next Q b
 unfold TC at h;split at h
 .rename_i d z j l;obtain⟨n,v,f,m,rfl⟩:=BR l
  have c:(execOp a.eval o).run C.P w= .ok (.value (.pointer (some ⟨w.heap.size,0,none⟩))) (w.alloc (.cells v.cells T)):=by
   unfold execOp;simp[i,Instr.alloc,zeroValue,typeInfo,f,m,newVar,newRow]
  unfold Oper.wp;rw[c,Oper.upon_value];refine Gn g j rfl rfl ?_ (x:=.at (.ptr d 0)) ⟨w.heap.size,ay,rfl⟩ b h;exact⟨w.heap.size,v.cells,rfl,kK _ _,iN.vals.2 rfl,λ_ e=>by cases e⟩
 grind
theorem Sd(g:aK B ι σ a w){T:Nat}{x:Operand}(j:o.op= .box T x)(h:Z8 o T x σ K):TS B C ι o σ K a w:=by
 intro next Q b
 unfold Z8 at h;split at h
 .rename_i d m l i
  have c:(execOp a.eval o).run C.P w= .ok (.value (.pointer (some ⟨w.heap.size,0,none⟩))) (w.alloc (.cells (a.eval x).cells T)):=by
   unfold execOp;simp[j,Instr.box,newVar,newRow]
  unfold Oper.wp;rw[c,Oper.upon_value];refine Gn g l rfl rfl ?_ (x:=.at (.ptr d 0)) ⟨w.heap.size,ay,rfl⟩ b h;exact⟨w.heap.size,_,rfl,kK _ _,iN.sub (f:=λ_=>.junk) (λ_ _ _ _=>trivial) (BO g.one (g.ev x) i),λ_ e=>by cases e⟩
 grind
end
end Go.Vc
namespace Go.Vc
open Go List
section
variable{B:tW}{C:Ctx}{ι:dc}{σ:St}{a:Act}{w:World}{o:Oper}{K:St->Prop}
theorem buJ(A:aK B ι σ a w){k E sz:Nat}{xs:List cn}(N:nth σ.own k=some (some (.lst E sz xs))):
 ∃(s:Sl)(f:PH),PH.le σ.h f/\cC f s sz xs/\ι k=s.val/\
  aK B ι {(σ.sub k (λ |.lst _=>.val s.val|_=>.junk)).setOwn k none with h:=f} a w/\
  Fz σ {(σ.sub k (λ |.lst _=>.val s.val|_=>.junk)).setOwn k none with h:=f}:=by
 obtain⟨r,l⟩:=sK A N;have G:∀p T U,nth σ.own k≠some (some (.cellsP p T U)):=λp T U e=>bg
 have n:∀(s:Sl),ι k=s.val->aK B ι ((σ.sub k (λ |.lst _=>.val s.val|_=>.junk)).setOwn k none) a w:=by
  intro s M
  have:=A.drop k (ι k) (A.one k) (λ |.lst _=>.val s.val|_=>.junk) (by
   intro x v H O;cases x<;>simp only[At.key,bx,reduceCtorEq]at H
   case ptr=>trivial
   case el=>trivial
   case lst j=>
    subst H;have O:v=ι j:=O;show v=s.val;rw[O,M])
  rwa [It]at this
 rcases l.2 with⟨t,W⟩|⟨g,u,X,t,_,hg,I,Y,Z,P⟩
 .have H:xs=[]:=eq_nil_of_length_eq_zero W;refine⟨⟨none,0,0⟩,σ.h,⟨λ_ _ _ h=>h⟩,⟨by simp[H],.inl H,Nat.le_refl _⟩,t,n _ t,?_⟩;exact aRX (m:=σ.m) (h:=σ.h) rfl (λx j o=>bg) (λx j=>bg) G (λ_ _ _ h=>h)
 .have Q:=A.fresh k _ g N (by rw[t];rfl)
  let f:PH:=λb o=>if b=g then xs.flatten[o]? else σ.h b o
  have y:∀b o v,σ.h b o=some v->f b o=some v:=by
   grind
  have M:ι k=Sl.val ⟨some ⟨g,0,none⟩,xs.length,u⟩:=t;refine⟨⟨some ⟨g,0,none⟩,xs.length,u⟩,f,⟨y⟩,⟨rfl,.inr ⟨g,0,rfl,?_⟩,I⟩,M,?_,?_⟩
  .intro i e hi;constructor;intro j v D;show(if g=g then _ else _)=_;rw[if_pos rfl,Nat.zero_add];exact mO r.len hi j v D
  .have c:=n _ M
   have z:∀j J,nth ((σ.sub k (λ |.lst _=>.val (Sl.val ⟨some ⟨g,0,none⟩,xs.length,u⟩)|_=>.junk)).setOwn k none).own j=some (some J)->blk (ι j)≠some g:=by
    intro j J D L;obtain⟨R,o1,S,_⟩:=qN D;exact R (A.dist j k _ _ g S N L (by rw[t];rfl))
   refine⟨c.slots,c.defers,c.own,c.dist,?_,?_,c.one⟩
   .intro j J b D L;obtain⟨h1,h2,h3⟩:=c.fresh j J b D L;refine⟨h1,h2,λi=>?_⟩;show(if b=g then _ else _)=_;rw[if_neg (λe:b=g=>z j J D bg)];exact h3 i
   .have d:=A.wrel;refine⟨d.tape,d.os,d.output,d.drawn,d.size,d.frame,?_,d.msat,?_,λb o v h=>y b o v (d.hle b o v h),?_,d.mfr⟩
    .intro b off v F;have F:(if b=g then xs.flatten[off]? else σ.h b off)=some v:=F;by_cases e:b=g
     .subst e;rw[if_pos rfl]at F;have:=l.cells (g:=b) (by rw[t];rfl) off v F
      rwa [Addr.add_none,Nat.zero_add]at this
     .rw[if_neg e]at F;exact d.hsat b off v F
    .intro b ob V i;show(if b=g then _ else _)=_;rw[if_neg (λe=>by subst e;have:=Q.2.1;simp only[St.setOwn,St.sub]at V;grind)];exact d.disj b ob V i
    .intro b L hE;funext i;show(if b=g then _ else _)=_;rw[if_neg (λe=>bg)];exact congrFun (d.hold b L hE) i
  .exact aRX (m:=σ.m) (h:=f) rfl (λx j o=>bg) (λx j=>bg) G y
theorem oO:∀(ks:dl)(σ:St),aK B ι σ a w->vI σ K ks->∃b,aK B ι b a w/\K b/\Fz σ b
 |[],σ,e,h=>⟨σ,e,h,Fz.refl σ⟩
 |k::ks,σ,e,h=>by
  simp only[vI]at h;split at h
  .rename_i E p r l;obtain⟨s,m,f,c,_,g,i⟩:=buJ e l;obtain⟨b,j,n,d⟩:=oO ks _ g (h s m f c);exact⟨b,j,n,i.trans d⟩
  grind
theorem F5{P:Program}{T E:Nat}{z:cn}(h:elemOf P T=some (E,z)):
 ∃i v,P.underlying T=some (.slice E)/\P.info? E=some i/\i.zero=some v/\z=v.cells.toList/\v.cells.size=i.size/\P.cellsOf E=i.size/\0<i.size/\∀u∈z,u.oneCell'=true:=by
 unfold elemOf at h;split at h
 .rename_i E' e;split at h
  .rename_i f c;split at h
   .rename_i b g j;simp only[bx,Prod.mk.injEq]at h;obtain⟨rfl,rfl⟩:=h;obtain⟨i,v,d,l,rfl⟩:=BR c;have m:P.cellsOf E'=i.size:=by simp[Program.cellsOf,d]
    have b:=ca b
    grind
   .cases h
  .cases h
 .cases h
theorem cT{sz:Nat}:∀{xs:List cn},(∀e∈xs,e.length=sz)->xs.flatten.length=xs.length*sz
 |[],_=>ay
 |x::xs,h=>by
  rw[flatten_cons,bt,cT (λe b=>h e (by simp[b])),h x ay,ci,Nat.succ_mul];omega
theorem Ff(z:aK B ι σ a w){sz:Nat}(A:0<sz):∀(parts:ed)(b:List cn)(out:List cn),i6 sz b->Dz σ sz parts b=some out->
 i6 sz out/\out.length=b.length/\Instr.fill (λi=>some (i*sz,sz)) b.flatten.toArray (parts.map λp=>(p.1,a.eval p.2))=some out.flatten.toArray
 |[],b,out,m,h=>by simp[Dz]at h;subst h;exact⟨m,rfl,rfl⟩
 |(i,x)::parts,b,out,m,h=>by
  simp only[Dz]at h;split at h
  .rename_i n D;split at h
   .rename_i l E;split at h
    .rename_i c g F;have c:=ca c;have g:=Nat.le_of_ble_eq_true g;have v:=BO z.one (z.ev x) D;rw[Fu E,iN.vals]at v
     have H:∀u∈l,u.oneCell'=true:=by
      intro u O;have I:=Fu E;clear v E
      have:∀(n:dj),tU n=true->∀x∈n,x.storable=true:=by
       intro n
       induction n with
       |nil=>grind
       |cons y r J=>
        intro L x P;simp only[tU]at L
        grind
      have f:=this n F (.val u) bg;cases u<;>first|rfl|(simp[At.storable]at f)
     have G:i6 sz (b.set i l):=by
      constructor
      .intro e s;rcases mem_or_eq_of_mem_set s with f|f
       .exact m.len e f
       grind
      .intro e s;rcases mem_or_eq_of_mem_set s with f|f
       .exact m.one e f
       grind
     obtain⟨f,Q,M⟩:=Ff z A parts (b.set i l) out G h;refine⟨f,bg,?_⟩;simp only[map_cons]
     have j:∀(b:List cn)(i:Nat),(∀e∈b,e.length=sz)->i<b.length->splice b.flatten (i*sz) l=(b.set i l).flatten:=by
      intro b
      induction b with
      |nil=>grind
      |cons e r J=>
       intro i d R;have s:e.length=sz:=d e ay;cases i with
       |zero=>
        simp only[splice,Nat.zero_mul,take_zero,nil_append,Nat.zero_add,flatten_cons,set_cons_zero,c]
        grind
       |succ i=>
        have:=J i (λe s=>d e (by simp[s])) bg;simp only[flatten_cons,set_cons_succ, <-this,splice];have N:(i+1)*sz=e.length+i*sz:=bg
        rw[N,take_length_add_append,show e.length+i*sz+l.length=e.length+(i*sz+l.length)by omega,drop_length_add_append];simp
     have t:=cT m.len;rw[QC rfl bg (by rw[<-Array.length_toList,v];simp only[size_toArray,t,c];rw[<-Nat.succ_mul];exact Nat.mul_le_mul_right _ g),v];rw[j b i m.len aD];exact M
    .cases h
   .cases h
  .cases h
end
end Go.Vc
namespace Go.Vc
open Go List
section
variable{B:tW}{C:Ctx}{ι:dc}{σ:St}{a:Act}{w:World}{o:Oper}{K:St->Prop}
theorem JS{z:Array Value}{sz:Nat}(b:z.size=sz)(f:0<sz)(n:Nat):(madeCells z (n*sz)).toList=(replicate n z.toList).flatten:=by
 apply ext_getElem?;intro j;by_cases g:j<n*sz
 .have h:j/sz<n:=Nat.div_lt_of_lt_mul bg;have c:j%sz<sz:=Nat.mod_lt _ f;have d:=mO (xs:=replicate n z.toList) (sz:=sz) (i:=j/sz) (e:=z.toList) (λe l=>bg) (by simp[h]) (j%sz) z[j%sz] (by simp[b,c]);rw[show j/sz*sz+j%sz=j by rw[Nat.mul_comm];exact Nat.div_add_mod j sz]at d;rw[d];simp[madeCells,g,b,c]
 .rw[getElem?_eq_none,getElem?_eq_none]
  .rw[cT (sz:=sz) (λe l=>bg)];simp;omega
  .simp[madeCells];omega
theorem pY{z:cn}{sz:Nat}(c:z.length=sz)(d:∀u∈z,u.oneCell'=true)(n:Nat):i6 sz (replicate n z):=
 ⟨λe b=>bg,λe b=>bg⟩
theorem ND{τ:St}(d:Fz σ τ){k:Nat}(h:zK σ o k=false):zK τ o k=false:=by
 have i:∀(l:dp)(j:Nat),j∈pM τ l->j∈pM σ l:=by
  intro l
  induction l with
  |nil=>intro j b;cases b
  |cons x r m=>
   intro j b
   have e:∀(υ:St)(j:Nat),j∈pM υ (x::r)↔(∃off,υ.ev x= .at (.ptr j off))\/j∈pM υ r:=by
    intro υ j;simp only[pM]
    grind
   rw[e]at b⊢
   rcases b with⟨off,b⟩|b
   .exact .inl ⟨off,d.ptr _ _ _ b⟩
   grind
 unfold zK at h⊢
 rw[Bool.or_eq_false_iff]at h⊢
 refine⟨h.1,?_⟩;have c:=h.2;split at c
 .rename_i t x v f;split
  .rename_i j off g;rw[d.ptr _ _ _ g]at c;exact c
  .rfl
 .grind
 .rfl
theorem Ip.of_fz{τ:St}{w':World}(c:Fz σ τ)(h:Ip τ ι o w w'):Ip σ ι o w w':=
 ⟨λk p T f b d g i=>let⟨cs',hk'⟩:=c.cells k p T f d;h.cells k p T cs' b hk' (ND c g) i,λb off v j=>h.imm b off v (c.imm b off v j),h.ext,λl b m n r s=>h.args l b m n (by rw[c.m_];exact r) (λx t k d=>s x t k (d.imp (c.lst x k) (λ⟨off,e⟩=>⟨off,c.ptr x k off e⟩)))⟩
theorem ajJ(ps:Array (Nat×Operand))(a:Act):(ps.map fun(i,x)=>(i,a.eval x)).toList=ps.toList.map λp=>(p.1,a.eval p.2):=ay
theorem LO(H:aK B ι σ a w){T n:Nat}{ps:Array (Nat×Operand)}(I:o.op= .buildSlice T n ps)(h:E4 C o T n ps.toList σ K):TS B C ι o σ K a w:=by
 intro next Q f
 unfold E4 at h;obtain⟨τ,l,h,u⟩:=oO _ _ H h;split at h
 .rename_i d E z J L;split at h
  .rename_i j m g;obtain⟨s,v,D,F,M,rfl,y,N,e,p⟩:=F5 L;rw[N]at m g h;have g:=Nat.le_of_ble_eq_true g;obtain⟨t,c,b⟩:=Ff l e ps.toList _ j (pY aD p n) m;simp only[length_replicate]at c
   have r:(execOp a.eval o).run C.P w= .ok (.value (.slice (some ⟨w.heap.size,0,none⟩) n n)) (w.alloc (.cells j.flatten.toArray E)):=by
    have O:(Instr.buildSlice T n (ps.map fun(i,x)=>(i,a.eval x))).run C.P w= .ok (.slice (some ⟨w.heap.size,0,none⟩) n n) (w.alloc (.cells j.flatten.toArray E)):=by
     by_cases G:n*s.size=0
     .have R:n=0:=by rcases Nat.mul_eq_zero.1 G with h|h<;>omega
      subst R;have:j=[]:=eq_nil_of_length_eq_zero c;subst this;simp only[replicate_zero,flatten_nil]at b;have A:Array.map (λ_:Nat=>(default:Value)) (Array.range 0)= #[]:=bg
      simp[Instr.buildSlice,run_underlying D,run_sizeOf F,newRow];rw[A,b];simp
     .refine run_buildSlice w T E n _ j.flatten.toArray s v D F M aD G ?_
      have:((Array.range (n*s.size)).map (v.cells[· %v.cells.size]!))=(replicate n v.cells.toList).flatten.toArray:=by
       apply Array.toList_inj.1;have:=JS y e n;unfold madeCells at this;rw[this]
      rw[this,ajJ];exact b
    unfold execOp;simp only[I,Sem.run_bind,O,Result.andThen_ok,Sem.run_pure]
   unfold Oper.wp;rw[r,Oper.upon_value];refine Gn l J rfl rfl ?_ (x:=.at (.lst d)) (by show _=_;simp) (λS U V W X Y Z=>f S U V W X Y (Z.of_fz u)) h;refine⟨t,cT t.len,.inr ⟨w.heap.size,n,j.flatten.toArray,by rw[c],Nat.zero_le _,kK _ _,aD,?_,?_,?_⟩⟩
   .have:n<=n*s.size:=Nat.le_mul_of_pos_right n e;unfold maxLen;omega
   .simp only[size_toArray,cT t.len,c]
   .rw[bu];rw[cT t.len];omega
  grind
 grind
theorem MK(t:aK B ι σ a w){T:Nat}{l c:Operand}(L:o.op= .makeSlice T l c)(h:FO C o T l c σ K):TS B C ι o σ K a w:=by
 intro next Q f
 have p:=t.ev l;have r:=t.ev c;unfold FO at h;split at h
 .rename_i d E z G n H m M N u y;rw[u]at p;rw[y]at r;have p:a.eval l= .int G n:=p;have r:a.eval c= .int H m:=r;obtain⟨s,v,O,I,R,rfl,A,D,i,b⟩:=F5 N;obtain⟨S,U,J,V,h⟩:=h;rw[D]at h;have F:C.P.bytesOf E=s.bytes:=by simp[Program.bytesOf,I]
  rw[F,Int.mul_comm]at J
  have j:(execOp a.eval o).run C.P w= .ok (.value (.slice (some ⟨w.heap.size,0,none⟩) n.toNat m.toNat)) (w.alloc (.cells (madeCells v.cells (m.toNat*s.size)) E)):=by
   unfold execOp;simp only[L,p,r,Sem.run_bind,run_make (P:=C.P) w T E s v O I R G H n m S U J aD,Result.andThen_ok,Sem.run_pure]
  unfold Oper.wp;rw[j,Oper.upon_value];refine Gn t M rfl rfl ?_ (x:=.at (.lst d)) (by show _=_;simp) f h;have g:v.cells.toList.length=s.size:=by omega
  refine⟨pY g b _,cT (pY g b _).len,.inr ⟨w.heap.size,m.toNat,_,bg,Nat.zero_le _,kK _ _,?_,?_,size_madeCells _ _,?_⟩⟩
  .simp;omega
  .unfold maxLen;omega
  .rw[JS A i]
   have e:replicate m.toNat v.cells.toList=replicate n.toNat v.cells.toList++replicate (m.toNat-n.toNat) v.cells.toList:=by
    rw[replicate_append_replicate];grind
   rw[e,flatten_append,take_left'];rw[cT (pY g b _).len]
 grind
theorem w7{P:Program}(w:World)(t tx M e:TypeId)(i:TypeInfo)(z:Value)(N:P.underlying t=some (.slice e))(O:P.info? e=some i)(Y:i.zero=some z)
 (T:z.cells.size=i.size)(v:Value)(n:Nat)(xs:cn)(l:w.ownsRow 0 e i.size v n xs)(x:Value)(m:Nat)(c:cn)(A:Src P i.size tx x m c w)
 (H:n+m<=maxLen)(p:(n+m)*i.bytes<=140737488355328):
 ∃Q w',(Builtin.append_ #[t,tx] M #[v,x]).run P w= .ok Q w'/\w'.ownsRow 0 e i.size Q (n+m) (xs++c)/\DG (λb=>v.ownBlock=some b) w w'/\
  (∀b,Q.ownBlock=some b->w.heap.size<=b\/v.ownBlock=some b)/\Q.oneCell'=true:=by
 have R:n+m<=9223372036854775807:=by simp only[maxLen]at H;omega
 have Z:=A.newsLen;have r:(xs++c).length=(n+m)*i.size:=by rw[bt,l.1,Z,Nat.add_mul]
 have grown:∀(f:Nat),f<n+m->∀(S:Nat->Prop),
  (w.drew.alloc (.cells ((xs++c).toArray++Builtin.zeroCells z.cells (grownCap w (n+m) f e-(n+m))) e)).ownsRow 0 e i.size
   (.slice (some ⟨w.heap.size,0,none⟩) (n+m) (grownCap w (n+m) f e)) (n+m) (xs++c)/\
  DG S w (w.drew.alloc (.cells ((xs++c).toArray++Builtin.zeroCells z.cells (grownCap w (n+m) f e-(n+m))) e)):=by
  intro f ho S;have U:=grownCap_ge w (n+m) f e;have E:grownCap w (n+m) f e<=maxLen:=grownCap_le_maxLen w (n+m) f e H;refine⟨⟨r,.inr ⟨w.heap.size,_,_,rfl,Nat.zero_le _,heap_alloc_new w.drew _,U,E,?_,?_⟩⟩,⟨rfl,rfl,rfl,Nat.le_succ _,ay,λk D _=>heap_alloc_old w.drew _ k D⟩⟩
  .simp only[Array.size_append,size_toArray,size_zeroCells,T,r, <-Nat.add_mul]
   grind
  grind
 rcases l.2 with⟨rfl,rfl⟩|⟨g,d,s,rfl,V,hg,a0,E,W,X⟩
 .have hx:xs=[]:=eq_nil_of_length_eq_zero bg;subst hx;by_cases hm:m=0
  .subst hm;have hn:c=[]:=eq_nil_of_length_eq_zero aD;subst hn;refine⟨.slice none 0 0,w,?_,World.ownsRow_nil w 0 e i.size,DG.refl _ _,λb G=>bg,rfl⟩;rcases A.kind with⟨e',D⟩|D<;>simp[Builtin.append_,run_underlying N,run_underlying D,sizeOf,typeInfo,O,A.len,A.cells]
  .have I:=run_append_grow_src (P:=P) w t tx M e i z N O Y none 0 0 [] (by simp[Builtin.firstCells]) x m c A aD aD (growslice_fits aD p);have y:=grown 0 aD (λb=>Value.ownBlock (.slice none 0 0)=some b);exact⟨_,_,I,y.1,y.2,λb G=>by simp[Value.ownBlock]at G;left;omega,rfl⟩
 .by_cases h:n+m<=d
  .have a':n*i.size+c.length<=s.size:=by rw[Z,W, <-Nat.add_mul];exact Nat.mul_le_mul_right _ h
   have J:=run_storeCells_at P g (n*i.size) e c 0 s w hg aD A.one;simp only[Nat.add_zero]at J
   have I:(Builtin.append_ #[t,tx] M #[.slice (some ⟨g,0,none⟩) n d,x]).run P w= .ok (.slice (some ⟨g,0,none⟩) (n+m) d) (w.setRow g (s.toList.take (n*i.size)++c++s.toList.drop (n*i.size+c.length)).toArray):=by
    rcases A.kind with⟨e',D⟩|D<;>simp[Builtin.append_,run_underlying N,run_underlying D,sizeOf,typeInfo,O,A.len,h,A.cells,Addr.add_lit,J]
   refine⟨_,_,I,⟨r,.inr ⟨g,d,_,rfl,V,setRow_heap w g s _ e _ hg,h,E,?_,?_⟩⟩,⟨rfl,rfl,rfl,Nat.le_refl _,ay,λk _ D=>setRow_other w g k _ (λe=>D (by simp[Value.ownBlock,e]))⟩,λb G=>.inr G,rfl⟩
   .grind
   grind
  .have F:∀j u,xs[j]? =some u->w.cell? ((⟨g,0,none⟩:Addr).add j)=some u:=l.cells (g:=g) rfl
   have L:(Builtin.firstCells i.size n (.slice (some ⟨g,0,none⟩) n d)).run P w.drew= .ok xs.toArray w.drew:=
    run_firstCells_some w.drew i.size n ⟨g,0,none⟩ n d xs l.1 (bk F)
   have I:=run_append_grow_src (P:=P) w t tx M e i z N O Y (some ⟨g,0,none⟩) n d xs L x m c A aD aD (growslice_fits aD p);have y:=grown d aD (λb=>Value.ownBlock (.slice (some ⟨g,0,none⟩) n d)=some b);exact⟨_,_,I,y.1,y.2,λb G=>by simp[Value.ownBlock]at G;left;omega,rfl⟩
end
end Go.Vc
namespace Go.Vc
open Go Go.Lib List
theorem SB{z:Array Value}{sz:Nat}(b:z.size=sz)(f:0<sz)(n:Nat):(Builtin.zeroCells z n).toList=(replicate n z.toList).flatten:=by
 apply ext_getElem?;intro j;by_cases g:j<n*sz
 .have h:j/sz<n:=Nat.div_lt_of_lt_mul bg;have c:j%sz<sz:=Nat.mod_lt _ f;have d:=mO (xs:=replicate n z.toList) (sz:=sz) (i:=j/sz) (e:=z.toList) (λe l=>bg) (by simp[h]) (j%sz) z[j%sz] (by simp[b,c]);rw[show j/sz*sz+j%sz=j by rw[Nat.mul_comm];exact Nat.div_add_mod j sz]at d;rw[d];simp[Builtin.zeroCells,g,b,c]
 .rw[getElem?_eq_none,getElem?_eq_none]
  .rw[cT (sz:=sz) (λe l=>bg)];simp;omega
  .simp[Builtin.zeroCells,b];omega
theorem KE{P:Program}(w:World)(t g l e:TypeId)(i:TypeInfo)(z:Value)(m n:IntKind)(v:P.underlying t=some (.slice e))(h:P.underlying g=some (.int n))(y:P.info? e=some i)(A:i.zero=some z)
 (c:z.cells.size=i.size)(p:0<i.size)(k:Nat)(r:0<k)(d:k*i.bytes<=140737488355328)(D:k<=140737488355328):
 ∃f w',(Builtin.append_ #[t,g] l #[.slice none 0 0,.int m k]).run P w= .ok f w'/\w'.ownsRow 0 e i.size f k (replicate k z.cells.toList).flatten/\DG (λ_=>False) w w'/\
  (∀b,f.ownBlock=some b->w.heap.size<=b)/\f.oneCell'=true:=by
 have s:=run_append_grow_zeros w t g l e i z m n v h y A none 0 0 [] (run_firstCells_none w.drew i.size 0 0 0) k r p aD aD aD (by rw[Nat.zero_add,nextslicecap_zero r];omega);rw[Nat.zero_add]at s;have E:=grownCap_ge w k 0 e;have j:=grownCap_le_maxLen w k 0 e (by unfold maxLen;omega);refine⟨_,_,s,?_,?_,?_,rfl⟩
 .refine⟨cT (sz:=i.size) (λx u=>bg) |>.trans ay,.inr ⟨w.heap.size,_,_,rfl,Nat.zero_le _,kK _ _,aD,j,?_,?_⟩⟩
  .simp[Builtin.zeroCells,c];rw[<-Nat.add_mul]
   grind
  .simp only[Array.toList_append,SB c p];rw[take_append_of_le_length]
   .simp only[nil_append];rw[bu];rw[cT (sz:=i.size) (λx u=>bg)];simp
   .simp only[nil_append];rw[cT (sz:=i.size) (λx u=>bg)];simp
 .exact⟨rfl,rfl,rfl,Nat.le_succ _,by show w.heap.size<=(w.heap.push _).size;simp,λb d _=>fL w.drew _ d⟩
 .intro b d;simp[Value.ownBlock]at d;omega
end Go.Vc
namespace Go.Vc
open Go List
section
variable{B:tW}{C:Ctx}{ι:dc}{σ:St}{a:Act}{w:World}{o:Oper}{K:St->Prop}
theorem F1{sz:Nat}:∀{xs:List cn}(_:∀e∈xs,e.length=sz) {j:Nat} {v:Value},xs.flatten[j]? =some v->∃(i:Nat)(e:cn)(q:Nat),xs[i]? =some e/\e[q]? =some v/\j=i*sz+q
 |[],_,j,v,h=>by simp at h
 |x::xs,b,j,v,h=>by
  have g:=b x ay;rw[flatten_cons]at h;by_cases c:j<x.length
  .rw[getElem?_append_left c]at h;exact⟨0,x,j,rfl,h,ay⟩
  .rw[getElem?_append_right aD]at h;obtain⟨i,e,q,l,d,m⟩:=F1 (λe f=>b e (by simp[f])) h;exact⟨i+1,e,q,bg,d,bg⟩
theorem brQ{P:Program}{tx j E sz:Nat}{v:Value}{b:List cn}(f:P.underlying tx=some (.slice j))(h:i6 sz b)(i:w.ownsRow 0 E sz v b.length b.flatten):
 Src P sz tx v b.length b.flatten w:=by
 have l:∀u∈b.flatten,u.oneCell'=true:=λu m=>by
  obtain⟨e,n,c⟩:=mem_flatten.1 m;exact h.one e n u c
 rcases i.2 with⟨rfl,p⟩|⟨g,d,r,rfl,_⟩
 .have:b=[]:=eq_nil_of_length_eq_zero p;subst this;exact Src.ofNil w f 0
 .exact Src.ofSlice w f ⟨g,0,none⟩ _ d _ (cT h.len) (i.cells (g:=g) rfl) l
theorem SM{P:Program}{tx y sz:Nat}{h:PH}(z:P.underlying tx=some (.slice y)){m:Option Addr}{n c:Nat}{l:List cn}(s:i6 sz l)(d:cC h ⟨m,n,c⟩ sz l)
 (p:∀b o v,h b o=some v->w.cell? ⟨b,o,none⟩=some v):Src P sz tx (.slice m n c) l.length l.flatten w:=by
 have A:∀u∈l.flatten,u.oneCell'=true:=λu t=>by
  obtain⟨e,D,x⟩:=mem_flatten.1 t;exact s.one e D u x
 have r:n=l.length:=d.len;subst r;rcases d.row with rfl|⟨b,off,f,g⟩
 .refine⟨.inl ⟨y,z⟩,λ_=>rfl,?_,?_,ay,λu t=>by simp at t⟩
  .cases m<;>simp[Builtin.firstCells,loadCells,loadCellsFrom]
  .cases m<;>simp[Builtin.firstCells,loadCells,loadCellsFrom]
 .have f:m=some ⟨b,off,none⟩:=f;subst f;refine Src.ofSlice w z ⟨b,off,none⟩ _ c _ (cT s.len) ?_ A;intro j u E;obtain⟨i,e,q,F,G,rfl⟩:=F1 s.len E;rw[Addr.add_none];have:=p _ _ _ ((g i e F).rd q u G)
  grind
theorem Ig(s:ByteArray):(fR s).flatten=byteCells s:=by
 unfold fR byteCells
 induction s.data.toList with
 |nil=>rfl
 |cons b r c=>simp[c]
theorem SL(p:aK B ι σ a w){sz tx:Nat}{y:Operand}{R:List cn->Prop}{lent:Bool}(h:L8 C.P lent σ sz tx (σ.ev y) R):
 ∃i,i6 sz i/\Src C.P sz tx (a.eval y) i.length i.flatten w/\R i:=by
 have d:=p.ev y;unfold L8 at h;split at h
 .rename_i k G r l;rw[r]at d;have d:a.eval y=ι k:=d;split at h
  .rename_i E s i t;split at h
   .rename_i g;have g:=ca g;subst g;obtain⟨m,H⟩:=sK p t;exact⟨i,m,by rw[d];exact brQ l m H,h⟩
   grind
  grind
 .rename_i D n c G r l;rw[r]at d;have d:a.eval y= .slice D n c:=d;obtain⟨i,m,f,h⟩:=h;refine⟨i,m,?_,h⟩;rw[d];cases lent with
  |false=>exact SM l m f p.wrel.hsat
  |true=>
   cases f with
   |imm f=>exact SM l m f p.wrel.hsat
   |lent b o L E M g z I F=>
    have g:D=some ⟨b,o,none⟩:=g;have z:n=i.length:=z;subst g z
    have J:∀u∈i.flatten,u.oneCell'=true:=λu l=>by
     obtain⟨e,v,A⟩:=mem_flatten.1 l;exact m.one e v u A
    refine Src.ofSlice w l ⟨b,o,none⟩ _ c _ (cT m.len) ?_ J;intro j u N;rw[Addr.add_none,cell_of_heap (p.wrel.msat b _ I)]
    grind
 .rename_i s r l;rw[r]at d;have d:a.eval y= .string s:=d;split at h
  .rename_i g;have g:=ca g;subst g;refine⟨fR s,⟨λe v=>by obtain⟨b,_,rfl⟩:=mem_map.1 v;rfl,λe v u x=>by obtain⟨b,_,rfl⟩:=mem_map.1 v;simp at x;subst x;rfl⟩,?_,h⟩;rw[d,Ig];have F:(fR s).length=s.size:=by simp[fR]
   rw[F];exact Src.ofString w l s
  grind
 grind
theorem DG.mono{S S':Nat->Prop}{w w':World}(h:DG S w w')(d:∀b,S b->S' b):DG S' w w':=⟨h.tape,h.os,h.output,h.drawn,h.size,λb e f=>h.block b e (λc=>f (d b c))⟩
theorem DU{v:Value}{b:Nat}(h:v.ownBlock=some b):blk v=some b:=by
 cases v<;>simp[Value.ownBlock]at h
 case slice ad n c=>cases ad<;>simp at h;simpa[blk]using h
theorem C5{sz:Nat}{xs c:List cn}(d:i6 sz xs)(f:i6 sz c):i6 sz (xs++c):=
 ⟨λe b=>(mem_append.1 b).elim (d.len e) (f.len e),λe b=>(mem_append.1 b).elim (d.one e) (f.one e)⟩
theorem zM{E sz n:Nat}{v:Value}{l:cn}(h:w.ownsRow 0 E sz v n l){b:Nat}(c:blk v=some b):v.ownBlock=some b:=by
 rcases h.2 with⟨rfl,_⟩|⟨g,d,e,rfl,_⟩
 .simp[blk]at c
 .simpa[blk,Value.ownBlock]using c
theorem aPQ(f:aK B ι σ a w){w':World}{m':MH}{S:Nat->Prop}(n:DG S w w')(E:∀b,S b->σ.m b≠none)(t:∀b o,m' b=some o->w'.heap[b]? =some o/\(σ.m b≠none\/w.heap.size<=b)):
 aK B ι {σ with m:=m'} a w'/\∀o,AD o.op=false->Ip σ ι o w w':=by
 have c:=f.wrel
 have A:∀b,w.heap.size<=b->∀i,σ.h b i=none:=by
  intro b d i;cases e:σ.h b i with
  |none=>rfl
  |some v=>have:=World.block_lt_of_cell? w ⟨b,i,none⟩ (c.hsat _ _ _ e);grind
 have F:∀b,S b->∀i,σ.h b i=none:=by
  intro b d i;cases e:σ.m b with
  |none=>grind
  |some x=>exact c.disj b x e i
 have u:∀k r b,nth σ.own k=some (some r)->blk (ι k)=some b->¬S b:=by
  intro k r b g d y;exact E b y (f.fresh k r b g d).2.1
 have j:∀b i v,σ.h b i=some v->w'.cell? ⟨b,i,none⟩=some v:=by
  intro b i v G;have z:=c.hsat b i v G;rw[<-z];exact World.cell?_of_block (w:=w) (w':=w') (a:=⟨b,i,none⟩) (n.block b (World.block_lt_of_cell? w ⟨b,i,none⟩ z) (λy=>bg))
 refine⟨⟨f.slots,f.defers,λk r g=>(f.own k r g).world (λb d=>n.block b (rH (f.own k r g) d) (u k r b g d)),f.dist,?_,?_,f.one⟩,λo M=>⟨?_,j,λh=>bg,λl b _ s z _=>n.block b s (λy=>E b y z)⟩⟩
 .intro k r b g d;obtain⟨H,N,I⟩:=f.fresh k r b g d;refine⟨H,?_,I⟩;show m' b=none;cases e:m' b with
  |none=>rfl
  |some x=>
   rcases(t b x e).2 with s|s
   .grind
   .have:=rH (f.own k r g) d;omega
 .refine⟨n.tape.trans c.tape,n.os.trans c.os,n.output.trans c.output,cj c.drawn n.drawn,cj c.size n.size,?_,j,λb o e=>(t b o e).1,?_,c.hle,c.hold,?_⟩
  .intro b d J;rw[n.block b (ck d c.size) (λy=>?_)]
   .exact c.frame b d J
   .cases e:σ.m b with
    |none=>grind
    |some x=>
     rcases c.mfr b x e with s|s
     .omega
     grind
  .intro b o e i;rcases(t b o e).2 with s|s
   .cases D:σ.m b with
    |none=>grind
    |some x=>exact c.disj b x D i
   grind
  .intro b o e;rcases(t b o e).2 with s|s
   .cases D:σ.m b with
    |none=>grind
    |some x=>exact c.mfr b x D
   .exact .inl (cj c.size s)
 .intro k p T O b g _ L;have d:blk (ι k)=some b:=by rw[L];rfl
  exact n.block b (rH (f.own k _ g) d) (u k _ b g d)
theorem TA(L:aK B ι σ a w){T tx:Nat}{x y:Operand}{c:Call}(ho:o.op= .call c)(hc:c.callee= .builtin .append)(hx:c.args.toList=[x,y])(ht:c.argTypes.toList=[T,tx])
 (h:Pl C o T tx x y σ K):TS B C ι o σ K a w:=by
 intro next Q O
 have a8:c.args= #[x,y]:=bg
 have b3:c.argTypes= #[T,tx]:=bg
 unfold Pl at h;split at h
 .rename_i d E z hd hE;obtain⟨Y,zv,hu,hi,hv,rfl,a1,a2,d0,b4⟩:=F5 hE;have a3:C.P.bytesOf E=Y.bytes:=by simp[Program.bytesOf,hi]
  have V:∀I R,(Builtin.append_ #[T,tx] o.type #[a.eval x,a.eval y]).run C.P w= .ok I R->(execOp a.eval o).run C.P w= .ok (.value I) R:=by
   intro I R hr;unfold execOp;simp only[ho,resolve,hc,a8,b3,invoke,builtin,Sem.run_bind,Sem.run_pure,Result.andThen_ok,map_toArray,map_cons,map_nil];rw[hr];rfl
  have c':∀(S:Option Addr)(n cp:Nat),σ.ev x= .at (.val (.slice S n cp))->(∃s:List cn,dE σ.m ⟨S,n,cp⟩ E (C.P.cellsOf E) s/\
   L8 C.P (Qw C) σ (C.P.cellsOf E) tx (σ.ev y) λM=>
    (s.length+M.length)*C.P.bytesOf E<=140737488355328/\s.length+M.length<=140737488355328/\
    ∀(s':Sl)(m':MH),eF σ.m m' ⟨S,n,cp⟩ s' E (C.P.cellsOf E) (s++M)->K ({σ with m:=m'}.put (some d) (.at (.val s'.val))))->o.wp C.P a w next Q:=by
   intro S n cp Z h;have D:=L.ev x;rw[Z]at D;have D:a.eval x= .slice S n cp:=D;obtain⟨s,t,h⟩:=h;obtain⟨M,hr,v,N,a6,h⟩:=SL L h;rw[a2]at hr v h;rw[a3]at N;have a':=t.rows;rw[a2]at a'
   have a9:w.ownsRow 0 E Y.size (.slice S n cp) s.length s.flatten:=by
    refine⟨cT a'.len,?_⟩;rcases t.ex with⟨J,e2⟩|⟨b,a4,a0,J,hm,F,h2,h3,h4⟩
    .grind
    .simp only[Sl.mk.injEq]at J;obtain⟨rfl,rfl,rfl⟩:=J;exact .inr ⟨b,_,a0,rfl,Nat.zero_le _,L.wrel.msat b _ hm,F,h2,bg,bg⟩
   have b0:∀b,Value.ownBlock (.slice S n cp)=some b->σ.m b≠none:=by
    intro b r;rcases t.ex with⟨J,e2⟩|⟨b',a4,a0,J,hm,_⟩
    .simp only[Sl.mk.injEq]at J;obtain⟨rfl,rfl,rfl⟩:=J;simp[Value.ownBlock]at r
    .simp only[Sl.mk.injEq]at J;obtain⟨rfl,rfl,rfl⟩:=J;simp[Value.ownBlock]at r
     grind
   obtain⟨I,R,a5,H,f,G,A⟩:=w7 (P:=C.P) w T tx o.type E Y zv hu hi hv a1 (.slice S n cp) s.length s.flatten a9 (a.eval y) M.length M.flatten v (by unfold maxLen;omega) N;rw[<-flatten_append, <-bt]at H
   obtain⟨U,n',W,rfl⟩:∃U n' W,I= .slice U n' W:=by
    rcases H.2 with⟨e,_⟩|⟨g,a4,a0,e,_⟩
    .grind
    grind
   let m':MH:=λb=>if Value.ownBlock (.slice U n' W)=some b then R.heap[b]? else if Value.ownBlock (.slice S n cp)=some b then none else σ.m b
   have b5:∀b,Value.ownBlock (.slice U n' W)=some b->m' b=R.heap[b]? :=λb r=>bg
   obtain⟨c0,hk⟩:=aPQ (m':=m') L f b0 (by
    intro b ob r;by_cases J:Value.ownBlock (.slice U n' W)=some b
    .grind
    .by_cases e2:Value.ownBlock (.slice S n cp)=some b
     .grind
     .simp only[m',if_neg J,if_neg e2]at r;refine⟨?_,.inl (by rw[r];simp)⟩;have F:=L.wrel.msat b ob r;rw[f.block b (Array.getElem?_eq_some_iff.1 F).1 e2];exact F)
   unfold Oper.wp;rw[V _ R (by rw[D];exact a5),Oper.upon_value,hd];refine O ι _ _ _ (c0.put (some d) (x:=.at (.val (.slice U n' W))) rfl) (h ⟨U,n',W⟩ m' ⟨⟨?_,?_⟩,?_,?_⟩) (hk o (by rw[ho];rfl))
   .exact C5 a' hr
   .rcases H.2 with⟨J,e2⟩|⟨b,a4,a0,J,_,hh,F,h2,h3,h4⟩
    .grind
    .simp only[Value.slice.injEq]at J;obtain⟨rfl,rfl,rfl⟩:=J;exact .inr ⟨b,_,a0,rfl,by rw[b5 b rfl];exact hh,F,h2,h3,h4⟩
   .intro b ob r c1
    have e2:Value.ownBlock (.slice S n cp)≠some b:=by
     intro e;rcases t.ex with⟨J,_⟩|⟨b',a4,a0,J,hm,_⟩
     .simp only[Sl.mk.injEq]at J;obtain⟨rfl,rfl,rfl⟩:=J;simp[Value.ownBlock]at e
     .simp only[Sl.mk.injEq]at J;obtain⟨rfl,rfl,rfl⟩:=J;simp[Value.ownBlock]at e
      grind
    have J:Value.ownBlock (.slice U n' W)≠some b:=by
     intro e;rcases G b e with F|F
     .have:=(Array.getElem?_eq_some_iff.1 (L.wrel.msat b ob r)).1;omega
     grind
    grind
   .intro b i e;have e:U=some ⟨b,i,none⟩:=e;rcases G b (by rw[e];rfl)with F|F
    .left;cases e2:σ.m b with
     |none=>rfl
     |some x=>have:=(Array.getElem?_eq_some_iff.1 (L.wrel.msat b x e2)).1;omega
    .right;rcases t.ex with⟨J,_⟩|⟨b',a4,a0,J,hm,_⟩
     .simp only[Sl.mk.injEq]at J;obtain⟨rfl,rfl,rfl⟩:=J;simp[Value.ownBlock]at F
     .simp only[Sl.mk.injEq]at J;obtain⟨rfl,rfl,rfl⟩:=J;simp[Value.ownBlock]at F
      grind
  split at h
  .rename_i S n cp d1 d2 Z;have D:=L.ev x;rw[Z]at D;have D:a.eval x= .slice S n cp:=D;obtain⟨rfl,s,X,t,h⟩:=h;obtain⟨M,hr,v,c1,N,a6,h⟩:=SL L h;rw[a2]at hr v h X t;rw[a3]at N;have hn:cp=s.length:=t.len;subst hn
   have fin:∃I R,(Builtin.append_ #[T,tx] o.type #[.slice S s.length s.length,a.eval y]).run C.P w= .ok I R/\R.ownsRow 0 E Y.size I (s.length+M.length) (s++M).flatten/\DG (λ_=>False) w R/\
    (∀b,I.ownBlock=some b->w.heap.size<=b)/\I.oneCell'=true:=by
    cases S with
    |none=>
     have c2:s=[]:=by
      rcases t.row with e|⟨b,off,e,_⟩
      .exact e
      .cases e
     subst c2;obtain⟨I,R,F,h2,h3,h4,h5⟩:=w7 (P:=C.P) w T tx o.type E Y zv hu hi hv a1 (.slice none 0 0) 0 [] (World.ownsRow_nil w 0 E Y.size) (a.eval y) M.length M.flatten v (by unfold maxLen;omega) aD;refine⟨I,R,F,bg,h3.mono (λb r=>by simp[Value.ownBlock]at r),λb r=>?_,h5⟩;rcases h4 b r with e|e
     .exact e
     .simp[Value.ownBlock]at e
    |some S=>
     have hy:0<M.length:=by
      grind
     have d3:=SM (P:=C.P) (w:=w) (tx:=T) hu X t L.wrel.hsat;have c3:s.length+M.length<=maxLen:=by unfold maxLen;omega
     have b6:(s.flatten++M.flatten).length=(s.length+M.length)*Y.size:=by rw[bt,cT X.len,cT hr.len,Nat.add_mul]
     have c4:=grownCap_ge w (s.length+M.length) s.length E;have c5:grownCap w (s.length+M.length) s.length E<=maxLen:=grownCap_le_maxLen w _ _ E c3
     have b7:(Builtin.firstCells Y.size s.length (.slice (some S) s.length s.length)).run C.P w.drew= .ok s.flatten.toArray w.drew:=by
      rcases t.row with rfl|⟨b,off,e,hc⟩
      .simp[Builtin.firstCells,loadCells,loadCellsFrom]
      .have e:some S=some ⟨b,off,none⟩:=e;cases e;refine run_firstCells_some w.drew Y.size s.length ⟨b,off,none⟩ s.length s.length s.flatten (cT X.len) λj u hj=>?_;obtain⟨i,e,q,F,h2,rfl⟩:=F1 X.len hj;rw[Addr.add_none];have:=L.wrel.hsat _ _ _ ((hc i e F).rd q u h2);rw[<-Nat.add_assoc];exact this
     have c6:=run_append_grow_src (P:=C.P) w T tx o.type E Y zv hu hi hv (some S) s.length s.length s.flatten b7 (a.eval y) M.length M.flatten v aD aD (growslice_fits aD N);refine⟨_,_,c6,⟨?_,.inr ⟨w.heap.size,_,_,rfl,Nat.zero_le _,heap_alloc_new w.drew _,c4,c5,?_,?_⟩⟩,⟨rfl,rfl,rfl,Nat.le_succ _,ay,λk hk _=>heap_alloc_old w.drew _ k hk⟩,λb r=>by simp[Value.ownBlock]at r;omega,rfl⟩
     .grind
     .simp only[Array.size_append,size_toArray,size_zeroCells,a1,b6, <-Nat.add_mul]
      grind
     grind
   obtain⟨I,R,a5,p,f,G,A⟩:=fin;rw[<-bt]at p;unfold Oper.wp;rw[V I R bg,Oper.upon_value,hd];refine O (upd ι d I) _ _ _ ?_ h ?_
   .refine aK.put ?_ (some d) (by show _=_;simp);exact L.place d _ I (f.mono (λb r=>r.elim)) ⟨C5 X hr,p⟩ A (λb r=>.inl (G b (zM p r)))
   .exact ES L d (λ_=>Cm hd) (λb r _=>f.block b r (λF=>F.elim)) (λhg=>by rw[ho]at hg;simp[AD]at hg) (λl e=>by simp_all [tT])
  .grind
  rename_i b1 b8;clear b8 b1;split at h
  .rename_i Z;have D:=L.ev x;rw[Z]at D;have D:a.eval x= .slice none 0 0:=D;split at h
   .rename_i n c7
    obtain⟨kn,kq,c8,c9⟩:∃kn kq,C.P.underlying tx=some (.int kn)/\σ.ev y= .at (.val (.int kq n)):=by
     unfold Zq at c7
     grind
    have hy:=L.ev y;rw[c9]at hy;have hy:a.eval y= .int kq n:=hy;obtain⟨h0,N,a6,h⟩:=h;rw[a2]at h;rw[a3]at N;obtain⟨k,rfl⟩:∃k:Nat,n=k:=⟨n.toNat,aD⟩
    have b9:k*Y.bytes<=140737488355328:=by omega
    obtain⟨I,R,a5,p,f,G,A⟩:=KE (P:=C.P) w T tx o.type E Y zv kq kn hu c8 hi hv a1 aD k aD b9 aD;unfold Oper.wp;rw[V I R bg,Oper.upon_value,hd];refine O (upd ι d I) _ _ _ ?_ h ?_
    .refine aK.put ?_ (some d) (by show _=_;simp);refine L.place d _ I (f.mono (λb r=>r.elim)) ⟨?_,?_⟩ A (λb r=>.inl (G b (zM p r)))
     .exact pY aD b4 _
     grind
    .exact ES L d (λ_=>Cm hd) (λb r _=>f.block b r (λF=>F.elim)) (λhg=>by rw[ho]at hg;simp[AD]at hg) (λl e=>by simp_all [tT])
   .obtain⟨M,hr,v,N,a6,h⟩:=SL L h;rw[a2]at hr v h;rw[a3]at N;obtain⟨I,R,a5,p,f,G,A⟩:=w7 (P:=C.P) w T tx o.type E Y zv hu hi hv a1 (.slice none 0 0) 0 [] (World.ownsRow_nil w 0 E Y.size) (a.eval y) M.length M.flatten v (by unfold maxLen;omega) bg;simp only[Nat.zero_add,nil_append]at p;unfold Oper.wp;rw[V I R bg,Oper.upon_value,hd];refine O (upd ι d I) _ _ _ ?_ h ?_
    .refine aK.put ?_ (some d) (by show _=_;simp);refine L.place d _ I (f.mono (λb r=>by simp[Value.ownBlock]at r)) ⟨hr,p⟩ A (λb r=>?_);rcases G b (zM p r)with F|F
     .exact .inl F
     .simp[Value.ownBlock]at F
    .exact ES L d (λ_=>Cm hd) (λb r _=>f.block b r (λF=>by simp[Value.ownBlock]at F)) (λhg=>by rw[ho]at hg;simp[AD]at hg) (λl e=>by simp_all [tT])
  .rename_i k Z;have D:=L.ev x;rw[Z]at D;have D:a.eval x=ι k:=D;split at h
   .rename_i E' sz s p d';split at h
    .rename_i b2 a7;have b2:=ca b2;have a7:=ca a7;subst b2;rw[a2]at a7;subst a7;obtain⟨M,hr,v,N,a6,h⟩:=SL L h;rw[a3]at N;obtain⟨X,a9⟩:=sK L p;obtain⟨I,R,a5,H,f,G,A⟩:=w7 (P:=C.P) w T tx o.type E' Y zv hu hi hv a1 (ι k) s.length s.flatten a9 (a.eval y) M.length M.flatten v (by unfold maxLen;omega) N;rw[<-flatten_append, <-bt]at H;unfold Oper.wp;rw[V I R bg,Oper.upon_value,hd];refine O (upd ι k I) _ _ _ ?_ h ?_
     .refine aK.put ?_ (some d) (by show _=_;simp);refine L.place k _ I (f.mono (λb r=>⟨⟨_,p⟩,DU r⟩)) ⟨C5 X hr,H⟩ A (λb r=>?_);rcases G b (zM H r)with F|F
      .exact .inl F
      .exact .inr ⟨⟨_,p⟩,DU F⟩
     .refine ES L k (λ⟨p',T',d4,e⟩=>bg) (λb r hn=>f.block b r (λF=>hn ⟨⟨_,p⟩,DU F⟩)) (λhg=>by rw[ho]at hg;simp[AD]at hg) (λl e=>by simp_all [tT])
    grind
   grind
  .grind
  grind
 grind
theorem aK.rewrite(d:aK B ι σ a w){k:Nat}{u h:Own}{w':World}(p:nth σ.own k=some (some u))(v:DG (λb=>blk (ι k)=some b) w w')(z:DI ι w' (ι k) h):
 aK B ι (σ.setOwn k (some h)) a w':=by
 have c:∀j m,nth (σ.setOwn k (some h)).own j=some (some m)->(j=k/\m=h)\/(j≠k/\nth σ.own j=some (some m)):=by
  intro j m l;simp only[St.setOwn,zN]at l;by_cases e:j=k
  .subst e;by_cases A:j<σ.own.length
   .grind
   .simp[A,jS]at l
  grind
 refine⟨d.slots,d.defers,?_,?_,?_,?_,d.one⟩
 .intro j m l;rcases c j m l with⟨rfl,rfl⟩|⟨n,i⟩
  .exact z
  .have r:=d.own j m i;refine r.world (λb f=>v.block b (rH r f) (λg=>n (d.dist j k _ _ b i p f g)))
 .intro j D t E b l i f g;rcases c j t l with⟨rfl,rfl⟩|⟨n,s⟩<;>rcases c D E i with⟨rfl,rfl⟩|⟨x,y⟩
  .rfl
  .exact d.dist _ _ _ _ b p y f g
  .exact d.dist _ _ _ _ b s p f g
  .exact d.dist _ _ _ _ b s y f g
 .intro j t b l f;rcases c j t l with⟨rfl,rfl⟩|⟨n,s⟩
  .exact d.fresh _ _ b p f
  .exact d.fresh _ _ b s f
 .exact d.wrel.ext v (λb f=>d.fresh k u b p f)
theorem Iy(e:∀k,(ι k).oneCell'=true):∀{cs:dj}{vs:cn},tU cs=true->iN ι cs vs->∀v∈vs,v.oneCell'=true
 |[],[],_,_,v,f=>by cases f
 |x::cs,u::vs,g,j,v,f=>by
  simp only[tU]at g;split at g
  .rename_i l;rcases mem_cons.1 f with rfl|f
   .have d:=j.1;cases x with
    |val m=>
     have:v=m:=d;subst this;cases v<;>first|rfl|(simp[At.storable]at l)
    |ptr k off=>obtain⟨b,_,rfl⟩:=d;rfl
    |lst k=>have:v=ι k:=d;grind
    |el k i p off=>obtain⟨b,n,c,_,rfl⟩:=d;rfl
    |junk=>simp[At.storable]at l
   .exact Iy e g j.2 v f
  .cases g
 |[],_::_,_,h,_,_=>h.elim
 |_::_,[],_,h,_,_=>h.elim
theorem SO{P:Program}{T:TypeId}{w:World}{g off:Nat}{b:Array Value}{E:TypeId}{v:Value}(h:jN P T=true)(e:v.cells.size=P.cellsOf T)(j:w.heap[g]? =some (.cells b E (0,0)))
 (l:off+v.cells.size<=b.size)(m:∀u∈v.cells.toList,u.oneCell'=true):
 (storeVar T ⟨g,off,none⟩ v).run P w= .ok () (w.setRow g (splice b.toList off v.cells.toList).toArray):=by
 obtain⟨i,d,n,r,p,f⟩:=gK h;have c:=run_storeCells_at P g off E v.cells.toList 0 b w j aD m;simp only[Nat.add_zero]at c;unfold storeVar;rw[p]at e;simp only[Sem.run_bind,run_sizeOf n,Result.andThen_ok];rw[if_neg aD];simp only[c,splice]
theorem Fs(w:World)(g:Nat)(cs:Array Value):DG (λb=>b=g) w (w.setRow g cs):=
 ⟨rfl,rfl,rfl,Nat.le_refl _,ay,λb _ c=>setRow_other w g b cs c⟩
theorem Ft{cs:dj}{l vs:cn}(c:wK cs=some l)(b:iN ι cs vs):vs=l:=by
 rw[Fu c,iN.vals]at b;exact b
theorem flatten_set{sz:Nat}{l:cn}:∀{xs:List cn}{i:Nat}{e:cn}{off:Nat},(∀e∈xs,e.length=sz)->xs[i]? =some e->off+l.length<=e.length->
 splice xs.flatten (i*sz+off) l=(xs.set i (splice e off l)).flatten
 |[],i,e,off,_,b,_=>by simp at b
 |x::xs,0,e,off,d,b,c=>by
  simp at b;subst b;simp only[splice,Nat.zero_mul,Nat.zero_add,flatten_cons,set_cons_zero,append_assoc]
  grind
 |x::xs,i+1,e,off,d,b,c=>by
  simp only[getElem?_cons_succ]at b;have j:x.length=sz:=d x ay;have f:=flatten_set (λe g=>d e (by simp[g])) b c;rw[set_cons_succ,flatten_cons,flatten_cons, <-f];simp only[splice];have h:(i+1)*sz+off=x.length+(i*sz+off):=bg
  rw[h,take_length_add_append,show x.length+(i*sz+off)+l.length=x.length+(i*sz+off+l.length)by omega,drop_length_add_append];simp
theorem PO{sz:Nat}{xs:List cn}{i off:Nat}{e l:cn}(c:i6 sz xs)(p:xs[i]? =some e)(f:off+l.length<=e.length)(r:∀u∈l,u.oneCell'=true):
 i6 sz (xs.set i (splice e off l)):=by
 have b:e∈xs:=br p;constructor
 .intro g j;rcases mem_or_eq_of_mem_set j with h|h
  .exact c.len g h
  .rw[h,zL _ _ _ f];exact c.len e b
 .intro g j u d;rcases mem_or_eq_of_mem_set j with h|h
  .exact c.one g h u d
  .rw[h]at d;unfold splice at d;rcases mem_append.1 d with m|m
   .rcases mem_append.1 m with n|n
    .exact c.one e b u (mem_of_mem_take n)
    grind
   .exact c.one e b u (mem_of_mem_drop m)
theorem L1(u l:cn)(p N:Nat)(b:p+l.length<=N)(c:N<=u.length):(splice u p l).take N=splice (u.take N) p l:=by
 apply ext_getElem?;intro j;simp only[splice,getElem?_take,getElem?_append,bt,length_take,getElem?_drop]
 grind
theorem T5(y:aK B ι σ a w){T:Nat}{x v:Operand}(ho:o.op= .store T x v)(a':o.dst=none)(h:SK C T x v σ K):TS B C ι o σ K a w:=by
 intro next Q I
 have D:=y.ev x;unfold SK at h;split at h
 .exact h.elim
 .rename_i new a0;split at h
  .rename_i V a6 hT;have V:=ca V;have hd:=BO y.one (y.ev v) a0;have h1:=Iy y.one a6 hd;have b8:new.length=(a.eval v).cells.size:=by have:=hd.length;omega
   have J:∀g off z E,a.eval x= .pointer (some ⟨g,off,none⟩)->w.heap[g]? =some (.cells z E (0,0))->off+(a.eval v).cells.size<=z.size->
    (execOp a.eval o).run C.P w= .ok .skip (w.setRow g (splice z.toList off (a.eval v).cells.toList).toArray):=by
    intro g off z E W H F;unfold execOp;simp only[ho,W,Instr.storeAt,Instr.sureAddr,Sem.run_bind,Sem.run_pure,Result.andThen_ok,SO hT aD H F h1]
   have L:a.put o.dst undef=a:=by rw[a'];rfl
   split at h
   .rename_i k off W;rw[W]at D;split at h
    .rename_i p E O A;split at h
     .rename_i F;have F:=Nat.le_of_ble_eq_true F;obtain⟨b,vs,R,hh,a1⟩:=wN y A;obtain⟨d,f,hp⟩:=D;rw[R]at f;simp only[Value.pointer.injEq,bx,Addr.mk.injEq]at f;obtain⟨rfl, -, -⟩:=f;have b9:O.length=vs.size:=by have:=a1.length;omega
      unfold Oper.wp;rw[J b off vs E hp hh aD,Oper.upon_skip,L];have a7:blk (ι k)=some b:=by rw[R];rfl
      have j:=Fs w b (splice vs.toList off (a.eval v).cells.toList).toArray;refine I ι _ _ _ (y.rewrite A (j.mono (λd f=>bg)) ?_) h ?_
      .exact⟨b,_,R,setRow_heap w b vs _ E _ hh,bk (a1.splice off hd),λq e=>by subst e;have:=ZE y A;grind⟩
      .refine ES y k (λ_=>?_) (λd f hn=>j.block d f (λe=>hn ⟨⟨_,A⟩,bg⟩)) (λH=>by rw[ho]at H;simp[AD]at H) (λl e=>by simp_all [tT]);unfold zK;simp[ho,W]
     grind
    grind
   .rename_i k i sz off W;rw[W]at D;split at h
    .rename_i E s xs l A hl;split at h
     .rename_i hs;have hs:=ca hs;subst hs;obtain⟨e,he,F,h⟩:=h;obtain⟨hr,a2⟩:=sK y A;obtain⟨b,n,c,R,hp⟩:=D;have S:(a.eval v).cells.toList=l:=Ft hl hd;rcases a2.2 with⟨hv,hn⟩|⟨g,c',z,hv,_,H,a8,a9,c0,X⟩
      .grind
      .rw[R]at hv;simp only[Value.slice.injEq,bx,Addr.mk.injEq]at hv;obtain⟨⟨rfl, -, -⟩,rfl,rfl⟩:=hv;have b0:i<xs.length:=(bm he);have c1:e.length=s:=hr.len e (br he);have b1:(a.eval v).cells.size=l.length:=bg
       have b2:=cT hr.len
       have b3:i*s+off+l.length<=xs.length*s:=by
        have:(i+1)*s<=xs.length*s:=Nat.mul_le_mul_right _ b0
        grind
       have b7:xs.length*s<=c*s:=Nat.mul_le_mul_right _ a8;unfold Oper.wp;rw[J b (i*s+off) z E hp H aD,Oper.upon_skip,L];have a7:blk (ι k)=some b:=by rw[R];rfl
       have j:=Fs w b (splice z.toList (i*s+off) (a.eval v).cells.toList).toArray;have a3:∀u∈l,u.oneCell'=true:=bg
       refine I ι _ _ _ (y.rewrite A (j.mono (λd f=>bg)) ?_) h ?_
       .have a4:=PO hr he F a3;refine⟨a4,cT a4.len,.inr ⟨b,c,_,bg,Nat.zero_le _,setRow_heap w b z _ E _ H,bg,a9,?_,?_⟩⟩
        .simp only[size_toArray,S];rw[zL]
         .omega
         grind
        .rw[length_set];rw[<-flatten_set hr.len he F,S, <-X];have c2:z.toList.length=c*s:=by omega
         exact L1 z.toList l (i*s+off) (xs.length*s) b3 aD
       .refine ES y k (λ⟨p',T',b4,e'⟩=>bg) (λd f b5=>j.block d f (λe'=>b5 ⟨⟨_,A⟩,bg⟩)) (λH=>by rw[ho]at H;simp[AD]at H) (λl e=>by simp_all [tT])
     grind
    grind
   .rename_i b off W;rw[W]at D;have D:a.eval x= .pointer (some ⟨b,off,none⟩):=D;split at h
    .rename_i l hl;obtain⟨O,E,Y,F,h⟩:=h;have S:(a.eval v).cells.toList=l:=Ft hl hd;have b1:(a.eval v).cells.size=l.length:=bg
     have H:=y.wrel.msat b _ Y.at_
     let m':MH:=λd=>if d=b then some (.cells (splice O.toList off l).toArray E (0,0))else σ.m d
     unfold Oper.wp;rw[J b off O E D H aD,Oper.upon_skip,L,S];have j:=Fs w b (splice O.toList off l).toArray
     have a5:∀k U,nth σ.own k=some (some U)->blk (ι k)≠some b:=by
      intro k U A hb;have:=(y.fresh k U b A hb).2.1;rw[Y.at_]at this;cases this
     refine I ι {σ with m:=m'} _ _ ?_ (h m' ⟨by simp[m'],λd f=>bg⟩) ?_
     .refine⟨y.slots,y.defers,?_,y.dist,?_,?_,y.one⟩
      .intro k U A;exact(y.own k U A).world (λd f=>j.block d (rH (y.own k U A) f) (λe=>a5 k U A (e▸f)))
      .intro k U d A f;obtain⟨f1,f2,f3⟩:=y.fresh k U d A f
       grind
      .have G:=y.wrel;refine⟨G.tape,G.os,G.output,G.drawn,cj G.size j.size,?_,?_,?_,?_,G.hle,G.hold,?_⟩
       .intro d f hE
        have M:d≠b:=λe=>by
         subst e;rcases G.mfr d _ Y.at_ with N|N
         .omega
         grind
        rw[j.block d (ck f G.size) M];exact G.frame d f hE
       .intro d t u Z;have M:d≠b:=λe=>by subst e;rw[G.disj d _ Y.at_ t]at Z;cases Z
        have N:=G.hsat d t u Z;rw[<-N];exact World.cell?_of_block (w:=w) (a:=⟨d,t,none⟩) (j.block d (World.block_lt_of_cell? w ⟨d,t,none⟩ N) M)
       .intro d ob f;have r:(if d=b then some (Obj.cells (splice O.toList off l).toArray E (0,0))else σ.m d)=some ob:=f;by_cases e:d=b
        .subst e;rw[if_pos rfl]at r;rw[setRow_heap w d O _ E _ H];exact r
        .rw[if_neg e]at r;have N:=G.msat d ob r;rw[j.block d (Array.getElem?_eq_some_iff.1 N).1 e];exact N
       .intro d ob f i;have r:(if d=b then some (Obj.cells (splice O.toList off l).toArray E (0,0))else σ.m d)=some ob:=f;by_cases e:d=b
        .subst e;exact G.disj d _ Y.at_ i
        .rw[if_neg e]at r;exact G.disj d _ r i
       .intro d ob f;have r:(if d=b then some (Obj.cells (splice O.toList off l).toArray E (0,0))else σ.m d)=some ob:=f;by_cases e:d=b
        .subst e;exact G.mfr d _ Y.at_
        .rw[if_neg e]at r;exact G.mfr d _ r
     .constructor
      .intro k p' T' b4 d A ht R;exact j.block d (rH (y.own k _ A) (by rw[R];rfl)) (λe=>a5 k _ A (by rw[R, <-e];rfl))
      .intro d t u Z;have M:d≠b:=λe=>by subst e;rw[y.wrel.disj d _ Y.at_ t]at Z;cases Z
       have N:=y.wrel.hsat d t u Z;rw[<-N];exact World.cell?_of_block (w:=w) (a:=⟨d,t,none⟩) (j.block d (World.block_lt_of_cell? w ⟨d,t,none⟩ N) M)
      .intro H;rw[ho]at H;simp[AD]at H
      .intro l' d b6;simp[tT,ho]at b6
    grind
   grind
  grind
end
end Go.Vc
namespace Go.Vc
open Go List
section
variable{B:tW}{C:Ctx}{ι:dc}{σ:St}{a:Act}{w:World}{o:Oper}{K:St->Prop}
theorem lM(c:aK B ι σ a w):Ip σ ι o w w:=
 ⟨λ_ _ _ _ _ _ _ _=>rfl,λb off v d=>c.wrel.hsat b off v d,λ_ _ _=>rfl,λ_ _ _ _ _ _=>rfl⟩
theorem Ud(r:aK B ι σ a w){T:Nat}{x:Operand}{lo hi mx:Option Operand}(M:o.op= .slice T x lo hi mx)(h:SN C o T x lo hi mx σ K):TS B C ι o σ K a w:=by
 intro next Q l
 have d:=r.ev x;unfold SN at h;split at h
 .rename_i k n D;rw[D]at d;have d:a.eval x=ι k:=d;have c:=r.ev n;split at h
  .rename_i E R v F i E' S G z;rw[G]at c;have c:a.eval n= .int F i:=c;split at h
   case h_2=>exact h.elim
   rename_i t;obtain⟨H,J,h⟩:=h;obtain⟨hr,N⟩:=sK r S;have I:i6 R (v.take i.toNat):=⟨λe Z=>hr.len e (mem_of_mem_take Z),λe Z=>hr.one e (mem_of_mem_take Z)⟩
   have y:(v.take i.toNat).length=i.toNat:=bg
   obtain⟨U,_,p,_⟩:=gK t;rcases N.2 with⟨V,a7⟩|⟨g,m,a',V,a8,hg,a9,a0,a1,L⟩
   .have a2:i=0:=by omega
    subst a2
    have f:(execOp a.eval o).run C.P w= .ok (.value (.slice none 0 0)) w:=by
     unfold execOp;simp[M,d,V,c,Instr.sliceAt,run_underlying z,Instr.slice,Instr.sliceBounds,Instr.sliceBound,asIntOf,run_sizeOf p]
    unfold Oper.wp;rw[f,Oper.upon_value];refine l (upd ι k (.slice none 0 0)) _ _ _ ?_ h (lM r);refine aK.put ?_ o.dst (by show _=_;simp);refine r.place k _ _ (DG.refl _ _) ⟨I,?_⟩ rfl (λb hb=>bg)
    grind
   .have f:(execOp a.eval o).run C.P w= .ok (.value (.slice (some ⟨g,0,none⟩) i.toNat m)) w:=by
     have a3:i<=(m:Int):=by omega
     unfold execOp;simp[M,d,V,c,Instr.sliceAt,run_underlying z,Instr.slice,Instr.sliceBounds,Instr.sliceBound,asIntOf,run_sizeOf p,H,a3,Addr.add_none]
    unfold Oper.wp;rw[f,Oper.upon_value];refine l (upd ι k (.slice (some ⟨g,0,none⟩) i.toNat m)) _ _ _ ?_ h (lM r);refine aK.put ?_ o.dst (by show _=_;simp);refine r.place k _ _ (DG.refl _ _) ⟨I,cT I.len,.inr ⟨g,m,a',by rw[y],Nat.zero_le _,hg,aD,a0,a1,?_⟩⟩ rfl (λb hb=>.inr ⟨⟨_,S⟩,by rw[V];exact hb⟩);rw[y]
    have O:(v.take i.toNat).flatten=v.flatten.take (i.toNat*R):=by
     have:v=v.take i.toNat++v.drop i.toNat:=(take_append_drop _ _).symm;rw[show v.flatten=(v.take i.toNat).flatten++(v.drop i.toNat).flatten by grind];rw[take_left'];rw[cT I.len,y]
    rw[O, <-L,take_take];congr 1;have:i.toNat*R<=v.length*R:=Nat.mul_le_mul_right _ aD;omega
  grind
 .rename_i A len m n D;rw[D]at d;have d:a.eval x= .slice A len m:=d;have c:=r.ev n;split at h
  .rename_i F i E' G z;rw[G]at c;have c:a.eval n= .int F i:=c;split at h
   case h_2=>exact h.elim
   rename_i t;obtain⟨H,J,h⟩:=h;obtain⟨U,_,p,_⟩:=gK t
   have f:(execOp a.eval o).run C.P w= .ok (.value (.slice A i.toNat m)) w:=by
    unfold execOp;simp[M,d,c,Instr.sliceAt,run_underlying z,Instr.slice,Instr.sliceBounds,Instr.sliceBound,asIntOf,run_sizeOf p,H,J];cases A<;>simp[Addr.add]
   unfold Oper.wp;rw[f,Oper.upon_value];exact l ι _ _ _ (r.put o.dst (x:=.at (.val _)) rfl) h (lM r)
  grind
 .rename_i A len m n k D;rw[D]at d;have d:a.eval x= .slice A len m:=d;have c:=r.ev n;have u:=r.ev k;split at h
  .rename_i F i kj j E' G S z;rw[G]at c;rw[S]at u;have c:a.eval n= .int F i:=c;have u:a.eval k= .int kj j:=u;split at h
   case h_2=>exact h.elim
   rename_i t;obtain⟨H,J,h2,h⟩:=h;obtain⟨U,_,p,_⟩:=gK t
   have f:(execOp a.eval o).run C.P w= .ok (.value (.slice A i.toNat j.toNat)) w:=by
    have W:0<=j:=by omega
    have X:max j 0=j:=by omega
    unfold execOp;simp[X,M,d,c,u,Instr.sliceAt,run_underlying z,Instr.slice,Instr.sliceBounds,Instr.sliceBound,asIntOf,run_sizeOf p,H,J,h2,W];cases A<;>simp[Addr.add]
   unfold Oper.wp;rw[f,Oper.upon_value];exact l ι _ _ _ (r.put o.dst (x:=.at (.val _)) rfl) h (lM r)
  grind
 .rename_i A len m n D;rw[D]at d;have d:a.eval x= .slice A len m:=d;have c:=r.ev n;split at h
  .rename_i F i E' G z;rw[G]at c;have c:a.eval n= .int F i:=c;split at h
   case h_2=>exact h.elim
   rename_i t;obtain⟨H,J,hc,h⟩:=h;obtain⟨U,_,p,b',a4,a6⟩:=gK t;have a5:=run_sizeOf p;obtain⟨s,Y⟩:∃s:Sl,bRJ (C.P.cellsOf E') ⟨A,len,m⟩ i.toNat s:=⟨⟨_,_,_⟩,rfl,rfl,rfl⟩
   have f:(execOp a.eval o).run C.P w= .ok (.value (.slice s.a s.len s.cap)) w:=by
    have W:=Y.a_;have X:=Y.len;have h5:=Y.cap;dsimp only at W X h5;unfold execOp;simp[M,d,c,Instr.sliceAt,run_underlying z,Instr.slice,Instr.sliceBounds,Instr.sliceBound,asIntOf,a5,H,J,W,X,h5,a4]
   unfold Oper.wp;rw[f,Oper.upon_value];exact l ι _ _ _ (r.put o.dst (x:=.at (.val _)) rfl) (h s Y) (lM r)
  grind
 .rename_i b off n D;rw[D]at d;have d:a.eval x= .pointer (some ⟨b,off,none⟩):=d;have c:=r.ev n;split at h
  .rename_i F i len E' G z;rw[G]at c;have c:a.eval n= .int F i:=c;split at h
   case h_2=>exact h.elim
   rename_i t;obtain⟨H,J,h⟩:=h;obtain⟨U,_,p,_⟩:=gK t
   have f:(execOp a.eval o).run C.P w= .ok (.value (.slice (some ⟨b,off,none⟩) i.toNat len)) w:=by
    unfold execOp;simp[M,d,c,Instr.sliceAt,run_underlying z,Instr.sliceBounds,Instr.sliceBound,asIntOf,run_sizeOf p,H,J,Instr.sureAddr,asAddr,Addr.add]
   unfold Oper.wp;rw[f,Oper.upon_value];exact l ι _ _ _ (r.put o.dst (x:=.at (.val _)) rfl) h (lM r)
  grind
 grind
structure Ld(ι:dc)(σ σ':St)(ks:dl):Prop where
 cells:∀k p T cs,nth σ.own k=some (some (.cellsP p T cs))->k∉ks->∃cs',nth σ'.own k=some (some (.cellsP p T cs'))
 imm:σ'.h=σ.h
 lst:∀x k,σ'.ev x= .at (.lst k)->σ.ev x= .at (.lst k)
 m_:∀b,σ.m b=none->σ'.m b≠none->∃k∈ks,blk (ι k)=some b
theorem Pb{σ:St}{k:Nat}{f:At->At}{m:MH}{h:PH}{own:dv}(d:∀x j,f x≠ .lst j){x:Operand}{j:Nat}(c:St.ev {sl:=σ.sl.map (SV.sub k f),own:=own,m:=m,h:=h} x= .at (.lst j)):σ.ev x= .at (.lst j):=by
 rcases YW σ k f m h own x with b|⟨v,b⟩
 .exact Zv d (b▸c)
 .rcases b with rfl|⟨g,rfl⟩|⟨g,rfl⟩<;>exact c
theorem caX(t:aK B ι σ a w){k T:Nat}{p:Option Nat}{cs:dj}{l:cn}(E:nth σ.own k=some (some (.cellsP p T cs)))(L:wK cs=some l):
 ∃(b:Nat)(m':MH),mL σ.m σ.h b/\iP σ.m m' b (.cells l.toArray T (0,0))/\
  aK B ι {(σ.sub k (λ |.ptr _ o=>.val (.pointer (some ⟨b,o,none⟩))|_=>.junk)).setOwn k none with m:=m'} a w/\
  Ld ι σ {(σ.sub k (λ |.ptr _ o=>.val (.pointer (some ⟨b,o,none⟩))|_=>.junk)).setOwn k none with m:=m'} [k]:=by
 obtain⟨b,M,I,N,F⟩:=wN t E;have O:M.toList=l:=Ft L F;have y:blk (ι k)=some b:=by rw[I];rfl
 obtain⟨W,P,J⟩:=t.fresh k _ b E y
 let m':MH:=λf=>if f=b then some (.cells l.toArray T (0,0))else σ.m f
 have g:aK B ι ((σ.sub k (λ |.ptr _ o=>.val (.pointer (some ⟨b,o,none⟩))|_=>.junk)).setOwn k none) a w:=by
  have:=t.drop k (ι k) (t.one k) (λ |.ptr _ o=>.val (.pointer (some ⟨b,o,none⟩))|_=>.junk) (by
   intro x v D F;cases x<;>simp only[At.key,bx,reduceCtorEq]at D
   case lst=>trivial
   case el=>trivial
   case ptr j off=>
    subst D;obtain⟨f,d,Q⟩:=F;rw[I]at d;simp only[Value.pointer.injEq,bx,Addr.mk.injEq]at d;obtain⟨rfl, -, -⟩:=d;exact Q)
  rwa [It]at this
 have s:∀j z,nth ((σ.sub k (λ |.ptr _ o=>.val (.pointer (some ⟨b,o,none⟩))|_=>.junk)).setOwn k none).own j=some (some z)->blk (ι j)≠some b:=by
  intro j z u R;obtain⟨s,X,G,_⟩:=qN u;exact s (t.dist j k _ _ b G E R y)
 refine⟨b,m',⟨P,J⟩,⟨by simp[m'],λf d=>bg⟩,⟨g.slots,g.defers,g.own,g.dist,?_,?_,g.one⟩,?_⟩
 .intro j z f u d;obtain⟨S,U,V⟩:=g.fresh j z f u d;refine⟨S,?_,V⟩;have:f≠b:=λe=>s j z u (e▸d);show(if f=b then _ else σ.m f)=none;rw[if_neg this];exact U
 .have n:=t.wrel;refine⟨n.tape,n.os,n.output,n.drawn,n.size,n.frame,n.hsat,?_,?_,n.hle,n.hold,?_⟩
  .intro f r d;have c:(if f=b then some (Obj.cells l.toArray T (0,0))else σ.m f)=some r:=d;by_cases e:f=b
   .subst e;rw[if_pos rfl]at c;rw[N, <-c];congr 2
    grind
   .rw[if_neg e]at c;exact n.msat f r c
  .intro f r d i;have c:(if f=b then some (Obj.cells l.toArray T (0,0))else σ.m f)=some r:=d;by_cases e:f=b
   .subst e;exact J i
   .rw[if_neg e]at c;exact n.disj f r c i
  .intro f r d;have c:(if f=b then some (Obj.cells l.toArray T (0,0))else σ.m f)=some r:=d;by_cases e:f=b
   .grind
   .rw[if_neg e]at c;exact n.mfr f r c
 .refine⟨?_,rfl,λx j D=>Pb (λx j=>bg) D,λf Y Z=>⟨k,ay,?_⟩⟩
  case refine_2=>
   grind
  intro j p' T' H u A;simp only[mem_singleton]at A;refine⟨H.map (At.sub k (λ |.ptr _ o=>.val (.pointer (some ⟨b,o,none⟩))|_=>.junk)),?_⟩
  .simp only[St.setOwn,St.sub,zN,Cr,A,false_and,if_false,u];rfl
theorem caZ{σ τ υ:St}{k:Nat}{ks:dl}(h:Ld ι σ τ [k])(c:Ld ι τ υ ks){b:Nat}(d:σ.m b=none)(f:υ.m b≠none):∃j∈k::ks,blk (ι j)=some b:=by
 cases e:τ.m b with
 |none=>
  obtain⟨j,g,i⟩:=c.m_ b e f
  grind
 |some o=>
  obtain⟨j,g,i⟩:=h.m_ b d (by rw[e];simp)
  grind
theorem zA:∀(ks:dl)(σ:St),aK B ι σ a w->FQ σ K ks->∃e,aK B ι e a w/\K e/\Ld ι σ e ks
 |[],σ,g,h=>⟨σ,g,h,⟨λ_ _ _ y h _=>⟨y,h⟩,rfl,λ_ _ h=>h,λ_ i m=>(m i).elim⟩⟩
 |k::ks,σ,g,h=>by
  simp only[FQ]at h;split at h
  .rename_i p T y D;split at h
   .rename_i l E;obtain⟨b,F,n,r,s,d⟩:=caX g D E;obtain⟨e,t,G,c⟩:=zA ks _ s (h b F n r);refine⟨e,t,G,⟨λj z T' u H A=>?_,c.imm.trans d.imm,λx j I=>d.lst x j (c.lst x j I),λb i m=>caZ d c i m⟩⟩;simp only[mem_cons,not_or]at A;obtain⟨f,v⟩:=d.cells j z T' u H bg;exact c.cells j z T' f v A.2
   grind
  grind
theorem aPZ(H:aK B ι σ a w){k E sz:Nat}{xs:List cn}(R:nth σ.own k=some (some (.lst E sz xs))):
 ∃(s:Sl)(m':MH),qI σ.m m' σ.h s E sz xs/\aK B ι {(σ.sub k (λ |.lst _=>.val s.val|_=>.junk)).setOwn k none with m:=m'} a w/\
  Ld ι σ {(σ.sub k (λ |.lst _=>.val s.val|_=>.junk)).setOwn k none with m:=m'} [k]:=by
 obtain⟨hr,u⟩:=sK H R
 obtain⟨s,S⟩:∃s:Sl,ι k=s.val:=by
  rcases u.2 with⟨t,_⟩|⟨g,n,p,t,_⟩
  .exact⟨⟨none,0,0⟩,t⟩
  .exact⟨⟨some ⟨g,0,none⟩,xs.length,n⟩,t⟩
 have l:aK B ι ((σ.sub k (λ |.lst _=>.val s.val|_=>.junk)).setOwn k none) a w:=by
  have:=H.drop k (ι k) (H.one k) (λ |.lst _=>.val s.val|_=>.junk) (by
   intro x v O T;cases x<;>simp only[At.key,bx,reduceCtorEq]at O
   case ptr=>trivial
   case el=>trivial
   case lst j=>
    subst O;have T:v=ι j:=T;show v=s.val;rw[T,S])
  rwa [It]at this
 have J:∀m':MH,(∀b,σ.m b=none->m' b≠none->blk (ι k)=some b)->Ld ι σ {(σ.sub k (λ |.lst _=>.val s.val|_=>.junk)).setOwn k none with m:=m'} [k]:=by
  intro m' U;refine⟨?_,rfl,λx j O=>Pb (λx j=>bg) O,λd P Q=>⟨k,ay,U d P Q⟩⟩;intro j p' T' V I L;simp only[mem_singleton]at L;refine⟨V.map (At.sub k (λ |.lst _=>.val s.val|_=>.junk)),?_⟩;simp only[St.setOwn,St.sub,zN,Cr,L,false_and,if_false,I];rfl
 rcases u.2 with⟨t,W⟩|⟨g,n,p,t,a0,hg,X,Y,Z,D⟩
 .have F:s=⟨none,0,0⟩:=by
   rw[S]at t;obtain⟨x,y,z⟩:=s;simp only[Sl.val,Value.slice.injEq]at t
   grind
  subst F;exact⟨⟨none,0,0⟩,σ.m,⟨⟨hr,.inl ⟨rfl,eq_nil_of_length_eq_zero W⟩⟩,λ_ _=>rfl,λb i e=>by cases e⟩,l,J σ.m (λb P Q=>(Q P).elim)⟩
 .have M:blk (ι k)=some g:=by rw[t];rfl
  obtain⟨f1,f2,f3⟩:=H.fresh k _ g R M
  have F:s=⟨some ⟨g,0,none⟩,xs.length,n⟩:=by
   rw[S]at t;obtain⟨x,y,z⟩:=s;simp only[Sl.val,Value.slice.injEq]at t
   grind
  subst F
  let m':MH:=λd=>if d=g then some (.cells p E (0,0))else σ.m d
  have G:∀j N,nth ((σ.sub k (λ |.lst _=>.val (Sl.mk (some ⟨g,0,none⟩) xs.length n).val|_=>.junk)).setOwn k none).own j=some (some N)->blk (ι j)≠some g:=by
   intro j N I hb;obtain⟨G,o1,a',_⟩:=qN I;exact G (H.dist j k _ _ g a' R hb M)
  refine⟨⟨some ⟨g,0,none⟩,xs.length,n⟩,m',⟨⟨hr,.inr ⟨g,n,p,rfl,by simp[m'],X,Y,Z,D⟩⟩,λd f=>?_,λb i e=>?_⟩,⟨l.slots,l.defers,l.own,l.dist,?_,?_,l.one⟩,J m' (λb P Q=>?_)⟩
  .grind
  .simp only[bx,Addr.mk.injEq]at e;obtain⟨rfl,_,_⟩:=e;exact⟨f2,f3⟩
  .intro j N d I f;obtain⟨g1,g2,g3⟩:=l.fresh j N d I f;refine⟨g1,?_,g3⟩;have:d≠g:=λe=>G j N I (e▸f);show(if d=g then _ else σ.m d)=none;rw[if_neg this];exact g2
  .have r:=H.wrel;refine⟨r.tape,r.os,r.output,r.drawn,r.size,r.frame,r.hsat,?_,?_,r.hle,r.hold,?_⟩
   .intro d A f;have c:(if d=g then some (Obj.cells p E (0,0))else σ.m d)=some A:=f;by_cases e:d=g
    .grind
    .rw[if_neg e]at c;exact r.msat d A c
   .intro d A f i;have c:(if d=g then some (Obj.cells p E (0,0))else σ.m d)=some A:=f;by_cases e:d=g
    .subst e;exact f3 i
    .rw[if_neg e]at c;exact r.disj d A c i
   .intro d A f;have c:(if d=g then some (Obj.cells p E (0,0))else σ.m d)=some A:=f;by_cases e:d=g
    .grind
    .rw[if_neg e]at c;exact r.mfr d A c
  grind
theorem Dg:∀(ks:dl)(σ:St),aK B ι σ a w->Dv σ K ks->∃e,aK B ι e a w/\K e/\Ld ι σ e ks
 |[],σ,i,h=>⟨σ,i,h,⟨λ_ _ _ y h _=>⟨y,h⟩,rfl,λ_ _ h=>h,λ_ l m=>(m l).elim⟩⟩
 |k::ks,σ,i,h=>by
  simp only[Dv]at h;split at h
  .rename_i E H I z;obtain⟨s,A,f,n,d⟩:=aPZ i z;obtain⟨e,p,D,c⟩:=Dg ks _ n (h s A f);refine⟨e,p,D,⟨λj u T' r F v=>?_,c.imm.trans d.imm,λx j G=>d.lst x j (c.lst x j G),λb l m=>caZ d c l m⟩⟩;simp only[mem_cons,not_or]at v;obtain⟨g,t⟩:=d.cells j u T' r F bg;exact c.cells j u T' g t v.2
  grind
end
end Go.Vc
namespace Go.Vc
open Go List
def Gi(w:World):CV->Value->Prop
 |.val v,u=>u=v
 |.lst E c b,u=>i6 c b/\w.ownsRow 0 E c u b.length b.flatten
 |.tup e,u=>∃d:Array Value,u= .tuple d/\e=d.toList.map .val
def iL:CV->Value->Option Nat
 |.lst _ _ _,u=>blk u
 |_,_=>none
def Dp(w:World):dk->cn->Prop
 |[],[]=>True
 |c::cs,v::vs=>Gi w c v/\Dp w cs vs
 |_,_=>False
def yI(m:MH)(d:dk)(vs:cn)(b:Nat):Prop:=m b≠none\/∃(i:Nat)(c:CV)(u:Value),d[i]? =some c/\vs[i]? =some u/\iL c u=some b
structure BK(w:World)(m:MH)(h:PH)(cvs:dk)(vs:cn):Prop where
 args:Dp w cvs vs
 hsat:∀b o v,h b o=some v->w.cell? ⟨b,o,none⟩=some v
 msat:∀b o,m b=some o->w.heap[b]? =some o
 disj:∀b o,m b=some o->∀i,h b i=none
 sep:∀(i j:Nat)(c d:CV)(u v:Value)(b:Nat),cvs[i]? =some c->vs[i]? =some u->cvs[j]? =some d->vs[j]? =some v->iL c u=some b->iL d v=some b->i=j
 free:∀(i:Nat)(c:CV)(u:Value)(b:Nat),cvs[i]? =some c->vs[i]? =some u->iL c u=some b->m b=none/\∀o,h b o=none
def Sound(P:Program)(f:FuncId)(S:Spec):Prop:=
 (∃g,P.funcs[f]? =some g/\g.body.isSome=true/\(g.name== "runtime.NumGoroutine")=false)/\
 ∀c d m h w K,S c m h K->BK w m h c d->
  Calls P f d.toArray w λe n=>∃r u j l,e= .returned u/\K r j l/\Gi n r u/\AO ⟨w,yI m c d,h,[]⟩ j l n/\
   (∀b,iL r u=some b->(w.heap.size<=b\/yI m c d b)/\j b=none/\∀i,l b i=none)
section
variable{B:tW}{C:Ctx}{ι:dc}{σ:St}{a:Act}{w:World}{o:Oper}{K:St->Prop}
theorem HN(sz:Nat):i6 sz []:=⟨(λe b=>by cases b),(λe b=>by cases b)⟩
theorem Fg(p:aK B ι σ a w){mv:dl}:∀(i:Nat)(l:dp)(ts:dx)(f:dk),rT C.P σ mv i l ts=some f->
 Dp w f (l.map a.eval)/\∀(j:Nat)(c:CV)(u:Value)(b:Nat),f[j]? =some c->(l.map a.eval)[j]? =some u->iL c u=some b->
  ∃x k s,l[j]? =some x/\mv.contains (i+j)=true/\σ.ev x= .at (.lst k)/\nth σ.own k=some (some s)/\u=ι k
 |i,[],ts,f,h=>by
  simp[rT]at h;subst h;exact⟨trivial,λj c u b H=>by simp at H⟩
 |i,x::r,ts,f,h=>by
  simp only[rT]at h;split at h
  .cases h
  .rename_i g m;obtain⟨n,I⟩:=Fg p (i+1) r ts.tail g m
   have d:∀(D:CV),(∀(u:Value)(b:Nat),(a.eval x)=u->iL D u=some b->∃k s,mv.contains i=true/\σ.ev x= .at (.lst k)/\nth σ.own k=some (some s)/\u=ι k)->
    ∀(j:Nat)(c:CV)(u:Value)(b:Nat),(D::g)[j]? =some c->((x::r).map a.eval)[j]? =some u->iL c u=some b->
     ∃F k s,(x::r)[j]? =some F/\mv.contains (i+j)=true/\σ.ev F= .at (.lst k)/\nth σ.own k=some (some s)/\u=ι k:=by
    grind
   split at h
   .rename_i y;split at h
    .rename_i k v;have e:=p.ev x;rw[v]at e;have e:a.eval x=ι k:=e;split at h
     .rename_i E L M G;simp only[bx]at h;subst h;obtain⟨J,N⟩:=sK p G;refine⟨⟨⟨J,bg⟩,n⟩,d _ (λu b t _=>⟨k,_,y,v,G,bg⟩)⟩
     .cases h
    .rename_i v;have e:=p.ev x;rw[v]at e;have e:a.eval x= .slice none 0 0:=e;split at h
     .rename_i E z O;simp only[bx]at h;subst h;refine⟨⟨⟨HN _,by rw[e];exact World.ownsRow_nil w 0 E _⟩,n⟩,d _ (λu b t A=>?_)⟩;rw[e]at t;subst t;simp[iL,blk]at A
     .cases h
    .cases h
   .split at h
    .rename_i u t;simp only[bx]at h;subst h;exact⟨⟨p.rho t,n⟩,d _ (λu b _ A=>by simp[iL]at A)⟩
    .cases h
theorem Df{mv:dl}:∀(i:Nat)(l:dp)(j:Nat)(x:Operand)(k:Nat),l[j]? =some x->mv.contains (i+j)=true->σ.ev x= .at (.lst k)->k∈j5 σ mv i l
 |i,[],j,x,k,h,_,_=>by simp at h
 |i,y::r,0,x,k,h,b,c=>by
  simp at h;subst h;simp only[Nat.add_zero]at b;simp only[j5,b,c]
  grind
 |i,y::r,j+1,x,k,h,b,c=>by
  simp only[getElem?_cons_succ]at h;have:=Df (i+1) r j x k h (by rw[show i+1+j=i+(j+1)by omega];exact b) c;simp only[j5]
  grind
theorem HC{mv:dl}:∀(i:Nat)(l:dp),KN (j5 σ mv i l)=true->∀(j c:Nat)(x e:Operand)(k:Nat),l[j]? =some x->l[c]? =some e->
 mv.contains (i+j)=true->mv.contains (i+c)=true->σ.ev x= .at (.lst k)->σ.ev e= .at (.lst k)->j=c
 |i,[],_,j,_,_,_,_,h,_,_,_,_,_=>by simp at h
 |i,y::r,b,j,c,x,e,k,h,s,E,u,v,f=>by
  have key:∀j x,r[j]? =some x->mv.contains (i+(j+1))=true->σ.ev x= .at (.lst k)->∀g,y=g->mv.contains i=true->σ.ev g= .at (.lst k)->False:=by
   intro j x z A m g D n p;subst D;simp only[j5,n,p]at b;have t:=Df (σ:=σ) (mv:=mv) (i+1) r j x k z bg m;simp only[KN]at b
   grind
  have d:KN (j5 σ mv (i+1) r)=true:=by
   simp only[j5]at b;split at b
   .simp only[KN]at b
    grind
   .exact b
  cases j with
  |zero=>
   grind
  |succ j=>
   cases c with
   |zero=>
    grind
   |succ c=>
    simp only[getElem?_cons_succ]at h s;have:=HC (i+1) r d j c x e k h s bg bg v f;rw[this]
theorem HF:∀(ks:dl)(σ:St),aK B ι σ a w->aK B ι (BG σ ks) a w/\(BG σ ks).m=σ.m/\(BG σ ks).h=σ.h/\
 (∀j o',nth (BG σ ks).own j=some (some o')->j∉ks/\∃d,nth σ.own j=some (some d))
 |[],σ,c=>⟨c,rfl,rfl,λj o' h=>⟨ay,o',h⟩⟩
 |k::ks,σ,c=>by
  have e:=c.kill k (ι k) (c.one k);rw[It]at e;obtain⟨f,g,i,l⟩:=HF ks (σ.kill k) e;refine⟨f,g,i,λj o' n=>?_⟩;obtain⟨s,d,b⟩:=l j o' n;rw[Nr]at b;obtain⟨p,t,r,_⟩:=qN b
  grind
theorem AO.trans{m m':MH}{h j:PH}{w w':World}{E:Nat->Prop}(d:AO B m h w)(c:AO ⟨w,E,h,[]⟩ m' j w')(r:∀b,E b->B.w0.heap.size<=b\/B.E b):AO B m' j w':=by
 refine⟨c.tape.trans d.tape,c.os.trans d.os,c.output.trans d.output,cj d.drawn c.drawn,cj d.size c.size,?_,c.hsat,c.msat,c.disj,λb o v n=>c.hle b o v (d.hle b o v n),?_,?_⟩
 .intro b f i
  have g:¬E b:=λe=>by
   grind
  rw[c.frame b (ck f d.size) g];exact d.frame b f i
 .intro b f i
  have g:¬E b:=λe=>by
   grind
  rw[c.hold b (ck f d.size) g];exact d.hold b f i
 .intro b p f;rcases c.mfr b p f with l|l
  .exact .inl (cj d.size l)
  grind
theorem aK.called{m':MH}{l:PH}{w':World}{E:Nat->Prop}(d:aK B ι σ a w)(n:AO ⟨w,E,σ.h,[]⟩ m' l w')(r:∀b,E b->B.w0.heap.size<=b\/B.E b)
 (e:∀j o' b,nth σ.own j=some (some o')->blk (ι j)=some b->¬E b):aK B ι {σ with m:=m',h:=l} a w':=by
 refine⟨d.slots,d.defers,?_,d.dist,?_,d.wrel.trans n r,d.one⟩
 .intro j o' f;have c:=d.own j o' f;exact c.world (λb g=>n.frame b (rH c g) (e j o' b f g))
 .intro j o' b f g;have c:=d.own j o' f;obtain⟨s,z,t⟩:=d.fresh j o' b f g;have p:=rH c g;have u:=e j o' b f g;refine⟨s,?_,λi=>?_⟩
  .show m' b=none;cases v:m' b with
   |none=>rfl
   |some x=>
    rcases n.mfr b x v with y|y
    .grind
    grind
  .have:l b=σ.h b:=n.hold b p u;show l b i=none;rw[this];exact t i
theorem Iv:∀{rs:dk}{l:List (Sum At dj)}{us:cn},DL rs=some l->rs=us.map .val->PE ι l us
 |[],l,us,h,b=>by
  simp[DL]at h;subst h;cases us with
  |nil=>trivial
  |cons u us=>simp at b
 |.val v::r,l,us,h,b=>by
  cases us with
  |nil=>simp at b
  |cons u us=>
   simp only[map_cons,List.cons.injEq,CV.val.injEq]at b;simp only[DL]at h;split at h
   .rename_i d c;simp only[bx]at h;subst h;exact⟨b.1.symm,Iv c b.2⟩
   .cases h
 |.lst _ _ _::_,l,us,h,_=>by simp[DL]at h
 |.tup _::_,l,us,h,_=>by simp[DL]at h
theorem Mk{E sz n:Nat}{v:Value}{l:cn}(h:w.ownsRow 0 E sz v n l):v.oneCell'=true:=by
 rcases h.2 with⟨rfl,_⟩|⟨g,b,c,rfl,_⟩<;>rfl
theorem Me{σ:St}{k:Nat}:∀{l:dp},k∈pM σ l->∃x∈l,∃off,σ.ev x= .at (.ptr k off)
 |[],h=>by cases h
 |x::r,h=>by
  have b:=λh=>Me (σ:=σ) (k:=k) (l:=r) h;have c:k∈pM σ r->∃y∈x::r,∃off,σ.ev y= .at (.ptr k off):=λh=>let⟨y,hy,off,e⟩:=b h;⟨y,mem_cons_of_mem _ hy,off,e⟩
  simp only[pM]at h
  grind
theorem Y3(X:∀g S,assoc C.specs g=some S->Sound C.P g S)(hM:aK B ι σ a w){c:Call}{g:Operand}{f:FuncId}{fs cs:Array Value}(ho:o.op= .call c)(hc:c.callee= .value g)
 (hg:σ.ev g= .at (.val (.func (.func f) fs cs)))(e8:fs.toList=[])(e9:cs.toList=[])(h:Y4 C o f c.args.toList c.argTypes.toList σ K):TS B C ι o σ K a w:=by
 intro next Q H
 unfold Y4 at h;split at h
 .exact h.elim
 .rename_i S hS;obtain⟨⟨fn,c2,c3,c4⟩,Y⟩:=X f S hS;obtain⟨τ,c5,h,L⟩:=oO _ _ hM h;obtain⟨υ,s,h,Z⟩:=zA _ _ c5 h;split at h
  .rename_i R b0 c6;generalize G2 C f=mv at*
   obtain⟨U,A⟩:=Fg s 0 _ _ _ b0
   have b1:BK w υ.m υ.h R (c.args.toList.map a.eval):=by
    refine⟨U,s.wrel.hsat,s.wrel.msat,s.wrel.disj,?_,?_⟩
    .intro i j D d1 u v b N hu hj hv V a3;obtain⟨x,k,ow,hx,hm,hk,y,rfl⟩:=A i D u b N hu V;obtain⟨x',W,f',a4,c7,a',a5,rfl⟩:=A j d1 v b hj hv a3;have z:blk (ι k)=some b:=by cases D<;>simp[iL]at V;exact V
     have F:blk (ι W)=some b:=by cases d1<;>simp[iL]at a3;exact a3
     have c8:=s.dist k W _ _ b y a5 z F;subst c8;exact HC (σ:=υ) (mv:=mv) 0 c.args.toList c6 i j x x' k hx a4 hm c7 hk a'
    .intro i D u b N hu V;obtain⟨x,k,ow,hx,hm,hk,y,rfl⟩:=A i D u b N hu V;have z:blk (ι k)=some b:=by cases D<;>simp[iL]at V;exact V
     exact(s.fresh k ow b y z).2
   have a6:=Y R _ υ.m υ.h w _ h b1;have c9:a.eval g= .func (.func f) fs cs:=by have:=hM.ev g;rw[hg]at this;exact this
   have b3:fs= #[]:=bg
   have b4:cs= #[]:=bg
   subst b3 b4;have a0:c.args.map a.eval=(c.args.toList.map a.eval).toArray:=bg
   have d':¬fn.body=none:=bg
   have d0:¬fn.name= "runtime.NumGoroutine" :=bg
   have b5:(execOp a.eval o).run C.P w= .ok (.enter f (c.args.toList.map a.eval).toArray) w:=by
    unfold execOp;simp only[ho,resolve,hc,c9,Deferred.ofValue,Sem.run_bind,Sem.run_pure,Result.andThen_ok,invoke,callFunc];simp[program,Sem.run,c2,d0,d',a0]
   unfold Oper.wp;rw[b5,Oper.upon_enter];refine Calls.mono a6 ?_;rintro e w' ⟨r,u,m',h',rfl,hK,hr,hw,V⟩;show next (a.put o.dst u) w'
   obtain⟨b6,f0,f4,a7⟩:=HF (j5 υ mv 0 c.args.toList) υ s
   have b7:∀b,yI υ.m R (c.args.toList.map a.eval) b->B.w0.heap.size<=b\/B.E b:=by
    rintro b (M|⟨i,D,O,N,G,t⟩)
    .cases I:υ.m b with
     |none=>grind
     |some ob=>exact s.wrel.mfr b ob I
    .obtain⟨x,k,ow,hx,I,hk,y,rfl⟩:=A i D O b N G t;have z:blk (ι k)=some b:=by cases D<;>simp[iL]at t;exact t
     exact(s.fresh k ow b y z).1
   have a8:∀j o' b,nth (BG υ (j5 υ mv 0 c.args.toList)).own j=some (some o')->blk (ι j)=some b->¬yI υ.m R (c.args.toList.map a.eval) b:=by
    intro j o' b hj a1 b8;obtain⟨b9,o1,c'⟩:=a7 j o' hj;rcases b8 with M|⟨i,D,O,N,G,t⟩
    .exact M (s.fresh j o1 b c' a1).2.1
    .obtain⟨x,k,ow,hx,I,hk,y,rfl⟩:=A i D O b N G t;have z:blk (ι k)=some b:=by cases D<;>simp[iL]at t;exact t
     have:=s.dist j k _ _ b c' y a1 z;subst this;exact b9 (Df 0 _ i x j hx aD hk)
   have a9:aK B ι {BG υ (j5 υ mv 0 c.args.toList)with m:=m',h:=h'} a w':=by
    refine b6.called (E:=yI υ.m R (c.args.toList.map a.eval)) ?_ b7 a8
    grind
   have J:Ip σ ι o w w':=by
    constructor
    .intro k p T d2 b hk ht hι;obtain⟨d3,d4⟩:=L.cells k p T d2 hk;have d5:=ND L ht
     have d6:k∉pM τ c.args.toList:=by
      unfold zK at d5
      grind
     obtain⟨f5,a2⟩:=Z.cells k p T d3 d4 d6;have z:blk (ι k)=some b:=by rw[hι];rfl
     refine hw.frame b (rH (s.own k _ a2) z) ?_;rintro(M|⟨i,D,O,N,G,t⟩)
     .exact M (s.fresh k _ b a2 z).2.1
     .obtain⟨x,W,ow,hx,I,a',y,rfl⟩:=A i D O b N G t;have F:blk (ι W)=some b:=by cases D<;>simp[iL]at t;exact t
      have:=s.dist k W _ _ b a2 y z F;subst this;cases D<;>simp[iL]at t;rename_i E1 f6 f7;have b':=s.own k _ a2;obtain⟨b2,f8,e2,_,_⟩:=b'
      have e5:∃ad n cp,ι k= .slice ad n cp:=by
       have c0:∀(l:dk)(vs:cn),Dp w l vs->∀(i:Nat)(D:CV)(O:Value),l[i]? =some D->vs[i]? =some O->Gi w D O:=by
        intro l
        induction l with
        |nil=>grind
        |cons x0 r0 d7=>
         intro vs hv i D O h1 h2;cases vs with
         |nil=>exact hv.elim
         |cons v0 d8=>
          cases i with
          |zero=>simp at h1 h2;subst h1 h2;exact hv.1
          |succ i=>simp at h1 h2;exact d7 d8 hv.2 i D O h1 h2
       have:=c0 _ _ U i _ _ N G;rcases this.2.2 with⟨e3,_⟩|⟨g3,e6,e7,e3,_⟩
       .grind
       grind
      grind
    .intro b off v hv;have h1:=L.imm b off v hv;rw[<-Z.imm]at h1;exact hw.hsat b off v (hw.hle b off v h1)
    .intro hg;rw[ho]at hg;simp[AD]at hg
    .intro l b hl V M hx;have hl:c.args.toList=l:=by simpa[tT,ho,hc]using hl
     refine hw.frame b V ?_;rintro(I|⟨i,D,O,N,G,t⟩)
     .obtain⟨k,hk,z⟩:=Z.m_ b (by rw[L.m_];exact M) I;obtain⟨x,d9,off,e'⟩:=Me hk;exact hx x (hl▸d9) k (.inr ⟨off,L.ptr x k off e'⟩) z
     .obtain⟨x,W,ow,a4,I,a',y,rfl⟩:=A i D O b N G t;have F:blk (ι W)=some b:=by cases D<;>simp[iL]at t;exact t
      exact hx x (hl▸br a4) W (.inl (L.lst x W (Z.lst x W a'))) F
   unfold bOX at hK;split at hK
   .rename_i v;exact H ι _ _ _ (a9.put o.dst (x:=.at (.val v)) hr) hK J
   .rename_i E sz xs;split at hK
    .rename_i d hd;rw[hd];generalize (j5 υ mv 0 c.args.toList).headD d=kd at hK;refine H (upd ι kd u) _ _ _ (aK.put ?_ (some d) (x:=.at (.lst kd)) (by show _=_;simp)) hK J;refine a9.adopt kd _ u ⟨hr.1,hr.2⟩ (Mk hr.2) (λb e0=>?_);obtain⟨f1,f2,f3⟩:=V b e0;refine⟨⟨?_,f2,f3⟩,?_⟩
     .rcases f1 with f1|f1
      .exact .inl (cj s.wrel.size f1)
      grind
     .intro j o' _ hj a1;have e1:nth (BG υ (j5 υ mv 0 c.args.toList)).own j=some (some o'):=hj;rcases f1 with f1|f1
      .have:=rH (b6.own j o' e1) a1;omega
      grind
    grind
   .rename_i rs;split at hK
    .rename_i l hl;obtain⟨us,rfl,e4⟩:=hr;exact H ι _ _ _ (a9.put o.dst (x:=.tup l) ⟨us,rfl,Iv hl e4⟩) hK J
    grind
  grind
end
end Go.Vc
