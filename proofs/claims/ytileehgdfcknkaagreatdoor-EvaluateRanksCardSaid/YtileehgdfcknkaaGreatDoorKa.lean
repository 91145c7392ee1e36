/-
  Part 1 of a proof that a law of the given program returns true: a condition generator that is proved sound, and contracts of functions. No condition of its own. Own work, joined by a program (pack2.py).
-/
import Derived.Calls
import Derived.CallsIn
import Derived.Orders
import Derived.KernelRfl
import Derived.Laws.AppendOwn
import Derived.Laws.CopyRow
import Derived.Deep.AppendSrc
import Derived.Deep.LoopGhost
import Derived.Laws.StructEq
import Derived.Laws.BytesArg
import Derived.Laws.NewBlocks
import Derived.Great.BuildSlice
import Derived.Laws.MakeOwn
import Derived.Lib.AppendZerosOnto
set_option linter.unusedVariables false
set_option linter.unusedSimpArgs false
namespace Go
theorem aC{p:Prop}(h:p:=by omega):p:=h
end Go
namespace Go.Vc
open Go
abbrev PH:=Nat->Nat->Option Value
abbrev MH:=Nat->Option Obj
structure Sl where
 a:Option Addr
 len:Nat
 cap:Nat
def Sl.val(s:Sl):Value:=.slice s.a s.len s.cap
inductive At where
 |val (v:Value)
 |ptr (k o:Nat)
 |lst (k:Nat)
 |el (k i sz o:Nat)
 |junk
inductive SV where
 |at(x:At)
 |agg (cs:List At)
 |tup (xs:List (Sum At (List At)))
inductive Own where
 |cellsP (p:Option Nat) (T:TypeId) (cs:List At)
 |lst (E:TypeId) (sz:Nat) (xs:List (List Value))
abbrev Own.cells(T:TypeId)(cs:List At):Own:=.cellsP none T cs
structure St where
 sl:List SV
 own:List (Option Own)
 m:MH
 h:PH
inductive CV where
 |val (v:Value)
 |lst (E:TypeId) (sz:Nat) (xs:List (List Value))
 |tup (xs:List CV)
abbrev Spec:=List CV->MH->PH->(CV->MH->PH->Prop)->Prop
structure Z7 where
 X:Type
 enc:X->List Value
inductive wK where
 |normal
 |exit (id:Nat)
 |ret
structure JI where
 A:Type
 st:A->St
 inv:A->Prop
 mu:A->Nat
structure TF where
 A:Type
 st:A->St
 inv:A->Prop
structure qF where
 A:Type
 st:A->St
 frz:Bool:=false
structure Ctx where
 P:Program
 loops2:List (Nat×qF)
 cuts2:List (Nat×qF)
 rcuts:List (Nat×List (Nat×qF))
 heapT:List TypeId
 specs:List (Nat×Spec)
 dec:TypeId->Z7
 loops:List (Nat×JI)
 cuts:List (Nat×TF)
 moves:List (Nat×List Nat)
 retMove:Bool
 yield:Option Spec
 elemT:List TypeId:=[]
def nth{α:Type}:List α->Nat->Option α
 |[],_=>none
 |x::_,0=>some x
 |_::xs,n+1=>nth xs n
def N4:List Nat->Nat->Bool
 |[],_=>false
 |x::r,n=>match Nat.beq x n with|true=>true|false=>N4 r n
def assoc.{u}{α:Type u}:List (Nat×α)->Nat->Option α
 |[],_=>none
 |(k,v)::r,n=>match Nat.beq k n with|true=>some v|false=>assoc r n
def branch(c:Bool)(A B:Prop):Prop:=match c with|true=>A|false=>B
def St.ev(σ:St):Operand->SV
 |.tmp t=>match nth σ.sl t with|some x=>x|none=>.at .junk
 |.const v=>.at (.val v)
 |.global g=>.at (.val (.pointer (some ⟨g,0,none⟩)))
 |.func f=>.at (.val (.func (.func f) #[] #[]))
def St.put(σ:St)(d:Option Tmp)(x:SV):St:=
 match d with
 |some d=>{σ with sl:=σ.sl.set d x}
 |none=>σ
def At.sub(k:Nat)(f:At->At):At->At
 |.val v=>.val v
 |.ptr j o=>match Nat.beq j k with|true=>f (.ptr j o)|false=>.ptr j o
 |.lst j=>match Nat.beq j k with|true=>f (.lst j)|false=>.lst j
 |.el j i sz o=>match Nat.beq j k with|true=>f (.el j i sz o)|false=>.el j i sz o
 |.junk=>.junk
def SV.sub(k:Nat)(f:At->At):SV->SV
 |.at x=>.at (x.sub k f)
 |.agg cs=>.agg (cs.map (At.sub k f))
 |.tup xs=>.tup (xs.map λ |.inl x=>.inl (x.sub k f)|.inr cs=>.inr (cs.map (At.sub k f)))
def Own.sub(k:Nat)(f:At->At):Own->Own
 |.cellsP p T cs=>.cellsP p T (cs.map (At.sub k f))
 |.lst E sz xs=>.lst E sz xs
def St.sub(σ:St)(k:Nat)(f:At->At):St:=
 {σ with sl:=σ.sl.map (SV.sub k f),own:=σ.own.map (Option.map (Own.sub k f))}
def St.kill(σ:St)(k:Nat):St:=
 let τ:=σ.sub k (λ_=>.junk)
 {τ with own:=τ.own.set k none}
def St.setOwn(σ:St)(k:Nat)(o:Option Own):St:={σ with own:=σ.own.set k o}
def At.val? :At->Option Value
 |.val v=>some v
 |_=>none
def qM:List At->Option (List Value)
 |[]=>some []
 |.val v::r=>match qM r with|some l=>some (v::l)|none=>none
 |_::_=>none
def SV.val? :SV->Option Value
 |.at (.val v)=>some v
 |.agg cs=>match qM cs with|some l=>some (.agg l.toArray)|none=>none
 |_=>none
def SV.cells? :SV->Option (List At)
 |.at (.val (.agg cs))=>some (cs.toList.map .val)
 |.at (.val (.tuple _))=>none
 |.at .junk=>none
 |.at x=>some [x]
 |.agg cs=>some cs
 |.tup _=>none
def At.storable:At->Bool
 |.val (.agg _)=>false
 |.val (.tuple _)=>false
 |.junk=>false
 |_=>true
def pO:List At->Bool
 |[]=>true
 |x::r=>match x.storable with|true=>pO r|false=>false
def wO{α:Type}(P:Program):Sem α->Option α
 |.pure a=>some a
 |.program k=>wO P (k P)
 |.mark _ k=>wO P k
 |_=>none
def St.rho(σ:St)(x:Operand):Value:=match(σ.ev x).val? with|some v=>v|none=>undef
def JF(σ:St):List Operand->Bool
 |[]=>true
 |x::r=>match(σ.ev x).val? with|some _=>JF σ r|none=>false
structure bF(h:PH)(b o:Nat)(l:List Value):Prop where
 rd:∀i v,l[i]? =some v->h b (o+i)=some v
inductive aM(m:MH)(h:PH)(b off:Nat)(l:List Value):Prop
 |imm (hr:bF h b off l):aM m h b off l
 |lent (cs:Array Value) (E:TypeId) (fz:Nat×Nat) (hm:m b=some (.cells cs E fz)) (hl:(cs.toList.drop off).take l.length=l):aM m h b off l
structure oX(m:MH)(b:Nat)(o:Obj):Prop where
 at_:m b=some o
structure cM(m:MH)(h:PH)(b:Nat):Prop where
 m_:m b=none
 h_:∀i,h b i=none
def zI(P:Program)(t:TypeId):Bool:=
 match P.underlying t with
 |some (.struct _)=>true
 |some (.array _ _)=>true
 |_=>false
def mk(P:Program)(T:TypeId)(cs:List At):SV:=
 match zI P T with
 |true=>.agg cs
 |false=>match cs with|[x]=>.at x|_=>.at .junk
def sD(C:Ctx)(o:Oper)(σ:St)(K:St->Prop):Prop:=
 match JF σ o.op.operands.toList with
 |true=>match wO C.P (execOp σ.rho o)with
  |some (.value v)=>K (σ.put o.dst (.at (.val v)))
  |_=>False
 |false=>False
def hU(P:Program)(T:TypeId):Bool:=
 match P.underlying T with
 |some _=>match P.cellsOf T with|0=>false|_=>true
 |none=>false
def XG(C:Ctx)(T:TypeId)(R:List Value->Prop)(K:List Value->Prop):Prop:=
 ∃y:(C.dec T).X,R ((C.dec T).enc y)/\
  match Nat.beq ((C.dec T).enc y).length (C.P.cellsOf T)with
  |true=>K ((C.dec T).enc y)
  |false=>False
def RI(C:Ctx)(o:Oper)(T:TypeId)(x:Operand)(σ:St)(K:St->Prop):Prop:=
 match hU C.P T with
 |false=>False
 |true=>
  match σ.ev x with
  |.at (.ptr k off)=>
   match nth σ.own k with
   |some (some (.cellsP _ _ cs))=>
    match Nat.ble (off+C.P.cellsOf T) cs.length with
    |true=>K (σ.put o.dst (mk C.P T ((cs.drop off).take (C.P.cellsOf T))))
    |false=>False
   |_=>False
  |.at (.el k i sz off)=>
   match nth σ.own k with
   |some (some (.lst _ s xs))=>
    match Nat.beq s sz with
    |true=>∃e:List Value,xs[i]? =some e/\XG C T (λl=>(e.drop off).take (C.P.cellsOf T)=l) λl=>K (σ.put o.dst (mk C.P T (l.map .val)))
    |false=>False
   |_=>False
  |.at (.val (.pointer (some ⟨b,off,none⟩)))=>
   XG C T (aM σ.m σ.h b off) λl=>K (σ.put o.dst (mk C.P T (l.map .val)))
  |_=>False
def splice{α:Type}(cs:List α)(off:Nat)(new:List α):List α:=cs.take off++new++cs.drop (off+new.length)
structure fV(m m':MH)(b:Nat)(o:Obj):Prop where
 at_:m' b=some o
 other:∀b',b'≠b->m' b'=m b'
def NK(C:Ctx)(T:TypeId)(x v:Operand)(σ:St)(K:St->Prop):Prop:=
 match(σ.ev v).cells? with
 |none=>False
 |some new=>
 match Nat.beq new.length (C.P.cellsOf T),pO new,hU C.P T with
 |true,true,true=>
  match σ.ev x with
  |.at (.ptr k off)=>
   match nth σ.own k with
   |some (some (.cellsP p E cs))=>
    match Nat.ble (off+new.length) cs.length with
    |true=>K (σ.setOwn k (some (.cellsP p E (splice cs off new))))
    |false=>False
   |_=>False
  |.at (.el k i sz off)=>
   match nth σ.own k,qM new with
   |some (some (.lst E s xs)),some l=>
    match Nat.beq s sz with
    |true=>∃e:List Value,xs[i]? =some e/\off+l.length<=e.length/\
     K (σ.setOwn k (some (.lst E s (xs.set i (splice e off l)))))
    |false=>False
   |_,_=>False
  |.at (.val (.pointer (some ⟨b,off,none⟩)))=>
   match qM new with
   |some l=>∃(cs:Array Value)(E:TypeId),oX σ.m b (.cells cs E (0,0))/\off+l.length<=cs.size/\
    ∀m':MH,fV σ.m m' b (.cells (splice cs.toList off l).toArray E (0,0))->K {σ with m:=m'}
   |none=>False
  |_=>False
 |_,_,_=>False
def Gr(P:Program)(T:TypeId)(f:Nat):Option (Nat×TypeId):=
 match P.underlying T with
 |some (.struct fs)=>match nth fs.toList f with
  |some g=>match Nat.beq (P.cellsOf g.type) 0 with|true=>none|false=>some (g.offset,g.type)
  |none=>none
 |_=>none
def C5(C:Ctx)(o:Oper)(T:TypeId)(x:Operand)(f:Nat)(σ:St)(K:St->Prop):Prop:=
 match Gr C.P T f with
 |none=>False
 |some (g,_)=>
  match σ.ev x with
  |.at (.ptr k off)=>K (σ.put o.dst (.at (.ptr k (off+g))))
  |.at (.el k i sz off)=>K (σ.put o.dst (.at (.el k i sz (off+g))))
  |.at (.val (.pointer (some ⟨b,off,none⟩)))=>K (σ.put o.dst (.at (.val (.pointer (some ⟨b,off+g,none⟩)))))
  |_=>False
def EK(o:Oper)(x:Operand)(σ:St)(K:St->Prop):Prop:=
 match σ.ev x with
 |.at (.ptr k off)=>K (σ.put o.dst (.at (.ptr k off)))
 |.at (.el k i sz off)=>K (σ.put o.dst (.at (.el k i sz off)))
 |.at (.val (.pointer (some a)))=>K (σ.put o.dst (.at (.val (.pointer (some a)))))
 |_=>False
def CX(C:Ctx)(o:Oper)(T:TypeId)(x i:Operand)(σ:St)(K:St->Prop):Prop:=
 match σ.ev i with
 |.at (.val (.int _ n))=>
  match C.P.underlying T with
  |some (.slice E)=>
   match hU C.P E with
   |true=>
    match σ.ev x with
    |.at (.lst k)=>
     match nth σ.own k with
     |some (some (.lst _ sz xs))=>match Nat.beq sz (C.P.cellsOf E)with
      |true=>0<=n/\n<(xs.length:Int)/\K (σ.put o.dst (.at (.el k n.toNat sz 0)))
      |false=>False
     |_=>False
    |.at (.val (.slice a len _))=>
     ∃b off,a=some ⟨b,off,none⟩/\0<=n/\n<(len:Int)/\
      K (σ.put o.dst (.at (.val (.pointer (some ⟨b,off+n.toNat*C.P.cellsOf E,none⟩)))))
    |_=>False
   |false=>False
  |some (.array len E)=>
   match hU C.P E with
   |true=>
    match σ.ev x with
    |.at (.ptr k off)=>0<=n/\n<(len:Int)/\K (σ.put o.dst (.at (.ptr k (off+n.toNat*C.P.cellsOf E))))
    |.at (.val (.pointer (some ⟨b,off,none⟩)))=>0<=n/\n<(len:Int)/\K (σ.put o.dst (.at (.val (.pointer (some ⟨b,off+n.toNat*C.P.cellsOf E,none⟩)))))
    |_=>False
   |false=>False
  |_=>False
 |_=>False
def Uq(o:Oper)(op:BinOp)(x y:Operand)(σ:St)(K:St->Prop):Prop:=
 match σ.ev x,σ.ev y with
 |.at (.val (.int k a)),.at (.val (.int k' b))=>
  match decide (k=k')with
  |true=>
   b≠0/\(match op with
    |.quo=>K (σ.put o.dst (.at (.val (.int k (k.wrap (a.tdiv b))))))
    |.rem=>K (σ.put o.dst (.at (.val (.int k (a.tmod b)))))
    |_=>False)
  |false=>False
 |_,_=>False
def K8(C:Ctx)(o:Oper)(x y:Operand)(σ:St)(K:St->Prop):Prop:=
 match σ.ev x,σ.ev y with
 |.at (.val (.string a)),.at (.val (.string b))=>a.size+b.size<=9223372036854775807/\K (σ.put o.dst (.at (.val (.string (a++b)))))
 |_,_=>sD C o σ K
def RC(o:Oper)(c a b:Operand)(σ:St)(K:St->Prop):Prop:=
 match σ.ev c with
 |.at (.val (.bool t))=>branch t (K (σ.put o.dst (σ.ev a))) (K (σ.put o.dst (σ.ev b)))
 |_=>False
structure cW(h:PH)(s:Sl)(sz:Nat)(xs:List (List Value)):Prop where
 len:s.len=xs.length
 row:xs=[]\/∃b o,s.a=some ⟨b,o,none⟩/\∀i e,xs[i]? =some e->bF h b (o+i*sz) e
 cap:s.len<=s.cap
structure PH.le(h h':PH):Prop where
 le:∀b o v,h b o=some v->h' b o=some v
def qR(σ:St)(K:St->Prop):List Nat->Prop
 |[]=>K σ
 |k::ks=>
  match nth σ.own k with
  |some (some (.lst _ sz xs))=>
   ∀(s:Sl)(h':PH),PH.le σ.h h'->cW h' s sz xs->
    qR {(σ.sub k (λ |.lst _=>.val s.val|_=>.junk)).setOwn k none with h:=h'} K ks
  |_=>False
def Hd:List At->List Nat
 |[]=>[]
 |.lst k::r=>match(Hd r).contains k with|true=>Hd r|false=>k::Hd r
 |_::r=>Hd r
def SV.keys:SV->List Nat
 |.at x=>Hd [x]
 |.agg cs=>Hd cs
 |.tup _=>[]
def zeroCells(P:Program)(T:TypeId):Option (List Value):=
 match P.info? T with
 |some i=>match i.zero with
  |some v=>some v.cells.toList
  |none=>none
 |none=>none
def Ox(C:Ctx)(o:Oper)(T:TypeId)(σ:St)(K:St->Prop):Prop:=
 match o.dst,zeroCells C.P T with
 |some d,some z=>K (((σ.kill d).setOwn d (some (.cells T (z.map .val)))).put (some d) (.at (.ptr d 0)))
 |_,_=>False
def Uu(o:Oper)(T:TypeId)(x:Operand)(σ:St)(K:St->Prop):Prop:=
 match o.dst,(σ.ev x).cells? with
 |some d,some cs=>K (((σ.kill d).setOwn d (some (.cells T (cs.map (At.sub d (λ_=>.junk)))))).put (some d) (.at (.ptr d 0)))
 |_,_=>False
def partAt(P:Program)(T:TypeId)(i:Nat):Option (Nat×Nat):=
 match P.underlying T with
 |some (.struct fs)=>match nth fs.toList i with|some g=>some (g.offset,P.cellsOf g.type)|none=>none
 |some (.array _ E)=>some (i*P.cellsOf E,P.cellsOf E)
 |_=>none
def J8(P:Program)(T:TypeId):Bool:=
 match P.underlying T with
 |some (.struct fs)=>fs.toList.all λf=>(P.info? f.type).isSome
 |some (.array _ E)=>(P.info? E).isSome
 |_=>false
def A5(P:Program)(T:TypeId)(σ:St):List (Nat×Operand)->List At->Option (List At)
 |[],cs=>some cs
 |(i,x)::r,cs=>
  match partAt P T i,(σ.ev x).cells? with
  |some (off,size),some new=>
   match Nat.beq new.length size,Nat.ble (off+new.length) cs.length with
   |true,true=>A5 P T σ r (splice cs off new)
   |_,_=>none
  |_,_=>none
def Ou(C:Ctx)(o:Oper)(T:TypeId)(parts:List (Nat×Operand))(σ:St)(K:St->Prop):Prop:=
 match zeroCells C.P T with
 |some z=>match A5 C.P T σ parts (z.map .val),J8 C.P T with
  |some cs,true=>K (σ.put o.dst (.agg cs))
  |_,_=>False
 |none=>False
def A4(σ:St)(sz:Nat):List (Nat×Operand)->List (List Value)->Option (List (List Value))
 |[],es=>some es
 |(i,x)::r,es=>
  match(σ.ev x).cells? with
  |some cs=>match qM cs with
   |some l=>match Nat.beq l.length sz,Nat.ble (i+1) es.length,pO cs with
    |true,true,true=>A4 σ sz r (es.set i l)
    |_,_,_=>none
   |none=>none
  |none=>none
def CJ(σ:St):List Operand->List Nat
 |[]=>[]
 |x::r=>(σ.ev x).keys++(CJ σ r).filter (λk=> !(σ.ev x).keys.contains k)
def elemOf(P:Program)(T:TypeId):Option (TypeId×List Value):=
 match P.underlying T with
 |some (.slice E)=>match zeroCells P E with
  |some z=>match Nat.beq z.length (P.cellsOf E),Nat.beq (P.cellsOf E) 0,z.all Value.oneCell' with
   |true,false,true=>some (E,z)
   |_,_,_=>none
  |none=>none
 |_=>none
def Ch(C:Ctx)(o:Oper)(T:TypeId)(n:Nat)(parts:List (Nat×Operand))(σ:St)(K:St->Prop):Prop:=
 qR σ (λτ=>
  match o.dst,elemOf C.P T with
  |some d,some (E,z)=>
   match A4 τ (C.P.cellsOf E) parts (List.replicate n z),Nat.ble (n*C.P.cellsOf E) 16777216 with
   |some es,true=>K (((τ.kill d).setOwn d (some (.lst E (C.P.cellsOf E) es))).put (some d) (.at (.lst d)))
   |_,_=>False
  |_,_=>False) (CJ σ (parts.map (·.2)))
structure eV(sz:Nat)(ys:List (List Value)):Prop where
 len:∀e∈ys,e.length=sz
 one:∀e∈ys,∀u∈e,u.oneCell'=true
structure dW(m:MH)(s:Sl)(E:TypeId)(sz:Nat)(xs:List (List Value)):Prop where
 rows:eV sz xs
 ex:(s=⟨none,0,0⟩/\xs=[])\/∃b cap cur,s=⟨some ⟨b,0,none⟩,xs.length,cap⟩/\m b=some (.cells cur E (0,0))/\xs.length<=cap/\cap<=maxLen/\cur.size=cap*sz/\cur.toList.take (xs.length*sz)=xs.flatten
structure nY(m m':MH)(h:PH)(s:Sl)(E:TypeId)(sz:Nat)(xs:List (List Value)):Prop where
 row:dW m' s E sz xs
 other:∀b,(∀i,s.a≠some ⟨b,i,none⟩)->m' b=m b
 fresh:∀b i,s.a=some ⟨b,i,none⟩->cM m h b
def AZ(σ:St)(K:St->Prop):List Nat->Prop
 |[]=>K σ
 |k::ks=>
  match nth σ.own k with
  |some (some (.lst E sz xs))=>
   ∀(s:Sl)(m':MH),nY σ.m m' σ.h s E sz xs->
    AZ {(σ.sub k (λ |.lst _=>.val s.val|_=>.junk)).setOwn k none with m:=m'} K ks
  |_=>False
def CQ(C:Ctx)(o:Oper)(T:TypeId)(l c:Operand)(σ:St)(K:St->Prop):Prop:=
 match o.dst,elemOf C.P T,σ.ev l,σ.ev c with
 |some d,some (E,z),.at (.val (.int _ n)),.at (.val (.int _ m))=>
  0<=n/\n<=m/\m*(C.P.bytesOf E:Int)<=281474976710656/\m<=281474976710656/\
   K (((σ.kill d).setOwn d (some (.lst E (C.P.cellsOf E) (List.replicate n.toNat z)))).put (some d) (.at (.lst d)))
 |_,_,_,_=>False
def iK(s:ByteArray):List (List Value):=s.data.toList.map λb=>[.int .u8 b.toNat]
inductive oW(m:MH)(h:PH)(s:Sl)(sz:Nat)(ys:List (List Value)):Prop
 |imm (hr:cW h s sz ys):oW m h s sz ys
 |lent (b o:Nat) (cs:Array Value) (E:TypeId) (fz:Nat×Nat) (hs:s.a=some ⟨b,o,none⟩) (hn:s.len=ys.length) (hm:m b=some (.cells cs E fz)) (hl:(cs.toList.drop o).take ys.flatten.length=ys.flatten):oW m h s sz ys
def acQ(lent:Bool)(σ:St)(s:Sl)(sz:Nat)(ys:List (List Value)):Prop:=match lent with|true=>oW σ.m σ.h s sz ys|false=>cW σ.h s sz ys
def H9(P:Program)(lent:Bool)(σ:St)(sz:Nat)(tx:TypeId)(y:SV)(K:List (List Value)->Prop):Prop:=
 match y,P.underlying tx with
 |.at (.lst k),some (.slice _)=>match nth σ.own k with
  |some (some (.lst _ s ys))=>match Nat.beq s sz with|true=>K ys|false=>False
  |_=>False
 |.at (.val (.slice a n c)),some (.slice _)=>∃ys:List (List Value),eV sz ys/\acQ lent σ ⟨a,n,c⟩ sz ys/\K ys
 |.at (.val (.string s)),some .string=>match Nat.beq sz 1 with|true=>K (iK s)|false=>False
 |_,_=>False
structure eZ(m m':MH)(s s':Sl)(E:TypeId)(sz:Nat)(zs:List (List Value)):Prop where
 row:dW m' s' E sz zs
 other:∀b o,m b=some o->(∀i,s.a≠some ⟨b,i,none⟩)->m' b=some o
 fresh:∀b i,s'.a=some ⟨b,i,none⟩->m b=none\/∃i,s.a=some ⟨b,i,none⟩
def sameKey(y:SV)(k:Nat):Bool:=match y with|.at (.lst k')=>Nat.beq k' k|_=>false
def TJ(y:SV)(d:Option TypeDesc):Option Int:=
 match d with
 |some (.int _)=>match y with
  |.at (.val (.int _ n))=>some n
  |_=>none
 |_=>none
def L6(C:Ctx):Bool:=match C.heapT with|[]=>false|_=>true
def inM(C:Ctx)(T:TypeId):Bool:=N4 C.heapT (1000+T)
def aiZ(C:Ctx)(T:TypeId):Bool:=N4 C.heapT (3000+T)
def La(C:Ctx)(o:Oper)(T tx:TypeId)(x y:Operand)(σ:St)(K:St->Prop):Prop:=
 match o.dst,elemOf C.P T with
 |some d,some (E,z)=>
  match inM C T,aiZ C T,σ.ev x with
  |false,true,.at (.val (.slice a n c))=>
   c=n/\∃xs:List (List Value),eV (C.P.cellsOf E) xs/\cW σ.h ⟨a,n,c⟩ (C.P.cellsOf E) xs/\
    H9 C.P (L6 C) σ (C.P.cellsOf E) tx (σ.ev y) λys=>
     (a=none\/0<ys.length)/\(xs.length+ys.length)*C.P.bytesOf E<=140737488355328/\xs.length+ys.length<=140737488355328/\
     K (((σ.kill d).setOwn d (some (.lst E (C.P.cellsOf E) (xs++ys)))).put (some d) (.at (.lst d)))
  |true,_,.at (.val (.slice a n c))=>
   ∃xs:List (List Value),dW σ.m ⟨a,n,c⟩ E (C.P.cellsOf E) xs/\
    H9 C.P (L6 C) σ (C.P.cellsOf E) tx (σ.ev y) λys=>
     (xs.length+ys.length)*C.P.bytesOf E<=140737488355328/\xs.length+ys.length<=140737488355328/\
     ∀(s':Sl)(m':MH),eZ σ.m m' ⟨a,n,c⟩ s' E (C.P.cellsOf E) (xs++ys)->K ({σ with m:=m'}.put (some d) (.at (.val s'.val)))
  |_,_,_=>match σ.ev x with
  |.at (.val (.slice none 0 0))=>
   match TJ (σ.ev y) (C.P.underlying tx)with
   |some n=>0<n/\n*(C.P.bytesOf E:Int)<=140737488355328/\n<=140737488355328/\
    K (((σ.kill d).setOwn d (some (.lst E (C.P.cellsOf E) (List.replicate n.toNat z)))).put (some d) (.at (.lst d)))
   |none=>H9 C.P (L6 C) σ (C.P.cellsOf E) tx (σ.ev y) λys=>
    ys.length*C.P.bytesOf E<=140737488355328/\ys.length<=140737488355328/\
    K (((σ.kill d).setOwn d (some (.lst E (C.P.cellsOf E) ys))).put (some d) (.at (.lst d)))
  |.at (.lst k)=>
   match nth σ.own k,sameKey (σ.ev y) k with
   |some (some (.lst E' sz xs)),false=>
    match Nat.beq E' E,Nat.beq sz (C.P.cellsOf E)with
    |true,true=>
     H9 C.P (L6 C) σ sz tx (σ.ev y) λys=>
      (xs.length+ys.length)*C.P.bytesOf E<=140737488355328/\xs.length+ys.length<=140737488355328/\
      K (((σ.kill k).setOwn k (some (.lst E sz (xs++ys)))).put (some d) (.at (.lst k)))
    |_,_=>False
   |_,_=>False
  |.at (.val (.slice a n c))=>
   ∃xs:List (List Value),dW σ.m ⟨a,n,c⟩ E (C.P.cellsOf E) xs/\
    H9 C.P (L6 C) σ (C.P.cellsOf E) tx (σ.ev y) λys=>
     (xs.length+ys.length)*C.P.bytesOf E<=140737488355328/\xs.length+ys.length<=140737488355328/\
     ∀(s':Sl)(m':MH),eZ σ.m m' ⟨a,n,c⟩ s' E (C.P.cellsOf E) (xs++ys)->K ({σ with m:=m'}.put (some d) (.at (.val s'.val)))
  |_=>False
 |_,_=>False
def PG(P:Program)(ts:List TypeId):Bool:=
 match ts with
 |t::_=>match P.underlying t with
  |some (.slice _)=>true
  |_=>false
 |[]=>false
def WL(C:Ctx)(o:Oper)(x:Operand)(ts:List TypeId)(σ:St)(K:St->Prop):Prop:=
 match σ.ev x with
 |.at (.lst k)=>match nth σ.own k,PG C.P ts with
  |some (some (.lst _ _ xs)),true=>K (σ.put o.dst (.at (.val (.int .i64 xs.length))))
  |_,_=>False
 |_=>sD C o σ K
def NN(C:Ctx)(o:Oper)(T:TypeId)(x:Operand)(lo hi mx:Option Operand)(σ:St)(K:St->Prop):Prop:=
 match σ.ev x,lo,hi,mx with
 |.at (.lst k),none,some n,none=>
  match nth σ.own k,σ.ev n,C.P.underlying T with
  |some (some (.lst E sz xs)),.at (.val (.int _ i)),some (.slice E')=>
   match hU C.P E' with
   |true=>0<=i/\i<=(xs.length:Int)/\K (((σ.kill k).setOwn k (some (.lst E sz (xs.take i.toNat)))).put o.dst (.at (.lst k)))
   |false=>False
  |_,_,_=>False
 |.at (.val (.slice a _ c)),none,some n,none=>
  match σ.ev n,C.P.underlying T with
  |.at (.val (.int _ i)),some (.slice E')=>
   match hU C.P E' with
   |true=>0<=i/\i<=(c:Int)/\K (σ.put o.dst (.at (.val (.slice a i.toNat c))))
   |false=>False
  |_,_=>False
 |.at (.val (.slice a _ c)),none,some n,some k=>
  match σ.ev n,σ.ev k,C.P.underlying T with
  |.at (.val (.int _ i)),.at (.val (.int _ j)),some (.slice E')=>
   match hU C.P E' with
   |true=>0<=i/\i<=j/\j<=(c:Int)/\K (σ.put o.dst (.at (.val (.slice a i.toNat j.toNat))))
   |false=>False
  |_,_,_=>False
 |.at (.val (.pointer (some ⟨b,off,none⟩))),none,some n,none=>
  match σ.ev n,C.P.underlying T with
  |.at (.val (.int _ i)),some (.array len E')=>
   match hU C.P E' with
   |true=>0<=i/\i<=(len:Int)/\K (σ.put o.dst (.at (.val (.slice (some ⟨b,off,none⟩) i.toNat len))))
   |false=>False
  |_,_=>False
 |_,_,_,_=>False
def Oh(C:Ctx)(o:Oper)(T:TypeId)(x:Operand)(f:Nat)(σ:St)(K:St->Prop):Prop:=
 match Gr C.P T f,(σ.ev x).cells?,(match σ.ev x with|.agg _=>true|.at (.val (.agg _))=>true|_=>false)with
 |some (g,T'),some cs,true=>
  match Nat.ble (g+C.P.cellsOf T') cs.length&&hU C.P T' with
  |true=>K (σ.put o.dst (mk C.P T' ((cs.drop g).take (C.P.cellsOf T'))))
  |false=>False
 |_,_,_=>False
def Od(P:Program)(E:TypeId)(cs:List At)(n:Int)(K:SV->Prop):Nat->Nat->Prop
 |0,_=>True
 |f+1,i=>branch (n==(i:Int)) (K (mk P E ((cs.drop (i*P.cellsOf E)).take (P.cellsOf E)))) (Od P E cs n K f (i+1))
def Oc(C:Ctx)(o:Oper)(T:TypeId)(x i:Operand)(σ:St)(K:St->Prop):Prop:=
 match σ.ev i,C.P.underlying T with
 |.at (.val (.int _ n)),some (.array len E)=>
  match(σ.ev x).cells? with
  |some cs=>match Nat.beq cs.length (len*C.P.cellsOf E),hU C.P E,(match σ.ev x with|.agg _=>true|.at (.val (.agg _))=>true|_=>false)with
   |true,true,true=>0<=n/\n<(len:Int)/\Od C.P E cs n (λv=>K (σ.put o.dst v)) len 0
   |_,_,_=>False
  |none=>False
 |.at (.val (.int _ n)),some .string=>
  match σ.ev x with
  |.at (.val (.string s))=>0<=n/\∃b,s.data.toList[n.toNat]? =some b/\K (σ.put o.dst (.at (.val (.int .u8 b.toNat))))
  |_=>False
 |_,_=>False
def HL(C:Ctx)(o:Oper)(x:Operand)(i:Nat)(σ:St)(K:St->Prop):Prop:=
 match σ.ev x with
 |.tup xs=>match nth xs i with
  |some (.inl y)=>K (σ.put o.dst (.at y))
  |some (.inr cs)=>K (σ.put o.dst (.agg cs))
  |none=>False
 |_=>sD C o σ K
def bM(bs:List UInt8):List (List Value):=bs.map λb=>[.int .u8 b.toNat]
def HO(C:Ctx)(o:Oper)(src dst:TypeId)(x:Operand)(σ:St)(K:St->Prop):Prop:=
 match σ.ev x with
 |.at (.lst k)=>
  match nth σ.own k,C.P.underlying src,C.P.underlying dst with
  |some (some (.lst _ _ xs)),some (.slice E),some .string=>
   match C.P.underlying E with
   |some (.int .u8)=>∃bs:List UInt8,xs=bM bs/\K (σ.put o.dst (.at (.val (.string ⟨bs.toArray⟩))))
   |_=>False
  |_,_,_=>False
 |_=>sD C o σ K
def mH(σ:St):List Operand->List Nat
 |[]=>[]
 |x::r=>match σ.ev x with
  |.at (.ptr k _)=>match(mH σ r).contains k with|true=>mH σ r|false=>k::mH σ r
  |_=>mH σ r
def CS(σ:St)(K:St->Prop):List Nat->Prop
 |[]=>K σ
 |k::ks=>
  match nth σ.own k with
  |some (some (.cellsP _ T cs))=>
   match qM cs with
   |some l=>
    ∀(b:Nat)(m':MH),cM σ.m σ.h b->fV σ.m m' b (.cells l.toArray T (0,0))->
     CS {(σ.sub k (λ |.ptr _ o=>.val (.pointer (some ⟨b,o,none⟩))|_=>.junk)).setOwn k none with m:=m'} K ks
   |none=>False
  |_=>False
def qC(P:Program)(σ:St)(mv:List Nat):Nat->List Operand->List TypeId->Option (List CV)
 |_,[],_=>some []
 |i,x::r,ts=>
  match qC P σ mv (i+1) r ts.tail with
  |none=>none
  |some rest=>
   match mv.contains i with
   |true=>match σ.ev x with
    |.at (.lst k)=>match nth σ.own k with
     |some (some (.lst E sz xs))=>some (.lst E sz xs::rest)
     |_=>none
    |.at (.val (.slice none 0 0))=>match elemOf P (ts.headD 0)with
     |some (E,_)=>some (.lst E (P.cellsOf E) []::rest)
     |none=>none
    |_=>none
   |false=>match(σ.ev x).val? with
    |some u=>some (.val u::rest)
    |none=>none
def iM(σ:St)(mv:List Nat):Nat->List Operand->List Nat
 |_,[]=>[]
 |i,x::r=>match mv.contains i,σ.ev x with
  |true,.at (.lst k)=>k::iM σ mv (i+1) r
  |_,_=>iM σ mv (i+1) r
def B9(mv:List Nat):Nat->List Operand->List Operand
 |_,[]=>[]
 |i,x::r=>match mv.contains i with
  |true=>B9 mv (i+1) r
  |false=>x::B9 mv (i+1) r
def yI(σ:St):List Nat->St
 |[]=>σ
 |k::ks=>yI (σ.kill k) ks
def Bg:List CV->Option (List (Sum At (List At)))
 |[]=>some []
 |.val v::r=>match Bg r with|some l=>some (.inl (.val v)::l)|none=>none
 |_::_=>none
def ZO(o:Oper)(σ:St)(mks:List Nat)(K:St->Prop)(r:CV)(m:MH)(h:PH):Prop:=
 match r with
 |.val v=>K ({σ with m:=m,h:=h}.put o.dst (.at (.val v)))
 |.lst E sz xs=>match o.dst with
  |some d=>K ((({σ with m:=m,h:=h}.kill (mks.headD d)).setOwn (mks.headD d) (some (.lst E sz xs))).put (some d) (.at (.lst (mks.headD d))))
  |none=>False
 |.tup rs=>match Bg rs with
  |some l=>K ({σ with m:=m,h:=h}.put o.dst (.tup l))
  |none=>False
def G0:List Nat->Bool
 |[]=>true
 |x::r=>match r.contains x with|true=>false|false=>G0 r
def DW(C:Ctx)(f:Nat):List Nat:=match assoc C.moves f with|some l=>l|none=>[]
def Tq(C:Ctx)(o:Oper)(f:FuncId)(args:List Operand)(ts:List TypeId)(σ:St)(K:St->Prop):Prop:=
 match assoc C.specs f with
 |none=>False
 |some S=>
  qR σ (λτ=>CS τ (λυ=>
   match qC C.P υ (DW C f) 0 args ts,G0 (iM υ (DW C f) 0 args)with
   |some cvs,true=>S cvs υ.m υ.h (ZO o (yI υ (iM υ (DW C f) 0 args)) (iM υ (DW C f) 0 args) K)
   |_,_=>False) (mH τ args))
   (CJ σ (B9 (DW C f) 0 args))
structure StructEq(P:Program)(T:TypeId)(x y:Value)(r:Bool):Prop where
 guard:P.eqGuardType P.depth T=false
 eq:∀w,(Op.equalIn 10000 T x y).run P w= .ok r w
def Bi(C:Ctx)(o:Oper)(neg:Bool)(T:TypeId)(x y:Operand)(σ:St)(K:St->Prop):Prop:=
 match(σ.ev x).val?,(σ.ev y).val? with
 |some (.agg xs),some (.agg ys)=>∃r,StructEq C.P T (.agg xs) (.agg ys) r/\K (σ.put o.dst (.at (.val (.bool (match neg with|true=> !r|false=>r)))))
 |_,_=>False
structure AD(m:MH)(b:Nat)(kvs:List (Value×Value)):Prop where
 ex:∃(es:Array MapEntry)(clock:Nat),m b=some (.map es clock)/\es.toList.map (λe=>(e.key,e.val))=kvs
structure KeyLaw(P:Program)(kt:TypeId)(Ok:Value->Prop):Prop where
 under:∃d,P.underlying kt=some d
 check:∀v w b,Ok v->(Instr.checkKey b 10000 kt v).run P w= .ok () w
 eq:∀x y w,Ok x->Ok y->∃r,(Op.equal kt x y).run P w= .ok r w/\(r=true↔x=y)
 now:∀d x y r,P.underlying kt=some d->Ok x->Ok y->Instr.sameNow d x y=some r->(r=true↔x=y)
structure jD(m m':MH)(b:Nat):Prop where
 other:∀b',b'≠b->m' b'=m b'
def G8(o:Oper)(r:Option Operand)(σ:St)(K:St->Prop):Prop:=
 match r with
 |none=>∀(b:Nat)(m':MH),cM σ.m σ.h b->fV σ.m m' b (.map #[] 0)->K ({σ with m:=m'}.put o.dst (.at (.val (.map (some b)))))
 |some _=>False
def Nx(P:Program)(T:TypeId):Option Value:=
 match P.info? T with
 |some i=>match i.zero with
  |some (.int k n)=>some (.int k n)
  |some (.bool b)=>some (.bool b)
  |some (.slice none 0 0)=>some (.slice none 0 0)
  |_=>none
 |none=>none
def only:List Value->Value
 |[u]=>u
 |_=>undef
def Kq(C:Ctx)(o:Oper)(T:TypeId)(x k:Operand)(ok:Bool)(σ:St)(K:St->Prop):Prop:=
 match C.P.underlying T,σ.ev x,(σ.ev k).val? with
 |some (.map kt et),.at (.val (.map (some b))),some kv=>
  match Nx C.P et with
  |some z=>
   ∃(kvs:List (Value×(C.dec et).X))(Ok:Value->Prop),AD σ.m b (kvs.map λp=>(p.1,only ((C.dec et).enc p.2)))/\KeyLaw C.P kt Ok/\Ok kv/\(∀e∈kvs,Ok e.1)/\
    ((∀e∈kvs,e.1≠kv)->K (σ.put o.dst (match ok with|true=>.tup [.inl (.val z),.inl (.val (.bool false))]|false=>.at (.val z))))/\
    ∀y,(kv,y)∈kvs->match(C.dec et).enc y with
     |[u]=>K (σ.put o.dst (match ok with|true=>.tup [.inl (.val u),.inl (.val (.bool true))]|false=>.at (.val u)))
     |_=>False
  |none=>False
 |_,_,_=>False
def Ap(C:Ctx)(T:TypeId)(x k v:Operand)(σ:St)(K:St->Prop):Prop:=
 match C.P.underlying T,σ.ev x,(σ.ev k).val?,(σ.ev v).val? with
 |some (.map kt _),.at (.val (.map (some b))),some kv,some u=>
  ∃(kvs:List (Value×Value))(Ok:Value->Prop),AD σ.m b kvs/\KeyLaw C.P kt Ok/\Ok kv/\(∀e∈kvs,Ok e.1)/\(∀e∈kvs,e.1≠kv)/\
   ∀m':MH,jD σ.m m' b->AD m' b (kvs++[(kv,u)])->K {σ with m:=m'}
 |_,_,_,_=>False
structure kO(m:MH)(b:Nat)(kvs:List (Value×Value)):Prop where
 ex:∃(es:Array MapEntry)(clock:Nat),m b=some (.map es clock)/\es.toList.map (λe=>(e.key,e.val))=kvs/\(∀e∈es.toList,e.born<clock)/\(es.toList.map (·.born)).Nodup
def Ge(C:Ctx)(T:TypeId)(x k v:Operand)(σ:St)(K:St->Prop):Prop:=
 match C.P.underlying T,σ.ev x,(σ.ev k).val?,(σ.ev v).val? with
 |some (.map kt _),.at (.val (.map (some b))),some kv,some u=>
  ∃(kvs:List (Value×Value))(Ok:Value->Prop),kO σ.m b kvs/\KeyLaw C.P kt Ok/\Ok kv/\Instr.sameBits 10000 kv kv=true/\(∀e∈kvs,Ok e.1)/\
   ((∀e∈kvs,e.1≠kv)->∀m':MH,jD σ.m m' b->kO m' b (kvs++[(kv,u)])->K {σ with m:=m'})/\
   ∀(l1:List (Value×Value))(v0:Value)(l2:List (Value×Value)),kvs=l1++(kv,v0)::l2->∀m':MH,jD σ.m m' b->kO m' b (l1++(kv,u)::l2)->K {σ with m:=m'}
 |_,_,_,_=>False
structure lG(m:MH)(b r:Nat)(kvs left:List (Value×Value)):Prop where
 ex:∃(es:Array MapEntry)(clock since:Nat)(seen:Array Nat)(c0:Nat),m b=some (.map es clock)/\es.toList.map (λe=>(e.key,e.val))=kvs/\(∀e∈es.toList,e.born<clock)/\(es.toList.map (·.born)).Nodup/\
  m r=some (.mapIter (some b) since seen c0)/\(∀e∈es.toList,e.born<since)/\since<=c0/\since<=clock/\(es.toList.filter λe=> !seen.contains e.born).map (λe=>(e.key,e.val))=left
structure Ek(m:MH)(b r:Nat)(kvs left:List (Value×Value))(x:Value×Value):Prop where
 it:lG m b r kvs left
 ex:∃(es:Array MapEntry)(clock since:Nat)(seen:Array Nat)(e:MapEntry),m b=some (.map es clock)/\(es.toList.map (·.born)).Nodup/\m r=some (.mapIter (some b) since (seen.push e.born) clock)/\e∈es.toList/\x=(e.key,e.val)
def NS(C:Ctx)(o:Oper)(T:TypeId)(x:Operand)(σ:St)(K:St->Prop):Prop:=
 match C.P.underlying T,σ.ev x with
 |some .string,.at (.val (.string s))=>
  ∀(b:Nat)(m':MH),cM σ.m σ.h b->fV σ.m m' b (.stringIter s 0)->K ({σ with m:=m'}.put o.dst (.at (.val (.pointer (some ⟨b,0,none⟩)))))
 |some (.map _ _),.at (.val (.map (some b)))=>
  ∃kvs:List (Value×Value),kO σ.m b kvs/\∀(r:Nat)(m':MH),cM σ.m σ.h r->jD σ.m m' r->lG m' b r kvs kvs->K ({σ with m:=m'}.put o.dst (.at (.val (.pointer (some ⟨r,0,none⟩)))))
 |_,_=>False
def RF(o:Oper)(x:Operand)(isStr:Bool)(σ:St)(K:St->Prop):Prop:=
 match σ.ev x,isStr with
 |.at (.val (.pointer (some ⟨b,0,none⟩))),true=>
  ∃(s:ByteArray)(pos:Nat),oX σ.m b (.stringIter s pos)/\
   (s.size<=pos->K (σ.put o.dst (.tup [.inl (.val (.bool false))])))/\
   (pos<s.size->∀m':MH,fV σ.m m' b (.stringIter s (pos+(Utf8.decode s pos).2))->
    K ({σ with m:=m'}.put o.dst (.tup [.inl (.val (.bool true)),.inl (.val (.int .i64 pos)),.inl (.val (.int .i32 (Utf8.decode s pos).1))])))
 |.at (.val (.pointer (some ⟨r,0,none⟩))),false=>
  ∃(b:Nat)(kvs left:List (Value×Value)),lG σ.m b r kvs left/\
   (left=[]->K (σ.put o.dst (.tup [.inl (.val (.bool false))])))/\
   ∀(l1:List (Value×Value))(x:Value×Value)(l2:List (Value×Value)),left=l1++x::l2->∀m':MH,jD σ.m m' r->Ek m' b r kvs (l1++l2) x->
    K ({σ with m:=m'}.put o.dst (.tup [.inl (.val (.bool true)),.inl (.val x.1),.inl (.val x.2)]))
 |_,_=>False
def Ol(o:Oper)(x:Operand)(σ:St)(K:St->Prop):Prop:=
 match σ.ev x with
 |.at (.val (.pointer (some ⟨r,0,none⟩)))=>∃(b:Nat)(kvs left:List (Value×Value))(x:Value×Value),Ek σ.m b r kvs left x/\K (σ.put o.dst (.tup [.inl (.val x.1),.inl (.val x.2)]))
 |_=>False
def U1(σ:St)(x v:Operand):List Nat:=match σ.ev x with|.at (.ptr _ _)=>[]|_=>(σ.ev v).keys
def C0(C:Ctx)(o:Oper)(T:TypeId):List Nat:=match o.dst with|some d=>(match N4 C.heapT T||N4 C.heapT (200000+d)with|true=>[d]|false=>[])|none=>[]
def aiX(C:Ctx)(o:Oper)(T:TypeId):Bool:=match C0 C o T with|[]=>false|_=>true
def T3(C:Ctx)(o:Oper)(τ:St):List Nat:=match o.dst with|some d=>(match N4 C.heapT (100000+d)with|true=>(τ.ev (.tmp d)).keys|false=>[])|none=>[]
def LA(C:Ctx)(o:Oper)(σ:St)(K:St->Prop):Prop:=
 match o.op with
 |.move x=>K (σ.put o.dst (σ.ev x))
 |.assign x=>K (σ.put o.dst (σ.ev x))
 |.pick c a b=>RC o c a b σ K
 |.alloc T=>Ox C o T σ (λτ=>CS τ K (C0 C o T))
 |.box T x=>match aiX C o T with
  |true=>qR σ (λτ=>Uu o T x τ (λυ=>CS υ K (C0 C o T))) (σ.ev x).keys
  |false=>Uu o T x σ K
 |.build T ps=>Ou C o T ps.toList σ K
 |.buildSlice T n ps=>Ch C o T n ps.toList σ (λτ=>AZ τ (λυ=>qR υ K (T3 C o υ)) (C0 C o T))
 |.load T x=>RI C o T x σ K
 |.store T x v=>match o.dst with|none=>qR σ (λτ=>NK C T x v τ K) (U1 σ x v)|some _=>False
 |.makeFunc _ _ cs=>CS σ (λτ=>sD C o τ K) (mH σ cs.toList)
 |.nilCheck x=>EK o x σ K
 |.binOp .quo _ x y _=>Uq o .quo x y σ K
 |.binOp .rem _ x y _=>Uq o .rem x y σ K
 |.binOp .eql T x y _=>match zI C.P T with|true=>Bi C o false T x y σ K|false=>sD C o σ K
 |.binOp .neq T x y _=>match zI C.P T with|true=>Bi C o true T x y σ K|false=>sD C o σ K
 |.binOp .add _ x y _=>K8 C o x y σ K
 |.binOp .. =>sD C o σ K
 |.unOp .. =>sD C o σ K
 |.convert s d x=>HO C o s d x σ K
 |.makeSlice T l c=>CQ C o T l c σ (λτ=>AZ τ K (C0 C o (2000+T)))
 |.slice T x lo hi mx=>NN C o T x lo hi mx σ K
 |.fieldAddr T x f=>C5 C o T x f σ K
 |.field T x f=>Oh C o T x f σ K
 |.indexAddr T x i=>CX C o T x i σ K
 |.index T x i=>Oc C o T x i σ K
 |.extract x i=>HL C o x i σ K
 |.makeMap _ r=>G8 o r σ K
 |.lookup T x k ok=>Kq C o T x k ok σ K
 |.mapUpdate T x k v=>match o.dst with|none=>(match N4 C.heapT 400000 with|true=>Ge C T x k v σ K|false=>Ap C T x k v σ K)|some _=>False
 |.range T x=>NS C o T x σ K
 |.next x b=>RF o x b σ K
 |.entry x=>Ol o x σ K
 |.call c=>match c.callee with
  |.builtin .len=>match c.args.toList with
   |[x]=>WL C o x c.argTypes.toList σ K
   |_=>False
  |.builtin .append=>match c.args.toList,c.argTypes.toList with
   |[x,y],[T,tx]=>La C o T tx x y σ (λτ=>qR τ K (T3 C o τ))
   |_,_=>False
  |.builtin .cap=>sD C o σ K
  |.builtin .min=>sD C o σ K
  |.builtin .max=>sD C o σ K
  |.builtin _=>False
  |.value g=>match σ.ev g with
   |.at (.val (.func (.func f) fs cs))=>match fs.toList,cs.toList with
    |[],[]=>Tq C o f c.args.toList c.argTypes.toList σ K
    |_,_=>False
   |_=>False
  |.invoke .. =>False
 |_=>False
def setTmp(σ:St)(c:Operand)(b:Bool):St:=
 match c with
 |.tmp t=>{σ with sl:=σ.sl.set t (.at (.val (.bool b)))}
 |_=>σ
def Ky(f:Oper->St->(St->Prop)->Prop)(ops:Array Oper)(o:Oper)(σ:St)(K:St->Prop):Prop:=
 match o.guard with
 |none=>f o σ K
 |some (j,want)=>
  match nth ops.toList j with
  |none=>False
  |some g=>match g.dst with
   |none=>False
   |some d=>match σ.ev (.tmp d)with
    |.at (.val (.bool t))=>
     branch t
      (match want with|true=>f o (setTmp σ (.tmp d) true) K|false=>K ((setTmp σ (.tmp d) true).put o.dst (.at (.val undef))))
      (match want with|false=>f o (setTmp σ (.tmp d) false) K|true=>K ((setTmp σ (.tmp d) false).put o.dst (.at (.val undef))))
    |.at (.val (.tuple _))=>K (σ.put o.dst (.at (.val undef)))
    |_=>False
def Of(C:Ctx)(ops:Array Oper)(o:Oper)(σ:St)(K:St->Prop):Prop:=Ky (LA C) ops o σ K
structure UM(w:World)(m:MH)(h:PH):Prop where
 hsat:∀b o v,h b o=some v->w.cell? ⟨b,o,none⟩=some v
 msat:∀b o,m b=some o->w.heap[b]? =some o
 disj:∀b o,m b=some o->∀i,h b i=none
structure OL(w:World)(m:MH)(h:PH)(m':MH)(h':PH)(w':World):Prop where
 tape:w'.tape=w.tape
 os:w'.os=w.os
 output:w'.output=w.output
 drawn:w.drawn<=w'.drawn
 size:w.heap.size<=w'.heap.size
 frame:∀b,b<w.heap.size->m b=none->w'.heap[b]? =w.heap[b]?
 heapy:UM w' m' h'
 hle:PH.le h h'
 hold:∀b,b<w.heap.size->m b=none->h' b=h b
 mfr:∀b o,m' b=some o->w.heap.size<=b\/m b≠none
structure HU(P:Program)(S:Spec):Prop where
 go:∀(l:Nat)(vs:List Value)(m:MH)(h:PH)(w:World)(K:CV->MH->PH->Prop),S (.val (.func (.yield l) #[] #[])::vs.map .val) m h K->UM w m h->
  ∃fn tmps assign body,(Instr.yield l vs.toArray).run P w= .ok (.round l fn tmps assign body) w/\
   RoundIn Fence.wide 0 P l fn tmps assign body w λe w'=>∃u m' h',e= .returned u/\K (.val u) m' h'/\OL w m h m' h' w'
def Nz(C:Ctx)(o:Oper)(v:Value)(args:List Operand)(σ:St)(K:St->Prop):Prop:=
 match C.yield with
 |none=>False
 |some S=>
  match qC C.P σ [] 0 args []with
  |some cvs=>HU C.P S/\S (.val v::cvs) σ.m σ.h (λr m h=>match r with
   |.val u=>K ({σ with m:=m,h:=h}.put o.dst (.at (.val u)))
   |_=>False)
  |none=>False
def L0(C:Ctx)(o:Oper)(σ:St)(K:St->Prop):Prop:=
 match o.op with
 |.call c=>match c.callee with
  |.value g=>match σ.ev g with
   |.at (.val (.func (.yield l) fs cs))=>match fs.toList,cs.toList with
    |[],[]=>Nz C o (.func (.yield l) #[] #[]) c.args.toList σ K
    |_,_=>False
   |_=>LA C o σ K
  |_=>LA C o σ K
 |_=>LA C o σ K
def LU(C:Ctx)(ops:Array Oper):List Oper->St->(St->Prop)->Prop
 |[],σ,K=>K σ
 |o::r,σ,K=>Ky (L0 C) ops o σ (λτ=>LU C ops r τ K)
def w9(P:Program)(o:Oper):Bool:=
 match o.op with
 |.load .. =>true
 |.convert src _ _=>match P.underlying src with
  |some (.slice _)=>true
  |_=>false
 |_=>false
def Cb:Op->Bool
 |.move _|.assign _|.pick .. |.build .. |.load .. |.nilCheck _|.unOp .. |.fieldAddr .. |.field .. |.indexAddr .. |.index .. |.extract .. =>true
 |.binOp .. =>true
 |.convert .. =>true
 |.call {callee:=.builtin .len,.. }=>true
 |.call {callee:=.builtin .min,.. }=>true
 |.call {callee:=.builtin .max,.. }=>true
 |_=>false
def DY(ops:Array Oper):List Nat->Option (Nat×Oper)
 |[]=>none
 |i::r=>match nth ops.toList i with
  |some o=>match Cb o.op with|true=>some (i,o)|false=>DY ops r
  |none=>DY ops r
def waits(oj:Oper)(i:Nat):Bool:=oj.after.toList.any λe=>Region.binds .any e&&Nat.beq e.on i
def uZ(σ:St)(oj:Oper)(k:Nat):Bool:=
 (match oj.dst with|some d=>Nat.beq d k|none=>false)||
 match oj.op with
 |.store _ x _=>match σ.ev x with
  |.at (.ptr j _)=>Nat.beq j k
  |_=>false
 |.call c=>match c.callee with
  |.value _=>(mH σ c.args.toList).contains k
  |_=>false
 |_=>false
def vW(ops:Array Oper)(σ:St)(oi:Oper):Bool:=
 match oi.guard with
 |none=>false
 |some (j,want)=>match nth ops.toList j with
  |none=>false
  |some g=>match g.dst with
   |none=>false
   |some d=>match σ.ev (.tmp d)with
    |.at (.val (.bool t))=>match t,want with
     |true,false=>true
     |false,true=>true
     |_,_=>false
    |.at (.val (.tuple _))=>true
    |_=>false
def Yv:Op->Bool
 |.move _=>true
 |_=>false
def akQ(ops:Array Oper)(ok:Oper)(i:Nat):Bool:=
 waits ok i||ops.toList.zipIdx.any λx=>waits ok x.2&&waits x.1 i
def abJ(ops:Array Oper):Bool:=
 let l:=ops.toList
 let n:=l.length
 (List.range n).all λi=>match nth l i with
  |none=>true
  |some oi=>(oi.after.toList.all λe=> !Region.binds .any e||Nat.blt e.on i)&&((List.range n).all λk=>match nth l k with
   |none=>true
   |some ok=>match ok.dst with
    |none=>true
    |some d=>Nat.beq i k|| !(oi.dst==some d))&&
   (((List.range n).all λk=>match nth l k with
   |none=>true
   |some ok=>match ok.dst with
    |none=>true
    |some d=> !(oi.looksAt ops).contains d||waits oi k)||
   (Yv oi.op&&(List.range n).all λk=>match nth l k with
   |none=>true
   |some ok=>match ok.dst with
    |none=>true
    |some d=> !(oi.looksAt ops).contains d||akQ ops ok i))
def xA:Op->Bool
 |.alloc _|.box .. |.buildSlice .. |.makeSlice .. |.makeMap .. |.lookup .. =>true
 |_=>false
def pM(o:Oper):Option (List Operand):=
 match o.op with
 |.call c=>match c.callee with
  |.value _=>some c.args.toList
  |_=>none
 |_=>none
def Ej(σ:St)(k:Nat):List Operand->Bool
 |[]=>true
 |x::r=>(match σ.ev x with
  |.at (.lst j)=>match nth σ.own j with|some (some _)=> !Nat.beq j k|_=>false
  |.at (.ptr j _)=>match nth σ.own j with|some (some _)=> !Nat.beq j k|_=>false
  |_=>true)&&Ej σ k r
def Ow(σ:St)(oj:Oper)(k:Nat):Bool:=
 xA oj.op||match pM oj with|some l=>Ej σ k l|none=>false
def H8(P:Program)(fl:Bool)(σ:St)(oj oi:Oper)(K:Prop):Prop:=
 match w9 P oi with
 |false=>K
 |true=>
  match oi.op with
  |.load T x=>match hU P T with
   |false=>False
   |true=>match σ.ev x,oi.dst with
    |.at (.ptr k off),_=>match nth σ.own k with
     |some (some (.cellsP _ _ cs))=>match uZ σ oj k,Nat.ble (off+P.cellsOf T) cs.length with
      |false,true=>K
      |_,_=>False
     |_=>False
    |.at (.val (.pointer (some ⟨b,o,none⟩))),some d=>match(σ.ev (.tmp d)).cells? with
     |some cs=>match qM cs with
      |some l=>match Nat.beq l.length (P.cellsOf T)with
       |true=>match xA oj.op||fl with
        |true=>aM σ.m σ.h b o l/\K
        |false=>bF σ.h b o l/\K
       |false=>False
      |none=>False
     |none=>False
    |.at (.el k i sz off),some d=>match nth σ.own k,(σ.ev (.tmp d)).cells? with
     |some (some (.lst _ s xs)),some cs=>match qM cs,Nat.beq s sz,Ow σ oj k with
      |some l,true,true=>match Nat.beq l.length (P.cellsOf T)with
       |true=>(∃e:List Value,xs[i]? =some e/\(e.drop off).take (P.cellsOf T)=l)/\K
       |false=>False
      |_,_,_=>False
     |_,_=>False
    |_,_=>False
  |.convert src dst x=>match σ.ev x,oi.dst with
   |.at (.lst k),some d=>match nth σ.own k,σ.ev (.tmp d)with
    |some (some (.lst _ _ xs)),.at (.val (.string s))=>match P.underlying src,P.underlying dst with
     |some (.slice E),some .string=>match P.underlying E with
      |some (.int .u8)=>match Ow σ oj k with
       |true=>xs=iK s/\K
       |false=>False
      |_=>False
     |_,_=>False
    |_,_=>False
   |_,_=>False
  |_=>False
def GO(P:Program)(fl:Bool)(ops:Array Oper)(listed:Array Bool)(σ:St)(oj:Oper):Nat->List Oper->Prop->Prop
 |_,[],K=>K
 |i,oi::r,K=>
  match listed.getD i false,Cb oi.op,waits oj i,vW ops σ oi with
  |true,true,false,false=>H8 P fl σ oj oi (GO P fl ops listed σ oj (i+1) r K)
  |_,_,_,_=>GO P fl ops listed σ oj (i+1) r K
def Fm(σ:St)(oj oi:Oper)(τ:St)(K:Prop):Prop:=
 match oi.op with
 |.load _ x=>match σ.ev x,oi.dst with
  |.at (.val (.pointer (some ⟨b,o,none⟩))),some d=>match(σ.ev (.tmp d)).cells? with
   |some cs=>match qM cs with
    |some l=>match xA oj.op with
     |true=>K
     |false=>aM τ.m τ.h b o l/\K
    |none=>K
   |none=>K
  |_,_=>K
 |_=>K
def Dl(ops:Array Oper)(listed:Array Bool)(σ:St)(oj:Oper)(τ:St):Nat->List Oper->Prop->Prop
 |_,[],K=>K
 |i,oi::r,K=>
  match listed.getD i false,Cb oi.op,waits oj i,vW ops σ oi with
  |true,true,false,false=>Fm σ oj oi τ (Dl ops listed σ oj τ (i+1) r K)
  |_,_,_,_=>Dl ops listed σ oj τ (i+1) r K
def Tu(C:Ctx):Bool:=N4 C.heapT 0
def GI(C:Ctx)(ops:Array Oper)(listed:Array Bool)(σ:St)(oj:Oper)(τ:St)(K:Prop):Prop:=match Tu C with|true=>Dl ops listed σ oj τ 0 ops.toList K|false=>K
def XM(g:Nat->Prop):List Nat->Prop
 |[]=>True
 |[j]=>g j
 |j::r=>g j/\XM g r
def Ay(C:Ctx)(ops:Array Oper):Nat->Array Bool->St->(St->Prop)->Prop
 |0,listed,σ,K=>match Region.ready .any ops listed with|[]=>K σ|_=>False
 |n+1,listed,σ,K=>
  match Region.ready .any ops listed with
  |[]=>K σ
  |rs=>match DY ops rs with
   |some (i,o)=>Of C ops o σ (λτ=>Ay C ops n (listed.setIfInBounds i true) τ K)
   |none=>
    XM (λj=>match nth ops.toList j with
     |some o=>GO C.P (Tu C) ops listed σ o 0 ops.toList (Of C ops o σ (λτ=>GI C ops listed σ o τ (Ay C ops n (listed.setIfInBounds j true) τ K)))
     |none=>False) rs
def jZ:Code->Option Nat
 |.region id _ _=>some id
 |.seq a b=>match jZ a with|some i=>some i|none=>jZ b
 |.cond _ a b=>match jZ a with|some i=>some i|none=>jZ b
 |.block _ a=>jZ a
 |.loop a=>jZ a
 |.scope a=>jZ a
 |_=>none
def Ao:List SV->List SV->Prop->Prop
 |[],[],K=>K
 |x::xs,.at .junk::ys,K=>match x with|_=>Ao xs ys K
 |x::xs,y::ys,K=>x=y/\Ao xs ys K
 |_,_,_=>False
def tK:List (Option Own)->List (Option Own)->Prop->Prop
 |[],[],K=>K
 |_::xs,none::ys,K=>tK xs ys K
 |x::xs,some y::ys,K=>x=some y/\tK xs ys K
 |_,_,_=>False
def Oo(τ:St):List SV->Nat->St->St
 |[],_,σ=>σ
 |y::ys,i,σ=>
  Oo τ ys (i+1) (match y with
   |.at (.lst k)=>match nth σ.sl i with
    |some (.at (.val (.slice none 0 0)))=>match nth τ.own k,nth σ.own k with
     |some (some (.lst E sz _)),some none=>((σ.kill k).setOwn k (some (.lst E sz []))).put (some i) (.at (.lst k))
     |_,_=>σ
    |_=>σ
   |_=>σ)
def EC(σ:St)(q j:Nat)(x:At):St:=
 match nth σ.own q with
 |some (some (.cellsP p T cs))=>σ.setOwn q (some (.cellsP p T (cs.set j x)))
 |_=>σ
def Eg(τ:St)(q:Nat):List At->Nat->St->St
 |[],_,σ=>σ
 |y::ys,j,σ=>
  Eg τ q ys (j+1) (match y with
   |.lst k=>match nth σ.own q with
    |some (some (.cellsP _ _ cs))=>match nth cs j with
     |some (.val (.slice none 0 0))=>match nth τ.own k,nth σ.own k with
      |some (some (.lst E sz _)),some none=>EC ((σ.kill k).setOwn k (some (.lst E sz []))) q j (.lst k)
      |_,_=>σ
     |_=>σ
    |_=>σ
   |_=>σ)
def JE(τ:St):List (Option Own)->Nat->St->St
 |[],_,σ=>σ
 |y::ys,q,σ=>
  JE τ ys (q+1) (match y with
   |some (.cellsP _ _ cs)=>Eg τ q cs 0 σ
   |_=>σ)
def conv(σ τ:St):St:=JE τ τ.own 0 (Oo τ τ.sl 0 σ)
def tI(σ τ:St)(K:Prop):Prop:=
 Ao (conv σ τ).sl τ.sl (tK (conv σ τ).own τ.own ((conv σ τ).m=τ.m/\(conv σ τ).h=τ.h/\K))
structure Fa(m:MH)(h:PH):Prop where
 disj:∀b o,m b=some o->∀i,h b i=none
structure UN(m:MH)(h:PH)(m2:MH)(h2:PH):Prop where
 sub:∀b o,m2 b=some o->m b=some o
 le:PH.le h h2
 new:∀b i v,h2 b i=some v->h b i=some v\/∃cs E fz,m b=some (.cells cs E fz)/\cs[i]? =some v/\m2 b=none
def N5(σ τ:St)(K:Prop):Prop:=
 Ao (conv σ τ).sl τ.sl (tK (conv σ τ).own τ.own (UN (conv σ τ).m (conv σ τ).h τ.m τ.h/\K))
def Fv(c:qF)(R:c.A->Prop)(τ:St):Prop:=match c.frz with
 |false=>∃x,R x/\tI τ (c.st x) True
 |true=>Fa τ.m τ.h->∃x,R x/\N5 τ (c.st x) True
def Oy(c:qF)(I:c.A->Prop)(S:c.A->Prop)(τ:St):Prop:=match c.frz with
 |false=>∃x,I x/\S x/\tI τ (c.st x) True
 |true=>Fa τ.m τ.h->∃x,I x/\S x/\N5 τ (c.st x) True
def qT{α:Type}(d:α)(l:List (Nat×α)):Nat->Nat->List α
 |0,_=>[]
 |n+1,i=>(match assoc l i with|some x=>x|none=>d)::qT d l n (i+1)
def cE(n nown:Nat)(sl:List (Nat×SV))(own:List (Nat×Own))(m:MH)(h:PH):St:=
 {sl:=qT (.at .junk) sl n 0,own:=qT none (own.map λp=>(p.1,some p.2)) nown 0,m:=m,h:=h}
def Us(C:Ctx)(b:Code):Option TF:=match jZ b with|some i=>assoc C.cuts i|none=>none
def adX(C:Ctx)(b:Code):Option JI:=match jZ b with|some i=>assoc C.loops i|none=>none
def K7(C:Ctx)(b:Code):Option qF:=match jZ b with|some i=>assoc C.cuts2 i|none=>none
def Yt(C:Ctx)(b:Code):Option qF:=match jZ b with|some i=>assoc C.loops2 i|none=>none
def TQ(C:Ctx)(ops:Array Oper):List (Nat×qF)->List Oper->St->(St->Prop)->Prop
 |[],l,σ,K=>LU C ops l σ K
 |(n,a)::r,l,σ,K=>∃I:a.A->Prop,LU C ops (l.take n) σ (λτ=>∃x,I x/\tI τ (a.st x) True)/\∀x,I x->TQ C ops r (l.drop n) (a.st x) K
def GR(C:Ctx)(id:Nat):List (Nat×qF):=match assoc C.rcuts id with|some l=>l|none=>[]
def VC(C:Ctx):Code->St->(wK->St->Prop)->Prop
 |.skip,σ,Q=>Q .normal σ
 |.label _,σ,Q=>Q .normal σ
 |.region id ops false,σ,Q=>TQ C ops (GR C id) ops.toList σ (Q .normal)
 |.region _ ops true,σ,Q=>match abJ ops,Region.noSelect ops,C.P.follows .mixedOrders with
  |true,true,true=>Ay C ops ops.size (Array.replicate ops.size false) σ (Q .normal)
  |_,_,_=>False
 |.seq a b,σ,Q=>
  match Us C b with
  |some c=>VC C a σ (λe τ=>match e with
   |.normal=>∃x,c.inv x/\tI τ (c.st x) True
   |e=>Q e τ)/\∀x,c.inv x->VC C b (c.st x) Q
  |none=>match K7 C b with
   |some c=>∃I:c.A->Prop,VC C a σ (λe τ=>match e with
    |.normal=>Fv c I τ
    |e=>Q e τ)/\∀x,I x->VC C b (c.st x) Q
   |none=>VC C a σ (λe τ=>match e with
    |.normal=>VC C b τ Q
    |e=>Q e τ)
 |.cond c x y,σ,Q=>
  match σ.ev c with
  |.at (.val (.bool t))=>branch t (VC C x (setTmp σ c true) Q) (VC C y (setTmp σ c false) Q)
  |_=>False
 |.block id c,σ,Q=>
  VC C c σ (λe τ=>match e with
   |.exit i=>match Nat.beq i id with|true=>Q .normal τ|false=>Q (.exit i) τ
   |e=>Q e τ)
 |.loop c,σ,Q=>
  match adX C c with
  |some l=>
   (∃x,l.inv x/\tI σ (l.st x) True)/\
   ∀x,l.inv x->VC C c (l.st x) (λe τ=>match e with
    |.normal=>∃y,l.inv y/\l.mu y<l.mu x/\tI τ (l.st y) True
    |e=>Q e τ)
  |none=>match Yt C c with
   |some l=>∃(I:l.A->Prop)(mu:l.A->Nat),
    Fv l I σ/\
    ∀x,I x->VC C c (l.st x) (λe τ=>match e with
     |.normal=>Oy l I (λy=>mu y<mu x) τ
     |e=>Q e τ)
   |none=>False
 |.exit id,σ,Q=>Q (.exit id) σ
 |.ret,σ,Q=>Q .ret σ
 |_,_,_=>False
def TT(C:Ctx)(σ:St):ResultVar->Option SV
 |.tmp t=>some (σ.ev (.tmp t))
 |.cell a T=>match σ.ev (.tmp a)with
  |.at (.ptr k off)=>match nth σ.own k with
   |some (some (.cellsP _ _ cs))=>match Nat.ble (off+C.P.cellsOf T) cs.length,hU C.P T with
    |true,true=>some (mk C.P T ((cs.drop off).take (C.P.cellsOf T)))
    |_,_=>none
   |_=>none
  |_=>none
def EF(C:Ctx)(σ:St):List ResultVar->Option (List SV)
 |[]=>some []
 |r::rs=>match TT C σ r,EF C σ rs with
  |some x,some l=>some (x::l)
  |_,_=>none
def TZ:List SV->List Nat
 |[]=>[]
 |x::r=>x.keys++(TZ r).filter (λk=> !x.keys.contains k)
def A6(P:Program)(σ:St)(mv:Bool):List SV->List TypeId->Option (List CV)
 |[],_=>some []
 |x::r,ts=>match A6 P σ mv r ts.tail with
  |none=>none
  |some l=>match mv with
   |true=>match x with
    |.at (.lst k)=>match nth σ.own k with
     |some (some (.lst E sz xs))=>some (.lst E sz xs::l)
     |_=>none
    |.at (.val (.slice none 0 0))=>match elemOf P (ts.headD 0)with
     |some (E,_)=>some (.lst E (P.cellsOf E) []::l)
     |none=>none
    |_=>none
   |false=>match x.val? with
    |some v=>some (.val v::l)
    |none=>none
def Ft:List SV->List Nat
 |[]=>[]
 |.at (.ptr k _)::r=>match(Ft r).contains k with|true=>Ft r|false=>k::Ft r
 |_::r=>Ft r
def AV(C:Ctx)(fn:Func)(K:CV->MH->PH->Prop)(σ:St):Prop:=
 match EF C σ fn.results.toList with
 |none=>False
 |some xs=>
  qR σ (λτ=>CS τ (λυ=>
   match EF C υ fn.results.toList with
   |none=>False
   |some ys=>match A6 C.P υ C.retMove ys fn.resultTypes.toList with
    |some [r]=>K r υ.m υ.h
    |some rs=>match C.retMove with|true=>False|false=>K (.tup rs) υ.m υ.h
    |none=>False) (match C.retMove with|true=>[]|false=>Ft xs)) (match C.retMove with|true=>[]|false=>TZ xs)
def Ef(n:Nat):Nat->List CV->List SV
 |_,[]=>[]
 |i,.val v::r=>.at (.val v)::Ef n (i+1) r
 |i,.lst _ _ _::r=>.at (.lst (n+i))::Ef n (i+1) r
 |i,.tup _::r=>.at .junk::Ef n (i+1) r
def wF:List CV->List (Option Own)
 |[]=>[]
 |.lst E sz xs::r=>some (.lst E sz xs)::wF r
 |_::r=>none::wF r
def entry(n:Nat)(args:List CV)(m:MH)(h:PH):St:=
 {sl:=Ef n 0 args++List.replicate (n-args.length) (.at .junk),own:=List.replicate n none++wF args,m:=m,h:=h}
def zJ(C:Ctx)(fn:Func)(c:Code)(σ:St)(K:CV->MH->PH->Prop):Prop:=
 VC C c σ (λe τ=>match e with
  |.normal=>AV C fn K τ
  |.ret=>AV C fn K τ
  |_=>False)
end Go.Vc
namespace Go.Vc
open Go
theorem iD{α:Type}:∀(l:List α)(i:Nat),nth l i=l[i]?
 |[],i=>by simp[nth]
 |x::xs,0=>by simp[nth]
 |x::xs,n+1=>by simp[nth,iD xs n]
def uX(ι:Nat->Value):At->Value->Prop
 |.val v,u=>u=v
 |.ptr k o,u=>∃b,ι k= .pointer (some ⟨b,0,none⟩)/\u= .pointer (some ⟨b,o,none⟩)
 |.lst k,u=>u=ι k
 |.el k i sz o,u=>∃b n c,ι k= .slice (some ⟨b,0,none⟩) n c/\u= .pointer (some ⟨b,i*sz+o,none⟩)
 |.junk,_=>True
def gJ(ι:Nat->Value):List At->List Value->Prop
 |[],[]=>True
 |x::xs,v::vs=>uX ι x v/\gJ ι xs vs
 |_,_=>False
def Lq(ι:Nat->Value):List (Sum At (List At))->List Value->Prop
 |[],[]=>True
 |.inl x::xs,v::vs=>uX ι x v/\Lq ι xs vs
 |.inr cs::xs,v::vs=>(∃us:Array Value,v= .agg us/\gJ ι cs us.toList)/\Lq ι xs vs
 |_,_=>False
def Den(ι:Nat->Value):SV->Value->Prop
 |.at x,u=>uX ι x u
 |.agg cs,u=>∃us:Array Value,u= .agg us/\gJ ι cs us.toList
 |.tup xs,u=>∃us:Array Value,u= .tuple us/\Lq ι xs us.toList
def DenS(ι:Nat->Value):List SV->List Value->Prop
 |[],[]=>True
 |x::xs,v::vs=>Den ι x v/\DenS ι xs vs
 |_,_=>False
theorem gJ.length{ι:Nat->Value}:∀{cs:List At}{vs:List Value},gJ ι cs vs->cs.length=vs.length
 |[],[],_=>rfl
 |_::_,_::_,h=>by simp[gJ.length h.2]
 |[],_::_,h=>h.elim
 |_::_,[],h=>h.elim
theorem gJ.get{ι:Nat->Value}:∀{cs:List At}{vs:List Value}(_:gJ ι cs vs)(i:Nat)(x:At),cs[i]? =some x->∃v,vs[i]? =some v/\uX ι x v
 |[],[],_,i,x,hx=>by simp at hx
 |_::_,v::_,h,0,x,hx=>by simp at hx;subst hx;exact⟨v,rfl,h.1⟩
 |_::_,_::_,h,i+1,x,hx=>by simp at hx⊢;exact gJ.get h.2 i x hx
 |[],_::_,h,_,_,_=>h.elim
 |_::_,[],h,_,_,_=>h.elim
theorem gJ.take{ι:Nat->Value}:∀{cs:List At}{vs:List Value}(n:Nat),gJ ι cs vs->gJ ι (cs.take n) (vs.take n)
 |_,_,0,_=>by simp[gJ]
 |[],[],n+1,h=>by simp[gJ]
 |_::_,_::_,n+1,h=>by simp only[List.take_succ_cons];exact⟨h.1,h.2.take n⟩
 |[],_::_,_+1,h=>h.elim
 |_::_,[],_+1,h=>h.elim
theorem gJ.drop{ι:Nat->Value}:∀{cs:List At}{vs:List Value}(n:Nat),gJ ι cs vs->gJ ι (cs.drop n) (vs.drop n)
 |_,_,0,h=>by simpa using h
 |[],[],n+1,h=>by simp[gJ]
 |_::_,_::_,n+1,h=>by simp only[List.drop_succ_cons];exact h.2.drop n
 |[],_::_,_+1,h=>h.elim
 |_::_,[],_+1,h=>h.elim
theorem gJ.append{ι:Nat->Value}:∀{cs cs':List At}{vs vs':List Value},gJ ι cs vs->gJ ι cs' vs'->gJ ι (cs++cs') (vs++vs')
 |[],_,[],_,_,h'=>by simpa using h'
 |_::_,_,_::_,_,h,h'=>⟨h.1,h.2.append h'⟩
 |[],_,_::_,_,h,_=>h.elim
 |_::_,_,[],_,h,_=>h.elim
theorem gJ.splice{ι:Nat->Value}{cs new:List At}{vs us:List Value}(off:Nat)(h:gJ ι cs vs)(h':gJ ι new us):
 gJ ι (splice cs off new) (splice vs off us):=by
 unfold Vc.splice;rw[h'.length];exact((h.take off).append h').append (h.drop _)
theorem gJ.set{ι:Nat->Value}:∀{cs:List At}{vs:List Value}(j:Nat){x:At}{v:Value},gJ ι cs vs->uX ι x v->gJ ι (cs.set j x) (vs.set j v)
 |[],[],_,_,_,_,_=>by simp[gJ]
 |_::_,_::_,0,_,_,h,hx=>⟨hx,h.2⟩
 |_::_,_::_,j+1,_,_,h,hx=>⟨h.1,h.2.set j hx⟩
 |[],_::_,_,_,_,h,_=>h.elim
 |_::_,[],_,_,_,h,_=>h.elim
theorem gJ.vals{ι:Nat->Value}:∀{l:List Value}{vs:List Value},gJ ι (l.map .val) vs↔vs=l
 |[],[]=>by simp[gJ]
 |[],_::_=>by simp[gJ]
 |_::_,[]=>by simp[gJ]
 |a::l,v::vs=>by simp only[List.map_cons,gJ,uX,gJ.vals,List.cons.injEq]
theorem AS:∀{cs:List At}{l:List Value},qM cs=some l->cs=l.map .val
 |[],l,h=>by simp[qM]at h;subst h;rfl
 |.val v::r,l,h=>by
  simp only[qM]at h;cases hr:qM r with
  |none=>simp[hr]at h
  |some l'=>simp[hr]at h;subst h;simp[AS hr]
 |.ptr _ _::_,_,h=>by simp[qM]at h
 |.lst _::_,_,h=>by simp[qM]at h
 |.el _ _ _ _::_,_,h=>by simp[qM]at h
 |.junk::_,_,h=>by simp[qM]at h
theorem Den.val?{ι:Nat->Value}{x:SV}{u v:Value}(h:Den ι x u)(hv:x.val? =some v):u=v:=by
 cases x with
 |«at» y=>cases y<;>simp[SV.val?]at hv;subst hv;exact h
 |agg cs=>
  simp only[SV.val?]at hv;cases hc:qM cs with
  |none=>simp[hc]at hv
  |some l=>
   simp[hc]at hv;obtain⟨us,rfl,hd⟩:=h;rw[AS hc,gJ.vals]at hd;subst hv;congr 1;apply Array.toList_inj.1;simpa using hd
 |tup xs=>simp[SV.val?]at hv
theorem DenS.length{ι:Nat->Value}:∀{xs:List SV}{vs:List Value},DenS ι xs vs->xs.length=vs.length
 |[],[],_=>rfl
 |_::_,_::_,h=>by simp[DenS.length h.2]
 |[],_::_,h=>h.elim
 |_::_,[],h=>h.elim
theorem DenS.get{ι:Nat->Value}:∀{xs:List SV}{vs:List Value}(_:DenS ι xs vs)(i:Nat)(x:SV),xs[i]? =some x->∃v,vs[i]? =some v/\Den ι x v
 |[],[],_,i,x,hx=>by simp at hx
 |_::_,v::_,h,0,x,hx=>by simp at hx;subst hx;exact⟨v,rfl,h.1⟩
 |_::_,_::_,h,i+1,x,hx=>by simp at hx⊢;exact DenS.get h.2 i x hx
 |[],_::_,h,_,_,_=>h.elim
 |_::_,[],h,_,_,_=>h.elim
theorem DenS.set{ι:Nat->Value}:∀{xs:List SV}{vs:List Value}(j:Nat){x:SV}{v:Value},DenS ι xs vs->Den ι x v->DenS ι (xs.set j x) (vs.set j v)
 |[],[],_,_,_,_,_=>by simp[DenS]
 |_::_,_::_,0,_,_,h,hx=>⟨hx,h.2⟩
 |_::_,_::_,j+1,_,_,h,hx=>⟨h.1,h.2.set j hx⟩
 |[],_::_,_,_,_,h,_=>h.elim
 |_::_,[],_,_,_,h,_=>h.elim
def upd(ι:Nat->Value)(k:Nat)(u:Value):Nat->Value:=λj=>if j=k then u else ι j
@[simp] theorem upd_same (ι:Nat->Value) (k:Nat) (u:Value):upd ι k u k=u:=by simp[upd]
theorem mN(ι:Nat->Value){k j:Nat}(u:Value)(h:j≠k):upd ι k u j=ι j:=by simp[upd,h]
def At.key:At->Option Nat
 |.ptr k _=>some k
 |.lst k=>some k
 |.el k _ _ _=>some k
 |_=>none
theorem uX.sub{ι:Nat->Value}{k:Nat}{u:Value}{f:At->At}(hf:∀x v,x.key=some k->uX ι x v->uX (upd ι k u) (f x) v){x:At}{v:Value}(h:uX ι x v):
 uX (upd ι k u) (x.sub k f) v:=by
 cases x with
 |val w=>exact h
 |junk=>trivial
 |ptr j o=>
  simp only[At.sub];split
  .rename_i hb;exact hf _ _ (by simp only[At.key,Option.some.injEq];exact Nat.eq_of_beq_eq_true hb) h
  .rename_i hb;have hne:j≠k:=λe=>by subst e;simp at hb
   obtain⟨b,h1,h2⟩:=h;exact⟨b,by rw[mN _ _ hne];exact h1,h2⟩
 |lst j=>
  simp only[At.sub];split
  .rename_i hb;exact hf _ _ (by simp only[At.key,Option.some.injEq];exact Nat.eq_of_beq_eq_true hb) h
  .rename_i hb;have hne:j≠k:=λe=>by subst e;simp at hb
   simp only[uX]at h⊢
   rw[mN _ _ hne];exact h
 |el j i sz o=>
  simp only[At.sub];split
  .rename_i hb;exact hf _ _ (by simp only[At.key,Option.some.injEq];exact Nat.eq_of_beq_eq_true hb) h
  .rename_i hb;have hne:j≠k:=λe=>by subst e;simp at hb
   obtain⟨b,n,c,h1,h2⟩:=h;exact⟨b,n,c,by rw[mN _ _ hne];exact h1,h2⟩
theorem gJ.sub{ι:Nat->Value}{k:Nat}{u:Value}{f:At->At}(hf:∀x v,x.key=some k->uX ι x v->uX (upd ι k u) (f x) v):∀{cs:List At}{vs:List Value},gJ ι cs vs->
 gJ (upd ι k u) (cs.map (At.sub k f)) vs
 |[],[],_=>trivial
 |_::_,_::_,h=>⟨uX.sub hf h.1,gJ.sub hf h.2⟩
 |[],_::_,h=>h.elim
 |_::_,[],h=>h.elim
theorem Lq.sub{ι:Nat->Value}{k:Nat}{u:Value}{f:At->At}(hf:∀x v,x.key=some k->uX ι x v->uX (upd ι k u) (f x) v):∀{cs:List (Sum At (List At))}{vs:List Value},Lq ι cs vs->
 Lq (upd ι k u) (cs.map λ |.inl x=>.inl (x.sub k f)|.inr cs=>.inr (cs.map (At.sub k f))) vs
 |[],[],_=>trivial
 |.inl _::_,_::_,h=>⟨uX.sub hf h.1,Lq.sub hf h.2⟩
 |.inr _::_,_::_,h=>⟨let⟨us,e,hd⟩:=h.1;⟨us,e,gJ.sub hf hd⟩,Lq.sub hf h.2⟩
 |[],_::_,h=>h.elim
 |.inl _::_,[],h=>h.elim
 |.inr _::_,[],h=>h.elim
theorem Den.sub{ι:Nat->Value}{k:Nat}{u:Value}{f:At->At}(hf:∀x v,x.key=some k->uX ι x v->uX (upd ι k u) (f x) v){x:SV}{v:Value}(h:Den ι x v):
 Den (upd ι k u) (x.sub k f) v:=by
 cases x with
 |«at» y=>exact uX.sub hf h
 |agg cs=>obtain⟨us,e,hd⟩:=h;exact⟨us,e,gJ.sub hf hd⟩
 |tup xs=>obtain⟨us,e,hd⟩:=h;exact⟨us,e,Lq.sub hf hd⟩
theorem DenS.sub{ι:Nat->Value}{k:Nat}{u:Value}{f:At->At}(hf:∀x v,x.key=some k->uX ι x v->uX (upd ι k u) (f x) v):∀{xs:List SV}{vs:List Value},DenS ι xs vs->
 DenS (upd ι k u) (xs.map (SV.sub k f)) vs
 |[],[],_=>trivial
 |_::_,_::_,h=>⟨Den.sub hf h.1,DenS.sub hf h.2⟩
 |[],_::_,h=>h.elim
 |_::_,[],h=>h.elim
structure nS where
 w0:World
 E:Nat->Prop
 h0:PH
 dfs:List Deferred
def blk:Value->Option Nat
 |.pointer (some a)=>some a.block
 |.slice (some a) _ _=>some a.block
 |_=>none
def Bd(ι:Nat->Value)(w:World)(v:Value):Own->Prop
 |.cellsP p T cs=>∃b vs,v= .pointer (some ⟨b,0,none⟩)/\w.heap[b]? =some (.cells vs T (0,0))/\gJ ι cs vs.toList/\∀q,p=some q->b=q
 |.lst E sz xs=>eV sz xs/\w.ownsRow 0 E sz v xs.length xs.flatten
structure tR(B:nS)(m:MH)(h:PH)(w:World):Prop where
 tape:w.tape=B.w0.tape
 os:w.os=B.w0.os
 output:w.output=B.w0.output
 drawn:B.w0.drawn<=w.drawn
 size:B.w0.heap.size<=w.heap.size
 frame:∀b,b<B.w0.heap.size->¬B.E b->w.heap[b]? =B.w0.heap[b]?
 hsat:∀b o v,h b o=some v->w.cell? ⟨b,o,none⟩=some v
 msat:∀b o,m b=some o->w.heap[b]? =some o
 disj:∀b o,m b=some o->∀i,h b i=none
 hle:∀b o v,B.h0 b o=some v->h b o=some v
 hold:∀b,b<B.w0.heap.size->¬B.E b->h b=B.h0 b
 mfr:∀b o,m b=some o->B.w0.heap.size<=b\/B.E b
structure aI(B:nS)(ι:Nat->Value)(σ:St)(a:Act)(w:World):Prop where
 slots:DenS ι σ.sl a.tmps.toList
 defers:a.defers=B.dfs
 own:∀k o,nth σ.own k=some (some o)->Bd ι w (ι k) o
 dist:∀k k' o o' b,nth σ.own k=some (some o)->nth σ.own k'=some (some o')->blk (ι k)=some b->blk (ι k')=some b->k=k'
 fresh:∀k o b,nth σ.own k=some (some o)->blk (ι k)=some b->(B.w0.heap.size<=b\/B.E b)/\σ.m b=none/\∀i,σ.h b i=none
 wrel:tR B σ.m σ.h w
 one:∀k,(ι k).oneCell'=true
theorem u7{α:Type}(l:List α)(k j:Nat)(x:α):nth (l.set k x) j=if j=k/\k<l.length then some x else nth l j:=by
 rw[iD,iD,List.getElem?_set];by_cases h:k=j
 .subst h;by_cases h':k<l.length
  .simp[h']
  .simp[h']
 .have h2:¬(j=k/\k<l.length):=λe=>h e.1.symm;simp[h,h2]
theorem xG{α β:Type}(f:α->β)(l:List α)(j:Nat):nth (l.map f) j=(nth l j).map f:=by
 rw[iD,iD,List.getElem?_map]
theorem Act.toList_put(a:Act)(d:Nat)(v:Value):(a.put (some d) v).tmps.toList=a.tmps.toList.set d v:=by
 simp[Act.put]
theorem aI.put{B:nS}{ι:Nat->Value}{σ:St}{a:Act}{w:World}(h:aI B ι σ a w)(d:Option Tmp){x:SV}{v:Value}(hx:Den ι x v):
 aI B ι (σ.put d x) (a.put d v) w:=by
 cases d with
 |none=>exact h
 |some d=>
  refine⟨?_,h.defers,h.own,h.dist,h.fresh,h.wrel,h.one⟩;rw[Act.toList_put];exact h.slots.set d hx
theorem aI.ev{B:nS}{ι:Nat->Value}{σ:St}{a:Act}{w:World}(h:aI B ι σ a w)(x:Operand):Den ι (σ.ev x) (a.eval x):=by
 cases x with
 |const v=>rfl
 |global g=>rfl
 |func f=>rfl
 |tmp t=>
  simp only[St.ev,iD];cases hx:σ.sl[t]? with
  |none=>exact trivial
  |some x=>
   obtain⟨v,hv,hd⟩:=h.slots.get t x hx
   have:a.eval (.tmp t)=v:=by
    simp only[Act.eval,Array.getD_eq_getD_getElem?];rw[<-Array.getElem?_toList,hv];rfl
   rw[this];exact hd
theorem aI.rho{B:nS}{ι:Nat->Value}{σ:St}{a:Act}{w:World}(h:aI B ι σ a w){x:Operand}{v:Value}(hx:(σ.ev x).val? =some v):
 a.eval x=v:=(h.ev x).val? hx
theorem nQ{ι:Nat->Value}{w:World}{v:Value}{o:Own}{b:Nat}(h:Bd ι w v o)(hb:blk v=some b):b<w.heap.size:=by
 cases o with
 |cellsP p T cs=>
  obtain⟨b',vs,rfl,hh,_⟩:=h;simp[blk]at hb;subst hb;exact(Array.getElem?_eq_some_iff.1 hh).1
 |lst E sz xs=>
  rcases h.2.2 with⟨rfl,_⟩|⟨b',cap,cur,rfl,_,hh,_⟩
  .simp[blk]at hb
  .simp[blk]at hb;subst hb;exact(Array.getElem?_eq_some_iff.1 hh).1
theorem Bd.world{ι:Nat->Value}{w w':World}{v:Value}{o:Own}(h:Bd ι w v o)(hw:∀b,blk v=some b->w'.heap[b]? =w.heap[b]?):Bd ι w' v o:=by
 cases o with
 |cellsP p T cs=>
  obtain⟨b',vs,rfl,hh,hd⟩:=h;exact⟨b',vs,rfl,by rw[hw _ rfl];exact hh,hd⟩
 |lst E sz xs=>
  refine⟨h.1,h.2.1,?_⟩;rcases h.2.2 with⟨rfl,hx⟩|⟨b',cap,cur,rfl,h0,hh,hr⟩
  .exact .inl ⟨rfl,hx⟩
  .exact .inr ⟨b',cap,cur,rfl,h0,by rw[hw _ rfl];exact hh,hr⟩
theorem Bd.sub{ι:Nat->Value}{w:World}{v:Value}{o:Own}{k:Nat}{u:Value}{f:At->At}(hf:∀x v,x.key=some k->uX ι x v->uX (upd ι k u) (f x) v)(h:Bd ι w v o):
 Bd (upd ι k u) w v (o.sub k f):=by
 cases o with
 |cellsP p T cs=>
  obtain⟨b',vs,rfl,hh,hd,hp⟩:=h;exact⟨b',vs,rfl,hh,gJ.sub hf hd,hp⟩
 |lst E sz xs=>exact h
theorem nC{σ:St}{k j:Nat}{f:At->At}{o':Own}(h:nth ((σ.sub k f).setOwn k none).own j=some (some o')):
 j≠k/\∃o,nth σ.own j=some (some o)/\o'=o.sub k f:=by
 simp only[St.setOwn,St.sub,u7,xG]at h;by_cases hj:j=k
 .subst hj;by_cases hk:j<σ.own.length
  .simp[hk]at h
  .simp[hk,iD]at h
 .simp only[hj,false_and,if_false]at h;refine⟨hj,?_⟩;cases hn:nth σ.own j with
  |none=>simp[hn]at h
  |some x=>
   cases x with
   |none=>simp[hn]at h
   |some o=>simp[hn]at h;exact⟨o,rfl,h.symm⟩
theorem NC{ι:Nat->Value}(h:∀k,(ι k).oneCell'=true)(k:Nat){u:Value}(hu:u.oneCell'=true):∀j,(upd ι k u j).oneCell'=true:=by
 intro j;unfold upd;split
 .exact hu
 .exact h j
theorem aI.drop{B:nS}{ι:Nat->Value}{σ:St}{a:Act}{w:World}(h:aI B ι σ a w)(k:Nat)(u:Value)(hu:u.oneCell'=true)(f:At->At)
 (hf:∀x v,x.key=some k->uX ι x v->uX (upd ι k u) (f x) v):aI B (upd ι k u) ((σ.sub k f).setOwn k none) a w:=by
 refine⟨DenS.sub hf h.slots,h.defers,?_,?_,?_,h.wrel,NC h.one k hu⟩
 .intro j o' hj;obtain⟨hne,o,ho,rfl⟩:=nC hj;rw[mN _ _ hne];exact(h.own j o ho).sub hf
 .intro j j' o o' b hj hj' hb hb';obtain⟨hne,o,ho,rfl⟩:=nC hj;obtain⟨hne',o',ho',rfl⟩:=nC hj';rw[mN _ _ hne]at hb;rw[mN _ _ hne']at hb';exact h.dist j j' _ _ b ho ho' hb hb'
 .intro j o b hj hb;obtain⟨hne,o,ho,rfl⟩:=nC hj;rw[mN _ _ hne]at hb;exact h.fresh j o b ho hb
theorem Jz(σ:St)(k:Nat):σ.kill k=(σ.sub k (λ_=>.junk)).setOwn k none:=rfl
theorem aI.kill{B:nS}{ι:Nat->Value}{σ:St}{a:Act}{w:World}(h:aI B ι σ a w)(k:Nat)(u:Value)(hu:u.oneCell'=true):aI B (upd ι k u) (σ.kill k) a w:=
 h.drop k u hu _ (λ_ _ _ _=>trivial)
structure A8(S:Nat->Prop)(w w':World):Prop where
 tape:w'.tape=w.tape
 os:w'.os=w.os
 output:w'.output=w.output
 drawn:w.drawn<=w'.drawn
 size:w.heap.size<=w'.heap.size
 block:∀b,b<w.heap.size->¬S b->w'.heap[b]? =w.heap[b]?
theorem A8.refl(S:Nat->Prop)(w:World):A8 S w w:=⟨rfl,rfl,rfl,Nat.le_refl _,Nat.le_refl _,λ_ _ _=>rfl⟩
theorem tR.ext{B:nS}{m:MH}{h:PH}{w w':World}{S:Nat->Prop}(hr:tR B m h w)(he:A8 S w w')(hS:∀b,S b->(B.w0.heap.size<=b\/B.E b)/\m b=none/\∀i,h b i=none):
 tR B m h w':=by
 refine⟨he.tape.trans hr.tape,he.os.trans hr.os,he.output.trans hr.output,Nat.le_trans hr.drawn he.drawn,Nat.le_trans hr.size he.size,?_,?_,?_,hr.disj,hr.hle,hr.hold,hr.mfr⟩
 .intro b hb hE;rw[he.block b (Nat.lt_of_lt_of_le hb hr.size) (λhs=>?_)]
  .exact hr.frame b hb hE
  .rcases(hS b hs).1 with h1|h1
   .omega
   .exact hE h1
 .intro b o v hv;have h1:=hr.hsat b o v hv
  have hlt:b<w.heap.size:=by
   unfold World.cell? at h1;dsimp only at h1;rcases Nat.lt_or_ge b w.heap.size with hlt|hge
   .exact hlt
   .simp[Array.getElem?_eq_none hge]at h1
  have h2:=he.block b hlt (λhs=>by have:=(hS b hs).2.2 o;rw[hv]at this;cases this);unfold World.cell? at h1⊢
  dsimp only at h1⊢
  rw[h2];exact h1
 .intro b o ho;have h1:=hr.msat b o ho;have hlt:=(Array.getElem?_eq_some_iff.1 h1).1;rw[he.block b hlt (λhs=>by have:=(hS b hs).2.1;rw[ho]at this;cases this)];exact h1
theorem aI.place{B:nS}{ι:Nat->Value}{σ:St}{a:Act}{w w':World}(h:aI B ι σ a w)(k:Nat)(o:Own)(v:Value)
 (he:A8 (λb=>(∃o',nth σ.own k=some (some o'))/\blk (ι k)=some b) w w')
 (ho:Bd (upd ι k v) w' v o)(hone:v.oneCell'=true)
 (hb:∀b,blk v=some b->w.heap.size<=b\/((∃o',nth σ.own k=some (some o'))/\blk (ι k)=some b)):
 aI B (upd ι k v) ((σ.kill k).setOwn k (some o)) a w':=by
 have hS:∀b,((∃o',nth σ.own k=some (some o'))/\blk (ι k)=some b)->(B.w0.heap.size<=b\/B.E b)/\σ.m b=none/\∀i,σ.h b i=none:=
  λb⟨⟨o',ho'⟩,hk⟩=>h.fresh k o' b ho' hk
 have hwr:=h.wrel.ext he hS
 have hnew:∀b,blk v=some b->(B.w0.heap.size<=b\/B.E b)/\σ.m b=none/\∀i,σ.h b i=none:=by
  intro b hv;rcases hb b hv with hge|hold
  .refine⟨.inl (Nat.le_trans h.wrel.size hge),?_,?_⟩
   .cases hm:σ.m b with
    |none=>rfl
    |some ob=>have:=(Array.getElem?_eq_some_iff.1 (h.wrel.msat b ob hm)).1;omega
   .intro i;cases hh:σ.h b i with
    |none=>rfl
    |some u=>
     have h1:=h.wrel.hsat b i u hh;unfold World.cell? at h1;simp[Array.getElem?_eq_none hge]at h1
  .exact hS b hold
 have cases_own:∀j o',nth ((σ.kill k).setOwn k (some o)).own j=some (some o')->
  (j=k/\o'=o)\/(j≠k/\∃o1,nth σ.own j=some (some o1)/\o'=o1.sub k (λ_=>.junk)):=by
  intro j o' hj;simp only[Jz,St.setOwn,St.sub,u7,xG,List.length_set,List.length_map]at hj;by_cases hjk:j=k
  .subst hjk;by_cases hlt:j<σ.own.length
   .simp[hlt]at hj;exact .inl ⟨rfl,hj.symm⟩
   .simp[hlt,iD]at hj
  .simp only[hjk,false_and,if_false]at hj;refine .inr ⟨hjk,?_⟩;cases hn:nth σ.own j with
   |none=>simp[hn]at hj
   |some x=>
    cases x with
    |none=>simp[hn]at hj
    |some o1=>simp[hn]at hj;exact⟨o1,rfl,hj.symm⟩
 have other:∀j o1,j≠k->nth σ.own j=some (some o1)->∀b,blk (ι j)=some b->blk v≠some b/\w'.heap[b]? =w.heap[b]? :=by
  intro j o1 hjk ho1 b hbj;have hlt:=nQ (h.own j o1 ho1) hbj;have hnotS:¬((∃o',nth σ.own k=some (some o'))/\blk (ι k)=some b):=λ⟨⟨o',ho'⟩,hk⟩=>hjk (h.dist j k o1 o' b ho1 ho' hbj hk);refine⟨λhv=>?_,he.block b hlt hnotS⟩;rcases hb b hv with hge|hold
  .omega
  .exact hnotS hold
 refine⟨DenS.sub (f:=λ_=>.junk) (λ_ _ _ _=>trivial) h.slots,h.defers,?_,?_,?_,hwr,NC h.one k hone⟩
 .intro j o' hj;rcases cases_own j o' hj with⟨rfl,rfl⟩|⟨hjk,o1,ho1,rfl⟩
  .rw[upd_same];exact ho
  .rw[mN _ _ hjk];refine Bd.world ((h.own j o1 ho1).sub (f:=λ_=>.junk) (λ_ _ _ _=>trivial)) (λb hbj=>(other j o1 hjk ho1 b hbj).2)
 .intro j j' o1 o2 b hj hj' hbj hbj';rcases cases_own j o1 hj with⟨rfl,rfl⟩|⟨hjk,o1',ho1,rfl⟩<;>rcases cases_own j' o2 hj' with⟨rfl,rfl⟩|⟨hjk',o2',ho2,rfl⟩
  .rfl
  .rw[upd_same]at hbj;rw[mN _ _ hjk']at hbj';exact absurd hbj (other j' o2' hjk' ho2 b hbj').1
  .rw[upd_same]at hbj';rw[mN _ _ hjk]at hbj;exact absurd hbj' (other j o1' hjk ho1 b hbj).1
  .rw[mN _ _ hjk]at hbj;rw[mN _ _ hjk']at hbj';exact h.dist j j' _ _ b ho1 ho2 hbj hbj'
 .intro j o1 b hj hbj;rcases cases_own j o1 hj with⟨rfl,rfl⟩|⟨hjk,o1',ho1,rfl⟩
  .rw[upd_same]at hbj;exact hnew b hbj
  .rw[mN _ _ hjk]at hbj;exact h.fresh j o1' b ho1 hbj
theorem aI.adopt{B:nS}{ι:Nat->Value}{σ:St}{a:Act}{w:World}(h:aI B ι σ a w)(k:Nat)(o:Own)(v:Value)
 (ho:Bd (upd ι k v) w v o)(hone:v.oneCell'=true)
 (hb:∀b,blk v=some b->((B.w0.heap.size<=b\/B.E b)/\σ.m b=none/\∀i,σ.h b i=none)/\∀j o',j≠k->nth σ.own j=some (some o')->blk (ι j)≠some b):
 aI B (upd ι k v) ((σ.kill k).setOwn k (some o)) a w:=by
 have cases_own:∀j o',nth ((σ.kill k).setOwn k (some o)).own j=some (some o')->
  (j=k/\o'=o)\/(j≠k/\∃o1,nth σ.own j=some (some o1)/\o'=o1.sub k (λ_=>.junk)):=by
  intro j o' hj;simp only[Jz,St.setOwn,St.sub,u7,xG,List.length_set,List.length_map]at hj;by_cases hjk:j=k
  .subst hjk;by_cases hlt:j<σ.own.length
   .simp[hlt]at hj;exact .inl ⟨rfl,hj.symm⟩
   .simp[hlt,iD]at hj
  .simp only[hjk,false_and,if_false]at hj;refine .inr ⟨hjk,?_⟩;cases hn:nth σ.own j with
   |none=>simp[hn]at hj
   |some x=>
    cases x with
    |none=>simp[hn]at hj
    |some o1=>simp[hn]at hj;exact⟨o1,rfl,hj.symm⟩
 refine⟨DenS.sub (f:=λ_=>.junk) (λ_ _ _ _=>trivial) h.slots,h.defers,?_,?_,?_,h.wrel,NC h.one k hone⟩
 .intro j o' hj;rcases cases_own j o' hj with⟨rfl,rfl⟩|⟨hjk,o1,ho1,rfl⟩
  .rw[upd_same];exact ho
  .rw[mN _ _ hjk];exact(h.own j o1 ho1).sub (f:=λ_=>.junk) (λ_ _ _ _=>trivial)
 .intro j j' o1 o2 b hj hj' hbj hbj';rcases cases_own j o1 hj with⟨rfl,rfl⟩|⟨hjk,o1',ho1,rfl⟩<;>rcases cases_own j' o2 hj' with⟨rfl,rfl⟩|⟨hjk',o2',ho2,rfl⟩
  .rfl
  .rw[upd_same]at hbj;rw[mN _ _ hjk']at hbj';exact absurd hbj' ((hb b hbj).2 j' _ hjk' ho2)
  .rw[upd_same]at hbj';rw[mN _ _ hjk]at hbj;exact absurd hbj ((hb b hbj').2 j _ hjk ho1)
  .rw[mN _ _ hjk]at hbj;rw[mN _ _ hjk']at hbj';exact h.dist j j' _ _ b ho1 ho2 hbj hbj'
 .intro j o1 b hj hbj;rcases cases_own j o1 hj with⟨rfl,rfl⟩|⟨hjk,o1',ho1,rfl⟩
  .rw[upd_same]at hbj;exact(hb b hbj).1
  .rw[mN _ _ hjk]at hbj;exact h.fresh j o1' b ho1 hbj
theorem Fe(ι:Nat->Value)(k:Nat):upd ι k (ι k)=ι:=by
 funext j;unfold upd;split
 .rename_i h;rw[h]
 .rfl
structure Fz(σ σ':St):Prop where
 cells:∀k p T cs,nth σ.own k=some (some (.cellsP p T cs))->∃cs',nth σ'.own k=some (some (.cellsP p T cs'))
 imm:∀b off v,σ.h b off=some v->σ'.h b off=some v
 ptr:∀x k off,σ'.ev x= .at (.ptr k off)->σ.ev x= .at (.ptr k off)
 lst:∀x k,σ'.ev x= .at (.lst k)->σ.ev x= .at (.lst k)
 m_:σ'.m=σ.m
theorem Fz.refl(σ:St):Fz σ σ:=⟨λ_ _ _ cs h=>⟨cs,h⟩,λ_ _ _ h=>h,λ_ _ _ h=>h,λ_ _ h=>h,rfl⟩
theorem Fz.trans{σ τ υ:St}(h:Fz σ τ)(h':Fz τ υ):Fz σ υ:=
 ⟨λk p T cs hk=>let⟨cs',hk'⟩:=h.cells k p T cs hk;h'.cells k p T cs' hk',λb o v hv=>h'.imm b o v (h.imm b o v hv),λx k o hx=>h.ptr x k o (h'.ptr x k o hx),λx k hx=>h.lst x k (h'.lst x k hx),h'.m_.trans h.m_⟩
theorem Tj(σ:St)(k:Nat)(f:At->At)(m:MH)(h:PH)(own:List (Option Own))(x:Operand):
 St.ev {sl:=σ.sl.map (SV.sub k f),own:=own,m:=m,h:=h} x=(σ.ev x).sub k f\/(∃v,x= .const v\/(∃g,x= .global g)\/∃g,x= .func g):=by
 cases x with
 |tmp t=>
  left;simp only[St.ev,xG];cases nth σ.sl t with
  |none=>rfl
  |some y=>rfl
 |const v=>exact .inr ⟨v,.inl rfl⟩
 |global g=>exact .inr ⟨undef,.inr (.inl ⟨g,rfl⟩)⟩
 |func g=>exact .inr ⟨undef,.inr (.inr ⟨g,rfl⟩)⟩
theorem Yi{k:Nat}{f:At->At}(hf:∀x j o,f x≠ .ptr j o){x:SV}{j o:Nat}(h:x.sub k f= .at (.ptr j o)):x= .at (.ptr j o):=by
 cases x with
 |«at» y=>
  cases y<;>simp only[SV.sub,At.sub,SV.at.injEq]at h⊢
  case val=>exact h
  case junk=>exact h
  all_goals
   split at h
   .exact absurd h (hf _ _ _)
   .exact h
 |agg cs=>simp[SV.sub]at h
 |tup xs=>simp[SV.sub]at h
theorem TO{k:Nat}{f:At->At}(hf:∀x j,f x≠ .lst j){x:SV}{j:Nat}(h:x.sub k f= .at (.lst j)):x= .at (.lst j):=by
 cases x with
 |«at» y=>
  cases y<;>simp only[SV.sub,At.sub,SV.at.injEq]at h⊢
  case val=>exact h
  case junk=>exact h
  all_goals
   split at h
   .exact absurd h (hf _ _)
   .exact h
 |agg cs=>simp[SV.sub]at h
 |tup xs=>simp[SV.sub]at h
theorem WO{σ:St}{k:Nat}{f:At->At}{m:MH}{h:PH}(hm:m=σ.m)(hf:∀x j o,f x≠ .ptr j o)(hfl:∀x j,f x≠ .lst j)(hk:∀p T cs,nth σ.own k≠some (some (.cellsP p T cs)))(hh:∀b off v,σ.h b off=some v->h b off=some v):
 Fz σ {(σ.sub k f).setOwn k none with m:=m,h:=h}:=by
 refine⟨?_,hh,?_,?_,hm⟩
 .intro j p T cs hj;have hne:j≠k:=λe=>hk p T cs (e▸hj);refine⟨cs.map (At.sub k f),?_⟩;simp only[St.setOwn,St.sub,u7,xG,hne,false_and,if_false,hj];rfl
 .intro x j off hx;rcases Tj σ k f m h ((σ.sub k f).setOwn k none).own x with he|⟨v,he⟩
  .have:(σ.ev x).sub k f= .at (.ptr j off):=he▸hx;exact Yi hf this
  .rcases he with rfl|⟨g,rfl⟩|⟨g,rfl⟩<;>exact hx
 .intro x j hx;rcases Tj σ k f m h ((σ.sub k f).setOwn k none).own x with he|⟨v,he⟩
  .have:(σ.ev x).sub k f= .at (.lst j):=he▸hx;exact TO hfl this
  .rcases he with rfl|⟨g,rfl⟩|⟨g,rfl⟩<;>exact hx
end Go.Vc
namespace Go.Vc
open Go
theorem yW{α:Type}(P:Program):∀(s:Sem α)(x:α),wO P s=some x->∀w,s.run P w= .ok x w:=by
 intro s
 induction s with
 |pure a=>intro x h w;simp[wO]at h;subst h;rfl
 |program k ih=>intro x h w;simp only[wO]at h;simp only[Sem.run];exact ih P x h w
 |mark m k ih=>intro x h w;simp only[wO]at h;simp only[Sem.run];exact ih x h w
 |_=>intro x h w;simp[wO]at h
def OH(C:Ctx)(ι:Nat->Value)(o:Oper)(σ:St)(K:St->Prop)(a:Act)(w:World):Prop:=
 ∃v x,(∀w'',(w9 C.P o=false\/w''=w)->(execOp a.eval o).run C.P w''= .ok (.value v) w'')/\Den ι x v/\K (σ.put o.dst x)
section
variable{B:nS}{C:Ctx}{ι:Nat->Value}{σ:St}{a:Act}{w:World}{o:Oper}{K:St->Prop}
theorem ID(hM:aI B ι σ a w):∀(l:List Operand),JF σ l=true->∀x∈l,σ.rho x=a.eval x
 |[],_,x,hx=>by cases hx
 |y::l,h,x,hx=>by
  simp only[JF]at h;cases hy:(σ.ev y).val? with
  |none=>simp[hy]at h
  |some v=>
   simp[hy]at h;rcases List.mem_cons.1 hx with rfl|hx
   .simp only[St.rho,hy];exact(hM.rho hy).symm
   .exact ID hM l h x hx
theorem kA(hM:aI B ι σ a w)(hs:∀cs b,o.op≠ .select cs b)(h:sD C o σ K):OH C ι o σ K a w:=by
 unfold sD at h;split at h
 .rename_i ha;have hc:execOp a.eval o=execOp σ.rho o:=execOp_congr o hs λx hx=>(ID hM _ ha x (by simpa using hx)).symm;split at h
  .rename_i v hv;exact⟨v,.at (.val v),λw'' _=>by rw[hc];exact yW _ _ _ hv w'',rfl,h⟩
  .exact h.elim
 .exact h.elim
theorem Addr.add_none(b o j:Nat):(⟨b,o,none⟩:Addr).add j=⟨b,o+j,none⟩:=by unfold Addr.add;split<;>simp_all
def Yq(P:Program)(T:TypeId)(cs:List Value):Value:=match zI P T with|true=>.agg cs.toArray|false=>cs.headD undef
theorem fU{P:Program}{T:TypeId}(h:hU P T=true):∃i d,P.info? T=some i/\P.underlying T=some d/\P.cellsOf T=i.size/\0<i.size:=by
 unfold hU at h;split at h
 .rename_i d hd;split at h
  .cases h
  .rename_i hz;cases hi:P.info? T with
   |none=>simp[Program.underlying,hi]at hd
   |some i=>
    have hc:P.cellsOf T=i.size:=by simp[Program.cellsOf,hi]
    refine⟨i,d,rfl,hd,hc,?_⟩;rw[hc]at hz;exact Nat.pos_of_ne_zero hz
 .cases h
theorem LW{P:Program}{T:TypeId}{d:TypeDesc}(h:P.underlying T=some d)(w:World):(isAgg T).run P w= .ok (zI P T) w:=by
 unfold isAgg zI;rw[Sem.run_bind,run_underlying h w,h];cases d<;>rfl
theorem run_sizeOf{P:Program}{T:TypeId}{i:TypeInfo}(h:P.info? T=some i)(w:World):(sizeOf T).run P w= .ok i.size w:=by
 simp[sizeOf,typeInfo,program,Sem.run,h]
theorem wA{P:Program}{T:TypeId}{w:World}{b off:Nat}{cs:List Value}(hT:hU P T=true)(hlen:cs.length=P.cellsOf T)
 (hc:∀j v,cs[j]? =some v->w.cell? ⟨b,off+j,none⟩=some v):(loadVar T ⟨b,off,none⟩).run P w= .ok (Yq P T cs) w:=by
 obtain⟨i,d,hi,hd,hcs,hpos⟩:=fU hT;rw[hcs]at hlen;unfold loadVar;rw[Sem.run_bind,LW hd];simp only[Result.andThen_ok];unfold Yq;cases hagg:zI P T with
 |true=>
  have hl:(loadCells ⟨b,off,none⟩ cs.length).run P w= .ok cs.toArray w:=
   run_loadCells_list (P:=P) w ⟨b,off,none⟩ cs (λj v hv=>by rw[Addr.add_none];exact hc j v hv)
  simp[run_sizeOf hi, <-hlen,hl]
 |false=>
  cases cs with
  |nil=>simp at hlen;omega
  |cons v r=>
   have h0:=hc 0 v rfl;simp only[Nat.add_zero]at h0;simp[load,Sem.run,h0]
theorem E0{P:Program}{T:TypeId}{ats:List At}{cs:List Value}(h:gJ ι ats cs):Den ι (mk P T ats) (Yq P T cs):=by
 unfold mk Yq;cases zI P T with
 |true=>exact⟨cs.toArray,rfl,by simpa using h⟩
 |false=>
  cases ats with
  |nil=>exact trivial
  |cons x r=>
   cases cs with
   |nil=>exact h.elim
   |cons v l=>
    cases r with
    |nil=>exact h.1
    |cons y r=>exact trivial
theorem rV(hM:aI B ι σ a w){k:Nat}{T:TypeId}{cs:List At}{p:Option Nat}(hk:nth σ.own k=some (some (.cellsP p T cs))):
 ∃b vs,ι k= .pointer (some ⟨b,0,none⟩)/\w.heap[b]? =some (.cells vs T (0,0))/\gJ ι cs vs.toList:=
 let⟨b,vs,h1,h2,h3,_⟩:=hM.own k _ hk;⟨b,vs,h1,h2,h3⟩
theorem TV(hM:aI B ι σ a w){k q:Nat}{T:TypeId}{cs:List At}(hk:nth σ.own k=some (some (.cellsP (some q) T cs))):ι k= .pointer (some ⟨q,0,none⟩):=by
 obtain⟨b,vs,h1,_,_,h4⟩:=hM.own k _ hk;rw[h1,h4 q rfl]
theorem cell_of_heap{w:World}{b o:Nat}{vs:Array Value}{T:TypeId}{fz:Nat×Nat}(h:w.heap[b]? =some (.cells vs T fz)):w.cell? ⟨b,o,none⟩=vs.toList[o]? :=by
 simp[World.cell?,h]
theorem uC{vs:List Value}{off n j:Nat}{v:Value}(h:((vs.drop off).take n)[j]? =some v):vs[off+j]? =some v:=by
 rw[List.getElem?_take]at h;split at h
 .rw[List.getElem?_drop]at h;exact h
 .cases h
theorem Bo(hw:tR B σ.m σ.h w){b off:Nat}{l:List Value}(h:aM σ.m σ.h b off l):∀j v,l[j]? =some v->w.cell? ⟨b,off+j,none⟩=some v:=by
 intro j v hv;cases h with
 |imm hr=>exact hw.hsat _ _ _ (hr.rd j v hv)
 |lent cs E fz hm hl=>
  rw[cell_of_heap (hw.msat _ _ hm)];rw[<-hl]at hv;exact uC hv
theorem lW{xs:List (List Value)}{sz i:Nat}{e:List Value}(hlen:∀e∈xs,e.length=sz)(hi:xs[i]? =some e)(j:Nat)(v:Value)(hj:e[j]? =some v):
 xs.flatten[i*sz+j]? =some v:=by
 induction xs generalizing i with
 |nil=>simp at hi
 |cons x r ih=>
  have hx:x.length=sz:=hlen x (by simp);cases i with
  |zero=>
   simp at hi;subst hi;simp only[List.flatten_cons,Nat.zero_mul,Nat.zero_add];rw[List.getElem?_append_left (by rcases List.getElem?_eq_some_iff.1 hj with⟨h,_⟩;exact h)];exact hj
  |succ i=>
   simp only[List.getElem?_cons_succ]at hi;simp only[List.flatten_cons];rw[List.getElem?_append_right (by rw[hx,Nat.succ_mul];omega),hx,show(i+1)*sz+j-sz=i*sz+j by rw[Nat.succ_mul];omega];exact ih (λe he=>hlen e (by simp[he])) hi
theorem oR(hM:aI B ι σ a w){k:Nat}{E sz:Nat}{xs:List (List Value)}(hk:nth σ.own k=some (some (.lst E sz xs))):
 eV sz xs/\w.ownsRow 0 E sz (ι k) xs.length xs.flatten:=hM.own k _ hk
theorem RH(hM:aI B ι σ a w){T:TypeId}{x:Operand}(ho:o.op= .load T x)(h:RI C o T x σ K):OH C ι o σ K a w:=by
 have hrun:∀(b off:Nat)(cs:List Value),a.eval x= .pointer (some ⟨b,off,none⟩)->hU C.P T=true->cs.length=C.P.cellsOf T->(∀j v,cs[j]? =some v->w.cell? ⟨b,off+j,none⟩=some v)->
  ∀w'',(w9 C.P o=false\/w''=w)->(execOp a.eval o).run C.P w''= .ok (.value (Yq C.P T cs)) w'':=by
  intro b off cs hx hT hl hc w'' hw;have hw:w''=w:=hw.resolve_left (by simp[w9,ho]);subst hw;have:=wA hT hl hc;unfold execOp;simp only[ho,hx,Instr.loadAt,Instr.sureAddr,Sem.run_bind,Sem.run_pure,Result.andThen_ok,this]
 have hev:=hM.ev x;unfold RI at h;split at h
 .exact h.elim
 .rename_i hT;split at h
  .rename_i k off hx;rw[hx]at hev;split at h
   .rename_i p T' cs hk;split at h
    .rename_i hle;obtain⟨b,vs,hι,hh,hd⟩:=rV hM hk;obtain⟨b',hb',hp⟩:=hev;rw[hι]at hb';simp only[Value.pointer.injEq,Option.some.injEq,Addr.mk.injEq]at hb';obtain⟨rfl, -, -⟩:=hb';have hd':=(hd.drop off).take (C.P.cellsOf T);refine⟨_,_,hrun b off ((vs.toList.drop off).take (C.P.cellsOf T)) hp hT ?_ ?_,E0 hd',h⟩
     .rw[<-hd'.length];have:=Nat.le_of_ble_eq_true hle;simp;omega
     .intro j v hv;rw[cell_of_heap hh];exact uC hv
    .exact h.elim
   .exact h.elim
  .rename_i k i sz off hx;rw[hx]at hev;split at h
   .rename_i E s xs hk;split at h
    .rename_i hs;have hs:=Nat.eq_of_beq_eq_true hs;subst hs;obtain⟨e,he,y,hy,h⟩:=h;split at h
     .rename_i hlen;obtain⟨hrows,hown⟩:=oR hM hk;obtain⟨b,n,c,hι,hp⟩:=hev;refine⟨_,_,hrun b _ _ hp hT (Nat.eq_of_beq_eq_true hlen) ?_,E0 (gJ.vals.2 rfl),h⟩;intro j v hv;rw[<-hy]at hv;have hv':=uC hv;have hf:=lW hrows.len he _ _ hv';have:=hown.cells (g:=b) (by rw[hι];rfl) _ _ hf;rw[Addr.add_none]at this;rw[<-this];congr 1;simp only[Addr.mk.injEq,and_true,true_and];omega
     .exact h.elim
    .exact h.elim
   .exact h.elim
  .rename_i b off hx;rw[hx]at hev;obtain⟨y,hy,h⟩:=h;split at h
   .rename_i hlen;exact⟨_,_,hrun b off _ hev hT (Nat.eq_of_beq_eq_true hlen) (Bo hM.wrel hy),E0 (gJ.vals.2 rfl),h⟩
   .exact h.elim
  .exact h.elim
theorem Ko(hM:aI B ι σ a w){x:Operand}(ho:o.op= .move x\/o.op= .assign x)(h:K (σ.put o.dst (σ.ev x))):OH C ι o σ K a w:=by
 refine⟨a.eval x,σ.ev x,λw'' _=>?_,hM.ev x,h⟩;rcases ho with ho|ho<;>simp[execOp,ho]
theorem pN{c:Bool}{A D:Prop}(h:branch c A D):(c=true/\A)\/(c=false/\D):=by
 cases c
 .exact .inr ⟨rfl,h⟩
 .exact .inl ⟨rfl,h⟩
theorem RB(hM:aI B ι σ a w){c x y:Operand}(ho:o.op= .pick c x y)(h:RC o c x y σ K):OH C ι o σ K a w:=by
 have hev:=hM.ev c;unfold RC at h;split at h
 .rename_i t hc;rw[hc]at hev;have hev:a.eval c= .bool t:=hev;rcases pN h with⟨rfl,h⟩|⟨rfl,h⟩
  .exact⟨a.eval x,σ.ev x,λw'' _=>by simp[execOp,ho,hev,asBool],hM.ev x,h⟩
  .exact⟨a.eval y,σ.ev y,λw'' _=>by simp[execOp,ho,hev,asBool],hM.ev y,h⟩
 .exact h.elim
theorem Gq{P:Program}{T f g T':Nat}(h:Gr P T f=some (g,T')):∃fs Lv,P.underlying T=some (.struct fs)/\fs[f]? =some Lv/\Lv.offset=g/\Lv.type=T'/\P.cellsOf T'≠0:=by
 unfold Gr at h;split at h
 .rename_i fs hfs;split at h
  .rename_i Lv hfld;split at h
   .cases h
   .rename_i hz;simp only[Option.some.injEq,Prod.mk.injEq]at h;obtain⟨rfl,rfl⟩:=h;rw[iD,Array.getElem?_toList]at hfld;exact⟨fs,Lv,hfs,hfld,rfl,rfl,λe=>by rw[e]at hz;simp at hz⟩
  .cases h
 .cases h
theorem Pg{P:Program}{T f g T':Nat}(h:Gr P T f=some (g,T'))(w:World)(b off:Nat):
 (Instr.fieldAt T (.pointer (some ⟨b,off,none⟩)) f).run P w= .ok (.pointer (some ⟨b,off+g,none⟩)) w:=by
 obtain⟨fs,Lv,hu,hf,rfl,rfl,hz⟩:=Gq h;cases hi:P.info? Lv.type with
 |none=>simp[Program.cellsOf,hi]at hz
 |some i=>
  have hz':i.size≠0:=by simpa[Program.cellsOf,hi]using hz
  simp[Instr.fieldAt,run_underlying hu,hf,Instr.sureAddr,fieldPlace,run_sizeOf hi,hz',Addr.add_none]
theorem IK(hM:aI B ι σ a w){T f:Nat}{x:Operand}(ho:o.op= .fieldAddr T x f)(h:C5 C o T x f σ K):OH C ι o σ K a w:=by
 have hev:=hM.ev x;unfold C5 at h;split at h
 .exact h.elim
 .rename_i g T' hf
  have hrun:∀b off,a.eval x= .pointer (some ⟨b,off,none⟩)->∀w'',(w9 C.P o=false\/w''=w)->(execOp a.eval o).run C.P w''= .ok (.value (.pointer (some ⟨b,off+g,none⟩))) w'':=by
   intro b off hx w'' _;unfold execOp;simp only[ho,hx,Sem.run_bind,Pg hf,Result.andThen_ok,Sem.run_pure]
  split at h
  .rename_i k off hx;rw[hx]at hev;obtain⟨b,hb,hp⟩:=hev;exact⟨_,.at (.ptr k (off+g)),hrun b off hp,⟨b,hb,rfl⟩,h⟩
  .rename_i k i sz off hx;rw[hx]at hev;obtain⟨b,n,c,hb,hp⟩:=hev;exact⟨_,.at (.el k i sz (off+g)),hrun b _ hp,⟨b,n,c,hb,by rw[Nat.add_assoc]⟩,h⟩
  .rename_i b off hx;rw[hx]at hev;exact⟨_,.at (.val _),hrun b off hev,rfl,h⟩
  .exact h.elim
theorem Kj(hM:aI B ι σ a w){x:Operand}(ho:o.op= .nilCheck x)(h:EK o x σ K):OH C ι o σ K a w:=by
 have hev:=hM.ev x
 have hrun:∀ad,a.eval x= .pointer (some ad)->∀w'',(w9 C.P o=false\/w''=w)->(execOp a.eval o).run C.P w''= .ok (.value (.pointer (some ad))) w'':=by
  intro ad hx w'' _;unfold execOp;simp[ho,hx]
 unfold EK at h;split at h
 .rename_i k off hx;rw[hx]at hev;obtain⟨b,hb,hp⟩:=hev;exact⟨_,.at (.ptr k off),hrun _ hp,⟨b,hb,rfl⟩,h⟩
 .rename_i k i sz off hx;rw[hx]at hev;obtain⟨b,n,c,hb,hp⟩:=hev;exact⟨_,.at (.el k i sz off),hrun _ hp,⟨b,n,c,hb,rfl⟩,h⟩
 .rename_i ad hx;rw[hx]at hev;exact⟨_,.at (.val _),hrun _ hev,rfl,h⟩
 .exact h.elim
end
end Go.Vc
namespace Go.Vc
open Go
section
variable{B:nS}{C:Ctx}{ι:Nat->Value}{σ:St}{a:Act}{w:World}{o:Oper}{K:St->Prop}
theorem yQ(hone:∀k,(ι k).oneCell'=true){x:SV}{v:Value}{cs:List At}(h:Den ι x v)(hc:x.cells? =some cs):gJ ι cs v.cells.toList:=by
 have one:∀u:Value,u.oneCell'=true->u.cells= #[u]:=λu hu=>by cases u<;>first|rfl|(simp[Value.oneCell']at hu)
 cases x with
 |«at» y=>
  cases y with
  |val u=>
   have h:v=u:=h;subst h;cases v<;>simp only[SV.cells?,Option.some.injEq,reduceCtorEq]at hc<;>subst hc<;>first|exact⟨rfl,trivial⟩|skip
   exact gJ.vals.2 rfl
  |junk=>simp[SV.cells?]at hc
  |ptr k off=>
   simp only[SV.cells?,Option.some.injEq]at hc;subst hc;obtain⟨b,hb,rfl⟩:=h;exact⟨⟨b,hb,rfl⟩,trivial⟩
  |lst k=>
   simp only[SV.cells?,Option.some.injEq]at hc;subst hc;have h:v=ι k:=h;rw[one v (by rw[h];exact hone k)];exact⟨h,trivial⟩
  |el k i sz off=>
   simp only[SV.cells?,Option.some.injEq]at hc;subst hc;obtain⟨b,n,c,hb,rfl⟩:=h;exact⟨⟨b,n,c,hb,rfl⟩,trivial⟩
 |agg l=>
  simp only[SV.cells?,Option.some.injEq]at hc;subst hc;obtain⟨us,rfl,hd⟩:=h;exact hd
 |tup xs=>simp[SV.cells?]at hc
theorem run_indexAt_slice{P:Program}{T E:TypeId}(hu:P.underlying T=some (.slice E))(hE:hU P E=true)(w:World)(b off len cap:Nat)(k:IntKind)(n:Int)(h0:0<=n)(h1:n<(len:Int)):
 (Instr.indexAt T (.slice (some ⟨b,off,none⟩) len cap) (.int k n)).run P w= .ok (.pointer (some ⟨b,off+n.toNat*P.cellsOf E,none⟩)) w:=by
 obtain⟨i,d,hi,hd,hc,hpos⟩:=fU hE;rw[hc];simp[Instr.indexAt,asIntOf,run_underlying hu,h0,h1,run_sizeOf hi,Addr.add_none]
theorem run_indexAt_array{P:Program}{T E len:Nat}(hu:P.underlying T=some (.array len E))(hE:hU P E=true)(w:World)(b off:Nat)(k:IntKind)(n:Int)(h0:0<=n)(h1:n<(len:Int)):
 (Instr.indexAt T (.pointer (some ⟨b,off,none⟩)) (.int k n)).run P w= .ok (.pointer (some ⟨b,off+n.toNat*P.cellsOf E,none⟩)) w:=by
 obtain⟨i,d,hi,hd,hc,hpos⟩:=fU hE;rw[hc];simp[Instr.indexAt,asIntOf,run_underlying hu,Instr.sureAddr,h0,h1,run_sizeOf hi,Addr.add_none]
theorem IJ(hM:aI B ι σ a w){T:Nat}{x i:Operand}(ho:o.op= .indexAddr T x i)(h:CX C o T x i σ K):OH C ι o σ K a w:=by
 have hev:=hM.ev x;have hevi:=hM.ev i;unfold CX at h;split at h
 .rename_i kk n hi;rw[hi]at hevi;have hevi:a.eval i= .int kk n:=hevi;split at h
  .rename_i E hu;split at h
   .rename_i hE
    have hrun:∀b off len cap,a.eval x= .slice (some ⟨b,off,none⟩) len cap->0<=n->n<(len:Int)->∀w'',(w9 C.P o=false\/w''=w)->(execOp a.eval o).run C.P w''= .ok (.value (.pointer (some ⟨b,off+n.toNat*C.P.cellsOf E,none⟩))) w'':=by
     intro b off len cap hx h0 h1 w'' _;unfold execOp;simp only[ho,hx,hevi,Sem.run_bind,run_indexAt_slice hu hE w'' b off len cap kk n h0 h1,Result.andThen_ok,Sem.run_pure]
    split at h
    .rename_i k hx;rw[hx]at hev;have hev:a.eval x=ι k:=hev;split at h
     .rename_i E' sz xs hk;split at h
      .rename_i hsz;have hsz:=Nat.eq_of_beq_eq_true hsz;obtain⟨h0,h1,h⟩:=h;obtain⟨hrows,hown⟩:=oR hM hk;rcases hown.2 with⟨hv,hn⟩|⟨g,cap,cur,hv,_⟩
       .omega
       .refine⟨_,.at (.el k n.toNat sz 0),hrun g 0 _ cap (by rw[hev,hv]) h0 h1,⟨g,_,cap,hv,?_⟩,h⟩;rw[hsz];simp
      .exact h.elim
     .exact h.elim
    .rename_i ad len cap hx;rw[hx]at hev;obtain⟨b,off,rfl,h0,h1,h⟩:=h;exact⟨_,.at (.val _),hrun b off len cap hev h0 h1,rfl,h⟩
    .exact h.elim
   .exact h.elim
  .rename_i len E hu;split at h
   .rename_i hE
    have hrun:∀b off,a.eval x= .pointer (some ⟨b,off,none⟩)->0<=n->n<(len:Int)->∀w'',(w9 C.P o=false\/w''=w)->(execOp a.eval o).run C.P w''= .ok (.value (.pointer (some ⟨b,off+n.toNat*C.P.cellsOf E,none⟩))) w'':=by
     intro b off hx h0 h1 w'' _;unfold execOp;simp only[ho,hx,hevi,Sem.run_bind,run_indexAt_array hu hE w'' b off kk n h0 h1,Result.andThen_ok,Sem.run_pure]
    split at h
    .rename_i k off hx;rw[hx]at hev;obtain⟨b,hb,hp⟩:=hev;obtain⟨h0,h1,h⟩:=h;exact⟨_,.at (.ptr k (off+n.toNat*C.P.cellsOf E)),hrun b off hp h0 h1,⟨b,hb,rfl⟩,h⟩
    .rename_i b off hx;rw[hx]at hev;obtain⟨h0,h1,h⟩:=h;exact⟨_,.at (.val _),hrun b off hev h0 h1,rfl,h⟩
    .exact h.elim
   .exact h.elim
  .exact h.elim
 .exact h.elim
theorem Wa(hM:aI B ι σ a w){op:BinOp}{tx ty:Nat}{x y:Operand}(ho:o.op= .binOp op tx x y ty)(h:Uq o op x y σ K):OH C ι o σ K a w:=by
 have hx:=hM.ev x;have hy:=hM.ev y;unfold Uq at h;split at h
 .rename_i k n k' m hxx hyy;rw[hxx]at hx;rw[hyy]at hy;have hx:a.eval x= .int k n:=hx;have hy:a.eval y= .int k' m:=hy;split at h
  .rename_i hk;have hk:k=k':=of_decide_eq_true hk;subst hk;obtain⟨hm,h⟩:=h;split at h
   .exact⟨_,.at (.val _),λw'' _=>by unfold execOp;simp[ho,hx,hy,eqGuard,binOp,Op.intDiv,hm],rfl,h⟩
   .exact⟨_,.at (.val _),λw'' _=>by unfold execOp;simp[ho,hx,hy,eqGuard,binOp,Op.intDiv,hm],rfl,h⟩
   .exact h.elim
  .exact h.elim
 .exact h.elim
theorem Oq(hM:aI B ι σ a w){tx ty:Nat}{x y:Operand}(ho:o.op= .binOp .add tx x y ty)(h:K8 C o x y σ K):OH C ι o σ K a w:=by
 have hx:=hM.ev x;have hy:=hM.ev y;unfold K8 at h;split at h
 .rename_i s t hxx hyy;rw[hxx]at hx;rw[hyy]at hy;have hx:a.eval x= .string s:=hx;have hy:a.eval y= .string t:=hy;obtain⟨hm,h⟩:=h
  have hm':¬((s.size+t.size:Nat):Int)>IntKind.i64.max:=by
   have:IntKind.i64.max=9223372036854775807:=by decide
   omega
  exact⟨_,.at (.val _),λw'' _=>by unfold execOp;simp only[ho,hx,hy,eqGuard,binOp,Op.stringOp,if_neg hm'];simp,rfl,h⟩
 .exact kA hM (λcs b=>by rw[ho];intro e;cases e) h
theorem CE(hM:aI B ι σ a w){neg:Bool}{tx ty:Nat}{x y:Operand}(ho:o.op= .binOp (match neg with|true=>.neq|false=>.eql) tx x y ty)(h:Bi C o neg tx x y σ K):OH C ι o σ K a w:=by
 unfold Bi at h;split at h
 .rename_i xs ys hxx hyy;have hx:a.eval x= .agg xs:=(hM.ev x).val? hxx;have hy:a.eval y= .agg ys:=(hM.ev y).val? hyy;obtain⟨r,hr,h⟩:=h;refine⟨_,.at (.val _),λw'' _=>?_,rfl,h⟩;cases neg
  .unfold execOp;simp[ho,hx,hy,run_eqGuard_agg _ _ _ _ _ _ _ hr.guard,run_eql_struct,hr.eq w'']
  .unfold execOp;simp[ho,hx,hy,run_eqGuard_agg _ _ _ _ _ _ _ hr.guard,run_neq_struct,hr.eq w'']
 .exact h.elim
theorem T4(off:Nat):∀(l:List Value)(s:Nat)(cs:Array Value),off+s+l.length<=cs.size->
 ((l.zipIdx s).foldl (λcs x=>cs.setIfInBounds (off+x.2) x.1) cs).toList=splice cs.toList (off+s) l
 |[],s,cs,_=>by simp[splice]
 |v::l,s,cs,h=>by
  simp only[List.length_cons]at h;simp only[List.zipIdx_cons,List.foldl_cons];have:=T4 off l (s+1) (cs.setIfInBounds (off+s) v) (by simp;omega);rw[this];simp only[Array.toList_setIfInBounds,splice,List.length_cons];exact list_seg_step cs.toList (off+s) v l (by simp;omega)
theorem Mh{place:Nat->Option (Nat×Nat)}{cells:Array Value}{i off size:Nat}{v:Value}{rest:List (Nat×Value)}(hp:place i=some (off,size))(hs:v.cells.size=size)(hle:off+v.cells.size<=cells.size):
 Instr.fill place cells ((i,v)::rest)=Instr.fill place (splice cells.toList off v.cells.toList).toArray rest:=by
 have hf:=T4 off v.cells.toList 0 cells (by simpa using hle);simp only[Nat.add_zero]at hf;simp only[Instr.fill,hp];rw[if_neg (by simp;omega)];congr 1;apply Array.toList_inj.1;rw[<-hf];rw[<-Array.foldl_toList];simp
theorem Eo{α:Type}(cs new:List α)(off:Nat)(h:off+new.length<=cs.length):(splice cs off new).length=cs.length:=by
 unfold splice;simp;omega
theorem wW(hM:aI B ι σ a w)(place:Nat->Option (Nat×Nat)){P:Program}{T:TypeId}(hplace:∀i r,partAt P T i=some r->place i=some r):
 ∀(parts:List (Nat×Operand))(cs:List At)(cells:Array Value)(out:List At),gJ ι cs cells.toList->A5 P T σ parts cs=some out->
  ∃r,Instr.fill place cells (parts.map λp=>(p.1,a.eval p.2))=some r/\gJ ι out r.toList
 |[],cs,cells,out,hd,h=>by
  simp[A5]at h;subst h;exact⟨cells,rfl,hd⟩
 |(i,x)::parts,cs,cells,out,hd,h=>by
  simp only[A5]at h;split at h
  .rename_i off size new hp hnew;split at h
   .rename_i hl hle;have hl:=Nat.eq_of_beq_eq_true hl;have hle:=Nat.le_of_ble_eq_true hle;have hdn:=yQ hM.one (hM.ev x) hnew;have hsz:(a.eval x).cells.size=size:=by have:=hdn.length;simp at this;omega
    have hcs:=hd.length;simp at hcs;have:=wW hM place hplace parts (splice cs off new) (splice cells.toList off (a.eval x).cells.toList).toArray out (by simpa using hd.splice off hdn) h;obtain⟨r,hr,hdr⟩:=this;refine⟨r,?_,hdr⟩;simp only[List.map_cons];rw[Mh (hplace i _ hp) hsz aC];exact hr
   .cases h
  .cases h
theorem yU{P:Program}{T:TypeId}{z:List Value}(h:zeroCells P T=some z):∃i v,P.info? T=some i/\i.zero=some v/\z=v.cells.toList:=by
 unfold zeroCells at h;split at h
 .rename_i i hi;split at h
  .rename_i v hv;simp at h;exact⟨i,v,hi,hv,h.symm⟩
  .cases h
 .cases h
theorem Ik{P:Program}:∀(fs:List Field),(fs.all λf=>(P.info? f.type).isSome)=true->
 ∃pl,fs.mapM (λf=>(P.info? f.type).map λi=>(f.offset,i.size))=some pl/\pl.length=fs.length/\∀(i:Nat)(g:Field),fs[i]? =some g->pl[i]? =some (g.offset,P.cellsOf g.type)
 |[],_=>⟨[],by simp,rfl,λi g h=>by simp at h⟩
 |f::fs,h=>by
  simp only[List.all_cons,Bool.and_eq_true]at h;obtain⟨pl,hpl,hlen,hget⟩:=Ik fs h.2;cases hi:P.info? f.type with
  |none=>simp[hi]at h
  |some i=>
   refine⟨(f.offset,i.size)::pl,?_,by simp[hlen],?_⟩
   .simp[List.mapM_cons,hi,hpl]
   .intro j g hg;cases j with
    |zero=>simp at hg;subst hg;simp[Program.cellsOf,hi]
    |succ j=>simp at hg⊢;exact hget j g hg
theorem Q7(hM:aI B ι σ a w){T:Nat}{ps:Array (Nat×Operand)}(ho:o.op= .build T ps)(h:Ou C o T ps.toList σ K):OH C ι o σ K a w:=by
 unfold Ou at h;split at h
 .rename_i z hz;split at h
  .rename_i cs hcs hk;obtain⟨it,v,hit,hv,rfl⟩:=yU hz
   have key:∃r,C.P.built T ((ps.map λp=>(p.1,a.eval p.2)).toList)=some r/\gJ ι cs r.toList:=by
    unfold J8 at hk;have hd0:gJ ι (v.cells.toList.map .val) v.cells.toList:=gJ.vals.2 rfl;split at hk
    .rename_i fs hu;obtain⟨pl,hpl,hlen,hget⟩:=Ik fs.toList hk
     have hplace:∀i r,partAt C.P T i=some r->pl.toArray[i]? =some r:=by
      intro i r hr;unfold partAt at hr;simp only[hu]at hr;split at hr
      .rename_i g hg;rw[iD]at hg;simp at hr;subst hr;simpa using hget i g hg
      .cases hr
     obtain⟨r,hr,hdr⟩:=wW hM (λi=>pl.toArray[i]?) hplace ps.toList _ v.cells cs hd0 hcs;refine⟨r,?_,hdr⟩;unfold Program.built;simp only[hit,hu,hv,hpl];simpa using hr
    .rename_i n E hu;cases hie:C.P.info? E with
     |none=>simp[hie]at hk
     |some ie=>
      have hplace:∀i r,partAt C.P T i=some r->(λi=>some (i*ie.size,ie.size)) i=some r:=by
       intro i r hr;unfold partAt at hr;simp only[hu,Program.cellsOf,hie]at hr;simpa using hr
      obtain⟨r,hr,hdr⟩:=wW hM (λi=>some (i*ie.size,ie.size)) hplace ps.toList _ v.cells cs hd0 hcs;refine⟨r,?_,hdr⟩;unfold Program.built;simp only[hit,hu,hv,hie];simpa using hr
    .cases hk
   obtain⟨r,hr,hdr⟩:=key;refine⟨.agg r,.agg cs,λw'' _=>?_,⟨r,rfl,hdr⟩,h⟩;unfold execOp;simp only[ho,Sem.run_bind,run_build w'' T _ r hr,Result.andThen_ok,Sem.run_pure]
  .exact h.elim
 .exact h.elim
theorem U7(hM:aI B ι σ a w){x:Operand}{c:Call}(ho:o.op= .call c)(hc:c.callee= .builtin .len)(hx:c.args.toList=[x])
 (h:WL C o x c.argTypes.toList σ K):OH C ι o σ K a w:=by
 unfold WL at h;split at h
 .rename_i k hk;split at h
  .rename_i E sz xs hown hsl
   have hts:∃t E,c.argTypes[0]? =some t/\C.P.underlying t=some (.slice E):=by
    unfold PG at hsl;split at hsl
    .rename_i t r ht;split at hsl
     .rename_i E hE;exact⟨t,E,by rw[<-Array.getElem?_toList,ht];rfl,hE⟩
     .cases hsl
    .cases hsl
   obtain⟨t,E',ht,hu⟩:=hts;have hev:=hM.ev x;rw[hk]at hev;have hev:a.eval x=ι k:=hev;obtain⟨hrows,hrow⟩:=oR hM hown;have hargs:c.args= #[x]:=by apply Array.toList_inj.1;simpa using hx
   refine⟨.int .i64 xs.length,.at (.val _),λw'' _=>?_,rfl,h⟩;rcases hrow.2 with⟨hv,hn⟩|⟨g,cap,cur,hv,_⟩
   .unfold execOp;simp[ho,resolve,hc,invoke,builtin,Builtin.len_,hargs,ht,hev,hv,run_underlying hu,goInt,hn]
   .unfold execOp;simp[ho,resolve,hc,invoke,builtin,Builtin.len_,hargs,ht,hev,hv,run_underlying hu,goInt]
  .exact h.elim
 .exact kA hM (λcs b=>by rw[ho];intro e;cases e) h
theorem Pf{P:Program}{T:TypeId}{cs:Array Value}{off:Nat}(hT:hU P T=true)(hle:off+P.cellsOf T<=cs.size)(w:World):
 (part T cs off).run P w= .ok (Yq P T ((cs.toList.drop off).take (P.cellsOf T))) w:=by
 obtain⟨i,d,hi,hd,hc,hpos⟩:=fU hT;unfold part Yq;rw[Sem.run_bind,LW hd];simp only[Result.andThen_ok];rw[hc]at hle⊢
 cases zI P T with
 |true=>
  simp only[if_true,Sem.run_bind,run_sizeOf hi,Result.andThen_ok,Sem.run_pure];congr 2;apply Array.toList_inj.1;simp[List.extract_eq_take_drop]
 |false=>
  have hlt:off<cs.size:=by omega
  have hne:(cs.toList.drop off)=cs[off]::cs.toList.drop (off+1):=by
   rw[<-List.getElem_cons_drop (by simpa using hlt)];simp
  simp only[Bool.false_eq_true,if_false,Array.getElem?_eq_getElem hlt];rw[hne];cases hsz:i.size with
  |zero=>omega
  |succ n=>simp
theorem PS(hM:aI B ι σ a w){T f:Nat}{x:Operand}(ho:o.op= .field T x f)(h:Oh C o T x f σ K):OH C ι o σ K a w:=by
 unfold Oh at h;split at h
 .rename_i g T' cs hf hcs hagg;split at h
  .rename_i hle;simp only[Bool.and_eq_true]at hle;have hle1:=Nat.le_of_ble_eq_true hle.1;have hd:=yQ hM.one (hM.ev x) hcs;obtain⟨fs,Lv,hu,hfl,rfl,rfl,hz⟩:=Gq hf
   have hv:∃us,a.eval x= .agg us:=by
    have hev:=hM.ev x;split at hagg
    .rename_i l hl;rw[hl]at hev;obtain⟨us,e,_⟩:=hev;exact⟨us,e⟩
    .rename_i us hl;rw[hl]at hev;exact⟨us,hev⟩
    .cases hagg
   obtain⟨us,hus⟩:=hv;rw[hus]at hd;have hd:gJ ι cs us.toList:=hd;have hlen:cs.length=us.size:=by have:=hd.length;simpa using this
   have hle2:Lv.offset+C.P.cellsOf Lv.type<=us.size:=by omega
   refine⟨_,_,λw'' _=>?_,E0 ((hd.drop Lv.offset).take (C.P.cellsOf Lv.type)),h⟩;unfold execOp;simp only[ho,Instr.field,Sem.run_bind,run_underlying hu,Result.andThen_ok,hfl,hus,asAgg,Sem.run_pure,Pf hle.2 hle2 w'']
  .exact h.elim
 .exact h.elim
theorem Gv:∀{xs:List (Sum At (List At))}{vs:List Value}(_:Lq ι xs vs)(i:Nat)(y:Sum At (List At)),xs[i]? =some y->∃v,vs[i]? =some v/\Den ι (match y with|.inl x=>.at x|.inr cs=>.agg cs) v
 |[],[],_,i,y,hy=>by simp at hy
 |.inl x::_,v::_,h,0,y,hy=>by simp at hy;subst hy;exact⟨v,rfl,h.1⟩
 |.inr cs::_,v::_,h,0,y,hy=>by simp at hy;subst hy;exact⟨v,rfl,h.1⟩
 |.inl _::_,_::_,h,i+1,y,hy=>by simp at hy⊢;exact Gv h.2 i y hy
 |.inr _::_,_::_,h,i+1,y,hy=>by simp at hy⊢;exact Gv h.2 i y hy
 |[],_::_,h,_,_,_=>h.elim
 |.inl _::_,[],h,_,_,_=>h.elim
 |.inr _::_,[],h,_,_,_=>h.elim
theorem LF(hM:aI B ι σ a w){x:Operand}{i:Nat}(ho:o.op= .extract x i)(h:HL C o x i σ K):OH C ι o σ K a w:=by
 have hev:=hM.ev x;unfold HL at h;split at h
 .rename_i xs hx;rw[hx]at hev;obtain⟨us,hus,hd⟩:=hev
  have hrun:∀v,us.toList[i]? =some v->∀w'',(w9 C.P o=false\/w''=w)->(execOp a.eval o).run C.P w''= .ok (.value v) w'':=by
   intro v hv w'' _;unfold execOp;rw[Array.getElem?_toList]at hv;simp[ho,hus,Instr.extract,hv]
  split at h
  .rename_i y hy;rw[iD]at hy;obtain⟨v,hv,hd'⟩:=Gv hd i _ hy;exact⟨v,.at y,hrun v hv,hd',h⟩
  .rename_i cs hy;rw[iD]at hy;obtain⟨v,hv,hd'⟩:=Gv hd i _ hy;exact⟨v,.agg cs,hrun v hv,hd',h⟩
  .exact h.elim
 .exact kA hM (λcs b=>by rw[ho];intro e;cases e) h
theorem Ir{P:Program}{E:TypeId}{cs:List At}{n:Int}{Q:SV->Prop}:∀(f i:Nat),Od P E cs n Q f i->(i:Int)<=n->n<((i+f:Nat):Int)->
 Q (mk P E ((cs.drop (n.toNat*P.cellsOf E)).take (P.cellsOf E)))
 |0,i,_,h0,h1=>by omega
 |f+1,i,h,h0,h1=>by
  simp only[Od]at h;rcases pN h with⟨hb,h'⟩|⟨hb,h'⟩
  .have hn:n=(i:Int):=by simpa using hb
   have hn':n.toNat=i:=by omega
   rw[hn'];exact h'
  .have:n≠(i:Int):=by simpa using hb
   exact Ir f (i+1) h' aC aC
theorem PJ(hM:aI B ι σ a w){T:Nat}{x i:Operand}(ho:o.op= .index T x i)(h:Oc C o T x i σ K):OH C ι o σ K a w:=by
 have hevi:=hM.ev i;unfold Oc at h;split at h
 .rename_i kk n len E hi hu;rw[hi]at hevi;have hevi:a.eval i= .int kk n:=hevi;split at h
  .rename_i cs hcs;split at h
   .rename_i hlen hE hagg;have hlen:=Nat.eq_of_beq_eq_true hlen;obtain⟨h0,h1,h⟩:=h;have hd:=yQ hM.one (hM.ev x) hcs
    have hv:∃us,a.eval x= .agg us:=by
     have hev:=hM.ev x;split at hagg
     .rename_i l hl;rw[hl]at hev;obtain⟨us,e,_⟩:=hev;exact⟨us,e⟩
     .rename_i us hl;rw[hl]at hev;exact⟨us,hev⟩
     .cases hagg
    obtain⟨us,hus⟩:=hv;rw[hus]at hd;have hd:gJ ι cs us.toList:=hd;have hsz:cs.length=us.size:=by have:=hd.length;simpa using this
    obtain⟨it,d,hit,hdd,hc,hpos⟩:=fU hE;have hk:=Ir len 0 h aC aC;refine⟨_,_,λw'' _=>?_,E0 ((hd.drop (n.toNat*C.P.cellsOf E)).take (C.P.cellsOf E)),hk⟩
    have hle:n.toNat*C.P.cellsOf E+C.P.cellsOf E<=us.size:=by
     rw[<-hsz,hlen, <-Nat.succ_mul];exact Nat.mul_le_mul_right _ aC
    have hp:=Pf hE hle w'';unfold execOp;rw[hc]at hp;simp only[ho,Instr.index,hevi,asIntOf,Sem.run_bind,Sem.run_pure,run_underlying hu,Result.andThen_ok,hus,h0,h1,and_self,if_true,run_sizeOf hit,hp,hc]
   .exact h.elim
  .exact h.elim
 .rename_i kk n hi hu;rw[hi]at hevi;have hevi:a.eval i= .int kk n:=hevi;split at h
  .rename_i s hx;have hev:=hM.ev x;rw[hx]at hev;have hev:a.eval x= .string s:=hev;obtain⟨h0,b,hb,h⟩:=h;refine⟨_,.at (.val _),λw'' _=>?_,rfl,h⟩
   have hb':s[n.toNat]? =some b:=by
    have:s[n.toNat]? =s.data[n.toNat]? :=by
     simp only[getElem?_def];rfl
    rw[this, <-Array.getElem?_toList];exact hb
   unfold execOp;simp[ho,Instr.index,hevi,asIntOf,run_underlying hu,hev,h0,hb']
  .exact h.elim
 .exact h.elim
end
end Go.Vc
namespace Go.Vc
open Go
section
variable{B:nS}{C:Ctx}{ι:Nat->Value}{σ:St}{a:Act}{w:World}{o:Oper}{K:St->Prop}
theorem Cn{P:Program}{w1:World}{src dst E E' sz:Nat}{x:Operand}{v:Value}{bs:List UInt8}(ho:o.op= .convert src dst x)(hs:P.underlying src=some (.slice E))(he:P.underlying E=some (.int .u8))(hd:P.underlying dst=some .string)
 (hev:a.eval x=v)(hrow:w1.ownsRow 0 E' sz v (bM bs).length (bM bs).flatten):(execOp a.eval o).run P w1= .ok (.value (.string ⟨bs.toArray⟩)) w1:=by
 have hlen:(bM bs).length=bs.length:=by simp[bM]
 rcases hrow.2 with⟨hv,hn⟩|⟨g,cap,cur,hv,_⟩
 .rw[hlen]at hn;have:bs=[]:=List.eq_nil_of_length_eq_zero hn;subst this;unfold execOp;simp only[ho,hev,hv,Sem.run_bind,run_convert_bytes_nil w1 src E hs he 0 0 dst hd,Result.andThen_ok,Sem.run_pure];rfl
 .have hstr:strOfNums (bs.map λb=>(b.toNat:Int))=⟨bs.toArray⟩:=by
   unfold strOfNums;congr 1;simp[Function.comp_def]
  have hcell:∀i,i<bs.length->w1.cell? ⟨g,0+i,none⟩=some (.int .u8 ((bs.map λb=>(b.toNat:Int)).getD i 0)):=by
   intro i hi
   have hf:(bM bs).flatten[i*1+0]? =some (.int .u8 (bs[i].toNat:Int)):=
    lW (sz:=1) (e:=[.int .u8 (bs[i].toNat:Int)]) (λe he=>by obtain⟨b,_,rfl⟩:=List.mem_map.1 he;rfl) (by simp[bM,hi]) 0 _ rfl
   have:=hrow.cells (g:=g) (by rw[hv];rfl) _ _ hf;rw[Addr.add_none]at this;simp only[Nat.mul_one,Nat.add_zero]at this;rw[this];simp[hi]
  have hr:=run_convert_bytes_arg (P:=P) w1 src E hs he g 0 bs.length cap (bs.map λb=>(b.toNat:Int)) (by simp) hcell dst hd;rw[hstr]at hr;unfold execOp;simp only[ho,hev,hv,hlen,Sem.run_bind,hr,Result.andThen_ok,Sem.run_pure]
theorem LG(hM:aI B ι σ a w){src dst:Nat}{x:Operand}(ho:o.op= .convert src dst x)(h:HO C o src dst x σ K):OH C ι o σ K a w:=by
 unfold HO at h;split at h
 .rename_i k hk;split at h
  .rename_i E' sz xs E hown hs hd;split at h
   .rename_i he;obtain⟨bs,rfl,h⟩:=h;have hev:=hM.ev x;rw[hk]at hev;have hev:a.eval x=ι k:=hev;obtain⟨hrows,hrow⟩:=oR hM hown;refine⟨_,.at (.val _),λw'' hw''=>?_,rfl,h⟩;have hw'':w''=w:=hw''.resolve_left (by simp[w9,ho,hs]);rw[hw''];exact Cn ho hs he hd hev hrow
   .exact h.elim
  .exact h.elim
 .exact kA hM (λcs b=>by rw[ho];intro e;cases e) h
structure E8(σ:St)(ι:Nat->Value)(o:Oper)(w w':World):Prop where
 cells:∀k p T cs b,nth σ.own k=some (some (.cellsP p T cs))->uZ σ o k=false->ι k= .pointer (some ⟨b,0,none⟩)->w'.heap[b]? =w.heap[b]?
 imm:∀b off v,σ.h b off=some v->w'.cell? ⟨b,off,none⟩=some v
 ext:xA o.op=true->∀b,b<w.heap.size->w'.heap[b]? =w.heap[b]?
 args:∀l b,pM o=some l->b<w.heap.size->σ.m b=none->(∀x∈l,∀k,(σ.ev x= .at (.lst k)\/∃off,σ.ev x= .at (.ptr k off))->blk (ι k)≠some b)->w'.heap[b]? =w.heap[b]?
def Re(B:nS)(C:Ctx)(ι:Nat->Value)(o:Oper)(σ:St)(K:St->Prop)(a:Act)(w:World):Prop:=
 ∀(next:Act->World->Prop)(Q:Exit->Act->World->Prop),(∀ι' σ' a' w',aI B ι' σ' a' w'->K σ'->E8 σ ι o w w'->next a' w')->o.wp C.P a w next Q
theorem Ca(hM:aI B ι σ a w){w':World}(j:Nat)(hj:(∃p T cs,nth σ.own j=some (some (.cellsP p T cs)))->uZ σ o j=true)
 (hb:∀b,b<w.heap.size->¬((∃o',nth σ.own j=some (some o'))/\blk (ι j)=some b)->w'.heap[b]? =w.heap[b]?)(hg:xA o.op=true->∀b,b<w.heap.size->w'.heap[b]? =w.heap[b]?)
 (hl:∀l,pM o=some l->∀b,b<w.heap.size->w'.heap[b]? =w.heap[b]?):E8 σ ι o w w':=by
 refine⟨?_,?_,hg,λl b h1 h2 _ _=>hl l h1 b h2⟩
 .intro k p T cs b hk ht hι;have hok:=hM.own k _ hk;have hbk:blk (ι k)=some b:=by rw[hι];rfl
  refine hb b (nQ hok hbk) ?_;rintro⟨⟨o',ho'⟩,hbj⟩;have:=hM.dist k j _ _ b hk ho' hbk hbj;subst this;rw[hj ⟨p,T,cs,hk⟩]at ht;cases ht
 .intro b off v hv;have h1:=hM.wrel.hsat b off v hv;have hlt:b<w.heap.size:=World.block_lt_of_cell? w ⟨b,off,none⟩ h1
  have h2:=hb b hlt (by
   rintro⟨⟨o',ho'⟩,hbj⟩;have:=(hM.fresh j o' b ho' hbj).2.2 off;rw[hv]at this;cases this)
  rw[<-h1];exact World.cell?_of_block (w:=w) (w':=w') (a:=⟨b,off,none⟩) h2
theorem zS{d:Nat}(hd:o.dst=some d):uZ σ o d=true:=by
 unfold uZ;simp[hd]
theorem jB(w:World)(ob:Obj):(w.alloc ob).heap[w.heap.size]? =some ob:=by
 show(w.heap.push ob)[w.heap.size]? =_;simp
theorem eO(w:World)(ob:Obj){b:Nat}(h:b<w.heap.size):(w.alloc ob).heap[b]? =w.heap[b]? :=by
 show(w.heap.push ob)[b]? =_;rw[Array.getElem?_push,if_neg aC]
theorem Rr(S:Nat->Prop)(w:World)(ob:Obj):A8 S w (w.alloc ob):=
 ⟨rfl,rfl,rfl,Nat.le_refl _,by show w.heap.size<=(w.heap.push ob).size;simp,λb hb _=>eO w ob hb⟩
theorem Dp(hM:aI B ι σ a w){d:Nat}(hd:o.dst=some d){ob:Obj}{ow:Own}{v:Value}{x:SV}(hv:blk v=some w.heap.size)(hone:v.oneCell'=true)
 (ho:Bd (upd ι d v) (w.alloc ob) v ow)(hx:Den (upd ι d v) x v)
 {next:Act->World->Prop}(hnext:∀ι' σ' a' w',aI B ι' σ' a' w'->K σ'->E8 σ ι o w w'->next a' w')
 (hK:K (((σ.kill d).setOwn d (some ow)).put (some d) x)):next (a.put o.dst v) (w.alloc ob):=by
 rw[hd];refine hnext (upd ι d v) _ _ _ ?_ hK ?_
 .refine aI.put ?_ (some d) hx;exact hM.place d ow v (Rr _ w ob) ho hone (λb hb=>by rw[hv]at hb;simp at hb;left;omega)
 .exact Ca hM d (λ_=>zS hd) (λb hb _=>eO w ob hb) (λ_ b hb=>eO w ob hb) (λ_ _ b hb=>eO w ob hb)
theorem Ra(hM:aI B ι σ a w){T:Nat}(ho:o.op= .alloc T)(h:Ox C o T σ K):Re B C ι o σ K a w:=by
 intro next Q hnext
 unfold Ox at h;split at h
 .rename_i d z hd hz;obtain⟨it,v,hit,hv,rfl⟩:=yU hz
  have hrun:(execOp a.eval o).run C.P w= .ok (.value (.pointer (some ⟨w.heap.size,0,none⟩))) (w.alloc (.cells v.cells T)):=by
   unfold execOp;simp[ho,Instr.alloc,zeroValue,typeInfo,hit,hv,newVar,newRow]
  unfold Oper.wp;rw[hrun,Oper.upon_value];refine Dp hM hd rfl rfl ?_ (x:=.at (.ptr d 0)) ⟨w.heap.size,by simp,rfl⟩ hnext h;exact⟨w.heap.size,v.cells,rfl,jB _ _,gJ.vals.2 rfl,λ_ e=>by cases e⟩
 .exact h.elim
theorem Nh(hM:aI B ι σ a w){T:Nat}{x:Operand}(ho:o.op= .box T x)(h:Uu o T x σ K):Re B C ι o σ K a w:=by
 intro next Q hnext
 unfold Uu at h;split at h
 .rename_i d cs hd hcs
  have hrun:(execOp a.eval o).run C.P w= .ok (.value (.pointer (some ⟨w.heap.size,0,none⟩))) (w.alloc (.cells (a.eval x).cells T)):=by
   unfold execOp;simp[ho,Instr.box,newVar,newRow]
  unfold Oper.wp;rw[hrun,Oper.upon_value];refine Dp hM hd rfl rfl ?_ (x:=.at (.ptr d 0)) ⟨w.heap.size,by simp,rfl⟩ hnext h;exact⟨w.heap.size,_,rfl,jB _ _,gJ.sub (f:=λ_=>.junk) (λ_ _ _ _=>trivial) (yQ hM.one (hM.ev x) hcs),λ_ e=>by cases e⟩
 .exact h.elim
end
end Go.Vc
namespace Go.Vc
open Go
section
variable{B:nS}{C:Ctx}{ι:Nat->Value}{σ:St}{a:Act}{w:World}{o:Oper}{K:St->Prop}
theorem Yw(hM:aI B ι σ a w){k E sz:Nat}{xs:List (List Value)}(hk:nth σ.own k=some (some (.lst E sz xs))):
 ∃(s:Sl)(h':PH),PH.le σ.h h'/\cW h' s sz xs/\ι k=s.val/\
  aI B ι {(σ.sub k (λ |.lst _=>.val s.val|_=>.junk)).setOwn k none with h:=h'} a w/\
  Fz σ {(σ.sub k (λ |.lst _=>.val s.val|_=>.junk)).setOwn k none with h:=h'}:=by
 obtain⟨hrows,hown⟩:=oR hM hk;have hnc:∀p T cs,nth σ.own k≠some (some (.cellsP p T cs)):=λp T cs e=>by rw[hk]at e;cases e
 have hsub:∀(s:Sl),ι k=s.val->aI B ι ((σ.sub k (λ |.lst _=>.val s.val|_=>.junk)).setOwn k none) a w:=by
  intro s hs
  have:=hM.drop k (ι k) (hM.one k) (λ |.lst _=>.val s.val|_=>.junk) (by
   intro x v hx hd;cases x<;>simp only[At.key,Option.some.injEq,reduceCtorEq]at hx
   case ptr=>trivial
   case el=>trivial
   case lst j=>
    subst hx;have hd:v=ι j:=hd;show v=s.val;rw[hd,hs])
  rwa [Fe]at this
 rcases hown.2 with⟨hv,hn⟩|⟨g,cap,cur,hv,_,hg,hnc',hcm,hcs,htake⟩
 .have hx:xs=[]:=List.eq_nil_of_length_eq_zero hn;refine⟨⟨none,0,0⟩,σ.h,⟨λ_ _ _ h=>h⟩,⟨by simp[hx],.inl hx,Nat.le_refl _⟩,hv,hsub _ hv,?_⟩;exact WO (m:=σ.m) (h:=σ.h) rfl (λx j o=>by cases x<;>simp) (λx j=>by cases x<;>simp) hnc (λ_ _ _ h=>h)
 .have hfr:=hM.fresh k _ g hk (by rw[hv];rfl)
  let h':PH:=λb o=>if b=g then xs.flatten[o]? else σ.h b o
  have hle:∀b o v,σ.h b o=some v->h' b o=some v:=by
   intro b o v hh;show(if b=g then _ else _)=_;rw[if_neg (λe=>by subst e;rw[hfr.2.2 o]at hh;cases hh)];exact hh
  have hs:ι k=Sl.val ⟨some ⟨g,0,none⟩,xs.length,cap⟩:=hv;refine⟨⟨some ⟨g,0,none⟩,xs.length,cap⟩,h',⟨hle⟩,⟨rfl,.inr ⟨g,0,rfl,?_⟩,hnc'⟩,hs,?_,?_⟩
  .intro i e hi;constructor;intro j v hj;show(if g=g then _ else _)=_;rw[if_pos rfl,Nat.zero_add];exact lW hrows.len hi j v hj
  .have hM1:=hsub _ hs
   have hgone:∀j o',nth ((σ.sub k (λ |.lst _=>.val (Sl.val ⟨some ⟨g,0,none⟩,xs.length,cap⟩)|_=>.junk)).setOwn k none).own j=some (some o')->blk (ι j)≠some g:=by
    intro j o' hj hb;obtain⟨hne,o1,ho1,_⟩:=nC hj;exact hne (hM.dist j k _ _ g ho1 hk hb (by rw[hv];rfl))
   refine⟨hM1.slots,hM1.defers,hM1.own,hM1.dist,?_,?_,hM1.one⟩
   .intro j o' b hj hb;obtain⟨h1,h2,h3⟩:=hM1.fresh j o' b hj hb;refine⟨h1,h2,λi=>?_⟩;show(if b=g then _ else _)=_;rw[if_neg (λe:b=g=>hgone j o' hj (by rw[<-e];exact hb))];exact h3 i
   .have hw:=hM.wrel;refine⟨hw.tape,hw.os,hw.output,hw.drawn,hw.size,hw.frame,?_,hw.msat,?_,λb o v h=>hle b o v (hw.hle b o v h),?_,hw.mfr⟩
    .intro b off v hh;have hh:(if b=g then xs.flatten[off]? else σ.h b off)=some v:=hh;by_cases e:b=g
     .subst e;rw[if_pos rfl]at hh;have:=hown.cells (g:=b) (by rw[hv];rfl) off v hh
      rwa [Addr.add_none,Nat.zero_add]at this
     .rw[if_neg e]at hh;exact hw.hsat b off v hh
    .intro b ob hm i;show(if b=g then _ else _)=_;rw[if_neg (λe=>by subst e;have:=hfr.2.1;simp only[St.setOwn,St.sub]at hm;rw[this]at hm;cases hm)];exact hw.disj b ob hm i
    .intro b hb hE;funext i;show(if b=g then _ else _)=_
     rw[if_neg (λe=>by subst e;rcases hfr.1 with h1|h1; · omega
                       .exact hE h1)]
     exact congrFun (hw.hold b hb hE) i
  .exact WO (m:=σ.m) (h:=h') rfl (λx j o=>by cases x<;>simp) (λx j=>by cases x<;>simp) hnc hle
theorem lV:∀(ks:List Nat)(σ:St),aI B ι σ a w->qR σ K ks->∃σ',aI B ι σ' a w/\K σ'/\Fz σ σ'
 |[],σ,hM,h=>⟨σ,hM,h,Fz.refl σ⟩
 |k::ks,σ,hM,h=>by
  simp only[qR]at h;split at h
  .rename_i E sz xs hk;obtain⟨s,h',hle,hrow,_,hM1,hfz⟩:=Yw hM hk;obtain⟨σ',hM',hK,hfz'⟩:=lV ks _ hM1 (h s h' hle hrow);exact⟨σ',hM',hK,hfz.trans hfz'⟩
  .exact h.elim
theorem C6{P:Program}{T E:Nat}{z:List Value}(h:elemOf P T=some (E,z)):
 ∃i v,P.underlying T=some (.slice E)/\P.info? E=some i/\i.zero=some v/\z=v.cells.toList/\v.cells.size=i.size/\P.cellsOf E=i.size/\0<i.size/\∀u∈z,u.oneCell'=true:=by
 unfold elemOf at h;split at h
 .rename_i E' hu;split at h
  .rename_i z' hz;split at h
   .rename_i h1 h2 h3;simp only[Option.some.injEq,Prod.mk.injEq]at h;obtain⟨rfl,rfl⟩:=h;obtain⟨i,v,hi,hv,rfl⟩:=yU hz;have hc:P.cellsOf E'=i.size:=by simp[Program.cellsOf,hi]
    have h1:=Nat.eq_of_beq_eq_true h1;refine⟨i,v,hu,hi,hv,rfl,by simpa[hc]using h1,hc,?_,λu hu=>(List.all_eq_true.1 h3) u hu⟩;rcases Nat.eq_zero_or_pos i.size with e|e
    .rw[hc,e]at h2;simp at h2
    .exact e
   .cases h
  .cases h
 .cases h
theorem cD{sz:Nat}:∀{xs:List (List Value)},(∀e∈xs,e.length=sz)->xs.flatten.length=xs.length*sz
 |[],_=>by simp
 |x::xs,h=>by
  rw[List.flatten_cons,List.length_append,cD (λe he=>h e (by simp[he])),h x (by simp),List.length_cons,Nat.succ_mul];omega
theorem Cp(hM:aI B ι σ a w){sz:Nat}(hsz:0<sz):∀(parts:List (Nat×Operand))(es:List (List Value))(out:List (List Value)),eV sz es->A4 σ sz parts es=some out->
 eV sz out/\out.length=es.length/\Instr.fill (λi=>some (i*sz,sz)) es.flatten.toArray (parts.map λp=>(p.1,a.eval p.2))=some out.flatten.toArray
 |[],es,out,hr,h=>by simp[A4]at h;subst h;exact⟨hr,rfl,rfl⟩
 |(i,x)::parts,es,out,hr,h=>by
  simp only[A4]at h;split at h
  .rename_i cs hcs;split at h
   .rename_i l hl;split at h
    .rename_i hlen hle hst;have hlen:=Nat.eq_of_beq_eq_true hlen;have hle:=Nat.le_of_ble_eq_true hle;have hd:=yQ hM.one (hM.ev x) hcs;rw[AS hl,gJ.vals]at hd
     have hone:∀u∈l,u.oneCell'=true:=by
      intro u hu;have hcs':=AS hl;clear hd hl
      have:∀(cs:List At),pO cs=true->∀x∈cs,x.storable=true:=by
       intro cs
       induction cs with
       |nil=>intro _ x hx;cases hx
       |cons y r ih=>
        intro hs x hx;simp only[pO]at hs;split at hs
        .rename_i hy;rcases List.mem_cons.1 hx with rfl|hx
         .exact hy
         .exact ih hs x hx
        .cases hs
      have h1:=this cs hst (.val u) (by rw[hcs'];exact List.mem_map.2 ⟨u,hu,rfl⟩);cases u<;>first|rfl|(simp[At.storable]at h1)
     have hr':eV sz (es.set i l):=by
      constructor
      .intro e he;rcases List.mem_or_eq_of_mem_set he with h1|h1
       .exact hr.len e h1
       .rw[h1];exact hlen
      .intro e he;rcases List.mem_or_eq_of_mem_set he with h1|h1
       .exact hr.one e h1
       .rw[h1];exact hone
     obtain⟨h1,h2,h3⟩:=Cp hM hsz parts (es.set i l) out hr' h;refine⟨h1,by simpa using h2,?_⟩;simp only[List.map_cons]
     have hflat:∀(es:List (List Value))(i:Nat),(∀e∈es,e.length=sz)->i<es.length->splice es.flatten (i*sz) l=(es.set i l).flatten:=by
      intro es
      induction es with
      |nil=>intro i _ hi;simp at hi
      |cons e r ih=>
       intro i hlen' hi;have he:e.length=sz:=hlen' e (by simp);cases i with
       |zero=>
        simp only[splice,Nat.zero_mul,List.take_zero,List.nil_append,Nat.zero_add,List.flatten_cons,List.set_cons_zero,hlen];rw[<-he,List.drop_left]
       |succ i=>
        have:=ih i (λe he=>hlen' e (by simp[he])) (by simpa using hi);simp only[List.flatten_cons,List.set_cons_succ, <-this,splice];have e1:(i+1)*sz=e.length+i*sz:=by rw[he,Nat.succ_mul];omega
        rw[e1,List.take_length_add_append,show e.length+i*sz+l.length=e.length+(i*sz+l.length)by omega,List.drop_length_add_append];simp
     have htot:=cD hr.len;rw[Mh rfl (by rw[<-hlen, <-hd];simp) (by rw[<-Array.length_toList,hd];simp only[List.size_toArray,htot,hlen];rw[<-Nat.succ_mul];exact Nat.mul_le_mul_right _ hle),hd];rw[hflat es i hr.len aC];exact h3
    .cases h
   .cases h
  .cases h
end
end Go.Vc
namespace Go.Vc
open Go
section
variable{B:nS}{C:Ctx}{ι:Nat->Value}{σ:St}{a:Act}{w:World}{o:Oper}{K:St->Prop}
theorem Gf{z:Array Value}{sz:Nat}(hz:z.size=sz)(hs:0<sz)(n:Nat):(madeCells z (n*sz)).toList=(List.replicate n z.toList).flatten:=by
 apply List.ext_getElem?;intro j;by_cases hj:j<n*sz
 .have hq:j/sz<n:=Nat.div_lt_of_lt_mul (by rw[Nat.mul_comm];exact hj);have hm:j%sz<sz:=Nat.mod_lt _ hs;have h1:=lW (xs:=List.replicate n z.toList) (sz:=sz) (i:=j/sz) (e:=z.toList) (λe he=>by rw[List.eq_of_mem_replicate he];simpa using hz) (by simp[hq]) (j%sz) z[j%sz] (by simp[hz,hm]);rw[show j/sz*sz+j%sz=j by rw[Nat.mul_comm];exact Nat.div_add_mod j sz]at h1;rw[h1];simp[madeCells,hj,hz,hm]
 .rw[List.getElem?_eq_none,List.getElem?_eq_none]
  .rw[cD (sz:=sz) (λe he=>by rw[List.eq_of_mem_replicate he];simpa using hz)];simp;omega
  .simp[madeCells];omega
theorem mO{z:List Value}{sz:Nat}(hz:z.length=sz)(h1:∀u∈z,u.oneCell'=true)(n:Nat):eV sz (List.replicate n z):=
 ⟨λe he=>by rw[List.eq_of_mem_replicate he];exact hz,λe he=>by rw[List.eq_of_mem_replicate he];exact h1⟩
theorem JN{τ:St}(hf:Fz σ τ){k:Nat}(h:uZ σ o k=false):uZ τ o k=false:=by
 have hp:∀(l:List Operand)(j:Nat),j∈mH τ l->j∈mH σ l:=by
  intro l
  induction l with
  |nil=>intro j hj;cases hj
  |cons x r ih=>
   intro j hj
   have hm:∀(υ:St)(j:Nat),j∈mH υ (x::r)↔(∃off,υ.ev x= .at (.ptr j off))\/j∈mH υ r:=by
    intro υ j;simp only[mH];split
    .rename_i k' off hx;split
     .rename_i hc;constructor
      .exact .inr
      .rintro(⟨off',h'⟩|h')
       .rw[hx]at h';simp at h';rw[<-h'.1];simpa using hc
       .exact h'
     .constructor
      .intro h';rcases List.mem_cons.1 h' with rfl|h'
       .exact .inl ⟨off,hx⟩
       .exact .inr h'
      .rintro(⟨off',h'⟩|h')
       .rw[hx]at h';simp at h';rw[<-h'.1];exact List.mem_cons_self
       .exact List.mem_cons_of_mem _ h'
    .rename_i hx;constructor
     .exact .inr
     .rintro(⟨off',h'⟩|h')
      .exact absurd h' (hx j off')
      .exact h'
   rw[hm]at hj⊢
   rcases hj with⟨off,hj⟩|hj
   .exact .inl ⟨off,hf.ptr _ _ _ hj⟩
   .exact .inr (ih j hj)
 unfold uZ at h⊢
 rw[Bool.or_eq_false_iff]at h⊢
 refine⟨h.1,?_⟩;have h2:=h.2;split at h2
 .rename_i t x v hop;split
  .rename_i j off hx;rw[hf.ptr _ _ _ hx]at h2;exact h2
  .rfl
 .rename_i c hop;split at h2
  .rename_i f hc;simp only[List.contains_eq_mem,decide_eq_false_iff_not]at h2⊢
   intro hk;exact h2 (hp _ _ hk)
  .rfl
 .rfl
theorem E8.of_fz{τ:St}{w':World}(hf:Fz σ τ)(h:E8 τ ι o w w'):E8 σ ι o w w':=
 ⟨λk p T cs b hk ht hι=>let⟨cs',hk'⟩:=hf.cells k p T cs hk;h.cells k p T cs' b hk' (JN hf ht) hι,λb off v hv=>h.imm b off v (hf.imm b off v hv),h.ext,λl b h1 h2 h3 h4=>h.args l b h1 h2 (by rw[hf.m_];exact h3) (λx hx k hk=>h4 x hx k (hk.imp (hf.lst x k) (λ⟨off,e⟩=>⟨off,hf.ptr x k off e⟩)))⟩
theorem U5(ps:Array (Nat×Operand))(a:Act):(ps.map fun(i,x)=>(i,a.eval x)).toList=ps.toList.map λp=>(p.1,a.eval p.2):=by simp
theorem HS(hM:aI B ι σ a w){T n:Nat}{ps:Array (Nat×Operand)}(ho:o.op= .buildSlice T n ps)(h:Ch C o T n ps.toList σ K):Re B C ι o σ K a w:=by
 intro next Q hnext
 unfold Ch at h;obtain⟨τ,hMτ,h,hfz⟩:=lV _ _ hM h;split at h
 .rename_i d E z hd hE;split at h
  .rename_i es hes hle;obtain⟨it,v,hu,hi,hv,rfl,hsz,hc,hpos,hone⟩:=C6 hE;rw[hc]at hes hle h;have hle:=Nat.le_of_ble_eq_true hle;obtain⟨hr,hlen,hfill⟩:=Cp hMτ hpos ps.toList _ es (mO (by simpa using hsz) hone n) hes;simp only[List.length_replicate]at hlen
   have hrun:(execOp a.eval o).run C.P w= .ok (.value (.slice (some ⟨w.heap.size,0,none⟩) n n)) (w.alloc (.cells es.flatten.toArray E)):=by
    have hb:(Instr.buildSlice T n (ps.map fun(i,x)=>(i,a.eval x))).run C.P w= .ok (.slice (some ⟨w.heap.size,0,none⟩) n n) (w.alloc (.cells es.flatten.toArray E)):=by
     by_cases hz:n*it.size=0
     .have hn:n=0:=by rcases Nat.mul_eq_zero.1 hz with h|h<;>omega
      subst hn;have:es=[]:=List.eq_nil_of_length_eq_zero hlen;subst this;simp only[List.replicate_zero,List.flatten_nil]at hfill;have hr0:Array.map (λ_:Nat=>(default:Value)) (Array.range 0)= #[]:=by simp[Array.range_zero']
      simp[Instr.buildSlice,run_underlying hu,run_sizeOf hi,newRow];rw[hr0,hfill];simp
     .refine run_buildSlice w T E n _ es.flatten.toArray it v hu hi hv aC hz ?_
      have:((Array.range (n*it.size)).map (v.cells[· %v.cells.size]!))=(List.replicate n v.cells.toList).flatten.toArray:=by
       apply Array.toList_inj.1;have:=Gf hsz hpos n;unfold madeCells at this;rw[this]
      rw[this,U5];exact hfill
    unfold execOp;simp only[ho,Sem.run_bind,hb,Result.andThen_ok,Sem.run_pure]
   unfold Oper.wp;rw[hrun,Oper.upon_value];refine Dp hMτ hd rfl rfl ?_ (x:=.at (.lst d)) (by show _=_;simp) (λι' σ' a' w' h1 h2 h3=>hnext ι' σ' a' w' h1 h2 (h3.of_fz hfz)) h;refine⟨hr,cD hr.len,.inr ⟨w.heap.size,n,es.flatten.toArray,by rw[hlen],Nat.zero_le _,jB _ _,aC,?_,?_,?_⟩⟩
   .have:n<=n*it.size:=Nat.le_mul_of_pos_right n hpos;unfold maxLen;omega
   .simp only[List.size_toArray,cD hr.len,hlen]
   .rw[List.take_of_length_le];rw[cD hr.len];exact Nat.le_refl _
  .exact h.elim
 .exact h.elim
theorem II(hM:aI B ι σ a w){T:Nat}{l c:Operand}(ho:o.op= .makeSlice T l c)(h:CQ C o T l c σ K):Re B C ι o σ K a w:=by
 intro next Q hnext
 have hl:=hM.ev l;have hc:=hM.ev c;unfold CQ at h;split at h
 .rename_i d E z kl n kc m hd hE hll hcc;rw[hll]at hl;rw[hcc]at hc;have hl:a.eval l= .int kl n:=hl;have hc:a.eval c= .int kc m:=hc;obtain⟨it,v,hu,hi,hv,rfl,hsz,hcs,hpos,hone⟩:=C6 hE;obtain⟨h0,h1,h2,h3,h⟩:=h;rw[hcs]at h;have hby:C.P.bytesOf E=it.bytes:=by simp[Program.bytesOf,hi]
  rw[hby,Int.mul_comm]at h2
  have hrun:(execOp a.eval o).run C.P w= .ok (.value (.slice (some ⟨w.heap.size,0,none⟩) n.toNat m.toNat)) (w.alloc (.cells (madeCells v.cells (m.toNat*it.size)) E)):=by
   unfold execOp;simp only[ho,hl,hc,Sem.run_bind,run_make (P:=C.P) w T E it v hu hi hv kl kc n m h0 h1 h2 aC,Result.andThen_ok,Sem.run_pure]
  unfold Oper.wp;rw[hrun,Oper.upon_value];refine Dp hM hd rfl rfl ?_ (x:=.at (.lst d)) (by show _=_;simp) hnext h;have hzl:v.cells.toList.length=it.size:=by simpa using hsz
  refine⟨mO hzl hone _,cD (mO hzl hone _).len,.inr ⟨w.heap.size,m.toNat,_,by rw[List.length_replicate],Nat.zero_le _,jB _ _,?_,?_,size_madeCells _ _,?_⟩⟩
  .simp;omega
  .unfold maxLen;omega
  .rw[Gf hsz hpos]
   have hsplit:List.replicate m.toNat v.cells.toList=List.replicate n.toNat v.cells.toList++List.replicate (m.toNat-n.toNat) v.cells.toList:=by
    rw[List.replicate_append_replicate];congr 1;omega
   rw[hsplit,List.flatten_append,List.take_left'];rw[cD (mO hzl hone _).len]
 .exact h.elim
theorem sC{P:Program}(w:World)(t tx ty e:TypeId)(i:TypeInfo)(z:Value)(ht:P.underlying t=some (.slice e))(hi:P.info? e=some i)(hz:i.zero=some z)
 (hzs:z.cells.size=i.size)(v:Value)(n:Nat)(xs:List Value)(hown:w.ownsRow 0 e i.size v n xs)(x:Value)(m:Nat)(news:List Value)(hs:Src P i.size tx x m news w)
 (h63:n+m<=maxLen)(hbytes:(n+m)*i.bytes<=140737488355328):
 ∃v' w',(Builtin.append_ #[t,tx] ty #[v,x]).run P w= .ok v' w'/\w'.ownsRow 0 e i.size v' (n+m) (xs++news)/\A8 (λb=>v.ownBlock=some b) w w'/\
  (∀b,v'.ownBlock=some b->w.heap.size<=b\/v.ownBlock=some b)/\v'.oneCell'=true:=by
 have hsmall:n+m<=9223372036854775807:=by simp only[maxLen]at h63;omega
 have hl:=hs.newsLen;have hlen:(xs++news).length=(n+m)*i.size:=by rw[List.length_append,hown.1,hl,Nat.add_mul]
 have grown:∀(old:Nat),old<n+m->∀(S:Nat->Prop),
  (w.drew.alloc (.cells ((xs++news).toArray++Builtin.zeroCells z.cells (grownCap w (n+m) old e-(n+m))) e)).ownsRow 0 e i.size
   (.slice (some ⟨w.heap.size,0,none⟩) (n+m) (grownCap w (n+m) old e)) (n+m) (xs++news)/\
  A8 S w (w.drew.alloc (.cells ((xs++news).toArray++Builtin.zeroCells z.cells (grownCap w (n+m) old e-(n+m))) e)):=by
  intro old ho S;have hge:=grownCap_ge w (n+m) old e;have hcm:grownCap w (n+m) old e<=maxLen:=grownCap_le_maxLen w (n+m) old e h63;refine⟨⟨hlen,.inr ⟨w.heap.size,_,_,rfl,Nat.zero_le _,heap_alloc_new w.drew _,hge,hcm,?_,?_⟩⟩,⟨rfl,rfl,rfl,Nat.le_succ _,by simp,λk hk _=>heap_alloc_old w.drew _ k hk⟩⟩
  .simp only[Array.size_append,List.size_toArray,size_zeroCells,hzs,hlen, <-Nat.add_mul];congr 1;omega
  .simp only[Array.toList_append];rw[<-hlen];exact List.take_left
 rcases hown.2 with⟨rfl,rfl⟩|⟨g,cap,cur,rfl,hbg,hg,hnc,hcm,hcs,htake⟩
 .have hx:xs=[]:=List.eq_nil_of_length_eq_zero (by simpa using hown.1);subst hx;by_cases hm:m=0
  .subst hm;have hn:news=[]:=List.eq_nil_of_length_eq_zero (by simpa using hl);subst hn;refine⟨.slice none 0 0,w,?_,World.ownsRow_nil w 0 e i.size,A8.refl _ _,λb hb=>by simp[Value.ownBlock]at hb,rfl⟩;rcases hs.kind with⟨e',hk⟩|hk<;>simp[Builtin.append_,run_underlying ht,run_underlying hk,sizeOf,typeInfo,hi,hs.len,hs.cells]
  .have hr:=run_append_grow_src (P:=P) w t tx ty e i z ht hi hz none 0 0 [] (by simp[Builtin.firstCells]) x m news hs aC aC (growslice_fits aC hbytes);have hgr:=grown 0 aC (λb=>Value.ownBlock (.slice none 0 0)=some b);exact⟨_,_,hr,hgr.1,hgr.2,λb hb=>by simp[Value.ownBlock]at hb;left;omega,rfl⟩
 .by_cases hroom:n+m<=cap
  .have hfit:n*i.size+news.length<=cur.size:=by rw[hl,hcs, <-Nat.add_mul];exact Nat.mul_le_mul_right _ hroom
   have hst:=run_storeCells_at P g (n*i.size) e news 0 cur w hg (by simpa using hfit) hs.one;simp only[Nat.add_zero]at hst
   have hr:(Builtin.append_ #[t,tx] ty #[.slice (some ⟨g,0,none⟩) n cap,x]).run P w= .ok (.slice (some ⟨g,0,none⟩) (n+m) cap) (w.setRow g (cur.toList.take (n*i.size)++news++cur.toList.drop (n*i.size+news.length)).toArray):=by
    rcases hs.kind with⟨e',hk⟩|hk<;>simp[Builtin.append_,run_underlying ht,run_underlying hk,sizeOf,typeInfo,hi,hs.len,hroom,hs.cells,Addr.add_lit,hst]
   refine⟨_,_,hr,⟨hlen,.inr ⟨g,cap,_,rfl,hbg,setRow_heap w g cur _ e _ hg,hroom,hcm,?_,?_⟩⟩,⟨rfl,rfl,rfl,Nat.le_refl _,by simp,λk _ hk=>setRow_other w g k _ (λe=>hk (by simp[Value.ownBlock,e]))⟩,λb hb=>.inr hb,rfl⟩
   .simp only[List.size_toArray,List.length_append,List.length_take,List.length_drop,Array.length_toList];omega
   .rw[htake, <-hlen];exact List.take_left
  .have holds:∀j u,xs[j]? =some u->w.cell? ((⟨g,0,none⟩:Addr).add j)=some u:=hown.cells (g:=g) rfl
   have hold:(Builtin.firstCells i.size n (.slice (some ⟨g,0,none⟩) n cap)).run P w.drew= .ok xs.toArray w.drew:=
    run_firstCells_some w.drew i.size n ⟨g,0,none⟩ n cap xs hown.1 (by simpa using holds)
   have hr:=run_append_grow_src (P:=P) w t tx ty e i z ht hi hz (some ⟨g,0,none⟩) n cap xs hold x m news hs aC aC (growslice_fits aC hbytes);have hgr:=grown cap aC (λb=>Value.ownBlock (.slice (some ⟨g,0,none⟩) n cap)=some b);exact⟨_,_,hr,hgr.1,hgr.2,λb hb=>by simp[Value.ownBlock]at hb;left;omega,rfl⟩
end
end Go.Vc
namespace Go.Vc
open Go Go.Lib
theorem Ny{z:Array Value}{sz:Nat}(hz:z.size=sz)(hs:0<sz)(n:Nat):(Builtin.zeroCells z n).toList=(List.replicate n z.toList).flatten:=by
 apply List.ext_getElem?;intro j;by_cases hj:j<n*sz
 .have hq:j/sz<n:=Nat.div_lt_of_lt_mul (by rw[Nat.mul_comm];exact hj);have hm:j%sz<sz:=Nat.mod_lt _ hs;have h1:=lW (xs:=List.replicate n z.toList) (sz:=sz) (i:=j/sz) (e:=z.toList) (λe he=>by rw[List.eq_of_mem_replicate he];simpa using hz) (by simp[hq]) (j%sz) z[j%sz] (by simp[hz,hm]);rw[show j/sz*sz+j%sz=j by rw[Nat.mul_comm];exact Nat.div_add_mod j sz]at h1;rw[h1];simp[Builtin.zeroCells,hj,hz,hm]
 .rw[List.getElem?_eq_none,List.getElem?_eq_none]
  .rw[cD (sz:=sz) (λe he=>by rw[List.eq_of_mem_replicate he];simpa using hz)];simp;omega
  .simp[Builtin.zeroCells,hz];omega
theorem GX{P:Program}(w:World)(t tn ty e:TypeId)(i:TypeInfo)(z:Value)(kq kn:IntKind)(ht:P.underlying t=some (.slice e))(htn:P.underlying tn=some (.int kn))(hi:P.info? e=some i)(hz:i.zero=some z)
 (hzs:z.cells.size=i.size)(hs:0<i.size)(k:Nat)(h0:0<k)(hb:k*i.bytes<=140737488355328)(h63:k<=140737488355328):
 ∃v' w',(Builtin.append_ #[t,tn] ty #[.slice none 0 0,.int kq k]).run P w= .ok v' w'/\w'.ownsRow 0 e i.size v' k (List.replicate k z.cells.toList).flatten/\A8 (λ_=>False) w w'/\
  (∀b,v'.ownBlock=some b->w.heap.size<=b)/\v'.oneCell'=true:=by
 have hr:=run_append_grow_zeros w t tn ty e i z kq kn ht htn hi hz none 0 0 [] (run_firstCells_none w.drew i.size 0 0 0) k h0 hs aC aC aC (by rw[Nat.zero_add,nextslicecap_zero h0];omega);rw[Nat.zero_add]at hr;have hge:=grownCap_ge w k 0 e;have hle:=grownCap_le_maxLen w k 0 e (by unfold maxLen;omega);refine⟨_,_,hr,?_,?_,?_,rfl⟩
 .refine⟨cD (sz:=i.size) (λx hx=>by rw[List.eq_of_mem_replicate hx];simpa using hzs) |>.trans (by simp),.inr ⟨w.heap.size,_,_,rfl,Nat.zero_le _,jB _ _,aC,hle,?_,?_⟩⟩
  .simp[Builtin.zeroCells,hzs];rw[<-Nat.add_mul];congr 1;omega
  .simp only[Array.toList_append,Ny hzs hs];rw[List.take_append_of_le_length]
   .simp only[List.nil_append];rw[List.take_of_length_le];rw[cD (sz:=i.size) (λx hx=>by rw[List.eq_of_mem_replicate hx];simpa using hzs)];simp
   .simp only[List.nil_append];rw[cD (sz:=i.size) (λx hx=>by rw[List.eq_of_mem_replicate hx];simpa using hzs)];simp
 .exact⟨rfl,rfl,rfl,Nat.le_succ _,by show w.heap.size<=(w.heap.push _).size;simp,λb hb _=>eO w.drew _ hb⟩
 .intro b hb;simp[Value.ownBlock]at hb;omega
end Go.Vc
namespace Go.Vc
open Go
section
variable{B:nS}{C:Ctx}{ι:Nat->Value}{σ:St}{a:Act}{w:World}{o:Oper}{K:St->Prop}
theorem C2{sz:Nat}:∀{xs:List (List Value)}(_:∀e∈xs,e.length=sz) {j:Nat} {v:Value},xs.flatten[j]? =some v->∃(i:Nat)(e:List Value)(q:Nat),xs[i]? =some e/\e[q]? =some v/\j=i*sz+q
 |[],_,j,v,h=>by simp at h
 |x::xs,hl,j,v,h=>by
  have hx:=hl x (by simp);rw[List.flatten_cons]at h;by_cases hj:j<x.length
  .rw[List.getElem?_append_left hj]at h;exact⟨0,x,j,rfl,h,by simp⟩
  .rw[List.getElem?_append_right aC]at h;obtain⟨i,e,q,h1,h2,h3⟩:=C2 (λe he=>hl e (by simp[he])) h;exact⟨i+1,e,q,by simpa using h1,h2,by rw[Nat.succ_mul];omega⟩
theorem Yj{P:Program}{tx e' E sz:Nat}{v:Value}{ys:List (List Value)}(hk:P.underlying tx=some (.slice e'))(hr:eV sz ys)(ho:w.ownsRow 0 E sz v ys.length ys.flatten):
 Src P sz tx v ys.length ys.flatten w:=by
 have h1:∀u∈ys.flatten,u.oneCell'=true:=λu hu=>by
  obtain⟨e,he,hue⟩:=List.mem_flatten.1 hu;exact hr.one e he u hue
 rcases ho.2 with⟨rfl,hn⟩|⟨g,cap,cur,rfl,_⟩
 .have:ys=[]:=List.eq_nil_of_length_eq_zero hn;subst this;exact Src.ofNil w hk 0
 .exact Src.ofSlice w hk ⟨g,0,none⟩ _ cap _ (cD hr.len) (ho.cells (g:=g) rfl) h1
theorem NM{P:Program}{tx e' sz:Nat}{h:PH}(hk:P.underlying tx=some (.slice e')){ad:Option Addr}{n c:Nat}{ys:List (List Value)}(hr:eV sz ys)(hrow:cW h ⟨ad,n,c⟩ sz ys)
 (hsat:∀b o v,h b o=some v->w.cell? ⟨b,o,none⟩=some v):Src P sz tx (.slice ad n c) ys.length ys.flatten w:=by
 have h1:∀u∈ys.flatten,u.oneCell'=true:=λu hu=>by
  obtain⟨e,he,hue⟩:=List.mem_flatten.1 hu;exact hr.one e he u hue
 have hlen:n=ys.length:=hrow.len;subst hlen;rcases hrow.row with rfl|⟨b,off,hab,hcell⟩
 .refine⟨.inl ⟨e',hk⟩,λ_=>rfl,?_,?_,by simp,λu hu=>by simp at hu⟩
  .cases ad<;>simp[Builtin.firstCells,loadCells,loadCellsFrom]
  .cases ad<;>simp[Builtin.firstCells,loadCells,loadCellsFrom]
 .have hab:ad=some ⟨b,off,none⟩:=hab;subst hab;refine Src.ofSlice w hk ⟨b,off,none⟩ _ c _ (cD hr.len) ?_ h1;intro j u hj;obtain⟨i,e,q,hi,hq,rfl⟩:=C2 hr.len hj;rw[Addr.add_none];have:=hsat _ _ _ ((hcell i e hi).rd q u hq);rw[<-Nat.add_assoc];exact this
theorem E4(s:ByteArray):(iK s).flatten=byteCells s:=by
 unfold iK byteCells
 induction s.data.toList with
 |nil=>rfl
 |cons b r ih=>simp[ih]
theorem NL(hM:aI B ι σ a w){sz tx:Nat}{y:Operand}{R:List (List Value)->Prop}{lent:Bool}(h:H9 C.P lent σ sz tx (σ.ev y) R):
 ∃ys,eV sz ys/\Src C.P sz tx (a.eval y) ys.length ys.flatten w/\R ys:=by
 have hev:=hM.ev y;unfold H9 at h;split at h
 .rename_i k e' hk hu;rw[hk]at hev;have hev:a.eval y=ι k:=hev;split at h
  .rename_i E s ys hown;split at h
   .rename_i hs;have hs:=Nat.eq_of_beq_eq_true hs;subst hs;obtain⟨hr,ho⟩:=oR hM hown;exact⟨ys,hr,by rw[hev];exact Yj hu hr ho,h⟩
   .exact h.elim
  .exact h.elim
 .rename_i ad n c e' hk hu;rw[hk]at hev;have hev:a.eval y= .slice ad n c:=hev;obtain⟨ys,hr,hrow,h⟩:=h;refine⟨ys,hr,?_,h⟩;rw[hev];cases lent with
  |false=>exact NM hu hr hrow hM.wrel.hsat
  |true=>
   cases hrow with
   |imm hrow=>exact NM hu hr hrow hM.wrel.hsat
   |lent b o cs E fz hs hn hm hl=>
    have hs:ad=some ⟨b,o,none⟩:=hs;have hn:n=ys.length:=hn;subst hs hn
    have h1:∀u∈ys.flatten,u.oneCell'=true:=λu hu=>by
     obtain⟨e,he,hue⟩:=List.mem_flatten.1 hu;exact hr.one e he u hue
    refine Src.ofSlice w hu ⟨b,o,none⟩ _ c _ (cD hr.len) ?_ h1;intro j u hj;rw[Addr.add_none,cell_of_heap (hM.wrel.msat b _ hm)];rw[<-hl]at hj;have hlt:=(List.getElem?_eq_some_iff.1 hj).1;rw[List.getElem?_take,if_pos (by rw[List.length_take]at hlt;omega),List.getElem?_drop]at hj;exact hj
 .rename_i s hk hu;rw[hk]at hev;have hev:a.eval y= .string s:=hev;split at h
  .rename_i hs;have hs:=Nat.eq_of_beq_eq_true hs;subst hs;refine⟨iK s,⟨λe he=>by obtain⟨b,_,rfl⟩:=List.mem_map.1 he;rfl,λe he u hu'=>by obtain⟨b,_,rfl⟩:=List.mem_map.1 he;simp at hu';subst hu';rfl⟩,?_,h⟩;rw[hev,E4];have hl:(iK s).length=s.size:=by simp[iK]
   rw[hl];exact Src.ofString w hu s
  .exact h.elim
 .exact h.elim
theorem A8.mono{S S':Nat->Prop}{w w':World}(h:A8 S w w')(hs:∀b,S b->S' b):A8 S' w w':=⟨h.tape,h.os,h.output,h.drawn,h.size,λb hb hn=>h.block b hb (λhs'=>hn (hs b hs'))⟩
theorem Br{v:Value}{b:Nat}(h:v.ownBlock=some b):blk v=some b:=by
 cases v<;>simp[Value.ownBlock]at h
 case slice ad n c=>cases ad<;>simp at h;simpa[blk]using h
theorem AF{sz:Nat}{xs ys:List (List Value)}(hx:eV sz xs)(hy:eV sz ys):eV sz (xs++ys):=
 ⟨λe he=>(List.mem_append.1 he).elim (hx.len e) (hy.len e),λe he=>(List.mem_append.1 he).elim (hx.one e) (hy.one e)⟩
theorem u6{E sz n:Nat}{v:Value}{l:List Value}(h:w.ownsRow 0 E sz v n l){b:Nat}(hb:blk v=some b):v.ownBlock=some b:=by
 rcases h.2 with⟨rfl,_⟩|⟨g,cap,cur,rfl,_⟩
 .simp[blk]at hb
 .simpa[blk,Value.ownBlock]using hb
theorem WI(hM:aI B ι σ a w){w':World}{m':MH}{S:Nat->Prop}(he:A8 S w w')(hS:∀b,S b->σ.m b≠none)(hm':∀b o,m' b=some o->w'.heap[b]? =some o/\(σ.m b≠none\/w.heap.size<=b)):
 aI B ι {σ with m:=m'} a w'/\∀o,xA o.op=false->E8 σ ι o w w':=by
 have hw:=hM.wrel
 have hnone:∀b,w.heap.size<=b->∀i,σ.h b i=none:=by
  intro b hb i;cases e:σ.h b i with
  |none=>rfl
  |some v=>have:=World.block_lt_of_cell? w ⟨b,i,none⟩ (hw.hsat _ _ _ e);simp at this;omega
 have hSh:∀b,S b->∀i,σ.h b i=none:=by
  intro b hb i;cases e:σ.m b with
  |none=>exact absurd e (hS b hb)
  |some x=>exact hw.disj b x e i
 have hnb:∀k o' b,nth σ.own k=some (some o')->blk (ι k)=some b->¬S b:=by
  intro k o' b hk hb hs;exact hS b hs (hM.fresh k o' b hk hb).2.1
 have hcell:∀b i v,σ.h b i=some v->w'.cell? ⟨b,i,none⟩=some v:=by
  intro b i v hv;have h2:=hw.hsat b i v hv;rw[<-h2];exact World.cell?_of_block (w:=w) (w':=w') (a:=⟨b,i,none⟩) (he.block b (World.block_lt_of_cell? w ⟨b,i,none⟩ h2) (λhs=>by rw[hSh b hs i]at hv;cases hv))
 refine⟨⟨hM.slots,hM.defers,λk o' hk=>(hM.own k o' hk).world (λb hb=>he.block b (nQ (hM.own k o' hk) hb) (hnb k o' b hk hb)),hM.dist,?_,?_,hM.one⟩,λo hg=>⟨?_,hcell,λh=>(by rw[hg]at h;cases h),λl b _ h1 h2 _=>he.block b h1 (λhs=>hS b hs h2)⟩⟩
 .intro k o' b hk hb;obtain⟨f1,f2,f3⟩:=hM.fresh k o' b hk hb;refine⟨f1,?_,f3⟩;show m' b=none;cases e:m' b with
  |none=>rfl
  |some x=>
   rcases(hm' b x e).2 with h1|h1
   .exact absurd f2 h1
   .have:=nQ (hM.own k o' hk) hb;omega
 .refine⟨he.tape.trans hw.tape,he.os.trans hw.os,he.output.trans hw.output,Nat.le_trans hw.drawn he.drawn,Nat.le_trans hw.size he.size,?_,hcell,λb o e=>(hm' b o e).1,?_,hw.hle,hw.hold,?_⟩
  .intro b hb hE;rw[he.block b (Nat.lt_of_lt_of_le hb hw.size) (λhs=>?_)]
   .exact hw.frame b hb hE
   .cases e:σ.m b with
    |none=>exact hS b hs e
    |some x=>
     rcases hw.mfr b x e with h1|h1
     .omega
     .exact hE h1
  .intro b o e i;rcases(hm' b o e).2 with h1|h1
   .cases e2:σ.m b with
    |none=>exact absurd e2 h1
    |some x=>exact hw.disj b x e2 i
   .exact hnone b h1 i
  .intro b o e;rcases(hm' b o e).2 with h1|h1
   .cases e2:σ.m b with
    |none=>exact absurd e2 h1
    |some x=>exact hw.mfr b x e2
   .exact .inl (Nat.le_trans hw.size h1)
 .intro k p T cs b hk _ hι;have hb:blk (ι k)=some b:=by rw[hι];rfl
  exact he.block b (nQ (hM.own k _ hk) hb) (hnb k _ b hk hb)
theorem Ov(hM:aI B ι σ a w){T tx:Nat}{x y:Operand}{c:Call}(ho:o.op= .call c)(hc:c.callee= .builtin .append)(hx:c.args.toList=[x,y])(ht:c.argTypes.toList=[T,tx])
 (h:La C o T tx x y σ K):Re B C ι o σ K a w:=by
 intro next Q hnext
 have hargs:c.args= #[x,y]:=by apply Array.toList_inj.1;simpa using hx
 have htys:c.argTypes= #[T,tx]:=by apply Array.toList_inj.1;simpa using ht
 unfold La at h;split at h
 .rename_i d E z hd hE;obtain⟨it,zv,hu,hi,hv,rfl,hsz,hcs,hpos,hone⟩:=C6 hE;have hby:C.P.bytesOf E=it.bytes:=by simp[Program.bytesOf,hi]
  have hrun:∀v' w',(Builtin.append_ #[T,tx] o.type #[a.eval x,a.eval y]).run C.P w= .ok v' w'->(execOp a.eval o).run C.P w= .ok (.value v') w':=by
   intro v' w' hr;unfold execOp;simp only[ho,resolve,hc,hargs,htys,invoke,builtin,Sem.run_bind,Sem.run_pure,Result.andThen_ok,List.map_toArray,List.map_cons,List.map_nil];rw[hr];rfl
  have mcase:∀(ad:Option Addr)(n cp:Nat),σ.ev x= .at (.val (.slice ad n cp))->(∃xs:List (List Value),dW σ.m ⟨ad,n,cp⟩ E (C.P.cellsOf E) xs/\
   H9 C.P (L6 C) σ (C.P.cellsOf E) tx (σ.ev y) λys=>
    (xs.length+ys.length)*C.P.bytesOf E<=140737488355328/\xs.length+ys.length<=140737488355328/\
    ∀(s':Sl)(m':MH),eZ σ.m m' ⟨ad,n,cp⟩ s' E (C.P.cellsOf E) (xs++ys)->K ({σ with m:=m'}.put (some d) (.at (.val s'.val))))->o.wp C.P a w next Q:=by
   intro ad n cp hxx h;have hev:=hM.ev x;rw[hxx]at hev;have hev:a.eval x= .slice ad n cp:=hev;obtain⟨xs,hrow,h⟩:=h;obtain⟨ys,hr,hsrc,hb1,hb2,h⟩:=NL hM h;rw[hcs]at hr hsrc h;rw[hby]at hb1;have hrows:=hrow.rows;rw[hcs]at hrows
   have hox:w.ownsRow 0 E it.size (.slice ad n cp) xs.length xs.flatten:=by
    refine⟨cD hrows.len,?_⟩;rcases hrow.ex with⟨e1,e2⟩|⟨b,cap,cur,e1,hm,h1,h2,h3,h4⟩
    .simp only[Sl.mk.injEq]at e1;obtain⟨rfl,rfl,rfl⟩:=e1;exact .inl ⟨rfl,by rw[e2];rfl⟩
    .simp only[Sl.mk.injEq]at e1;obtain⟨rfl,rfl,rfl⟩:=e1;exact .inr ⟨b,_,cur,rfl,Nat.zero_le _,hM.wrel.msat b _ hm,h1,h2,by rw[<-hcs];exact h3,by rw[<-hcs];exact h4⟩
   have hblkm:∀b,Value.ownBlock (.slice ad n cp)=some b->σ.m b≠none:=by
    intro b hb;rcases hrow.ex with⟨e1,e2⟩|⟨b',cap,cur,e1,hm,_⟩
    .simp only[Sl.mk.injEq]at e1;obtain⟨rfl,rfl,rfl⟩:=e1;simp[Value.ownBlock]at hb
    .simp only[Sl.mk.injEq]at e1;obtain⟨rfl,rfl,rfl⟩:=e1;simp[Value.ownBlock]at hb;subst hb;rw[hm];simp
   obtain⟨v',w',hrr,hown',hext,hblk,hone'⟩:=sC (P:=C.P) w T tx o.type E it zv hu hi hv hsz (.slice ad n cp) xs.length xs.flatten hox (a.eval y) ys.length ys.flatten hsrc (by unfold maxLen;omega) hb1;rw[<-List.flatten_append, <-List.length_append]at hown'
   obtain⟨ad',n',cp',rfl⟩:∃ad' n' cp',v'= .slice ad' n' cp':=by
    rcases hown'.2 with⟨e,_⟩|⟨g,cap,cur,e,_⟩
    .exact⟨_,_,_,e⟩
    .exact⟨_,_,_,e⟩
   let m':MH:=λb=>if Value.ownBlock (.slice ad' n' cp')=some b then w'.heap[b]? else if Value.ownBlock (.slice ad n cp)=some b then none else σ.m b
   have hm'b:∀b,Value.ownBlock (.slice ad' n' cp')=some b->m' b=w'.heap[b]? :=λb hb=>by simp only[m',if_pos hb]
   obtain⟨hM1,hk⟩:=WI (m':=m') hM hext hblkm (by
    intro b ob hb;by_cases e1:Value.ownBlock (.slice ad' n' cp')=some b
    .rw[hm'b b e1]at hb;refine⟨hb,?_⟩;rcases hblk b e1 with h1|h1
     .exact .inr h1
     .exact .inl (hblkm b h1)
    .by_cases e2:Value.ownBlock (.slice ad n cp)=some b
     .simp only[m',if_neg e1,if_pos e2]at hb;cases hb
     .simp only[m',if_neg e1,if_neg e2]at hb;refine⟨?_,.inl (by rw[hb];simp)⟩;have h1:=hM.wrel.msat b ob hb;rw[hext.block b (Array.getElem?_eq_some_iff.1 h1).1 e2];exact h1)
   unfold Oper.wp;rw[hrun _ w' (by rw[hev];exact hrr),Oper.upon_value,hd];refine hnext ι _ _ _ (hM1.put (some d) (x:=.at (.val (.slice ad' n' cp'))) rfl) (h ⟨ad',n',cp'⟩ m' ⟨⟨?_,?_⟩,?_,?_⟩) (hk o (by rw[ho];rfl))
   .exact AF hrows hr
   .rcases hown'.2 with⟨e1,e2⟩|⟨b,cap,cur,e1,_,hh,h1,h2,h3,h4⟩
    .simp only[Value.slice.injEq]at e1;obtain⟨rfl,rfl,rfl⟩:=e1;exact .inl ⟨rfl,List.eq_nil_of_length_eq_zero e2⟩
    .simp only[Value.slice.injEq]at e1;obtain⟨rfl,rfl,rfl⟩:=e1;exact .inr ⟨b,_,cur,rfl,by rw[hm'b b rfl];exact hh,h1,h2,h3,h4⟩
   .intro b ob hb hne
    have e2:Value.ownBlock (.slice ad n cp)≠some b:=by
     intro e;rcases hrow.ex with⟨e1,_⟩|⟨b',cap,cur,e1,hm,_⟩
     .simp only[Sl.mk.injEq]at e1;obtain⟨rfl,rfl,rfl⟩:=e1;simp[Value.ownBlock]at e
     .simp only[Sl.mk.injEq]at e1;obtain⟨rfl,rfl,rfl⟩:=e1;simp[Value.ownBlock]at e;subst e;exact hne 0 rfl
    have e1:Value.ownBlock (.slice ad' n' cp')≠some b:=by
     intro e;rcases hblk b e with h1|h1
     .have:=(Array.getElem?_eq_some_iff.1 (hM.wrel.msat b ob hb)).1;omega
     .exact e2 h1
    simp only[m',if_neg e1,if_neg e2];exact hb
   .intro b i e;have e:ad'=some ⟨b,i,none⟩:=e;rcases hblk b (by rw[e];rfl)with h1|h1
    .left;cases e2:σ.m b with
     |none=>rfl
     |some x=>have:=(Array.getElem?_eq_some_iff.1 (hM.wrel.msat b x e2)).1;omega
    .right;rcases hrow.ex with⟨e1,_⟩|⟨b',cap,cur,e1,hm,_⟩
     .simp only[Sl.mk.injEq]at e1;obtain⟨rfl,rfl,rfl⟩:=e1;simp[Value.ownBlock]at h1
     .simp only[Sl.mk.injEq]at e1;obtain⟨rfl,rfl,rfl⟩:=e1;simp[Value.ownBlock]at h1;exact⟨0,by rw[h1]⟩
  split at h
  .rename_i ad n cp hin hfu hxx;have hev:=hM.ev x;rw[hxx]at hev;have hev:a.eval x= .slice ad n cp:=hev;obtain⟨rfl,xs,hrx,hrow,h⟩:=h;obtain⟨ys,hr,hsrc,hne,hb1,hb2,h⟩:=NL hM h;rw[hcs]at hr hsrc h hrx hrow;rw[hby]at hb1;have hn:cp=xs.length:=hrow.len;subst hn
   have fin:∃v' w',(Builtin.append_ #[T,tx] o.type #[.slice ad xs.length xs.length,a.eval y]).run C.P w= .ok v' w'/\w'.ownsRow 0 E it.size v' (xs.length+ys.length) (xs++ys).flatten/\A8 (λ_=>False) w w'/\
    (∀b,v'.ownBlock=some b->w.heap.size<=b)/\v'.oneCell'=true:=by
    cases ad with
    |none=>
     have hx0:xs=[]:=by
      rcases hrow.row with e|⟨b,off,e,_⟩
      .exact e
      .cases e
     subst hx0;obtain⟨v',w',h1,h2,h3,h4,h5⟩:=sC (P:=C.P) w T tx o.type E it zv hu hi hv hsz (.slice none 0 0) 0 [] (World.ownsRow_nil w 0 E it.size) (a.eval y) ys.length ys.flatten hsrc (by unfold maxLen;omega) (by simpa using hb1);refine⟨v',w',h1,by simpa using h2,h3.mono (λb hb=>by simp[Value.ownBlock]at hb),λb hb=>?_,h5⟩;rcases h4 b hb with e|e
     .exact e
     .simp[Value.ownBlock]at e
    |some ad=>
     have hy:0<ys.length:=by
      rcases hne with e|e
      .cases e
      .exact e
     have hsx:=NM (P:=C.P) (w:=w) (tx:=T) hu hrx hrow hM.wrel.hsat;have h63:xs.length+ys.length<=maxLen:=by unfold maxLen;omega
     have hlen:(xs.flatten++ys.flatten).length=(xs.length+ys.length)*it.size:=by rw[List.length_append,cD hrx.len,cD hr.len,Nat.add_mul]
     have hge:=grownCap_ge w (xs.length+ys.length) xs.length E;have hcm:grownCap w (xs.length+ys.length) xs.length E<=maxLen:=grownCap_le_maxLen w _ _ E h63
     have hold:(Builtin.firstCells it.size xs.length (.slice (some ad) xs.length xs.length)).run C.P w.drew= .ok xs.flatten.toArray w.drew:=by
      rcases hrow.row with rfl|⟨b,off,e,hc⟩
      .simp[Builtin.firstCells,loadCells,loadCellsFrom]
      .have e:some ad=some ⟨b,off,none⟩:=e;cases e;refine run_firstCells_some w.drew it.size xs.length ⟨b,off,none⟩ xs.length xs.length xs.flatten (cD hrx.len) λj u hj=>?_;obtain⟨i,e,q,h1,h2,rfl⟩:=C2 hrx.len hj;rw[Addr.add_none];have:=hM.wrel.hsat _ _ _ ((hc i e h1).rd q u h2);rw[<-Nat.add_assoc];exact this
     have hrn:=run_append_grow_src (P:=C.P) w T tx o.type E it zv hu hi hv (some ad) xs.length xs.length xs.flatten hold (a.eval y) ys.length ys.flatten hsrc aC (by unfold maxLen at h63;omega) (growslice_fits aC hb1);refine⟨_,_,hrn,⟨?_,.inr ⟨w.heap.size,_,_,rfl,Nat.zero_le _,heap_alloc_new w.drew _,hge,hcm,?_,?_⟩⟩,⟨rfl,rfl,rfl,Nat.le_succ _,by simp,λk hk _=>heap_alloc_old w.drew _ k hk⟩,λb hb=>by simp[Value.ownBlock]at hb;omega,rfl⟩
     .rw[List.flatten_append,hlen]
     .simp only[Array.size_append,List.size_toArray,size_zeroCells,hsz,hlen, <-Nat.add_mul];congr 1;omega
     .simp only[Array.toList_append];rw[List.flatten_append, <-hlen];exact List.take_left
   obtain⟨v',w',hrr,hown,hext,hblk,hone'⟩:=fin;rw[<-List.length_append]at hown;unfold Oper.wp;rw[hrun v' w' (by rw[hev];exact hrr),Oper.upon_value,hd];refine hnext (upd ι d v') _ _ _ ?_ h ?_
   .refine aI.put ?_ (some d) (by show _=_;simp);exact hM.place d _ v' (hext.mono (λb hb=>hb.elim)) ⟨AF hrx hr,hown⟩ hone' (λb hb=>.inl (hblk b (u6 hown hb)))
   .exact Ca hM d (λ_=>zS hd) (λb hb _=>hext.block b hb (λh1=>h1.elim)) (λhg=>by rw[ho]at hg;simp[xA]at hg) (λl e=>by simp_all [pM])
  .rename_i ad n cp hin hxx;exact mcase ad n cp hxx h
  rename_i hnin1 hnin;clear hnin hnin1;split at h
  .rename_i hxx;have hev:=hM.ev x;rw[hxx]at hev;have hev:a.eval x= .slice none 0 0:=hev;split at h
   .rename_i n hz0
    obtain⟨kn,kq,htn,hyy⟩:∃kn kq,C.P.underlying tx=some (.int kn)/\σ.ev y= .at (.val (.int kq n)):=by
     unfold TJ at hz0;split at hz0
     .rename_i kn htn;split at hz0
      .rename_i kq n' hyy;simp only[Option.some.injEq]at hz0;subst hz0;exact⟨kn,kq,htn,hyy⟩
      .cases hz0
     .cases hz0
    have hy:=hM.ev y;rw[hyy]at hy;have hy:a.eval y= .int kq n:=hy;obtain⟨h0,hb1,hb2,h⟩:=h;rw[hcs]at h;rw[hby]at hb1;obtain⟨k,rfl⟩:∃k:Nat,n=k:=⟨n.toNat,aC⟩
    have hb1':k*it.bytes<=140737488355328:=by rw[<-Int.natCast_mul]at hb1;omega
    obtain⟨v',w',hrr,hown,hext,hblk,hone'⟩:=GX (P:=C.P) w T tx o.type E it zv kq kn hu htn hi hv hsz aC k aC hb1' aC;unfold Oper.wp;rw[hrun v' w' (by rw[hev,hy];exact hrr),Oper.upon_value,hd];refine hnext (upd ι d v') _ _ _ ?_ h ?_
    .refine aI.put ?_ (some d) (by show _=_;simp);refine hM.place d _ v' (hext.mono (λb hb=>hb.elim)) ⟨?_,?_⟩ hone' (λb hb=>.inl (hblk b (u6 hown hb)))
     .exact mO (by simpa using hsz) hone _
     .simpa using hown
    .exact Ca hM d (λ_=>zS hd) (λb hb _=>hext.block b hb (λh1=>h1.elim)) (λhg=>by rw[ho]at hg;simp[xA]at hg) (λl e=>by simp_all [pM])
   .obtain⟨ys,hr,hsrc,hb1,hb2,h⟩:=NL hM h;rw[hcs]at hr hsrc h;rw[hby]at hb1;obtain⟨v',w',hrr,hown,hext,hblk,hone'⟩:=sC (P:=C.P) w T tx o.type E it zv hu hi hv hsz (.slice none 0 0) 0 [] (World.ownsRow_nil w 0 E it.size) (a.eval y) ys.length ys.flatten hsrc (by unfold maxLen;omega) (by simpa using hb1);simp only[Nat.zero_add,List.nil_append]at hown;unfold Oper.wp;rw[hrun v' w' (by rw[hev];exact hrr),Oper.upon_value,hd];refine hnext (upd ι d v') _ _ _ ?_ h ?_
    .refine aI.put ?_ (some d) (by show _=_;simp);refine hM.place d _ v' (hext.mono (λb hb=>by simp[Value.ownBlock]at hb)) ⟨hr,hown⟩ hone' (λb hb=>?_);rcases hblk b (u6 hown hb)with h1|h1
     .exact .inl h1
     .simp[Value.ownBlock]at h1
    .exact Ca hM d (λ_=>zS hd) (λb hb _=>hext.block b hb (λh1=>by simp[Value.ownBlock]at h1)) (λhg=>by rw[ho]at hg;simp[xA]at hg) (λl e=>by simp_all [pM])
  .rename_i k hxx;have hev:=hM.ev x;rw[hxx]at hev;have hev:a.eval x=ι k:=hev;split at h
   .rename_i E' sz xs hown hsame;split at h
    .rename_i hE' hs';have hE':=Nat.eq_of_beq_eq_true hE';have hs':=Nat.eq_of_beq_eq_true hs';subst hE';rw[hcs]at hs';subst hs';obtain⟨ys,hr,hsrc,hb1,hb2,h⟩:=NL hM h;rw[hby]at hb1;obtain⟨hrx,hox⟩:=oR hM hown;obtain⟨v',w',hrr,hown',hext,hblk,hone'⟩:=sC (P:=C.P) w T tx o.type E' it zv hu hi hv hsz (ι k) xs.length xs.flatten hox (a.eval y) ys.length ys.flatten hsrc (by unfold maxLen;omega) hb1;rw[<-List.flatten_append, <-List.length_append]at hown';unfold Oper.wp;rw[hrun v' w' (by rw[hev];exact hrr),Oper.upon_value,hd];refine hnext (upd ι k v') _ _ _ ?_ h ?_
     .refine aI.put ?_ (some d) (by show _=_;simp);refine hM.place k _ v' (hext.mono (λb hb=>⟨⟨_,hown⟩,Br hb⟩)) ⟨AF hrx hr,hown'⟩ hone' (λb hb=>?_);rcases hblk b (u6 hown' hb)with h1|h1
      .exact .inl h1
      .exact .inr ⟨⟨_,hown⟩,Br h1⟩
     .refine Ca hM k (λ⟨p',T',cs',e⟩=>by rw[hown]at e;cases e) (λb hb hn=>hext.block b hb (λh1=>hn ⟨⟨_,hown⟩,Br h1⟩)) (λhg=>by rw[ho]at hg;simp[xA]at hg) (λl e=>by simp_all [pM])
    .exact h.elim
   .exact h.elim
  .rename_i ad n cp _ hxx;exact mcase ad n cp hxx h
  .exact h.elim
 .exact h.elim
theorem aI.rewrite(hM:aI B ι σ a w){k:Nat}{ow ow':Own}{w':World}(hk:nth σ.own k=some (some ow))(he:A8 (λb=>blk (ι k)=some b) w w')(ho:Bd ι w' (ι k) ow'):
 aI B ι (σ.setOwn k (some ow')) a w':=by
 have hcases:∀j o',nth (σ.setOwn k (some ow')).own j=some (some o')->(j=k/\o'=ow')\/(j≠k/\nth σ.own j=some (some o')):=by
  intro j o' hj;simp only[St.setOwn,u7]at hj;by_cases e:j=k
  .subst e;by_cases hl:j<σ.own.length
   .simp[hl]at hj;exact .inl ⟨rfl,hj.symm⟩
   .simp[hl,iD]at hj
  .simp only[e,false_and,if_false]at hj;exact .inr ⟨e,hj⟩
 refine⟨hM.slots,hM.defers,?_,?_,?_,?_,hM.one⟩
 .intro j o' hj;rcases hcases j o' hj with⟨rfl,rfl⟩|⟨hne,hj'⟩
  .exact ho
  .have hok:=hM.own j o' hj';refine hok.world (λb hb=>he.block b (nQ hok hb) (λhb'=>hne (hM.dist j k _ _ b hj' hk hb hb')))
 .intro j j' o1 o2 b hj hj' hb hb';rcases hcases j o1 hj with⟨rfl,rfl⟩|⟨hne,h1⟩<;>rcases hcases j' o2 hj' with⟨rfl,rfl⟩|⟨hne',h2⟩
  .rfl
  .exact hM.dist _ _ _ _ b hk h2 hb hb'
  .exact hM.dist _ _ _ _ b h1 hk hb hb'
  .exact hM.dist _ _ _ _ b h1 h2 hb hb'
 .intro j o1 b hj hb;rcases hcases j o1 hj with⟨rfl,rfl⟩|⟨hne,h1⟩
  .exact hM.fresh _ _ b hk hb
  .exact hM.fresh _ _ b h1 hb
 .exact hM.wrel.ext he (λb hb=>hM.fresh k ow b hk hb)
theorem Fl(hone:∀k,(ι k).oneCell'=true):∀{cs:List At}{vs:List Value},pO cs=true->gJ ι cs vs->∀v∈vs,v.oneCell'=true
 |[],[],_,_,v,hv=>by cases hv
 |x::cs,u::vs,hs,hd,v,hv=>by
  simp only[pO]at hs;split at hs
  .rename_i hx;rcases List.mem_cons.1 hv with rfl|hv
   .have hd1:=hd.1;cases x with
    |val u'=>
     have:v=u':=hd1;subst this;cases v<;>first|rfl|(simp[At.storable]at hx)
    |ptr k off=>obtain⟨b,_,rfl⟩:=hd1;rfl
    |lst k=>have:v=ι k:=hd1;rw[this];exact hone k
    |el k i sz off=>obtain⟨b,n,c,_,rfl⟩:=hd1;rfl
    |junk=>simp[At.storable]at hx
   .exact Fl hone hs hd.2 v hv
  .cases hs
 |[],_::_,_,h,_,_=>h.elim
 |_::_,[],_,h,_,_=>h.elim
theorem NQ{P:Program}{T:TypeId}{w:World}{g off:Nat}{cur:Array Value}{E:TypeId}{v:Value}(hT:hU P T=true)(hsz:v.cells.size=P.cellsOf T)(hg:w.heap[g]? =some (.cells cur E (0,0)))
 (hle:off+v.cells.size<=cur.size)(h1:∀u∈v.cells.toList,u.oneCell'=true):
 (storeVar T ⟨g,off,none⟩ v).run P w= .ok () (w.setRow g (splice cur.toList off v.cells.toList).toArray):=by
 obtain⟨i,d,hi,hd,hc,hpos⟩:=fU hT;have hst:=run_storeCells_at P g off E v.cells.toList 0 cur w hg (by simpa using hle) h1;simp only[Nat.add_zero]at hst;unfold storeVar;rw[hc]at hsz;simp only[Sem.run_bind,run_sizeOf hi,Result.andThen_ok];rw[if_neg aC];simp only[hst,splice]
theorem Cz(w:World)(g:Nat)(cs:Array Value):A8 (λb=>b=g) w (w.setRow g cs):=
 ⟨rfl,rfl,rfl,Nat.le_refl _,by simp,λb _ hb=>setRow_other w g b cs hb⟩
theorem CA{cs:List At}{l vs:List Value}(hl:qM cs=some l)(hd:gJ ι cs vs):vs=l:=by
 rw[AS hl,gJ.vals]at hd;exact hd
theorem flatten_set{sz:Nat}{l:List Value}:∀{xs:List (List Value)}{i:Nat}{e:List Value}{off:Nat},(∀e∈xs,e.length=sz)->xs[i]? =some e->off+l.length<=e.length->
 splice xs.flatten (i*sz+off) l=(xs.set i (splice e off l)).flatten
 |[],i,e,off,_,hi,_=>by simp at hi
 |x::xs,0,e,off,hl,hi,hle=>by
  simp at hi;subst hi;simp only[splice,Nat.zero_mul,Nat.zero_add,List.flatten_cons,List.set_cons_zero,List.append_assoc];rw[List.take_append_of_le_length aC,List.drop_append_of_le_length aC]
 |x::xs,i+1,e,off,hl,hi,hle=>by
  simp only[List.getElem?_cons_succ]at hi;have hx:x.length=sz:=hl x (by simp);have ih:=flatten_set (λe he=>hl e (by simp[he])) hi hle;rw[List.set_cons_succ,List.flatten_cons,List.flatten_cons, <-ih];simp only[splice];have e1:(i+1)*sz+off=x.length+(i*sz+off):=by rw[hx,Nat.succ_mul];omega
  rw[e1,List.take_length_add_append,show x.length+(i*sz+off)+l.length=x.length+(i*sz+off+l.length)by omega,List.drop_length_add_append];simp
theorem Lx{sz:Nat}{xs:List (List Value)}{i off:Nat}{e l:List Value}(hr:eV sz xs)(hi:xs[i]? =some e)(hle:off+l.length<=e.length)(h1:∀u∈l,u.oneCell'=true):
 eV sz (xs.set i (splice e off l)):=by
 have hmem:e∈xs:=List.mem_of_getElem? hi;constructor
 .intro e' he;rcases List.mem_or_eq_of_mem_set he with h|h
  .exact hr.len e' h
  .rw[h,Eo _ _ _ hle];exact hr.len e hmem
 .intro e' he u hu;rcases List.mem_or_eq_of_mem_set he with h|h
  .exact hr.one e' h u hu
  .rw[h]at hu;unfold splice at hu;rcases List.mem_append.1 hu with h2|h2
   .rcases List.mem_append.1 h2 with h3|h3
    .exact hr.one e hmem u (List.mem_of_mem_take h3)
    .exact h1 u h3
   .exact hr.one e hmem u (List.mem_of_mem_drop h2)
theorem O2(u l:List Value)(p N:Nat)(h1:p+l.length<=N)(h2:N<=u.length):(splice u p l).take N=splice (u.take N) p l:=by
 apply List.ext_getElem?;intro j;simp only[splice,List.getElem?_take,List.getElem?_append,List.length_append,List.length_take,List.getElem?_drop];have e1:min p u.length=p:=by omega
 have e2:min N u.length=N:=by omega
 have e3:min p N=p:=by omega
 simp only[e1,e2,e3];by_cases hN:j<N
 .by_cases hp:j<p
  .simp[hN,hp,show j<p+l.length by omega]
  .by_cases hl:j<p+l.length
   .simp[hN,hp,hl]
   .simp[hN,hl,show p+l.length+(j-(p+l.length))<N by omega]
 .simp[hN,show¬j<p+l.length by omega,show¬p+l.length+(j-(p+l.length))<N by omega]
theorem O5(hM:aI B ι σ a w){T:Nat}{x v:Operand}(ho:o.op= .store T x v)(hdst:o.dst=none)(h:NK C T x v σ K):Re B C ι o σ K a w:=by
 intro next Q hnext
 have hev:=hM.ev x;unfold NK at h;split at h
 .exact h.elim
 .rename_i new hnew;split at h
  .rename_i hlen hst hT;have hlen:=Nat.eq_of_beq_eq_true hlen;have hd:=yQ hM.one (hM.ev v) hnew;have h1:=Fl hM.one hst hd;have hdl:new.length=(a.eval v).cells.size:=by have:=hd.length;simpa using this
   have hrun:∀g off cur E,a.eval x= .pointer (some ⟨g,off,none⟩)->w.heap[g]? =some (.cells cur E (0,0))->off+(a.eval v).cells.size<=cur.size->
    (execOp a.eval o).run C.P w= .ok .skip (w.setRow g (splice cur.toList off (a.eval v).cells.toList).toArray):=by
    intro g off cur E hx hg hle;unfold execOp;simp only[ho,hx,Instr.storeAt,Instr.sureAddr,Sem.run_bind,Sem.run_pure,Result.andThen_ok,NQ hT aC hg hle h1]
   have lU:a.put o.dst undef=a:=by rw[hdst];rfl
   split at h
   .rename_i k off hx;rw[hx]at hev;split at h
    .rename_i p E cs hk;split at h
     .rename_i hle;have hle:=Nat.le_of_ble_eq_true hle;obtain⟨b,vs,hι,hh,hdc⟩:=rV hM hk;obtain⟨b',hb',hp⟩:=hev;rw[hι]at hb';simp only[Value.pointer.injEq,Option.some.injEq,Addr.mk.injEq]at hb';obtain⟨rfl, -, -⟩:=hb';have hvs:cs.length=vs.size:=by have:=hdc.length;simpa using this
      unfold Oper.wp;rw[hrun b off vs E hp hh aC,Oper.upon_skip,lU];have hbk:blk (ι k)=some b:=by rw[hι];rfl
      have hext:=Cz w b (splice vs.toList off (a.eval v).cells.toList).toArray;refine hnext ι _ _ _ (hM.rewrite hk (hext.mono (λb' hb'=>by rw[hb'];exact hbk)) ?_) h ?_
      .exact⟨b,_,hι,setRow_heap w b vs _ E _ hh,by simpa using hdc.splice off hd,λq e=>by subst e;have:=TV hM hk;rw[hι]at this;simpa using this⟩
      .refine Ca hM k (λ_=>?_) (λb' hb' hn=>hext.block b' hb' (λe=>hn ⟨⟨_,hk⟩,by rw[e];exact hbk⟩)) (λhg=>by rw[ho]at hg;simp[xA]at hg) (λl e=>by simp_all [pM]);unfold uZ;simp[ho,hx]
     .exact h.elim
    .exact h.elim
   .rename_i k i sz off hx;rw[hx]at hev;split at h
    .rename_i E s xs l hk hl;split at h
     .rename_i hs;have hs:=Nat.eq_of_beq_eq_true hs;subst hs;obtain⟨e,he,hle,h⟩:=h;obtain⟨hr,hown⟩:=oR hM hk;obtain⟨b,n,c,hι,hp⟩:=hev;have hvl:(a.eval v).cells.toList=l:=CA hl hd;rcases hown.2 with⟨hv,hn⟩|⟨g,cap,cur,hv,_,hg,hnc,hcm,hcs,htake⟩
      .rw[hι]at hv;cases hv
      .rw[hι]at hv;simp only[Value.slice.injEq,Option.some.injEq,Addr.mk.injEq]at hv;obtain⟨⟨rfl, -, -⟩,rfl,rfl⟩:=hv;have hil:i<xs.length:=(List.getElem?_eq_some_iff.1 he).1;have hel:e.length=s:=hr.len e (List.mem_of_getElem? he);have hll:(a.eval v).cells.size=l.length:=by rw[<-hvl];simp
       have hflat:=cD hr.len
       have hin:i*s+off+l.length<=xs.length*s:=by
        have:(i+1)*s<=xs.length*s:=Nat.mul_le_mul_right _ hil;rw[Nat.succ_mul]at this;omega
       have hcap:xs.length*s<=c*s:=Nat.mul_le_mul_right _ hnc;unfold Oper.wp;rw[hrun b (i*s+off) cur E hp hg aC,Oper.upon_skip,lU];have hbk:blk (ι k)=some b:=by rw[hι];rfl
       have hext:=Cz w b (splice cur.toList (i*s+off) (a.eval v).cells.toList).toArray;have hone:∀u∈l,u.oneCell'=true:=by rw[<-hvl];exact h1
       refine hnext ι _ _ _ (hM.rewrite hk (hext.mono (λb' hb'=>by rw[hb'];exact hbk)) ?_) h ?_
       .have hr':=Lx hr he hle hone;refine⟨hr',cD hr'.len,.inr ⟨b,c,_,by rw[hι,List.length_set],Nat.zero_le _,setRow_heap w b cur _ E _ hg,by rw[List.length_set];exact hnc,hcm,?_,?_⟩⟩
        .simp only[List.size_toArray,hvl];rw[Eo]
         .simpa using hcs
         .simp;omega
        .rw[List.length_set];rw[<-flatten_set hr.len he hle,hvl, <-htake];have hcl:cur.toList.length=c*s:=by simpa using hcs
         exact O2 cur.toList l (i*s+off) (xs.length*s) hin aC
       .refine Ca hM k (λ⟨p',T',cs',e'⟩=>by rw[hk]at e';cases e') (λb' hb' hn'=>hext.block b' hb' (λe'=>hn' ⟨⟨_,hk⟩,by rw[e'];exact hbk⟩)) (λhg=>by rw[ho]at hg;simp[xA]at hg) (λl e=>by simp_all [pM])
     .exact h.elim
    .exact h.elim
   .rename_i b off hx;rw[hx]at hev;have hev:a.eval x= .pointer (some ⟨b,off,none⟩):=hev;split at h
    .rename_i l hl;obtain⟨cs,E,hm,hle,h⟩:=h;have hvl:(a.eval v).cells.toList=l:=CA hl hd;have hll:(a.eval v).cells.size=l.length:=by rw[<-hvl];simp
     have hg:=hM.wrel.msat b _ hm.at_
     let m':MH:=λb'=>if b'=b then some (.cells (splice cs.toList off l).toArray E (0,0))else σ.m b'
     unfold Oper.wp;rw[hrun b off cs E hev hg aC,Oper.upon_skip,lU,hvl];have hext:=Cz w b (splice cs.toList off l).toArray
     have hnb:∀k o',nth σ.own k=some (some o')->blk (ι k)≠some b:=by
      intro k o' hk hb;have:=(hM.fresh k o' b hk hb).2.1;rw[hm.at_]at this;cases this
     refine hnext ι {σ with m:=m'} _ _ ?_ (h m' ⟨by simp[m'],λb' hb'=>by simp[m',hb']⟩) ?_
     .refine⟨hM.slots,hM.defers,?_,hM.dist,?_,?_,hM.one⟩
      .intro k o' hk;exact(hM.own k o' hk).world (λb' hb'=>hext.block b' (nQ (hM.own k o' hk) hb') (λe=>hnb k o' hk (e▸hb')))
      .intro k o' b' hk hb';obtain⟨f1,f2,f3⟩:=hM.fresh k o' b' hk hb';refine⟨f1,?_,f3⟩;have hne:b'≠b:=λe=>hnb k o' hk (e▸hb');simp[m',hne,f2]
      .have hw:=hM.wrel;refine⟨hw.tape,hw.os,hw.output,hw.drawn,Nat.le_trans hw.size hext.size,?_,?_,?_,?_,hw.hle,hw.hold,?_⟩
       .intro b' hb' hE
        have hne:b'≠b:=λe=>by
         subst e;rcases hw.mfr b' _ hm.at_ with h2|h2
         .omega
         .exact hE h2
        rw[hext.block b' (Nat.lt_of_lt_of_le hb' hw.size) hne];exact hw.frame b' hb' hE
       .intro b' off' u hu;have hne:b'≠b:=λe=>by subst e;rw[hw.disj b' _ hm.at_ off']at hu;cases hu
        have h2:=hw.hsat b' off' u hu;rw[<-h2];exact World.cell?_of_block (w:=w) (a:=⟨b',off',none⟩) (hext.block b' (World.block_lt_of_cell? w ⟨b',off',none⟩ h2) hne)
       .intro b' ob hb';have hb'':(if b'=b then some (Obj.cells (splice cs.toList off l).toArray E (0,0))else σ.m b')=some ob:=hb';by_cases e:b'=b
        .subst e;rw[if_pos rfl]at hb'';rw[setRow_heap w b' cs _ E _ hg];exact hb''
        .rw[if_neg e]at hb'';have h2:=hw.msat b' ob hb'';rw[hext.block b' (Array.getElem?_eq_some_iff.1 h2).1 e];exact h2
       .intro b' ob hb' i;have hb'':(if b'=b then some (Obj.cells (splice cs.toList off l).toArray E (0,0))else σ.m b')=some ob:=hb';by_cases e:b'=b
        .subst e;exact hw.disj b' _ hm.at_ i
        .rw[if_neg e]at hb'';exact hw.disj b' _ hb'' i
       .intro b' ob hb';have hb'':(if b'=b then some (Obj.cells (splice cs.toList off l).toArray E (0,0))else σ.m b')=some ob:=hb';by_cases e:b'=b
        .subst e;exact hw.mfr b' _ hm.at_
        .rw[if_neg e]at hb'';exact hw.mfr b' _ hb''
     .constructor
      .intro k p' T' cs' b' hk ht hι;exact hext.block b' (nQ (hM.own k _ hk) (by rw[hι];rfl)) (λe=>hnb k _ hk (by rw[hι, <-e];rfl))
      .intro b' off' u hu;have hne:b'≠b:=λe=>by subst e;rw[hM.wrel.disj b' _ hm.at_ off']at hu;cases hu
       have h2:=hM.wrel.hsat b' off' u hu;rw[<-h2];exact World.cell?_of_block (w:=w) (a:=⟨b',off',none⟩) (hext.block b' (World.block_lt_of_cell? w ⟨b',off',none⟩ h2) hne)
      .intro hg;rw[ho]at hg;simp[xA]at hg
      .intro l' b' hl';simp[pM,ho]at hl'
    .exact h.elim
   .exact h.elim
  .exact h.elim
end
end Go.Vc
namespace Go.Vc
open Go
section
variable{B:nS}{C:Ctx}{ι:Nat->Value}{σ:St}{a:Act}{w:World}{o:Oper}{K:St->Prop}
theorem kS(hM:aI B ι σ a w):E8 σ ι o w w:=
 ⟨λ_ _ _ _ _ _ _ _=>rfl,λb off v hv=>hM.wrel.hsat b off v hv,λ_ _ _=>rfl,λ_ _ _ _ _ _=>rfl⟩
theorem Pa(hM:aI B ι σ a w){T:Nat}{x:Operand}{lo hi mx:Option Operand}(ho:o.op= .slice T x lo hi mx)(h:NN C o T x lo hi mx σ K):Re B C ι o σ K a w:=by
 intro next Q hnext
 have hev:=hM.ev x;unfold NN at h;split at h
 .rename_i k n hx;rw[hx]at hev;have hev:a.eval x=ι k:=hev;have hevn:=hM.ev n;split at h
  .rename_i E sz xs kk i E' hk hn hu;rw[hn]at hevn;have hevn:a.eval n= .int kk i:=hevn;split at h
   case h_2=>exact h.elim
   rename_i hE';obtain⟨h0,h1,h⟩:=h;obtain⟨hr,hown⟩:=oR hM hk;have hrt:eV sz (xs.take i.toNat):=⟨λe he=>hr.len e (List.mem_of_mem_take he),λe he=>hr.one e (List.mem_of_mem_take he)⟩
   have hlen:(xs.take i.toNat).length=i.toNat:=by rw[List.length_take];omega
   obtain⟨it,_,hit,_⟩:=fU hE';rcases hown.2 with⟨hv,hnl⟩|⟨g,cap,cur,hv,hb0,hg,hnc,hcm,hcs,htake⟩
   .have hi0:i=0:=by omega
    subst hi0
    have hrun:(execOp a.eval o).run C.P w= .ok (.value (.slice none 0 0)) w:=by
     unfold execOp;simp[ho,hev,hv,hevn,Instr.sliceAt,run_underlying hu,Instr.slice,Instr.sliceBounds,Instr.sliceBound,asIntOf,run_sizeOf hit]
    unfold Oper.wp;rw[hrun,Oper.upon_value];refine hnext (upd ι k (.slice none 0 0)) _ _ _ ?_ h (kS hM);refine aI.put ?_ o.dst (by show _=_;simp);refine hM.place k _ _ (A8.refl _ _) ⟨hrt,?_⟩ rfl (λb hb=>by simp[blk]at hb);simp only[Int.toNat_zero,List.take_zero,List.flatten_nil,List.length_nil];exact World.ownsRow_nil w 0 E sz
   .have hrun:(execOp a.eval o).run C.P w= .ok (.value (.slice (some ⟨g,0,none⟩) i.toNat cap)) w:=by
     have hic:i<=(cap:Int):=by omega
     unfold execOp;simp[ho,hev,hv,hevn,Instr.sliceAt,run_underlying hu,Instr.slice,Instr.sliceBounds,Instr.sliceBound,asIntOf,run_sizeOf hit,h0,hic,Addr.add_none]
    unfold Oper.wp;rw[hrun,Oper.upon_value];refine hnext (upd ι k (.slice (some ⟨g,0,none⟩) i.toNat cap)) _ _ _ ?_ h (kS hM);refine aI.put ?_ o.dst (by show _=_;simp);refine hM.place k _ _ (A8.refl _ _) ⟨hrt,cD hrt.len,.inr ⟨g,cap,cur,by rw[hlen],Nat.zero_le _,hg,aC,hcm,hcs,?_⟩⟩ rfl (λb hb=>.inr ⟨⟨_,hk⟩,by rw[hv];exact hb⟩);rw[hlen]
    have hsub:(xs.take i.toNat).flatten=xs.flatten.take (i.toNat*sz):=by
     have:xs=xs.take i.toNat++xs.drop i.toNat:=(List.take_append_drop _ _).symm;rw[show xs.flatten=(xs.take i.toNat).flatten++(xs.drop i.toNat).flatten by rw[<-List.flatten_append,List.take_append_drop]];rw[List.take_left'];rw[cD hrt.len,hlen]
    rw[hsub, <-htake,List.take_take];congr 1;have:i.toNat*sz<=xs.length*sz:=Nat.mul_le_mul_right _ aC;omega
  .exact h.elim
 .rename_i ad len cap n hx;rw[hx]at hev;have hev:a.eval x= .slice ad len cap:=hev;have hevn:=hM.ev n;split at h
  .rename_i kk i E' hn hu;rw[hn]at hevn;have hevn:a.eval n= .int kk i:=hevn;split at h
   case h_2=>exact h.elim
   rename_i hE';obtain⟨h0,h1,h⟩:=h;obtain⟨it,_,hit,_⟩:=fU hE'
   have hrun:(execOp a.eval o).run C.P w= .ok (.value (.slice ad i.toNat cap)) w:=by
    unfold execOp;simp[ho,hev,hevn,Instr.sliceAt,run_underlying hu,Instr.slice,Instr.sliceBounds,Instr.sliceBound,asIntOf,run_sizeOf hit,h0,h1];cases ad<;>simp[Addr.add]
   unfold Oper.wp;rw[hrun,Oper.upon_value];exact hnext ι _ _ _ (hM.put o.dst (x:=.at (.val _)) rfl) h (kS hM)
  .exact h.elim
 .rename_i ad len cap n k hx;rw[hx]at hev;have hev:a.eval x= .slice ad len cap:=hev;have hevn:=hM.ev n;have hevk:=hM.ev k;split at h
  .rename_i kk i kj j E' hn hk hu;rw[hn]at hevn;rw[hk]at hevk;have hevn:a.eval n= .int kk i:=hevn;have hevk:a.eval k= .int kj j:=hevk;split at h
   case h_2=>exact h.elim
   rename_i hE';obtain⟨h0,h1,h2,h⟩:=h;obtain⟨it,_,hit,_⟩:=fU hE'
   have hrun:(execOp a.eval o).run C.P w= .ok (.value (.slice ad i.toNat j.toNat)) w:=by
    have h3:0<=j:=by omega
    have h4:max j 0=j:=by omega
    unfold execOp;simp[h4,ho,hev,hevn,hevk,Instr.sliceAt,run_underlying hu,Instr.slice,Instr.sliceBounds,Instr.sliceBound,asIntOf,run_sizeOf hit,h0,h1,h2,h3];cases ad<;>simp[Addr.add]
   unfold Oper.wp;rw[hrun,Oper.upon_value];exact hnext ι _ _ _ (hM.put o.dst (x:=.at (.val _)) rfl) h (kS hM)
  .exact h.elim
 .rename_i b off n hx;rw[hx]at hev;have hev:a.eval x= .pointer (some ⟨b,off,none⟩):=hev;have hevn:=hM.ev n;split at h
  .rename_i kk i len E' hn hu;rw[hn]at hevn;have hevn:a.eval n= .int kk i:=hevn;split at h
   case h_2=>exact h.elim
   rename_i hE';obtain⟨h0,h1,h⟩:=h;obtain⟨it,_,hit,_⟩:=fU hE'
   have hrun:(execOp a.eval o).run C.P w= .ok (.value (.slice (some ⟨b,off,none⟩) i.toNat len)) w:=by
    unfold execOp;simp[ho,hev,hevn,Instr.sliceAt,run_underlying hu,Instr.sliceBounds,Instr.sliceBound,asIntOf,run_sizeOf hit,h0,h1,Instr.sureAddr,asAddr,Addr.add]
   unfold Oper.wp;rw[hrun,Oper.upon_value];exact hnext ι _ _ _ (hM.put o.dst (x:=.at (.val _)) rfl) h (kS hM)
  .exact h.elim
 .exact h.elim
structure Ld(ι:Nat->Value)(σ σ':St)(ks:List Nat):Prop where
 cells:∀k p T cs,nth σ.own k=some (some (.cellsP p T cs))->k∉ks->∃cs',nth σ'.own k=some (some (.cellsP p T cs'))
 imm:σ'.h=σ.h
 lst:∀x k,σ'.ev x= .at (.lst k)->σ.ev x= .at (.lst k)
 m_:∀b,σ.m b=none->σ'.m b≠none->∃k∈ks,blk (ι k)=some b
theorem K4{σ:St}{k:Nat}{f:At->At}{m:MH}{h:PH}{own:List (Option Own)}(hf:∀x j,f x≠ .lst j){x:Operand}{j:Nat}(hx:St.ev {sl:=σ.sl.map (SV.sub k f),own:=own,m:=m,h:=h} x= .at (.lst j)):σ.ev x= .at (.lst j):=by
 rcases Tj σ k f m h own x with he|⟨v,he⟩
 .exact TO hf (he▸hx)
 .rcases he with rfl|⟨g,rfl⟩|⟨g,rfl⟩<;>exact hx
theorem ahJ(hM:aI B ι σ a w){k T:Nat}{p:Option Nat}{cs:List At}{l:List Value}(hk:nth σ.own k=some (some (.cellsP p T cs)))(hl:qM cs=some l):
 ∃(b:Nat)(m':MH),cM σ.m σ.h b/\fV σ.m m' b (.cells l.toArray T (0,0))/\
  aI B ι {(σ.sub k (λ |.ptr _ o=>.val (.pointer (some ⟨b,o,none⟩))|_=>.junk)).setOwn k none with m:=m'} a w/\
  Ld ι σ {(σ.sub k (λ |.ptr _ o=>.val (.pointer (some ⟨b,o,none⟩))|_=>.junk)).setOwn k none with m:=m'} [k]:=by
 obtain⟨b,vs,hι,hh,hd⟩:=rV hM hk;have hvs:vs.toList=l:=CA hl hd;have hbk:blk (ι k)=some b:=by rw[hι];rfl
 obtain⟨f1,f2,f3⟩:=hM.fresh k _ b hk hbk
 let m':MH:=λb'=>if b'=b then some (.cells l.toArray T (0,0))else σ.m b'
 have hM1:aI B ι ((σ.sub k (λ |.ptr _ o=>.val (.pointer (some ⟨b,o,none⟩))|_=>.junk)).setOwn k none) a w:=by
  have:=hM.drop k (ι k) (hM.one k) (λ |.ptr _ o=>.val (.pointer (some ⟨b,o,none⟩))|_=>.junk) (by
   intro x v hx hd;cases x<;>simp only[At.key,Option.some.injEq,reduceCtorEq]at hx
   case lst=>trivial
   case el=>trivial
   case ptr j off=>
    subst hx;obtain⟨b',hb',hv⟩:=hd;rw[hι]at hb';simp only[Value.pointer.injEq,Option.some.injEq,Addr.mk.injEq]at hb';obtain⟨rfl, -, -⟩:=hb';exact hv)
  rwa [Fe]at this
 have hne:∀j o',nth ((σ.sub k (λ |.ptr _ o=>.val (.pointer (some ⟨b,o,none⟩))|_=>.junk)).setOwn k none).own j=some (some o')->blk (ι j)≠some b:=by
  intro j o' hj hb;obtain⟨hne,o1,ho1,_⟩:=nC hj;exact hne (hM.dist j k _ _ b ho1 hk hb hbk)
 refine⟨b,m',⟨f2,f3⟩,⟨by simp[m'],λb' hb'=>by simp[m',hb']⟩,⟨hM1.slots,hM1.defers,hM1.own,hM1.dist,?_,?_,hM1.one⟩,?_⟩
 .intro j o' b' hj hb';obtain⟨g1,g2,g3⟩:=hM1.fresh j o' b' hj hb';refine⟨g1,?_,g3⟩;have:b'≠b:=λe=>hne j o' hj (e▸hb');show(if b'=b then _ else σ.m b')=none;rw[if_neg this];exact g2
 .have hw:=hM.wrel;refine⟨hw.tape,hw.os,hw.output,hw.drawn,hw.size,hw.frame,hw.hsat,?_,?_,hw.hle,hw.hold,?_⟩
  .intro b' ob hb';have hb'':(if b'=b then some (Obj.cells l.toArray T (0,0))else σ.m b')=some ob:=hb';by_cases e:b'=b
   .subst e;rw[if_pos rfl]at hb'';rw[hh, <-hb''];congr 2;apply Array.toList_inj.1;simpa using hvs
   .rw[if_neg e]at hb'';exact hw.msat b' ob hb''
  .intro b' ob hb' i;have hb'':(if b'=b then some (Obj.cells l.toArray T (0,0))else σ.m b')=some ob:=hb';by_cases e:b'=b
   .subst e;exact f3 i
   .rw[if_neg e]at hb'';exact hw.disj b' ob hb'' i
  .intro b' ob hb';have hb'':(if b'=b then some (Obj.cells l.toArray T (0,0))else σ.m b')=some ob:=hb';by_cases e:b'=b
   .subst e;exact f1
   .rw[if_neg e]at hb'';exact hw.mfr b' ob hb''
 .refine⟨?_,rfl,λx j hx=>K4 (λx j=>by cases x<;>simp) hx,λb' h1 h2=>⟨k,by simp,?_⟩⟩
  case refine_2=>
   have h2:(if b'=b then some (Obj.cells l.toArray T (0,0))else σ.m b')≠none:=h2;by_cases e:b'=b
   .rw[e];exact hbk
   .rw[if_neg e]at h2;exact(h2 h1).elim
  intro j p' T' cs' hj hnk;simp only[List.mem_singleton]at hnk;refine⟨cs'.map (At.sub k (λ |.ptr _ o=>.val (.pointer (some ⟨b,o,none⟩))|_=>.junk)),?_⟩
  .simp only[St.setOwn,St.sub,u7,xG,hnk,false_and,if_false,hj];rfl
theorem aiQ{σ τ υ:St}{k:Nat}{ks:List Nat}(h:Ld ι σ τ [k])(h':Ld ι τ υ ks){b:Nat}(h1:σ.m b=none)(h2:υ.m b≠none):∃j∈k::ks,blk (ι j)=some b:=by
 cases e:τ.m b with
 |none=>
  obtain⟨j,hj,hb⟩:=h'.m_ b e h2;exact⟨j,List.mem_cons_of_mem _ hj,hb⟩
 |some o=>
  obtain⟨j,hj,hb⟩:=h.m_ b h1 (by rw[e];simp);exact⟨j,by simp at hj;simp[hj],hb⟩
theorem uQ:∀(ks:List Nat)(σ:St),aI B ι σ a w->CS σ K ks->∃σ',aI B ι σ' a w/\K σ'/\Ld ι σ σ' ks
 |[],σ,hM,h=>⟨σ,hM,h,⟨λ_ _ _ cs h _=>⟨cs,h⟩,rfl,λ_ _ h=>h,λ_ h1 h2=>(h2 h1).elim⟩⟩
 |k::ks,σ,hM,h=>by
  simp only[CS]at h;split at h
  .rename_i p T cs hk;split at h
   .rename_i l hl;obtain⟨b,m',hun,hup,hM1,hld⟩:=ahJ hM hk hl;obtain⟨σ',hM',hK,hld'⟩:=uQ ks _ hM1 (h b m' hun hup);refine⟨σ',hM',hK,⟨λj p' T' cs' hj hn=>?_,hld'.imm.trans hld.imm,λx j hx=>hld.lst x j (hld'.lst x j hx),λb h1 h2=>aiQ hld hld' h1 h2⟩⟩;simp only[List.mem_cons,not_or]at hn;obtain⟨cs'',hj'⟩:=hld.cells j p' T' cs' hj (by simpa using hn.1);exact hld'.cells j p' T' cs'' hj' hn.2
   .exact h.elim
  .exact h.elim
theorem WK(hM:aI B ι σ a w){k E sz:Nat}{xs:List (List Value)}(hk:nth σ.own k=some (some (.lst E sz xs))):
 ∃(s:Sl)(m':MH),nY σ.m m' σ.h s E sz xs/\aI B ι {(σ.sub k (λ |.lst _=>.val s.val|_=>.junk)).setOwn k none with m:=m'} a w/\
  Ld ι σ {(σ.sub k (λ |.lst _=>.val s.val|_=>.junk)).setOwn k none with m:=m'} [k]:=by
 obtain⟨hr,hown⟩:=oR hM hk
 obtain⟨s,hs⟩:∃s:Sl,ι k=s.val:=by
  rcases hown.2 with⟨hv,_⟩|⟨g,cap,cur,hv,_⟩
  .exact⟨⟨none,0,0⟩,hv⟩
  .exact⟨⟨some ⟨g,0,none⟩,xs.length,cap⟩,hv⟩
 have hM1:aI B ι ((σ.sub k (λ |.lst _=>.val s.val|_=>.junk)).setOwn k none) a w:=by
  have:=hM.drop k (ι k) (hM.one k) (λ |.lst _=>.val s.val|_=>.junk) (by
   intro x v hx hd;cases x<;>simp only[At.key,Option.some.injEq,reduceCtorEq]at hx
   case ptr=>trivial
   case el=>trivial
   case lst j=>
    subst hx;have hd:v=ι j:=hd;show v=s.val;rw[hd,hs])
  rwa [Fe]at this
 have hld:∀m':MH,(∀b,σ.m b=none->m' b≠none->blk (ι k)=some b)->Ld ι σ {(σ.sub k (λ |.lst _=>.val s.val|_=>.junk)).setOwn k none with m:=m'} [k]:=by
  intro m' hmm;refine⟨?_,rfl,λx j hx=>K4 (λx j=>by cases x<;>simp) hx,λb' h1 h2=>⟨k,by simp,hmm b' h1 h2⟩⟩;intro j p' T' cs' hj hnk;simp only[List.mem_singleton]at hnk;refine⟨cs'.map (At.sub k (λ |.lst _=>.val s.val|_=>.junk)),?_⟩;simp only[St.setOwn,St.sub,u7,xG,hnk,false_and,if_false,hj];rfl
 rcases hown.2 with⟨hv,hnl⟩|⟨g,cap,cur,hv,hb0,hg,hnc,hcm,hcs,htake⟩
 .have hsn:s=⟨none,0,0⟩:=by
   rw[hs]at hv;obtain⟨x,y,z⟩:=s;simp only[Sl.val,Value.slice.injEq]at hv;obtain⟨rfl,rfl,rfl⟩:=hv;rfl
  subst hsn;exact⟨⟨none,0,0⟩,σ.m,⟨⟨hr,.inl ⟨rfl,List.eq_nil_of_length_eq_zero hnl⟩⟩,λ_ _=>rfl,λb i e=>by cases e⟩,hM1,hld σ.m (λb h1 h2=>(h2 h1).elim)⟩
 .have hbk:blk (ι k)=some g:=by rw[hv];rfl
  obtain⟨f1,f2,f3⟩:=hM.fresh k _ g hk hbk
  have hsn:s=⟨some ⟨g,0,none⟩,xs.length,cap⟩:=by
   rw[hs]at hv;obtain⟨x,y,z⟩:=s;simp only[Sl.val,Value.slice.injEq]at hv;obtain⟨rfl,rfl,rfl⟩:=hv;rfl
  subst hsn
  let m':MH:=λb'=>if b'=g then some (.cells cur E (0,0))else σ.m b'
  have hne:∀j o',nth ((σ.sub k (λ |.lst _=>.val (Sl.mk (some ⟨g,0,none⟩) xs.length cap).val|_=>.junk)).setOwn k none).own j=some (some o')->blk (ι j)≠some g:=by
   intro j o' hj hb;obtain⟨hne,o1,ho1,_⟩:=nC hj;exact hne (hM.dist j k _ _ g ho1 hk hb hbk)
  refine⟨⟨some ⟨g,0,none⟩,xs.length,cap⟩,m',⟨⟨hr,.inr ⟨g,cap,cur,rfl,by simp[m'],hnc,hcm,hcs,htake⟩⟩,λb' hb'=>?_,λb i e=>?_⟩,⟨hM1.slots,hM1.defers,hM1.own,hM1.dist,?_,?_,hM1.one⟩,hld m' (λb h1 h2=>?_)⟩
  .have:b'≠g:=λe=>hb' 0 (by rw[e]);simp[m',this]
  .simp only[Option.some.injEq,Addr.mk.injEq]at e;obtain⟨rfl,_,_⟩:=e;exact⟨f2,f3⟩
  .intro j o' b' hj hb';obtain⟨g1,g2,g3⟩:=hM1.fresh j o' b' hj hb';refine⟨g1,?_,g3⟩;have:b'≠g:=λe=>hne j o' hj (e▸hb');show(if b'=g then _ else σ.m b')=none;rw[if_neg this];exact g2
  .have hw:=hM.wrel;refine⟨hw.tape,hw.os,hw.output,hw.drawn,hw.size,hw.frame,hw.hsat,?_,?_,hw.hle,hw.hold,?_⟩
   .intro b' ob hb';have hb'':(if b'=g then some (Obj.cells cur E (0,0))else σ.m b')=some ob:=hb';by_cases e:b'=g
    .subst e;rw[if_pos rfl]at hb'';rw[hg, <-hb'']
    .rw[if_neg e]at hb'';exact hw.msat b' ob hb''
   .intro b' ob hb' i;have hb'':(if b'=g then some (Obj.cells cur E (0,0))else σ.m b')=some ob:=hb';by_cases e:b'=g
    .subst e;exact f3 i
    .rw[if_neg e]at hb'';exact hw.disj b' ob hb'' i
   .intro b' ob hb';have hb'':(if b'=g then some (Obj.cells cur E (0,0))else σ.m b')=some ob:=hb';by_cases e:b'=g
    .subst e;exact f1
    .rw[if_neg e]at hb'';exact hw.mfr b' ob hb''
  .have h2:(if b=g then some (Obj.cells cur E (0,0))else σ.m b)≠none:=h2;by_cases e:b=g
   .rw[e,hv];rfl
   .rw[if_neg e]at h2;exact(h2 h1).elim
theorem AP:∀(ks:List Nat)(σ:St),aI B ι σ a w->AZ σ K ks->∃σ',aI B ι σ' a w/\K σ'/\Ld ι σ σ' ks
 |[],σ,hM,h=>⟨σ,hM,h,⟨λ_ _ _ cs h _=>⟨cs,h⟩,rfl,λ_ _ h=>h,λ_ h1 h2=>(h2 h1).elim⟩⟩
 |k::ks,σ,hM,h=>by
  simp only[AZ]at h;split at h
  .rename_i E sz xs hk;obtain⟨s,m',hnew,hM1,hld⟩:=WK hM hk;obtain⟨σ',hM',hK,hld'⟩:=AP ks _ hM1 (h s m' hnew);refine⟨σ',hM',hK,⟨λj p' T' cs' hj hn=>?_,hld'.imm.trans hld.imm,λx j hx=>hld.lst x j (hld'.lst x j hx),λb h1 h2=>aiQ hld hld' h1 h2⟩⟩;simp only[List.mem_cons,not_or]at hn;obtain⟨cs'',hj'⟩:=hld.cells j p' T' cs' hj (by simpa using hn.1);exact hld'.cells j p' T' cs'' hj' hn.2
  .exact h.elim
end
end Go.Vc
namespace Go.Vc
open Go
def Be(w:World):CV->Value->Prop
 |.val v,u=>u=v
 |.lst E sz xs,u=>eV sz xs/\w.ownsRow 0 E sz u xs.length xs.flatten
 |.tup rs,u=>∃us:Array Value,u= .tuple us/\rs=us.toList.map .val
def fM:CV->Value->Option Nat
 |.lst _ _ _,u=>blk u
 |_,_=>none
def AR(w:World):List CV->List Value->Prop
 |[],[]=>True
 |c::cs,v::vs=>Be w c v/\AR w cs vs
 |_,_=>False
def pT(m:MH)(cvs:List CV)(vs:List Value)(b:Nat):Prop:=m b≠none\/∃(i:Nat)(c:CV)(u:Value),cvs[i]? =some c/\vs[i]? =some u/\fM c u=some b
structure v8(w:World)(m:MH)(h:PH)(cvs:List CV)(vs:List Value):Prop where
 args:AR w cvs vs
 hsat:∀b o v,h b o=some v->w.cell? ⟨b,o,none⟩=some v
 msat:∀b o,m b=some o->w.heap[b]? =some o
 disj:∀b o,m b=some o->∀i,h b i=none
 sep:∀(i j:Nat)(c d:CV)(u v:Value)(b:Nat),cvs[i]? =some c->vs[i]? =some u->cvs[j]? =some d->vs[j]? =some v->fM c u=some b->fM d v=some b->i=j
 free:∀(i:Nat)(c:CV)(u:Value)(b:Nat),cvs[i]? =some c->vs[i]? =some u->fM c u=some b->m b=none/\∀o,h b o=none
def Sound(P:Program)(f:FuncId)(S:Spec):Prop:=
 (∃fn,P.funcs[f]? =some fn/\fn.body.isSome=true/\(fn.name== "runtime.NumGoroutine")=false)/\
 ∀cvs vs m h w K,S cvs m h K->v8 w m h cvs vs->
  Calls P f vs.toArray w λe w'=>∃r u m' h',e= .returned u/\K r m' h'/\Be w' r u/\tR ⟨w,pT m cvs vs,h,[]⟩ m' h' w'/\
   (∀b,fM r u=some b->(w.heap.size<=b\/pT m cvs vs b)/\m' b=none/\∀i,h' b i=none)
section
variable{B:nS}{C:Ctx}{ι:Nat->Value}{σ:St}{a:Act}{w:World}{o:Oper}{K:St->Prop}
theorem EE(sz:Nat):eV sz []:=⟨(λe he=>by cases he),(λe he=>by cases he)⟩
theorem Cq(hM:aI B ι σ a w){mv:List Nat}:∀(i:Nat)(l:List Operand)(ts:List TypeId)(cvs:List CV),qC C.P σ mv i l ts=some cvs->
 AR w cvs (l.map a.eval)/\∀(j:Nat)(c:CV)(u:Value)(b:Nat),cvs[j]? =some c->(l.map a.eval)[j]? =some u->fM c u=some b->
  ∃x k ow,l[j]? =some x/\mv.contains (i+j)=true/\σ.ev x= .at (.lst k)/\nth σ.own k=some (some ow)/\u=ι k
 |i,[],ts,cvs,h=>by
  simp[qC]at h;subst h;exact⟨trivial,λj c u b hj=>by simp at hj⟩
 |i,x::r,ts,cvs,h=>by
  simp only[qC]at h;split at h
  .cases h
  .rename_i rest hrest;obtain⟨ih1,ih2⟩:=Cq hM (i+1) r ts.tail rest hrest
   have tailcase:∀(c0:CV),(∀(u:Value)(b:Nat),(a.eval x)=u->fM c0 u=some b->∃k ow,mv.contains i=true/\σ.ev x= .at (.lst k)/\nth σ.own k=some (some ow)/\u=ι k)->
    ∀(j:Nat)(c:CV)(u:Value)(b:Nat),(c0::rest)[j]? =some c->((x::r).map a.eval)[j]? =some u->fM c u=some b->
     ∃x' k ow,(x::r)[j]? =some x'/\mv.contains (i+j)=true/\σ.ev x'= .at (.lst k)/\nth σ.own k=some (some ow)/\u=ι k:=by
    intro c0 h0 j c u b hj hu hb;cases j with
    |zero=>
     simp at hj hu;subst hj;obtain⟨k,ow,h1,h2,h3,h4⟩:=h0 u b hu hb;exact⟨x,k,ow,rfl,by simpa using h1,h2,h3,h4⟩
    |succ j=>
     simp only[List.getElem?_cons_succ,List.map_cons]at hj hu⊢
     obtain⟨x',k,ow,h1,h2,h3⟩:=ih2 j c u b hj hu hb;exact⟨x',k,ow,h1,by rw[show i+(j+1)=i+1+j by omega];exact h2,h3⟩
   split at h
   .rename_i hmv;split at h
    .rename_i k hx;have hev:=hM.ev x;rw[hx]at hev;have hev:a.eval x=ι k:=hev;split at h
     .rename_i E sz xs hk;simp only[Option.some.injEq]at h;subst h;obtain⟨hr,ho⟩:=oR hM hk;refine⟨⟨⟨hr,by rw[hev];exact ho⟩,ih1⟩,tailcase _ (λu b hu _=>⟨k,_,hmv,hx,hk,by rw[<-hu,hev]⟩)⟩
     .cases h
    .rename_i hx;have hev:=hM.ev x;rw[hx]at hev;have hev:a.eval x= .slice none 0 0:=hev;split at h
     .rename_i E z hE;simp only[Option.some.injEq]at h;subst h;refine⟨⟨⟨EE _,by rw[hev];exact World.ownsRow_nil w 0 E _⟩,ih1⟩,tailcase _ (λu b hu hb=>?_)⟩;rw[hev]at hu;subst hu;simp[fM,blk]at hb
     .cases h
    .cases h
   .split at h
    .rename_i u hu;simp only[Option.some.injEq]at h;subst h;exact⟨⟨hM.rho hu,ih1⟩,tailcase _ (λu b _ hb=>by simp[fM]at hb)⟩
    .cases h
theorem AN{mv:List Nat}:∀(i:Nat)(l:List Operand)(j:Nat)(x:Operand)(k:Nat),l[j]? =some x->mv.contains (i+j)=true->σ.ev x= .at (.lst k)->k∈iM σ mv i l
 |i,[],j,x,k,h,_,_=>by simp at h
 |i,y::r,0,x,k,h,hm,hx=>by
  simp at h;subst h;simp only[Nat.add_zero]at hm;simp only[iM,hm,hx];exact List.mem_cons_self
 |i,y::r,j+1,x,k,h,hm,hx=>by
  simp only[List.getElem?_cons_succ]at h;have:=AN (i+1) r j x k h (by rw[show i+1+j=i+(j+1)by omega];exact hm) hx;simp only[iM];split
  .exact List.mem_cons_of_mem _ this
  .exact this
theorem Et{mv:List Nat}:∀(i:Nat)(l:List Operand),G0 (iM σ mv i l)=true->∀(j j':Nat)(x x':Operand)(k:Nat),l[j]? =some x->l[j']? =some x'->
 mv.contains (i+j)=true->mv.contains (i+j')=true->σ.ev x= .at (.lst k)->σ.ev x'= .at (.lst k)->j=j'
 |i,[],_,j,_,_,_,_,h,_,_,_,_,_=>by simp at h
 |i,y::r,hnd,j,j',x,x',k,h,h',hm,hm',hx,hx'=>by
  have key:∀j x,r[j]? =some x->mv.contains (i+(j+1))=true->σ.ev x= .at (.lst k)->∀x0,y=x0->mv.contains i=true->σ.ev x0= .at (.lst k)->False:=by
   intro j x hj hmj hxj x0 hy hm0 hx0;subst hy;simp only[iM,hm0,hx0]at hnd;have hmem:=AN (σ:=σ) (mv:=mv) (i+1) r j x k hj (by rw[show i+1+j=i+(j+1)by omega];exact hmj) hxj;simp only[G0]at hnd;rw[List.contains_eq_mem]at hnd;simp[hmem]at hnd
  have hnd':G0 (iM σ mv (i+1) r)=true:=by
   simp only[iM]at hnd;split at hnd
   .simp only[G0]at hnd;split at hnd
    .cases hnd
    .exact hnd
   .exact hnd
  cases j with
  |zero=>
   cases j' with
   |zero=>rfl
   |succ j'=>
    simp at h;simp only[List.getElem?_cons_succ]at h';exact(key j' x' h' hm' hx' x h (by simpa using hm) hx).elim
  |succ j=>
   cases j' with
   |zero=>
    simp at h';simp only[List.getElem?_cons_succ]at h;exact(key j x h hm hx x' h' (by simpa using hm') hx').elim
   |succ j'=>
    simp only[List.getElem?_cons_succ]at h h';have:=Et (i+1) r hnd' j j' x x' k h h' (by rw[show i+1+j=i+(j+1)by omega];exact hm) (by rw[show i+1+j'=i+(j'+1)by omega];exact hm') hx hx';rw[this]
theorem Eu:∀(ks:List Nat)(σ:St),aI B ι σ a w->aI B ι (yI σ ks) a w/\(yI σ ks).m=σ.m/\(yI σ ks).h=σ.h/\
 (∀j o',nth (yI σ ks).own j=some (some o')->j∉ks/\∃o1,nth σ.own j=some (some o1))
 |[],σ,hM=>⟨hM,rfl,rfl,λj o' h=>⟨by simp,o',h⟩⟩
 |k::ks,σ,hM=>by
  have h1:=hM.kill k (ι k) (hM.one k);rw[Fe]at h1;obtain⟨g1,g2,g3,g4⟩:=Eu ks (σ.kill k) h1;refine⟨g1,g2,g3,λj o' hj=>?_⟩;obtain⟨hn,o1,ho1⟩:=g4 j o' hj;rw[Jz]at ho1;obtain⟨hne,o2,ho2,_⟩:=nC ho1;exact⟨by simp[hne,hn],o2,ho2⟩
theorem tR.trans{m m':MH}{h h':PH}{w w':World}{E:Nat->Prop}(h1:tR B m h w)(h2:tR ⟨w,E,h,[]⟩ m' h' w')(hE:∀b,E b->B.w0.heap.size<=b\/B.E b):tR B m' h' w':=by
 refine⟨h2.tape.trans h1.tape,h2.os.trans h1.os,h2.output.trans h1.output,Nat.le_trans h1.drawn h2.drawn,Nat.le_trans h1.size h2.size,?_,h2.hsat,h2.msat,h2.disj,λb o v hv=>h2.hle b o v (h1.hle b o v hv),?_,?_⟩
 .intro b hb hn
  have hnE:¬E b:=λe=>by
   rcases hE b e with h3|h3
   .omega
   .exact hn h3
  rw[h2.frame b (Nat.lt_of_lt_of_le hb h1.size) hnE];exact h1.frame b hb hn
 .intro b hb hn
  have hnE:¬E b:=λe=>by
   rcases hE b e with h3|h3
   .omega
   .exact hn h3
  rw[h2.hold b (Nat.lt_of_lt_of_le hb h1.size) hnE];exact h1.hold b hb hn
 .intro b ob hb;rcases h2.mfr b ob hb with h3|h3
  .exact .inl (Nat.le_trans h1.size h3)
  .exact hE b h3
theorem aI.called{m':MH}{h':PH}{w':World}{E:Nat->Prop}(hM:aI B ι σ a w)(h2:tR ⟨w,E,σ.h,[]⟩ m' h' w')(hE:∀b,E b->B.w0.heap.size<=b\/B.E b)
 (hown:∀j o' b,nth σ.own j=some (some o')->blk (ι j)=some b->¬E b):aI B ι {σ with m:=m',h:=h'} a w':=by
 refine⟨hM.slots,hM.defers,?_,hM.dist,?_,hM.wrel.trans h2 hE,hM.one⟩
 .intro j o' hj;have hok:=hM.own j o' hj;exact hok.world (λb hb=>h2.frame b (nQ hok hb) (hown j o' b hj hb))
 .intro j o' b hj hb;have hok:=hM.own j o' hj;obtain⟨f1,f2,f3⟩:=hM.fresh j o' b hj hb;have hlt:=nQ hok hb;have hn:=hown j o' b hj hb;refine⟨f1,?_,λi=>?_⟩
  .show m' b=none;cases hm:m' b with
   |none=>rfl
   |some ob=>
    rcases h2.mfr b ob hm with h3|h3
    .have h3:w.heap.size<=b:=h3;omega
    .exact(hn h3).elim
  .have:h' b=σ.h b:=h2.hold b hlt hn;show h' b i=none;rw[this];exact f3 i
theorem Fg:∀{rs:List CV}{l:List (Sum At (List At))}{us:List Value},Bg rs=some l->rs=us.map .val->Lq ι l us
 |[],l,us,h,hr=>by
  simp[Bg]at h;subst h;cases us with
  |nil=>trivial
  |cons u us=>simp at hr
 |.val v::r,l,us,h,hr=>by
  cases us with
  |nil=>simp at hr
  |cons u us=>
   simp only[List.map_cons,List.cons.injEq,CV.val.injEq]at hr;simp only[Bg]at h;split at h
   .rename_i l' hl';simp only[Option.some.injEq]at h;subst h;exact⟨hr.1.symm,Fg hl' hr.2⟩
   .cases h
 |.lst _ _ _::_,l,us,h,_=>by simp[Bg]at h
 |.tup _::_,l,us,h,_=>by simp[Bg]at h
theorem Ic{E sz n:Nat}{v:Value}{l:List Value}(h:w.ownsRow 0 E sz v n l):v.oneCell'=true:=by
 rcases h.2 with⟨rfl,_⟩|⟨g,cap,cur,rfl,_⟩<;>rfl
theorem Ia{σ:St}{k:Nat}:∀{l:List Operand},k∈mH σ l->∃x∈l,∃off,σ.ev x= .at (.ptr k off)
 |[],h=>by cases h
 |x::r,h=>by
  have ih:=λh=>Ia (σ:=σ) (k:=k) (l:=r) h;have ih':k∈mH σ r->∃y∈x::r,∃off,σ.ev y= .at (.ptr k off):=λh=>let⟨y,hy,off,e⟩:=ih h;⟨y,List.mem_cons_of_mem _ hy,off,e⟩
  simp only[mH]at h;split at h
  .rename_i k' off hx;split at h
   .exact ih' h
   .rcases List.mem_cons.1 h with rfl|h
    .exact⟨x,List.mem_cons_self,off,hx⟩
    .exact ih' h
  .exact ih' h
theorem Tp(hspecs:∀g S,assoc C.specs g=some S->Sound C.P g S)(hM:aI B ι σ a w){c:Call}{g:Operand}{f:FuncId}{fs cs:Array Value}(ho:o.op= .call c)(hc:c.callee= .value g)
 (hg:σ.ev g= .at (.val (.func (.func f) fs cs)))(hfs:fs.toList=[])(hcs:cs.toList=[])(h:Tq C o f c.args.toList c.argTypes.toList σ K):Re B C ι o σ K a w:=by
 intro next Q hnext
 unfold Tq at h;split at h
 .exact h.elim
 .rename_i S hS;obtain⟨⟨fn,hfn,hbody,hname⟩,hsound⟩:=hspecs f S hS;obtain⟨τ,hMτ,h,hfz⟩:=lV _ _ hM h;obtain⟨υ,hMυ,h,hld⟩:=uQ _ _ hMτ h;split at h
  .rename_i cvs hcvs hnd;generalize DW C f=mv at*
   obtain⟨hargs,hblk⟩:=Cq hMυ 0 _ _ _ hcvs
   have hpre:v8 w υ.m υ.h cvs (c.args.toList.map a.eval):=by
    refine⟨hargs,hMυ.wrel.hsat,hMυ.wrel.msat,hMυ.wrel.disj,?_,?_⟩
    .intro i j c1 d1 u v b hi hu hj hv hb hb';obtain⟨x,k,ow,hx,hm,hk,hown,rfl⟩:=hblk i c1 u b hi hu hb;obtain⟨x',k',ow',hx',hm',hk',hown',rfl⟩:=hblk j d1 v b hj hv hb';have hbk:blk (ι k)=some b:=by cases c1<;>simp[fM]at hb;exact hb
     have hbk':blk (ι k')=some b:=by cases d1<;>simp[fM]at hb';exact hb'
     have hkk:=hMυ.dist k k' _ _ b hown hown' hbk hbk';subst hkk;exact Et (σ:=υ) (mv:=mv) 0 c.args.toList hnd i j x x' k hx hx' hm hm' hk hk'
    .intro i c1 u b hi hu hb;obtain⟨x,k,ow,hx,hm,hk,hown,rfl⟩:=hblk i c1 u b hi hu hb;have hbk:blk (ι k)=some b:=by cases c1<;>simp[fM]at hb;exact hb
     exact(hMυ.fresh k ow b hown hbk).2
   have hcall:=hsound cvs _ υ.m υ.h w _ h hpre;have hev:a.eval g= .func (.func f) fs cs:=by have:=hM.ev g;rw[hg]at this;exact this
   have hfs':fs= #[]:=by apply Array.toList_inj.1;simpa using hfs
   have hcs':cs= #[]:=by apply Array.toList_inj.1;simpa using hcs
   subst hfs' hcs';have hargsA:c.args.map a.eval=(c.args.toList.map a.eval).toArray:=by apply Array.toList_inj.1;simp
   have hbn:¬fn.body=none:=by intro e;rw[e]at hbody;cases hbody
   have hnm:¬fn.name= "runtime.NumGoroutine" :=by simpa using hname
   have hrun:(execOp a.eval o).run C.P w= .ok (.enter f (c.args.toList.map a.eval).toArray) w:=by
    unfold execOp;simp only[ho,resolve,hc,hev,Deferred.ofValue,Sem.run_bind,Sem.run_pure,Result.andThen_ok,invoke,callFunc];simp[program,Sem.run,hfn,hnm,hbn,hargsA]
   unfold Oper.wp;rw[hrun,Oper.upon_enter];refine Calls.mono hcall ?_;rintro e w' ⟨r,u,m',h',rfl,hK,hr,hw,hb⟩;show next (a.put o.dst u) w'
   obtain⟨hM1,hm1,hh1,hgone⟩:=Eu (iM υ mv 0 c.args.toList) υ hMυ
   have hEfr:∀b,pT υ.m cvs (c.args.toList.map a.eval) b->B.w0.heap.size<=b\/B.E b:=by
    rintro b (hmb|⟨i,c1,u1,hi,hu1,hb1⟩)
    .cases hm2:υ.m b with
     |none=>exact(hmb hm2).elim
     |some ob=>exact hMυ.wrel.mfr b ob hm2
    .obtain⟨x,k,ow,hx,hm2,hk,hown,rfl⟩:=hblk i c1 u1 b hi hu1 hb1;have hbk:blk (ι k)=some b:=by cases c1<;>simp[fM]at hb1;exact hb1
     exact(hMυ.fresh k ow b hown hbk).1
   have hnotE:∀j o' b,nth (yI υ (iM υ mv 0 c.args.toList)).own j=some (some o')->blk (ι j)=some b->¬pT υ.m cvs (c.args.toList.map a.eval) b:=by
    intro j o' b hj hbj hmov;obtain⟨hnin,o1,ho1⟩:=hgone j o' hj;rcases hmov with hmb|⟨i,c1,u1,hi,hu1,hb1⟩
    .exact hmb (hMυ.fresh j o1 b ho1 hbj).2.1
    .obtain⟨x,k,ow,hx,hm2,hk,hown,rfl⟩:=hblk i c1 u1 b hi hu1 hb1;have hbk:blk (ι k)=some b:=by cases c1<;>simp[fM]at hb1;exact hb1
     have:=hMυ.dist j k _ _ b ho1 hown hbj hbk;subst this;exact hnin (AN 0 _ i x j hx (by simpa using hm2) hk)
   have hM2:aI B ι {yI υ (iM υ mv 0 c.args.toList)with m:=m',h:=h'} a w':=by
    refine hM1.called (E:=pT υ.m cvs (c.args.toList.map a.eval)) ?_ hEfr hnotE;rw[hh1];exact hw
   have hkeep:E8 σ ι o w w':=by
    constructor
    .intro k p T cs' b hk ht hι;obtain⟨cs1,hk1⟩:=hfz.cells k p T cs' hk;have htτ:=JN hfz ht
     have hnp:k∉mH τ c.args.toList:=by
      unfold uZ at htτ;rw[Bool.or_eq_false_iff]at htτ;have:=htτ.2;simp only[ho,hc]at this;simpa using this
     obtain⟨cs2,hk2⟩:=hld.cells k p T cs1 hk1 hnp;have hbk:blk (ι k)=some b:=by rw[hι];rfl
     refine hw.frame b (nQ (hMυ.own k _ hk2) hbk) ?_;rintro(hmb|⟨i,c1,u1,hi,hu1,hb1⟩)
     .exact hmb (hMυ.fresh k _ b hk2 hbk).2.1
     .obtain⟨x,k',ow,hx,hm2,hk',hown,rfl⟩:=hblk i c1 u1 b hi hu1 hb1;have hbk':blk (ι k')=some b:=by cases c1<;>simp[fM]at hb1;exact hb1
      have:=hMυ.dist k k' _ _ b hk2 hown hbk hbk';subst this;cases c1<;>simp[fM]at hb1;rename_i E1 sz1 xs1;have hcell:=hMυ.own k _ hk2;obtain⟨b2,vs2,e2,_,_⟩:=hcell
      have hlst:∃ad n cp,ι k= .slice ad n cp:=by
       have harg:∀(l:List CV)(vs:List Value),AR w l vs->∀(i:Nat)(c1:CV)(u1:Value),l[i]? =some c1->vs[i]? =some u1->Be w c1 u1:=by
        intro l
        induction l with
        |nil=>intro vs _ i c1 u1 h1;simp at h1
        |cons x0 r0 ih0=>
         intro vs hv i c1 u1 h1 h2;cases vs with
         |nil=>exact hv.elim
         |cons v0 vs0=>
          cases i with
          |zero=>simp at h1 h2;subst h1 h2;exact hv.1
          |succ i=>simp at h1 h2;exact ih0 vs0 hv.2 i c1 u1 h1 h2
       have:=harg _ _ hargs i _ _ hi hu1;rcases this.2.2 with⟨e3,_⟩|⟨g3,cap3,cur3,e3,_⟩
       .exact⟨_,_,_,e3⟩
       .exact⟨_,_,_,e3⟩
      obtain⟨ad,n,cp,e3⟩:=hlst;rw[e2]at e3;cases e3
    .intro b off v hv;have h1:=hfz.imm b off v hv;rw[<-hld.imm]at h1;exact hw.hsat b off v (hw.hle b off v h1)
    .intro hg;rw[ho]at hg;simp[xA]at hg
    .intro l b hl hb hmb hx;have hl:c.args.toList=l:=by simpa[pM,ho,hc]using hl
     refine hw.frame b hb ?_;rintro(hm2|⟨i,c1,u1,hi,hu1,hb1⟩)
     .obtain⟨k,hk,hbk⟩:=hld.m_ b (by rw[hfz.m_];exact hmb) hm2;obtain⟨x,hxm,off,hxe⟩:=Ia hk;exact hx x (hl▸hxm) k (.inr ⟨off,hfz.ptr x k off hxe⟩) hbk
     .obtain⟨x,k',ow,hx',hm2,hk',hown,rfl⟩:=hblk i c1 u1 b hi hu1 hb1;have hbk':blk (ι k')=some b:=by cases c1<;>simp[fM]at hb1;exact hb1
      exact hx x (hl▸List.mem_of_getElem? hx') k' (.inl (hfz.lst x k' (hld.lst x k' hk'))) hbk'
   unfold ZO at hK;split at hK
   .rename_i v;exact hnext ι _ _ _ (hM2.put o.dst (x:=.at (.val v)) hr) hK hkeep
   .rename_i E sz xs;split at hK
    .rename_i d hd;rw[hd];generalize (iM υ mv 0 c.args.toList).headD d=kd at hK;refine hnext (upd ι kd u) _ _ _ (aI.put ?_ (some d) (x:=.at (.lst kd)) (by show _=_;simp)) hK hkeep;refine hM2.adopt kd _ u ⟨hr.1,hr.2⟩ (Ic hr.2) (λb hbu=>?_);obtain⟨f1,f2,f3⟩:=hb b hbu;refine⟨⟨?_,f2,f3⟩,?_⟩
     .rcases f1 with f1|f1
      .exact .inl (Nat.le_trans hMυ.wrel.size f1)
      .exact hEfr b f1
     .intro j o' _ hj hbj;have hj':nth (yI υ (iM υ mv 0 c.args.toList)).own j=some (some o'):=hj;rcases f1 with f1|f1
      .have:=nQ (hM1.own j o' hj') hbj;omega
      .exact hnotE j o' b hj' hbj f1
    .exact hK.elim
   .rename_i rs;split at hK
    .rename_i l hl;obtain⟨us,rfl,hrs⟩:=hr;exact hnext ι _ _ _ (hM2.put o.dst (x:=.tup l) ⟨us,rfl,Fg hl hrs⟩) hK hkeep
    .exact hK.elim
  .exact h.elim
end
end Go.Vc
