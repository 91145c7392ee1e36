/- Own work. -/
import Derived.Calls
import Derived.CallsIn
import Derived.Orders
import Derived.KernelRfl
import Derived.Laws.AppendOwn
import Derived.Laws.CopyRow
import Derived.Deep.AppendSrc
import Derived.Deep.LoopGhost
import Derived.Laws.StructEq
import Derived.Laws.BytesArg
import Derived.Laws.NewBlocks
import Derived.Great.BuildSlice
import Derived.Laws.MakeOwn
import Derived.Lib.AppendZerosOnto
set_option linter.unusedVariables false
set_option linter.unusedSimpArgs false
namespace Go
theorem aC{p:Prop}(h:p:=by omega):p:=h
end Go
namespace Go.Vc
open Go
abbrev PH:=Nat->Nat->Option Value
abbrev MH:=Nat->Option Obj
structure Sl where
 a:Option Addr
 len:Nat
 cap:Nat
def Sl.val(s:Sl):Value:=.slice s.a s.len s.cap
inductive At where
 |val (v:Value)
 |ptr (k o:Nat)
 |lst (k:Nat)
 |el (k i sz o:Nat)
 |junk
inductive SV where
 |at(x:At)
 |agg (cs:List At)
 |tup (xs:List (Sum At (List At)))
inductive Own where
 |cellsP (p:Option Nat) (T:TypeId) (cs:List At)
 |lst (E:TypeId) (sz:Nat) (xs:List (List Value))
abbrev Own.cells(T:TypeId)(cs:List At):Own:=.cellsP none T cs
structure St where
 sl:List SV
 own:List (Option Own)
 m:MH
 h:PH
inductive CV where
 |val (v:Value)
 |lst (E:TypeId) (sz:Nat) (xs:List (List Value))
 |tup (xs:List CV)
abbrev Spec:=List CV->MH->PH->(CV->MH->PH->Prop)->Prop
structure Za where
 X:Type
 enc:X->List Value
inductive uM where
 |normal
 |exit (id:Nat)
 |ret
structure H9 where
 A:Type
 st:A->St
 inv:A->Prop
 mu:A->Nat
structure Sg where
 A:Type
 st:A->St
 inv:A->Prop
structure sB where
 A:Type
 st:A->St
 frz:Bool:=false
structure Ctx where
 P:Program
 loops2:List (Nat×sB)
 cuts2:List (Nat×sB)
 rcuts:List (Nat×List (Nat×sB))
 heapT:List TypeId
 specs:List (Nat×Spec)
 dec:TypeId->Za
 loops:List (Nat×H9)
 cuts:List (Nat×Sg)
 moves:List (Nat×List Nat)
 retMove:Bool
 yield:Option Spec
 elemT:List TypeId:=[]
def nth{α:Type}:List α->Nat->Option α
 |[],_=>none
 |x::_,0=>some x
 |_::xs,n+1=>nth xs n
def I4:List Nat->Nat->Bool
 |[],_=>false
 |x::r,n=>match Nat.beq x n with|true=>true|false=>I4 r n
def assoc.{u}{α:Type u}:List (Nat×α)->Nat->Option α
 |[],_=>none
 |(k,v)::r,n=>match Nat.beq k n with|true=>some v|false=>assoc r n
def branch(c:Bool)(A B:Prop):Prop:=match c with|true=>A|false=>B
def St.ev(σ:St):Operand->SV
 |.tmp t=>match nth σ.sl t with|some x=>x|none=>.at .junk
 |.const v=>.at (.val v)
 |.global g=>.at (.val (.pointer (some ⟨g,0,none⟩)))
 |.func f=>.at (.val (.func (.func f) #[] #[]))
def St.put(σ:St)(d:Option Tmp)(x:SV):St:=
 match d with
 |some d=>{σ with sl:=σ.sl.set d x}
 |none=>σ
def At.sub(k:Nat)(f:At->At):At->At
 |.val v=>.val v
 |.ptr j o=>match Nat.beq j k with|true=>f (.ptr j o)|false=>.ptr j o
 |.lst j=>match Nat.beq j k with|true=>f (.lst j)|false=>.lst j
 |.el j i sz o=>match Nat.beq j k with|true=>f (.el j i sz o)|false=>.el j i sz o
 |.junk=>.junk
def SV.sub(k:Nat)(f:At->At):SV->SV
 |.at x=>.at (x.sub k f)
 |.agg cs=>.agg (cs.map (At.sub k f))
 |.tup xs=>.tup (xs.map λ |.inl x=>.inl (x.sub k f)|.inr cs=>.inr (cs.map (At.sub k f)))
def Own.sub(k:Nat)(f:At->At):Own->Own
 |.cellsP p T cs=>.cellsP p T (cs.map (At.sub k f))
 |.lst E sz xs=>.lst E sz xs
def St.sub(σ:St)(k:Nat)(f:At->At):St:=
 {σ with sl:=σ.sl.map (SV.sub k f),own:=σ.own.map (Option.map (Own.sub k f))}
def St.kill(σ:St)(k:Nat):St:=
 let τ:=σ.sub k (λ_=>.junk)
 {τ with own:=τ.own.set k none}
def St.setOwn(σ:St)(k:Nat)(o:Option Own):St:={σ with own:=σ.own.set k o}
def At.val? :At->Option Value
 |.val v=>some v
 |_=>none
def oZ:List At->Option (List Value)
 |[]=>some []
 |.val v::r=>match oZ r with|some l=>some (v::l)|none=>none
 |_::_=>none
def SV.val? :SV->Option Value
 |.at (.val v)=>some v
 |.agg cs=>match oZ cs with|some l=>some (.agg l.toArray)|none=>none
 |_=>none
def SV.cells? :SV->Option (List At)
 |.at (.val (.agg cs))=>some (cs.toList.map .val)
 |.at (.val (.tuple _))=>none
 |.at .junk=>none
 |.at x=>some [x]
 |.agg cs=>some cs
 |.tup _=>none
def At.storable:At->Bool
 |.val (.agg _)=>false
 |.val (.tuple _)=>false
 |.junk=>false
 |_=>true
def nO:List At->Bool
 |[]=>true
 |x::r=>match x.storable with|true=>nO r|false=>false
def uQ{α:Type}(P:Program):Sem α->Option α
 |.pure a=>some a
 |.program k=>uQ P (k P)
 |.mark _ k=>uQ P k
 |_=>none
def St.rho(σ:St)(x:Operand):Value:=match(σ.ev x).val? with|some v=>v|none=>undef
def H7(σ:St):List Operand->Bool
 |[]=>true
 |x::r=>match(σ.ev x).val? with|some _=>H7 σ r|none=>false
structure bF(h:PH)(b o:Nat)(l:List Value):Prop where
 rd:∀i v,l[i]? =some v->h b (o+i)=some v
inductive aI(m:MH)(h:PH)(b off:Nat)(l:List Value):Prop
 |imm (hr:bF h b off l):aI m h b off l
 |lent (cs:Array Value) (E:TypeId) (fz:Nat×Nat) (hm:m b=some (.cells cs E fz)) (hl:(cs.toList.drop off).take l.length=l):aI m h b off l
structure wS(m:MH)(b:Nat)(o:Obj):Prop where
 at_:m b=some o
structure bY(m:MH)(h:PH)(b:Nat):Prop where
 m_:m b=none
 h_:∀i,h b i=none
def wK(P:Program)(t:TypeId):Bool:=
 match P.underlying t with
 |some (.struct _)=>true
 |some (.array _ _)=>true
 |_=>false
def mk(P:Program)(T:TypeId)(cs:List At):SV:=
 match wK P T with
 |true=>.agg cs
 |false=>match cs with|[x]=>.at x|_=>.at .junk
def qW(C:Ctx)(o:Oper)(σ:St)(K:St->Prop):Prop:=
 match H7 σ o.op.operands.toList with
 |true=>match uQ C.P (execOp σ.rho o)with
  |some (.value v)=>K (σ.put o.dst (.at (.val v)))
  |_=>False
 |false=>False
def fO(P:Program)(T:TypeId):Bool:=
 match P.underlying T with
 |some _=>match P.cellsOf T with|0=>false|_=>true
 |none=>false
def WI(C:Ctx)(T:TypeId)(R:List Value->Prop)(K:List Value->Prop):Prop:=
 ∃y:(C.dec T).X,R ((C.dec T).enc y)/\
  match Nat.beq ((C.dec T).enc y).length (C.P.cellsOf T)with
  |true=>K ((C.dec T).enc y)
  |false=>False
def Qo(C:Ctx)(o:Oper)(T:TypeId)(x:Operand)(σ:St)(K:St->Prop):Prop:=
 match fO C.P T with
 |false=>False
 |true=>
  match σ.ev x with
  |.at (.ptr k off)=>
   match nth σ.own k with
   |some (some (.cellsP _ _ cs))=>
    match Nat.ble (off+C.P.cellsOf T) cs.length with
    |true=>K (σ.put o.dst (mk C.P T ((cs.drop off).take (C.P.cellsOf T))))
    |false=>False
   |_=>False
  |.at (.el k i sz off)=>
   match nth σ.own k with
   |some (some (.lst _ s xs))=>
    match Nat.beq s sz with
    |true=>∃e:List Value,xs[i]? =some e/\WI C T (λl=>(e.drop off).take (C.P.cellsOf T)=l) λl=>K (σ.put o.dst (mk C.P T (l.map .val)))
    |false=>False
   |_=>False
  |.at (.val (.pointer (some ⟨b,off,none⟩)))=>
   WI C T (aI σ.m σ.h b off) λl=>K (σ.put o.dst (mk C.P T (l.map .val)))
  |_=>False
def splice{α:Type}(cs:List α)(off:Nat)(new:List α):List α:=cs.take off++new++cs.drop (off+new.length)
structure eW(m m':MH)(b:Nat)(o:Obj):Prop where
 at_:m' b=some o
 other:∀b',b'≠b->m' b'=m b'
def ME(C:Ctx)(T:TypeId)(x v:Operand)(σ:St)(K:St->Prop):Prop:=
 match(σ.ev v).cells? with
 |none=>False
 |some new=>
 match Nat.beq new.length (C.P.cellsOf T),nO new,fO C.P T with
 |true,true,true=>
  match σ.ev x with
  |.at (.ptr k off)=>
   match nth σ.own k with
   |some (some (.cellsP p E cs))=>
    match Nat.ble (off+new.length) cs.length with
    |true=>K (σ.setOwn k (some (.cellsP p E (splice cs off new))))
    |false=>False
   |_=>False
  |.at (.el k i sz off)=>
   match nth σ.own k,oZ new with
   |some (some (.lst E s xs)),some l=>
    match Nat.beq s sz with
    |true=>∃e:List Value,xs[i]? =some e/\off+l.length<=e.length/\
     K (σ.setOwn k (some (.lst E s (xs.set i (splice e off l)))))
    |false=>False
   |_,_=>False
  |.at (.val (.pointer (some ⟨b,off,none⟩)))=>
   match oZ new with
   |some l=>∃(cs:Array Value)(E:TypeId),wS σ.m b (.cells cs E (0,0))/\off+l.length<=cs.size/\
    ∀m':MH,eW σ.m m' b (.cells (splice cs.toList off l).toArray E (0,0))->K {σ with m:=m'}
   |none=>False
  |_=>False
 |_,_,_=>False
def Fl(P:Program)(T:TypeId)(f:Nat):Option (Nat×TypeId):=
 match P.underlying T with
 |some (.struct fs)=>match nth fs.toList f with
  |some g=>match Nat.beq (P.cellsOf g.type) 0 with|true=>none|false=>some (g.offset,g.type)
  |none=>none
 |_=>none
def BT(C:Ctx)(o:Oper)(T:TypeId)(x:Operand)(f:Nat)(σ:St)(K:St->Prop):Prop:=
 match Fl C.P T f with
 |none=>False
 |some (g,_)=>
  match σ.ev x with
  |.at (.ptr k off)=>K (σ.put o.dst (.at (.ptr k (off+g))))
  |.at (.el k i sz off)=>K (σ.put o.dst (.at (.el k i sz (off+g))))
  |.at (.val (.pointer (some ⟨b,off,none⟩)))=>K (σ.put o.dst (.at (.val (.pointer (some ⟨b,off+g,none⟩)))))
  |_=>False
def DH(o:Oper)(x:Operand)(σ:St)(K:St->Prop):Prop:=
 match σ.ev x with
 |.at (.ptr k off)=>K (σ.put o.dst (.at (.ptr k off)))
 |.at (.el k i sz off)=>K (σ.put o.dst (.at (.el k i sz off)))
 |.at (.val (.pointer (some a)))=>K (σ.put o.dst (.at (.val (.pointer (some a)))))
 |_=>False
def BM(C:Ctx)(o:Oper)(T:TypeId)(x i:Operand)(σ:St)(K:St->Prop):Prop:=
 match σ.ev i with
 |.at (.val (.int _ n))=>
  match C.P.underlying T with
  |some (.slice E)=>
   match fO C.P E with
   |true=>
    match σ.ev x with
    |.at (.lst k)=>
     match nth σ.own k with
     |some (some (.lst _ sz xs))=>match Nat.beq sz (C.P.cellsOf E)with
      |true=>0<=n/\n<(xs.length:Int)/\K (σ.put o.dst (.at (.el k n.toNat sz 0)))
      |false=>False
     |_=>False
    |.at (.val (.slice a len _))=>
     ∃b off,a=some ⟨b,off,none⟩/\0<=n/\n<(len:Int)/\
      K (σ.put o.dst (.at (.val (.pointer (some ⟨b,off+n.toNat*C.P.cellsOf E,none⟩)))))
    |_=>False
   |false=>False
  |some (.array len E)=>
   match fO C.P E with
   |true=>
    match σ.ev x with
    |.at (.ptr k off)=>0<=n/\n<(len:Int)/\K (σ.put o.dst (.at (.ptr k (off+n.toNat*C.P.cellsOf E))))
    |.at (.val (.pointer (some ⟨b,off,none⟩)))=>0<=n/\n<(len:Int)/\K (σ.put o.dst (.at (.val (.pointer (some ⟨b,off+n.toNat*C.P.cellsOf E,none⟩)))))
    |_=>False
   |false=>False
  |_=>False
 |_=>False
def S2(o:Oper)(op:BinOp)(x y:Operand)(σ:St)(K:St->Prop):Prop:=
 match σ.ev x,σ.ev y with
 |.at (.val (.int k a)),.at (.val (.int k' b))=>
  match decide (k=k')with
  |true=>
   b≠0/\(match op with
    |.quo=>K (σ.put o.dst (.at (.val (.int k (k.wrap (a.tdiv b))))))
    |.rem=>K (σ.put o.dst (.at (.val (.int k (a.tmod b)))))
    |_=>False)
  |false=>False
 |_,_=>False
def JP(C:Ctx)(o:Oper)(x y:Operand)(σ:St)(K:St->Prop):Prop:=
 match σ.ev x,σ.ev y with
 |.at (.val (.string a)),.at (.val (.string b))=>a.size+b.size<=9223372036854775807/\K (σ.put o.dst (.at (.val (.string (a++b)))))
 |_,_=>qW C o σ K
def Qh(o:Oper)(c a b:Operand)(σ:St)(K:St->Prop):Prop:=
 match σ.ev c with
 |.at (.val (.bool t))=>branch t (K (σ.put o.dst (σ.ev a))) (K (σ.put o.dst (σ.ev b)))
 |_=>False
structure bH(h:PH)(s:Sl)(sz:Nat)(xs:List (List Value)):Prop where
 len:s.len=xs.length
 row:xs=[]\/∃b o,s.a=some ⟨b,o,none⟩/\∀i e,xs[i]? =some e->bF h b (o+i*sz) e
 cap:s.len<=s.cap
structure PH.le(h h':PH):Prop where
 le:∀b o v,h b o=some v->h' b o=some v
def pE(σ:St)(K:St->Prop):List Nat->Prop
 |[]=>K σ
 |k::ks=>
  match nth σ.own k with
  |some (some (.lst _ sz xs))=>
   ∀(s:Sl)(h':PH),PH.le σ.h h'->bH h' s sz xs->
    pE {(σ.sub k (λ |.lst _=>.val s.val|_=>.junk)).setOwn k none with h:=h'} K ks
  |_=>False
def F5:List At->List Nat
 |[]=>[]
 |.lst k::r=>match(F5 r).contains k with|true=>F5 r|false=>k::F5 r
 |_::r=>F5 r
def SV.keys:SV->List Nat
 |.at x=>F5 [x]
 |.agg cs=>F5 cs
 |.tup _=>[]
def zeroCells(P:Program)(T:TypeId):Option (List Value):=
 match P.info? T with
 |some i=>match i.zero with
  |some v=>some v.cells.toList
  |none=>none
 |none=>none
def Nw(C:Ctx)(o:Oper)(T:TypeId)(σ:St)(K:St->Prop):Prop:=
 match o.dst,zeroCells C.P T with
 |some d,some z=>K (((σ.kill d).setOwn d (some (.cells T (z.map .val)))).put (some d) (.at (.ptr d 0)))
 |_,_=>False
def S7(o:Oper)(T:TypeId)(x:Operand)(σ:St)(K:St->Prop):Prop:=
 match o.dst,(σ.ev x).cells? with
 |some d,some cs=>K (((σ.kill d).setOwn d (some (.cells T (cs.map (At.sub d (λ_=>.junk)))))).put (some d) (.at (.ptr d 0)))
 |_,_=>False
def partAt(P:Program)(T:TypeId)(i:Nat):Option (Nat×Nat):=
 match P.underlying T with
 |some (.struct fs)=>match nth fs.toList i with|some g=>some (g.offset,P.cellsOf g.type)|none=>none
 |some (.array _ E)=>some (i*P.cellsOf E,P.cellsOf E)
 |_=>none
def IC(P:Program)(T:TypeId):Bool:=
 match P.underlying T with
 |some (.struct fs)=>fs.toList.all λf=>(P.info? f.type).isSome
 |some (.array _ E)=>(P.info? E).isSome
 |_=>false
def zJ(P:Program)(T:TypeId)(σ:St):List (Nat×Operand)->List At->Option (List At)
 |[],cs=>some cs
 |(i,x)::r,cs=>
  match partAt P T i,(σ.ev x).cells? with
  |some (off,size),some new=>
   match Nat.beq new.length size,Nat.ble (off+new.length) cs.length with
   |true,true=>zJ P T σ r (splice cs off new)
   |_,_=>none
  |_,_=>none
def Ns(C:Ctx)(o:Oper)(T:TypeId)(parts:List (Nat×Operand))(σ:St)(K:St->Prop):Prop:=
 match zeroCells C.P T with
 |some z=>match zJ C.P T σ parts (z.map .val),IC C.P T with
  |some cs,true=>K (σ.put o.dst (.agg cs))
  |_,_=>False
 |none=>False
def zI(σ:St)(sz:Nat):List (Nat×Operand)->List (List Value)->Option (List (List Value))
 |[],es=>some es
 |(i,x)::r,es=>
  match(σ.ev x).cells? with
  |some cs=>match oZ cs with
   |some l=>match Nat.beq l.length sz,Nat.ble (i+1) es.length,nO cs with
    |true,true,true=>zI σ sz r (es.set i l)
    |_,_,_=>none
   |none=>none
  |none=>none
def Br(σ:St):List Operand->List Nat
 |[]=>[]
 |x::r=>(σ.ev x).keys++(Br σ r).filter (λk=> !(σ.ev x).keys.contains k)
def elemOf(P:Program)(T:TypeId):Option (TypeId×List Value):=
 match P.underlying T with
 |some (.slice E)=>match zeroCells P E with
  |some z=>match Nat.beq z.length (P.cellsOf E),Nat.beq (P.cellsOf E) 0,z.all Value.oneCell' with
   |true,false,true=>some (E,z)
   |_,_,_=>none
  |none=>none
 |_=>none
def A0(C:Ctx)(o:Oper)(T:TypeId)(n:Nat)(parts:List (Nat×Operand))(σ:St)(K:St->Prop):Prop:=
 pE σ (λτ=>
  match o.dst,elemOf C.P T with
  |some d,some (E,z)=>
   match zI τ (C.P.cellsOf E) parts (List.replicate n z),Nat.ble (n*C.P.cellsOf E) 16777216 with
   |some es,true=>K (((τ.kill d).setOwn d (some (.lst E (C.P.cellsOf E) es))).put (some d) (.at (.lst d)))
   |_,_=>False
  |_,_=>False) (Br σ (parts.map (·.2)))
structure dU(sz:Nat)(ys:List (List Value)):Prop where
 len:∀e∈ys,e.length=sz
 one:∀e∈ys,∀u∈e,u.oneCell'=true
structure cD(m:MH)(s:Sl)(E:TypeId)(sz:Nat)(xs:List (List Value)):Prop where
 rows:dU sz xs
 ex:(s=⟨none,0,0⟩/\xs=[])\/∃b cap cur,s=⟨some ⟨b,0,none⟩,xs.length,cap⟩/\m b=some (.cells cur E (0,0))/\xs.length<=cap/\cap<=maxLen/\cur.size=cap*sz/\cur.toList.take (xs.length*sz)=xs.flatten
structure YI(m m':MH)(h:PH)(s:Sl)(E:TypeId)(sz:Nat)(xs:List (List Value)):Prop where
 row:cD m' s E sz xs
 other:∀b,(∀i,s.a≠some ⟨b,i,none⟩)->m' b=m b
 fresh:∀b i,s.a=some ⟨b,i,none⟩->bY m h b
def zD(σ:St)(K:St->Prop):List Nat->Prop
 |[]=>K σ
 |k::ks=>
  match nth σ.own k with
  |some (some (.lst E sz xs))=>
   ∀(s:Sl)(m':MH),YI σ.m m' σ.h s E sz xs->
    zD {(σ.sub k (λ |.lst _=>.val s.val|_=>.junk)).setOwn k none with m:=m'} K ks
  |_=>False
def BI(C:Ctx)(o:Oper)(T:TypeId)(l c:Operand)(σ:St)(K:St->Prop):Prop:=
 match o.dst,elemOf C.P T,σ.ev l,σ.ev c with
 |some d,some (E,z),.at (.val (.int _ n)),.at (.val (.int _ m))=>
  0<=n/\n<=m/\m*(C.P.bytesOf E:Int)<=281474976710656/\m<=281474976710656/\
   K (((σ.kill d).setOwn d (some (.lst E (C.P.cellsOf E) (List.replicate n.toNat z)))).put (some d) (.at (.lst d)))
 |_,_,_,_=>False
def fY(s:ByteArray):List (List Value):=s.data.toList.map λb=>[.int .u8 b.toNat]
inductive sH(m:MH)(h:PH)(s:Sl)(sz:Nat)(ys:List (List Value)):Prop
 |imm (hr:bH h s sz ys):sH m h s sz ys
 |lent (b o:Nat) (cs:Array Value) (E:TypeId) (fz:Nat×Nat) (hs:s.a=some ⟨b,o,none⟩) (hn:s.len=ys.length) (hm:m b=some (.cells cs E fz)) (hl:(cs.toList.drop o).take ys.flatten.length=ys.flatten):sH m h s sz ys
def Zq(lent:Bool)(σ:St)(s:Sl)(sz:Nat)(ys:List (List Value)):Prop:=match lent with|true=>sH σ.m σ.h s sz ys|false=>bH σ.h s sz ys
def Eg(P:Program)(lent:Bool)(σ:St)(sz:Nat)(tx:TypeId)(y:SV)(K:List (List Value)->Prop):Prop:=
 match y,P.underlying tx with
 |.at (.lst k),some (.slice _)=>match nth σ.own k with
  |some (some (.lst _ s ys))=>match Nat.beq s sz with|true=>K ys|false=>False
  |_=>False
 |.at (.val (.slice a n c)),some (.slice _)=>∃ys:List (List Value),dU sz ys/\Zq lent σ ⟨a,n,c⟩ sz ys/\K ys
 |.at (.val (.string s)),some .string=>match Nat.beq sz 1 with|true=>K (fY s)|false=>False
 |_,_=>False
structure eX(m m':MH)(s s':Sl)(E:TypeId)(sz:Nat)(zs:List (List Value)):Prop where
 row:cD m' s' E sz zs
 other:∀b o,m b=some o->(∀i,s.a≠some ⟨b,i,none⟩)->m' b=some o
 fresh:∀b i,s'.a=some ⟨b,i,none⟩->m b=none\/∃i,s.a=some ⟨b,i,none⟩
 old:s'.a=s.a\/∀b o,m b=some o->m' b=some o
def sameKey(y:SV)(k:Nat):Bool:=match y with|.at (.lst k')=>Nat.beq k' k|_=>false
def Sh(y:SV)(d:Option TypeDesc):Option Int:=
 match d with
 |some (.int _)=>match y with
  |.at (.val (.int _ n))=>some n
  |_=>none
 |_=>none
def I6(C:Ctx):Bool:=match C.heapT with|[]=>false|_=>true
def inM(C:Ctx)(T:TypeId):Bool:=I4 C.heapT (1000+T)
def Z4(C:Ctx)(T:TypeId):Bool:=I4 C.heapT (3000+T)
def Z3(C:Ctx)(T:TypeId):Bool:=I4 C.heapT (4000+T)
def VO(e:Bool)(a:Option Addr)(ys:List (List Value))(R Q:Prop):Prop:=
 match e with
 |true=>(a≠none->ys=[]->Q)/\(a=none\/0<ys.length->R)
 |false=>(a=none\/0<ys.length)/\R
def JW(C:Ctx)(o:Oper)(T tx:TypeId)(x y:Operand)(σ:St)(K:St->Prop):Prop:=
 match o.dst,elemOf C.P T with
 |some d,some (E,z)=>
  match inM C T,Z4 C T,σ.ev x with
  |false,true,.at (.val (.slice a n c))=>
   c=n/\∃xs:List (List Value),dU (C.P.cellsOf E) xs/\bH σ.h ⟨a,n,c⟩ (C.P.cellsOf E) xs/\
    Eg C.P (I6 C) σ (C.P.cellsOf E) tx (σ.ev y) λys=>
     VO (Z3 C T) a ys ((xs.length+ys.length)*C.P.bytesOf E<=140737488355328/\xs.length+ys.length<=140737488355328/\
     K (((σ.kill d).setOwn d (some (.lst E (C.P.cellsOf E) (xs++ys)))).put (some d) (.at (.lst d)))) (K (σ.put (some d) (.at (.val (.slice a n c)))))
  |true,_,.at (.val (.slice a n c))=>
   ∃xs:List (List Value),cD σ.m ⟨a,n,c⟩ E (C.P.cellsOf E) xs/\
    Eg C.P (I6 C) σ (C.P.cellsOf E) tx (σ.ev y) λys=>
     (xs.length+ys.length)*C.P.bytesOf E<=140737488355328/\xs.length+ys.length<=140737488355328/\
     ∀(s':Sl)(m':MH),eX σ.m m' ⟨a,n,c⟩ s' E (C.P.cellsOf E) (xs++ys)->K ({σ with m:=m'}.put (some d) (.at (.val s'.val)))
  |_,_,_=>match σ.ev x with
  |.at (.val (.slice none 0 0))=>
   match Sh (σ.ev y) (C.P.underlying tx)with
   |some n=>0<n/\n*(C.P.bytesOf E:Int)<=140737488355328/\n<=140737488355328/\
    K (((σ.kill d).setOwn d (some (.lst E (C.P.cellsOf E) (List.replicate n.toNat z)))).put (some d) (.at (.lst d)))
   |none=>Eg C.P (I6 C) σ (C.P.cellsOf E) tx (σ.ev y) λys=>
    ys.length*C.P.bytesOf E<=140737488355328/\ys.length<=140737488355328/\
    K (((σ.kill d).setOwn d (some (.lst E (C.P.cellsOf E) ys))).put (some d) (.at (.lst d)))
  |.at (.lst k)=>
   match nth σ.own k,sameKey (σ.ev y) k with
   |some (some (.lst E' sz xs)),false=>
    match Nat.beq E' E,Nat.beq sz (C.P.cellsOf E)with
    |true,true=>
     Eg C.P (I6 C) σ sz tx (σ.ev y) λys=>
      (xs.length+ys.length)*C.P.bytesOf E<=140737488355328/\xs.length+ys.length<=140737488355328/\
      K (((σ.kill k).setOwn k (some (.lst E sz (xs++ys)))).put (some d) (.at (.lst k)))
    |_,_=>False
   |_,_=>False
  |.at (.val (.slice a n c))=>
   ∃xs:List (List Value),cD σ.m ⟨a,n,c⟩ E (C.P.cellsOf E) xs/\
    Eg C.P (I6 C) σ (C.P.cellsOf E) tx (σ.ev y) λys=>
     (xs.length+ys.length)*C.P.bytesOf E<=140737488355328/\xs.length+ys.length<=140737488355328/\
     ∀(s':Sl)(m':MH),eX σ.m m' ⟨a,n,c⟩ s' E (C.P.cellsOf E) (xs++ys)->K ({σ with m:=m'}.put (some d) (.at (.val s'.val)))
  |_=>False
 |_,_=>False
def RU(C:Ctx)(o:Oper)(T tx:TypeId)(x y:Operand)(σ:St)(K:St->Prop):Prop:=
 match elemOf C.P T,σ.ev x with
 |some (E,_),.at (.val (.slice ad n _))=>∃(b off:Nat),ad=some ⟨b,off,none⟩/\
  Eg C.P (I6 C) σ (C.P.cellsOf E) tx (σ.ev y) λys=>
   ys.length<=n/\∃(cs:Array Value)(E':TypeId),wS σ.m b (.cells cs E' (0,0))/\off+ys.length*C.P.cellsOf E<=cs.size/\
    ∀m':MH,eW σ.m m' b (.cells (splice cs.toList off ys.flatten).toArray E' (0,0))->K ({σ with m:=m'}.put o.dst (.at (.val (.int .i64 ys.length))))
 |_,_=>False
def OP(P:Program)(ts:List TypeId):Bool:=
 match ts with
 |t::_=>match P.underlying t with
  |some (.slice _)=>true
  |_=>false
 |[]=>false
def VD(C:Ctx)(o:Oper)(x:Operand)(ts:List TypeId)(σ:St)(K:St->Prop):Prop:=
 match σ.ev x with
 |.at (.lst k)=>match nth σ.own k,OP C.P ts with
  |some (some (.lst _ _ xs)),true=>K (σ.put o.dst (.at (.val (.int .i64 xs.length))))
  |_,_=>False
 |_=>qW C o σ K
structure Hp(sz:Nat)(x:Sl)(i:Nat)(s:Sl):Prop where
 a_:s.a=if x.cap=i then x.a else x.a.map λy=>y.add (i*sz)
 len:s.len=x.len-i
 cap:s.cap=x.cap-i
def MG(C:Ctx)(o:Oper)(T:TypeId)(x:Operand)(lo hi mx:Option Operand)(σ:St)(K:St->Prop):Prop:=
 match σ.ev x,lo,hi,mx with
 |.at (.lst k),none,some n,none=>
  match nth σ.own k,σ.ev n,C.P.underlying T with
  |some (some (.lst E sz xs)),.at (.val (.int _ i)),some (.slice E')=>
   match fO C.P E' with
   |true=>0<=i/\i<=(xs.length:Int)/\K (((σ.kill k).setOwn k (some (.lst E sz (xs.take i.toNat)))).put o.dst (.at (.lst k)))
   |false=>False
  |_,_,_=>False
 |.at (.val (.slice a _ c)),none,some n,none=>
  match σ.ev n,C.P.underlying T with
  |.at (.val (.int _ i)),some (.slice E')=>
   match fO C.P E' with
   |true=>0<=i/\i<=(c:Int)/\K (σ.put o.dst (.at (.val (.slice a i.toNat c))))
   |false=>False
  |_,_=>False
 |.at (.val (.slice a _ c)),none,some n,some k=>
  match σ.ev n,σ.ev k,C.P.underlying T with
  |.at (.val (.int _ i)),.at (.val (.int _ j)),some (.slice E')=>
   match fO C.P E' with
   |true=>0<=i/\i<=j/\j<=(c:Int)/\K (σ.put o.dst (.at (.val (.slice a i.toNat j.toNat))))
   |false=>False
  |_,_,_=>False
 |.at (.val (.slice a len c)),some n,none,none=>
  match σ.ev n,C.P.underlying T with
  |.at (.val (.int _ i)),some (.slice E')=>
   match fO C.P E' with
   |true=>0<=i/\i<=(len:Int)/\len<=c/\∀s:Sl,Hp (C.P.cellsOf E') ⟨a,len,c⟩ i.toNat s->K (σ.put o.dst (.at (.val (.slice s.a s.len s.cap))))
   |false=>False
  |_,_=>False
 |.at (.val (.pointer (some ⟨b,off,none⟩))),none,some n,none=>
  match σ.ev n,C.P.underlying T with
  |.at (.val (.int _ i)),some (.array len E')=>
   match fO C.P E' with
   |true=>0<=i/\i<=(len:Int)/\K (σ.put o.dst (.at (.val (.slice (some ⟨b,off,none⟩) i.toNat len))))
   |false=>False
  |_,_=>False
 |_,_,_,_=>False
def Nf(C:Ctx)(o:Oper)(T:TypeId)(x:Operand)(f:Nat)(σ:St)(K:St->Prop):Prop:=
 match Fl C.P T f,(σ.ev x).cells?,(match σ.ev x with|.agg _=>true|.at (.val (.agg _))=>true|_=>false)with
 |some (g,T'),some cs,true=>
  match Nat.ble (g+C.P.cellsOf T') cs.length&&fO C.P T' with
  |true=>K (σ.put o.dst (mk C.P T' ((cs.drop g).take (C.P.cellsOf T'))))
  |false=>False
 |_,_,_=>False
def Nb(P:Program)(E:TypeId)(cs:List At)(n:Int)(K:SV->Prop):Nat->Nat->Prop
 |0,_=>True
 |f+1,i=>branch (n==(i:Int)) (K (mk P E ((cs.drop (i*P.cellsOf E)).take (P.cellsOf E)))) (Nb P E cs n K f (i+1))
def M9(C:Ctx)(o:Oper)(T:TypeId)(x i:Operand)(σ:St)(K:St->Prop):Prop:=
 match σ.ev i,C.P.underlying T with
 |.at (.val (.int _ n)),some (.array len E)=>
  match(σ.ev x).cells? with
  |some cs=>match Nat.beq cs.length (len*C.P.cellsOf E),fO C.P E,(match σ.ev x with|.agg _=>true|.at (.val (.agg _))=>true|_=>false)with
   |true,true,true=>0<=n/\n<(len:Int)/\Nb C.P E cs n (λv=>K (σ.put o.dst v)) len 0
   |_,_,_=>False
  |none=>False
 |.at (.val (.int _ n)),some .string=>
  match σ.ev x with
  |.at (.val (.string s))=>0<=n/\∃b,s.data.toList[n.toNat]? =some b/\K (σ.put o.dst (.at (.val (.int .u8 b.toNat))))
  |_=>False
 |_,_=>False
def GC(C:Ctx)(o:Oper)(x:Operand)(i:Nat)(σ:St)(K:St->Prop):Prop:=
 match σ.ev x with
 |.tup xs=>match nth xs i with
  |some (.inl y)=>K (σ.put o.dst (.at y))
  |some (.inr cs)=>K (σ.put o.dst (.agg cs))
  |none=>False
 |_=>qW C o σ K
def bX(bs:List UInt8):List (List Value):=bs.map λb=>[.int .u8 b.toNat]
def GH(C:Ctx)(o:Oper)(src dst:TypeId)(x:Operand)(σ:St)(K:St->Prop):Prop:=
 match σ.ev x with
 |.at (.lst k)=>
  match nth σ.own k,C.P.underlying src,C.P.underlying dst with
  |some (some (.lst _ _ xs)),some (.slice E),some .string=>
   match C.P.underlying E with
   |some (.int .u8)=>∃bs:List UInt8,xs=bX bs/\K (σ.put o.dst (.at (.val (.string ⟨bs.toArray⟩))))
   |_=>False
  |_,_,_=>False
 |_=>qW C o σ K
def kZ(σ:St):List Operand->List Nat
 |[]=>[]
 |x::r=>match σ.ev x with
  |.at (.ptr k _)=>match(kZ σ r).contains k with|true=>kZ σ r|false=>k::kZ σ r
  |_=>kZ σ r
def BJ(σ:St)(K:St->Prop):List Nat->Prop
 |[]=>K σ
 |k::ks=>
  match nth σ.own k with
  |some (some (.cellsP _ T cs))=>
   match oZ cs with
   |some l=>
    ∀(b:Nat)(m':MH),bY σ.m σ.h b->eW σ.m m' b (.cells l.toArray T (0,0))->
     BJ {(σ.sub k (λ |.ptr _ o=>.val (.pointer (some ⟨b,o,none⟩))|_=>.junk)).setOwn k none with m:=m'} K ks
   |none=>False
  |_=>False
def mP(P:Program)(σ:St)(mv:List Nat):Nat->List Operand->List TypeId->Option (List CV)
 |_,[],_=>some []
 |i,x::r,ts=>
  match mP P σ mv (i+1) r ts.tail with
  |none=>none
  |some rest=>
   match mv.contains i with
   |true=>match σ.ev x with
    |.at (.lst k)=>match nth σ.own k with
     |some (some (.lst E sz xs))=>some (.lst E sz xs::rest)
     |_=>none
    |.at (.val (.slice none 0 0))=>match elemOf P (ts.headD 0)with
     |some (E,_)=>some (.lst E (P.cellsOf E) []::rest)
     |none=>none
    |_=>none
   |false=>match(σ.ev x).val? with
    |some u=>some (.val u::rest)
    |none=>none
def gB(σ:St)(mv:List Nat):Nat->List Operand->List Nat
 |_,[]=>[]
 |i,x::r=>match mv.contains i,σ.ev x with
  |true,.at (.lst k)=>k::gB σ mv (i+1) r
  |_,_=>gB σ mv (i+1) r
def AT(mv:List Nat):Nat->List Operand->List Operand
 |_,[]=>[]
 |i,x::r=>match mv.contains i with
  |true=>AT mv (i+1) r
  |false=>x::AT mv (i+1) r
def vT(σ:St):List Nat->St
 |[]=>σ
 |k::ks=>vT (σ.kill k) ks
def zW:List CV->Option (List (Sum At (List At)))
 |[]=>some []
 |.val v::r=>match zW r with|some l=>some (.inl (.val v)::l)|none=>none
 |_::_=>none
def YM(o:Oper)(σ:St)(mks:List Nat)(K:St->Prop)(r:CV)(m:MH)(h:PH):Prop:=
 match r with
 |.val v=>K ({σ with m:=m,h:=h}.put o.dst (.at (.val v)))
 |.lst E sz xs=>match o.dst with
  |some d=>K ((({σ with m:=m,h:=h}.kill (mks.headD d)).setOwn (mks.headD d) (some (.lst E sz xs))).put (some d) (.at (.lst (mks.headD d))))
  |none=>False
 |.tup rs=>match zW rs with
  |some l=>K ({σ with m:=m,h:=h}.put o.dst (.tup l))
  |none=>False
def FZ:List Nat->Bool
 |[]=>true
 |x::r=>match r.contains x with|true=>false|false=>FZ r
def CR(C:Ctx)(f:Nat):List Nat:=match assoc C.moves f with|some l=>l|none=>[]
def RY(C:Ctx)(o:Oper)(f:FuncId)(args:List Operand)(ts:List TypeId)(σ:St)(K:St->Prop):Prop:=
 match assoc C.specs f with
 |none=>False
 |some S=>
  pE σ (λτ=>BJ τ (λυ=>
   match mP C.P υ (CR C f) 0 args ts,FZ (gB υ (CR C f) 0 args)with
   |some cvs,true=>S cvs υ.m υ.h (YM o (vT υ (gB υ (CR C f) 0 args)) (gB υ (CR C f) 0 args) K)
   |_,_=>False) (kZ τ args))
   (Br σ (AT (CR C f) 0 args))
structure StructEq(P:Program)(T:TypeId)(x y:Value)(r:Bool):Prop where
 guard:P.eqGuardType P.depth T=false
 eq:∀w,(Op.equalIn 10000 T x y).run P w= .ok r w
def zX(C:Ctx)(o:Oper)(neg:Bool)(T:TypeId)(x y:Operand)(σ:St)(K:St->Prop):Prop:=
 match(σ.ev x).val?,(σ.ev y).val? with
 |some (.agg xs),some (.agg ys)=>∃r,StructEq C.P T (.agg xs) (.agg ys) r/\K (σ.put o.dst (.at (.val (.bool (match neg with|true=> !r|false=>r)))))
 |_,_=>False
structure nU(m:MH)(b:Nat)(kvs:List (Value×Value)):Prop where
 ex:∃(es:Array MapEntry)(clock:Nat),m b=some (.map es clock)/\es.toList.map (λe=>(e.key,e.val))=kvs
structure KeyLaw(P:Program)(kt:TypeId)(Ok:Value->Prop):Prop where
 under:∃d,P.underlying kt=some d
 check:∀v w b,Ok v->(Instr.checkKey b 10000 kt v).run P w= .ok () w
 eq:∀x y w,Ok x->Ok y->∃r,(Op.equal kt x y).run P w= .ok r w/\(r=true↔x=y)
 now:∀d x y r,P.underlying kt=some d->Ok x->Ok y->Instr.sameNow d x y=some r->(r=true↔x=y)
structure fK(m m':MH)(b:Nat):Prop where
 other:∀b',b'≠b->m' b'=m b'
def F4(o:Oper)(r:Option Operand)(σ:St)(K:St->Prop):Prop:=
 match r with
 |none=>∀(b:Nat)(m':MH),bY σ.m σ.h b->eW σ.m m' b (.map #[] 0)->K ({σ with m:=m'}.put o.dst (.at (.val (.map (some b)))))
 |some _=>False
def Mp(P:Program)(T:TypeId):Option Value:=
 match P.info? T with
 |some i=>match i.zero with
  |some (.int k n)=>some (.int k n)
  |some (.bool b)=>some (.bool b)
  |some (.slice none 0 0)=>some (.slice none 0 0)
  |_=>none
 |none=>none
def only:List Value->Value
 |[u]=>u
 |_=>undef
def I5(C:Ctx)(o:Oper)(T:TypeId)(x k:Operand)(ok:Bool)(σ:St)(K:St->Prop):Prop:=
 match C.P.underlying T,σ.ev x,(σ.ev k).val? with
 |some (.map kt et),.at (.val (.map (some b))),some kv=>
  match Mp C.P et with
  |some z=>
   ∃(kvs:List (Value×(C.dec et).X))(Ok:Value->Prop),nU σ.m b (kvs.map λp=>(p.1,only ((C.dec et).enc p.2)))/\KeyLaw C.P kt Ok/\Ok kv/\(∀e∈kvs,Ok e.1)/\
    ((∀e∈kvs,e.1≠kv)->K (σ.put o.dst (match ok with|true=>.tup [.inl (.val z),.inl (.val (.bool false))]|false=>.at (.val z))))/\
    ∀y,(kv,y)∈kvs->match(C.dec et).enc y with
     |[u]=>K (σ.put o.dst (match ok with|true=>.tup [.inl (.val u),.inl (.val (.bool true))]|false=>.at (.val u)))
     |_=>False
  |none=>False
 |_,_,_=>False
def xV(C:Ctx)(T:TypeId)(x k v:Operand)(σ:St)(K:St->Prop):Prop:=
 match C.P.underlying T,σ.ev x,(σ.ev k).val?,(σ.ev v).val? with
 |some (.map kt _),.at (.val (.map (some b))),some kv,some u=>
  ∃(kvs:List (Value×Value))(Ok:Value->Prop),nU σ.m b kvs/\KeyLaw C.P kt Ok/\Ok kv/\(∀e∈kvs,Ok e.1)/\(∀e∈kvs,e.1≠kv)/\
   ∀m':MH,fK σ.m m' b->nU m' b (kvs++[(kv,u)])->K {σ with m:=m'}
 |_,_,_,_=>False
structure jF(m:MH)(b:Nat)(kvs:List (Value×Value)):Prop where
 ex:∃(es:Array MapEntry)(clock:Nat),m b=some (.map es clock)/\es.toList.map (λe=>(e.key,e.val))=kvs/\(∀e∈es.toList,e.born<clock)/\(es.toList.map (·.born)).Nodup
def Fb(C:Ctx)(T:TypeId)(x k v:Operand)(σ:St)(K:St->Prop):Prop:=
 match C.P.underlying T,σ.ev x,(σ.ev k).val?,(σ.ev v).val? with
 |some (.map kt _),.at (.val (.map (some b))),some kv,some u=>
  ∃(kvs:List (Value×Value))(Ok:Value->Prop),jF σ.m b kvs/\KeyLaw C.P kt Ok/\Ok kv/\Instr.sameBits 10000 kv kv=true/\(∀e∈kvs,Ok e.1)/\
   ((∀e∈kvs,e.1≠kv)->∀m':MH,fK σ.m m' b->jF m' b (kvs++[(kv,u)])->K {σ with m:=m'})/\
   ∀(l1:List (Value×Value))(v0:Value)(l2:List (Value×Value)),kvs=l1++(kv,v0)::l2->∀m':MH,fK σ.m m' b->jF m' b (l1++(kv,u)::l2)->K {σ with m:=m'}
 |_,_,_,_=>False
structure iU(m:MH)(b r:Nat)(kvs left:List (Value×Value)):Prop where
 ex:∃(es:Array MapEntry)(clock since:Nat)(seen:Array Nat)(c0:Nat),m b=some (.map es clock)/\es.toList.map (λe=>(e.key,e.val))=kvs/\(∀e∈es.toList,e.born<clock)/\(es.toList.map (·.born)).Nodup/\
  m r=some (.mapIter (some b) since seen c0)/\(∀e∈es.toList,e.born<since)/\since<=c0/\since<=clock/\(es.toList.filter λe=> !seen.contains e.born).map (λe=>(e.key,e.val))=left
structure A4(m:MH)(b r:Nat)(kvs left:List (Value×Value))(x:Value×Value):Prop where
 it:iU m b r kvs left
 ex:∃(es:Array MapEntry)(clock since:Nat)(seen:Array Nat)(e:MapEntry),m b=some (.map es clock)/\(es.toList.map (·.born)).Nodup/\m r=some (.mapIter (some b) since (seen.push e.born) clock)/\e∈es.toList/\x=(e.key,e.val)
def MP(C:Ctx)(o:Oper)(T:TypeId)(x:Operand)(σ:St)(K:St->Prop):Prop:=
 match C.P.underlying T,σ.ev x with
 |some .string,.at (.val (.string s))=>
  ∀(b:Nat)(m':MH),bY σ.m σ.h b->eW σ.m m' b (.stringIter s 0)->K ({σ with m:=m'}.put o.dst (.at (.val (.pointer (some ⟨b,0,none⟩)))))
 |some (.map _ _),.at (.val (.map (some b)))=>
  ∃kvs:List (Value×Value),jF σ.m b kvs/\∀(r:Nat)(m':MH),bY σ.m σ.h r->fK σ.m m' r->iU m' b r kvs kvs->K ({σ with m:=m'}.put o.dst (.at (.val (.pointer (some ⟨r,0,none⟩)))))
 |_,_=>False
def Ql(o:Oper)(x:Operand)(isStr:Bool)(σ:St)(K:St->Prop):Prop:=
 match σ.ev x,isStr with
 |.at (.val (.pointer (some ⟨b,0,none⟩))),true=>
  ∃(s:ByteArray)(pos:Nat),wS σ.m b (.stringIter s pos)/\
   (s.size<=pos->K (σ.put o.dst (.tup [.inl (.val (.bool false))])))/\
   (pos<s.size->∀m':MH,eW σ.m m' b (.stringIter s (pos+(Utf8.decode s pos).2))->
    K ({σ with m:=m'}.put o.dst (.tup [.inl (.val (.bool true)),.inl (.val (.int .i64 pos)),.inl (.val (.int .i32 (Utf8.decode s pos).1))])))
 |.at (.val (.pointer (some ⟨r,0,none⟩))),false=>
  ∃(b:Nat)(kvs left:List (Value×Value)),iU σ.m b r kvs left/\
   (left=[]->K (σ.put o.dst (.tup [.inl (.val (.bool false))])))/\
   ∀(l1:List (Value×Value))(x:Value×Value)(l2:List (Value×Value)),left=l1++x::l2->∀m':MH,fK σ.m m' r->A4 m' b r kvs (l1++l2) x->
    K ({σ with m:=m'}.put o.dst (.tup [.inl (.val (.bool true)),.inl (.val x.1),.inl (.val x.2)]))
 |_,_=>False
def Nk(C:Ctx)(o:Oper)(x:Operand)(σ:St)(K:St->Prop):Prop:=
 match σ.ev x with
 |.at (.val (.pointer (some ⟨r,0,none⟩)))=>∃(b:Nat)(kvs left:List (Value×Value))(x:Value×Value),A4 σ.m b r kvs left x/\
  match I4 C.heapT 410000 with
  |true=>∃s:Sl,x.2=Sl.val s/\K (σ.put o.dst (.tup [.inl (.val x.1),.inl (.val (.slice s.a s.len s.cap))]))
  |false=>K (σ.put o.dst (.tup [.inl (.val x.1),.inl (.val x.2)]))
 |_=>False
def Tx(σ:St)(x v:Operand):List Nat:=match σ.ev x with|.at (.ptr _ _)=>[]|_=>(σ.ev v).keys
def BQ(C:Ctx)(o:Oper)(T:TypeId):List Nat:=match o.dst with|some d=>(match I4 C.heapT T||I4 C.heapT (200000+d)with|true=>[d]|false=>[])|none=>[]
def ZZ(C:Ctx)(o:Oper)(T:TypeId):Bool:=match BQ C o T with|[]=>false|_=>true
def SK(C:Ctx)(o:Oper)(τ:St):List Nat:=match o.dst with|some d=>(match I4 C.heapT (100000+d)with|true=>(τ.ev (.tmp d)).keys|false=>[])|none=>[]
structure PY(w:World)(m:MH)(h:PH):Prop where
 hsat:∀b o v,h b o=some v->w.cell? ⟨b,o,none⟩=some v
 msat:∀b o,m b=some o->w.heap[b]? =some o
 disj:∀b o,m b=some o->∀i,h b i=none
structure J9(w:World)(m:MH)(h:PH)(m':MH)(h':PH)(w':World):Prop where
 tape:w'.tape=w.tape
 os:w'.os=w.os
 output:w'.output=w.output
 drawn:w.drawn<=w'.drawn
 size:w.heap.size<=w'.heap.size
 frame:∀b,b<w.heap.size->m b=none->w'.heap[b]? =w.heap[b]?
 heapy:PY w' m' h'
 hle:PH.le h h'
 hold:∀b,b<w.heap.size->m b=none->h' b=h b
 mfr:∀b o,m' b=some o->w.heap.size<=b\/m b≠none
def valOf(P:Program)(T:TypeId)(cs:List Value):Value:=
 match wK P T with
 |true=>.agg cs.toArray
 |false=>match cs with|[x]=>x|_=>undef
structure ZO(P:Program)(f:FuncId)(T:TypeId)(cvs:List CV)(m:MH)(h:PH)(R:List Value->MH->PH->Prop):Prop where
 fn:∃fn,P.funcs[f]? =some fn/\fn.body.isSome=true/\(fn.name== "runtime.NumGoroutine")=false
 go:∀(vs:List Value)(w:World),cvs=vs.map .val->PY w m h->Calls P f vs.toArray w λe w'=>∃l m' h',e= .returned (valOf P T l)/\R l m' h'/\J9 w m h m' h' w'
def H8:List CV->List Value->List CV
 |[],l=>l.map .val
 |c::r,l=>c::H8 r l
def Z8:List TypeId->Option TypeId
 |[]=>none
 |x::r=>match Nat.ble 510000 x with|true=>some (Nat.sub x 510000)|false=>Z8 r
def adX(C:Ctx):Operand->Option TypeId
 |.tmp _=>Z8 C.heapT
 |_=>none
def WH(C:Ctx)(o:Oper)(T:TypeId)(f:FuncId)(caps:List Value)(args:List Operand)(σ:St)(K:St->Prop):Prop:=
 match mP C.P σ [] 0 args []with
 |some cvs=>∃R:(C.dec T).X->MH->PH->Prop,ZO C.P f T (H8 cvs caps) σ.m σ.h (λl m h=>∃x,l=(C.dec T).enc x/\R x m h)/\
  ∀(x:(C.dec T).X)(m:MH)(h:PH),R x m h->K ({σ with m:=m,h:=h}.put o.dst (mk C.P T (((C.dec T).enc x).map .val)))
 |none=>False
def Ki(C:Ctx)(o:Oper)(σ:St)(K:St->Prop):Prop:=
 match o.op with
 |.move x=>K (σ.put o.dst (σ.ev x))
 |.assign x=>K (σ.put o.dst (σ.ev x))
 |.pick c a b=>Qh o c a b σ K
 |.alloc T=>Nw C o T σ (λτ=>BJ τ K (BQ C o T))
 |.box T x=>match ZZ C o T with
  |true=>pE σ (λτ=>S7 o T x τ (λυ=>BJ υ K (BQ C o T))) (σ.ev x).keys
  |false=>S7 o T x σ K
 |.build T ps=>Ns C o T ps.toList σ K
 |.buildSlice T n ps=>A0 C o T n ps.toList σ (λτ=>zD τ (λυ=>pE υ K (SK C o υ)) (BQ C o T))
 |.load T x=>Qo C o T x σ K
 |.store T x v=>match o.dst with|none=>pE σ (λτ=>ME C T x v τ K) (Tx σ x v)|some _=>False
 |.makeFunc _ _ cs=>BJ σ (λτ=>qW C o τ K) (kZ σ cs.toList)
 |.nilCheck x=>DH o x σ K
 |.binOp .quo _ x y _=>S2 o .quo x y σ K
 |.binOp .rem _ x y _=>S2 o .rem x y σ K
 |.binOp .eql T x y _=>match wK C.P T with|true=>zX C o false T x y σ K|false=>qW C o σ K
 |.binOp .neq T x y _=>match wK C.P T with|true=>zX C o true T x y σ K|false=>qW C o σ K
 |.binOp .add _ x y _=>JP C o x y σ K
 |.binOp .. =>qW C o σ K
 |.unOp .. =>qW C o σ K
 |.convert s d x=>GH C o s d x σ K
 |.makeSlice T l c=>BI C o T l c σ (λτ=>zD τ K (BQ C o (2000+T)))
 |.slice T x lo hi mx=>MG C o T x lo hi mx σ K
 |.fieldAddr T x f=>BT C o T x f σ K
 |.field T x f=>Nf C o T x f σ K
 |.indexAddr T x i=>BM C o T x i σ K
 |.index T x i=>M9 C o T x i σ K
 |.extract x i=>GC C o x i σ K
 |.makeMap _ r=>F4 o r σ K
 |.lookup T x k ok=>I5 C o T x k ok σ K
 |.mapUpdate T x k v=>match o.dst with|none=>(match I4 C.heapT 400000 with|true=>Fb C T x k v σ K|false=>xV C T x k v σ K)|some _=>False
 |.range T x=>MP C o T x σ K
 |.next x b=>Ql o x b σ K
 |.entry x=>Nk C o x σ K
 |.call c=>match c.callee with
  |.builtin .len=>match c.args.toList with
   |[x]=>VD C o x c.argTypes.toList σ K
   |_=>False
  |.builtin .append=>match c.args.toList,c.argTypes.toList with
   |[x,y],[T,tx]=>JW C o T tx x y σ (λτ=>pE τ K (SK C o τ))
   |_,_=>False
  |.builtin .copy=>match c.args.toList,c.argTypes.toList with
   |[x,y],[T,tx]=>RU C o T tx x y σ K
   |_,_=>False
  |.builtin .cap=>qW C o σ K
  |.builtin .min=>qW C o σ K
  |.builtin .max=>qW C o σ K
  |.builtin _=>False
  |.value g=>match σ.ev g with
   |.at (.val (.func (.func f) fs cs))=>match adX C g with
    |some T=>match fs.toList with
     |[]=>WH C o T f cs.toList c.args.toList σ K
     |_=>False
    |none=>match fs.toList,cs.toList with
     |[],[]=>RY C o f c.args.toList c.argTypes.toList σ K
     |_,_=>False
   |_=>False
  |.invoke .. =>False
 |_=>False
def setTmp(σ:St)(c:Operand)(b:Bool):St:=
 match c with
 |.tmp t=>{σ with sl:=σ.sl.set t (.at (.val (.bool b)))}
 |_=>σ
def Je(f:Oper->St->(St->Prop)->Prop)(ops:Array Oper)(o:Oper)(σ:St)(K:St->Prop):Prop:=
 match o.guard with
 |none=>f o σ K
 |some (j,want)=>
  match nth ops.toList j with
  |none=>False
  |some g=>match g.dst with
   |none=>False
   |some d=>match σ.ev (.tmp d)with
    |.at (.val (.bool t))=>
     branch t
      (match want with|true=>f o (setTmp σ (.tmp d) true) K|false=>K ((setTmp σ (.tmp d) true).put o.dst (.at (.val undef))))
      (match want with|false=>f o (setTmp σ (.tmp d) false) K|true=>K ((setTmp σ (.tmp d) false).put o.dst (.at (.val undef))))
    |.at (.val (.tuple _))=>K (σ.put o.dst (.at (.val undef)))
    |_=>False
def Nc(C:Ctx)(ops:Array Oper)(o:Oper)(σ:St)(K:St->Prop):Prop:=Je (Ki C) ops o σ K
structure GM(P:Program)(S:Spec):Prop where
 go:∀(l:Nat)(vs:List Value)(m:MH)(h:PH)(w:World)(K:CV->MH->PH->Prop),S (.val (.func (.yield l) #[] #[])::vs.map .val) m h K->PY w m h->
  ∃fn tmps assign body,(Instr.yield l vs.toArray).run P w= .ok (.round l fn tmps assign body) w/\
   RoundIn Fence.wide 0 P l fn tmps assign body w λe w'=>∃u m' h',e= .returned u/\K (.val u) m' h'/\J9 w m h m' h' w'
def Mr(C:Ctx)(o:Oper)(v:Value)(args:List Operand)(σ:St)(K:St->Prop):Prop:=
 match C.yield with
 |none=>False
 |some S=>
  match mP C.P σ [] 0 args []with
  |some cvs=>GM C.P S/\S (.val v::cvs) σ.m σ.h (λr m h=>match r with
   |.val u=>K ({σ with m:=m,h:=h}.put o.dst (.at (.val u)))
   |_=>False)
  |none=>False
def KN(C:Ctx)(o:Oper)(σ:St)(K:St->Prop):Prop:=
 match o.op with
 |.call c=>match c.callee with
  |.value g=>match σ.ev g with
   |.at (.val (.func (.yield l) fs cs))=>match fs.toList,cs.toList with
    |[],[]=>Mr C o (.func (.yield l) #[] #[]) c.args.toList σ K
    |_,_=>False
   |_=>Ki C o σ K
  |_=>Ki C o σ K
 |_=>Ki C o σ K
def Kz(C:Ctx)(ops:Array Oper):List Oper->St->(St->Prop)->Prop
 |[],σ,K=>K σ
 |o::r,σ,K=>Je (KN C) ops o σ (λτ=>Kz C ops r τ K)
def u6(P:Program)(o:Oper):Bool:=
 match o.op with
 |.load .. =>true
 |.convert src _ _=>match P.underlying src with
  |some (.slice _)=>true
  |_=>false
 |_=>false
def AU:Op->Bool
 |.move _|.assign _|.pick .. |.build .. |.load .. |.nilCheck _|.unOp .. |.fieldAddr .. |.field .. |.indexAddr .. |.index .. |.extract .. =>true
 |.binOp .. =>true
 |.convert .. =>true
 |.call {callee:=.builtin .len,.. }=>true
 |.call {callee:=.builtin .min,.. }=>true
 |.call {callee:=.builtin .max,.. }=>true
 |_=>false
def CW(ops:Array Oper):List Nat->Option (Nat×Oper)
 |[]=>none
 |i::r=>match nth ops.toList i with
  |some o=>match AU o.op with|true=>some (i,o)|false=>CW ops r
  |none=>CW ops r
def waits(oj:Oper)(i:Nat):Bool:=oj.after.toList.any λe=>Region.binds .any e&&Nat.beq e.on i
def tE(σ:St)(oj:Oper)(k:Nat):Bool:=
 (match oj.dst with|some d=>Nat.beq d k|none=>false)||
 match oj.op with
 |.store _ x _=>match σ.ev x with
  |.at (.ptr j _)=>Nat.beq j k
  |_=>false
 |.call c=>match c.callee with
  |.value _=>(kZ σ c.args.toList).contains k
  |_=>false
 |_=>false
def tY(ops:Array Oper)(σ:St)(oi:Oper):Bool:=
 match oi.guard with
 |none=>false
 |some (j,want)=>match nth ops.toList j with
  |none=>false
  |some g=>match g.dst with
   |none=>false
   |some d=>match σ.ev (.tmp d)with
    |.at (.val (.bool t))=>match t,want with
     |true,false=>true
     |false,true=>true
     |_,_=>false
    |.at (.val (.tuple _))=>true
    |_=>false
def XF:Op->Bool
 |.move _=>true
 |_=>false
def aaQ(ops:Array Oper)(ok:Oper)(i:Nat):Bool:=
 waits ok i||ops.toList.zipIdx.any λx=>waits ok x.2&&waits x.1 i
def Zo(ops:Array Oper):Bool:=
 let l:=ops.toList
 let n:=l.length
 (List.range n).all λi=>match nth l i with
  |none=>true
  |some oi=>(oi.after.toList.all λe=> !Region.binds .any e||Nat.blt e.on i)&&((List.range n).all λk=>match nth l k with
   |none=>true
   |some ok=>match ok.dst with
    |none=>true
    |some d=>Nat.beq i k|| !(oi.dst==some d))&&
   (((List.range n).all λk=>match nth l k with
   |none=>true
   |some ok=>match ok.dst with
    |none=>true
    |some d=> !(oi.looksAt ops).contains d||waits oi k)||
   (XF oi.op&&(List.range n).all λk=>match nth l k with
   |none=>true
   |some ok=>match ok.dst with
    |none=>true
    |some d=> !(oi.looksAt ops).contains d||aaQ ops ok i))
def uH:Op->Bool
 |.alloc _|.box .. |.buildSlice .. |.makeSlice .. |.makeMap .. |.lookup .. =>true
 |_=>false
def mL(o:Oper):Option (List Operand):=
 match o.op with
 |.call c=>match c.callee with
  |.value _=>some c.args.toList
  |_=>none
 |_=>none
def Df(σ:St)(k:Nat):List Operand->Bool
 |[]=>true
 |x::r=>(match σ.ev x with
  |.at (.lst j)=>match nth σ.own j with|some (some _)=> !Nat.beq j k|_=>false
  |.at (.ptr j _)=>match nth σ.own j with|some (some _)=> !Nat.beq j k|_=>false
  |_=>true)&&Df σ k r
def Nv(σ:St)(oj:Oper)(k:Nat):Bool:=
 uH oj.op||match mL oj with|some l=>Df σ k l|none=>false
def GW(P:Program)(fl:Bool)(σ:St)(oj oi:Oper)(K:Prop):Prop:=
 match u6 P oi with
 |false=>K
 |true=>
  match oi.op with
  |.load T x=>match fO P T with
   |false=>False
   |true=>match σ.ev x,oi.dst with
    |.at (.ptr k off),_=>match nth σ.own k with
     |some (some (.cellsP _ _ cs))=>match tE σ oj k,Nat.ble (off+P.cellsOf T) cs.length with
      |false,true=>K
      |_,_=>False
     |_=>False
    |.at (.val (.pointer (some ⟨b,o,none⟩))),some d=>match(σ.ev (.tmp d)).cells? with
     |some cs=>match oZ cs with
      |some l=>match Nat.beq l.length (P.cellsOf T)with
       |true=>match uH oj.op||fl with
        |true=>aI σ.m σ.h b o l/\K
        |false=>bF σ.h b o l/\K
       |false=>False
      |none=>False
     |none=>False
    |.at (.el k i sz off),some d=>match nth σ.own k,(σ.ev (.tmp d)).cells? with
     |some (some (.lst _ s xs)),some cs=>match oZ cs,Nat.beq s sz,Nv σ oj k with
      |some l,true,true=>match Nat.beq l.length (P.cellsOf T)with
       |true=>(∃e:List Value,xs[i]? =some e/\(e.drop off).take (P.cellsOf T)=l)/\K
       |false=>False
      |_,_,_=>False
     |_,_=>False
    |_,_=>False
  |.convert src dst x=>match σ.ev x,oi.dst with
   |.at (.lst k),some d=>match nth σ.own k,σ.ev (.tmp d)with
    |some (some (.lst _ _ xs)),.at (.val (.string s))=>match P.underlying src,P.underlying dst with
     |some (.slice E),some .string=>match P.underlying E with
      |some (.int .u8)=>match Nv σ oj k with
       |true=>xs=fY s/\K
       |false=>False
      |_=>False
     |_,_=>False
    |_,_=>False
   |_,_=>False
  |_=>False
def FO(P:Program)(fl:Bool)(ops:Array Oper)(listed:Array Bool)(σ:St)(oj:Oper):Nat->List Oper->Prop->Prop
 |_,[],K=>K
 |i,oi::r,K=>
  match listed.getD i false,AU oi.op,waits oj i,tY ops σ oi with
  |true,true,false,false=>GW P fl σ oj oi (FO P fl ops listed σ oj (i+1) r K)
  |_,_,_,_=>FO P fl ops listed σ oj (i+1) r K
def Ef(σ:St)(oj oi:Oper)(τ:St)(K:Prop):Prop:=
 match oi.op with
 |.load _ x=>match σ.ev x,oi.dst with
  |.at (.val (.pointer (some ⟨b,o,none⟩))),some d=>match(σ.ev (.tmp d)).cells? with
   |some cs=>match oZ cs with
    |some l=>match uH oj.op with
     |true=>K
     |false=>aI τ.m τ.h b o l/\K
    |none=>K
   |none=>K
  |_,_=>K
 |_=>K
def Cb(ops:Array Oper)(listed:Array Bool)(σ:St)(oj:Oper)(τ:St):Nat->List Oper->Prop->Prop
 |_,[],K=>K
 |i,oi::r,K=>
  match listed.getD i false,AU oi.op,waits oj i,tY ops σ oi with
  |true,true,false,false=>Ef σ oj oi τ (Cb ops listed σ oj τ (i+1) r K)
  |_,_,_,_=>Cb ops listed σ oj τ (i+1) r K
def R5(C:Ctx):Bool:=I4 C.heapT 0
def FE(C:Ctx)(ops:Array Oper)(listed:Array Bool)(σ:St)(oj:Oper)(τ:St)(K:Prop):Prop:=match R5 C with|true=>Cb ops listed σ oj τ 0 ops.toList K|false=>K
def WQ(g:Nat->Prop):List Nat->Prop
 |[]=>True
 |[j]=>g j
 |j::r=>g j/\WQ g r
def yF(C:Ctx)(ops:Array Oper):Nat->Array Bool->St->(St->Prop)->Prop
 |0,listed,σ,K=>match Region.ready .any ops listed with|[]=>K σ|_=>False
 |n+1,listed,σ,K=>
  match Region.ready .any ops listed with
  |[]=>K σ
  |rs=>match CW ops rs with
   |some (i,o)=>Nc C ops o σ (λτ=>yF C ops n (listed.setIfInBounds i true) τ K)
   |none=>
    WQ (λj=>match nth ops.toList j with
     |some o=>FO C.P (R5 C) ops listed σ o 0 ops.toList (Nc C ops o σ (λτ=>FE C ops listed σ o τ (yF C ops n (listed.setIfInBounds j true) τ K)))
     |none=>False) rs
def iK:Code->Option Nat
 |.region id _ _=>some id
 |.seq a b=>match iK a with|some i=>some i|none=>iK b
 |.cond _ a b=>match iK a with|some i=>some i|none=>iK b
 |.block _ a=>iK a
 |.loop a=>iK a
 |.scope a=>iK a
 |_=>none
def xU:List SV->List SV->Prop->Prop
 |[],[],K=>K
 |x::xs,.at .junk::ys,K=>match x with|_=>xU xs ys K
 |x::xs,y::ys,K=>x=y/\xU xs ys K
 |_,_,_=>False
def rV:List (Option Own)->List (Option Own)->Prop->Prop
 |[],[],K=>K
 |_::xs,none::ys,K=>rV xs ys K
 |x::xs,some y::ys,K=>x=some y/\rV xs ys K
 |_,_,_=>False
def No(τ:St):List SV->Nat->St->St
 |[],_,σ=>σ
 |y::ys,i,σ=>
  No τ ys (i+1) (match y with
   |.at (.lst k)=>match nth σ.sl i with
    |some (.at (.val (.slice none 0 0)))=>match nth τ.own k,nth σ.own k with
     |some (some (.lst E sz _)),some none=>((σ.kill k).setOwn k (some (.lst E sz []))).put (some i) (.at (.lst k))
     |_,_=>σ
    |_=>σ
   |_=>σ)
def DC(σ:St)(q j:Nat)(x:At):St:=
 match nth σ.own q with
 |some (some (.cellsP p T cs))=>σ.setOwn q (some (.cellsP p T (cs.set j x)))
 |_=>σ
def Db(τ:St)(q:Nat):List At->Nat->St->St
 |[],_,σ=>σ
 |y::ys,j,σ=>
  Db τ q ys (j+1) (match y with
   |.lst k=>match nth σ.own q with
    |some (some (.cellsP _ _ cs))=>match nth cs j with
     |some (.val (.slice none 0 0))=>match nth τ.own k,nth σ.own k with
      |some (some (.lst E sz _)),some none=>DC ((σ.kill k).setOwn k (some (.lst E sz []))) q j (.lst k)
      |_,_=>σ
     |_=>σ
    |_=>σ
   |_=>σ)
def H6(τ:St):List (Option Own)->Nat->St->St
 |[],_,σ=>σ
 |y::ys,q,σ=>
  H6 τ ys (q+1) (match y with
   |some (.cellsP _ _ cs)=>Db τ q cs 0 σ
   |_=>σ)
def conv(σ τ:St):St:=H6 τ τ.own 0 (No τ τ.sl 0 σ)
def rT(σ τ:St)(K:Prop):Prop:=
 xU (conv σ τ).sl τ.sl (rV (conv σ τ).own τ.own ((conv σ τ).m=τ.m/\(conv σ τ).h=τ.h/\K))
structure HB(m:MH)(h:PH):Prop where
 disj:∀b o,m b=some o->∀i,h b i=none
structure Hq(m:MH)(h:PH)(m2:MH)(h2:PH):Prop where
 sub:∀b o,m2 b=some o->m b=some o
 le:PH.le h h2
 new:∀b i v,h2 b i=some v->h b i=some v\/∃cs E fz,m b=some (.cells cs E fz)/\cs[i]? =some v/\m2 b=none
def MZ(σ τ:St)(K:Prop):Prop:=
 xU (conv σ τ).sl τ.sl (rV (conv σ τ).own τ.own (Hq (conv σ τ).m (conv σ τ).h τ.m τ.h/\K))
def En(c:sB)(R:c.A->Prop)(τ:St):Prop:=match c.frz with
 |false=>∃x,R x/\rT τ (c.st x) True
 |true=>HB τ.m τ.h->∃x,R x/\MZ τ (c.st x) True
def Nx(c:sB)(I:c.A->Prop)(S:c.A->Prop)(τ:St):Prop:=match c.frz with
 |false=>∃x,I x/\S x/\rT τ (c.st x) True
 |true=>HB τ.m τ.h->∃x,I x/\S x/\MZ τ (c.st x) True
def pF{α:Type}(d:α)(l:List (Nat×α)):Nat->Nat->List α
 |0,_=>[]
 |n+1,i=>(match assoc l i with|some x=>x|none=>d)::pF d l n (i+1)
def cM(n nown:Nat)(sl:List (Nat×SV))(own:List (Nat×Own))(m:MH)(h:PH):St:=
 {sl:=pF (.at .junk) sl n 0,own:=pF none (own.map λp=>(p.1,some p.2)) nown 0,m:=m,h:=h}
def S4(C:Ctx)(b:Code):Option Sg:=match iK b with|some i=>assoc C.cuts i|none=>none
def Zx(C:Ctx)(b:Code):Option H9:=match iK b with|some i=>assoc C.loops i|none=>none
def JN(C:Ctx)(b:Code):Option sB:=match iK b with|some i=>assoc C.cuts2 i|none=>none
def XD(C:Ctx)(b:Code):Option sB:=match iK b with|some i=>assoc C.loops2 i|none=>none
def Sr(C:Ctx)(ops:Array Oper):List (Nat×sB)->List Oper->St->(St->Prop)->Prop
 |[],l,σ,K=>Kz C ops l σ K
 |(n,a)::r,l,σ,K=>∃I:a.A->Prop,Kz C ops (l.take n) σ (λτ=>∃x,I x/\rT τ (a.st x) True)/\∀x,I x->Sr C ops r (l.drop n) (a.st x) K
def FR(C:Ctx)(id:Nat):List (Nat×sB):=match assoc C.rcuts id with|some l=>l|none=>[]
def VC(C:Ctx):Code->St->(uM->St->Prop)->Prop
 |.skip,σ,Q=>Q .normal σ
 |.label _,σ,Q=>Q .normal σ
 |.region id ops false,σ,Q=>Sr C ops (FR C id) ops.toList σ (Q .normal)
 |.region _ ops true,σ,Q=>match Zo ops,Region.noSelect ops,C.P.follows .mixedOrders with
  |true,true,true=>yF C ops ops.size (Array.replicate ops.size false) σ (Q .normal)
  |_,_,_=>False
 |.seq a b,σ,Q=>
  match S4 C b with
  |some c=>VC C a σ (λe τ=>match e with
   |.normal=>∃x,c.inv x/\rT τ (c.st x) True
   |e=>Q e τ)/\∀x,c.inv x->VC C b (c.st x) Q
  |none=>match JN C b with
   |some c=>∃I:c.A->Prop,VC C a σ (λe τ=>match e with
    |.normal=>En c I τ
    |e=>Q e τ)/\∀x,I x->VC C b (c.st x) Q
   |none=>VC C a σ (λe τ=>match e with
    |.normal=>VC C b τ Q
    |e=>Q e τ)
 |.cond c x y,σ,Q=>
  match σ.ev c with
  |.at (.val (.bool t))=>branch t (VC C x (setTmp σ c true) Q) (VC C y (setTmp σ c false) Q)
  |_=>False
 |.block id c,σ,Q=>
  VC C c σ (λe τ=>match e with
   |.exit i=>match Nat.beq i id with|true=>Q .normal τ|false=>Q (.exit i) τ
   |e=>Q e τ)
 |.loop c,σ,Q=>
  match Zx C c with
  |some l=>
   (∃x,l.inv x/\rT σ (l.st x) True)/\
   ∀x,l.inv x->VC C c (l.st x) (λe τ=>match e with
    |.normal=>∃y,l.inv y/\l.mu y<l.mu x/\rT τ (l.st y) True
    |e=>Q e τ)
  |none=>match XD C c with
   |some l=>∃(I:l.A->Prop)(mu:l.A->Nat),
    En l I σ/\
    ∀x,I x->VC C c (l.st x) (λe τ=>match e with
     |.normal=>Nx l I (λy=>mu y<mu x) τ
     |e=>Q e τ)
   |none=>False
 |.exit id,σ,Q=>Q (.exit id) σ
 |.ret,σ,Q=>Q .ret σ
 |_,_,_=>False
def Sv(C:Ctx)(σ:St):ResultVar->Option SV
 |.tmp t=>some (σ.ev (.tmp t))
 |.cell a T=>match σ.ev (.tmp a)with
  |.at (.ptr k off)=>match nth σ.own k with
   |some (some (.cellsP _ _ cs))=>match Nat.ble (off+C.P.cellsOf T) cs.length,fO C.P T with
    |true,true=>some (mk C.P T ((cs.drop off).take (C.P.cellsOf T)))
    |_,_=>none
   |_=>none
  |_=>none
def DF(C:Ctx)(σ:St):List ResultVar->Option (List SV)
 |[]=>some []
 |r::rs=>match Sv C σ r,DF C σ rs with
  |some x,some l=>some (x::l)
  |_,_=>none
def SC:List SV->List Nat
 |[]=>[]
 |x::r=>x.keys++(SC r).filter (λk=> !x.keys.contains k)
def zL(P:Program)(σ:St)(mv:Bool):List SV->List TypeId->Option (List CV)
 |[],_=>some []
 |x::r,ts=>match zL P σ mv r ts.tail with
  |none=>none
  |some l=>match mv with
   |true=>match x with
    |.at (.lst k)=>match nth σ.own k with
     |some (some (.lst E sz xs))=>some (.lst E sz xs::l)
     |_=>none
    |.at (.val (.slice none 0 0))=>match elemOf P (ts.headD 0)with
     |some (E,_)=>some (.lst E (P.cellsOf E) []::l)
     |none=>none
    |_=>none
   |false=>match x.val? with
    |some v=>some (.val v::l)
    |none=>none
def Ek:List SV->List Nat
 |[]=>[]
 |.at (.ptr k _)::r=>match(Ek r).contains k with|true=>Ek r|false=>k::Ek r
 |_::r=>Ek r
def zA(C:Ctx)(fn:Func)(K:CV->MH->PH->Prop)(σ:St):Prop:=
 match DF C σ fn.results.toList with
 |none=>False
 |some xs=>
  pE σ (λτ=>BJ τ (λυ=>
   match DF C υ fn.results.toList with
   |none=>False
   |some ys=>match zL C.P υ C.retMove ys fn.resultTypes.toList with
    |some [r]=>K r υ.m υ.h
    |some rs=>match C.retMove with|true=>False|false=>K (.tup rs) υ.m υ.h
    |none=>False) (match C.retMove with|true=>[]|false=>Ek xs)) (match C.retMove with|true=>[]|false=>SC xs)
def Da(n:Nat):Nat->List CV->List SV
 |_,[]=>[]
 |i,.val v::r=>.at (.val v)::Da n (i+1) r
 |i,.lst _ _ _::r=>.at (.lst (n+i))::Da n (i+1) r
 |i,.tup _::r=>.at .junk::Da n (i+1) r
def uJ:List CV->List (Option Own)
 |[]=>[]
 |.lst E sz xs::r=>some (.lst E sz xs)::uJ r
 |_::r=>none::uJ r
def entry(n:Nat)(args:List CV)(m:MH)(h:PH):St:=
 {sl:=Da n 0 args++List.replicate (n-args.length) (.at .junk),own:=List.replicate n none++uJ args,m:=m,h:=h}
def qI(C:Ctx)(fn:Func)(c:Code)(σ:St)(K:CV->MH->PH->Prop):Prop:=
 VC C c σ (λe τ=>match e with
  |.normal=>zA C fn K τ
  |.ret=>zA C fn K τ
  |_=>False)
end Go.Vc
namespace Go.Vc
open Go
theorem fV{α:Type}:∀(l:List α)(i:Nat),nth l i=l[i]?
 |[],i=>by simp[nth]
 |x::xs,0=>by simp[nth]
 |x::xs,n+1=>by simp[nth,fV xs n]
def tC(ι:Nat->Value):At->Value->Prop
 |.val v,u=>u=v
 |.ptr k o,u=>∃b,ι k= .pointer (some ⟨b,0,none⟩)/\u= .pointer (some ⟨b,o,none⟩)
 |.lst k,u=>u=ι k
 |.el k i sz o,u=>∃b n c,ι k= .slice (some ⟨b,0,none⟩) n c/\u= .pointer (some ⟨b,i*sz+o,none⟩)
 |.junk,_=>True
def fH(ι:Nat->Value):List At->List Value->Prop
 |[],[]=>True
 |x::xs,v::vs=>tC ι x v/\fH ι xs vs
 |_,_=>False
def Ka(ι:Nat->Value):List (Sum At (List At))->List Value->Prop
 |[],[]=>True
 |.inl x::xs,v::vs=>tC ι x v/\Ka ι xs vs
 |.inr cs::xs,v::vs=>(∃us:Array Value,v= .agg us/\fH ι cs us.toList)/\Ka ι xs vs
 |_,_=>False
def Den(ι:Nat->Value):SV->Value->Prop
 |.at x,u=>tC ι x u
 |.agg cs,u=>∃us:Array Value,u= .agg us/\fH ι cs us.toList
 |.tup xs,u=>∃us:Array Value,u= .tuple us/\Ka ι xs us.toList
def DenS(ι:Nat->Value):List SV->List Value->Prop
 |[],[]=>True
 |x::xs,v::vs=>Den ι x v/\DenS ι xs vs
 |_,_=>False
theorem fH.length{ι:Nat->Value}:∀{cs:List At}{vs:List Value},fH ι cs vs->cs.length=vs.length
 |[],[],_=>rfl
 |_::_,_::_,h=>by simp[fH.length h.2]
 |[],_::_,h=>h.elim
 |_::_,[],h=>h.elim
theorem fH.get{ι:Nat->Value}:∀{cs:List At}{vs:List Value}(_:fH ι cs vs)(i:Nat)(x:At),cs[i]? =some x->∃v,vs[i]? =some v/\tC ι x v
 |[],[],_,i,x,hx=>by simp at hx
 |_::_,v::_,h,0,x,hx=>by simp at hx;subst hx;exact⟨v,rfl,h.1⟩
 |_::_,_::_,h,i+1,x,hx=>by simp at hx⊢;exact fH.get h.2 i x hx
 |[],_::_,h,_,_,_=>h.elim
 |_::_,[],h,_,_,_=>h.elim
theorem fH.take{ι:Nat->Value}:∀{cs:List At}{vs:List Value}(n:Nat),fH ι cs vs->fH ι (cs.take n) (vs.take n)
 |_,_,0,_=>by simp[fH]
 |[],[],n+1,h=>by simp[fH]
 |_::_,_::_,n+1,h=>by simp only[List.take_succ_cons];exact⟨h.1,h.2.take n⟩
 |[],_::_,_+1,h=>h.elim
 |_::_,[],_+1,h=>h.elim
theorem fH.drop{ι:Nat->Value}:∀{cs:List At}{vs:List Value}(n:Nat),fH ι cs vs->fH ι (cs.drop n) (vs.drop n)
 |_,_,0,h=>by simpa using h
 |[],[],n+1,h=>by simp[fH]
 |_::_,_::_,n+1,h=>by simp only[List.drop_succ_cons];exact h.2.drop n
 |[],_::_,_+1,h=>h.elim
 |_::_,[],_+1,h=>h.elim
theorem fH.append{ι:Nat->Value}:∀{cs cs':List At}{vs vs':List Value},fH ι cs vs->fH ι cs' vs'->fH ι (cs++cs') (vs++vs')
 |[],_,[],_,_,h'=>by simpa using h'
 |_::_,_,_::_,_,h,h'=>⟨h.1,h.2.append h'⟩
 |[],_,_::_,_,h,_=>h.elim
 |_::_,_,[],_,h,_=>h.elim
theorem fH.splice{ι:Nat->Value}{cs new:List At}{vs us:List Value}(off:Nat)(h:fH ι cs vs)(h':fH ι new us):
 fH ι (splice cs off new) (splice vs off us):=by
 unfold Vc.splice;rw[h'.length];exact((h.take off).append h').append (h.drop _)
theorem fH.set{ι:Nat->Value}:∀{cs:List At}{vs:List Value}(j:Nat){x:At}{v:Value},fH ι cs vs->tC ι x v->fH ι (cs.set j x) (vs.set j v)
 |[],[],_,_,_,_,_=>by simp[fH]
 |_::_,_::_,0,_,_,h,hx=>⟨hx,h.2⟩
 |_::_,_::_,j+1,_,_,h,hx=>⟨h.1,h.2.set j hx⟩
 |[],_::_,_,_,_,h,_=>h.elim
 |_::_,[],_,_,_,h,_=>h.elim
theorem fH.vals{ι:Nat->Value}:∀{l:List Value}{vs:List Value},fH ι (l.map .val) vs↔vs=l
 |[],[]=>by simp[fH]
 |[],_::_=>by simp[fH]
 |_::_,[]=>by simp[fH]
 |a::l,v::vs=>by simp only[List.map_cons,fH,tC,fH.vals,List.cons.injEq]
theorem yZ:∀{cs:List At}{l:List Value},oZ cs=some l->cs=l.map .val
 |[],l,h=>by simp[oZ]at h;subst h;rfl
 |.val v::r,l,h=>by
  simp only[oZ]at h;cases hr:oZ r with
  |none=>simp[hr]at h
  |some l'=>simp[hr]at h;subst h;simp[yZ hr]
 |.ptr _ _::_,_,h=>by simp[oZ]at h
 |.lst _::_,_,h=>by simp[oZ]at h
 |.el _ _ _ _::_,_,h=>by simp[oZ]at h
 |.junk::_,_,h=>by simp[oZ]at h
theorem Den.val?{ι:Nat->Value}{x:SV}{u v:Value}(h:Den ι x u)(hv:x.val? =some v):u=v:=by
 cases x with
 |agg cs=>
  simp only[SV.val?]at hv;cases hc:oZ cs with
  |none=>simp[hc]at hv
  |some l=>
   simp[hc]at hv;obtain⟨us,rfl,hd⟩:=h;rw[yZ hc,fH.vals]at hd;subst hv;congr 1;apply Array.toList_inj.1;simpa using hd
 |tup xs=>simp[SV.val?]at hv
 |_ y=>cases y<;>simp[SV.val?]at hv;subst hv;exact h
theorem DenS.length{ι:Nat->Value}:∀{xs:List SV}{vs:List Value},DenS ι xs vs->xs.length=vs.length
 |[],[],_=>rfl
 |_::_,_::_,h=>by simp[DenS.length h.2]
 |[],_::_,h=>h.elim
 |_::_,[],h=>h.elim
theorem DenS.get{ι:Nat->Value}:∀{xs:List SV}{vs:List Value}(_:DenS ι xs vs)(i:Nat)(x:SV),xs[i]? =some x->∃v,vs[i]? =some v/\Den ι x v
 |[],[],_,i,x,hx=>by simp at hx
 |_::_,v::_,h,0,x,hx=>by simp at hx;subst hx;exact⟨v,rfl,h.1⟩
 |_::_,_::_,h,i+1,x,hx=>by simp at hx⊢;exact DenS.get h.2 i x hx
 |[],_::_,h,_,_,_=>h.elim
 |_::_,[],h,_,_,_=>h.elim
theorem DenS.set{ι:Nat->Value}:∀{xs:List SV}{vs:List Value}(j:Nat){x:SV}{v:Value},DenS ι xs vs->Den ι x v->DenS ι (xs.set j x) (vs.set j v)
 |[],[],_,_,_,_,_=>by simp[DenS]
 |_::_,_::_,0,_,_,h,hx=>⟨hx,h.2⟩
 |_::_,_::_,j+1,_,_,h,hx=>⟨h.1,h.2.set j hx⟩
 |[],_::_,_,_,_,h,_=>h.elim
 |_::_,[],_,_,_,h,_=>h.elim
def upd(ι:Nat->Value)(k:Nat)(u:Value):Nat->Value:=λj=>if j=k then u else ι j
@[simp] theorem upd_same (ι:Nat->Value) (k:Nat) (u:Value):upd ι k u k=u:=by simp[upd]
theorem lA(ι:Nat->Value){k j:Nat}(u:Value)(h:j≠k):upd ι k u j=ι j:=by simp[upd,h]
def At.key:At->Option Nat
 |.ptr k _=>some k
 |.lst k=>some k
 |.el k _ _ _=>some k
 |_=>none
theorem tC.sub{ι:Nat->Value}{k:Nat}{u:Value}{f:At->At}(hf:∀x v,x.key=some k->tC ι x v->tC (upd ι k u) (f x) v){x:At}{v:Value}(h:tC ι x v):
 tC (upd ι k u) (x.sub k f) v:=by
 cases x with
 |val w=>exact h
 |junk=>trivial
 |ptr j o=>
  simp only[At.sub];split
  .rename_i hb;exact hf _ _ (by simp only[At.key,Option.some.injEq];exact Nat.eq_of_beq_eq_true hb) h
  .rename_i hb;have hne:j≠k:=λe=>by subst e;simp at hb
   obtain⟨b,h1,h2⟩:=h;exact⟨b,by rw[lA _ _ hne];exact h1,h2⟩
 |lst j=>
  simp only[At.sub];split
  .rename_i hb;exact hf _ _ (by simp only[At.key,Option.some.injEq];exact Nat.eq_of_beq_eq_true hb) h
  .rename_i hb;have hne:j≠k:=λe=>by subst e;simp at hb
   simp only[tC]at h⊢
   rw[lA _ _ hne];exact h
 |el j i sz o=>
  simp only[At.sub];split
  .rename_i hb;exact hf _ _ (by simp only[At.key,Option.some.injEq];exact Nat.eq_of_beq_eq_true hb) h
  .rename_i hb;have hne:j≠k:=λe=>by subst e;simp at hb
   obtain⟨b,n,c,h1,h2⟩:=h;exact⟨b,n,c,by rw[lA _ _ hne];exact h1,h2⟩
theorem fH.sub{ι:Nat->Value}{k:Nat}{u:Value}{f:At->At}(hf:∀x v,x.key=some k->tC ι x v->tC (upd ι k u) (f x) v):∀{cs:List At}{vs:List Value},fH ι cs vs->
 fH (upd ι k u) (cs.map (At.sub k f)) vs
 |[],[],_=>trivial
 |_::_,_::_,h=>⟨tC.sub hf h.1,fH.sub hf h.2⟩
 |[],_::_,h=>h.elim
 |_::_,[],h=>h.elim
theorem Ka.sub{ι:Nat->Value}{k:Nat}{u:Value}{f:At->At}(hf:∀x v,x.key=some k->tC ι x v->tC (upd ι k u) (f x) v):∀{cs:List (Sum At (List At))}{vs:List Value},Ka ι cs vs->
 Ka (upd ι k u) (cs.map λ |.inl x=>.inl (x.sub k f)|.inr cs=>.inr (cs.map (At.sub k f))) vs
 |[],[],_=>trivial
 |.inl _::_,_::_,h=>⟨tC.sub hf h.1,Ka.sub hf h.2⟩
 |.inr _::_,_::_,h=>⟨let⟨us,e,hd⟩:=h.1;⟨us,e,fH.sub hf hd⟩,Ka.sub hf h.2⟩
 |[],_::_,h=>h.elim
 |.inl _::_,[],h=>h.elim
 |.inr _::_,[],h=>h.elim
theorem Den.sub{ι:Nat->Value}{k:Nat}{u:Value}{f:At->At}(hf:∀x v,x.key=some k->tC ι x v->tC (upd ι k u) (f x) v){x:SV}{v:Value}(h:Den ι x v):
 Den (upd ι k u) (x.sub k f) v:=by
 cases x with
 |agg cs=>obtain⟨us,e,hd⟩:=h;exact⟨us,e,fH.sub hf hd⟩
 |tup xs=>obtain⟨us,e,hd⟩:=h;exact⟨us,e,Ka.sub hf hd⟩
 |_ y=>exact tC.sub hf h
theorem DenS.sub{ι:Nat->Value}{k:Nat}{u:Value}{f:At->At}(hf:∀x v,x.key=some k->tC ι x v->tC (upd ι k u) (f x) v):∀{xs:List SV}{vs:List Value},DenS ι xs vs->
 DenS (upd ι k u) (xs.map (SV.sub k f)) vs
 |[],[],_=>trivial
 |_::_,_::_,h=>⟨Den.sub hf h.1,DenS.sub hf h.2⟩
 |[],_::_,h=>h.elim
 |_::_,[],h=>h.elim
structure mH where
 w0:World
 E:Nat->Prop
 h0:PH
 dfs:List Deferred
def blk:Value->Option Nat
 |.pointer (some a)=>some a.block
 |.slice (some a) _ _=>some a.block
 |_=>none
def zS(ι:Nat->Value)(w:World)(v:Value):Own->Prop
 |.cellsP p T cs=>∃b vs,v= .pointer (some ⟨b,0,none⟩)/\w.heap[b]? =some (.cells vs T (0,0))/\fH ι cs vs.toList/\∀q,p=some q->b=q
 |.lst E sz xs=>dU sz xs/\w.ownsRow 0 E sz v xs.length xs.flatten
structure qS(B:mH)(m:MH)(h:PH)(w:World):Prop where
 tape:w.tape=B.w0.tape
 os:w.os=B.w0.os
 output:w.output=B.w0.output
 drawn:B.w0.drawn<=w.drawn
 size:B.w0.heap.size<=w.heap.size
 frame:∀b,b<B.w0.heap.size->¬B.E b->w.heap[b]? =B.w0.heap[b]?
 hsat:∀b o v,h b o=some v->w.cell? ⟨b,o,none⟩=some v
 msat:∀b o,m b=some o->w.heap[b]? =some o
 disj:∀b o,m b=some o->∀i,h b i=none
 hle:∀b o v,B.h0 b o=some v->h b o=some v
 hold:∀b,b<B.w0.heap.size->¬B.E b->h b=B.h0 b
 mfr:∀b o,m b=some o->B.w0.heap.size<=b\/B.E b
structure aG(B:mH)(ι:Nat->Value)(σ:St)(a:Act)(w:World):Prop where
 slots:DenS ι σ.sl a.tmps.toList
 defers:a.defers=B.dfs
 own:∀k o,nth σ.own k=some (some o)->zS ι w (ι k) o
 dist:∀k k' o o' b,nth σ.own k=some (some o)->nth σ.own k'=some (some o')->blk (ι k)=some b->blk (ι k')=some b->k=k'
 fresh:∀k o b,nth σ.own k=some (some o)->blk (ι k)=some b->(B.w0.heap.size<=b\/B.E b)/\σ.m b=none/\∀i,σ.h b i=none
 wrel:qS B σ.m σ.h w
 one:∀k,(ι k).oneCell'=true
theorem tG{α:Type}(l:List α)(k j:Nat)(x:α):nth (l.set k x) j=if j=k/\k<l.length then some x else nth l j:=by
 rw[fV,fV,List.getElem?_set];by_cases h:k=j
 .subst h;by_cases h':k<l.length
  .simp[h']
  .simp[h']
 .have h2:¬(j=k/\k<l.length):=λe=>h e.1.symm;simp[h,h2]
theorem vC{α β:Type}(f:α->β)(l:List α)(j:Nat):nth (l.map f) j=(nth l j).map f:=by
 rw[fV,fV,List.getElem?_map]
theorem Act.toList_put(a:Act)(d:Nat)(v:Value):(a.put (some d) v).tmps.toList=a.tmps.toList.set d v:=by
 simp[Act.put]
theorem aG.put{B:mH}{ι:Nat->Value}{σ:St}{a:Act}{w:World}(h:aG B ι σ a w)(d:Option Tmp){x:SV}{v:Value}(hx:Den ι x v):
 aG B ι (σ.put d x) (a.put d v) w:=by
 cases d with
 |none=>exact h
 |some d=>
  refine⟨?_,h.defers,h.own,h.dist,h.fresh,h.wrel,h.one⟩;rw[Act.toList_put];exact h.slots.set d hx
theorem aG.ev{B:mH}{ι:Nat->Value}{σ:St}{a:Act}{w:World}(h:aG B ι σ a w)(x:Operand):Den ι (σ.ev x) (a.eval x):=by
 cases x with
 |const v=>rfl
 |global g=>rfl
 |func f=>rfl
 |tmp t=>
  simp only[St.ev,fV];cases hx:σ.sl[t]? with
  |none=>exact trivial
  |some x=>
   obtain⟨v,hv,hd⟩:=h.slots.get t x hx
   have:a.eval (.tmp t)=v:=by
    simp only[Act.eval,Array.getD_eq_getD_getElem?];rw[<-Array.getElem?_toList,hv];rfl
   rw[this];exact hd
theorem aG.rho{B:mH}{ι:Nat->Value}{σ:St}{a:Act}{w:World}(h:aG B ι σ a w){x:Operand}{v:Value}(hx:(σ.ev x).val? =some v):
 a.eval x=v:=(h.ev x).val? hx
theorem lI{ι:Nat->Value}{w:World}{v:Value}{o:Own}{b:Nat}(h:zS ι w v o)(hb:blk v=some b):b<w.heap.size:=by
 cases o with
 |cellsP p T cs=>
  obtain⟨b',vs,rfl,hh,_⟩:=h;simp[blk]at hb;subst hb;exact(Array.getElem?_eq_some_iff.1 hh).1
 |lst E sz xs=>
  rcases h.2.2 with⟨rfl,_⟩|⟨b',cap,cur,rfl,_,hh,_⟩
  .simp[blk]at hb
  .simp[blk]at hb;subst hb;exact(Array.getElem?_eq_some_iff.1 hh).1
theorem zS.world{ι:Nat->Value}{w w':World}{v:Value}{o:Own}(h:zS ι w v o)(hw:∀b,blk v=some b->w'.heap[b]? =w.heap[b]?):zS ι w' v o:=by
 cases o with
 |cellsP p T cs=>
  obtain⟨b',vs,rfl,hh,hd⟩:=h;exact⟨b',vs,rfl,by rw[hw _ rfl];exact hh,hd⟩
 |lst E sz xs=>
  refine⟨h.1,h.2.1,?_⟩;rcases h.2.2 with⟨rfl,hx⟩|⟨b',cap,cur,rfl,h0,hh,hr⟩
  .exact .inl ⟨rfl,hx⟩
  .exact .inr ⟨b',cap,cur,rfl,h0,by rw[hw _ rfl];exact hh,hr⟩
theorem zS.sub{ι:Nat->Value}{w:World}{v:Value}{o:Own}{k:Nat}{u:Value}{f:At->At}(hf:∀x v,x.key=some k->tC ι x v->tC (upd ι k u) (f x) v)(h:zS ι w v o):
 zS (upd ι k u) w v (o.sub k f):=by
 cases o with
 |cellsP p T cs=>
  obtain⟨b',vs,rfl,hh,hd,hp⟩:=h;exact⟨b',vs,rfl,hh,fH.sub hf hd,hp⟩
 |lst E sz xs=>exact h
theorem lM{σ:St}{k j:Nat}{f:At->At}{o':Own}(h:nth ((σ.sub k f).setOwn k none).own j=some (some o')):
 j≠k/\∃o,nth σ.own j=some (some o)/\o'=o.sub k f:=by
 simp only[St.setOwn,St.sub,tG,vC]at h;by_cases hj:j=k
 .subst hj;by_cases hk:j<σ.own.length
  .simp[hk]at h
  .simp[hk,fV]at h
 .simp only[hj,false_and,if_false]at h;refine⟨hj,?_⟩;cases hn:nth σ.own j with
  |none=>simp[hn]at h
  |some x=>
   cases x with
   |none=>simp[hn]at h
   |some o=>simp[hn]at h;exact⟨o,rfl,h.symm⟩
theorem Mu{ι:Nat->Value}(h:∀k,(ι k).oneCell'=true)(k:Nat){u:Value}(hu:u.oneCell'=true):∀j,(upd ι k u j).oneCell'=true:=by
 intro j;unfold upd;split
 .exact hu
 .exact h j
theorem aG.drop{B:mH}{ι:Nat->Value}{σ:St}{a:Act}{w:World}(h:aG B ι σ a w)(k:Nat)(u:Value)(hu:u.oneCell'=true)(f:At->At)
 (hf:∀x v,x.key=some k->tC ι x v->tC (upd ι k u) (f x) v):aG B (upd ι k u) ((σ.sub k f).setOwn k none) a w:=by
 refine⟨DenS.sub hf h.slots,h.defers,?_,?_,?_,h.wrel,Mu h.one k hu⟩
 .intro j o' hj;obtain⟨hne,o,ho,rfl⟩:=lM hj;rw[lA _ _ hne];exact(h.own j o ho).sub hf
 .intro j j' o o' b hj hj' hb hb';obtain⟨hne,o,ho,rfl⟩:=lM hj;obtain⟨hne',o',ho',rfl⟩:=lM hj';rw[lA _ _ hne]at hb;rw[lA _ _ hne']at hb';exact h.dist j j' _ _ b ho ho' hb hb'
 .intro j o b hj hb;obtain⟨hne,o,ho,rfl⟩:=lM hj;rw[lA _ _ hne]at hb;exact h.fresh j o b ho hb
theorem HZ(σ:St)(k:Nat):σ.kill k=(σ.sub k (λ_=>.junk)).setOwn k none:=rfl
theorem aG.kill{B:mH}{ι:Nat->Value}{σ:St}{a:Act}{w:World}(h:aG B ι σ a w)(k:Nat)(u:Value)(hu:u.oneCell'=true):aG B (upd ι k u) (σ.kill k) a w:=
 h.drop k u hu _ (λ_ _ _ _=>trivial)
structure zM(S:Nat->Prop)(w w':World):Prop where
 tape:w'.tape=w.tape
 os:w'.os=w.os
 output:w'.output=w.output
 drawn:w.drawn<=w'.drawn
 size:w.heap.size<=w'.heap.size
 block:∀b,b<w.heap.size->¬S b->w'.heap[b]? =w.heap[b]?
theorem zM.refl(S:Nat->Prop)(w:World):zM S w w:=⟨rfl,rfl,rfl,Nat.le_refl _,Nat.le_refl _,λ_ _ _=>rfl⟩
theorem qS.ext{B:mH}{m:MH}{h:PH}{w w':World}{S:Nat->Prop}(hr:qS B m h w)(he:zM S w w')(hS:∀b,S b->(B.w0.heap.size<=b\/B.E b)/\m b=none/\∀i,h b i=none):
 qS B m h w':=by
 refine⟨he.tape.trans hr.tape,he.os.trans hr.os,he.output.trans hr.output,Nat.le_trans hr.drawn he.drawn,Nat.le_trans hr.size he.size,?_,?_,?_,hr.disj,hr.hle,hr.hold,hr.mfr⟩
 .intro b hb hE;rw[he.block b (Nat.lt_of_lt_of_le hb hr.size) (λhs=>?_)]
  .exact hr.frame b hb hE
  .rcases(hS b hs).1 with h1|h1
   .omega
   .exact hE h1
 .intro b o v hv;have h1:=hr.hsat b o v hv
  have hlt:b<w.heap.size:=by
   unfold World.cell? at h1;dsimp only at h1;rcases Nat.lt_or_ge b w.heap.size with hlt|hge
   .exact hlt
   .simp[Array.getElem?_eq_none hge]at h1
  have h2:=he.block b hlt (λhs=>by have:=(hS b hs).2.2 o;rw[hv]at this;cases this);unfold World.cell? at h1⊢
  dsimp only at h1⊢
  rw[h2];exact h1
 .intro b o ho;have h1:=hr.msat b o ho;have hlt:=(Array.getElem?_eq_some_iff.1 h1).1;rw[he.block b hlt (λhs=>by have:=(hS b hs).2.1;rw[ho]at this;cases this)];exact h1
theorem aG.place{B:mH}{ι:Nat->Value}{σ:St}{a:Act}{w w':World}(h:aG B ι σ a w)(k:Nat)(o:Own)(v:Value)
 (he:zM (λb=>(∃o',nth σ.own k=some (some o'))/\blk (ι k)=some b) w w')
 (ho:zS (upd ι k v) w' v o)(hone:v.oneCell'=true)
 (hb:∀b,blk v=some b->w.heap.size<=b\/((∃o',nth σ.own k=some (some o'))/\blk (ι k)=some b)):
 aG B (upd ι k v) ((σ.kill k).setOwn k (some o)) a w':=by
 have hS:∀b,((∃o',nth σ.own k=some (some o'))/\blk (ι k)=some b)->(B.w0.heap.size<=b\/B.E b)/\σ.m b=none/\∀i,σ.h b i=none:=
  λb⟨⟨o',ho'⟩,hk⟩=>h.fresh k o' b ho' hk
 have hwr:=h.wrel.ext he hS
 have hnew:∀b,blk v=some b->(B.w0.heap.size<=b\/B.E b)/\σ.m b=none/\∀i,σ.h b i=none:=by
  intro b hv;rcases hb b hv with hge|hold
  .refine⟨.inl (Nat.le_trans h.wrel.size hge),?_,?_⟩
   .cases hm:σ.m b with
    |none=>rfl
    |some ob=>have:=(Array.getElem?_eq_some_iff.1 (h.wrel.msat b ob hm)).1;omega
   .intro i;cases hh:σ.h b i with
    |none=>rfl
    |some u=>
     have h1:=h.wrel.hsat b i u hh;unfold World.cell? at h1;simp[Array.getElem?_eq_none hge]at h1
  .exact hS b hold
 have cases_own:∀j o',nth ((σ.kill k).setOwn k (some o)).own j=some (some o')->
  (j=k/\o'=o)\/(j≠k/\∃o1,nth σ.own j=some (some o1)/\o'=o1.sub k (λ_=>.junk)):=by
  intro j o' hj;simp only[HZ,St.setOwn,St.sub,tG,vC,List.length_set,List.length_map]at hj;by_cases hjk:j=k
  .subst hjk;by_cases hlt:j<σ.own.length
   .simp[hlt]at hj;exact .inl ⟨rfl,hj.symm⟩
   .simp[hlt,fV]at hj
  .simp only[hjk,false_and,if_false]at hj;refine .inr ⟨hjk,?_⟩;cases hn:nth σ.own j with
   |none=>simp[hn]at hj
   |some x=>
    cases x with
    |none=>simp[hn]at hj
    |some o1=>simp[hn]at hj;exact⟨o1,rfl,hj.symm⟩
 have other:∀j o1,j≠k->nth σ.own j=some (some o1)->∀b,blk (ι j)=some b->blk v≠some b/\w'.heap[b]? =w.heap[b]? :=by
  intro j o1 hjk ho1 b hbj;have hlt:=lI (h.own j o1 ho1) hbj;have hnotS:¬((∃o',nth σ.own k=some (some o'))/\blk (ι k)=some b):=λ⟨⟨o',ho'⟩,hk⟩=>hjk (h.dist j k o1 o' b ho1 ho' hbj hk);refine⟨λhv=>?_,he.block b hlt hnotS⟩;rcases hb b hv with hge|hold
  .omega
  .exact hnotS hold
 refine⟨DenS.sub (f:=λ_=>.junk) (λ_ _ _ _=>trivial) h.slots,h.defers,?_,?_,?_,hwr,Mu h.one k hone⟩
 .intro j o' hj;rcases cases_own j o' hj with⟨rfl,rfl⟩|⟨hjk,o1,ho1,rfl⟩
  .rw[upd_same];exact ho
  .rw[lA _ _ hjk];refine zS.world ((h.own j o1 ho1).sub (f:=λ_=>.junk) (λ_ _ _ _=>trivial)) (λb hbj=>(other j o1 hjk ho1 b hbj).2)
 .intro j j' o1 o2 b hj hj' hbj hbj';rcases cases_own j o1 hj with⟨rfl,rfl⟩|⟨hjk,o1',ho1,rfl⟩<;>rcases cases_own j' o2 hj' with⟨rfl,rfl⟩|⟨hjk',o2',ho2,rfl⟩
  .rfl
  .rw[upd_same]at hbj;rw[lA _ _ hjk']at hbj';exact absurd hbj (other j' o2' hjk' ho2 b hbj').1
  .rw[upd_same]at hbj';rw[lA _ _ hjk]at hbj;exact absurd hbj' (other j o1' hjk ho1 b hbj).1
  .rw[lA _ _ hjk]at hbj;rw[lA _ _ hjk']at hbj';exact h.dist j j' _ _ b ho1 ho2 hbj hbj'
 .intro j o1 b hj hbj;rcases cases_own j o1 hj with⟨rfl,rfl⟩|⟨hjk,o1',ho1,rfl⟩
  .rw[upd_same]at hbj;exact hnew b hbj
  .rw[lA _ _ hjk]at hbj;exact h.fresh j o1' b ho1 hbj
theorem aG.adopt{B:mH}{ι:Nat->Value}{σ:St}{a:Act}{w:World}(h:aG B ι σ a w)(k:Nat)(o:Own)(v:Value)
 (ho:zS (upd ι k v) w v o)(hone:v.oneCell'=true)
 (hb:∀b,blk v=some b->((B.w0.heap.size<=b\/B.E b)/\σ.m b=none/\∀i,σ.h b i=none)/\∀j o',j≠k->nth σ.own j=some (some o')->blk (ι j)≠some b):
 aG B (upd ι k v) ((σ.kill k).setOwn k (some o)) a w:=by
 have cases_own:∀j o',nth ((σ.kill k).setOwn k (some o)).own j=some (some o')->
  (j=k/\o'=o)\/(j≠k/\∃o1,nth σ.own j=some (some o1)/\o'=o1.sub k (λ_=>.junk)):=by
  intro j o' hj;simp only[HZ,St.setOwn,St.sub,tG,vC,List.length_set,List.length_map]at hj;by_cases hjk:j=k
  .subst hjk;by_cases hlt:j<σ.own.length
   .simp[hlt]at hj;exact .inl ⟨rfl,hj.symm⟩
   .simp[hlt,fV]at hj
  .simp only[hjk,false_and,if_false]at hj;refine .inr ⟨hjk,?_⟩;cases hn:nth σ.own j with
   |none=>simp[hn]at hj
   |some x=>
    cases x with
    |none=>simp[hn]at hj
    |some o1=>simp[hn]at hj;exact⟨o1,rfl,hj.symm⟩
 refine⟨DenS.sub (f:=λ_=>.junk) (λ_ _ _ _=>trivial) h.slots,h.defers,?_,?_,?_,h.wrel,Mu h.one k hone⟩
 .intro j o' hj;rcases cases_own j o' hj with⟨rfl,rfl⟩|⟨hjk,o1,ho1,rfl⟩
  .rw[upd_same];exact ho
  .rw[lA _ _ hjk];exact(h.own j o1 ho1).sub (f:=λ_=>.junk) (λ_ _ _ _=>trivial)
 .intro j j' o1 o2 b hj hj' hbj hbj';rcases cases_own j o1 hj with⟨rfl,rfl⟩|⟨hjk,o1',ho1,rfl⟩<;>rcases cases_own j' o2 hj' with⟨rfl,rfl⟩|⟨hjk',o2',ho2,rfl⟩
  .rfl
  .rw[upd_same]at hbj;rw[lA _ _ hjk']at hbj';exact absurd hbj' ((hb b hbj).2 j' _ hjk' ho2)
  .rw[upd_same]at hbj';rw[lA _ _ hjk]at hbj;exact absurd hbj ((hb b hbj').2 j _ hjk ho1)
  .rw[lA _ _ hjk]at hbj;rw[lA _ _ hjk']at hbj';exact h.dist j j' _ _ b ho1 ho2 hbj hbj'
 .intro j o1 b hj hbj;rcases cases_own j o1 hj with⟨rfl,rfl⟩|⟨hjk,o1',ho1,rfl⟩
  .rw[upd_same]at hbj;exact(hb b hbj).1
  .rw[lA _ _ hjk]at hbj;exact h.fresh j o1' b ho1 hbj
theorem D7(ι:Nat->Value)(k:Nat):upd ι k (ι k)=ι:=by
 funext j;unfold upd;split
 .rename_i h;rw[h]
 .rfl
structure Fz(σ σ':St):Prop where
 cells:∀k p T cs,nth σ.own k=some (some (.cellsP p T cs))->∃cs',nth σ'.own k=some (some (.cellsP p T cs'))
 imm:∀b off v,σ.h b off=some v->σ'.h b off=some v
 ptr:∀x k off,σ'.ev x= .at (.ptr k off)->σ.ev x= .at (.ptr k off)
 lst:∀x k,σ'.ev x= .at (.lst k)->σ.ev x= .at (.lst k)
 m_:σ'.m=σ.m
theorem Fz.refl(σ:St):Fz σ σ:=⟨λ_ _ _ cs h=>⟨cs,h⟩,λ_ _ _ h=>h,λ_ _ _ h=>h,λ_ _ h=>h,rfl⟩
theorem Fz.trans{σ τ υ:St}(h:Fz σ τ)(h':Fz τ υ):Fz σ υ:=
 ⟨λk p T cs hk=>let⟨cs',hk'⟩:=h.cells k p T cs hk;h'.cells k p T cs' hk',λb o v hv=>h'.imm b o v (h.imm b o v hv),λx k o hx=>h.ptr x k o (h'.ptr x k o hx),λx k hx=>h.lst x k (h'.lst x k hx),h'.m_.trans h.m_⟩
theorem RS(σ:St)(k:Nat)(f:At->At)(m:MH)(h:PH)(own:List (Option Own))(x:Operand):
 St.ev {sl:=σ.sl.map (SV.sub k f),own:=own,m:=m,h:=h} x=(σ.ev x).sub k f\/(∃v,x= .const v\/(∃g,x= .global g)\/∃g,x= .func g):=by
 cases x with
 |tmp t=>
  left;simp only[St.ev,vC];cases nth σ.sl t with
  |none=>rfl
  |some y=>rfl
 |const v=>exact .inr ⟨v,.inl rfl⟩
 |global g=>exact .inr ⟨undef,.inr (.inl ⟨g,rfl⟩)⟩
 |func g=>exact .inr ⟨undef,.inr (.inr ⟨g,rfl⟩)⟩
theorem Xt{k:Nat}{f:At->At}(hf:∀x j o,f x≠ .ptr j o){x:SV}{j o:Nat}(h:x.sub k f= .at (.ptr j o)):x= .at (.ptr j o):=by
 cases x with
 |agg cs=>simp[SV.sub]at h
 |tup xs=>simp[SV.sub]at h
 |_ y=>
  cases y<;>simp only[SV.sub,At.sub,SV.at.injEq]at h⊢
  case val=>exact h
  case junk=>exact h
  all_goals
   split at h
   .exact absurd h (hf _ _ _)
   .exact h
theorem Sp{k:Nat}{f:At->At}(hf:∀x j,f x≠ .lst j){x:SV}{j:Nat}(h:x.sub k f= .at (.lst j)):x= .at (.lst j):=by
 cases x with
 |agg cs=>simp[SV.sub]at h
 |tup xs=>simp[SV.sub]at h
 |_ y=>
  cases y<;>simp only[SV.sub,At.sub,SV.at.injEq]at h⊢
  case val=>exact h
  case junk=>exact h
  all_goals
   split at h
   .exact absurd h (hf _ _)
   .exact h
theorem VN{σ:St}{k:Nat}{f:At->At}{m:MH}{h:PH}(hm:m=σ.m)(hf:∀x j o,f x≠ .ptr j o)(hfl:∀x j,f x≠ .lst j)(hk:∀p T cs,nth σ.own k≠some (some (.cellsP p T cs)))(hh:∀b off v,σ.h b off=some v->h b off=some v):
 Fz σ {(σ.sub k f).setOwn k none with m:=m,h:=h}:=by
 refine⟨?_,hh,?_,?_,hm⟩
 .intro j p T cs hj;have hne:j≠k:=λe=>hk p T cs (e▸hj);refine⟨cs.map (At.sub k f),?_⟩;simp only[St.setOwn,St.sub,tG,vC,hne,false_and,if_false,hj];rfl
 .intro x j off hx;rcases RS σ k f m h ((σ.sub k f).setOwn k none).own x with he|⟨v,he⟩
  .have:(σ.ev x).sub k f= .at (.ptr j off):=he▸hx;exact Xt hf this
  .rcases he with rfl|⟨g,rfl⟩|⟨g,rfl⟩<;>exact hx
 .intro x j hx;rcases RS σ k f m h ((σ.sub k f).setOwn k none).own x with he|⟨v,he⟩
  .have:(σ.ev x).sub k f= .at (.lst j):=he▸hx;exact Sp hfl this
  .rcases he with rfl|⟨g,rfl⟩|⟨g,rfl⟩<;>exact hx
end Go.Vc
namespace Go.Vc
open Go
theorem v8{α:Type}(P:Program):∀(s:Sem α)(x:α),uQ P s=some x->∀w,s.run P w= .ok x w:=by
 intro s
 induction s with
 |pure a=>intro x h w;simp[uQ]at h;subst h;rfl
 |program k ih=>intro x h w;simp only[uQ]at h;simp only[Sem.run];exact ih P x h w
 |mark m k ih=>intro x h w;simp only[uQ]at h;simp only[Sem.run];exact ih x h w
 |_=>intro x h w;simp[uQ]at h
def NF(C:Ctx)(ι:Nat->Value)(o:Oper)(σ:St)(K:St->Prop)(a:Act)(w:World):Prop:=
 ∃v x,(∀w'',(u6 C.P o=false\/w''=w)->(execOp a.eval o).run C.P w''= .ok (.value v) w'')/\Den ι x v/\K (σ.put o.dst x)
section
variable{B:mH}{C:Ctx}{ι:Nat->Value}{σ:St}{a:Act}{w:World}{o:Oper}{K:St->Prop}
theorem Hk(hM:aG B ι σ a w):∀(l:List Operand),H7 σ l=true->∀x∈l,σ.rho x=a.eval x
 |[],_,x,hx=>by cases hx
 |y::l,h,x,hx=>by
  simp only[H7]at h;cases hy:(σ.ev y).val? with
  |none=>simp[hy]at h
  |some v=>
   simp[hy]at h;rcases List.mem_cons.1 hx with rfl|hx
   .simp only[St.rho,hy];exact(hM.rho hy).symm
   .exact Hk hM l h x hx
theorem iW(hM:aG B ι σ a w)(hs:∀cs b,o.op≠ .select cs b)(h:qW C o σ K):NF C ι o σ K a w:=by
 unfold qW at h;split at h
 .rename_i ha;have hc:execOp a.eval o=execOp σ.rho o:=execOp_congr o hs λx hx=>(Hk hM _ ha x (by simpa using hx)).symm;split at h
  .rename_i v hv;exact⟨v,.at (.val v),λw'' _=>by rw[hc];exact v8 _ _ _ hv w'',rfl,h⟩
  .exact h.elim
 .exact h.elim
theorem Addr.add_none(b o j:Nat):(⟨b,o,none⟩:Addr).add j=⟨b,o+j,none⟩:=by unfold Addr.add;split<;>simp_all
def XC(P:Program)(T:TypeId)(cs:List Value):Value:=match wK P T with|true=>.agg cs.toArray|false=>cs.headD undef
theorem eH{P:Program}{T:TypeId}(h:fO P T=true):∃i d,P.info? T=some i/\P.underlying T=some d/\P.cellsOf T=i.size/\0<i.size:=by
 unfold fO at h;split at h
 .rename_i d hd;split at h
  .cases h
  .rename_i hz;cases hi:P.info? T with
   |none=>simp[Program.underlying,hi]at hd
   |some i=>
    have hc:P.cellsOf T=i.size:=by simp[Program.cellsOf,hi]
    refine⟨i,d,rfl,hd,hc,?_⟩;rw[hc]at hz;exact Nat.pos_of_ne_zero hz
 .cases h
theorem KF{P:Program}{T:TypeId}{d:TypeDesc}(h:P.underlying T=some d)(w:World):(isAgg T).run P w= .ok (wK P T) w:=by
 unfold isAgg wK;rw[Sem.run_bind,run_underlying h w,h];cases d<;>rfl
theorem run_sizeOf{P:Program}{T:TypeId}{i:TypeInfo}(h:P.info? T=some i)(w:World):(sizeOf T).run P w= .ok i.size w:=by
 simp[sizeOf,typeInfo,program,Sem.run,h]
theorem uF{P:Program}{T:TypeId}{w:World}{b off:Nat}{cs:List Value}(hT:fO P T=true)(hlen:cs.length=P.cellsOf T)
 (hc:∀j v,cs[j]? =some v->w.cell? ⟨b,off+j,none⟩=some v):(loadVar T ⟨b,off,none⟩).run P w= .ok (XC P T cs) w:=by
 obtain⟨i,d,hi,hd,hcs,hpos⟩:=eH hT;rw[hcs]at hlen;unfold loadVar;rw[Sem.run_bind,KF hd];simp only[Result.andThen_ok];unfold XC;cases hagg:wK P T with
 |true=>
  have hl:(loadCells ⟨b,off,none⟩ cs.length).run P w= .ok cs.toArray w:=
   run_loadCells_list (P:=P) w ⟨b,off,none⟩ cs (λj v hv=>by rw[Addr.add_none];exact hc j v hv)
  simp[run_sizeOf hi, <-hlen,hl]
 |false=>
  cases cs with
  |nil=>simp at hlen;omega
  |cons v r=>
   have h0:=hc 0 v rfl;simp only[Nat.add_zero]at h0;simp[load,Sem.run,h0]
theorem DX{P:Program}{T:TypeId}{ats:List At}{cs:List Value}(h:fH ι ats cs):Den ι (mk P T ats) (XC P T cs):=by
 unfold mk XC;cases wK P T with
 |true=>exact⟨cs.toArray,rfl,by simpa using h⟩
 |false=>
  cases ats with
  |nil=>exact trivial
  |cons x r=>
   cases cs with
   |nil=>exact h.elim
   |cons v l=>
    cases r with
    |nil=>exact h.1
    |cons y r=>exact trivial
theorem qN(hM:aG B ι σ a w){k:Nat}{T:TypeId}{cs:List At}{p:Option Nat}(hk:nth σ.own k=some (some (.cellsP p T cs))):
 ∃b vs,ι k= .pointer (some ⟨b,0,none⟩)/\w.heap[b]? =some (.cells vs T (0,0))/\fH ι cs vs.toList:=
 let⟨b,vs,h1,h2,h3,_⟩:=hM.own k _ hk;⟨b,vs,h1,h2,h3⟩
theorem Sw(hM:aG B ι σ a w){k q:Nat}{T:TypeId}{cs:List At}(hk:nth σ.own k=some (some (.cellsP (some q) T cs))):ι k= .pointer (some ⟨q,0,none⟩):=by
 obtain⟨b,vs,h1,_,_,h4⟩:=hM.own k _ hk;rw[h1,h4 q rfl]
theorem cell_of_heap{w:World}{b o:Nat}{vs:Array Value}{T:TypeId}{fz:Nat×Nat}(h:w.heap[b]? =some (.cells vs T fz)):w.cell? ⟨b,o,none⟩=vs.toList[o]? :=by
 simp[World.cell?,h]
theorem sK{vs:List Value}{off n j:Nat}{v:Value}(h:((vs.drop off).take n)[j]? =some v):vs[off+j]? =some v:=by
 rw[List.getElem?_take]at h;split at h
 .rw[List.getElem?_drop]at h;exact h
 .cases h
theorem z7(hw:qS B σ.m σ.h w){b off:Nat}{l:List Value}(h:aI σ.m σ.h b off l):∀j v,l[j]? =some v->w.cell? ⟨b,off+j,none⟩=some v:=by
 intro j v hv;cases h with
 |imm hr=>exact hw.hsat _ _ _ (hr.rd j v hv)
 |lent cs E fz hm hl=>
  rw[cell_of_heap (hw.msat _ _ hm)];rw[<-hl]at hv;exact sK hv
theorem nK{xs:List (List Value)}{sz i:Nat}{e:List Value}(hlen:∀e∈xs,e.length=sz)(hi:xs[i]? =some e)(j:Nat)(v:Value)(hj:e[j]? =some v):
 xs.flatten[i*sz+j]? =some v:=by
 induction xs generalizing i with
 |nil=>simp at hi
 |cons x r ih=>
  have hx:x.length=sz:=hlen x (by simp);cases i with
  |zero=>
   simp at hi;subst hi;simp only[List.flatten_cons,Nat.zero_mul,Nat.zero_add];rw[List.getElem?_append_left (by rcases List.getElem?_eq_some_iff.1 hj with⟨h,_⟩;exact h)];exact hj
  |succ i=>
   simp only[List.getElem?_cons_succ]at hi;simp only[List.flatten_cons];rw[List.getElem?_append_right (by rw[hx,Nat.succ_mul];omega),hx,show(i+1)*sz+j-sz=i*sz+j by rw[Nat.succ_mul];omega];exact ih (λe he=>hlen e (by simp[he])) hi
theorem mV(hM:aG B ι σ a w){k:Nat}{E sz:Nat}{xs:List (List Value)}(hk:nth σ.own k=some (some (.lst E sz xs))):
 dU sz xs/\w.ownsRow 0 E sz (ι k) xs.length xs.flatten:=hM.own k _ hk
theorem Qn(hM:aG B ι σ a w){T:TypeId}{x:Operand}(ho:o.op= .load T x)(h:Qo C o T x σ K):NF C ι o σ K a w:=by
 have hrun:∀(b off:Nat)(cs:List Value),a.eval x= .pointer (some ⟨b,off,none⟩)->fO C.P T=true->cs.length=C.P.cellsOf T->(∀j v,cs[j]? =some v->w.cell? ⟨b,off+j,none⟩=some v)->
  ∀w'',(u6 C.P o=false\/w''=w)->(execOp a.eval o).run C.P w''= .ok (.value (XC C.P T cs)) w'':=by
  intro b off cs hx hT hl hc w'' hw;have hw:w''=w:=hw.resolve_left (by simp[u6,ho]);subst hw;have:=uF hT hl hc;unfold execOp;simp only[ho,hx,Instr.loadAt,Instr.sureAddr,Sem.run_bind,Sem.run_pure,Result.andThen_ok,this]
 have hev:=hM.ev x;unfold Qo at h;split at h
 .exact h.elim
 .rename_i hT;split at h
  .rename_i k off hx;rw[hx]at hev;split at h
   .rename_i p T' cs hk;split at h
    .rename_i hle;obtain⟨b,vs,hι,hh,hd⟩:=qN hM hk;obtain⟨b',hb',hp⟩:=hev;rw[hι]at hb';simp only[Value.pointer.injEq,Option.some.injEq,Addr.mk.injEq]at hb';obtain⟨rfl, -, -⟩:=hb';have hd':=(hd.drop off).take (C.P.cellsOf T);refine⟨_,_,hrun b off ((vs.toList.drop off).take (C.P.cellsOf T)) hp hT ?_ ?_,DX hd',h⟩
     .rw[<-hd'.length];have:=Nat.le_of_ble_eq_true hle;simp;omega
     .intro j v hv;rw[cell_of_heap hh];exact sK hv
    .exact h.elim
   .exact h.elim
  .rename_i k i sz off hx;rw[hx]at hev;split at h
   .rename_i E s xs hk;split at h
    .rename_i hs;have hs:=Nat.eq_of_beq_eq_true hs;subst hs;obtain⟨e,he,y,hy,h⟩:=h;split at h
     .rename_i hlen;obtain⟨hrows,hown⟩:=mV hM hk;obtain⟨b,n,c,hι,hp⟩:=hev;refine⟨_,_,hrun b _ _ hp hT (Nat.eq_of_beq_eq_true hlen) ?_,DX (fH.vals.2 rfl),h⟩;intro j v hv;rw[<-hy]at hv;have hv':=sK hv;have hf:=nK hrows.len he _ _ hv';have:=hown.cells (g:=b) (by rw[hι];rfl) _ _ hf;rw[Addr.add_none]at this;rw[<-this];congr 1;simp only[Addr.mk.injEq,and_true,true_and];omega
     .exact h.elim
    .exact h.elim
   .exact h.elim
  .rename_i b off hx;rw[hx]at hev;obtain⟨y,hy,h⟩:=h;split at h
   .rename_i hlen;exact⟨_,_,hrun b off _ hev hT (Nat.eq_of_beq_eq_true hlen) (z7 hM.wrel hy),DX (fH.vals.2 rfl),h⟩
   .exact h.elim
  .exact h.elim
theorem I0(hM:aG B ι σ a w){x:Operand}(ho:o.op= .move x\/o.op= .assign x)(h:K (σ.put o.dst (σ.ev x))):NF C ι o σ K a w:=by
 refine⟨a.eval x,σ.ev x,λw'' _=>?_,hM.ev x,h⟩;rcases ho with ho|ho<;>simp[execOp,ho]
theorem nN{c:Bool}{A D:Prop}(h:branch c A D):(c=true/\A)\/(c=false/\D):=by
 cases c
 .exact .inr ⟨rfl,h⟩
 .exact .inl ⟨rfl,h⟩
theorem Qg(hM:aG B ι σ a w){c x y:Operand}(ho:o.op= .pick c x y)(h:Qh o c x y σ K):NF C ι o σ K a w:=by
 have hev:=hM.ev c;unfold Qh at h;split at h
 .rename_i t hc;rw[hc]at hev;have hev:a.eval c= .bool t:=hev;rcases nN h with⟨rfl,h⟩|⟨rfl,h⟩
  .exact⟨a.eval x,σ.ev x,λw'' _=>by simp[execOp,ho,hev,asBool],hM.ev x,h⟩
  .exact⟨a.eval y,σ.ev y,λw'' _=>by simp[execOp,ho,hev,asBool],hM.ev y,h⟩
 .exact h.elim
theorem Fk{P:Program}{T f g T':Nat}(h:Fl P T f=some (g,T')):∃fs Kd,P.underlying T=some (.struct fs)/\fs[f]? =some Kd/\Kd.offset=g/\Kd.type=T'/\P.cellsOf T'≠0:=by
 unfold Fl at h;split at h
 .rename_i fs hfs;split at h
  .rename_i Kd hfld;split at h
   .cases h
   .rename_i hz;simp only[Option.some.injEq,Prod.mk.injEq]at h;obtain⟨rfl,rfl⟩:=h;rw[fV,Array.getElem?_toList]at hfld;exact⟨fs,Kd,hfs,hfld,rfl,rfl,λe=>by rw[e]at hz;simp at hz⟩
  .cases h
 .cases h
theorem Oi{P:Program}{T f g T':Nat}(h:Fl P T f=some (g,T'))(w:World)(b off:Nat):
 (Instr.fieldAt T (.pointer (some ⟨b,off,none⟩)) f).run P w= .ok (.pointer (some ⟨b,off+g,none⟩)) w:=by
 obtain⟨fs,Kd,hu,hf,rfl,rfl,hz⟩:=Fk h;cases hi:P.info? Kd.type with
 |none=>simp[Program.cellsOf,hi]at hz
 |some i=>
  have hz':i.size≠0:=by simpa[Program.cellsOf,hi]using hz
  simp[Instr.fieldAt,run_underlying hu,hf,Instr.sureAddr,fieldPlace,run_sizeOf hi,hz',Addr.add_none]
theorem Hx(hM:aG B ι σ a w){T f:Nat}{x:Operand}(ho:o.op= .fieldAddr T x f)(h:BT C o T x f σ K):NF C ι o σ K a w:=by
 have hev:=hM.ev x;unfold BT at h;split at h
 .exact h.elim
 .rename_i g T' hf
  have hrun:∀b off,a.eval x= .pointer (some ⟨b,off,none⟩)->∀w'',(u6 C.P o=false\/w''=w)->(execOp a.eval o).run C.P w''= .ok (.value (.pointer (some ⟨b,off+g,none⟩))) w'':=by
   intro b off hx w'' _;unfold execOp;simp only[ho,hx,Sem.run_bind,Oi hf,Result.andThen_ok,Sem.run_pure]
  split at h
  .rename_i k off hx;rw[hx]at hev;obtain⟨b,hb,hp⟩:=hev;exact⟨_,.at (.ptr k (off+g)),hrun b off hp,⟨b,hb,rfl⟩,h⟩
  .rename_i k i sz off hx;rw[hx]at hev;obtain⟨b,n,c,hb,hp⟩:=hev;exact⟨_,.at (.el k i sz (off+g)),hrun b _ hp,⟨b,n,c,hb,by rw[Nat.add_assoc]⟩,h⟩
  .rename_i b off hx;rw[hx]at hev;exact⟨_,.at (.val _),hrun b off hev,rfl,h⟩
  .exact h.elim
theorem IM(hM:aG B ι σ a w){x:Operand}(ho:o.op= .nilCheck x)(h:DH o x σ K):NF C ι o σ K a w:=by
 have hev:=hM.ev x
 have hrun:∀ad,a.eval x= .pointer (some ad)->∀w'',(u6 C.P o=false\/w''=w)->(execOp a.eval o).run C.P w''= .ok (.value (.pointer (some ad))) w'':=by
  intro ad hx w'' _;unfold execOp;simp[ho,hx]
 unfold DH at h;split at h
 .rename_i k off hx;rw[hx]at hev;obtain⟨b,hb,hp⟩:=hev;exact⟨_,.at (.ptr k off),hrun _ hp,⟨b,hb,rfl⟩,h⟩
 .rename_i k i sz off hx;rw[hx]at hev;obtain⟨b,n,c,hb,hp⟩:=hev;exact⟨_,.at (.el k i sz off),hrun _ hp,⟨b,n,c,hb,rfl⟩,h⟩
 .rename_i ad hx;rw[hx]at hev;exact⟨_,.at (.val _),hrun _ hev,rfl,h⟩
 .exact h.elim
end
end Go.Vc
namespace Go.Vc
open Go
section
variable{B:mH}{C:Ctx}{ι:Nat->Value}{σ:St}{a:Act}{w:World}{o:Oper}{K:St->Prop}
theorem vZ(hone:∀k,(ι k).oneCell'=true){x:SV}{v:Value}{cs:List At}(h:Den ι x v)(hc:x.cells? =some cs):fH ι cs v.cells.toList:=by
 have one:∀u:Value,u.oneCell'=true->u.cells= #[u]:=λu hu=>by cases u<;>first|rfl|(simp[Value.oneCell']at hu)
 cases x with
 |agg l=>
  simp only[SV.cells?,Option.some.injEq]at hc;subst hc;obtain⟨us,rfl,hd⟩:=h;exact hd
 |tup xs=>simp[SV.cells?]at hc
 |_ y=>
  cases y with
  |val u=>
   have h:v=u:=h;subst h;cases v<;>simp only[SV.cells?,Option.some.injEq,reduceCtorEq]at hc<;>subst hc<;>first|exact⟨rfl,trivial⟩|skip
   exact fH.vals.2 rfl
  |junk=>simp[SV.cells?]at hc
  |ptr k off=>
   simp only[SV.cells?,Option.some.injEq]at hc;subst hc;obtain⟨b,hb,rfl⟩:=h;exact⟨⟨b,hb,rfl⟩,trivial⟩
  |lst k=>
   simp only[SV.cells?,Option.some.injEq]at hc;subst hc;have h:v=ι k:=h;rw[one v (by rw[h];exact hone k)];exact⟨h,trivial⟩
  |el k i sz off=>
   simp only[SV.cells?,Option.some.injEq]at hc;subst hc;obtain⟨b,n,c,hb,rfl⟩:=h;exact⟨⟨b,n,c,hb,rfl⟩,trivial⟩
theorem run_indexAt_slice{P:Program}{T E:TypeId}(hu:P.underlying T=some (.slice E))(hE:fO P E=true)(w:World)(b off len cap:Nat)(k:IntKind)(n:Int)(h0:0<=n)(h1:n<(len:Int)):
 (Instr.indexAt T (.slice (some ⟨b,off,none⟩) len cap) (.int k n)).run P w= .ok (.pointer (some ⟨b,off+n.toNat*P.cellsOf E,none⟩)) w:=by
 obtain⟨i,d,hi,hd,hc,hpos⟩:=eH hE;rw[hc];simp[Instr.indexAt,asIntOf,run_underlying hu,h0,h1,run_sizeOf hi,Addr.add_none]
theorem run_indexAt_array{P:Program}{T E len:Nat}(hu:P.underlying T=some (.array len E))(hE:fO P E=true)(w:World)(b off:Nat)(k:IntKind)(n:Int)(h0:0<=n)(h1:n<(len:Int)):
 (Instr.indexAt T (.pointer (some ⟨b,off,none⟩)) (.int k n)).run P w= .ok (.pointer (some ⟨b,off+n.toNat*P.cellsOf E,none⟩)) w:=by
 obtain⟨i,d,hi,hd,hc,hpos⟩:=eH hE;rw[hc];simp[Instr.indexAt,asIntOf,run_underlying hu,Instr.sureAddr,h0,h1,run_sizeOf hi,Addr.add_none]
theorem Hw(hM:aG B ι σ a w){T:Nat}{x i:Operand}(ho:o.op= .indexAddr T x i)(h:BM C o T x i σ K):NF C ι o σ K a w:=by
 have hev:=hM.ev x;have hevi:=hM.ev i;unfold BM at h;split at h
 .rename_i kk n hi;rw[hi]at hevi;have hevi:a.eval i= .int kk n:=hevi;split at h
  .rename_i E hu;split at h
   .rename_i hE
    have hrun:∀b off len cap,a.eval x= .slice (some ⟨b,off,none⟩) len cap->0<=n->n<(len:Int)->∀w'',(u6 C.P o=false\/w''=w)->(execOp a.eval o).run C.P w''= .ok (.value (.pointer (some ⟨b,off+n.toNat*C.P.cellsOf E,none⟩))) w'':=by
     intro b off len cap hx h0 h1 w'' _;unfold execOp;simp only[ho,hx,hevi,Sem.run_bind,run_indexAt_slice hu hE w'' b off len cap kk n h0 h1,Result.andThen_ok,Sem.run_pure]
    split at h
    .rename_i k hx;rw[hx]at hev;have hev:a.eval x=ι k:=hev;split at h
     .rename_i E' sz xs hk;split at h
      .rename_i hsz;have hsz:=Nat.eq_of_beq_eq_true hsz;obtain⟨h0,h1,h⟩:=h;obtain⟨hrows,hown⟩:=mV hM hk;rcases hown.2 with⟨hv,hn⟩|⟨g,cap,cur,hv,_⟩
       .omega
       .refine⟨_,.at (.el k n.toNat sz 0),hrun g 0 _ cap (by rw[hev,hv]) h0 h1,⟨g,_,cap,hv,?_⟩,h⟩;rw[hsz];simp
      .exact h.elim
     .exact h.elim
    .rename_i ad len cap hx;rw[hx]at hev;obtain⟨b,off,rfl,h0,h1,h⟩:=h;exact⟨_,.at (.val _),hrun b off len cap hev h0 h1,rfl,h⟩
    .exact h.elim
   .exact h.elim
  .rename_i len E hu;split at h
   .rename_i hE
    have hrun:∀b off,a.eval x= .pointer (some ⟨b,off,none⟩)->0<=n->n<(len:Int)->∀w'',(u6 C.P o=false\/w''=w)->(execOp a.eval o).run C.P w''= .ok (.value (.pointer (some ⟨b,off+n.toNat*C.P.cellsOf E,none⟩))) w'':=by
     intro b off hx h0 h1 w'' _;unfold execOp;simp only[ho,hx,hevi,Sem.run_bind,run_indexAt_array hu hE w'' b off kk n h0 h1,Result.andThen_ok,Sem.run_pure]
    split at h
    .rename_i k off hx;rw[hx]at hev;obtain⟨b,hb,hp⟩:=hev;obtain⟨h0,h1,h⟩:=h;exact⟨_,.at (.ptr k (off+n.toNat*C.P.cellsOf E)),hrun b off hp h0 h1,⟨b,hb,rfl⟩,h⟩
    .rename_i b off hx;rw[hx]at hev;obtain⟨h0,h1,h⟩:=h;exact⟨_,.at (.val _),hrun b off hev h0 h1,rfl,h⟩
    .exact h.elim
   .exact h.elim
  .exact h.elim
 .exact h.elim
theorem UK(hM:aG B ι σ a w){op:BinOp}{tx ty:Nat}{x y:Operand}(ho:o.op= .binOp op tx x y ty)(h:S2 o op x y σ K):NF C ι o σ K a w:=by
 have hx:=hM.ev x;have hy:=hM.ev y;unfold S2 at h;split at h
 .rename_i k n k' m hxx hyy;rw[hxx]at hx;rw[hyy]at hy;have hx:a.eval x= .int k n:=hx;have hy:a.eval y= .int k' m:=hy;split at h
  .rename_i hk;have hk:k=k':=of_decide_eq_true hk;subst hk;obtain⟨hm,h⟩:=h;split at h
   .exact⟨_,.at (.val _),λw'' _=>by unfold execOp;simp[ho,hx,hy,eqGuard,binOp,Op.intDiv,hm],rfl,h⟩
   .exact⟨_,.at (.val _),λw'' _=>by unfold execOp;simp[ho,hx,hy,eqGuard,binOp,Op.intDiv,hm],rfl,h⟩
   .exact h.elim
  .exact h.elim
 .exact h.elim
theorem Np(hM:aG B ι σ a w){tx ty:Nat}{x y:Operand}(ho:o.op= .binOp .add tx x y ty)(h:JP C o x y σ K):NF C ι o σ K a w:=by
 have hx:=hM.ev x;have hy:=hM.ev y;unfold JP at h;split at h
 .rename_i s t hxx hyy;rw[hxx]at hx;rw[hyy]at hy;have hx:a.eval x= .string s:=hx;have hy:a.eval y= .string t:=hy;obtain⟨hm,h⟩:=h
  have hm':¬((s.size+t.size:Nat):Int)>IntKind.i64.max:=by
   have:IntKind.i64.max=9223372036854775807:=by decide
   omega
  exact⟨_,.at (.val _),λw'' _=>by unfold execOp;simp only[ho,hx,hy,eqGuard,binOp,Op.stringOp,if_neg hm'];simp,rfl,h⟩
 .exact iW hM (λcs b=>by rw[ho];intro e;cases e) h
theorem Bl(hM:aG B ι σ a w){neg:Bool}{tx ty:Nat}{x y:Operand}(ho:o.op= .binOp (match neg with|true=>.neq|false=>.eql) tx x y ty)(h:zX C o neg tx x y σ K):NF C ι o σ K a w:=by
 unfold zX at h;split at h
 .rename_i xs ys hxx hyy;have hx:a.eval x= .agg xs:=(hM.ev x).val? hxx;have hy:a.eval y= .agg ys:=(hM.ev y).val? hyy;obtain⟨r,hr,h⟩:=h;refine⟨_,.at (.val _),λw'' _=>?_,rfl,h⟩;cases neg
  .unfold execOp;simp[ho,hx,hy,run_eqGuard_agg _ _ _ _ _ _ _ hr.guard,run_eql_struct,hr.eq w'']
  .unfold execOp;simp[ho,hx,hy,run_eqGuard_agg _ _ _ _ _ _ _ hr.guard,run_neq_struct,hr.eq w'']
 .exact h.elim
theorem SL(off:Nat):∀(l:List Value)(s:Nat)(cs:Array Value),off+s+l.length<=cs.size->
 ((l.zipIdx s).foldl (λcs x=>cs.setIfInBounds (off+x.2) x.1) cs).toList=splice cs.toList (off+s) l
 |[],s,cs,_=>by simp[splice]
 |v::l,s,cs,h=>by
  simp only[List.length_cons]at h;simp only[List.zipIdx_cons,List.foldl_cons];have:=SL off l (s+1) (cs.setIfInBounds (off+s) v) (by simp;omega);rw[this];simp only[Array.toList_setIfInBounds,splice,List.length_cons];exact list_seg_step cs.toList (off+s) v l (by simp;omega)
theorem K3{place:Nat->Option (Nat×Nat)}{cells:Array Value}{i off size:Nat}{v:Value}{rest:List (Nat×Value)}(hp:place i=some (off,size))(hs:v.cells.size=size)(hle:off+v.cells.size<=cells.size):
 Instr.fill place cells ((i,v)::rest)=Instr.fill place (splice cells.toList off v.cells.toList).toArray rest:=by
 have hf:=SL off v.cells.toList 0 cells (by simpa using hle);simp only[Nat.add_zero]at hf;simp only[Instr.fill,hp];rw[if_neg (by simp;omega)];congr 1;apply Array.toList_inj.1;rw[<-hf];rw[<-Array.foldl_toList];simp
theorem Dn{α:Type}(cs new:List α)(off:Nat)(h:off+new.length<=cs.length):(splice cs off new).length=cs.length:=by
 unfold splice;simp;omega
theorem u3(hM:aG B ι σ a w)(place:Nat->Option (Nat×Nat)){P:Program}{T:TypeId}(hplace:∀i r,partAt P T i=some r->place i=some r):
 ∀(parts:List (Nat×Operand))(cs:List At)(cells:Array Value)(out:List At),fH ι cs cells.toList->zJ P T σ parts cs=some out->
  ∃r,Instr.fill place cells (parts.map λp=>(p.1,a.eval p.2))=some r/\fH ι out r.toList
 |[],cs,cells,out,hd,h=>by
  simp[zJ]at h;subst h;exact⟨cells,rfl,hd⟩
 |(i,x)::parts,cs,cells,out,hd,h=>by
  simp only[zJ]at h;split at h
  .rename_i off size new hp hnew;split at h
   .rename_i hl hle;have hl:=Nat.eq_of_beq_eq_true hl;have hle:=Nat.le_of_ble_eq_true hle;have hdn:=vZ hM.one (hM.ev x) hnew;have hsz:(a.eval x).cells.size=size:=by have:=hdn.length;simp at this;omega
    have hcs:=hd.length;simp at hcs;have:=u3 hM place hplace parts (splice cs off new) (splice cells.toList off (a.eval x).cells.toList).toArray out (by simpa using hd.splice off hdn) h;obtain⟨r,hr,hdr⟩:=this;refine⟨r,?_,hdr⟩;simp only[List.map_cons];rw[K3 (hplace i _ hp) hsz aC];exact hr
   .cases h
  .cases h
theorem v7{P:Program}{T:TypeId}{z:List Value}(h:zeroCells P T=some z):∃i v,P.info? T=some i/\i.zero=some v/\z=v.cells.toList:=by
 unfold zeroCells at h;split at h
 .rename_i i hi;split at h
  .rename_i v hv;simp at h;exact⟨i,v,hi,hv,h.symm⟩
  .cases h
 .cases h
theorem G4{P:Program}:∀(fs:List Field),(fs.all λf=>(P.info? f.type).isSome)=true->
 ∃pl,fs.mapM (λf=>(P.info? f.type).map λi=>(f.offset,i.size))=some pl/\pl.length=fs.length/\∀(i:Nat)(g:Field),fs[i]? =some g->pl[i]? =some (g.offset,P.cellsOf g.type)
 |[],_=>⟨[],by simp,rfl,λi g h=>by simp at h⟩
 |f::fs,h=>by
  simp only[List.all_cons,Bool.and_eq_true]at h;obtain⟨pl,hpl,hlen,hget⟩:=G4 fs h.2;cases hi:P.info? f.type with
  |none=>simp[hi]at h
  |some i=>
   refine⟨(f.offset,i.size)::pl,?_,by simp[hlen],?_⟩
   .simp[List.mapM_cons,hi,hpl]
   .intro j g hg;cases j with
    |zero=>simp at hg;subst hg;simp[Program.cellsOf,hi]
    |succ j=>simp at hg⊢;exact hget j g hg
theorem PN(hM:aG B ι σ a w){T:Nat}{ps:Array (Nat×Operand)}(ho:o.op= .build T ps)(h:Ns C o T ps.toList σ K):NF C ι o σ K a w:=by
 unfold Ns at h;split at h
 .rename_i z hz;split at h
  .rename_i cs hcs hk;obtain⟨it,v,hit,hv,rfl⟩:=v7 hz
   have key:∃r,C.P.built T ((ps.map λp=>(p.1,a.eval p.2)).toList)=some r/\fH ι cs r.toList:=by
    unfold IC at hk;have hd0:fH ι (v.cells.toList.map .val) v.cells.toList:=fH.vals.2 rfl;split at hk
    .rename_i fs hu;obtain⟨pl,hpl,hlen,hget⟩:=G4 fs.toList hk
     have hplace:∀i r,partAt C.P T i=some r->pl.toArray[i]? =some r:=by
      intro i r hr;unfold partAt at hr;simp only[hu]at hr;split at hr
      .rename_i g hg;rw[fV]at hg;simp at hr;subst hr;simpa using hget i g hg
      .cases hr
     obtain⟨r,hr,hdr⟩:=u3 hM (λi=>pl.toArray[i]?) hplace ps.toList _ v.cells cs hd0 hcs;refine⟨r,?_,hdr⟩;unfold Program.built;simp only[hit,hu,hv,hpl];simpa using hr
    .rename_i n E hu;cases hie:C.P.info? E with
     |none=>simp[hie]at hk
     |some ie=>
      have hplace:∀i r,partAt C.P T i=some r->(λi=>some (i*ie.size,ie.size)) i=some r:=by
       intro i r hr;unfold partAt at hr;simp only[hu,Program.cellsOf,hie]at hr;simpa using hr
      obtain⟨r,hr,hdr⟩:=u3 hM (λi=>some (i*ie.size,ie.size)) hplace ps.toList _ v.cells cs hd0 hcs;refine⟨r,?_,hdr⟩;unfold Program.built;simp only[hit,hu,hv,hie];simpa using hr
    .cases hk
   obtain⟨r,hr,hdr⟩:=key;refine⟨.agg r,.agg cs,λw'' _=>?_,⟨r,rfl,hdr⟩,h⟩;unfold execOp;simp only[ho,Sem.run_bind,run_build w'' T _ r hr,Result.andThen_ok,Sem.run_pure]
  .exact h.elim
 .exact h.elim
theorem TH(hM:aG B ι σ a w){x:Operand}{c:Call}(ho:o.op= .call c)(hc:c.callee= .builtin .len)(hx:c.args.toList=[x])
 (h:VD C o x c.argTypes.toList σ K):NF C ι o σ K a w:=by
 unfold VD at h;split at h
 .rename_i k hk;split at h
  .rename_i E sz xs hown hsl
   have hts:∃t E,c.argTypes[0]? =some t/\C.P.underlying t=some (.slice E):=by
    unfold OP at hsl;split at hsl
    .rename_i t r ht;split at hsl
     .rename_i E hE;exact⟨t,E,by rw[<-Array.getElem?_toList,ht];rfl,hE⟩
     .cases hsl
    .cases hsl
   obtain⟨t,E',ht,hu⟩:=hts;have hev:=hM.ev x;rw[hk]at hev;have hev:a.eval x=ι k:=hev;obtain⟨hrows,hrow⟩:=mV hM hown;have hargs:c.args= #[x]:=by apply Array.toList_inj.1;simpa using hx
   refine⟨.int .i64 xs.length,.at (.val _),λw'' _=>?_,rfl,h⟩;rcases hrow.2 with⟨hv,hn⟩|⟨g,cap,cur,hv,_⟩
   .unfold execOp;simp[ho,resolve,hc,invoke,builtin,Builtin.len_,hargs,ht,hev,hv,run_underlying hu,goInt,hn]
   .unfold execOp;simp[ho,resolve,hc,invoke,builtin,Builtin.len_,hargs,ht,hev,hv,run_underlying hu,goInt]
  .exact h.elim
 .exact iW hM (λcs b=>by rw[ho];intro e;cases e) h
theorem Oh{P:Program}{T:TypeId}{cs:Array Value}{off:Nat}(hT:fO P T=true)(hle:off+P.cellsOf T<=cs.size)(w:World):
 (part T cs off).run P w= .ok (XC P T ((cs.toList.drop off).take (P.cellsOf T))) w:=by
 obtain⟨i,d,hi,hd,hc,hpos⟩:=eH hT;unfold part XC;rw[Sem.run_bind,KF hd];simp only[Result.andThen_ok];rw[hc]at hle⊢
 cases wK P T with
 |true=>
  simp only[if_true,Sem.run_bind,run_sizeOf hi,Result.andThen_ok,Sem.run_pure];congr 2;apply Array.toList_inj.1;simp[List.extract_eq_take_drop]
 |false=>
  have hlt:off<cs.size:=by omega
  have hne:(cs.toList.drop off)=cs[off]::cs.toList.drop (off+1):=by
   rw[<-List.getElem_cons_drop (by simpa using hlt)];simp
  simp only[Bool.false_eq_true,if_false,Array.getElem?_eq_getElem hlt];rw[hne];cases hsz:i.size with
  |zero=>omega
  |succ n=>simp
theorem O3(hM:aG B ι σ a w){T f:Nat}{x:Operand}(ho:o.op= .field T x f)(h:Nf C o T x f σ K):NF C ι o σ K a w:=by
 unfold Nf at h;split at h
 .rename_i g T' cs hf hcs hagg;split at h
  .rename_i hle;simp only[Bool.and_eq_true]at hle;have hle1:=Nat.le_of_ble_eq_true hle.1;have hd:=vZ hM.one (hM.ev x) hcs;obtain⟨fs,Kd,hu,hfl,rfl,rfl,hz⟩:=Fk hf
   have hv:∃us,a.eval x= .agg us:=by
    have hev:=hM.ev x;split at hagg
    .rename_i l hl;rw[hl]at hev;obtain⟨us,e,_⟩:=hev;exact⟨us,e⟩
    .rename_i us hl;rw[hl]at hev;exact⟨us,hev⟩
    .cases hagg
   obtain⟨us,hus⟩:=hv;rw[hus]at hd;have hd:fH ι cs us.toList:=hd;have hlen:cs.length=us.size:=by have:=hd.length;simpa using this
   have hle2:Kd.offset+C.P.cellsOf Kd.type<=us.size:=by omega
   refine⟨_,_,λw'' _=>?_,DX ((hd.drop Kd.offset).take (C.P.cellsOf Kd.type)),h⟩;unfold execOp;simp only[ho,Instr.field,Sem.run_bind,run_underlying hu,Result.andThen_ok,hfl,hus,asAgg,Sem.run_pure,Oh hle.2 hle2 w'']
  .exact h.elim
 .exact h.elim
theorem Fs:∀{xs:List (Sum At (List At))}{vs:List Value}(_:Ka ι xs vs)(i:Nat)(y:Sum At (List At)),xs[i]? =some y->∃v,vs[i]? =some v/\Den ι (match y with|.inl x=>.at x|.inr cs=>.agg cs) v
 |[],[],_,i,y,hy=>by simp at hy
 |.inl x::_,v::_,h,0,y,hy=>by simp at hy;subst hy;exact⟨v,rfl,h.1⟩
 |.inr cs::_,v::_,h,0,y,hy=>by simp at hy;subst hy;exact⟨v,rfl,h.1⟩
 |.inl _::_,_::_,h,i+1,y,hy=>by simp at hy⊢;exact Fs h.2 i y hy
 |.inr _::_,_::_,h,i+1,y,hy=>by simp at hy⊢;exact Fs h.2 i y hy
 |[],_::_,h,_,_,_=>h.elim
 |.inl _::_,[],h,_,_,_=>h.elim
 |.inr _::_,[],h,_,_,_=>h.elim
theorem Kl(hM:aG B ι σ a w){x:Operand}{i:Nat}(ho:o.op= .extract x i)(h:GC C o x i σ K):NF C ι o σ K a w:=by
 have hev:=hM.ev x;unfold GC at h;split at h
 .rename_i xs hx;rw[hx]at hev;obtain⟨us,hus,hd⟩:=hev
  have hrun:∀v,us.toList[i]? =some v->∀w'',(u6 C.P o=false\/w''=w)->(execOp a.eval o).run C.P w''= .ok (.value v) w'':=by
   intro v hv w'' _;unfold execOp;rw[Array.getElem?_toList]at hv;simp[ho,hus,Instr.extract,hv]
  split at h
  .rename_i y hy;rw[fV]at hy;obtain⟨v,hv,hd'⟩:=Fs hd i _ hy;exact⟨v,.at y,hrun v hv,hd',h⟩
  .rename_i cs hy;rw[fV]at hy;obtain⟨v,hv,hd'⟩:=Fs hd i _ hy;exact⟨v,.agg cs,hrun v hv,hd',h⟩
  .exact h.elim
 .exact iW hM (λcs b=>by rw[ho];intro e;cases e) h
theorem Ha{P:Program}{E:TypeId}{cs:List At}{n:Int}{Q:SV->Prop}:∀(f i:Nat),Nb P E cs n Q f i->(i:Int)<=n->n<((i+f:Nat):Int)->
 Q (mk P E ((cs.drop (n.toNat*P.cellsOf E)).take (P.cellsOf E)))
 |0,i,_,h0,h1=>by omega
 |f+1,i,h,h0,h1=>by
  simp only[Nb]at h;rcases nN h with⟨hb,h'⟩|⟨hb,h'⟩
  .have hn:n=(i:Int):=by simpa using hb
   have hn':n.toNat=i:=by omega
   rw[hn'];exact h'
  .have:n≠(i:Int):=by simpa using hb
   exact Ha f (i+1) h' aC aC
theorem OR(hM:aG B ι σ a w){T:Nat}{x i:Operand}(ho:o.op= .index T x i)(h:M9 C o T x i σ K):NF C ι o σ K a w:=by
 have hevi:=hM.ev i;unfold M9 at h;split at h
 .rename_i kk n len E hi hu;rw[hi]at hevi;have hevi:a.eval i= .int kk n:=hevi;split at h
  .rename_i cs hcs;split at h
   .rename_i hlen hE hagg;have hlen:=Nat.eq_of_beq_eq_true hlen;obtain⟨h0,h1,h⟩:=h;have hd:=vZ hM.one (hM.ev x) hcs
    have hv:∃us,a.eval x= .agg us:=by
     have hev:=hM.ev x;split at hagg
     .rename_i l hl;rw[hl]at hev;obtain⟨us,e,_⟩:=hev;exact⟨us,e⟩
     .rename_i us hl;rw[hl]at hev;exact⟨us,hev⟩
     .cases hagg
    obtain⟨us,hus⟩:=hv;rw[hus]at hd;have hd:fH ι cs us.toList:=hd;have hsz:cs.length=us.size:=by have:=hd.length;simpa using this
    obtain⟨it,d,hit,hdd,hc,hpos⟩:=eH hE;have hk:=Ha len 0 h aC aC;refine⟨_,_,λw'' _=>?_,DX ((hd.drop (n.toNat*C.P.cellsOf E)).take (C.P.cellsOf E)),hk⟩
    have hle:n.toNat*C.P.cellsOf E+C.P.cellsOf E<=us.size:=by
     rw[<-hsz,hlen, <-Nat.succ_mul];exact Nat.mul_le_mul_right _ aC
    have hp:=Oh hE hle w'';unfold execOp;rw[hc]at hp;simp only[ho,Instr.index,hevi,asIntOf,Sem.run_bind,Sem.run_pure,run_underlying hu,Result.andThen_ok,hus,h0,h1,and_self,if_true,run_sizeOf hit,hp,hc]
   .exact h.elim
  .exact h.elim
 .rename_i kk n hi hu;rw[hi]at hevi;have hevi:a.eval i= .int kk n:=hevi;split at h
  .rename_i s hx;have hev:=hM.ev x;rw[hx]at hev;have hev:a.eval x= .string s:=hev;obtain⟨h0,b,hb,h⟩:=h;refine⟨_,.at (.val _),λw'' _=>?_,rfl,h⟩
   have hb':s[n.toNat]? =some b:=by
    have:s[n.toNat]? =s.data[n.toNat]? :=by
     simp only[getElem?_def];rfl
    rw[this, <-Array.getElem?_toList];exact hb
   unfold execOp;simp[ho,Instr.index,hevi,asIntOf,run_underlying hu,hev,h0,hb']
  .exact h.elim
 .exact h.elim
end
end Go.Vc
namespace Go.Vc
open Go
section
variable{B:mH}{C:Ctx}{ι:Nat->Value}{σ:St}{a:Act}{w:World}{o:Oper}{K:St->Prop}
theorem A7{P:Program}{w1:World}{src dst E E' sz:Nat}{x:Operand}{v:Value}{bs:List UInt8}(ho:o.op= .convert src dst x)(hs:P.underlying src=some (.slice E))(he:P.underlying E=some (.int .u8))(hd:P.underlying dst=some .string)
 (hev:a.eval x=v)(hrow:w1.ownsRow 0 E' sz v (bX bs).length (bX bs).flatten):(execOp a.eval o).run P w1= .ok (.value (.string ⟨bs.toArray⟩)) w1:=by
 have hlen:(bX bs).length=bs.length:=by simp[bX]
 rcases hrow.2 with⟨hv,hn⟩|⟨g,cap,cur,hv,_⟩
 .rw[hlen]at hn;have:bs=[]:=List.eq_nil_of_length_eq_zero hn;subst this;unfold execOp;simp only[ho,hev,hv,Sem.run_bind,run_convert_bytes_nil w1 src E hs he 0 0 dst hd,Result.andThen_ok,Sem.run_pure];rfl
 .have hstr:strOfNums (bs.map λb=>(b.toNat:Int))=⟨bs.toArray⟩:=by
   unfold strOfNums;congr 1;simp[Function.comp_def]
  have hcell:∀i,i<bs.length->w1.cell? ⟨g,0+i,none⟩=some (.int .u8 ((bs.map λb=>(b.toNat:Int)).getD i 0)):=by
   intro i hi
   have hf:(bX bs).flatten[i*1+0]? =some (.int .u8 (bs[i].toNat:Int)):=
    nK (sz:=1) (e:=[.int .u8 (bs[i].toNat:Int)]) (λe he=>by obtain⟨b,_,rfl⟩:=List.mem_map.1 he;rfl) (by simp[bX,hi]) 0 _ rfl
   have:=hrow.cells (g:=g) (by rw[hv];rfl) _ _ hf;rw[Addr.add_none]at this;simp only[Nat.mul_one,Nat.add_zero]at this;rw[this];simp[hi]
  have hr:=run_convert_bytes_arg (P:=P) w1 src E hs he g 0 bs.length cap (bs.map λb=>(b.toNat:Int)) (by simp) hcell dst hd;rw[hstr]at hr;unfold execOp;simp only[ho,hev,hv,hlen,Sem.run_bind,hr,Result.andThen_ok,Sem.run_pure]
theorem Kn(hM:aG B ι σ a w){src dst:Nat}{x:Operand}(ho:o.op= .convert src dst x)(h:GH C o src dst x σ K):NF C ι o σ K a w:=by
 unfold GH at h;split at h
 .rename_i k hk;split at h
  .rename_i E' sz xs E hown hs hd;split at h
   .rename_i he;obtain⟨bs,rfl,h⟩:=h;have hev:=hM.ev x;rw[hk]at hev;have hev:a.eval x=ι k:=hev;obtain⟨hrows,hrow⟩:=mV hM hown;refine⟨_,.at (.val _),λw'' hw''=>?_,rfl,h⟩;have hw'':w''=w:=hw''.resolve_left (by simp[u6,ho,hs]);rw[hw''];exact A7 ho hs he hd hev hrow
   .exact h.elim
  .exact h.elim
 .exact iW hM (λcs b=>by rw[ho];intro e;cases e) h
structure D2(σ:St)(ι:Nat->Value)(o:Oper)(w w':World):Prop where
 cells:∀k p T cs b,nth σ.own k=some (some (.cellsP p T cs))->tE σ o k=false->ι k= .pointer (some ⟨b,0,none⟩)->w'.heap[b]? =w.heap[b]?
 imm:∀b off v,σ.h b off=some v->w'.cell? ⟨b,off,none⟩=some v
 ext:uH o.op=true->∀b,b<w.heap.size->w'.heap[b]? =w.heap[b]?
 args:∀l b,mL o=some l->b<w.heap.size->σ.m b=none->(∀x∈l,∀k,(σ.ev x= .at (.lst k)\/∃off,σ.ev x= .at (.ptr k off))->blk (ι k)≠some b)->w'.heap[b]? =w.heap[b]?
def NC(B:mH)(C:Ctx)(ι:Nat->Value)(o:Oper)(σ:St)(K:St->Prop)(a:Act)(w:World):Prop:=
 ∀(next:Act->World->Prop)(Q:Exit->Act->World->Prop),(∀ι' σ' a' w',aG B ι' σ' a' w'->K σ'->D2 σ ι o w w'->next a' w')->o.wp C.P a w next Q
theorem xW(hM:aG B ι σ a w){w':World}(j:Nat)(hj:(∃p T cs,nth σ.own j=some (some (.cellsP p T cs)))->tE σ o j=true)
 (hb:∀b,b<w.heap.size->¬((∃o',nth σ.own j=some (some o'))/\blk (ι j)=some b)->w'.heap[b]? =w.heap[b]?)(hg:uH o.op=true->∀b,b<w.heap.size->w'.heap[b]? =w.heap[b]?)
 (hl:∀l,mL o=some l->∀b,b<w.heap.size->w'.heap[b]? =w.heap[b]?):D2 σ ι o w w':=by
 refine⟨?_,?_,hg,λl b h1 h2 _ _=>hl l h1 b h2⟩
 .intro k p T cs b hk ht hι;have hok:=hM.own k _ hk;have hbk:blk (ι k)=some b:=by rw[hι];rfl
  refine hb b (lI hok hbk) ?_;rintro⟨⟨o',ho'⟩,hbj⟩;have:=hM.dist k j _ _ b hk ho' hbk hbj;subst this;rw[hj ⟨p,T,cs,hk⟩]at ht;cases ht
 .intro b off v hv;have h1:=hM.wrel.hsat b off v hv;have hlt:b<w.heap.size:=World.block_lt_of_cell? w ⟨b,off,none⟩ h1
  have h2:=hb b hlt (by
   rintro⟨⟨o',ho'⟩,hbj⟩;have:=(hM.fresh j o' b ho' hbj).2.2 off;rw[hv]at this;cases this)
  rw[<-h1];exact World.cell?_of_block (w:=w) (w':=w') (a:=⟨b,off,none⟩) h2
theorem uE{d:Nat}(hd:o.dst=some d):tE σ o d=true:=by
 unfold tE;simp[hd]
theorem gU(w:World)(ob:Obj):(w.alloc ob).heap[w.heap.size]? =some ob:=by
 show(w.heap.push ob)[w.heap.size]? =_;simp
theorem dQ(w:World)(ob:Obj){b:Nat}(h:b<w.heap.size):(w.alloc ob).heap[b]? =w.heap[b]? :=by
 show(w.heap.push ob)[b]? =_;rw[Array.getElem?_push,if_neg aC]
theorem P9(S:Nat->Prop)(w:World)(ob:Obj):zM S w (w.alloc ob):=
 ⟨rfl,rfl,rfl,Nat.le_refl _,by show w.heap.size<=(w.heap.push ob).size;simp,λb hb _=>dQ w ob hb⟩
theorem Ch(hM:aG B ι σ a w){d:Nat}(hd:o.dst=some d){ob:Obj}{ow:Own}{v:Value}{x:SV}(hv:blk v=some w.heap.size)(hone:v.oneCell'=true)
 (ho:zS (upd ι d v) (w.alloc ob) v ow)(hx:Den (upd ι d v) x v)
 {next:Act->World->Prop}(hnext:∀ι' σ' a' w',aG B ι' σ' a' w'->K σ'->D2 σ ι o w w'->next a' w')
 (hK:K (((σ.kill d).setOwn d (some ow)).put (some d) x)):next (a.put o.dst v) (w.alloc ob):=by
 rw[hd];refine hnext (upd ι d v) _ _ _ ?_ hK ?_
 .refine aG.put ?_ (some d) hx;exact hM.place d ow v (P9 _ w ob) ho hone (λb hb=>by rw[hv]at hb;simp at hb;left;omega)
 .exact xW hM d (λ_=>uE hd) (λb hb _=>dQ w ob hb) (λ_ b hb=>dQ w ob hb) (λ_ _ b hb=>dQ w ob hb)
theorem PR(hM:aG B ι σ a w){T:Nat}(ho:o.op= .alloc T)(h:Nw C o T σ K):NC B C ι o σ K a w:=by
 intro next Q hnext
 unfold Nw at h;split at h
 .rename_i d z hd hz;obtain⟨it,v,hit,hv,rfl⟩:=v7 hz
  have hrun:(execOp a.eval o).run C.P w= .ok (.value (.pointer (some ⟨w.heap.size,0,none⟩))) (w.alloc (.cells v.cells T)):=by
   unfold execOp;simp[ho,Instr.alloc,zeroValue,typeInfo,hit,hv,newVar,newRow]
  unfold Oper.wp;rw[hrun,Oper.upon_value];refine Ch hM hd rfl rfl ?_ (x:=.at (.ptr d 0)) ⟨w.heap.size,by simp,rfl⟩ hnext h;exact⟨w.heap.size,v.cells,rfl,gU _ _,fH.vals.2 rfl,λ_ e=>by cases e⟩
 .exact h.elim
theorem L8(hM:aG B ι σ a w){T:Nat}{x:Operand}(ho:o.op= .box T x)(h:S7 o T x σ K):NC B C ι o σ K a w:=by
 intro next Q hnext
 unfold S7 at h;split at h
 .rename_i d cs hd hcs
  have hrun:(execOp a.eval o).run C.P w= .ok (.value (.pointer (some ⟨w.heap.size,0,none⟩))) (w.alloc (.cells (a.eval x).cells T)):=by
   unfold execOp;simp[ho,Instr.box,newVar,newRow]
  unfold Oper.wp;rw[hrun,Oper.upon_value];refine Ch hM hd rfl rfl ?_ (x:=.at (.ptr d 0)) ⟨w.heap.size,by simp,rfl⟩ hnext h;exact⟨w.heap.size,_,rfl,gU _ _,fH.sub (f:=λ_=>.junk) (λ_ _ _ _=>trivial) (vZ hM.one (hM.ev x) hcs),λ_ e=>by cases e⟩
 .exact h.elim
end
end Go.Vc
namespace Go.Vc
open Go
section
variable{B:mH}{C:Ctx}{ι:Nat->Value}{σ:St}{a:Act}{w:World}{o:Oper}{K:St->Prop}
theorem XI(hM:aG B ι σ a w){k E sz:Nat}{xs:List (List Value)}(hk:nth σ.own k=some (some (.lst E sz xs))):
 ∃(s:Sl)(h':PH),PH.le σ.h h'/\bH h' s sz xs/\ι k=s.val/\
  aG B ι {(σ.sub k (λ |.lst _=>.val s.val|_=>.junk)).setOwn k none with h:=h'} a w/\
  Fz σ {(σ.sub k (λ |.lst _=>.val s.val|_=>.junk)).setOwn k none with h:=h'}:=by
 obtain⟨hrows,hown⟩:=mV hM hk;have hnc:∀p T cs,nth σ.own k≠some (some (.cellsP p T cs)):=λp T cs e=>by rw[hk]at e;cases e
 have hsub:∀(s:Sl),ι k=s.val->aG B ι ((σ.sub k (λ |.lst _=>.val s.val|_=>.junk)).setOwn k none) a w:=by
  intro s hs
  have:=hM.drop k (ι k) (hM.one k) (λ |.lst _=>.val s.val|_=>.junk) (by
   intro x v hx hd;cases x<;>simp only[At.key,Option.some.injEq,reduceCtorEq]at hx
   case ptr=>trivial
   case el=>trivial
   case lst j=>
    subst hx;have hd:v=ι j:=hd;show v=s.val;rw[hd,hs])
  rwa [D7]at this
 rcases hown.2 with⟨hv,hn⟩|⟨g,cap,cur,hv,_,hg,hnc',hcm,hcs,htake⟩
 .have hx:xs=[]:=List.eq_nil_of_length_eq_zero hn;refine⟨⟨none,0,0⟩,σ.h,⟨λ_ _ _ h=>h⟩,⟨by simp[hx],.inl hx,Nat.le_refl _⟩,hv,hsub _ hv,?_⟩;exact VN (m:=σ.m) (h:=σ.h) rfl (λx j o=>by cases x<;>simp) (λx j=>by cases x<;>simp) hnc (λ_ _ _ h=>h)
 .have hfr:=hM.fresh k _ g hk (by rw[hv];rfl)
  let h':PH:=λb o=>if b=g then xs.flatten[o]? else σ.h b o
  have hle:∀b o v,σ.h b o=some v->h' b o=some v:=by
   intro b o v hh;show(if b=g then _ else _)=_;rw[if_neg (λe=>by subst e;rw[hfr.2.2 o]at hh;cases hh)];exact hh
  have hs:ι k=Sl.val ⟨some ⟨g,0,none⟩,xs.length,cap⟩:=hv;refine⟨⟨some ⟨g,0,none⟩,xs.length,cap⟩,h',⟨hle⟩,⟨rfl,.inr ⟨g,0,rfl,?_⟩,hnc'⟩,hs,?_,?_⟩
  .intro i e hi;constructor;intro j v hj;show(if g=g then _ else _)=_;rw[if_pos rfl,Nat.zero_add];exact nK hrows.len hi j v hj
  .have hM1:=hsub _ hs
   have hgone:∀j o',nth ((σ.sub k (λ |.lst _=>.val (Sl.val ⟨some ⟨g,0,none⟩,xs.length,cap⟩)|_=>.junk)).setOwn k none).own j=some (some o')->blk (ι j)≠some g:=by
    intro j o' hj hb;obtain⟨hne,o1,ho1,_⟩:=lM hj;exact hne (hM.dist j k _ _ g ho1 hk hb (by rw[hv];rfl))
   refine⟨hM1.slots,hM1.defers,hM1.own,hM1.dist,?_,?_,hM1.one⟩
   .intro j o' b hj hb;obtain⟨h1,h2,h3⟩:=hM1.fresh j o' b hj hb;refine⟨h1,h2,λi=>?_⟩;show(if b=g then _ else _)=_;rw[if_neg (λe:b=g=>hgone j o' hj (by rw[<-e];exact hb))];exact h3 i
   .have hw:=hM.wrel;refine⟨hw.tape,hw.os,hw.output,hw.drawn,hw.size,hw.frame,?_,hw.msat,?_,λb o v h=>hle b o v (hw.hle b o v h),?_,hw.mfr⟩
    .intro b off v hh;have hh:(if b=g then xs.flatten[off]? else σ.h b off)=some v:=hh;by_cases e:b=g
     .subst e;rw[if_pos rfl]at hh;have:=hown.cells (g:=b) (by rw[hv];rfl) off v hh
      rwa [Addr.add_none,Nat.zero_add]at this
     .rw[if_neg e]at hh;exact hw.hsat b off v hh
    .intro b ob hm i;show(if b=g then _ else _)=_;rw[if_neg (λe=>by subst e;have:=hfr.2.1;simp only[St.setOwn,St.sub]at hm;rw[this]at hm;cases hm)];exact hw.disj b ob hm i
    .intro b hb hE;funext i;show(if b=g then _ else _)=_
     rw[if_neg (λe=>by subst e;rcases hfr.1 with h1|h1; · omega
                       .exact hE h1)]
     exact congrFun (hw.hold b hb hE) i
  .exact VN (m:=σ.m) (h:=h') rfl (λx j o=>by cases x<;>simp) (λx j=>by cases x<;>simp) hnc hle
theorem kH:∀(ks:List Nat)(σ:St),aG B ι σ a w->pE σ K ks->∃σ',aG B ι σ' a w/\K σ'/\Fz σ σ'
 |[],σ,hM,h=>⟨σ,hM,h,Fz.refl σ⟩
 |k::ks,σ,hM,h=>by
  simp only[pE]at h;split at h
  .rename_i E sz xs hk;obtain⟨s,h',hle,hrow,_,hM1,hfz⟩:=XI hM hk;obtain⟨σ',hM',hK,hfz'⟩:=kH ks _ hM1 (h s h' hle hrow);exact⟨σ',hM',hK,hfz.trans hfz'⟩
  .exact h.elim
theorem yD{P:Program}{T E:Nat}{z:List Value}(h:elemOf P T=some (E,z)):
 ∃i v,P.underlying T=some (.slice E)/\P.info? E=some i/\i.zero=some v/\z=v.cells.toList/\v.cells.size=i.size/\P.cellsOf E=i.size/\0<i.size/\∀u∈z,u.oneCell'=true:=by
 unfold elemOf at h;split at h
 .rename_i E' hu;split at h
  .rename_i z' hz;split at h
   .rename_i h1 h2 h3;simp only[Option.some.injEq,Prod.mk.injEq]at h;obtain⟨rfl,rfl⟩:=h;obtain⟨i,v,hi,hv,rfl⟩:=v7 hz;have hc:P.cellsOf E'=i.size:=by simp[Program.cellsOf,hi]
    have h1:=Nat.eq_of_beq_eq_true h1;refine⟨i,v,hu,hi,hv,rfl,by simpa[hc]using h1,hc,?_,λu hu=>(List.all_eq_true.1 h3) u hu⟩;rcases Nat.eq_zero_or_pos i.size with e|e
    .rw[hc,e]at h2;simp at h2
    .exact e
   .cases h
  .cases h
 .cases h
theorem bM{sz:Nat}:∀{xs:List (List Value)},(∀e∈xs,e.length=sz)->xs.flatten.length=xs.length*sz
 |[],_=>by simp
 |x::xs,h=>by
  rw[List.flatten_cons,List.length_append,bM (λe he=>h e (by simp[he])),h x (by simp),List.length_cons,Nat.succ_mul];omega
theorem A9(hM:aG B ι σ a w){sz:Nat}(hsz:0<sz):∀(parts:List (Nat×Operand))(es:List (List Value))(out:List (List Value)),dU sz es->zI σ sz parts es=some out->
 dU sz out/\out.length=es.length/\Instr.fill (λi=>some (i*sz,sz)) es.flatten.toArray (parts.map λp=>(p.1,a.eval p.2))=some out.flatten.toArray
 |[],es,out,hr,h=>by simp[zI]at h;subst h;exact⟨hr,rfl,rfl⟩
 |(i,x)::parts,es,out,hr,h=>by
  simp only[zI]at h;split at h
  .rename_i cs hcs;split at h
   .rename_i l hl;split at h
    .rename_i hlen hle hst;have hlen:=Nat.eq_of_beq_eq_true hlen;have hle:=Nat.le_of_ble_eq_true hle;have hd:=vZ hM.one (hM.ev x) hcs;rw[yZ hl,fH.vals]at hd
     have hone:∀u∈l,u.oneCell'=true:=by
      intro u hu;have hcs':=yZ hl;clear hd hl
      have:∀(cs:List At),nO cs=true->∀x∈cs,x.storable=true:=by
       intro cs
       induction cs with
       |nil=>intro _ x hx;cases hx
       |cons y r ih=>
        intro hs x hx;simp only[nO]at hs;split at hs
        .rename_i hy;rcases List.mem_cons.1 hx with rfl|hx
         .exact hy
         .exact ih hs x hx
        .cases hs
      have h1:=this cs hst (.val u) (by rw[hcs'];exact List.mem_map.2 ⟨u,hu,rfl⟩);cases u<;>first|rfl|(simp[At.storable]at h1)
     have hr':dU sz (es.set i l):=by
      constructor
      .intro e he;rcases List.mem_or_eq_of_mem_set he with h1|h1
       .exact hr.len e h1
       .rw[h1];exact hlen
      .intro e he;rcases List.mem_or_eq_of_mem_set he with h1|h1
       .exact hr.one e h1
       .rw[h1];exact hone
     obtain⟨h1,h2,h3⟩:=A9 hM hsz parts (es.set i l) out hr' h;refine⟨h1,by simpa using h2,?_⟩;simp only[List.map_cons]
     have hflat:∀(es:List (List Value))(i:Nat),(∀e∈es,e.length=sz)->i<es.length->splice es.flatten (i*sz) l=(es.set i l).flatten:=by
      intro es
      induction es with
      |nil=>intro i _ hi;simp at hi
      |cons e r ih=>
       intro i hlen' hi;have he:e.length=sz:=hlen' e (by simp);cases i with
       |zero=>
        simp only[splice,Nat.zero_mul,List.take_zero,List.nil_append,Nat.zero_add,List.flatten_cons,List.set_cons_zero,hlen];rw[<-he,List.drop_left]
       |succ i=>
        have:=ih i (λe he=>hlen' e (by simp[he])) (by simpa using hi);simp only[List.flatten_cons,List.set_cons_succ, <-this,splice];have e1:(i+1)*sz=e.length+i*sz:=by rw[he,Nat.succ_mul];omega
        rw[e1,List.take_length_add_append,show e.length+i*sz+l.length=e.length+(i*sz+l.length)by omega,List.drop_length_add_append];simp
     have htot:=bM hr.len;rw[K3 rfl (by rw[<-hlen, <-hd];simp) (by rw[<-Array.length_toList,hd];simp only[List.size_toArray,htot,hlen];rw[<-Nat.succ_mul];exact Nat.mul_le_mul_right _ hle),hd];rw[hflat es i hr.len aC];exact h3
    .cases h
   .cases h
  .cases h
end
end Go.Vc
namespace Go.Vc
open Go
section
variable{B:mH}{C:Ctx}{ι:Nat->Value}{σ:St}{a:Act}{w:World}{o:Oper}{K:St->Prop}
theorem Fc{z:Array Value}{sz:Nat}(hz:z.size=sz)(hs:0<sz)(n:Nat):(madeCells z (n*sz)).toList=(List.replicate n z.toList).flatten:=by
 apply List.ext_getElem?;intro j;by_cases hj:j<n*sz
 .have hq:j/sz<n:=Nat.div_lt_of_lt_mul (by rw[Nat.mul_comm];exact hj);have hm:j%sz<sz:=Nat.mod_lt _ hs;have h1:=nK (xs:=List.replicate n z.toList) (sz:=sz) (i:=j/sz) (e:=z.toList) (λe he=>by rw[List.eq_of_mem_replicate he];simpa using hz) (by simp[hq]) (j%sz) z[j%sz] (by simp[hz,hm]);rw[show j/sz*sz+j%sz=j by rw[Nat.mul_comm];exact Nat.div_add_mod j sz]at h1;rw[h1];simp[madeCells,hj,hz,hm]
 .rw[List.getElem?_eq_none,List.getElem?_eq_none]
  .rw[bM (sz:=sz) (λe he=>by rw[List.eq_of_mem_replicate he];simpa using hz)];simp;omega
  .simp[madeCells];omega
theorem lB{z:List Value}{sz:Nat}(hz:z.length=sz)(h1:∀u∈z,u.oneCell'=true)(n:Nat):dU sz (List.replicate n z):=
 ⟨λe he=>by rw[List.eq_of_mem_replicate he];exact hz,λe he=>by rw[List.eq_of_mem_replicate he];exact h1⟩
theorem Ig{τ:St}(hf:Fz σ τ){k:Nat}(h:tE σ o k=false):tE τ o k=false:=by
 have hp:∀(l:List Operand)(j:Nat),j∈kZ τ l->j∈kZ σ l:=by
  intro l
  induction l with
  |nil=>intro j hj;cases hj
  |cons x r ih=>
   intro j hj
   have hm:∀(υ:St)(j:Nat),j∈kZ υ (x::r)↔(∃off,υ.ev x= .at (.ptr j off))\/j∈kZ υ r:=by
    intro υ j;simp only[kZ];split
    .rename_i k' off hx;split
     .rename_i hc;constructor
      .exact .inr
      .rintro(⟨off',h'⟩|h')
       .rw[hx]at h';simp at h';rw[<-h'.1];simpa using hc
       .exact h'
     .constructor
      .intro h';rcases List.mem_cons.1 h' with rfl|h'
       .exact .inl ⟨off,hx⟩
       .exact .inr h'
      .rintro(⟨off',h'⟩|h')
       .rw[hx]at h';simp at h';rw[<-h'.1];exact List.mem_cons_self
       .exact List.mem_cons_of_mem _ h'
    .rename_i hx;constructor
     .exact .inr
     .rintro(⟨off',h'⟩|h')
      .exact absurd h' (hx j off')
      .exact h'
   rw[hm]at hj⊢
   rcases hj with⟨off,hj⟩|hj
   .exact .inl ⟨off,hf.ptr _ _ _ hj⟩
   .exact .inr (ih j hj)
 unfold tE at h⊢
 rw[Bool.or_eq_false_iff]at h⊢
 refine⟨h.1,?_⟩;have h2:=h.2;split at h2
 .rename_i t x v hop;split
  .rename_i j off hx;rw[hf.ptr _ _ _ hx]at h2;exact h2
  .rfl
 .rename_i c hop;split at h2
  .rename_i f hc;simp only[List.contains_eq_mem,decide_eq_false_iff_not]at h2⊢
   intro hk;exact h2 (hp _ _ hk)
  .rfl
 .rfl
theorem D2.of_fz{τ:St}{w':World}(hf:Fz σ τ)(h:D2 τ ι o w w'):D2 σ ι o w w':=
 ⟨λk p T cs b hk ht hι=>let⟨cs',hk'⟩:=hf.cells k p T cs hk;h.cells k p T cs' b hk' (Ig hf ht) hι,λb off v hv=>h.imm b off v (hf.imm b off v hv),h.ext,λl b h1 h2 h3 h4=>h.args l b h1 h2 (by rw[hf.m_];exact h3) (λx hx k hk=>h4 x hx k (hk.imp (hf.lst x k) (λ⟨off,e⟩=>⟨off,hf.ptr x k off e⟩)))⟩
theorem TE(ps:Array (Nat×Operand))(a:Act):(ps.map fun(i,x)=>(i,a.eval x)).toList=ps.toList.map λp=>(p.1,a.eval p.2):=by simp
theorem GK(hM:aG B ι σ a w){T n:Nat}{ps:Array (Nat×Operand)}(ho:o.op= .buildSlice T n ps)(h:A0 C o T n ps.toList σ K):NC B C ι o σ K a w:=by
 intro next Q hnext
 unfold A0 at h;obtain⟨τ,hMτ,h,hfz⟩:=kH _ _ hM h;split at h
 .rename_i d E z hd hE;split at h
  .rename_i es hes hle;obtain⟨it,v,hu,hi,hv,rfl,hsz,hc,hpos,hone⟩:=yD hE;rw[hc]at hes hle h;have hle:=Nat.le_of_ble_eq_true hle;obtain⟨hr,hlen,hfill⟩:=A9 hMτ hpos ps.toList _ es (lB (by simpa using hsz) hone n) hes;simp only[List.length_replicate]at hlen
   have hrun:(execOp a.eval o).run C.P w= .ok (.value (.slice (some ⟨w.heap.size,0,none⟩) n n)) (w.alloc (.cells es.flatten.toArray E)):=by
    have hb:(Instr.buildSlice T n (ps.map fun(i,x)=>(i,a.eval x))).run C.P w= .ok (.slice (some ⟨w.heap.size,0,none⟩) n n) (w.alloc (.cells es.flatten.toArray E)):=by
     by_cases hz:n*it.size=0
     .have hn:n=0:=by rcases Nat.mul_eq_zero.1 hz with h|h<;>omega
      subst hn;have:es=[]:=List.eq_nil_of_length_eq_zero hlen;subst this;simp only[List.replicate_zero,List.flatten_nil]at hfill;have hr0:Array.map (λ_:Nat=>(default:Value)) (Array.range 0)= #[]:=by simp[Array.range_zero']
      simp[Instr.buildSlice,run_underlying hu,run_sizeOf hi,newRow];rw[hr0,hfill];simp
     .refine run_buildSlice w T E n _ es.flatten.toArray it v hu hi hv aC hz ?_
      have:((Array.range (n*it.size)).map (v.cells[· %v.cells.size]!))=(List.replicate n v.cells.toList).flatten.toArray:=by
       apply Array.toList_inj.1;have:=Fc hsz hpos n;unfold madeCells at this;rw[this]
      rw[this,TE];exact hfill
    unfold execOp;simp only[ho,Sem.run_bind,hb,Result.andThen_ok,Sem.run_pure]
   unfold Oper.wp;rw[hrun,Oper.upon_value];refine Ch hMτ hd rfl rfl ?_ (x:=.at (.lst d)) (by show _=_;simp) (λι' σ' a' w' h1 h2 h3=>hnext ι' σ' a' w' h1 h2 (h3.of_fz hfz)) h;refine⟨hr,bM hr.len,.inr ⟨w.heap.size,n,es.flatten.toArray,by rw[hlen],Nat.zero_le _,gU _ _,aC,?_,?_,?_⟩⟩
   .have:n<=n*it.size:=Nat.le_mul_of_pos_right n hpos;unfold maxLen;omega
   .simp only[List.size_toArray,bM hr.len,hlen]
   .rw[List.take_of_length_le];rw[bM hr.len];exact Nat.le_refl _
  .exact h.elim
 .exact h.elim
theorem Hv(hM:aG B ι σ a w){T:Nat}{l c:Operand}(ho:o.op= .makeSlice T l c)(h:BI C o T l c σ K):NC B C ι o σ K a w:=by
 intro next Q hnext
 have hl:=hM.ev l;have hc:=hM.ev c;unfold BI at h;split at h
 .rename_i d E z kl n kc m hd hE hll hcc;rw[hll]at hl;rw[hcc]at hc;have hl:a.eval l= .int kl n:=hl;have hc:a.eval c= .int kc m:=hc;obtain⟨it,v,hu,hi,hv,rfl,hsz,hcs,hpos,hone⟩:=yD hE;obtain⟨h0,h1,h2,h3,h⟩:=h;rw[hcs]at h;have hby:C.P.bytesOf E=it.bytes:=by simp[Program.bytesOf,hi]
  rw[hby,Int.mul_comm]at h2
  have hrun:(execOp a.eval o).run C.P w= .ok (.value (.slice (some ⟨w.heap.size,0,none⟩) n.toNat m.toNat)) (w.alloc (.cells (madeCells v.cells (m.toNat*it.size)) E)):=by
   unfold execOp;simp only[ho,hl,hc,Sem.run_bind,run_make (P:=C.P) w T E it v hu hi hv kl kc n m h0 h1 h2 aC,Result.andThen_ok,Sem.run_pure]
  unfold Oper.wp;rw[hrun,Oper.upon_value];refine Ch hM hd rfl rfl ?_ (x:=.at (.lst d)) (by show _=_;simp) hnext h;have hzl:v.cells.toList.length=it.size:=by simpa using hsz
  refine⟨lB hzl hone _,bM (lB hzl hone _).len,.inr ⟨w.heap.size,m.toNat,_,by rw[List.length_replicate],Nat.zero_le _,gU _ _,?_,?_,size_madeCells _ _,?_⟩⟩
  .simp;omega
  .unfold maxLen;omega
  .rw[Fc hsz hpos]
   have hsplit:List.replicate m.toNat v.cells.toList=List.replicate n.toNat v.cells.toList++List.replicate (m.toNat-n.toNat) v.cells.toList:=by
    rw[List.replicate_append_replicate];congr 1;omega
   rw[hsplit,List.flatten_append,List.take_left'];rw[bM (lB hzl hone _).len]
 .exact h.elim
theorem qV{P:Program}(w:World)(t tx ty e:TypeId)(i:TypeInfo)(z:Value)(ht:P.underlying t=some (.slice e))(hi:P.info? e=some i)(hz:i.zero=some z)
 (hzs:z.cells.size=i.size)(v:Value)(n:Nat)(xs:List Value)(hown:w.ownsRow 0 e i.size v n xs)(x:Value)(m:Nat)(news:List Value)(hs:Src P i.size tx x m news w)
 (h63:n+m<=maxLen)(hbytes:(n+m)*i.bytes<=140737488355328):
 ∃v' w',(Builtin.append_ #[t,tx] ty #[v,x]).run P w= .ok v' w'/\w'.ownsRow 0 e i.size v' (n+m) (xs++news)/\zM (λb=>v.ownBlock=some b) w w'/\
  (∀b,v'.ownBlock=some b->w.heap.size<=b\/v.ownBlock=some b)/\v'.oneCell'=true/\
  ((∃a k c k' c',v= .slice a k c/\v'= .slice a k' c')\/∀k,k<w.heap.size->w'.heap[k]? =w.heap[k]?):=by
 have hsmall:n+m<=9223372036854775807:=by simp only[maxLen]at h63;omega
 have hl:=hs.newsLen;have hlen:(xs++news).length=(n+m)*i.size:=by rw[List.length_append,hown.1,hl,Nat.add_mul]
 have grown:∀(old:Nat),old<n+m->∀(S:Nat->Prop),
  (w.drew.alloc (.cells ((xs++news).toArray++Builtin.zeroCells z.cells (grownCap w (n+m) old e-(n+m))) e)).ownsRow 0 e i.size
   (.slice (some ⟨w.heap.size,0,none⟩) (n+m) (grownCap w (n+m) old e)) (n+m) (xs++news)/\
  zM S w (w.drew.alloc (.cells ((xs++news).toArray++Builtin.zeroCells z.cells (grownCap w (n+m) old e-(n+m))) e)):=by
  intro old ho S;have hge:=grownCap_ge w (n+m) old e;have hcm:grownCap w (n+m) old e<=maxLen:=grownCap_le_maxLen w (n+m) old e h63;refine⟨⟨hlen,.inr ⟨w.heap.size,_,_,rfl,Nat.zero_le _,heap_alloc_new w.drew _,hge,hcm,?_,?_⟩⟩,⟨rfl,rfl,rfl,Nat.le_succ _,by simp,λk hk _=>heap_alloc_old w.drew _ k hk⟩⟩
  .simp only[Array.size_append,List.size_toArray,size_zeroCells,hzs,hlen, <-Nat.add_mul];congr 1;omega
  .simp only[Array.toList_append];rw[<-hlen];exact List.take_left
 rcases hown.2 with⟨rfl,rfl⟩|⟨g,cap,cur,rfl,hbg,hg,hnc,hcm,hcs,htake⟩
 .have hx:xs=[]:=List.eq_nil_of_length_eq_zero (by simpa using hown.1);subst hx;by_cases hm:m=0
  .subst hm;have hn:news=[]:=List.eq_nil_of_length_eq_zero (by simpa using hl);subst hn;refine⟨.slice none 0 0,w,?_,World.ownsRow_nil w 0 e i.size,zM.refl _ _,λb hb=>by simp[Value.ownBlock]at hb,rfl,.inr λ_ _=>rfl⟩;rcases hs.kind with⟨e',hk⟩|hk<;>simp[Builtin.append_,run_underlying ht,run_underlying hk,sizeOf,typeInfo,hi,hs.len,hs.cells]
  .have hr:=run_append_grow_src (P:=P) w t tx ty e i z ht hi hz none 0 0 [] (by simp[Builtin.firstCells]) x m news hs aC aC (growslice_fits aC hbytes);have hgr:=grown 0 aC (λb=>Value.ownBlock (.slice none 0 0)=some b);exact⟨_,_,hr,hgr.1,hgr.2,λb hb=>by simp[Value.ownBlock]at hb;left;omega,rfl,.inr λk hk=>heap_alloc_old w.drew _ k hk⟩
 .by_cases hroom:n+m<=cap
  .have hfit:n*i.size+news.length<=cur.size:=by rw[hl,hcs, <-Nat.add_mul];exact Nat.mul_le_mul_right _ hroom
   have hst:=run_storeCells_at P g (n*i.size) e news 0 cur w hg (by simpa using hfit) hs.one;simp only[Nat.add_zero]at hst
   have hr:(Builtin.append_ #[t,tx] ty #[.slice (some ⟨g,0,none⟩) n cap,x]).run P w= .ok (.slice (some ⟨g,0,none⟩) (n+m) cap) (w.setRow g (cur.toList.take (n*i.size)++news++cur.toList.drop (n*i.size+news.length)).toArray):=by
    rcases hs.kind with⟨e',hk⟩|hk<;>simp[Builtin.append_,run_underlying ht,run_underlying hk,sizeOf,typeInfo,hi,hs.len,hroom,hs.cells,Addr.add_lit,hst]
   refine⟨_,_,hr,⟨hlen,.inr ⟨g,cap,_,rfl,hbg,setRow_heap w g cur _ e _ hg,hroom,hcm,?_,?_⟩⟩,⟨rfl,rfl,rfl,Nat.le_refl _,by simp,λk _ hk=>setRow_other w g k _ (λe=>hk (by simp[Value.ownBlock,e]))⟩,λb hb=>.inr hb,rfl,.inl ⟨_,_,_,_,_,rfl,rfl⟩⟩
   .simp only[List.size_toArray,List.length_append,List.length_take,List.length_drop,Array.length_toList];omega
   .rw[htake, <-hlen];exact List.take_left
  .have holds:∀j u,xs[j]? =some u->w.cell? ((⟨g,0,none⟩:Addr).add j)=some u:=hown.cells (g:=g) rfl
   have hold:(Builtin.firstCells i.size n (.slice (some ⟨g,0,none⟩) n cap)).run P w.drew= .ok xs.toArray w.drew:=
    run_firstCells_some w.drew i.size n ⟨g,0,none⟩ n cap xs hown.1 (by simpa using holds)
   have hr:=run_append_grow_src (P:=P) w t tx ty e i z ht hi hz (some ⟨g,0,none⟩) n cap xs hold x m news hs aC aC (growslice_fits aC hbytes);have hgr:=grown cap aC (λb=>Value.ownBlock (.slice (some ⟨g,0,none⟩) n cap)=some b);exact⟨_,_,hr,hgr.1,hgr.2,λb hb=>by simp[Value.ownBlock]at hb;left;omega,rfl,.inr λk hk=>heap_alloc_old w.drew _ k hk⟩
end
end Go.Vc
namespace Go.Vc
open Go Go.Lib
theorem Mq{z:Array Value}{sz:Nat}(hz:z.size=sz)(hs:0<sz)(n:Nat):(Builtin.zeroCells z n).toList=(List.replicate n z.toList).flatten:=by
 apply List.ext_getElem?;intro j;by_cases hj:j<n*sz
 .have hq:j/sz<n:=Nat.div_lt_of_lt_mul (by rw[Nat.mul_comm];exact hj);have hm:j%sz<sz:=Nat.mod_lt _ hs;have h1:=nK (xs:=List.replicate n z.toList) (sz:=sz) (i:=j/sz) (e:=z.toList) (λe he=>by rw[List.eq_of_mem_replicate he];simpa using hz) (by simp[hq]) (j%sz) z[j%sz] (by simp[hz,hm]);rw[show j/sz*sz+j%sz=j by rw[Nat.mul_comm];exact Nat.div_add_mod j sz]at h1;rw[h1];simp[Builtin.zeroCells,hj,hz,hm]
 .rw[List.getElem?_eq_none,List.getElem?_eq_none]
  .rw[bM (sz:=sz) (λe he=>by rw[List.eq_of_mem_replicate he];simpa using hz)];simp;omega
  .simp[Builtin.zeroCells,hz];omega
theorem FV{P:Program}(w:World)(t tn ty e:TypeId)(i:TypeInfo)(z:Value)(kq kn:IntKind)(ht:P.underlying t=some (.slice e))(htn:P.underlying tn=some (.int kn))(hi:P.info? e=some i)(hz:i.zero=some z)
 (hzs:z.cells.size=i.size)(hs:0<i.size)(k:Nat)(h0:0<k)(hb:k*i.bytes<=140737488355328)(h63:k<=140737488355328):
 ∃v' w',(Builtin.append_ #[t,tn] ty #[.slice none 0 0,.int kq k]).run P w= .ok v' w'/\w'.ownsRow 0 e i.size v' k (List.replicate k z.cells.toList).flatten/\zM (λ_=>False) w w'/\
  (∀b,v'.ownBlock=some b->w.heap.size<=b)/\v'.oneCell'=true:=by
 have hr:=run_append_grow_zeros w t tn ty e i z kq kn ht htn hi hz none 0 0 [] (run_firstCells_none w.drew i.size 0 0 0) k h0 hs aC aC aC (by rw[Nat.zero_add,nextslicecap_zero h0];omega);rw[Nat.zero_add]at hr;have hge:=grownCap_ge w k 0 e;have hle:=grownCap_le_maxLen w k 0 e (by unfold maxLen;omega);refine⟨_,_,hr,?_,?_,?_,rfl⟩
 .refine⟨bM (sz:=i.size) (λx hx=>by rw[List.eq_of_mem_replicate hx];simpa using hzs) |>.trans (by simp),.inr ⟨w.heap.size,_,_,rfl,Nat.zero_le _,gU _ _,aC,hle,?_,?_⟩⟩
  .simp[Builtin.zeroCells,hzs];rw[<-Nat.add_mul];congr 1;omega
  .simp only[Array.toList_append,Mq hzs hs];rw[List.take_append_of_le_length]
   .simp only[List.nil_append];rw[List.take_of_length_le];rw[bM (sz:=i.size) (λx hx=>by rw[List.eq_of_mem_replicate hx];simpa using hzs)];simp
   .simp only[List.nil_append];rw[bM (sz:=i.size) (λx hx=>by rw[List.eq_of_mem_replicate hx];simpa using hzs)];simp
 .exact⟨rfl,rfl,rfl,Nat.le_succ _,by show w.heap.size<=(w.heap.push _).size;simp,λb hb _=>dQ w.drew _ hb⟩
 .intro b hb;simp[Value.ownBlock]at hb;omega
end Go.Vc
namespace Go.Vc
open Go
section
variable{B:mH}{C:Ctx}{ι:Nat->Value}{σ:St}{a:Act}{w:World}{o:Oper}{K:St->Prop}
theorem BR{sz:Nat}:∀{xs:List (List Value)}(_:∀e∈xs,e.length=sz) {j:Nat} {v:Value},xs.flatten[j]? =some v->∃(i:Nat)(e:List Value)(q:Nat),xs[i]? =some e/\e[q]? =some v/\j=i*sz+q
 |[],_,j,v,h=>by simp at h
 |x::xs,hl,j,v,h=>by
  have hx:=hl x (by simp);rw[List.flatten_cons]at h;by_cases hj:j<x.length
  .rw[List.getElem?_append_left hj]at h;exact⟨0,x,j,rfl,h,by simp⟩
  .rw[List.getElem?_append_right aC]at h;obtain⟨i,e,q,h1,h2,h3⟩:=BR (λe he=>hl e (by simp[he])) h;exact⟨i+1,e,q,by simpa using h1,h2,by rw[Nat.succ_mul];omega⟩
theorem Xu{P:Program}{tx e' E sz:Nat}{v:Value}{ys:List (List Value)}(hk:P.underlying tx=some (.slice e'))(hr:dU sz ys)(ho:w.ownsRow 0 E sz v ys.length ys.flatten):
 Src P sz tx v ys.length ys.flatten w:=by
 have h1:∀u∈ys.flatten,u.oneCell'=true:=λu hu=>by
  obtain⟨e,he,hue⟩:=List.mem_flatten.1 hu;exact hr.one e he u hue
 rcases ho.2 with⟨rfl,hn⟩|⟨g,cap,cur,rfl,_⟩
 .have:ys=[]:=List.eq_nil_of_length_eq_zero hn;subst this;exact Src.ofNil w hk 0
 .exact Src.ofSlice w hk ⟨g,0,none⟩ _ cap _ (bM hr.len) (ho.cells (g:=g) rfl) h1
theorem MF{P:Program}{tx e' sz:Nat}{h:PH}(hk:P.underlying tx=some (.slice e')){ad:Option Addr}{n c:Nat}{ys:List (List Value)}(hr:dU sz ys)(hrow:bH h ⟨ad,n,c⟩ sz ys)
 (hsat:∀b o v,h b o=some v->w.cell? ⟨b,o,none⟩=some v):Src P sz tx (.slice ad n c) ys.length ys.flatten w:=by
 have h1:∀u∈ys.flatten,u.oneCell'=true:=λu hu=>by
  obtain⟨e,he,hue⟩:=List.mem_flatten.1 hu;exact hr.one e he u hue
 have hlen:n=ys.length:=hrow.len;subst hlen;rcases hrow.row with rfl|⟨b,off,hab,hcell⟩
 .refine⟨.inl ⟨e',hk⟩,λ_=>rfl,?_,?_,by simp,λu hu=>by simp at hu⟩
  .cases ad<;>simp[Builtin.firstCells,loadCells,loadCellsFrom]
  .cases ad<;>simp[Builtin.firstCells,loadCells,loadCellsFrom]
 .have hab:ad=some ⟨b,off,none⟩:=hab;subst hab;refine Src.ofSlice w hk ⟨b,off,none⟩ _ c _ (bM hr.len) ?_ h1;intro j u hj;obtain⟨i,e,q,hi,hq,rfl⟩:=BR hr.len hj;rw[Addr.add_none];have:=hsat _ _ _ ((hcell i e hi).rd q u hq);rw[<-Nat.add_assoc];exact this
theorem DY(s:ByteArray):(fY s).flatten=byteCells s:=by
 unfold fY byteCells
 induction s.data.toList with
 |nil=>rfl
 |cons b r ih=>simp[ih]
theorem Il(hM:aG B ι σ a w){sz tx:Nat}{y:Operand}{R:List (List Value)->Prop}{lent:Bool}(h:Eg C.P lent σ sz tx (σ.ev y) R):
 ∃ys,dU sz ys/\Src C.P sz tx (a.eval y) ys.length ys.flatten w/\R ys:=by
 have hev:=hM.ev y;unfold Eg at h;split at h
 .rename_i k e' hk hu;rw[hk]at hev;have hev:a.eval y=ι k:=hev;split at h
  .rename_i E s ys hown;split at h
   .rename_i hs;have hs:=Nat.eq_of_beq_eq_true hs;subst hs;obtain⟨hr,ho⟩:=mV hM hown;exact⟨ys,hr,by rw[hev];exact Xu hu hr ho,h⟩
   .exact h.elim
  .exact h.elim
 .rename_i ad n c e' hk hu;rw[hk]at hev;have hev:a.eval y= .slice ad n c:=hev;obtain⟨ys,hr,hrow,h⟩:=h;refine⟨ys,hr,?_,h⟩;rw[hev];cases lent with
  |false=>exact MF hu hr hrow hM.wrel.hsat
  |true=>
   cases hrow with
   |imm hrow=>exact MF hu hr hrow hM.wrel.hsat
   |lent b o cs E fz hs hn hm hl=>
    have hs:ad=some ⟨b,o,none⟩:=hs;have hn:n=ys.length:=hn;subst hs hn
    have h1:∀u∈ys.flatten,u.oneCell'=true:=λu hu=>by
     obtain⟨e,he,hue⟩:=List.mem_flatten.1 hu;exact hr.one e he u hue
    refine Src.ofSlice w hu ⟨b,o,none⟩ _ c _ (bM hr.len) ?_ h1;intro j u hj;rw[Addr.add_none,cell_of_heap (hM.wrel.msat b _ hm)];rw[<-hl]at hj;have hlt:=(List.getElem?_eq_some_iff.1 hj).1;rw[List.getElem?_take,if_pos (by rw[List.length_take]at hlt;omega),List.getElem?_drop]at hj;exact hj
 .rename_i s hk hu;rw[hk]at hev;have hev:a.eval y= .string s:=hev;split at h
  .rename_i hs;have hs:=Nat.eq_of_beq_eq_true hs;subst hs;refine⟨fY s,⟨λe he=>by obtain⟨b,_,rfl⟩:=List.mem_map.1 he;rfl,λe he u hu'=>by obtain⟨b,_,rfl⟩:=List.mem_map.1 he;simp at hu';subst hu';rfl⟩,?_,h⟩;rw[hev,DY];have hl:(fY s).length=s.size:=by simp[fY]
   rw[hl];exact Src.ofString w hu s
  .exact h.elim
 .exact h.elim
theorem zM.mono{S S':Nat->Prop}{w w':World}(h:zM S w w')(hs:∀b,S b->S' b):zM S' w w':=⟨h.tape,h.os,h.output,h.drawn,h.size,λb hb hn=>h.block b hb (λhs'=>hn (hs b hs'))⟩
theorem Ab{v:Value}{b:Nat}(h:v.ownBlock=some b):blk v=some b:=by
 cases v<;>simp[Value.ownBlock]at h
 case slice ad n c=>cases ad<;>simp at h;simpa[blk]using h
theorem yJ{sz:Nat}{xs ys:List (List Value)}(hx:dU sz xs)(hy:dU sz ys):dU sz (xs++ys):=
 ⟨λe he=>(List.mem_append.1 he).elim (hx.len e) (hy.len e),λe he=>(List.mem_append.1 he).elim (hx.one e) (hy.one e)⟩
theorem tF{E sz n:Nat}{v:Value}{l:List Value}(h:w.ownsRow 0 E sz v n l){b:Nat}(hb:blk v=some b):v.ownBlock=some b:=by
 rcases h.2 with⟨rfl,_⟩|⟨g,cap,cur,rfl,_⟩
 .simp[blk]at hb
 .simpa[blk,Value.ownBlock]using hb
theorem OH(hM:aG B ι σ a w){w':World}{m':MH}{S:Nat->Prop}(he:zM S w w')(hS:∀b,S b->σ.m b≠none)(hm':∀b o,m' b=some o->w'.heap[b]? =some o/\(σ.m b≠none\/w.heap.size<=b)):
 aG B ι {σ with m:=m'} a w'/\∀o,uH o.op=false->D2 σ ι o w w':=by
 have hw:=hM.wrel
 have hnone:∀b,w.heap.size<=b->∀i,σ.h b i=none:=by
  intro b hb i;cases e:σ.h b i with
  |none=>rfl
  |some v=>have:=World.block_lt_of_cell? w ⟨b,i,none⟩ (hw.hsat _ _ _ e);simp at this;omega
 have hSh:∀b,S b->∀i,σ.h b i=none:=by
  intro b hb i;cases e:σ.m b with
  |none=>exact absurd e (hS b hb)
  |some x=>exact hw.disj b x e i
 have hnb:∀k o' b,nth σ.own k=some (some o')->blk (ι k)=some b->¬S b:=by
  intro k o' b hk hb hs;exact hS b hs (hM.fresh k o' b hk hb).2.1
 have hcell:∀b i v,σ.h b i=some v->w'.cell? ⟨b,i,none⟩=some v:=by
  intro b i v hv;have h2:=hw.hsat b i v hv;rw[<-h2];exact World.cell?_of_block (w:=w) (w':=w') (a:=⟨b,i,none⟩) (he.block b (World.block_lt_of_cell? w ⟨b,i,none⟩ h2) (λhs=>by rw[hSh b hs i]at hv;cases hv))
 refine⟨⟨hM.slots,hM.defers,λk o' hk=>(hM.own k o' hk).world (λb hb=>he.block b (lI (hM.own k o' hk) hb) (hnb k o' b hk hb)),hM.dist,?_,?_,hM.one⟩,λo hg=>⟨?_,hcell,λh=>(by rw[hg]at h;cases h),λl b _ h1 h2 _=>he.block b h1 (λhs=>hS b hs h2)⟩⟩
 .intro k o' b hk hb;obtain⟨f1,f2,f3⟩:=hM.fresh k o' b hk hb;refine⟨f1,?_,f3⟩;show m' b=none;cases e:m' b with
  |none=>rfl
  |some x=>
   rcases(hm' b x e).2 with h1|h1
   .exact absurd f2 h1
   .have:=lI (hM.own k o' hk) hb;omega
 .refine⟨he.tape.trans hw.tape,he.os.trans hw.os,he.output.trans hw.output,Nat.le_trans hw.drawn he.drawn,Nat.le_trans hw.size he.size,?_,hcell,λb o e=>(hm' b o e).1,?_,hw.hle,hw.hold,?_⟩
  .intro b hb hE;rw[he.block b (Nat.lt_of_lt_of_le hb hw.size) (λhs=>?_)]
   .exact hw.frame b hb hE
   .cases e:σ.m b with
    |none=>exact hS b hs e
    |some x=>
     rcases hw.mfr b x e with h1|h1
     .omega
     .exact hE h1
  .intro b o e i;rcases(hm' b o e).2 with h1|h1
   .cases e2:σ.m b with
    |none=>exact absurd e2 h1
    |some x=>exact hw.disj b x e2 i
   .exact hnone b h1 i
  .intro b o e;rcases(hm' b o e).2 with h1|h1
   .cases e2:σ.m b with
    |none=>exact absurd e2 h1
    |some x=>exact hw.mfr b x e2
   .exact .inl (Nat.le_trans hw.size h1)
 .intro k p T cs b hk _ hι;have hb:blk (ι k)=some b:=by rw[hι];rfl
  exact he.block b (lI (hM.own k _ hk) hb) (hnb k _ b hk hb)
theorem FW{P:Program}{w:World}(t tx ty e:TypeId)(i:TypeInfo)(ht:P.underlying t=some (.slice e))(hi:P.info? e=some i)(ad:Addr)(sLen sCap:Nat)(x:Value)(hs:Src P i.size tx x 0 [] w)(hroom:sLen<=sCap):
 (Builtin.append_ #[t,tx] ty #[.slice (some ad) sLen sCap,x]).run P w= .ok (.slice (some ad) sLen sCap) w:=by
 rcases hs.kind with⟨e',hk⟩|hk<;>simp[Builtin.append_,run_underlying ht,run_underlying hk,sizeOf,typeInfo,hi,hs.len,hroom,hs.cells,storeCells]
theorem Nu(hM:aG B ι σ a w){T tx:Nat}{x y:Operand}{c:Call}(ho:o.op= .call c)(hc:c.callee= .builtin .append)(hx:c.args.toList=[x,y])(ht:c.argTypes.toList=[T,tx])
 (h:JW C o T tx x y σ K):NC B C ι o σ K a w:=by
 intro next Q hnext
 have hargs:c.args= #[x,y]:=by apply Array.toList_inj.1;simpa using hx
 have htys:c.argTypes= #[T,tx]:=by apply Array.toList_inj.1;simpa using ht
 unfold JW at h;split at h
 .rename_i d E z hd hE;obtain⟨it,zv,hu,hi,hv,rfl,hsz,hcs,hpos,hone⟩:=yD hE;have hby:C.P.bytesOf E=it.bytes:=by simp[Program.bytesOf,hi]
  have hrun:∀v' w',(Builtin.append_ #[T,tx] o.type #[a.eval x,a.eval y]).run C.P w= .ok v' w'->(execOp a.eval o).run C.P w= .ok (.value v') w':=by
   intro v' w' hr;unfold execOp;simp only[ho,resolve,hc,hargs,htys,invoke,builtin,Sem.run_bind,Sem.run_pure,Result.andThen_ok,List.map_toArray,List.map_cons,List.map_nil];rw[hr];rfl
  have mcase:∀(ad:Option Addr)(n cp:Nat),σ.ev x= .at (.val (.slice ad n cp))->(∃xs:List (List Value),cD σ.m ⟨ad,n,cp⟩ E (C.P.cellsOf E) xs/\
   Eg C.P (I6 C) σ (C.P.cellsOf E) tx (σ.ev y) λys=>
    (xs.length+ys.length)*C.P.bytesOf E<=140737488355328/\xs.length+ys.length<=140737488355328/\
    ∀(s':Sl)(m':MH),eX σ.m m' ⟨ad,n,cp⟩ s' E (C.P.cellsOf E) (xs++ys)->K ({σ with m:=m'}.put (some d) (.at (.val s'.val))))->o.wp C.P a w next Q:=by
   intro ad n cp hxx h;have hev:=hM.ev x;rw[hxx]at hev;have hev:a.eval x= .slice ad n cp:=hev;obtain⟨xs,hrow,h⟩:=h;obtain⟨ys,hr,hsrc,hb1,hb2,h⟩:=Il hM h;rw[hcs]at hr hsrc h;rw[hby]at hb1;have hrows:=hrow.rows;rw[hcs]at hrows
   have hox:w.ownsRow 0 E it.size (.slice ad n cp) xs.length xs.flatten:=by
    refine⟨bM hrows.len,?_⟩;rcases hrow.ex with⟨e1,e2⟩|⟨b,cap,cur,e1,hm,h1,h2,h3,h4⟩
    .simp only[Sl.mk.injEq]at e1;obtain⟨rfl,rfl,rfl⟩:=e1;exact .inl ⟨rfl,by rw[e2];rfl⟩
    .simp only[Sl.mk.injEq]at e1;obtain⟨rfl,rfl,rfl⟩:=e1;exact .inr ⟨b,_,cur,rfl,Nat.zero_le _,hM.wrel.msat b _ hm,h1,h2,by rw[<-hcs];exact h3,by rw[<-hcs];exact h4⟩
   have hblkm:∀b,Value.ownBlock (.slice ad n cp)=some b->σ.m b≠none:=by
    intro b hb;rcases hrow.ex with⟨e1,e2⟩|⟨b',cap,cur,e1,hm,_⟩
    .simp only[Sl.mk.injEq]at e1;obtain⟨rfl,rfl,rfl⟩:=e1;simp[Value.ownBlock]at hb
    .simp only[Sl.mk.injEq]at e1;obtain⟨rfl,rfl,rfl⟩:=e1;simp[Value.ownBlock]at hb;subst hb;rw[hm];simp
   obtain⟨v',w',hrr,hown',hext,hblk,hone',hkeep⟩:=qV (P:=C.P) w T tx o.type E it zv hu hi hv hsz (.slice ad n cp) xs.length xs.flatten hox (a.eval y) ys.length ys.flatten hsrc (by unfold maxLen;omega) hb1;rw[<-List.flatten_append, <-List.length_append]at hown'
   obtain⟨ad',n',cp',rfl⟩:∃ad' n' cp',v'= .slice ad' n' cp':=by
    rcases hown'.2 with⟨e,_⟩|⟨g,cap,cur,e,_⟩
    .exact⟨_,_,_,e⟩
    .exact⟨_,_,_,e⟩
   let m':MH:=λb=>if Value.ownBlock (.slice ad' n' cp')=some b then w'.heap[b]? else σ.m b
   have hm'b:∀b,Value.ownBlock (.slice ad' n' cp')=some b->m' b=w'.heap[b]? :=λb hb=>by simp only[m',if_pos hb]
   obtain⟨hM1,hk⟩:=OH (m':=m') hM hext hblkm (by
    intro b ob hb;by_cases e1:Value.ownBlock (.slice ad' n' cp')=some b
    .rw[hm'b b e1]at hb;refine⟨hb,?_⟩;rcases hblk b e1 with h1|h1
     .exact .inr h1
     .exact .inl (hblkm b h1)
    .simp only[m',if_neg e1]at hb;refine⟨?_,.inl (by rw[hb];simp)⟩;have h1:=hM.wrel.msat b ob hb;rcases hkeep with⟨_,_,_,_,_,hv1,hv2⟩|hkeep
     .simp only[Value.slice.injEq]at hv1 hv2;obtain⟨rfl,rfl,rfl⟩:=hv1;obtain⟨rfl,rfl,rfl⟩:=hv2;rw[hext.block b (Array.getElem?_eq_some_iff.1 h1).1 λe=>e1 (by cases ad'<;>exact e)];exact h1
     .rw[hkeep b (Array.getElem?_eq_some_iff.1 h1).1];exact h1)
   unfold Oper.wp;rw[hrun _ w' (by rw[hev];exact hrr),Oper.upon_value,hd];refine hnext ι _ _ _ (hM1.put (some d) (x:=.at (.val (.slice ad' n' cp'))) rfl) (h ⟨ad',n',cp'⟩ m' ⟨⟨?_,?_⟩,?_,?_,?_⟩) (hk o (by rw[ho];rfl))
   .exact yJ hrows hr
   .rcases hown'.2 with⟨e1,e2⟩|⟨b,cap,cur,e1,_,hh,h1,h2,h3,h4⟩
    .simp only[Value.slice.injEq]at e1;obtain⟨rfl,rfl,rfl⟩:=e1;exact .inl ⟨rfl,List.eq_nil_of_length_eq_zero e2⟩
    .simp only[Value.slice.injEq]at e1;obtain⟨rfl,rfl,rfl⟩:=e1;exact .inr ⟨b,_,cur,rfl,by rw[hm'b b rfl];exact hh,h1,h2,h3,h4⟩
   .intro b ob hb hne
    have e2:Value.ownBlock (.slice ad n cp)≠some b:=by
     intro e;rcases hrow.ex with⟨e1,_⟩|⟨b',cap,cur,e1,hm,_⟩
     .simp only[Sl.mk.injEq]at e1;obtain⟨rfl,rfl,rfl⟩:=e1;simp[Value.ownBlock]at e
     .simp only[Sl.mk.injEq]at e1;obtain⟨rfl,rfl,rfl⟩:=e1;simp[Value.ownBlock]at e;subst e;exact hne 0 rfl
    have e1:Value.ownBlock (.slice ad' n' cp')≠some b:=by
     intro e;rcases hblk b e with h1|h1
     .have:=(Array.getElem?_eq_some_iff.1 (hM.wrel.msat b ob hb)).1;omega
     .exact e2 h1
    simp only[m',if_neg e1];exact hb
   .intro b i e;have e:ad'=some ⟨b,i,none⟩:=e;rcases hblk b (by rw[e];rfl)with h1|h1
    .left;cases e2:σ.m b with
     |none=>rfl
     |some x=>have:=(Array.getElem?_eq_some_iff.1 (hM.wrel.msat b x e2)).1;omega
    .right;rcases hrow.ex with⟨e1,_⟩|⟨b',cap,cur,e1,hm,_⟩
     .simp only[Sl.mk.injEq]at e1;obtain⟨rfl,rfl,rfl⟩:=e1;simp[Value.ownBlock]at h1
     .simp only[Sl.mk.injEq]at e1;obtain⟨rfl,rfl,rfl⟩:=e1;simp[Value.ownBlock]at h1;exact⟨0,by rw[h1]⟩
   .rcases hkeep with⟨_,_,_,_,_,hv1,hv2⟩|hkeep
    .simp only[Value.slice.injEq]at hv1 hv2;exact .inl (by rw[hv2.1,hv1.1])
    .refine .inr λb ob hb=>?_;have h1:=hM.wrel.msat b ob hb;by_cases e1:Value.ownBlock (.slice ad' n' cp')=some b
     .rw[hm'b b e1,hkeep b (Array.getElem?_eq_some_iff.1 h1).1];exact h1
     .simp only[m',if_neg e1];exact hb
  split at h
  .rename_i ad n cp hin hfu hxx;have hev:=hM.ev x;rw[hxx]at hev;have hev:a.eval x= .slice ad n cp:=hev;obtain⟨rfl,xs,hrx,hrow,h⟩:=h;obtain⟨ys,hr,hsrc,hf⟩:=Il hM h;clear h;by_cases hne:¬(ad=none\/0<ys.length)
   .rw[not_or]at hne;have hy:ys=[]:=List.eq_nil_of_length_eq_zero aC;unfold VO at hf;split at hf
    .obtain⟨ad',rfl⟩:=Option.ne_none_iff_exists'.1 hne.1;subst hy;have h:=hf.1 hne.1 rfl;unfold Oper.wp;rw[hcs]at hsrc;rw[hrun _ w (by rw[hev];exact FW T tx o.type E it hu hi ad' _ _ _ hsrc (Nat.le_refl _)),Oper.upon_value,hd];exact hnext ι _ _ _ (hM.put (some d) (x:=.at (.val (.slice (some ad') cp cp))) rfl) h (xW hM d (λ_=>uE hd) (λb hb _=>rfl) (λ_ _ _=>rfl) (λl e=>by simp_all [mL]))
    .exact(not_or.2 hne hf.1).elim
   have hne:=Classical.not_not.1 hne
   have h:=(show(xs.length+ys.length)*C.P.bytesOf E<=140737488355328/\xs.length+ys.length<=140737488355328/\
    K (((σ.kill d).setOwn d (some (.lst E (C.P.cellsOf E) (xs++ys)))).put (some d) (.at (.lst d)))by
    unfold VO at hf;split at hf
    .exact hf.2 hne
    .exact hf.2)
   clear hf;obtain⟨hb1,hb2,h⟩:=h;rw[hcs]at hr hsrc h hrx hrow;rw[hby]at hb1;have hn:cp=xs.length:=hrow.len;subst hn
   have fin:∃v' w',(Builtin.append_ #[T,tx] o.type #[.slice ad xs.length xs.length,a.eval y]).run C.P w= .ok v' w'/\w'.ownsRow 0 E it.size v' (xs.length+ys.length) (xs++ys).flatten/\zM (λ_=>False) w w'/\
    (∀b,v'.ownBlock=some b->w.heap.size<=b)/\v'.oneCell'=true:=by
    cases ad with
    |none=>
     have hx0:xs=[]:=by
      rcases hrow.row with e|⟨b,off,e,_⟩
      .exact e
      .cases e
     subst hx0;obtain⟨v',w',h1,h2,h3,h4,h5,_⟩:=qV (P:=C.P) w T tx o.type E it zv hu hi hv hsz (.slice none 0 0) 0 [] (World.ownsRow_nil w 0 E it.size) (a.eval y) ys.length ys.flatten hsrc (by unfold maxLen;omega) (by simpa using hb1);refine⟨v',w',h1,by simpa using h2,h3.mono (λb hb=>by simp[Value.ownBlock]at hb),λb hb=>?_,h5⟩;rcases h4 b hb with e|e
     .exact e
     .simp[Value.ownBlock]at e
    |some ad=>
     have hy:0<ys.length:=by
      rcases hne with e|e
      .cases e
      .exact e
     have hsx:=MF (P:=C.P) (w:=w) (tx:=T) hu hrx hrow hM.wrel.hsat;have h63:xs.length+ys.length<=maxLen:=by unfold maxLen;omega
     have hlen:(xs.flatten++ys.flatten).length=(xs.length+ys.length)*it.size:=by rw[List.length_append,bM hrx.len,bM hr.len,Nat.add_mul]
     have hge:=grownCap_ge w (xs.length+ys.length) xs.length E;have hcm:grownCap w (xs.length+ys.length) xs.length E<=maxLen:=grownCap_le_maxLen w _ _ E h63
     have hold:(Builtin.firstCells it.size xs.length (.slice (some ad) xs.length xs.length)).run C.P w.drew= .ok xs.flatten.toArray w.drew:=by
      rcases hrow.row with rfl|⟨b,off,e,hc⟩
      .simp[Builtin.firstCells,loadCells,loadCellsFrom]
      .have e:some ad=some ⟨b,off,none⟩:=e;cases e;refine run_firstCells_some w.drew it.size xs.length ⟨b,off,none⟩ xs.length xs.length xs.flatten (bM hrx.len) λj u hj=>?_;obtain⟨i,e,q,h1,h2,rfl⟩:=BR hrx.len hj;rw[Addr.add_none];have:=hM.wrel.hsat _ _ _ ((hc i e h1).rd q u h2);rw[<-Nat.add_assoc];exact this
     have hrn:=run_append_grow_src (P:=C.P) w T tx o.type E it zv hu hi hv (some ad) xs.length xs.length xs.flatten hold (a.eval y) ys.length ys.flatten hsrc aC (by unfold maxLen at h63;omega) (growslice_fits aC hb1);refine⟨_,_,hrn,⟨?_,.inr ⟨w.heap.size,_,_,rfl,Nat.zero_le _,heap_alloc_new w.drew _,hge,hcm,?_,?_⟩⟩,⟨rfl,rfl,rfl,Nat.le_succ _,by simp,λk hk _=>heap_alloc_old w.drew _ k hk⟩,λb hb=>by simp[Value.ownBlock]at hb;omega,rfl⟩
     .rw[List.flatten_append,hlen]
     .simp only[Array.size_append,List.size_toArray,size_zeroCells,hsz,hlen, <-Nat.add_mul];congr 1;omega
     .simp only[Array.toList_append];rw[List.flatten_append, <-hlen];exact List.take_left
   obtain⟨v',w',hrr,hown,hext,hblk,hone'⟩:=fin;rw[<-List.length_append]at hown;unfold Oper.wp;rw[hrun v' w' (by rw[hev];exact hrr),Oper.upon_value,hd];refine hnext (upd ι d v') _ _ _ ?_ h ?_
   .refine aG.put ?_ (some d) (by show _=_;simp);exact hM.place d _ v' (hext.mono (λb hb=>hb.elim)) ⟨yJ hrx hr,hown⟩ hone' (λb hb=>.inl (hblk b (tF hown hb)))
   .exact xW hM d (λ_=>uE hd) (λb hb _=>hext.block b hb (λh1=>h1.elim)) (λhg=>by rw[ho]at hg;simp[uH]at hg) (λl e=>by simp_all [mL])
  .rename_i ad n cp hin hxx;exact mcase ad n cp hxx h
  rename_i hnin1 hnin;clear hnin hnin1;split at h
  .rename_i hxx;have hev:=hM.ev x;rw[hxx]at hev;have hev:a.eval x= .slice none 0 0:=hev;split at h
   .rename_i n hz0
    obtain⟨kn,kq,htn,hyy⟩:∃kn kq,C.P.underlying tx=some (.int kn)/\σ.ev y= .at (.val (.int kq n)):=by
     unfold Sh at hz0;split at hz0
     .rename_i kn htn;split at hz0
      .rename_i kq n' hyy;simp only[Option.some.injEq]at hz0;subst hz0;exact⟨kn,kq,htn,hyy⟩
      .cases hz0
     .cases hz0
    have hy:=hM.ev y;rw[hyy]at hy;have hy:a.eval y= .int kq n:=hy;obtain⟨h0,hb1,hb2,h⟩:=h;rw[hcs]at h;rw[hby]at hb1;obtain⟨k,rfl⟩:∃k:Nat,n=k:=⟨n.toNat,aC⟩
    have hb1':k*it.bytes<=140737488355328:=by rw[<-Int.natCast_mul]at hb1;omega
    obtain⟨v',w',hrr,hown,hext,hblk,hone'⟩:=FV (P:=C.P) w T tx o.type E it zv kq kn hu htn hi hv hsz aC k aC hb1' aC;unfold Oper.wp;rw[hrun v' w' (by rw[hev,hy];exact hrr),Oper.upon_value,hd];refine hnext (upd ι d v') _ _ _ ?_ h ?_
    .refine aG.put ?_ (some d) (by show _=_;simp);refine hM.place d _ v' (hext.mono (λb hb=>hb.elim)) ⟨?_,?_⟩ hone' (λb hb=>.inl (hblk b (tF hown hb)))
     .exact lB (by simpa using hsz) hone _
     .simpa using hown
    .exact xW hM d (λ_=>uE hd) (λb hb _=>hext.block b hb (λh1=>h1.elim)) (λhg=>by rw[ho]at hg;simp[uH]at hg) (λl e=>by simp_all [mL])
   .obtain⟨ys,hr,hsrc,hb1,hb2,h⟩:=Il hM h;rw[hcs]at hr hsrc h;rw[hby]at hb1;obtain⟨v',w',hrr,hown,hext,hblk,hone',hkeep⟩:=qV (P:=C.P) w T tx o.type E it zv hu hi hv hsz (.slice none 0 0) 0 [] (World.ownsRow_nil w 0 E it.size) (a.eval y) ys.length ys.flatten hsrc (by unfold maxLen;omega) (by simpa using hb1);simp only[Nat.zero_add,List.nil_append]at hown;unfold Oper.wp;rw[hrun v' w' (by rw[hev];exact hrr),Oper.upon_value,hd];refine hnext (upd ι d v') _ _ _ ?_ h ?_
    .refine aG.put ?_ (some d) (by show _=_;simp);refine hM.place d _ v' (hext.mono (λb hb=>by simp[Value.ownBlock]at hb)) ⟨hr,hown⟩ hone' (λb hb=>?_);rcases hblk b (tF hown hb)with h1|h1
     .exact .inl h1
     .simp[Value.ownBlock]at h1
    .exact xW hM d (λ_=>uE hd) (λb hb _=>hext.block b hb (λh1=>by simp[Value.ownBlock]at h1)) (λhg=>by rw[ho]at hg;simp[uH]at hg) (λl e=>by simp_all [mL])
  .rename_i k hxx;have hev:=hM.ev x;rw[hxx]at hev;have hev:a.eval x=ι k:=hev;split at h
   .rename_i E' sz xs hown hsame;split at h
    .rename_i hE' hs';have hE':=Nat.eq_of_beq_eq_true hE';have hs':=Nat.eq_of_beq_eq_true hs';subst hE';rw[hcs]at hs';subst hs';obtain⟨ys,hr,hsrc,hb1,hb2,h⟩:=Il hM h;rw[hby]at hb1;obtain⟨hrx,hox⟩:=mV hM hown;obtain⟨v',w',hrr,hown',hext,hblk,hone',hkeep⟩:=qV (P:=C.P) w T tx o.type E' it zv hu hi hv hsz (ι k) xs.length xs.flatten hox (a.eval y) ys.length ys.flatten hsrc (by unfold maxLen;omega) hb1;rw[<-List.flatten_append, <-List.length_append]at hown';unfold Oper.wp;rw[hrun v' w' (by rw[hev];exact hrr),Oper.upon_value,hd];refine hnext (upd ι k v') _ _ _ ?_ h ?_
     .refine aG.put ?_ (some d) (by show _=_;simp);refine hM.place k _ v' (hext.mono (λb hb=>⟨⟨_,hown⟩,Ab hb⟩)) ⟨yJ hrx hr,hown'⟩ hone' (λb hb=>?_);rcases hblk b (tF hown' hb)with h1|h1
      .exact .inl h1
      .exact .inr ⟨⟨_,hown⟩,Ab h1⟩
     .refine xW hM k (λ⟨p',T',cs',e⟩=>by rw[hown]at e;cases e) (λb hb hn=>hext.block b hb (λh1=>hn ⟨⟨_,hown⟩,Ab h1⟩)) (λhg=>by rw[ho]at hg;simp[uH]at hg) (λl e=>by simp_all [mL])
    .exact h.elim
   .exact h.elim
  .rename_i ad n cp _ hxx;exact mcase ad n cp hxx h
  .exact h.elim
 .exact h.elim
theorem aG.rewrite(hM:aG B ι σ a w){k:Nat}{ow ow':Own}{w':World}(hk:nth σ.own k=some (some ow))(he:zM (λb=>blk (ι k)=some b) w w')(ho:zS ι w' (ι k) ow'):
 aG B ι (σ.setOwn k (some ow')) a w':=by
 have hcases:∀j o',nth (σ.setOwn k (some ow')).own j=some (some o')->(j=k/\o'=ow')\/(j≠k/\nth σ.own j=some (some o')):=by
  intro j o' hj;simp only[St.setOwn,tG]at hj;by_cases e:j=k
  .subst e;by_cases hl:j<σ.own.length
   .simp[hl]at hj;exact .inl ⟨rfl,hj.symm⟩
   .simp[hl,fV]at hj
  .simp only[e,false_and,if_false]at hj;exact .inr ⟨e,hj⟩
 refine⟨hM.slots,hM.defers,?_,?_,?_,?_,hM.one⟩
 .intro j o' hj;rcases hcases j o' hj with⟨rfl,rfl⟩|⟨hne,hj'⟩
  .exact ho
  .have hok:=hM.own j o' hj';refine hok.world (λb hb=>he.block b (lI hok hb) (λhb'=>hne (hM.dist j k _ _ b hj' hk hb hb')))
 .intro j j' o1 o2 b hj hj' hb hb';rcases hcases j o1 hj with⟨rfl,rfl⟩|⟨hne,h1⟩<;>rcases hcases j' o2 hj' with⟨rfl,rfl⟩|⟨hne',h2⟩
  .rfl
  .exact hM.dist _ _ _ _ b hk h2 hb hb'
  .exact hM.dist _ _ _ _ b h1 hk hb hb'
  .exact hM.dist _ _ _ _ b h1 h2 hb hb'
 .intro j o1 b hj hb;rcases hcases j o1 hj with⟨rfl,rfl⟩|⟨hne,h1⟩
  .exact hM.fresh _ _ b hk hb
  .exact hM.fresh _ _ b h1 hb
 .exact hM.wrel.ext he (λb hb=>hM.fresh k ow b hk hb)
theorem Ee(hone:∀k,(ι k).oneCell'=true):∀{cs:List At}{vs:List Value},nO cs=true->fH ι cs vs->∀v∈vs,v.oneCell'=true
 |[],[],_,_,v,hv=>by cases hv
 |x::cs,u::vs,hs,hd,v,hv=>by
  simp only[nO]at hs;split at hs
  .rename_i hx;rcases List.mem_cons.1 hv with rfl|hv
   .have hd1:=hd.1;cases x with
    |val u'=>
     have:v=u':=hd1;subst this;cases v<;>first|rfl|(simp[At.storable]at hx)
    |ptr k off=>obtain⟨b,_,rfl⟩:=hd1;rfl
    |lst k=>have:v=ι k:=hd1;rw[this];exact hone k
    |el k i sz off=>obtain⟨b,n,c,_,rfl⟩:=hd1;rfl
    |junk=>simp[At.storable]at hx
   .exact Ee hone hs hd.2 v hv
  .cases hs
 |[],_::_,_,h,_,_=>h.elim
 |_::_,[],_,h,_,_=>h.elim
theorem MK{P:Program}{T:TypeId}{w:World}{g off:Nat}{cur:Array Value}{E:TypeId}{v:Value}(hT:fO P T=true)(hsz:v.cells.size=P.cellsOf T)(hg:w.heap[g]? =some (.cells cur E (0,0)))
 (hle:off+v.cells.size<=cur.size)(h1:∀u∈v.cells.toList,u.oneCell'=true):
 (storeVar T ⟨g,off,none⟩ v).run P w= .ok () (w.setRow g (splice cur.toList off v.cells.toList).toArray):=by
 obtain⟨i,d,hi,hd,hc,hpos⟩:=eH hT;have hst:=run_storeCells_at P g off E v.cells.toList 0 cur w hg (by simpa using hle) h1;simp only[Nat.add_zero]at hst;unfold storeVar;rw[hc]at hsz;simp only[Sem.run_bind,run_sizeOf hi,Result.andThen_ok];rw[if_neg aC];simp only[hst,splice]
theorem wX(w:World)(g:Nat)(cs:Array Value):zM (λb=>b=g) w (w.setRow g cs):=
 ⟨rfl,rfl,rfl,Nat.le_refl _,by simp,λb _ hb=>setRow_other w g b cs hb⟩
theorem RT(hM:aG B ι σ a w){T tx:Nat}{x y:Operand}{c:Call}(ho:o.op= .call c)(hc:c.callee= .builtin .copy)(hx:c.args.toList=[x,y])(ht:c.argTypes.toList=[T,tx])
 (h:RU C o T tx x y σ K):NC B C ι o σ K a w:=by
 intro next Q hnext
 have hargs:c.args= #[x,y]:=by apply Array.toList_inj.1;simpa using hx
 have htys:c.argTypes= #[T,tx]:=by apply Array.toList_inj.1;simpa using ht
 unfold RU at h;split at h
 .rename_i E z ad n cp hE hxx;obtain⟨it,zv,hu,hi,hv,rfl,hsz,hcs,hpos,hone⟩:=yD hE;obtain⟨b,off,rfl,h⟩:=h;have hev:=hM.ev x;rw[hxx]at hev;have hev:a.eval x= .slice (some ⟨b,off,none⟩) n cp:=hev;obtain⟨ys,hr,hsrc,hle,cs,E',hm,hfit,h⟩:=Il hM h;rw[hcs]at hr hsrc hfit;have hg:=hM.wrel.msat b _ hm.at_;have hnl:=hsrc.newsLen;have hst:=run_storeCells_at C.P b off E' ys.flatten 0 cs w hg aC hsrc.one
  have hrun:(execOp a.eval o).run C.P w= .ok (.value (.int .i64 ys.length)) (w.setRow b (splice cs.toList off ys.flatten).toArray):=by
   unfold execOp;simp only[ho,resolve,hc,hargs,htys,invoke,builtin,Sem.run_bind,Sem.run_pure,Result.andThen_ok,List.map_toArray,List.map_cons,List.map_nil];rw[hev];have hsc:=hsrc.cells;generalize ys.flatten=fl at hst hsc⊢
   simp[Builtin.copy_,run_underlying hu,hsrc.len,sizeOf,typeInfo,hi,Nat.min_eq_left hle,hsc,hst];exact⟨rfl,by simp[splice]⟩
  let m':MH:=λb'=>if b'=b then some (.cells (splice cs.toList off ys.flatten).toArray E' (0,0))else σ.m b'
  have hext:=wX w b (splice cs.toList off ys.flatten).toArray
  obtain⟨hM1,hk⟩:=OH (m':=m') hM hext (λb' e=>by subst e;rw[hm.at_];simp) (by
   intro b' ob hb;by_cases e:b'=b
   .subst e;simp only[m',if_true]at hb;refine⟨?_,.inl (by rw[hm.at_];simp)⟩;rw[setRow_heap w b' cs _ E' _ hg];exact hb
   .simp only[m',if_neg e]at hb;have h1:=hM.wrel.msat b' ob hb;refine⟨?_,.inl (by rw[hb];simp)⟩;rw[hext.block b' (Array.getElem?_eq_some_iff.1 h1).1 e];exact h1)
  unfold Oper.wp;rw[hrun,Oper.upon_value];exact hnext ι _ _ _ (hM1.put o.dst (x:=.at (.val (.int .i64 ys.length))) rfl) (h m' ⟨by simp[m'],λb' hb'=>by simp[m',hb']⟩) (hk o (by rw[ho];rfl))
 .exact h.elim
theorem Bi{cs:List At}{l vs:List Value}(hl:oZ cs=some l)(hd:fH ι cs vs):vs=l:=by
 rw[yZ hl,fH.vals]at hd;exact hd
theorem Hf{sz:Nat}{l:List Value}:∀{xs:List (List Value)}{i:Nat}{e:List Value}{off:Nat},(∀e∈xs,e.length=sz)->xs[i]? =some e->off+l.length<=e.length->
 splice xs.flatten (i*sz+off) l=(xs.set i (splice e off l)).flatten
 |[],i,e,off,_,hi,_=>by simp at hi
 |x::xs,0,e,off,hl,hi,hle=>by
  simp at hi;subst hi;simp only[splice,Nat.zero_mul,Nat.zero_add,List.flatten_cons,List.set_cons_zero,List.append_assoc];rw[List.take_append_of_le_length aC,List.drop_append_of_le_length aC]
 |x::xs,i+1,e,off,hl,hi,hle=>by
  simp only[List.getElem?_cons_succ]at hi;have hx:x.length=sz:=hl x (by simp);have ih:=Hf (λe he=>hl e (by simp[he])) hi hle;rw[List.set_cons_succ,List.flatten_cons,List.flatten_cons, <-ih];simp only[splice];have e1:(i+1)*sz+off=x.length+(i*sz+off):=by rw[hx,Nat.succ_mul];omega
  rw[e1,List.take_length_add_append,show x.length+(i*sz+off)+l.length=x.length+(i*sz+off+l.length)by omega,List.drop_length_add_append];simp
theorem Kf{sz:Nat}{xs:List (List Value)}{i off:Nat}{e l:List Value}(hr:dU sz xs)(hi:xs[i]? =some e)(hle:off+l.length<=e.length)(h1:∀u∈l,u.oneCell'=true):
 dU sz (xs.set i (splice e off l)):=by
 have hmem:e∈xs:=List.mem_of_getElem? hi;constructor
 .intro e' he;rcases List.mem_or_eq_of_mem_set he with h|h
  .exact hr.len e' h
  .rw[h,Dn _ _ _ hle];exact hr.len e hmem
 .intro e' he u hu;rcases List.mem_or_eq_of_mem_set he with h|h
  .exact hr.one e' h u hu
  .rw[h]at hu;unfold splice at hu;rcases List.mem_append.1 hu with h2|h2
   .rcases List.mem_append.1 h2 with h3|h3
    .exact hr.one e hmem u (List.mem_of_mem_take h3)
    .exact h1 u h3
   .exact hr.one e hmem u (List.mem_of_mem_drop h2)
theorem N5(u l:List Value)(p N:Nat)(h1:p+l.length<=N)(h2:N<=u.length):(splice u p l).take N=splice (u.take N) p l:=by
 apply List.ext_getElem?;intro j;simp only[splice,List.getElem?_take,List.getElem?_append,List.length_append,List.length_take,List.getElem?_drop];have e1:min p u.length=p:=by omega
 have e2:min N u.length=N:=by omega
 have e3:min p N=p:=by omega
 simp only[e1,e2,e3];by_cases hN:j<N
 .by_cases hp:j<p
  .simp[hN,hp,show j<p+l.length by omega]
  .by_cases hl:j<p+l.length
   .simp[hN,hp,hl]
   .simp[hN,hl,show p+l.length+(j-(p+l.length))<N by omega]
 .simp[hN,show¬j<p+l.length by omega,show¬p+l.length+(j-(p+l.length))<N by omega]
theorem N7(hM:aG B ι σ a w){T:Nat}{x v:Operand}(ho:o.op= .store T x v)(hdst:o.dst=none)(h:ME C T x v σ K):NC B C ι o σ K a w:=by
 intro next Q hnext
 have hev:=hM.ev x;unfold ME at h;split at h
 .exact h.elim
 .rename_i new hnew;split at h
  .rename_i hlen hst hT;have hlen:=Nat.eq_of_beq_eq_true hlen;have hd:=vZ hM.one (hM.ev v) hnew;have h1:=Ee hM.one hst hd;have hdl:new.length=(a.eval v).cells.size:=by have:=hd.length;simpa using this
   have hrun:∀g off cur E,a.eval x= .pointer (some ⟨g,off,none⟩)->w.heap[g]? =some (.cells cur E (0,0))->off+(a.eval v).cells.size<=cur.size->
    (execOp a.eval o).run C.P w= .ok .skip (w.setRow g (splice cur.toList off (a.eval v).cells.toList).toArray):=by
    intro g off cur E hx hg hle;unfold execOp;simp only[ho,hx,Instr.storeAt,Instr.sureAddr,Sem.run_bind,Sem.run_pure,Result.andThen_ok,MK hT aC hg hle h1]
   have wV:a.put o.dst undef=a:=by rw[hdst];rfl
   split at h
   .rename_i k off hx;rw[hx]at hev;split at h
    .rename_i p E cs hk;split at h
     .rename_i hle;have hle:=Nat.le_of_ble_eq_true hle;obtain⟨b,vs,hι,hh,hdc⟩:=qN hM hk;obtain⟨b',hb',hp⟩:=hev;rw[hι]at hb';simp only[Value.pointer.injEq,Option.some.injEq,Addr.mk.injEq]at hb';obtain⟨rfl, -, -⟩:=hb';have hvs:cs.length=vs.size:=by have:=hdc.length;simpa using this
      unfold Oper.wp;rw[hrun b off vs E hp hh aC,Oper.upon_skip,wV];have hbk:blk (ι k)=some b:=by rw[hι];rfl
      have hext:=wX w b (splice vs.toList off (a.eval v).cells.toList).toArray;refine hnext ι _ _ _ (hM.rewrite hk (hext.mono (λb' hb'=>by rw[hb'];exact hbk)) ?_) h ?_
      .exact⟨b,_,hι,setRow_heap w b vs _ E _ hh,by simpa using hdc.splice off hd,λq e=>by subst e;have:=Sw hM hk;rw[hι]at this;simpa using this⟩
      .refine xW hM k (λ_=>?_) (λb' hb' hn=>hext.block b' hb' (λe=>hn ⟨⟨_,hk⟩,by rw[e];exact hbk⟩)) (λhg=>by rw[ho]at hg;simp[uH]at hg) (λl e=>by simp_all [mL]);unfold tE;simp[ho,hx]
     .exact h.elim
    .exact h.elim
   .rename_i k i sz off hx;rw[hx]at hev;split at h
    .rename_i E s xs l hk hl;split at h
     .rename_i hs;have hs:=Nat.eq_of_beq_eq_true hs;subst hs;obtain⟨e,he,hle,h⟩:=h;obtain⟨hr,hown⟩:=mV hM hk;obtain⟨b,n,c,hι,hp⟩:=hev;have hvl:(a.eval v).cells.toList=l:=Bi hl hd;rcases hown.2 with⟨hv,hn⟩|⟨g,cap,cur,hv,_,hg,hnc,hcm,hcs,htake⟩
      .rw[hι]at hv;cases hv
      .rw[hι]at hv;simp only[Value.slice.injEq,Option.some.injEq,Addr.mk.injEq]at hv;obtain⟨⟨rfl, -, -⟩,rfl,rfl⟩:=hv;have hil:i<xs.length:=(List.getElem?_eq_some_iff.1 he).1;have hel:e.length=s:=hr.len e (List.mem_of_getElem? he);have hll:(a.eval v).cells.size=l.length:=by rw[<-hvl];simp
       have hflat:=bM hr.len
       have hin:i*s+off+l.length<=xs.length*s:=by
        have:(i+1)*s<=xs.length*s:=Nat.mul_le_mul_right _ hil;rw[Nat.succ_mul]at this;omega
       have hcap:xs.length*s<=c*s:=Nat.mul_le_mul_right _ hnc;unfold Oper.wp;rw[hrun b (i*s+off) cur E hp hg aC,Oper.upon_skip,wV];have hbk:blk (ι k)=some b:=by rw[hι];rfl
       have hext:=wX w b (splice cur.toList (i*s+off) (a.eval v).cells.toList).toArray;have hone:∀u∈l,u.oneCell'=true:=by rw[<-hvl];exact h1
       refine hnext ι _ _ _ (hM.rewrite hk (hext.mono (λb' hb'=>by rw[hb'];exact hbk)) ?_) h ?_
       .have hr':=Kf hr he hle hone;refine⟨hr',bM hr'.len,.inr ⟨b,c,_,by rw[hι,List.length_set],Nat.zero_le _,setRow_heap w b cur _ E _ hg,by rw[List.length_set];exact hnc,hcm,?_,?_⟩⟩
        .simp only[List.size_toArray,hvl];rw[Dn]
         .simpa using hcs
         .simp;omega
        .rw[List.length_set];rw[<-Hf hr.len he hle,hvl, <-htake];have hcl:cur.toList.length=c*s:=by simpa using hcs
         exact N5 cur.toList l (i*s+off) (xs.length*s) hin aC
       .refine xW hM k (λ⟨p',T',cs',e'⟩=>by rw[hk]at e';cases e') (λb' hb' hn'=>hext.block b' hb' (λe'=>hn' ⟨⟨_,hk⟩,by rw[e'];exact hbk⟩)) (λhg=>by rw[ho]at hg;simp[uH]at hg) (λl e=>by simp_all [mL])
     .exact h.elim
    .exact h.elim
   .rename_i b off hx;rw[hx]at hev;have hev:a.eval x= .pointer (some ⟨b,off,none⟩):=hev;split at h
    .rename_i l hl;obtain⟨cs,E,hm,hle,h⟩:=h;have hvl:(a.eval v).cells.toList=l:=Bi hl hd;have hll:(a.eval v).cells.size=l.length:=by rw[<-hvl];simp
     have hg:=hM.wrel.msat b _ hm.at_
     let m':MH:=λb'=>if b'=b then some (.cells (splice cs.toList off l).toArray E (0,0))else σ.m b'
     unfold Oper.wp;rw[hrun b off cs E hev hg aC,Oper.upon_skip,wV,hvl];have hext:=wX w b (splice cs.toList off l).toArray
     have hnb:∀k o',nth σ.own k=some (some o')->blk (ι k)≠some b:=by
      intro k o' hk hb;have:=(hM.fresh k o' b hk hb).2.1;rw[hm.at_]at this;cases this
     refine hnext ι {σ with m:=m'} _ _ ?_ (h m' ⟨by simp[m'],λb' hb'=>by simp[m',hb']⟩) ?_
     .refine⟨hM.slots,hM.defers,?_,hM.dist,?_,?_,hM.one⟩
      .intro k o' hk;exact(hM.own k o' hk).world (λb' hb'=>hext.block b' (lI (hM.own k o' hk) hb') (λe=>hnb k o' hk (e▸hb')))
      .intro k o' b' hk hb';obtain⟨f1,f2,f3⟩:=hM.fresh k o' b' hk hb';refine⟨f1,?_,f3⟩;have hne:b'≠b:=λe=>hnb k o' hk (e▸hb');simp[m',hne,f2]
      .have hw:=hM.wrel;refine⟨hw.tape,hw.os,hw.output,hw.drawn,Nat.le_trans hw.size hext.size,?_,?_,?_,?_,hw.hle,hw.hold,?_⟩
       .intro b' hb' hE
        have hne:b'≠b:=λe=>by
         subst e;rcases hw.mfr b' _ hm.at_ with h2|h2
         .omega
         .exact hE h2
        rw[hext.block b' (Nat.lt_of_lt_of_le hb' hw.size) hne];exact hw.frame b' hb' hE
       .intro b' off' u hu;have hne:b'≠b:=λe=>by subst e;rw[hw.disj b' _ hm.at_ off']at hu;cases hu
        have h2:=hw.hsat b' off' u hu;rw[<-h2];exact World.cell?_of_block (w:=w) (a:=⟨b',off',none⟩) (hext.block b' (World.block_lt_of_cell? w ⟨b',off',none⟩ h2) hne)
       .intro b' ob hb';have hb'':(if b'=b then some (Obj.cells (splice cs.toList off l).toArray E (0,0))else σ.m b')=some ob:=hb';by_cases e:b'=b
        .subst e;rw[if_pos rfl]at hb'';rw[setRow_heap w b' cs _ E _ hg];exact hb''
        .rw[if_neg e]at hb'';have h2:=hw.msat b' ob hb'';rw[hext.block b' (Array.getElem?_eq_some_iff.1 h2).1 e];exact h2
       .intro b' ob hb' i;have hb'':(if b'=b then some (Obj.cells (splice cs.toList off l).toArray E (0,0))else σ.m b')=some ob:=hb';by_cases e:b'=b
        .subst e;exact hw.disj b' _ hm.at_ i
        .rw[if_neg e]at hb'';exact hw.disj b' _ hb'' i
       .intro b' ob hb';have hb'':(if b'=b then some (Obj.cells (splice cs.toList off l).toArray E (0,0))else σ.m b')=some ob:=hb';by_cases e:b'=b
        .subst e;exact hw.mfr b' _ hm.at_
        .rw[if_neg e]at hb'';exact hw.mfr b' _ hb''
     .constructor
      .intro k p' T' cs' b' hk ht hι;exact hext.block b' (lI (hM.own k _ hk) (by rw[hι];rfl)) (λe=>hnb k _ hk (by rw[hι, <-e];rfl))
      .intro b' off' u hu;have hne:b'≠b:=λe=>by subst e;rw[hM.wrel.disj b' _ hm.at_ off']at hu;cases hu
       have h2:=hM.wrel.hsat b' off' u hu;rw[<-h2];exact World.cell?_of_block (w:=w) (a:=⟨b',off',none⟩) (hext.block b' (World.block_lt_of_cell? w ⟨b',off',none⟩ h2) hne)
      .intro hg;rw[ho]at hg;simp[uH]at hg
      .intro l' b' hl';simp[mL,ho]at hl'
    .exact h.elim
   .exact h.elim
  .exact h.elim
end
end Go.Vc
namespace Go.Vc
open Go
section
variable{B:mH}{C:Ctx}{ι:Nat->Value}{σ:St}{a:Act}{w:World}{o:Oper}{K:St->Prop}
theorem iS(hM:aG B ι σ a w):D2 σ ι o w w:=
 ⟨λ_ _ _ _ _ _ _ _=>rfl,λb off v hv=>hM.wrel.hsat b off v hv,λ_ _ _=>rfl,λ_ _ _ _ _ _=>rfl⟩
theorem Oe(hM:aG B ι σ a w){T:Nat}{x:Operand}{lo hi mx:Option Operand}(ho:o.op= .slice T x lo hi mx)(h:MG C o T x lo hi mx σ K):NC B C ι o σ K a w:=by
 intro next Q hnext
 have hev:=hM.ev x;unfold MG at h;split at h
 .rename_i k n hx;rw[hx]at hev;have hev:a.eval x=ι k:=hev;have hevn:=hM.ev n;split at h
  .rename_i E sz xs kk i E' hk hn hu;rw[hn]at hevn;have hevn:a.eval n= .int kk i:=hevn;split at h
   case h_2=>exact h.elim
   rename_i hE';obtain⟨h0,h1,h⟩:=h;obtain⟨hr,hown⟩:=mV hM hk;have hrt:dU sz (xs.take i.toNat):=⟨λe he=>hr.len e (List.mem_of_mem_take he),λe he=>hr.one e (List.mem_of_mem_take he)⟩
   have hlen:(xs.take i.toNat).length=i.toNat:=by rw[List.length_take];omega
   obtain⟨it,_,hit,_⟩:=eH hE';rcases hown.2 with⟨hv,hnl⟩|⟨g,cap,cur,hv,hb0,hg,hnc,hcm,hcs,htake⟩
   .have hi0:i=0:=by omega
    subst hi0
    have hrun:(execOp a.eval o).run C.P w= .ok (.value (.slice none 0 0)) w:=by
     unfold execOp;simp[ho,hev,hv,hevn,Instr.sliceAt,run_underlying hu,Instr.slice,Instr.sliceBounds,Instr.sliceBound,asIntOf,run_sizeOf hit]
    unfold Oper.wp;rw[hrun,Oper.upon_value];refine hnext (upd ι k (.slice none 0 0)) _ _ _ ?_ h (iS hM);refine aG.put ?_ o.dst (by show _=_;simp);refine hM.place k _ _ (zM.refl _ _) ⟨hrt,?_⟩ rfl (λb hb=>by simp[blk]at hb);simp only[Int.toNat_zero,List.take_zero,List.flatten_nil,List.length_nil];exact World.ownsRow_nil w 0 E sz
   .have hrun:(execOp a.eval o).run C.P w= .ok (.value (.slice (some ⟨g,0,none⟩) i.toNat cap)) w:=by
     have hic:i<=(cap:Int):=by omega
     unfold execOp;simp[ho,hev,hv,hevn,Instr.sliceAt,run_underlying hu,Instr.slice,Instr.sliceBounds,Instr.sliceBound,asIntOf,run_sizeOf hit,h0,hic,Addr.add_none]
    unfold Oper.wp;rw[hrun,Oper.upon_value];refine hnext (upd ι k (.slice (some ⟨g,0,none⟩) i.toNat cap)) _ _ _ ?_ h (iS hM);refine aG.put ?_ o.dst (by show _=_;simp);refine hM.place k _ _ (zM.refl _ _) ⟨hrt,bM hrt.len,.inr ⟨g,cap,cur,by rw[hlen],Nat.zero_le _,hg,aC,hcm,hcs,?_⟩⟩ rfl (λb hb=>.inr ⟨⟨_,hk⟩,by rw[hv];exact hb⟩);rw[hlen]
    have hsub:(xs.take i.toNat).flatten=xs.flatten.take (i.toNat*sz):=by
     have:xs=xs.take i.toNat++xs.drop i.toNat:=(List.take_append_drop _ _).symm;rw[show xs.flatten=(xs.take i.toNat).flatten++(xs.drop i.toNat).flatten by rw[<-List.flatten_append,List.take_append_drop]];rw[List.take_left'];rw[bM hrt.len,hlen]
    rw[hsub, <-htake,List.take_take];congr 1;have:i.toNat*sz<=xs.length*sz:=Nat.mul_le_mul_right _ aC;omega
  .exact h.elim
 .rename_i ad len cap n hx;rw[hx]at hev;have hev:a.eval x= .slice ad len cap:=hev;have hevn:=hM.ev n;split at h
  .rename_i kk i E' hn hu;rw[hn]at hevn;have hevn:a.eval n= .int kk i:=hevn;split at h
   case h_2=>exact h.elim
   rename_i hE';obtain⟨h0,h1,h⟩:=h;obtain⟨it,_,hit,_⟩:=eH hE'
   have hrun:(execOp a.eval o).run C.P w= .ok (.value (.slice ad i.toNat cap)) w:=by
    unfold execOp;simp[ho,hev,hevn,Instr.sliceAt,run_underlying hu,Instr.slice,Instr.sliceBounds,Instr.sliceBound,asIntOf,run_sizeOf hit,h0,h1];cases ad<;>simp[Addr.add]
   unfold Oper.wp;rw[hrun,Oper.upon_value];exact hnext ι _ _ _ (hM.put o.dst (x:=.at (.val _)) rfl) h (iS hM)
  .exact h.elim
 .rename_i ad len cap n k hx;rw[hx]at hev;have hev:a.eval x= .slice ad len cap:=hev;have hevn:=hM.ev n;have hevk:=hM.ev k;split at h
  .rename_i kk i kj j E' hn hk hu;rw[hn]at hevn;rw[hk]at hevk;have hevn:a.eval n= .int kk i:=hevn;have hevk:a.eval k= .int kj j:=hevk;split at h
   case h_2=>exact h.elim
   rename_i hE';obtain⟨h0,h1,h2,h⟩:=h;obtain⟨it,_,hit,_⟩:=eH hE'
   have hrun:(execOp a.eval o).run C.P w= .ok (.value (.slice ad i.toNat j.toNat)) w:=by
    have h3:0<=j:=by omega
    have h4:max j 0=j:=by omega
    unfold execOp;simp[h4,ho,hev,hevn,hevk,Instr.sliceAt,run_underlying hu,Instr.slice,Instr.sliceBounds,Instr.sliceBound,asIntOf,run_sizeOf hit,h0,h1,h2,h3];cases ad<;>simp[Addr.add]
   unfold Oper.wp;rw[hrun,Oper.upon_value];exact hnext ι _ _ _ (hM.put o.dst (x:=.at (.val _)) rfl) h (iS hM)
  .exact h.elim
 .rename_i ad len cap n hx;rw[hx]at hev;have hev:a.eval x= .slice ad len cap:=hev;have hevn:=hM.ev n;split at h
  .rename_i kk i E' hn hu;rw[hn]at hevn;have hevn:a.eval n= .int kk i:=hevn;split at h
   case h_2=>exact h.elim
   rename_i hE';obtain⟨h0,h1,hc,h⟩:=h;obtain⟨it,_,hit,hu2,hcl,hpos⟩:=eH hE';have hsz:=run_sizeOf hit;obtain⟨s,hs⟩:∃s:Sl,Hp (C.P.cellsOf E') ⟨ad,len,cap⟩ i.toNat s:=⟨⟨_,_,_⟩,rfl,rfl,rfl⟩
   have hrun:(execOp a.eval o).run C.P w= .ok (.value (.slice s.a s.len s.cap)) w:=by
    have h3:=hs.a_;have h4:=hs.len;have h5:=hs.cap;dsimp only at h3 h4 h5;unfold execOp;simp[ho,hev,hevn,Instr.sliceAt,run_underlying hu,Instr.slice,Instr.sliceBounds,Instr.sliceBound,asIntOf,hsz,h0,h1,h3,h4,h5,hcl]
   unfold Oper.wp;rw[hrun,Oper.upon_value];exact hnext ι _ _ _ (hM.put o.dst (x:=.at (.val _)) rfl) (h s hs) (iS hM)
  .exact h.elim
 .rename_i b off n hx;rw[hx]at hev;have hev:a.eval x= .pointer (some ⟨b,off,none⟩):=hev;have hevn:=hM.ev n;split at h
  .rename_i kk i len E' hn hu;rw[hn]at hevn;have hevn:a.eval n= .int kk i:=hevn;split at h
   case h_2=>exact h.elim
   rename_i hE';obtain⟨h0,h1,h⟩:=h;obtain⟨it,_,hit,_⟩:=eH hE'
   have hrun:(execOp a.eval o).run C.P w= .ok (.value (.slice (some ⟨b,off,none⟩) i.toNat len)) w:=by
    unfold execOp;simp[ho,hev,hevn,Instr.sliceAt,run_underlying hu,Instr.sliceBounds,Instr.sliceBound,asIntOf,run_sizeOf hit,h0,h1,Instr.sureAddr,asAddr,Addr.add]
   unfold Oper.wp;rw[hrun,Oper.upon_value];exact hnext ι _ _ _ (hM.put o.dst (x:=.at (.val _)) rfl) h (iS hM)
  .exact h.elim
 .exact h.elim
structure Ld(ι:Nat->Value)(σ σ':St)(ks:List Nat):Prop where
 cells:∀k p T cs,nth σ.own k=some (some (.cellsP p T cs))->k∉ks->∃cs',nth σ'.own k=some (some (.cellsP p T cs'))
 imm:σ'.h=σ.h
 lst:∀x k,σ'.ev x= .at (.lst k)->σ.ev x= .at (.lst k)
 m_:∀b,σ.m b=none->σ'.m b≠none->∃k∈ks,blk (ι k)=some b
theorem JL{σ:St}{k:Nat}{f:At->At}{m:MH}{h:PH}{own:List (Option Own)}(hf:∀x j,f x≠ .lst j){x:Operand}{j:Nat}(hx:St.ev {sl:=σ.sl.map (SV.sub k f),own:=own,m:=m,h:=h} x= .at (.lst j)):σ.ev x= .at (.lst j):=by
 rcases RS σ k f m h own x with he|⟨v,he⟩
 .exact Sp hf (he▸hx)
 .rcases he with rfl|⟨g,rfl⟩|⟨g,rfl⟩<;>exact hx
theorem ZW(hM:aG B ι σ a w){k T:Nat}{p:Option Nat}{cs:List At}{l:List Value}(hk:nth σ.own k=some (some (.cellsP p T cs)))(hl:oZ cs=some l):
 ∃(b:Nat)(m':MH),bY σ.m σ.h b/\eW σ.m m' b (.cells l.toArray T (0,0))/\
  aG B ι {(σ.sub k (λ |.ptr _ o=>.val (.pointer (some ⟨b,o,none⟩))|_=>.junk)).setOwn k none with m:=m'} a w/\
  Ld ι σ {(σ.sub k (λ |.ptr _ o=>.val (.pointer (some ⟨b,o,none⟩))|_=>.junk)).setOwn k none with m:=m'} [k]:=by
 obtain⟨b,vs,hι,hh,hd⟩:=qN hM hk;have hvs:vs.toList=l:=Bi hl hd;have hbk:blk (ι k)=some b:=by rw[hι];rfl
 obtain⟨f1,f2,f3⟩:=hM.fresh k _ b hk hbk
 let m':MH:=λb'=>if b'=b then some (.cells l.toArray T (0,0))else σ.m b'
 have hM1:aG B ι ((σ.sub k (λ |.ptr _ o=>.val (.pointer (some ⟨b,o,none⟩))|_=>.junk)).setOwn k none) a w:=by
  have:=hM.drop k (ι k) (hM.one k) (λ |.ptr _ o=>.val (.pointer (some ⟨b,o,none⟩))|_=>.junk) (by
   intro x v hx hd;cases x<;>simp only[At.key,Option.some.injEq,reduceCtorEq]at hx
   case lst=>trivial
   case el=>trivial
   case ptr j off=>
    subst hx;obtain⟨b',hb',hv⟩:=hd;rw[hι]at hb';simp only[Value.pointer.injEq,Option.some.injEq,Addr.mk.injEq]at hb';obtain⟨rfl, -, -⟩:=hb';exact hv)
  rwa [D7]at this
 have hne:∀j o',nth ((σ.sub k (λ |.ptr _ o=>.val (.pointer (some ⟨b,o,none⟩))|_=>.junk)).setOwn k none).own j=some (some o')->blk (ι j)≠some b:=by
  intro j o' hj hb;obtain⟨hne,o1,ho1,_⟩:=lM hj;exact hne (hM.dist j k _ _ b ho1 hk hb hbk)
 refine⟨b,m',⟨f2,f3⟩,⟨by simp[m'],λb' hb'=>by simp[m',hb']⟩,⟨hM1.slots,hM1.defers,hM1.own,hM1.dist,?_,?_,hM1.one⟩,?_⟩
 .intro j o' b' hj hb';obtain⟨g1,g2,g3⟩:=hM1.fresh j o' b' hj hb';refine⟨g1,?_,g3⟩;have:b'≠b:=λe=>hne j o' hj (e▸hb');show(if b'=b then _ else σ.m b')=none;rw[if_neg this];exact g2
 .have hw:=hM.wrel;refine⟨hw.tape,hw.os,hw.output,hw.drawn,hw.size,hw.frame,hw.hsat,?_,?_,hw.hle,hw.hold,?_⟩
  .intro b' ob hb';have hb'':(if b'=b then some (Obj.cells l.toArray T (0,0))else σ.m b')=some ob:=hb';by_cases e:b'=b
   .subst e;rw[if_pos rfl]at hb'';rw[hh, <-hb''];congr 2;apply Array.toList_inj.1;simpa using hvs
   .rw[if_neg e]at hb'';exact hw.msat b' ob hb''
  .intro b' ob hb' i;have hb'':(if b'=b then some (Obj.cells l.toArray T (0,0))else σ.m b')=some ob:=hb';by_cases e:b'=b
   .subst e;exact f3 i
   .rw[if_neg e]at hb'';exact hw.disj b' ob hb'' i
  .intro b' ob hb';have hb'':(if b'=b then some (Obj.cells l.toArray T (0,0))else σ.m b')=some ob:=hb';by_cases e:b'=b
   .subst e;exact f1
   .rw[if_neg e]at hb'';exact hw.mfr b' ob hb''
 .refine⟨?_,rfl,λx j hx=>JL (λx j=>by cases x<;>simp) hx,λb' h1 h2=>⟨k,by simp,?_⟩⟩
  case refine_2=>
   have h2:(if b'=b then some (Obj.cells l.toArray T (0,0))else σ.m b')≠none:=h2;by_cases e:b'=b
   .rw[e];exact hbk
   .rw[if_neg e]at h2;exact(h2 h1).elim
  intro j p' T' cs' hj hnk;simp only[List.mem_singleton]at hnk;refine⟨cs'.map (At.sub k (λ |.ptr _ o=>.val (.pointer (some ⟨b,o,none⟩))|_=>.junk)),?_⟩
  .simp only[St.setOwn,St.sub,tG,vC,hnk,false_and,if_false,hj];rfl
theorem ZY{σ τ υ:St}{k:Nat}{ks:List Nat}(h:Ld ι σ τ [k])(h':Ld ι τ υ ks){b:Nat}(h1:σ.m b=none)(h2:υ.m b≠none):∃j∈k::ks,blk (ι j)=some b:=by
 cases e:τ.m b with
 |none=>
  obtain⟨j,hj,hb⟩:=h'.m_ b e h2;exact⟨j,List.mem_cons_of_mem _ hj,hb⟩
 |some o=>
  obtain⟨j,hj,hb⟩:=h.m_ b h1 (by rw[e];simp);exact⟨j,by simp at hj;simp[hj],hb⟩
theorem sW:∀(ks:List Nat)(σ:St),aG B ι σ a w->BJ σ K ks->∃σ',aG B ι σ' a w/\K σ'/\Ld ι σ σ' ks
 |[],σ,hM,h=>⟨σ,hM,h,⟨λ_ _ _ cs h _=>⟨cs,h⟩,rfl,λ_ _ h=>h,λ_ h1 h2=>(h2 h1).elim⟩⟩
 |k::ks,σ,hM,h=>by
  simp only[BJ]at h;split at h
  .rename_i p T cs hk;split at h
   .rename_i l hl;obtain⟨b,m',hun,hup,hM1,hld⟩:=ZW hM hk hl;obtain⟨σ',hM',hK,hld'⟩:=sW ks _ hM1 (h b m' hun hup);refine⟨σ',hM',hK,⟨λj p' T' cs' hj hn=>?_,hld'.imm.trans hld.imm,λx j hx=>hld.lst x j (hld'.lst x j hx),λb h1 h2=>ZY hld hld' h1 h2⟩⟩;simp only[List.mem_cons,not_or]at hn;obtain⟨cs'',hj'⟩:=hld.cells j p' T' cs' hj (by simpa using hn.1);exact hld'.cells j p' T' cs'' hj' hn.2
   .exact h.elim
  .exact h.elim
theorem VB(hM:aG B ι σ a w){k E sz:Nat}{xs:List (List Value)}(hk:nth σ.own k=some (some (.lst E sz xs))):
 ∃(s:Sl)(m':MH),YI σ.m m' σ.h s E sz xs/\aG B ι {(σ.sub k (λ |.lst _=>.val s.val|_=>.junk)).setOwn k none with m:=m'} a w/\
  Ld ι σ {(σ.sub k (λ |.lst _=>.val s.val|_=>.junk)).setOwn k none with m:=m'} [k]:=by
 obtain⟨hr,hown⟩:=mV hM hk
 obtain⟨s,hs⟩:∃s:Sl,ι k=s.val:=by
  rcases hown.2 with⟨hv,_⟩|⟨g,cap,cur,hv,_⟩
  .exact⟨⟨none,0,0⟩,hv⟩
  .exact⟨⟨some ⟨g,0,none⟩,xs.length,cap⟩,hv⟩
 have hM1:aG B ι ((σ.sub k (λ |.lst _=>.val s.val|_=>.junk)).setOwn k none) a w:=by
  have:=hM.drop k (ι k) (hM.one k) (λ |.lst _=>.val s.val|_=>.junk) (by
   intro x v hx hd;cases x<;>simp only[At.key,Option.some.injEq,reduceCtorEq]at hx
   case ptr=>trivial
   case el=>trivial
   case lst j=>
    subst hx;have hd:v=ι j:=hd;show v=s.val;rw[hd,hs])
  rwa [D7]at this
 have hld:∀m':MH,(∀b,σ.m b=none->m' b≠none->blk (ι k)=some b)->Ld ι σ {(σ.sub k (λ |.lst _=>.val s.val|_=>.junk)).setOwn k none with m:=m'} [k]:=by
  intro m' hmm;refine⟨?_,rfl,λx j hx=>JL (λx j=>by cases x<;>simp) hx,λb' h1 h2=>⟨k,by simp,hmm b' h1 h2⟩⟩;intro j p' T' cs' hj hnk;simp only[List.mem_singleton]at hnk;refine⟨cs'.map (At.sub k (λ |.lst _=>.val s.val|_=>.junk)),?_⟩;simp only[St.setOwn,St.sub,tG,vC,hnk,false_and,if_false,hj];rfl
 rcases hown.2 with⟨hv,hnl⟩|⟨g,cap,cur,hv,hb0,hg,hnc,hcm,hcs,htake⟩
 .have hsn:s=⟨none,0,0⟩:=by
   rw[hs]at hv;obtain⟨x,y,z⟩:=s;simp only[Sl.val,Value.slice.injEq]at hv;obtain⟨rfl,rfl,rfl⟩:=hv;rfl
  subst hsn;exact⟨⟨none,0,0⟩,σ.m,⟨⟨hr,.inl ⟨rfl,List.eq_nil_of_length_eq_zero hnl⟩⟩,λ_ _=>rfl,λb i e=>by cases e⟩,hM1,hld σ.m (λb h1 h2=>(h2 h1).elim)⟩
 .have hbk:blk (ι k)=some g:=by rw[hv];rfl
  obtain⟨f1,f2,f3⟩:=hM.fresh k _ g hk hbk
  have hsn:s=⟨some ⟨g,0,none⟩,xs.length,cap⟩:=by
   rw[hs]at hv;obtain⟨x,y,z⟩:=s;simp only[Sl.val,Value.slice.injEq]at hv;obtain⟨rfl,rfl,rfl⟩:=hv;rfl
  subst hsn
  let m':MH:=λb'=>if b'=g then some (.cells cur E (0,0))else σ.m b'
  have hne:∀j o',nth ((σ.sub k (λ |.lst _=>.val (Sl.mk (some ⟨g,0,none⟩) xs.length cap).val|_=>.junk)).setOwn k none).own j=some (some o')->blk (ι j)≠some g:=by
   intro j o' hj hb;obtain⟨hne,o1,ho1,_⟩:=lM hj;exact hne (hM.dist j k _ _ g ho1 hk hb hbk)
  refine⟨⟨some ⟨g,0,none⟩,xs.length,cap⟩,m',⟨⟨hr,.inr ⟨g,cap,cur,rfl,by simp[m'],hnc,hcm,hcs,htake⟩⟩,λb' hb'=>?_,λb i e=>?_⟩,⟨hM1.slots,hM1.defers,hM1.own,hM1.dist,?_,?_,hM1.one⟩,hld m' (λb h1 h2=>?_)⟩
  .have:b'≠g:=λe=>hb' 0 (by rw[e]);simp[m',this]
  .simp only[Option.some.injEq,Addr.mk.injEq]at e;obtain⟨rfl,_,_⟩:=e;exact⟨f2,f3⟩
  .intro j o' b' hj hb';obtain⟨g1,g2,g3⟩:=hM1.fresh j o' b' hj hb';refine⟨g1,?_,g3⟩;have:b'≠g:=λe=>hne j o' hj (e▸hb');show(if b'=g then _ else σ.m b')=none;rw[if_neg this];exact g2
  .have hw:=hM.wrel;refine⟨hw.tape,hw.os,hw.output,hw.drawn,hw.size,hw.frame,hw.hsat,?_,?_,hw.hle,hw.hold,?_⟩
   .intro b' ob hb';have hb'':(if b'=g then some (Obj.cells cur E (0,0))else σ.m b')=some ob:=hb';by_cases e:b'=g
    .subst e;rw[if_pos rfl]at hb'';rw[hg, <-hb'']
    .rw[if_neg e]at hb'';exact hw.msat b' ob hb''
   .intro b' ob hb' i;have hb'':(if b'=g then some (Obj.cells cur E (0,0))else σ.m b')=some ob:=hb';by_cases e:b'=g
    .subst e;exact f3 i
    .rw[if_neg e]at hb'';exact hw.disj b' ob hb'' i
   .intro b' ob hb';have hb'':(if b'=g then some (Obj.cells cur E (0,0))else σ.m b')=some ob:=hb';by_cases e:b'=g
    .subst e;exact f1
    .rw[if_neg e]at hb'';exact hw.mfr b' ob hb''
  .have h2:(if b=g then some (Obj.cells cur E (0,0))else σ.m b)≠none:=h2;by_cases e:b=g
   .rw[e,hv];rfl
   .rw[if_neg e]at h2;exact(h2 h1).elim
theorem yS:∀(ks:List Nat)(σ:St),aG B ι σ a w->zD σ K ks->∃σ',aG B ι σ' a w/\K σ'/\Ld ι σ σ' ks
 |[],σ,hM,h=>⟨σ,hM,h,⟨λ_ _ _ cs h _=>⟨cs,h⟩,rfl,λ_ _ h=>h,λ_ h1 h2=>(h2 h1).elim⟩⟩
 |k::ks,σ,hM,h=>by
  simp only[zD]at h;split at h
  .rename_i E sz xs hk;obtain⟨s,m',hnew,hM1,hld⟩:=VB hM hk;obtain⟨σ',hM',hK,hld'⟩:=yS ks _ hM1 (h s m' hnew);refine⟨σ',hM',hK,⟨λj p' T' cs' hj hn=>?_,hld'.imm.trans hld.imm,λx j hx=>hld.lst x j (hld'.lst x j hx),λb h1 h2=>ZY hld hld' h1 h2⟩⟩;simp only[List.mem_cons,not_or]at hn;obtain⟨cs'',hj'⟩:=hld.cells j p' T' cs' hj (by simpa using hn.1);exact hld'.cells j p' T' cs'' hj' hn.2
  .exact h.elim
end
end Go.Vc
namespace Go.Vc
open Go
def zU(w:World):CV->Value->Prop
 |.val v,u=>u=v
 |.lst E sz xs,u=>dU sz xs/\w.ownsRow 0 E sz u xs.length xs.flatten
 |.tup rs,u=>∃us:Array Value,u= .tuple us/\rs=us.toList.map .val
def eJ:CV->Value->Option Nat
 |.lst _ _ _,u=>blk u
 |_,_=>none
def wT(w:World):List CV->List Value->Prop
 |[],[]=>True
 |c::cs,v::vs=>zU w c v/\wT w cs vs
 |_,_=>False
def mX(m:MH)(cvs:List CV)(vs:List Value)(b:Nat):Prop:=m b≠none\/∃(i:Nat)(c:CV)(u:Value),cvs[i]? =some c/\vs[i]? =some u/\eJ c u=some b
structure uD(w:World)(m:MH)(h:PH)(cvs:List CV)(vs:List Value):Prop where
 args:wT w cvs vs
 hsat:∀b o v,h b o=some v->w.cell? ⟨b,o,none⟩=some v
 msat:∀b o,m b=some o->w.heap[b]? =some o
 disj:∀b o,m b=some o->∀i,h b i=none
 sep:∀(i j:Nat)(c d:CV)(u v:Value)(b:Nat),cvs[i]? =some c->vs[i]? =some u->cvs[j]? =some d->vs[j]? =some v->eJ c u=some b->eJ d v=some b->i=j
 free:∀(i:Nat)(c:CV)(u:Value)(b:Nat),cvs[i]? =some c->vs[i]? =some u->eJ c u=some b->m b=none/\∀o,h b o=none
def Sound(P:Program)(f:FuncId)(S:Spec):Prop:=
 (∃fn,P.funcs[f]? =some fn/\fn.body.isSome=true/\(fn.name== "runtime.NumGoroutine")=false)/\
 ∀cvs vs m h w K,S cvs m h K->uD w m h cvs vs->
  Calls P f vs.toArray w λe w'=>∃r u m' h',e= .returned u/\K r m' h'/\zU w' r u/\qS ⟨w,mX m cvs vs,h,[]⟩ m' h' w'/\
   (∀b,eJ r u=some b->(w.heap.size<=b\/mX m cvs vs b)/\m' b=none/\∀i,h' b i=none)
section
variable{B:mH}{C:Ctx}{ι:Nat->Value}{σ:St}{a:Act}{w:World}{o:Oper}{K:St->Prop}
theorem DE(sz:Nat):dU sz []:=⟨(λe he=>by cases he),(λe he=>by cases he)⟩
theorem Ba(hM:aG B ι σ a w){mv:List Nat}:∀(i:Nat)(l:List Operand)(ts:List TypeId)(cvs:List CV),mP C.P σ mv i l ts=some cvs->
 wT w cvs (l.map a.eval)/\∀(j:Nat)(c:CV)(u:Value)(b:Nat),cvs[j]? =some c->(l.map a.eval)[j]? =some u->eJ c u=some b->
  ∃x k ow,l[j]? =some x/\mv.contains (i+j)=true/\σ.ev x= .at (.lst k)/\nth σ.own k=some (some ow)/\u=ι k
 |i,[],ts,cvs,h=>by
  simp[mP]at h;subst h;exact⟨trivial,λj c u b hj=>by simp at hj⟩
 |i,x::r,ts,cvs,h=>by
  simp only[mP]at h;split at h
  .cases h
  .rename_i rest hrest;obtain⟨ih1,ih2⟩:=Ba hM (i+1) r ts.tail rest hrest
   have tailcase:∀(c0:CV),(∀(u:Value)(b:Nat),(a.eval x)=u->eJ c0 u=some b->∃k ow,mv.contains i=true/\σ.ev x= .at (.lst k)/\nth σ.own k=some (some ow)/\u=ι k)->
    ∀(j:Nat)(c:CV)(u:Value)(b:Nat),(c0::rest)[j]? =some c->((x::r).map a.eval)[j]? =some u->eJ c u=some b->
     ∃x' k ow,(x::r)[j]? =some x'/\mv.contains (i+j)=true/\σ.ev x'= .at (.lst k)/\nth σ.own k=some (some ow)/\u=ι k:=by
    intro c0 h0 j c u b hj hu hb;cases j with
    |zero=>
     simp at hj hu;subst hj;obtain⟨k,ow,h1,h2,h3,h4⟩:=h0 u b hu hb;exact⟨x,k,ow,rfl,by simpa using h1,h2,h3,h4⟩
    |succ j=>
     simp only[List.getElem?_cons_succ,List.map_cons]at hj hu⊢
     obtain⟨x',k,ow,h1,h2,h3⟩:=ih2 j c u b hj hu hb;exact⟨x',k,ow,h1,by rw[show i+(j+1)=i+1+j by omega];exact h2,h3⟩
   split at h
   .rename_i hmv;split at h
    .rename_i k hx;have hev:=hM.ev x;rw[hx]at hev;have hev:a.eval x=ι k:=hev;split at h
     .rename_i E sz xs hk;simp only[Option.some.injEq]at h;subst h;obtain⟨hr,ho⟩:=mV hM hk;refine⟨⟨⟨hr,by rw[hev];exact ho⟩,ih1⟩,tailcase _ (λu b hu _=>⟨k,_,hmv,hx,hk,by rw[<-hu,hev]⟩)⟩
     .cases h
    .rename_i hx;have hev:=hM.ev x;rw[hx]at hev;have hev:a.eval x= .slice none 0 0:=hev;split at h
     .rename_i E z hE;simp only[Option.some.injEq]at h;subst h;refine⟨⟨⟨DE _,by rw[hev];exact World.ownsRow_nil w 0 E _⟩,ih1⟩,tailcase _ (λu b hu hb=>?_)⟩;rw[hev]at hu;subst hu;simp[eJ,blk]at hb
     .cases h
    .cases h
   .split at h
    .rename_i u hu;simp only[Option.some.injEq]at h;subst h;exact⟨⟨hM.rho hu,ih1⟩,tailcase _ (λu b _ hb=>by simp[eJ]at hb)⟩
    .cases h
theorem yR{mv:List Nat}:∀(i:Nat)(l:List Operand)(j:Nat)(x:Operand)(k:Nat),l[j]? =some x->mv.contains (i+j)=true->σ.ev x= .at (.lst k)->k∈gB σ mv i l
 |i,[],j,x,k,h,_,_=>by simp at h
 |i,y::r,0,x,k,h,hm,hx=>by
  simp at h;subst h;simp only[Nat.add_zero]at hm;simp only[gB,hm,hx];exact List.mem_cons_self
 |i,y::r,j+1,x,k,h,hm,hx=>by
  simp only[List.getElem?_cons_succ]at h;have:=yR (i+1) r j x k h (by rw[show i+1+j=i+(j+1)by omega];exact hm) hx;simp only[gB];split
  .exact List.mem_cons_of_mem _ this
  .exact this
theorem Dt{mv:List Nat}:∀(i:Nat)(l:List Operand),FZ (gB σ mv i l)=true->∀(j j':Nat)(x x':Operand)(k:Nat),l[j]? =some x->l[j']? =some x'->
 mv.contains (i+j)=true->mv.contains (i+j')=true->σ.ev x= .at (.lst k)->σ.ev x'= .at (.lst k)->j=j'
 |i,[],_,j,_,_,_,_,h,_,_,_,_,_=>by simp at h
 |i,y::r,hnd,j,j',x,x',k,h,h',hm,hm',hx,hx'=>by
  have key:∀j x,r[j]? =some x->mv.contains (i+(j+1))=true->σ.ev x= .at (.lst k)->∀x0,y=x0->mv.contains i=true->σ.ev x0= .at (.lst k)->False:=by
   intro j x hj hmj hxj x0 hy hm0 hx0;subst hy;simp only[gB,hm0,hx0]at hnd;have hmem:=yR (σ:=σ) (mv:=mv) (i+1) r j x k hj (by rw[show i+1+j=i+(j+1)by omega];exact hmj) hxj;simp only[FZ]at hnd;rw[List.contains_eq_mem]at hnd;simp[hmem]at hnd
  have hnd':FZ (gB σ mv (i+1) r)=true:=by
   simp only[gB]at hnd;split at hnd
   .simp only[FZ]at hnd;split at hnd
    .cases hnd
    .exact hnd
   .exact hnd
  cases j with
  |zero=>
   cases j' with
   |zero=>rfl
   |succ j'=>
    simp at h;simp only[List.getElem?_cons_succ]at h';exact(key j' x' h' hm' hx' x h (by simpa using hm) hx).elim
  |succ j=>
   cases j' with
   |zero=>
    simp at h';simp only[List.getElem?_cons_succ]at h;exact(key j x h hm hx x' h' (by simpa using hm') hx').elim
   |succ j'=>
    simp only[List.getElem?_cons_succ]at h h';have:=Dt (i+1) r hnd' j j' x x' k h h' (by rw[show i+1+j=i+(j+1)by omega];exact hm) (by rw[show i+1+j'=i+(j'+1)by omega];exact hm') hx hx';rw[this]
theorem Du:∀(ks:List Nat)(σ:St),aG B ι σ a w->aG B ι (vT σ ks) a w/\(vT σ ks).m=σ.m/\(vT σ ks).h=σ.h/\
 (∀j o',nth (vT σ ks).own j=some (some o')->j∉ks/\∃o1,nth σ.own j=some (some o1))
 |[],σ,hM=>⟨hM,rfl,rfl,λj o' h=>⟨by simp,o',h⟩⟩
 |k::ks,σ,hM=>by
  have h1:=hM.kill k (ι k) (hM.one k);rw[D7]at h1;obtain⟨g1,g2,g3,g4⟩:=Du ks (σ.kill k) h1;refine⟨g1,g2,g3,λj o' hj=>?_⟩;obtain⟨hn,o1,ho1⟩:=g4 j o' hj;rw[HZ]at ho1;obtain⟨hne,o2,ho2,_⟩:=lM ho1;exact⟨by simp[hne,hn],o2,ho2⟩
theorem qS.trans{m m':MH}{h h':PH}{w w':World}{E:Nat->Prop}(h1:qS B m h w)(h2:qS ⟨w,E,h,[]⟩ m' h' w')(hE:∀b,E b->B.w0.heap.size<=b\/B.E b):qS B m' h' w':=by
 refine⟨h2.tape.trans h1.tape,h2.os.trans h1.os,h2.output.trans h1.output,Nat.le_trans h1.drawn h2.drawn,Nat.le_trans h1.size h2.size,?_,h2.hsat,h2.msat,h2.disj,λb o v hv=>h2.hle b o v (h1.hle b o v hv),?_,?_⟩
 .intro b hb hn
  have hnE:¬E b:=λe=>by
   rcases hE b e with h3|h3
   .omega
   .exact hn h3
  rw[h2.frame b (Nat.lt_of_lt_of_le hb h1.size) hnE];exact h1.frame b hb hn
 .intro b hb hn
  have hnE:¬E b:=λe=>by
   rcases hE b e with h3|h3
   .omega
   .exact hn h3
  rw[h2.hold b (Nat.lt_of_lt_of_le hb h1.size) hnE];exact h1.hold b hb hn
 .intro b ob hb;rcases h2.mfr b ob hb with h3|h3
  .exact .inl (Nat.le_trans h1.size h3)
  .exact hE b h3
theorem aG.called{m':MH}{h':PH}{w':World}{E:Nat->Prop}(hM:aG B ι σ a w)(h2:qS ⟨w,E,σ.h,[]⟩ m' h' w')(hE:∀b,E b->B.w0.heap.size<=b\/B.E b)
 (hown:∀j o' b,nth σ.own j=some (some o')->blk (ι j)=some b->¬E b):aG B ι {σ with m:=m',h:=h'} a w':=by
 refine⟨hM.slots,hM.defers,?_,hM.dist,?_,hM.wrel.trans h2 hE,hM.one⟩
 .intro j o' hj;have hok:=hM.own j o' hj;exact hok.world (λb hb=>h2.frame b (lI hok hb) (hown j o' b hj hb))
 .intro j o' b hj hb;have hok:=hM.own j o' hj;obtain⟨f1,f2,f3⟩:=hM.fresh j o' b hj hb;have hlt:=lI hok hb;have hn:=hown j o' b hj hb;refine⟨f1,?_,λi=>?_⟩
  .show m' b=none;cases hm:m' b with
   |none=>rfl
   |some ob=>
    rcases h2.mfr b ob hm with h3|h3
    .have h3:w.heap.size<=b:=h3;omega
    .exact(hn h3).elim
  .have:h' b=σ.h b:=h2.hold b hlt hn;show h' b i=none;rw[this];exact f3 i
theorem D9:∀{rs:List CV}{l:List (Sum At (List At))}{us:List Value},zW rs=some l->rs=us.map .val->Ka ι l us
 |[],l,us,h,hr=>by
  simp[zW]at h;subst h;cases us with
  |nil=>trivial
  |cons u us=>simp at hr
 |.val v::r,l,us,h,hr=>by
  cases us with
  |nil=>simp at hr
  |cons u us=>
   simp only[List.map_cons,List.cons.injEq,CV.val.injEq]at hr;simp only[zW]at h;split at h
   .rename_i l' hl';simp only[Option.some.injEq]at h;subst h;exact⟨hr.1.symm,D9 hl' hr.2⟩
   .cases h
 |.lst _ _ _::_,l,us,h,_=>by simp[zW]at h
 |.tup _::_,l,us,h,_=>by simp[zW]at h
theorem G0{E sz n:Nat}{v:Value}{l:List Value}(h:w.ownsRow 0 E sz v n l):v.oneCell'=true:=by
 rcases h.2 with⟨rfl,_⟩|⟨g,cap,cur,rfl,_⟩<;>rfl
theorem GY{σ:St}{k:Nat}:∀{l:List Operand},k∈kZ σ l->∃x∈l,∃off,σ.ev x= .at (.ptr k off)
 |[],h=>by cases h
 |x::r,h=>by
  have ih:=λh=>GY (σ:=σ) (k:=k) (l:=r) h;have ih':k∈kZ σ r->∃y∈x::r,∃off,σ.ev y= .at (.ptr k off):=λh=>let⟨y,hy,off,e⟩:=ih h;⟨y,List.mem_cons_of_mem _ hy,off,e⟩
  simp only[kZ]at h;split at h
  .rename_i k' off hx;split at h
   .exact ih' h
   .rcases List.mem_cons.1 h with rfl|h
    .exact⟨x,List.mem_cons_self,off,hx⟩
    .exact ih' h
  .exact ih' h
theorem RX(hspecs:∀g S,assoc C.specs g=some S->Sound C.P g S)(hM:aG B ι σ a w){c:Call}{g:Operand}{f:FuncId}{fs cs:Array Value}(ho:o.op= .call c)(hc:c.callee= .value g)
 (hg:σ.ev g= .at (.val (.func (.func f) fs cs)))(hfs:fs.toList=[])(hcs:cs.toList=[])(h:RY C o f c.args.toList c.argTypes.toList σ K):NC B C ι o σ K a w:=by
 intro next Q hnext
 unfold RY at h;split at h
 .exact h.elim
 .rename_i S hS;obtain⟨⟨fn,hfn,hbody,hname⟩,hsound⟩:=hspecs f S hS;obtain⟨τ,hMτ,h,hfz⟩:=kH _ _ hM h;obtain⟨υ,hMυ,h,hld⟩:=sW _ _ hMτ h;split at h
  .rename_i cvs hcvs hnd;generalize CR C f=mv at*
   obtain⟨hargs,hblk⟩:=Ba hMυ 0 _ _ _ hcvs
   have hpre:uD w υ.m υ.h cvs (c.args.toList.map a.eval):=by
    refine⟨hargs,hMυ.wrel.hsat,hMυ.wrel.msat,hMυ.wrel.disj,?_,?_⟩
    .intro i j c1 d1 u v b hi hu hj hv hb hb';obtain⟨x,k,ow,hx,hm,hk,hown,rfl⟩:=hblk i c1 u b hi hu hb;obtain⟨x',k',ow',hx',hm',hk',hown',rfl⟩:=hblk j d1 v b hj hv hb';have hbk:blk (ι k)=some b:=by cases c1<;>simp[eJ]at hb;exact hb
     have hbk':blk (ι k')=some b:=by cases d1<;>simp[eJ]at hb';exact hb'
     have hkk:=hMυ.dist k k' _ _ b hown hown' hbk hbk';subst hkk;exact Dt (σ:=υ) (mv:=mv) 0 c.args.toList hnd i j x x' k hx hx' hm hm' hk hk'
    .intro i c1 u b hi hu hb;obtain⟨x,k,ow,hx,hm,hk,hown,rfl⟩:=hblk i c1 u b hi hu hb;have hbk:blk (ι k)=some b:=by cases c1<;>simp[eJ]at hb;exact hb
     exact(hMυ.fresh k ow b hown hbk).2
   have hcall:=hsound cvs _ υ.m υ.h w _ h hpre;have hev:a.eval g= .func (.func f) fs cs:=by have:=hM.ev g;rw[hg]at this;exact this
   have hfs':fs= #[]:=by apply Array.toList_inj.1;simpa using hfs
   have hcs':cs= #[]:=by apply Array.toList_inj.1;simpa using hcs
   subst hfs' hcs';have hargsA:c.args.map a.eval=(c.args.toList.map a.eval).toArray:=by apply Array.toList_inj.1;simp
   have hbn:¬fn.body=none:=by intro e;rw[e]at hbody;cases hbody
   have hnm:¬fn.name= "runtime.NumGoroutine" :=by simpa using hname
   have hrun:(execOp a.eval o).run C.P w= .ok (.enter f (c.args.toList.map a.eval).toArray) w:=by
    unfold execOp;simp only[ho,resolve,hc,hev,Deferred.ofValue,Sem.run_bind,Sem.run_pure,Result.andThen_ok,invoke,callFunc];simp[program,Sem.run,hfn,hnm,hbn,hargsA]
   unfold Oper.wp;rw[hrun,Oper.upon_enter];refine Calls.mono hcall ?_;rintro e w' ⟨r,u,m',h',rfl,hK,hr,hw,hb⟩;show next (a.put o.dst u) w'
   obtain⟨hM1,hm1,hh1,hgone⟩:=Du (gB υ mv 0 c.args.toList) υ hMυ
   have hEfr:∀b,mX υ.m cvs (c.args.toList.map a.eval) b->B.w0.heap.size<=b\/B.E b:=by
    rintro b (hmb|⟨i,c1,u1,hi,hu1,hb1⟩)
    .cases hm2:υ.m b with
     |none=>exact(hmb hm2).elim
     |some ob=>exact hMυ.wrel.mfr b ob hm2
    .obtain⟨x,k,ow,hx,hm2,hk,hown,rfl⟩:=hblk i c1 u1 b hi hu1 hb1;have hbk:blk (ι k)=some b:=by cases c1<;>simp[eJ]at hb1;exact hb1
     exact(hMυ.fresh k ow b hown hbk).1
   have hnotE:∀j o' b,nth (vT υ (gB υ mv 0 c.args.toList)).own j=some (some o')->blk (ι j)=some b->¬mX υ.m cvs (c.args.toList.map a.eval) b:=by
    intro j o' b hj hbj hmov;obtain⟨hnin,o1,ho1⟩:=hgone j o' hj;rcases hmov with hmb|⟨i,c1,u1,hi,hu1,hb1⟩
    .exact hmb (hMυ.fresh j o1 b ho1 hbj).2.1
    .obtain⟨x,k,ow,hx,hm2,hk,hown,rfl⟩:=hblk i c1 u1 b hi hu1 hb1;have hbk:blk (ι k)=some b:=by cases c1<;>simp[eJ]at hb1;exact hb1
     have:=hMυ.dist j k _ _ b ho1 hown hbj hbk;subst this;exact hnin (yR 0 _ i x j hx (by simpa using hm2) hk)
   have hM2:aG B ι {vT υ (gB υ mv 0 c.args.toList)with m:=m',h:=h'} a w':=by
    refine hM1.called (E:=mX υ.m cvs (c.args.toList.map a.eval)) ?_ hEfr hnotE;rw[hh1];exact hw
   have hkeep:D2 σ ι o w w':=by
    constructor
    .intro k p T cs' b hk ht hι;obtain⟨cs1,hk1⟩:=hfz.cells k p T cs' hk;have htτ:=Ig hfz ht
     have hnp:k∉kZ τ c.args.toList:=by
      unfold tE at htτ;rw[Bool.or_eq_false_iff]at htτ;have:=htτ.2;simp only[ho,hc]at this;simpa using this
     obtain⟨cs2,hk2⟩:=hld.cells k p T cs1 hk1 hnp;have hbk:blk (ι k)=some b:=by rw[hι];rfl
     refine hw.frame b (lI (hMυ.own k _ hk2) hbk) ?_;rintro(hmb|⟨i,c1,u1,hi,hu1,hb1⟩)
     .exact hmb (hMυ.fresh k _ b hk2 hbk).2.1
     .obtain⟨x,k',ow,hx,hm2,hk',hown,rfl⟩:=hblk i c1 u1 b hi hu1 hb1;have hbk':blk (ι k')=some b:=by cases c1<;>simp[eJ]at hb1;exact hb1
      have:=hMυ.dist k k' _ _ b hk2 hown hbk hbk';subst this;cases c1<;>simp[eJ]at hb1;rename_i E1 sz1 xs1;have hcell:=hMυ.own k _ hk2;obtain⟨b2,vs2,e2,_,_⟩:=hcell
      have hlst:∃ad n cp,ι k= .slice ad n cp:=by
       have harg:∀(l:List CV)(vs:List Value),wT w l vs->∀(i:Nat)(c1:CV)(u1:Value),l[i]? =some c1->vs[i]? =some u1->zU w c1 u1:=by
        intro l
        induction l with
        |nil=>intro vs _ i c1 u1 h1;simp at h1
        |cons x0 r0 ih0=>
         intro vs hv i c1 u1 h1 h2;cases vs with
         |nil=>exact hv.elim
         |cons v0 vs0=>
          cases i with
          |zero=>simp at h1 h2;subst h1 h2;exact hv.1
          |succ i=>simp at h1 h2;exact ih0 vs0 hv.2 i c1 u1 h1 h2
       have:=harg _ _ hargs i _ _ hi hu1;rcases this.2.2 with⟨e3,_⟩|⟨g3,cap3,cur3,e3,_⟩
       .exact⟨_,_,_,e3⟩
       .exact⟨_,_,_,e3⟩
      obtain⟨ad,n,cp,e3⟩:=hlst;rw[e2]at e3;cases e3
    .intro b off v hv;have h1:=hfz.imm b off v hv;rw[<-hld.imm]at h1;exact hw.hsat b off v (hw.hle b off v h1)
    .intro hg;rw[ho]at hg;simp[uH]at hg
    .intro l b hl hb hmb hx;have hl:c.args.toList=l:=by simpa[mL,ho,hc]using hl
     refine hw.frame b hb ?_;rintro(hm2|⟨i,c1,u1,hi,hu1,hb1⟩)
     .obtain⟨k,hk,hbk⟩:=hld.m_ b (by rw[hfz.m_];exact hmb) hm2;obtain⟨x,hxm,off,hxe⟩:=GY hk;exact hx x (hl▸hxm) k (.inr ⟨off,hfz.ptr x k off hxe⟩) hbk
     .obtain⟨x,k',ow,hx',hm2,hk',hown,rfl⟩:=hblk i c1 u1 b hi hu1 hb1;have hbk':blk (ι k')=some b:=by cases c1<;>simp[eJ]at hb1;exact hb1
      exact hx x (hl▸List.mem_of_getElem? hx') k' (.inl (hfz.lst x k' (hld.lst x k' hk'))) hbk'
   unfold YM at hK;split at hK
   .rename_i v;exact hnext ι _ _ _ (hM2.put o.dst (x:=.at (.val v)) hr) hK hkeep
   .rename_i E sz xs;split at hK
    .rename_i d hd;rw[hd];generalize (gB υ mv 0 c.args.toList).headD d=kd at hK;refine hnext (upd ι kd u) _ _ _ (aG.put ?_ (some d) (x:=.at (.lst kd)) (by show _=_;simp)) hK hkeep;refine hM2.adopt kd _ u ⟨hr.1,hr.2⟩ (G0 hr.2) (λb hbu=>?_);obtain⟨f1,f2,f3⟩:=hb b hbu;refine⟨⟨?_,f2,f3⟩,?_⟩
     .rcases f1 with f1|f1
      .exact .inl (Nat.le_trans hMυ.wrel.size f1)
      .exact hEfr b f1
     .intro j o' _ hj hbj;have hj':nth (vT υ (gB υ mv 0 c.args.toList)).own j=some (some o'):=hj;rcases f1 with f1|f1
      .have:=lI (hM1.own j o' hj') hbj;omega
      .exact hnotE j o' b hj' hbj f1
    .exact hK.elim
   .rename_i rs;split at hK
    .rename_i l hl;obtain⟨us,rfl,hrs⟩:=hr;exact hnext ι _ _ _ (hM2.put o.dst (x:=.tup l) ⟨us,rfl,D9 hl hrs⟩) hK hkeep
    .exact hK.elim
  .exact h.elim
end
end Go.Vc
