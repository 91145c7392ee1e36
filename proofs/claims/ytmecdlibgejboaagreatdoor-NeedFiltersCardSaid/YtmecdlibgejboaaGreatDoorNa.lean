/-
  Part 1 of a proof that a law of the given program returns true: a condition generator that is proved sound, and contracts of functions. No condition of its own. Own work, joined by a program (pack2.py).
-/
import Derived.Calls
import Derived.CallsIn
import Derived.Orders
import Derived.KernelRfl
import Derived.Laws.AppendOwn
import Derived.Laws.CopyRow
import Derived.Deep.AppendSrc
import Derived.Deep.LoopGhost
import Derived.Laws.StructEq
import Derived.Laws.BytesArg
import Derived.Laws.NewBlocks
import Derived.Great.BuildSlice
import Derived.Laws.MakeOwn
import Derived.Lib.AppendZerosOnto
set_option linter.unusedVariables false
set_option linter.unusedSimpArgs false
namespace Go
abbrev dl:=List (Nat×Operand)
abbrev di:=List TypeId
abbrev db:=List ByteArray
abbrev cw:=List Operand
abbrev cv:=List Bool
abbrev cu:=List Nat
abbrev cn:=List UInt8
abbrev cj:=Nat->Value
abbrev ci:=List (Value×Value)
abbrev ca:=List (Int×Bool)
abbrev bz:=List (Int×Int)
abbrev bw:=List Value
abbrev bt:=List Int
universe u
theorem bi{α:Sort u}{a b:α}(h:a=b:=by kernel_rfl):a=b:=h
theorem bj{p:Prop}(h:p:=by simp):p:=h
theorem bk{p:Prop}(h:p:=by decide):p:=h
theorem bm{p:Prop}(h:p:=by simp_all):p:=h
theorem bo{p q:Prop}(h:p)(e:p->q:=by intro h;simpa using h):q:=e h
theorem aD{p:Prop}(h:p:=by omega):p:=h
end Go
namespace Go.Vc
open Go List
abbrev PH:=Nat->Nat->Option Value
abbrev MH:=Nat->Option Obj
abbrev dh:=Int×Nat×bz×(Int×Int)×Bool×MH
structure Sl where
 a:Option Addr
 len:Nat
 cap:Nat
abbrev dj:=List (Value×Sl)
abbrev cm:=List (ByteArray×Sl)
abbrev ce:=List Sl
def Sl.val(s:Sl):Value:=.slice s.a s.len s.cap
inductive At where
 |val (v:Value)
 |ptr (k o:Nat)
 |lst (k:Nat)
 |el (k i sz o:Nat)
 |junk
abbrev cr:=List At
inductive SV where
 |at(x:At)
 |agg (cs:cr)
 |tup (xs:List (Sum At cr))
abbrev dk:=List SV
inductive Own where
 |cellsP (p:Option Nat) (T:TypeId) (cs:cr)
 |lst (E:TypeId) (sz:Nat) (xs:List bw)
abbrev dc:=List (Option Own)
abbrev Own.cells(T:TypeId)(cs:cr):Own:=.cellsP none T cs
structure St where
 sl:dk
 own:dc
 m:MH
 h:PH
inductive CV where
 |val (v:Value)
 |lst (E:TypeId) (sz:Nat) (xs:List bw)
 |tup (xs:List CV)
abbrev ct:=List CV
abbrev bu:=CV->MH->PH->Prop
abbrev Spec:=ct->MH->PH->bu->Prop
structure Dec where
 X:Type
 enc:X->bw
inductive JL where
 |normal
 |exit (id:Nat)
 |ret
structure MS where
 A:Type
 st:A->St
 inv:A->Prop
 mu:A->Nat
structure XU where
 A:Type
 st:A->St
 inv:A->Prop
structure vP where
 A:Type
 st:A->St
 frz:Bool:=false
abbrev da:=List (Nat×vP)
structure Ctx where
 P:Program
 loops2:da
 cuts2:da
 rcuts:List (Nat×da)
 heapT:di
 specs:List (Nat×Spec)
 dec:TypeId->Dec
 loops:List (Nat×MS)
 cuts:List (Nat×XU)
 moves:List (Nat×cu)
 retMove:Bool
 yield:Option Spec
 elemT:di:=[]
def nth{α:Type}:List α->Nat->Option α
 |[],_=>none
 |x::_,0=>some x
 |_::xs,n+1=>nth xs n
def O2:cu->Nat->Bool
 |[],_=>false
 |x::r,n=>match Nat.beq x n with|true=>true|false=>O2 r n
def assoc.{u}{α:Type u}:List (Nat×α)->Nat->Option α
 |[],_=>none
 |(k,v)::r,n=>match Nat.beq k n with|true=>some v|false=>assoc r n
def branch(c:Bool)(A B:Prop):Prop:=match c with|true=>A|false=>B
def St.ev(σ:St):Operand->SV
 |.tmp t=>match nth σ.sl t with|some x=>x|none=>.at .junk
 |.const v=>.at (.val v)
 |.global g=>.at (.val (.pointer (some ⟨g,0,none⟩)))
 |.func f=>.at (.val (.func (.func f) #[] #[]))
def St.put(σ:St)(d:Option Tmp)(x:SV):St:=
 match d with
 |some d=>{σ with sl:=σ.sl.set d x}
 |none=>σ
def At.sub(k:Nat)(f:At->At):At->At
 |.val v=>.val v
 |.ptr j o=>match Nat.beq j k with|true=>f (.ptr j o)|false=>.ptr j o
 |.lst j=>match Nat.beq j k with|true=>f (.lst j)|false=>.lst j
 |.el j i a o=>match Nat.beq j k with|true=>f (.el j i a o)|false=>.el j i a o
 |.junk=>.junk
def SV.sub(k:Nat)(f:At->At):SV->SV
 |.at x=>.at (x.sub k f)
 |.agg a=>.agg (a.map (At.sub k f))
 |.tup b=>.tup (b.map λ |.inl x=>.inl (x.sub k f)|.inr a=>.inr (a.map (At.sub k f)))
def Own.sub(k:Nat)(f:At->At):Own->Own
 |.cellsP p T a=>.cellsP p T (a.map (At.sub k f))
 |.lst E b c=>.lst E b c
def St.sub(σ:St)(k:Nat)(f:At->At):St:=
 {σ with sl:=σ.sl.map (SV.sub k f),own:=σ.own.map (Option.map (Own.sub k f))}
def St.kill(σ:St)(k:Nat):St:=
 let τ:=σ.sub k (λ_=>.junk)
 {τ with own:=τ.own.set k none}
def St.setOwn(σ:St)(k:Nat)(o:Option Own):St:={σ with own:=σ.own.set k o}
def At.val? :At->Option Value
 |.val v=>some v
 |_=>none
def vK:cr->Option bw
 |[]=>some []
 |.val v::r=>match vK r with|some l=>some (v::l)|none=>none
 |_::_=>none
def SV.val? :SV->Option Value
 |.at (.val v)=>some v
 |.agg a=>match vK a with|some l=>some (.agg l.toArray)|none=>none
 |_=>none
def SV.cells? :SV->Option cr
 |.at (.val (.agg a))=>some (a.toList.map .val)
 |.at (.val (.tuple _))=>none
 |.at .junk=>none
 |.at x=>some [x]
 |.agg a=>some a
 |.tup _=>none
def At.storable:At->Bool
 |.val (.agg _)=>false
 |.val (.tuple _)=>false
 |.junk=>false
 |_=>true
def sL:cr->Bool
 |[]=>true
 |x::r=>match x.storable with|true=>sL r|false=>false
def Ak{α:Type}(P:Program):Sem α->Option α
 |.pure a=>some a
 |.program k=>Ak P (k P)
 |.mark _ k=>Ak P k
 |_=>none
def St.rho(σ:St)(x:Operand):Value:=match(σ.ev x).val? with|some v=>v|none=>undef
def MP(σ:St):cw->Bool
 |[]=>true
 |x::r=>match(σ.ev x).val? with|some _=>MP σ r|none=>false
structure bO(h:PH)(b o:Nat)(l:bw):Prop where
 rd:∀i v,l[i]? =some v->h b (o+i)=some v
inductive aU(m:MH)(h:PH)(b off:Nat)(l:bw):Prop
 |imm (hr:bO h b off l):aU m h b off l
 |lent (cs:Array Value) (E:TypeId) (fz:Nat×Nat) (hm:m b=some (.cells cs E fz)) (hl:(cs.toList.drop off).take l.length=l):aU m h b off l
structure MAt(m:MH)(b:Nat)(o:Obj):Prop where
 at_:m b=some o
structure fC(m:MH)(h:PH)(b:Nat):Prop where
 m_:m b=none
 h_:∀i,h b i=none
def xW(P:Program)(t:TypeId):Bool:=
 match P.underlying t with
 |some (.struct _)=>true
 |some (.array _ _)=>true
 |_=>false
def mk(P:Program)(T:TypeId)(cs:cr):SV:=
 match xW P T with
 |true=>.agg cs
 |false=>match cs with|[x]=>.at x|_=>.at .junk
def v7(C:Ctx)(o:Oper)(σ:St)(K:St->Prop):Prop:=
 match MP σ o.op.operands.toList with
 |true=>match Ak C.P (execOp σ.rho o)with
  |some (.value v)=>K (σ.put o.dst (.at (.val v)))
  |_=>False
 |false=>False
def jB(P:Program)(T:TypeId):Bool:=
 match P.underlying T with
 |some _=>match P.cellsOf T with|0=>false|_=>true
 |none=>false
def bsX(C:Ctx)(T:TypeId)(R:bw->Prop)(K:bw->Prop):Prop:=
 ∃y:(C.dec T).X,R ((C.dec T).enc y)/\
  match Nat.beq ((C.dec T).enc y).length (C.P.cellsOf T)with
  |true=>K ((C.dec T).enc y)
  |false=>False
def VW(C:Ctx)(o:Oper)(T:TypeId)(x:Operand)(σ:St)(K:St->Prop):Prop:=
 match jB C.P T with
 |false=>False
 |true=>
  match σ.ev x with
  |.at (.ptr k a)=>
   match nth σ.own k with
   |some (some (.cellsP _ _ c))=>
    match Nat.ble (a+C.P.cellsOf T) c.length with
    |true=>K (σ.put o.dst (mk C.P T ((c.drop a).take (C.P.cellsOf T))))
    |false=>False
   |_=>False
  |.at (.el k i d a)=>
   match nth σ.own k with
   |some (some (.lst _ s f))=>
    match Nat.beq s d with
    |true=>∃e:bw,f[i]? =some e/\bsX C T (λl=>(e.drop a).take (C.P.cellsOf T)=l) λl=>K (σ.put o.dst (mk C.P T (l.map .val)))
    |false=>False
   |_=>False
  |.at (.val (.pointer (some ⟨b,a,none⟩)))=>
   bsX C T (aU σ.m σ.h b a) λl=>K (σ.put o.dst (mk C.P T (l.map .val)))
  |_=>False
def splice{α:Type}(cs:List α)(off:Nat)(new:List α):List α:=cs.take off++new++cs.drop (off+new.length)
structure iV(m m':MH)(b:Nat)(o:Obj):Prop where
 at_:m' b=some o
 other:∀b',b'≠b->m' b'=m b'
def RG(C:Ctx)(T:TypeId)(x v:Operand)(σ:St)(K:St->Prop):Prop:=
 match(σ.ev v).cells? with
 |none=>False
 |some new=>
 match Nat.beq new.length (C.P.cellsOf T),sL new,jB C.P T with
 |true,true,true=>
  match σ.ev x with
  |.at (.ptr k a)=>
   match nth σ.own k with
   |some (some (.cellsP p E c))=>
    match Nat.ble (a+new.length) c.length with
    |true=>K (σ.setOwn k (some (.cellsP p E (splice c a new))))
    |false=>False
   |_=>False
  |.at (.el k i g a)=>
   match nth σ.own k,vK new with
   |some (some (.lst E s d)),some l=>
    match Nat.beq s g with
    |true=>∃e:bw,d[i]? =some e/\a+l.length<=e.length/\
     K (σ.setOwn k (some (.lst E s (d.set i (splice e a l)))))
    |false=>False
   |_,_=>False
  |.at (.val (.pointer (some ⟨b,a,none⟩)))=>
   match vK new with
   |some l=>∃(c:Array Value)(E:TypeId),MAt σ.m b (.cells c E (0,0))/\a+l.length<=c.size/\
    ∀f:MH,iV σ.m f b (.cells (splice c.toList a l).toArray E (0,0))->K {σ with m:=f}
   |none=>False
  |_=>False
 |_,_,_=>False
def Jo(P:Program)(T:TypeId)(f:Nat):Option (Nat×TypeId):=
 match P.underlying T with
 |some (.struct a)=>match nth a.toList f with
  |some g=>match Nat.beq (P.cellsOf g.type) 0 with|true=>none|false=>some (g.offset,g.type)
  |none=>none
 |_=>none
def FG(C:Ctx)(o:Oper)(T:TypeId)(x:Operand)(f:Nat)(σ:St)(K:St->Prop):Prop:=
 match Jo C.P T f with
 |none=>False
 |some (g,_)=>
  match σ.ev x with
  |.at (.ptr k a)=>K (σ.put o.dst (.at (.ptr k (a+g))))
  |.at (.el k i c a)=>K (σ.put o.dst (.at (.el k i c (a+g))))
  |.at (.val (.pointer (some ⟨b,a,none⟩)))=>K (σ.put o.dst (.at (.val (.pointer (some ⟨b,a+g,none⟩)))))
  |_=>False
def Hx(o:Oper)(x:Operand)(σ:St)(K:St->Prop):Prop:=
 match σ.ev x with
 |.at (.ptr k b)=>K (σ.put o.dst (.at (.ptr k b)))
 |.at (.el k i c b)=>K (σ.put o.dst (.at (.el k i c b)))
 |.at (.val (.pointer (some a)))=>K (σ.put o.dst (.at (.val (.pointer (some a)))))
 |_=>False
def Fx(C:Ctx)(o:Oper)(T:TypeId)(x i:Operand)(σ:St)(K:St->Prop):Prop:=
 match σ.ev i with
 |.at (.val (.int _ n))=>
  match C.P.underlying T with
  |some (.slice E)=>
   match jB C.P E with
   |true=>
    match σ.ev x with
    |.at (.lst k)=>
     match nth σ.own k with
     |some (some (.lst _ d e))=>match Nat.beq d (C.P.cellsOf E)with
      |true=>0<=n/\n<(e.length:Int)/\K (σ.put o.dst (.at (.el k n.toNat d 0)))
      |false=>False
     |_=>False
    |.at (.val (.slice a len _))=>
     ∃b c,a=some ⟨b,c,none⟩/\0<=n/\n<(len:Int)/\
      K (σ.put o.dst (.at (.val (.pointer (some ⟨b,c+n.toNat*C.P.cellsOf E,none⟩)))))
    |_=>False
   |false=>False
  |some (.array len E)=>
   match jB C.P E with
   |true=>
    match σ.ev x with
    |.at (.ptr k c)=>0<=n/\n<(len:Int)/\K (σ.put o.dst (.at (.ptr k (c+n.toNat*C.P.cellsOf E))))
    |.at (.val (.pointer (some ⟨b,c,none⟩)))=>0<=n/\n<(len:Int)/\K (σ.put o.dst (.at (.val (.pointer (some ⟨b,c+n.toNat*C.P.cellsOf E,none⟩)))))
    |_=>False
   |false=>False
  |_=>False
 |_=>False
def Yz(o:Oper)(op:BinOp)(x y:Operand)(σ:St)(K:St->Prop):Prop:=
 match σ.ev x,σ.ev y with
 |.at (.val (.int k a)),.at (.val (.int c b))=>
  match decide (k=c)with
  |true=>
   b≠0/\(match op with
    |.quo=>K (σ.put o.dst (.at (.val (.int k (k.wrap (a.tdiv b))))))
    |.rem=>K (σ.put o.dst (.at (.val (.int k (a.tmod b)))))
    |_=>False)
  |false=>False
 |_,_=>False
def Ou(C:Ctx)(o:Oper)(x y:Operand)(σ:St)(K:St->Prop):Prop:=
 match σ.ev x,σ.ev y with
 |.at (.val (.string a)),.at (.val (.string b))=>a.size+b.size<=9223372036854775807/\K (σ.put o.dst (.at (.val (.string (a++b)))))
 |_,_=>v7 C o σ K
def VF(o:Oper)(c a b:Operand)(σ:St)(K:St->Prop):Prop:=
 match σ.ev c with
 |.at (.val (.bool t))=>branch t (K (σ.put o.dst (σ.ev a))) (K (σ.put o.dst (σ.ev b)))
 |_=>False
structure dK(h:PH)(s:Sl)(sz:Nat)(xs:List bw):Prop where
 len:s.len=xs.length
 row:xs=[]\/∃b o,s.a=some ⟨b,o,none⟩/\∀i e,xs[i]? =some e->bO h b (o+i*sz) e
 cap:s.len<=s.cap
structure PH.le(h h':PH):Prop where
 le:∀b o v,h b o=some v->h' b o=some v
def uF(σ:St)(K:St->Prop):cu->Prop
 |[]=>K σ
 |k::ks=>
  match nth σ.own k with
  |some (some (.lst _ b c))=>
   ∀(s:Sl)(a:PH),PH.le σ.h a->dK a s b c->
    uF {(σ.sub k (λ |.lst _=>.val s.val|_=>.junk)).setOwn k none with h:=a} K ks
  |_=>False
def Kn:cr->cu
 |[]=>[]
 |.lst k::r=>match(Kn r).contains k with|true=>Kn r|false=>k::Kn r
 |_::r=>Kn r
def SV.keys:SV->cu
 |.at x=>Kn [x]
 |.agg a=>Kn a
 |.tup _=>[]
def zeroCells(P:Program)(T:TypeId):Option bw:=
 match P.info? T with
 |some i=>match i.zero with
  |some v=>some v.cells.toList
  |none=>none
 |none=>none
def Su(C:Ctx)(o:Oper)(T:TypeId)(σ:St)(K:St->Prop):Prop:=
 match o.dst,zeroCells C.P T with
 |some d,some z=>K (((σ.kill d).setOwn d (some (.cells T (z.map .val)))).put (some d) (.at (.ptr d 0)))
 |_,_=>False
def YC(o:Oper)(T:TypeId)(x:Operand)(σ:St)(K:St->Prop):Prop:=
 match o.dst,(σ.ev x).cells? with
 |some d,some a=>K (((σ.kill d).setOwn d (some (.cells T (a.map (At.sub d (λ_=>.junk)))))).put (some d) (.at (.ptr d 0)))
 |_,_=>False
def partAt(P:Program)(T:TypeId)(i:Nat):Option (Nat×Nat):=
 match P.underlying T with
 |some (.struct a)=>match nth a.toList i with|some g=>some (g.offset,P.cellsOf g.type)|none=>none
 |some (.array _ E)=>some (i*P.cellsOf E,P.cellsOf E)
 |_=>none
def Np(P:Program)(T:TypeId):Bool:=
 match P.underlying T with
 |some (.struct a)=>a.toList.all λf=>(P.info? f.type).isSome
 |some (.array _ E)=>(P.info? E).isSome
 |_=>false
def Da(P:Program)(T:TypeId)(σ:St):dl->cr->Option cr
 |[],c=>some c
 |(i,x)::r,c=>
  match partAt P T i,(σ.ev x).cells? with
  |some (a,b),some new=>
   match Nat.beq new.length b,Nat.ble (a+new.length) c.length with
   |true,true=>Da P T σ r (splice c a new)
   |_,_=>none
  |_,_=>none
def Sq(C:Ctx)(o:Oper)(T:TypeId)(parts:dl)(σ:St)(K:St->Prop):Prop:=
 match zeroCells C.P T with
 |some z=>match Da C.P T σ parts (z.map .val),Np C.P T with
  |some a,true=>K (σ.put o.dst (.agg a))
  |_,_=>False
 |none=>False
def C9(σ:St)(sz:Nat):dl->List bw->Option (List bw)
 |[],a=>some a
 |(i,x)::r,a=>
  match(σ.ev x).cells? with
  |some b=>match vK b with
   |some l=>match Nat.beq l.length sz,Nat.ble (i+1) a.length,sL b with
    |true,true,true=>C9 σ sz r (a.set i l)
    |_,_,_=>none
   |none=>none
  |none=>none
def Fk(σ:St):cw->cu
 |[]=>[]
 |x::r=>(σ.ev x).keys++(Fk σ r).filter (λk=> !(σ.ev x).keys.contains k)
def elemOf(P:Program)(T:TypeId):Option (TypeId×bw):=
 match P.underlying T with
 |some (.slice E)=>match zeroCells P E with
  |some z=>match Nat.beq z.length (P.cellsOf E),Nat.beq (P.cellsOf E) 0,z.all Value.oneCell' with
   |true,false,true=>some (E,z)
   |_,_,_=>none
  |none=>none
 |_=>none
def EG(C:Ctx)(o:Oper)(T:TypeId)(n:Nat)(parts:dl)(σ:St)(K:St->Prop):Prop:=
 uF σ (λτ=>
  match o.dst,elemOf C.P T with
  |some d,some (E,z)=>
   match C9 τ (C.P.cellsOf E) parts (replicate n z),Nat.ble (n*C.P.cellsOf E) 16777216 with
   |some a,true=>K (((τ.kill d).setOwn d (some (.lst E (C.P.cellsOf E) a))).put (some d) (.at (.lst d)))
   |_,_=>False
  |_,_=>False) (Fk σ (parts.map (·.2)))
structure eW(sz:Nat)(ys:List bw):Prop where
 len:∀e∈ys,e.length=sz
 one:∀e∈ys,∀u∈e,u.oneCell'=true
structure eC(m:MH)(s:Sl)(E:TypeId)(sz:Nat)(xs:List bw):Prop where
 rows:eW sz xs
 ex:(s=⟨none,0,0⟩/\xs=[])\/∃b cap cur,s=⟨some ⟨b,0,none⟩,xs.length,cap⟩/\m b=some (.cells cur E (0,0))/\xs.length<=cap/\cap<=maxLen/\cur.size=cap*sz/\cur.toList.take (xs.length*sz)=xs.flatten
structure pM(m m':MH)(h:PH)(s:Sl)(E:TypeId)(sz:Nat)(xs:List bw):Prop where
 row:eC m' s E sz xs
 other:∀b,(∀i,s.a≠some ⟨b,i,none⟩)->m' b=m b
 fresh:∀b i,s.a=some ⟨b,i,none⟩->fC m h b
def C6(σ:St)(K:St->Prop):cu->Prop
 |[]=>K σ
 |k::ks=>
  match nth σ.own k with
  |some (some (.lst E b c))=>
   ∀(s:Sl)(a:MH),pM σ.m a σ.h s E b c->
    C6 {(σ.sub k (λ |.lst _=>.val s.val|_=>.junk)).setOwn k none with m:=a} K ks
  |_=>False
def Fq(C:Ctx)(o:Oper)(T:TypeId)(l c:Operand)(σ:St)(K:St->Prop):Prop:=
 match o.dst,elemOf C.P T,σ.ev l,σ.ev c with
 |some d,some (E,z),.at (.val (.int _ n)),.at (.val (.int _ m))=>
  0<=n/\n<=m/\m*(C.P.bytesOf E:Int)<=281474976710656/\m<=281474976710656/\
   K (((σ.kill d).setOwn d (some (.lst E (C.P.cellsOf E) (replicate n.toNat z)))).put (some d) (.at (.lst d)))
 |_,_,_,_=>False
def fL(s:ByteArray):List bw:=s.data.toList.map λb=>[.int .u8 b.toNat]
inductive sM(m:MH)(h:PH)(s:Sl)(sz:Nat)(ys:List bw):Prop
 |imm (hr:dK h s sz ys):sM m h s sz ys
 |lent (b o:Nat) (cs:Array Value) (E:TypeId) (fz:Nat×Nat) (hs:s.a=some ⟨b,o,none⟩) (hn:s.len=ys.length) (hm:m b=some (.cells cs E fz)) (hl:(cs.toList.drop o).take ys.flatten.length=ys.flatten):sM m h s sz ys
def bBJ(a:Bool)(σ:St)(s:Sl)(sz:Nat)(b:List bw):Prop:=match a with|true=>sM σ.m σ.h s sz b|false=>dK σ.h s sz b
def Lq(P:Program)(b:Bool)(σ:St)(sz:Nat)(tx:TypeId)(y:SV)(K:List bw->Prop):Prop:=
 match y,P.underlying tx with
 |.at (.lst k),some (.slice _)=>match nth σ.own k with
  |some (some (.lst _ s d))=>match Nat.beq s sz with|true=>K d|false=>False
  |_=>False
 |.at (.val (.slice a n c)),some (.slice _)=>∃d:List bw,eW sz d/\bBJ b σ ⟨a,n,c⟩ sz d/\K d
 |.at (.val (.string s)),some .string=>match Nat.beq sz 1 with|true=>K (fL s)|false=>False
 |_,_=>False
structure jP(m m':MH)(s s':Sl)(E:TypeId)(sz:Nat)(zs:List bw):Prop where
 row:eC m' s' E sz zs
 other:∀b o,m b=some o->(∀i,s.a≠some ⟨b,i,none⟩)->m' b=some o
 fresh:∀b i,s'.a=some ⟨b,i,none⟩->m b=none\/∃i,s.a=some ⟨b,i,none⟩
def sameKey(y:SV)(k:Nat):Bool:=match y with|.at (.lst a)=>Nat.beq a k|_=>false
def XY(y:SV)(d:Option TypeDesc):Option Int:=
 match d with
 |some (.int _)=>match y with
  |.at (.val (.int _ n))=>some n
  |_=>none
 |_=>none
def Pz(C:Ctx):Bool:=match C.heapT with|[]=>false|_=>true
def inM(C:Ctx)(T:TypeId):Bool:=O2 C.heapT (1000+T)
def bNZ(C:Ctx)(T:TypeId):Bool:=O2 C.heapT (3000+T)
def Oy(C:Ctx)(o:Oper)(T tx:TypeId)(x y:Operand)(σ:St)(K:St->Prop):Prop:=
 match o.dst,elemOf C.P T with
 |some d,some (E,z)=>
  match inM C T,bNZ C T,σ.ev x with
  |false,true,.at (.val (.slice a n c))=>
   c=n/\∃e:List bw,eW (C.P.cellsOf E) e/\dK σ.h ⟨a,n,c⟩ (C.P.cellsOf E) e/\
    Lq C.P (Pz C) σ (C.P.cellsOf E) tx (σ.ev y) λb=>
     (a=none\/0<b.length)/\(e.length+b.length)*C.P.bytesOf E<=140737488355328/\e.length+b.length<=140737488355328/\
     K (((σ.kill d).setOwn d (some (.lst E (C.P.cellsOf E) (e++b)))).put (some d) (.at (.lst d)))
  |true,_,.at (.val (.slice a n c))=>
   ∃e:List bw,eC σ.m ⟨a,n,c⟩ E (C.P.cellsOf E) e/\
    Lq C.P (Pz C) σ (C.P.cellsOf E) tx (σ.ev y) λb=>
     (e.length+b.length)*C.P.bytesOf E<=140737488355328/\e.length+b.length<=140737488355328/\
     ∀(f:Sl)(g:MH),jP σ.m g ⟨a,n,c⟩ f E (C.P.cellsOf E) (e++b)->K ({σ with m:=g}.put (some d) (.at (.val f.val)))
  |_,_,_=>match σ.ev x with
  |.at (.val (.slice none 0 0))=>
   match XY (σ.ev y) (C.P.underlying tx)with
   |some n=>0<n/\n*(C.P.bytesOf E:Int)<=140737488355328/\n<=140737488355328/\
    K (((σ.kill d).setOwn d (some (.lst E (C.P.cellsOf E) (replicate n.toNat z)))).put (some d) (.at (.lst d)))
   |none=>Lq C.P (Pz C) σ (C.P.cellsOf E) tx (σ.ev y) λb=>
    b.length*C.P.bytesOf E<=140737488355328/\b.length<=140737488355328/\
    K (((σ.kill d).setOwn d (some (.lst E (C.P.cellsOf E) b))).put (some d) (.at (.lst d)))
  |.at (.lst k)=>
   match nth σ.own k,sameKey (σ.ev y) k with
   |some (some (.lst E' i e)),false=>
    match Nat.beq E' E,Nat.beq i (C.P.cellsOf E)with
    |true,true=>
     Lq C.P (Pz C) σ i tx (σ.ev y) λb=>
      (e.length+b.length)*C.P.bytesOf E<=140737488355328/\e.length+b.length<=140737488355328/\
      K (((σ.kill k).setOwn k (some (.lst E i (e++b)))).put (some d) (.at (.lst k)))
    |_,_=>False
   |_,_=>False
  |.at (.val (.slice a n c))=>
   ∃e:List bw,eC σ.m ⟨a,n,c⟩ E (C.P.cellsOf E) e/\
    Lq C.P (Pz C) σ (C.P.cellsOf E) tx (σ.ev y) λb=>
     (e.length+b.length)*C.P.bytesOf E<=140737488355328/\e.length+b.length<=140737488355328/\
     ∀(f:Sl)(g:MH),jP σ.m g ⟨a,n,c⟩ f E (C.P.cellsOf E) (e++b)->K ({σ with m:=g}.put (some d) (.at (.val f.val)))
  |_=>False
 |_,_=>False
def TN(P:Program)(ts:di):Bool:=
 match ts with
 |t::_=>match P.underlying t with
  |some (.slice _)=>true
  |_=>false
 |[]=>false
def awZ(C:Ctx)(o:Oper)(x:Operand)(ts:di)(σ:St)(K:St->Prop):Prop:=
 match σ.ev x with
 |.at (.lst k)=>match nth σ.own k,TN C.P ts with
  |some (some (.lst _ _ a)),true=>K (σ.put o.dst (.at (.val (.int .i64 a.length))))
  |_,_=>False
 |_=>v7 C o σ K
structure bvZ(sz:Nat)(x:Sl)(i:Nat)(s:Sl):Prop where
 a_:s.a=if x.cap=i then x.a else x.a.map λy=>y.add (i*sz)
 len:s.len=x.len-i
 cap:s.cap=x.cap-i
def RJ(C:Ctx)(o:Oper)(T:TypeId)(x:Operand)(f g h:Option Operand)(σ:St)(K:St->Prop):Prop:=
 match σ.ev x,f,g,h with
 |.at (.lst k),none,some n,none=>
  match nth σ.own k,σ.ev n,C.P.underlying T with
  |some (some (.lst E l e)),.at (.val (.int _ i)),some (.slice E')=>
   match jB C.P E' with
   |true=>0<=i/\i<=(e.length:Int)/\K (((σ.kill k).setOwn k (some (.lst E l (e.take i.toNat)))).put o.dst (.at (.lst k)))
   |false=>False
  |_,_,_=>False
 |.at (.val (.slice a _ c)),none,some n,none=>
  match σ.ev n,C.P.underlying T with
  |.at (.val (.int _ i)),some (.slice E')=>
   match jB C.P E' with
   |true=>0<=i/\i<=(c:Int)/\K (σ.put o.dst (.at (.val (.slice a i.toNat c))))
   |false=>False
  |_,_=>False
 |.at (.val (.slice a _ c)),none,some n,some k=>
  match σ.ev n,σ.ev k,C.P.underlying T with
  |.at (.val (.int _ i)),.at (.val (.int _ j)),some (.slice E')=>
   match jB C.P E' with
   |true=>0<=i/\i<=j/\j<=(c:Int)/\K (σ.put o.dst (.at (.val (.slice a i.toNat j.toNat))))
   |false=>False
  |_,_,_=>False
 |.at (.val (.slice a len c)),some n,none,none=>
  match σ.ev n,C.P.underlying T with
  |.at (.val (.int _ i)),some (.slice E')=>
   match jB C.P E' with
   |true=>0<=i/\i<=(len:Int)/\len<=c/\∀s:Sl,bvZ (C.P.cellsOf E') ⟨a,len,c⟩ i.toNat s->K (σ.put o.dst (.at (.val (.slice s.a s.len s.cap))))
   |false=>False
  |_,_=>False
 |.at (.val (.pointer (some ⟨b,d,none⟩))),none,some n,none=>
  match σ.ev n,C.P.underlying T with
  |.at (.val (.int _ i)),some (.array len E')=>
   match jB C.P E' with
   |true=>0<=i/\i<=(len:Int)/\K (σ.put o.dst (.at (.val (.slice (some ⟨b,d,none⟩) i.toNat len))))
   |false=>False
  |_,_=>False
 |_,_,_,_=>False
def Sd(C:Ctx)(o:Oper)(T:TypeId)(x:Operand)(f:Nat)(σ:St)(K:St->Prop):Prop:=
 match Jo C.P T f,(σ.ev x).cells?,(match σ.ev x with|.agg _=>true|.at (.val (.agg _))=>true|_=>false)with
 |some (g,T'),some a,true=>
  match Nat.ble (g+C.P.cellsOf T') a.length&&jB C.P T' with
  |true=>K (σ.put o.dst (mk C.P T' ((a.drop g).take (C.P.cellsOf T'))))
  |false=>False
 |_,_,_=>False
def R7(P:Program)(E:TypeId)(cs:cr)(n:Int)(K:SV->Prop):Nat->Nat->Prop
 |0,_=>True
 |f+1,i=>branch (n==(i:Int)) (K (mk P E ((cs.drop (i*P.cellsOf E)).take (P.cellsOf E)))) (R7 P E cs n K f (i+1))
def R6(C:Ctx)(o:Oper)(T:TypeId)(x i:Operand)(σ:St)(K:St->Prop):Prop:=
 match σ.ev i,C.P.underlying T with
 |.at (.val (.int _ n)),some (.array len E)=>
  match(σ.ev x).cells? with
  |some a=>match Nat.beq a.length (len*C.P.cellsOf E),jB C.P E,(match σ.ev x with|.agg _=>true|.at (.val (.agg _))=>true|_=>false)with
   |true,true,true=>0<=n/\n<(len:Int)/\R7 C.P E a n (λv=>K (σ.put o.dst v)) len 0
   |_,_,_=>False
  |none=>False
 |.at (.val (.int _ n)),some .string=>
  match σ.ev x with
  |.at (.val (.string s))=>0<=n/\∃b,s.data.toList[n.toNat]? =some b/\K (σ.put o.dst (.at (.val (.int .u8 b.toNat))))
  |_=>False
 |_,_=>False
def KS(C:Ctx)(o:Oper)(x:Operand)(i:Nat)(σ:St)(K:St->Prop):Prop:=
 match σ.ev x with
 |.tup a=>match nth a i with
  |some (.inl y)=>K (σ.put o.dst (.at y))
  |some (.inr b)=>K (σ.put o.dst (.agg b))
  |none=>False
 |_=>v7 C o σ K
def bE(a:cn):List bw:=a.map λb=>[.int .u8 b.toNat]
def KX(C:Ctx)(o:Oper)(src a:TypeId)(x:Operand)(σ:St)(K:St->Prop):Prop:=
 match σ.ev x with
 |.at (.lst k)=>
  match nth σ.own k,C.P.underlying src,C.P.underlying a with
  |some (some (.lst _ _ c)),some (.slice E),some .string=>
   match C.P.underlying E with
   |some (.int .u8)=>∃b:cn,c=bE b/\K (σ.put o.dst (.at (.val (.string ⟨b.toArray⟩))))
   |_=>False
  |_,_,_=>False
 |_=>v7 C o σ K
def oN(σ:St):cw->cu
 |[]=>[]
 |x::r=>match σ.ev x with
  |.at (.ptr k _)=>match(oN σ r).contains k with|true=>oN σ r|false=>k::oN σ r
  |_=>oN σ r
def Ft(σ:St)(K:St->Prop):cu->Prop
 |[]=>K σ
 |k::ks=>
  match nth σ.own k with
  |some (some (.cellsP _ T c))=>
   match vK c with
   |some l=>
    ∀(b:Nat)(a:MH),fC σ.m σ.h b->iV σ.m a b (.cells l.toArray T (0,0))->
     Ft {(σ.sub k (λ |.ptr _ o=>.val (.pointer (some ⟨b,o,none⟩))|_=>.junk)).setOwn k none with m:=a} K ks
   |none=>False
  |_=>False
def rA(P:Program)(σ:St)(mv:cu):Nat->cw->di->Option ct
 |_,[],_=>some []
 |i,x::r,b=>
  match rA P σ mv (i+1) r b.tail with
  |none=>none
  |some a=>
   match mv.contains i with
   |true=>match σ.ev x with
    |.at (.lst k)=>match nth σ.own k with
     |some (some (.lst E c d))=>some (.lst E c d::a)
     |_=>none
    |.at (.val (.slice none 0 0))=>match elemOf P (b.headD 0)with
     |some (E,_)=>some (.lst E (P.cellsOf E) []::a)
     |none=>none
    |_=>none
   |false=>match(σ.ev x).val? with
    |some u=>some (.val u::a)
    |none=>none
def jL(σ:St)(mv:cu):Nat->cw->cu
 |_,[]=>[]
 |i,x::r=>match mv.contains i,σ.ev x with
  |true,.at (.lst k)=>k::jL σ mv (i+1) r
  |_,_=>jL σ mv (i+1) r
def Ex(mv:cu):Nat->cw->cw
 |_,[]=>[]
 |i,x::r=>match mv.contains i with
  |true=>Ex mv (i+1) r
  |false=>x::Ex mv (i+1) r
def A7(σ:St):cu->St
 |[]=>σ
 |k::ks=>A7 (σ.kill k) ks
def Dm:ct->Option (List (Sum At cr))
 |[]=>some []
 |.val v::r=>match Dm r with|some l=>some (.inl (.val v)::l)|none=>none
 |_::_=>none
def brJ(o:Oper)(σ:St)(a:cu)(K:St->Prop)(r:CV)(m:MH)(h:PH):Prop:=
 match r with
 |.val v=>K ({σ with m:=m,h:=h}.put o.dst (.at (.val v)))
 |.lst E b c=>match o.dst with
  |some d=>K ((({σ with m:=m,h:=h}.kill (a.headD d)).setOwn (a.headD d) (some (.lst E b c))).put (some d) (.at (.lst (a.headD d))))
  |none=>False
 |.tup e=>match Dm e with
  |some l=>K ({σ with m:=m,h:=h}.put o.dst (.tup l))
  |none=>False
def J9:cu->Bool
 |[]=>true
 |x::r=>match r.contains x with|true=>false|false=>J9 r
def GH(C:Ctx)(f:Nat):cu:=match assoc C.moves f with|some l=>l|none=>[]
def XB(C:Ctx)(o:Oper)(f:FuncId)(args:cw)(ts:di)(σ:St)(K:St->Prop):Prop:=
 match assoc C.specs f with
 |none=>False
 |some S=>
  uF σ (λτ=>Ft τ (λυ=>
   match rA C.P υ (GH C f) 0 args ts,J9 (jL υ (GH C f) 0 args)with
   |some a,true=>S a υ.m υ.h (brJ o (A7 υ (jL υ (GH C f) 0 args)) (jL υ (GH C f) 0 args) K)
   |_,_=>False) (oN τ args))
   (Fk σ (Ex (GH C f) 0 args))
structure StructEq(P:Program)(T:TypeId)(x y:Value)(r:Bool):Prop where
 guard:P.eqGuardType P.depth T=false
 eq:∀w,(Op.equalIn 10000 T x y).run P w= .ok r w
def Dp(C:Ctx)(o:Oper)(neg:Bool)(T:TypeId)(x y:Operand)(σ:St)(K:St->Prop):Prop:=
 match(σ.ev x).val?,(σ.ev y).val? with
 |some (.agg a),some (.agg b)=>∃r,StructEq C.P T (.agg a) (.agg b) r/\K (σ.put o.dst (.at (.val (.bool (match neg with|true=> !r|false=>r)))))
 |_,_=>False
structure vR(m:MH)(b:Nat)(kvs:ci):Prop where
 ex:∃(es:Array MapEntry)(clock:Nat),m b=some (.map es clock)/\es.toList.map (λe=>(e.key,e.val))=kvs
structure KeyLaw(P:Program)(kt:TypeId)(Ok:Value->Prop):Prop where
 under:∃d,P.underlying kt=some d
 check:∀v w b,Ok v->(Instr.checkKey b 10000 kt v).run P w= .ok () w
 eq:∀x y w,Ok x->Ok y->∃r,(Op.equal kt x y).run P w= .ok r w/\(r=true↔x=y)
 now:∀d x y r,P.underlying kt=some d->Ok x->Ok y->Instr.sameNow d x y=some r->(r=true↔x=y)
structure pX(m m':MH)(b:Nat):Prop where
 other:∀b',b'≠b->m' b'=m b'
def Kg(o:Oper)(r:Option Operand)(σ:St)(K:St->Prop):Prop:=
 match r with
 |none=>∀(b:Nat)(a:MH),fC σ.m σ.h b->iV σ.m a b (.map #[] 0)->K ({σ with m:=a}.put o.dst (.at (.val (.map (some b)))))
 |some _=>False
def Rw(P:Program)(T:TypeId):Option Value:=
 match P.info? T with
 |some i=>match i.zero with
  |some (.int k n)=>some (.int k n)
  |some (.bool b)=>some (.bool b)
  |some (.slice none 0 0)=>some (.slice none 0 0)
  |_=>none
 |none=>none
def only:bw->Value
 |[u]=>u
 |_=>undef
def NH(C:Ctx)(o:Oper)(T:TypeId)(x k:Operand)(ok:Bool)(σ:St)(K:St->Prop):Prop:=
 match C.P.underlying T,σ.ev x,(σ.ev k).val? with
 |some (.map f c),.at (.val (.map (some b))),some d=>
  match Rw C.P c with
  |some z=>
   ∃(a:List (Value×(C.dec c).X))(Ok:Value->Prop),vR σ.m b (a.map λp=>(p.1,only ((C.dec c).enc p.2)))/\KeyLaw C.P f Ok/\Ok d/\(∀e∈a,Ok e.1)/\
    ((∀e∈a,e.1≠d)->K (σ.put o.dst (match ok with|true=>.tup [.inl (.val z),.inl (.val (.bool false))]|false=>.at (.val z))))/\
    ∀y,(d,y)∈a->match(C.dec c).enc y with
     |[u]=>K (σ.put o.dst (match ok with|true=>.tup [.inl (.val u),.inl (.val (.bool true))]|false=>.at (.val u)))
     |_=>False
  |none=>False
 |_,_,_=>False
def Cs(C:Ctx)(T:TypeId)(x k v:Operand)(σ:St)(K:St->Prop):Prop:=
 match C.P.underlying T,σ.ev x,(σ.ev k).val?,(σ.ev v).val? with
 |some (.map f _),.at (.val (.map (some b))),some c,some u=>
  ∃(a:ci)(Ok:Value->Prop),vR σ.m b a/\KeyLaw C.P f Ok/\Ok c/\(∀e∈a,Ok e.1)/\(∀e∈a,e.1≠c)/\
   ∀d:MH,pX σ.m d b->vR d b (a++[(c,u)])->K {σ with m:=d}
 |_,_,_,_=>False
structure vT(m:MH)(b:Nat)(kvs:ci):Prop where
 ex:∃(es:Array MapEntry)(clock:Nat),m b=some (.map es clock)/\es.toList.map (λe=>(e.key,e.val))=kvs/\(∀e∈es.toList,e.born<clock)/\(es.toList.map (·.born)).Nodup
def Jd(C:Ctx)(T:TypeId)(x k v:Operand)(σ:St)(K:St->Prop):Prop:=
 match C.P.underlying T,σ.ev x,(σ.ev k).val?,(σ.ev v).val? with
 |some (.map h _),.at (.val (.map (some b))),some c,some u=>
  ∃(a:ci)(Ok:Value->Prop),vT σ.m b a/\KeyLaw C.P h Ok/\Ok c/\Instr.sameBits 10000 c c=true/\(∀e∈a,Ok e.1)/\
   ((∀e∈a,e.1≠c)->∀d:MH,pX σ.m d b->vT d b (a++[(c,u)])->K {σ with m:=d})/\
   ∀(f:ci)(i:Value)(g:ci),a=f++(c,i)::g->∀d:MH,pX σ.m d b->vT d b (f++(c,u)::g)->K {σ with m:=d}
 |_,_,_,_=>False
structure lV(m:MH)(b r:Nat)(kvs left:ci):Prop where
 ex:∃(es:Array MapEntry)(clock since:Nat)(seen:Array Nat)(c0:Nat),m b=some (.map es clock)/\es.toList.map (λe=>(e.key,e.val))=kvs/\(∀e∈es.toList,e.born<clock)/\(es.toList.map (·.born)).Nodup/\
  m r=some (.mapIter (some b) since seen c0)/\(∀e∈es.toList,e.born<since)/\since<=c0/\since<=clock/\(es.toList.filter λe=> !seen.contains e.born).map (λe=>(e.key,e.val))=left
structure EH(m:MH)(b r:Nat)(kvs left:ci)(x:Value×Value):Prop where
 it:lV m b r kvs left
 ex:∃(es:Array MapEntry)(clock since:Nat)(seen:Array Nat)(e:MapEntry),m b=some (.map es clock)/\(es.toList.map (·.born)).Nodup/\m r=some (.mapIter (some b) since (seen.push e.born) clock)/\e∈es.toList/\x=(e.key,e.val)
def RR(C:Ctx)(o:Oper)(T:TypeId)(x:Operand)(σ:St)(K:St->Prop):Prop:=
 match C.P.underlying T,σ.ev x with
 |some .string,.at (.val (.string s))=>
  ∀(b:Nat)(c:MH),fC σ.m σ.h b->iV σ.m c b (.stringIter s 0)->K ({σ with m:=c}.put o.dst (.at (.val (.pointer (some ⟨b,0,none⟩)))))
 |some (.map _ _),.at (.val (.map (some b)))=>
  ∃a:ci,vT σ.m b a/\∀(r:Nat)(c:MH),fC σ.m σ.h r->pX σ.m c r->lV c b r a a->K ({σ with m:=c}.put o.dst (.at (.val (.pointer (some ⟨r,0,none⟩)))))
 |_,_=>False
def VP(o:Oper)(x:Operand)(c:Bool)(σ:St)(K:St->Prop):Prop:=
 match σ.ev x,c with
 |.at (.val (.pointer (some ⟨b,0,none⟩))),true=>
  ∃(s:ByteArray)(a:Nat),MAt σ.m b (.stringIter s a)/\
   (s.size<=a->K (σ.put o.dst (.tup [.inl (.val (.bool false))])))/\
   (a<s.size->∀d:MH,iV σ.m d b (.stringIter s (a+(Utf8.decode s a).2))->
    K ({σ with m:=d}.put o.dst (.tup [.inl (.val (.bool true)),.inl (.val (.int .i64 a)),.inl (.val (.int .i32 (Utf8.decode s a).1))])))
 |.at (.val (.pointer (some ⟨r,0,none⟩))),false=>
  ∃(b:Nat)(e left:ci),lV σ.m b r e left/\
   (left=[]->K (σ.put o.dst (.tup [.inl (.val (.bool false))])))/\
   ∀(f:ci)(x:Value×Value)(g:ci),left=f++x::g->∀d:MH,pX σ.m d r->EH d b r e (f++g) x->
    K ({σ with m:=d}.put o.dst (.tup [.inl (.val (.bool true)),.inl (.val x.1),.inl (.val x.2)]))
 |_,_=>False
def Sj(C:Ctx)(o:Oper)(x:Operand)(σ:St)(K:St->Prop):Prop:=
 match σ.ev x with
 |.at (.val (.pointer (some ⟨r,0,none⟩)))=>∃(b:Nat)(c left:ci)(x:Value×Value),EH σ.m b r c left x/\
  match O2 C.heapT 410000 with
  |true=>∃s:Sl,x.2=Sl.val s/\K (σ.put o.dst (.tup [.inl (.val x.1),.inl (.val (.slice s.a s.len s.cap))]))
  |false=>K (σ.put o.dst (.tup [.inl (.val x.1),.inl (.val x.2)]))
 |_=>False
def Y7(σ:St)(x v:Operand):cu:=match σ.ev x with|.at (.ptr _ _)=>[]|_=>(σ.ev v).keys
def FC(C:Ctx)(o:Oper)(T:TypeId):cu:=match o.dst with|some d=>(match O2 C.heapT T||O2 C.heapT (200000+d)with|true=>[d]|false=>[])|none=>[]
def bNX(C:Ctx)(o:Oper)(T:TypeId):Bool:=match FC C o T with|[]=>false|_=>true
def Yg(C:Ctx)(o:Oper)(τ:St):cu:=match o.dst with|some d=>(match O2 C.heapT (100000+d)with|true=>(τ.ev (.tmp d)).keys|false=>[])|none=>[]
structure aZX(w:World)(m:MH)(h:PH):Prop where
 hsat:∀b o v,h b o=some v->w.cell? ⟨b,o,none⟩=some v
 msat:∀b o,m b=some o->w.heap[b]? =some o
 disj:∀b o,m b=some o->∀i,h b i=none
structure XS(w:World)(m:MH)(h:PH)(m':MH)(h':PH)(w':World):Prop where
 tape:w'.tape=w.tape
 os:w'.os=w.os
 output:w'.output=w.output
 drawn:w.drawn<=w'.drawn
 size:w.heap.size<=w'.heap.size
 frame:∀b,b<w.heap.size->m b=none->w'.heap[b]? =w.heap[b]?
 heapy:aZX w' m' h'
 hle:PH.le h h'
 hold:∀b,b<w.heap.size->m b=none->h' b=h b
 mfr:∀b o,m' b=some o->w.heap.size<=b\/m b≠none
def valOf(P:Program)(T:TypeId)(cs:bw):Value:=
 match xW P T with
 |true=>.agg cs.toArray
 |false=>match cs with|[x]=>x|_=>undef
structure FAt(P:Program)(f:FuncId)(T:TypeId)(cvs:ct)(m:MH)(h:PH)(R:bw->MH->PH->Prop):Prop where
 fn:∃fn,P.funcs[f]? =some fn/\fn.body.isSome=true/\(fn.name== "runtime.NumGoroutine")=false
 go:∀(vs:bw)(w:World),cvs=vs.map .val->aZX w m h->Calls P f vs.toArray w λe w'=>∃l m' h',e= .returned (valOf P T l)/\R l m' h'/\XS w m h m' h' w'
def MQ:ct->bw->ct
 |[],l=>l.map .val
 |c::r,l=>c::MQ r l
def bOZ:di->Option TypeId
 |[]=>none
 |x::r=>match Nat.ble 510000 x with|true=>some (Nat.sub x 510000)|false=>bOZ r
def bTX(C:Ctx):Operand->Option TypeId
 |.tmp _=>bOZ C.heapT
 |_=>none
def aPZ(C:Ctx)(o:Oper)(T:TypeId)(f:FuncId)(a:bw)(args:cw)(σ:St)(K:St->Prop):Prop:=
 match rA C.P σ [] 0 args []with
 |some b=>∃R:(C.dec T).X->MH->PH->Prop,FAt C.P f T (MQ b a) σ.m σ.h (λl m h=>∃x,l=(C.dec T).enc x/\R x m h)/\
  ∀(x:(C.dec T).X)(m:MH)(h:PH),R x m h->K ({σ with m:=m,h:=h}.put o.dst (mk C.P T (((C.dec T).enc x).map .val)))
 |none=>False
def OZ(C:Ctx)(o:Oper)(σ:St)(K:St->Prop):Prop:=
 match o.op with
 |.move x=>K (σ.put o.dst (σ.ev x))
 |.assign x=>K (σ.put o.dst (σ.ev x))
 |.pick c a b=>VF o c a b σ K
 |.alloc T=>Su C o T σ (λτ=>Ft τ K (FC C o T))
 |.box T x=>match bNX C o T with
  |true=>uF σ (λτ=>YC o T x τ (λυ=>Ft υ K (FC C o T))) (σ.ev x).keys
  |false=>YC o T x σ K
 |.build T h=>Sq C o T h.toList σ K
 |.buildSlice T n h=>EG C o T n h.toList σ (λτ=>C6 τ (λυ=>uF υ K (Yg C o υ)) (FC C o T))
 |.load T x=>VW C o T x σ K
 |.store T x v=>match o.dst with|none=>uF σ (λτ=>RG C T x v τ K) (Y7 σ x v)|some _=>False
 |.makeFunc _ _ e=>Ft σ (λτ=>v7 C o τ K) (oN σ e.toList)
 |.nilCheck x=>Hx o x σ K
 |.binOp .quo _ x y _=>Yz o .quo x y σ K
 |.binOp .rem _ x y _=>Yz o .rem x y σ K
 |.binOp .eql T x y _=>match xW C.P T with|true=>Dp C o false T x y σ K|false=>v7 C o σ K
 |.binOp .neq T x y _=>match xW C.P T with|true=>Dp C o true T x y σ K|false=>v7 C o σ K
 |.binOp .add _ x y _=>Ou C o x y σ K
 |.binOp .. =>v7 C o σ K
 |.unOp .. =>v7 C o σ K
 |.convert s d x=>KX C o s d x σ K
 |.makeSlice T l c=>Fq C o T l c σ (λτ=>C6 τ K (FC C o (2000+T)))
 |.slice T x m p t=>RJ C o T x m p t σ K
 |.fieldAddr T x f=>FG C o T x f σ K
 |.field T x f=>Sd C o T x f σ K
 |.indexAddr T x i=>Fx C o T x i σ K
 |.index T x i=>R6 C o T x i σ K
 |.extract x i=>KS C o x i σ K
 |.makeMap _ r=>Kg o r σ K
 |.lookup T x k ok=>NH C o T x k ok σ K
 |.mapUpdate T x k v=>match o.dst with|none=>(match O2 C.heapT 400000 with|true=>Jd C T x k v σ K|false=>Cs C T x k v σ K)|some _=>False
 |.range T x=>RR C o T x σ K
 |.next x b=>VP o x b σ K
 |.entry x=>Sj C o x σ K
 |.call c=>match c.callee with
  |.builtin .len=>match c.args.toList with
   |[x]=>awZ C o x c.argTypes.toList σ K
   |_=>False
  |.builtin .append=>match c.args.toList,c.argTypes.toList with
   |[x,y],[T,u]=>Oy C o T u x y σ (λτ=>uF τ K (Yg C o τ))
   |_,_=>False
  |.builtin .cap=>v7 C o σ K
  |.builtin .min=>v7 C o σ K
  |.builtin .max=>v7 C o σ K
  |.builtin _=>False
  |.value g=>match σ.ev g with
   |.at (.val (.func (.func f) j e))=>match bTX C g with
    |some T=>match j.toList with
     |[]=>aPZ C o T f e.toList c.args.toList σ K
     |_=>False
    |none=>match j.toList,e.toList with
     |[],[]=>XB C o f c.args.toList c.argTypes.toList σ K
     |_,_=>False
   |_=>False
  |.invoke .. =>False
 |_=>False
def setTmp(σ:St)(c:Operand)(b:Bool):St:=
 match c with
 |.tmp t=>{σ with sl:=σ.sl.set t (.at (.val (.bool b)))}
 |_=>σ
def NQ(f:Oper->St->(St->Prop)->Prop)(ops:Array Oper)(o:Oper)(σ:St)(K:St->Prop):Prop:=
 match o.guard with
 |none=>f o σ K
 |some (j,a)=>
  match nth ops.toList j with
  |none=>False
  |some g=>match g.dst with
   |none=>False
   |some d=>match σ.ev (.tmp d)with
    |.at (.val (.bool t))=>
     branch t
      (match a with|true=>f o (setTmp σ (.tmp d) true) K|false=>K ((setTmp σ (.tmp d) true).put o.dst (.at (.val undef))))
      (match a with|false=>f o (setTmp σ (.tmp d) false) K|true=>K ((setTmp σ (.tmp d) false).put o.dst (.at (.val undef))))
    |.at (.val (.tuple _))=>K (σ.put o.dst (.at (.val undef)))
    |_=>False
def R8(C:Ctx)(ops:Array Oper)(o:Oper)(σ:St)(K:St->Prop):Prop:=NQ (OZ C) ops o σ K
structure Oz(P:Program)(S:Spec):Prop where
 go:∀(l:Nat)(vs:bw)(m:MH)(h:PH)(w:World)(K:bu),S (.val (.func (.yield l) #[] #[])::vs.map .val) m h K->aZX w m h->
  ∃fn tmps assign body,(Instr.yield l vs.toArray).run P w= .ok (.round l fn tmps assign body) w/\
   RoundIn Fence.wide 0 P l fn tmps assign body w λe w'=>∃u m' h',e= .returned u/\K (.val u) m' h'/\XS w m h m' h' w'
def Ry(C:Ctx)(o:Oper)(v:Value)(args:cw)(σ:St)(K:St->Prop):Prop:=
 match C.yield with
 |none=>False
 |some S=>
  match rA C.P σ [] 0 args []with
  |some a=>Oz C.P S/\S (.val v::a) σ.m σ.h (λr m h=>match r with
   |.val u=>K ({σ with m:=m,h:=h}.put o.dst (.at (.val u)))
   |_=>False)
  |none=>False
def Pr(C:Ctx)(o:Oper)(σ:St)(K:St->Prop):Prop:=
 match o.op with
 |.call c=>match c.callee with
  |.value g=>match σ.ev g with
   |.at (.val (.func (.yield l) a b))=>match a.toList,b.toList with
    |[],[]=>Ry C o (.func (.yield l) #[] #[]) c.args.toList σ K
    |_,_=>False
   |_=>OZ C o σ K
  |_=>OZ C o σ K
 |_=>OZ C o σ K
def Pk(C:Ctx)(ops:Array Oper):List Oper->St->(St->Prop)->Prop
 |[],σ,K=>K σ
 |o::r,σ,K=>NQ (Pr C) ops o σ (λτ=>Pk C ops r τ K)
def Ax(P:Program)(o:Oper):Bool:=
 match o.op with
 |.load .. =>true
 |.convert src _ _=>match P.underlying src with
  |some (.slice _)=>true
  |_=>false
 |_=>false
def Ez:Op->Bool
 |.move _|.assign _|.pick .. |.build .. |.load .. |.nilCheck _|.unOp .. |.fieldAddr .. |.field .. |.indexAddr .. |.index .. |.extract .. =>true
 |.binOp .. =>true
 |.convert .. =>true
 |.call {callee:=.builtin .len,.. }=>true
 |.call {callee:=.builtin .min,.. }=>true
 |.call {callee:=.builtin .max,.. }=>true
 |_=>false
def GK(ops:Array Oper):cu->Option (Nat×Oper)
 |[]=>none
 |i::r=>match nth ops.toList i with
  |some o=>match Ez o.op with|true=>some (i,o)|false=>GK ops r
  |none=>GK ops r
def waits(a:Oper)(i:Nat):Bool:=a.after.toList.any λe=>Region.binds .any e&&Nat.beq e.on i
def yE(σ:St)(a:Oper)(k:Nat):Bool:=
 (match a.dst with|some d=>Nat.beq d k|none=>false)||
 match a.op with
 |.store _ x _=>match σ.ev x with
  |.at (.ptr j _)=>Nat.beq j k
  |_=>false
 |.call c=>match c.callee with
  |.value _=>(oN σ c.args.toList).contains k
  |_=>false
 |_=>false
def zO(ops:Array Oper)(σ:St)(b:Oper):Bool:=
 match b.guard with
 |none=>false
 |some (j,a)=>match nth ops.toList j with
  |none=>false
  |some g=>match g.dst with
   |none=>false
   |some d=>match σ.ev (.tmp d)with
    |.at (.val (.bool t))=>match t,a with
     |true,false=>true
     |false,true=>true
     |_,_=>false
    |.at (.val (.tuple _))=>true
    |_=>false
def a6Q:Op->Bool
 |.move _=>true
 |_=>false
def bPQ(ops:Array Oper)(ok:Oper)(i:Nat):Bool:=
 waits ok i||ops.toList.zipIdx.any λx=>waits ok x.2&&waits x.1 i
def bBX(ops:Array Oper):Bool:=
 let l:=ops.toList
 let n:=l.length
 (List.range n).all λi=>match nth l i with
  |none=>true
  |some a=>(a.after.toList.all λe=> !Region.binds .any e||Nat.blt e.on i)&&((List.range n).all λk=>match nth l k with
   |none=>true
   |some ok=>match ok.dst with
    |none=>true
    |some d=>Nat.beq i k|| !(a.dst==some d))&&
   (((List.range n).all λk=>match nth l k with
   |none=>true
   |some ok=>match ok.dst with
    |none=>true
    |some d=> !(a.looksAt ops).contains d||waits a k)||
   (a6Q a.op&&(List.range n).all λk=>match nth l k with
   |none=>true
   |some ok=>match ok.dst with
    |none=>true
    |some d=> !(a.looksAt ops).contains d||bPQ ops ok i))
def Aa:Op->Bool
 |.alloc _|.box .. |.buildSlice .. |.makeSlice .. |.makeMap .. |.lookup .. =>true
 |_=>false
def sK(o:Oper):Option cw:=
 match o.op with
 |.call c=>match c.callee with
  |.value _=>some c.args.toList
  |_=>none
 |_=>none
def G4(σ:St)(k:Nat):cw->Bool
 |[]=>true
 |x::r=>(match σ.ev x with
  |.at (.lst j)=>match nth σ.own j with|some (some _)=> !Nat.beq j k|_=>false
  |.at (.ptr j _)=>match nth σ.own j with|some (some _)=> !Nat.beq j k|_=>false
  |_=>true)&&G4 σ k r
def Ss(σ:St)(a:Oper)(k:Nat):Bool:=
 Aa a.op||match sK a with|some l=>G4 σ k l|none=>false
def Lp(P:Program)(p:Bool)(σ:St)(f g:Oper)(K:Prop):Prop:=
 match Ax P g with
 |false=>K
 |true=>
  match g.op with
  |.load T x=>match jB P T with
   |false=>False
   |true=>match σ.ev x,g.dst with
    |.at (.ptr k a),_=>match nth σ.own k with
     |some (some (.cellsP _ _ c))=>match yE σ f k,Nat.ble (a+P.cellsOf T) c.length with
      |false,true=>K
      |_,_=>False
     |_=>False
    |.at (.val (.pointer (some ⟨b,o,none⟩))),some d=>match(σ.ev (.tmp d)).cells? with
     |some c=>match vK c with
      |some l=>match Nat.beq l.length (P.cellsOf T)with
       |true=>match Aa f.op||p with
        |true=>aU σ.m σ.h b o l/\K
        |false=>bO σ.h b o l/\K
       |false=>False
      |none=>False
     |none=>False
    |.at (.el k i r a),some d=>match nth σ.own k,(σ.ev (.tmp d)).cells? with
     |some (some (.lst _ s j)),some c=>match vK c,Nat.beq s r,Ss σ f k with
      |some l,true,true=>match Nat.beq l.length (P.cellsOf T)with
       |true=>(∃e:bw,j[i]? =some e/\(e.drop a).take (P.cellsOf T)=l)/\K
       |false=>False
      |_,_,_=>False
     |_,_=>False
    |_,_=>False
  |.convert src n x=>match σ.ev x,g.dst with
   |.at (.lst k),some d=>match nth σ.own k,σ.ev (.tmp d)with
    |some (some (.lst _ _ j)),.at (.val (.string s))=>match P.underlying src,P.underlying n with
     |some (.slice E),some .string=>match P.underlying E with
      |some (.int .u8)=>match Ss σ f k with
       |true=>j=fL s/\K
       |false=>False
      |_=>False
     |_,_=>False
    |_,_=>False
   |_,_=>False
  |_=>False
def JT(P:Program)(c:Bool)(ops:Array Oper)(a:Array Bool)(σ:St)(b:Oper):Nat->List Oper->Prop->Prop
 |_,[],K=>K
 |i,d::r,K=>
  match a.getD i false,Ez d.op,waits b i,zO ops σ d with
  |true,true,false,false=>Lp P c σ b d (JT P c ops a σ b (i+1) r K)
  |_,_,_,_=>JT P c ops a σ b (i+1) r K
def H3(σ:St)(c a:Oper)(τ:St)(K:Prop):Prop:=
 match a.op with
 |.load _ x=>match σ.ev x,a.dst with
  |.at (.val (.pointer (some ⟨b,o,none⟩))),some d=>match(σ.ev (.tmp d)).cells? with
   |some e=>match vK e with
    |some l=>match Aa c.op with
     |true=>K
     |false=>aU τ.m τ.h b o l/\K
    |none=>K
   |none=>K
  |_,_=>K
 |_=>K
def FZ(ops:Array Oper)(a:Array Bool)(σ:St)(b:Oper)(τ:St):Nat->List Oper->Prop->Prop
 |_,[],K=>K
 |i,c::r,K=>
  match a.getD i false,Ez c.op,waits b i,zO ops σ c with
  |true,true,false,false=>H3 σ b c τ (FZ ops a σ b τ (i+1) r K)
  |_,_,_,_=>FZ ops a σ b τ (i+1) r K
def XF(C:Ctx):Bool:=O2 C.heapT 0
def JG(C:Ctx)(ops:Array Oper)(a:Array Bool)(σ:St)(b:Oper)(τ:St)(K:Prop):Prop:=match XF C with|true=>FZ ops a σ b τ 0 ops.toList K|false=>K
def aQJ(g:Nat->Prop):cu->Prop
 |[]=>True
 |[j]=>g j
 |j::r=>g j/\aQJ g r
def Cy(C:Ctx)(ops:Array Oper):Nat->Array Bool->St->(St->Prop)->Prop
 |0,a,σ,K=>match Region.ready .any ops a with|[]=>K σ|_=>False
 |n+1,a,σ,K=>
  match Region.ready .any ops a with
  |[]=>K σ
  |rs=>match GK ops rs with
   |some (i,o)=>R8 C ops o σ (λτ=>Cy C ops n (a.setIfInBounds i true) τ K)
   |none=>
    aQJ (λj=>match nth ops.toList j with
     |some o=>JT C.P (XF C) ops a σ o 0 ops.toList (R8 C ops o σ (λτ=>JG C ops a σ o τ (Cy C ops n (a.setIfInBounds j true) τ K)))
     |none=>False) rs
def kS:Code->Option Nat
 |.region id _ _=>some id
 |.seq a b=>match kS a with|some i=>some i|none=>kS b
 |.cond _ a b=>match kS a with|some i=>some i|none=>kS b
 |.block _ a=>kS a
 |.loop a=>kS a
 |.scope a=>kS a
 |_=>none
def Cr:dk->dk->Prop->Prop
 |[],[],K=>K
 |x::xs,.at .junk::ys,K=>match x with|_=>Cr xs ys K
 |x::xs,y::ys,K=>x=y/\Cr xs ys K
 |_,_,_=>False
def w8:dc->dc->Prop->Prop
 |[],[],K=>K
 |_::xs,none::ys,K=>w8 xs ys K
 |x::xs,some y::ys,K=>x=some y/\w8 xs ys K
 |_,_,_=>False
def Sn(τ:St):dk->Nat->St->St
 |[],_,σ=>σ
 |y::ys,i,σ=>
  Sn τ ys (i+1) (match y with
   |.at (.lst k)=>match nth σ.sl i with
    |some (.at (.val (.slice none 0 0)))=>match nth τ.own k,nth σ.own k with
     |some (some (.lst E a _)),some none=>((σ.kill k).setOwn k (some (.lst E a []))).put (some i) (.at (.lst k))
     |_,_=>σ
    |_=>σ
   |_=>σ)
def Hl(σ:St)(q j:Nat)(x:At):St:=
 match nth σ.own q with
 |some (some (.cellsP p T a))=>σ.setOwn q (some (.cellsP p T (a.set j x)))
 |_=>σ
def G0(τ:St)(q:Nat):cr->Nat->St->St
 |[],_,σ=>σ
 |y::ys,j,σ=>
  G0 τ q ys (j+1) (match y with
   |.lst k=>match nth σ.own q with
    |some (some (.cellsP _ _ a))=>match nth a j with
     |some (.val (.slice none 0 0))=>match nth τ.own k,nth σ.own k with
      |some (some (.lst E b _)),some none=>Hl ((σ.kill k).setOwn k (some (.lst E b []))) q j (.lst k)
      |_,_=>σ
     |_=>σ
    |_=>σ
   |_=>σ)
def MO(τ:St):dc->Nat->St->St
 |[],_,σ=>σ
 |y::ys,q,σ=>
  MO τ ys (q+1) (match y with
   |some (.cellsP _ _ a)=>G0 τ q a 0 σ
   |_=>σ)
def conv(σ τ:St):St:=MO τ τ.own 0 (Sn τ τ.sl 0 σ)
def w6(σ τ:St)(K:Prop):Prop:=
 Cr (conv σ τ).sl τ.sl (w8 (conv σ τ).own τ.own ((conv σ τ).m=τ.m/\(conv σ τ).h=τ.h/\K))
structure EZ(m:MH)(h:PH):Prop where
 disj:∀b o,m b=some o->∀i,h b i=none
structure FV(m:MH)(h:PH)(m2:MH)(h2:PH):Prop where
 sub:∀b o,m2 b=some o->m b=some o
 le:PH.le h h2
 new:∀b i v,h2 b i=some v->h b i=some v\/∃cs E fz,m b=some (.cells cs E fz)/\cs[i]? =some v/\m2 b=none
def RY(σ τ:St)(K:Prop):Prop:=
 Cr (conv σ τ).sl τ.sl (w8 (conv σ τ).own τ.own (FV (conv σ τ).m (conv σ τ).h τ.m τ.h/\K))
def Ma(c:vP)(R:c.A->Prop)(τ:St):Prop:=match c.frz with
 |false=>∃x,R x/\w6 τ (c.st x) True
 |true=>EZ τ.m τ.h->∃x,R x/\RY τ (c.st x) True
def Sv(c:vP)(I:c.A->Prop)(S:c.A->Prop)(τ:St):Prop:=match c.frz with
 |false=>∃x,I x/\S x/\w6 τ (c.st x) True
 |true=>EZ τ.m τ.h->∃x,I x/\S x/\RY τ (c.st x) True
def uH{α:Type}(d:α)(l:List (Nat×α)):Nat->Nat->List α
 |0,_=>[]
 |n+1,i=>(match assoc l i with|some x=>x|none=>d)::uH d l n (i+1)
def bY(n a:Nat)(sl:List (Nat×SV))(own:List (Nat×Own))(m:MH)(h:PH):St:=
 {sl:=uH (.at .junk) sl n 0,own:=uH none (own.map λp=>(p.1,some p.2)) a 0,m:=m,h:=h}
def YB(C:Ctx)(b:Code):Option XU:=match kS b with|some i=>assoc C.cuts i|none=>none
def bFQ(C:Ctx)(b:Code):Option MS:=match kS b with|some i=>assoc C.loops i|none=>none
def Sm(C:Ctx)(b:Code):Option vP:=match kS b with|some i=>assoc C.cuts2 i|none=>none
def a5Z(C:Ctx)(b:Code):Option vP:=match kS b with|some i=>assoc C.loops2 i|none=>none
def X5(C:Ctx)(ops:Array Oper):da->List Oper->St->(St->Prop)->Prop
 |[],l,σ,K=>Pk C ops l σ K
 |(n,a)::r,l,σ,K=>∃I:a.A->Prop,Pk C ops (l.take n) σ (λτ=>∃x,I x/\w6 τ (a.st x) True)/\∀x,I x->X5 C ops r (l.drop n) (a.st x) K
def M9(C:Ctx)(id:Nat):da:=match assoc C.rcuts id with|some l=>l|none=>[]
def VC(C:Ctx):Code->St->(JL->St->Prop)->Prop
 |.skip,σ,Q=>Q .normal σ
 |.label _,σ,Q=>Q .normal σ
 |.region id d false,σ,Q=>X5 C d (M9 C id) d.toList σ (Q .normal)
 |.region _ d true,σ,Q=>match bBX d,Region.noSelect d,C.P.follows .mixedOrders with
  |true,true,true=>Cy C d d.size (Array.replicate d.size false) σ (Q .normal)
  |_,_,_=>False
 |.seq a b,σ,Q=>
  match YB C b with
  |some c=>VC C a σ (λe τ=>match e with
   |.normal=>∃x,c.inv x/\w6 τ (c.st x) True
   |e=>Q e τ)/\∀x,c.inv x->VC C b (c.st x) Q
  |none=>match Sm C b with
   |some c=>∃I:c.A->Prop,VC C a σ (λe τ=>match e with
    |.normal=>Ma c I τ
    |e=>Q e τ)/\∀x,I x->VC C b (c.st x) Q
   |none=>VC C a σ (λe τ=>match e with
    |.normal=>VC C b τ Q
    |e=>Q e τ)
 |.cond c x y,σ,Q=>
  match σ.ev c with
  |.at (.val (.bool t))=>branch t (VC C x (setTmp σ c true) Q) (VC C y (setTmp σ c false) Q)
  |_=>False
 |.block id c,σ,Q=>
  VC C c σ (λe τ=>match e with
   |.exit i=>match Nat.beq i id with|true=>Q .normal τ|false=>Q (.exit i) τ
   |e=>Q e τ)
 |.loop c,σ,Q=>
  match bFQ C c with
  |some l=>
   (∃x,l.inv x/\w6 σ (l.st x) True)/\
   ∀x,l.inv x->VC C c (l.st x) (λe τ=>match e with
    |.normal=>∃y,l.inv y/\l.mu y<l.mu x/\w6 τ (l.st y) True
    |e=>Q e τ)
  |none=>match a5Z C c with
   |some l=>∃(I:l.A->Prop)(f:l.A->Nat),
    Ma l I σ/\
    ∀x,I x->VC C c (l.st x) (λe τ=>match e with
     |.normal=>Sv l I (λy=>f y<f x) τ
     |e=>Q e τ)
   |none=>False
 |.exit id,σ,Q=>Q (.exit id) σ
 |.ret,σ,Q=>Q .ret σ
 |_,_,_=>False
def X7(C:Ctx)(σ:St):ResultVar->Option SV
 |.tmp t=>some (σ.ev (.tmp t))
 |.cell a T=>match σ.ev (.tmp a)with
  |.at (.ptr k b)=>match nth σ.own k with
   |some (some (.cellsP _ _ c))=>match Nat.ble (b+C.P.cellsOf T) c.length,jB C.P T with
    |true,true=>some (mk C.P T ((c.drop b).take (C.P.cellsOf T)))
    |_,_=>none
   |_=>none
  |_=>none
def J4(C:Ctx)(σ:St):List ResultVar->Option dk
 |[]=>some []
 |r::rs=>match X7 C σ r,J4 C σ rs with
  |some x,some l=>some (x::l)
  |_,_=>none
def Yf:dk->cu
 |[]=>[]
 |x::r=>x.keys++(Yf r).filter (λk=> !x.keys.contains k)
def Df(P:Program)(σ:St)(mv:Bool):dk->di->Option ct
 |[],_=>some []
 |x::r,a=>match Df P σ mv r a.tail with
  |none=>none
  |some l=>match mv with
   |true=>match x with
    |.at (.lst k)=>match nth σ.own k with
     |some (some (.lst E b c))=>some (.lst E b c::l)
     |_=>none
    |.at (.val (.slice none 0 0))=>match elemOf P (a.headD 0)with
     |some (E,_)=>some (.lst E (P.cellsOf E) []::l)
     |none=>none
    |_=>none
   |false=>match x.val? with
    |some v=>some (.val v::l)
    |none=>none
def H9:dk->cu
 |[]=>[]
 |.at (.ptr k _)::r=>match(H9 r).contains k with|true=>H9 r|false=>k::H9 r
 |_::r=>H9 r
def EL(C:Ctx)(fn:Func)(K:bu)(σ:St):Prop:=
 match J4 C σ fn.results.toList with
 |none=>False
 |some a=>
  uF σ (λτ=>Ft τ (λυ=>
   match J4 C υ fn.results.toList with
   |none=>False
   |some b=>match Df C.P υ C.retMove b fn.resultTypes.toList with
    |some [r]=>K r υ.m υ.h
    |some c=>match C.retMove with|true=>False|false=>K (.tup c) υ.m υ.h
    |none=>False) (match C.retMove with|true=>[]|false=>H9 a)) (match C.retMove with|true=>[]|false=>Yf a)
def GZ(n:Nat):Nat->ct->dk
 |_,[]=>[]
 |i,.val v::r=>.at (.val v)::GZ n (i+1) r
 |i,.lst _ _ _::r=>.at (.lst (n+i))::GZ n (i+1) r
 |i,.tup _::r=>.at .junk::GZ n (i+1) r
def Ac:ct->dc
 |[]=>[]
 |.lst E a b::r=>some (.lst E a b)::Ac r
 |_::r=>none::Ac r
def entry(n:Nat)(args:ct)(m:MH)(h:PH):St:=
 {sl:=GZ n 0 args++replicate (n-args.length) (.at .junk),own:=replicate n none++Ac args,m:=m,h:=h}
def sI(C:Ctx)(fn:Func)(c:Code)(σ:St)(K:bu):Prop:=
 VC C c σ (λe τ=>match e with
  |.normal=>EL C fn K τ
  |.ret=>EL C fn K τ
  |_=>False)
end Go.Vc
namespace Go.Vc
open Go List
theorem jE{α:Type}:∀(l:List α)(i:Nat),nth l i=l[i]?
 |[],i=>by simp[nth]
 |x::xs,0=>by simp[nth]
 |x::xs,n+1=>by simp[nth,jE xs n]
def yD(ι:cj):At->Value->Prop
 |.val v,u=>u=v
 |.ptr k o,u=>∃b,ι k= .pointer (some ⟨b,0,none⟩)/\u= .pointer (some ⟨b,o,none⟩)
 |.lst k,u=>u=ι k
 |.el k i a o,u=>∃b n c,ι k= .slice (some ⟨b,0,none⟩) n c/\u= .pointer (some ⟨b,i*a+o,none⟩)
 |.junk,_=>True
def iG(ι:cj):cr->bw->Prop
 |[],[]=>True
 |x::xs,v::vs=>yD ι x v/\iG ι xs vs
 |_,_=>False
def OP(ι:cj):List (Sum At cr)->bw->Prop
 |[],[]=>True
 |.inl x::xs,v::vs=>yD ι x v/\OP ι xs vs
 |.inr b::xs,v::vs=>(∃a:Array Value,v= .agg a/\iG ι b a.toList)/\OP ι xs vs
 |_,_=>False
def Den(ι:cj):SV->Value->Prop
 |.at x,u=>yD ι x u
 |.agg b,u=>∃a:Array Value,u= .agg a/\iG ι b a.toList
 |.tup c,u=>∃a:Array Value,u= .tuple a/\OP ι c a.toList
def DenS(ι:cj):dk->bw->Prop
 |[],[]=>True
 |x::xs,v::vs=>Den ι x v/\DenS ι xs vs
 |_,_=>False
theorem iG.length{ι:cj}:∀{cs:cr}{vs:bw},iG ι cs vs->cs.length=vs.length
 |[],[],_=>rfl
 |_::_,_::_,h=>by simp[iG.length h.2]
 |[],_::_,h=>h.elim
 |_::_,[],h=>h.elim
theorem iG.get{ι:cj}:∀{cs:cr}{vs:bw}(_:iG ι cs vs)(i:Nat)(x:At),cs[i]? =some x->∃v,vs[i]? =some v/\yD ι x v
 |[],[],_,i,x,a=>by simp at a
 |_::_,v::_,h,0,x,a=>by simp at a;subst a;exact⟨v,rfl,h.1⟩
 |_::_,_::_,h,i+1,x,a=>by simp at a⊢;exact iG.get h.2 i x a
 |[],_::_,h,_,_,_=>h.elim
 |_::_,[],h,_,_,_=>h.elim
theorem iG.take{ι:cj}:∀{cs:cr}{vs:bw}(n:Nat),iG ι cs vs->iG ι (cs.take n) (vs.take n)
 |_,_,0,_=>by simp[iG]
 |[],[],n+1,h=>by simp[iG]
 |_::_,_::_,n+1,h=>by simp only[take_succ_cons];exact⟨h.1,h.2.take n⟩
 |[],_::_,_+1,h=>h.elim
 |_::_,[],_+1,h=>h.elim
theorem iG.drop{ι:cj}:∀{cs:cr}{vs:bw}(n:Nat),iG ι cs vs->iG ι (cs.drop n) (vs.drop n)
 |_,_,0,h=>bo h
 |[],[],n+1,h=>by simp[iG]
 |_::_,_::_,n+1,h=>by simp only[drop_succ_cons];exact h.2.drop n
 |[],_::_,_+1,h=>h.elim
 |_::_,[],_+1,h=>h.elim
theorem iG.append{ι:cj}:∀{cs a:cr}{vs b:bw},iG ι cs vs->iG ι a b->iG ι (cs++a) (vs++b)
 |[],_,[],_,_,c=>bo c
 |_::_,_,_::_,_,h,c=>⟨h.1,h.2.append c⟩
 |[],_,_::_,_,h,_=>h.elim
 |_::_,_,[],_,h,_=>h.elim
theorem iG.splice{ι:cj}{cs new:cr}{vs us:bw}(off:Nat)(h:iG ι cs vs)(a:iG ι new us):
 iG ι (splice cs off new) (splice vs off us):=by
 unfold Vc.splice;rw[a.length];exact((h.take off).append a).append (h.drop _)
theorem iG.set{ι:cj}:∀{cs:cr}{vs:bw}(j:Nat){x:At}{v:Value},iG ι cs vs->yD ι x v->iG ι (cs.set j x) (vs.set j v)
 |[],[],_,_,_,_,_=>by simp[iG]
 |_::_,_::_,0,_,_,h,a=>⟨a,h.2⟩
 |_::_,_::_,j+1,_,_,h,a=>⟨h.1,h.2.set j a⟩
 |[],_::_,_,_,_,h,_=>h.elim
 |_::_,[],_,_,_,h,_=>h.elim
theorem iG.vals{ι:cj}:∀{l:bw}{vs:bw},iG ι (l.map .val) vs↔vs=l
 |[],[]=>by simp[iG]
 |[],_::_=>by simp[iG]
 |_::_,[]=>by simp[iG]
 |a::l,v::vs=>by simp only[map_cons,iG,yD,iG.vals,List.cons.injEq]
theorem E6:∀{cs:cr}{l:bw},vK cs=some l->cs=l.map .val
 |[],l,h=>by simp[vK]at h;subst h;rfl
 |.val v::r,l,h=>by
  simp only[vK]at h;cases a:vK r with
  |none=>simp[a]at h
  |some b=>simp[a]at h;subst h;simp[E6 a]
 |.ptr _ _::_,_,h=>by simp[vK]at h
 |.lst _::_,_,h=>by simp[vK]at h
 |.el _ _ _ _::_,_,h=>by simp[vK]at h
 |.junk::_,_,h=>by simp[vK]at h
theorem Den.val?{ι:cj}{x:SV}{u v:Value}(h:Den ι x u)(a:x.val? =some v):u=v:=by
 cases x with
 |«at» y=>cases y<;>simp[SV.val?]at a;subst a;exact h
 |agg d=>
  simp only[SV.val?]at a;cases b:vK d with
  |none=>simp[b]at a
  |some l=>
   simp[b]at a;obtain⟨e,rfl,c⟩:=h;rw[E6 b,iG.vals]at c;subst a;congr 1;apply Array.toList_inj.1;simpa using c
 |tup f=>simp[SV.val?]at a
theorem DenS.length{ι:cj}:∀{xs:dk}{vs:bw},DenS ι xs vs->xs.length=vs.length
 |[],[],_=>rfl
 |_::_,_::_,h=>by simp[DenS.length h.2]
 |[],_::_,h=>h.elim
 |_::_,[],h=>h.elim
theorem DenS.get{ι:cj}:∀{xs:dk}{vs:bw}(_:DenS ι xs vs)(i:Nat)(x:SV),xs[i]? =some x->∃v,vs[i]? =some v/\Den ι x v
 |[],[],_,i,x,a=>by simp at a
 |_::_,v::_,h,0,x,a=>by simp at a;subst a;exact⟨v,rfl,h.1⟩
 |_::_,_::_,h,i+1,x,a=>by simp at a⊢;exact DenS.get h.2 i x a
 |[],_::_,h,_,_,_=>h.elim
 |_::_,[],h,_,_,_=>h.elim
theorem DenS.set{ι:cj}:∀{xs:dk}{vs:bw}(j:Nat){x:SV}{v:Value},DenS ι xs vs->Den ι x v->DenS ι (xs.set j x) (vs.set j v)
 |[],[],_,_,_,_,_=>by simp[DenS]
 |_::_,_::_,0,_,_,h,a=>⟨a,h.2⟩
 |_::_,_::_,j+1,_,_,h,a=>⟨h.1,h.2.set j a⟩
 |[],_::_,_,_,_,h,_=>h.elim
 |_::_,[],_,_,_,h,_=>h.elim
def upd(ι:cj)(k:Nat)(u:Value):Nat->Value:=λj=>if j=k then u else ι j
@[simp] theorem upd_same (ι:cj) (k:Nat) (u:Value):upd ι k u k=u:=by simp[upd]
theorem oZ(ι:cj){k j:Nat}(u:Value)(h:j≠k):upd ι k u j=ι j:=by simp[upd,h]
def At.key:At->Option Nat
 |.ptr k _=>some k
 |.lst k=>some k
 |.el k _ _ _=>some k
 |_=>none
theorem yD.sub{ι:cj}{k:Nat}{u:Value}{f:At->At}(g:∀x v,x.key=some k->yD ι x v->yD (upd ι k u) (f x) v){x:At}{v:Value}(h:yD ι x v):
 yD (upd ι k u) (x.sub k f) v:=by
 cases x with
 |val w=>exact h
 |junk=>trivial
 |ptr j o=>
  simp only[At.sub];split
  .rename_i a;exact g _ _ (by simp only[At.key,Option.some.injEq];exact Nat.eq_of_beq_eq_true a) h
  .rename_i a;have d:j≠k:=λe=>by subst e;simp at a
   obtain⟨b,l,m⟩:=h;exact⟨b,by rw[oZ _ _ d];exact l,m⟩
 |lst j=>
  simp only[At.sub];split
  .rename_i a;exact g _ _ (by simp only[At.key,Option.some.injEq];exact Nat.eq_of_beq_eq_true a) h
  .rename_i a;have d:j≠k:=λe=>by subst e;simp at a
   simp only[yD]at h⊢
   rw[oZ _ _ d];exact h
 |el j i p o=>
  simp only[At.sub];split
  .rename_i a;exact g _ _ (by simp only[At.key,Option.some.injEq];exact Nat.eq_of_beq_eq_true a) h
  .rename_i a;have d:j≠k:=λe=>by subst e;simp at a
   obtain⟨b,n,c,l,m⟩:=h;exact⟨b,n,c,by rw[oZ _ _ d];exact l,m⟩
theorem iG.sub{ι:cj}{k:Nat}{u:Value}{f:At->At}(a:∀x v,x.key=some k->yD ι x v->yD (upd ι k u) (f x) v):∀{cs:cr}{vs:bw},iG ι cs vs->
 iG (upd ι k u) (cs.map (At.sub k f)) vs
 |[],[],_=>trivial
 |_::_,_::_,h=>⟨yD.sub a h.1,iG.sub a h.2⟩
 |[],_::_,h=>h.elim
 |_::_,[],h=>h.elim
theorem OP.sub{ι:cj}{k:Nat}{u:Value}{f:At->At}(a:∀x v,x.key=some k->yD ι x v->yD (upd ι k u) (f x) v):∀{cs:List (Sum At cr)}{vs:bw},OP ι cs vs->
 OP (upd ι k u) (cs.map λ |.inl x=>.inl (x.sub k f)|.inr cs=>.inr (cs.map (At.sub k f))) vs
 |[],[],_=>trivial
 |.inl _::_,_::_,h=>⟨yD.sub a h.1,OP.sub a h.2⟩
 |.inr _::_,_::_,h=>⟨let⟨us,e,hd⟩:=h.1;⟨us,e,iG.sub a hd⟩,OP.sub a h.2⟩
 |[],_::_,h=>h.elim
 |.inl _::_,[],h=>h.elim
 |.inr _::_,[],h=>h.elim
theorem Den.sub{ι:cj}{k:Nat}{u:Value}{f:At->At}(a:∀x v,x.key=some k->yD ι x v->yD (upd ι k u) (f x) v){x:SV}{v:Value}(h:Den ι x v):
 Den (upd ι k u) (x.sub k f) v:=by
 cases x with
 |«at» y=>exact yD.sub a h
 |agg d=>obtain⟨b,e,c⟩:=h;exact⟨b,e,iG.sub a c⟩
 |tup g=>obtain⟨b,e,c⟩:=h;exact⟨b,e,OP.sub a c⟩
theorem DenS.sub{ι:cj}{k:Nat}{u:Value}{f:At->At}(a:∀x v,x.key=some k->yD ι x v->yD (upd ι k u) (f x) v):∀{xs:dk}{vs:bw},DenS ι xs vs->
 DenS (upd ι k u) (xs.map (SV.sub k f)) vs
 |[],[],_=>trivial
 |_::_,_::_,h=>⟨Den.sub a h.1,DenS.sub a h.2⟩
 |[],_::_,h=>h.elim
 |_::_,[],h=>h.elim
structure sP where
 w0:World
 E:Nat->Prop
 h0:PH
 dfs:List Deferred
def blk:Value->Option Nat
 |.pointer (some a)=>some a.block
 |.slice (some a) _ _=>some a.block
 |_=>none
def Dj(ι:cj)(w:World)(v:Value):Own->Prop
 |.cellsP p T e=>∃b c,v= .pointer (some ⟨b,0,none⟩)/\w.heap[b]? =some (.cells c T (0,0))/\iG ι e c.toList/\∀q,p=some q->b=q
 |.lst E d a=>eW d a/\w.ownsRow 0 E d v a.length a.flatten
structure Ai(B:sP)(m:MH)(h:PH)(w:World):Prop where
 tape:w.tape=B.w0.tape
 os:w.os=B.w0.os
 output:w.output=B.w0.output
 drawn:B.w0.drawn<=w.drawn
 size:B.w0.heap.size<=w.heap.size
 frame:∀b,b<B.w0.heap.size->¬B.E b->w.heap[b]? =B.w0.heap[b]?
 hsat:∀b o v,h b o=some v->w.cell? ⟨b,o,none⟩=some v
 msat:∀b o,m b=some o->w.heap[b]? =some o
 disj:∀b o,m b=some o->∀i,h b i=none
 hle:∀b o v,B.h0 b o=some v->h b o=some v
 hold:∀b,b<B.w0.heap.size->¬B.E b->h b=B.h0 b
 mfr:∀b o,m b=some o->B.w0.heap.size<=b\/B.E b
structure aL(B:sP)(ι:cj)(σ:St)(a:Act)(w:World):Prop where
 slots:DenS ι σ.sl a.tmps.toList
 defers:a.defers=B.dfs
 own:∀k o,nth σ.own k=some (some o)->Dj ι w (ι k) o
 dist:∀k k' o o' b,nth σ.own k=some (some o)->nth σ.own k'=some (some o')->blk (ι k)=some b->blk (ι k')=some b->k=k'
 fresh:∀k o b,nth σ.own k=some (some o)->blk (ι k)=some b->(B.w0.heap.size<=b\/B.E b)/\σ.m b=none/\∀i,σ.h b i=none
 wrel:Ai B σ.m σ.h w
 one:∀k,(ι k).oneCell'=true
theorem yG{α:Type}(l:List α)(k j:Nat)(x:α):nth (l.set k x) j=if j=k/\k<l.length then some x else nth l j:=by
 rw[jE,jE,getElem?_set];by_cases h:k=j
 .subst h;by_cases a:k<l.length
  .simp[a]
  .simp[a]
 .have b:¬(j=k/\k<l.length):=λe=>h e.1.symm;simp[h,b]
theorem B3{α β:Type}(f:α->β)(l:List α)(j:Nat):nth (l.map f) j=(nth l j).map f:=by
 rw[jE,jE,getElem?_map]
theorem Act.toList_put(a:Act)(d:Nat)(v:Value):(a.put (some d) v).tmps.toList=a.tmps.toList.set d v:=by
 simp[Act.put]
theorem aL.put{B:sP}{ι:cj}{σ:St}{a:Act}{w:World}(h:aL B ι σ a w)(d:Option Tmp){x:SV}{v:Value}(b:Den ι x v):
 aL B ι (σ.put d x) (a.put d v) w:=by
 cases d with
 |none=>exact h
 |some d=>
  refine⟨?_,h.defers,h.own,h.dist,h.fresh,h.wrel,h.one⟩;rw[Act.toList_put];exact h.slots.set d b
theorem aL.ev{B:sP}{ι:cj}{σ:St}{a:Act}{w:World}(h:aL B ι σ a w)(x:Operand):Den ι (σ.ev x) (a.eval x):=by
 cases x with
 |const v=>rfl
 |global g=>rfl
 |func f=>rfl
 |tmp t=>
  simp only[St.ev,jE];cases b:σ.sl[t]? with
  |none=>exact trivial
  |some x=>
   obtain⟨v,c,d⟩:=h.slots.get t x b
   have:a.eval (.tmp t)=v:=by
    simp only[Act.eval,Array.getD_eq_getD_getElem?];rw[<-Array.getElem?_toList,c];rfl
   rw[this];exact d
theorem aL.rho{B:sP}{ι:cj}{σ:St}{a:Act}{w:World}(h:aL B ι σ a w){x:Operand}{v:Value}(b:(σ.ev x).val? =some v):
 a.eval x=v:=(h.ev x).val? b
theorem qR{ι:cj}{w:World}{v:Value}{o:Own}{b:Nat}(h:Dj ι w v o)(a:blk v=some b):b<w.heap.size:=by
 cases o with
 |cellsP p T g=>
  obtain⟨d,i,rfl,c,_⟩:=h;simp[blk]at a;subst a;exact(Array.getElem?_eq_some_iff.1 c).1
 |lst E j l=>
  rcases h.2.2 with⟨rfl,_⟩|⟨d,e,f,rfl,_,c,_⟩
  .simp[blk]at a
  .simp[blk]at a;subst a;exact(Array.getElem?_eq_some_iff.1 c).1
theorem Dj.world{ι:cj}{w w':World}{v:Value}{o:Own}(h:Dj ι w v o)(f:∀b,blk v=some b->w'.heap[b]? =w.heap[b]?):Dj ι w' v o:=by
 cases o with
 |cellsP p T n=>
  obtain⟨a,g,rfl,c,i⟩:=h;exact⟨a,g,rfl,by rw[f _ rfl];exact c,i⟩
 |lst E r s=>
  refine⟨h.1,h.2.1,?_⟩;rcases h.2.2 with⟨rfl,j⟩|⟨a,d,e,rfl,l,c,m⟩
  .exact .inl ⟨rfl,j⟩
  .exact .inr ⟨a,d,e,rfl,l,by rw[f _ rfl];exact c,m⟩
theorem Dj.sub{ι:cj}{w:World}{v:Value}{o:Own}{k:Nat}{u:Value}{f:At->At}(a:∀x v,x.key=some k->yD ι x v->yD (upd ι k u) (f x) v)(h:Dj ι w v o):
 Dj (upd ι k u) w v (o.sub k f):=by
 cases o with
 |cellsP p T i=>
  obtain⟨b,c,rfl,d,e,g⟩:=h;exact⟨b,c,rfl,d,iG.sub a e,g⟩
 |lst E j l=>exact h
theorem pT{σ:St}{k j:Nat}{f:At->At}{o':Own}(h:nth ((σ.sub k f).setOwn k none).own j=some (some o')):
 j≠k/\∃o,nth σ.own j=some (some o)/\o'=o.sub k f:=by
 simp only[St.setOwn,St.sub,yG,B3]at h;by_cases a:j=k
 .subst a;by_cases c:j<σ.own.length
  .simp[c]at h
  .simp[c,jE]at h
 .simp only[a,false_and,if_false]at h;refine⟨a,?_⟩;cases b:nth σ.own j with
  |none=>simp[b]at h
  |some x=>
   cases x with
   |none=>simp[b]at h
   |some o=>simp[b]at h;exact⟨o,rfl,h.symm⟩
theorem RA{ι:cj}(h:∀k,(ι k).oneCell'=true)(k:Nat){u:Value}(a:u.oneCell'=true):∀j,(upd ι k u j).oneCell'=true:=by
 intro j;unfold upd;split
 .exact a
 .exact h j
theorem aL.drop{B:sP}{ι:cj}{σ:St}{a:Act}{w:World}(h:aL B ι σ a w)(k:Nat)(u:Value)(s:u.oneCell'=true)(f:At->At)
 (p:∀x v,x.key=some k->yD ι x v->yD (upd ι k u) (f x) v):aL B (upd ι k u) ((σ.sub k f).setOwn k none) a w:=by
 refine⟨DenS.sub p h.slots,h.defers,?_,?_,?_,h.wrel,RA h.one k s⟩
 .intro j r d;obtain⟨c,o,e,rfl⟩:=pT d;rw[oZ _ _ c];exact(h.own j o e).sub p
 .intro j t o r b d m g i;obtain⟨c,o,e,rfl⟩:=pT d;obtain⟨l,r,n,rfl⟩:=pT m;rw[oZ _ _ c]at g;rw[oZ _ _ l]at i;exact h.dist j t _ _ b e n g i
 .intro j o b d g;obtain⟨c,o,e,rfl⟩:=pT d;rw[oZ _ _ c]at g;exact h.fresh j o b e g
theorem MJ(σ:St)(k:Nat):σ.kill k=(σ.sub k (λ_=>.junk)).setOwn k none:=rfl
theorem aL.kill{B:sP}{ι:cj}{σ:St}{a:Act}{w:World}(h:aL B ι σ a w)(k:Nat)(u:Value)(b:u.oneCell'=true):aL B (upd ι k u) (σ.kill k) a w:=
 h.drop k u b _ (λ_ _ _ _=>trivial)
structure Dh(S:Nat->Prop)(w w':World):Prop where
 tape:w'.tape=w.tape
 os:w'.os=w.os
 output:w'.output=w.output
 drawn:w.drawn<=w'.drawn
 size:w.heap.size<=w'.heap.size
 block:∀b,b<w.heap.size->¬S b->w'.heap[b]? =w.heap[b]?
theorem Dh.refl(S:Nat->Prop)(w:World):Dh S w w:=⟨rfl,rfl,rfl,Nat.le_refl _,Nat.le_refl _,λ_ _ _=>rfl⟩
theorem Ai.ext{B:sP}{m:MH}{h:PH}{w w':World}{S:Nat->Prop}(a:Ai B m h w)(e:Dh S w w')(g:∀b,S b->(B.w0.heap.size<=b\/B.E b)/\m b=none/\∀i,h b i=none):
 Ai B m h w':=by
 refine⟨e.tape.trans a.tape,e.os.trans a.os,e.output.trans a.output,Nat.le_trans a.drawn e.drawn,Nat.le_trans a.size e.size,?_,?_,?_,a.disj,a.hle,a.hold,a.mfr⟩
 .intro b l n;rw[e.block b (Nat.lt_of_lt_of_le l a.size) (λf=>?_)]
  .exact a.frame b l n
  .rcases(g b f).1 with c|c
   .omega
   .exact n c
 .intro b o v p;have c:=a.hsat b o v p
  have d:b<w.heap.size:=by
   unfold World.cell? at c;dsimp only at c;rcases Nat.lt_or_ge b w.heap.size with d|j
   .exact d
   .simp[Array.getElem?_eq_none j]at c
  have s:=e.block b d (λf=>by have:=(g b f).2.2 o;rw[p]at this;cases this);unfold World.cell? at c⊢
  dsimp only at c⊢
  rw[s];exact c
 .intro b o r;have c:=a.msat b o r;have d:=(Array.getElem?_eq_some_iff.1 c).1;rw[e.block b d (λf=>by have:=(g b f).2.1;rw[r]at this;cases this)];exact c
theorem aL.place{B:sP}{ι:cj}{σ:St}{a:Act}{w w':World}(h:aL B ι σ a w)(k:Nat)(o:Own)(v:Value)
 (O:Dh (λb=>(∃o',nth σ.own k=some (some o'))/\blk (ι k)=some b) w w')
 (S:Dj (upd ι k v) w' v o)(D:v.oneCell'=true)
 (P:∀b,blk v=some b->w.heap.size<=b\/((∃o',nth σ.own k=some (some o'))/\blk (ι k)=some b)):
 aL B (upd ι k v) ((σ.kill k).setOwn k (some o)) a w':=by
 have Q:∀b,((∃o',nth σ.own k=some (some o'))/\blk (ι k)=some b)->(B.w0.heap.size<=b\/B.E b)/\σ.m b=none/\∀i,σ.h b i=none:=
  λb⟨⟨o',z⟩,H⟩=>h.fresh k o' b z H
 have I:=h.wrel.ext O Q
 have F:∀b,blk v=some b->(B.w0.heap.size<=b\/B.E b)/\σ.m b=none/\∀i,σ.h b i=none:=by
  intro b J;rcases P b J with A|r
  .refine⟨.inl (Nat.le_trans h.wrel.size A),?_,?_⟩
   .cases T:σ.m b with
    |none=>rfl
    |some U=>have:=(Array.getElem?_eq_some_iff.1 (h.wrel.msat b U T)).1;omega
   .intro i;cases V:σ.h b i with
    |none=>rfl
    |some u=>
     have R:=h.wrel.hsat b i u V;unfold World.cell? at R;simp[Array.getElem?_eq_none A]at R
  .exact Q b r
 have c:∀j o',nth ((σ.kill k).setOwn k (some o)).own j=some (some o')->
  (j=k/\o'=o)\/(j≠k/\∃n,nth σ.own j=some (some n)/\o'=n.sub k (λ_=>.junk)):=by
  intro j o' p;simp only[MJ,St.setOwn,St.sub,yG,B3,length_set,length_map]at p;by_cases e:j=k
  .subst e;by_cases y:j<σ.own.length
   .simp[y]at p;exact .inl ⟨rfl,p.symm⟩
   .simp[y,jE]at p
  .simp only[e,false_and,if_false]at p;refine .inr ⟨e,?_⟩;cases K:nth σ.own j with
   |none=>simp[K]at p
   |some x=>
    cases x with
    |none=>simp[K]at p
    |some n=>simp[K]at p;exact⟨n,rfl,p.symm⟩
 have other:∀j n,j≠k->nth σ.own j=some (some n)->∀b,blk (ι j)=some b->blk v≠some b/\w'.heap[b]? =w.heap[b]? :=by
  intro j n e g b d;have y:=qR (h.own j n g) d;have s:¬((∃o',nth σ.own k=some (some o'))/\blk (ι k)=some b):=λ⟨⟨o',z⟩,H⟩=>e (h.dist j k n o' b g z d H);refine⟨λJ=>?_,O.block b y s⟩;rcases P b J with A|r
  .omega
  .exact s r
 refine⟨DenS.sub (f:=λ_=>.junk) (λ_ _ _ _=>trivial) h.slots,h.defers,?_,?_,?_,I,RA h.one k D⟩
 .intro j o' p;rcases c j o' p with⟨rfl,rfl⟩|⟨e,n,g,rfl⟩
  .rw[upd_same];exact S
  .rw[oZ _ _ e];refine Dj.world ((h.own j n g).sub (f:=λ_=>.junk) (λ_ _ _ _=>trivial)) (λb d=>(other j n e g b d).2)
 .intro j L n W b p M d l;rcases c j n p with⟨rfl,rfl⟩|⟨e,C,g,rfl⟩<;>rcases c L W M with⟨rfl,rfl⟩|⟨t,N,G,rfl⟩
  .rfl
  .rw[upd_same]at d;rw[oZ _ _ t]at l;exact absurd d (other L N t G b l).1
  .rw[upd_same]at l;rw[oZ _ _ e]at d;exact absurd l (other j C e g b d).1
  .rw[oZ _ _ e]at d;rw[oZ _ _ t]at l;exact h.dist j L _ _ b g G d l
 .intro j n b p d;rcases c j n p with⟨rfl,rfl⟩|⟨e,C,g,rfl⟩
  .rw[upd_same]at d;exact F b d
  .rw[oZ _ _ e]at d;exact h.fresh j C b g d
theorem aL.adopt{B:sP}{ι:cj}{σ:St}{a:Act}{w:World}(h:aL B ι σ a w)(k:Nat)(o:Own)(v:Value)
 (F:Dj (upd ι k v) w v o)(s:v.oneCell'=true)
 (z:∀b,blk v=some b->((B.w0.heap.size<=b\/B.E b)/\σ.m b=none/\∀i,σ.h b i=none)/\∀j o',j≠k->nth σ.own j=some (some o')->blk (ι j)≠some b):
 aL B (upd ι k v) ((σ.kill k).setOwn k (some o)) a w:=by
 have c:∀j o',nth ((σ.kill k).setOwn k (some o)).own j=some (some o')->
  (j=k/\o'=o)\/(j≠k/\∃r,nth σ.own j=some (some r)/\o'=r.sub k (λ_=>.junk)):=by
  intro j o' l;simp only[MJ,St.setOwn,St.sub,yG,B3,length_set,length_map]at l;by_cases d:j=k
  .subst d;by_cases t:j<σ.own.length
   .simp[t]at l;exact .inl ⟨rfl,l.symm⟩
   .simp[t,jE]at l
  .simp only[d,false_and,if_false]at l;refine .inr ⟨d,?_⟩;cases A:nth σ.own j with
   |none=>simp[A]at l
   |some x=>
    cases x with
    |none=>simp[A]at l
    |some r=>simp[A]at l;exact⟨r,rfl,l.symm⟩
 refine⟨DenS.sub (f:=λ_=>.junk) (λ_ _ _ _=>trivial) h.slots,h.defers,?_,?_,?_,h.wrel,RA h.one k s⟩
 .intro j o' l;rcases c j o' l with⟨rfl,rfl⟩|⟨d,r,n,rfl⟩
  .rw[upd_same];exact F
  .rw[oZ _ _ d];exact(h.own j r n).sub (f:=λ_=>.junk) (λ_ _ _ _=>trivial)
 .intro j C r G b l D e g;rcases c j r l with⟨rfl,rfl⟩|⟨d,u,n,rfl⟩<;>rcases c C G D with⟨rfl,rfl⟩|⟨p,H,y,rfl⟩
  .rfl
  .rw[upd_same]at e;rw[oZ _ _ p]at g;exact absurd g ((z b e).2 C _ p y)
  .rw[upd_same]at g;rw[oZ _ _ d]at e;exact absurd e ((z b g).2 j _ d n)
  .rw[oZ _ _ d]at e;rw[oZ _ _ p]at g;exact h.dist j C _ _ b n y e g
 .intro j r b l e;rcases c j r l with⟨rfl,rfl⟩|⟨d,u,n,rfl⟩
  .rw[upd_same]at e;exact(z b e).1
  .rw[oZ _ _ d]at e;exact h.fresh j u b n e
theorem HV(ι:cj)(k:Nat):upd ι k (ι k)=ι:=by
 funext j;unfold upd;split
 .rename_i h;rw[h]
 .rfl
structure Fz(σ σ':St):Prop where
 cells:∀k p T cs,nth σ.own k=some (some (.cellsP p T cs))->∃cs',nth σ'.own k=some (some (.cellsP p T cs'))
 imm:∀b off v,σ.h b off=some v->σ'.h b off=some v
 ptr:∀x k off,σ'.ev x= .at (.ptr k off)->σ.ev x= .at (.ptr k off)
 lst:∀x k,σ'.ev x= .at (.lst k)->σ.ev x= .at (.lst k)
 m_:σ'.m=σ.m
theorem Fz.refl(σ:St):Fz σ σ:=⟨λ_ _ _ a h=>⟨a,h⟩,λ_ _ _ h=>h,λ_ _ _ h=>h,λ_ _ h=>h,rfl⟩
theorem Fz.trans{σ τ υ:St}(h:Fz σ τ)(a:Fz τ υ):Fz σ υ:=
 ⟨λk p T d e=>let⟨cs',hk'⟩:=h.cells k p T d e;a.cells k p T cs' hk',λb o v f=>a.imm b o v (h.imm b o v f),λx k o c=>h.ptr x k o (a.ptr x k o c),λx k c=>h.lst x k (a.lst x k c),a.m_.trans h.m_⟩
theorem Xt(σ:St)(k:Nat)(f:At->At)(m:MH)(h:PH)(own:dc)(x:Operand):
 St.ev {sl:=σ.sl.map (SV.sub k f),own:=own,m:=m,h:=h} x=(σ.ev x).sub k f\/(∃v,x= .const v\/(∃g,x= .global g)\/∃g,x= .func g):=by
 cases x with
 |tmp t=>
  left;simp only[St.ev,B3];cases nth σ.sl t with
  |none=>rfl
  |some y=>rfl
 |const v=>exact .inr ⟨v,.inl rfl⟩
 |global g=>exact .inr ⟨undef,.inr (.inl ⟨g,rfl⟩)⟩
 |func g=>exact .inr ⟨undef,.inr (.inr ⟨g,rfl⟩)⟩
theorem a3Q{k:Nat}{f:At->At}(a:∀x j o,f x≠ .ptr j o){x:SV}{j o:Nat}(h:x.sub k f= .at (.ptr j o)):x= .at (.ptr j o):=by
 cases x with
 |«at» y=>
  cases y<;>simp only[SV.sub,At.sub,SV.at.injEq]at h⊢
  case val=>exact h
  case junk=>exact h
  all_goals
   split at h
   .exact absurd h (a _ _ _)
   .exact h
 |agg b=>simp[SV.sub]at h
 |tup c=>simp[SV.sub]at h
theorem X2{k:Nat}{f:At->At}(a:∀x j,f x≠ .lst j){x:SV}{j:Nat}(h:x.sub k f= .at (.lst j)):x= .at (.lst j):=by
 cases x with
 |«at» y=>
  cases y<;>simp only[SV.sub,At.sub,SV.at.injEq]at h⊢
  case val=>exact h
  case junk=>exact h
  all_goals
   split at h
   .exact absurd h (a _ _)
   .exact h
 |agg b=>simp[SV.sub]at h
 |tup c=>simp[SV.sub]at h
theorem ayZ{σ:St}{k:Nat}{f:At->At}{m:MH}{h:PH}(n:m=σ.m)(r:∀x j o,f x≠ .ptr j o)(d:∀x j,f x≠ .lst j)(s:∀p T cs,nth σ.own k≠some (some (.cellsP p T cs)))(t:∀b off v,σ.h b off=some v->h b off=some v):
 Fz σ {(σ.sub k f).setOwn k none with m:=m,h:=h}:=by
 refine⟨?_,t,?_,?_,n⟩
 .intro j p T cs l;have i:j≠k:=λe=>s p T cs (e▸l);refine⟨cs.map (At.sub k f),?_⟩;simp only[St.setOwn,St.sub,yG,B3,i,false_and,if_false,l];rfl
 .intro x j off c;rcases Xt σ k f m h ((σ.sub k f).setOwn k none).own x with a|⟨v,a⟩
  .have:(σ.ev x).sub k f= .at (.ptr j off):=a▸c;exact a3Q r this
  .rcases a with rfl|⟨g,rfl⟩|⟨g,rfl⟩<;>exact c
 .intro x j c;rcases Xt σ k f m h ((σ.sub k f).setOwn k none).own x with a|⟨v,a⟩
  .have:(σ.ev x).sub k f= .at (.lst j):=a▸c;exact X2 d this
  .rcases a with rfl|⟨g,rfl⟩|⟨g,rfl⟩<;>exact c
end Go.Vc
namespace Go.Vc
open Go List
theorem Bp{α:Type}(P:Program):∀(s:Sem α)(x:α),Ak P s=some x->∀w,s.run P w= .ok x w:=by
 intro s
 induction s with
 |pure a=>intro x h w;simp[Ak]at h;subst h;rfl
 |program k b=>intro x h w;simp only[Ak]at h;simp only[Sem.run];exact b P x h w
 |mark m k b=>intro x h w;simp only[Ak]at h;simp only[Sem.run];exact b x h w
 |_=>intro x h w;simp[Ak]at h
def SC(C:Ctx)(ι:cj)(o:Oper)(σ:St)(K:St->Prop)(a:Act)(w:World):Prop:=
 ∃v x,(∀b,(Ax C.P o=false\/b=w)->(execOp a.eval o).run C.P b= .ok (.value v) b)/\Den ι x v/\K (σ.put o.dst x)
section
variable{B:sP}{C:Ctx}{ι:cj}{σ:St}{a:Act}{w:World}{o:Oper}{K:St->Prop}
theorem LW(d:aL B ι σ a w):∀(l:cw),MP σ l=true->∀x∈l,σ.rho x=a.eval x
 |[],_,x,b=>by cases b
 |y::l,h,x,b=>by
  simp only[MP]at h;cases c:(σ.ev y).val? with
  |none=>simp[c]at h
  |some v=>
   simp[c]at h;rcases mem_cons.1 b with rfl|b
   .simp only[St.rho,c];exact(d.rho c).symm
   .exact LW d l h x b
theorem kZ(d:aL B ι σ a w)(e:∀cs b,o.op≠ .select cs b)(h:v7 C o σ K):SC C ι o σ K a w:=by
 unfold v7 at h;split at h
 .rename_i f;have g:execOp a.eval o=execOp σ.rho o:=execOp_congr o e λx i=>(LW d _ f x (bo i)).symm;split at h
  .rename_i v j;exact⟨v,.at (.val v),λc _=>by rw[g];exact Bp _ _ _ j c,rfl,h⟩
  .exact h.elim
 .exact h.elim
theorem Addr.add_none(b o j:Nat):(⟨b,o,none⟩:Addr).add j=⟨b,o+j,none⟩:=by unfold Addr.add;split<;>simp_all
def mkV(P:Program)(T:TypeId)(cs:bw):Value:=match xW P T with|true=>.agg cs.toArray|false=>cs.headD undef
theorem fY{P:Program}{T:TypeId}(h:jB P T=true):∃i d,P.info? T=some i/\P.underlying T=some d/\P.cellsOf T=i.size/\0<i.size:=by
 unfold jB at h;split at h
 .rename_i d b;split at h
  .cases h
  .rename_i c;cases e:P.info? T with
   |none=>simp[Program.underlying,e]at b
   |some i=>
    have f:P.cellsOf T=i.size:=by simp[Program.cellsOf,e]
    refine⟨i,d,rfl,b,f,?_⟩;rw[f]at c;exact Nat.pos_of_ne_zero c
 .cases h
theorem Pn{P:Program}{T:TypeId}{d:TypeDesc}(h:P.underlying T=some d)(w:World):(isAgg T).run P w= .ok (xW P T) w:=by
 unfold isAgg xW;rw[Sem.run_bind,run_underlying h w,h];cases d<;>rfl
theorem run_sizeOf{P:Program}{T:TypeId}{i:TypeInfo}(h:P.info? T=some i)(w:World):(sizeOf T).run P w= .ok i.size w:=by
 simp[sizeOf,typeInfo,program,Sem.run,h]
theorem BW{P:Program}{T:TypeId}{w:World}{b off:Nat}{cs:bw}(m:jB P T=true)(c:cs.length=P.cellsOf T)
 (f:∀j v,cs[j]? =some v->w.cell? ⟨b,off+j,none⟩=some v):(loadVar T ⟨b,off,none⟩).run P w= .ok (mkV P T cs) w:=by
 obtain⟨i,d,n,p,e,g⟩:=fY m;rw[e]at c;unfold loadVar;rw[Sem.run_bind,Pn p];simp only[Result.andThen_ok];unfold mkV;cases h:xW P T with
 |true=>
  have s:(loadCells ⟨b,off,none⟩ cs.length).run P w= .ok cs.toArray w:=
   run_loadCells_list (P:=P) w ⟨b,off,none⟩ cs (λj v t=>by rw[Addr.add_none];exact f j v t)
  simp[run_sizeOf n, <-c,s]
 |false=>
  cases cs with
  |nil=>simp at c;omega
  |cons v r=>
   have l:=f 0 v rfl;simp only[Nat.add_zero]at l;simp[load,Sem.run,l]
theorem KU{P:Program}{T:TypeId}{b:cr}{cs:bw}(h:iG ι b cs):Den ι (mk P T b) (mkV P T cs):=by
 unfold mk mkV;cases xW P T with
 |true=>exact⟨cs.toArray,rfl,bo h⟩
 |false=>
  cases b with
  |nil=>exact trivial
  |cons x r=>
   cases cs with
   |nil=>exact h.elim
   |cons v l=>
    cases r with
    |nil=>exact h.1
    |cons y r=>exact trivial
theorem vN(c:aL B ι σ a w){k:Nat}{T:TypeId}{cs:cr}{p:Option Nat}(d:nth σ.own k=some (some (.cellsP p T cs))):
 ∃b vs,ι k= .pointer (some ⟨b,0,none⟩)/\w.heap[b]? =some (.cells vs T (0,0))/\iG ι cs vs.toList:=
 let⟨b,vs,h1,h2,h3,_⟩:=c.own k _ d;⟨b,vs,h1,h2,h3⟩
theorem Yb(c:aL B ι σ a w){k q:Nat}{T:TypeId}{cs:cr}(d:nth σ.own k=some (some (.cellsP (some q) T cs))):ι k= .pointer (some ⟨q,0,none⟩):=by
 obtain⟨b,g,e,_,_,f⟩:=c.own k _ d;rw[e,f q rfl]
theorem cell_of_heap{w:World}{b o:Nat}{vs:Array Value}{T:TypeId}{c:Nat×Nat}(h:w.heap[b]? =some (.cells vs T c)):w.cell? ⟨b,o,none⟩=vs.toList[o]? :=by
 simp[World.cell?,h]
theorem xQ{vs:bw}{off n j:Nat}{v:Value}(h:((vs.drop off).take n)[j]? =some v):vs[off+j]? =some v:=by
 rw[getElem?_take]at h;split at h
 .rw[getElem?_drop]at h;exact h
 .cases h
theorem Hp(d:Ai B σ.m σ.h w){b off:Nat}{l:bw}(h:aU σ.m σ.h b off l):∀j v,l[j]? =some v->w.cell? ⟨b,off+j,none⟩=some v:=by
 intro j v c;cases h with
 |imm e=>exact d.hsat _ _ _ (e.rd j v c)
 |lent i E n f g=>
  rw[cell_of_heap (d.msat _ _ f)];rw[<-g]at c;exact xQ c
theorem lT{xs:List bw}{sz i:Nat}{e:bw}(b:∀e∈xs,e.length=sz)(c:xs[i]? =some e)(j:Nat)(v:Value)(d:e[j]? =some v):
 xs.flatten[i*sz+j]? =some v:=by
 induction xs generalizing i with
 |nil=>simp at c
 |cons x r g=>
  have f:x.length=sz:=b x bj;cases i with
  |zero=>
   simp at c;subst c;simp only[flatten_cons,Nat.zero_mul,Nat.zero_add];rw[getElem?_append_left (by rcases List.getElem?_eq_some_iff.1 d with⟨h,_⟩;exact h)];exact d
  |succ i=>
   simp only[getElem?_cons_succ]at c;simp only[flatten_cons];rw[getElem?_append_right (by rw[f,Nat.succ_mul];omega),f,show(i+1)*sz+j-sz=i*sz+j by rw[Nat.succ_mul];omega];exact g (λe l=>b e (by simp[l])) c
theorem rH(b:aL B ι σ a w){k:Nat}{E sz:Nat}{xs:List bw}(c:nth σ.own k=some (some (.lst E sz xs))):
 eW sz xs/\w.ownsRow 0 E sz (ι k) xs.length xs.flatten:=b.own k _ c
theorem VU(H:aL B ι σ a w){T:TypeId}{x:Operand}(U:o.op= .load T x)(h:VW C o T x σ K):SC C ι o σ K a w:=by
 have l:∀(b d:Nat)(A:bw),a.eval x= .pointer (some ⟨b,d,none⟩)->jB C.P T=true->A.length=C.P.cellsOf T->(∀j v,A[j]? =some v->w.cell? ⟨b,d+j,none⟩=some v)->
  ∀m,(Ax C.P o=false\/m=w)->(execOp a.eval o).run C.P m= .ok (.value (mkV C.P T A)) m:=by
  intro b d A t D V W m J;have J:m=w:=J.resolve_left (by simp[Ax,U]);subst J;have:=BW D V W;unfold execOp;simp only[U,t,Instr.loadAt,Instr.sureAddr,Sem.run_bind,Sem.run_pure,Result.andThen_ok,this]
 have f:=H.ev x;unfold VW at h;split at h
 .exact h.elim
 .rename_i D;split at h
  .rename_i k d t;rw[t]at f;split at h
   .rename_i p T' A L;split at h
    .rename_i M;obtain⟨b,X,N,Y,Z⟩:=vN H L;obtain⟨b',u,O⟩:=f;rw[N]at u;simp only[Value.pointer.injEq,Option.some.injEq,Addr.mk.injEq]at u;obtain⟨rfl, -, -⟩:=u;have F:=(Z.drop d).take (C.P.cellsOf T);refine⟨_,_,l b d ((X.toList.drop d).take (C.P.cellsOf T)) O D ?_ ?_,KU F,h⟩
     .rw[<-F.length];have:=Nat.le_of_ble_eq_true M;simp;omega
     .intro j v I;rw[cell_of_heap Y];exact xQ I
    .exact h.elim
   .exact h.elim
  .rename_i k i sz d t;rw[t]at f;split at h
   .rename_i E s xs L;split at h
    .rename_i Q;have Q:=Nat.eq_of_beq_eq_true Q;subst Q;obtain⟨e,he,y,R,h⟩:=h;split at h
     .rename_i r;obtain⟨z,G⟩:=rH H L;obtain⟨b,n,c,N,O⟩:=f;refine⟨_,_,l b _ _ O D (Nat.eq_of_beq_eq_true r) ?_,KU (iG.vals.2 rfl),h⟩;intro j v I;rw[<-R]at I;have S:=xQ I;have hf:=lT z.len he _ _ S;have:=G.cells (g:=b) (by rw[N];rfl) _ _ hf;rw[Addr.add_none]at this;rw[<-this];congr 1;simp only[Addr.mk.injEq,and_true,true_and];omega
     .exact h.elim
    .exact h.elim
   .exact h.elim
  .rename_i b d t;rw[t]at f;obtain⟨y,R,h⟩:=h;split at h
   .rename_i r;exact⟨_,_,l b d _ f D (Nat.eq_of_beq_eq_true r) (Hp H.wrel R),KU (iG.vals.2 rfl),h⟩
   .exact h.elim
  .exact h.elim
theorem NF(c:aL B ι σ a w){x:Operand}(b:o.op= .move x\/o.op= .assign x)(h:K (σ.put o.dst (σ.ev x))):SC C ι o σ K a w:=by
 refine⟨a.eval x,σ.ev x,λd _=>?_,c.ev x,h⟩;rcases b with b|b<;>simp[execOp,b]
theorem Af{c:Bool}{A D:Prop}(h:branch c A D):(c=true/\A)\/(c=false/\D):=by
 cases c
 .exact .inr ⟨rfl,h⟩
 .exact .inl ⟨rfl,h⟩
theorem VE(d:aL B ι σ a w){c x y:Operand}(f:o.op= .pick c x y)(h:VF o c x y σ K):SC C ι o σ K a w:=by
 have b:=d.ev c;unfold VF at h;split at h
 .rename_i t g;rw[g]at b;have b:a.eval c= .bool t:=b;rcases Af h with⟨rfl,h⟩|⟨rfl,h⟩
  .exact⟨a.eval x,σ.ev x,λe _=>by simp[execOp,f,b,asBool],d.ev x,h⟩
  .exact⟨a.eval y,σ.ev y,λe _=>by simp[execOp,f,b,asBool],d.ev y,h⟩
 .exact h.elim
theorem Jn{P:Program}{T f g T':Nat}(h:Jo P T f=some (g,T')):∃c OW,P.underlying T=some (.struct c)/\c[f]? =some OW/\OW.offset=g/\OW.type=T'/\P.cellsOf T'≠0:=by
 unfold Jo at h;split at h
 .rename_i c d;split at h
  .rename_i OW b;split at h
   .cases h
   .rename_i i;simp only[Option.some.injEq,Prod.mk.injEq]at h;obtain⟨rfl,rfl⟩:=h;rw[jE,Array.getElem?_toList]at b;exact⟨c,OW,d,b,rfl,rfl,λe=>by rw[e]at i;simp at i⟩
  .cases h
 .cases h
theorem Tk{P:Program}{T f g T':Nat}(h:Jo P T f=some (g,T'))(w:World)(b off:Nat):
 (Instr.fieldAt T (.pointer (some ⟨b,off,none⟩)) f).run P w= .ok (.pointer (some ⟨b,off+g,none⟩)) w:=by
 obtain⟨m,OW,j,l,rfl,rfl,e⟩:=Jn h;cases c:P.info? OW.type with
 |none=>simp[Program.cellsOf,c]at e
 |some i=>
  have d:i.size≠0:=by simpa[Program.cellsOf,c]using e
  simp[Instr.fieldAt,run_underlying j,l,Instr.sureAddr,fieldPlace,run_sizeOf c,d,Addr.add_none]
theorem L5(s:aL B ι σ a w){T f:Nat}{x:Operand}(t:o.op= .fieldAddr T x f)(h:FG C o T x f σ K):SC C ι o σ K a w:=by
 have e:=s.ev x;unfold FG at h;split at h
 .exact h.elim
 .rename_i g T' u
  have j:∀b d,a.eval x= .pointer (some ⟨b,d,none⟩)->∀l,(Ax C.P o=false\/l=w)->(execOp a.eval o).run C.P l= .ok (.value (.pointer (some ⟨b,d+g,none⟩))) l:=by
   intro b d m l _;unfold execOp;simp only[t,m,Sem.run_bind,Tk u,Result.andThen_ok,Sem.run_pure]
  split at h
  .rename_i k d m;rw[m]at e;obtain⟨b,p,r⟩:=e;exact⟨_,.at (.ptr k (d+g)),j b d r,⟨b,p,rfl⟩,h⟩
  .rename_i k i v d m;rw[m]at e;obtain⟨b,n,c,p,r⟩:=e;exact⟨_,.at (.el k i v (d+g)),j b _ r,⟨b,n,c,p,by rw[Nat.add_assoc]⟩,h⟩
  .rename_i b d m;rw[m]at e;exact⟨_,.at (.val _),j b d e,rfl,h⟩
  .exact h.elim
theorem Nv(r:aL B ι σ a w){x:Operand}(s:o.op= .nilCheck x)(h:Hx o x σ K):SC C ι o σ K a w:=by
 have d:=r.ev x
 have e:∀l,a.eval x= .pointer (some l)->∀f,(Ax C.P o=false\/f=w)->(execOp a.eval o).run C.P f= .ok (.value (.pointer (some l))) f:=by
  intro l g f _;unfold execOp;simp[s,g]
 unfold Hx at h;split at h
 .rename_i k j g;rw[g]at d;obtain⟨b,m,p⟩:=d;exact⟨_,.at (.ptr k j),e _ p,⟨b,m,rfl⟩,h⟩
 .rename_i k i t j g;rw[g]at d;obtain⟨b,n,c,m,p⟩:=d;exact⟨_,.at (.el k i t j),e _ p,⟨b,n,c,m,rfl⟩,h⟩
 .rename_i l g;rw[g]at d;exact⟨_,.at (.val _),e _ d,rfl,h⟩
 .exact h.elim
end
end Go.Vc
namespace Go.Vc
open Go List
section
variable{B:sP}{C:Ctx}{ι:cj}{σ:St}{a:Act}{w:World}{o:Oper}{K:St->Prop}
theorem Bh(e:∀k,(ι k).oneCell'=true){x:SV}{v:Value}{cs:cr}(h:Den ι x v)(d:x.cells? =some cs):iG ι cs v.cells.toList:=by
 have one:∀u:Value,u.oneCell'=true->u.cells= #[u]:=λu j=>by cases u<;>first|rfl|(simp[Value.oneCell']at j)
 cases x with
 |«at» y=>
  cases y with
  |val u=>
   have h:v=u:=h;subst h;cases v<;>simp only[SV.cells?,Option.some.injEq,reduceCtorEq]at d<;>subst d<;>first|exact⟨rfl,trivial⟩|skip
   exact iG.vals.2 rfl
  |junk=>simp[SV.cells?]at d
  |ptr k f=>
   simp only[SV.cells?,Option.some.injEq]at d;subst d;obtain⟨b,g,rfl⟩:=h;exact⟨⟨b,g,rfl⟩,trivial⟩
  |lst k=>
   simp only[SV.cells?,Option.some.injEq]at d;subst d;have h:v=ι k:=h;rw[one v (by rw[h];exact e k)];exact⟨h,trivial⟩
  |el k i p f=>
   simp only[SV.cells?,Option.some.injEq]at d;subst d;obtain⟨b,n,c,g,rfl⟩:=h;exact⟨⟨b,n,c,g,rfl⟩,trivial⟩
 |agg l=>
  simp only[SV.cells?,Option.some.injEq]at d;subst d;obtain⟨r,rfl,m⟩:=h;exact m
 |tup s=>simp[SV.cells?]at d
theorem run_indexAt_slice{P:Program}{T E:TypeId}(f:P.underlying T=some (.slice E))(g:jB P E=true)(w:World)(b off len c:Nat)(k:IntKind)(n:Int)(h:0<=n)(j:n<(len:Int)):
 (Instr.indexAt T (.slice (some ⟨b,off,none⟩) len c) (.int k n)).run P w= .ok (.pointer (some ⟨b,off+n.toNat*P.cellsOf E,none⟩)) w:=by
 obtain⟨i,d,l,p,m,e⟩:=fY g;rw[m];simp[Instr.indexAt,asIntOf,run_underlying f,h,j,run_sizeOf l,Addr.add_none]
theorem run_indexAt_array{P:Program}{T E len:Nat}(e:P.underlying T=some (.array len E))(f:jB P E=true)(w:World)(b off:Nat)(k:IntKind)(n:Int)(g:0<=n)(h:n<(len:Int)):
 (Instr.indexAt T (.pointer (some ⟨b,off,none⟩)) (.int k n)).run P w= .ok (.pointer (some ⟨b,off+n.toNat*P.cellsOf E,none⟩)) w:=by
 obtain⟨i,d,j,m,l,c⟩:=fY f;rw[l];simp[Instr.indexAt,asIntOf,run_underlying e,Instr.sureAddr,g,h,run_sizeOf j,Addr.add_none]
theorem L4(u:aL B ι σ a w){T:Nat}{x i:Operand}(F:o.op= .indexAddr T x i)(h:Fx C o T x i σ K):SC C ι o σ K a w:=by
 have e:=u.ev x;have f:=u.ev i;unfold Fx at h;split at h
 .rename_i v n G;rw[G]at f;have f:a.eval i= .int v n:=f;split at h
  .rename_i E y;split at h
   .rename_i z
    have j:∀b c len l,a.eval x= .slice (some ⟨b,c,none⟩) len l->0<=n->n<(len:Int)->∀d,(Ax C.P o=false\/d=w)->(execOp a.eval o).run C.P d= .ok (.value (.pointer (some ⟨b,c+n.toNat*C.P.cellsOf E,none⟩))) d:=by
     intro b c len l m p r d _;unfold execOp;simp only[F,m,f,Sem.run_bind,run_indexAt_slice y z d b c len l v n p r,Result.andThen_ok,Sem.run_pure]
    split at h
    .rename_i k m;rw[m]at e;have e:a.eval x=ι k:=e;split at h
     .rename_i E' H N I;split at h
      .rename_i s;have s:=Nat.eq_of_beq_eq_true s;obtain⟨p,r,h⟩:=h;obtain⟨A,t⟩:=rH u I;rcases t.2 with⟨D,O⟩|⟨g,l,J,D,_⟩
       .omega
       .refine⟨_,.at (.el k n.toNat H 0),j g 0 _ l (by rw[e,D]) p r,⟨g,_,l,D,?_⟩,h⟩;rw[s];simp
      .exact h.elim
     .exact h.elim
    .rename_i Q len l m;rw[m]at e;obtain⟨b,c,rfl,p,r,h⟩:=h;exact⟨_,.at (.val _),j b c len l e p r,rfl,h⟩
    .exact h.elim
   .exact h.elim
  .rename_i len E y;split at h
   .rename_i z
    have j:∀b c,a.eval x= .pointer (some ⟨b,c,none⟩)->0<=n->n<(len:Int)->∀d,(Ax C.P o=false\/d=w)->(execOp a.eval o).run C.P d= .ok (.value (.pointer (some ⟨b,c+n.toNat*C.P.cellsOf E,none⟩))) d:=by
     intro b c m p r d _;unfold execOp;simp only[F,m,f,Sem.run_bind,run_indexAt_array y z d b c v n p r,Result.andThen_ok,Sem.run_pure]
    split at h
    .rename_i k c m;rw[m]at e;obtain⟨b,L,M⟩:=e;obtain⟨p,r,h⟩:=h;exact⟨_,.at (.ptr k (c+n.toNat*C.P.cellsOf E)),j b c M p r,⟨b,L,rfl⟩,h⟩
    .rename_i b c m;rw[m]at e;obtain⟨p,r,h⟩:=h;exact⟨_,.at (.val _),j b c e p r,rfl,h⟩
    .exact h.elim
   .exact h.elim
  .exact h.elim
 .exact h.elim
theorem aiX(i:aL B ι σ a w){op:BinOp}{tx r:Nat}{x y:Operand}(j:o.op= .binOp op tx x y r)(h:Yz o op x y σ K):SC C ι o σ K a w:=by
 have b:=i.ev x;have c:=i.ev y;unfold Yz at h;split at h
 .rename_i k n l m d e;rw[d]at b;rw[e]at c;have b:a.eval x= .int k n:=b;have c:a.eval y= .int l m:=c;split at h
  .rename_i f;have f:k=l:=of_decide_eq_true f;subst f;obtain⟨p,h⟩:=h;split at h
   .exact⟨_,.at (.val _),λg _=>by unfold execOp;simp[j,b,c,eqGuard,binOp,Op.intDiv,p],rfl,h⟩
   .exact⟨_,.at (.val _),λg _=>by unfold execOp;simp[j,b,c,eqGuard,binOp,Op.intDiv,p],rfl,h⟩
   .exact h.elim
  .exact h.elim
 .exact h.elim
theorem Sp(f:aL B ι σ a w){tx m:Nat}{x y:Operand}(l:o.op= .binOp .add tx x y m)(h:Ou C o x y σ K):SC C ι o σ K a w:=by
 have c:=f.ev x;have d:=f.ev y;unfold Ou at h;split at h
 .rename_i s t g i;rw[g]at c;rw[i]at d;have c:a.eval x= .string s:=c;have d:a.eval y= .string t:=d;obtain⟨p,h⟩:=h
  have j:¬((s.size+t.size:Nat):Int)>IntKind.i64.max:=by
   have:IntKind.i64.max=9223372036854775807:=bk
   omega
  exact⟨_,.at (.val _),λn _=>by unfold execOp;simp only[l,c,d,eqGuard,binOp,Op.stringOp,if_neg j];simp,rfl,h⟩
 .exact kZ f (λr b=>by rw[l];intro e;cases e) h
theorem Fc(f:aL B ι σ a w){neg:Bool}{tx l:Nat}{x y:Operand}(g:o.op= .binOp (match neg with|true=>.neq|false=>.eql) tx x y l)(h:Dp C o neg tx x y σ K):SC C ι o σ K a w:=by
 unfold Dp at h;split at h
 .rename_i m n d e;have i:a.eval x= .agg m:=(f.ev x).val? d;have j:a.eval y= .agg n:=(f.ev y).val? e;obtain⟨r,c,h⟩:=h;refine⟨_,.at (.val _),λb _=>?_,rfl,h⟩;cases neg
  .unfold execOp;simp[g,i,j,run_eqGuard_agg _ _ _ _ _ _ _ c.guard,run_eql_struct,c.eq b]
  .unfold execOp;simp[g,i,j,run_eqGuard_agg _ _ _ _ _ _ _ c.guard,run_neq_struct,c.eq b]
 .exact h.elim
theorem Yh(off:Nat):∀(l:bw)(s:Nat)(cs:Array Value),off+s+l.length<=cs.size->
 ((l.zipIdx s).foldl (λcs x=>cs.setIfInBounds (off+x.2) x.1) cs).toList=splice cs.toList (off+s) l
 |[],s,cs,_=>by simp[splice]
 |v::l,s,cs,h=>by
  simp only[length_cons]at h;simp only[zipIdx_cons,foldl_cons];have:=Yh off l (s+1) (cs.setIfInBounds (off+s) v) (by simp;omega);rw[this];simp only[Array.toList_setIfInBounds,splice,length_cons];exact list_seg_step cs.toList (off+s) v l (by simp;omega)
theorem PF{place:Nat->Option (Nat×Nat)}{cells:Array Value}{i off size:Nat}{v:Value}{rest:List (Nat×Value)}(d:place i=some (off,size))(e:v.cells.size=size)(b:off+v.cells.size<=cells.size):
 Instr.fill place cells ((i,v)::rest)=Instr.fill place (splice cells.toList off v.cells.toList).toArray rest:=by
 have c:=Yh off v.cells.toList 0 cells (bo b);simp only[Nat.add_zero]at c;simp only[Instr.fill,d];rw[if_neg (by simp;omega)];congr 1;apply Array.toList_inj.1;rw[<-c];rw[<-Array.foldl_toList];simp
theorem CE{α:Type}(cs new:List α)(off:Nat)(h:off+new.length<=cs.length):(splice cs off new).length=cs.length:=by
 unfold splice;simp;omega
theorem As(l:aL B ι σ a w)(place:Nat->Option (Nat×Nat)){P:Program}{T:TypeId}(b:∀i r,partAt P T i=some r->place i=some r):
 ∀(parts:dl)(cs:cr)(cells:Array Value)(out:cr),iG ι cs cells.toList->Da P T σ parts cs=some out->
  ∃r,Instr.fill place cells (parts.map λp=>(p.1,a.eval p.2))=some r/\iG ι out r.toList
 |[],cs,cells,out,j,h=>by
  simp[Da]at h;subst h;exact⟨cells,rfl,j⟩
 |(i,x)::parts,cs,cells,out,j,h=>by
  simp only[Da]at h;split at h
  .rename_i c d new u e;split at h
   .rename_i t f;have t:=Nat.eq_of_beq_eq_true t;have f:=Nat.le_of_ble_eq_true f;have g:=Bh l.one (l.ev x) e;have m:(a.eval x).cells.size=d:=by have:=g.length;simp at this;omega
    have n:=j.length;simp at n;have:=As l place b parts (splice cs c new) (splice cells.toList c (a.eval x).cells.toList).toArray out (bo (j.splice c g)) h;obtain⟨r,v,s⟩:=this;refine⟨r,?_,s⟩;simp only[map_cons];rw[PF (b i _ u) m aD];exact v
   .cases h
  .cases h
theorem Bl{P:Program}{T:TypeId}{z:bw}(h:zeroCells P T=some z):∃i v,P.info? T=some i/\i.zero=some v/\z=v.cells.toList:=by
 unfold zeroCells at h;split at h
 .rename_i i b;split at h
  .rename_i v c;simp at h;exact⟨i,v,b,c,h.symm⟩
  .cases h
 .cases h
theorem LF{P:Program}:∀(b:List Field),(b.all λf=>(P.info? f.type).isSome)=true->
 ∃c,b.mapM (λf=>(P.info? f.type).map λi=>(f.offset,i.size))=some c/\c.length=b.length/\∀(i:Nat)(g:Field),b[i]? =some g->c[i]? =some (g.offset,P.cellsOf g.type)
 |[],_=>⟨[],bj,rfl,λi g h=>by simp at h⟩
 |f::b,h=>by
  simp only[all_cons,Bool.and_eq_true]at h;obtain⟨c,m,d,e⟩:=LF b h.2;cases n:P.info? f.type with
  |none=>simp[n]at h
  |some i=>
   refine⟨(f.offset,i.size)::c,?_,by simp[d],?_⟩
   .simp[mapM_cons,n,m]
   .intro j g l;cases j with
    |zero=>simp at l;subst l;simp[Program.cellsOf,n]
    |succ j=>simp at l⊢;exact e j g l
theorem U9(D:aL B ι σ a w){T:Nat}{ps:Array (Nat×Operand)}(J:o.op= .build T ps)(h:Sq C o T ps.toList σ K):SC C ι o σ K a w:=by
 unfold Sq at h;split at h
 .rename_i z L;split at h
  .rename_i u f j;obtain⟨N,v,l,F,rfl⟩:=Bl L
   have key:∃r,C.P.built T ((ps.map λp=>(p.1,a.eval p.2)).toList)=some r/\iG ι u r.toList:=by
    unfold Np at j;have m:iG ι (v.cells.toList.map .val) v.cells.toList:=iG.vals.2 rfl;split at j
    .rename_i M s;obtain⟨G,y,H,t⟩:=LF M.toList j
     have b:∀i r,partAt C.P T i=some r->G.toArray[i]? =some r:=by
      intro i r c;unfold partAt at c;simp only[s]at c;split at c
      .rename_i g I;rw[jE]at I;simp at c;subst c;simpa using t i g I
      .cases c
     obtain⟨r,c,d⟩:=As D (λi=>G.toArray[i]?) b ps.toList _ v.cells u m f;refine⟨r,?_,d⟩;unfold Program.built;simp only[l,s,F,y];simpa using c
    .rename_i n E s;cases e:C.P.info? E with
     |none=>simp[e]at j
     |some x=>
      have b:∀i r,partAt C.P T i=some r->(λi=>some (i*x.size,x.size)) i=some r:=by
       intro i r c;unfold partAt at c;simp only[s,Program.cellsOf,e]at c;simpa using c
      obtain⟨r,c,d⟩:=As D (λi=>some (i*x.size,x.size)) b ps.toList _ v.cells u m f;refine⟨r,?_,d⟩;unfold Program.built;simp only[l,s,F,e];simpa using c
    .cases j
   obtain⟨r,c,d⟩:=key;refine⟨.agg r,.agg u,λA _=>?_,⟨r,rfl,d⟩,h⟩;unfold execOp;simp only[J,Sem.run_bind,run_build A T _ r c,Result.andThen_ok,Sem.run_pure]
  .exact h.elim
 .exact h.elim
theorem Zr(n:aL B ι σ a w){x:Operand}{c:Call}(p:o.op= .call c)(y:c.callee= .builtin .len)(A:c.args.toList=[x])
 (h:awZ C o x c.argTypes.toList σ K):SC C ι o σ K a w:=by
 unfold awZ at h;split at h
 .rename_i k D;split at h
  .rename_i E M F j d
   have s:∃t E,c.argTypes[0]? =some t/\C.P.underlying t=some (.slice E):=by
    unfold TN at d;split at d
    .rename_i t r m;split at d
     .rename_i E G;exact⟨t,E,by rw[<-Array.getElem?_toList,m];rfl,G⟩
     .cases d
    .cases d
   obtain⟨t,E',m,z⟩:=s;have f:=n.ev x;rw[D]at f;have f:a.eval x=ι k:=f;obtain⟨u,l⟩:=rH n j;have i:c.args= #[x]:=by apply Array.toList_inj.1;simpa using A
   refine⟨.int .i64 F.length,.at (.val _),λH _=>?_,rfl,h⟩;rcases l.2 with⟨v,I⟩|⟨g,J,L,v,_⟩
   .unfold execOp;simp[p,resolve,y,invoke,builtin,Builtin.len_,i,m,f,v,run_underlying z,goInt,I]
   .unfold execOp;simp[p,resolve,y,invoke,builtin,Builtin.len_,i,m,f,v,run_underlying z,goInt]
  .exact h.elim
 .exact kZ n (λN b=>by rw[p];intro e;cases e) h
theorem Tj{P:Program}{T:TypeId}{cs:Array Value}{off:Nat}(g:jB P T=true)(c:off+P.cellsOf T<=cs.size)(w:World):
 (part T cs off).run P w= .ok (mkV P T ((cs.toList.drop off).take (P.cellsOf T))) w:=by
 obtain⟨i,d,h,j,l,f⟩:=fY g;unfold part mkV;rw[Sem.run_bind,Pn j];simp only[Result.andThen_ok];rw[l]at c⊢
 cases xW P T with
 |true=>
  simp only[if_true,Sem.run_bind,run_sizeOf h,Result.andThen_ok,Sem.run_pure];congr 2;apply Array.toList_inj.1;simp[extract_eq_take_drop]
 |false=>
  have b:off<cs.size:=by omega
  have e:(cs.toList.drop off)=cs[off]::cs.toList.drop (off+1):=by
   rw[<-getElem_cons_drop (bo b)];simp
  simp only[Bool.false_eq_true,if_false,Array.getElem?_eq_getElem b];rw[e];cases m:i.size with
  |zero=>omega
  |succ n=>simp
theorem T1(p:aL B ι σ a w){T f:Nat}{x:Operand}(A:o.op= .field T x f)(h:Sd C o T x f σ K):SC C ι o σ K a w:=by
 unfold Sd at h;split at h
 .rename_i g T' v D r d;split at h
  .rename_i i;simp only[Bool.and_eq_true]at i;have y:=Nat.le_of_ble_eq_true i.1;have j:=Bh p.one (p.ev x) r;obtain⟨G,OW,E,s,rfl,rfl,H⟩:=Jn D
   have F:∃b,a.eval x= .agg b:=by
    have c:=p.ev x;split at d
    .rename_i l t;rw[t]at c;obtain⟨b,e,_⟩:=c;exact⟨b,e⟩
    .rename_i b t;rw[t]at c;exact⟨b,c⟩
    .cases d
   obtain⟨b,m⟩:=F;rw[m]at j;have j:iG ι v b.toList:=j;have z:v.length=b.size:=by have:=j.length;simpa using this
   have n:OW.offset+C.P.cellsOf OW.type<=b.size:=by omega
   refine⟨_,_,λu _=>?_,KU ((j.drop OW.offset).take (C.P.cellsOf OW.type)),h⟩;unfold execOp;simp only[A,Instr.field,Sem.run_bind,run_underlying E,Result.andThen_ok,s,m,asAgg,Sem.run_pure,Tj i.2 n u]
  .exact h.elim
 .exact h.elim
theorem Jv:∀{xs:List (Sum At cr)}{vs:bw}(_:OP ι xs vs)(i:Nat)(y:Sum At cr),xs[i]? =some y->∃v,vs[i]? =some v/\Den ι (match y with|.inl x=>.at x|.inr cs=>.agg cs) v
 |[],[],_,i,y,b=>by simp at b
 |.inl x::_,v::_,h,0,y,b=>by simp at b;subst b;exact⟨v,rfl,h.1⟩
 |.inr cs::_,v::_,h,0,y,b=>by simp at b;subst b;exact⟨v,rfl,h.1⟩
 |.inl _::_,_::_,h,i+1,y,b=>by simp at b⊢;exact Jv h.2 i y b
 |.inr _::_,_::_,h,i+1,y,b=>by simp at b⊢;exact Jv h.2 i y b
 |[],_::_,h,_,_,_=>h.elim
 |.inl _::_,[],h,_,_,_=>h.elim
 |.inr _::_,[],h,_,_,_=>h.elim
theorem O6(n:aL B ι σ a w){x:Operand}{i:Nat}(p:o.op= .extract x i)(h:KS C o x i σ K):SC C ι o σ K a w:=by
 have j:=n.ev x;unfold KS at h;split at h
 .rename_i z t;rw[t]at j;obtain⟨u,m,r⟩:=j
  have d:∀v,u.toList[i]? =some v->∀c,(Ax C.P o=false\/c=w)->(execOp a.eval o).run C.P c= .ok (.value v) c:=by
   intro v g c _;unfold execOp;rw[Array.getElem?_toList]at g;simp[p,m,Instr.extract,g]
  split at h
  .rename_i y l;rw[jE]at l;obtain⟨v,g,f⟩:=Jv r i _ l;exact⟨v,.at y,d v g,f,h⟩
  .rename_i s l;rw[jE]at l;obtain⟨v,g,f⟩:=Jv r i _ l;exact⟨v,.agg s,d v g,f,h⟩
  .exact h.elim
 .exact kZ n (λs b=>by rw[p];intro e;cases e) h
theorem LK{P:Program}{E:TypeId}{cs:cr}{n:Int}{Q:SV->Prop}:∀(f i:Nat),R7 P E cs n Q f i->(i:Int)<=n->n<((i+f:Nat):Int)->
 Q (mk P E ((cs.drop (n.toNat*P.cellsOf E)).take (P.cellsOf E)))
 |0,i,_,e,g=>by omega
 |f+1,i,h,e,g=>by
  simp only[R7]at h;rcases Af h with⟨b,c⟩|⟨b,c⟩
  .have j:n=(i:Int):=bo b
   have d:n.toNat=i:=by omega
   rw[d];exact c
  .have:n≠(i:Int):=bo b
   exact LK f (i+1) c aD aD
theorem TQ(p:aL B ι σ a w){T:Nat}{x i:Operand}(L:o.op= .index T x i)(h:R6 C o T x i σ K):SC C ι o σ K a w:=by
 have c:=p.ev i;unfold R6 at h;split at h
 .rename_i v n len E y z;rw[y]at c;have c:a.eval i= .int v n:=c;split at h
  .rename_i M A;split at h
   .rename_i g N m;have g:=Nat.eq_of_beq_eq_true g;obtain⟨D,S,h⟩:=h;have r:=Bh p.one (p.ev x) A
    have U:∃j,a.eval x= .agg j:=by
     have f:=p.ev x;split at m
     .rename_i l F;rw[F]at f;obtain⟨j,e,_⟩:=f;exact⟨j,e⟩
     .rename_i j F;rw[F]at f;exact⟨j,f⟩
     .cases m
    obtain⟨j,t⟩:=U;rw[t]at r;have r:iG ι M j.toList:=r;have G:M.length=j.size:=by have:=r.length;simpa using this
    obtain⟨Z,d,H,V,O,Q⟩:=fY N;have W:=LK len 0 h aD aD;refine⟨_,_,λu _=>?_,KU ((r.drop (n.toNat*C.P.cellsOf E)).take (C.P.cellsOf E)),W⟩
    have I:n.toNat*C.P.cellsOf E+C.P.cellsOf E<=j.size:=by
     rw[<-G,g, <-Nat.succ_mul];exact Nat.mul_le_mul_right _ aD
    have R:=Tj N I u;unfold execOp;rw[O]at R;simp only[L,Instr.index,c,asIntOf,Sem.run_bind,Sem.run_pure,run_underlying z,Result.andThen_ok,t,D,S,and_self,if_true,run_sizeOf H,R,O]
   .exact h.elim
  .exact h.elim
 .rename_i v n y z;rw[y]at c;have c:a.eval i= .int v n:=c;split at h
  .rename_i s X;have f:=p.ev x;rw[X]at f;have f:a.eval x= .string s:=f;obtain⟨D,b,Y,h⟩:=h;refine⟨_,.at (.val _),λu _=>?_,rfl,h⟩
   have J:s[n.toNat]? =some b:=by
    have:s[n.toNat]? =s.data[n.toNat]? :=by
     simp only[getElem?_def];rfl
    rw[this, <-Array.getElem?_toList];exact Y
   unfold execOp;simp[L,Instr.index,c,asIntOf,run_underlying z,f,D,J]
  .exact h.elim
 .exact h.elim
end
end Go.Vc
namespace Go.Vc
open Go List
section
variable{B:sP}{C:Ctx}{ι:cj}{σ:St}{a:Act}{w:World}{o:Oper}{K:St->Prop}
theorem EK{P:Program}{l:World}{src d E E' sz:Nat}{x:Operand}{v:Value}{c:cn}(t:o.op= .convert src d x)(u:P.underlying src=some (.slice E))(p:P.underlying E=some (.int .u8))(y:P.underlying d=some .string)
 (m:a.eval x=v)(f:l.ownsRow 0 E' sz v (bE c).length (bE c).flatten):(execOp a.eval o).run P l= .ok (.value (.string ⟨c.toArray⟩)) l:=by
 have h:(bE c).length=c.length:=by simp[bE]
 rcases f.2 with⟨r,z⟩|⟨g,s,F,r,_⟩
 .rw[h]at z;have:c=[]:=eq_nil_of_length_eq_zero z;subst this;unfold execOp;simp only[t,m,r,Sem.run_bind,run_convert_bytes_nil l src E u p 0 0 d y,Result.andThen_ok,Sem.run_pure];rfl
 .have n:strOfNums (c.map λb=>(b.toNat:Int))=⟨c.toArray⟩:=by
   unfold strOfNums;congr 1;simp[Function.comp_def]
  have j:∀i,i<c.length->l.cell? ⟨g,0+i,none⟩=some (.int .u8 ((c.map λb=>(b.toNat:Int)).getD i 0)):=by
   intro i A
   have G:(bE c).flatten[i*1+0]? =some (.int .u8 (c[i].toNat:Int)):=
    lT (sz:=1) (e:=[.int .u8 (c[i].toNat:Int)]) (λe p=>by obtain⟨b,_,rfl⟩:=mem_map.1 p;rfl) (by simp[bE,A]) 0 _ rfl
   have:=f.cells (g:=g) (by rw[r];rfl) _ _ G;rw[Addr.add_none]at this;simp only[Nat.mul_one,Nat.add_zero]at this;rw[this];simp[A]
  have D:=run_convert_bytes_arg (P:=P) l src E u p g 0 c.length s (c.map λb=>(b.toNat:Int)) bj j d y;rw[n]at D;unfold execOp;simp only[t,m,r,h,Sem.run_bind,D,Result.andThen_ok,Sem.run_pure]
theorem O7(j:aL B ι σ a w){src f:Nat}{x:Operand}(l:o.op= .convert src f x)(h:KX C o src f x σ K):SC C ι o σ K a w:=by
 unfold KX at h;split at h
 .rename_i k r;split at h
  .rename_i E' u v E g p s;split at h
   .rename_i t;obtain⟨y,rfl,h⟩:=h;have d:=j.ev x;rw[r]at d;have d:a.eval x=ι k:=d;obtain⟨m,i⟩:=rH j g;refine⟨_,.at (.val _),λn c=>?_,rfl,h⟩;have c:n=w:=c.resolve_left (by simp[Ax,l,p]);rw[c];exact EK l p t s d i
   .exact h.elim
  .exact h.elim
 .exact kZ j (λz b=>by rw[l];intro e;cases e) h
structure HR(σ:St)(ι:cj)(o:Oper)(w w':World):Prop where
 cells:∀k p T cs b,nth σ.own k=some (some (.cellsP p T cs))->yE σ o k=false->ι k= .pointer (some ⟨b,0,none⟩)->w'.heap[b]? =w.heap[b]?
 imm:∀b off v,σ.h b off=some v->w'.cell? ⟨b,off,none⟩=some v
 ext:Aa o.op=true->∀b,b<w.heap.size->w'.heap[b]? =w.heap[b]?
 args:∀l b,sK o=some l->b<w.heap.size->σ.m b=none->(∀x∈l,∀k,(σ.ev x= .at (.lst k)\/∃off,σ.ev x= .at (.ptr k off))->blk (ι k)≠some b)->w'.heap[b]? =w.heap[b]?
def SM(B:sP)(C:Ctx)(ι:cj)(o:Oper)(σ:St)(K:St->Prop)(a:Act)(w:World):Prop:=
 ∀(next:Act->World->Prop)(Q:Exit->Act->World->Prop),(∀e c d b,aL B e c d b->K c->HR σ ι o w b->next d b)->o.wp C.P a w next Q
theorem Ey(g:aL B ι σ a w){w':World}(j:Nat)(x:(∃p T cs,nth σ.own j=some (some (.cellsP p T cs)))->yE σ o j=true)
 (s:∀b,b<w.heap.size->¬((∃o',nth σ.own j=some (some o'))/\blk (ι j)=some b)->w'.heap[b]? =w.heap[b]?)(y:Aa o.op=true->∀b,b<w.heap.size->w'.heap[b]? =w.heap[b]?)
 (z:∀l,sK o=some l->∀b,b<w.heap.size->w'.heap[b]? =w.heap[b]?):HR σ ι o w w':=by
 refine⟨?_,?_,y,λl b h i _ _=>z l h b i⟩
 .intro k p T cs b m t A;have n:=g.own k _ m;have f:blk (ι k)=some b:=by rw[A];rfl
  refine s b (qR n f) ?_;rintro⟨⟨o',d⟩,e⟩;have:=g.dist k j _ _ b m d f e;subst this;rw[x ⟨p,T,cs,m⟩]at t;cases t
 .intro b c v u;have h:=g.wrel.hsat b c v u;have r:b<w.heap.size:=World.block_lt_of_cell? w ⟨b,c,none⟩ h
  have i:=s b r (by
   rintro⟨⟨o',d⟩,e⟩;have:=(g.fresh j o' b d e).2.2 c;rw[u]at this;cases this)
  rw[<-h];exact World.cell?_of_block (w:=w) (w':=w') (a:=⟨b,c,none⟩) i
theorem BR{d:Nat}(b:o.dst=some d):yE σ o d=true:=by
 unfold yE;simp[b]
theorem jX(w:World)(ob:Obj):(w.alloc ob).heap[w.heap.size]? =some ob:=by
 show(w.heap.push ob)[w.heap.size]? =_;simp
theorem fI(w:World)(ob:Obj){b:Nat}(h:b<w.heap.size):(w.alloc ob).heap[b]? =w.heap[b]? :=by
 show(w.heap.push ob)[b]? =_;rw[Array.getElem?_push,if_neg aD]
theorem Vy(S:Nat->Prop)(w:World)(ob:Obj):Dh S w (w.alloc ob):=
 ⟨rfl,rfl,rfl,Nat.le_refl _,by show w.heap.size<=(w.heap.push ob).size;simp,λb c _=>fI w ob c⟩
theorem F1(h:aL B ι σ a w){d:Nat}(i:o.dst=some d){ob:Obj}{g:Own}{v:Value}{x:SV}(m:blk v=some w.heap.size)(f:v.oneCell'=true)
 (n:Dj (upd ι d v) (w.alloc ob) v g)(p:Den (upd ι d v) x v)
 {next:Act->World->Prop}(e:∀r j l w',aL B r j l w'->K j->HR σ ι o w w'->next l w')
 (s:K (((σ.kill d).setOwn d (some g)).put (some d) x)):next (a.put o.dst v) (w.alloc ob):=by
 rw[i];refine e (upd ι d v) _ _ _ ?_ s ?_
 .refine aL.put ?_ (some d) p;exact h.place d g v (Vy _ w ob) n f (λb c=>by rw[m]at c;simp at c;left;omega)
 .exact Ey h d (λ_=>BR i) (λb c _=>fI w ob c) (λ_ b c=>fI w ob c) (λ_ _ b c=>fI w ob c)
theorem Ve(g:aL B ι σ a w){T:Nat}(i:o.op= .alloc T)(h:Su C o T σ K):SM B C ι o σ K a w:=by
 intro next Q b
 unfold Su at h;split at h
 .rename_i d z j l;obtain⟨n,v,f,m,rfl⟩:=Bl l
  have c:(execOp a.eval o).run C.P w= .ok (.value (.pointer (some ⟨w.heap.size,0,none⟩))) (w.alloc (.cells v.cells T)):=by
   unfold execOp;simp[i,Instr.alloc,zeroValue,typeInfo,f,m,newVar,newRow]
  unfold Oper.wp;rw[c,Oper.upon_value];refine F1 g j rfl rfl ?_ (x:=.at (.ptr d 0)) ⟨w.heap.size,bj,rfl⟩ b h;exact⟨w.heap.size,v.cells,rfl,jX _ _,iG.vals.2 rfl,λ_ e=>by cases e⟩
 .exact h.elim
theorem Rc(g:aL B ι σ a w){T:Nat}{x:Operand}(j:o.op= .box T x)(h:YC o T x σ K):SM B C ι o σ K a w:=by
 intro next Q b
 unfold YC at h;split at h
 .rename_i d m l i
  have c:(execOp a.eval o).run C.P w= .ok (.value (.pointer (some ⟨w.heap.size,0,none⟩))) (w.alloc (.cells (a.eval x).cells T)):=by
   unfold execOp;simp[j,Instr.box,newVar,newRow]
  unfold Oper.wp;rw[c,Oper.upon_value];refine F1 g l rfl rfl ?_ (x:=.at (.ptr d 0)) ⟨w.heap.size,bj,rfl⟩ b h;exact⟨w.heap.size,_,rfl,jX _ _,iG.sub (f:=λ_=>.junk) (λ_ _ _ _=>trivial) (Bh g.one (g.ev x) i),λ_ e=>by cases e⟩
 .exact h.elim
end
end Go.Vc
namespace Go.Vc
open Go List
section
variable{B:sP}{C:Ctx}{ι:cj}{σ:St}{a:Act}{w:World}{o:Oper}{K:St->Prop}
theorem a6Z(G:aL B ι σ a w){k E sz:Nat}{xs:List bw}(O:nth σ.own k=some (some (.lst E sz xs))):
 ∃(s:Sl)(n:PH),PH.le σ.h n/\dK n s sz xs/\ι k=s.val/\
  aL B ι {(σ.sub k (λ |.lst _=>.val s.val|_=>.junk)).setOwn k none with h:=n} a w/\
  Fz σ {(σ.sub k (λ |.lst _=>.val s.val|_=>.junk)).setOwn k none with h:=n}:=by
 obtain⟨u,r⟩:=rH G O;have J:∀p T X,nth σ.own k≠some (some (.cellsP p T X)):=λp T X e=>by rw[O]at e;cases e
 have t:∀(s:Sl),ι k=s.val->aL B ι ((σ.sub k (λ |.lst _=>.val s.val|_=>.junk)).setOwn k none) a w:=by
  intro s P
  have:=G.drop k (ι k) (G.one k) (λ |.lst _=>.val s.val|_=>.junk) (by
   intro x v L S;cases x<;>simp only[At.key,Option.some.injEq,reduceCtorEq]at L
   case ptr=>trivial
   case el=>trivial
   case lst j=>
    subst L;have S:v=ι j:=S;show v=s.val;rw[S,P])
  rwa [HV]at this
 rcases r.2 with⟨y,Z⟩|⟨g,z,a',y,_,hg,M,a0,a1,U⟩
 .have L:xs=[]:=eq_nil_of_length_eq_zero Z;refine⟨⟨none,0,0⟩,σ.h,⟨λ_ _ _ h=>h⟩,⟨by simp[L],.inl L,Nat.le_refl _⟩,y,t _ y,?_⟩;exact ayZ (m:=σ.m) (h:=σ.h) rfl (λx j o=>by cases x<;>simp) (λx j=>by cases x<;>simp) J (λ_ _ _ h=>h)
 .have A:=G.fresh k _ g O (by rw[y];rfl)
  let n:PH:=λb o=>if b=g then xs.flatten[o]? else σ.h b o
  have D:∀b o v,σ.h b o=some v->n b o=some v:=by
   intro b o v f;show(if b=g then _ else _)=_;rw[if_neg (λe=>by subst e;rw[A.2.2 o]at f;cases f)];exact f
  have P:ι k=Sl.val ⟨some ⟨g,0,none⟩,xs.length,z⟩:=y;refine⟨⟨some ⟨g,0,none⟩,xs.length,z⟩,n,⟨D⟩,⟨rfl,.inr ⟨g,0,rfl,?_⟩,M⟩,P,?_,?_⟩
  .intro i e hi;constructor;intro j v H;show(if g=g then _ else _)=_;rw[if_pos rfl,Nat.zero_add];exact lT u.len hi j v H
  .have c:=t _ P
   have F:∀j N,nth ((σ.sub k (λ |.lst _=>.val (Sl.val ⟨some ⟨g,0,none⟩,xs.length,z⟩)|_=>.junk)).setOwn k none).own j=some (some N)->blk (ι j)≠some g:=by
    intro j N H I;obtain⟨V,o1,W,_⟩:=pT H;exact V (G.dist j k _ _ g W O I (by rw[y];rfl))
   refine⟨c.slots,c.defers,c.own,c.dist,?_,?_,c.one⟩
   .intro j N b H I;obtain⟨Q,h2,h3⟩:=c.fresh j N b H I;refine⟨Q,h2,λi=>?_⟩;show(if b=g then _ else _)=_;rw[if_neg (λe:b=g=>F j N H (by rw[<-e];exact I))];exact h3 i
   .have d:=G.wrel;refine⟨d.tape,d.os,d.output,d.drawn,d.size,d.frame,?_,d.msat,?_,λb o v h=>D b o v (d.hle b o v h),?_,d.mfr⟩
    .intro b l v f;have f:(if b=g then xs.flatten[l]? else σ.h b l)=some v:=f;by_cases e:b=g
     .subst e;rw[if_pos rfl]at f;have:=r.cells (g:=b) (by rw[y];rfl) l v f
      rwa [Addr.add_none,Nat.zero_add]at this
     .rw[if_neg e]at f;exact d.hsat b l v f
    .intro b ob R i;show(if b=g then _ else _)=_;rw[if_neg (λe=>by subst e;have:=A.2.1;simp only[St.setOwn,St.sub]at R;rw[this]at R;cases R)];exact d.disj b ob R i
    .intro b I Y;funext i;show(if b=g then _ else _)=_
     rw[if_neg (λe=>by subst e;rcases A.1 with Q|Q; · omega
                       .exact Y Q)]
     exact congrFun (d.hold b I Y) i
  .exact ayZ (m:=σ.m) (h:=n) rfl (λx j o=>by cases x<;>simp) (λx j=>by cases x<;>simp) J D
theorem nL:∀(ks:cu)(σ:St),aL B ι σ a w->uF σ K ks->∃b,aL B ι b a w/\K b/\Fz σ b
 |[],σ,e,h=>⟨σ,e,h,Fz.refl σ⟩
 |k::ks,σ,e,h=>by
  simp only[uF]at h;split at h
  .rename_i E p r l;obtain⟨s,m,f,c,_,g,i⟩:=a6Z e l;obtain⟨b,j,n,d⟩:=nL ks _ g (h s m f c);exact⟨b,j,n,i.trans d⟩
  .exact h.elim
theorem FH{P:Program}{T E:Nat}{z:bw}(h:elemOf P T=some (E,z)):
 ∃i v,P.underlying T=some (.slice E)/\P.info? E=some i/\i.zero=some v/\z=v.cells.toList/\v.cells.size=i.size/\P.cellsOf E=i.size/\0<i.size/\∀u∈z,u.oneCell'=true:=by
 unfold elemOf at h;split at h
 .rename_i E' b;split at h
  .rename_i n j;split at h
   .rename_i c f l;simp only[Option.some.injEq,Prod.mk.injEq]at h;obtain⟨rfl,rfl⟩:=h;obtain⟨i,v,g,m,rfl⟩:=Bl j;have d:P.cellsOf E'=i.size:=by simp[Program.cellsOf,g]
    have c:=Nat.eq_of_beq_eq_true c;refine⟨i,v,b,g,m,rfl,by simpa[d]using c,d,?_,λu b=>(all_eq_true.1 l) u b⟩;rcases Nat.eq_zero_or_pos i.size with e|e
    .rw[d,e]at f;simp at f
    .exact e
   .cases h
  .cases h
 .cases h
theorem cR{sz:Nat}:∀{xs:List bw},(∀e∈xs,e.length=sz)->xs.flatten.length=xs.length*sz
 |[],_=>bj
 |x::xs,h=>by
  rw[flatten_cons,length_append,cR (λe b=>h e (by simp[b])),h x bj,length_cons,Nat.succ_mul];omega
theorem EN(F:aL B ι σ a w){sz:Nat}(G:0<sz):∀(parts:dl)(c:List bw)(out:List bw),eW sz c->C9 σ sz parts c=some out->
 eW sz out/\out.length=c.length/\Instr.fill (λi=>some (i*sz,sz)) c.flatten.toArray (parts.map λp=>(p.1,a.eval p.2))=some out.flatten.toArray
 |[],c,out,n,h=>by simp[C9]at h;subst h;exact⟨n,rfl,rfl⟩
 |(i,x)::parts,c,out,n,h=>by
  simp only[C9]at h;split at h
  .rename_i s H;split at h
   .rename_i l I;split at h
    .rename_i b j J;have b:=Nat.eq_of_beq_eq_true b;have j:=Nat.le_of_ble_eq_true j;have t:=Bh F.one (F.ev x) H;rw[E6 I,iG.vals]at t
     have v:∀u∈l,u.oneCell'=true:=by
      intro u O;have z:=E6 I;clear t I
      have:∀(s:cr),sL s=true->∀x∈s,x.storable=true:=by
       intro s
       induction s with
       |nil=>intro _ x A;cases A
       |cons y r L=>
        intro E x A;simp only[sL]at E;split at E
        .rename_i P;rcases mem_cons.1 A with rfl|A
         .exact P
         .exact L E x A
        .cases E
      have d:=this s J (.val u) (by rw[z];exact mem_map.2 ⟨u,O,rfl⟩);cases u<;>first|rfl|(simp[At.storable]at d)
     have M:eW sz (c.set i l):=by
      constructor
      .intro e g;rcases mem_or_eq_of_mem_set g with d|d
       .exact n.len e d
       .rw[d];exact b
      .intro e g;rcases mem_or_eq_of_mem_set g with d|d
       .exact n.one e d
       .rw[d];exact v
     obtain⟨d,Q,R⟩:=EN F G parts (c.set i l) out M h;refine⟨d,bo Q,?_⟩;simp only[map_cons]
     have m:∀(c:List bw)(i:Nat),(∀e∈c,e.length=sz)->i<c.length->splice c.flatten (i*sz) l=(c.set i l).flatten:=by
      intro c
      induction c with
      |nil=>intro i _ N;simp at N
      |cons e r L=>
       intro i f N;have g:e.length=sz:=f e bj;cases i with
       |zero=>
        simp only[splice,Nat.zero_mul,take_zero,nil_append,Nat.zero_add,flatten_cons,set_cons_zero,b];rw[<-g,drop_left]
       |succ i=>
        have:=L i (λe g=>f e (by simp[g])) (bo N);simp only[flatten_cons,set_cons_succ, <-this,splice];have S:(i+1)*sz=e.length+i*sz:=by rw[g,Nat.succ_mul];omega
        rw[S,take_length_add_append,show e.length+i*sz+l.length=e.length+(i*sz+l.length)by omega,drop_length_add_append];simp
     have D:=cR n.len;rw[PF rfl (by rw[<-b, <-t];simp) (by rw[<-Array.length_toList,t];simp only[size_toArray,D,b];rw[<-Nat.succ_mul];exact Nat.mul_le_mul_right _ j),t];rw[m c i n.len aD];exact R
    .cases h
   .cases h
  .cases h
end
end Go.Vc
namespace Go.Vc
open Go List
section
variable{B:sP}{C:Ctx}{ι:cj}{σ:St}{a:Act}{w:World}{o:Oper}{K:St->Prop}
theorem Je{z:Array Value}{sz:Nat}(b:z.size=sz)(h:0<sz)(n:Nat):(madeCells z (n*sz)).toList=(replicate n z.toList).flatten:=by
 apply ext_getElem?;intro j;by_cases d:j<n*sz
 .have l:j/sz<n:=Nat.div_lt_of_lt_mul (by rw[Nat.mul_comm];exact d);have f:j%sz<sz:=Nat.mod_lt _ h;have g:=lT (xs:=replicate n z.toList) (sz:=sz) (i:=j/sz) (e:=z.toList) (λe c=>by rw[eq_of_mem_replicate c];simpa using b) (by simp[l]) (j%sz) z[j%sz] (by simp[b,f]);rw[show j/sz*sz+j%sz=j by rw[Nat.mul_comm];exact Nat.div_add_mod j sz]at g;rw[g];simp[madeCells,d,b,f]
 .rw[getElem?_eq_none,getElem?_eq_none]
  .rw[cR (sz:=sz) (λe c=>by rw[eq_of_mem_replicate c];simpa using b)];simp;omega
  .simp[madeCells];omega
theorem pB{z:bw}{sz:Nat}(c:z.length=sz)(d:∀u∈z,u.oneCell'=true)(n:Nat):eW sz (replicate n z):=
 ⟨λe b=>by rw[eq_of_mem_replicate b];exact c,λe b=>by rw[eq_of_mem_replicate b];exact d⟩
theorem MX{τ:St}(p:Fz σ τ){k:Nat}(h:yE σ o k=false):yE τ o k=false:=by
 have u:∀(l:cw)(j:Nat),j∈oN τ l->j∈oN σ l:=by
  intro l
  induction l with
  |nil=>intro j g;cases g
  |cons x r y=>
   intro j g
   have z:∀(υ:St)(j:Nat),j∈oN υ (x::r)↔(∃d,υ.ev x= .at (.ptr j d))\/j∈oN υ r:=by
    intro υ j;simp only[oN];split
    .rename_i D d i;split
     .rename_i s;constructor
      .exact .inr
      .rintro(⟨e,b⟩|b)
       .rw[i]at b;simp at b;rw[<-b.1];simpa using s
       .exact b
     .constructor
      .intro b;rcases mem_cons.1 b with rfl|b
       .exact .inl ⟨d,i⟩
       .exact .inr b
      .rintro(⟨e,b⟩|b)
       .rw[i]at b;simp at b;rw[<-b.1];exact mem_cons_self
       .exact mem_cons_of_mem _ b
    .rename_i i;constructor
     .exact .inr
     .rintro(⟨e,b⟩|b)
      .exact absurd b (i j e)
      .exact b
   rw[z]at g⊢
   rcases g with⟨d,g⟩|g
   .exact .inl ⟨d,p.ptr _ _ _ g⟩
   .exact .inr (y j g)
 unfold yE at h⊢
 rw[Bool.or_eq_false_iff]at h⊢
 refine⟨h.1,?_⟩;have m:=h.2;split at m
 .rename_i t x v n;split
  .rename_i j d i;rw[p.ptr _ _ _ i]at m;exact m
  .rfl
 .rename_i c n;split at m
  .rename_i f s;simp only[contains_eq_mem,decide_eq_false_iff_not]at m⊢
   intro A;exact m (u _ _ A)
  .rfl
 .rfl
theorem HR.of_fz{τ:St}{w':World}(d:Fz σ τ)(h:HR τ ι o w w'):HR σ ι o w w':=
 ⟨λk p T g b f i j=>let⟨cs',hk'⟩:=d.cells k p T g f;h.cells k p T cs' b hk' (MX d i) j,λb c v m=>h.imm b c v (d.imm b c v m),h.ext,λl b n r s t=>h.args l b n r (by rw[d.m_];exact s) (λx u k f=>t x u k (f.imp (d.lst x k) (λ⟨c,e⟩=>⟨c,d.ptr x k c e⟩)))⟩
theorem Zh(ps:Array (Nat×Operand))(a:Act):(ps.map fun(i,x)=>(i,a.eval x)).toList=ps.toList.map λp=>(p.1,a.eval p.2):=bj
theorem K4(H:aL B ι σ a w){T n:Nat}{ps:Array (Nat×Operand)}(I:o.op= .buildSlice T n ps)(h:EG C o T n ps.toList σ K):SM B C ι o σ K a w:=by
 intro next Q f
 unfold EG at h;obtain⟨τ,l,h,y⟩:=nL _ _ H h;split at h
 .rename_i d E z J L;split at h
  .rename_i j m g;obtain⟨t,v,D,F,M,rfl,p,N,e,r⟩:=FH L;rw[N]at m g h;have g:=Nat.le_of_ble_eq_true g;obtain⟨u,c,b⟩:=EN l e ps.toList _ j (pB (bo p) r n) m;simp only[length_replicate]at c
   have s:(execOp a.eval o).run C.P w= .ok (.value (.slice (some ⟨w.heap.size,0,none⟩) n n)) (w.alloc (.cells j.flatten.toArray E)):=by
    have O:(Instr.buildSlice T n (ps.map fun(i,x)=>(i,a.eval x))).run C.P w= .ok (.slice (some ⟨w.heap.size,0,none⟩) n n) (w.alloc (.cells j.flatten.toArray E)):=by
     by_cases G:n*t.size=0
     .have R:n=0:=by rcases Nat.mul_eq_zero.1 G with h|h<;>omega
      subst R;have:j=[]:=eq_nil_of_length_eq_zero c;subst this;simp only[replicate_zero,flatten_nil]at b;have A:Array.map (λ_:Nat=>(default:Value)) (Array.range 0)= #[]:=by simp[Array.range_zero']
      simp[Instr.buildSlice,run_underlying D,run_sizeOf F,newRow];rw[A,b];simp
     .refine run_buildSlice w T E n _ j.flatten.toArray t v D F M aD G ?_
      have:((Array.range (n*t.size)).map (v.cells[· %v.cells.size]!))=(replicate n v.cells.toList).flatten.toArray:=by
       apply Array.toList_inj.1;have:=Je p e n;unfold madeCells at this;rw[this]
      rw[this,Zh];exact b
    unfold execOp;simp only[I,Sem.run_bind,O,Result.andThen_ok,Sem.run_pure]
   unfold Oper.wp;rw[s,Oper.upon_value];refine F1 l J rfl rfl ?_ (x:=.at (.lst d)) (by show _=_;simp) (λS U V W X Y Z=>f S U V W X Y (Z.of_fz y)) h;refine⟨u,cR u.len,.inr ⟨w.heap.size,n,j.flatten.toArray,by rw[c],Nat.zero_le _,jX _ _,aD,?_,?_,?_⟩⟩
   .have:n<=n*t.size:=Nat.le_mul_of_pos_right n e;unfold maxLen;omega
   .simp only[size_toArray,cR u.len,c]
   .rw[take_of_length_le];rw[cR u.len];exact Nat.le_refl _
  .exact h.elim
 .exact h.elim
theorem L2(u:aL B ι σ a w){T:Nat}{l c:Operand}(L:o.op= .makeSlice T l c)(h:Fq C o T l c σ K):SM B C ι o σ K a w:=by
 intro next Q f
 have r:=u.ev l;have s:=u.ev c;unfold Fq at h;split at h
 .rename_i d E z G n H m M N y A;rw[y]at r;rw[A]at s;have r:a.eval l= .int G n:=r;have s:a.eval c= .int H m:=s;obtain⟨t,v,O,I,R,rfl,i,D,j,b⟩:=FH N;obtain⟨S,U,J,V,h⟩:=h;rw[D]at h;have F:C.P.bytesOf E=t.bytes:=by simp[Program.bytesOf,I]
  rw[F,Int.mul_comm]at J
  have p:(execOp a.eval o).run C.P w= .ok (.value (.slice (some ⟨w.heap.size,0,none⟩) n.toNat m.toNat)) (w.alloc (.cells (madeCells v.cells (m.toNat*t.size)) E)):=by
   unfold execOp;simp only[L,r,s,Sem.run_bind,run_make (P:=C.P) w T E t v O I R G H n m S U J aD,Result.andThen_ok,Sem.run_pure]
  unfold Oper.wp;rw[p,Oper.upon_value];refine F1 u M rfl rfl ?_ (x:=.at (.lst d)) (by show _=_;simp) f h;have g:v.cells.toList.length=t.size:=bo i
  refine⟨pB g b _,cR (pB g b _).len,.inr ⟨w.heap.size,m.toNat,_,by rw[length_replicate],Nat.zero_le _,jX _ _,?_,?_,size_madeCells _ _,?_⟩⟩
  .simp;omega
  .unfold maxLen;omega
  .rw[Je i j]
   have e:replicate m.toNat v.cells.toList=replicate n.toNat v.cells.toList++replicate (m.toNat-n.toNat) v.cells.toList:=by
    rw[replicate_append_replicate];congr 1;omega
   rw[e,flatten_append,take_left'];rw[cR (pB g b _).len]
 .exact h.elim
theorem vZ{P:Program}(w:World)(t tx O e:TypeId)(i:TypeInfo)(z:Value)(Q:P.underlying t=some (.slice e))(R:P.info? e=some i)(hz:i.zero=some z)
 (V:z.cells.size=i.size)(v:Value)(n:Nat)(xs:bw)(f:w.ownsRow 0 e i.size v n xs)(x:Value)(m:Nat)(c:bw)(A:Src P i.size tx x m c w)
 (I:n+m<=maxLen)(r:(n+m)*i.bytes<=140737488355328):
 ∃T w',(Builtin.append_ #[t,tx] O #[v,x]).run P w= .ok T w'/\w'.ownsRow 0 e i.size T (n+m) (xs++c)/\Dh (λb=>v.ownBlock=some b) w w'/\
  (∀b,T.ownBlock=some b->w.heap.size<=b\/v.ownBlock=some b)/\T.oneCell'=true:=by
 have U:n+m<=9223372036854775807:=by simp only[maxLen]at I;omega
 have W:=A.newsLen;have h:(xs++c).length=(n+m)*i.size:=by rw[length_append,f.1,W,Nat.add_mul]
 have grown:∀(l:Nat),l<n+m->∀(S:Nat->Prop),
  (w.drew.alloc (.cells ((xs++c).toArray++Builtin.zeroCells z.cells (grownCap w (n+m) l e-(n+m))) e)).ownsRow 0 e i.size
   (.slice (some ⟨w.heap.size,0,none⟩) (n+m) (grownCap w (n+m) l e)) (n+m) (xs++c)/\
  Dh S w (w.drew.alloc (.cells ((xs++c).toArray++Builtin.zeroCells z.cells (grownCap w (n+m) l e-(n+m))) e)):=by
  intro l ho S;have X:=grownCap_ge w (n+m) l e;have E:grownCap w (n+m) l e<=maxLen:=grownCap_le_maxLen w (n+m) l e I;refine⟨⟨h,.inr ⟨w.heap.size,_,_,rfl,Nat.zero_le _,heap_alloc_new w.drew _,X,E,?_,?_⟩⟩,⟨rfl,rfl,rfl,Nat.le_succ _,bj,λk D _=>heap_alloc_old w.drew _ k D⟩⟩
  .simp only[Array.size_append,size_toArray,size_zeroCells,V,h, <-Nat.add_mul];congr 1;omega
  .simp only[Array.toList_append];rw[<-h];exact take_left
 rcases f.2 with⟨rfl,rfl⟩|⟨g,d,s,rfl,Y,hg,a',E,Z,F⟩
 .have hx:xs=[]:=eq_nil_of_length_eq_zero (bo f.1);subst hx;by_cases hm:m=0
  .subst hm;have hn:c=[]:=eq_nil_of_length_eq_zero (bo W);subst hn;refine⟨.slice none 0 0,w,?_,World.ownsRow_nil w 0 e i.size,Dh.refl _ _,λb G=>by simp[Value.ownBlock]at G,rfl⟩;rcases A.kind with⟨e',D⟩|D<;>simp[Builtin.append_,run_underlying Q,run_underlying D,sizeOf,typeInfo,R,A.len,A.cells]
  .have J:=run_append_grow_src (P:=P) w t tx O e i z Q R hz none 0 0 [] (by simp[Builtin.firstCells]) x m c A aD aD (growslice_fits aD r);have y:=grown 0 aD (λb=>Value.ownBlock (.slice none 0 0)=some b);exact⟨_,_,J,y.1,y.2,λb G=>by simp[Value.ownBlock]at G;left;omega,rfl⟩
 .by_cases p:n+m<=d
  .have L:n*i.size+c.length<=s.size:=by rw[W,Z, <-Nat.add_mul];exact Nat.mul_le_mul_right _ p
   have M:=run_storeCells_at P g (n*i.size) e c 0 s w hg (bo L) A.one;simp only[Nat.add_zero]at M
   have J:(Builtin.append_ #[t,tx] O #[.slice (some ⟨g,0,none⟩) n d,x]).run P w= .ok (.slice (some ⟨g,0,none⟩) (n+m) d) (w.setRow g (s.toList.take (n*i.size)++c++s.toList.drop (n*i.size+c.length)).toArray):=by
    rcases A.kind with⟨e',D⟩|D<;>simp[Builtin.append_,run_underlying Q,run_underlying D,sizeOf,typeInfo,R,A.len,p,A.cells,Addr.add_lit,M]
   refine⟨_,_,J,⟨h,.inr ⟨g,d,_,rfl,Y,setRow_heap w g s _ e _ hg,p,E,?_,?_⟩⟩,⟨rfl,rfl,rfl,Nat.le_refl _,bj,λk _ D=>setRow_other w g k _ (λe=>D (by simp[Value.ownBlock,e]))⟩,λb G=>.inr G,rfl⟩
   .simp only[size_toArray,length_append,length_take,length_drop,Array.length_toList];omega
   .rw[F, <-h];exact take_left
  .have H:∀j u,xs[j]? =some u->w.cell? ((⟨g,0,none⟩:Addr).add j)=some u:=f.cells (g:=g) rfl
   have N:(Builtin.firstCells i.size n (.slice (some ⟨g,0,none⟩) n d)).run P w.drew= .ok xs.toArray w.drew:=
    run_firstCells_some w.drew i.size n ⟨g,0,none⟩ n d xs f.1 (bo H)
   have J:=run_append_grow_src (P:=P) w t tx O e i z Q R hz (some ⟨g,0,none⟩) n d xs N x m c A aD aD (growslice_fits aD r);have y:=grown d aD (λb=>Value.ownBlock (.slice (some ⟨g,0,none⟩) n d)=some b);exact⟨_,_,J,y.1,y.2,λb G=>by simp[Value.ownBlock]at G;left;omega,rfl⟩
end
end Go.Vc
namespace Go.Vc
open Go Go.Lib List
theorem Rx{z:Array Value}{sz:Nat}(b:z.size=sz)(h:0<sz)(n:Nat):(Builtin.zeroCells z n).toList=(replicate n z.toList).flatten:=by
 apply ext_getElem?;intro j;by_cases d:j<n*sz
 .have l:j/sz<n:=Nat.div_lt_of_lt_mul (by rw[Nat.mul_comm];exact d);have f:j%sz<sz:=Nat.mod_lt _ h;have g:=lT (xs:=replicate n z.toList) (sz:=sz) (i:=j/sz) (e:=z.toList) (λe c=>by rw[eq_of_mem_replicate c];simpa using b) (by simp[l]) (j%sz) z[j%sz] (by simp[b,f]);rw[show j/sz*sz+j%sz=j by rw[Nat.mul_comm];exact Nat.div_add_mod j sz]at g;rw[g];simp[Builtin.zeroCells,d,b,f]
 .rw[getElem?_eq_none,getElem?_eq_none]
  .rw[cR (sz:=sz) (λe c=>by rw[eq_of_mem_replicate c];simpa using b)];simp;omega
  .simp[Builtin.zeroCells,b];omega
theorem J1{P:Program}(w:World)(t h m e:TypeId)(i:TypeInfo)(z:Value)(n p:IntKind)(v:P.underlying t=some (.slice e))(j:P.underlying h=some (.int p))(y:P.info? e=some i)(A:i.zero=some z)
 (c:z.cells.size=i.size)(r:0<i.size)(k:Nat)(s:0<k)(f:k*i.bytes<=140737488355328)(D:k<=140737488355328):
 ∃g w',(Builtin.append_ #[t,h] m #[.slice none 0 0,.int n k]).run P w= .ok g w'/\w'.ownsRow 0 e i.size g k (replicate k z.cells.toList).flatten/\Dh (λ_=>False) w w'/\
  (∀b,g.ownBlock=some b->w.heap.size<=b)/\g.oneCell'=true:=by
 have u:=run_append_grow_zeros w t h m e i z n p v j y A none 0 0 [] (run_firstCells_none w.drew i.size 0 0 0) k s r aD aD aD (by rw[Nat.zero_add,nextslicecap_zero s];omega);rw[Nat.zero_add]at u;have E:=grownCap_ge w k 0 e;have l:=grownCap_le_maxLen w k 0 e (by unfold maxLen;omega);refine⟨_,_,u,?_,?_,?_,rfl⟩
 .refine⟨cR (sz:=i.size) (λx d=>by rw[eq_of_mem_replicate d];simpa using c) |>.trans bj,.inr ⟨w.heap.size,_,_,rfl,Nat.zero_le _,jX _ _,aD,l,?_,?_⟩⟩
  .simp[Builtin.zeroCells,c];rw[<-Nat.add_mul];congr 1;omega
  .simp only[Array.toList_append,Rx c r];rw[take_append_of_le_length]
   .simp only[nil_append];rw[take_of_length_le];rw[cR (sz:=i.size) (λx d=>by rw[eq_of_mem_replicate d];simpa using c)];simp
   .simp only[nil_append];rw[cR (sz:=i.size) (λx d=>by rw[eq_of_mem_replicate d];simpa using c)];simp
 .exact⟨rfl,rfl,rfl,Nat.le_succ _,by show w.heap.size<=(w.heap.push _).size;simp,λb f _=>fI w.drew _ f⟩
 .intro b f;simp[Value.ownBlock]at f;omega
end Go.Vc
namespace Go.Vc
open Go List
section
variable{B:sP}{C:Ctx}{ι:cj}{σ:St}{a:Act}{w:World}{o:Oper}{K:St->Prop}
theorem FE{sz:Nat}:∀{xs:List bw}(_:∀e∈xs,e.length=sz) {j:Nat} {v:Value},xs.flatten[j]? =some v->∃(i:Nat)(e:bw)(q:Nat),xs[i]? =some e/\e[q]? =some v/\j=i*sz+q
 |[],_,j,v,h=>by simp at h
 |x::xs,b,j,v,h=>by
  have l:=b x bj;rw[flatten_cons]at h;by_cases c:j<x.length
  .rw[getElem?_append_left c]at h;exact⟨0,x,j,rfl,h,bj⟩
  .rw[getElem?_append_right aD]at h;obtain⟨i,e,q,d,f,m⟩:=FE (λe g=>b e (by simp[g])) h;exact⟨i+1,e,q,bo d,f,by rw[Nat.succ_mul];omega⟩
theorem a3X{P:Program}{tx j E sz:Nat}{v:Value}{b:List bw}(f:P.underlying tx=some (.slice j))(h:eW sz b)(i:w.ownsRow 0 E sz v b.length b.flatten):
 Src P sz tx v b.length b.flatten w:=by
 have l:∀u∈b.flatten,u.oneCell'=true:=λu m=>by
  obtain⟨e,n,c⟩:=mem_flatten.1 m;exact h.one e n u c
 rcases i.2 with⟨rfl,p⟩|⟨g,d,r,rfl,_⟩
 .have:b=[]:=eq_nil_of_length_eq_zero p;subst this;exact Src.ofNil w f 0
 .exact Src.ofSlice w f ⟨g,0,none⟩ _ d _ (cR h.len) (i.cells (g:=g) rfl) l
theorem RI{P:Program}{tx z sz:Nat}{h:PH}(A:P.underlying tx=some (.slice z)){m:Option Addr}{n c:Nat}{l:List bw}(t:eW sz l)(d:dK h ⟨m,n,c⟩ sz l)
 (p:∀b o v,h b o=some v->w.cell? ⟨b,o,none⟩=some v):Src P sz tx (.slice m n c) l.length l.flatten w:=by
 have D:∀u∈l.flatten,u.oneCell'=true:=λu x=>by
  obtain⟨e,E,y⟩:=mem_flatten.1 x;exact t.one e E u y
 have r:n=l.length:=d.len;subst r;rcases d.row with rfl|⟨b,s,f,g⟩
 .refine⟨.inl ⟨z,A⟩,λ_=>rfl,?_,?_,bj,λu x=>by simp at x⟩
  .cases m<;>simp[Builtin.firstCells,loadCells,loadCellsFrom]
  .cases m<;>simp[Builtin.firstCells,loadCells,loadCellsFrom]
 .have f:m=some ⟨b,s,none⟩:=f;subst f;refine Src.ofSlice w A ⟨b,s,none⟩ _ c _ (cR t.len) ?_ D;intro j u F;obtain⟨i,e,q,G,H,rfl⟩:=FE t.len F;rw[Addr.add_none];have:=p _ _ _ ((g i e G).rd q u H);rw[<-Nat.add_assoc];exact this
theorem HM(s:ByteArray):(fL s).flatten=byteCells s:=by
 unfold fL byteCells
 induction s.data.toList with
 |nil=>rfl
 |cons b r c=>simp[c]
theorem RH(p:aL B ι σ a w){sz tx:Nat}{y:Operand}{R:List bw->Prop}{lent:Bool}(h:Lq C.P lent σ sz tx (σ.ev y) R):
 ∃i,eW sz i/\Src C.P sz tx (a.eval y) i.length i.flatten w/\R i:=by
 have d:=p.ev y;unfold Lq at h;split at h
 .rename_i k I r l;rw[r]at d;have d:a.eval y=ι k:=d;split at h
  .rename_i E s i t;split at h
   .rename_i g;have g:=Nat.eq_of_beq_eq_true g;subst g;obtain⟨m,J⟩:=rH p t;exact⟨i,m,by rw[d];exact a3X l m J,h⟩
   .exact h.elim
  .exact h.elim
 .rename_i H n c I r l;rw[r]at d;have d:a.eval y= .slice H n c:=d;obtain⟨i,m,f,h⟩:=h;refine⟨i,m,?_,h⟩;rw[d];cases lent with
  |false=>exact RI l m f p.wrel.hsat
  |true=>
   cases f with
   |imm f=>exact RI l m f p.wrel.hsat
   |lent b o N E O g A L D=>
    have g:H=some ⟨b,o,none⟩:=g;have A:n=i.length:=A;subst g A
    have M:∀u∈i.flatten,u.oneCell'=true:=λu l=>by
     obtain⟨e,v,F⟩:=mem_flatten.1 l;exact m.one e v u F
    refine Src.ofSlice w l ⟨b,o,none⟩ _ c _ (cR m.len) ?_ M;intro j u z;rw[Addr.add_none,cell_of_heap (p.wrel.msat b _ L)];rw[<-D]at z;have G:=(List.getElem?_eq_some_iff.1 z).1;rw[getElem?_take,if_pos (by rw[length_take]at G;omega),getElem?_drop]at z;exact z
 .rename_i s r l;rw[r]at d;have d:a.eval y= .string s:=d;split at h
  .rename_i g;have g:=Nat.eq_of_beq_eq_true g;subst g;refine⟨fL s,⟨λe v=>by obtain⟨b,_,rfl⟩:=mem_map.1 v;rfl,λe v u x=>by obtain⟨b,_,rfl⟩:=mem_map.1 v;simp at x;subst x;rfl⟩,?_,h⟩;rw[d,HM];have D:(fL s).length=s.size:=by simp[fL]
   rw[D];exact Src.ofString w l s
  .exact h.elim
 .exact h.elim
theorem Dh.mono{S S':Nat->Prop}{w w':World}(h:Dh S w w')(d:∀b,S b->S' b):Dh S' w w':=⟨h.tape,h.os,h.output,h.drawn,h.size,λb e f=>h.block b e (λc=>f (d b c))⟩
theorem Dv{v:Value}{b:Nat}(h:v.ownBlock=some b):blk v=some b:=by
 cases v<;>simp[Value.ownBlock]at h
 case slice ad n c=>cases ad<;>simp at h;simpa[blk]using h
theorem CF{sz:Nat}{xs c:List bw}(d:eW sz xs)(f:eW sz c):eW sz (xs++c):=
 ⟨λe b=>(mem_append.1 b).elim (d.len e) (f.len e),λe b=>(mem_append.1 b).elim (d.one e) (f.one e)⟩
theorem yF{E sz n:Nat}{v:Value}{l:bw}(h:w.ownsRow 0 E sz v n l){b:Nat}(c:blk v=some b):v.ownBlock=some b:=by
 rcases h.2 with⟨rfl,_⟩|⟨g,d,e,rfl,_⟩
 .simp[blk]at c
 .simpa[blk,Value.ownBlock]using c
theorem avJ(g:aL B ι σ a w){w':World}{m':MH}{S:Nat->Prop}(r:Dh S w w')(D:∀b,S b->σ.m b≠none)(t:∀b o,m' b=some o->w'.heap[b]? =some o/\(σ.m b≠none\/w.heap.size<=b)):
 aL B ι {σ with m:=m'} a w'/\∀o,Aa o.op=false->HR σ ι o w w':=by
 have c:=g.wrel
 have u:∀b,w.heap.size<=b->∀i,σ.h b i=none:=by
  intro b d i;cases e:σ.h b i with
  |none=>rfl
  |some v=>have:=World.block_lt_of_cell? w ⟨b,i,none⟩ (c.hsat _ _ _ e);simp at this;omega
 have F:∀b,S b->∀i,σ.h b i=none:=by
  intro b d i;cases e:σ.m b with
  |none=>exact absurd e (D b d)
  |some x=>exact c.disj b x e i
 have z:∀k s b,nth σ.own k=some (some s)->blk (ι k)=some b->¬S b:=by
  intro k s b j d y;exact D b y (g.fresh k s b j d).2.1
 have n:∀b i v,σ.h b i=some v->w'.cell? ⟨b,i,none⟩=some v:=by
  intro b i v G;have E:=c.hsat b i v G;rw[<-E];exact World.cell?_of_block (w:=w) (w':=w') (a:=⟨b,i,none⟩) (r.block b (World.block_lt_of_cell? w ⟨b,i,none⟩ E) (λy=>by rw[F b y i]at G;cases G))
 refine⟨⟨g.slots,g.defers,λk s j=>(g.own k s j).world (λb d=>r.block b (qR (g.own k s j) d) (z k s b j d)),g.dist,?_,?_,g.one⟩,λo I=>⟨?_,n,λh=>(by rw[I]at h;cases h),λl b _ f E _=>r.block b f (λy=>D b y E)⟩⟩
 .intro k s b j d;obtain⟨J,L,M⟩:=g.fresh k s b j d;refine⟨J,?_,M⟩;show m' b=none;cases e:m' b with
  |none=>rfl
  |some x=>
   rcases(t b x e).2 with f|f
   .exact absurd L f
   .have:=qR (g.own k s j) d;omega
 .refine⟨r.tape.trans c.tape,r.os.trans c.os,r.output.trans c.output,Nat.le_trans c.drawn r.drawn,Nat.le_trans c.size r.size,?_,n,λb o e=>(t b o e).1,?_,c.hle,c.hold,?_⟩
  .intro b d H;rw[r.block b (Nat.lt_of_lt_of_le d c.size) (λy=>?_)]
   .exact c.frame b d H
   .cases e:σ.m b with
    |none=>exact D b y e
    |some x=>
     rcases c.mfr b x e with f|f
     .omega
     .exact H f
  .intro b o e i;rcases(t b o e).2 with f|f
   .cases A:σ.m b with
    |none=>exact absurd A f
    |some x=>exact c.disj b x A i
   .exact u b f i
  .intro b o e;rcases(t b o e).2 with f|f
   .cases A:σ.m b with
    |none=>exact absurd A f
    |some x=>exact c.mfr b x A
   .exact .inl (Nat.le_trans c.size f)
 .intro k p T O b j _ N;have d:blk (ι k)=some b:=by rw[N];rfl
  exact r.block b (qR (g.own k _ j) d) (z k _ b j d)
theorem Sr(M:aL B ι σ a w){T tx:Nat}{x y:Operand}{c:Call}(ho:o.op= .call c)(hc:c.callee= .builtin .append)(hx:c.args.toList=[x,y])(ht:c.argTypes.toList=[T,tx])
 (h:Oy C o T tx x y σ K):SM B C ι o σ K a w:=by
 intro next Q O
 have b3:c.args= #[x,y]:=by apply Array.toList_inj.1;simpa using hx
 have c0:c.argTypes= #[T,tx]:=by apply Array.toList_inj.1;simpa using ht
 unfold Oy at h;split at h
 .rename_i d E z hd hE;obtain⟨it,zv,hu,hi,hv,rfl,a1,Y,d2,c1⟩:=FH hE;have a5:C.P.bytesOf E=it.bytes:=by simp[Program.bytesOf,hi]
  have Z:∀L U,(Builtin.append_ #[T,tx] o.type #[a.eval x,a.eval y]).run C.P w= .ok L U->(execOp a.eval o).run C.P w= .ok (.value L) U:=by
   intro L U hr;unfold execOp;simp only[ho,resolve,hc,b3,c0,invoke,builtin,Sem.run_bind,Sem.run_pure,Result.andThen_ok,map_toArray,map_cons,map_nil];rw[hr];rfl
  have a6:∀(R:Option Addr)(n X:Nat),σ.ev x= .at (.val (.slice R n X))->(∃v:List bw,eC σ.m ⟨R,n,X⟩ E (C.P.cellsOf E) v/\
   Lq C.P (Pz C) σ (C.P.cellsOf E) tx (σ.ev y) λN=>
    (v.length+N.length)*C.P.bytesOf E<=140737488355328/\v.length+N.length<=140737488355328/\
    ∀(s':Sl)(m':MH),jP σ.m m' ⟨R,n,X⟩ s' E (C.P.cellsOf E) (v++N)->K ({σ with m:=m'}.put (some d) (.at (.val s'.val))))->o.wp C.P a w next Q:=by
   intro R n X S h;have s:=M.ev x;rw[S]at s;have s:a.eval x= .slice R n X:=s;obtain⟨v,D,h⟩:=h;obtain⟨N,hr,F,I,b0,h⟩:=RH M h;rw[Y]at hr F h;rw[a5]at I;have a2:=D.rows;rw[Y]at a2
   have b4:w.ownsRow 0 E it.size (.slice R n X) v.length v.flatten:=by
    refine⟨cR a2.len,?_⟩;rcases D.ex with⟨A,e2⟩|⟨b,a7,a3,A,hm,t,h2,h3,h4⟩
    .simp only[Sl.mk.injEq]at A;obtain⟨rfl,rfl,rfl⟩:=A;exact .inl ⟨rfl,by rw[e2];rfl⟩
    .simp only[Sl.mk.injEq]at A;obtain⟨rfl,rfl,rfl⟩:=A;exact .inr ⟨b,_,a3,rfl,Nat.zero_le _,M.wrel.msat b _ hm,t,h2,by rw[<-Y];exact h3,by rw[<-Y];exact h4⟩
   have a8:∀b,Value.ownBlock (.slice R n X)=some b->σ.m b≠none:=by
    intro b p;rcases D.ex with⟨A,e2⟩|⟨b',a7,a3,A,hm,_⟩
    .simp only[Sl.mk.injEq]at A;obtain⟨rfl,rfl,rfl⟩:=A;simp[Value.ownBlock]at p
    .simp only[Sl.mk.injEq]at A;obtain⟨rfl,rfl,rfl⟩:=A;simp[Value.ownBlock]at p;subst p;rw[hm];simp
   obtain⟨L,U,V,J,r,G,H⟩:=vZ (P:=C.P) w T tx o.type E it zv hu hi hv a1 (.slice R n X) v.length v.flatten b4 (a.eval y) N.length N.flatten F (by unfold maxLen;omega) I;rw[<-flatten_append, <-length_append]at J
   obtain⟨W,n',a',rfl⟩:∃W n' a',L= .slice W n' a':=by
    rcases J.2 with⟨e,_⟩|⟨g,a7,a3,e,_⟩
    .exact⟨_,_,_,e⟩
    .exact⟨_,_,_,e⟩
   let m':MH:=λb=>if Value.ownBlock (.slice W n' a')=some b then U.heap[b]? else if Value.ownBlock (.slice R n X)=some b then none else σ.m b
   have b2:∀b,Value.ownBlock (.slice W n' a')=some b->m' b=U.heap[b]? :=λb p=>by simp only[m',if_pos p]
   obtain⟨c6,hk⟩:=avJ (m':=m') M r a8 (by
    intro b ob p;by_cases A:Value.ownBlock (.slice W n' a')=some b
    .rw[b2 b A]at p;refine⟨p,?_⟩;rcases G b A with t|t
     .exact .inr t
     .exact .inl (a8 b t)
    .by_cases e2:Value.ownBlock (.slice R n X)=some b
     .simp only[m',if_neg A,if_pos e2]at p;cases p
     .simp only[m',if_neg A,if_neg e2]at p;refine⟨?_,.inl (by rw[p];simp)⟩;have t:=M.wrel.msat b ob p;rw[r.block b (Array.getElem?_eq_some_iff.1 t).1 e2];exact t)
   unfold Oper.wp;rw[Z _ U (by rw[s];exact V),Oper.upon_value,hd];refine O ι _ _ _ (c6.put (some d) (x:=.at (.val (.slice W n' a'))) rfl) (h ⟨W,n',a'⟩ m' ⟨⟨?_,?_⟩,?_,?_⟩) (hk o (by rw[ho];rfl))
   .exact CF a2 hr
   .rcases J.2 with⟨A,e2⟩|⟨b,a7,a3,A,_,hh,t,h2,h3,h4⟩
    .simp only[Value.slice.injEq]at A;obtain⟨rfl,rfl,rfl⟩:=A;exact .inl ⟨rfl,eq_nil_of_length_eq_zero e2⟩
    .simp only[Value.slice.injEq]at A;obtain⟨rfl,rfl,rfl⟩:=A;exact .inr ⟨b,_,a3,rfl,by rw[b2 b rfl];exact hh,t,h2,h3,h4⟩
   .intro b ob p b5
    have e2:Value.ownBlock (.slice R n X)≠some b:=by
     intro e;rcases D.ex with⟨A,_⟩|⟨b',a7,a3,A,hm,_⟩
     .simp only[Sl.mk.injEq]at A;obtain⟨rfl,rfl,rfl⟩:=A;simp[Value.ownBlock]at e
     .simp only[Sl.mk.injEq]at A;obtain⟨rfl,rfl,rfl⟩:=A;simp[Value.ownBlock]at e;subst e;exact b5 0 rfl
    have A:Value.ownBlock (.slice W n' a')≠some b:=by
     intro e;rcases G b e with t|t
     .have:=(Array.getElem?_eq_some_iff.1 (M.wrel.msat b ob p)).1;omega
     .exact e2 t
    simp only[m',if_neg A,if_neg e2];exact p
   .intro b i e;have e:W=some ⟨b,i,none⟩:=e;rcases G b (by rw[e];rfl)with t|t
    .left;cases e2:σ.m b with
     |none=>rfl
     |some x=>have:=(Array.getElem?_eq_some_iff.1 (M.wrel.msat b x e2)).1;omega
    .right;rcases D.ex with⟨A,_⟩|⟨b',a7,a3,A,hm,_⟩
     .simp only[Sl.mk.injEq]at A;obtain⟨rfl,rfl,rfl⟩:=A;simp[Value.ownBlock]at t
     .simp only[Sl.mk.injEq]at A;obtain⟨rfl,rfl,rfl⟩:=A;simp[Value.ownBlock]at t;exact⟨0,by rw[t]⟩
  split at h
  .rename_i R n X c7 d3 S;have s:=M.ev x;rw[S]at s;have s:a.eval x= .slice R n X:=s;obtain⟨rfl,v,a0,D,h⟩:=h;obtain⟨N,hr,F,b5,I,b0,h⟩:=RH M h;rw[Y]at hr F h a0 D;rw[a5]at I;have hn:X=v.length:=D.len;subst hn
   have fin:∃L U,(Builtin.append_ #[T,tx] o.type #[.slice R v.length v.length,a.eval y]).run C.P w= .ok L U/\U.ownsRow 0 E it.size L (v.length+N.length) (v++N).flatten/\Dh (λ_=>False) w U/\
    (∀b,L.ownBlock=some b->w.heap.size<=b)/\L.oneCell'=true:=by
    cases R with
    |none=>
     have c8:v=[]:=by
      rcases D.row with e|⟨b,b6,e,_⟩
      .exact e
      .cases e
     subst c8;obtain⟨L,U,t,h2,h3,h4,h5⟩:=vZ (P:=C.P) w T tx o.type E it zv hu hi hv a1 (.slice none 0 0) 0 [] (World.ownsRow_nil w 0 E it.size) (a.eval y) N.length N.flatten F (by unfold maxLen;omega) (bo I);refine⟨L,U,t,bo h2,h3.mono (λb p=>by simp[Value.ownBlock]at p),λb p=>?_,h5⟩;rcases h4 b p with e|e
     .exact e
     .simp[Value.ownBlock]at e
    |some R=>
     have hy:0<N.length:=by
      rcases b5 with e|e
      .cases e
      .exact e
     have d4:=RI (P:=C.P) (w:=w) (tx:=T) hu a0 D M.wrel.hsat;have c2:v.length+N.length<=maxLen:=by unfold maxLen;omega
     have a9:(v.flatten++N.flatten).length=(v.length+N.length)*it.size:=by rw[length_append,cR a0.len,cR hr.len,Nat.add_mul]
     have c9:=grownCap_ge w (v.length+N.length) v.length E;have d':grownCap w (v.length+N.length) v.length E<=maxLen:=grownCap_le_maxLen w _ _ E c2
     have c3:(Builtin.firstCells it.size v.length (.slice (some R) v.length v.length)).run C.P w.drew= .ok v.flatten.toArray w.drew:=by
      rcases D.row with rfl|⟨b,b6,e,hc⟩
      .simp[Builtin.firstCells,loadCells,loadCellsFrom]
      .have e:some R=some ⟨b,b6,none⟩:=e;cases e;refine run_firstCells_some w.drew it.size v.length ⟨b,b6,none⟩ v.length v.length v.flatten (cR a0.len) λj u hj=>?_;obtain⟨i,e,q,t,h2,rfl⟩:=FE a0.len hj;rw[Addr.add_none];have:=M.wrel.hsat _ _ _ ((hc i e t).rd q u h2);rw[<-Nat.add_assoc];exact this
     have d0:=run_append_grow_src (P:=C.P) w T tx o.type E it zv hu hi hv (some R) v.length v.length v.flatten c3 (a.eval y) N.length N.flatten F aD (by unfold maxLen at c2;omega) (growslice_fits aD I);refine⟨_,_,d0,⟨?_,.inr ⟨w.heap.size,_,_,rfl,Nat.zero_le _,heap_alloc_new w.drew _,c9,d',?_,?_⟩⟩,⟨rfl,rfl,rfl,Nat.le_succ _,bj,λk hk _=>heap_alloc_old w.drew _ k hk⟩,λb p=>by simp[Value.ownBlock]at p;omega,rfl⟩
     .rw[flatten_append,a9]
     .simp only[Array.size_append,size_toArray,size_zeroCells,a1,a9, <-Nat.add_mul];congr 1;omega
     .simp only[Array.toList_append];rw[flatten_append, <-a9];exact take_left
   obtain⟨L,U,V,f,r,G,H⟩:=fin;rw[<-length_append]at f;unfold Oper.wp;rw[Z L U (by rw[s];exact V),Oper.upon_value,hd];refine O (upd ι d L) _ _ _ ?_ h ?_
   .refine aL.put ?_ (some d) (by show _=_;simp);exact M.place d _ L (r.mono (λb p=>p.elim)) ⟨CF a0 hr,f⟩ H (λb p=>.inl (G b (yF f p)))
   .exact Ey M d (λ_=>BR hd) (λb p _=>r.block b p (λt=>t.elim)) (λhg=>by rw[ho]at hg;simp[Aa]at hg) (λl e=>by simp_all [sK])
  .rename_i R n X c7 S;exact a6 R n X S h
  rename_i b7 c4;clear c4 b7;split at h
  .rename_i S;have s:=M.ev x;rw[S]at s;have s:a.eval x= .slice none 0 0:=s;split at h
   .rename_i n a4
    obtain⟨kn,kq,b8,b9⟩:∃kn kq,C.P.underlying tx=some (.int kn)/\σ.ev y= .at (.val (.int kq n)):=by
     unfold XY at a4;split at a4
     .rename_i kn b8;split at a4
      .rename_i kq n' b9;simp only[Option.some.injEq]at a4;subst a4;exact⟨kn,kq,b8,b9⟩
      .cases a4
     .cases a4
    have hy:=M.ev y;rw[b9]at hy;have hy:a.eval y= .int kq n:=hy;obtain⟨h0,I,b0,h⟩:=h;rw[Y]at h;rw[a5]at I;obtain⟨k,rfl⟩:∃k:Nat,n=k:=⟨n.toNat,aD⟩
    have c5:k*it.bytes<=140737488355328:=by rw[<-Int.natCast_mul]at I;omega
    obtain⟨L,U,V,f,r,G,H⟩:=J1 (P:=C.P) w T tx o.type E it zv kq kn hu b8 hi hv a1 aD k aD c5 aD;unfold Oper.wp;rw[Z L U (by rw[s,hy];exact V),Oper.upon_value,hd];refine O (upd ι d L) _ _ _ ?_ h ?_
    .refine aL.put ?_ (some d) (by show _=_;simp);refine M.place d _ L (r.mono (λb p=>p.elim)) ⟨?_,?_⟩ H (λb p=>.inl (G b (yF f p)))
     .exact pB (bo a1) c1 _
     .simpa using f
    .exact Ey M d (λ_=>BR hd) (λb p _=>r.block b p (λt=>t.elim)) (λhg=>by rw[ho]at hg;simp[Aa]at hg) (λl e=>by simp_all [sK])
   .obtain⟨N,hr,F,I,b0,h⟩:=RH M h;rw[Y]at hr F h;rw[a5]at I;obtain⟨L,U,V,f,r,G,H⟩:=vZ (P:=C.P) w T tx o.type E it zv hu hi hv a1 (.slice none 0 0) 0 [] (World.ownsRow_nil w 0 E it.size) (a.eval y) N.length N.flatten F (by unfold maxLen;omega) (bo I);simp only[Nat.zero_add,nil_append]at f;unfold Oper.wp;rw[Z L U (by rw[s];exact V),Oper.upon_value,hd];refine O (upd ι d L) _ _ _ ?_ h ?_
    .refine aL.put ?_ (some d) (by show _=_;simp);refine M.place d _ L (r.mono (λb p=>by simp[Value.ownBlock]at p)) ⟨hr,f⟩ H (λb p=>?_);rcases G b (yF f p)with t|t
     .exact .inl t
     .simp[Value.ownBlock]at t
    .exact Ey M d (λ_=>BR hd) (λb p _=>r.block b p (λt=>by simp[Value.ownBlock]at t)) (λhg=>by rw[ho]at hg;simp[Aa]at hg) (λl e=>by simp_all [sK])
  .rename_i k S;have s:=M.ev x;rw[S]at s;have s:a.eval x=ι k:=s;split at h
   .rename_i E' sz v f d1;split at h
    .rename_i c' b1;have c':=Nat.eq_of_beq_eq_true c';have b1:=Nat.eq_of_beq_eq_true b1;subst c';rw[Y]at b1;subst b1;obtain⟨N,hr,F,I,b0,h⟩:=RH M h;rw[a5]at I;obtain⟨a0,b4⟩:=rH M f;obtain⟨L,U,V,J,r,G,H⟩:=vZ (P:=C.P) w T tx o.type E' it zv hu hi hv a1 (ι k) v.length v.flatten b4 (a.eval y) N.length N.flatten F (by unfold maxLen;omega) I;rw[<-flatten_append, <-length_append]at J;unfold Oper.wp;rw[Z L U (by rw[s];exact V),Oper.upon_value,hd];refine O (upd ι k L) _ _ _ ?_ h ?_
     .refine aL.put ?_ (some d) (by show _=_;simp);refine M.place k _ L (r.mono (λb p=>⟨⟨_,f⟩,Dv p⟩)) ⟨CF a0 hr,J⟩ H (λb p=>?_);rcases G b (yF J p)with t|t
      .exact .inl t
      .exact .inr ⟨⟨_,f⟩,Dv t⟩
     .refine Ey M k (λ⟨p',T',d5,e⟩=>by rw[f]at e;cases e) (λb p hn=>r.block b p (λt=>hn ⟨⟨_,f⟩,Dv t⟩)) (λhg=>by rw[ho]at hg;simp[Aa]at hg) (λl e=>by simp_all [sK])
    .exact h.elim
   .exact h.elim
  .rename_i R n X _ S;exact a6 R n X S h
  .exact h.elim
 .exact h.elim
theorem aL.rewrite(d:aL B ι σ a w){k:Nat}{u i:Own}{w':World}(p:nth σ.own k=some (some u))(v:Dh (λb=>blk (ι k)=some b) w w')(A:Dj ι w' (ι k) i):
 aL B ι (σ.setOwn k (some i)) a w':=by
 have c:∀j m,nth (σ.setOwn k (some i)).own j=some (some m)->(j=k/\m=i)\/(j≠k/\nth σ.own j=some (some m)):=by
  intro j m f;simp only[St.setOwn,yG]at f;by_cases e:j=k
  .subst e;by_cases x:j<σ.own.length
   .simp[x]at f;exact .inl ⟨rfl,f.symm⟩
   .simp[x,jE]at f
  .simp only[e,false_and,if_false]at f;exact .inr ⟨e,f⟩
 refine⟨d.slots,d.defers,?_,?_,?_,?_,d.one⟩
 .intro j m f;rcases c j m f with⟨rfl,rfl⟩|⟨n,l⟩
  .exact A
  .have r:=d.own j m l;refine r.world (λb g=>v.block b (qR r g) (λh=>n (d.dist j k _ _ b l p g h)))
 .intro j D t E b f l g h;rcases c j t f with⟨rfl,rfl⟩|⟨n,s⟩<;>rcases c D E l with⟨rfl,rfl⟩|⟨y,z⟩
  .rfl
  .exact d.dist _ _ _ _ b p z g h
  .exact d.dist _ _ _ _ b s p g h
  .exact d.dist _ _ _ _ b s z g h
 .intro j t b f g;rcases c j t f with⟨rfl,rfl⟩|⟨n,s⟩
  .exact d.fresh _ _ b p g
  .exact d.fresh _ _ b s g
 .exact d.wrel.ext v (λb g=>d.fresh k u b p g)
theorem H0(e:∀k,(ι k).oneCell'=true):∀{cs:cr}{vs:bw},sL cs=true->iG ι cs vs->∀v∈vs,v.oneCell'=true
 |[],[],_,_,v,f=>by cases f
 |x::cs,u::vs,g,l,v,f=>by
  simp only[sL]at g;split at g
  .rename_i m;rcases mem_cons.1 f with rfl|f
   .have d:=l.1;cases x with
    |val p=>
     have:v=p:=d;subst this;cases v<;>first|rfl|(simp[At.storable]at m)
    |ptr k j=>obtain⟨b,_,rfl⟩:=d;rfl
    |lst k=>have:v=ι k:=d;rw[this];exact e k
    |el k i r j=>obtain⟨b,n,c,_,rfl⟩:=d;rfl
    |junk=>simp[At.storable]at m
   .exact H0 e g l.2 v f
  .cases g
 |[],_::_,_,h,_,_=>h.elim
 |_::_,[],_,h,_,_=>h.elim
theorem RN{P:Program}{T:TypeId}{w:World}{g off:Nat}{b:Array Value}{E:TypeId}{v:Value}(j:jB P T=true)(e:v.cells.size=P.cellsOf T)(l:w.heap[g]? =some (.cells b E (0,0)))
 (f:off+v.cells.size<=b.size)(m:∀u∈v.cells.toList,u.oneCell'=true):
 (storeVar T ⟨g,off,none⟩ v).run P w= .ok () (w.setRow g (splice b.toList off v.cells.toList).toArray):=by
 obtain⟨i,d,n,r,p,h⟩:=fY j;have c:=run_storeCells_at P g off E v.cells.toList 0 b w l (bo f) m;simp only[Nat.add_zero]at c;unfold storeVar;rw[p]at e;simp only[Sem.run_bind,run_sizeOf n,Result.andThen_ok];rw[if_neg aD];simp only[c,splice]
theorem E3(w:World)(g:Nat)(cs:Array Value):Dh (λb=>b=g) w (w.setRow g cs):=
 ⟨rfl,rfl,rfl,Nat.le_refl _,bj,λb _ c=>setRow_other w g b cs c⟩
theorem E5{cs:cr}{l vs:bw}(c:vK cs=some l)(b:iG ι cs vs):vs=l:=by
 rw[E6 c,iG.vals]at b;exact b
theorem flatten_set{sz:Nat}{l:bw}:∀{xs:List bw}{i:Nat}{e:bw}{off:Nat},(∀e∈xs,e.length=sz)->xs[i]? =some e->off+l.length<=e.length->
 splice xs.flatten (i*sz+off) l=(xs.set i (splice e off l)).flatten
 |[],i,e,off,_,b,_=>by simp at b
 |x::xs,0,e,off,d,b,c=>by
  simp at b;subst b;simp only[splice,Nat.zero_mul,Nat.zero_add,flatten_cons,set_cons_zero,append_assoc];rw[take_append_of_le_length aD,drop_append_of_le_length aD]
 |x::xs,i+1,e,off,d,b,c=>by
  simp only[getElem?_cons_succ]at b;have f:x.length=sz:=d x bj;have g:=flatten_set (λe h=>d e (by simp[h])) b c;rw[set_cons_succ,flatten_cons,flatten_cons, <-g];simp only[splice];have j:(i+1)*sz+off=x.length+(i*sz+off):=by rw[f,Nat.succ_mul];omega
  rw[j,take_length_add_append,show x.length+(i*sz+off)+l.length=x.length+(i*sz+off+l.length)by omega,drop_length_add_append];simp
theorem OX{sz:Nat}{xs:List bw}{i off:Nat}{e l:bw}(c:eW sz xs)(p:xs[i]? =some e)(f:off+l.length<=e.length)(r:∀u∈l,u.oneCell'=true):
 eW sz (xs.set i (splice e off l)):=by
 have b:e∈xs:=mem_of_getElem? p;constructor
 .intro g j;rcases mem_or_eq_of_mem_set j with h|h
  .exact c.len g h
  .rw[h,CE _ _ _ f];exact c.len e b
 .intro g j u d;rcases mem_or_eq_of_mem_set j with h|h
  .exact c.one g h u d
  .rw[h]at d;unfold splice at d;rcases mem_append.1 d with m|m
   .rcases mem_append.1 m with n|n
    .exact c.one e b u (mem_of_mem_take n)
    .exact r u n
   .exact c.one e b u (mem_of_mem_drop m)
theorem SZ(u l:bw)(p N:Nat)(h:p+l.length<=N)(i:N<=u.length):(splice u p l).take N=splice (u.take N) p l:=by
 apply ext_getElem?;intro j;simp only[splice,getElem?_take,getElem?_append,length_append,length_take,getElem?_drop];have e:min p u.length=p:=by omega
 have f:min N u.length=N:=by omega
 have g:min p N=p:=by omega
 simp only[e,f,g];by_cases b:j<N
 .by_cases c:j<p
  .simp[b,c,show j<p+l.length by omega]
  .by_cases d:j<p+l.length
   .simp[b,c,d]
   .simp[b,d,show p+l.length+(j-(p+l.length))<N by omega]
 .simp[b,show¬j<p+l.length by omega,show¬p+l.length+(j-(p+l.length))<N by omega]
theorem S8(z:aL B ι σ a w){T:Nat}{x v:Operand}(ho:o.op= .store T x v)(a0:o.dst=none)(h:RG C T x v σ K):SM B C ι o σ K a w:=by
 intro next Q J
 have F:=z.ev x;unfold RG at h;split at h
 .exact h.elim
 .rename_i new a1;split at h
  .rename_i X a8 hT;have X:=Nat.eq_of_beq_eq_true X;have hd:=Bh z.one (z.ev v) a1;have h1:=H0 z.one a8 hd;have b8:new.length=(a.eval v).cells.size:=by have:=hd.length;simpa using this
   have O:∀g j A E,a.eval x= .pointer (some ⟨g,j,none⟩)->w.heap[g]? =some (.cells A E (0,0))->j+(a.eval v).cells.size<=A.size->
    (execOp a.eval o).run C.P w= .ok .skip (w.setRow g (splice A.toList j (a.eval v).cells.toList).toArray):=by
    intro g j A E Y I G;unfold execOp;simp only[ho,Y,Instr.storeAt,Instr.sureAddr,Sem.run_bind,Sem.run_pure,Result.andThen_ok,RN hT aD I G h1]
   have R:a.put o.dst undef=a:=by rw[a0];rfl
   split at h
   .rename_i k j Y;rw[Y]at F;split at h
    .rename_i p E W D;split at h
     .rename_i G;have G:=Nat.le_of_ble_eq_true G;obtain⟨b,vs,N,hh,a2⟩:=vN z D;obtain⟨f,d,hp⟩:=F;rw[N]at d;simp only[Value.pointer.injEq,Option.some.injEq,Addr.mk.injEq]at d;obtain⟨rfl, -, -⟩:=d;have b9:W.length=vs.size:=by have:=a2.length;simpa using this
      unfold Oper.wp;rw[O b j vs E hp hh aD,Oper.upon_skip,R];have S:blk (ι k)=some b:=by rw[N];rfl
      have r:=E3 w b (splice vs.toList j (a.eval v).cells.toList).toArray;refine J ι _ _ _ (z.rewrite D (r.mono (λf d=>by rw[d];exact S)) ?_) h ?_
      .exact⟨b,_,N,setRow_heap w b vs _ E _ hh,bo (a2.splice j hd),λq e=>by subst e;have:=Yb z D;rw[N]at this;simpa using this⟩
      .refine Ey z k (λ_=>?_) (λf d hn=>r.block f d (λe=>hn ⟨⟨_,D⟩,by rw[e];exact S⟩)) (λI=>by rw[ho]at I;simp[Aa]at I) (λl e=>by simp_all [sK]);unfold yE;simp[ho,Y]
     .exact h.elim
    .exact h.elim
   .rename_i k i sz j Y;rw[Y]at F;split at h
    .rename_i E s xs l D hl;split at h
     .rename_i hs;have hs:=Nat.eq_of_beq_eq_true hs;subst hs;obtain⟨e,he,G,h⟩:=h;obtain⟨hr,a3⟩:=rH z D;obtain⟨b,n,c,N,hp⟩:=F;have L:(a.eval v).cells.toList=l:=E5 hl hd;rcases a3.2 with⟨hv,hn⟩|⟨g,c',A,hv,_,I,a4,a9,a5,Z⟩
      .rw[N]at hv;cases hv
      .rw[N]at hv;simp only[Value.slice.injEq,Option.some.injEq,Addr.mk.injEq]at hv;obtain⟨⟨rfl, -, -⟩,rfl,rfl⟩:=hv;have b0:i<xs.length:=(List.getElem?_eq_some_iff.1 he).1;have c0:e.length=s:=hr.len e (mem_of_getElem? he);have b1:(a.eval v).cells.size=l.length:=by rw[<-L];simp
       have b2:=cR hr.len
       have b3:i*s+j+l.length<=xs.length*s:=by
        have:(i+1)*s<=xs.length*s:=Nat.mul_le_mul_right _ b0;rw[Nat.succ_mul]at this;omega
       have b7:xs.length*s<=c*s:=Nat.mul_le_mul_right _ a4;unfold Oper.wp;rw[O b (i*s+j) A E hp I aD,Oper.upon_skip,R];have S:blk (ι k)=some b:=by rw[N];rfl
       have r:=E3 w b (splice A.toList (i*s+j) (a.eval v).cells.toList).toArray;have a6:∀u∈l,u.oneCell'=true:=by rw[<-L];exact h1
       refine J ι _ _ _ (z.rewrite D (r.mono (λf d=>by rw[d];exact S)) ?_) h ?_
       .have a7:=OX hr he G a6;refine⟨a7,cR a7.len,.inr ⟨b,c,_,by rw[N,length_set],Nat.zero_le _,setRow_heap w b A _ E _ I,by rw[length_set];exact a4,a9,?_,?_⟩⟩
        .simp only[size_toArray,L];rw[CE]
         .simpa using a5
         .simp;omega
        .rw[length_set];rw[<-flatten_set hr.len he G,L, <-Z];have c1:A.toList.length=c*s:=bo a5
         exact SZ A.toList l (i*s+j) (xs.length*s) b3 aD
       .refine Ey z k (λ⟨p',T',b4,e'⟩=>by rw[D]at e';cases e') (λf d b5=>r.block f d (λe'=>b5 ⟨⟨_,D⟩,by rw[e'];exact S⟩)) (λI=>by rw[ho]at I;simp[Aa]at I) (λl e=>by simp_all [sK])
     .exact h.elim
    .exact h.elim
   .rename_i b j Y;rw[Y]at F;have F:a.eval x= .pointer (some ⟨b,j,none⟩):=F;split at h
    .rename_i l hl;obtain⟨W,E,hm,G,h⟩:=h;have L:(a.eval v).cells.toList=l:=E5 hl hd;have b1:(a.eval v).cells.size=l.length:=by rw[<-L];simp
     have I:=z.wrel.msat b _ hm.at_
     let m':MH:=λf=>if f=b then some (.cells (splice W.toList j l).toArray E (0,0))else σ.m f
     unfold Oper.wp;rw[O b j W E F I aD,Oper.upon_skip,R,L];have r:=E3 w b (splice W.toList j l).toArray
     have a':∀k V,nth σ.own k=some (some V)->blk (ι k)≠some b:=by
      intro k V D hb;have:=(z.fresh k V b D hb).2.1;rw[hm.at_]at this;cases this
     refine J ι {σ with m:=m'} _ _ ?_ (h m' ⟨by simp[m'],λf d=>by simp[m',d]⟩) ?_
     .refine⟨z.slots,z.defers,?_,z.dist,?_,?_,z.one⟩
      .intro k V D;exact(z.own k V D).world (λf d=>r.block f (qR (z.own k V D) d) (λe=>a' k V D (e▸d)))
      .intro k V f D d;obtain⟨f1,f2,f3⟩:=z.fresh k V f D d;refine⟨f1,?_,f3⟩;have M:f≠b:=λe=>a' k V D (e▸d);simp[m',M,f2]
      .have H:=z.wrel;refine⟨H.tape,H.os,H.output,H.drawn,Nat.le_trans H.size r.size,?_,?_,?_,?_,H.hle,H.hold,?_⟩
       .intro f d hE
        have M:f≠b:=λe=>by
         subst e;rcases H.mfr f _ hm.at_ with U|U
         .omega
         .exact hE U
        rw[r.block f (Nat.lt_of_lt_of_le d H.size) M];exact H.frame f d hE
       .intro f y u hu;have M:f≠b:=λe=>by subst e;rw[H.disj f _ hm.at_ y]at hu;cases hu
        have U:=H.hsat f y u hu;rw[<-U];exact World.cell?_of_block (w:=w) (a:=⟨f,y,none⟩) (r.block f (World.block_lt_of_cell? w ⟨f,y,none⟩ U) M)
       .intro f ob d;have t:(if f=b then some (Obj.cells (splice W.toList j l).toArray E (0,0))else σ.m f)=some ob:=d;by_cases e:f=b
        .subst e;rw[if_pos rfl]at t;rw[setRow_heap w f W _ E _ I];exact t
        .rw[if_neg e]at t;have U:=H.msat f ob t;rw[r.block f (Array.getElem?_eq_some_iff.1 U).1 e];exact U
       .intro f ob d i;have t:(if f=b then some (Obj.cells (splice W.toList j l).toArray E (0,0))else σ.m f)=some ob:=d;by_cases e:f=b
        .subst e;exact H.disj f _ hm.at_ i
        .rw[if_neg e]at t;exact H.disj f _ t i
       .intro f ob d;have t:(if f=b then some (Obj.cells (splice W.toList j l).toArray E (0,0))else σ.m f)=some ob:=d;by_cases e:f=b
        .subst e;exact H.mfr f _ hm.at_
        .rw[if_neg e]at t;exact H.mfr f _ t
     .constructor
      .intro k p' T' b4 f D ht N;exact r.block f (qR (z.own k _ D) (by rw[N];rfl)) (λe=>a' k _ D (by rw[N, <-e];rfl))
      .intro f y u hu;have M:f≠b:=λe=>by subst e;rw[z.wrel.disj f _ hm.at_ y]at hu;cases hu
       have U:=z.wrel.hsat f y u hu;rw[<-U];exact World.cell?_of_block (w:=w) (a:=⟨f,y,none⟩) (r.block f (World.block_lt_of_cell? w ⟨f,y,none⟩ U) M)
      .intro I;rw[ho]at I;simp[Aa]at I
      .intro l' f b6;simp[sK,ho]at b6
    .exact h.elim
   .exact h.elim
  .exact h.elim
end
end Go.Vc
namespace Go.Vc
open Go List
section
variable{B:sP}{C:Ctx}{ι:cj}{σ:St}{a:Act}{w:World}{o:Oper}{K:St->Prop}
theorem kW(d:aL B ι σ a w):HR σ ι o w w:=
 ⟨λ_ _ _ _ _ _ _ _=>rfl,λb c v e=>d.wrel.hsat b c v e,λ_ _ _=>rfl,λ_ _ _ _ _ _=>rfl⟩
theorem Tf(r:aL B ι σ a w){T:Nat}{x:Operand}{lo hi mx:Option Operand}(M:o.op= .slice T x lo hi mx)(h:RJ C o T x lo hi mx σ K):SM B C ι o σ K a w:=by
 intro next Q l
 have d:=r.ev x;unfold RJ at h;split at h
 .rename_i k n D;rw[D]at d;have d:a.eval x=ι k:=d;have c:=r.ev n;split at h
  .rename_i E N v F i E' U G z;rw[G]at c;have c:a.eval n= .int F i:=c;split at h
   case h_2=>exact h.elim
   rename_i t;obtain⟨H,J,h⟩:=h;obtain⟨hr,O⟩:=rH r U;have I:eW N (v.take i.toNat):=⟨λe he=>hr.len e (mem_of_mem_take he),λe he=>hr.one e (mem_of_mem_take he)⟩
   have y:(v.take i.toNat).length=i.toNat:=by rw[length_take];omega
   obtain⟨V,_,p,_⟩:=fY t;rcases O.2 with⟨W,a7⟩|⟨g,m,a',W,a8,hg,a9,a0,a1,L⟩
   .have a2:i=0:=by omega
    subst a2
    have f:(execOp a.eval o).run C.P w= .ok (.value (.slice none 0 0)) w:=by
     unfold execOp;simp[M,d,W,c,Instr.sliceAt,run_underlying z,Instr.slice,Instr.sliceBounds,Instr.sliceBound,asIntOf,run_sizeOf p]
    unfold Oper.wp;rw[f,Oper.upon_value];refine l (upd ι k (.slice none 0 0)) _ _ _ ?_ h (kW r);refine aL.put ?_ o.dst (by show _=_;simp);refine r.place k _ _ (Dh.refl _ _) ⟨I,?_⟩ rfl (λb hb=>by simp[blk]at hb);simp only[Int.toNat_zero,take_zero,flatten_nil,length_nil];exact World.ownsRow_nil w 0 E N
   .have f:(execOp a.eval o).run C.P w= .ok (.value (.slice (some ⟨g,0,none⟩) i.toNat m)) w:=by
     have a3:i<=(m:Int):=by omega
     unfold execOp;simp[M,d,W,c,Instr.sliceAt,run_underlying z,Instr.slice,Instr.sliceBounds,Instr.sliceBound,asIntOf,run_sizeOf p,H,a3,Addr.add_none]
    unfold Oper.wp;rw[f,Oper.upon_value];refine l (upd ι k (.slice (some ⟨g,0,none⟩) i.toNat m)) _ _ _ ?_ h (kW r);refine aL.put ?_ o.dst (by show _=_;simp);refine r.place k _ _ (Dh.refl _ _) ⟨I,cR I.len,.inr ⟨g,m,a',by rw[y],Nat.zero_le _,hg,aD,a0,a1,?_⟩⟩ rfl (λb hb=>.inr ⟨⟨_,U⟩,by rw[W];exact hb⟩);rw[y]
    have R:(v.take i.toNat).flatten=v.flatten.take (i.toNat*N):=by
     have:v=v.take i.toNat++v.drop i.toNat:=(take_append_drop _ _).symm;rw[show v.flatten=(v.take i.toNat).flatten++(v.drop i.toNat).flatten by rw[<-flatten_append,take_append_drop]];rw[take_left'];rw[cR I.len,y]
    rw[R, <-L,take_take];congr 1;have:i.toNat*N<=v.length*N:=Nat.mul_le_mul_right _ aD;omega
  .exact h.elim
 .rename_i A len m n D;rw[D]at d;have d:a.eval x= .slice A len m:=d;have c:=r.ev n;split at h
  .rename_i F i E' G z;rw[G]at c;have c:a.eval n= .int F i:=c;split at h
   case h_2=>exact h.elim
   rename_i t;obtain⟨H,J,h⟩:=h;obtain⟨V,_,p,_⟩:=fY t
   have f:(execOp a.eval o).run C.P w= .ok (.value (.slice A i.toNat m)) w:=by
    unfold execOp;simp[M,d,c,Instr.sliceAt,run_underlying z,Instr.slice,Instr.sliceBounds,Instr.sliceBound,asIntOf,run_sizeOf p,H,J];cases A<;>simp[Addr.add]
   unfold Oper.wp;rw[f,Oper.upon_value];exact l ι _ _ _ (r.put o.dst (x:=.at (.val _)) rfl) h (kW r)
  .exact h.elim
 .rename_i A len m n k D;rw[D]at d;have d:a.eval x= .slice A len m:=d;have c:=r.ev n;have u:=r.ev k;split at h
  .rename_i F i kj j E' G U z;rw[G]at c;rw[U]at u;have c:a.eval n= .int F i:=c;have u:a.eval k= .int kj j:=u;split at h
   case h_2=>exact h.elim
   rename_i t;obtain⟨H,J,h2,h⟩:=h;obtain⟨V,_,p,_⟩:=fY t
   have f:(execOp a.eval o).run C.P w= .ok (.value (.slice A i.toNat j.toNat)) w:=by
    have X:0<=j:=by omega
    have Y:max j 0=j:=by omega
    unfold execOp;simp[Y,M,d,c,u,Instr.sliceAt,run_underlying z,Instr.slice,Instr.sliceBounds,Instr.sliceBound,asIntOf,run_sizeOf p,H,J,h2,X];cases A<;>simp[Addr.add]
   unfold Oper.wp;rw[f,Oper.upon_value];exact l ι _ _ _ (r.put o.dst (x:=.at (.val _)) rfl) h (kW r)
  .exact h.elim
 .rename_i A len m n D;rw[D]at d;have d:a.eval x= .slice A len m:=d;have c:=r.ev n;split at h
  .rename_i F i E' G z;rw[G]at c;have c:a.eval n= .int F i:=c;split at h
   case h_2=>exact h.elim
   rename_i t;obtain⟨H,J,hc,h⟩:=h;obtain⟨V,_,p,b',a4,a6⟩:=fY t;have a5:=run_sizeOf p;obtain⟨s,Z⟩:∃s:Sl,bvZ (C.P.cellsOf E') ⟨A,len,m⟩ i.toNat s:=⟨⟨_,_,_⟩,rfl,rfl,rfl⟩
   have f:(execOp a.eval o).run C.P w= .ok (.value (.slice s.a s.len s.cap)) w:=by
    have X:=Z.a_;have Y:=Z.len;have h5:=Z.cap;dsimp only at X Y h5;unfold execOp;simp[M,d,c,Instr.sliceAt,run_underlying z,Instr.slice,Instr.sliceBounds,Instr.sliceBound,asIntOf,a5,H,J,X,Y,h5,a4]
   unfold Oper.wp;rw[f,Oper.upon_value];exact l ι _ _ _ (r.put o.dst (x:=.at (.val _)) rfl) (h s Z) (kW r)
  .exact h.elim
 .rename_i b S n D;rw[D]at d;have d:a.eval x= .pointer (some ⟨b,S,none⟩):=d;have c:=r.ev n;split at h
  .rename_i F i len E' G z;rw[G]at c;have c:a.eval n= .int F i:=c;split at h
   case h_2=>exact h.elim
   rename_i t;obtain⟨H,J,h⟩:=h;obtain⟨V,_,p,_⟩:=fY t
   have f:(execOp a.eval o).run C.P w= .ok (.value (.slice (some ⟨b,S,none⟩) i.toNat len)) w:=by
    unfold execOp;simp[M,d,c,Instr.sliceAt,run_underlying z,Instr.sliceBounds,Instr.sliceBound,asIntOf,run_sizeOf p,H,J,Instr.sureAddr,asAddr,Addr.add]
   unfold Oper.wp;rw[f,Oper.upon_value];exact l ι _ _ _ (r.put o.dst (x:=.at (.val _)) rfl) h (kW r)
  .exact h.elim
 .exact h.elim
structure Ld(ι:cj)(σ σ':St)(ks:cu):Prop where
 cells:∀k p T cs,nth σ.own k=some (some (.cellsP p T cs))->k∉ks->∃cs',nth σ'.own k=some (some (.cellsP p T cs'))
 imm:σ'.h=σ.h
 lst:∀x k,σ'.ev x= .at (.lst k)->σ.ev x= .at (.lst k)
 m_:∀b,σ.m b=none->σ'.m b≠none->∃k∈ks,blk (ι k)=some b
theorem Oq{σ:St}{k:Nat}{f:At->At}{m:MH}{h:PH}{own:dc}(d:∀x j,f x≠ .lst j){x:Operand}{j:Nat}(c:St.ev {sl:=σ.sl.map (SV.sub k f),own:=own,m:=m,h:=h} x= .at (.lst j)):σ.ev x= .at (.lst j):=by
 rcases Xt σ k f m h own x with b|⟨v,b⟩
 .exact X2 d (b▸c)
 .rcases b with rfl|⟨g,rfl⟩|⟨g,rfl⟩<;>exact c
theorem bMZ(u:aL B ι σ a w){k T:Nat}{p:Option Nat}{cs:cr}{l:bw}(F:nth σ.own k=some (some (.cellsP p T cs)))(N:vK cs=some l):
 ∃(b:Nat)(m':MH),fC σ.m σ.h b/\iV σ.m m' b (.cells l.toArray T (0,0))/\
  aL B ι {(σ.sub k (λ |.ptr _ o=>.val (.pointer (some ⟨b,o,none⟩))|_=>.junk)).setOwn k none with m:=m'} a w/\
  Ld ι σ {(σ.sub k (λ |.ptr _ o=>.val (.pointer (some ⟨b,o,none⟩))|_=>.junk)).setOwn k none with m:=m'} [k]:=by
 obtain⟨b,O,L,P,G⟩:=vN u F;have H:O.toList=l:=E5 N G;have s:blk (ι k)=some b:=by rw[L];rfl
 obtain⟨Q,R,M⟩:=u.fresh k _ b F s
 let m':MH:=λf=>if f=b then some (.cells l.toArray T (0,0))else σ.m f
 have g:aL B ι ((σ.sub k (λ |.ptr _ o=>.val (.pointer (some ⟨b,o,none⟩))|_=>.junk)).setOwn k none) a w:=by
  have:=u.drop k (ι k) (u.one k) (λ |.ptr _ o=>.val (.pointer (some ⟨b,o,none⟩))|_=>.junk) (by
   intro x v D G;cases x<;>simp only[At.key,Option.some.injEq,reduceCtorEq]at D
   case lst=>trivial
   case el=>trivial
   case ptr j off=>
    subst D;obtain⟨f,d,S⟩:=G;rw[L]at d;simp only[Value.pointer.injEq,Option.some.injEq,Addr.mk.injEq]at d;obtain⟨rfl, -, -⟩:=d;exact S)
  rwa [HV]at this
 have t:∀j z,nth ((σ.sub k (λ |.ptr _ o=>.val (.pointer (some ⟨b,o,none⟩))|_=>.junk)).setOwn k none).own j=some (some z)->blk (ι j)≠some b:=by
  intro j z y U;obtain⟨t,Z,I,_⟩:=pT y;exact t (u.dist j k _ _ b I F U s)
 refine⟨b,m',⟨R,M⟩,⟨by simp[m'],λf d=>by simp[m',d]⟩,⟨g.slots,g.defers,g.own,g.dist,?_,?_,g.one⟩,?_⟩
 .intro j z f y d;obtain⟨V,W,X⟩:=g.fresh j z f y d;refine⟨V,?_,X⟩;have:f≠b:=λe=>t j z y (e▸d);show(if f=b then _ else σ.m f)=none;rw[if_neg this];exact W
 .have n:=u.wrel;refine⟨n.tape,n.os,n.output,n.drawn,n.size,n.frame,n.hsat,?_,?_,n.hle,n.hold,?_⟩
  .intro f r d;have c:(if f=b then some (Obj.cells l.toArray T (0,0))else σ.m f)=some r:=d;by_cases e:f=b
   .subst e;rw[if_pos rfl]at c;rw[P, <-c];congr 2;apply Array.toList_inj.1;simpa using H
   .rw[if_neg e]at c;exact n.msat f r c
  .intro f r d i;have c:(if f=b then some (Obj.cells l.toArray T (0,0))else σ.m f)=some r:=d;by_cases e:f=b
   .subst e;exact M i
   .rw[if_neg e]at c;exact n.disj f r c i
  .intro f r d;have c:(if f=b then some (Obj.cells l.toArray T (0,0))else σ.m f)=some r:=d;by_cases e:f=b
   .subst e;exact Q
   .rw[if_neg e]at c;exact n.mfr f r c
 .refine⟨?_,rfl,λx j D=>Oq (λx j=>by cases x<;>simp) D,λf Y E=>⟨k,bj,?_⟩⟩
  case refine_2=>
   have E:(if f=b then some (Obj.cells l.toArray T (0,0))else σ.m f)≠none:=E;by_cases e:f=b
   .rw[e];exact s
   .rw[if_neg e]at E;exact(E Y).elim
  intro j p' T' J y A;simp only[mem_singleton]at A;refine⟨J.map (At.sub k (λ |.ptr _ o=>.val (.pointer (some ⟨b,o,none⟩))|_=>.junk)),?_⟩
  .simp only[St.setOwn,St.sub,yG,B3,A,false_and,if_false,y];rfl
theorem bMJ{σ τ υ:St}{k:Nat}{ks:cu}(h:Ld ι σ τ [k])(f:Ld ι τ υ ks){b:Nat}(g:σ.m b=none)(i:υ.m b≠none):∃j∈k::ks,blk (ι j)=some b:=by
 cases e:τ.m b with
 |none=>
  obtain⟨j,c,d⟩:=f.m_ b e i;exact⟨j,mem_cons_of_mem _ c,d⟩
 |some o=>
  obtain⟨j,c,d⟩:=h.m_ b g (by rw[e];simp);exact⟨j,by simp at c;simp[c],d⟩
theorem xU:∀(ks:cu)(σ:St),aL B ι σ a w->Ft σ K ks->∃e,aL B ι e a w/\K e/\Ld ι σ e ks
 |[],σ,g,h=>⟨σ,g,h,⟨λ_ _ _ z h _=>⟨z,h⟩,rfl,λ_ _ h=>h,λ_ i m=>(m i).elim⟩⟩
 |k::ks,σ,g,h=>by
  simp only[Ft]at h;split at h
  .rename_i p T z D;split at h
   .rename_i l E;obtain⟨b,F,n,r,s,d⟩:=bMZ g D E;obtain⟨e,t,G,c⟩:=xU ks _ s (h b F n r);refine⟨e,t,G,⟨λj A T' u H v=>?_,c.imm.trans d.imm,λx j I=>d.lst x j (c.lst x j I),λb i m=>bMJ d c i m⟩⟩;simp only[mem_cons,not_or]at v;obtain⟨f,y⟩:=d.cells j A T' u H (bo v.1);exact c.cells j A T' f y v.2
   .exact h.elim
  .exact h.elim
theorem awX(I:aL B ι σ a w){k E sz:Nat}{xs:List bw}(R:nth σ.own k=some (some (.lst E sz xs))):
 ∃(s:Sl)(m':MH),pM σ.m m' σ.h s E sz xs/\aL B ι {(σ.sub k (λ |.lst _=>.val s.val|_=>.junk)).setOwn k none with m:=m'} a w/\
  Ld ι σ {(σ.sub k (λ |.lst _=>.val s.val|_=>.junk)).setOwn k none with m:=m'} [k]:=by
 obtain⟨hr,u⟩:=rH I R
 obtain⟨s,S⟩:∃s:Sl,ι k=s.val:=by
  rcases u.2 with⟨p,_⟩|⟨g,r,l,p,_⟩
  .exact⟨⟨none,0,0⟩,p⟩
  .exact⟨⟨some ⟨g,0,none⟩,xs.length,r⟩,p⟩
 have n:aL B ι ((σ.sub k (λ |.lst _=>.val s.val|_=>.junk)).setOwn k none) a w:=by
  have:=I.drop k (ι k) (I.one k) (λ |.lst _=>.val s.val|_=>.junk) (by
   intro x v Q T;cases x<;>simp only[At.key,Option.some.injEq,reduceCtorEq]at Q
   case ptr=>trivial
   case el=>trivial
   case lst j=>
    subst Q;have T:v=ι j:=T;show v=s.val;rw[T,S])
  rwa [HV]at this
 have L:∀m':MH,(∀b,σ.m b=none->m' b≠none->blk (ι k)=some b)->Ld ι σ {(σ.sub k (λ |.lst _=>.val s.val|_=>.junk)).setOwn k none with m:=m'} [k]:=by
  intro m' U;refine⟨?_,rfl,λx j Q=>Oq (λx j=>by cases x<;>simp) Q,λd M A=>⟨k,bj,U d M A⟩⟩;intro j p' T' V J N;simp only[mem_singleton]at N;refine⟨V.map (At.sub k (λ |.lst _=>.val s.val|_=>.junk)),?_⟩;simp only[St.setOwn,St.sub,yG,B3,N,false_and,if_false,J];rfl
 rcases u.2 with⟨p,W⟩|⟨g,r,l,p,a0,hg,X,Y,Z,F⟩
 .have G:s=⟨none,0,0⟩:=by
   rw[S]at p;obtain⟨x,y,z⟩:=s;simp only[Sl.val,Value.slice.injEq]at p;obtain⟨rfl,rfl,rfl⟩:=p;rfl
  subst G;exact⟨⟨none,0,0⟩,σ.m,⟨⟨hr,.inl ⟨rfl,eq_nil_of_length_eq_zero W⟩⟩,λ_ _=>rfl,λb i e=>by cases e⟩,n,L σ.m (λb M A=>(A M).elim)⟩
 .have O:blk (ι k)=some g:=by rw[p];rfl
  obtain⟨f1,f2,f3⟩:=I.fresh k _ g R O
  have G:s=⟨some ⟨g,0,none⟩,xs.length,r⟩:=by
   rw[S]at p;obtain⟨x,y,z⟩:=s;simp only[Sl.val,Value.slice.injEq]at p;obtain⟨rfl,rfl,rfl⟩:=p;rfl
  subst G
  let m':MH:=λd=>if d=g then some (.cells l E (0,0))else σ.m d
  have H:∀j P,nth ((σ.sub k (λ |.lst _=>.val (Sl.mk (some ⟨g,0,none⟩) xs.length r).val|_=>.junk)).setOwn k none).own j=some (some P)->blk (ι j)≠some g:=by
   intro j P J hb;obtain⟨H,o1,a',_⟩:=pT J;exact H (I.dist j k _ _ g a' R hb O)
  refine⟨⟨some ⟨g,0,none⟩,xs.length,r⟩,m',⟨⟨hr,.inr ⟨g,r,l,rfl,by simp[m'],X,Y,Z,F⟩⟩,λd f=>?_,λb i e=>?_⟩,⟨n.slots,n.defers,n.own,n.dist,?_,?_,n.one⟩,L m' (λb M A=>?_)⟩
  .have:d≠g:=λe=>f 0 (by rw[e]);simp[m',this]
  .simp only[Option.some.injEq,Addr.mk.injEq]at e;obtain⟨rfl,_,_⟩:=e;exact⟨f2,f3⟩
  .intro j P d J f;obtain⟨g1,g2,g3⟩:=n.fresh j P d J f;refine⟨g1,?_,g3⟩;have:d≠g:=λe=>H j P J (e▸f);show(if d=g then _ else σ.m d)=none;rw[if_neg this];exact g2
  .have t:=I.wrel;refine⟨t.tape,t.os,t.output,t.drawn,t.size,t.frame,t.hsat,?_,?_,t.hle,t.hold,?_⟩
   .intro d D f;have c:(if d=g then some (Obj.cells l E (0,0))else σ.m d)=some D:=f;by_cases e:d=g
    .subst e;rw[if_pos rfl]at c;rw[hg, <-c]
    .rw[if_neg e]at c;exact t.msat d D c
   .intro d D f i;have c:(if d=g then some (Obj.cells l E (0,0))else σ.m d)=some D:=f;by_cases e:d=g
    .subst e;exact f3 i
    .rw[if_neg e]at c;exact t.disj d D c i
   .intro d D f;have c:(if d=g then some (Obj.cells l E (0,0))else σ.m d)=some D:=f;by_cases e:d=g
    .subst e;exact f1
    .rw[if_neg e]at c;exact t.mfr d D c
  .have A:(if b=g then some (Obj.cells l E (0,0))else σ.m b)≠none:=A;by_cases e:b=g
   .rw[e,p];rfl
   .rw[if_neg e]at A;exact(A M).elim
theorem CQ:∀(ks:cu)(σ:St),aL B ι σ a w->C6 σ K ks->∃e,aL B ι e a w/\K e/\Ld ι σ e ks
 |[],σ,i,h=>⟨σ,i,h,⟨λ_ _ _ y h _=>⟨y,h⟩,rfl,λ_ _ h=>h,λ_ l m=>(m l).elim⟩⟩
 |k::ks,σ,i,h=>by
  simp only[C6]at h;split at h
  .rename_i E H I z;obtain⟨s,A,f,n,d⟩:=awX i z;obtain⟨e,p,D,c⟩:=CQ ks _ n (h s A f);refine⟨e,p,D,⟨λj v T' r F t=>?_,c.imm.trans d.imm,λx j G=>d.lst x j (c.lst x j G),λb l m=>bMJ d c l m⟩⟩;simp only[mem_cons,not_or]at t;obtain⟨g,u⟩:=d.cells j v T' r F (bo t.1);exact c.cells j v T' g u t.2
  .exact h.elim
end
end Go.Vc
namespace Go.Vc
open Go List
def FW(w:World):CV->Value->Prop
 |.val v,u=>u=v
 |.lst E c b,u=>eW c b/\w.ownsRow 0 E c u b.length b.flatten
 |.tup e,u=>∃d:Array Value,u= .tuple d/\e=d.toList.map .val
def iC:CV->Value->Option Nat
 |.lst _ _ _,u=>blk u
 |_,_=>none
def CY(w:World):ct->bw->Prop
 |[],[]=>True
 |c::cs,v::vs=>FW w c v/\CY w cs vs
 |_,_=>False
def xG(m:MH)(d:ct)(vs:bw)(b:Nat):Prop:=m b≠none\/∃(i:Nat)(c:CV)(u:Value),d[i]? =some c/\vs[i]? =some u/\iC c u=some b
structure Bd(w:World)(m:MH)(h:PH)(cvs:ct)(vs:bw):Prop where
 args:CY w cvs vs
 hsat:∀b o v,h b o=some v->w.cell? ⟨b,o,none⟩=some v
 msat:∀b o,m b=some o->w.heap[b]? =some o
 disj:∀b o,m b=some o->∀i,h b i=none
 sep:∀(i j:Nat)(c d:CV)(u v:Value)(b:Nat),cvs[i]? =some c->vs[i]? =some u->cvs[j]? =some d->vs[j]? =some v->iC c u=some b->iC d v=some b->i=j
 free:∀(i:Nat)(c:CV)(u:Value)(b:Nat),cvs[i]? =some c->vs[i]? =some u->iC c u=some b->m b=none/\∀o,h b o=none
def Sound(P:Program)(f:FuncId)(S:Spec):Prop:=
 (∃g,P.funcs[f]? =some g/\g.body.isSome=true/\(g.name== "runtime.NumGoroutine")=false)/\
 ∀c d m h w K,S c m h K->Bd w m h c d->
  Calls P f d.toArray w λe n=>∃r u j l,e= .returned u/\K r j l/\FW n r u/\Ai ⟨w,xG m c d,h,[]⟩ j l n/\
   (∀b,iC r u=some b->(w.heap.size<=b\/xG m c d b)/\j b=none/\∀i,l b i=none)
section
variable{B:sP}{C:Ctx}{ι:cj}{σ:St}{a:Act}{w:World}{o:Oper}{K:St->Prop}
theorem Ho(sz:Nat):eW sz []:=⟨(λe b=>by cases b),(λe b=>by cases b)⟩
theorem EP(y:aL B ι σ a w){mv:cu}:∀(i:Nat)(l:cw)(ts:di)(f:ct),rA C.P σ mv i l ts=some f->
 CY w f (l.map a.eval)/\∀(j:Nat)(c:CV)(u:Value)(b:Nat),f[j]? =some c->(l.map a.eval)[j]? =some u->iC c u=some b->
  ∃x k m,l[j]? =some x/\mv.contains (i+j)=true/\σ.ev x= .at (.lst k)/\nth σ.own k=some (some m)/\u=ι k
 |i,[],ts,f,h=>by
  simp[rA]at h;subst h;exact⟨trivial,λj c u b t=>by simp at t⟩
 |i,x::r,ts,f,h=>by
  simp only[rA]at h;split at h
  .cases h
  .rename_i n p;obtain⟨s,F⟩:=EP y (i+1) r ts.tail n p
   have d:∀(G:CV),(∀(u:Value)(b:Nat),(a.eval x)=u->iC G u=some b->∃k m,mv.contains i=true/\σ.ev x= .at (.lst k)/\nth σ.own k=some (some m)/\u=ι k)->
    ∀(j:Nat)(c:CV)(u:Value)(b:Nat),(G::n)[j]? =some c->((x::r).map a.eval)[j]? =some u->iC c u=some b->
     ∃A k m,(x::r)[j]? =some A/\mv.contains (i+j)=true/\σ.ev A= .at (.lst k)/\nth σ.own k=some (some m)/\u=ι k:=by
    intro G N j c u b t g v;cases j with
    |zero=>
     simp at t g;subst t;obtain⟨k,m,H,I,J,O⟩:=N u b g v;exact⟨x,k,m,rfl,bo H,I,J,O⟩
    |succ j=>
     simp only[getElem?_cons_succ,map_cons]at t g⊢
     obtain⟨A,k,m,H,I,J⟩:=F j c u b t g v;exact⟨A,k,m,H,by rw[show i+(j+1)=i+1+j by omega];exact I,J⟩
   split at h
   .rename_i L;split at h
    .rename_i k D;have e:=y.ev x;rw[D]at e;have e:a.eval x=ι k:=e;split at h
     .rename_i E S T M;simp only[Option.some.injEq]at h;subst h;obtain⟨Q,R⟩:=rH y M;refine⟨⟨⟨Q,by rw[e];exact R⟩,s⟩,d _ (λu b g _=>⟨k,_,L,D,M,by rw[<-g,e]⟩)⟩
     .cases h
    .rename_i D;have e:=y.ev x;rw[D]at e;have e:a.eval x= .slice none 0 0:=e;split at h
     .rename_i E z U;simp only[Option.some.injEq]at h;subst h;refine⟨⟨⟨Ho _,by rw[e];exact World.ownsRow_nil w 0 E _⟩,s⟩,d _ (λu b g v=>?_)⟩;rw[e]at g;subst g;simp[iC,blk]at v
     .cases h
    .cases h
   .split at h
    .rename_i u g;simp only[Option.some.injEq]at h;subst h;exact⟨⟨y.rho g,s⟩,d _ (λu b _ v=>by simp[iC]at v)⟩
    .cases h
theorem CP{mv:cu}:∀(i:Nat)(l:cw)(j:Nat)(x:Operand)(k:Nat),l[j]? =some x->mv.contains (i+j)=true->σ.ev x= .at (.lst k)->k∈jL σ mv i l
 |i,[],j,x,k,h,_,_=>by simp at h
 |i,y::r,0,x,k,h,b,c=>by
  simp at h;subst h;simp only[Nat.add_zero]at b;simp only[jL,b,c];exact mem_cons_self
 |i,y::r,j+1,x,k,h,b,c=>by
  simp only[getElem?_cons_succ]at h;have:=CP (i+1) r j x k h (by rw[show i+1+j=i+(j+1)by omega];exact b) c;simp only[jL];split
  .exact mem_cons_of_mem _ this
  .exact this
theorem Hc{mv:cu}:∀(i:Nat)(l:cw),J9 (jL σ mv i l)=true->∀(j c:Nat)(x f:Operand)(k:Nat),l[j]? =some x->l[c]? =some f->
 mv.contains (i+j)=true->mv.contains (i+c)=true->σ.ev x= .at (.lst k)->σ.ev f= .at (.lst k)->j=c
 |i,[],_,j,_,_,_,_,h,_,_,_,_,_=>by simp at h
 |i,y::r,b,j,c,x,f,k,h,g,p,d,s,e=>by
  have key:∀j x,r[j]? =some x->mv.contains (i+(j+1))=true->σ.ev x= .at (.lst k)->∀t,y=t->mv.contains i=true->σ.ev t= .at (.lst k)->False:=by
   intro j x D u v t E z A;subst E;simp only[jL,z,A]at b;have m:=CP (σ:=σ) (mv:=mv) (i+1) r j x k D (by rw[show i+1+j=i+(j+1)by omega];exact u) v;simp only[J9]at b;rw[contains_eq_mem]at b;simp[m]at b
  have n:J9 (jL σ mv (i+1) r)=true:=by
   simp only[jL]at b;split at b
   .simp only[J9]at b;split at b
    .cases b
    .exact b
   .exact b
  cases j with
  |zero=>
   cases c with
   |zero=>rfl
   |succ c=>
    simp at h;simp only[getElem?_cons_succ]at g;exact(key c f g d e x h (bo p) s).elim
  |succ j=>
   cases c with
   |zero=>
    simp at g;simp only[getElem?_cons_succ]at h;exact(key j x h p s f g (bo d) e).elim
   |succ c=>
    simp only[getElem?_cons_succ]at h g;have:=Hc (i+1) r n j c x f k h g (by rw[show i+1+j=i+(j+1)by omega];exact p) (by rw[show i+1+c=i+(c+1)by omega];exact d) s e;rw[this]
theorem Hf:∀(ks:cu)(σ:St),aL B ι σ a w->aL B ι (A7 σ ks) a w/\(A7 σ ks).m=σ.m/\(A7 σ ks).h=σ.h/\
 (∀j o',nth (A7 σ ks).own j=some (some o')->j∉ks/\∃f,nth σ.own j=some (some f))
 |[],σ,c=>⟨c,rfl,rfl,λj o' h=>⟨bj,o',h⟩⟩
 |k::ks,σ,c=>by
  have g:=c.kill k (ι k) (c.one k);rw[HV]at g;obtain⟨i,l,n,p⟩:=Hf ks (σ.kill k) g;refine⟨i,l,n,λj o' r=>?_⟩;obtain⟨s,f,b⟩:=p j o' r;rw[MJ]at b;obtain⟨d,t,e,_⟩:=pT b;exact⟨by simp[d,s],t,e⟩
theorem Ai.trans{m m':MH}{h n:PH}{w w':World}{E:Nat->Prop}(d:Ai B m h w)(c:Ai ⟨w,E,h,[]⟩ m' n w')(l:∀b,E b->B.w0.heap.size<=b\/B.E b):Ai B m' n w':=by
 refine⟨c.tape.trans d.tape,c.os.trans d.os,c.output.trans d.output,Nat.le_trans d.drawn c.drawn,Nat.le_trans d.size c.size,?_,c.hsat,c.msat,c.disj,λb o v p=>c.hle b o v (d.hle b o v p),?_,?_⟩
 .intro b g j
  have i:¬E b:=λe=>by
   rcases l b e with f|f
   .omega
   .exact j f
  rw[c.frame b (Nat.lt_of_lt_of_le g d.size) i];exact d.frame b g j
 .intro b g j
  have i:¬E b:=λe=>by
   rcases l b e with f|f
   .omega
   .exact j f
  rw[c.hold b (Nat.lt_of_lt_of_le g d.size) i];exact d.hold b g j
 .intro b r g;rcases c.mfr b r g with f|f
  .exact .inl (Nat.le_trans d.size f)
  .exact l b f
theorem aL.called{m':MH}{l:PH}{w':World}{E:Nat->Prop}(d:aL B ι σ a w)(n:Ai ⟨w,E,σ.h,[]⟩ m' l w')(t:∀b,E b->B.w0.heap.size<=b\/B.E b)
 (e:∀j o' b,nth σ.own j=some (some o')->blk (ι j)=some b->¬E b):aL B ι {σ with m:=m',h:=l} a w':=by
 refine⟨d.slots,d.defers,?_,d.dist,?_,d.wrel.trans n t,d.one⟩
 .intro j o' f;have c:=d.own j o' f;exact c.world (λb g=>n.frame b (qR c g) (e j o' b f g))
 .intro j o' b f g;have c:=d.own j o' f;obtain⟨u,z,v⟩:=d.fresh j o' b f g;have r:=qR c g;have s:=e j o' b f g;refine⟨u,?_,λi=>?_⟩
  .show m' b=none;cases x:m' b with
   |none=>rfl
   |some y=>
    rcases n.mfr b y x with p|p
    .have p:w.heap.size<=b:=p;omega
    .exact(s p).elim
  .have:l b=σ.h b:=n.hold b r s;show l b i=none;rw[this];exact v i
theorem HX:∀{rs:ct}{l:List (Sum At cr)}{us:bw},Dm rs=some l->rs=us.map .val->OP ι l us
 |[],l,us,h,b=>by
  simp[Dm]at h;subst h;cases us with
  |nil=>trivial
  |cons u us=>simp at b
 |.val v::r,l,us,h,b=>by
  cases us with
  |nil=>simp at b
  |cons u us=>
   simp only[map_cons,List.cons.injEq,CV.val.injEq]at b;simp only[Dm]at h;split at h
   .rename_i d c;simp only[Option.some.injEq]at h;subst h;exact⟨b.1.symm,HX c b.2⟩
   .cases h
 |.lst _ _ _::_,l,us,h,_=>by simp[Dm]at h
 |.tup _::_,l,us,h,_=>by simp[Dm]at h
theorem LA{E sz n:Nat}{v:Value}{l:bw}(h:w.ownsRow 0 E sz v n l):v.oneCell'=true:=by
 rcases h.2 with⟨rfl,_⟩|⟨g,b,c,rfl,_⟩<;>rfl
theorem Lv{σ:St}{k:Nat}:∀{l:cw},k∈oN σ l->∃x∈l,∃off,σ.ev x= .at (.ptr k off)
 |[],h=>by cases h
 |x::r,h=>by
  have c:=λh=>Lv (σ:=σ) (k:=k) (l:=r) h;have b:k∈oN σ r->∃y∈x::r,∃off,σ.ev y= .at (.ptr k off):=λh=>let⟨y,hy,off,e⟩:=c h;⟨y,mem_cons_of_mem _ hy,off,e⟩
  simp only[oN]at h;split at h
  .rename_i f off d;split at h
   .exact b h
   .rcases mem_cons.1 h with rfl|h
    .exact⟨x,mem_cons_self,off,d⟩
    .exact b h
  .exact b h
theorem XA(a':∀g S,assoc C.specs g=some S->Sound C.P g S)(hM:aL B ι σ a w){c:Call}{g:Operand}{f:FuncId}{fs cs:Array Value}(ho:o.op= .call c)(hc:c.callee= .value g)
 (hg:σ.ev g= .at (.val (.func (.func f) fs cs)))(c7:fs.toList=[])(c8:cs.toList=[])(h:XB C o f c.args.toList c.argTypes.toList σ K):SM B C ι o σ K a w:=by
 intro next Q I
 unfold XB at h;split at h
 .exact h.elim
 .rename_i S hS;obtain⟨⟨fn,c9,U,a6⟩,a0⟩:=a' f S hS;obtain⟨τ,d',h,M⟩:=nL _ _ hM h;obtain⟨υ,s,h,a1⟩:=xU _ _ d' h;split at h
  .rename_i V b5 d0;generalize GH C f=mv at*
   obtain⟨W,D⟩:=EP s 0 _ _ _ b5
   have b6:Bd w υ.m υ.h V (c.args.toList.map a.eval):=by
    refine⟨W,s.wrel.hsat,s.wrel.msat,s.wrel.disj,?_,?_⟩
    .intro i j A d1 u v b R hu hj hv X a7;obtain⟨x,k,ow,hx,hm,hk,y,rfl⟩:=D i A u b R hu X;obtain⟨x',k',f0,a8,d2,a2,a9,rfl⟩:=D j d1 v b hj hv a7;have z:blk (ι k)=some b:=by cases A<;>simp[iC]at X;exact X
     have G:blk (ι k')=some b:=by cases d1<;>simp[iC]at a7;exact a7
     have d3:=s.dist k k' _ _ b y a9 z G;subst d3;exact Hc (σ:=υ) (mv:=mv) 0 c.args.toList d0 i j x x' k hx a8 hm d2 hk a2
    .intro i A u b R hu X;obtain⟨x,k,ow,hx,hm,hk,y,rfl⟩:=D i A u b R hu X;have z:blk (ι k)=some b:=by cases A<;>simp[iC]at X;exact X
     exact(s.fresh k ow b y z).2
   have b':=a0 V _ υ.m υ.h w _ h b6;have d4:a.eval g= .func (.func f) fs cs:=by have:=hM.ev g;rw[hg]at this;exact this
   have b7:fs= #[]:=by apply Array.toList_inj.1;simpa using c7
   have b8:cs= #[]:=by apply Array.toList_inj.1;simpa using c8
   subst b7 b8;have a3:c.args.map a.eval=(c.args.toList.map a.eval).toArray:=by apply Array.toList_inj.1;simp
   have d5:¬fn.body=none:=by intro e;rw[e]at U;cases U
   have d6:¬fn.name= "runtime.NumGoroutine" :=bo a6
   have b9:(execOp a.eval o).run C.P w= .ok (.enter f (c.args.toList.map a.eval).toArray) w:=by
    unfold execOp;simp only[ho,resolve,hc,d4,Deferred.ofValue,Sem.run_bind,Sem.run_pure,Result.andThen_ok,invoke,callFunc];simp[program,Sem.run,c9,d6,d5,a3]
   unfold Oper.wp;rw[b9,Oper.upon_enter];refine Calls.mono b' ?_;rintro e w' ⟨r,u,m',h',rfl,hK,hr,hw,X⟩;show next (a.put o.dst u) w'
   obtain⟨c',f4,d7,b0⟩:=Hf (jL υ mv 0 c.args.toList) υ s
   have a5:∀b,xG υ.m V (c.args.toList.map a.eval) b->B.w0.heap.size<=b\/B.E b:=by
    rintro b (J|⟨i,A,N,R,H,t⟩)
    .cases F:υ.m b with
     |none=>exact(J F).elim
     |some ob=>exact s.wrel.mfr b ob F
    .obtain⟨x,k,ow,hx,F,hk,y,rfl⟩:=D i A N b R H t;have z:blk (ι k)=some b:=by cases A<;>simp[iC]at t;exact t
     exact(s.fresh k ow b y z).1
   have Y:∀j o' b,nth (A7 υ (jL υ mv 0 c.args.toList)).own j=some (some o')->blk (ι j)=some b->¬xG υ.m V (c.args.toList.map a.eval) b:=by
    intro j o' b hj Z c0;obtain⟨c2,o1,c3⟩:=b0 j o' hj;rcases c0 with J|⟨i,A,N,R,H,t⟩
    .exact J (s.fresh j o1 b c3 Z).2.1
    .obtain⟨x,k,ow,hx,F,hk,y,rfl⟩:=D i A N b R H t;have z:blk (ι k)=some b:=by cases A<;>simp[iC]at t;exact t
     have:=s.dist j k _ _ b c3 y Z z;subst this;exact c2 (CP 0 _ i x j hx (bo F) hk)
   have b1:aL B ι {A7 υ (jL υ mv 0 c.args.toList)with m:=m',h:=h'} a w':=by
    refine c'.called (E:=xG υ.m V (c.args.toList.map a.eval)) ?_ a5 Y;rw[d7];exact hw
   have L:HR σ ι o w w':=by
    constructor
    .intro k p T d8 b hk ht hι;obtain⟨d9,e'⟩:=M.cells k p T d8 hk;have b3:=MX M ht
     have e0:k∉oN τ c.args.toList:=by
      unfold yE at b3;rw[Bool.or_eq_false_iff]at b3;have:=b3.2;simp only[ho,hc]at this;simpa using this
     obtain⟨f5,a4⟩:=a1.cells k p T d9 e' e0;have z:blk (ι k)=some b:=by rw[hι];rfl
     refine hw.frame b (qR (s.own k _ a4) z) ?_;rintro(J|⟨i,A,N,R,H,t⟩)
     .exact J (s.fresh k _ b a4 z).2.1
     .obtain⟨x,k',ow,hx,F,a2,y,rfl⟩:=D i A N b R H t;have G:blk (ι k')=some b:=by cases A<;>simp[iC]at t;exact t
      have:=s.dist k k' _ _ b a4 y z G;subst this;cases A<;>simp[iC]at t;rename_i E1 f6 f7;have b4:=s.own k _ a4;obtain⟨b2,f8,e2,_,_⟩:=b4
      have c4:∃ad n cp,ι k= .slice ad n cp:=by
       have c5:∀(l:ct)(vs:bw),CY w l vs->∀(i:Nat)(A:CV)(N:Value),l[i]? =some A->vs[i]? =some N->FW w A N:=by
        intro l
        induction l with
        |nil=>intro vs _ i A N h1;simp at h1
        |cons x0 r0 e1=>
         intro vs hv i A N h1 h2;cases vs with
         |nil=>exact hv.elim
         |cons v0 e4=>
          cases i with
          |zero=>simp at h1 h2;subst h1 h2;exact hv.1
          |succ i=>simp at h1 h2;exact e1 e4 hv.2 i A N h1 h2
       have:=c5 _ _ W i _ _ R H;rcases this.2.2 with⟨e3,_⟩|⟨g3,e9,f',e3,_⟩
       .exact⟨_,_,_,e3⟩
       .exact⟨_,_,_,e3⟩
      obtain⟨ad,n,cp,e3⟩:=c4;rw[e2]at e3;cases e3
    .intro b O v hv;have h1:=M.imm b O v hv;rw[<-a1.imm]at h1;exact hw.hsat b O v (hw.hle b O v h1)
    .intro hg;rw[ho]at hg;simp[Aa]at hg
    .intro l b hl X J hx;have hl:c.args.toList=l:=by simpa[sK,ho,hc]using hl
     refine hw.frame b X ?_;rintro(F|⟨i,A,N,R,H,t⟩)
     .obtain⟨k,hk,z⟩:=a1.m_ b (by rw[M.m_];exact J) F;obtain⟨x,e5,O,e6⟩:=Lv hk;exact hx x (hl▸e5) k (.inr ⟨O,M.ptr x k O e6⟩) z
     .obtain⟨x,k',ow,a8,F,a2,y,rfl⟩:=D i A N b R H t;have G:blk (ι k')=some b:=by cases A<;>simp[iC]at t;exact t
      exact hx x (hl▸mem_of_getElem? a8) k' (.inl (M.lst x k' (a1.lst x k' a2))) G
   unfold brJ at hK;split at hK
   .rename_i v;exact I ι _ _ _ (b1.put o.dst (x:=.at (.val v)) hr) hK L
   .rename_i E sz xs;split at hK
    .rename_i d hd;rw[hd];generalize (jL υ mv 0 c.args.toList).headD d=kd at hK;refine I (upd ι kd u) _ _ _ (aL.put ?_ (some d) (x:=.at (.lst kd)) (by show _=_;simp)) hK L;refine b1.adopt kd _ u ⟨hr.1,hr.2⟩ (LA hr.2) (λb e7=>?_);obtain⟨f1,f2,f3⟩:=X b e7;refine⟨⟨?_,f2,f3⟩,?_⟩
     .rcases f1 with f1|f1
      .exact .inl (Nat.le_trans s.wrel.size f1)
      .exact a5 b f1
     .intro j o' _ hj Z;have c6:nth (A7 υ (jL υ mv 0 c.args.toList)).own j=some (some o'):=hj;rcases f1 with f1|f1
      .have:=qR (c'.own j o' c6) Z;omega
      .exact Y j o' b c6 Z f1
    .exact hK.elim
   .rename_i rs;split at hK
    .rename_i l hl;obtain⟨us,rfl,e8⟩:=hr;exact I ι _ _ _ (b1.put o.dst (x:=.tup l) ⟨us,rfl,HX hl e8⟩) hK L
    .exact hK.elim
  .exact h.elim
end
end Go.Vc
