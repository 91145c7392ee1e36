/-
  Part 1 of a proof that a law of the given program returns true: a condition generator that is proved sound, and contracts of functions. No condition of its own. Own work, joined by a program (pack2.py).
-/
import Derived.Calls
import Derived.CallsIn
import Derived.Orders
import Derived.KernelRfl
import Derived.Laws.AppendOwn
import Derived.Laws.CopyRow
import Derived.Deep.AppendSrc
import Derived.Deep.LoopGhost
import Derived.Laws.StructEq
import Derived.Laws.BytesArg
import Derived.Laws.NewBlocks
import Derived.Great.BuildSlice
import Derived.Laws.MakeOwn
import Derived.Lib.AppendZerosOnto
set_option linter.unusedVariables false
set_option linter.unusedSimpArgs false
namespace Go
abbrev dj:=List (Nat×Operand)
abbrev dg:=List TypeId
abbrev de:=List (Value×Bool)
abbrev dc:=List ByteArray
abbrev cz:=List Operand
abbrev ct:=List Bool
abbrev ck:=List Nat
abbrev ci:=List UInt8
abbrev cg:=Nat->Value
abbrev cd:=List (Value×Value)
abbrev bz:=List (Int×Bool)
abbrev bx:=List (Int×Int)
abbrev br:=List Int
abbrev bm:=List Value
universe u
theorem bf{α:Sort u}{a b:α}(h:a=b:=by kernel_rfl):a=b:=h
theorem bg{p:Prop}(h:p:=by simp):p:=h
theorem bh{p:Prop}(h:p:=by decide):p:=h
theorem bi{p:Prop}(h:p:=by simp_all):p:=h
theorem bj{p q:Prop}(h:p)(e:p->q:=by intro h;simpa using h):q:=e h
theorem aC{p:Prop}(h:p:=by omega):p:=h
end Go
namespace Go.Vc
open Go List
abbrev PH:=Nat->Nat->Option Value
abbrev MH:=Nat->Option Obj
abbrev di:=Int×Nat×bx×(Int×Int)×Bool×MH
structure Sl where
 a:Option Addr
 len:Nat
 cap:Nat
abbrev cj:=List (ByteArray×Sl)
abbrev ca:=List Sl
def Sl.val(s:Sl):Value:=.slice s.a s.len s.cap
inductive At where
 |val (v:Value)
 |ptr (k o:Nat)
 |lst (k:Nat)
 |el (k i sz o:Nat)
 |junk
abbrev cr:=List At
inductive SV where
 |at(x:At)
 |agg (cs:cr)
 |tup (xs:List (Sum At cr))
abbrev dk:=List (Nat×SV)
abbrev dd:=List SV
inductive Own where
 |cellsP (p:Option Nat) (T:TypeId) (cs:cr)
 |lst (E:TypeId) (sz:Nat) (xs:List bm)
abbrev db:=List (Option Own)
abbrev Own.cells(T:TypeId)(cs:cr):Own:=.cellsP none T cs
structure St where
 sl:dd
 own:db
 m:MH
 h:PH
inductive CV where
 |val (v:Value)
 |lst (E:TypeId) (sz:Nat) (xs:List bm)
 |tup (xs:List CV)
abbrev cq:=List CV
abbrev bo:=CV->MH->PH->Prop
abbrev Spec:=cq->MH->PH->bo->Prop
structure Dec where
 X:Type
 enc:X->bm
inductive Az where
 |normal
 |exit (id:Nat)
 |ret
structure No where
 A:Type
 st:A->St
 inv:A->Prop
 mu:A->Nat
structure Y7 where
 A:Type
 st:A->St
 inv:A->Prop
structure tL where
 A:Type
 st:A->St
 frz:Bool:=false
abbrev da:=List (Nat×tL)
structure Ctx where
 P:Program
 loops2:da
 cuts2:da
 rcuts:List (Nat×da)
 heapT:dg
 specs:List (Nat×Spec)
 dec:TypeId->Dec
 loops:List (Nat×No)
 cuts:List (Nat×Y7)
 moves:List (Nat×ck)
 retMove:Bool
 yield:Option Spec
 elemT:dg:=[]
def nth{α:Type}:List α->Nat->Option α
 |[],_=>none
 |x::_,0=>some x
 |_::xs,n+1=>nth xs n
def PU:ck->Nat->Bool
 |[],_=>false
 |x::r,n=>match Nat.beq x n with|true=>true|false=>PU r n
def assoc.{u}{α:Type u}:List (Nat×α)->Nat->Option α
 |[],_=>none
 |(k,v)::r,n=>match Nat.beq k n with|true=>some v|false=>assoc r n
def branch(c:Bool)(A B:Prop):Prop:=match c with|true=>A|false=>B
def St.ev(σ:St):Operand->SV
 |.tmp t=>match nth σ.sl t with|some x=>x|none=>.at .junk
 |.const v=>.at (.val v)
 |.global g=>.at (.val (.pointer (some ⟨g,0,none⟩)))
 |.func f=>.at (.val (.func (.func f) #[] #[]))
def St.put(σ:St)(d:Option Tmp)(x:SV):St:=
 match d with
 |some d=>{σ with sl:=σ.sl.set d x}
 |none=>σ
def At.sub(k:Nat)(f:At->At):At->At
 |.val v=>.val v
 |.ptr j o=>match Nat.beq j k with|true=>f (.ptr j o)|false=>.ptr j o
 |.lst j=>match Nat.beq j k with|true=>f (.lst j)|false=>.lst j
 |.el j i a o=>match Nat.beq j k with|true=>f (.el j i a o)|false=>.el j i a o
 |.junk=>.junk
def SV.sub(k:Nat)(f:At->At):SV->SV
 |.at x=>.at (x.sub k f)
 |.agg a=>.agg (a.map (At.sub k f))
 |.tup b=>.tup (b.map λ |.inl x=>.inl (x.sub k f)|.inr a=>.inr (a.map (At.sub k f)))
def Own.sub(k:Nat)(f:At->At):Own->Own
 |.cellsP p T a=>.cellsP p T (a.map (At.sub k f))
 |.lst E b c=>.lst E b c
def St.sub(σ:St)(k:Nat)(f:At->At):St:=
 {σ with sl:=σ.sl.map (SV.sub k f),own:=σ.own.map (Option.map (Own.sub k f))}
def St.kill(σ:St)(k:Nat):St:=
 let τ:=σ.sub k (λ_=>.junk)
 {τ with own:=τ.own.set k none}
def St.setOwn(σ:St)(k:Nat)(o:Option Own):St:={σ with own:=σ.own.set k o}
def At.val? :At->Option Value
 |.val v=>some v
 |_=>none
def tX:cr->Option bm
 |[]=>some []
 |.val v::r=>match tX r with|some l=>some (v::l)|none=>none
 |_::_=>none
def SV.val? :SV->Option Value
 |.at (.val v)=>some v
 |.agg a=>match tX a with|some l=>some (.agg l.toArray)|none=>none
 |_=>none
def SV.cells? :SV->Option cr
 |.at (.val (.agg a))=>some (a.toList.map .val)
 |.at (.val (.tuple _))=>none
 |.at .junk=>none
 |.at x=>some [x]
 |.agg a=>some a
 |.tup _=>none
def At.storable:At->Bool
 |.val (.agg _)=>false
 |.val (.tuple _)=>false
 |.junk=>false
 |_=>true
def sH:cr->Bool
 |[]=>true
 |x::r=>match x.storable with|true=>sH r|false=>false
def yC{α:Type}(P:Program):Sem α->Option α
 |.pure a=>some a
 |.program k=>yC P (k P)
 |.mark _ k=>yC P k
 |_=>none
def St.rho(σ:St)(x:Operand):Value:=match(σ.ev x).val? with|some v=>v|none=>undef
def Ni(σ:St):cz->Bool
 |[]=>true
 |x::r=>match(σ.ev x).val? with|some _=>Ni σ r|none=>false
structure bT(h:PH)(b o:Nat)(l:bm):Prop where
 rd:∀i v,l[i]? =some v->h b (o+i)=some v
inductive aJ(m:MH)(h:PH)(b off:Nat)(l:bm):Prop
 |imm (hr:bT h b off l):aJ m h b off l
 |lent (cs:Array Value) (E:TypeId) (fz:Nat×Nat) (hm:m b=some (.cells cs E fz)) (hl:(cs.toList.drop off).take l.length=l):aJ m h b off l
structure Lo(m:MH)(b:Nat)(o:Obj):Prop where
 at_:m b=some o
structure bW(m:MH)(h:PH)(b:Nat):Prop where
 m_:m b=none
 h_:∀i,h b i=none
def BJ(P:Program)(t:TypeId):Bool:=
 match P.underlying t with
 |some (.struct _)=>true
 |some (.array _ _)=>true
 |_=>false
def mk(P:Program)(T:TypeId)(cs:cr):SV:=
 match BJ P T with
 |true=>.agg cs
 |false=>match cs with|[x]=>.at x|_=>.at .junk
def vZ(C:Ctx)(o:Oper)(σ:St)(K:St->Prop):Prop:=
 match Ni σ o.op.operands.toList with
 |true=>match yC C.P (execOp σ.rho o)with
  |some (.value v)=>K (σ.put o.dst (.at (.val v)))
  |_=>False
 |false=>False
def iR(P:Program)(T:TypeId):Bool:=
 match P.underlying T with
 |some _=>match P.cellsOf T with|0=>false|_=>true
 |none=>false
def a6Q(C:Ctx)(T:TypeId)(R:bm->Prop)(K:bm->Prop):Prop:=
 ∃y:(C.dec T).X,R ((C.dec T).enc y)/\
  match Nat.beq ((C.dec T).enc y).length (C.P.cellsOf T)with
  |true=>K ((C.dec T).enc y)
  |false=>False
def WX(C:Ctx)(o:Oper)(T:TypeId)(x:Operand)(σ:St)(K:St->Prop):Prop:=
 match iR C.P T with
 |false=>False
 |true=>
  match σ.ev x with
  |.at (.ptr k a)=>
   match nth σ.own k with
   |some (some (.cellsP _ _ c))=>
    match Nat.ble (a+C.P.cellsOf T) c.length with
    |true=>K (σ.put o.dst (mk C.P T ((c.drop a).take (C.P.cellsOf T))))
    |false=>False
   |_=>False
  |.at (.el k i d a)=>
   match nth σ.own k with
   |some (some (.lst _ s f))=>
    match Nat.beq s d with
    |true=>∃e:bm,f[i]? =some e/\a6Q C T (λl=>(e.drop a).take (C.P.cellsOf T)=l) λl=>K (σ.put o.dst (mk C.P T (l.map .val)))
    |false=>False
   |_=>False
  |.at (.val (.pointer (some ⟨b,a,none⟩)))=>
   a6Q C T (aJ σ.m σ.h b a) λl=>K (σ.put o.dst (mk C.P T (l.map .val)))
  |_=>False
def splice{α:Type}(cs:List α)(off:Nat)(new:List α):List α:=cs.take off++new++cs.drop (off+new.length)
structure gG(m m':MH)(b:Nat)(o:Obj):Prop where
 at_:m' b=some o
 other:∀b',b'≠b->m' b'=m b'
def SJ(C:Ctx)(T:TypeId)(x v:Operand)(σ:St)(K:St->Prop):Prop:=
 match(σ.ev v).cells? with
 |none=>False
 |some new=>
 match Nat.beq new.length (C.P.cellsOf T),sH new,iR C.P T with
 |true,true,true=>
  match σ.ev x with
  |.at (.ptr k a)=>
   match nth σ.own k with
   |some (some (.cellsP p E c))=>
    match Nat.ble (a+new.length) c.length with
    |true=>K (σ.setOwn k (some (.cellsP p E (splice c a new))))
    |false=>False
   |_=>False
  |.at (.el k i g a)=>
   match nth σ.own k,tX new with
   |some (some (.lst E s d)),some l=>
    match Nat.beq s g with
    |true=>∃e:bm,d[i]? =some e/\a+l.length<=e.length/\
     K (σ.setOwn k (some (.lst E s (d.set i (splice e a l)))))
    |false=>False
   |_,_=>False
  |.at (.val (.pointer (some ⟨b,a,none⟩)))=>
   match tX new with
   |some l=>∃(c:Array Value)(E:TypeId),Lo σ.m b (.cells c E (0,0))/\a+l.length<=c.size/\
    ∀f:MH,gG σ.m f b (.cells (splice c.toList a l).toArray E (0,0))->K {σ with m:=f}
   |none=>False
  |_=>False
 |_,_,_=>False
def Jt(P:Program)(T:TypeId)(f:Nat):Option (Nat×TypeId):=
 match P.underlying T with
 |some (.struct a)=>match nth a.toList f with
  |some g=>match Nat.beq (P.cellsOf g.type) 0 with|true=>none|false=>some (g.offset,g.type)
  |none=>none
 |_=>none
def FH(C:Ctx)(o:Oper)(T:TypeId)(x:Operand)(f:Nat)(σ:St)(K:St->Prop):Prop:=
 match Jt C.P T f with
 |none=>False
 |some (g,_)=>
  match σ.ev x with
  |.at (.ptr k a)=>K (σ.put o.dst (.at (.ptr k (a+g))))
  |.at (.el k i c a)=>K (σ.put o.dst (.at (.el k i c (a+g))))
  |.at (.val (.pointer (some ⟨b,a,none⟩)))=>K (σ.put o.dst (.at (.val (.pointer (some ⟨b,a+g,none⟩)))))
  |_=>False
def Hx(o:Oper)(x:Operand)(σ:St)(K:St->Prop):Prop:=
 match σ.ev x with
 |.at (.ptr k b)=>K (σ.put o.dst (.at (.ptr k b)))
 |.at (.el k i c b)=>K (σ.put o.dst (.at (.el k i c b)))
 |.at (.val (.pointer (some a)))=>K (σ.put o.dst (.at (.val (.pointer (some a)))))
 |_=>False
def FA(C:Ctx)(o:Oper)(T:TypeId)(x i:Operand)(σ:St)(K:St->Prop):Prop:=
 match σ.ev i with
 |.at (.val (.int _ n))=>
  match C.P.underlying T with
  |some (.slice E)=>
   match iR C.P E with
   |true=>
    match σ.ev x with
    |.at (.lst k)=>
     match nth σ.own k with
     |some (some (.lst _ d e))=>match Nat.beq d (C.P.cellsOf E)with
      |true=>0<=n/\n<(e.length:Int)/\K (σ.put o.dst (.at (.el k n.toNat d 0)))
      |false=>False
     |_=>False
    |.at (.val (.slice a len _))=>
     ∃b c,a=some ⟨b,c,none⟩/\0<=n/\n<(len:Int)/\
      K (σ.put o.dst (.at (.val (.pointer (some ⟨b,c+n.toNat*C.P.cellsOf E,none⟩)))))
    |_=>False
   |false=>False
  |some (.array len E)=>
   match iR C.P E with
   |true=>
    match σ.ev x with
    |.at (.ptr k c)=>0<=n/\n<(len:Int)/\K (σ.put o.dst (.at (.ptr k (c+n.toNat*C.P.cellsOf E))))
    |.at (.val (.pointer (some ⟨b,c,none⟩)))=>0<=n/\n<(len:Int)/\K (σ.put o.dst (.at (.val (.pointer (some ⟨b,c+n.toNat*C.P.cellsOf E,none⟩)))))
    |_=>False
   |false=>False
  |_=>False
 |_=>False
def ZS(o:Oper)(op:BinOp)(x y:Operand)(σ:St)(K:St->Prop):Prop:=
 match σ.ev x,σ.ev y with
 |.at (.val (.int k a)),.at (.val (.int c b))=>
  match decide (k=c)with
  |true=>
   b≠0/\(match op with
    |.quo=>K (σ.put o.dst (.at (.val (.int k (k.wrap (a.tdiv b))))))
    |.rem=>K (σ.put o.dst (.at (.val (.int k (a.tmod b)))))
    |_=>False)
  |false=>False
 |_,_=>False
def Pd(C:Ctx)(o:Oper)(x y:Operand)(σ:St)(K:St->Prop):Prop:=
 match σ.ev x,σ.ev y with
 |.at (.val (.string a)),.at (.val (.string b))=>a.size+b.size<=9223372036854775807/\K (σ.put o.dst (.at (.val (.string (a++b)))))
 |_,_=>vZ C o σ K
def WO(o:Oper)(c a b:Operand)(σ:St)(K:St->Prop):Prop:=
 match σ.ev c with
 |.at (.val (.bool t))=>branch t (K (σ.put o.dst (σ.ev a))) (K (σ.put o.dst (σ.ev b)))
 |_=>False
structure cZ(h:PH)(s:Sl)(sz:Nat)(xs:List bm):Prop where
 len:s.len=xs.length
 row:xs=[]\/∃b o,s.a=some ⟨b,o,none⟩/\∀i e,xs[i]? =some e->bT h b (o+i*sz) e
 cap:s.len<=s.cap
structure PH.le(h h':PH):Prop where
 le:∀b o v,h b o=some v->h' b o=some v
def uE(σ:St)(K:St->Prop):ck->Prop
 |[]=>K σ
 |k::ks=>
  match nth σ.own k with
  |some (some (.lst _ b c))=>
   ∀(s:Sl)(a:PH),PH.le σ.h a->cZ a s b c->
    uE {(σ.sub k (λ |.lst _=>.val s.val|_=>.junk)).setOwn k none with h:=a} K ks
  |_=>False
def Ku:cr->ck
 |[]=>[]
 |.lst k::r=>match(Ku r).contains k with|true=>Ku r|false=>k::Ku r
 |_::r=>Ku r
def SV.keys:SV->ck
 |.at x=>Ku [x]
 |.agg a=>Ku a
 |.tup _=>[]
def zeroCells(P:Program)(T:TypeId):Option bm:=
 match P.info? T with
 |some i=>match i.zero with
  |some v=>some v.cells.toList
  |none=>none
 |none=>none
def TB(C:Ctx)(o:Oper)(T:TypeId)(σ:St)(K:St->Prop):Prop:=
 match o.dst,zeroCells C.P T with
 |some d,some z=>K (((σ.kill d).setOwn d (some (.cells T (z.map .val)))).put (some d) (.at (.ptr d 0)))
 |_,_=>False
def ZX(o:Oper)(T:TypeId)(x:Operand)(σ:St)(K:St->Prop):Prop:=
 match o.dst,(σ.ev x).cells? with
 |some d,some a=>K (((σ.kill d).setOwn d (some (.cells T (a.map (At.sub d (λ_=>.junk)))))).put (some d) (.at (.ptr d 0)))
 |_,_=>False
def partAt(P:Program)(T:TypeId)(i:Nat):Option (Nat×Nat):=
 match P.underlying T with
 |some (.struct a)=>match nth a.toList i with|some g=>some (g.offset,P.cellsOf g.type)|none=>none
 |some (.array _ E)=>some (i*P.cellsOf E,P.cellsOf E)
 |_=>none
def NW(P:Program)(T:TypeId):Bool:=
 match P.underlying T with
 |some (.struct a)=>a.toList.all λf=>(P.info? f.type).isSome
 |some (.array _ E)=>(P.info? E).isSome
 |_=>false
def Dm(P:Program)(T:TypeId)(σ:St):dj->cr->Option cr
 |[],c=>some c
 |(i,x)::r,c=>
  match partAt P T i,(σ.ev x).cells? with
  |some (a,b),some new=>
   match Nat.beq new.length b,Nat.ble (a+new.length) c.length with
   |true,true=>Dm P T σ r (splice c a new)
   |_,_=>none
  |_,_=>none
def Ty(C:Ctx)(o:Oper)(T:TypeId)(parts:dj)(σ:St)(K:St->Prop):Prop:=
 match zeroCells C.P T with
 |some z=>match Dm C.P T σ parts (z.map .val),NW C.P T with
  |some a,true=>K (σ.put o.dst (.agg a))
  |_,_=>False
 |none=>False
def Dl(σ:St)(sz:Nat):dj->List bm->Option (List bm)
 |[],a=>some a
 |(i,x)::r,a=>
  match(σ.ev x).cells? with
  |some b=>match tX b with
   |some l=>match Nat.beq l.length sz,Nat.ble (i+1) a.length,sH b with
    |true,true,true=>Dl σ sz r (a.set i l)
    |_,_,_=>none
   |none=>none
  |none=>none
def Fh(σ:St):cz->ck
 |[]=>[]
 |x::r=>(σ.ev x).keys++(Fh σ r).filter (λk=> !(σ.ev x).keys.contains k)
def elemOf(P:Program)(T:TypeId):Option (TypeId×bm):=
 match P.underlying T with
 |some (.slice E)=>match zeroCells P E with
  |some z=>match Nat.beq z.length (P.cellsOf E),Nat.beq (P.cellsOf E) 0,z.all Value.oneCell' with
   |true,false,true=>some (E,z)
   |_,_,_=>none
  |none=>none
 |_=>none
def EN(C:Ctx)(o:Oper)(T:TypeId)(n:Nat)(parts:dj)(σ:St)(K:St->Prop):Prop:=
 uE σ (λτ=>
  match o.dst,elemOf C.P T with
  |some d,some (E,z)=>
   match Dl τ (C.P.cellsOf E) parts (replicate n z),Nat.ble (n*C.P.cellsOf E) 16777216 with
   |some a,true=>K (((τ.kill d).setOwn d (some (.lst E (C.P.cellsOf E) a))).put (some d) (.at (.lst d)))
   |_,_=>False
  |_,_=>False) (Fh σ (parts.map (·.2)))
structure eR(sz:Nat)(ys:List bm):Prop where
 len:∀e∈ys,e.length=sz
 one:∀e∈ys,∀u∈e,u.oneCell'=true
structure cR(m:MH)(s:Sl)(E:TypeId)(sz:Nat)(xs:List bm):Prop where
 rows:eR sz xs
 ex:(s=⟨none,0,0⟩/\xs=[])\/∃b cap cur,s=⟨some ⟨b,0,none⟩,xs.length,cap⟩/\m b=some (.cells cur E (0,0))/\xs.length<=cap/\cap<=maxLen/\cur.size=cap*sz/\cur.toList.take (xs.length*sz)=xs.flatten
structure rE(m m':MH)(h:PH)(s:Sl)(E:TypeId)(sz:Nat)(xs:List bm):Prop where
 row:cR m' s E sz xs
 other:∀b,(∀i,s.a≠some ⟨b,i,none⟩)->m' b=m b
 fresh:∀b i,s.a=some ⟨b,i,none⟩->bW m h b
def Dj(σ:St)(K:St->Prop):ck->Prop
 |[]=>K σ
 |k::ks=>
  match nth σ.own k with
  |some (some (.lst E b c))=>
   ∀(s:Sl)(a:MH),rE σ.m a σ.h s E b c->
    Dj {(σ.sub k (λ |.lst _=>.val s.val|_=>.junk)).setOwn k none with m:=a} K ks
  |_=>False
def Ft(C:Ctx)(o:Oper)(T:TypeId)(l c:Operand)(σ:St)(K:St->Prop):Prop:=
 match o.dst,elemOf C.P T,σ.ev l,σ.ev c with
 |some d,some (E,z),.at (.val (.int _ n)),.at (.val (.int _ m))=>
  0<=n/\n<=m/\m*(C.P.bytesOf E:Int)<=281474976710656/\m<=281474976710656/\
   K (((σ.kill d).setOwn d (some (.lst E (C.P.cellsOf E) (replicate n.toNat z)))).put (some d) (.at (.lst d)))
 |_,_,_,_=>False
def fB(s:ByteArray):List bm:=s.data.toList.map λb=>[.int .u8 b.toNat]
inductive sI(m:MH)(h:PH)(s:Sl)(sz:Nat)(ys:List bm):Prop
 |imm (hr:cZ h s sz ys):sI m h s sz ys
 |lent (b o:Nat) (cs:Array Value) (E:TypeId) (fz:Nat×Nat) (hs:s.a=some ⟨b,o,none⟩) (hn:s.len=ys.length) (hm:m b=some (.cells cs E fz)) (hl:(cs.toList.drop o).take ys.flatten.length=ys.flatten):sI m h s sz ys
def bNX(a:Bool)(σ:St)(s:Sl)(sz:Nat)(b:List bm):Prop:=match a with|true=>sI σ.m σ.h s sz b|false=>cZ σ.h s sz b
def LC(P:Program)(b:Bool)(σ:St)(sz:Nat)(tx:TypeId)(y:SV)(K:List bm->Prop):Prop:=
 match y,P.underlying tx with
 |.at (.lst k),some (.slice _)=>match nth σ.own k with
  |some (some (.lst _ s d))=>match Nat.beq s sz with|true=>K d|false=>False
  |_=>False
 |.at (.val (.slice a n c)),some (.slice _)=>∃d:List bm,eR sz d/\bNX b σ ⟨a,n,c⟩ sz d/\K d
 |.at (.val (.string s)),some .string=>match Nat.beq sz 1 with|true=>K (fB s)|false=>False
 |_,_=>False
structure eK(m m':MH)(s s':Sl)(E:TypeId)(sz:Nat)(zs:List bm):Prop where
 row:cR m' s' E sz zs
 other:∀b o,m b=some o->(∀i,s.a≠some ⟨b,i,none⟩)->m' b=some o
 fresh:∀b i,s'.a=some ⟨b,i,none⟩->m b=none\/∃i,s.a=some ⟨b,i,none⟩
def sameKey(y:SV)(k:Nat):Bool:=match y with|.at (.lst a)=>Nat.beq a k|_=>false
def Za(y:SV)(d:Option TypeDesc):Option Int:=
 match d with
 |some (.int _)=>match y with
  |.at (.val (.int _ n))=>some n
  |_=>none
 |_=>none
def Qt(C:Ctx):Bool:=match C.heapT with|[]=>false|_=>true
def inM(C:Ctx)(T:TypeId):Bool:=PU C.heapT (1000+T)
def bUZ(C:Ctx)(T:TypeId):Bool:=PU C.heapT (3000+T)
def Pj(C:Ctx)(o:Oper)(T tx:TypeId)(x y:Operand)(σ:St)(K:St->Prop):Prop:=
 match o.dst,elemOf C.P T with
 |some d,some (E,z)=>
  match inM C T,bUZ C T,σ.ev x with
  |false,true,.at (.val (.slice a n c))=>
   c=n/\∃e:List bm,eR (C.P.cellsOf E) e/\cZ σ.h ⟨a,n,c⟩ (C.P.cellsOf E) e/\
    LC C.P (Qt C) σ (C.P.cellsOf E) tx (σ.ev y) λb=>
     (a=none\/0<b.length)/\(e.length+b.length)*C.P.bytesOf E<=140737488355328/\e.length+b.length<=140737488355328/\
     K (((σ.kill d).setOwn d (some (.lst E (C.P.cellsOf E) (e++b)))).put (some d) (.at (.lst d)))
  |true,_,.at (.val (.slice a n c))=>
   ∃e:List bm,cR σ.m ⟨a,n,c⟩ E (C.P.cellsOf E) e/\
    LC C.P (Qt C) σ (C.P.cellsOf E) tx (σ.ev y) λb=>
     (e.length+b.length)*C.P.bytesOf E<=140737488355328/\e.length+b.length<=140737488355328/\
     ∀(f:Sl)(g:MH),eK σ.m g ⟨a,n,c⟩ f E (C.P.cellsOf E) (e++b)->K ({σ with m:=g}.put (some d) (.at (.val f.val)))
  |_,_,_=>match σ.ev x with
  |.at (.val (.slice none 0 0))=>
   match Za (σ.ev y) (C.P.underlying tx)with
   |some n=>0<n/\n*(C.P.bytesOf E:Int)<=140737488355328/\n<=140737488355328/\
    K (((σ.kill d).setOwn d (some (.lst E (C.P.cellsOf E) (replicate n.toNat z)))).put (some d) (.at (.lst d)))
   |none=>LC C.P (Qt C) σ (C.P.cellsOf E) tx (σ.ev y) λb=>
    b.length*C.P.bytesOf E<=140737488355328/\b.length<=140737488355328/\
    K (((σ.kill d).setOwn d (some (.lst E (C.P.cellsOf E) b))).put (some d) (.at (.lst d)))
  |.at (.lst k)=>
   match nth σ.own k,sameKey (σ.ev y) k with
   |some (some (.lst E' i e)),false=>
    match Nat.beq E' E,Nat.beq i (C.P.cellsOf E)with
    |true,true=>
     LC C.P (Qt C) σ i tx (σ.ev y) λb=>
      (e.length+b.length)*C.P.bytesOf E<=140737488355328/\e.length+b.length<=140737488355328/\
      K (((σ.kill k).setOwn k (some (.lst E i (e++b)))).put (some d) (.at (.lst k)))
    |_,_=>False
   |_,_=>False
  |.at (.val (.slice a n c))=>
   ∃e:List bm,cR σ.m ⟨a,n,c⟩ E (C.P.cellsOf E) e/\
    LC C.P (Qt C) σ (C.P.cellsOf E) tx (σ.ev y) λb=>
     (e.length+b.length)*C.P.bytesOf E<=140737488355328/\e.length+b.length<=140737488355328/\
     ∀(f:Sl)(g:MH),eK σ.m g ⟨a,n,c⟩ f E (C.P.cellsOf E) (e++b)->K ({σ with m:=g}.put (some d) (.at (.val f.val)))
  |_=>False
 |_,_=>False
def UU(P:Program)(ts:dg):Bool:=
 match ts with
 |t::_=>match P.underlying t with
  |some (.slice _)=>true
  |_=>false
 |[]=>false
def aMQ(C:Ctx)(o:Oper)(x:Operand)(ts:dg)(σ:St)(K:St->Prop):Prop:=
 match σ.ev x with
 |.at (.lst k)=>match nth σ.own k,UU C.P ts with
  |some (some (.lst _ _ a)),true=>K (σ.put o.dst (.at (.val (.int .i64 a.length))))
  |_,_=>False
 |_=>vZ C o σ K
structure bHZ(sz:Nat)(x:Sl)(i:Nat)(s:Sl):Prop where
 a_:s.a=if x.cap=i then x.a else x.a.map λy=>y.add (i*sz)
 len:s.len=x.len-i
 cap:s.cap=x.cap-i
def SM(C:Ctx)(o:Oper)(T:TypeId)(x:Operand)(f g h:Option Operand)(σ:St)(K:St->Prop):Prop:=
 match σ.ev x,f,g,h with
 |.at (.lst k),none,some n,none=>
  match nth σ.own k,σ.ev n,C.P.underlying T with
  |some (some (.lst E l e)),.at (.val (.int _ i)),some (.slice E')=>
   match iR C.P E' with
   |true=>0<=i/\i<=(e.length:Int)/\K (((σ.kill k).setOwn k (some (.lst E l (e.take i.toNat)))).put o.dst (.at (.lst k)))
   |false=>False
  |_,_,_=>False
 |.at (.val (.slice a _ c)),none,some n,none=>
  match σ.ev n,C.P.underlying T with
  |.at (.val (.int _ i)),some (.slice E')=>
   match iR C.P E' with
   |true=>0<=i/\i<=(c:Int)/\K (σ.put o.dst (.at (.val (.slice a i.toNat c))))
   |false=>False
  |_,_=>False
 |.at (.val (.slice a _ c)),none,some n,some k=>
  match σ.ev n,σ.ev k,C.P.underlying T with
  |.at (.val (.int _ i)),.at (.val (.int _ j)),some (.slice E')=>
   match iR C.P E' with
   |true=>0<=i/\i<=j/\j<=(c:Int)/\K (σ.put o.dst (.at (.val (.slice a i.toNat j.toNat))))
   |false=>False
  |_,_,_=>False
 |.at (.val (.slice a len c)),some n,none,none=>
  match σ.ev n,C.P.underlying T with
  |.at (.val (.int _ i)),some (.slice E')=>
   match iR C.P E' with
   |true=>0<=i/\i<=(len:Int)/\len<=c/\∀s:Sl,bHZ (C.P.cellsOf E') ⟨a,len,c⟩ i.toNat s->K (σ.put o.dst (.at (.val (.slice s.a s.len s.cap))))
   |false=>False
  |_,_=>False
 |.at (.val (.pointer (some ⟨b,d,none⟩))),none,some n,none=>
  match σ.ev n,C.P.underlying T with
  |.at (.val (.int _ i)),some (.array len E')=>
   match iR C.P E' with
   |true=>0<=i/\i<=(len:Int)/\K (σ.put o.dst (.at (.val (.slice (some ⟨b,d,none⟩) i.toNat len))))
   |false=>False
  |_,_=>False
 |_,_,_,_=>False
def Tp(C:Ctx)(o:Oper)(T:TypeId)(x:Operand)(f:Nat)(σ:St)(K:St->Prop):Prop:=
 match Jt C.P T f,(σ.ev x).cells?,(match σ.ev x with|.agg _=>true|.at (.val (.agg _))=>true|_=>false)with
 |some (g,T'),some a,true=>
  match Nat.ble (g+C.P.cellsOf T') a.length&&iR C.P T' with
  |true=>K (σ.put o.dst (mk C.P T' ((a.drop g).take (C.P.cellsOf T'))))
  |false=>False
 |_,_,_=>False
def Tj(P:Program)(E:TypeId)(cs:cr)(n:Int)(K:SV->Prop):Nat->Nat->Prop
 |0,_=>True
 |f+1,i=>branch (n==(i:Int)) (K (mk P E ((cs.drop (i*P.cellsOf E)).take (P.cellsOf E)))) (Tj P E cs n K f (i+1))
def Th(C:Ctx)(o:Oper)(T:TypeId)(x i:Operand)(σ:St)(K:St->Prop):Prop:=
 match σ.ev i,C.P.underlying T with
 |.at (.val (.int _ n)),some (.array len E)=>
  match(σ.ev x).cells? with
  |some a=>match Nat.beq a.length (len*C.P.cellsOf E),iR C.P E,(match σ.ev x with|.agg _=>true|.at (.val (.agg _))=>true|_=>false)with
   |true,true,true=>0<=n/\n<(len:Int)/\Tj C.P E a n (λv=>K (σ.put o.dst v)) len 0
   |_,_,_=>False
  |none=>False
 |.at (.val (.int _ n)),some .string=>
  match σ.ev x with
  |.at (.val (.string s))=>0<=n/\∃b,s.data.toList[n.toNat]? =some b/\K (σ.put o.dst (.at (.val (.int .u8 b.toNat))))
  |_=>False
 |_,_=>False
def K8(C:Ctx)(o:Oper)(x:Operand)(i:Nat)(σ:St)(K:St->Prop):Prop:=
 match σ.ev x with
 |.tup a=>match nth a i with
  |some (.inl y)=>K (σ.put o.dst (.at y))
  |some (.inr b)=>K (σ.put o.dst (.agg b))
  |none=>False
 |_=>vZ C o σ K
def aU(a:ci):List bm:=a.map λb=>[.int .u8 b.toNat]
def Lb(C:Ctx)(o:Oper)(src a:TypeId)(x:Operand)(σ:St)(K:St->Prop):Prop:=
 match σ.ev x with
 |.at (.lst k)=>
  match nth σ.own k,C.P.underlying src,C.P.underlying a with
  |some (some (.lst _ _ c)),some (.slice E),some .string=>
   match C.P.underlying E with
   |some (.int .u8)=>∃b:ci,c=aU b/\K (σ.put o.dst (.at (.val (.string ⟨b.toArray⟩))))
   |_=>False
  |_,_,_=>False
 |_=>vZ C o σ K
def oB(σ:St):cz->ck
 |[]=>[]
 |x::r=>match σ.ev x with
  |.at (.ptr k _)=>match(oB σ r).contains k with|true=>oB σ r|false=>k::oB σ r
  |_=>oB σ r
def Fv(σ:St)(K:St->Prop):ck->Prop
 |[]=>K σ
 |k::ks=>
  match nth σ.own k with
  |some (some (.cellsP _ T c))=>
   match tX c with
   |some l=>
    ∀(b:Nat)(a:MH),bW σ.m σ.h b->gG σ.m a b (.cells l.toArray T (0,0))->
     Fv {(σ.sub k (λ |.ptr _ o=>.val (.pointer (some ⟨b,o,none⟩))|_=>.junk)).setOwn k none with m:=a} K ks
   |none=>False
  |_=>False
def qS(P:Program)(σ:St)(mv:ck):Nat->cz->dg->Option cq
 |_,[],_=>some []
 |i,x::r,b=>
  match qS P σ mv (i+1) r b.tail with
  |none=>none
  |some a=>
   match mv.contains i with
   |true=>match σ.ev x with
    |.at (.lst k)=>match nth σ.own k with
     |some (some (.lst E c d))=>some (.lst E c d::a)
     |_=>none
    |.at (.val (.slice none 0 0))=>match elemOf P (b.headD 0)with
     |some (E,_)=>some (.lst E (P.cellsOf E) []::a)
     |none=>none
    |_=>none
   |false=>match(σ.ev x).val? with
    |some u=>some (.val u::a)
    |none=>none
def jH(σ:St)(mv:ck):Nat->cz->ck
 |_,[]=>[]
 |i,x::r=>match mv.contains i,σ.ev x with
  |true,.at (.lst k)=>k::jH σ mv (i+1) r
  |_,_=>jH σ mv (i+1) r
def Ey(mv:ck):Nat->cz->cz
 |_,[]=>[]
 |i,x::r=>match mv.contains i with
  |true=>Ey mv (i+1) r
  |false=>x::Ey mv (i+1) r
def Bj(σ:St):ck->St
 |[]=>σ
 |k::ks=>Bj (σ.kill k) ks
def Dv:cq->Option (List (Sum At cr))
 |[]=>some []
 |.val v::r=>match Dv r with|some l=>some (.inl (.val v)::l)|none=>none
 |_::_=>none
def bEJ(o:Oper)(σ:St)(a:ck)(K:St->Prop)(r:CV)(m:MH)(h:PH):Prop:=
 match r with
 |.val v=>K ({σ with m:=m,h:=h}.put o.dst (.at (.val v)))
 |.lst E b c=>match o.dst with
  |some d=>K ((({σ with m:=m,h:=h}.kill (a.headD d)).setOwn (a.headD d) (some (.lst E b c))).put (some d) (.at (.lst (a.headD d))))
  |none=>False
 |.tup e=>match Dv e with
  |some l=>K ({σ with m:=m,h:=h}.put o.dst (.tup l))
  |none=>False
def Ki:ck->Bool
 |[]=>true
 |x::r=>match r.contains x with|true=>false|false=>Ki r
def GG(C:Ctx)(f:Nat):ck:=match assoc C.moves f with|some l=>l|none=>[]
def YQ(C:Ctx)(o:Oper)(f:FuncId)(args:cz)(ts:dg)(σ:St)(K:St->Prop):Prop:=
 match assoc C.specs f with
 |none=>False
 |some S=>
  uE σ (λτ=>Fv τ (λυ=>
   match qS C.P υ (GG C f) 0 args ts,Ki (jH υ (GG C f) 0 args)with
   |some a,true=>S a υ.m υ.h (bEJ o (Bj υ (jH υ (GG C f) 0 args)) (jH υ (GG C f) 0 args) K)
   |_,_=>False) (oB τ args))
   (Fh σ (Ey (GG C f) 0 args))
structure StructEq(P:Program)(T:TypeId)(x y:Value)(r:Bool):Prop where
 guard:P.eqGuardType P.depth T=false
 eq:∀w,(Op.equalIn 10000 T x y).run P w= .ok r w
def Dx(C:Ctx)(o:Oper)(neg:Bool)(T:TypeId)(x y:Operand)(σ:St)(K:St->Prop):Prop:=
 match(σ.ev x).val?,(σ.ev y).val? with
 |some (.agg a),some (.agg b)=>∃r,StructEq C.P T (.agg a) (.agg b) r/\K (σ.put o.dst (.at (.val (.bool (match neg with|true=> !r|false=>r)))))
 |_,_=>False
structure mJ(m:MH)(b:Nat)(kvs:cd):Prop where
 ex:∃(es:Array MapEntry)(clock:Nat),m b=some (.map es clock)/\es.toList.map (λe=>(e.key,e.val))=kvs
structure KeyLaw(P:Program)(kt:TypeId)(Ok:Value->Prop):Prop where
 under:∃d,P.underlying kt=some d
 check:∀v w b,Ok v->(Instr.checkKey b 10000 kt v).run P w= .ok () w
 eq:∀x y w,Ok x->Ok y->∃r,(Op.equal kt x y).run P w= .ok r w/\(r=true↔x=y)
 now:∀d x y r,P.underlying kt=some d->Ok x->Ok y->Instr.sameNow d x y=some r->(r=true↔x=y)
structure iH(m m':MH)(b:Nat):Prop where
 other:∀b',b'≠b->m' b'=m b'
def Kp(o:Oper)(r:Option Operand)(σ:St)(K:St->Prop):Prop:=
 match r with
 |none=>∀(b:Nat)(a:MH),bW σ.m σ.h b->gG σ.m a b (.map #[] 0)->K ({σ with m:=a}.put o.dst (.at (.val (.map (some b)))))
 |some _=>False
def SA(P:Program)(T:TypeId):Option Value:=
 match P.info? T with
 |some i=>match i.zero with
  |some (.int k n)=>some (.int k n)
  |some (.bool b)=>some (.bool b)
  |some (.slice none 0 0)=>some (.slice none 0 0)
  |_=>none
 |none=>none
def only:bm->Value
 |[u]=>u
 |_=>undef
def Og(C:Ctx)(o:Oper)(T:TypeId)(x k:Operand)(ok:Bool)(σ:St)(K:St->Prop):Prop:=
 match C.P.underlying T,σ.ev x,(σ.ev k).val? with
 |some (.map f c),.at (.val (.map (some b))),some d=>
  match SA C.P c with
  |some z=>
   ∃(a:List (Value×(C.dec c).X))(Ok:Value->Prop),mJ σ.m b (a.map λp=>(p.1,only ((C.dec c).enc p.2)))/\KeyLaw C.P f Ok/\Ok d/\(∀e∈a,Ok e.1)/\
    ((∀e∈a,e.1≠d)->K (σ.put o.dst (match ok with|true=>.tup [.inl (.val z),.inl (.val (.bool false))]|false=>.at (.val z))))/\
    ∀y,(d,y)∈a->match(C.dec c).enc y with
     |[u]=>K (σ.put o.dst (match ok with|true=>.tup [.inl (.val u),.inl (.val (.bool true))]|false=>.at (.val u)))
     |_=>False
  |none=>False
 |_,_,_=>False
def CI(C:Ctx)(T:TypeId)(x k v:Operand)(σ:St)(K:St->Prop):Prop:=
 match C.P.underlying T,σ.ev x,(σ.ev k).val?,(σ.ev v).val? with
 |some (.map f _),.at (.val (.map (some b))),some c,some u=>
  ∃(a:cd)(Ok:Value->Prop),mJ σ.m b a/\KeyLaw C.P f Ok/\Ok c/\(∀e∈a,Ok e.1)/\(∀e∈a,e.1≠c)/\
   ∀d:MH,iH σ.m d b->mJ d b (a++[(c,u)])->K {σ with m:=d}
 |_,_,_,_=>False
structure mH(m:MH)(b:Nat)(kvs:cd):Prop where
 ex:∃(es:Array MapEntry)(clock:Nat),m b=some (.map es clock)/\es.toList.map (λe=>(e.key,e.val))=kvs/\(∀e∈es.toList,e.born<clock)/\(es.toList.map (·.born)).Nodup
def Jg(C:Ctx)(T:TypeId)(x k v:Operand)(σ:St)(K:St->Prop):Prop:=
 match C.P.underlying T,σ.ev x,(σ.ev k).val?,(σ.ev v).val? with
 |some (.map h _),.at (.val (.map (some b))),some c,some u=>
  ∃(a:cd)(Ok:Value->Prop),mH σ.m b a/\KeyLaw C.P h Ok/\Ok c/\Instr.sameBits 10000 c c=true/\(∀e∈a,Ok e.1)/\
   ((∀e∈a,e.1≠c)->∀d:MH,iH σ.m d b->mH d b (a++[(c,u)])->K {σ with m:=d})/\
   ∀(f:cd)(i:Value)(g:cd),a=f++(c,i)::g->∀d:MH,iH σ.m d b->mH d b (f++(c,u)::g)->K {σ with m:=d}
 |_,_,_,_=>False
structure kE(m:MH)(b r:Nat)(kvs left:cd):Prop where
 ex:∃(es:Array MapEntry)(clock since:Nat)(seen:Array Nat)(c0:Nat),m b=some (.map es clock)/\es.toList.map (λe=>(e.key,e.val))=kvs/\(∀e∈es.toList,e.born<clock)/\(es.toList.map (·.born)).Nodup/\
  m r=some (.mapIter (some b) since seen c0)/\(∀e∈es.toList,e.born<since)/\since<=c0/\since<=clock/\(es.toList.filter λe=> !seen.contains e.born).map (λe=>(e.key,e.val))=left
structure CT(m:MH)(b r:Nat)(kvs left:cd)(x:Value×Value):Prop where
 it:kE m b r kvs left
 ex:∃(es:Array MapEntry)(clock since:Nat)(seen:Array Nat)(e:MapEntry),m b=some (.map es clock)/\(es.toList.map (·.born)).Nodup/\m r=some (.mapIter (some b) since (seen.push e.born) clock)/\e∈es.toList/\x=(e.key,e.val)
def SR(C:Ctx)(o:Oper)(T:TypeId)(x:Operand)(σ:St)(K:St->Prop):Prop:=
 match C.P.underlying T,σ.ev x with
 |some .string,.at (.val (.string s))=>
  ∀(b:Nat)(c:MH),bW σ.m σ.h b->gG σ.m c b (.stringIter s 0)->K ({σ with m:=c}.put o.dst (.at (.val (.pointer (some ⟨b,0,none⟩)))))
 |some (.map _ _),.at (.val (.map (some b)))=>
  ∃a:cd,mH σ.m b a/\∀(r:Nat)(c:MH),bW σ.m σ.h r->iH σ.m c r->kE c b r a a->K ({σ with m:=c}.put o.dst (.at (.val (.pointer (some ⟨r,0,none⟩)))))
 |_,_=>False
def WU(o:Oper)(x:Operand)(c:Bool)(σ:St)(K:St->Prop):Prop:=
 match σ.ev x,c with
 |.at (.val (.pointer (some ⟨b,0,none⟩))),true=>
  ∃(s:ByteArray)(a:Nat),Lo σ.m b (.stringIter s a)/\
   (s.size<=a->K (σ.put o.dst (.tup [.inl (.val (.bool false))])))/\
   (a<s.size->∀d:MH,gG σ.m d b (.stringIter s (a+(Utf8.decode s a).2))->
    K ({σ with m:=d}.put o.dst (.tup [.inl (.val (.bool true)),.inl (.val (.int .i64 a)),.inl (.val (.int .i32 (Utf8.decode s a).1))])))
 |.at (.val (.pointer (some ⟨r,0,none⟩))),false=>
  ∃(b:Nat)(e left:cd),kE σ.m b r e left/\
   (left=[]->K (σ.put o.dst (.tup [.inl (.val (.bool false))])))/\
   ∀(f:cd)(x:Value×Value)(g:cd),left=f++x::g->∀d:MH,iH σ.m d r->CT d b r e (f++g) x->
    K ({σ with m:=d}.put o.dst (.tup [.inl (.val (.bool true)),.inl (.val x.1),.inl (.val x.2)]))
 |_,_=>False
def Tu(C:Ctx)(o:Oper)(x:Operand)(σ:St)(K:St->Prop):Prop:=
 match σ.ev x with
 |.at (.val (.pointer (some ⟨r,0,none⟩)))=>∃(b:Nat)(c left:cd)(x:Value×Value),CT σ.m b r c left x/\
  match PU C.heapT 410000 with
  |true=>∃s:Sl,x.2=Sl.val s/\K (σ.put o.dst (.tup [.inl (.val x.1),.inl (.val (.slice s.a s.len s.cap))]))
  |false=>K (σ.put o.dst (.tup [.inl (.val x.1),.inl (.val x.2)]))
 |_=>False
def afQ(σ:St)(x v:Operand):ck:=match σ.ev x with|.at (.ptr _ _)=>[]|_=>(σ.ev v).keys
def FE(C:Ctx)(o:Oper)(T:TypeId):ck:=match o.dst with|some d=>(match PU C.heapT T||PU C.heapT (200000+d)with|true=>[d]|false=>[])|none=>[]
def bUX(C:Ctx)(o:Oper)(T:TypeId):Bool:=match FE C o T with|[]=>false|_=>true
def Zx(C:Ctx)(o:Oper)(τ:St):ck:=match o.dst with|some d=>(match PU C.heapT (100000+d)with|true=>(τ.ev (.tmp d)).keys|false=>[])|none=>[]
structure Ws(w:World)(m:MH)(h:PH):Prop where
 hsat:∀b o v,h b o=some v->w.cell? ⟨b,o,none⟩=some v
 msat:∀b o,m b=some o->w.heap[b]? =some o
 disj:∀b o,m b=some o->∀i,h b i=none
structure PD(w:World)(m:MH)(h:PH)(m':MH)(h':PH)(w':World):Prop where
 tape:w'.tape=w.tape
 os:w'.os=w.os
 output:w'.output=w.output
 drawn:w.drawn<=w'.drawn
 size:w.heap.size<=w'.heap.size
 frame:∀b,b<w.heap.size->m b=none->w'.heap[b]? =w.heap[b]?
 heapy:Ws w' m' h'
 hle:PH.le h h'
 hold:∀b,b<w.heap.size->m b=none->h' b=h b
 mfr:∀b o,m' b=some o->w.heap.size<=b\/m b≠none
def valOf(P:Program)(T:TypeId)(cs:bm):Value:=
 match BJ P T with
 |true=>.agg cs.toArray
 |false=>match cs with|[x]=>x|_=>undef
structure FAt(P:Program)(f:FuncId)(T:TypeId)(cvs:cq)(m:MH)(h:PH)(R:bm->MH->PH->Prop):Prop where
 fn:∃fn,P.funcs[f]? =some fn/\fn.body.isSome=true/\(fn.name== "runtime.NumGoroutine")=false
 go:∀(vs:bm)(w:World),cvs=vs.map .val->Ws w m h->Calls P f vs.toArray w λe w'=>∃l m' h',e= .returned (valOf P T l)/\R l m' h'/\PD w m h m' h' w'
def Nj:cq->bm->cq
 |[],l=>l.map .val
 |c::r,l=>c::Nj r l
def bWX:dg->Option TypeId
 |[]=>none
 |x::r=>match Nat.ble 510000 x with|true=>some (Nat.sub x 510000)|false=>bWX r
def b0J(C:Ctx):Operand->Option TypeId
 |.tmp _=>bWX C.heapT
 |_=>none
def a5J(C:Ctx)(o:Oper)(T:TypeId)(f:FuncId)(a:bm)(args:cz)(σ:St)(K:St->Prop):Prop:=
 match qS C.P σ [] 0 args []with
 |some b=>∃R:(C.dec T).X->MH->PH->Prop,FAt C.P f T (Nj b a) σ.m σ.h (λl m h=>∃x,l=(C.dec T).enc x/\R x m h)/\
  ∀(x:(C.dec T).X)(m:MH)(h:PH),R x m h->K ({σ with m:=m,h:=h}.put o.dst (mk C.P T (((C.dec T).enc x).map .val)))
 |none=>False
def PT(C:Ctx)(o:Oper)(σ:St)(K:St->Prop):Prop:=
 match o.op with
 |.move x=>K (σ.put o.dst (σ.ev x))
 |.assign x=>K (σ.put o.dst (σ.ev x))
 |.pick c a b=>WO o c a b σ K
 |.alloc T=>TB C o T σ (λτ=>Fv τ K (FE C o T))
 |.box T x=>match bUX C o T with
  |true=>uE σ (λτ=>ZX o T x τ (λυ=>Fv υ K (FE C o T))) (σ.ev x).keys
  |false=>ZX o T x σ K
 |.build T h=>Ty C o T h.toList σ K
 |.buildSlice T n h=>EN C o T n h.toList σ (λτ=>Dj τ (λυ=>uE υ K (Zx C o υ)) (FE C o T))
 |.load T x=>WX C o T x σ K
 |.store T x v=>match o.dst with|none=>uE σ (λτ=>SJ C T x v τ K) (afQ σ x v)|some _=>False
 |.makeFunc _ _ e=>Fv σ (λτ=>vZ C o τ K) (oB σ e.toList)
 |.nilCheck x=>Hx o x σ K
 |.binOp .quo _ x y _=>ZS o .quo x y σ K
 |.binOp .rem _ x y _=>ZS o .rem x y σ K
 |.binOp .eql T x y _=>match BJ C.P T with|true=>Dx C o false T x y σ K|false=>vZ C o σ K
 |.binOp .neq T x y _=>match BJ C.P T with|true=>Dx C o true T x y σ K|false=>vZ C o σ K
 |.binOp .add _ x y _=>Pd C o x y σ K
 |.binOp .. =>vZ C o σ K
 |.unOp .. =>vZ C o σ K
 |.convert s d x=>Lb C o s d x σ K
 |.makeSlice T l c=>Ft C o T l c σ (λτ=>Dj τ K (FE C o (2000+T)))
 |.slice T x m p q=>SM C o T x m p q σ K
 |.fieldAddr T x f=>FH C o T x f σ K
 |.field T x f=>Tp C o T x f σ K
 |.indexAddr T x i=>FA C o T x i σ K
 |.index T x i=>Th C o T x i σ K
 |.extract x i=>K8 C o x i σ K
 |.makeMap _ r=>Kp o r σ K
 |.lookup T x k ok=>Og C o T x k ok σ K
 |.mapUpdate T x k v=>match o.dst with|none=>(match PU C.heapT 400000 with|true=>Jg C T x k v σ K|false=>CI C T x k v σ K)|some _=>False
 |.range T x=>SR C o T x σ K
 |.next x b=>WU o x b σ K
 |.entry x=>Tu C o x σ K
 |.call c=>match c.callee with
  |.builtin .len=>match c.args.toList with
   |[x]=>aMQ C o x c.argTypes.toList σ K
   |_=>False
  |.builtin .append=>match c.args.toList,c.argTypes.toList with
   |[x,y],[T,t]=>Pj C o T t x y σ (λτ=>uE τ K (Zx C o τ))
   |_,_=>False
  |.builtin .cap=>vZ C o σ K
  |.builtin .min=>vZ C o σ K
  |.builtin .max=>vZ C o σ K
  |.builtin _=>False
  |.value g=>match σ.ev g with
   |.at (.val (.func (.func f) j e))=>match b0J C g with
    |some T=>match j.toList with
     |[]=>a5J C o T f e.toList c.args.toList σ K
     |_=>False
    |none=>match j.toList,e.toList with
     |[],[]=>YQ C o f c.args.toList c.argTypes.toList σ K
     |_,_=>False
   |_=>False
  |.invoke .. =>False
 |_=>False
def setTmp(σ:St)(c:Operand)(b:Bool):St:=
 match c with
 |.tmp t=>{σ with sl:=σ.sl.set t (.at (.val (.bool b)))}
 |_=>σ
def Oo(f:Oper->St->(St->Prop)->Prop)(ops:Array Oper)(o:Oper)(σ:St)(K:St->Prop):Prop:=
 match o.guard with
 |none=>f o σ K
 |some (j,a)=>
  match nth ops.toList j with
  |none=>False
  |some g=>match g.dst with
   |none=>False
   |some d=>match σ.ev (.tmp d)with
    |.at (.val (.bool t))=>
     branch t
      (match a with|true=>f o (setTmp σ (.tmp d) true) K|false=>K ((setTmp σ (.tmp d) true).put o.dst (.at (.val undef))))
      (match a with|false=>f o (setTmp σ (.tmp d) false) K|true=>K ((setTmp σ (.tmp d) false).put o.dst (.at (.val undef))))
    |.at (.val (.tuple _))=>K (σ.put o.dst (.at (.val undef)))
    |_=>False
def Tl(C:Ctx)(ops:Array Oper)(o:Oper)(σ:St)(K:St->Prop):Prop:=Oo (PT C) ops o σ K
structure Li(P:Program)(S:Spec):Prop where
 go:∀(l:Nat)(vs:bm)(m:MH)(h:PH)(w:World)(K:bo),S (.val (.func (.yield l) #[] #[])::vs.map .val) m h K->Ws w m h->
  ∃fn tmps assign body,(Instr.yield l vs.toArray).run P w= .ok (.round l fn tmps assign body) w/\
   RoundIn Fence.wide 0 P l fn tmps assign body w λe w'=>∃u m' h',e= .returned u/\K (.val u) m' h'/\PD w m h m' h' w'
def SC(C:Ctx)(o:Oper)(v:Value)(args:cz)(σ:St)(K:St->Prop):Prop:=
 match C.yield with
 |none=>False
 |some S=>
  match qS C.P σ [] 0 args []with
  |some a=>Li C.P S/\S (.val v::a) σ.m σ.h (λr m h=>match r with
   |.val u=>K ({σ with m:=m,h:=h}.put o.dst (.at (.val u)))
   |_=>False)
  |none=>False
def Qo(C:Ctx)(o:Oper)(σ:St)(K:St->Prop):Prop:=
 match o.op with
 |.call c=>match c.callee with
  |.value g=>match σ.ev g with
   |.at (.val (.func (.yield l) a b))=>match a.toList,b.toList with
    |[],[]=>SC C o (.func (.yield l) #[] #[]) c.args.toList σ K
    |_,_=>False
   |_=>PT C o σ K
  |_=>PT C o σ K
 |_=>PT C o σ K
def Qf(C:Ctx)(ops:Array Oper):List Oper->St->(St->Prop)->Prop
 |[],σ,K=>K σ
 |o::r,σ,K=>Oo (Qo C) ops o σ (λτ=>Qf C ops r τ K)
def AP(P:Program)(o:Oper):Bool:=
 match o.op with
 |.load .. =>true
 |.convert src _ _=>match P.underlying src with
  |some (.slice _)=>true
  |_=>false
 |_=>false
def EA:Op->Bool
 |.move _|.assign _|.pick .. |.build .. |.load .. |.nilCheck _|.unOp .. |.fieldAddr .. |.field .. |.indexAddr .. |.index .. |.extract .. =>true
 |.binOp .. =>true
 |.convert .. =>true
 |.call {callee:=.builtin .len,.. }=>true
 |.call {callee:=.builtin .min,.. }=>true
 |.call {callee:=.builtin .max,.. }=>true
 |_=>false
def GL(ops:Array Oper):ck->Option (Nat×Oper)
 |[]=>none
 |i::r=>match nth ops.toList i with
  |some o=>match EA o.op with|true=>some (i,o)|false=>GL ops r
  |none=>GL ops r
def waits(a:Oper)(i:Nat):Bool:=a.after.toList.any λe=>Region.binds .any e&&Nat.beq e.on i
def yT(σ:St)(a:Oper)(k:Nat):Bool:=
 (match a.dst with|some d=>Nat.beq d k|none=>false)||
 match a.op with
 |.store _ x _=>match σ.ev x with
  |.at (.ptr j _)=>Nat.beq j k
  |_=>false
 |.call c=>match c.callee with
  |.value _=>(oB σ c.args.toList).contains k
  |_=>false
 |_=>false
def Ac(ops:Array Oper)(σ:St)(b:Oper):Bool:=
 match b.guard with
 |none=>false
 |some (j,a)=>match nth ops.toList j with
  |none=>false
  |some g=>match g.dst with
   |none=>false
   |some d=>match σ.ev (.tmp d)with
    |.at (.val (.bool t))=>match t,a with
     |true,false=>true
     |false,true=>true
     |_,_=>false
    |.at (.val (.tuple _))=>true
    |_=>false
def bmQ:Op->Bool
 |.move _=>true
 |_=>false
def bWJ(ops:Array Oper)(ok:Oper)(i:Nat):Bool:=
 waits ok i||ops.toList.zipIdx.any λx=>waits ok x.2&&waits x.1 i
def bNQ(ops:Array Oper):Bool:=
 let l:=ops.toList
 let n:=l.length
 (List.range n).all λi=>match nth l i with
  |none=>true
  |some a=>(a.after.toList.all λe=> !Region.binds .any e||Nat.blt e.on i)&&((List.range n).all λk=>match nth l k with
   |none=>true
   |some ok=>match ok.dst with
    |none=>true
    |some d=>Nat.beq i k|| !(a.dst==some d))&&
   (((List.range n).all λk=>match nth l k with
   |none=>true
   |some ok=>match ok.dst with
    |none=>true
    |some d=> !(a.looksAt ops).contains d||waits a k)||
   (bmQ a.op&&(List.range n).all λk=>match nth l k with
   |none=>true
   |some ok=>match ok.dst with
    |none=>true
    |some d=> !(a.looksAt ops).contains d||bWJ ops ok i))
def Au:Op->Bool
 |.alloc _|.box .. |.buildSlice .. |.makeSlice .. |.makeMap .. |.lookup .. =>true
 |_=>false
def sF(o:Oper):Option cz:=
 match o.op with
 |.call c=>match c.callee with
  |.value _=>some c.args.toList
  |_=>none
 |_=>none
def G5(σ:St)(k:Nat):cz->Bool
 |[]=>true
 |x::r=>(match σ.ev x with
  |.at (.lst j)=>match nth σ.own j with|some (some _)=> !Nat.beq j k|_=>false
  |.at (.ptr j _)=>match nth σ.own j with|some (some _)=> !Nat.beq j k|_=>false
  |_=>true)&&G5 σ k r
def TA(σ:St)(a:Oper)(k:Nat):Bool:=
 Au a.op||match sF a with|some l=>G5 σ k l|none=>false
def LB(P:Program)(p:Bool)(σ:St)(f g:Oper)(K:Prop):Prop:=
 match AP P g with
 |false=>K
 |true=>
  match g.op with
  |.load T x=>match iR P T with
   |false=>False
   |true=>match σ.ev x,g.dst with
    |.at (.ptr k a),_=>match nth σ.own k with
     |some (some (.cellsP _ _ c))=>match yT σ f k,Nat.ble (a+P.cellsOf T) c.length with
      |false,true=>K
      |_,_=>False
     |_=>False
    |.at (.val (.pointer (some ⟨b,o,none⟩))),some d=>match(σ.ev (.tmp d)).cells? with
     |some c=>match tX c with
      |some l=>match Nat.beq l.length (P.cellsOf T)with
       |true=>match Au f.op||p with
        |true=>aJ σ.m σ.h b o l/\K
        |false=>bT σ.h b o l/\K
       |false=>False
      |none=>False
     |none=>False
    |.at (.el k i q a),some d=>match nth σ.own k,(σ.ev (.tmp d)).cells? with
     |some (some (.lst _ s j)),some c=>match tX c,Nat.beq s q,TA σ f k with
      |some l,true,true=>match Nat.beq l.length (P.cellsOf T)with
       |true=>(∃e:bm,j[i]? =some e/\(e.drop a).take (P.cellsOf T)=l)/\K
       |false=>False
      |_,_,_=>False
     |_,_=>False
    |_,_=>False
  |.convert src n x=>match σ.ev x,g.dst with
   |.at (.lst k),some d=>match nth σ.own k,σ.ev (.tmp d)with
    |some (some (.lst _ _ j)),.at (.val (.string s))=>match P.underlying src,P.underlying n with
     |some (.slice E),some .string=>match P.underlying E with
      |some (.int .u8)=>match TA σ f k with
       |true=>j=fB s/\K
       |false=>False
      |_=>False
     |_,_=>False
    |_,_=>False
   |_,_=>False
  |_=>False
def JZ(P:Program)(c:Bool)(ops:Array Oper)(a:Array Bool)(σ:St)(b:Oper):Nat->List Oper->Prop->Prop
 |_,[],K=>K
 |i,d::r,K=>
  match a.getD i false,EA d.op,waits b i,Ac ops σ d with
  |true,true,false,false=>LB P c σ b d (JZ P c ops a σ b (i+1) r K)
  |_,_,_,_=>JZ P c ops a σ b (i+1) r K
def H4(σ:St)(c a:Oper)(τ:St)(K:Prop):Prop:=
 match a.op with
 |.load _ x=>match σ.ev x,a.dst with
  |.at (.val (.pointer (some ⟨b,o,none⟩))),some d=>match(σ.ev (.tmp d)).cells? with
   |some e=>match tX e with
    |some l=>match Au c.op with
     |true=>K
     |false=>aJ τ.m τ.h b o l/\K
    |none=>K
   |none=>K
  |_,_=>K
 |_=>K
def FZ(ops:Array Oper)(a:Array Bool)(σ:St)(b:Oper)(τ:St):Nat->List Oper->Prop->Prop
 |_,[],K=>K
 |i,c::r,K=>
  match a.getD i false,EA c.op,waits b i,Ac ops σ c with
  |true,true,false,false=>H4 σ b c τ (FZ ops a σ b τ (i+1) r K)
  |_,_,_,_=>FZ ops a σ b τ (i+1) r K
def YU(C:Ctx):Bool:=PU C.heapT 0
def JO(C:Ctx)(ops:Array Oper)(a:Array Bool)(σ:St)(b:Oper)(τ:St)(K:Prop):Prop:=match YU C with|true=>FZ ops a σ b τ 0 ops.toList K|false=>K
def a7X(g:Nat->Prop):ck->Prop
 |[]=>True
 |[j]=>g j
 |j::r=>g j/\a7X g r
def CO(C:Ctx)(ops:Array Oper):Nat->Array Bool->St->(St->Prop)->Prop
 |0,a,σ,K=>match Region.ready .any ops a with|[]=>K σ|_=>False
 |n+1,a,σ,K=>
  match Region.ready .any ops a with
  |[]=>K σ
  |rs=>match GL ops rs with
   |some (i,o)=>Tl C ops o σ (λτ=>CO C ops n (a.setIfInBounds i true) τ K)
   |none=>
    a7X (λj=>match nth ops.toList j with
     |some o=>JZ C.P (YU C) ops a σ o 0 ops.toList (Tl C ops o σ (λτ=>JO C ops a σ o τ (CO C ops n (a.setIfInBounds j true) τ K)))
     |none=>False) rs
def kV:Code->Option Nat
 |.region id _ _=>some id
 |.seq a b=>match kV a with|some i=>some i|none=>kV b
 |.cond _ a b=>match kV a with|some i=>some i|none=>kV b
 |.block _ a=>kV a
 |.loop a=>kV a
 |.scope a=>kV a
 |_=>none
def CH:dd->dd->Prop->Prop
 |[],[],K=>K
 |x::xs,.at .junk::ys,K=>match x with|_=>CH xs ys K
 |x::xs,y::ys,K=>x=y/\CH xs ys K
 |_,_,_=>False
def xD:db->db->Prop->Prop
 |[],[],K=>K
 |_::xs,none::ys,K=>xD xs ys K
 |x::xs,some y::ys,K=>x=some y/\xD xs ys K
 |_,_,_=>False
def Tw(τ:St):dd->Nat->St->St
 |[],_,σ=>σ
 |y::ys,i,σ=>
  Tw τ ys (i+1) (match y with
   |.at (.lst k)=>match nth σ.sl i with
    |some (.at (.val (.slice none 0 0)))=>match nth τ.own k,nth σ.own k with
     |some (some (.lst E a _)),some none=>((σ.kill k).setOwn k (some (.lst E a []))).put (some i) (.at (.lst k))
     |_,_=>σ
    |_=>σ
   |_=>σ)
def Hn(σ:St)(q j:Nat)(x:At):St:=
 match nth σ.own q with
 |some (some (.cellsP p T a))=>σ.setOwn q (some (.cellsP p T (a.set j x)))
 |_=>σ
def G2(τ:St)(q:Nat):cr->Nat->St->St
 |[],_,σ=>σ
 |y::ys,j,σ=>
  G2 τ q ys (j+1) (match y with
   |.lst k=>match nth σ.own q with
    |some (some (.cellsP _ _ a))=>match nth a j with
     |some (.val (.slice none 0 0))=>match nth τ.own k,nth σ.own k with
      |some (some (.lst E b _)),some none=>Hn ((σ.kill k).setOwn k (some (.lst E b []))) q j (.lst k)
      |_,_=>σ
     |_=>σ
    |_=>σ
   |_=>σ)
def Nh(τ:St):db->Nat->St->St
 |[],_,σ=>σ
 |y::ys,q,σ=>
  Nh τ ys (q+1) (match y with
   |some (.cellsP _ _ a)=>G2 τ q a 0 σ
   |_=>σ)
def conv(σ τ:St):St:=Nh τ τ.own 0 (Tw τ τ.sl 0 σ)
def xB(σ τ:St)(K:Prop):Prop:=
 CH (conv σ τ).sl τ.sl (xD (conv σ τ).own τ.own ((conv σ τ).m=τ.m/\(conv σ τ).h=τ.h/\K))
structure HT(m:MH)(h:PH):Prop where
 disj:∀b o,m b=some o->∀i,h b i=none
structure FV(m:MH)(h:PH)(m2:MH)(h2:PH):Prop where
 sub:∀b o,m2 b=some o->m b=some o
 le:PH.le h h2
 new:∀b i v,h2 b i=some v->h b i=some v\/∃cs E fz,m b=some (.cells cs E fz)/\cs[i]? =some v/\m2 b=none
def S8(σ τ:St)(K:Prop):Prop:=
 CH (conv σ τ).sl τ.sl (xD (conv σ τ).own τ.own (FV (conv σ τ).m (conv σ τ).h τ.m τ.h/\K))
def Ic(c:tL)(R:c.A->Prop)(τ:St):Prop:=match c.frz with
 |false=>∃x,R x/\xB τ (c.st x) True
 |true=>HT τ.m τ.h->∃x,R x/\S8 τ (c.st x) True
def TC(c:tL)(I:c.A->Prop)(S:c.A->Prop)(τ:St):Prop:=match c.frz with
 |false=>∃x,I x/\S x/\xB τ (c.st x) True
 |true=>HT τ.m τ.h->∃x,I x/\S x/\S8 τ (c.st x) True
def uG{α:Type}(d:α)(l:List (Nat×α)):Nat->Nat->List α
 |0,_=>[]
 |n+1,i=>(match assoc l i with|some x=>x|none=>d)::uG d l n (i+1)
def bO(n a:Nat)(sl:dk)(own:List (Nat×Own))(m:MH)(h:PH):St:=
 {sl:=uG (.at .junk) sl n 0,own:=uG none (own.map λp=>(p.1,some p.2)) a 0,m:=m,h:=h}
def ZU(C:Ctx)(b:Code):Option Y7:=match kV b with|some i=>assoc C.cuts i|none=>none
def bOZ(C:Ctx)(b:Code):Option No:=match kV b with|some i=>assoc C.loops i|none=>none
def Pc(C:Ctx)(b:Code):Option tL:=match kV b with|some i=>assoc C.cuts2 i|none=>none
def blZ(C:Ctx)(b:Code):Option tL:=match kV b with|some i=>assoc C.loops2 i|none=>none
def Zh(C:Ctx)(ops:Array Oper):da->List Oper->St->(St->Prop)->Prop
 |[],l,σ,K=>Qf C ops l σ K
 |(n,a)::r,l,σ,K=>∃I:a.A->Prop,Qf C ops (l.take n) σ (λτ=>∃x,I x/\xB τ (a.st x) True)/\∀x,I x->Zh C ops r (l.drop n) (a.st x) K
def J5(C:Ctx)(id:Nat):da:=match assoc C.rcuts id with|some l=>l|none=>[]
def VC(C:Ctx):Code->St->(Az->St->Prop)->Prop
 |.skip,σ,Q=>Q .normal σ
 |.label _,σ,Q=>Q .normal σ
 |.region id d false,σ,Q=>Zh C d (J5 C id) d.toList σ (Q .normal)
 |.region _ d true,σ,Q=>match bNQ d,Region.noSelect d,C.P.follows .mixedOrders with
  |true,true,true=>CO C d d.size (Array.replicate d.size false) σ (Q .normal)
  |_,_,_=>False
 |.seq a b,σ,Q=>
  match ZU C b with
  |some c=>VC C a σ (λe τ=>match e with
   |.normal=>∃x,c.inv x/\xB τ (c.st x) True
   |e=>Q e τ)/\∀x,c.inv x->VC C b (c.st x) Q
  |none=>match Pc C b with
   |some c=>∃I:c.A->Prop,VC C a σ (λe τ=>match e with
    |.normal=>Ic c I τ
    |e=>Q e τ)/\∀x,I x->VC C b (c.st x) Q
   |none=>VC C a σ (λe τ=>match e with
    |.normal=>VC C b τ Q
    |e=>Q e τ)
 |.cond c x y,σ,Q=>
  match σ.ev c with
  |.at (.val (.bool t))=>branch t (VC C x (setTmp σ c true) Q) (VC C y (setTmp σ c false) Q)
  |_=>False
 |.block id c,σ,Q=>
  VC C c σ (λe τ=>match e with
   |.exit i=>match Nat.beq i id with|true=>Q .normal τ|false=>Q (.exit i) τ
   |e=>Q e τ)
 |.loop c,σ,Q=>
  match bOZ C c with
  |some l=>
   (∃x,l.inv x/\xB σ (l.st x) True)/\
   ∀x,l.inv x->VC C c (l.st x) (λe τ=>match e with
    |.normal=>∃y,l.inv y/\l.mu y<l.mu x/\xB τ (l.st y) True
    |e=>Q e τ)
  |none=>match blZ C c with
   |some l=>∃(I:l.A->Prop)(f:l.A->Nat),
    Ic l I σ/\
    ∀x,I x->VC C c (l.st x) (λe τ=>match e with
     |.normal=>TC l I (λy=>f y<f x) τ
     |e=>Q e τ)
   |none=>False
 |.exit id,σ,Q=>Q (.exit id) σ
 |.ret,σ,Q=>Q .ret σ
 |_,_,_=>False
def Zk(C:Ctx)(σ:St):ResultVar->Option SV
 |.tmp t=>some (σ.ev (.tmp t))
 |.cell a T=>match σ.ev (.tmp a)with
  |.at (.ptr k b)=>match nth σ.own k with
   |some (some (.cellsP _ _ c))=>match Nat.ble (b+C.P.cellsOf T) c.length,iR C.P T with
    |true,true=>some (mk C.P T ((c.drop b).take (C.P.cellsOf T)))
    |_,_=>none
   |_=>none
  |_=>none
def Hr(C:Ctx)(σ:St):List ResultVar->Option dd
 |[]=>some []
 |r::rs=>match Zk C σ r,Hr C σ rs with
  |some x,some l=>some (x::l)
  |_,_=>none
def Zt:dd->ck
 |[]=>[]
 |x::r=>x.keys++(Zt r).filter (λk=> !x.keys.contains k)
def Dp(P:Program)(σ:St)(mv:Bool):dd->dg->Option cq
 |[],_=>some []
 |x::r,a=>match Dp P σ mv r a.tail with
  |none=>none
  |some l=>match mv with
   |true=>match x with
    |.at (.lst k)=>match nth σ.own k with
     |some (some (.lst E b c))=>some (.lst E b c::l)
     |_=>none
    |.at (.val (.slice none 0 0))=>match elemOf P (a.headD 0)with
     |some (E,_)=>some (.lst E (P.cellsOf E) []::l)
     |none=>none
    |_=>none
   |false=>match x.val? with
    |some v=>some (.val v::l)
    |none=>none
def Ia:dd->ck
 |[]=>[]
 |.at (.ptr k _)::r=>match(Ia r).contains k with|true=>Ia r|false=>k::Ia r
 |_::r=>Ia r
def Df(C:Ctx)(fn:Func)(K:bo)(σ:St):Prop:=
 match Hr C σ fn.results.toList with
 |none=>False
 |some a=>
  uE σ (λτ=>Fv τ (λυ=>
   match Hr C υ fn.results.toList with
   |none=>False
   |some b=>match Dp C.P υ C.retMove b fn.resultTypes.toList with
    |some [r]=>K r υ.m υ.h
    |some c=>match C.retMove with|true=>False|false=>K (.tup c) υ.m υ.h
    |none=>False) (match C.retMove with|true=>[]|false=>Ia a)) (match C.retMove with|true=>[]|false=>Zt a)
def G1(n:Nat):Nat->cq->dd
 |_,[]=>[]
 |i,.val v::r=>.at (.val v)::G1 n (i+1) r
 |i,.lst _ _ _::r=>.at (.lst (n+i))::G1 n (i+1) r
 |i,.tup _::r=>.at .junk::G1 n (i+1) r
def Av:cq->db
 |[]=>[]
 |.lst E a b::r=>some (.lst E a b)::Av r
 |_::r=>none::Av r
def entry(n:Nat)(args:cq)(m:MH)(h:PH):St:=
 {sl:=G1 n 0 args++replicate (n-args.length) (.at .junk),own:=replicate n none++Av args,m:=m,h:=h}
def sC(C:Ctx)(fn:Func)(c:Code)(σ:St)(K:bo):Prop:=
 VC C c σ (λe τ=>match e with
  |.normal=>Df C fn K τ
  |.ret=>Df C fn K τ
  |_=>False)
end Go.Vc
namespace Go.Vc
open Go List
theorem jB{α:Type}:∀(l:List α)(i:Nat),nth l i=l[i]?
 |[],i=>by simp[nth]
 |x::xs,0=>by simp[nth]
 |x::xs,n+1=>by simp[nth,jB xs n]
def yR(ι:cg):At->Value->Prop
 |.val v,u=>u=v
 |.ptr k o,u=>∃b,ι k= .pointer (some ⟨b,0,none⟩)/\u= .pointer (some ⟨b,o,none⟩)
 |.lst k,u=>u=ι k
 |.el k i a o,u=>∃b n c,ι k= .slice (some ⟨b,0,none⟩) n c/\u= .pointer (some ⟨b,i*a+o,none⟩)
 |.junk,_=>True
def iC(ι:cg):cr->bm->Prop
 |[],[]=>True
 |x::xs,v::vs=>yR ι x v/\iC ι xs vs
 |_,_=>False
def PE(ι:cg):List (Sum At cr)->bm->Prop
 |[],[]=>True
 |.inl x::xs,v::vs=>yR ι x v/\PE ι xs vs
 |.inr b::xs,v::vs=>(∃a:Array Value,v= .agg a/\iC ι b a.toList)/\PE ι xs vs
 |_,_=>False
def Den(ι:cg):SV->Value->Prop
 |.at x,u=>yR ι x u
 |.agg b,u=>∃a:Array Value,u= .agg a/\iC ι b a.toList
 |.tup c,u=>∃a:Array Value,u= .tuple a/\PE ι c a.toList
def DenS(ι:cg):dd->bm->Prop
 |[],[]=>True
 |x::xs,v::vs=>Den ι x v/\DenS ι xs vs
 |_,_=>False
theorem iC.length{ι:cg}:∀{cs:cr}{vs:bm},iC ι cs vs->cs.length=vs.length
 |[],[],_=>rfl
 |_::_,_::_,h=>by simp[iC.length h.2]
 |[],_::_,h=>h.elim
 |_::_,[],h=>h.elim
theorem iC.get{ι:cg}:∀{cs:cr}{vs:bm}(_:iC ι cs vs)(i:Nat)(x:At),cs[i]? =some x->∃v,vs[i]? =some v/\yR ι x v
 |[],[],_,i,x,a=>by simp at a
 |_::_,v::_,h,0,x,a=>by simp at a;subst a;exact⟨v,rfl,h.1⟩
 |_::_,_::_,h,i+1,x,a=>by simp at a⊢;exact iC.get h.2 i x a
 |[],_::_,h,_,_,_=>h.elim
 |_::_,[],h,_,_,_=>h.elim
theorem iC.take{ι:cg}:∀{cs:cr}{vs:bm}(n:Nat),iC ι cs vs->iC ι (cs.take n) (vs.take n)
 |_,_,0,_=>by simp[iC]
 |[],[],n+1,h=>by simp[iC]
 |_::_,_::_,n+1,h=>by simp only[take_succ_cons];exact⟨h.1,h.2.take n⟩
 |[],_::_,_+1,h=>h.elim
 |_::_,[],_+1,h=>h.elim
theorem iC.drop{ι:cg}:∀{cs:cr}{vs:bm}(n:Nat),iC ι cs vs->iC ι (cs.drop n) (vs.drop n)
 |_,_,0,h=>bj h
 |[],[],n+1,h=>by simp[iC]
 |_::_,_::_,n+1,h=>by simp only[drop_succ_cons];exact h.2.drop n
 |[],_::_,_+1,h=>h.elim
 |_::_,[],_+1,h=>h.elim
theorem iC.append{ι:cg}:∀{cs a:cr}{vs b:bm},iC ι cs vs->iC ι a b->iC ι (cs++a) (vs++b)
 |[],_,[],_,_,c=>bj c
 |_::_,_,_::_,_,h,c=>⟨h.1,h.2.append c⟩
 |[],_,_::_,_,h,_=>h.elim
 |_::_,_,[],_,h,_=>h.elim
theorem iC.splice{ι:cg}{cs new:cr}{vs us:bm}(off:Nat)(h:iC ι cs vs)(a:iC ι new us):
 iC ι (splice cs off new) (splice vs off us):=by
 unfold Vc.splice;rw[a.length];exact((h.take off).append a).append (h.drop _)
theorem iC.set{ι:cg}:∀{cs:cr}{vs:bm}(j:Nat){x:At}{v:Value},iC ι cs vs->yR ι x v->iC ι (cs.set j x) (vs.set j v)
 |[],[],_,_,_,_,_=>by simp[iC]
 |_::_,_::_,0,_,_,h,a=>⟨a,h.2⟩
 |_::_,_::_,j+1,_,_,h,a=>⟨h.1,h.2.set j a⟩
 |[],_::_,_,_,_,h,_=>h.elim
 |_::_,[],_,_,_,h,_=>h.elim
theorem iC.vals{ι:cg}:∀{l:bm}{vs:bm},iC ι (l.map .val) vs↔vs=l
 |[],[]=>by simp[iC]
 |[],_::_=>by simp[iC]
 |_::_,[]=>by simp[iC]
 |a::l,v::vs=>by simp only[map_cons,iC,yR,iC.vals,List.cons.injEq]
theorem Dc:∀{cs:cr}{l:bm},tX cs=some l->cs=l.map .val
 |[],l,h=>by simp[tX]at h;subst h;rfl
 |.val v::r,l,h=>by
  simp only[tX]at h;cases a:tX r with
  |none=>simp[a]at h
  |some b=>simp[a]at h;subst h;simp[Dc a]
 |.ptr _ _::_,_,h=>by simp[tX]at h
 |.lst _::_,_,h=>by simp[tX]at h
 |.el _ _ _ _::_,_,h=>by simp[tX]at h
 |.junk::_,_,h=>by simp[tX]at h
theorem Den.val?{ι:cg}{x:SV}{u v:Value}(h:Den ι x u)(a:x.val? =some v):u=v:=by
 cases x with
 |«at» y=>cases y<;>simp[SV.val?]at a;subst a;exact h
 |agg d=>
  simp only[SV.val?]at a;cases b:tX d with
  |none=>simp[b]at a
  |some l=>
   simp[b]at a;obtain⟨e,rfl,c⟩:=h;rw[Dc b,iC.vals]at c;subst a;congr 1;apply Array.toList_inj.1;simpa using c
 |tup f=>simp[SV.val?]at a
theorem DenS.length{ι:cg}:∀{xs:dd}{vs:bm},DenS ι xs vs->xs.length=vs.length
 |[],[],_=>rfl
 |_::_,_::_,h=>by simp[DenS.length h.2]
 |[],_::_,h=>h.elim
 |_::_,[],h=>h.elim
theorem DenS.get{ι:cg}:∀{xs:dd}{vs:bm}(_:DenS ι xs vs)(i:Nat)(x:SV),xs[i]? =some x->∃v,vs[i]? =some v/\Den ι x v
 |[],[],_,i,x,a=>by simp at a
 |_::_,v::_,h,0,x,a=>by simp at a;subst a;exact⟨v,rfl,h.1⟩
 |_::_,_::_,h,i+1,x,a=>by simp at a⊢;exact DenS.get h.2 i x a
 |[],_::_,h,_,_,_=>h.elim
 |_::_,[],h,_,_,_=>h.elim
theorem DenS.set{ι:cg}:∀{xs:dd}{vs:bm}(j:Nat){x:SV}{v:Value},DenS ι xs vs->Den ι x v->DenS ι (xs.set j x) (vs.set j v)
 |[],[],_,_,_,_,_=>by simp[DenS]
 |_::_,_::_,0,_,_,h,a=>⟨a,h.2⟩
 |_::_,_::_,j+1,_,_,h,a=>⟨h.1,h.2.set j a⟩
 |[],_::_,_,_,_,h,_=>h.elim
 |_::_,[],_,_,_,h,_=>h.elim
def upd(ι:cg)(k:Nat)(u:Value):Nat->Value:=λj=>if j=k then u else ι j
@[simp] theorem upd_same (ι:cg) (k:Nat) (u:Value):upd ι k u k=u:=by simp[upd]
theorem oI(ι:cg){k j:Nat}(u:Value)(h:j≠k):upd ι k u j=ι j:=by simp[upd,h]
def At.key:At->Option Nat
 |.ptr k _=>some k
 |.lst k=>some k
 |.el k _ _ _=>some k
 |_=>none
theorem yR.sub{ι:cg}{k:Nat}{u:Value}{f:At->At}(g:∀x v,x.key=some k->yR ι x v->yR (upd ι k u) (f x) v){x:At}{v:Value}(h:yR ι x v):
 yR (upd ι k u) (x.sub k f) v:=by
 cases x with
 |val w=>exact h
 |junk=>trivial
 |ptr j o=>
  simp only[At.sub];split
  .rename_i a;exact g _ _ (by simp only[At.key,Option.some.injEq];exact Nat.eq_of_beq_eq_true a) h
  .rename_i a;have d:j≠k:=λe=>by subst e;simp at a
   obtain⟨b,l,m⟩:=h;exact⟨b,by rw[oI _ _ d];exact l,m⟩
 |lst j=>
  simp only[At.sub];split
  .rename_i a;exact g _ _ (by simp only[At.key,Option.some.injEq];exact Nat.eq_of_beq_eq_true a) h
  .rename_i a;have d:j≠k:=λe=>by subst e;simp at a
   simp only[yR]at h⊢
   rw[oI _ _ d];exact h
 |el j i p o=>
  simp only[At.sub];split
  .rename_i a;exact g _ _ (by simp only[At.key,Option.some.injEq];exact Nat.eq_of_beq_eq_true a) h
  .rename_i a;have d:j≠k:=λe=>by subst e;simp at a
   obtain⟨b,n,c,l,m⟩:=h;exact⟨b,n,c,by rw[oI _ _ d];exact l,m⟩
theorem iC.sub{ι:cg}{k:Nat}{u:Value}{f:At->At}(a:∀x v,x.key=some k->yR ι x v->yR (upd ι k u) (f x) v):∀{cs:cr}{vs:bm},iC ι cs vs->
 iC (upd ι k u) (cs.map (At.sub k f)) vs
 |[],[],_=>trivial
 |_::_,_::_,h=>⟨yR.sub a h.1,iC.sub a h.2⟩
 |[],_::_,h=>h.elim
 |_::_,[],h=>h.elim
theorem PE.sub{ι:cg}{k:Nat}{u:Value}{f:At->At}(a:∀x v,x.key=some k->yR ι x v->yR (upd ι k u) (f x) v):∀{cs:List (Sum At cr)}{vs:bm},PE ι cs vs->
 PE (upd ι k u) (cs.map λ |.inl x=>.inl (x.sub k f)|.inr cs=>.inr (cs.map (At.sub k f))) vs
 |[],[],_=>trivial
 |.inl _::_,_::_,h=>⟨yR.sub a h.1,PE.sub a h.2⟩
 |.inr _::_,_::_,h=>⟨let⟨us,e,hd⟩:=h.1;⟨us,e,iC.sub a hd⟩,PE.sub a h.2⟩
 |[],_::_,h=>h.elim
 |.inl _::_,[],h=>h.elim
 |.inr _::_,[],h=>h.elim
theorem Den.sub{ι:cg}{k:Nat}{u:Value}{f:At->At}(a:∀x v,x.key=some k->yR ι x v->yR (upd ι k u) (f x) v){x:SV}{v:Value}(h:Den ι x v):
 Den (upd ι k u) (x.sub k f) v:=by
 cases x with
 |«at» y=>exact yR.sub a h
 |agg d=>obtain⟨b,e,c⟩:=h;exact⟨b,e,iC.sub a c⟩
 |tup g=>obtain⟨b,e,c⟩:=h;exact⟨b,e,PE.sub a c⟩
theorem DenS.sub{ι:cg}{k:Nat}{u:Value}{f:At->At}(a:∀x v,x.key=some k->yR ι x v->yR (upd ι k u) (f x) v):∀{xs:dd}{vs:bm},DenS ι xs vs->
 DenS (upd ι k u) (xs.map (SV.sub k f)) vs
 |[],[],_=>trivial
 |_::_,_::_,h=>⟨Den.sub a h.1,DenS.sub a h.2⟩
 |[],_::_,h=>h.elim
 |_::_,[],h=>h.elim
structure qJ where
 w0:World
 E:Nat->Prop
 h0:PH
 dfs:List Deferred
def blk:Value->Option Nat
 |.pointer (some a)=>some a.block
 |.slice (some a) _ _=>some a.block
 |_=>none
def Dt(ι:cg)(w:World)(v:Value):Own->Prop
 |.cellsP p T e=>∃b c,v= .pointer (some ⟨b,0,none⟩)/\w.heap[b]? =some (.cells c T (0,0))/\iC ι e c.toList/\∀q,p=some q->b=q
 |.lst E d a=>eR d a/\w.ownsRow 0 E d v a.length a.flatten
structure vR(B:qJ)(m:MH)(h:PH)(w:World):Prop where
 tape:w.tape=B.w0.tape
 os:w.os=B.w0.os
 output:w.output=B.w0.output
 drawn:B.w0.drawn<=w.drawn
 size:B.w0.heap.size<=w.heap.size
 frame:∀b,b<B.w0.heap.size->¬B.E b->w.heap[b]? =B.w0.heap[b]?
 hsat:∀b o v,h b o=some v->w.cell? ⟨b,o,none⟩=some v
 msat:∀b o,m b=some o->w.heap[b]? =some o
 disj:∀b o,m b=some o->∀i,h b i=none
 hle:∀b o v,B.h0 b o=some v->h b o=some v
 hold:∀b,b<B.w0.heap.size->¬B.E b->h b=B.h0 b
 mfr:∀b o,m b=some o->B.w0.heap.size<=b\/B.E b
structure aI(B:qJ)(ι:cg)(σ:St)(a:Act)(w:World):Prop where
 slots:DenS ι σ.sl a.tmps.toList
 defers:a.defers=B.dfs
 own:∀k o,nth σ.own k=some (some o)->Dt ι w (ι k) o
 dist:∀k k' o o' b,nth σ.own k=some (some o)->nth σ.own k'=some (some o')->blk (ι k)=some b->blk (ι k')=some b->k=k'
 fresh:∀k o b,nth σ.own k=some (some o)->blk (ι k)=some b->(B.w0.heap.size<=b\/B.E b)/\σ.m b=none/\∀i,σ.h b i=none
 wrel:vR B σ.m σ.h w
 one:∀k,(ι k).oneCell'=true
theorem yV{α:Type}(l:List α)(k j:Nat)(x:α):nth (l.set k x) j=if j=k/\k<l.length then some x else nth l j:=by
 rw[jB,jB,getElem?_set];by_cases h:k=j
 .subst h;by_cases a:k<l.length
  .simp[a]
  .simp[a]
 .have b:¬(j=k/\k<l.length):=λe=>h e.1.symm;simp[h,b]
theorem AW{α β:Type}(f:α->β)(l:List α)(j:Nat):nth (l.map f) j=(nth l j).map f:=by
 rw[jB,jB,getElem?_map]
theorem Act.toList_put(a:Act)(d:Nat)(v:Value):(a.put (some d) v).tmps.toList=a.tmps.toList.set d v:=by
 simp[Act.put]
theorem aI.put{B:qJ}{ι:cg}{σ:St}{a:Act}{w:World}(h:aI B ι σ a w)(d:Option Tmp){x:SV}{v:Value}(hx:Den ι x v):
 aI B ι (σ.put d x) (a.put d v) w:=by
 cases d with
 |none=>exact h
 |some d=>
  refine⟨?_,h.defers,h.own,h.dist,h.fresh,h.wrel,h.one⟩;rw[Act.toList_put];exact h.slots.set d hx
theorem aI.ev{B:qJ}{ι:cg}{σ:St}{a:Act}{w:World}(h:aI B ι σ a w)(x:Operand):Den ι (σ.ev x) (a.eval x):=by
 cases x with
 |const v=>rfl
 |global g=>rfl
 |func f=>rfl
 |tmp t=>
  simp only[St.ev,jB];cases b:σ.sl[t]? with
  |none=>exact trivial
  |some x=>
   obtain⟨v,c,d⟩:=h.slots.get t x b
   have:a.eval (.tmp t)=v:=by
    simp only[Act.eval,Array.getD_eq_getD_getElem?];rw[<-Array.getElem?_toList,c];rfl
   rw[this];exact d
theorem aI.rho{B:qJ}{ι:cg}{σ:St}{a:Act}{w:World}(h:aI B ι σ a w){x:Operand}{v:Value}(hx:(σ.ev x).val? =some v):
 a.eval x=v:=(h.ev x).val? hx
theorem pA{ι:cg}{w:World}{v:Value}{o:Own}{b:Nat}(h:Dt ι w v o)(a:blk v=some b):b<w.heap.size:=by
 cases o with
 |cellsP p T g=>
  obtain⟨d,i,rfl,c,_⟩:=h;simp[blk]at a;subst a;exact(Array.getElem?_eq_some_iff.1 c).1
 |lst E j k=>
  rcases h.2.2 with⟨rfl,_⟩|⟨d,e,f,rfl,_,c,_⟩
  .simp[blk]at a
  .simp[blk]at a;subst a;exact(Array.getElem?_eq_some_iff.1 c).1
theorem Dt.world{ι:cg}{w w':World}{v:Value}{o:Own}(h:Dt ι w v o)(f:∀b,blk v=some b->w'.heap[b]? =w.heap[b]?):Dt ι w' v o:=by
 cases o with
 |cellsP p T m=>
  obtain⟨a,g,rfl,c,i⟩:=h;exact⟨a,g,rfl,by rw[f _ rfl];exact c,i⟩
 |lst E n q=>
  refine⟨h.1,h.2.1,?_⟩;rcases h.2.2 with⟨rfl,j⟩|⟨a,d,e,rfl,k,c,l⟩
  .exact .inl ⟨rfl,j⟩
  .exact .inr ⟨a,d,e,rfl,k,by rw[f _ rfl];exact c,l⟩
theorem Dt.sub{ι:cg}{w:World}{v:Value}{o:Own}{k:Nat}{u:Value}{f:At->At}(a:∀x v,x.key=some k->yR ι x v->yR (upd ι k u) (f x) v)(h:Dt ι w v o):
 Dt (upd ι k u) w v (o.sub k f):=by
 cases o with
 |cellsP p T i=>
  obtain⟨b,c,rfl,d,e,g⟩:=h;exact⟨b,c,rfl,d,iC.sub a e,g⟩
 |lst E j l=>exact h
theorem pH{σ:St}{k j:Nat}{f:At->At}{o':Own}(h:nth ((σ.sub k f).setOwn k none).own j=some (some o')):
 j≠k/\∃o,nth σ.own j=some (some o)/\o'=o.sub k f:=by
 simp only[St.setOwn,St.sub,yV,AW]at h;by_cases a:j=k
 .subst a;by_cases c:j<σ.own.length
  .simp[c]at h
  .simp[c,jB]at h
 .simp only[a,false_and,if_false]at h;refine⟨a,?_⟩;cases b:nth σ.own j with
  |none=>simp[b]at h
  |some x=>
   cases x with
   |none=>simp[b]at h
   |some o=>simp[b]at h;exact⟨o,rfl,h.symm⟩
theorem SD{ι:cg}(h:∀k,(ι k).oneCell'=true)(k:Nat){u:Value}(a:u.oneCell'=true):∀j,(upd ι k u j).oneCell'=true:=by
 intro j;unfold upd;split
 .exact a
 .exact h j
theorem aI.drop{B:qJ}{ι:cg}{σ:St}{a:Act}{w:World}(h:aI B ι σ a w)(k:Nat)(u:Value)(r:u.oneCell'=true)(f:At->At)
 (p:∀x v,x.key=some k->yR ι x v->yR (upd ι k u) (f x) v):aI B (upd ι k u) ((σ.sub k f).setOwn k none) a w:=by
 refine⟨DenS.sub p h.slots,h.defers,?_,?_,?_,h.wrel,SD h.one k r⟩
 .intro j q d;obtain⟨c,o,e,rfl⟩:=pH d;rw[oI _ _ c];exact(h.own j o e).sub p
 .intro j s o q b d m g i;obtain⟨c,o,e,rfl⟩:=pH d;obtain⟨l,q,n,rfl⟩:=pH m;rw[oI _ _ c]at g;rw[oI _ _ l]at i;exact h.dist j s _ _ b e n g i
 .intro j o b d g;obtain⟨c,o,e,rfl⟩:=pH d;rw[oI _ _ c]at g;exact h.fresh j o b e g
theorem M9(σ:St)(k:Nat):σ.kill k=(σ.sub k (λ_=>.junk)).setOwn k none:=rfl
theorem aI.kill{B:qJ}{ι:cg}{σ:St}{a:Act}{w:World}(h:aI B ι σ a w)(k:Nat)(u:Value)(b:u.oneCell'=true):aI B (upd ι k u) (σ.kill k) a w:=
 h.drop k u b _ (λ_ _ _ _=>trivial)
structure Dq(S:Nat->Prop)(w w':World):Prop where
 tape:w'.tape=w.tape
 os:w'.os=w.os
 output:w'.output=w.output
 drawn:w.drawn<=w'.drawn
 size:w.heap.size<=w'.heap.size
 block:∀b,b<w.heap.size->¬S b->w'.heap[b]? =w.heap[b]?
theorem Dq.refl(S:Nat->Prop)(w:World):Dq S w w:=⟨rfl,rfl,rfl,Nat.le_refl _,Nat.le_refl _,λ_ _ _=>rfl⟩
theorem vR.ext{B:qJ}{m:MH}{h:PH}{w w':World}{S:Nat->Prop}(a:vR B m h w)(e:Dq S w w')(g:∀b,S b->(B.w0.heap.size<=b\/B.E b)/\m b=none/\∀i,h b i=none):
 vR B m h w':=by
 refine⟨e.tape.trans a.tape,e.os.trans a.os,e.output.trans a.output,Nat.le_trans a.drawn e.drawn,Nat.le_trans a.size e.size,?_,?_,?_,a.disj,a.hle,a.hold,a.mfr⟩
 .intro b k l;rw[e.block b (Nat.lt_of_lt_of_le k a.size) (λf=>?_)]
  .exact a.frame b k l
  .rcases(g b f).1 with c|c
   .omega
   .exact l c
 .intro b o v n;have c:=a.hsat b o v n
  have d:b<w.heap.size:=by
   unfold World.cell? at c;dsimp only at c;rcases Nat.lt_or_ge b w.heap.size with d|j
   .exact d
   .simp[Array.getElem?_eq_none j]at c
  have q:=e.block b d (λf=>by have:=(g b f).2.2 o;rw[n]at this;cases this);unfold World.cell? at c⊢
  dsimp only at c⊢
  rw[q];exact c
 .intro b o p;have c:=a.msat b o p;have d:=(Array.getElem?_eq_some_iff.1 c).1;rw[e.block b d (λf=>by have:=(g b f).2.1;rw[p]at this;cases this)];exact c
theorem aI.place{B:qJ}{ι:cg}{σ:St}{a:Act}{w w':World}(h:aI B ι σ a w)(k:Nat)(o:Own)(v:Value)
 (N:Dq (λb=>(∃o',nth σ.own k=some (some o'))/\blk (ι k)=some b) w w')
 (R:Dt (upd ι k v) w' v o)(C:v.oneCell'=true)
 (O:∀b,blk v=some b->w.heap.size<=b\/((∃o',nth σ.own k=some (some o'))/\blk (ι k)=some b)):
 aI B (upd ι k v) ((σ.kill k).setOwn k (some o)) a w':=by
 have P:∀b,((∃o',nth σ.own k=some (some o'))/\blk (ι k)=some b)->(B.w0.heap.size<=b\/B.E b)/\σ.m b=none/\∀i,σ.h b i=none:=
  λb⟨⟨o',y⟩,G⟩=>h.fresh k o' b y G
 have H:=h.wrel.ext N P
 have D:∀b,blk v=some b->(B.w0.heap.size<=b\/B.E b)/\σ.m b=none/\∀i,σ.h b i=none:=by
  intro b I;rcases O b I with z|q
  .refine⟨.inl (Nat.le_trans h.wrel.size z),?_,?_⟩
   .cases S:σ.m b with
    |none=>rfl
    |some T=>have:=(Array.getElem?_eq_some_iff.1 (h.wrel.msat b T S)).1;omega
   .intro i;cases U:σ.h b i with
    |none=>rfl
    |some u=>
     have Q:=h.wrel.hsat b i u U;unfold World.cell? at Q;simp[Array.getElem?_eq_none z]at Q
  .exact P b q
 have c:∀j o',nth ((σ.kill k).setOwn k (some o)).own j=some (some o')->
  (j=k/\o'=o)\/(j≠k/\∃n,nth σ.own j=some (some n)/\o'=n.sub k (λ_=>.junk)):=by
  intro j o' p;simp only[M9,St.setOwn,St.sub,yV,AW,length_set,length_map]at p;by_cases e:j=k
  .subst e;by_cases t:j<σ.own.length
   .simp[t]at p;exact .inl ⟨rfl,p.symm⟩
   .simp[t,jB]at p
  .simp only[e,false_and,if_false]at p;refine .inr ⟨e,?_⟩;cases J:nth σ.own j with
   |none=>simp[J]at p
   |some x=>
    cases x with
    |none=>simp[J]at p
    |some n=>simp[J]at p;exact⟨n,rfl,p.symm⟩
 have other:∀j n,j≠k->nth σ.own j=some (some n)->∀b,blk (ι j)=some b->blk v≠some b/\w'.heap[b]? =w.heap[b]? :=by
  intro j n e g b d;have t:=pA (h.own j n g) d;have r:¬((∃o',nth σ.own k=some (some o'))/\blk (ι k)=some b):=λ⟨⟨o',y⟩,G⟩=>e (h.dist j k n o' b g y d G);refine⟨λI=>?_,N.block b t r⟩;rcases O b I with z|q
  .omega
  .exact r q
 refine⟨DenS.sub (f:=λ_=>.junk) (λ_ _ _ _=>trivial) h.slots,h.defers,?_,?_,?_,H,SD h.one k C⟩
 .intro j o' p;rcases c j o' p with⟨rfl,rfl⟩|⟨e,n,g,rfl⟩
  .rw[upd_same];exact R
  .rw[oI _ _ e];refine Dt.world ((h.own j n g).sub (f:=λ_=>.junk) (λ_ _ _ _=>trivial)) (λb d=>(other j n e g b d).2)
 .intro j K n V b p L d l;rcases c j n p with⟨rfl,rfl⟩|⟨e,A,g,rfl⟩<;>rcases c K V L with⟨rfl,rfl⟩|⟨s,M,F,rfl⟩
  .rfl
  .rw[upd_same]at d;rw[oI _ _ s]at l;exact absurd d (other K M s F b l).1
  .rw[upd_same]at l;rw[oI _ _ e]at d;exact absurd l (other j A e g b d).1
  .rw[oI _ _ e]at d;rw[oI _ _ s]at l;exact h.dist j K _ _ b g F d l
 .intro j n b p d;rcases c j n p with⟨rfl,rfl⟩|⟨e,A,g,rfl⟩
  .rw[upd_same]at d;exact D b d
  .rw[oI _ _ e]at d;exact h.fresh j A b g d
theorem aI.adopt{B:qJ}{ι:cg}{σ:St}{a:Act}{w:World}(h:aI B ι σ a w)(k:Nat)(o:Own)(v:Value)
 (D:Dt (upd ι k v) w v o)(r:v.oneCell'=true)
 (y:∀b,blk v=some b->((B.w0.heap.size<=b\/B.E b)/\σ.m b=none/\∀i,σ.h b i=none)/\∀j o',j≠k->nth σ.own j=some (some o')->blk (ι j)≠some b):
 aI B (upd ι k v) ((σ.kill k).setOwn k (some o)) a w:=by
 have c:∀j o',nth ((σ.kill k).setOwn k (some o)).own j=some (some o')->
  (j=k/\o'=o)\/(j≠k/\∃q,nth σ.own j=some (some q)/\o'=q.sub k (λ_=>.junk)):=by
  intro j o' l;simp only[M9,St.setOwn,St.sub,yV,AW,length_set,length_map]at l;by_cases d:j=k
  .subst d;by_cases s:j<σ.own.length
   .simp[s]at l;exact .inl ⟨rfl,l.symm⟩
   .simp[s,jB]at l
  .simp only[d,false_and,if_false]at l;refine .inr ⟨d,?_⟩;cases z:nth σ.own j with
   |none=>simp[z]at l
   |some x=>
    cases x with
    |none=>simp[z]at l
    |some q=>simp[z]at l;exact⟨q,rfl,l.symm⟩
 refine⟨DenS.sub (f:=λ_=>.junk) (λ_ _ _ _=>trivial) h.slots,h.defers,?_,?_,?_,h.wrel,SD h.one k r⟩
 .intro j o' l;rcases c j o' l with⟨rfl,rfl⟩|⟨d,q,n,rfl⟩
  .rw[upd_same];exact D
  .rw[oI _ _ d];exact(h.own j q n).sub (f:=λ_=>.junk) (λ_ _ _ _=>trivial)
 .intro j A q F b l C e g;rcases c j q l with⟨rfl,rfl⟩|⟨d,t,n,rfl⟩<;>rcases c A F C with⟨rfl,rfl⟩|⟨p,G,u,rfl⟩
  .rfl
  .rw[upd_same]at e;rw[oI _ _ p]at g;exact absurd g ((y b e).2 A _ p u)
  .rw[upd_same]at g;rw[oI _ _ d]at e;exact absurd e ((y b g).2 j _ d n)
  .rw[oI _ _ d]at e;rw[oI _ _ p]at g;exact h.dist j A _ _ b n u e g
 .intro j q b l e;rcases c j q l with⟨rfl,rfl⟩|⟨d,t,n,rfl⟩
  .rw[upd_same]at e;exact(y b e).1
  .rw[oI _ _ d]at e;exact h.fresh j t b n e
theorem HY(ι:cg)(k:Nat):upd ι k (ι k)=ι:=by
 funext j;unfold upd;split
 .rename_i h;rw[h]
 .rfl
structure Fz(σ σ':St):Prop where
 cells:∀k p T cs,nth σ.own k=some (some (.cellsP p T cs))->∃cs',nth σ'.own k=some (some (.cellsP p T cs'))
 imm:∀b off v,σ.h b off=some v->σ'.h b off=some v
 ptr:∀x k off,σ'.ev x= .at (.ptr k off)->σ.ev x= .at (.ptr k off)
 lst:∀x k,σ'.ev x= .at (.lst k)->σ.ev x= .at (.lst k)
 m_:σ'.m=σ.m
theorem Fz.refl(σ:St):Fz σ σ:=⟨λ_ _ _ a h=>⟨a,h⟩,λ_ _ _ h=>h,λ_ _ _ h=>h,λ_ _ h=>h,rfl⟩
theorem Fz.trans{σ τ υ:St}(h:Fz σ τ)(a:Fz τ υ):Fz σ υ:=
 ⟨λk p T d e=>let⟨cs',hk'⟩:=h.cells k p T d e;a.cells k p T cs' hk',λb o v f=>a.imm b o v (h.imm b o v f),λx k o c=>h.ptr x k o (a.ptr x k o c),λx k c=>h.lst x k (a.lst x k c),a.m_.trans h.m_⟩
theorem YJ(σ:St)(k:Nat)(f:At->At)(m:MH)(h:PH)(own:db)(x:Operand):
 St.ev {sl:=σ.sl.map (SV.sub k f),own:=own,m:=m,h:=h} x=(σ.ev x).sub k f\/(∃v,x= .const v\/(∃g,x= .global g)\/∃g,x= .func g):=by
 cases x with
 |tmp t=>
  left;simp only[St.ev,AW];cases nth σ.sl t with
  |none=>rfl
  |some y=>rfl
 |const v=>exact .inr ⟨v,.inl rfl⟩
 |global g=>exact .inr ⟨undef,.inr (.inl ⟨g,rfl⟩)⟩
 |func g=>exact .inr ⟨undef,.inr (.inr ⟨g,rfl⟩)⟩
theorem bjZ{k:Nat}{f:At->At}(a:∀x j o,f x≠ .ptr j o){x:SV}{j o:Nat}(h:x.sub k f= .at (.ptr j o)):x= .at (.ptr j o):=by
 cases x with
 |«at» y=>
  cases y<;>simp only[SV.sub,At.sub,SV.at.injEq]at h⊢
  case val=>exact h
  case junk=>exact h
  all_goals
   split at h
   .exact absurd h (a _ _ _)
   .exact h
 |agg b=>simp[SV.sub]at h
 |tup c=>simp[SV.sub]at h
theorem Zf{k:Nat}{f:At->At}(a:∀x j,f x≠ .lst j){x:SV}{j:Nat}(h:x.sub k f= .at (.lst j)):x= .at (.lst j):=by
 cases x with
 |«at» y=>
  cases y<;>simp only[SV.sub,At.sub,SV.at.injEq]at h⊢
  case val=>exact h
  case junk=>exact h
  all_goals
   split at h
   .exact absurd h (a _ _)
   .exact h
 |agg b=>simp[SV.sub]at h
 |tup c=>simp[SV.sub]at h
theorem aNX{σ:St}{k:Nat}{f:At->At}{m:MH}{h:PH}(n:m=σ.m)(q:∀x j o,f x≠ .ptr j o)(d:∀x j,f x≠ .lst j)(r:∀p T cs,nth σ.own k≠some (some (.cellsP p T cs)))(s:∀b off v,σ.h b off=some v->h b off=some v):
 Fz σ {(σ.sub k f).setOwn k none with m:=m,h:=h}:=by
 refine⟨?_,s,?_,?_,n⟩
 .intro j p T cs l;have i:j≠k:=λe=>r p T cs (e▸l);refine⟨cs.map (At.sub k f),?_⟩;simp only[St.setOwn,St.sub,yV,AW,i,false_and,if_false,l];rfl
 .intro x j off c;rcases YJ σ k f m h ((σ.sub k f).setOwn k none).own x with a|⟨v,a⟩
  .have:(σ.ev x).sub k f= .at (.ptr j off):=a▸c;exact bjZ q this
  .rcases a with rfl|⟨g,rfl⟩|⟨g,rfl⟩<;>exact c
 .intro x j c;rcases YJ σ k f m h ((σ.sub k f).setOwn k none).own x with a|⟨v,a⟩
  .have:(σ.ev x).sub k f= .at (.lst j):=a▸c;exact Zf d this
  .rcases a with rfl|⟨g,rfl⟩|⟨g,rfl⟩<;>exact c
end Go.Vc
namespace Go.Vc
open Go List
theorem yB{α:Type}(P:Program):∀(s:Sem α)(x:α),yC P s=some x->∀w,s.run P w= .ok x w:=by
 intro s
 induction s with
 |pure a=>intro x h w;simp[yC]at h;subst h;rfl
 |program k b=>intro x h w;simp only[yC]at h;simp only[Sem.run];exact b P x h w
 |mark m k b=>intro x h w;simp only[yC]at h;simp only[Sem.run];exact b x h w
 |_=>intro x h w;simp[yC]at h
def TL(C:Ctx)(ι:cg)(o:Oper)(σ:St)(K:St->Prop)(a:Act)(w:World):Prop:=
 ∃v x,(∀b,(AP C.P o=false\/b=w)->(execOp a.eval o).run C.P b= .ok (.value v) b)/\Den ι x v/\K (σ.put o.dst x)
section
variable{B:qJ}{C:Ctx}{ι:cg}{σ:St}{a:Act}{w:World}{o:Oper}{K:St->Prop}
theorem Md(d:aI B ι σ a w):∀(l:cz),Ni σ l=true->∀x∈l,σ.rho x=a.eval x
 |[],_,x,b=>by cases b
 |y::l,h,x,b=>by
  simp only[Ni]at h;cases c:(σ.ev y).val? with
  |none=>simp[c]at h
  |some v=>
   simp[c]at h;rcases mem_cons.1 b with rfl|b
   .simp only[St.rho,c];exact(d.rho c).symm
   .exact Md d l h x b
theorem lE(d:aI B ι σ a w)(e:∀cs b,o.op≠ .select cs b)(h:vZ C o σ K):TL C ι o σ K a w:=by
 unfold vZ at h;split at h
 .rename_i f;have g:execOp a.eval o=execOp σ.rho o:=execOp_congr o e λx i=>(Md d _ f x (bj i)).symm;split at h
  .rename_i v j;exact⟨v,.at (.val v),λc _=>by rw[g];exact yB _ _ _ j c,rfl,h⟩
  .exact h.elim
 .exact h.elim
theorem Addr.add_none(b o j:Nat):(⟨b,o,none⟩:Addr).add j=⟨b,o+j,none⟩:=by unfold Addr.add;split<;>simp_all
def mkV(P:Program)(T:TypeId)(cs:bm):Value:=match BJ P T with|true=>.agg cs.toArray|false=>cs.headD undef
theorem gC{P:Program}{T:TypeId}(h:iR P T=true):∃i d,P.info? T=some i/\P.underlying T=some d/\P.cellsOf T=i.size/\0<i.size:=by
 unfold iR at h;split at h
 .rename_i d b;split at h
  .cases h
  .rename_i c;cases e:P.info? T with
   |none=>simp[Program.underlying,e]at b
   |some i=>
    have f:P.cellsOf T=i.size:=by simp[Program.cellsOf,e]
    refine⟨i,d,rfl,b,f,?_⟩;rw[f]at c;exact Nat.pos_of_ne_zero c
 .cases h
theorem Qj{P:Program}{T:TypeId}{d:TypeDesc}(h:P.underlying T=some d)(w:World):(isAgg T).run P w= .ok (BJ P T) w:=by
 unfold isAgg BJ;rw[Sem.run_bind,run_underlying h w,h];cases d<;>rfl
theorem run_sizeOf{P:Program}{T:TypeId}{i:TypeInfo}(h:P.info? T=some i)(w:World):(sizeOf T).run P w= .ok i.size w:=by
 simp[sizeOf,typeInfo,program,Sem.run,h]
theorem An{P:Program}{T:TypeId}{w:World}{b off:Nat}{cs:bm}(l:iR P T=true)(c:cs.length=P.cellsOf T)
 (f:∀j v,cs[j]? =some v->w.cell? ⟨b,off+j,none⟩=some v):(loadVar T ⟨b,off,none⟩).run P w= .ok (mkV P T cs) w:=by
 obtain⟨i,d,m,n,e,g⟩:=gC l;rw[e]at c;unfold loadVar;rw[Sem.run_bind,Qj n];simp only[Result.andThen_ok];unfold mkV;cases h:BJ P T with
 |true=>
  have p:(loadCells ⟨b,off,none⟩ cs.length).run P w= .ok cs.toArray w:=
   run_loadCells_list (P:=P) w ⟨b,off,none⟩ cs (λj v q=>by rw[Addr.add_none];exact f j v q)
  simp[run_sizeOf m, <-c,p]
 |false=>
  cases cs with
  |nil=>simp at c;omega
  |cons v r=>
   have k:=f 0 v rfl;simp only[Nat.add_zero]at k;simp[load,Sem.run,k]
theorem HM{P:Program}{T:TypeId}{ats:cr}{cs:bm}(h:iC ι ats cs):Den ι (mk P T ats) (mkV P T cs):=by
 unfold mk mkV;cases BJ P T with
 |true=>exact⟨cs.toArray,rfl,bj h⟩
 |false=>
  cases ats with
  |nil=>exact trivial
  |cons x r=>
   cases cs with
   |nil=>exact h.elim
   |cons v l=>
    cases r with
    |nil=>exact h.1
    |cons y r=>exact trivial
theorem vM(c:aI B ι σ a w){k:Nat}{T:TypeId}{cs:cr}{p:Option Nat}(d:nth σ.own k=some (some (.cellsP p T cs))):
 ∃b vs,ι k= .pointer (some ⟨b,0,none⟩)/\w.heap[b]? =some (.cells vs T (0,0))/\iC ι cs vs.toList:=
 let⟨b,vs,h1,h2,h3,_⟩:=c.own k _ d;⟨b,vs,h1,h2,h3⟩
theorem Zm(c:aI B ι σ a w){k q:Nat}{T:TypeId}{cs:cr}(d:nth σ.own k=some (some (.cellsP (some q) T cs))):ι k= .pointer (some ⟨q,0,none⟩):=by
 obtain⟨b,g,e,_,_,f⟩:=c.own k _ d;rw[e,f q rfl]
theorem cell_of_heap{w:World}{b o:Nat}{vs:Array Value}{T:TypeId}{c:Nat×Nat}(h:w.heap[b]? =some (.cells vs T c)):w.cell? ⟨b,o,none⟩=vs.toList[o]? :=by
 simp[World.cell?,h]
theorem xZ{vs:bm}{off n j:Nat}{v:Value}(h:((vs.drop off).take n)[j]? =some v):vs[off+j]? =some v:=by
 rw[getElem?_take]at h;split at h
 .rw[getElem?_drop]at h;exact h
 .cases h
theorem DA(d:vR B σ.m σ.h w){b off:Nat}{l:bm}(h:aJ σ.m σ.h b off l):∀j v,l[j]? =some v->w.cell? ⟨b,off+j,none⟩=some v:=by
 intro j v c;cases h with
 |imm e=>exact d.hsat _ _ _ (e.rd j v c)
 |lent i E k f g=>
  rw[cell_of_heap (d.msat _ _ f)];rw[<-g]at c;exact xZ c
theorem kU{xs:List bm}{sz i:Nat}{e:bm}(b:∀e∈xs,e.length=sz)(c:xs[i]? =some e)(j:Nat)(v:Value)(d:e[j]? =some v):
 xs.flatten[i*sz+j]? =some v:=by
 induction xs generalizing i with
 |nil=>simp at c
 |cons x r g=>
  have f:x.length=sz:=b x bg;cases i with
  |zero=>
   simp at c;subst c;simp only[flatten_cons,Nat.zero_mul,Nat.zero_add];rw[getElem?_append_left (by rcases List.getElem?_eq_some_iff.1 d with⟨h,_⟩;exact h)];exact d
  |succ i=>
   simp only[getElem?_cons_succ]at c;simp only[flatten_cons];rw[getElem?_append_right (by rw[f,Nat.succ_mul];omega),f,show(i+1)*sz+j-sz=i*sz+j by rw[Nat.succ_mul];omega];exact g (λe k=>b e (by simp[k])) c
theorem rF(b:aI B ι σ a w){k:Nat}{E sz:Nat}{xs:List bm}(c:nth σ.own k=some (some (.lst E sz xs))):
 eR sz xs/\w.ownsRow 0 E sz (ι k) xs.length xs.flatten:=b.own k _ c
theorem WW(G:aI B ι σ a w){T:TypeId}{x:Operand}(S:o.op= .load T x)(h:WX C o T x σ K):TL C ι o σ K a w:=by
 have l:∀(b d:Nat)(z:bm),a.eval x= .pointer (some ⟨b,d,none⟩)->iR C.P T=true->z.length=C.P.cellsOf T->(∀j v,z[j]? =some v->w.cell? ⟨b,d+j,none⟩=some v)->
  ∀m,(AP C.P o=false\/m=w)->(execOp a.eval o).run C.P m= .ok (.value (mkV C.P T z)) m:=by
  intro b d z r A U V m I;have I:m=w:=I.resolve_left (by simp[AP,S]);subst I;have:=An A U V;unfold execOp;simp only[S,r,Instr.loadAt,Instr.sureAddr,Sem.run_bind,Sem.run_pure,Result.andThen_ok,this]
 have f:=G.ev x;unfold WX at h;split at h
 .exact h.elim
 .rename_i A;split at h
  .rename_i k d r;rw[r]at f;split at h
   .rename_i p T' z J;split at h
    .rename_i L;obtain⟨b,W,M,X,Y⟩:=vM G J;obtain⟨b',t,N⟩:=f;rw[M]at t;simp only[Value.pointer.injEq,Option.some.injEq,Addr.mk.injEq]at t;obtain⟨rfl, -, -⟩:=t;have D:=(Y.drop d).take (C.P.cellsOf T);refine⟨_,_,l b d ((W.toList.drop d).take (C.P.cellsOf T)) N A ?_ ?_,HM D,h⟩
     .rw[<-D.length];have:=Nat.le_of_ble_eq_true L;simp;omega
     .intro j v H;rw[cell_of_heap X];exact xZ H
    .exact h.elim
   .exact h.elim
  .rename_i k i sz d r;rw[r]at f;split at h
   .rename_i E s xs J;split at h
    .rename_i O;have O:=Nat.eq_of_beq_eq_true O;subst O;obtain⟨e,Z,y,Q,h⟩:=h;split at h
     .rename_i q;obtain⟨u,F⟩:=rF G J;obtain⟨b,n,c,M,N⟩:=f;refine⟨_,_,l b _ _ N A (Nat.eq_of_beq_eq_true q) ?_,HM (iC.vals.2 rfl),h⟩;intro j v H;rw[<-Q]at H;have R:=xZ H;have hf:=kU u.len Z _ _ R;have:=F.cells (g:=b) (by rw[M];rfl) _ _ hf;rw[Addr.add_none]at this;rw[<-this];congr 1;simp only[Addr.mk.injEq,and_true,true_and];omega
     .exact h.elim
    .exact h.elim
   .exact h.elim
  .rename_i b d r;rw[r]at f;obtain⟨y,Q,h⟩:=h;split at h
   .rename_i q;exact⟨_,_,l b d _ f A (Nat.eq_of_beq_eq_true q) (DA G.wrel Q),HM (iC.vals.2 rfl),h⟩
   .exact h.elim
  .exact h.elim
theorem Oe(c:aI B ι σ a w){x:Operand}(b:o.op= .move x\/o.op= .assign x)(h:K (σ.put o.dst (σ.ev x))):TL C ι o σ K a w:=by
 refine⟨a.eval x,σ.ev x,λd _=>?_,c.ev x,h⟩;rcases b with b|b<;>simp[execOp,b]
theorem sG{c:Bool}{A D:Prop}(h:branch c A D):(c=true/\A)\/(c=false/\D):=by
 cases c
 .exact .inr ⟨rfl,h⟩
 .exact .inl ⟨rfl,h⟩
theorem WN(d:aI B ι σ a w){c x y:Operand}(f:o.op= .pick c x y)(h:WO o c x y σ K):TL C ι o σ K a w:=by
 have b:=d.ev c;unfold WO at h;split at h
 .rename_i t g;rw[g]at b;have b:a.eval c= .bool t:=b;rcases sG h with⟨rfl,h⟩|⟨rfl,h⟩
  .exact⟨a.eval x,σ.ev x,λe _=>by simp[execOp,f,b,asBool],d.ev x,h⟩
  .exact⟨a.eval y,σ.ev y,λe _=>by simp[execOp,f,b,asBool],d.ev y,h⟩
 .exact h.elim
theorem Js{P:Program}{T f g T':Nat}(h:Jt P T f=some (g,T')):∃c Hh,P.underlying T=some (.struct c)/\c[f]? =some Hh/\Hh.offset=g/\Hh.type=T'/\P.cellsOf T'≠0:=by
 unfold Jt at h;split at h
 .rename_i c d;split at h
  .rename_i Hh b;split at h
   .cases h
   .rename_i i;simp only[Option.some.injEq,Prod.mk.injEq]at h;obtain⟨rfl,rfl⟩:=h;rw[jB,Array.getElem?_toList]at b;exact⟨c,Hh,d,b,rfl,rfl,λe=>by rw[e]at i;simp at i⟩
  .cases h
 .cases h
theorem Um{P:Program}{T f g T':Nat}(h:Jt P T f=some (g,T'))(w:World)(b off:Nat):
 (Instr.fieldAt T (.pointer (some ⟨b,off,none⟩)) f).run P w= .ok (.pointer (some ⟨b,off+g,none⟩)) w:=by
 obtain⟨l,Hh,j,k,rfl,rfl,e⟩:=Js h;cases c:P.info? Hh.type with
 |none=>simp[Program.cellsOf,c]at e
 |some i=>
  have d:i.size≠0:=by simpa[Program.cellsOf,c]using e
  simp[Instr.fieldAt,run_underlying j,k,Instr.sureAddr,fieldPlace,run_sizeOf c,d,Addr.add_none]
theorem Mn(r:aI B ι σ a w){T f:Nat}{x:Operand}(s:o.op= .fieldAddr T x f)(h:FH C o T x f σ K):TL C ι o σ K a w:=by
 have e:=r.ev x;unfold FH at h;split at h
 .exact h.elim
 .rename_i g T' t
  have j:∀b d,a.eval x= .pointer (some ⟨b,d,none⟩)->∀l,(AP C.P o=false\/l=w)->(execOp a.eval o).run C.P l= .ok (.value (.pointer (some ⟨b,d+g,none⟩))) l:=by
   intro b d m l _;unfold execOp;simp only[s,m,Sem.run_bind,Um t,Result.andThen_ok,Sem.run_pure]
  split at h
  .rename_i k d m;rw[m]at e;obtain⟨b,p,q⟩:=e;exact⟨_,.at (.ptr k (d+g)),j b d q,⟨b,p,rfl⟩,h⟩
  .rename_i k i u d m;rw[m]at e;obtain⟨b,n,c,p,q⟩:=e;exact⟨_,.at (.el k i u (d+g)),j b _ q,⟨b,n,c,p,by rw[Nat.add_assoc]⟩,h⟩
  .rename_i b d m;rw[m]at e;exact⟨_,.at (.val _),j b d e,rfl,h⟩
  .exact h.elim
theorem N7(q:aI B ι σ a w){x:Operand}(r:o.op= .nilCheck x)(h:Hx o x σ K):TL C ι o σ K a w:=by
 have d:=q.ev x
 have e:∀l,a.eval x= .pointer (some l)->∀f,(AP C.P o=false\/f=w)->(execOp a.eval o).run C.P f= .ok (.value (.pointer (some l))) f:=by
  intro l g f _;unfold execOp;simp[r,g]
 unfold Hx at h;split at h
 .rename_i k j g;rw[g]at d;obtain⟨b,m,p⟩:=d;exact⟨_,.at (.ptr k j),e _ p,⟨b,m,rfl⟩,h⟩
 .rename_i k i s j g;rw[g]at d;obtain⟨b,n,c,m,p⟩:=d;exact⟨_,.at (.el k i s j),e _ p,⟨b,n,c,m,rfl⟩,h⟩
 .rename_i l g;rw[g]at d;exact⟨_,.at (.val _),e _ d,rfl,h⟩
 .exact h.elim
end
end Go.Vc
namespace Go.Vc
open Go List
section
variable{B:qJ}{C:Ctx}{ι:cg}{σ:St}{a:Act}{w:World}{o:Oper}{K:St->Prop}
theorem Bs(e:∀k,(ι k).oneCell'=true){x:SV}{v:Value}{cs:cr}(h:Den ι x v)(d:x.cells? =some cs):iC ι cs v.cells.toList:=by
 have one:∀u:Value,u.oneCell'=true->u.cells= #[u]:=λu j=>by cases u<;>first|rfl|(simp[Value.oneCell']at j)
 cases x with
 |«at» y=>
  cases y with
  |val u=>
   have h:v=u:=h;subst h;cases v<;>simp only[SV.cells?,Option.some.injEq,reduceCtorEq]at d<;>subst d<;>first|exact⟨rfl,trivial⟩|skip
   exact iC.vals.2 rfl
  |junk=>simp[SV.cells?]at d
  |ptr k f=>
   simp only[SV.cells?,Option.some.injEq]at d;subst d;obtain⟨b,g,rfl⟩:=h;exact⟨⟨b,g,rfl⟩,trivial⟩
  |lst k=>
   simp only[SV.cells?,Option.some.injEq]at d;subst d;have h:v=ι k:=h;rw[one v (by rw[h];exact e k)];exact⟨h,trivial⟩
  |el k i p f=>
   simp only[SV.cells?,Option.some.injEq]at d;subst d;obtain⟨b,n,c,g,rfl⟩:=h;exact⟨⟨b,n,c,g,rfl⟩,trivial⟩
 |agg l=>
  simp only[SV.cells?,Option.some.injEq]at d;subst d;obtain⟨q,rfl,m⟩:=h;exact m
 |tup r=>simp[SV.cells?]at d
theorem run_indexAt_slice{P:Program}{T E:TypeId}(f:P.underlying T=some (.slice E))(g:iR P E=true)(w:World)(b off len c:Nat)(k:IntKind)(n:Int)(h:0<=n)(j:n<(len:Int)):
 (Instr.indexAt T (.slice (some ⟨b,off,none⟩) len c) (.int k n)).run P w= .ok (.pointer (some ⟨b,off+n.toNat*P.cellsOf E,none⟩)) w:=by
 obtain⟨i,d,l,p,m,e⟩:=gC g;rw[m];simp[Instr.indexAt,asIntOf,run_underlying f,h,j,run_sizeOf l,Addr.add_none]
theorem run_indexAt_array{P:Program}{T E len:Nat}(e:P.underlying T=some (.array len E))(f:iR P E=true)(w:World)(b off:Nat)(k:IntKind)(n:Int)(g:0<=n)(h:n<(len:Int)):
 (Instr.indexAt T (.pointer (some ⟨b,off,none⟩)) (.int k n)).run P w= .ok (.pointer (some ⟨b,off+n.toNat*P.cellsOf E,none⟩)) w:=by
 obtain⟨i,d,j,m,l,c⟩:=gC f;rw[l];simp[Instr.indexAt,asIntOf,run_underlying e,Instr.sureAddr,g,h,run_sizeOf j,Addr.add_none]
theorem Mm(t:aI B ι σ a w){T:Nat}{x i:Operand}(D:o.op= .indexAddr T x i)(h:FA C o T x i σ K):TL C ι o σ K a w:=by
 have e:=t.ev x;have f:=t.ev i;unfold FA at h;split at h
 .rename_i u n F;rw[F]at f;have f:a.eval i= .int u n:=f;split at h
  .rename_i E v;split at h
   .rename_i y
    have j:∀b c len l,a.eval x= .slice (some ⟨b,c,none⟩) len l->0<=n->n<(len:Int)->∀d,(AP C.P o=false\/d=w)->(execOp a.eval o).run C.P d= .ok (.value (.pointer (some ⟨b,c+n.toNat*C.P.cellsOf E,none⟩))) d:=by
     intro b c len l m p q d _;unfold execOp;simp only[D,m,f,Sem.run_bind,run_indexAt_slice v y d b c len l u n p q,Result.andThen_ok,Sem.run_pure]
    split at h
    .rename_i k m;rw[m]at e;have e:a.eval x=ι k:=e;split at h
     .rename_i E' G M H;split at h
      .rename_i r;have r:=Nat.eq_of_beq_eq_true r;obtain⟨p,q,h⟩:=h;obtain⟨z,s⟩:=rF t H;rcases s.2 with⟨A,N⟩|⟨g,l,I,A,_⟩
       .omega
       .refine⟨_,.at (.el k n.toNat G 0),j g 0 _ l (by rw[e,A]) p q,⟨g,_,l,A,?_⟩,h⟩;rw[r];simp
      .exact h.elim
     .exact h.elim
    .rename_i O len l m;rw[m]at e;obtain⟨b,c,rfl,p,q,h⟩:=h;exact⟨_,.at (.val _),j b c len l e p q,rfl,h⟩
    .exact h.elim
   .exact h.elim
  .rename_i len E v;split at h
   .rename_i y
    have j:∀b c,a.eval x= .pointer (some ⟨b,c,none⟩)->0<=n->n<(len:Int)->∀d,(AP C.P o=false\/d=w)->(execOp a.eval o).run C.P d= .ok (.value (.pointer (some ⟨b,c+n.toNat*C.P.cellsOf E,none⟩))) d:=by
     intro b c m p q d _;unfold execOp;simp only[D,m,f,Sem.run_bind,run_indexAt_array v y d b c u n p q,Result.andThen_ok,Sem.run_pure]
    split at h
    .rename_i k c m;rw[m]at e;obtain⟨b,J,L⟩:=e;obtain⟨p,q,h⟩:=h;exact⟨_,.at (.ptr k (c+n.toNat*C.P.cellsOf E)),j b c L p q,⟨b,J,rfl⟩,h⟩
    .rename_i b c m;rw[m]at e;obtain⟨p,q,h⟩:=h;exact⟨_,.at (.val _),j b c e p q,rfl,h⟩
    .exact h.elim
   .exact h.elim
  .exact h.elim
 .exact h.elim
theorem aAZ(i:aI B ι σ a w){op:BinOp}{tx q:Nat}{x y:Operand}(j:o.op= .binOp op tx x y q)(h:ZS o op x y σ K):TL C ι o σ K a w:=by
 have b:=i.ev x;have c:=i.ev y;unfold ZS at h;split at h
 .rename_i k n l m d e;rw[d]at b;rw[e]at c;have b:a.eval x= .int k n:=b;have c:a.eval y= .int l m:=c;split at h
  .rename_i f;have f:k=l:=of_decide_eq_true f;subst f;obtain⟨p,h⟩:=h;split at h
   .exact⟨_,.at (.val _),λg _=>by unfold execOp;simp[j,b,c,eqGuard,binOp,Op.intDiv,p],rfl,h⟩
   .exact⟨_,.at (.val _),λg _=>by unfold execOp;simp[j,b,c,eqGuard,binOp,Op.intDiv,p],rfl,h⟩
   .exact h.elim
  .exact h.elim
 .exact h.elim
theorem Tx(f:aI B ι σ a w){tx l:Nat}{x y:Operand}(k:o.op= .binOp .add tx x y l)(h:Pd C o x y σ K):TL C ι o σ K a w:=by
 have c:=f.ev x;have d:=f.ev y;unfold Pd at h;split at h
 .rename_i s t g i;rw[g]at c;rw[i]at d;have c:a.eval x= .string s:=c;have d:a.eval y= .string t:=d;obtain⟨n,h⟩:=h
  have j:¬((s.size+t.size:Nat):Int)>IntKind.i64.max:=by
   have:IntKind.i64.max=9223372036854775807:=bh
   omega
  exact⟨_,.at (.val _),λm _=>by unfold execOp;simp only[k,c,d,eqGuard,binOp,Op.stringOp,if_neg j];simp,rfl,h⟩
 .exact lE f (λp b=>by rw[k];intro e;cases e) h
theorem Fb(f:aI B ι σ a w){neg:Bool}{tx k:Nat}{x y:Operand}(g:o.op= .binOp (match neg with|true=>.neq|false=>.eql) tx x y k)(h:Dx C o neg tx x y σ K):TL C ι o σ K a w:=by
 unfold Dx at h;split at h
 .rename_i l m d e;have i:a.eval x= .agg l:=(f.ev x).val? d;have j:a.eval y= .agg m:=(f.ev y).val? e;obtain⟨r,c,h⟩:=h;refine⟨_,.at (.val _),λb _=>?_,rfl,h⟩;cases neg
  .unfold execOp;simp[g,i,j,run_eqGuard_agg _ _ _ _ _ _ _ c.guard,run_eql_struct,c.eq b]
  .unfold execOp;simp[g,i,j,run_eqGuard_agg _ _ _ _ _ _ _ c.guard,run_neq_struct,c.eq b]
 .exact h.elim
theorem Zy(off:Nat):∀(l:bm)(s:Nat)(cs:Array Value),off+s+l.length<=cs.size->
 ((l.zipIdx s).foldl (λcs x=>cs.setIfInBounds (off+x.2) x.1) cs).toList=splice cs.toList (off+s) l
 |[],s,cs,_=>by simp[splice]
 |v::l,s,cs,h=>by
  simp only[length_cons]at h;simp only[zipIdx_cons,foldl_cons];have:=Zy off l (s+1) (cs.setIfInBounds (off+s) v) (by simp;omega);rw[this];simp only[Array.toList_setIfInBounds,splice,length_cons];exact list_seg_step cs.toList (off+s) v l (by simp;omega)
theorem QJ{place:Nat->Option (Nat×Nat)}{cells:Array Value}{i off size:Nat}{v:Value}{rest:List (Nat×Value)}(d:place i=some (off,size))(e:v.cells.size=size)(b:off+v.cells.size<=cells.size):
 Instr.fill place cells ((i,v)::rest)=Instr.fill place (splice cells.toList off v.cells.toList).toArray rest:=by
 have c:=Zy off v.cells.toList 0 cells (bj b);simp only[Nat.add_zero]at c;simp only[Instr.fill,d];rw[if_neg (by simp;omega)];congr 1;apply Array.toList_inj.1;rw[<-c];rw[<-Array.foldl_toList];simp
theorem G7{α:Type}(cs new:List α)(off:Nat)(h:off+new.length<=cs.length):(splice cs off new).length=cs.length:=by
 unfold splice;simp;omega
theorem AM(k:aI B ι σ a w)(place:Nat->Option (Nat×Nat)){P:Program}{T:TypeId}(b:∀i r,partAt P T i=some r->place i=some r):
 ∀(parts:dj)(cs:cr)(cells:Array Value)(out:cr),iC ι cs cells.toList->Dm P T σ parts cs=some out->
  ∃r,Instr.fill place cells (parts.map λp=>(p.1,a.eval p.2))=some r/\iC ι out r.toList
 |[],cs,cells,out,j,h=>by
  simp[Dm]at h;subst h;exact⟨cells,rfl,j⟩
 |(i,x)::parts,cs,cells,out,j,h=>by
  simp only[Dm]at h;split at h
  .rename_i c d new s e;split at h
   .rename_i q f;have q:=Nat.eq_of_beq_eq_true q;have f:=Nat.le_of_ble_eq_true f;have g:=Bs k.one (k.ev x) e;have l:(a.eval x).cells.size=d:=by have:=g.length;simp at this;omega
    have m:=j.length;simp at m;have:=AM k place b parts (splice cs c new) (splice cells.toList c (a.eval x).cells.toList).toArray out (bj (j.splice c g)) h;obtain⟨r,t,n⟩:=this;refine⟨r,?_,n⟩;simp only[map_cons];rw[QJ (b i _ s) l aC];exact t
   .cases h
  .cases h
theorem Bu{P:Program}{T:TypeId}{z:bm}(h:zeroCells P T=some z):∃i v,P.info? T=some i/\i.zero=some v/\z=v.cells.toList:=by
 unfold zeroCells at h;split at h
 .rename_i i b;split at h
  .rename_i v c;simp at h;exact⟨i,v,b,c,h.symm⟩
  .cases h
 .cases h
theorem LO{P:Program}:∀(b:List Field),(b.all λf=>(P.info? f.type).isSome)=true->
 ∃c,b.mapM (λf=>(P.info? f.type).map λi=>(f.offset,i.size))=some c/\c.length=b.length/\∀(i:Nat)(g:Field),b[i]? =some g->c[i]? =some (g.offset,P.cellsOf g.type)
 |[],_=>⟨[],bg,rfl,λi g h=>by simp at h⟩
 |f::b,h=>by
  simp only[all_cons,Bool.and_eq_true]at h;obtain⟨c,l,d,e⟩:=LO b h.2;cases m:P.info? f.type with
  |none=>simp[m]at h
  |some i=>
   refine⟨(f.offset,i.size)::c,?_,by simp[d],?_⟩
   .simp[mapM_cons,m,l]
   .intro j g k;cases j with
    |zero=>simp at k;subst k;simp[Program.cellsOf,m]
    |succ j=>simp at k⊢;exact e j g k
theorem Wc(A:aI B ι σ a w){T:Nat}{ps:Array (Nat×Operand)}(I:o.op= .build T ps)(h:Ty C o T ps.toList σ K):TL C ι o σ K a w:=by
 unfold Ty at h;split at h
 .rename_i z J;split at h
  .rename_i s f j;obtain⟨M,v,k,D,rfl⟩:=Bu J
   have key:∃r,C.P.built T ((ps.map λp=>(p.1,a.eval p.2)).toList)=some r/\iC ι s r.toList:=by
    unfold NW at j;have l:iC ι (v.cells.toList.map .val) v.cells.toList:=iC.vals.2 rfl;split at j
    .rename_i L m;obtain⟨F,u,G,q⟩:=LO L.toList j
     have b:∀i r,partAt C.P T i=some r->F.toArray[i]? =some r:=by
      intro i r c;unfold partAt at c;simp only[m]at c;split at c
      .rename_i g H;rw[jB]at H;simp at c;subst c;simpa using q i g H
      .cases c
     obtain⟨r,c,d⟩:=AM A (λi=>F.toArray[i]?) b ps.toList _ v.cells s l f;refine⟨r,?_,d⟩;unfold Program.built;simp only[k,m,D,u];simpa using c
    .rename_i n E m;cases e:C.P.info? E with
     |none=>simp[e]at j
     |some t=>
      have b:∀i r,partAt C.P T i=some r->(λi=>some (i*t.size,t.size)) i=some r:=by
       intro i r c;unfold partAt at c;simp only[m,Program.cellsOf,e]at c;simpa using c
      obtain⟨r,c,d⟩:=AM A (λi=>some (i*t.size,t.size)) b ps.toList _ v.cells s l f;refine⟨r,?_,d⟩;unfold Program.built;simp only[k,m,D,e];simpa using c
    .cases j
   obtain⟨r,c,d⟩:=key;refine⟨.agg r,.agg s,λy _=>?_,⟨r,rfl,d⟩,h⟩;unfold execOp;simp only[I,Sem.run_bind,run_build y T _ r c,Result.andThen_ok,Sem.run_pure]
  .exact h.elim
 .exact h.elim
theorem ahJ(n:aI B ι σ a w){x:Operand}{c:Call}(p:o.op= .call c)(v:c.callee= .builtin .len)(hx:c.args.toList=[x])
 (h:aMQ C o x c.argTypes.toList σ K):TL C ι o σ K a w:=by
 unfold aMQ at h;split at h
 .rename_i k z;split at h
  .rename_i E J A j d
   have q:∃t E,c.argTypes[0]? =some t/\C.P.underlying t=some (.slice E):=by
    unfold UU at d;split at d
    .rename_i t r m;split at d
     .rename_i E D;exact⟨t,E,by rw[<-Array.getElem?_toList,m];rfl,D⟩
     .cases d
    .cases d
   obtain⟨t,E',m,y⟩:=q;have f:=n.ev x;rw[z]at f;have f:a.eval x=ι k:=f;obtain⟨s,l⟩:=rF n j;have i:c.args= #[x]:=by apply Array.toList_inj.1;simpa using hx
   refine⟨.int .i64 A.length,.at (.val _),λF _=>?_,rfl,h⟩;rcases l.2 with⟨u,G⟩|⟨g,H,I,u,_⟩
   .unfold execOp;simp[p,resolve,v,invoke,builtin,Builtin.len_,i,m,f,u,run_underlying y,goInt,G]
   .unfold execOp;simp[p,resolve,v,invoke,builtin,Builtin.len_,i,m,f,u,run_underlying y,goInt]
  .exact h.elim
 .exact lE n (λL b=>by rw[p];intro e;cases e) h
theorem Ul{P:Program}{T:TypeId}{cs:Array Value}{off:Nat}(g:iR P T=true)(c:off+P.cellsOf T<=cs.size)(w:World):
 (part T cs off).run P w= .ok (mkV P T ((cs.toList.drop off).take (P.cellsOf T))) w:=by
 obtain⟨i,d,h,j,k,f⟩:=gC g;unfold part mkV;rw[Sem.run_bind,Qj j];simp only[Result.andThen_ok];rw[k]at c⊢
 cases BJ P T with
 |true=>
  simp only[if_true,Sem.run_bind,run_sizeOf h,Result.andThen_ok,Sem.run_pure];congr 2;apply Array.toList_inj.1;simp[extract_eq_take_drop]
 |false=>
  have b:off<cs.size:=by omega
  have e:(cs.toList.drop off)=cs[off]::cs.toList.drop (off+1):=by
   rw[<-getElem_cons_drop (bj b)];simp
  simp only[Bool.false_eq_true,if_false,Array.getElem?_eq_getElem b];rw[e];cases l:i.size with
  |zero=>omega
  |succ n=>simp
theorem U6(n:aI B ι σ a w){T f:Nat}{x:Operand}(y:o.op= .field T x f)(h:Tp C o T x f σ K):TL C ι o σ K a w:=by
 unfold Tp at h;split at h
 .rename_i g T' t z p d;split at h
  .rename_i i;simp only[Bool.and_eq_true]at i;have u:=Nat.le_of_ble_eq_true i.1;have j:=Bs n.one (n.ev x) p;obtain⟨E,Hh,A,q,rfl,rfl,F⟩:=Js z
   have D:∃b,a.eval x= .agg b:=by
    have c:=n.ev x;split at d
    .rename_i l r;rw[r]at c;obtain⟨b,e,_⟩:=c;exact⟨b,e⟩
    .rename_i b r;rw[r]at c;exact⟨b,c⟩
    .cases d
   obtain⟨b,k⟩:=D;rw[k]at j;have j:iC ι t b.toList:=j;have v:t.length=b.size:=by have:=j.length;simpa using this
   have m:Hh.offset+C.P.cellsOf Hh.type<=b.size:=by omega
   refine⟨_,_,λs _=>?_,HM ((j.drop Hh.offset).take (C.P.cellsOf Hh.type)),h⟩;unfold execOp;simp only[y,Instr.field,Sem.run_bind,run_underlying A,Result.andThen_ok,q,k,asAgg,Sem.run_pure,Ul i.2 m s]
  .exact h.elim
 .exact h.elim
theorem Jz:∀{xs:List (Sum At cr)}{vs:bm}(_:PE ι xs vs)(i:Nat)(y:Sum At cr),xs[i]? =some y->∃v,vs[i]? =some v/\Den ι (match y with|.inl x=>.at x|.inr cs=>.agg cs) v
 |[],[],_,i,y,b=>by simp at b
 |.inl x::_,v::_,h,0,y,b=>by simp at b;subst b;exact⟨v,rfl,h.1⟩
 |.inr cs::_,v::_,h,0,y,b=>by simp at b;subst b;exact⟨v,rfl,h.1⟩
 |.inl _::_,_::_,h,i+1,y,b=>by simp at b⊢;exact Jz h.2 i y b
 |.inr _::_,_::_,h,i+1,y,b=>by simp at b⊢;exact Jz h.2 i y b
 |[],_::_,h,_,_,_=>h.elim
 |.inl _::_,[],h,_,_,_=>h.elim
 |.inr _::_,[],h,_,_,_=>h.elim
theorem P0(m:aI B ι σ a w){x:Operand}{i:Nat}(n:o.op= .extract x i)(h:K8 C o x i σ K):TL C ι o σ K a w:=by
 have j:=m.ev x;unfold K8 at h;split at h
 .rename_i t r;rw[r]at j;obtain⟨s,l,p⟩:=j
  have d:∀v,s.toList[i]? =some v->∀c,(AP C.P o=false\/c=w)->(execOp a.eval o).run C.P c= .ok (.value v) c:=by
   intro v g c _;unfold execOp;rw[Array.getElem?_toList]at g;simp[n,l,Instr.extract,g]
  split at h
  .rename_i y k;rw[jB]at k;obtain⟨v,g,f⟩:=Jz p i _ k;exact⟨v,.at y,d v g,f,h⟩
  .rename_i q k;rw[jB]at k;obtain⟨v,g,f⟩:=Jz p i _ k;exact⟨v,.agg q,d v g,f,h⟩
  .exact h.elim
 .exact lE m (λq b=>by rw[n];intro e;cases e) h
theorem LX{P:Program}{E:TypeId}{cs:cr}{n:Int}{Q:SV->Prop}:∀(f i:Nat),Tj P E cs n Q f i->(i:Int)<=n->n<((i+f:Nat):Int)->
 Q (mk P E ((cs.drop (n.toNat*P.cellsOf E)).take (P.cellsOf E)))
 |0,i,_,e,g=>by omega
 |f+1,i,h,e,g=>by
  simp only[Tj]at h;rcases sG h with⟨b,c⟩|⟨b,c⟩
  .have j:n=(i:Int):=bj b
   have d:n.toNat=i:=by omega
   rw[d];exact c
  .have:n≠(i:Int):=bj b
   exact LX f (i+1) c aC aC
theorem UX(m:aI B ι σ a w){T:Nat}{x i:Operand}(I:o.op= .index T x i)(h:Th C o T x i σ K):TL C ι o σ K a w:=by
 have c:=m.ev i;unfold Th at h;split at h
 .rename_i t n len E u v;rw[u]at c;have c:a.eval i= .int t n:=c;split at h
  .rename_i J y;split at h
   .rename_i g L k;have g:=Nat.eq_of_beq_eq_true g;obtain⟨z,Q,h⟩:=h;have p:=Bs m.one (m.ev x) y
    have R:∃j,a.eval x= .agg j:=by
     have f:=m.ev x;split at k
     .rename_i l A;rw[A]at f;obtain⟨j,e,_⟩:=f;exact⟨j,e⟩
     .rename_i j A;rw[A]at f;exact⟨j,f⟩
     .cases k
    obtain⟨j,q⟩:=R;rw[q]at p;have p:iC ι J j.toList:=p;have D:J.length=j.size:=by have:=p.length;simpa using this
    obtain⟨X,d,F,S,M,N⟩:=gC L;have U:=LX len 0 h aC aC;refine⟨_,_,λr _=>?_,HM ((p.drop (n.toNat*C.P.cellsOf E)).take (C.P.cellsOf E)),U⟩
    have G:n.toNat*C.P.cellsOf E+C.P.cellsOf E<=j.size:=by
     rw[<-D,g, <-Nat.succ_mul];exact Nat.mul_le_mul_right _ aC
    have O:=Ul L G r;unfold execOp;rw[M]at O;simp only[I,Instr.index,c,asIntOf,Sem.run_bind,Sem.run_pure,run_underlying v,Result.andThen_ok,q,z,Q,and_self,if_true,run_sizeOf F,O,M]
   .exact h.elim
  .exact h.elim
 .rename_i t n u v;rw[u]at c;have c:a.eval i= .int t n:=c;split at h
  .rename_i s V;have f:=m.ev x;rw[V]at f;have f:a.eval x= .string s:=f;obtain⟨z,b,W,h⟩:=h;refine⟨_,.at (.val _),λr _=>?_,rfl,h⟩
   have H:s[n.toNat]? =some b:=by
    have:s[n.toNat]? =s.data[n.toNat]? :=by
     simp only[getElem?_def];rfl
    rw[this, <-Array.getElem?_toList];exact W
   unfold execOp;simp[I,Instr.index,c,asIntOf,run_underlying v,f,z,H]
  .exact h.elim
 .exact h.elim
end
end Go.Vc
namespace Go.Vc
open Go List
section
variable{B:qJ}{C:Ctx}{ι:cg}{σ:St}{a:Act}{w:World}{o:Oper}{K:St->Prop}
theorem ES{P:Program}{k:World}{src d E E' sz:Nat}{x:Operand}{v:Value}{c:ci}(r:o.op= .convert src d x)(s:P.underlying src=some (.slice E))(n:P.underlying E=some (.int .u8))(t:P.underlying d=some .string)
 (l:a.eval x=v)(f:k.ownsRow 0 E' sz v (aU c).length (aU c).flatten):(execOp a.eval o).run P k= .ok (.value (.string ⟨c.toArray⟩)) k:=by
 have h:(aU c).length=c.length:=by simp[aU]
 rcases f.2 with⟨p,u⟩|⟨g,q,A,p,_⟩
 .rw[h]at u;have:c=[]:=eq_nil_of_length_eq_zero u;subst this;unfold execOp;simp only[r,l,p,Sem.run_bind,run_convert_bytes_nil k src E s n 0 0 d t,Result.andThen_ok,Sem.run_pure];rfl
 .have m:strOfNums (c.map λb=>(b.toNat:Int))=⟨c.toArray⟩:=by
   unfold strOfNums;congr 1;simp[Function.comp_def]
  have j:∀i,i<c.length->k.cell? ⟨g,0+i,none⟩=some (.int .u8 ((c.map λb=>(b.toNat:Int)).getD i 0)):=by
   intro i y
   have D:(aU c).flatten[i*1+0]? =some (.int .u8 (c[i].toNat:Int)):=
    kU (sz:=1) (e:=[.int .u8 (c[i].toNat:Int)]) (λe n=>by obtain⟨b,_,rfl⟩:=mem_map.1 n;rfl) (by simp[aU,y]) 0 _ rfl
   have:=f.cells (g:=g) (by rw[p];rfl) _ _ D;rw[Addr.add_none]at this;simp only[Nat.mul_one,Nat.add_zero]at this;rw[this];simp[y]
  have z:=run_convert_bytes_arg (P:=P) k src E s n g 0 c.length q (c.map λb=>(b.toNat:Int)) bg j d t;rw[m]at z;unfold execOp;simp only[r,l,p,h,Sem.run_bind,z,Result.andThen_ok,Sem.run_pure]
theorem P1(j:aI B ι σ a w){src f:Nat}{x:Operand}(l:o.op= .convert src f x)(h:Lb C o src f x σ K):TL C ι o σ K a w:=by
 unfold Lb at h;split at h
 .rename_i k q;split at h
  .rename_i E' t u E g p r;split at h
   .rename_i s;obtain⟨v,rfl,h⟩:=h;have d:=j.ev x;rw[q]at d;have d:a.eval x=ι k:=d;obtain⟨m,i⟩:=rF j g;refine⟨_,.at (.val _),λn c=>?_,rfl,h⟩;have c:n=w:=c.resolve_left (by simp[AP,l,p]);rw[c];exact ES l p s r d i
   .exact h.elim
  .exact h.elim
 .exact lE j (λy b=>by rw[l];intro e;cases e) h
structure HS(σ:St)(ι:cg)(o:Oper)(w w':World):Prop where
 cells:∀k p T cs b,nth σ.own k=some (some (.cellsP p T cs))->yT σ o k=false->ι k= .pointer (some ⟨b,0,none⟩)->w'.heap[b]? =w.heap[b]?
 imm:∀b off v,σ.h b off=some v->w'.cell? ⟨b,off,none⟩=some v
 ext:Au o.op=true->∀b,b<w.heap.size->w'.heap[b]? =w.heap[b]?
 args:∀l b,sF o=some l->b<w.heap.size->σ.m b=none->(∀x∈l,∀k,(σ.ev x= .at (.lst k)\/∃off,σ.ev x= .at (.ptr k off))->blk (ι k)≠some b)->w'.heap[b]? =w.heap[b]?
def TW(B:qJ)(C:Ctx)(ι:cg)(o:Oper)(σ:St)(K:St->Prop)(a:Act)(w:World):Prop:=
 ∀(next:Act->World->Prop)(Q:Exit->Act->World->Prop),(∀e c d b,aI B e c d b->K c->HS σ ι o w b->next d b)->o.wp C.P a w next Q
theorem Ez(g:aI B ι σ a w){w':World}(j:Nat)(u:(∃p T cs,nth σ.own j=some (some (.cellsP p T cs)))->yT σ o j=true)
 (r:∀b,b<w.heap.size->¬((∃o',nth σ.own j=some (some o'))/\blk (ι j)=some b)->w'.heap[b]? =w.heap[b]?)(y:Au o.op=true->∀b,b<w.heap.size->w'.heap[b]? =w.heap[b]?)
 (z:∀l,sF o=some l->∀b,b<w.heap.size->w'.heap[b]? =w.heap[b]?):HS σ ι o w w':=by
 refine⟨?_,?_,y,λl b h i _ _=>z l h b i⟩
 .intro k p T cs b m s A;have n:=g.own k _ m;have f:blk (ι k)=some b:=by rw[A];rfl
  refine r b (pA n f) ?_;rintro⟨⟨o',d⟩,e⟩;have:=g.dist k j _ _ b m d f e;subst this;rw[u ⟨p,T,cs,m⟩]at s;cases s
 .intro b c v t;have h:=g.wrel.hsat b c v t;have q:b<w.heap.size:=World.block_lt_of_cell? w ⟨b,c,none⟩ h
  have i:=r b q (by
   rintro⟨⟨o',d⟩,e⟩;have:=(g.fresh j o' b d e).2.2 c;rw[t]at this;cases this)
  rw[<-h];exact World.cell?_of_block (w:=w) (w':=w') (a:=⟨b,c,none⟩) i
theorem B3{d:Nat}(b:o.dst=some d):yT σ o d=true:=by
 unfold yT;simp[b]
theorem j5(w:World)(ob:Obj):(w.alloc ob).heap[w.heap.size]? =some ob:=by
 show(w.heap.push ob)[w.heap.size]? =_;simp
theorem fG(w:World)(ob:Obj){b:Nat}(h:b<w.heap.size):(w.alloc ob).heap[b]? =w.heap[b]? :=by
 show(w.heap.push ob)[b]? =_;rw[Array.getElem?_push,if_neg aC]
theorem WD(S:Nat->Prop)(w:World)(ob:Obj):Dq S w (w.alloc ob):=
 ⟨rfl,rfl,rfl,Nat.le_refl _,by show w.heap.size<=(w.heap.push ob).size;simp,λb c _=>fG w ob c⟩
theorem F1(h:aI B ι σ a w){d:Nat}(i:o.dst=some d){ob:Obj}{g:Own}{v:Value}{x:SV}(l:blk v=some w.heap.size)(f:v.oneCell'=true)
 (m:Dt (upd ι d v) (w.alloc ob) v g)(hx:Den (upd ι d v) x v)
 {next:Act->World->Prop}(e:∀n j k w',aI B n j k w'->K j->HS σ ι o w w'->next k w')
 (p:K (((σ.kill d).setOwn d (some g)).put (some d) x)):next (a.put o.dst v) (w.alloc ob):=by
 rw[i];refine e (upd ι d v) _ _ _ ?_ p ?_
 .refine aI.put ?_ (some d) hx;exact h.place d g v (WD _ w ob) m f (λb c=>by rw[l]at c;simp at c;left;omega)
 .exact Ez h d (λ_=>B3 i) (λb c _=>fG w ob c) (λ_ b c=>fG w ob c) (λ_ _ b c=>fG w ob c)
theorem Wh(g:aI B ι σ a w){T:Nat}(i:o.op= .alloc T)(h:TB C o T σ K):TW B C ι o σ K a w:=by
 intro next Q b
 unfold TB at h;split at h
 .rename_i d z j k;obtain⟨m,v,f,l,rfl⟩:=Bu k
  have c:(execOp a.eval o).run C.P w= .ok (.value (.pointer (some ⟨w.heap.size,0,none⟩))) (w.alloc (.cells v.cells T)):=by
   unfold execOp;simp[i,Instr.alloc,zeroValue,typeInfo,f,l,newVar,newRow]
  unfold Oper.wp;rw[c,Oper.upon_value];refine F1 g j rfl rfl ?_ (x:=.at (.ptr d 0)) ⟨w.heap.size,bg,rfl⟩ b h;exact⟨w.heap.size,v.cells,rfl,j5 _ _,iC.vals.2 rfl,λ_ e=>by cases e⟩
 .exact h.elim
theorem Se(g:aI B ι σ a w){T:Nat}{x:Operand}(j:o.op= .box T x)(h:ZX o T x σ K):TW B C ι o σ K a w:=by
 intro next Q b
 unfold ZX at h;split at h
 .rename_i d l k i
  have c:(execOp a.eval o).run C.P w= .ok (.value (.pointer (some ⟨w.heap.size,0,none⟩))) (w.alloc (.cells (a.eval x).cells T)):=by
   unfold execOp;simp[j,Instr.box,newVar,newRow]
  unfold Oper.wp;rw[c,Oper.upon_value];refine F1 g k rfl rfl ?_ (x:=.at (.ptr d 0)) ⟨w.heap.size,bg,rfl⟩ b h;exact⟨w.heap.size,_,rfl,j5 _ _,iC.sub (f:=λ_=>.junk) (λ_ _ _ _=>trivial) (Bs g.one (g.ev x) i),λ_ e=>by cases e⟩
 .exact h.elim
end
end Go.Vc
namespace Go.Vc
open Go List
section
variable{B:qJ}{C:Ctx}{ι:cg}{σ:St}{a:Act}{w:World}{o:Oper}{K:St->Prop}
theorem bmZ(F:aI B ι σ a w){k E sz:Nat}{xs:List bm}(N:nth σ.own k=some (some (.lst E sz xs))):
 ∃(s:Sl)(n:PH),PH.le σ.h n/\cZ n s sz xs/\ι k=s.val/\
  aI B ι {(σ.sub k (λ |.lst _=>.val s.val|_=>.junk)).setOwn k none with h:=n} a w/\
  Fz σ {(σ.sub k (λ |.lst _=>.val s.val|_=>.junk)).setOwn k none with h:=n}:=by
 obtain⟨t,q⟩:=rF F N;have I:∀p T W,nth σ.own k≠some (some (.cellsP p T W)):=λp T W e=>by rw[N]at e;cases e
 have r:∀(s:Sl),ι k=s.val->aI B ι ((σ.sub k (λ |.lst _=>.val s.val|_=>.junk)).setOwn k none) a w:=by
  intro s O
  have:=F.drop k (ι k) (F.one k) (λ |.lst _=>.val s.val|_=>.junk) (by
   intro x v J R;cases x<;>simp only[At.key,Option.some.injEq,reduceCtorEq]at J
   case ptr=>trivial
   case el=>trivial
   case lst j=>
    subst J;have R:v=ι j:=R;show v=s.val;rw[R,O])
  rwa [HY]at this
 rcases q.2 with⟨u,Y⟩|⟨g,y,Z,u,_,hg,L,a',a0,S⟩
 .have J:xs=[]:=eq_nil_of_length_eq_zero Y;refine⟨⟨none,0,0⟩,σ.h,⟨λ_ _ _ h=>h⟩,⟨by simp[J],.inl J,Nat.le_refl _⟩,u,r _ u,?_⟩;exact aNX (m:=σ.m) (h:=σ.h) rfl (λx j o=>by cases x<;>simp) (λx j=>by cases x<;>simp) I (λ_ _ _ h=>h)
 .have z:=F.fresh k _ g N (by rw[u];rfl)
  let n:PH:=λb o=>if b=g then xs.flatten[o]? else σ.h b o
  have A:∀b o v,σ.h b o=some v->n b o=some v:=by
   intro b o v f;show(if b=g then _ else _)=_;rw[if_neg (λe=>by subst e;rw[z.2.2 o]at f;cases f)];exact f
  have O:ι k=Sl.val ⟨some ⟨g,0,none⟩,xs.length,y⟩:=u;refine⟨⟨some ⟨g,0,none⟩,xs.length,y⟩,n,⟨A⟩,⟨rfl,.inr ⟨g,0,rfl,?_⟩,L⟩,O,?_,?_⟩
  .intro i e hi;constructor;intro j v G;show(if g=g then _ else _)=_;rw[if_pos rfl,Nat.zero_add];exact kU t.len hi j v G
  .have c:=r _ O
   have D:∀j M,nth ((σ.sub k (λ |.lst _=>.val (Sl.val ⟨some ⟨g,0,none⟩,xs.length,y⟩)|_=>.junk)).setOwn k none).own j=some (some M)->blk (ι j)≠some g:=by
    intro j M G H;obtain⟨U,o1,V,_⟩:=pH G;exact U (F.dist j k _ _ g V N H (by rw[u];rfl))
   refine⟨c.slots,c.defers,c.own,c.dist,?_,?_,c.one⟩
   .intro j M b G H;obtain⟨P,h2,h3⟩:=c.fresh j M b G H;refine⟨P,h2,λi=>?_⟩;show(if b=g then _ else _)=_;rw[if_neg (λe:b=g=>D j M G (by rw[<-e];exact H))];exact h3 i
   .have d:=F.wrel;refine⟨d.tape,d.os,d.output,d.drawn,d.size,d.frame,?_,d.msat,?_,λb o v h=>A b o v (d.hle b o v h),?_,d.mfr⟩
    .intro b l v f;have f:(if b=g then xs.flatten[l]? else σ.h b l)=some v:=f;by_cases e:b=g
     .subst e;rw[if_pos rfl]at f;have:=q.cells (g:=b) (by rw[u];rfl) l v f
      rwa [Addr.add_none,Nat.zero_add]at this
     .rw[if_neg e]at f;exact d.hsat b l v f
    .intro b ob Q i;show(if b=g then _ else _)=_;rw[if_neg (λe=>by subst e;have:=z.2.1;simp only[St.setOwn,St.sub]at Q;rw[this]at Q;cases Q)];exact d.disj b ob Q i
    .intro b H X;funext i;show(if b=g then _ else _)=_
     rw[if_neg (λe=>by subst e;rcases z.1 with P|P; · omega
                       .exact X P)]
     exact congrFun (d.hold b H X) i
  .exact aNX (m:=σ.m) (h:=n) rfl (λx j o=>by cases x<;>simp) (λx j=>by cases x<;>simp) I A
theorem nH:∀(ks:ck)(σ:St),aI B ι σ a w->uE σ K ks->∃b,aI B ι b a w/\K b/\Fz σ b
 |[],σ,e,h=>⟨σ,e,h,Fz.refl σ⟩
 |k::ks,σ,e,h=>by
  simp only[uE]at h;split at h
  .rename_i E p q l;obtain⟨s,m,f,c,_,g,i⟩:=bmZ e l;obtain⟨b,j,n,d⟩:=nH ks _ g (h s m f c);exact⟨b,j,n,i.trans d⟩
  .exact h.elim
theorem FI{P:Program}{T E:Nat}{z:bm}(h:elemOf P T=some (E,z)):
 ∃i v,P.underlying T=some (.slice E)/\P.info? E=some i/\i.zero=some v/\z=v.cells.toList/\v.cells.size=i.size/\P.cellsOf E=i.size/\0<i.size/\∀u∈z,u.oneCell'=true:=by
 unfold elemOf at h;split at h
 .rename_i E' b;split at h
  .rename_i m j;split at h
   .rename_i c f k;simp only[Option.some.injEq,Prod.mk.injEq]at h;obtain⟨rfl,rfl⟩:=h;obtain⟨i,v,g,l,rfl⟩:=Bu j;have d:P.cellsOf E'=i.size:=by simp[Program.cellsOf,g]
    have c:=Nat.eq_of_beq_eq_true c;refine⟨i,v,b,g,l,rfl,by simpa[d]using c,d,?_,λu b=>(all_eq_true.1 k) u b⟩;rcases Nat.eq_zero_or_pos i.size with e|e
    .rw[d,e]at f;simp at f
    .exact e
   .cases h
  .cases h
 .cases h
theorem cL{sz:Nat}:∀{xs:List bm},(∀e∈xs,e.length=sz)->xs.flatten.length=xs.length*sz
 |[],_=>bg
 |x::xs,h=>by
  rw[flatten_cons,length_append,cL (λe b=>h e (by simp[b])),h x bg,length_cons,Nat.succ_mul];omega
theorem EV(A:aI B ι σ a w){sz:Nat}(D:0<sz):∀(parts:dj)(es:List bm)(out:List bm),eR sz es->Dl σ sz parts es=some out->
 eR sz out/\out.length=es.length/\Instr.fill (λi=>some (i*sz,sz)) es.flatten.toArray (parts.map λp=>(p.1,a.eval p.2))=some out.flatten.toArray
 |[],es,out,k,h=>by simp[Dl]at h;subst h;exact⟨k,rfl,rfl⟩
 |(i,x)::parts,es,out,k,h=>by
  simp only[Dl]at h;split at h
  .rename_i m E;split at h
   .rename_i l F;split at h
    .rename_i b g G;have b:=Nat.eq_of_beq_eq_true b;have g:=Nat.le_of_ble_eq_true g;have n:=Bs A.one (A.ev x) E;rw[Dc F,iC.vals]at n
     have q:∀u∈l,u.oneCell'=true:=by
      intro u L;have s:=Dc F;clear n F
      have:∀(m:cr),sH m=true->∀x∈m,x.storable=true:=by
       intro m
       induction m with
       |nil=>intro _ x t;cases t
       |cons y r H=>
        intro z x t;simp only[sH]at z;split at z
        .rename_i M;rcases mem_cons.1 t with rfl|t
         .exact M
         .exact H z x t
        .cases z
      have c:=this m G (.val u) (by rw[s];exact mem_map.2 ⟨u,L,rfl⟩);cases u<;>first|rfl|(simp[At.storable]at c)
     have I:eR sz (es.set i l):=by
      constructor
      .intro e f;rcases mem_or_eq_of_mem_set f with c|c
       .exact k.len e c
       .rw[c];exact b
      .intro e f;rcases mem_or_eq_of_mem_set f with c|c
       .exact k.one e c
       .rw[c];exact q
     obtain⟨c,N,O⟩:=EV A D parts (es.set i l) out I h;refine⟨c,bj N,?_⟩;simp only[map_cons]
     have j:∀(es:List bm)(i:Nat),(∀e∈es,e.length=sz)->i<es.length->splice es.flatten (i*sz) l=(es.set i l).flatten:=by
      intro es
      induction es with
      |nil=>intro i _ J;simp at J
      |cons e r H=>
       intro i d J;have f:e.length=sz:=d e bg;cases i with
       |zero=>
        simp only[splice,Nat.zero_mul,take_zero,nil_append,Nat.zero_add,flatten_cons,set_cons_zero,b];rw[<-f,drop_left]
       |succ i=>
        have:=H i (λe f=>d e (by simp[f])) (bj J);simp only[flatten_cons,set_cons_succ, <-this,splice];have P:(i+1)*sz=e.length+i*sz:=by rw[f,Nat.succ_mul];omega
        rw[P,take_length_add_append,show e.length+i*sz+l.length=e.length+(i*sz+l.length)by omega,drop_length_add_append];simp
     have v:=cL k.len;rw[QJ rfl (by rw[<-b, <-n];simp) (by rw[<-Array.length_toList,n];simp only[size_toArray,v,b];rw[<-Nat.succ_mul];exact Nat.mul_le_mul_right _ g),n];rw[j es i k.len aC];exact O
    .cases h
   .cases h
  .cases h
end
end Go.Vc
namespace Go.Vc
open Go List
section
variable{B:qJ}{C:Ctx}{ι:cg}{σ:St}{a:Act}{w:World}{o:Oper}{K:St->Prop}
theorem Jh{z:Array Value}{sz:Nat}(b:z.size=sz)(h:0<sz)(n:Nat):(madeCells z (n*sz)).toList=(replicate n z.toList).flatten:=by
 apply ext_getElem?;intro j;by_cases d:j<n*sz
 .have k:j/sz<n:=Nat.div_lt_of_lt_mul (by rw[Nat.mul_comm];exact d);have f:j%sz<sz:=Nat.mod_lt _ h;have g:=kU (xs:=replicate n z.toList) (sz:=sz) (i:=j/sz) (e:=z.toList) (λe c=>by rw[eq_of_mem_replicate c];simpa using b) (by simp[k]) (j%sz) z[j%sz] (by simp[b,f]);rw[show j/sz*sz+j%sz=j by rw[Nat.mul_comm];exact Nat.div_add_mod j sz]at g;rw[g];simp[madeCells,d,b,f]
 .rw[getElem?_eq_none,getElem?_eq_none]
  .rw[cL (sz:=sz) (λe c=>by rw[eq_of_mem_replicate c];simpa using b)];simp;omega
  .simp[madeCells];omega
theorem oJ{z:bm}{sz:Nat}(c:z.length=sz)(d:∀u∈z,u.oneCell'=true)(n:Nat):eR sz (replicate n z):=
 ⟨λe b=>by rw[eq_of_mem_replicate b];exact c,λe b=>by rw[eq_of_mem_replicate b];exact d⟩
theorem Ns{τ:St}(p:Fz σ τ){k:Nat}(h:yT σ o k=false):yT τ o k=false:=by
 have s:∀(l:cz)(j:Nat),j∈oB τ l->j∈oB σ l:=by
  intro l
  induction l with
  |nil=>intro j g;cases g
  |cons x r u=>
   intro j g
   have y:∀(υ:St)(j:Nat),j∈oB υ (x::r)↔(∃d,υ.ev x= .at (.ptr j d))\/j∈oB υ r:=by
    intro υ j;simp only[oB];split
    .rename_i A d i;split
     .rename_i q;constructor
      .exact .inr
      .rintro(⟨e,b⟩|b)
       .rw[i]at b;simp at b;rw[<-b.1];simpa using q
       .exact b
     .constructor
      .intro b;rcases mem_cons.1 b with rfl|b
       .exact .inl ⟨d,i⟩
       .exact .inr b
      .rintro(⟨e,b⟩|b)
       .rw[i]at b;simp at b;rw[<-b.1];exact mem_cons_self
       .exact mem_cons_of_mem _ b
    .rename_i i;constructor
     .exact .inr
     .rintro(⟨e,b⟩|b)
      .exact absurd b (i j e)
      .exact b
   rw[y]at g⊢
   rcases g with⟨d,g⟩|g
   .exact .inl ⟨d,p.ptr _ _ _ g⟩
   .exact .inr (u j g)
 unfold yT at h⊢
 rw[Bool.or_eq_false_iff]at h⊢
 refine⟨h.1,?_⟩;have m:=h.2;split at m
 .rename_i t x v n;split
  .rename_i j d i;rw[p.ptr _ _ _ i]at m;exact m
  .rfl
 .rename_i c n;split at m
  .rename_i f q;simp only[contains_eq_mem,decide_eq_false_iff_not]at m⊢
   intro z;exact m (s _ _ z)
  .rfl
 .rfl
theorem HS.of_fz{τ:St}{w':World}(d:Fz σ τ)(h:HS τ ι o w w'):HS σ ι o w w':=
 ⟨λk p T g b f i j=>let⟨cs',hk'⟩:=d.cells k p T g f;h.cells k p T cs' b hk' (Ns d i) j,λb c v m=>h.imm b c v (d.imm b c v m),h.ext,λl b n q r s=>h.args l b n q (by rw[d.m_];exact r) (λx t k f=>s x t k (f.imp (d.lst x k) (λ⟨c,e⟩=>⟨c,d.ptr x k c e⟩)))⟩
theorem agJ(ps:Array (Nat×Operand))(a:Act):(ps.map fun(i,x)=>(i,a.eval x)).toList=ps.toList.map λp=>(p.1,a.eval p.2):=bg
theorem Lg(F:aI B ι σ a w){T n:Nat}{ps:Array (Nat×Operand)}(G:o.op= .buildSlice T n ps)(h:EN C o T n ps.toList σ K):TW B C ι o σ K a w:=by
 intro next Q f
 unfold EN at h;obtain⟨τ,k,h,t⟩:=nH _ _ F h;split at h
 .rename_i d E z H I;split at h
  .rename_i j l g;obtain⟨r,v,y,A,J,rfl,m,L,e,p⟩:=FI I;rw[L]at l g h;have g:=Nat.le_of_ble_eq_true g;obtain⟨s,c,b⟩:=EV k e ps.toList _ j (oJ (bj m) p n) l;simp only[length_replicate]at c
   have q:(execOp a.eval o).run C.P w= .ok (.value (.slice (some ⟨w.heap.size,0,none⟩) n n)) (w.alloc (.cells j.flatten.toArray E)):=by
    have M:(Instr.buildSlice T n (ps.map fun(i,x)=>(i,a.eval x))).run C.P w= .ok (.slice (some ⟨w.heap.size,0,none⟩) n n) (w.alloc (.cells j.flatten.toArray E)):=by
     by_cases D:n*r.size=0
     .have N:n=0:=by rcases Nat.mul_eq_zero.1 D with h|h<;>omega
      subst N;have:j=[]:=eq_nil_of_length_eq_zero c;subst this;simp only[replicate_zero,flatten_nil]at b;have u:Array.map (λ_:Nat=>(default:Value)) (Array.range 0)= #[]:=by simp[Array.range_zero']
      simp[Instr.buildSlice,run_underlying y,run_sizeOf A,newRow];rw[u,b];simp
     .refine run_buildSlice w T E n _ j.flatten.toArray r v y A J aC D ?_
      have:((Array.range (n*r.size)).map (v.cells[· %v.cells.size]!))=(replicate n v.cells.toList).flatten.toArray:=by
       apply Array.toList_inj.1;have:=Jh m e n;unfold madeCells at this;rw[this]
      rw[this,agJ];exact b
    unfold execOp;simp only[G,Sem.run_bind,M,Result.andThen_ok,Sem.run_pure]
   unfold Oper.wp;rw[q,Oper.upon_value];refine F1 k H rfl rfl ?_ (x:=.at (.lst d)) (by show _=_;simp) (λO R S U V W X=>f O R S U V W (X.of_fz t)) h;refine⟨s,cL s.len,.inr ⟨w.heap.size,n,j.flatten.toArray,by rw[c],Nat.zero_le _,j5 _ _,aC,?_,?_,?_⟩⟩
   .have:n<=n*r.size:=Nat.le_mul_of_pos_right n e;unfold maxLen;omega
   .simp only[size_toArray,cL s.len,c]
   .rw[take_of_length_le];rw[cL s.len];exact Nat.le_refl _
  .exact h.elim
 .exact h.elim
theorem Ml(s:aI B ι σ a w){T:Nat}{l c:Operand}(I:o.op= .makeSlice T l c)(h:Ft C o T l c σ K):TW B C ι o σ K a w:=by
 intro next Q f
 have p:=s.ev l;have q:=s.ev c;unfold Ft at h;split at h
 .rename_i d E z D n F m J L t u;rw[t]at p;rw[u]at q;have p:a.eval l= .int D n:=p;have q:a.eval c= .int F m:=q;obtain⟨r,v,M,G,N,rfl,i,y,j,b⟩:=FI L;obtain⟨O,R,H,S,h⟩:=h;rw[y]at h;have A:C.P.bytesOf E=r.bytes:=by simp[Program.bytesOf,G]
  rw[A,Int.mul_comm]at H
  have k:(execOp a.eval o).run C.P w= .ok (.value (.slice (some ⟨w.heap.size,0,none⟩) n.toNat m.toNat)) (w.alloc (.cells (madeCells v.cells (m.toNat*r.size)) E)):=by
   unfold execOp;simp only[I,p,q,Sem.run_bind,run_make (P:=C.P) w T E r v M G N D F n m O R H aC,Result.andThen_ok,Sem.run_pure]
  unfold Oper.wp;rw[k,Oper.upon_value];refine F1 s J rfl rfl ?_ (x:=.at (.lst d)) (by show _=_;simp) f h;have g:v.cells.toList.length=r.size:=bj i
  refine⟨oJ g b _,cL (oJ g b _).len,.inr ⟨w.heap.size,m.toNat,_,by rw[length_replicate],Nat.zero_le _,j5 _ _,?_,?_,size_madeCells _ _,?_⟩⟩
  .simp;omega
  .unfold maxLen;omega
  .rw[Jh i j]
   have e:replicate m.toNat v.cells.toList=replicate n.toNat v.cells.toList++replicate (m.toNat-n.toNat) v.cells.toList:=by
    rw[replicate_append_replicate];congr 1;omega
   rw[e,flatten_append,take_left'];rw[cL (oJ g b _).len]
 .exact h.elim
theorem vX{P:Program}(w:World)(t tx N e:TypeId)(i:TypeInfo)(z:Value)(O:P.underlying t=some (.slice e))(Q:P.info? e=some i)(Z:i.zero=some z)
 (U:z.cells.size=i.size)(v:Value)(n:Nat)(xs:bm)(f:w.ownsRow 0 e i.size v n xs)(x:Value)(m:Nat)(c:bm)(y:Src P i.size tx x m c w)
 (H:n+m<=maxLen)(q:(n+m)*i.bytes<=140737488355328):
 ∃R w',(Builtin.append_ #[t,tx] N #[v,x]).run P w= .ok R w'/\w'.ownsRow 0 e i.size R (n+m) (xs++c)/\Dq (λb=>v.ownBlock=some b) w w'/\
  (∀b,R.ownBlock=some b->w.heap.size<=b\/v.ownBlock=some b)/\R.oneCell'=true:=by
 have T:n+m<=9223372036854775807:=by simp only[maxLen]at H;omega
 have V:=y.newsLen;have h:(xs++c).length=(n+m)*i.size:=by rw[length_append,f.1,V,Nat.add_mul]
 have grown:∀(l:Nat),l<n+m->∀(S:Nat->Prop),
  (w.drew.alloc (.cells ((xs++c).toArray++Builtin.zeroCells z.cells (grownCap w (n+m) l e-(n+m))) e)).ownsRow 0 e i.size
   (.slice (some ⟨w.heap.size,0,none⟩) (n+m) (grownCap w (n+m) l e)) (n+m) (xs++c)/\
  Dq S w (w.drew.alloc (.cells ((xs++c).toArray++Builtin.zeroCells z.cells (grownCap w (n+m) l e-(n+m))) e)):=by
  intro l ho S;have W:=grownCap_ge w (n+m) l e;have D:grownCap w (n+m) l e<=maxLen:=grownCap_le_maxLen w (n+m) l e H;refine⟨⟨h,.inr ⟨w.heap.size,_,_,rfl,Nat.zero_le _,heap_alloc_new w.drew _,W,D,?_,?_⟩⟩,⟨rfl,rfl,rfl,Nat.le_succ _,bg,λk A _=>heap_alloc_old w.drew _ k A⟩⟩
  .simp only[Array.size_append,size_toArray,size_zeroCells,U,h, <-Nat.add_mul];congr 1;omega
  .simp only[Array.toList_append];rw[<-h];exact take_left
 rcases f.2 with⟨rfl,rfl⟩|⟨g,d,r,rfl,X,hg,a',D,Y,E⟩
 .have hx:xs=[]:=eq_nil_of_length_eq_zero (bj f.1);subst hx;by_cases hm:m=0
  .subst hm;have hn:c=[]:=eq_nil_of_length_eq_zero (bj V);subst hn;refine⟨.slice none 0 0,w,?_,World.ownsRow_nil w 0 e i.size,Dq.refl _ _,λb F=>by simp[Value.ownBlock]at F,rfl⟩;rcases y.kind with⟨e',A⟩|A<;>simp[Builtin.append_,run_underlying O,run_underlying A,sizeOf,typeInfo,Q,y.len,y.cells]
  .have I:=run_append_grow_src (P:=P) w t tx N e i z O Q Z none 0 0 [] (by simp[Builtin.firstCells]) x m c y aC aC (growslice_fits aC q);have s:=grown 0 aC (λb=>Value.ownBlock (.slice none 0 0)=some b);exact⟨_,_,I,s.1,s.2,λb F=>by simp[Value.ownBlock]at F;left;omega,rfl⟩
 .by_cases p:n+m<=d
  .have J:n*i.size+c.length<=r.size:=by rw[V,Y, <-Nat.add_mul];exact Nat.mul_le_mul_right _ p
   have L:=run_storeCells_at P g (n*i.size) e c 0 r w hg (bj J) y.one;simp only[Nat.add_zero]at L
   have I:(Builtin.append_ #[t,tx] N #[.slice (some ⟨g,0,none⟩) n d,x]).run P w= .ok (.slice (some ⟨g,0,none⟩) (n+m) d) (w.setRow g (r.toList.take (n*i.size)++c++r.toList.drop (n*i.size+c.length)).toArray):=by
    rcases y.kind with⟨e',A⟩|A<;>simp[Builtin.append_,run_underlying O,run_underlying A,sizeOf,typeInfo,Q,y.len,p,y.cells,Addr.add_lit,L]
   refine⟨_,_,I,⟨h,.inr ⟨g,d,_,rfl,X,setRow_heap w g r _ e _ hg,p,D,?_,?_⟩⟩,⟨rfl,rfl,rfl,Nat.le_refl _,bg,λk _ A=>setRow_other w g k _ (λe=>A (by simp[Value.ownBlock,e]))⟩,λb F=>.inr F,rfl⟩
   .simp only[size_toArray,length_append,length_take,length_drop,Array.length_toList];omega
   .rw[E, <-h];exact take_left
  .have G:∀j u,xs[j]? =some u->w.cell? ((⟨g,0,none⟩:Addr).add j)=some u:=f.cells (g:=g) rfl
   have M:(Builtin.firstCells i.size n (.slice (some ⟨g,0,none⟩) n d)).run P w.drew= .ok xs.toArray w.drew:=
    run_firstCells_some w.drew i.size n ⟨g,0,none⟩ n d xs f.1 (bj G)
   have I:=run_append_grow_src (P:=P) w t tx N e i z O Q Z (some ⟨g,0,none⟩) n d xs M x m c y aC aC (growslice_fits aC q);have s:=grown d aC (λb=>Value.ownBlock (.slice (some ⟨g,0,none⟩) n d)=some b);exact⟨_,_,I,s.1,s.2,λb F=>by simp[Value.ownBlock]at F;left;omega,rfl⟩
end
end Go.Vc
namespace Go.Vc
open Go Go.Lib List
theorem SB{z:Array Value}{sz:Nat}(b:z.size=sz)(h:0<sz)(n:Nat):(Builtin.zeroCells z n).toList=(replicate n z.toList).flatten:=by
 apply ext_getElem?;intro j;by_cases d:j<n*sz
 .have k:j/sz<n:=Nat.div_lt_of_lt_mul (by rw[Nat.mul_comm];exact d);have f:j%sz<sz:=Nat.mod_lt _ h;have g:=kU (xs:=replicate n z.toList) (sz:=sz) (i:=j/sz) (e:=z.toList) (λe c=>by rw[eq_of_mem_replicate c];simpa using b) (by simp[k]) (j%sz) z[j%sz] (by simp[b,f]);rw[show j/sz*sz+j%sz=j by rw[Nat.mul_comm];exact Nat.div_add_mod j sz]at g;rw[g];simp[Builtin.zeroCells,d,b,f]
 .rw[getElem?_eq_none,getElem?_eq_none]
  .rw[cL (sz:=sz) (λe c=>by rw[eq_of_mem_replicate c];simpa using b)];simp;omega
  .simp[Builtin.zeroCells,b];omega
theorem J9{P:Program}(w:World)(t h m e:TypeId)(i:TypeInfo)(z:Value)(n p:IntKind)(u:P.underlying t=some (.slice e))(j:P.underlying h=some (.int p))(v:P.info? e=some i)(y:i.zero=some z)
 (c:z.cells.size=i.size)(q:0<i.size)(k:Nat)(r:0<k)(f:k*i.bytes<=140737488355328)(A:k<=140737488355328):
 ∃g w',(Builtin.append_ #[t,h] m #[.slice none 0 0,.int n k]).run P w= .ok g w'/\w'.ownsRow 0 e i.size g k (replicate k z.cells.toList).flatten/\Dq (λ_=>False) w w'/\
  (∀b,g.ownBlock=some b->w.heap.size<=b)/\g.oneCell'=true:=by
 have s:=run_append_grow_zeros w t h m e i z n p u j v y none 0 0 [] (run_firstCells_none w.drew i.size 0 0 0) k r q aC aC aC (by rw[Nat.zero_add,nextslicecap_zero r];omega);rw[Nat.zero_add]at s;have D:=grownCap_ge w k 0 e;have l:=grownCap_le_maxLen w k 0 e (by unfold maxLen;omega);refine⟨_,_,s,?_,?_,?_,rfl⟩
 .refine⟨cL (sz:=i.size) (λx d=>by rw[eq_of_mem_replicate d];simpa using c) |>.trans bg,.inr ⟨w.heap.size,_,_,rfl,Nat.zero_le _,j5 _ _,aC,l,?_,?_⟩⟩
  .simp[Builtin.zeroCells,c];rw[<-Nat.add_mul];congr 1;omega
  .simp only[Array.toList_append,SB c q];rw[take_append_of_le_length]
   .simp only[nil_append];rw[take_of_length_le];rw[cL (sz:=i.size) (λx d=>by rw[eq_of_mem_replicate d];simpa using c)];simp
   .simp only[nil_append];rw[cL (sz:=i.size) (λx d=>by rw[eq_of_mem_replicate d];simpa using c)];simp
 .exact⟨rfl,rfl,rfl,Nat.le_succ _,by show w.heap.size<=(w.heap.push _).size;simp,λb f _=>fG w.drew _ f⟩
 .intro b f;simp[Value.ownBlock]at f;omega
end Go.Vc
namespace Go.Vc
open Go List
section
variable{B:qJ}{C:Ctx}{ι:cg}{σ:St}{a:Act}{w:World}{o:Oper}{K:St->Prop}
theorem FF{sz:Nat}:∀{xs:List bm}(_:∀e∈xs,e.length=sz) {j:Nat} {v:Value},xs.flatten[j]? =some v->∃(i:Nat)(e:bm)(q:Nat),xs[i]? =some e/\e[q]? =some v/\j=i*sz+q
 |[],_,j,v,h=>by simp at h
 |x::xs,b,j,v,h=>by
  have k:=b x bg;rw[flatten_cons]at h;by_cases c:j<x.length
  .rw[getElem?_append_left c]at h;exact⟨0,x,j,rfl,h,bg⟩
  .rw[getElem?_append_right aC]at h;obtain⟨i,e,q,d,f,l⟩:=FF (λe g=>b e (by simp[g])) h;exact⟨i+1,e,q,bj d,f,by rw[Nat.succ_mul];omega⟩
theorem bjJ{P:Program}{tx j E sz:Nat}{v:Value}{b:List bm}(f:P.underlying tx=some (.slice j))(h:eR sz b)(i:w.ownsRow 0 E sz v b.length b.flatten):
 Src P sz tx v b.length b.flatten w:=by
 have k:∀u∈b.flatten,u.oneCell'=true:=λu l=>by
  obtain⟨e,m,c⟩:=mem_flatten.1 l;exact h.one e m u c
 rcases i.2 with⟨rfl,n⟩|⟨g,d,p,rfl,_⟩
 .have:b=[]:=eq_nil_of_length_eq_zero n;subst this;exact Src.ofNil w f 0
 .exact Src.ofSlice w f ⟨g,0,none⟩ _ d _ (cL h.len) (i.cells (g:=g) rfl) k
theorem SL{P:Program}{tx z sz:Nat}{h:PH}(A:P.underlying tx=some (.slice z)){l:Option Addr}{n c:Nat}{k:List bm}(s:eR sz k)(d:cZ h ⟨l,n,c⟩ sz k)
 (m:∀b o v,h b o=some v->w.cell? ⟨b,o,none⟩=some v):Src P sz tx (.slice l n c) k.length k.flatten w:=by
 have D:∀u∈k.flatten,u.oneCell'=true:=λu t=>by
  obtain⟨e,E,y⟩:=mem_flatten.1 t;exact s.one e E u y
 have p:n=k.length:=d.len;subst p;rcases d.row with rfl|⟨b,r,f,g⟩
 .refine⟨.inl ⟨z,A⟩,λ_=>rfl,?_,?_,bg,λu t=>by simp at t⟩
  .cases l<;>simp[Builtin.firstCells,loadCells,loadCellsFrom]
  .cases l<;>simp[Builtin.firstCells,loadCells,loadCellsFrom]
 .have f:l=some ⟨b,r,none⟩:=f;subst f;refine Src.ofSlice w A ⟨b,r,none⟩ _ c _ (cL s.len) ?_ D;intro j u F;obtain⟨i,e,q,G,H,rfl⟩:=FF s.len F;rw[Addr.add_none];have:=m _ _ _ ((g i e G).rd q u H);rw[<-Nat.add_assoc];exact this
theorem HN(s:ByteArray):(fB s).flatten=byteCells s:=by
 unfold fB byteCells
 induction s.data.toList with
 |nil=>rfl
 |cons b r c=>simp[c]
theorem SK(p:aI B ι σ a w){sz tx:Nat}{y:Operand}{R:List bm->Prop}{lent:Bool}(h:LC C.P lent σ sz tx (σ.ev y) R):
 ∃i,eR sz i/\Src C.P sz tx (a.eval y) i.length i.flatten w/\R i:=by
 have d:=p.ev y;unfold LC at h;split at h
 .rename_i k I q l;rw[q]at d;have d:a.eval y=ι k:=d;split at h
  .rename_i E s i r;split at h
   .rename_i g;have g:=Nat.eq_of_beq_eq_true g;subst g;obtain⟨m,J⟩:=rF p r;exact⟨i,m,by rw[d];exact bjJ l m J,h⟩
   .exact h.elim
  .exact h.elim
 .rename_i H n c I q l;rw[q]at d;have d:a.eval y= .slice H n c:=d;obtain⟨i,m,f,h⟩:=h;refine⟨i,m,?_,h⟩;rw[d];cases lent with
  |false=>exact SL l m f p.wrel.hsat
  |true=>
   cases f with
   |imm f=>exact SL l m f p.wrel.hsat
   |lent b o N E O g A L D=>
    have g:H=some ⟨b,o,none⟩:=g;have A:n=i.length:=A;subst g A
    have M:∀u∈i.flatten,u.oneCell'=true:=λu l=>by
     obtain⟨e,t,F⟩:=mem_flatten.1 l;exact m.one e t u F
    refine Src.ofSlice w l ⟨b,o,none⟩ _ c _ (cL m.len) ?_ M;intro j u z;rw[Addr.add_none,cell_of_heap (p.wrel.msat b _ L)];rw[<-D]at z;have G:=(List.getElem?_eq_some_iff.1 z).1;rw[getElem?_take,if_pos (by rw[length_take]at G;omega),getElem?_drop]at z;exact z
 .rename_i s q l;rw[q]at d;have d:a.eval y= .string s:=d;split at h
  .rename_i g;have g:=Nat.eq_of_beq_eq_true g;subst g;refine⟨fB s,⟨λe t=>by obtain⟨b,_,rfl⟩:=mem_map.1 t;rfl,λe t u v=>by obtain⟨b,_,rfl⟩:=mem_map.1 t;simp at v;subst v;rfl⟩,?_,h⟩;rw[d,HN];have D:(fB s).length=s.size:=by simp[fB]
   rw[D];exact Src.ofString w l s
  .exact h.elim
 .exact h.elim
theorem Dq.mono{S S':Nat->Prop}{w w':World}(h:Dq S w w')(d:∀b,S b->S' b):Dq S' w w':=⟨h.tape,h.os,h.output,h.drawn,h.size,λb e f=>h.block b e (λc=>f (d b c))⟩
theorem DE{v:Value}{b:Nat}(h:v.ownBlock=some b):blk v=some b:=by
 cases v<;>simp[Value.ownBlock]at h
 case slice ad n c=>cases ad<;>simp at h;simpa[blk]using h
theorem CW{sz:Nat}{xs c:List bm}(hx:eR sz xs)(d:eR sz c):eR sz (xs++c):=
 ⟨λe b=>(mem_append.1 b).elim (hx.len e) (d.len e),λe b=>(mem_append.1 b).elim (hx.one e) (d.one e)⟩
theorem yU{E sz n:Nat}{v:Value}{l:bm}(h:w.ownsRow 0 E sz v n l){b:Nat}(c:blk v=some b):v.ownBlock=some b:=by
 rcases h.2 with⟨rfl,_⟩|⟨g,d,e,rfl,_⟩
 .simp[blk]at c
 .simpa[blk,Value.ownBlock]using c
theorem aLX(g:aI B ι σ a w){w':World}{m':MH}{S:Nat->Prop}(q:Dq S w w')(A:∀b,S b->σ.m b≠none)(s:∀b o,m' b=some o->w'.heap[b]? =some o/\(σ.m b≠none\/w.heap.size<=b)):
 aI B ι {σ with m:=m'} a w'/\∀o,Au o.op=false->HS σ ι o w w':=by
 have c:=g.wrel
 have t:∀b,w.heap.size<=b->∀i,σ.h b i=none:=by
  intro b d i;cases e:σ.h b i with
  |none=>rfl
  |some v=>have:=World.block_lt_of_cell? w ⟨b,i,none⟩ (c.hsat _ _ _ e);simp at this;omega
 have E:∀b,S b->∀i,σ.h b i=none:=by
  intro b d i;cases e:σ.m b with
  |none=>exact absurd e (A b d)
  |some x=>exact c.disj b x e i
 have y:∀k r b,nth σ.own k=some (some r)->blk (ι k)=some b->¬S b:=by
  intro k r b j d u;exact A b u (g.fresh k r b j d).2.1
 have n:∀b i v,σ.h b i=some v->w'.cell? ⟨b,i,none⟩=some v:=by
  intro b i v F;have D:=c.hsat b i v F;rw[<-D];exact World.cell?_of_block (w:=w) (w':=w') (a:=⟨b,i,none⟩) (q.block b (World.block_lt_of_cell? w ⟨b,i,none⟩ D) (λu=>by rw[E b u i]at F;cases F))
 refine⟨⟨g.slots,g.defers,λk r j=>(g.own k r j).world (λb d=>q.block b (pA (g.own k r j) d) (y k r b j d)),g.dist,?_,?_,g.one⟩,λo H=>⟨?_,n,λh=>(by rw[H]at h;cases h),λl b _ f D _=>q.block b f (λu=>A b u D)⟩⟩
 .intro k r b j d;obtain⟨I,J,L⟩:=g.fresh k r b j d;refine⟨I,?_,L⟩;show m' b=none;cases e:m' b with
  |none=>rfl
  |some x=>
   rcases(s b x e).2 with f|f
   .exact absurd J f
   .have:=pA (g.own k r j) d;omega
 .refine⟨q.tape.trans c.tape,q.os.trans c.os,q.output.trans c.output,Nat.le_trans c.drawn q.drawn,Nat.le_trans c.size q.size,?_,n,λb o e=>(s b o e).1,?_,c.hle,c.hold,?_⟩
  .intro b d G;rw[q.block b (Nat.lt_of_lt_of_le d c.size) (λu=>?_)]
   .exact c.frame b d G
   .cases e:σ.m b with
    |none=>exact A b u e
    |some x=>
     rcases c.mfr b x e with f|f
     .omega
     .exact G f
  .intro b o e i;rcases(s b o e).2 with f|f
   .cases z:σ.m b with
    |none=>exact absurd z f
    |some x=>exact c.disj b x z i
   .exact t b f i
  .intro b o e;rcases(s b o e).2 with f|f
   .cases z:σ.m b with
    |none=>exact absurd z f
    |some x=>exact c.mfr b x z
   .exact .inl (Nat.le_trans c.size f)
 .intro k p T N b j _ M;have d:blk (ι k)=some b:=by rw[M];rfl
  exact q.block b (pA (g.own k _ j) d) (y k _ b j d)
theorem Tz(M:aI B ι σ a w){T tx:Nat}{x y:Operand}{c:Call}(ho:o.op= .call c)(hc:c.callee= .builtin .append)(hx:c.args.toList=[x,y])(ht:c.argTypes.toList=[T,tx])
 (h:Pj C o T tx x y σ K):TW B C ι o σ K a w:=by
 intro next Q O
 have b3:c.args= #[x,y]:=by apply Array.toList_inj.1;simpa using hx
 have c0:c.argTypes= #[T,tx]:=by apply Array.toList_inj.1;simpa using ht
 unfold Pj at h;split at h
 .rename_i d E z hd hE;obtain⟨it,zv,hu,hi,hv,rfl,a1,Y,d2,c1⟩:=FI hE;have a5:C.P.bytesOf E=it.bytes:=by simp[Program.bytesOf,hi]
  have Z:∀L U,(Builtin.append_ #[T,tx] o.type #[a.eval x,a.eval y]).run C.P w= .ok L U->(execOp a.eval o).run C.P w= .ok (.value L) U:=by
   intro L U hr;unfold execOp;simp only[ho,resolve,hc,b3,c0,invoke,builtin,Sem.run_bind,Sem.run_pure,Result.andThen_ok,map_toArray,map_cons,map_nil];rw[hr];rfl
  have a6:∀(R:Option Addr)(n X:Nat),σ.ev x= .at (.val (.slice R n X))->(∃v:List bm,cR σ.m ⟨R,n,X⟩ E (C.P.cellsOf E) v/\
   LC C.P (Qt C) σ (C.P.cellsOf E) tx (σ.ev y) λN=>
    (v.length+N.length)*C.P.bytesOf E<=140737488355328/\v.length+N.length<=140737488355328/\
    ∀(s':Sl)(m':MH),eK σ.m m' ⟨R,n,X⟩ s' E (C.P.cellsOf E) (v++N)->K ({σ with m:=m'}.put (some d) (.at (.val s'.val))))->o.wp C.P a w next Q:=by
   intro R n X S h;have s:=M.ev x;rw[S]at s;have s:a.eval x= .slice R n X:=s;obtain⟨v,D,h⟩:=h;obtain⟨N,hr,F,I,b0,h⟩:=SK M h;rw[Y]at hr F h;rw[a5]at I;have a2:=D.rows;rw[Y]at a2
   have b4:w.ownsRow 0 E it.size (.slice R n X) v.length v.flatten:=by
    refine⟨cL a2.len,?_⟩;rcases D.ex with⟨A,e2⟩|⟨b,a7,a3,A,hm,t,h2,h3,h4⟩
    .simp only[Sl.mk.injEq]at A;obtain⟨rfl,rfl,rfl⟩:=A;exact .inl ⟨rfl,by rw[e2];rfl⟩
    .simp only[Sl.mk.injEq]at A;obtain⟨rfl,rfl,rfl⟩:=A;exact .inr ⟨b,_,a3,rfl,Nat.zero_le _,M.wrel.msat b _ hm,t,h2,by rw[<-Y];exact h3,by rw[<-Y];exact h4⟩
   have a8:∀b,Value.ownBlock (.slice R n X)=some b->σ.m b≠none:=by
    intro b p;rcases D.ex with⟨A,e2⟩|⟨b',a7,a3,A,hm,_⟩
    .simp only[Sl.mk.injEq]at A;obtain⟨rfl,rfl,rfl⟩:=A;simp[Value.ownBlock]at p
    .simp only[Sl.mk.injEq]at A;obtain⟨rfl,rfl,rfl⟩:=A;simp[Value.ownBlock]at p;subst p;rw[hm];simp
   obtain⟨L,U,V,J,r,G,H⟩:=vX (P:=C.P) w T tx o.type E it zv hu hi hv a1 (.slice R n X) v.length v.flatten b4 (a.eval y) N.length N.flatten F (by unfold maxLen;omega) I;rw[<-flatten_append, <-length_append]at J
   obtain⟨W,n',a',rfl⟩:∃W n' a',L= .slice W n' a':=by
    rcases J.2 with⟨e,_⟩|⟨g,a7,a3,e,_⟩
    .exact⟨_,_,_,e⟩
    .exact⟨_,_,_,e⟩
   let m':MH:=λb=>if Value.ownBlock (.slice W n' a')=some b then U.heap[b]? else if Value.ownBlock (.slice R n X)=some b then none else σ.m b
   have b2:∀b,Value.ownBlock (.slice W n' a')=some b->m' b=U.heap[b]? :=λb p=>by simp only[m',if_pos p]
   obtain⟨c6,hk⟩:=aLX (m':=m') M r a8 (by
    intro b ob p;by_cases A:Value.ownBlock (.slice W n' a')=some b
    .rw[b2 b A]at p;refine⟨p,?_⟩;rcases G b A with t|t
     .exact .inr t
     .exact .inl (a8 b t)
    .by_cases e2:Value.ownBlock (.slice R n X)=some b
     .simp only[m',if_neg A,if_pos e2]at p;cases p
     .simp only[m',if_neg A,if_neg e2]at p;refine⟨?_,.inl (by rw[p];simp)⟩;have t:=M.wrel.msat b ob p;rw[r.block b (Array.getElem?_eq_some_iff.1 t).1 e2];exact t)
   unfold Oper.wp;rw[Z _ U (by rw[s];exact V),Oper.upon_value,hd];refine O ι _ _ _ (c6.put (some d) (x:=.at (.val (.slice W n' a'))) rfl) (h ⟨W,n',a'⟩ m' ⟨⟨?_,?_⟩,?_,?_⟩) (hk o (by rw[ho];rfl))
   .exact CW a2 hr
   .rcases J.2 with⟨A,e2⟩|⟨b,a7,a3,A,_,hh,t,h2,h3,h4⟩
    .simp only[Value.slice.injEq]at A;obtain⟨rfl,rfl,rfl⟩:=A;exact .inl ⟨rfl,eq_nil_of_length_eq_zero e2⟩
    .simp only[Value.slice.injEq]at A;obtain⟨rfl,rfl,rfl⟩:=A;exact .inr ⟨b,_,a3,rfl,by rw[b2 b rfl];exact hh,t,h2,h3,h4⟩
   .intro b ob p b5
    have e2:Value.ownBlock (.slice R n X)≠some b:=by
     intro e;rcases D.ex with⟨A,_⟩|⟨b',a7,a3,A,hm,_⟩
     .simp only[Sl.mk.injEq]at A;obtain⟨rfl,rfl,rfl⟩:=A;simp[Value.ownBlock]at e
     .simp only[Sl.mk.injEq]at A;obtain⟨rfl,rfl,rfl⟩:=A;simp[Value.ownBlock]at e;subst e;exact b5 0 rfl
    have A:Value.ownBlock (.slice W n' a')≠some b:=by
     intro e;rcases G b e with t|t
     .have:=(Array.getElem?_eq_some_iff.1 (M.wrel.msat b ob p)).1;omega
     .exact e2 t
    simp only[m',if_neg A,if_neg e2];exact p
   .intro b i e;have e:W=some ⟨b,i,none⟩:=e;rcases G b (by rw[e];rfl)with t|t
    .left;cases e2:σ.m b with
     |none=>rfl
     |some x=>have:=(Array.getElem?_eq_some_iff.1 (M.wrel.msat b x e2)).1;omega
    .right;rcases D.ex with⟨A,_⟩|⟨b',a7,a3,A,hm,_⟩
     .simp only[Sl.mk.injEq]at A;obtain⟨rfl,rfl,rfl⟩:=A;simp[Value.ownBlock]at t
     .simp only[Sl.mk.injEq]at A;obtain⟨rfl,rfl,rfl⟩:=A;simp[Value.ownBlock]at t;exact⟨0,by rw[t]⟩
  split at h
  .rename_i R n X c7 d3 S;have s:=M.ev x;rw[S]at s;have s:a.eval x= .slice R n X:=s;obtain⟨rfl,v,a0,D,h⟩:=h;obtain⟨N,hr,F,b5,I,b0,h⟩:=SK M h;rw[Y]at hr F h a0 D;rw[a5]at I;have hn:X=v.length:=D.len;subst hn
   have fin:∃L U,(Builtin.append_ #[T,tx] o.type #[.slice R v.length v.length,a.eval y]).run C.P w= .ok L U/\U.ownsRow 0 E it.size L (v.length+N.length) (v++N).flatten/\Dq (λ_=>False) w U/\
    (∀b,L.ownBlock=some b->w.heap.size<=b)/\L.oneCell'=true:=by
    cases R with
    |none=>
     have c8:v=[]:=by
      rcases D.row with e|⟨b,b6,e,_⟩
      .exact e
      .cases e
     subst c8;obtain⟨L,U,t,h2,h3,h4,h5⟩:=vX (P:=C.P) w T tx o.type E it zv hu hi hv a1 (.slice none 0 0) 0 [] (World.ownsRow_nil w 0 E it.size) (a.eval y) N.length N.flatten F (by unfold maxLen;omega) (bj I);refine⟨L,U,t,bj h2,h3.mono (λb p=>by simp[Value.ownBlock]at p),λb p=>?_,h5⟩;rcases h4 b p with e|e
     .exact e
     .simp[Value.ownBlock]at e
    |some R=>
     have hy:0<N.length:=by
      rcases b5 with e|e
      .cases e
      .exact e
     have d4:=SL (P:=C.P) (w:=w) (tx:=T) hu a0 D M.wrel.hsat;have c2:v.length+N.length<=maxLen:=by unfold maxLen;omega
     have a9:(v.flatten++N.flatten).length=(v.length+N.length)*it.size:=by rw[length_append,cL a0.len,cL hr.len,Nat.add_mul]
     have c9:=grownCap_ge w (v.length+N.length) v.length E;have d':grownCap w (v.length+N.length) v.length E<=maxLen:=grownCap_le_maxLen w _ _ E c2
     have c3:(Builtin.firstCells it.size v.length (.slice (some R) v.length v.length)).run C.P w.drew= .ok v.flatten.toArray w.drew:=by
      rcases D.row with rfl|⟨b,b6,e,hc⟩
      .simp[Builtin.firstCells,loadCells,loadCellsFrom]
      .have e:some R=some ⟨b,b6,none⟩:=e;cases e;refine run_firstCells_some w.drew it.size v.length ⟨b,b6,none⟩ v.length v.length v.flatten (cL a0.len) λj u hj=>?_;obtain⟨i,e,q,t,h2,rfl⟩:=FF a0.len hj;rw[Addr.add_none];have:=M.wrel.hsat _ _ _ ((hc i e t).rd q u h2);rw[<-Nat.add_assoc];exact this
     have d0:=run_append_grow_src (P:=C.P) w T tx o.type E it zv hu hi hv (some R) v.length v.length v.flatten c3 (a.eval y) N.length N.flatten F aC (by unfold maxLen at c2;omega) (growslice_fits aC I);refine⟨_,_,d0,⟨?_,.inr ⟨w.heap.size,_,_,rfl,Nat.zero_le _,heap_alloc_new w.drew _,c9,d',?_,?_⟩⟩,⟨rfl,rfl,rfl,Nat.le_succ _,bg,λk hk _=>heap_alloc_old w.drew _ k hk⟩,λb p=>by simp[Value.ownBlock]at p;omega,rfl⟩
     .rw[flatten_append,a9]
     .simp only[Array.size_append,size_toArray,size_zeroCells,a1,a9, <-Nat.add_mul];congr 1;omega
     .simp only[Array.toList_append];rw[flatten_append, <-a9];exact take_left
   obtain⟨L,U,V,f,r,G,H⟩:=fin;rw[<-length_append]at f;unfold Oper.wp;rw[Z L U (by rw[s];exact V),Oper.upon_value,hd];refine O (upd ι d L) _ _ _ ?_ h ?_
   .refine aI.put ?_ (some d) (by show _=_;simp);exact M.place d _ L (r.mono (λb p=>p.elim)) ⟨CW a0 hr,f⟩ H (λb p=>.inl (G b (yU f p)))
   .exact Ez M d (λ_=>B3 hd) (λb p _=>r.block b p (λt=>t.elim)) (λhg=>by rw[ho]at hg;simp[Au]at hg) (λl e=>by simp_all [sF])
  .rename_i R n X c7 S;exact a6 R n X S h
  rename_i b7 c4;clear c4 b7;split at h
  .rename_i S;have s:=M.ev x;rw[S]at s;have s:a.eval x= .slice none 0 0:=s;split at h
   .rename_i n a4
    obtain⟨kn,kq,b8,b9⟩:∃kn kq,C.P.underlying tx=some (.int kn)/\σ.ev y= .at (.val (.int kq n)):=by
     unfold Za at a4;split at a4
     .rename_i kn b8;split at a4
      .rename_i kq n' b9;simp only[Option.some.injEq]at a4;subst a4;exact⟨kn,kq,b8,b9⟩
      .cases a4
     .cases a4
    have hy:=M.ev y;rw[b9]at hy;have hy:a.eval y= .int kq n:=hy;obtain⟨h0,I,b0,h⟩:=h;rw[Y]at h;rw[a5]at I;obtain⟨k,rfl⟩:∃k:Nat,n=k:=⟨n.toNat,aC⟩
    have c5:k*it.bytes<=140737488355328:=by rw[<-Int.natCast_mul]at I;omega
    obtain⟨L,U,V,f,r,G,H⟩:=J9 (P:=C.P) w T tx o.type E it zv kq kn hu b8 hi hv a1 aC k aC c5 aC;unfold Oper.wp;rw[Z L U (by rw[s,hy];exact V),Oper.upon_value,hd];refine O (upd ι d L) _ _ _ ?_ h ?_
    .refine aI.put ?_ (some d) (by show _=_;simp);refine M.place d _ L (r.mono (λb p=>p.elim)) ⟨?_,?_⟩ H (λb p=>.inl (G b (yU f p)))
     .exact oJ (bj a1) c1 _
     .simpa using f
    .exact Ez M d (λ_=>B3 hd) (λb p _=>r.block b p (λt=>t.elim)) (λhg=>by rw[ho]at hg;simp[Au]at hg) (λl e=>by simp_all [sF])
   .obtain⟨N,hr,F,I,b0,h⟩:=SK M h;rw[Y]at hr F h;rw[a5]at I;obtain⟨L,U,V,f,r,G,H⟩:=vX (P:=C.P) w T tx o.type E it zv hu hi hv a1 (.slice none 0 0) 0 [] (World.ownsRow_nil w 0 E it.size) (a.eval y) N.length N.flatten F (by unfold maxLen;omega) (bj I);simp only[Nat.zero_add,nil_append]at f;unfold Oper.wp;rw[Z L U (by rw[s];exact V),Oper.upon_value,hd];refine O (upd ι d L) _ _ _ ?_ h ?_
    .refine aI.put ?_ (some d) (by show _=_;simp);refine M.place d _ L (r.mono (λb p=>by simp[Value.ownBlock]at p)) ⟨hr,f⟩ H (λb p=>?_);rcases G b (yU f p)with t|t
     .exact .inl t
     .simp[Value.ownBlock]at t
    .exact Ez M d (λ_=>B3 hd) (λb p _=>r.block b p (λt=>by simp[Value.ownBlock]at t)) (λhg=>by rw[ho]at hg;simp[Au]at hg) (λl e=>by simp_all [sF])
  .rename_i k S;have s:=M.ev x;rw[S]at s;have s:a.eval x=ι k:=s;split at h
   .rename_i E' sz v f d1;split at h
    .rename_i c' b1;have c':=Nat.eq_of_beq_eq_true c';have b1:=Nat.eq_of_beq_eq_true b1;subst c';rw[Y]at b1;subst b1;obtain⟨N,hr,F,I,b0,h⟩:=SK M h;rw[a5]at I;obtain⟨a0,b4⟩:=rF M f;obtain⟨L,U,V,J,r,G,H⟩:=vX (P:=C.P) w T tx o.type E' it zv hu hi hv a1 (ι k) v.length v.flatten b4 (a.eval y) N.length N.flatten F (by unfold maxLen;omega) I;rw[<-flatten_append, <-length_append]at J;unfold Oper.wp;rw[Z L U (by rw[s];exact V),Oper.upon_value,hd];refine O (upd ι k L) _ _ _ ?_ h ?_
     .refine aI.put ?_ (some d) (by show _=_;simp);refine M.place k _ L (r.mono (λb p=>⟨⟨_,f⟩,DE p⟩)) ⟨CW a0 hr,J⟩ H (λb p=>?_);rcases G b (yU J p)with t|t
      .exact .inl t
      .exact .inr ⟨⟨_,f⟩,DE t⟩
     .refine Ez M k (λ⟨p',T',d5,e⟩=>by rw[f]at e;cases e) (λb p hn=>r.block b p (λt=>hn ⟨⟨_,f⟩,DE t⟩)) (λhg=>by rw[ho]at hg;simp[Au]at hg) (λl e=>by simp_all [sF])
    .exact h.elim
   .exact h.elim
  .rename_i R n X _ S;exact a6 R n X S h
  .exact h.elim
 .exact h.elim
theorem aI.rewrite(d:aI B ι σ a w){k:Nat}{t i:Own}{w':World}(p:nth σ.own k=some (some t))(u:Dq (λb=>blk (ι k)=some b) w w')(A:Dt ι w' (ι k) i):
 aI B ι (σ.setOwn k (some i)) a w':=by
 have c:∀j m,nth (σ.setOwn k (some i)).own j=some (some m)->(j=k/\m=i)\/(j≠k/\nth σ.own j=some (some m)):=by
  intro j m f;simp only[St.setOwn,yV]at f;by_cases e:j=k
  .subst e;by_cases v:j<σ.own.length
   .simp[v]at f;exact .inl ⟨rfl,f.symm⟩
   .simp[v,jB]at f
  .simp only[e,false_and,if_false]at f;exact .inr ⟨e,f⟩
 refine⟨d.slots,d.defers,?_,?_,?_,?_,d.one⟩
 .intro j m f;rcases c j m f with⟨rfl,rfl⟩|⟨n,l⟩
  .exact A
  .have q:=d.own j m l;refine q.world (λb g=>u.block b (pA q g) (λh=>n (d.dist j k _ _ b l p g h)))
 .intro j D s E b f l g h;rcases c j s f with⟨rfl,rfl⟩|⟨n,r⟩<;>rcases c D E l with⟨rfl,rfl⟩|⟨y,z⟩
  .rfl
  .exact d.dist _ _ _ _ b p z g h
  .exact d.dist _ _ _ _ b r p g h
  .exact d.dist _ _ _ _ b r z g h
 .intro j s b f g;rcases c j s f with⟨rfl,rfl⟩|⟨n,r⟩
  .exact d.fresh _ _ b p g
  .exact d.fresh _ _ b r g
 .exact d.wrel.ext u (λb g=>d.fresh k t b p g)
theorem H3(e:∀k,(ι k).oneCell'=true):∀{cs:cr}{vs:bm},sH cs=true->iC ι cs vs->∀v∈vs,v.oneCell'=true
 |[],[],_,_,v,f=>by cases f
 |x::cs,u::vs,g,l,v,f=>by
  simp only[sH]at g;split at g
  .rename_i m;rcases mem_cons.1 f with rfl|f
   .have d:=l.1;cases x with
    |val p=>
     have:v=p:=d;subst this;cases v<;>first|rfl|(simp[At.storable]at m)
    |ptr k j=>obtain⟨b,_,rfl⟩:=d;rfl
    |lst k=>have:v=ι k:=d;rw[this];exact e k
    |el k i q j=>obtain⟨b,n,c,_,rfl⟩:=d;rfl
    |junk=>simp[At.storable]at m
   .exact H3 e g l.2 v f
  .cases g
 |[],_::_,_,h,_,_=>h.elim
 |_::_,[],_,h,_,_=>h.elim
theorem SO{P:Program}{T:TypeId}{w:World}{g off:Nat}{b:Array Value}{E:TypeId}{v:Value}(j:iR P T=true)(e:v.cells.size=P.cellsOf T)(k:w.heap[g]? =some (.cells b E (0,0)))
 (f:off+v.cells.size<=b.size)(l:∀u∈v.cells.toList,u.oneCell'=true):
 (storeVar T ⟨g,off,none⟩ v).run P w= .ok () (w.setRow g (splice b.toList off v.cells.toList).toArray):=by
 obtain⟨i,d,m,p,n,h⟩:=gC j;have c:=run_storeCells_at P g off E v.cells.toList 0 b w k (bj f) l;simp only[Nat.add_zero]at c;unfold storeVar;rw[n]at e;simp only[Sem.run_bind,run_sizeOf m,Result.andThen_ok];rw[if_neg aC];simp only[c,splice]
theorem E6(w:World)(g:Nat)(cs:Array Value):Dq (λb=>b=g) w (w.setRow g cs):=
 ⟨rfl,rfl,rfl,Nat.le_refl _,bg,λb _ c=>setRow_other w g b cs c⟩
theorem E7{cs:cr}{l vs:bm}(c:tX cs=some l)(b:iC ι cs vs):vs=l:=by
 rw[Dc c,iC.vals]at b;exact b
theorem flatten_set{sz:Nat}{l:bm}:∀{xs:List bm}{i:Nat}{e:bm}{off:Nat},(∀e∈xs,e.length=sz)->xs[i]? =some e->off+l.length<=e.length->
 splice xs.flatten (i*sz+off) l=(xs.set i (splice e off l)).flatten
 |[],i,e,off,_,b,_=>by simp at b
 |x::xs,0,e,off,d,b,c=>by
  simp at b;subst b;simp only[splice,Nat.zero_mul,Nat.zero_add,flatten_cons,set_cons_zero,append_assoc];rw[take_append_of_le_length aC,drop_append_of_le_length aC]
 |x::xs,i+1,e,off,d,b,c=>by
  simp only[getElem?_cons_succ]at b;have f:x.length=sz:=d x bg;have g:=flatten_set (λe h=>d e (by simp[h])) b c;rw[set_cons_succ,flatten_cons,flatten_cons, <-g];simp only[splice];have j:(i+1)*sz+off=x.length+(i*sz+off):=by rw[f,Nat.succ_mul];omega
  rw[j,take_length_add_append,show x.length+(i*sz+off)+l.length=x.length+(i*sz+off+l.length)by omega,drop_length_add_append];simp
theorem PQ{sz:Nat}{xs:List bm}{i off:Nat}{e l:bm}(c:eR sz xs)(n:xs[i]? =some e)(f:off+l.length<=e.length)(p:∀u∈l,u.oneCell'=true):
 eR sz (xs.set i (splice e off l)):=by
 have b:e∈xs:=mem_of_getElem? n;constructor
 .intro g j;rcases mem_or_eq_of_mem_set j with h|h
  .exact c.len g h
  .rw[h,G7 _ _ _ f];exact c.len e b
 .intro g j u d;rcases mem_or_eq_of_mem_set j with h|h
  .exact c.one g h u d
  .rw[h]at d;unfold splice at d;rcases mem_append.1 d with k|k
   .rcases mem_append.1 k with m|m
    .exact c.one e b u (mem_of_mem_take m)
    .exact p u m
   .exact c.one e b u (mem_of_mem_drop k)
theorem T8(u l:bm)(p N:Nat)(h:p+l.length<=N)(i:N<=u.length):(splice u p l).take N=splice (u.take N) p l:=by
 apply ext_getElem?;intro j;simp only[splice,getElem?_take,getElem?_append,length_append,length_take,getElem?_drop];have e:min p u.length=p:=by omega
 have f:min N u.length=N:=by omega
 have g:min p N=p:=by omega
 simp only[e,f,g];by_cases b:j<N
 .by_cases c:j<p
  .simp[b,c,show j<p+l.length by omega]
  .by_cases d:j<p+l.length
   .simp[b,c,d]
   .simp[b,d,show p+l.length+(j-(p+l.length))<N by omega]
 .simp[b,show¬j<p+l.length by omega,show¬p+l.length+(j-(p+l.length))<N by omega]
theorem Uc(z:aI B ι σ a w){T:Nat}{x v:Operand}(ho:o.op= .store T x v)(a0:o.dst=none)(h:SJ C T x v σ K):TW B C ι o σ K a w:=by
 intro next Q J
 have F:=z.ev x;unfold SJ at h;split at h
 .exact h.elim
 .rename_i new a1;split at h
  .rename_i W a8 hT;have W:=Nat.eq_of_beq_eq_true W;have hd:=Bs z.one (z.ev v) a1;have h1:=H3 z.one a8 hd;have b8:new.length=(a.eval v).cells.size:=by have:=hd.length;simpa using this
   have O:∀g j A E,a.eval x= .pointer (some ⟨g,j,none⟩)->w.heap[g]? =some (.cells A E (0,0))->j+(a.eval v).cells.size<=A.size->
    (execOp a.eval o).run C.P w= .ok .skip (w.setRow g (splice A.toList j (a.eval v).cells.toList).toArray):=by
    intro g j A E X I G;unfold execOp;simp only[ho,X,Instr.storeAt,Instr.sureAddr,Sem.run_bind,Sem.run_pure,Result.andThen_ok,SO hT aC I G h1]
   have nG:a.put o.dst undef=a:=by rw[a0];rfl
   split at h
   .rename_i k j X;rw[X]at F;split at h
    .rename_i p E V D;split at h
     .rename_i G;have G:=Nat.le_of_ble_eq_true G;obtain⟨b,vs,N,hh,a2⟩:=vM z D;obtain⟨f,d,hp⟩:=F;rw[N]at d;simp only[Value.pointer.injEq,Option.some.injEq,Addr.mk.injEq]at d;obtain⟨rfl, -, -⟩:=d;have b9:V.length=vs.size:=by have:=a2.length;simpa using this
      unfold Oper.wp;rw[O b j vs E hp hh aC,Oper.upon_skip,nG];have R:blk (ι k)=some b:=by rw[N];rfl
      have r:=E6 w b (splice vs.toList j (a.eval v).cells.toList).toArray;refine J ι _ _ _ (z.rewrite D (r.mono (λf d=>by rw[d];exact R)) ?_) h ?_
      .exact⟨b,_,N,setRow_heap w b vs _ E _ hh,bj (a2.splice j hd),λq e=>by subst e;have:=Zm z D;rw[N]at this;simpa using this⟩
      .refine Ez z k (λ_=>?_) (λf d hn=>r.block f d (λe=>hn ⟨⟨_,D⟩,by rw[e];exact R⟩)) (λI=>by rw[ho]at I;simp[Au]at I) (λl e=>by simp_all [sF]);unfold yT;simp[ho,X]
     .exact h.elim
    .exact h.elim
   .rename_i k i sz j X;rw[X]at F;split at h
    .rename_i E s xs l D hl;split at h
     .rename_i hs;have hs:=Nat.eq_of_beq_eq_true hs;subst hs;obtain⟨e,he,G,h⟩:=h;obtain⟨hr,a3⟩:=rF z D;obtain⟨b,n,c,N,hp⟩:=F;have L:(a.eval v).cells.toList=l:=E7 hl hd;rcases a3.2 with⟨hv,hn⟩|⟨g,c',A,hv,_,I,a4,a9,a5,Y⟩
      .rw[N]at hv;cases hv
      .rw[N]at hv;simp only[Value.slice.injEq,Option.some.injEq,Addr.mk.injEq]at hv;obtain⟨⟨rfl, -, -⟩,rfl,rfl⟩:=hv;have b0:i<xs.length:=(List.getElem?_eq_some_iff.1 he).1;have c0:e.length=s:=hr.len e (mem_of_getElem? he);have b1:(a.eval v).cells.size=l.length:=by rw[<-L];simp
       have b2:=cL hr.len
       have b3:i*s+j+l.length<=xs.length*s:=by
        have:(i+1)*s<=xs.length*s:=Nat.mul_le_mul_right _ b0;rw[Nat.succ_mul]at this;omega
       have b7:xs.length*s<=c*s:=Nat.mul_le_mul_right _ a4;unfold Oper.wp;rw[O b (i*s+j) A E hp I aC,Oper.upon_skip,nG];have R:blk (ι k)=some b:=by rw[N];rfl
       have r:=E6 w b (splice A.toList (i*s+j) (a.eval v).cells.toList).toArray;have a6:∀u∈l,u.oneCell'=true:=by rw[<-L];exact h1
       refine J ι _ _ _ (z.rewrite D (r.mono (λf d=>by rw[d];exact R)) ?_) h ?_
       .have a7:=PQ hr he G a6;refine⟨a7,cL a7.len,.inr ⟨b,c,_,by rw[N,length_set],Nat.zero_le _,setRow_heap w b A _ E _ I,by rw[length_set];exact a4,a9,?_,?_⟩⟩
        .simp only[size_toArray,L];rw[G7]
         .simpa using a5
         .simp;omega
        .rw[length_set];rw[<-flatten_set hr.len he G,L, <-Y];have c1:A.toList.length=c*s:=bj a5
         exact T8 A.toList l (i*s+j) (xs.length*s) b3 aC
       .refine Ez z k (λ⟨p',T',b4,e'⟩=>by rw[D]at e';cases e') (λf d b5=>r.block f d (λe'=>b5 ⟨⟨_,D⟩,by rw[e'];exact R⟩)) (λI=>by rw[ho]at I;simp[Au]at I) (λl e=>by simp_all [sF])
     .exact h.elim
    .exact h.elim
   .rename_i b j X;rw[X]at F;have F:a.eval x= .pointer (some ⟨b,j,none⟩):=F;split at h
    .rename_i l hl;obtain⟨V,E,Z,G,h⟩:=h;have L:(a.eval v).cells.toList=l:=E7 hl hd;have b1:(a.eval v).cells.size=l.length:=by rw[<-L];simp
     have I:=z.wrel.msat b _ Z.at_
     let m':MH:=λf=>if f=b then some (.cells (splice V.toList j l).toArray E (0,0))else σ.m f
     unfold Oper.wp;rw[O b j V E F I aC,Oper.upon_skip,nG,L];have r:=E6 w b (splice V.toList j l).toArray
     have a':∀k U,nth σ.own k=some (some U)->blk (ι k)≠some b:=by
      intro k U D hb;have:=(z.fresh k U b D hb).2.1;rw[Z.at_]at this;cases this
     refine J ι {σ with m:=m'} _ _ ?_ (h m' ⟨by simp[m'],λf d=>by simp[m',d]⟩) ?_
     .refine⟨z.slots,z.defers,?_,z.dist,?_,?_,z.one⟩
      .intro k U D;exact(z.own k U D).world (λf d=>r.block f (pA (z.own k U D) d) (λe=>a' k U D (e▸d)))
      .intro k U f D d;obtain⟨f1,f2,f3⟩:=z.fresh k U f D d;refine⟨f1,?_,f3⟩;have M:f≠b:=λe=>a' k U D (e▸d);simp[m',M,f2]
      .have H:=z.wrel;refine⟨H.tape,H.os,H.output,H.drawn,Nat.le_trans H.size r.size,?_,?_,?_,?_,H.hle,H.hold,?_⟩
       .intro f d hE
        have M:f≠b:=λe=>by
         subst e;rcases H.mfr f _ Z.at_ with S|S
         .omega
         .exact hE S
        rw[r.block f (Nat.lt_of_lt_of_le d H.size) M];exact H.frame f d hE
       .intro f y u hu;have M:f≠b:=λe=>by subst e;rw[H.disj f _ Z.at_ y]at hu;cases hu
        have S:=H.hsat f y u hu;rw[<-S];exact World.cell?_of_block (w:=w) (a:=⟨f,y,none⟩) (r.block f (World.block_lt_of_cell? w ⟨f,y,none⟩ S) M)
       .intro f ob d;have t:(if f=b then some (Obj.cells (splice V.toList j l).toArray E (0,0))else σ.m f)=some ob:=d;by_cases e:f=b
        .subst e;rw[if_pos rfl]at t;rw[setRow_heap w f V _ E _ I];exact t
        .rw[if_neg e]at t;have S:=H.msat f ob t;rw[r.block f (Array.getElem?_eq_some_iff.1 S).1 e];exact S
       .intro f ob d i;have t:(if f=b then some (Obj.cells (splice V.toList j l).toArray E (0,0))else σ.m f)=some ob:=d;by_cases e:f=b
        .subst e;exact H.disj f _ Z.at_ i
        .rw[if_neg e]at t;exact H.disj f _ t i
       .intro f ob d;have t:(if f=b then some (Obj.cells (splice V.toList j l).toArray E (0,0))else σ.m f)=some ob:=d;by_cases e:f=b
        .subst e;exact H.mfr f _ Z.at_
        .rw[if_neg e]at t;exact H.mfr f _ t
     .constructor
      .intro k p' T' b4 f D ht N;exact r.block f (pA (z.own k _ D) (by rw[N];rfl)) (λe=>a' k _ D (by rw[N, <-e];rfl))
      .intro f y u hu;have M:f≠b:=λe=>by subst e;rw[z.wrel.disj f _ Z.at_ y]at hu;cases hu
       have S:=z.wrel.hsat f y u hu;rw[<-S];exact World.cell?_of_block (w:=w) (a:=⟨f,y,none⟩) (r.block f (World.block_lt_of_cell? w ⟨f,y,none⟩ S) M)
      .intro I;rw[ho]at I;simp[Au]at I
      .intro l' f b6;simp[sF,ho]at b6
    .exact h.elim
   .exact h.elim
  .exact h.elim
end
end Go.Vc
namespace Go.Vc
open Go List
section
variable{B:qJ}{C:Ctx}{ι:cg}{σ:St}{a:Act}{w:World}{o:Oper}{K:St->Prop}
theorem kZ(d:aI B ι σ a w):HS σ ι o w w:=
 ⟨λ_ _ _ _ _ _ _ _=>rfl,λb c v e=>d.wrel.hsat b c v e,λ_ _ _=>rfl,λ_ _ _ _ _ _=>rfl⟩
theorem Ug(q:aI B ι σ a w){T:Nat}{x:Operand}{lo hi mx:Option Operand}(L:o.op= .slice T x lo hi mx)(h:SM C o T x lo hi mx σ K):TW B C ι o σ K a w:=by
 intro next Q l
 have d:=q.ev x;unfold SM at h;split at h
 .rename_i k n A;rw[A]at d;have d:a.eval x=ι k:=d;have c:=q.ev n;split at h
  .rename_i E M u D i E' S F y;rw[F]at c;have c:a.eval n= .int D i:=c;split at h
   case h_2=>exact h.elim
   rename_i r;obtain⟨G,I,h⟩:=h;obtain⟨hr,N⟩:=rF q S;have H:eR M (u.take i.toNat):=⟨λe Z=>hr.len e (mem_of_mem_take Z),λe Z=>hr.one e (mem_of_mem_take Z)⟩
   have v:(u.take i.toNat).length=i.toNat:=by rw[length_take];omega
   obtain⟨U,_,p,_⟩:=gC r;rcases N.2 with⟨V,a7⟩|⟨g,m,a',V,a8,hg,a9,a0,a1,J⟩
   .have a2:i=0:=by omega
    subst a2
    have f:(execOp a.eval o).run C.P w= .ok (.value (.slice none 0 0)) w:=by
     unfold execOp;simp[L,d,V,c,Instr.sliceAt,run_underlying y,Instr.slice,Instr.sliceBounds,Instr.sliceBound,asIntOf,run_sizeOf p]
    unfold Oper.wp;rw[f,Oper.upon_value];refine l (upd ι k (.slice none 0 0)) _ _ _ ?_ h (kZ q);refine aI.put ?_ o.dst (by show _=_;simp);refine q.place k _ _ (Dq.refl _ _) ⟨H,?_⟩ rfl (λb hb=>by simp[blk]at hb);simp only[Int.toNat_zero,take_zero,flatten_nil,length_nil];exact World.ownsRow_nil w 0 E M
   .have f:(execOp a.eval o).run C.P w= .ok (.value (.slice (some ⟨g,0,none⟩) i.toNat m)) w:=by
     have a3:i<=(m:Int):=by omega
     unfold execOp;simp[L,d,V,c,Instr.sliceAt,run_underlying y,Instr.slice,Instr.sliceBounds,Instr.sliceBound,asIntOf,run_sizeOf p,G,a3,Addr.add_none]
    unfold Oper.wp;rw[f,Oper.upon_value];refine l (upd ι k (.slice (some ⟨g,0,none⟩) i.toNat m)) _ _ _ ?_ h (kZ q);refine aI.put ?_ o.dst (by show _=_;simp);refine q.place k _ _ (Dq.refl _ _) ⟨H,cL H.len,.inr ⟨g,m,a',by rw[v],Nat.zero_le _,hg,aC,a0,a1,?_⟩⟩ rfl (λb hb=>.inr ⟨⟨_,S⟩,by rw[V];exact hb⟩);rw[v]
    have O:(u.take i.toNat).flatten=u.flatten.take (i.toNat*M):=by
     have:u=u.take i.toNat++u.drop i.toNat:=(take_append_drop _ _).symm;rw[show u.flatten=(u.take i.toNat).flatten++(u.drop i.toNat).flatten by rw[<-flatten_append,take_append_drop]];rw[take_left'];rw[cL H.len,v]
    rw[O, <-J,take_take];congr 1;have:i.toNat*M<=u.length*M:=Nat.mul_le_mul_right _ aC;omega
  .exact h.elim
 .rename_i z len m n A;rw[A]at d;have d:a.eval x= .slice z len m:=d;have c:=q.ev n;split at h
  .rename_i D i E' F y;rw[F]at c;have c:a.eval n= .int D i:=c;split at h
   case h_2=>exact h.elim
   rename_i r;obtain⟨G,I,h⟩:=h;obtain⟨U,_,p,_⟩:=gC r
   have f:(execOp a.eval o).run C.P w= .ok (.value (.slice z i.toNat m)) w:=by
    unfold execOp;simp[L,d,c,Instr.sliceAt,run_underlying y,Instr.slice,Instr.sliceBounds,Instr.sliceBound,asIntOf,run_sizeOf p,G,I];cases z<;>simp[Addr.add]
   unfold Oper.wp;rw[f,Oper.upon_value];exact l ι _ _ _ (q.put o.dst (x:=.at (.val _)) rfl) h (kZ q)
  .exact h.elim
 .rename_i z len m n k A;rw[A]at d;have d:a.eval x= .slice z len m:=d;have c:=q.ev n;have t:=q.ev k;split at h
  .rename_i D i kj j E' F S y;rw[F]at c;rw[S]at t;have c:a.eval n= .int D i:=c;have t:a.eval k= .int kj j:=t;split at h
   case h_2=>exact h.elim
   rename_i r;obtain⟨G,I,h2,h⟩:=h;obtain⟨U,_,p,_⟩:=gC r
   have f:(execOp a.eval o).run C.P w= .ok (.value (.slice z i.toNat j.toNat)) w:=by
    have W:0<=j:=by omega
    have X:max j 0=j:=by omega
    unfold execOp;simp[X,L,d,c,t,Instr.sliceAt,run_underlying y,Instr.slice,Instr.sliceBounds,Instr.sliceBound,asIntOf,run_sizeOf p,G,I,h2,W];cases z<;>simp[Addr.add]
   unfold Oper.wp;rw[f,Oper.upon_value];exact l ι _ _ _ (q.put o.dst (x:=.at (.val _)) rfl) h (kZ q)
  .exact h.elim
 .rename_i z len m n A;rw[A]at d;have d:a.eval x= .slice z len m:=d;have c:=q.ev n;split at h
  .rename_i D i E' F y;rw[F]at c;have c:a.eval n= .int D i:=c;split at h
   case h_2=>exact h.elim
   rename_i r;obtain⟨G,I,hc,h⟩:=h;obtain⟨U,_,p,b',a4,a6⟩:=gC r;have a5:=run_sizeOf p;obtain⟨s,Y⟩:∃s:Sl,bHZ (C.P.cellsOf E') ⟨z,len,m⟩ i.toNat s:=⟨⟨_,_,_⟩,rfl,rfl,rfl⟩
   have f:(execOp a.eval o).run C.P w= .ok (.value (.slice s.a s.len s.cap)) w:=by
    have W:=Y.a_;have X:=Y.len;have h5:=Y.cap;dsimp only at W X h5;unfold execOp;simp[L,d,c,Instr.sliceAt,run_underlying y,Instr.slice,Instr.sliceBounds,Instr.sliceBound,asIntOf,a5,G,I,W,X,h5,a4]
   unfold Oper.wp;rw[f,Oper.upon_value];exact l ι _ _ _ (q.put o.dst (x:=.at (.val _)) rfl) (h s Y) (kZ q)
  .exact h.elim
 .rename_i b R n A;rw[A]at d;have d:a.eval x= .pointer (some ⟨b,R,none⟩):=d;have c:=q.ev n;split at h
  .rename_i D i len E' F y;rw[F]at c;have c:a.eval n= .int D i:=c;split at h
   case h_2=>exact h.elim
   rename_i r;obtain⟨G,I,h⟩:=h;obtain⟨U,_,p,_⟩:=gC r
   have f:(execOp a.eval o).run C.P w= .ok (.value (.slice (some ⟨b,R,none⟩) i.toNat len)) w:=by
    unfold execOp;simp[L,d,c,Instr.sliceAt,run_underlying y,Instr.sliceBounds,Instr.sliceBound,asIntOf,run_sizeOf p,G,I,Instr.sureAddr,asAddr,Addr.add]
   unfold Oper.wp;rw[f,Oper.upon_value];exact l ι _ _ _ (q.put o.dst (x:=.at (.val _)) rfl) h (kZ q)
  .exact h.elim
 .exact h.elim
structure Ld(ι:cg)(σ σ':St)(ks:ck):Prop where
 cells:∀k p T cs,nth σ.own k=some (some (.cellsP p T cs))->k∉ks->∃cs',nth σ'.own k=some (some (.cellsP p T cs'))
 imm:σ'.h=σ.h
 lst:∀x k,σ'.ev x= .at (.lst k)->σ.ev x= .at (.lst k)
 m_:∀b,σ.m b=none->σ'.m b≠none->∃k∈ks,blk (ι k)=some b
theorem O6{σ:St}{k:Nat}{f:At->At}{m:MH}{h:PH}{own:db}(c:∀x j,f x≠ .lst j){x:Operand}{j:Nat}(hx:St.ev {sl:=σ.sl.map (SV.sub k f),own:=own,m:=m,h:=h} x= .at (.lst j)):σ.ev x= .at (.lst j):=by
 rcases YJ σ k f m h own x with b|⟨v,b⟩
 .exact Zf c (b▸hx)
 .rcases b with rfl|⟨g,rfl⟩|⟨g,rfl⟩<;>exact hx
theorem bTJ(t:aI B ι σ a w){k T:Nat}{p:Option Nat}{cs:cr}{l:bm}(E:nth σ.own k=some (some (.cellsP p T cs)))(M:tX cs=some l):
 ∃(b:Nat)(m':MH),bW σ.m σ.h b/\gG σ.m m' b (.cells l.toArray T (0,0))/\
  aI B ι {(σ.sub k (λ |.ptr _ o=>.val (.pointer (some ⟨b,o,none⟩))|_=>.junk)).setOwn k none with m:=m'} a w/\
  Ld ι σ {(σ.sub k (λ |.ptr _ o=>.val (.pointer (some ⟨b,o,none⟩))|_=>.junk)).setOwn k none with m:=m'} [k]:=by
 obtain⟨b,N,J,O,F⟩:=vM t E;have G:N.toList=l:=E7 M F;have r:blk (ι k)=some b:=by rw[J];rfl
 obtain⟨P,Q,L⟩:=t.fresh k _ b E r
 let m':MH:=λf=>if f=b then some (.cells l.toArray T (0,0))else σ.m f
 have g:aI B ι ((σ.sub k (λ |.ptr _ o=>.val (.pointer (some ⟨b,o,none⟩))|_=>.junk)).setOwn k none) a w:=by
  have:=t.drop k (ι k) (t.one k) (λ |.ptr _ o=>.val (.pointer (some ⟨b,o,none⟩))|_=>.junk) (by
   intro x v A F;cases x<;>simp only[At.key,Option.some.injEq,reduceCtorEq]at A
   case lst=>trivial
   case el=>trivial
   case ptr j off=>
    subst A;obtain⟨f,d,R⟩:=F;rw[J]at d;simp only[Value.pointer.injEq,Option.some.injEq,Addr.mk.injEq]at d;obtain⟨rfl, -, -⟩:=d;exact R)
  rwa [HY]at this
 have s:∀j y,nth ((σ.sub k (λ |.ptr _ o=>.val (.pointer (some ⟨b,o,none⟩))|_=>.junk)).setOwn k none).own j=some (some y)->blk (ι j)≠some b:=by
  intro j y u S;obtain⟨s,Y,H,_⟩:=pH u;exact s (t.dist j k _ _ b H E S r)
 refine⟨b,m',⟨Q,L⟩,⟨by simp[m'],λf d=>by simp[m',d]⟩,⟨g.slots,g.defers,g.own,g.dist,?_,?_,g.one⟩,?_⟩
 .intro j y f u d;obtain⟨U,V,W⟩:=g.fresh j y f u d;refine⟨U,?_,W⟩;have:f≠b:=λe=>s j y u (e▸d);show(if f=b then _ else σ.m f)=none;rw[if_neg this];exact V
 .have n:=t.wrel;refine⟨n.tape,n.os,n.output,n.drawn,n.size,n.frame,n.hsat,?_,?_,n.hle,n.hold,?_⟩
  .intro f q d;have c:(if f=b then some (Obj.cells l.toArray T (0,0))else σ.m f)=some q:=d;by_cases e:f=b
   .subst e;rw[if_pos rfl]at c;rw[O, <-c];congr 2;apply Array.toList_inj.1;simpa using G
   .rw[if_neg e]at c;exact n.msat f q c
  .intro f q d i;have c:(if f=b then some (Obj.cells l.toArray T (0,0))else σ.m f)=some q:=d;by_cases e:f=b
   .subst e;exact L i
   .rw[if_neg e]at c;exact n.disj f q c i
  .intro f q d;have c:(if f=b then some (Obj.cells l.toArray T (0,0))else σ.m f)=some q:=d;by_cases e:f=b
   .subst e;exact P
   .rw[if_neg e]at c;exact n.mfr f q c
 .refine⟨?_,rfl,λx j A=>O6 (λx j=>by cases x<;>simp) A,λf X D=>⟨k,bg,?_⟩⟩
  case refine_2=>
   have D:(if f=b then some (Obj.cells l.toArray T (0,0))else σ.m f)≠none:=D;by_cases e:f=b
   .rw[e];exact r
   .rw[if_neg e]at D;exact(D X).elim
  intro j Z T' I u z;simp only[mem_singleton]at z;refine⟨I.map (At.sub k (λ |.ptr _ o=>.val (.pointer (some ⟨b,o,none⟩))|_=>.junk)),?_⟩
  .simp only[St.setOwn,St.sub,yV,AW,z,false_and,if_false,u];rfl
theorem bUQ{σ τ υ:St}{k:Nat}{ks:ck}(h:Ld ι σ τ [k])(f:Ld ι τ υ ks){b:Nat}(g:σ.m b=none)(i:υ.m b≠none):∃j∈k::ks,blk (ι j)=some b:=by
 cases e:τ.m b with
 |none=>
  obtain⟨j,c,d⟩:=f.m_ b e i;exact⟨j,mem_cons_of_mem _ c,d⟩
 |some o=>
  obtain⟨j,c,d⟩:=h.m_ b g (by rw[e];simp);exact⟨j,by simp at c;simp[c],d⟩
theorem yK:∀(ks:ck)(σ:St),aI B ι σ a w->Fv σ K ks->∃e,aI B ι e a w/\K e/\Ld ι σ e ks
 |[],σ,g,h=>⟨σ,g,h,⟨λ_ _ _ y h _=>⟨y,h⟩,rfl,λ_ _ h=>h,λ_ i m=>(m i).elim⟩⟩
 |k::ks,σ,g,h=>by
  simp only[Fv]at h;split at h
  .rename_i p T y A;split at h
   .rename_i l D;obtain⟨b,E,n,q,r,d⟩:=bTJ g A D;obtain⟨e,s,F,c⟩:=yK ks _ r (h b E n q);refine⟨e,s,F,⟨λj z T' t G u=>?_,c.imm.trans d.imm,λx j H=>d.lst x j (c.lst x j H),λb i m=>bUQ d c i m⟩⟩;simp only[mem_cons,not_or]at u;obtain⟨f,v⟩:=d.cells j z T' t G (bj u.1);exact c.cells j z T' f v u.2
   .exact h.elim
  .exact h.elim
theorem aLJ(H:aI B ι σ a w){k E sz:Nat}{xs:List bm}(Q:nth σ.own k=some (some (.lst E sz xs))):
 ∃(s:Sl)(m':MH),rE σ.m m' σ.h s E sz xs/\aI B ι {(σ.sub k (λ |.lst _=>.val s.val|_=>.junk)).setOwn k none with m:=m'} a w/\
  Ld ι σ {(σ.sub k (λ |.lst _=>.val s.val|_=>.junk)).setOwn k none with m:=m'} [k]:=by
 obtain⟨hr,t⟩:=rF H Q
 obtain⟨s,R⟩:∃s:Sl,ι k=s.val:=by
  rcases t.2 with⟨p,_⟩|⟨g,q,l,p,_⟩
  .exact⟨⟨none,0,0⟩,p⟩
  .exact⟨⟨some ⟨g,0,none⟩,xs.length,q⟩,p⟩
 have n:aI B ι ((σ.sub k (λ |.lst _=>.val s.val|_=>.junk)).setOwn k none) a w:=by
  have:=H.drop k (ι k) (H.one k) (λ |.lst _=>.val s.val|_=>.junk) (by
   intro x v P S;cases x<;>simp only[At.key,Option.some.injEq,reduceCtorEq]at P
   case ptr=>trivial
   case el=>trivial
   case lst j=>
    subst P;have S:v=ι j:=S;show v=s.val;rw[S,R])
  rwa [HY]at this
 have J:∀m':MH,(∀b,σ.m b=none->m' b≠none->blk (ι k)=some b)->Ld ι σ {(σ.sub k (λ |.lst _=>.val s.val|_=>.junk)).setOwn k none with m:=m'} [k]:=by
  intro m' T;refine⟨?_,rfl,λx j P=>O6 (λx j=>by cases x<;>simp) P,λd L u=>⟨k,bg,T d L u⟩⟩;intro j p' T' U I M;simp only[mem_singleton]at M;refine⟨U.map (At.sub k (λ |.lst _=>.val s.val|_=>.junk)),?_⟩;simp only[St.setOwn,St.sub,yV,AW,M,false_and,if_false,I];rfl
 rcases t.2 with⟨p,V⟩|⟨g,q,l,p,a',hg,W,X,Y,D⟩
 .have F:s=⟨none,0,0⟩:=by
   rw[R]at p;obtain⟨x,y,z⟩:=s;simp only[Sl.val,Value.slice.injEq]at p;obtain⟨rfl,rfl,rfl⟩:=p;rfl
  subst F;exact⟨⟨none,0,0⟩,σ.m,⟨⟨hr,.inl ⟨rfl,eq_nil_of_length_eq_zero V⟩⟩,λ_ _=>rfl,λb i e=>by cases e⟩,n,J σ.m (λb L u=>(u L).elim)⟩
 .have N:blk (ι k)=some g:=by rw[p];rfl
  obtain⟨f1,f2,f3⟩:=H.fresh k _ g Q N
  have F:s=⟨some ⟨g,0,none⟩,xs.length,q⟩:=by
   rw[R]at p;obtain⟨x,y,z⟩:=s;simp only[Sl.val,Value.slice.injEq]at p;obtain⟨rfl,rfl,rfl⟩:=p;rfl
  subst F
  let m':MH:=λd=>if d=g then some (.cells l E (0,0))else σ.m d
  have G:∀j O,nth ((σ.sub k (λ |.lst _=>.val (Sl.mk (some ⟨g,0,none⟩) xs.length q).val|_=>.junk)).setOwn k none).own j=some (some O)->blk (ι j)≠some g:=by
   intro j O I hb;obtain⟨G,o1,Z,_⟩:=pH I;exact G (H.dist j k _ _ g Z Q hb N)
  refine⟨⟨some ⟨g,0,none⟩,xs.length,q⟩,m',⟨⟨hr,.inr ⟨g,q,l,rfl,by simp[m'],W,X,Y,D⟩⟩,λd f=>?_,λb i e=>?_⟩,⟨n.slots,n.defers,n.own,n.dist,?_,?_,n.one⟩,J m' (λb L u=>?_)⟩
  .have:d≠g:=λe=>f 0 (by rw[e]);simp[m',this]
  .simp only[Option.some.injEq,Addr.mk.injEq]at e;obtain⟨rfl,_,_⟩:=e;exact⟨f2,f3⟩
  .intro j O d I f;obtain⟨g1,g2,g3⟩:=n.fresh j O d I f;refine⟨g1,?_,g3⟩;have:d≠g:=λe=>G j O I (e▸f);show(if d=g then _ else σ.m d)=none;rw[if_neg this];exact g2
  .have r:=H.wrel;refine⟨r.tape,r.os,r.output,r.drawn,r.size,r.frame,r.hsat,?_,?_,r.hle,r.hold,?_⟩
   .intro d A f;have c:(if d=g then some (Obj.cells l E (0,0))else σ.m d)=some A:=f;by_cases e:d=g
    .subst e;rw[if_pos rfl]at c;rw[hg, <-c]
    .rw[if_neg e]at c;exact r.msat d A c
   .intro d A f i;have c:(if d=g then some (Obj.cells l E (0,0))else σ.m d)=some A:=f;by_cases e:d=g
    .subst e;exact f3 i
    .rw[if_neg e]at c;exact r.disj d A c i
   .intro d A f;have c:(if d=g then some (Obj.cells l E (0,0))else σ.m d)=some A:=f;by_cases e:d=g
    .subst e;exact f1
    .rw[if_neg e]at c;exact r.mfr d A c
  .have u:(if b=g then some (Obj.cells l E (0,0))else σ.m b)≠none:=u;by_cases e:b=g
   .rw[e,p];rfl
   .rw[if_neg e]at u;exact(u L).elim
theorem C7:∀(ks:ck)(σ:St),aI B ι σ a w->Dj σ K ks->∃e,aI B ι e a w/\K e/\Ld ι σ e ks
 |[],σ,i,h=>⟨σ,i,h,⟨λ_ _ _ v h _=>⟨v,h⟩,rfl,λ_ _ h=>h,λ_ l m=>(m l).elim⟩⟩
 |k::ks,σ,i,h=>by
  simp only[Dj]at h;split at h
  .rename_i E G H y;obtain⟨s,z,f,n,d⟩:=aLJ i y;obtain⟨e,p,A,c⟩:=C7 ks _ n (h s z f);refine⟨e,p,A,⟨λj u T' q D r=>?_,c.imm.trans d.imm,λx j F=>d.lst x j (c.lst x j F),λb l m=>bUQ d c l m⟩⟩;simp only[mem_cons,not_or]at r;obtain⟨g,t⟩:=d.cells j u T' q D (bj r.1);exact c.cells j u T' g t r.2
  .exact h.elim
end
end Go.Vc
namespace Go.Vc
open Go List
def Du(w:World):CV->Value->Prop
 |.val v,u=>u=v
 |.lst E c b,u=>eR c b/\w.ownsRow 0 E c u b.length b.flatten
 |.tup e,u=>∃d:Array Value,u= .tuple d/\e=d.toList.map .val
def gE:CV->Value->Option Nat
 |.lst _ _ _,u=>blk u
 |_,_=>none
def BV(w:World):cq->bm->Prop
 |[],[]=>True
 |c::cs,v::vs=>Du w c v/\BV w cs vs
 |_,_=>False
def rU(m:MH)(d:cq)(vs:bm)(b:Nat):Prop:=m b≠none\/∃(i:Nat)(c:CV)(u:Value),d[i]? =some c/\vs[i]? =some u/\gE c u=some b
structure Al(w:World)(m:MH)(h:PH)(cvs:cq)(vs:bm):Prop where
 args:BV w cvs vs
 hsat:∀b o v,h b o=some v->w.cell? ⟨b,o,none⟩=some v
 msat:∀b o,m b=some o->w.heap[b]? =some o
 disj:∀b o,m b=some o->∀i,h b i=none
 sep:∀(i j:Nat)(c d:CV)(u v:Value)(b:Nat),cvs[i]? =some c->vs[i]? =some u->cvs[j]? =some d->vs[j]? =some v->gE c u=some b->gE d v=some b->i=j
 free:∀(i:Nat)(c:CV)(u:Value)(b:Nat),cvs[i]? =some c->vs[i]? =some u->gE c u=some b->m b=none/\∀o,h b o=none
def Sound(P:Program)(f:FuncId)(S:Spec):Prop:=
 (∃g,P.funcs[f]? =some g/\g.body.isSome=true/\(g.name== "runtime.NumGoroutine")=false)/\
 ∀c d m h w K,S c m h K->Al w m h c d->
  Calls P f d.toArray w λe l=>∃r u j k,e= .returned u/\K r j k/\Du l r u/\vR ⟨w,rU m c d,h,[]⟩ j k l/\
   (∀b,gE r u=some b->(w.heap.size<=b\/rU m c d b)/\j b=none/\∀i,k b i=none)
section
variable{B:qJ}{C:Ctx}{ι:cg}{σ:St}{a:Act}{w:World}{o:Oper}{K:St->Prop}
theorem Hq(sz:Nat):eR sz []:=⟨(λe b=>by cases b),(λe b=>by cases b)⟩
theorem EW(v:aI B ι σ a w){mv:ck}:∀(i:Nat)(l:cz)(ts:dg)(f:cq),qS C.P σ mv i l ts=some f->
 BV w f (l.map a.eval)/\∀(j:Nat)(c:CV)(u:Value)(b:Nat),f[j]? =some c->(l.map a.eval)[j]? =some u->gE c u=some b->
  ∃x k m,l[j]? =some x/\mv.contains (i+j)=true/\σ.ev x= .at (.lst k)/\nth σ.own k=some (some m)/\u=ι k
 |i,[],ts,f,h=>by
  simp[qS]at h;subst h;exact⟨trivial,λj c u b s=>by simp at s⟩
 |i,x::r,ts,f,h=>by
  simp only[qS]at h;split at h
  .cases h
  .rename_i n p;obtain⟨q,D⟩:=EW v (i+1) r ts.tail n p
   have d:∀(F:CV),(∀(u:Value)(b:Nat),(a.eval x)=u->gE F u=some b->∃k m,mv.contains i=true/\σ.ev x= .at (.lst k)/\nth σ.own k=some (some m)/\u=ι k)->
    ∀(j:Nat)(c:CV)(u:Value)(b:Nat),(F::n)[j]? =some c->((x::r).map a.eval)[j]? =some u->gE c u=some b->
     ∃y k m,(x::r)[j]? =some y/\mv.contains (i+j)=true/\σ.ev y= .at (.lst k)/\nth σ.own k=some (some m)/\u=ι k:=by
    intro F M j c u b s g t;cases j with
    |zero=>
     simp at s g;subst s;obtain⟨k,m,G,H,I,N⟩:=M u b g t;exact⟨x,k,m,rfl,bj G,H,I,N⟩
    |succ j=>
     simp only[getElem?_cons_succ,map_cons]at s g⊢
     obtain⟨y,k,m,G,H,I⟩:=D j c u b s g t;exact⟨y,k,m,G,by rw[show i+(j+1)=i+1+j by omega];exact H,I⟩
   split at h
   .rename_i J;split at h
    .rename_i k A;have e:=v.ev x;rw[A]at e;have e:a.eval x=ι k:=e;split at h
     .rename_i E R S L;simp only[Option.some.injEq]at h;subst h;obtain⟨O,Q⟩:=rF v L;refine⟨⟨⟨O,by rw[e];exact Q⟩,q⟩,d _ (λu b g _=>⟨k,_,J,A,L,by rw[<-g,e]⟩)⟩
     .cases h
    .rename_i A;have e:=v.ev x;rw[A]at e;have e:a.eval x= .slice none 0 0:=e;split at h
     .rename_i E z T;simp only[Option.some.injEq]at h;subst h;refine⟨⟨⟨Hq _,by rw[e];exact World.ownsRow_nil w 0 E _⟩,q⟩,d _ (λu b g t=>?_)⟩;rw[e]at g;subst g;simp[gE,blk]at t
     .cases h
    .cases h
   .split at h
    .rename_i u g;simp only[Option.some.injEq]at h;subst h;exact⟨⟨v.rho g,q⟩,d _ (λu b _ t=>by simp[gE]at t)⟩
    .cases h
theorem C6{mv:ck}:∀(i:Nat)(l:cz)(j:Nat)(x:Operand)(k:Nat),l[j]? =some x->mv.contains (i+j)=true->σ.ev x= .at (.lst k)->k∈jH σ mv i l
 |i,[],j,x,k,h,_,_=>by simp at h
 |i,y::r,0,x,k,h,b,c=>by
  simp at h;subst h;simp only[Nat.add_zero]at b;simp only[jH,b,c];exact mem_cons_self
 |i,y::r,j+1,x,k,h,b,c=>by
  simp only[getElem?_cons_succ]at h;have:=C6 (i+1) r j x k h (by rw[show i+1+j=i+(j+1)by omega];exact b) c;simp only[jH];split
  .exact mem_cons_of_mem _ this
  .exact this
theorem Hd{mv:ck}:∀(i:Nat)(l:cz),Ki (jH σ mv i l)=true->∀(j c:Nat)(x f:Operand)(k:Nat),l[j]? =some x->l[c]? =some f->
 mv.contains (i+j)=true->mv.contains (i+c)=true->σ.ev x= .at (.lst k)->σ.ev f= .at (.lst k)->j=c
 |i,[],_,j,_,_,_,_,h,_,_,_,_,_=>by simp at h
 |i,y::r,b,j,c,x,f,k,h,g,p,d,q,e=>by
  have key:∀j x,r[j]? =some x->mv.contains (i+(j+1))=true->σ.ev x= .at (.lst k)->∀s,y=s->mv.contains i=true->σ.ev s= .at (.lst k)->False:=by
   intro j x A t u s D v z;subst D;simp only[jH,v,z]at b;have m:=C6 (σ:=σ) (mv:=mv) (i+1) r j x k A (by rw[show i+1+j=i+(j+1)by omega];exact t) u;simp only[Ki]at b;rw[contains_eq_mem]at b;simp[m]at b
  have n:Ki (jH σ mv (i+1) r)=true:=by
   simp only[jH]at b;split at b
   .simp only[Ki]at b;split at b
    .cases b
    .exact b
   .exact b
  cases j with
  |zero=>
   cases c with
   |zero=>rfl
   |succ c=>
    simp at h;simp only[getElem?_cons_succ]at g;exact(key c f g d e x h (bj p) q).elim
  |succ j=>
   cases c with
   |zero=>
    simp at g;simp only[getElem?_cons_succ]at h;exact(key j x h p q f g (bj d) e).elim
   |succ c=>
    simp only[getElem?_cons_succ]at h g;have:=Hd (i+1) r n j c x f k h g (by rw[show i+1+j=i+(j+1)by omega];exact p) (by rw[show i+1+c=i+(c+1)by omega];exact d) q e;rw[this]
theorem Hf:∀(ks:ck)(σ:St),aI B ι σ a w->aI B ι (Bj σ ks) a w/\(Bj σ ks).m=σ.m/\(Bj σ ks).h=σ.h/\
 (∀j o',nth (Bj σ ks).own j=some (some o')->j∉ks/\∃f,nth σ.own j=some (some f))
 |[],σ,c=>⟨c,rfl,rfl,λj o' h=>⟨bg,o',h⟩⟩
 |k::ks,σ,c=>by
  have g:=c.kill k (ι k) (c.one k);rw[HY]at g;obtain⟨i,l,n,p⟩:=Hf ks (σ.kill k) g;refine⟨i,l,n,λj o' q=>?_⟩;obtain⟨r,f,b⟩:=p j o' q;rw[M9]at b;obtain⟨d,s,e,_⟩:=pH b;exact⟨by simp[d,r],s,e⟩
theorem vR.trans{m m':MH}{h l:PH}{w w':World}{E:Nat->Prop}(d:vR B m h w)(c:vR ⟨w,E,h,[]⟩ m' l w')(k:∀b,E b->B.w0.heap.size<=b\/B.E b):vR B m' l w':=by
 refine⟨c.tape.trans d.tape,c.os.trans d.os,c.output.trans d.output,Nat.le_trans d.drawn c.drawn,Nat.le_trans d.size c.size,?_,c.hsat,c.msat,c.disj,λb o v n=>c.hle b o v (d.hle b o v n),?_,?_⟩
 .intro b g j
  have i:¬E b:=λe=>by
   rcases k b e with f|f
   .omega
   .exact j f
  rw[c.frame b (Nat.lt_of_lt_of_le g d.size) i];exact d.frame b g j
 .intro b g j
  have i:¬E b:=λe=>by
   rcases k b e with f|f
   .omega
   .exact j f
  rw[c.hold b (Nat.lt_of_lt_of_le g d.size) i];exact d.hold b g j
 .intro b p g;rcases c.mfr b p g with f|f
  .exact .inl (Nat.le_trans d.size f)
  .exact k b f
theorem aI.called{m':MH}{k:PH}{w':World}{E:Nat->Prop}(d:aI B ι σ a w)(l:vR ⟨w,E,σ.h,[]⟩ m' k w')(r:∀b,E b->B.w0.heap.size<=b\/B.E b)
 (e:∀j o' b,nth σ.own j=some (some o')->blk (ι j)=some b->¬E b):aI B ι {σ with m:=m',h:=k} a w':=by
 refine⟨d.slots,d.defers,?_,d.dist,?_,d.wrel.trans l r,d.one⟩
 .intro j o' f;have c:=d.own j o' f;exact c.world (λb g=>l.frame b (pA c g) (e j o' b f g))
 .intro j o' b f g;have c:=d.own j o' f;obtain⟨s,y,t⟩:=d.fresh j o' b f g;have p:=pA c g;have q:=e j o' b f g;refine⟨s,?_,λi=>?_⟩
  .show m' b=none;cases u:m' b with
   |none=>rfl
   |some v=>
    rcases l.mfr b v u with n|n
    .have n:w.heap.size<=b:=n;omega
    .exact(q n).elim
  .have:k b=σ.h b:=l.hold b p q;show k b i=none;rw[this];exact t i
theorem H0:∀{rs:cq}{l:List (Sum At cr)}{us:bm},Dv rs=some l->rs=us.map .val->PE ι l us
 |[],l,us,h,b=>by
  simp[Dv]at h;subst h;cases us with
  |nil=>trivial
  |cons u us=>simp at b
 |.val v::r,l,us,h,b=>by
  cases us with
  |nil=>simp at b
  |cons u us=>
   simp only[map_cons,List.cons.injEq,CV.val.injEq]at b;simp only[Dv]at h;split at h
   .rename_i d c;simp only[Option.some.injEq]at h;subst h;exact⟨b.1.symm,H0 c b.2⟩
   .cases h
 |.lst _ _ _::_,l,us,h,_=>by simp[Dv]at h
 |.tup _::_,l,us,h,_=>by simp[Dv]at h
theorem LK{E sz n:Nat}{v:Value}{l:bm}(h:w.ownsRow 0 E sz v n l):v.oneCell'=true:=by
 rcases h.2 with⟨rfl,_⟩|⟨g,b,c,rfl,_⟩<;>rfl
theorem LG{σ:St}{k:Nat}:∀{l:cz},k∈oB σ l->∃x∈l,∃off,σ.ev x= .at (.ptr k off)
 |[],h=>by cases h
 |x::r,h=>by
  have c:=λh=>LG (σ:=σ) (k:=k) (l:=r) h;have b:k∈oB σ r->∃y∈x::r,∃off,σ.ev y= .at (.ptr k off):=λh=>let⟨y,hy,off,e⟩:=c h;⟨y,mem_cons_of_mem _ hy,off,e⟩
  simp only[oB]at h;split at h
  .rename_i f off d;split at h
   .exact b h
   .rcases mem_cons.1 h with rfl|h
    .exact⟨x,mem_cons_self,off,d⟩
    .exact b h
  .exact b h
theorem YP(a':∀g S,assoc C.specs g=some S->Sound C.P g S)(hM:aI B ι σ a w){c:Call}{g:Operand}{f:FuncId}{fs cs:Array Value}(ho:o.op= .call c)(hc:c.callee= .value g)
 (hg:σ.ev g= .at (.val (.func (.func f) fs cs)))(c7:fs.toList=[])(c8:cs.toList=[])(h:YQ C o f c.args.toList c.argTypes.toList σ K):TW B C ι o σ K a w:=by
 intro next Q H
 unfold YQ at h;split at h
 .exact h.elim
 .rename_i S hS;obtain⟨⟨fn,c9,R,a6⟩,a0⟩:=a' f S hS;obtain⟨τ,d',h,L⟩:=nH _ _ hM h;obtain⟨υ,q,h,a1⟩:=yK _ _ d' h;split at h
  .rename_i U b5 d0;generalize GG C f=mv at*
   obtain⟨V,A⟩:=EW q 0 _ _ _ b5
   have b6:Al w υ.m υ.h U (c.args.toList.map a.eval):=by
    refine⟨V,q.wrel.hsat,q.wrel.msat,q.wrel.disj,?_,?_⟩
    .intro i j z d1 u v b O hu hj hv W a7;obtain⟨x,k,ow,hx,hm,hk,t,rfl⟩:=A i z u b O hu W;obtain⟨x',Z,f0,a8,d2,a2,a9,rfl⟩:=A j d1 v b hj hv a7;have y:blk (ι k)=some b:=by cases z<;>simp[gE]at W;exact W
     have F:blk (ι Z)=some b:=by cases d1<;>simp[gE]at a7;exact a7
     have d3:=q.dist k Z _ _ b t a9 y F;subst d3;exact Hd (σ:=υ) (mv:=mv) 0 c.args.toList d0 i j x x' k hx a8 hm d2 hk a2
    .intro i z u b O hu W;obtain⟨x,k,ow,hx,hm,hk,t,rfl⟩:=A i z u b O hu W;have y:blk (ι k)=some b:=by cases z<;>simp[gE]at W;exact W
     exact(q.fresh k ow b t y).2
   have b':=a0 U _ υ.m υ.h w _ h b6;have d4:a.eval g= .func (.func f) fs cs:=by have:=hM.ev g;rw[hg]at this;exact this
   have b7:fs= #[]:=by apply Array.toList_inj.1;simpa using c7
   have b8:cs= #[]:=by apply Array.toList_inj.1;simpa using c8
   subst b7 b8;have a3:c.args.map a.eval=(c.args.toList.map a.eval).toArray:=by apply Array.toList_inj.1;simp
   have d5:¬fn.body=none:=by intro e;rw[e]at R;cases R
   have d6:¬fn.name= "runtime.NumGoroutine" :=bj a6
   have b9:(execOp a.eval o).run C.P w= .ok (.enter f (c.args.toList.map a.eval).toArray) w:=by
    unfold execOp;simp only[ho,resolve,hc,d4,Deferred.ofValue,Sem.run_bind,Sem.run_pure,Result.andThen_ok,invoke,callFunc];simp[program,Sem.run,c9,d6,d5,a3]
   unfold Oper.wp;rw[b9,Oper.upon_enter];refine Calls.mono b' ?_;rintro e w' ⟨r,u,m',h',rfl,hK,hr,hw,W⟩;show next (a.put o.dst u) w'
   obtain⟨c',f4,d7,b0⟩:=Hf (jH υ mv 0 c.args.toList) υ q
   have a5:∀b,rU υ.m U (c.args.toList.map a.eval) b->B.w0.heap.size<=b\/B.E b:=by
    rintro b (I|⟨i,z,M,O,G,s⟩)
    .cases D:υ.m b with
     |none=>exact(I D).elim
     |some ob=>exact q.wrel.mfr b ob D
    .obtain⟨x,k,ow,hx,D,hk,t,rfl⟩:=A i z M b O G s;have y:blk (ι k)=some b:=by cases z<;>simp[gE]at s;exact s
     exact(q.fresh k ow b t y).1
   have X:∀j o' b,nth (Bj υ (jH υ mv 0 c.args.toList)).own j=some (some o')->blk (ι j)=some b->¬rU υ.m U (c.args.toList.map a.eval) b:=by
    intro j o' b hj Y c0;obtain⟨c2,o1,c3⟩:=b0 j o' hj;rcases c0 with I|⟨i,z,M,O,G,s⟩
    .exact I (q.fresh j o1 b c3 Y).2.1
    .obtain⟨x,k,ow,hx,D,hk,t,rfl⟩:=A i z M b O G s;have y:blk (ι k)=some b:=by cases z<;>simp[gE]at s;exact s
     have:=q.dist j k _ _ b c3 t Y y;subst this;exact c2 (C6 0 _ i x j hx (bj D) hk)
   have b1:aI B ι {Bj υ (jH υ mv 0 c.args.toList)with m:=m',h:=h'} a w':=by
    refine c'.called (E:=rU υ.m U (c.args.toList.map a.eval)) ?_ a5 X;rw[d7];exact hw
   have J:HS σ ι o w w':=by
    constructor
    .intro k p T d8 b hk ht hι;obtain⟨d9,e'⟩:=L.cells k p T d8 hk;have b3:=Ns L ht
     have e0:k∉oB τ c.args.toList:=by
      unfold yT at b3;rw[Bool.or_eq_false_iff]at b3;have:=b3.2;simp only[ho,hc]at this;simpa using this
     obtain⟨f5,a4⟩:=a1.cells k p T d9 e' e0;have y:blk (ι k)=some b:=by rw[hι];rfl
     refine hw.frame b (pA (q.own k _ a4) y) ?_;rintro(I|⟨i,z,M,O,G,s⟩)
     .exact I (q.fresh k _ b a4 y).2.1
     .obtain⟨x,Z,ow,hx,D,a2,t,rfl⟩:=A i z M b O G s;have F:blk (ι Z)=some b:=by cases z<;>simp[gE]at s;exact s
      have:=q.dist k Z _ _ b a4 t y F;subst this;cases z<;>simp[gE]at s;rename_i E1 f6 f7;have b4:=q.own k _ a4;obtain⟨b2,f8,e2,_,_⟩:=b4
      have c4:∃ad n cp,ι k= .slice ad n cp:=by
       have c5:∀(l:cq)(vs:bm),BV w l vs->∀(i:Nat)(z:CV)(M:Value),l[i]? =some z->vs[i]? =some M->Du w z M:=by
        intro l
        induction l with
        |nil=>intro vs _ i z M h1;simp at h1
        |cons x0 r0 e1=>
         intro vs hv i z M h1 h2;cases vs with
         |nil=>exact hv.elim
         |cons v0 e4=>
          cases i with
          |zero=>simp at h1 h2;subst h1 h2;exact hv.1
          |succ i=>simp at h1 h2;exact e1 e4 hv.2 i z M h1 h2
       have:=c5 _ _ V i _ _ O G;rcases this.2.2 with⟨e3,_⟩|⟨g3,e9,f',e3,_⟩
       .exact⟨_,_,_,e3⟩
       .exact⟨_,_,_,e3⟩
      obtain⟨ad,n,cp,e3⟩:=c4;rw[e2]at e3;cases e3
    .intro b N v hv;have h1:=L.imm b N v hv;rw[<-a1.imm]at h1;exact hw.hsat b N v (hw.hle b N v h1)
    .intro hg;rw[ho]at hg;simp[Au]at hg
    .intro l b hl W I hx;have hl:c.args.toList=l:=by simpa[sF,ho,hc]using hl
     refine hw.frame b W ?_;rintro(D|⟨i,z,M,O,G,s⟩)
     .obtain⟨k,hk,y⟩:=a1.m_ b (by rw[L.m_];exact I) D;obtain⟨x,e5,N,e6⟩:=LG hk;exact hx x (hl▸e5) k (.inr ⟨N,L.ptr x k N e6⟩) y
     .obtain⟨x,Z,ow,a8,D,a2,t,rfl⟩:=A i z M b O G s;have F:blk (ι Z)=some b:=by cases z<;>simp[gE]at s;exact s
      exact hx x (hl▸mem_of_getElem? a8) Z (.inl (L.lst x Z (a1.lst x Z a2))) F
   unfold bEJ at hK;split at hK
   .rename_i v;exact H ι _ _ _ (b1.put o.dst (x:=.at (.val v)) hr) hK J
   .rename_i E sz xs;split at hK
    .rename_i d hd;rw[hd];generalize (jH υ mv 0 c.args.toList).headD d=kd at hK;refine H (upd ι kd u) _ _ _ (aI.put ?_ (some d) (x:=.at (.lst kd)) (by show _=_;simp)) hK J;refine b1.adopt kd _ u ⟨hr.1,hr.2⟩ (LK hr.2) (λb e7=>?_);obtain⟨f1,f2,f3⟩:=W b e7;refine⟨⟨?_,f2,f3⟩,?_⟩
     .rcases f1 with f1|f1
      .exact .inl (Nat.le_trans q.wrel.size f1)
      .exact a5 b f1
     .intro j o' _ hj Y;have c6:nth (Bj υ (jH υ mv 0 c.args.toList)).own j=some (some o'):=hj;rcases f1 with f1|f1
      .have:=pA (c'.own j o' c6) Y;omega
      .exact X j o' b c6 Y f1
    .exact hK.elim
   .rename_i rs;split at hK
    .rename_i l hl;obtain⟨us,rfl,e8⟩:=hr;exact H ι _ _ _ (b1.put o.dst (x:=.tup l) ⟨us,rfl,H0 hl e8⟩) hK J
    .exact hK.elim
  .exact h.elim
end
end Go.Vc
