/- Own work. -/
import Derived.Calls
import Derived.CallsIn
import Derived.Orders
import Derived.KernelRfl
import Derived.Laws.AppendOwn
import Derived.Laws.CopyRow
import Derived.Deep.AppendSrc
import Derived.Deep.LoopGhost
import Derived.Laws.StructEq
import Derived.Laws.BytesArg
import Derived.Laws.NewBlocks
import Derived.Great.BuildSlice
import Derived.Laws.MakeOwn
import Derived.Lib.AppendZerosOnto
set_option linter.unusedVariables false
set_option linter.unusedSimpArgs false
namespace Go
abbrev dq:=List (Nat×Operand)
abbrev dn:=List TypeId
abbrev dk:=List ByteArray
abbrev dc:=List Operand
abbrev da:=List Bool
abbrev cv:=List Nat
abbrev cu:=List UInt8
abbrev cn:=Nat->Value
abbrev cm:=List (Value×Value)
abbrev cg:=List (Int×Bool)
abbrev ce:=List (Int×Int)
abbrev ca:=List Int
abbrev bx:=List Value
universe u
theorem bd{α:Sort u}{a b:α}(h:a=b:=by kernel_rfl):a=b:=h
theorem bf{p:Prop}(h:p:=by simp):p:=h
theorem bg{p:Prop}(h:p:=by decide):p:=h
theorem bh{p:Prop}(h:p:=by simp_all):p:=h
theorem bi{p:Prop}(h:p:=by rw[@List.length_map];omega):p:=h
theorem bj{p:Prop}(h:p:=by simp;omega):p:=h
theorem bk{p:Prop}(h:p:=by grind):p:=h
theorem bm{p:Prop}(h:p:=by dsimp only;omega):p:=h
theorem br{p:Prop}(h:p:=by dsimp only;omega):p:=h
theorem bo{a i:Nat}(h:i<a:=by omega):a-(i+1)<a-i:=by omega
theorem bt{p q:Prop}(h:p)(e:p->q:=by intro h;simpa using h):q:=e h
theorem aD{p:Prop}(h:p:=by omega):p:=h
end Go
namespace Go.Vc
open Go List
abbrev PH:=Nat->Nat->Option Value
abbrev MH:=Nat->Option Obj
abbrev dm:=Int×Nat×ce×(Int×Int)×Bool×MH
structure Sl where
 a:Option Addr
 len:Nat
 cap:Nat
abbrev dp:=List (Value×Sl)
abbrev ct:=List (ByteArray×Sl)
abbrev ck:=List Sl
def Sl.val(s:Sl):Value:=.slice s.a s.len s.cap
inductive At where
 |val (v:Value)
 |ptr (k o:Nat)
 |lst (k:Nat)
 |el (k i sz o:Nat)
 |junk
abbrev cw:=List At
inductive SV where
 |at(x:At)
 |agg (cs:cw)
 |tup (xs:List (Sum At cw))
abbrev dr:=List (Nat×SV)
abbrev dl:=List SV
inductive Own where
 |cellsP (p:Option Nat) (T:TypeId) (cs:cw)
 |lst (E:TypeId) (sz:Nat) (xs:List bx)
abbrev di:=List (Option Own)
abbrev Own.cells(T:TypeId)(cs:cw):Own:=.cellsP none T cs
structure St where
 sl:dl
 own:di
 m:MH
 h:PH
inductive CV where
 |val (v:Value)
 |lst (E:TypeId) (sz:Nat) (xs:List bx)
 |tup (xs:List CV)
abbrev cz:=List CV
abbrev bz:=CV->MH->PH->Prop
abbrev Spec:=cz->MH->PH->bz->Prop
structure Dec where
 X:Type
 enc:X->bx
inductive A9 where
 |normal
 |exit (id:Nat)
 |ret
structure Ox where
 A:Type
 st:A->St
 inv:A->Prop
 mu:A->Nat
structure afJ where
 A:Type
 st:A->St
 inv:A->Prop
structure xQ where
 A:Type
 st:A->St
 frz:Bool:=false
abbrev dh:=List (Nat×xQ)
structure Ctx where
 P:Program
 loops2:dh
 cuts2:dh
 rcuts:List (Nat×dh)
 heapT:dn
 specs:List (Nat×Spec)
 dec:TypeId->Dec
 loops:List (Nat×Ox)
 cuts:List (Nat×afJ)
 moves:List (Nat×cv)
 retMove:Bool
 yield:Option Spec
 elemT:dn:=[]
def nth{α:Type}:List α->Nat->Option α
 |[],_=>none
 |x::_,0=>some x
 |_::xs,n+1=>nth xs n
def Q6:cv->Nat->Bool
 |[],_=>false
 |x::r,n=>match Nat.beq x n with|true=>true|false=>Q6 r n
def assoc.{u}{α:Type u}:List (Nat×α)->Nat->Option α
 |[],_=>none
 |(k,v)::r,n=>match Nat.beq k n with|true=>some v|false=>assoc r n
def branch(c:Bool)(A B:Prop):Prop:=match c with|true=>A|false=>B
def St.ev(σ:St):Operand->SV
 |.tmp t=>match nth σ.sl t with|some x=>x|none=>.at .junk
 |.const v=>.at (.val v)
 |.global g=>.at (.val (.pointer (some ⟨g,0,none⟩)))
 |.func f=>.at (.val (.func (.func f) #[] #[]))
def St.put(σ:St)(d:Option Tmp)(x:SV):St:=
 match d with
 |some d=>{σ with sl:=σ.sl.set d x}
 |none=>σ
def At.sub(k:Nat)(f:At->At):At->At
 |.val v=>.val v
 |.ptr j o=>match Nat.beq j k with|true=>f (.ptr j o)|false=>.ptr j o
 |.lst j=>match Nat.beq j k with|true=>f (.lst j)|false=>.lst j
 |.el j i a o=>match Nat.beq j k with|true=>f (.el j i a o)|false=>.el j i a o
 |.junk=>.junk
def SV.sub(k:Nat)(f:At->At):SV->SV
 |.at x=>.at (x.sub k f)
 |.agg a=>.agg (a.map (At.sub k f))
 |.tup b=>.tup (b.map λ |.inl x=>.inl (x.sub k f)|.inr a=>.inr (a.map (At.sub k f)))
def Own.sub(k:Nat)(f:At->At):Own->Own
 |.cellsP p T a=>.cellsP p T (a.map (At.sub k f))
 |.lst E b c=>.lst E b c
def St.sub(σ:St)(k:Nat)(f:At->At):St:=
 {σ with sl:=σ.sl.map (SV.sub k f),own:=σ.own.map (Option.map (Own.sub k f))}
def St.kill(σ:St)(k:Nat):St:=
 let τ:=σ.sub k (λ_=>.junk)
 {τ with own:=τ.own.set k none}
def St.setOwn(σ:St)(k:Nat)(o:Option Own):St:={σ with own:=σ.own.set k o}
def At.val? :At->Option Value
 |.val v=>some v
 |_=>none
def wA:cw->Option bx
 |[]=>some []
 |.val v::r=>match wA r with|some l=>some (v::l)|none=>none
 |_::_=>none
def SV.val? :SV->Option Value
 |.at (.val v)=>some v
 |.agg a=>match wA a with|some l=>some (.agg l.toArray)|none=>none
 |_=>none
def SV.cells? :SV->Option cw
 |.at (.val (.agg a))=>some (a.toList.map .val)
 |.at (.val (.tuple _))=>none
 |.at .junk=>none
 |.at x=>some [x]
 |.agg a=>some a
 |.tup _=>none
def At.storable:At->Bool
 |.val (.agg _)=>false
 |.val (.tuple _)=>false
 |.junk=>false
 |_=>true
def uQ:cw->Bool
 |[]=>true
 |x::r=>match x.storable with|true=>uQ r|false=>false
def Be{α:Type}(P:Program):Sem α->Option α
 |.pure a=>some a
 |.program k=>Be P (k P)
 |.mark _ k=>Be P k
 |_=>none
def St.rho(σ:St)(x:Operand):Value:=match(σ.ev x).val? with|some v=>v|none=>undef
def Ou(σ:St):dc->Bool
 |[]=>true
 |x::r=>match(σ.ev x).val? with|some _=>Ou σ r|none=>false
structure bL(h:PH)(b o:Nat)(l:bx):Prop where
 rd:∀i v,l[i]? =some v->h b (o+i)=some v
inductive aU(m:MH)(h:PH)(b off:Nat)(l:bx):Prop
 |imm (hr:bL h b off l):aU m h b off l
 |lent (cs:Array Value) (E:TypeId) (fz:Nat×Nat) (hm:m b=some (.cells cs E fz)) (hl:(cs.toList.drop off).take l.length=l):aU m h b off l
structure Ib(m:MH)(b:Nat)(o:Obj):Prop where
 at_:m b=some o
structure mH(m:MH)(h:PH)(b:Nat):Prop where
 m_:m b=none
 h_:∀i,h b i=none
def zY(P:Program)(t:TypeId):Bool:=
 match P.underlying t with
 |some (.struct _)=>true
 |some (.array _ _)=>true
 |_=>false
def mk(P:Program)(T:TypeId)(cs:cw):SV:=
 match zY P T with
 |true=>.agg cs
 |false=>match cs with|[x]=>.at x|_=>.at .junk
def yC(C:Ctx)(o:Oper)(σ:St)(K:St->Prop):Prop:=
 match Ou σ o.op.operands.toList with
 |true=>match Be C.P (execOp σ.rho o)with
  |some (.value v)=>K (σ.put o.dst (.at (.val v)))
  |_=>False
 |false=>False
def jD(P:Program)(T:TypeId):Bool:=
 match P.underlying T with
 |some _=>match P.cellsOf T with|0=>false|_=>true
 |none=>false
def byQ(C:Ctx)(T:TypeId)(R:bx->Prop)(K:bx->Prop):Prop:=
 ∃y:(C.dec T).X,R ((C.dec T).enc y)/\
  match Nat.beq ((C.dec T).enc y).length (C.P.cellsOf T)with
  |true=>K ((C.dec T).enc y)
  |false=>False
def X8(C:Ctx)(o:Oper)(T:TypeId)(x:Operand)(σ:St)(K:St->Prop):Prop:=
 match jD C.P T with
 |false=>False
 |true=>
  match σ.ev x with
  |.at (.ptr k off)=>
   match nth σ.own k with
   |some (some (.cellsP _ _ a))=>
    match Nat.ble (off+C.P.cellsOf T) a.length with
    |true=>K (σ.put o.dst (mk C.P T ((a.drop off).take (C.P.cellsOf T))))
    |false=>False
   |_=>False
  |.at (.el k i c off)=>
   match nth σ.own k with
   |some (some (.lst _ s d))=>
    match Nat.beq s c with
    |true=>∃e:bx,d[i]? =some e/\byQ C T (λl=>(e.drop off).take (C.P.cellsOf T)=l) λl=>K (σ.put o.dst (mk C.P T (l.map .val)))
    |false=>False
   |_=>False
  |.at (.val (.pointer (some ⟨b,off,none⟩)))=>
   byQ C T (aU σ.m σ.h b off) λl=>K (σ.put o.dst (mk C.P T (l.map .val)))
  |_=>False
def splice{α:Type}(cs:List α)(off:Nat)(new:List α):List α:=cs.take off++new++cs.drop (off+new.length)
structure iL(m m':MH)(b:Nat)(o:Obj):Prop where
 at_:m' b=some o
 other:∀b',b'≠b->m' b'=m b'
def TV(C:Ctx)(T:TypeId)(x v:Operand)(σ:St)(K:St->Prop):Prop:=
 match(σ.ev v).cells? with
 |none=>False
 |some new=>
 match Nat.beq new.length (C.P.cellsOf T),uQ new,jD C.P T with
 |true,true,true=>
  match σ.ev x with
  |.at (.ptr k off)=>
   match nth σ.own k with
   |some (some (.cellsP p E a))=>
    match Nat.ble (off+new.length) a.length with
    |true=>K (σ.setOwn k (some (.cellsP p E (splice a off new))))
    |false=>False
   |_=>False
  |.at (.el k i f off)=>
   match nth σ.own k,wA new with
   |some (some (.lst E s c)),some l=>
    match Nat.beq s f with
    |true=>∃e:bx,c[i]? =some e/\off+l.length<=e.length/\
     K (σ.setOwn k (some (.lst E s (c.set i (splice e off l)))))
    |false=>False
   |_,_=>False
  |.at (.val (.pointer (some ⟨b,off,none⟩)))=>
   match wA new with
   |some l=>∃(a:Array Value)(E:TypeId),Ib σ.m b (.cells a E (0,0))/\off+l.length<=a.size/\
    ∀d:MH,iL σ.m d b (.cells (splice a.toList off l).toArray E (0,0))->K {σ with m:=d}
   |none=>False
  |_=>False
 |_,_,_=>False
def KT(P:Program)(T:TypeId)(f:Nat):Option (Nat×TypeId):=
 match P.underlying T with
 |some (.struct a)=>match nth a.toList f with
  |some g=>match Nat.beq (P.cellsOf g.type) 0 with|true=>none|false=>some (g.offset,g.type)
  |none=>none
 |_=>none
def GA(C:Ctx)(o:Oper)(T:TypeId)(x:Operand)(f:Nat)(σ:St)(K:St->Prop):Prop:=
 match KT C.P T f with
 |none=>False
 |some (g,_)=>
  match σ.ev x with
  |.at (.ptr k off)=>K (σ.put o.dst (.at (.ptr k (off+g))))
  |.at (.el k i a off)=>K (σ.put o.dst (.at (.el k i a (off+g))))
  |.at (.val (.pointer (some ⟨b,off,none⟩)))=>K (σ.put o.dst (.at (.val (.pointer (some ⟨b,off+g,none⟩)))))
  |_=>False
def IF(o:Oper)(x:Operand)(σ:St)(K:St->Prop):Prop:=
 match σ.ev x with
 |.at (.ptr k off)=>K (σ.put o.dst (.at (.ptr k off)))
 |.at (.el k i b off)=>K (σ.put o.dst (.at (.el k i b off)))
 |.at (.val (.pointer (some a)))=>K (σ.put o.dst (.at (.val (.pointer (some a)))))
 |_=>False
def Gt(C:Ctx)(o:Oper)(T:TypeId)(x i:Operand)(σ:St)(K:St->Prop):Prop:=
 match σ.ev i with
 |.at (.val (.int _ n))=>
  match C.P.underlying T with
  |some (.slice E)=>
   match jD C.P E with
   |true=>
    match σ.ev x with
    |.at (.lst k)=>
     match nth σ.own k with
     |some (some (.lst _ c d))=>match Nat.beq c (C.P.cellsOf E)with
      |true=>0<=n/\n<(d.length:Int)/\K (σ.put o.dst (.at (.el k n.toNat c 0)))
      |false=>False
     |_=>False
    |.at (.val (.slice a len _))=>
     ∃b off,a=some ⟨b,off,none⟩/\0<=n/\n<(len:Int)/\
      K (σ.put o.dst (.at (.val (.pointer (some ⟨b,off+n.toNat*C.P.cellsOf E,none⟩)))))
    |_=>False
   |false=>False
  |some (.array len E)=>
   match jD C.P E with
   |true=>
    match σ.ev x with
    |.at (.ptr k off)=>0<=n/\n<(len:Int)/\K (σ.put o.dst (.at (.ptr k (off+n.toNat*C.P.cellsOf E))))
    |.at (.val (.pointer (some ⟨b,off,none⟩)))=>0<=n/\n<(len:Int)/\K (σ.put o.dst (.at (.val (.pointer (some ⟨b,off+n.toNat*C.P.cellsOf E,none⟩)))))
    |_=>False
   |false=>False
  |_=>False
 |_=>False
def asZ(o:Oper)(op:BinOp)(x y:Operand)(σ:St)(K:St->Prop):Prop:=
 match σ.ev x,σ.ev y with
 |.at (.val (.int k a)),.at (.val (.int c b))=>
  match decide (k=c)with
  |true=>
   b≠0/\(match op with
    |.quo=>K (σ.put o.dst (.at (.val (.int k (k.wrap (a.tdiv b))))))
    |.rem=>K (σ.put o.dst (.at (.val (.int k (a.tmod b)))))
    |_=>False)
  |false=>False
 |_,_=>False
def Qk(C:Ctx)(o:Oper)(x y:Operand)(σ:St)(K:St->Prop):Prop:=
 match σ.ev x,σ.ev y with
 |.at (.val (.string a)),.at (.val (.string b))=>a.size+b.size<=9223372036854775807/\K (σ.put o.dst (.at (.val (.string (a++b)))))
 |_,_=>yC C o σ K
def XP(o:Oper)(c a b:Operand)(σ:St)(K:St->Prop):Prop:=
 match σ.ev c with
 |.at (.val (.bool t))=>branch t (K (σ.put o.dst (σ.ev a))) (K (σ.put o.dst (σ.ev b)))
 |_=>False
structure cD(h:PH)(s:Sl)(sz:Nat)(xs:List bx):Prop where
 len:s.len=xs.length
 row:xs=[]\/∃b o,s.a=some ⟨b,o,none⟩/\∀i e,xs[i]? =some e->bL h b (o+i*sz) e
 cap:s.len<=s.cap
structure PH.le(h h':PH):Prop where
 le:∀b o v,h b o=some v->h' b o=some v
def wJ(σ:St)(K:St->Prop):cv->Prop
 |[]=>K σ
 |k::ks=>
  match nth σ.own k with
  |some (some (.lst _ b c))=>
   ∀(s:Sl)(a:PH),PH.le σ.h a->cD a s b c->
    wJ {(σ.sub k (λ |.lst _=>.val s.val|_=>.junk)).setOwn k none with h:=a} K ks
  |_=>False
def LP:cw->cv
 |[]=>[]
 |.lst k::r=>match(LP r).contains k with|true=>LP r|false=>k::LP r
 |_::r=>LP r
def SV.keys:SV->cv
 |.at x=>LP [x]
 |.agg a=>LP a
 |.tup _=>[]
def zeroCells(P:Program)(T:TypeId):Option bx:=
 match P.info? T with
 |some i=>match i.zero with
  |some v=>some v.cells.toList
  |none=>none
 |none=>none
def UF(C:Ctx)(o:Oper)(T:TypeId)(σ:St)(K:St->Prop):Prop:=
 match o.dst,zeroCells C.P T with
 |some d,some z=>K (((σ.kill d).setOwn d (some (.cells T (z.map .val)))).put (some d) (.at (.ptr d 0)))
 |_,_=>False
def atZ(o:Oper)(T:TypeId)(x:Operand)(σ:St)(K:St->Prop):Prop:=
 match o.dst,(σ.ev x).cells? with
 |some d,some a=>K (((σ.kill d).setOwn d (some (.cells T (a.map (At.sub d (λ_=>.junk)))))).put (some d) (.at (.ptr d 0)))
 |_,_=>False
def partAt(P:Program)(T:TypeId)(i:Nat):Option (Nat×Nat):=
 match P.underlying T with
 |some (.struct a)=>match nth a.toList i with|some g=>some (g.offset,P.cellsOf g.type)|none=>none
 |some (.array _ E)=>some (i*P.cellsOf E,P.cellsOf E)
 |_=>none
def O3(P:Program)(T:TypeId):Bool:=
 match P.underlying T with
 |some (.struct a)=>a.toList.all λf=>(P.info? f.type).isSome
 |some (.array _ E)=>(P.info? E).isSome
 |_=>false
def DY(P:Program)(T:TypeId)(σ:St):dq->cw->Option cw
 |[],b=>some b
 |(i,x)::r,b=>
  match partAt P T i,(σ.ev x).cells? with
  |some (off,a),some new=>
   match Nat.beq new.length a,Nat.ble (off+new.length) b.length with
   |true,true=>DY P T σ r (splice b off new)
   |_,_=>none
  |_,_=>none
def UC(C:Ctx)(o:Oper)(T:TypeId)(parts:dq)(σ:St)(K:St->Prop):Prop:=
 match zeroCells C.P T with
 |some z=>match DY C.P T σ parts (z.map .val),O3 C.P T with
  |some a,true=>K (σ.put o.dst (.agg a))
  |_,_=>False
 |none=>False
def DX(σ:St)(sz:Nat):dq->List bx->Option (List bx)
 |[],a=>some a
 |(i,x)::r,a=>
  match(σ.ev x).cells? with
  |some b=>match wA b with
   |some l=>match Nat.beq l.length sz,Nat.ble (i+1) a.length,uQ b with
    |true,true,true=>DX σ sz r (a.set i l)
    |_,_,_=>none
   |none=>none
  |none=>none
def Gb(σ:St):dc->cv
 |[]=>[]
 |x::r=>(σ.ev x).keys++(Gb σ r).filter (λk=> !(σ.ev x).keys.contains k)
def elemOf(P:Program)(T:TypeId):Option (TypeId×bx):=
 match P.underlying T with
 |some (.slice E)=>match zeroCells P E with
  |some z=>match Nat.beq z.length (P.cellsOf E),Nat.beq (P.cellsOf E) 0,z.all Value.oneCell' with
   |true,false,true=>some (E,z)
   |_,_,_=>none
  |none=>none
 |_=>none
def FB(C:Ctx)(o:Oper)(T:TypeId)(n:Nat)(parts:dq)(σ:St)(K:St->Prop):Prop:=
 wJ σ (λτ=>
  match o.dst,elemOf C.P T with
  |some d,some (E,z)=>
   match DX τ (C.P.cellsOf E) parts (replicate n z),Nat.ble (n*C.P.cellsOf E) 16777216 with
   |some a,true=>K (((τ.kill d).setOwn d (some (.lst E (C.P.cellsOf E) a))).put (some d) (.at (.lst d)))
   |_,_=>False
  |_,_=>False) (Gb σ (parts.map (·.2)))
structure jI(sz:Nat)(ys:List bx):Prop where
 len:∀e∈ys,e.length=sz
 one:∀e∈ys,∀u∈e,u.oneCell'=true
structure dC(m:MH)(s:Sl)(E:TypeId)(sz:Nat)(xs:List bx):Prop where
 rows:jI sz xs
 ex:(s=⟨none,0,0⟩/\xs=[])\/∃b cap cur,s=⟨some ⟨b,0,none⟩,xs.length,cap⟩/\m b=some (.cells cur E (0,0))/\xs.length<=cap/\cap<=maxLen/\cur.size=cap*sz/\cur.toList.take (xs.length*sz)=xs.flatten
structure rE(m m':MH)(h:PH)(s:Sl)(E:TypeId)(sz:Nat)(xs:List bx):Prop where
 row:dC m' s E sz xs
 other:∀b,(∀i,s.a≠some ⟨b,i,none⟩)->m' b=m b
 fresh:∀b i,s.a=some ⟨b,i,none⟩->mH m h b
def DU(σ:St)(K:St->Prop):cv->Prop
 |[]=>K σ
 |k::ks=>
  match nth σ.own k with
  |some (some (.lst E b c))=>
   ∀(s:Sl)(a:MH),rE σ.m a σ.h s E b c->
    DU {(σ.sub k (λ |.lst _=>.val s.val|_=>.junk)).setOwn k none with m:=a} K ks
  |_=>False
def Gj(C:Ctx)(o:Oper)(T:TypeId)(l c:Operand)(σ:St)(K:St->Prop):Prop:=
 match o.dst,elemOf C.P T,σ.ev l,σ.ev c with
 |some d,some (E,z),.at (.val (.int _ n)),.at (.val (.int _ m))=>
  0<=n/\n<=m/\m*(C.P.bytesOf E:Int)<=281474976710656/\m<=281474976710656/\
   K (((σ.kill d).setOwn d (some (.lst E (C.P.cellsOf E) (replicate n.toNat z)))).put (some d) (.at (.lst d)))
 |_,_,_,_=>False
def fR(s:ByteArray):List bx:=s.data.toList.map λb=>[.int .u8 b.toNat]
inductive mJ(m:MH)(h:PH)(s:Sl)(sz:Nat)(ys:List bx):Prop
 |imm (hr:cD h s sz ys):mJ m h s sz ys
 |lent (b o:Nat) (cs:Array Value) (E:TypeId) (fz:Nat×Nat) (hs:s.a=some ⟨b,o,none⟩) (hn:s.len=ys.length) (hm:m b=some (.cells cs E fz)) (hl:(cs.toList.drop o).take ys.flatten.length=ys.flatten):mJ m h s sz ys
def cmZ(a:Bool)(σ:St)(s:Sl)(sz:Nat)(b:List bx):Prop:=match a with|true=>mJ σ.m σ.h s sz b|false=>cD σ.h s sz b
def MY(P:Program)(b:Bool)(σ:St)(sz:Nat)(tx:TypeId)(y:SV)(K:List bx->Prop):Prop:=
 match y,P.underlying tx with
 |.at (.lst k),some (.slice _)=>match nth σ.own k with
  |some (some (.lst _ s d))=>match Nat.beq s sz with|true=>K d|false=>False
  |_=>False
 |.at (.val (.slice a n c)),some (.slice _)=>∃d:List bx,jI sz d/\cmZ b σ ⟨a,n,c⟩ sz d/\K d
 |.at (.val (.string s)),some .string=>match Nat.beq sz 1 with|true=>K (fR s)|false=>False
 |_,_=>False
structure eD(m m':MH)(s s':Sl)(E:TypeId)(sz:Nat)(zs:List bx):Prop where
 row:dC m' s' E sz zs
 other:∀b o,m b=some o->(∀i,s.a≠some ⟨b,i,none⟩)->m' b=some o
 fresh:∀b i,s'.a=some ⟨b,i,none⟩->m b=none\/∃i,s.a=some ⟨b,i,none⟩
def sameKey(y:SV)(k:Nat):Bool:=match y with|.at (.lst a)=>Nat.beq a k|_=>false
def ahQ(y:SV)(d:Option TypeDesc):Option Int:=
 match d with
 |some (.int _)=>match y with
  |.at (.val (.int _ n))=>some n
  |_=>none
 |_=>none
def RG(C:Ctx):Bool:=match C.heapT with|[]=>false|_=>true
def inM(C:Ctx)(T:TypeId):Bool:=Q6 C.heapT (1000+T)
def cAX(C:Ctx)(T:TypeId):Bool:=Q6 C.heapT (3000+T)
def Qr(C:Ctx)(o:Oper)(T tx:TypeId)(x y:Operand)(σ:St)(K:St->Prop):Prop:=
 match o.dst,elemOf C.P T with
 |some d,some (E,z)=>
  match inM C T,cAX C T,σ.ev x with
  |false,true,.at (.val (.slice a n c))=>
   c=n/\∃e:List bx,jI (C.P.cellsOf E) e/\cD σ.h ⟨a,n,c⟩ (C.P.cellsOf E) e/\
    MY C.P (RG C) σ (C.P.cellsOf E) tx (σ.ev y) λb=>
     (a=none\/0<b.length)/\(e.length+b.length)*C.P.bytesOf E<=140737488355328/\e.length+b.length<=140737488355328/\
     K (((σ.kill d).setOwn d (some (.lst E (C.P.cellsOf E) (e++b)))).put (some d) (.at (.lst d)))
  |true,_,.at (.val (.slice a n c))=>
   ∃e:List bx,dC σ.m ⟨a,n,c⟩ E (C.P.cellsOf E) e/\
    MY C.P (RG C) σ (C.P.cellsOf E) tx (σ.ev y) λb=>
     (e.length+b.length)*C.P.bytesOf E<=140737488355328/\e.length+b.length<=140737488355328/\
     ∀(f:Sl)(g:MH),eD σ.m g ⟨a,n,c⟩ f E (C.P.cellsOf E) (e++b)->K ({σ with m:=g}.put (some d) (.at (.val f.val)))
  |_,_,_=>match σ.ev x with
  |.at (.val (.slice none 0 0))=>
   match ahQ (σ.ev y) (C.P.underlying tx)with
   |some n=>0<n/\n*(C.P.bytesOf E:Int)<=140737488355328/\n<=140737488355328/\
    K (((σ.kill d).setOwn d (some (.lst E (C.P.cellsOf E) (replicate n.toNat z)))).put (some d) (.at (.lst d)))
   |none=>MY C.P (RG C) σ (C.P.cellsOf E) tx (σ.ev y) λb=>
    b.length*C.P.bytesOf E<=140737488355328/\b.length<=140737488355328/\
    K (((σ.kill d).setOwn d (some (.lst E (C.P.cellsOf E) b))).put (some d) (.at (.lst d)))
  |.at (.lst k)=>
   match nth σ.own k,sameKey (σ.ev y) k with
   |some (some (.lst E' i e)),false=>
    match Nat.beq E' E,Nat.beq i (C.P.cellsOf E)with
    |true,true=>
     MY C.P (RG C) σ i tx (σ.ev y) λb=>
      (e.length+b.length)*C.P.bytesOf E<=140737488355328/\e.length+b.length<=140737488355328/\
      K (((σ.kill k).setOwn k (some (.lst E i (e++b)))).put (some d) (.at (.lst k)))
    |_,_=>False
   |_,_=>False
  |.at (.val (.slice a n c))=>
   ∃e:List bx,dC σ.m ⟨a,n,c⟩ E (C.P.cellsOf E) e/\
    MY C.P (RG C) σ (C.P.cellsOf E) tx (σ.ev y) λb=>
     (e.length+b.length)*C.P.bytesOf E<=140737488355328/\e.length+b.length<=140737488355328/\
     ∀(f:Sl)(g:MH),eD σ.m g ⟨a,n,c⟩ f E (C.P.cellsOf E) (e++b)->K ({σ with m:=g}.put (some d) (.at (.val f.val)))
  |_=>False
 |_,_=>False
def VX(P:Program)(ts:dn):Bool:=
 match ts with
 |t::_=>match P.underlying t with
  |some (.slice _)=>true
  |_=>false
 |[]=>false
def bbQ(C:Ctx)(o:Oper)(x:Operand)(ts:dn)(σ:St)(K:St->Prop):Prop:=
 match σ.ev x with
 |.at (.lst k)=>match nth σ.own k,VX C.P ts with
  |some (some (.lst _ _ a)),true=>K (σ.put o.dst (.at (.val (.int .i64 a.length))))
  |_,_=>False
 |_=>yC C o σ K
structure cgQ(sz:Nat)(x:Sl)(i:Nat)(s:Sl):Prop where
 a_:s.a=if x.cap=i then x.a else x.a.map λy=>y.add (i*sz)
 len:s.len=x.len-i
 cap:s.cap=x.cap-i
def TY(C:Ctx)(o:Oper)(T:TypeId)(x:Operand)(e f g:Option Operand)(σ:St)(K:St->Prop):Prop:=
 match σ.ev x,e,f,g with
 |.at (.lst k),none,some n,none=>
  match nth σ.own k,σ.ev n,C.P.underlying T with
  |some (some (.lst E h d)),.at (.val (.int _ i)),some (.slice E')=>
   match jD C.P E' with
   |true=>0<=i/\i<=(d.length:Int)/\K (((σ.kill k).setOwn k (some (.lst E h (d.take i.toNat)))).put o.dst (.at (.lst k)))
   |false=>False
  |_,_,_=>False
 |.at (.val (.slice a _ c)),none,some n,none=>
  match σ.ev n,C.P.underlying T with
  |.at (.val (.int _ i)),some (.slice E')=>
   match jD C.P E' with
   |true=>0<=i/\i<=(c:Int)/\K (σ.put o.dst (.at (.val (.slice a i.toNat c))))
   |false=>False
  |_,_=>False
 |.at (.val (.slice a _ c)),none,some n,some k=>
  match σ.ev n,σ.ev k,C.P.underlying T with
  |.at (.val (.int _ i)),.at (.val (.int _ j)),some (.slice E')=>
   match jD C.P E' with
   |true=>0<=i/\i<=j/\j<=(c:Int)/\K (σ.put o.dst (.at (.val (.slice a i.toNat j.toNat))))
   |false=>False
  |_,_,_=>False
 |.at (.val (.slice a len c)),some n,none,none=>
  match σ.ev n,C.P.underlying T with
  |.at (.val (.int _ i)),some (.slice E')=>
   match jD C.P E' with
   |true=>0<=i/\i<=(len:Int)/\len<=c/\∀s:Sl,cgQ (C.P.cellsOf E') ⟨a,len,c⟩ i.toNat s->K (σ.put o.dst (.at (.val (.slice s.a s.len s.cap))))
   |false=>False
  |_,_=>False
 |.at (.val (.pointer (some ⟨b,off,none⟩))),none,some n,none=>
  match σ.ev n,C.P.underlying T with
  |.at (.val (.int _ i)),some (.array len E')=>
   match jD C.P E' with
   |true=>0<=i/\i<=(len:Int)/\K (σ.put o.dst (.at (.val (.slice (some ⟨b,off,none⟩) i.toNat len))))
   |false=>False
  |_,_=>False
 |_,_,_,_=>False
def Up(C:Ctx)(o:Oper)(T:TypeId)(x:Operand)(f:Nat)(σ:St)(K:St->Prop):Prop:=
 match KT C.P T f,(σ.ev x).cells?,(match σ.ev x with|.agg _=>true|.at (.val (.agg _))=>true|_=>false)with
 |some (g,T'),some a,true=>
  match Nat.ble (g+C.P.cellsOf T') a.length&&jD C.P T' with
  |true=>K (σ.put o.dst (mk C.P T' ((a.drop g).take (C.P.cellsOf T'))))
  |false=>False
 |_,_,_=>False
def Uj(P:Program)(E:TypeId)(cs:cw)(n:Int)(K:SV->Prop):Nat->Nat->Prop
 |0,_=>True
 |f+1,i=>branch (n==(i:Int)) (K (mk P E ((cs.drop (i*P.cellsOf E)).take (P.cellsOf E)))) (Uj P E cs n K f (i+1))
def Uh(C:Ctx)(o:Oper)(T:TypeId)(x i:Operand)(σ:St)(K:St->Prop):Prop:=
 match σ.ev i,C.P.underlying T with
 |.at (.val (.int _ n)),some (.array len E)=>
  match(σ.ev x).cells? with
  |some a=>match Nat.beq a.length (len*C.P.cellsOf E),jD C.P E,(match σ.ev x with|.agg _=>true|.at (.val (.agg _))=>true|_=>false)with
   |true,true,true=>0<=n/\n<(len:Int)/\Uj C.P E a n (λv=>K (σ.put o.dst v)) len 0
   |_,_,_=>False
  |none=>False
 |.at (.val (.int _ n)),some .string=>
  match σ.ev x with
  |.at (.val (.string s))=>0<=n/\∃b,s.data.toList[n.toNat]? =some b/\K (σ.put o.dst (.at (.val (.int .u8 b.toNat))))
  |_=>False
 |_,_=>False
def Mu(C:Ctx)(o:Oper)(x:Operand)(i:Nat)(σ:St)(K:St->Prop):Prop:=
 match σ.ev x with
 |.tup a=>match nth a i with
  |some (.inl y)=>K (σ.put o.dst (.at y))
  |some (.inr b)=>K (σ.put o.dst (.agg b))
  |none=>False
 |_=>yC C o σ K
def bC(a:cu):List bx:=a.map λb=>[.int .u8 b.toNat]
def Mx(C:Ctx)(o:Oper)(src a:TypeId)(x:Operand)(σ:St)(K:St->Prop):Prop:=
 match σ.ev x with
 |.at (.lst k)=>
  match nth σ.own k,C.P.underlying src,C.P.underlying a with
  |some (some (.lst _ _ c)),some (.slice E),some .string=>
   match C.P.underlying E with
   |some (.int .u8)=>∃b:cu,c=bC b/\K (σ.put o.dst (.at (.val (.string ⟨b.toArray⟩))))
   |_=>False
  |_,_,_=>False
 |_=>yC C o σ K
def qA(σ:St):dc->cv
 |[]=>[]
 |x::r=>match σ.ev x with
  |.at (.ptr k _)=>match(qA σ r).contains k with|true=>qA σ r|false=>k::qA σ r
  |_=>qA σ r
def Gl(σ:St)(K:St->Prop):cv->Prop
 |[]=>K σ
 |k::ks=>
  match nth σ.own k with
  |some (some (.cellsP _ T c))=>
   match wA c with
   |some l=>
    ∀(b:Nat)(a:MH),mH σ.m σ.h b->iL σ.m a b (.cells l.toArray T (0,0))->
     Gl {(σ.sub k (λ |.ptr _ o=>.val (.pointer (some ⟨b,o,none⟩))|_=>.junk)).setOwn k none with m:=a} K ks
   |none=>False
  |_=>False
def sT(P:Program)(σ:St)(mv:cv):Nat->dc->dn->Option cz
 |_,[],_=>some []
 |i,x::r,b=>
  match sT P σ mv (i+1) r b.tail with
  |none=>none
  |some a=>
   match mv.contains i with
   |true=>match σ.ev x with
    |.at (.lst k)=>match nth σ.own k with
     |some (some (.lst E c d))=>some (.lst E c d::a)
     |_=>none
    |.at (.val (.slice none 0 0))=>match elemOf P (b.headD 0)with
     |some (E,_)=>some (.lst E (P.cellsOf E) []::a)
     |none=>none
    |_=>none
   |false=>match(σ.ev x).val? with
    |some u=>some (.val u::a)
    |none=>none
def kB(σ:St)(mv:cv):Nat->dc->cv
 |_,[]=>[]
 |i,x::r=>match mv.contains i,σ.ev x with
  |true,.at (.lst k)=>k::kB σ mv (i+1) r
  |_,_=>kB σ mv (i+1) r
def Fm(mv:cv):Nat->dc->dc
 |_,[]=>[]
 |i,x::r=>match mv.contains i with
  |true=>Fm mv (i+1) r
  |false=>x::Fm mv (i+1) r
def B4(σ:St):cv->St
 |[]=>σ
 |k::ks=>B4 (σ.kill k) ks
def Ec:cz->Option (List (Sum At cw))
 |[]=>some []
 |.val v::r=>match Ec r with|some l=>some (.inl (.val v)::l)|none=>none
 |_::_=>none
def ccJ(o:Oper)(σ:St)(a:cv)(K:St->Prop)(r:CV)(m:MH)(h:PH):Prop:=
 match r with
 |.val v=>K ({σ with m:=m,h:=h}.put o.dst (.at (.val v)))
 |.lst E b c=>match o.dst with
  |some d=>K ((({σ with m:=m,h:=h}.kill (a.headD d)).setOwn (a.headD d) (some (.lst E b c))).put (some d) (.at (.lst (a.headD d))))
  |none=>False
 |.tup e=>match Ec e with
  |some l=>K ({σ with m:=m,h:=h}.put o.dst (.tup l))
  |none=>False
def LH:cv->Bool
 |[]=>true
 |x::r=>match r.contains x with|true=>false|false=>LH r
def HH(C:Ctx)(f:Nat):cv:=match assoc C.moves f with|some l=>l|none=>[]
def abX(C:Ctx)(o:Oper)(f:FuncId)(args:dc)(ts:dn)(σ:St)(K:St->Prop):Prop:=
 match assoc C.specs f with
 |none=>False
 |some S=>
  wJ σ (λτ=>Gl τ (λυ=>
   match sT C.P υ (HH C f) 0 args ts,LH (kB υ (HH C f) 0 args)with
   |some a,true=>S a υ.m υ.h (ccJ o (B4 υ (kB υ (HH C f) 0 args)) (kB υ (HH C f) 0 args) K)
   |_,_=>False) (qA τ args))
   (Gb σ (Fm (HH C f) 0 args))
structure StructEq(P:Program)(T:TypeId)(x y:Value)(r:Bool):Prop where
 guard:P.eqGuardType P.depth T=false
 eq:∀w,(Op.equalIn 10000 T x y).run P w= .ok r w
def Ee(C:Ctx)(o:Oper)(neg:Bool)(T:TypeId)(x y:Operand)(σ:St)(K:St->Prop):Prop:=
 match(σ.ev x).val?,(σ.ev y).val? with
 |some (.agg a),some (.agg b)=>∃r,StructEq C.P T (.agg a) (.agg b) r/\K (σ.put o.dst (.at (.val (.bool (match neg with|true=> !r|false=>r)))))
 |_,_=>False
structure xS(m:MH)(b:Nat)(kvs:cm):Prop where
 ex:∃(es:Array MapEntry)(clock:Nat),m b=some (.map es clock)/\es.toList.map (λe=>(e.key,e.val))=kvs
structure KeyLaw(P:Program)(kt:TypeId)(Ok:Value->Prop):Prop where
 under:∃d,P.underlying kt=some d
 check:∀v w b,Ok v->(Instr.checkKey b 10000 kt v).run P w= .ok () w
 eq:∀x y w,Ok x->Ok y->∃r,(Op.equal kt x y).run P w= .ok r w/\(r=true↔x=y)
 now:∀d x y r,P.underlying kt=some d->Ok x->Ok y->Instr.sameNow d x y=some r->(r=true↔x=y)
structure rM(m m':MH)(b:Nat):Prop where
 other:∀b',b'≠b->m' b'=m b'
def LL(o:Oper)(r:Option Operand)(σ:St)(K:St->Prop):Prop:=
 match r with
 |none=>∀(b:Nat)(a:MH),mH σ.m σ.h b->iL σ.m a b (.map #[] 0)->K ({σ with m:=a}.put o.dst (.at (.val (.map (some b)))))
 |some _=>False
def TL(P:Program)(T:TypeId):Option Value:=
 match P.info? T with
 |some i=>match i.zero with
  |some (.int k n)=>some (.int k n)
  |some (.bool b)=>some (.bool b)
  |some (.slice none 0 0)=>some (.slice none 0 0)
  |_=>none
 |none=>none
def only:bx->Value
 |[u]=>u
 |_=>undef
def Pm(C:Ctx)(o:Oper)(T:TypeId)(x k:Operand)(ok:Bool)(σ:St)(K:St->Prop):Prop:=
 match C.P.underlying T,σ.ev x,(σ.ev k).val? with
 |some (.map f c),.at (.val (.map (some b))),some d=>
  match TL C.P c with
  |some z=>
   ∃(a:List (Value×(C.dec c).X))(Ok:Value->Prop),xS σ.m b (a.map λp=>(p.1,only ((C.dec c).enc p.2)))/\KeyLaw C.P f Ok/\Ok d/\(∀e∈a,Ok e.1)/\
    ((∀e∈a,e.1≠d)->K (σ.put o.dst (match ok with|true=>.tup [.inl (.val z),.inl (.val (.bool false))]|false=>.at (.val z))))/\
    ∀y,(d,y)∈a->match(C.dec c).enc y with
     |[u]=>K (σ.put o.dst (match ok with|true=>.tup [.inl (.val u),.inl (.val (.bool true))]|false=>.at (.val u)))
     |_=>False
  |none=>False
 |_,_,_=>False
def Dh(C:Ctx)(T:TypeId)(x k v:Operand)(σ:St)(K:St->Prop):Prop:=
 match C.P.underlying T,σ.ev x,(σ.ev k).val?,(σ.ev v).val? with
 |some (.map f _),.at (.val (.map (some b))),some c,some u=>
  ∃(a:cm)(Ok:Value->Prop),xS σ.m b a/\KeyLaw C.P f Ok/\Ok c/\(∀e∈a,Ok e.1)/\(∀e∈a,e.1≠c)/\
   ∀d:MH,rM σ.m d b->xS d b (a++[(c,u)])->K {σ with m:=d}
 |_,_,_,_=>False
structure xW(m:MH)(b:Nat)(kvs:cm):Prop where
 ex:∃(es:Array MapEntry)(clock:Nat),m b=some (.map es clock)/\es.toList.map (λe=>(e.key,e.val))=kvs/\(∀e∈es.toList,e.born<clock)/\(es.toList.map (·.born)).Nodup
def KC(C:Ctx)(T:TypeId)(x k v:Operand)(σ:St)(K:St->Prop):Prop:=
 match C.P.underlying T,σ.ev x,(σ.ev k).val?,(σ.ev v).val? with
 |some (.map h _),.at (.val (.map (some b))),some c,some u=>
  ∃(a:cm)(Ok:Value->Prop),xW σ.m b a/\KeyLaw C.P h Ok/\Ok c/\Instr.sameBits 10000 c c=true/\(∀e∈a,Ok e.1)/\
   ((∀e∈a,e.1≠c)->∀d:MH,rM σ.m d b->xW d b (a++[(c,u)])->K {σ with m:=d})/\
   ∀(f:cm)(i:Value)(g:cm),a=f++(c,i)::g->∀d:MH,rM σ.m d b->xW d b (f++(c,u)::g)->K {σ with m:=d}
 |_,_,_,_=>False
structure nA(m:MH)(b r:Nat)(kvs left:cm):Prop where
 ex:∃(es:Array MapEntry)(clock since:Nat)(seen:Array Nat)(c0:Nat),m b=some (.map es clock)/\es.toList.map (λe=>(e.key,e.val))=kvs/\(∀e∈es.toList,e.born<clock)/\(es.toList.map (·.born)).Nodup/\
  m r=some (.mapIter (some b) since seen c0)/\(∀e∈es.toList,e.born<since)/\since<=c0/\since<=clock/\(es.toList.filter λe=> !seen.contains e.born).map (λe=>(e.key,e.val))=left
structure FD(m:MH)(b r:Nat)(kvs left:cm)(x:Value×Value):Prop where
 it:nA m b r kvs left
 ex:∃(es:Array MapEntry)(clock since:Nat)(seen:Array Nat)(e:MapEntry),m b=some (.map es clock)/\(es.toList.map (·.born)).Nodup/\m r=some (.mapIter (some b) since (seen.push e.born) clock)/\e∈es.toList/\x=(e.key,e.val)
def T2(C:Ctx)(o:Oper)(T:TypeId)(x:Operand)(σ:St)(K:St->Prop):Prop:=
 match C.P.underlying T,σ.ev x with
 |some .string,.at (.val (.string s))=>
  ∀(b:Nat)(c:MH),mH σ.m σ.h b->iL σ.m c b (.stringIter s 0)->K ({σ with m:=c}.put o.dst (.at (.val (.pointer (some ⟨b,0,none⟩)))))
 |some (.map _ _),.at (.val (.map (some b)))=>
  ∃a:cm,xW σ.m b a/\∀(r:Nat)(c:MH),mH σ.m σ.h r->rM σ.m c r->nA c b r a a->K ({σ with m:=c}.put o.dst (.at (.val (.pointer (some ⟨r,0,none⟩)))))
 |_,_=>False
def X3(o:Oper)(x:Operand)(c:Bool)(σ:St)(K:St->Prop):Prop:=
 match σ.ev x,c with
 |.at (.val (.pointer (some ⟨b,0,none⟩))),true=>
  ∃(s:ByteArray)(a:Nat),Ib σ.m b (.stringIter s a)/\
   (s.size<=a->K (σ.put o.dst (.tup [.inl (.val (.bool false))])))/\
   (a<s.size->∀d:MH,iL σ.m d b (.stringIter s (a+(Utf8.decode s a).2))->
    K ({σ with m:=d}.put o.dst (.tup [.inl (.val (.bool true)),.inl (.val (.int .i64 a)),.inl (.val (.int .i32 (Utf8.decode s a).1))])))
 |.at (.val (.pointer (some ⟨r,0,none⟩))),false=>
  ∃(b:Nat)(e left:cm),nA σ.m b r e left/\
   (left=[]->K (σ.put o.dst (.tup [.inl (.val (.bool false))])))/\
   ∀(f:cm)(x:Value×Value)(g:cm),left=f++x::g->∀d:MH,rM σ.m d r->FD d b r e (f++g) x->
    K ({σ with m:=d}.put o.dst (.tup [.inl (.val (.bool true)),.inl (.val x.1),.inl (.val x.2)]))
 |_,_=>False
def Ux(C:Ctx)(o:Oper)(x:Operand)(σ:St)(K:St->Prop):Prop:=
 match σ.ev x with
 |.at (.val (.pointer (some ⟨r,0,none⟩)))=>∃(b:Nat)(c left:cm)(x:Value×Value),FD σ.m b r c left x/\
  match Q6 C.heapT 410000 with
  |true=>∃s:Sl,x.2=Sl.val s/\K (σ.put o.dst (.tup [.inl (.val x.1),.inl (.val (.slice s.a s.len s.cap))]))
  |false=>K (σ.put o.dst (.tup [.inl (.val x.1),.inl (.val x.2)]))
 |_=>False
def aBJ(σ:St)(x v:Operand):cv:=match σ.ev x with|.at (.ptr _ _)=>[]|_=>(σ.ev v).keys
def Gx(C:Ctx)(o:Oper)(T:TypeId):cv:=match o.dst with|some d=>(match Q6 C.heapT T||Q6 C.heapT (200000+d)with|true=>[d]|false=>[])|none=>[]
def czJ(C:Ctx)(o:Oper)(T:TypeId):Bool:=match Gx C o T with|[]=>false|_=>true
def amJ(C:Ctx)(o:Oper)(τ:St):cv:=match o.dst with|some d=>(match Q6 C.heapT (100000+d)with|true=>(τ.ev (.tmp d)).keys|false=>[])|none=>[]
structure XA(w:World)(m:MH)(h:PH):Prop where
 hsat:∀b o v,h b o=some v->w.cell? ⟨b,o,none⟩=some v
 msat:∀b o,m b=some o->w.heap[b]? =some o
 disj:∀b o,m b=some o->∀i,h b i=none
structure QQ(w:World)(m:MH)(h:PH)(m':MH)(h':PH)(w':World):Prop where
 tape:w'.tape=w.tape
 os:w'.os=w.os
 output:w'.output=w.output
 drawn:w.drawn<=w'.drawn
 size:w.heap.size<=w'.heap.size
 frame:∀b,b<w.heap.size->m b=none->w'.heap[b]? =w.heap[b]?
 heapy:XA w' m' h'
 hle:PH.le h h'
 hold:∀b,b<w.heap.size->m b=none->h' b=h b
 mfr:∀b o,m' b=some o->w.heap.size<=b\/m b≠none
def valOf(P:Program)(T:TypeId)(cs:bx):Value:=
 match zY P T with
 |true=>.agg cs.toArray
 |false=>match cs with|[x]=>x|_=>undef
structure FAt(P:Program)(f:FuncId)(T:TypeId)(cvs:cz)(m:MH)(h:PH)(R:bx->MH->PH->Prop):Prop where
 fn:∃fn,P.funcs[f]? =some fn/\fn.body.isSome=true/\(fn.name== "runtime.NumGoroutine")=false
 go:∀(vs:bx)(w:World),cvs=vs.map .val->XA w m h->Calls P f vs.toArray w λe w'=>∃l m' h',e= .returned (valOf P T l)/\R l m' h'/\QQ w m h m' h' w'
def Ov:cz->bx->cz
 |[],l=>l.map .val
 |c::r,l=>c::Ov r l
def cBZ:dn->Option TypeId
 |[]=>none
 |x::r=>match Nat.ble 510000 x with|true=>some (Nat.sub x 510000)|false=>cBZ r
def cHQ(C:Ctx):Operand->Option TypeId
 |.tmp _=>cBZ C.heapT
 |_=>none
def bxJ(C:Ctx)(o:Oper)(T:TypeId)(f:FuncId)(a:bx)(args:dc)(σ:St)(K:St->Prop):Prop:=
 match sT C.P σ [] 0 args []with
 |some b=>∃R:(C.dec T).X->MH->PH->Prop,FAt C.P f T (Ov b a) σ.m σ.h (λl m h=>∃x,l=(C.dec T).enc x/\R x m h)/\
  ∀(x:(C.dec T).X)(m:MH)(h:PH),R x m h->K ({σ with m:=m,h:=h}.put o.dst (mk C.P T (((C.dec T).enc x).map .val)))
 |none=>False
def Q4(C:Ctx)(o:Oper)(σ:St)(K:St->Prop):Prop:=
 match o.op with
 |.move x=>K (σ.put o.dst (σ.ev x))
 |.assign x=>K (σ.put o.dst (σ.ev x))
 |.pick c a b=>XP o c a b σ K
 |.alloc T=>UF C o T σ (λτ=>Gl τ K (Gx C o T))
 |.box T x=>match czJ C o T with
  |true=>wJ σ (λτ=>atZ o T x τ (λυ=>Gl υ K (Gx C o T))) (σ.ev x).keys
  |false=>atZ o T x σ K
 |.build T h=>UC C o T h.toList σ K
 |.buildSlice T n h=>FB C o T n h.toList σ (λτ=>DU τ (λυ=>wJ υ K (amJ C o υ)) (Gx C o T))
 |.load T x=>X8 C o T x σ K
 |.store T x v=>match o.dst with|none=>wJ σ (λτ=>TV C T x v τ K) (aBJ σ x v)|some _=>False
 |.makeFunc _ _ e=>Gl σ (λτ=>yC C o τ K) (qA σ e.toList)
 |.nilCheck x=>IF o x σ K
 |.binOp .quo _ x y _=>asZ o .quo x y σ K
 |.binOp .rem _ x y _=>asZ o .rem x y σ K
 |.binOp .eql T x y _=>match zY C.P T with|true=>Ee C o false T x y σ K|false=>yC C o σ K
 |.binOp .neq T x y _=>match zY C.P T with|true=>Ee C o true T x y σ K|false=>yC C o σ K
 |.binOp .add _ x y _=>Qk C o x y σ K
 |.binOp .. =>yC C o σ K
 |.unOp .. =>yC C o σ K
 |.convert s d x=>Mx C o s d x σ K
 |.makeSlice T l c=>Gj C o T l c σ (λτ=>DU τ K (Gx C o (2000+T)))
 |.slice T x m p t=>TY C o T x m p t σ K
 |.fieldAddr T x f=>GA C o T x f σ K
 |.field T x f=>Up C o T x f σ K
 |.indexAddr T x i=>Gt C o T x i σ K
 |.index T x i=>Uh C o T x i σ K
 |.extract x i=>Mu C o x i σ K
 |.makeMap _ r=>LL o r σ K
 |.lookup T x k ok=>Pm C o T x k ok σ K
 |.mapUpdate T x k v=>match o.dst with|none=>(match Q6 C.heapT 400000 with|true=>KC C T x k v σ K|false=>Dh C T x k v σ K)|some _=>False
 |.range T x=>T2 C o T x σ K
 |.next x b=>X3 o x b σ K
 |.entry x=>Ux C o x σ K
 |.call c=>match c.callee with
  |.builtin .len=>match c.args.toList with
   |[x]=>bbQ C o x c.argTypes.toList σ K
   |_=>False
  |.builtin .append=>match c.args.toList,c.argTypes.toList with
   |[x,y],[T,u]=>Qr C o T u x y σ (λτ=>wJ τ K (amJ C o τ))
   |_,_=>False
  |.builtin .cap=>yC C o σ K
  |.builtin .min=>yC C o σ K
  |.builtin .max=>yC C o σ K
  |.builtin _=>False
  |.value g=>match σ.ev g with
   |.at (.val (.func (.func f) j e))=>match cHQ C g with
    |some T=>match j.toList with
     |[]=>bxJ C o T f e.toList c.args.toList σ K
     |_=>False
    |none=>match j.toList,e.toList with
     |[],[]=>abX C o f c.args.toList c.argTypes.toList σ K
     |_,_=>False
   |_=>False
  |.invoke .. =>False
 |_=>False
def setTmp(σ:St)(c:Operand)(b:Bool):St:=
 match c with
 |.tmp t=>{σ with sl:=σ.sl.set t (.at (.val (.bool b)))}
 |_=>σ
def Pw(f:Oper->St->(St->Prop)->Prop)(ops:Array Oper)(o:Oper)(σ:St)(K:St->Prop):Prop:=
 match o.guard with
 |none=>f o σ K
 |some (j,a)=>
  match nth ops.toList j with
  |none=>False
  |some g=>match g.dst with
   |none=>False
   |some d=>match σ.ev (.tmp d)with
    |.at (.val (.bool t))=>
     branch t
      (match a with|true=>f o (setTmp σ (.tmp d) true) K|false=>K ((setTmp σ (.tmp d) true).put o.dst (.at (.val undef))))
      (match a with|false=>f o (setTmp σ (.tmp d) false) K|true=>K ((setTmp σ (.tmp d) false).put o.dst (.at (.val undef))))
    |.at (.val (.tuple _))=>K (σ.put o.dst (.at (.val undef)))
    |_=>False
def Uk(C:Ctx)(ops:Array Oper)(o:Oper)(σ:St)(K:St->Prop):Prop:=Pw (Q4 C) ops o σ K
structure I7(P:Program)(S:Spec):Prop where
 go:∀(l:Nat)(vs:bx)(m:MH)(h:PH)(w:World)(K:bz),S (.val (.func (.yield l) #[] #[])::vs.map .val) m h K->XA w m h->
  ∃fn tmps assign body,(Instr.yield l vs.toArray).run P w= .ok (.round l fn tmps assign body) w/\
   RoundIn Fence.wide 0 P l fn tmps assign body w λe w'=>∃u m' h',e= .returned u/\K (.val u) m' h'/\QQ w m h m' h' w'
def TN(C:Ctx)(o:Oper)(v:Value)(args:dc)(σ:St)(K:St->Prop):Prop:=
 match C.yield with
 |none=>False
 |some S=>
  match sT C.P σ [] 0 args []with
  |some a=>I7 C.P S/\S (.val v::a) σ.m σ.h (λr m h=>match r with
   |.val u=>K ({σ with m:=m,h:=h}.put o.dst (.at (.val u)))
   |_=>False)
  |none=>False
def Ry(C:Ctx)(o:Oper)(σ:St)(K:St->Prop):Prop:=
 match o.op with
 |.call c=>match c.callee with
  |.value g=>match σ.ev g with
   |.at (.val (.func (.yield l) a b))=>match a.toList,b.toList with
    |[],[]=>TN C o (.func (.yield l) #[] #[]) c.args.toList σ K
    |_,_=>False
   |_=>Q4 C o σ K
  |_=>Q4 C o σ K
 |_=>Q4 C o σ K
def Rr(C:Ctx)(ops:Array Oper):List Oper->St->(St->Prop)->Prop
 |[],σ,K=>K σ
 |o::r,σ,K=>Pw (Ry C) ops o σ (λτ=>Rr C ops r τ K)
def Bu(P:Program)(o:Oper):Bool:=
 match o.op with
 |.load .. =>true
 |.convert src _ _=>match P.underlying src with
  |some (.slice _)=>true
  |_=>false
 |_=>false
def FQ:Op->Bool
 |.move _|.assign _|.pick .. |.build .. |.load .. |.nilCheck _|.unOp .. |.fieldAddr .. |.field .. |.indexAddr .. |.index .. |.extract .. =>true
 |.binOp .. =>true
 |.convert .. =>true
 |.call {callee:=.builtin .len,.. }=>true
 |.call {callee:=.builtin .min,.. }=>true
 |.call {callee:=.builtin .max,.. }=>true
 |_=>false
def HJ(ops:Array Oper):cv->Option (Nat×Oper)
 |[]=>none
 |i::r=>match nth ops.toList i with
  |some o=>match FQ o.op with|true=>some (i,o)|false=>HJ ops r
  |none=>HJ ops r
def waits(a:Oper)(i:Nat):Bool:=a.after.toList.any λe=>Region.binds .any e&&Nat.beq e.on i
def Ad(σ:St)(a:Oper)(k:Nat):Bool:=
 (match a.dst with|some d=>Nat.beq d k|none=>false)||
 match a.op with
 |.store _ x _=>match σ.ev x with
  |.at (.ptr j _)=>Nat.beq j k
  |_=>false
 |.call c=>match c.callee with
  |.value _=>(qA σ c.args.toList).contains k
  |_=>false
 |_=>false
def AL(ops:Array Oper)(σ:St)(b:Oper):Bool:=
 match b.guard with
 |none=>false
 |some (j,a)=>match nth ops.toList j with
  |none=>false
  |some g=>match g.dst with
   |none=>false
   |some d=>match σ.ev (.tmp d)with
    |.at (.val (.bool t))=>match t,a with
     |true,false=>true
     |false,true=>true
     |_,_=>false
    |.at (.val (.tuple _))=>true
    |_=>false
def bQJ:Op->Bool
 |.move _=>true
 |_=>false
def cCQ(ops:Array Oper)(ok:Oper)(i:Nat):Bool:=
 waits ok i||ops.toList.zipIdx.any λx=>waits ok x.2&&waits x.1 i
def cmQ(ops:Array Oper):Bool:=
 let l:=ops.toList
 let n:=l.length
 (List.range n).all λi=>match nth l i with
  |none=>true
  |some a=>(a.after.toList.all λe=> !Region.binds .any e||Nat.blt e.on i)&&((List.range n).all λk=>match nth l k with
   |none=>true
   |some ok=>match ok.dst with
    |none=>true
    |some d=>Nat.beq i k|| !(a.dst==some d))&&
   (((List.range n).all λk=>match nth l k with
   |none=>true
   |some ok=>match ok.dst with
    |none=>true
    |some d=> !(a.looksAt ops).contains d||waits a k)||
   (bQJ a.op&&(List.range n).all λk=>match nth l k with
   |none=>true
   |some ok=>match ok.dst with
    |none=>true
    |some d=> !(a.looksAt ops).contains d||cCQ ops ok i))
def AZ:Op->Bool
 |.alloc _|.box .. |.buildSlice .. |.makeSlice .. |.makeMap .. |.lookup .. =>true
 |_=>false
def uO(o:Oper):Option dc:=
 match o.op with
 |.call c=>match c.callee with
  |.value _=>some c.args.toList
  |_=>none
 |_=>none
def H8(σ:St)(k:Nat):dc->Bool
 |[]=>true
 |x::r=>(match σ.ev x with
  |.at (.lst j)=>match nth σ.own j with|some (some _)=> !Nat.beq j k|_=>false
  |.at (.ptr j _)=>match nth σ.own j with|some (some _)=> !Nat.beq j k|_=>false
  |_=>true)&&H8 σ k r
def UE(σ:St)(a:Oper)(k:Nat):Bool:=
 AZ a.op||match uO a with|some l=>H8 σ k l|none=>false
def MX(P:Program)(n:Bool)(σ:St)(c f:Oper)(K:Prop):Prop:=
 match Bu P f with
 |false=>K
 |true=>
  match f.op with
  |.load T x=>match jD P T with
   |false=>False
   |true=>match σ.ev x,f.dst with
    |.at (.ptr k off),_=>match nth σ.own k with
     |some (some (.cellsP _ _ a))=>match Ad σ c k,Nat.ble (off+P.cellsOf T) a.length with
      |false,true=>K
      |_,_=>False
     |_=>False
    |.at (.val (.pointer (some ⟨b,o,none⟩))),some d=>match(σ.ev (.tmp d)).cells? with
     |some a=>match wA a with
      |some l=>match Nat.beq l.length (P.cellsOf T)with
       |true=>match AZ c.op||n with
        |true=>aU σ.m σ.h b o l/\K
        |false=>bL σ.h b o l/\K
       |false=>False
      |none=>False
     |none=>False
    |.at (.el k i p off),some d=>match nth σ.own k,(σ.ev (.tmp d)).cells? with
     |some (some (.lst _ s g)),some a=>match wA a,Nat.beq s p,UE σ c k with
      |some l,true,true=>match Nat.beq l.length (P.cellsOf T)with
       |true=>(∃e:bx,g[i]? =some e/\(e.drop off).take (P.cellsOf T)=l)/\K
       |false=>False
      |_,_,_=>False
     |_,_=>False
    |_,_=>False
  |.convert src j x=>match σ.ev x,f.dst with
   |.at (.lst k),some d=>match nth σ.own k,σ.ev (.tmp d)with
    |some (some (.lst _ _ g)),.at (.val (.string s))=>match P.underlying src,P.underlying j with
     |some (.slice E),some .string=>match P.underlying E with
      |some (.int .u8)=>match UE σ c k with
       |true=>g=fR s/\K
       |false=>False
      |_=>False
     |_,_=>False
    |_,_=>False
   |_,_=>False
  |_=>False
def Lq(P:Program)(c:Bool)(ops:Array Oper)(a:Array Bool)(σ:St)(b:Oper):Nat->List Oper->Prop->Prop
 |_,[],K=>K
 |i,d::r,K=>
  match a.getD i false,FQ d.op,waits b i,AL ops σ d with
  |true,true,false,false=>MX P c σ b d (Lq P c ops a σ b (i+1) r K)
  |_,_,_,_=>Lq P c ops a σ b (i+1) r K
def Jo(σ:St)(c a:Oper)(τ:St)(K:Prop):Prop:=
 match a.op with
 |.load _ x=>match σ.ev x,a.dst with
  |.at (.val (.pointer (some ⟨b,o,none⟩))),some d=>match(σ.ev (.tmp d)).cells? with
   |some e=>match wA e with
    |some l=>match AZ c.op with
     |true=>K
     |false=>aU τ.m τ.h b o l/\K
    |none=>K
   |none=>K
  |_,_=>K
 |_=>K
def GR(ops:Array Oper)(a:Array Bool)(σ:St)(b:Oper)(τ:St):Nat->List Oper->Prop->Prop
 |_,[],K=>K
 |i,c::r,K=>
  match a.getD i false,FQ c.op,waits b i,AL ops σ c with
  |true,true,false,false=>Jo σ b c τ (GR ops a σ b τ (i+1) r K)
  |_,_,_,_=>GR ops a σ b τ (i+1) r K
def acX(C:Ctx):Bool:=Q6 C.heapT 0
def Lg(C:Ctx)(ops:Array Oper)(a:Array Bool)(σ:St)(b:Oper)(τ:St)(K:Prop):Prop:=match acX C with|true=>GR ops a σ b τ 0 ops.toList K|false=>K
def bzZ(g:Nat->Prop):cv->Prop
 |[]=>True
 |[j]=>g j
 |j::r=>g j/\bzZ g r
def Dq(C:Ctx)(ops:Array Oper):Nat->Array Bool->St->(St->Prop)->Prop
 |0,a,σ,K=>match Region.ready .any ops a with|[]=>K σ|_=>False
 |n+1,a,σ,K=>
  match Region.ready .any ops a with
  |[]=>K σ
  |rs=>match HJ ops rs with
   |some (i,o)=>Uk C ops o σ (λτ=>Dq C ops n (a.setIfInBounds i true) τ K)
   |none=>
    bzZ (λj=>match nth ops.toList j with
     |some o=>Lq C.P (acX C) ops a σ o 0 ops.toList (Uk C ops o σ (λτ=>Lg C ops a σ o τ (Dq C ops n (a.setIfInBounds j true) τ K)))
     |none=>False) rs
def lM:Code->Option Nat
 |.region id _ _=>some id
 |.seq a b=>match lM a with|some i=>some i|none=>lM b
 |.cond _ a b=>match lM a with|some i=>some i|none=>lM b
 |.block _ a=>lM a
 |.loop a=>lM a
 |.scope a=>lM a
 |_=>none
def Dg:dl->dl->Prop->Prop
 |[],[],K=>K
 |x::xs,.at .junk::ys,K=>match x with|_=>Dg xs ys K
 |x::xs,y::ys,K=>x=y/\Dg xs ys K
 |_,_,_=>False
def zA:di->di->Prop->Prop
 |[],[],K=>K
 |_::xs,none::ys,K=>zA xs ys K
 |x::xs,some y::ys,K=>x=some y/\zA xs ys K
 |_,_,_=>False
def Uz(τ:St):dl->Nat->St->St
 |[],_,σ=>σ
 |y::ys,i,σ=>
  Uz τ ys (i+1) (match y with
   |.at (.lst k)=>match nth σ.sl i with
    |some (.at (.val (.slice none 0 0)))=>match nth τ.own k,nth σ.own k with
     |some (some (.lst E a _)),some none=>((σ.kill k).setOwn k (some (.lst E a []))).put (some i) (.at (.lst k))
     |_,_=>σ
    |_=>σ
   |_=>σ)
def Iv(σ:St)(q j:Nat)(x:At):St:=
 match nth σ.own q with
 |some (some (.cellsP p T a))=>σ.setOwn q (some (.cellsP p T (a.set j x)))
 |_=>σ
def HX(τ:St)(q:Nat):cw->Nat->St->St
 |[],_,σ=>σ
 |y::ys,j,σ=>
  HX τ q ys (j+1) (match y with
   |.lst k=>match nth σ.own q with
    |some (some (.cellsP _ _ a))=>match nth a j with
     |some (.val (.slice none 0 0))=>match nth τ.own k,nth σ.own k with
      |some (some (.lst E b _)),some none=>Iv ((σ.kill k).setOwn k (some (.lst E b []))) q j (.lst k)
      |_,_=>σ
     |_=>σ
    |_=>σ
   |_=>σ)
def Oq(τ:St):di->Nat->St->St
 |[],_,σ=>σ
 |y::ys,q,σ=>
  Oq τ ys (q+1) (match y with
   |some (.cellsP _ _ a)=>HX τ q a 0 σ
   |_=>σ)
def conv(σ τ:St):St:=Oq τ τ.own 0 (Uz τ τ.sl 0 σ)
def yZ(σ τ:St)(K:Prop):Prop:=
 Dg (conv σ τ).sl τ.sl (zA (conv σ τ).own τ.own ((conv σ τ).m=τ.m/\(conv σ τ).h=τ.h/\K))
structure Bs(m:MH)(h:PH):Prop where
 disj:∀b o,m b=some o->∀i,h b i=none
structure sP(m:MH)(h:PH)(m2:MH)(h2:PH):Prop where
 sub:∀b o,m2 b=some o->m b=some o
 le:PH.le h h2
 new:∀b i v,h2 b i=some v->h b i=some v\/∃cs E fz,m b=some (.cells cs E fz)/\cs[i]? =some v/\m2 b=none
def Ub(σ τ:St)(K:Prop):Prop:=
 Dg (conv σ τ).sl τ.sl (zA (conv σ τ).own τ.own (sP (conv σ τ).m (conv σ τ).h τ.m τ.h/\K))
def Jx(c:xQ)(R:c.A->Prop)(τ:St):Prop:=match c.frz with
 |false=>∃x,R x/\yZ τ (c.st x) True
 |true=>Bs τ.m τ.h->∃x,R x/\Ub τ (c.st x) True
def UG(c:xQ)(I:c.A->Prop)(S:c.A->Prop)(τ:St):Prop:=match c.frz with
 |false=>∃x,I x/\S x/\yZ τ (c.st x) True
 |true=>Bs τ.m τ.h->∃x,I x/\S x/\Ub τ (c.st x) True
def wL{α:Type}(d:α)(l:List (Nat×α)):Nat->Nat->List α
 |0,_=>[]
 |n+1,i=>(match assoc l i with|some x=>x|none=>d)::wL d l n (i+1)
def bQ(n a:Nat)(sl:dr)(own:List (Nat×Own))(m:MH)(h:PH):St:=
 {sl:=wL (.at .junk) sl n 0,own:=wL none (own.map λp=>(p.1,some p.2)) a 0,m:=m,h:=h}
def atQ(C:Ctx)(b:Code):Option afJ:=match lM b with|some i=>assoc C.cuts i|none=>none
def cqX(C:Ctx)(b:Code):Option Ox:=match lM b with|some i=>assoc C.loops i|none=>none
def Qj(C:Ctx)(b:Code):Option xQ:=match lM b with|some i=>assoc C.cuts2 i|none=>none
def bPJ(C:Ctx)(b:Code):Option xQ:=match lM b with|some i=>assoc C.loops2 i|none=>none
def ajQ(C:Ctx)(ops:Array Oper):dh->List Oper->St->(St->Prop)->Prop
 |[],l,σ,K=>Rr C ops l σ K
 |(n,a)::r,l,σ,K=>∃I:a.A->Prop,Rr C ops (l.take n) σ (λτ=>∃x,I x/\yZ τ (a.st x) True)/\∀x,I x->ajQ C ops r (l.drop n) (a.st x) K
def Lv(C:Ctx)(id:Nat):dh:=match assoc C.rcuts id with|some l=>l|none=>[]
def VC(C:Ctx):Code->St->(A9->St->Prop)->Prop
 |.skip,σ,Q=>Q .normal σ
 |.label _,σ,Q=>Q .normal σ
 |.region id d false,σ,Q=>ajQ C d (Lv C id) d.toList σ (Q .normal)
 |.region _ d true,σ,Q=>match cmQ d,Region.noSelect d,C.P.follows .mixedOrders with
  |true,true,true=>Dq C d d.size (Array.replicate d.size false) σ (Q .normal)
  |_,_,_=>False
 |.seq a b,σ,Q=>
  match atQ C b with
  |some c=>VC C a σ (λe τ=>match e with
   |.normal=>∃x,c.inv x/\yZ τ (c.st x) True
   |e=>Q e τ)/\∀x,c.inv x->VC C b (c.st x) Q
  |none=>match Qj C b with
   |some c=>∃I:c.A->Prop,VC C a σ (λe τ=>match e with
    |.normal=>Jx c I τ
    |e=>Q e τ)/\∀x,I x->VC C b (c.st x) Q
   |none=>VC C a σ (λe τ=>match e with
    |.normal=>VC C b τ Q
    |e=>Q e τ)
 |.cond c x y,σ,Q=>
  match σ.ev c with
  |.at (.val (.bool t))=>branch t (VC C x (setTmp σ c true) Q) (VC C y (setTmp σ c false) Q)
  |_=>False
 |.block id c,σ,Q=>
  VC C c σ (λe τ=>match e with
   |.exit i=>match Nat.beq i id with|true=>Q .normal τ|false=>Q (.exit i) τ
   |e=>Q e τ)
 |.loop c,σ,Q=>
  match cqX C c with
  |some l=>
   (∃x,l.inv x/\yZ σ (l.st x) True)/\
   ∀x,l.inv x->VC C c (l.st x) (λe τ=>match e with
    |.normal=>∃y,l.inv y/\l.mu y<l.mu x/\yZ τ (l.st y) True
    |e=>Q e τ)
  |none=>match bPJ C c with
   |some l=>∃(I:l.A->Prop)(f:l.A->Nat),
    Jx l I σ/\
    ∀x,I x->VC C c (l.st x) (λe τ=>match e with
     |.normal=>UG l I (λy=>f y<f x) τ
     |e=>Q e τ)
   |none=>False
 |.exit id,σ,Q=>Q (.exit id) σ
 |.ret,σ,Q=>Q .ret σ
 |_,_,_=>False
def akQ(C:Ctx)(σ:St):ResultVar->Option SV
 |.tmp t=>some (σ.ev (.tmp t))
 |.cell a T=>match σ.ev (.tmp a)with
  |.at (.ptr k off)=>match nth σ.own k with
   |some (some (.cellsP _ _ b))=>match Nat.ble (off+C.P.cellsOf T) b.length,jD C.P T with
    |true,true=>some (mk C.P T ((b.drop off).take (C.P.cellsOf T)))
    |_,_=>none
   |_=>none
  |_=>none
def Iy(C:Ctx)(σ:St):List ResultVar->Option dl
 |[]=>some []
 |r::rs=>match akQ C σ r,Iy C σ rs with
  |some x,some l=>some (x::l)
  |_,_=>none
def amQ:dl->cv
 |[]=>[]
 |x::r=>x.keys++(amQ r).filter (λk=> !x.keys.contains k)
def D3(P:Program)(σ:St)(mv:Bool):dl->dn->Option cz
 |[],_=>some []
 |x::r,a=>match D3 P σ mv r a.tail with
  |none=>none
  |some l=>match mv with
   |true=>match x with
    |.at (.lst k)=>match nth σ.own k with
     |some (some (.lst E b c))=>some (.lst E b c::l)
     |_=>none
    |.at (.val (.slice none 0 0))=>match elemOf P (a.headD 0)with
     |some (E,_)=>some (.lst E (P.cellsOf E) []::l)
     |none=>none
    |_=>none
   |false=>match x.val? with
    |some v=>some (.val v::l)
    |none=>none
def Jv:dl->cv
 |[]=>[]
 |.at (.ptr k _)::r=>match(Jv r).contains k with|true=>Jv r|false=>k::Jv r
 |_::r=>Jv r
def DR(C:Ctx)(fn:Func)(K:bz)(σ:St):Prop:=
 match Iy C σ fn.results.toList with
 |none=>False
 |some a=>
  wJ σ (λτ=>Gl τ (λυ=>
   match Iy C υ fn.results.toList with
   |none=>False
   |some b=>match D3 C.P υ C.retMove b fn.resultTypes.toList with
    |some [r]=>K r υ.m υ.h
    |some c=>match C.retMove with|true=>False|false=>K (.tup c) υ.m υ.h
    |none=>False) (match C.retMove with|true=>[]|false=>Jv a)) (match C.retMove with|true=>[]|false=>amQ a)
def HW(n:Nat):Nat->cz->dl
 |_,[]=>[]
 |i,.val v::r=>.at (.val v)::HW n (i+1) r
 |i,.lst _ _ _::r=>.at (.lst (n+i))::HW n (i+1) r
 |i,.tup _::r=>.at .junk::HW n (i+1) r
def A3:cz->di
 |[]=>[]
 |.lst E a b::r=>some (.lst E a b)::A3 r
 |_::r=>none::A3 r
def entry(n:Nat)(args:cz)(m:MH)(h:PH):St:=
 {sl:=HW n 0 args++replicate (n-args.length) (.at .junk),own:=replicate n none++A3 args,m:=m,h:=h}
def uM(C:Ctx)(fn:Func)(c:Code)(σ:St)(K:bz):Prop:=
 VC C c σ (λe τ=>match e with
  |.normal=>DR C fn K τ
  |.ret=>DR C fn K τ
  |_=>False)
end Go.Vc
namespace Go.Vc
open Go List
theorem jX{α:Type}:∀(l:List α)(i:Nat),nth l i=l[i]?
 |[],i=>by simp[nth]
 |x::xs,0=>by simp[nth]
 |x::xs,n+1=>by simp[nth,jX xs n]
def Ab(ι:cn):At->Value->Prop
 |.val v,u=>u=v
 |.ptr k o,u=>∃b,ι k= .pointer (some ⟨b,0,none⟩)/\u= .pointer (some ⟨b,o,none⟩)
 |.lst k,u=>u=ι k
 |.el k i a o,u=>∃b n c,ι k= .slice (some ⟨b,0,none⟩) n c/\u= .pointer (some ⟨b,i*a+o,none⟩)
 |.junk,_=>True
def iQ(ι:cn):cw->bx->Prop
 |[],[]=>True
 |x::xs,v::vs=>Ab ι x v/\iQ ι xs vs
 |_,_=>False
def QR(ι:cn):List (Sum At cw)->bx->Prop
 |[],[]=>True
 |.inl x::xs,v::vs=>Ab ι x v/\QR ι xs vs
 |.inr b::xs,v::vs=>(∃a:Array Value,v= .agg a/\iQ ι b a.toList)/\QR ι xs vs
 |_,_=>False
def Den(ι:cn):SV->Value->Prop
 |.at x,u=>Ab ι x u
 |.agg b,u=>∃a:Array Value,u= .agg a/\iQ ι b a.toList
 |.tup c,u=>∃a:Array Value,u= .tuple a/\QR ι c a.toList
def DenS(ι:cn):dl->bx->Prop
 |[],[]=>True
 |x::xs,v::vs=>Den ι x v/\DenS ι xs vs
 |_,_=>False
theorem iQ.length{ι:cn}:∀{cs:cw}{vs:bx},iQ ι cs vs->cs.length=vs.length
 |[],[],_=>rfl
 |_::_,_::_,h=>by simp[iQ.length h.2]
 |[],_::_,h=>h.elim
 |_::_,[],h=>h.elim
theorem iQ.get{ι:cn}:∀{cs:cw}{vs:bx}(_:iQ ι cs vs)(i:Nat)(x:At),cs[i]? =some x->∃v,vs[i]? =some v/\Ab ι x v
 |[],[],_,i,x,a=>by simp at a
 |_::_,v::_,h,0,x,a=>by simp at a;subst a;exact⟨v,rfl,h.1⟩
 |_::_,_::_,h,i+1,x,a=>by simp at a⊢;exact iQ.get h.2 i x a
 |[],_::_,h,_,_,_=>h.elim
 |_::_,[],h,_,_,_=>h.elim
theorem iQ.take{ι:cn}:∀{cs:cw}{vs:bx}(n:Nat),iQ ι cs vs->iQ ι (cs.take n) (vs.take n)
 |_,_,0,_=>by simp[iQ]
 |[],[],n+1,h=>by simp[iQ]
 |_::_,_::_,n+1,h=>by simp only[take_succ_cons];exact⟨h.1,h.2.take n⟩
 |[],_::_,_+1,h=>h.elim
 |_::_,[],_+1,h=>h.elim
theorem iQ.drop{ι:cn}:∀{cs:cw}{vs:bx}(n:Nat),iQ ι cs vs->iQ ι (cs.drop n) (vs.drop n)
 |_,_,0,h=>bt h
 |[],[],n+1,h=>by simp[iQ]
 |_::_,_::_,n+1,h=>by simp only[drop_succ_cons];exact h.2.drop n
 |[],_::_,_+1,h=>h.elim
 |_::_,[],_+1,h=>h.elim
theorem iQ.append{ι:cn}:∀{cs a:cw}{vs b:bx},iQ ι cs vs->iQ ι a b->iQ ι (cs++a) (vs++b)
 |[],_,[],_,_,c=>bk
 |_::_,_,_::_,_,h,c=>⟨h.1,h.2.append c⟩
 |[],_,_::_,_,h,_=>h.elim
 |_::_,_,[],_,h,_=>h.elim
theorem iQ.splice{ι:cn}{cs new:cw}{vs us:bx}(off:Nat)(h:iQ ι cs vs)(a:iQ ι new us):
 iQ ι (splice cs off new) (splice vs off us):=by
 unfold Vc.splice;rw[a.length];exact((h.take off).append a).append (h.drop _)
theorem iQ.set{ι:cn}:∀{cs:cw}{vs:bx}(j:Nat){x:At}{v:Value},iQ ι cs vs->Ab ι x v->iQ ι (cs.set j x) (vs.set j v)
 |[],[],_,_,_,_,_=>by simp[iQ]
 |_::_,_::_,0,_,_,h,a=>⟨a,h.2⟩
 |_::_,_::_,j+1,_,_,h,a=>⟨h.1,h.2.set j a⟩
 |[],_::_,_,_,_,h,_=>h.elim
 |_::_,[],_,_,_,h,_=>h.elim
theorem iQ.vals{ι:cn}:∀{l:bx}{vs:bx},iQ ι (l.map .val) vs↔vs=l
 |[],[]=>by simp[iQ]
 |[],_::_=>by simp[iQ]
 |_::_,[]=>by simp[iQ]
 |a::l,v::vs=>by simp only[map_cons,iQ,Ab,iQ.vals,List.cons.injEq]
theorem DO:∀{cs:cw}{l:bx},wA cs=some l->cs=l.map .val
 |[],l,h=>by simp[wA]at h;subst h;rfl
 |.val v::r,l,h=>by
  simp only[wA]at h;cases a:wA r with
  |none=>grind
  |some b=>simp[a]at h;subst h;simp[DO a]
 |.ptr _ _::_,_,h=>by simp[wA]at h
 |.lst _::_,_,h=>by simp[wA]at h
 |.el _ _ _ _::_,_,h=>by simp[wA]at h
 |.junk::_,_,h=>by simp[wA]at h
theorem Den.val?{ι:cn}{x:SV}{u v:Value}(h:Den ι x u)(a:x.val? =some v):u=v:=by
 cases x with
 |agg c=>
  simp only[SV.val?]at a;cases b:wA c with
  |none=>grind
  |some l=>
   simp[b]at a;obtain⟨e,rfl,d⟩:=h;rw[DO b,iQ.vals]at d;subst a;congr 1
   grind
 |tup f=>simp[SV.val?]at a
 |_ y=>cases y<;>simp[SV.val?]at a;subst a;exact h
theorem DenS.length{ι:cn}:∀{xs:dl}{vs:bx},DenS ι xs vs->xs.length=vs.length
 |[],[],_=>rfl
 |_::_,_::_,h=>by simp[DenS.length h.2]
 |[],_::_,h=>h.elim
 |_::_,[],h=>h.elim
theorem DenS.get{ι:cn}:∀{xs:dl}{vs:bx}(_:DenS ι xs vs)(i:Nat)(x:SV),xs[i]? =some x->∃v,vs[i]? =some v/\Den ι x v
 |[],[],_,i,x,a=>by simp at a
 |_::_,v::_,h,0,x,a=>by simp at a;subst a;exact⟨v,rfl,h.1⟩
 |_::_,_::_,h,i+1,x,a=>by simp at a⊢;exact DenS.get h.2 i x a
 |[],_::_,h,_,_,_=>h.elim
 |_::_,[],h,_,_,_=>h.elim
theorem DenS.set{ι:cn}:∀{xs:dl}{vs:bx}(j:Nat){x:SV}{v:Value},DenS ι xs vs->Den ι x v->DenS ι (xs.set j x) (vs.set j v)
 |[],[],_,_,_,_,_=>by simp[DenS]
 |_::_,_::_,0,_,_,h,a=>⟨a,h.2⟩
 |_::_,_::_,j+1,_,_,h,a=>⟨h.1,h.2.set j a⟩
 |[],_::_,_,_,_,h,_=>h.elim
 |_::_,[],_,_,_,h,_=>h.elim
def upd(ι:cn)(k:Nat)(u:Value):Nat->Value:=λj=>if j=k then u else ι j
@[simp] theorem upd_same (ι:cn) (k:Nat) (u:Value):upd ι k u k=u:=by simp[upd]
theorem qK(ι:cn){k j:Nat}(u:Value)(h:j≠k):upd ι k u j=ι j:=by simp[upd,h]
def At.key:At->Option Nat
 |.ptr k _=>some k
 |.lst k=>some k
 |.el k _ _ _=>some k
 |_=>none
theorem Ab.sub{ι:cn}{k:Nat}{u:Value}{f:At->At}(g:∀x v,x.key=some k->Ab ι x v->Ab (upd ι k u) (f x) v){x:At}{v:Value}(h:Ab ι x v):
 Ab (upd ι k u) (x.sub k f) v:=by
 cases x with
 |val w=>exact h
 |junk=>trivial
 |ptr j o=>
  simp only[At.sub];split
  .rename_i a;exact g _ _ (by simp only[At.key,Option.some.injEq];exact Nat.eq_of_beq_eq_true a) h
  .rename_i a;have d:j≠k:=λe=>by subst e;simp at a
   obtain⟨b,l,m⟩:=h;exact⟨b,by rw[qK _ _ d];exact l,m⟩
 |lst j=>
  simp only[At.sub];split
  .rename_i a;exact g _ _ (by simp only[At.key,Option.some.injEq];exact Nat.eq_of_beq_eq_true a) h
  .rename_i a;have d:j≠k:=λe=>by subst e;simp at a
   simp only[Ab]at h⊢
   rw[qK _ _ d];exact h
 |el j i p o=>
  simp only[At.sub];split
  .rename_i a;exact g _ _ (by simp only[At.key,Option.some.injEq];exact Nat.eq_of_beq_eq_true a) h
  .rename_i a;have d:j≠k:=λe=>by subst e;simp at a
   obtain⟨b,n,c,l,m⟩:=h;exact⟨b,n,c,by rw[qK _ _ d];exact l,m⟩
theorem iQ.sub{ι:cn}{k:Nat}{u:Value}{f:At->At}(a:∀x v,x.key=some k->Ab ι x v->Ab (upd ι k u) (f x) v):∀{cs:cw}{vs:bx},iQ ι cs vs->
 iQ (upd ι k u) (cs.map (At.sub k f)) vs
 |[],[],_=>trivial
 |_::_,_::_,h=>⟨Ab.sub a h.1,iQ.sub a h.2⟩
 |[],_::_,h=>h.elim
 |_::_,[],h=>h.elim
theorem QR.sub{ι:cn}{k:Nat}{u:Value}{f:At->At}(a:∀x v,x.key=some k->Ab ι x v->Ab (upd ι k u) (f x) v):∀{cs:List (Sum At cw)}{vs:bx},QR ι cs vs->
 QR (upd ι k u) (cs.map λ |.inl x=>.inl (x.sub k f)|.inr cs=>.inr (cs.map (At.sub k f))) vs
 |[],[],_=>trivial
 |.inl _::_,_::_,h=>⟨Ab.sub a h.1,QR.sub a h.2⟩
 |.inr _::_,_::_,h=>⟨let⟨us,e,hd⟩:=h.1;⟨us,e,iQ.sub a hd⟩,QR.sub a h.2⟩
 |[],_::_,h=>h.elim
 |.inl _::_,[],h=>h.elim
 |.inr _::_,[],h=>h.elim
theorem Den.sub{ι:cn}{k:Nat}{u:Value}{f:At->At}(a:∀x v,x.key=some k->Ab ι x v->Ab (upd ι k u) (f x) v){x:SV}{v:Value}(h:Den ι x v):
 Den (upd ι k u) (x.sub k f) v:=by
 cases x with
 |agg d=>obtain⟨b,e,c⟩:=h;exact⟨b,e,iQ.sub a c⟩
 |tup g=>obtain⟨b,e,c⟩:=h;exact⟨b,e,QR.sub a c⟩
 |_ y=>exact Ab.sub a h
theorem DenS.sub{ι:cn}{k:Nat}{u:Value}{f:At->At}(a:∀x v,x.key=some k->Ab ι x v->Ab (upd ι k u) (f x) v):∀{xs:dl}{vs:bx},DenS ι xs vs->
 DenS (upd ι k u) (xs.map (SV.sub k f)) vs
 |[],[],_=>trivial
 |_::_,_::_,h=>⟨Den.sub a h.1,DenS.sub a h.2⟩
 |[],_::_,h=>h.elim
 |_::_,[],h=>h.elim
structure sJ where
 w0:World
 E:Nat->Prop
 h0:PH
 dfs:List Deferred
def blk:Value->Option Nat
 |.pointer (some a)=>some a.block
 |.slice (some a) _ _=>some a.block
 |_=>none
def D8(ι:cn)(w:World)(v:Value):Own->Prop
 |.cellsP p T e=>∃b c,v= .pointer (some ⟨b,0,none⟩)/\w.heap[b]? =some (.cells c T (0,0))/\iQ ι e c.toList/\∀q,p=some q->b=q
 |.lst E d a=>jI d a/\w.ownsRow 0 E d v a.length a.flatten
structure xV(B:sJ)(m:MH)(h:PH)(w:World):Prop where
 tape:w.tape=B.w0.tape
 os:w.os=B.w0.os
 output:w.output=B.w0.output
 drawn:B.w0.drawn<=w.drawn
 size:B.w0.heap.size<=w.heap.size
 frame:∀b,b<B.w0.heap.size->¬B.E b->w.heap[b]? =B.w0.heap[b]?
 hsat:∀b o v,h b o=some v->w.cell? ⟨b,o,none⟩=some v
 msat:∀b o,m b=some o->w.heap[b]? =some o
 disj:∀b o,m b=some o->∀i,h b i=none
 hle:∀b o v,B.h0 b o=some v->h b o=some v
 hold:∀b,b<B.w0.heap.size->¬B.E b->h b=B.h0 b
 mfr:∀b o,m b=some o->B.w0.heap.size<=b\/B.E b
structure aK(B:sJ)(ι:cn)(σ:St)(a:Act)(w:World):Prop where
 slots:DenS ι σ.sl a.tmps.toList
 defers:a.defers=B.dfs
 own:∀k o,nth σ.own k=some (some o)->D8 ι w (ι k) o
 dist:∀k k' o o' b,nth σ.own k=some (some o)->nth σ.own k'=some (some o')->blk (ι k)=some b->blk (ι k')=some b->k=k'
 fresh:∀k o b,nth σ.own k=some (some o)->blk (ι k)=some b->(B.w0.heap.size<=b\/B.E b)/\σ.m b=none/\∀i,σ.h b i=none
 wrel:xV B σ.m σ.h w
 one:∀k,(ι k).oneCell'=true
theorem Af{α:Type}(l:List α)(k j:Nat)(x:α):nth (l.set k x) j=if j=k/\k<l.length then some x else nth l j:=by
 rw[jX,jX,getElem?_set]
 grind
theorem BC{α β:Type}(f:α->β)(l:List α)(j:Nat):nth (l.map f) j=(nth l j).map f:=by
 rw[jX,jX,getElem?_map]
theorem Act.toList_put(a:Act)(d:Nat)(v:Value):(a.put (some d) v).tmps.toList=a.tmps.toList.set d v:=by
 simp[Act.put]
theorem aK.put{B:sJ}{ι:cn}{σ:St}{a:Act}{w:World}(h:aK B ι σ a w)(d:Option Tmp){x:SV}{v:Value}(b:Den ι x v):
 aK B ι (σ.put d x) (a.put d v) w:=by
 cases d with
 |none=>exact h
 |some d=>
  refine⟨?_,h.defers,h.own,h.dist,h.fresh,h.wrel,h.one⟩;rw[Act.toList_put];exact h.slots.set d b
theorem aK.ev{B:sJ}{ι:cn}{σ:St}{a:Act}{w:World}(h:aK B ι σ a w)(x:Operand):Den ι (σ.ev x) (a.eval x):=by
 cases x with
 |const v=>rfl
 |global g=>rfl
 |func f=>rfl
 |tmp t=>
  simp only[St.ev,jX];cases b:σ.sl[t]? with
  |none=>exact trivial
  |some x=>
   obtain⟨v,c,d⟩:=h.slots.get t x b
   have:a.eval (.tmp t)=v:=by
    simp only[Act.eval,Array.getD_eq_getD_getElem?]
    grind
   grind
theorem aK.rho{B:sJ}{ι:cn}{σ:St}{a:Act}{w:World}(h:aK B ι σ a w){x:Operand}{v:Value}(b:(σ.ev x).val? =some v):
 a.eval x=v:=(h.ev x).val? b
theorem rB{ι:cn}{w:World}{v:Value}{o:Own}{b:Nat}(h:D8 ι w v o)(a:blk v=some b):b<w.heap.size:=by
 cases o with
 |cellsP p T g=>
  obtain⟨c,i,rfl,d,_⟩:=h;simp[blk]at a;grind
 |lst E j l=>
  rcases h.2.2 with⟨rfl,_⟩|⟨c,e,f,rfl,_,d,_⟩
  .simp[blk]at a
  .simp[blk]at a;grind
theorem D8.world{ι:cn}{w w':World}{v:Value}{o:Own}(h:D8 ι w v o)(f:∀b,blk v=some b->w'.heap[b]? =w.heap[b]?):D8 ι w' v o:=by
 cases o with
 |cellsP p T m=>
  obtain⟨a,g,rfl,c,i⟩:=h;exact⟨a,g,rfl,by rw[f _ rfl];exact c,i⟩
 |lst E n r=>
  refine⟨h.1,h.2.1,?_⟩;rcases h.2.2 with⟨rfl,s⟩|⟨a,d,e,rfl,j,c,l⟩
  .grind
  .exact .inr ⟨a,d,e,rfl,j,by rw[f _ rfl];exact c,l⟩
theorem D8.sub{ι:cn}{w:World}{v:Value}{o:Own}{k:Nat}{u:Value}{f:At->At}(a:∀x v,x.key=some k->Ab ι x v->Ab (upd ι k u) (f x) v)(h:D8 ι w v o):
 D8 (upd ι k u) w v (o.sub k f):=by
 cases o with
 |cellsP p T i=>
  obtain⟨b,c,rfl,d,e,g⟩:=h;exact⟨b,c,rfl,d,iQ.sub a e,g⟩
 |lst E j l=>exact h
theorem rI{σ:St}{k j:Nat}{f:At->At}{o':Own}(h:nth ((σ.sub k f).setOwn k none).own j=some (some o')):
 j≠k/\∃o,nth σ.own j=some (some o)/\o'=o.sub k f:=by
 simp only[St.setOwn,St.sub,Af,BC]at h;by_cases a:j=k
 .subst a;by_cases b:j<σ.own.length
  .grind
  .simp[b,jX]at h
 .simp only[a,false_and,if_false]at h;refine⟨a,?_⟩;cases c:nth σ.own j with
  |none=>grind
  |some x=>
   cases x with
   |none=>grind
   |some o=>grind
theorem TP{ι:cn}(h:∀k,(ι k).oneCell'=true)(k:Nat){u:Value}(a:u.oneCell'=true):∀j,(upd ι k u j).oneCell'=true:=by
 intro j;unfold upd
 grind
theorem aK.drop{B:sJ}{ι:cn}{σ:St}{a:Act}{w:World}(h:aK B ι σ a w)(k:Nat)(u:Value)(s:u.oneCell'=true)(f:At->At)
 (p:∀x v,x.key=some k->Ab ι x v->Ab (upd ι k u) (f x) v):aK B (upd ι k u) ((σ.sub k f).setOwn k none) a w:=by
 refine⟨DenS.sub p h.slots,h.defers,?_,?_,?_,h.wrel,TP h.one k s⟩
 .intro j r d;obtain⟨c,o,e,rfl⟩:=rI d;rw[qK _ _ c];exact(h.own j o e).sub p
 .intro j t o r b d m g i;obtain⟨c,o,e,rfl⟩:=rI d;obtain⟨l,r,n,rfl⟩:=rI m;rw[qK _ _ c]at g;rw[qK _ _ l]at i;exact h.dist j t _ _ b e n g i
 .intro j o b d g;obtain⟨c,o,e,rfl⟩:=rI d;rw[qK _ _ c]at g;exact h.fresh j o b e g
theorem Om(σ:St)(k:Nat):σ.kill k=(σ.sub k (λ_=>.junk)).setOwn k none:=rfl
theorem aK.kill{B:sJ}{ι:cn}{σ:St}{a:Act}{w:World}(h:aK B ι σ a w)(k:Nat)(u:Value)(b:u.oneCell'=true):aK B (upd ι k u) (σ.kill k) a w:=
 h.drop k u b _ (λ_ _ _ _=>trivial)
structure D6(S:Nat->Prop)(w w':World):Prop where
 tape:w'.tape=w.tape
 os:w'.os=w.os
 output:w'.output=w.output
 drawn:w.drawn<=w'.drawn
 size:w.heap.size<=w'.heap.size
 block:∀b,b<w.heap.size->¬S b->w'.heap[b]? =w.heap[b]?
theorem D6.refl(S:Nat->Prop)(w:World):D6 S w w:=⟨rfl,rfl,rfl,Nat.le_refl _,Nat.le_refl _,λ_ _ _=>rfl⟩
theorem xV.ext{B:sJ}{m:MH}{h:PH}{w w':World}{S:Nat->Prop}(a:xV B m h w)(c:D6 S w w')(p:∀b,S b->(B.w0.heap.size<=b\/B.E b)/\m b=none/\∀i,h b i=none):
 xV B m h w':=by
 refine⟨c.tape.trans a.tape,c.os.trans a.os,c.output.trans a.output,Nat.le_trans a.drawn c.drawn,Nat.le_trans a.size c.size,?_,?_,?_,a.disj,a.hle,a.hold,a.mfr⟩
 .intro b f j;rw[c.block b (Nat.lt_of_lt_of_le f a.size) (λg=>?_)]
  .exact a.frame b f j
  grind
 .intro b o v l;have e:=a.hsat b o v l
  have d:b<w.heap.size:=by
   unfold World.cell? at e
   grind
  have r:=c.block b d (λg=>bk);unfold World.cell? at e⊢
  grind
 .intro b o n;have e:=a.msat b o n;have d:=(Array.getElem?_eq_some_iff.1 e).1;rw[c.block b d (λg=>bk)];exact e
theorem aK.place{B:sJ}{ι:cn}{σ:St}{a:Act}{w w':World}(h:aK B ι σ a w)(k:Nat)(o:Own)(v:Value)
 (J:D6 (λb=>(∃o',nth σ.own k=some (some o'))/\blk (ι k)=some b) w w')
 (N:D8 (upd ι k v) w' v o)(z:v.oneCell'=true)
 (O:∀b,blk v=some b->w.heap.size<=b\/((∃o',nth σ.own k=some (some o'))/\blk (ι k)=some b)):
 aK B (upd ι k v) ((σ.kill k).setOwn k (some o)) a w':=by
 have P:∀b,((∃o',nth σ.own k=some (some o'))/\blk (ι k)=some b)->(B.w0.heap.size<=b\/B.E b)/\σ.m b=none/\∀i,σ.h b i=none:=
  λb⟨⟨o',s⟩,D⟩=>h.fresh k o' b s D
 have F:=h.wrel.ext J P
 have A:∀b,blk v=some b->(B.w0.heap.size<=b\/B.E b)/\σ.m b=none/\∀i,σ.h b i=none:=by
  intro b K;rcases O b K with G|L
  .refine⟨.inl (Nat.le_trans h.wrel.size G),?_,?_⟩
   .cases Q:σ.m b with
    |none=>rfl
    |some R=>have:=(Array.getElem?_eq_some_iff.1 (h.wrel.msat b R Q)).1;omega
   .intro i;cases S:σ.h b i with
    |none=>rfl
    |some u=>
     have T:=h.wrel.hsat b i u S;unfold World.cell? at T
     grind
  grind
 have c:∀j o',nth ((σ.kill k).setOwn k (some o)).own j=some (some o')->
  (j=k/\o'=o)\/(j≠k/\∃l,nth σ.own j=some (some l)/\o'=l.sub k (λ_=>.junk)):=by
  intro j o' p;simp only[Om,St.setOwn,St.sub,Af,BC,length_set,length_map]at p;by_cases e:j=k
  .subst e;by_cases t:j<σ.own.length
   .grind
   .simp[t,jX]at p
  .simp only[e,false_and,if_false]at p;refine .inr ⟨e,?_⟩;cases W:nth σ.own j with
   |none=>grind
   |some x=>
    cases x with
    |none=>grind
    |some l=>grind
 have other:∀j l,j≠k->nth σ.own j=some (some l)->∀b,blk (ι j)=some b->blk v≠some b/\w'.heap[b]? =w.heap[b]? :=by
  intro j l e g b d;have t:=rB (h.own j l g) d;have y:¬((∃o',nth σ.own k=some (some o'))/\blk (ι k)=some b):=λ⟨⟨o',s⟩,D⟩=>e (h.dist j k l o' b g s d D);refine⟨λK=>?_,J.block b t y⟩
  grind
 refine⟨DenS.sub (f:=λ_=>.junk) (λ_ _ _ _=>trivial) h.slots,h.defers,?_,?_,?_,F,TP h.one k z⟩
 .intro j o' p;rcases c j o' p with⟨rfl,rfl⟩|⟨e,l,g,rfl⟩
  .rw[upd_same];exact N
  .rw[qK _ _ e];refine D8.world ((h.own j l g).sub (f:=λ_=>.junk) (λ_ _ _ _=>trivial)) (λb d=>(other j l e g b d).2)
 .intro j M l U b p H d n;rcases c j l p with⟨rfl,rfl⟩|⟨e,C,g,rfl⟩<;>rcases c M U H with⟨rfl,rfl⟩|⟨r,V,I,rfl⟩
  .rfl
  .rw[upd_same]at d;rw[qK _ _ r]at n
   grind
  .rw[upd_same]at n;rw[qK _ _ e]at d
   grind
  .rw[qK _ _ e]at d;rw[qK _ _ r]at n;exact h.dist j M _ _ b g I d n
 .intro j l b p d;rcases c j l p with⟨rfl,rfl⟩|⟨e,C,g,rfl⟩
  .rw[upd_same]at d;exact A b d
  .rw[qK _ _ e]at d;exact h.fresh j C b g d
theorem aK.adopt{B:sJ}{ι:cn}{σ:St}{a:Act}{w:World}(h:aK B ι σ a w)(k:Nat)(o:Own)(v:Value)
 (C:D8 (upd ι k v) w v o)(s:v.oneCell'=true)
 (D:∀b,blk v=some b->((B.w0.heap.size<=b\/B.E b)/\σ.m b=none/\∀i,σ.h b i=none)/\∀j o',j≠k->nth σ.own j=some (some o')->blk (ι j)≠some b):
 aK B (upd ι k v) ((σ.kill k).setOwn k (some o)) a w:=by
 have c:∀j o',nth ((σ.kill k).setOwn k (some o)).own j=some (some o')->
  (j=k/\o'=o)\/(j≠k/\∃n,nth σ.own j=some (some n)/\o'=n.sub k (λ_=>.junk)):=by
  intro j o' p;simp only[Om,St.setOwn,St.sub,Af,BC,length_set,length_map]at p;by_cases d:j=k
  .subst d;by_cases u:j<σ.own.length
   .grind
   .simp[u,jX]at p
  .simp only[d,false_and,if_false]at p;refine .inr ⟨d,?_⟩;cases H:nth σ.own j with
   |none=>grind
   |some x=>
    cases x with
    |none=>grind
    |some n=>grind
 refine⟨DenS.sub (f:=λ_=>.junk) (λ_ _ _ _=>trivial) h.slots,h.defers,?_,?_,?_,h.wrel,TP h.one k s⟩
 .intro j o' p;rcases c j o' p with⟨rfl,rfl⟩|⟨d,n,l,rfl⟩
  .rw[upd_same];exact C
  .rw[qK _ _ d];exact(h.own j n l).sub (f:=λ_=>.junk) (λ_ _ _ _=>trivial)
 .intro j A n F b p y e g;rcases c j n p with⟨rfl,rfl⟩|⟨d,t,l,rfl⟩<;>rcases c A F y with⟨rfl,rfl⟩|⟨r,G,z,rfl⟩
  .rfl
  .rw[upd_same]at e;rw[qK _ _ r]at g
   grind
  .rw[upd_same]at g;rw[qK _ _ d]at e
   grind
  .rw[qK _ _ d]at e;rw[qK _ _ r]at g;exact h.dist j A _ _ b l z e g
 .intro j n b p e;rcases c j n p with⟨rfl,rfl⟩|⟨d,t,l,rfl⟩
  .rw[upd_same]at e;exact(D b e).1
  .rw[qK _ _ d]at e;exact h.fresh j t b l e
theorem Jh(ι:cn)(k:Nat):upd ι k (ι k)=ι:=by
 funext j;unfold upd
 grind
structure Fz(σ σ':St):Prop where
 cells:∀k p T cs,nth σ.own k=some (some (.cellsP p T cs))->∃cs',nth σ'.own k=some (some (.cellsP p T cs'))
 imm:∀b off v,σ.h b off=some v->σ'.h b off=some v
 ptr:∀x k off,σ'.ev x= .at (.ptr k off)->σ.ev x= .at (.ptr k off)
 lst:∀x k,σ'.ev x= .at (.lst k)->σ.ev x= .at (.lst k)
 m_:σ'.m=σ.m
theorem Fz.refl(σ:St):Fz σ σ:=⟨λ_ _ _ a h=>⟨a,h⟩,λ_ _ _ h=>h,λ_ _ _ h=>h,λ_ _ h=>h,rfl⟩
theorem Fz.trans{σ τ υ:St}(h:Fz σ τ)(a:Fz τ υ):Fz σ υ:=
 ⟨λk p T d e=>let⟨cs',hk'⟩:=h.cells k p T d e;a.cells k p T cs' hk',λb o v f=>a.imm b o v (h.imm b o v f),λx k o c=>h.ptr x k o (a.ptr x k o c),λx k c=>h.lst x k (a.lst x k c),a.m_.trans h.m_⟩
theorem Z7(σ:St)(k:Nat)(f:At->At)(m:MH)(h:PH)(own:di)(x:Operand):
 St.ev {sl:=σ.sl.map (SV.sub k f),own:=own,m:=m,h:=h} x=(σ.ev x).sub k f\/(∃v,x= .const v\/(∃g,x= .global g)\/∃g,x= .func g):=by
 cases x with
 |tmp t=>
  left;simp only[St.ev,BC];cases nth σ.sl t with
  |none=>rfl
  |some y=>rfl
 |const v=>grind
 |global g=>exact .inr ⟨undef,.inr (.inl ⟨g,rfl⟩)⟩
 |func g=>exact .inr ⟨undef,.inr (.inr ⟨g,rfl⟩)⟩
theorem bMJ{k:Nat}{f:At->At}(a:∀x j o,f x≠ .ptr j o){x:SV}{j o:Nat}(h:x.sub k f= .at (.ptr j o)):x= .at (.ptr j o):=by
 cases x with
 |agg b=>simp[SV.sub]at h
 |tup c=>simp[SV.sub]at h
 |_ y=>
  cases y<;>simp only[SV.sub,At.sub,SV.at.injEq]at h⊢
  case val=>exact h
  case junk=>exact h
  all_goals
   split at h
   .exact absurd h (a _ _ _)
   .exact h
theorem aiX{k:Nat}{f:At->At}(a:∀x j,f x≠ .lst j){x:SV}{j:Nat}(h:x.sub k f= .at (.lst j)):x= .at (.lst j):=by
 cases x with
 |agg b=>simp[SV.sub]at h
 |tup c=>simp[SV.sub]at h
 |_ y=>
  cases y<;>simp only[SV.sub,At.sub,SV.at.injEq]at h⊢
  case val=>exact h
  case junk=>exact h
  all_goals
   split at h
   .exact absurd h (a _ _)
   .exact h
theorem bcZ{σ:St}{k:Nat}{f:At->At}{m:MH}{h:PH}(n:m=σ.m)(r:∀x j o,f x≠ .ptr j o)(d:∀x j,f x≠ .lst j)(s:∀p T cs,nth σ.own k≠some (some (.cellsP p T cs)))(t:∀b off v,σ.h b off=some v->h b off=some v):
 Fz σ {(σ.sub k f).setOwn k none with m:=m,h:=h}:=by
 refine⟨?_,t,?_,?_,n⟩
 .intro j p T cs l;have i:j≠k:=λe=>s p T cs (e▸l);refine⟨cs.map (At.sub k f),?_⟩;simp only[St.setOwn,St.sub,Af,BC,i,false_and,if_false,l];rfl
 .intro x j off c;rcases Z7 σ k f m h ((σ.sub k f).setOwn k none).own x with a|⟨v,a⟩
  .have:(σ.ev x).sub k f= .at (.ptr j off):=a▸c;exact bMJ r this
  .rcases a with rfl|⟨g,rfl⟩|⟨g,rfl⟩<;>exact c
 .intro x j c;rcases Z7 σ k f m h ((σ.sub k f).setOwn k none).own x with a|⟨v,a⟩
  .have:(σ.ev x).sub k f= .at (.lst j):=a▸c;exact aiX d this
  .rcases a with rfl|⟨g,rfl⟩|⟨g,rfl⟩<;>exact c
end Go.Vc
namespace Go.Vc
open Go List
theorem Ch{α:Type}(P:Program):∀(s:Sem α)(x:α),Be P s=some x->∀w,s.run P w= .ok x w:=by
 intro s
 induction s with
 |pure a=>intro x h w;simp[Be]at h;subst h;rfl
 |program k b=>intro x h w;simp only[Be]at h;simp only[Sem.run];grind
 |mark m k b=>intro x h w;simp only[Be]at h;simp only[Sem.run];grind
 |_=>intro x h w;simp[Be]at h
def UO(C:Ctx)(ι:cn)(o:Oper)(σ:St)(K:St->Prop)(a:Act)(w:World):Prop:=
 ∃v x,(∀b,(Bu C.P o=false\/b=w)->(execOp a.eval o).run C.P b= .ok (.value v) b)/\Den ι x v/\K (σ.put o.dst x)
section
variable{B:sJ}{C:Ctx}{ι:cn}{σ:St}{a:Act}{w:World}{o:Oper}{K:St->Prop}
theorem Nx(d:aK B ι σ a w):∀(l:dc),Ou σ l=true->∀x∈l,σ.rho x=a.eval x
 |[],_,x,b=>by cases b
 |y::l,h,x,b=>by
  simp only[Ou]at h;cases c:(σ.ev y).val? with
  |none=>grind
  |some v=>
   simp[c]at h;rcases mem_cons.1 b with rfl|b
   .simp only[St.rho,c];exact(d.rho c).symm
   .exact Nx d l h x b
theorem lY(d:aK B ι σ a w)(e:∀cs b,o.op≠ .select cs b)(h:yC C o σ K):UO C ι o σ K a w:=by
 unfold yC at h;split at h
 .rename_i f;have g:execOp a.eval o=execOp σ.rho o:=execOp_congr o e λx j=>(Nx d _ f x bk).symm;split at h
  .rename_i v i;exact⟨v,.at (.val v),λc _=>by rw[g];exact Ch _ _ _ i c,rfl,h⟩
  grind
 grind
theorem Addr.add_none(b o j:Nat):(⟨b,o,none⟩:Addr).add j=⟨b,o+j,none⟩:=by unfold Addr.add;grind
def mkV(P:Program)(T:TypeId)(cs:bx):Value:=match zY P T with|true=>.agg cs.toArray|false=>cs.headD undef
theorem gP{P:Program}{T:TypeId}(h:jD P T=true):∃i d,P.info? T=some i/\P.underlying T=some d/\P.cellsOf T=i.size/\0<i.size:=by
 unfold jD at h;split at h
 .rename_i d c;split at h
  .cases h
  .rename_i e;cases b:P.info? T with
   |none=>simp[Program.underlying,b]at c
   |some i=>
    have f:P.cellsOf T=i.size:=by simp[Program.cellsOf,b]
    grind
 .cases h
theorem Rt{P:Program}{T:TypeId}{d:TypeDesc}(h:P.underlying T=some d)(w:World):(isAgg T).run P w= .ok (zY P T) w:=by
 unfold isAgg zY;rw[Sem.run_bind,run_underlying h w,h];cases d<;>rfl
theorem run_sizeOf{P:Program}{T:TypeId}{i:TypeInfo}(h:P.info? T=some i)(w:World):(sizeOf T).run P w= .ok i.size w:=by
 simp[sizeOf,typeInfo,program,Sem.run,h]
theorem AT{P:Program}{T:TypeId}{w:World}{b off:Nat}{cs:bx}(l:jD P T=true)(c:cs.length=P.cellsOf T)
 (m:∀j v,cs[j]? =some v->w.cell? ⟨b,off+j,none⟩=some v):(loadVar T ⟨b,off,none⟩).run P w= .ok (mkV P T cs) w:=by
 obtain⟨i,d,n,p,e,f⟩:=gP l;rw[e]at c;unfold loadVar;rw[Sem.run_bind,Rt p];simp only[Result.andThen_ok];unfold mkV;cases g:zY P T with
 |true=>
  have s:(loadCells ⟨b,off,none⟩ cs.length).run P w= .ok cs.toArray w:=
   run_loadCells_list (P:=P) w ⟨b,off,none⟩ cs (λj v t=>by rw[Addr.add_none];grind)
  simp[run_sizeOf n, <-c,s]
 |false=>
  cases cs with
  |nil=>grind
  |cons v r=>
   have h:=m 0 v rfl;simp only[Nat.add_zero]at h;simp[load,Sem.run,h]
theorem IY{P:Program}{T:TypeId}{ats:cw}{cs:bx}(h:iQ ι ats cs):Den ι (mk P T ats) (mkV P T cs):=by
 unfold mk mkV;cases zY P T with
 |true=>exact⟨cs.toArray,rfl,bt h⟩
 |false=>
  cases ats with
  |nil=>exact trivial
  |cons x r=>
   cases cs with
   |nil=>exact h.elim
   |cons v l=>
    cases r with
    |nil=>exact h.1
    |cons y r=>exact trivial
theorem xO(c:aK B ι σ a w){k:Nat}{T:TypeId}{cs:cw}{p:Option Nat}(d:nth σ.own k=some (some (.cellsP p T cs))):
 ∃b vs,ι k= .pointer (some ⟨b,0,none⟩)/\w.heap[b]? =some (.cells vs T (0,0))/\iQ ι cs vs.toList:=
 let⟨b,vs,h1,h2,h3,_⟩:=c.own k _ d;⟨b,vs,h1,h2,h3⟩
theorem akJ(c:aK B ι σ a w){k q:Nat}{T:TypeId}{cs:cw}(d:nth σ.own k=some (some (.cellsP (some q) T cs))):ι k= .pointer (some ⟨q,0,none⟩):=by
 obtain⟨b,e,f,_,_,g⟩:=c.own k _ d
 grind
theorem cell_of_heap{w:World}{b o:Nat}{vs:Array Value}{T:TypeId}{c:Nat×Nat}(h:w.heap[b]? =some (.cells vs T c)):w.cell? ⟨b,o,none⟩=vs.toList[o]? :=by
 simp[World.cell?,h]
theorem Ro{vs:bx}{off n j:Nat}{v:Value}(h:((vs.drop off).take n)[j]? =some v):vs[off+j]? =some v:=by
 grind
theorem Ej(c:xV B σ.m σ.h w){b off:Nat}{l:bx}(h:aU σ.m σ.h b off l):∀j v,l[j]? =some v->w.cell? ⟨b,off+j,none⟩=some v:=by
 intro j v d;cases h with
 |imm e=>exact c.hsat _ _ _ (e.rd j v d)
 |lent g E i f n=>
  rw[cell_of_heap (c.msat _ _ f)]
  grind
theorem mY{xs:List bx}{sz i:Nat}{e:bx}(b:∀e∈xs,e.length=sz)(c:xs[i]? =some e)(j:Nat)(v:Value)(d:e[j]? =some v):
 xs.flatten[i*sz+j]? =some v:=by
 induction xs generalizing i with
 |nil=>simp at c
 |cons x r f=>
  have g:x.length=sz:=b x bf;cases i with
  |zero=>
   grind
  |succ i=>
   grind
theorem tK(b:aK B ι σ a w){k:Nat}{E sz:Nat}{xs:List bx}(c:nth σ.own k=some (some (.lst E sz xs))):
 jI sz xs/\w.ownsRow 0 E sz (ι k) xs.length xs.flatten:=b.own k _ c
theorem X7(G:aK B ι σ a w){T:TypeId}{x:Operand}(S:o.op= .load T x)(h:X8 C o T x σ K):UO C ι o σ K a w:=by
 have f:∀(b off:Nat)(z:bx),a.eval x= .pointer (some ⟨b,off,none⟩)->jD C.P T=true->z.length=C.P.cellsOf T->(∀j v,z[j]? =some v->w.cell? ⟨b,off+j,none⟩=some v)->
  ∀l,(Bu C.P o=false\/l=w)->(execOp a.eval o).run C.P l= .ok (.value (mkV C.P T z)) l:=by
  intro b off z r A U V l H;have H:l=w:=H.resolve_left (by simp[Bu,S]);subst H;have:=AT A U V;unfold execOp;simp only[S,r,Instr.loadAt,Instr.sureAddr,Sem.run_bind,Sem.run_pure,Result.andThen_ok,this]
 have d:=G.ev x;unfold X8 at h;split at h
 .exact h.elim
 .rename_i A;split at h
  .rename_i k off r;rw[r]at d;split at h
   .rename_i p T' z I;split at h
    .rename_i J;obtain⟨b,W,L,X,Y⟩:=xO G I;obtain⟨b',t,M⟩:=d;rw[L]at t;simp only[Value.pointer.injEq,Option.some.injEq,Addr.mk.injEq]at t;obtain⟨rfl, -, -⟩:=t;have D:=(Y.drop off).take (C.P.cellsOf T);refine⟨_,_,f b off ((W.toList.drop off).take (C.P.cellsOf T)) M A ?_ ?_,IY D,h⟩
     .rw[<-D.length];have:=Nat.le_of_ble_eq_true J;simp;omega
     .intro j v N;rw[cell_of_heap X]
      grind
    grind
   grind
  .rename_i k i sz off r;rw[r]at d;split at h
   .rename_i E s xs I;split at h
    .rename_i O;have O:=Nat.eq_of_beq_eq_true O;subst O;obtain⟨e,Z,y,Q,h⟩:=h;split at h
     .rename_i m;obtain⟨u,F⟩:=tK G I;obtain⟨b,n,c,L,M⟩:=d;refine⟨_,_,f b _ _ M A (Nat.eq_of_beq_eq_true m) ?_,IY (iQ.vals.2 rfl),h⟩;intro j v N;rw[<-Q]at N;have R:=Ro N;have hf:=mY u.len Z _ _ R;have:=F.cells (g:=b) (by rw[L];rfl) _ _ hf;rw[Addr.add_none]at this
      grind
     grind
    grind
   grind
  .rename_i b off r;rw[r]at d;obtain⟨y,Q,h⟩:=h;split at h
   .rename_i m;exact⟨_,_,f b off _ d A (Nat.eq_of_beq_eq_true m) (Ej G.wrel Q),IY (iQ.vals.2 rfl),h⟩
   grind
  grind
theorem Pk(c:aK B ι σ a w){x:Operand}(b:o.op= .move x\/o.op= .assign x)(h:K (σ.put o.dst (σ.ev x))):UO C ι o σ K a w:=by
 refine⟨a.eval x,σ.ev x,λd _=>?_,c.ev x,h⟩;rcases b with b|b<;>simp[execOp,b]
theorem uP{c:Bool}{A D:Prop}(h:branch c A D):(c=true/\A)\/(c=false/\D):=by
 cases c
 .exact .inr ⟨rfl,h⟩
 .exact .inl ⟨rfl,h⟩
theorem XO(d:aK B ι σ a w){c x y:Operand}(f:o.op= .pick c x y)(h:XP o c x y σ K):UO C ι o σ K a w:=by
 have b:=d.ev c;unfold XP at h;split at h
 .rename_i t g;rw[g]at b;have b:a.eval c= .bool t:=b;rcases uP h with⟨rfl,h⟩|⟨rfl,h⟩
  .exact⟨a.eval x,σ.ev x,λe _=>by simp[execOp,f,b,asBool],d.ev x,h⟩
  .exact⟨a.eval y,σ.ev y,λe _=>by simp[execOp,f,b,asBool],d.ev y,h⟩
 grind
theorem KS{P:Program}{T f g T':Nat}(h:KT P T f=some (g,T')):∃c Q0,P.underlying T=some (.struct c)/\c[f]? =some Q0/\Q0.offset=g/\Q0.type=T'/\P.cellsOf T'≠0:=by
 unfold KT at h;split at h
 .rename_i c d;split at h
  .rename_i Q0 b;split at h
   .cases h
   .rename_i i;simp only[Option.some.injEq,Prod.mk.injEq]at h;obtain⟨rfl,rfl⟩:=h;rw[jX,Array.getElem?_toList]at b;exact⟨c,Q0,d,b,rfl,rfl,λe=>by rw[e]at i;simp at i⟩
  .cases h
 .cases h
theorem Vo{P:Program}{T f g T':Nat}(h:KT P T f=some (g,T'))(w:World)(b off:Nat):
 (Instr.fieldAt T (.pointer (some ⟨b,off,none⟩)) f).run P w= .ok (.pointer (some ⟨b,off+g,none⟩)) w:=by
 obtain⟨m,Q0,j,l,rfl,rfl,e⟩:=KS h;cases c:P.info? Q0.type with
 |none=>simp[Program.cellsOf,c]at e
 |some i=>
  have d:i.size≠0:=by simpa[Program.cellsOf,c]using e
  simp[Instr.fieldAt,run_underlying j,l,Instr.sureAddr,fieldPlace,run_sizeOf c,d,Addr.add_none]
theorem NH(r:aK B ι σ a w){T f:Nat}{x:Operand}(s:o.op= .fieldAddr T x f)(h:GA C o T x f σ K):UO C ι o σ K a w:=by
 have d:=r.ev x;unfold GA at h;split at h
 .exact h.elim
 .rename_i g T' t
  have e:∀b off,a.eval x= .pointer (some ⟨b,off,none⟩)->∀j,(Bu C.P o=false\/j=w)->(execOp a.eval o).run C.P j= .ok (.value (.pointer (some ⟨b,off+g,none⟩))) j:=by
   intro b off l j _;unfold execOp;simp only[s,l,Sem.run_bind,Vo t,Result.andThen_ok,Sem.run_pure]
  split at h
  .rename_i k off l;rw[l]at d;obtain⟨b,m,p⟩:=d;exact⟨_,.at (.ptr k (off+g)),e b off p,⟨b,m,rfl⟩,h⟩
  .rename_i k i u off l;rw[l]at d;obtain⟨b,n,c,m,p⟩:=d;exact⟨_,.at (.el k i u (off+g)),e b _ p,⟨b,n,c,m,bk⟩,h⟩
  .rename_i b off l;rw[l]at d;exact⟨_,.at (.val _),e b off d,rfl,h⟩
  grind
theorem Pb(p:aK B ι σ a w){x:Operand}(r:o.op= .nilCheck x)(h:IF o x σ K):UO C ι o σ K a w:=by
 have d:=p.ev x
 have e:∀j,a.eval x= .pointer (some j)->∀f,(Bu C.P o=false\/f=w)->(execOp a.eval o).run C.P f= .ok (.value (.pointer (some j))) f:=by
  intro j g f _;unfold execOp;simp[r,g]
 unfold IF at h;split at h
 .rename_i k off g;rw[g]at d;obtain⟨b,l,m⟩:=d;exact⟨_,.at (.ptr k off),e _ m,⟨b,l,rfl⟩,h⟩
 .rename_i k i s off g;rw[g]at d;obtain⟨b,n,c,l,m⟩:=d;exact⟨_,.at (.el k i s off),e _ m,⟨b,n,c,l,rfl⟩,h⟩
 .rename_i j g;rw[g]at d;exact⟨_,.at (.val _),e _ d,rfl,h⟩
 grind
end
end Go.Vc
namespace Go.Vc
open Go List
section
variable{B:sJ}{C:Ctx}{ι:cn}{σ:St}{a:Act}{w:World}{o:Oper}{K:St->Prop}
theorem Cc(f:∀k,(ι k).oneCell'=true){x:SV}{v:Value}{cs:cw}(h:Den ι x v)(d:x.cells? =some cs):iQ ι cs v.cells.toList:=by
 have one:∀u:Value,u.oneCell'=true->u.cells= #[u]:=λu g=>by cases u<;>first|rfl|(simp[Value.oneCell']at g)
 cases x with
 |agg l=>
  simp only[SV.cells?,Option.some.injEq]at d;subst d;obtain⟨p,rfl,j⟩:=h;exact j
 |tup r=>simp[SV.cells?]at d
 |_ y=>
  cases y with
  |val u=>
   have h:v=u:=h;subst h;cases v<;>simp only[SV.cells?,Option.some.injEq,reduceCtorEq]at d<;>subst d<;>first|exact⟨rfl,trivial⟩|skip
   exact iQ.vals.2 rfl
  |junk=>simp[SV.cells?]at d
  |ptr k off=>
   simp only[SV.cells?,Option.some.injEq]at d;subst d;obtain⟨b,e,rfl⟩:=h;exact⟨⟨b,e,rfl⟩,trivial⟩
  |lst k=>
   simp only[SV.cells?,Option.some.injEq]at d;subst d;have h:v=ι k:=h;rw[one v bk];exact⟨h,trivial⟩
  |el k i m off=>
   simp only[SV.cells?,Option.some.injEq]at d;subst d;obtain⟨b,n,c,e,rfl⟩:=h;exact⟨⟨b,n,c,e,rfl⟩,trivial⟩
theorem run_indexAt_slice{P:Program}{T E:TypeId}(f:P.underlying T=some (.slice E))(g:jD P E=true)(w:World)(b off len c:Nat)(k:IntKind)(n:Int)(h:0<=n)(j:n<(len:Int)):
 (Instr.indexAt T (.slice (some ⟨b,off,none⟩) len c) (.int k n)).run P w= .ok (.pointer (some ⟨b,off+n.toNat*P.cellsOf E,none⟩)) w:=by
 obtain⟨i,d,l,p,m,e⟩:=gP g;rw[m];simp[Instr.indexAt,asIntOf,run_underlying f,h,j,run_sizeOf l,Addr.add_none]
theorem run_indexAt_array{P:Program}{T E len:Nat}(e:P.underlying T=some (.array len E))(f:jD P E=true)(w:World)(b off:Nat)(k:IntKind)(n:Int)(g:0<=n)(h:n<(len:Int)):
 (Instr.indexAt T (.pointer (some ⟨b,off,none⟩)) (.int k n)).run P w= .ok (.pointer (some ⟨b,off+n.toNat*P.cellsOf E,none⟩)) w:=by
 obtain⟨i,d,j,m,l,c⟩:=gP f;rw[l];simp[Instr.indexAt,asIntOf,run_underlying e,Instr.sureAddr,g,h,run_sizeOf j,Addr.add_none]
theorem NG(t:aK B ι σ a w){T:Nat}{x i:Operand}(D:o.op= .indexAddr T x i)(h:Gt C o T x i σ K):UO C ι o σ K a w:=by
 have d:=t.ev x;have e:=t.ev i;unfold Gt at h;split at h
 .rename_i u n F;rw[F]at e;have e:a.eval i= .int u n:=e;split at h
  .rename_i E v;split at h
   .rename_i y
    have f:∀b off len j,a.eval x= .slice (some ⟨b,off,none⟩) len j->0<=n->n<(len:Int)->∀c,(Bu C.P o=false\/c=w)->(execOp a.eval o).run C.P c= .ok (.value (.pointer (some ⟨b,off+n.toNat*C.P.cellsOf E,none⟩))) c:=by
     intro b off len j l m p c _;unfold execOp;simp only[D,l,e,Sem.run_bind,run_indexAt_slice v y c b off len j u n m p,Result.andThen_ok,Sem.run_pure]
    split at h
    .rename_i k l;rw[l]at d;have d:a.eval x=ι k:=d;split at h
     .rename_i E' G M H;split at h
      .rename_i r;have r:=Nat.eq_of_beq_eq_true r;obtain⟨m,p,h⟩:=h;obtain⟨z,s⟩:=tK t H;rcases s.2 with⟨A,N⟩|⟨g,j,I,A,_⟩
       .omega
       .refine⟨_,.at (.el k n.toNat G 0),f g 0 _ j (by rw[d,A]) m p,⟨g,_,j,A,?_⟩,h⟩
        grind
      grind
     grind
    .rename_i O len j l;rw[l]at d;obtain⟨b,off,rfl,m,p,h⟩:=h;exact⟨_,.at (.val _),f b off len j d m p,rfl,h⟩
    grind
   grind
  .rename_i len E v;split at h
   .rename_i y
    have f:∀b off,a.eval x= .pointer (some ⟨b,off,none⟩)->0<=n->n<(len:Int)->∀c,(Bu C.P o=false\/c=w)->(execOp a.eval o).run C.P c= .ok (.value (.pointer (some ⟨b,off+n.toNat*C.P.cellsOf E,none⟩))) c:=by
     intro b off l m p c _;unfold execOp;simp only[D,l,e,Sem.run_bind,run_indexAt_array v y c b off u n m p,Result.andThen_ok,Sem.run_pure]
    split at h
    .rename_i k off l;rw[l]at d;obtain⟨b,J,L⟩:=d;obtain⟨m,p,h⟩:=h;exact⟨_,.at (.ptr k (off+n.toNat*C.P.cellsOf E)),f b off L m p,⟨b,J,rfl⟩,h⟩
    .rename_i b off l;rw[l]at d;obtain⟨m,p,h⟩:=h;exact⟨_,.at (.val _),f b off d m p,rfl,h⟩
    grind
   grind
  grind
 grind
theorem aWZ(i:aK B ι σ a w){op:BinOp}{tx r:Nat}{x y:Operand}(j:o.op= .binOp op tx x y r)(h:asZ o op x y σ K):UO C ι o σ K a w:=by
 have b:=i.ev x;have c:=i.ev y;unfold asZ at h;split at h
 .rename_i k n l m d e;rw[d]at b;rw[e]at c;have b:a.eval x= .int k n:=b;have c:a.eval y= .int l m:=c;split at h
  .rename_i f;have f:k=l:=of_decide_eq_true f;subst f;obtain⟨p,h⟩:=h;split at h
   .exact⟨_,.at (.val _),λg _=>by unfold execOp;simp[j,b,c,eqGuard,binOp,Op.intDiv,p],rfl,h⟩
   .exact⟨_,.at (.val _),λg _=>by unfold execOp;simp[j,b,c,eqGuard,binOp,Op.intDiv,p],rfl,h⟩
   grind
  grind
 grind
theorem UA(e:aK B ι σ a w){tx j:Nat}{x y:Operand}(l:o.op= .binOp .add tx x y j)(h:Qk C o x y σ K):UO C ι o σ K a w:=by
 have c:=e.ev x;have d:=e.ev y;unfold Qk at h;split at h
 .rename_i s t f g;rw[f]at c;rw[g]at d;have c:a.eval x= .string s:=c;have d:a.eval y= .string t:=d;obtain⟨n,h⟩:=h
  have i:¬((s.size+t.size:Nat):Int)>IntKind.i64.max:=by
   have:IntKind.i64.max=9223372036854775807:=bg
   omega
  exact⟨_,.at (.val _),λm _=>by unfold execOp;simp only[l,c,d,eqGuard,binOp,Op.stringOp,if_neg i];simp,rfl,h⟩
 .exact lY e (λp b=>bk) h
theorem F4(f:aK B ι σ a w){neg:Bool}{tx l:Nat}{x y:Operand}(g:o.op= .binOp (match neg with|true=>.neq|false=>.eql) tx x y l)(h:Ee C o neg tx x y σ K):UO C ι o σ K a w:=by
 unfold Ee at h;split at h
 .rename_i m n d e;have i:a.eval x= .agg m:=(f.ev x).val? d;have j:a.eval y= .agg n:=(f.ev y).val? e;obtain⟨r,c,h⟩:=h;refine⟨_,.at (.val _),λb _=>?_,rfl,h⟩;cases neg
  .unfold execOp;simp[g,i,j,run_eqGuard_agg _ _ _ _ _ _ _ c.guard,run_eql_struct,c.eq b]
  .unfold execOp;simp[g,i,j,run_eqGuard_agg _ _ _ _ _ _ _ c.guard,run_neq_struct,c.eq b]
 grind
theorem anQ(off:Nat):∀(l:bx)(s:Nat)(cs:Array Value),off+s+l.length<=cs.size->
 ((l.zipIdx s).foldl (λcs x=>cs.setIfInBounds (off+x.2) x.1) cs).toList=splice cs.toList (off+s) l
 |[],s,cs,_=>by simp[splice]
 |v::l,s,cs,h=>by
  simp only[length_cons]at h;simp only[zipIdx_cons,foldl_cons];have:=anQ off l (s+1) (cs.setIfInBounds (off+s) v) bj;rw[this];simp only[Array.toList_setIfInBounds,splice,length_cons];exact list_seg_step cs.toList (off+s) v l bj
theorem RO{place:Nat->Option (Nat×Nat)}{cells:Array Value}{i off size:Nat}{v:Value}{rest:List (Nat×Value)}(c:place i=some (off,size))(e:v.cells.size=size)(d:off+v.cells.size<=cells.size):
 Instr.fill place cells ((i,v)::rest)=Instr.fill place (splice cells.toList off v.cells.toList).toArray rest:=by
 have b:=anQ off v.cells.toList 0 cells aD;simp only[Nat.add_zero]at b;simp only[Instr.fill,c];rw[if_neg bj];congr 1;apply Array.toList_inj.1;rw[<-b];rw[<-Array.foldl_toList];simp
theorem wC{α:Type}(cs new:List α)(off:Nat)(h:off+new.length<=cs.length):(splice cs off new).length=cs.length:=by
 unfold splice;simp;omega
theorem Bp(j:aK B ι σ a w)(place:Nat->Option (Nat×Nat)){P:Program}{T:TypeId}(b:∀i r,partAt P T i=some r->place i=some r):
 ∀(parts:dq)(cs:cw)(cells:Array Value)(out:cw),iQ ι cs cells.toList->DY P T σ parts cs=some out->
  ∃r,Instr.fill place cells (parts.map λp=>(p.1,a.eval p.2))=some r/\iQ ι out r.toList
 |[],cs,cells,out,g,h=>by
  simp[DY]at h;subst h;exact⟨cells,rfl,g⟩
 |(i,x)::parts,cs,cells,out,g,h=>by
  simp only[DY]at h;split at h
  .rename_i off c new t d;split at h
   .rename_i s e;have s:=Nat.eq_of_beq_eq_true s;have e:=Nat.le_of_ble_eq_true e;have f:=Cc j.one (j.ev x) d;have l:(a.eval x).cells.size=c:=by have:=f.length;grind
    have m:=g.length;simp at m;have:=Bp j place b parts (splice cs off new) (splice cells.toList off (a.eval x).cells.toList).toArray out (bt (g.splice off f)) h;obtain⟨r,u,n⟩:=this;refine⟨r,?_,n⟩;simp only[map_cons];rw[RO (b i _ t) l aD];exact u
   .cases h
  .cases h
theorem Ce{P:Program}{T:TypeId}{z:bx}(h:zeroCells P T=some z):∃i v,P.info? T=some i/\i.zero=some v/\z=v.cells.toList:=by
 unfold zeroCells at h
 grind
theorem Nd{P:Program}:∀(b:List Field),(b.all λf=>(P.info? f.type).isSome)=true->
 ∃c,b.mapM (λf=>(P.info? f.type).map λi=>(f.offset,i.size))=some c/\c.length=b.length/\∀(i:Nat)(g:Field),b[i]? =some g->c[i]? =some (g.offset,P.cellsOf g.type)
 |[],_=>⟨[],bf,rfl,λi g h=>by simp at h⟩
 |f::b,h=>by
  simp only[all_cons,Bool.and_eq_true]at h;obtain⟨c,e,d,l⟩:=Nd b h.2;cases m:P.info? f.type with
  |none=>grind
  |some i=>
   refine⟨(f.offset,i.size)::c,?_,by simp[d],?_⟩
   .simp[mapM_cons,m,e]
   .intro j g n;cases j with
    |zero=>simp at n;subst n;simp[Program.cellsOf,m]
    |succ j=>grind
theorem Xi(A:aK B ι σ a w){T:Nat}{ps:Array (Nat×Operand)}(I:o.op= .build T ps)(h:UC C o T ps.toList σ K):UO C ι o σ K a w:=by
 unfold UC at h;split at h
 .rename_i z J;split at h
  .rename_i s e t;obtain⟨N,v,f,D,rfl⟩:=Ce J
   have key:∃r,C.P.built T ((ps.map λp=>(p.1,a.eval p.2)).toList)=some r/\iQ ι s r.toList:=by
    unfold O3 at t;have j:iQ ι (v.cells.toList.map .val) v.cells.toList:=iQ.vals.2 rfl;split at t
    .rename_i L l;obtain⟨F,x,G,H⟩:=Nd L.toList t
     have b:∀i r,partAt C.P T i=some r->F.toArray[i]? =some r:=by
      intro i r c;unfold partAt at c;simp only[l]at c;split at c
      .rename_i g M;rw[jX]at M
       grind
      .cases c
     obtain⟨r,c,d⟩:=Bp A (λi=>F.toArray[i]?) b ps.toList _ v.cells s j e;refine⟨r,?_,d⟩;unfold Program.built;simp only[f,l,D,x];simpa using c
    .rename_i n E l;cases m:C.P.info? E with
     |none=>grind
     |some u=>
      have b:∀i r,partAt C.P T i=some r->(λi=>some (i*u.size,u.size)) i=some r:=by
       intro i r c;unfold partAt at c;simp only[l,Program.cellsOf,m]at c
       grind
      obtain⟨r,c,d⟩:=Bp A (λi=>some (i*u.size,u.size)) b ps.toList _ v.cells s j e;refine⟨r,?_,d⟩;unfold Program.built;simp only[f,l,D,m];simpa using c
    .cases t
   obtain⟨r,c,d⟩:=key;refine⟨.agg r,.agg s,λy _=>?_,⟨r,rfl,d⟩,h⟩;unfold execOp;simp only[I,Sem.run_bind,run_build y T _ r c,Result.andThen_ok,Sem.run_pure]
  grind
 grind
theorem aHQ(m:aK B ι σ a w){x:Operand}{c:Call}(u:o.op= .call c)(v:c.callee= .builtin .len)(J:c.args.toList=[x])
 (h:bbQ C o x c.argTypes.toList σ K):UO C ι o σ K a w:=by
 unfold bbQ at h;split at h
 .rename_i k z;split at h
  .rename_i E L A i d
   have n:∃t E,c.argTypes[0]? =some t/\C.P.underlying t=some (.slice E):=by
    unfold VX at d;split at d
    .rename_i t r l;split at d
     .rename_i E D;exact⟨t,E,by rw[<-Array.getElem?_toList,l];rfl,D⟩
     .cases d
    .cases d
   obtain⟨t,E',l,y⟩:=n;have e:=m.ev x;rw[z]at e;have e:a.eval x=ι k:=e;obtain⟨p,j⟩:=tK m i;have f:c.args= #[x]:=bk
   refine⟨.int .i64 A.length,.at (.val _),λF _=>?_,rfl,h⟩;rcases j.2 with⟨s,G⟩|⟨g,H,I,s,_⟩
   .unfold execOp;simp[u,resolve,v,invoke,builtin,Builtin.len_,f,l,e,s,run_underlying y,goInt,G]
   .unfold execOp;simp[u,resolve,v,invoke,builtin,Builtin.len_,f,l,e,s,run_underlying y,goInt]
  grind
 .exact lY m (λM b=>bk) h
theorem Vn{P:Program}{T:TypeId}{cs:Array Value}{off:Nat}(g:jD P T=true)(b:off+P.cellsOf T<=cs.size)(w:World):
 (part T cs off).run P w= .ok (mkV P T ((cs.toList.drop off).take (P.cellsOf T))) w:=by
 obtain⟨i,d,h,j,l,f⟩:=gP g;unfold part mkV;rw[Sem.run_bind,Rt j];simp only[Result.andThen_ok];rw[l]at b⊢
 cases zY P T with
 |true=>
  simp only[if_true,Sem.run_bind,run_sizeOf h,Result.andThen_ok,Sem.run_pure];congr 2
  grind
 |false=>
  have c:off<cs.size:=by omega
  have e:(cs.toList.drop off)=cs[off]::cs.toList.drop (off+1):=by
   rw[<-getElem_cons_drop aD];simp
  simp only[Bool.false_eq_true,if_false,Array.getElem?_eq_getElem c];rw[e];cases m:i.size with
  |zero=>omega
  |succ n=>simp
theorem V9(p:aK B ι σ a w){T f:Nat}{x:Operand}(A:o.op= .field T x f)(h:Up C o T x f σ K):UO C ι o σ K a w:=by
 unfold Up at h;split at h
 .rename_i g T' v D r c;split at h
  .rename_i i;simp only[Bool.and_eq_true]at i;have y:=Nat.le_of_ble_eq_true i.1;have j:=Cc p.one (p.ev x) r;obtain⟨G,Q0,E,s,rfl,rfl,H⟩:=KS D
   have F:∃d,a.eval x= .agg d:=by
    have b:=p.ev x;split at c
    .rename_i l t;rw[t]at b;obtain⟨d,e,_⟩:=b;grind
    .rename_i d t;rw[t]at b;exact⟨d,b⟩
    .cases c
   obtain⟨d,m⟩:=F;rw[m]at j;have j:iQ ι v d.toList:=j;have z:v.length=d.size:=by have:=j.length;omega
   have n:Q0.offset+C.P.cellsOf Q0.type<=d.size:=by omega
   refine⟨_,_,λu _=>?_,IY ((j.drop Q0.offset).take (C.P.cellsOf Q0.type)),h⟩;unfold execOp;simp only[A,Instr.field,Sem.run_bind,run_underlying E,Result.andThen_ok,s,m,asAgg,Sem.run_pure,Vn i.2 n u]
  grind
 grind
theorem K4:∀{xs:List (Sum At cw)}{vs:bx}(_:QR ι xs vs)(i:Nat)(y:Sum At cw),xs[i]? =some y->∃v,vs[i]? =some v/\Den ι (match y with|.inl x=>.at x|.inr cs=>.agg cs) v
 |[],[],_,i,y,b=>by simp at b
 |.inl x::_,v::_,h,0,y,b=>by simp at b;subst b;exact⟨v,rfl,h.1⟩
 |.inr cs::_,v::_,h,0,y,b=>by simp at b;subst b;exact⟨v,rfl,h.1⟩
 |.inl _::_,_::_,h,i+1,y,b=>by simp at b⊢;exact K4 h.2 i y b
 |.inr _::_,_::_,h,i+1,y,b=>by simp at b⊢;exact K4 h.2 i y b
 |[],_::_,h,_,_,_=>h.elim
 |.inl _::_,[],h,_,_,_=>h.elim
 |.inr _::_,[],h,_,_,_=>h.elim
theorem Ra(m:aK B ι σ a w){x:Operand}{i:Nat}(r:o.op= .extract x i)(h:Mu C o x i σ K):UO C ι o σ K a w:=by
 have g:=m.ev x;unfold Mu at h;split at h
 .rename_i u s;rw[s]at g;obtain⟨t,l,n⟩:=g
  have d:∀v,t.toList[i]? =some v->∀c,(Bu C.P o=false\/c=w)->(execOp a.eval o).run C.P c= .ok (.value v) c:=by
   intro v f c _;unfold execOp;rw[Array.getElem?_toList]at f;simp[r,l,Instr.extract,f]
  split at h
  .rename_i y j;rw[jX]at j;obtain⟨v,f,e⟩:=K4 n i _ j;exact⟨v,.at y,d v f,e,h⟩
  .rename_i p j;rw[jX]at j;obtain⟨v,f,e⟩:=K4 n i _ j;exact⟨v,.agg p,d v f,e,h⟩
  grind
 .exact lY m (λp b=>bk) h
theorem Nl{P:Program}{E:TypeId}{cs:cw}{n:Int}{Q:SV->Prop}:∀(f i:Nat),Uj P E cs n Q f i->(i:Int)<=n->n<((i+f:Nat):Int)->
 Q (mk P E ((cs.drop (n.toNat*P.cellsOf E)).take (P.cellsOf E)))
 |0,i,_,c,d=>by omega
 |f+1,i,h,c,d=>by
  simp only[Uj]at h;rcases uP h with⟨e,b⟩|⟨e,b⟩
  .grind
  .have:n≠(i:Int):=bk
   exact Nl f (i+1) b aD aD
theorem VZ(p:aK B ι σ a w){T:Nat}{x i:Operand}(L:o.op= .index T x i)(h:Uh C o T x i σ K):UO C ι o σ K a w:=by
 have c:=p.ev i;unfold Uh at h;split at h
 .rename_i v n len E y z;rw[y]at c;have c:a.eval i= .int v n:=c;split at h
  .rename_i M A;split at h
   .rename_i g N j;have g:=Nat.eq_of_beq_eq_true g;obtain⟨D,S,h⟩:=h;have r:=Cc p.one (p.ev x) A
    have U:∃m,a.eval x= .agg m:=by
     have f:=p.ev x;split at j
     .rename_i l F;rw[F]at f;obtain⟨m,e,_⟩:=f;grind
     .rename_i m F;rw[F]at f;exact⟨m,f⟩
     .cases j
    obtain⟨m,t⟩:=U;rw[t]at r;have r:iQ ι M m.toList:=r;have G:M.length=m.size:=by have:=r.length;omega
    obtain⟨Y,d,H,V,O,Q⟩:=gP N;have W:=Nl len 0 h aD aD;refine⟨_,_,λu _=>?_,IY ((r.drop (n.toNat*C.P.cellsOf E)).take (C.P.cellsOf E)),W⟩
    have I:n.toNat*C.P.cellsOf E+C.P.cellsOf E<=m.size:=by
     rw[<-G,g, <-Nat.succ_mul];exact Nat.mul_le_mul_right _ aD
    have R:=Vn N I u;unfold execOp;rw[O]at R;simp only[L,Instr.index,c,asIntOf,Sem.run_bind,Sem.run_pure,run_underlying z,Result.andThen_ok,t,D,S,and_self,if_true,run_sizeOf H,R,O]
   grind
  grind
 .rename_i v n y z;rw[y]at c;have c:a.eval i= .int v n:=c;split at h
  .rename_i s X;have f:=p.ev x;rw[X]at f;have f:a.eval x= .string s:=f;obtain⟨D,b,Z,h⟩:=h;refine⟨_,.at (.val _),λu _=>?_,rfl,h⟩
   have J:s[n.toNat]? =some b:=by
    have:s[n.toNat]? =s.data[n.toNat]? :=by
     simp only[getElem?_def];rfl
    grind
   unfold execOp;simp[L,Instr.index,c,asIntOf,run_underlying z,f,D,J]
  grind
 grind
end
end Go.Vc
namespace Go.Vc
open Go List
section
variable{B:sJ}{C:Ctx}{ι:cn}{σ:St}{a:Act}{w:World}{o:Oper}{K:St->Prop}
theorem FH{P:Program}{l:World}{src d E E' sz:Nat}{x:Operand}{v:Value}{c:cu}(t:o.op= .convert src d x)(u:P.underlying src=some (.slice E))(p:P.underlying E=some (.int .u8))(y:P.underlying d=some .string)
 (m:a.eval x=v)(f:l.ownsRow 0 E' sz v (bC c).length (bC c).flatten):(execOp a.eval o).run P l= .ok (.value (.string ⟨c.toArray⟩)) l:=by
 have h:(bC c).length=c.length:=by simp[bC]
 rcases f.2 with⟨r,z⟩|⟨g,s,D,r,_⟩
 .rw[h]at z;have:c=[]:=eq_nil_of_length_eq_zero z;subst this;unfold execOp;simp only[t,m,r,Sem.run_bind,run_convert_bytes_nil l src E u p 0 0 d y,Result.andThen_ok,Sem.run_pure];rfl
 .have n:strOfNums (c.map λb=>(b.toNat:Int))=⟨c.toArray⟩:=by
   unfold strOfNums;congr 1;simp[Function.comp_def]
  have j:∀i,i<c.length->l.cell? ⟨g,0+i,none⟩=some (.int .u8 ((c.map λb=>(b.toNat:Int)).getD i 0)):=by
   intro i F
   have G:(bC c).flatten[i*1+0]? =some (.int .u8 (c[i].toNat:Int)):=
    mY (sz:=1) (e:=[.int .u8 (c[i].toNat:Int)]) (λe p=>by obtain⟨b,_,rfl⟩:=mem_map.1 p;rfl) (by simp[bC,F]) 0 _ rfl
   have:=f.cells (g:=g) (by rw[r];rfl) _ _ G;rw[Addr.add_none]at this
   grind
  have A:=run_convert_bytes_arg (P:=P) l src E u p g 0 c.length s (c.map λb=>(b.toNat:Int)) bf j d y;rw[n]at A;unfold execOp;simp only[t,m,r,h,Sem.run_bind,A,Result.andThen_ok,Sem.run_pure]
theorem Rb(i:aK B ι σ a w){src e:Nat}{x:Operand}(m:o.op= .convert src e x)(h:Mx C o src e x σ K):UO C ι o σ K a w:=by
 unfold Mx at h;split at h
 .rename_i k p;split at h
  .rename_i E' t u E f n r;split at h
   .rename_i s;obtain⟨v,rfl,h⟩:=h;have d:=i.ev x;rw[p]at d;have d:a.eval x=ι k:=d;obtain⟨j,g⟩:=tK i f;refine⟨_,.at (.val _),λl c=>?_,rfl,h⟩;have c:l=w:=c.resolve_left (by simp[Bu,m,n]);rw[c];exact FH m n s r d g
   grind
  grind
 .exact lY i (λy b=>bk) h
structure Jc(σ:St)(ι:cn)(o:Oper)(w w':World):Prop where
 cells:∀k p T cs b,nth σ.own k=some (some (.cellsP p T cs))->Ad σ o k=false->ι k= .pointer (some ⟨b,0,none⟩)->w'.heap[b]? =w.heap[b]?
 imm:∀b off v,σ.h b off=some v->w'.cell? ⟨b,off,none⟩=some v
 ext:AZ o.op=true->∀b,b<w.heap.size->w'.heap[b]? =w.heap[b]?
 args:∀l b,uO o=some l->b<w.heap.size->σ.m b=none->(∀x∈l,∀k,(σ.ev x= .at (.lst k)\/∃off,σ.ev x= .at (.ptr k off))->blk (ι k)≠some b)->w'.heap[b]? =w.heap[b]?
def UY(B:sJ)(C:Ctx)(ι:cn)(o:Oper)(σ:St)(K:St->Prop)(a:Act)(w:World):Prop:=
 ∀(next:Act->World->Prop)(Q:Exit->Act->World->Prop),(∀e c d b,aK B e c d b->K c->Jc σ ι o w b->next d b)->o.wp C.P a w next Q
theorem Fo(f:aK B ι σ a w){w':World}(j:Nat)(y:(∃p T cs,nth σ.own j=some (some (.cellsP p T cs)))->Ad σ o j=true)
 (n:∀b,b<w.heap.size->¬((∃o',nth σ.own j=some (some o'))/\blk (ι j)=some b)->w'.heap[b]? =w.heap[b]?)(s:AZ o.op=true->∀b,b<w.heap.size->w'.heap[b]? =w.heap[b]?)
 (t:∀l,uO o=some l->∀b,b<w.heap.size->w'.heap[b]? =w.heap[b]?):Jc σ ι o w w':=by
 refine⟨?_,?_,s,λl b g h _ _=>t l g b h⟩
 .intro k p T cs b r z u;have i:=f.own k _ r;have e:blk (ι k)=some b:=by rw[u];rfl
  refine n b (rB i e) ?_;rintro⟨⟨o',c⟩,d⟩;have:=f.dist k j _ _ b r c e d
  grind
 .intro b off v x;have g:=f.wrel.hsat b off v x;have m:b<w.heap.size:=World.block_lt_of_cell? w ⟨b,off,none⟩ g
  have h:=n b m (by
   rintro⟨⟨o',c⟩,d⟩;have:=(f.fresh j o' b c d).2.2 off
   grind)
  rw[<-g];exact World.cell?_of_block (w:=w) (w':=w') (a:=⟨b,off,none⟩) h
theorem CG{d:Nat}(b:o.dst=some d):Ad σ o d=true:=by
 unfold Ad;simp[b]
theorem kQ(w:World)(ob:Obj):(w.alloc ob).heap[w.heap.size]? =some ob:=by
 show(w.heap.push ob)[w.heap.size]? =_;simp
theorem fM(w:World)(ob:Obj){b:Nat}(h:b<w.heap.size):(w.alloc ob).heap[b]? =w.heap[b]? :=by
 show(w.heap.push ob)[b]? =_
 grind
theorem XG(S:Nat->Prop)(w:World)(ob:Obj):D6 S w (w.alloc ob):=
 ⟨rfl,rfl,rfl,Nat.le_refl _,by show w.heap.size<=(w.heap.push ob).size;simp,λb c _=>fM w ob c⟩
theorem GU(h:aK B ι σ a w){d:Nat}(i:o.dst=some d){ob:Obj}{g:Own}{v:Value}{x:SV}(s:blk v=some w.heap.size)(f:v.oneCell'=true)
 (m:D8 (upd ι d v) (w.alloc ob) v g)(n:Den (upd ι d v) x v)
 {next:Act->World->Prop}(c:∀p j l w',aK B p j l w'->K j->Jc σ ι o w w'->next l w')
 (r:K (((σ.kill d).setOwn d (some g)).put (some d) x)):next (a.put o.dst v) (w.alloc ob):=by
 rw[i];refine c (upd ι d v) _ _ _ ?_ r ?_
 .refine aK.put ?_ (some d) n;exact h.place d g v (XG _ w ob) m f (λb e=>bk)
 .exact Fo h d (λ_=>CG i) (λb e _=>fM w ob e) (λ_ b e=>fM w ob e) (λ_ _ b e=>fM w ob e)
theorem Xm(g:aK B ι σ a w){T:Nat}(i:o.op= .alloc T)(h:UF C o T σ K):UY B C ι o σ K a w:=by
 intro next Q b
 unfold UF at h;split at h
 .rename_i d z j l;obtain⟨n,v,f,m,rfl⟩:=Ce l
  have c:(execOp a.eval o).run C.P w= .ok (.value (.pointer (some ⟨w.heap.size,0,none⟩))) (w.alloc (.cells v.cells T)):=by
   unfold execOp;simp[i,Instr.alloc,zeroValue,typeInfo,f,m,newVar,newRow]
  unfold Oper.wp;rw[c,Oper.upon_value];refine GU g j rfl rfl ?_ (x:=.at (.ptr d 0)) ⟨w.heap.size,bf,rfl⟩ b h;exact⟨w.heap.size,v.cells,rfl,kQ _ _,iQ.vals.2 rfl,λ_ e=>by cases e⟩
 grind
theorem Tr(g:aK B ι σ a w){T:Nat}{x:Operand}(j:o.op= .box T x)(h:atZ o T x σ K):UY B C ι o σ K a w:=by
 intro next Q b
 unfold atZ at h;split at h
 .rename_i d m l i
  have c:(execOp a.eval o).run C.P w= .ok (.value (.pointer (some ⟨w.heap.size,0,none⟩))) (w.alloc (.cells (a.eval x).cells T)):=by
   unfold execOp;simp[j,Instr.box,newVar,newRow]
  unfold Oper.wp;rw[c,Oper.upon_value];refine GU g l rfl rfl ?_ (x:=.at (.ptr d 0)) ⟨w.heap.size,bf,rfl⟩ b h;exact⟨w.heap.size,_,rfl,kQ _ _,iQ.sub (f:=λ_=>.junk) (λ_ _ _ _=>trivial) (Cc g.one (g.ev x) i),λ_ e=>by cases e⟩
 grind
end
end Go.Vc
namespace Go.Vc
open Go List
section
variable{B:sJ}{C:Ctx}{ι:cn}{σ:St}{a:Act}{w:World}{o:Oper}{K:St->Prop}
theorem bRX(A:aK B ι σ a w){k E sz:Nat}{xs:List bx}(N:nth σ.own k=some (some (.lst E sz xs))):
 ∃(s:Sl)(f:PH),PH.le σ.h f/\cD f s sz xs/\ι k=s.val/\
  aK B ι {(σ.sub k (λ |.lst _=>.val s.val|_=>.junk)).setOwn k none with h:=f} a w/\
  Fz σ {(σ.sub k (λ |.lst _=>.val s.val|_=>.junk)).setOwn k none with h:=f}:=by
 obtain⟨r,l⟩:=tK A N;have G:∀p T U,nth σ.own k≠some (some (.cellsP p T U)):=λp T U e=>bk
 have n:∀(s:Sl),ι k=s.val->aK B ι ((σ.sub k (λ |.lst _=>.val s.val|_=>.junk)).setOwn k none) a w:=by
  intro s M
  have:=A.drop k (ι k) (A.one k) (λ |.lst _=>.val s.val|_=>.junk) (by
   intro x v H O;cases x<;>simp only[At.key,Option.some.injEq,reduceCtorEq]at H
   case ptr=>trivial
   case el=>trivial
   case lst j=>
    subst H;have O:v=ι j:=O;show v=s.val;rw[O,M])
  rwa [Jh]at this
 rcases l.2 with⟨t,W⟩|⟨g,u,X,t,_,hg,I,Y,Z,P⟩
 .have H:xs=[]:=eq_nil_of_length_eq_zero W;refine⟨⟨none,0,0⟩,σ.h,⟨λ_ _ _ h=>h⟩,⟨by simp[H],.inl H,Nat.le_refl _⟩,t,n _ t,?_⟩;exact bcZ (m:=σ.m) (h:=σ.h) rfl (λx j o=>bk) (λx j=>bk) G (λ_ _ _ h=>h)
 .have Q:=A.fresh k _ g N (by rw[t];rfl)
  let f:PH:=λb o=>if b=g then xs.flatten[o]? else σ.h b o
  have y:∀b o v,σ.h b o=some v->f b o=some v:=by
   grind
  have M:ι k=Sl.val ⟨some ⟨g,0,none⟩,xs.length,u⟩:=t;refine⟨⟨some ⟨g,0,none⟩,xs.length,u⟩,f,⟨y⟩,⟨rfl,.inr ⟨g,0,rfl,?_⟩,I⟩,M,?_,?_⟩
  .intro i e hi;constructor;intro j v D;show(if g=g then _ else _)=_;rw[if_pos rfl,Nat.zero_add];exact mY r.len hi j v D
  .have c:=n _ M
   have z:∀j J,nth ((σ.sub k (λ |.lst _=>.val (Sl.val ⟨some ⟨g,0,none⟩,xs.length,u⟩)|_=>.junk)).setOwn k none).own j=some (some J)->blk (ι j)≠some g:=by
    intro j J D L;obtain⟨R,o1,S,_⟩:=rI D;exact R (A.dist j k _ _ g S N L (by rw[t];rfl))
   refine⟨c.slots,c.defers,c.own,c.dist,?_,?_,c.one⟩
   .intro j J b D L;obtain⟨h1,h2,h3⟩:=c.fresh j J b D L;refine⟨h1,h2,λi=>?_⟩;show(if b=g then _ else _)=_;rw[if_neg (λe:b=g=>z j J D bk)];exact h3 i
   .have d:=A.wrel;refine⟨d.tape,d.os,d.output,d.drawn,d.size,d.frame,?_,d.msat,?_,λb o v h=>y b o v (d.hle b o v h),?_,d.mfr⟩
    .intro b off v F;have F:(if b=g then xs.flatten[off]? else σ.h b off)=some v:=F;by_cases e:b=g
     .subst e;rw[if_pos rfl]at F;have:=l.cells (g:=b) (by rw[t];rfl) off v F
      rwa [Addr.add_none,Nat.zero_add]at this
     .rw[if_neg e]at F;exact d.hsat b off v F
    .intro b ob V i;show(if b=g then _ else _)=_;rw[if_neg (λe=>by subst e;have:=Q.2.1;simp only[St.setOwn,St.sub]at V;grind)];exact d.disj b ob V i
    .intro b L hE;funext i;show(if b=g then _ else _)=_;rw[if_neg (λe=>bk)];exact congrFun (d.hold b L hE) i
  .exact bcZ (m:=σ.m) (h:=f) rfl (λx j o=>bk) (λx j=>bk) G y
theorem pH:∀(ks:cv)(σ:St),aK B ι σ a w->wJ σ K ks->∃b,aK B ι b a w/\K b/\Fz σ b
 |[],σ,e,h=>⟨σ,e,h,Fz.refl σ⟩
 |k::ks,σ,e,h=>by
  simp only[wJ]at h;split at h
  .rename_i E p r l;obtain⟨s,m,f,c,_,g,i⟩:=bRX e l;obtain⟨b,j,n,d⟩:=pH ks _ g (h s m f c);exact⟨b,j,n,i.trans d⟩
  grind
theorem GB{P:Program}{T E:Nat}{z:bx}(h:elemOf P T=some (E,z)):
 ∃i v,P.underlying T=some (.slice E)/\P.info? E=some i/\i.zero=some v/\z=v.cells.toList/\v.cells.size=i.size/\P.cellsOf E=i.size/\0<i.size/\∀u∈z,u.oneCell'=true:=by
 unfold elemOf at h;split at h
 .rename_i E' e;split at h
  .rename_i f c;split at h
   .rename_i b g j;simp only[Option.some.injEq,Prod.mk.injEq]at h;obtain⟨rfl,rfl⟩:=h;obtain⟨i,v,d,l,rfl⟩:=Ce c;have m:P.cellsOf E'=i.size:=by simp[Program.cellsOf,d]
    have b:=Nat.eq_of_beq_eq_true b
    grind
   .cases h
  .cases h
 .cases h
theorem cX{sz:Nat}:∀{xs:List bx},(∀e∈xs,e.length=sz)->xs.flatten.length=xs.length*sz
 |[],_=>bf
 |x::xs,h=>by
  rw[flatten_cons,length_append,cX (λe b=>h e (by simp[b])),h x bf,length_cons,Nat.succ_mul];omega
theorem FJ(v:aK B ι σ a w){sz:Nat}(z:0<sz):∀(parts:dq)(es:List bx)(out:List bx),jI sz es->DX σ sz parts es=some out->
 jI sz out/\out.length=es.length/\Instr.fill (λi=>some (i*sz,sz)) es.flatten.toArray (parts.map λp=>(p.1,a.eval p.2))=some out.flatten.toArray
 |[],es,out,j,h=>by simp[DX]at h;subst h;exact⟨j,rfl,rfl⟩
 |(i,x)::parts,es,out,j,h=>by
  simp only[DX]at h;split at h
  .rename_i m A;split at h
   .rename_i l D;split at h
    .rename_i b f E;have b:=Nat.eq_of_beq_eq_true b;have f:=Nat.le_of_ble_eq_true f;have t:=Cc v.one (v.ev x) A;rw[DO D,iQ.vals]at t
     have G:∀u∈l,u.oneCell'=true:=by
      intro u N;have H:=DO D;clear t D
      have:∀(m:cw),uQ m=true->∀x∈m,x.storable=true:=by
       intro m
       induction m with
       |nil=>grind
       |cons y r I=>
        intro J x O;simp only[uQ]at J
        grind
      have d:=this m E (.val u) bk;cases u<;>first|rfl|(simp[At.storable]at d)
     have F:jI sz (es.set i l):=by
      constructor
      .intro e n;rcases mem_or_eq_of_mem_set n with d|d
       .exact j.len e d
       grind
      .intro e n;rcases mem_or_eq_of_mem_set n with d|d
       .exact j.one e d
       grind
     obtain⟨d,P,L⟩:=FJ v z parts (es.set i l) out F h;refine⟨d,bk,?_⟩;simp only[map_cons]
     have g:∀(es:List bx)(i:Nat),(∀e∈es,e.length=sz)->i<es.length->splice es.flatten (i*sz) l=(es.set i l).flatten:=by
      intro es
      induction es with
      |nil=>grind
      |cons e r I=>
       intro i c Q;have n:e.length=sz:=c e bf;cases i with
       |zero=>
        simp only[splice,Nat.zero_mul,take_zero,nil_append,Nat.zero_add,flatten_cons,set_cons_zero,b]
        grind
       |succ i=>
        have:=I i (λe n=>c e (by simp[n])) bk;simp only[flatten_cons,set_cons_succ, <-this,splice];have M:(i+1)*sz=e.length+i*sz:=bk
        rw[M,take_length_add_append,show e.length+i*sz+l.length=e.length+(i*sz+l.length)by omega,drop_length_add_append];simp
     have s:=cX j.len;rw[RO rfl bk (by rw[<-Array.length_toList,t];simp only[size_toArray,s,b];rw[<-Nat.succ_mul];exact Nat.mul_le_mul_right _ f),t];rw[g es i j.len aD];exact L
    .cases h
   .cases h
  .cases h
end
end Go.Vc
namespace Go.Vc
open Go List
section
variable{B:sJ}{C:Ctx}{ι:cn}{σ:St}{a:Act}{w:World}{o:Oper}{K:St->Prop}
theorem KD{z:Array Value}{sz:Nat}(b:z.size=sz)(f:0<sz)(n:Nat):(madeCells z (n*sz)).toList=(replicate n z.toList).flatten:=by
 apply ext_getElem?;intro j;by_cases g:j<n*sz
 .have h:j/sz<n:=Nat.div_lt_of_lt_mul bk;have c:j%sz<sz:=Nat.mod_lt _ f;have d:=mY (xs:=replicate n z.toList) (sz:=sz) (i:=j/sz) (e:=z.toList) (λe l=>bk) (by simp[h]) (j%sz) z[j%sz] (by simp[b,c]);rw[show j/sz*sz+j%sz=j by rw[Nat.mul_comm];exact Nat.div_add_mod j sz]at d;rw[d];simp[madeCells,g,b,c]
 .rw[getElem?_eq_none,getElem?_eq_none]
  .rw[cX (sz:=sz) (λe l=>bk)];simp;omega
  .simp[madeCells];omega
theorem qN{z:bx}{sz:Nat}(c:z.length=sz)(d:∀u∈z,u.oneCell'=true)(n:Nat):jI sz (replicate n z):=
 ⟨λe b=>bk,λe b=>bk⟩
theorem OE{τ:St}(d:Fz σ τ){k:Nat}(h:Ad σ o k=false):Ad τ o k=false:=by
 have i:∀(l:dc)(j:Nat),j∈qA τ l->j∈qA σ l:=by
  intro l
  induction l with
  |nil=>intro j b;cases b
  |cons x r m=>
   intro j b
   have e:∀(υ:St)(j:Nat),j∈qA υ (x::r)↔(∃off,υ.ev x= .at (.ptr j off))\/j∈qA υ r:=by
    intro υ j;simp only[qA]
    grind
   rw[e]at b⊢
   rcases b with⟨off,b⟩|b
   .exact .inl ⟨off,d.ptr _ _ _ b⟩
   grind
 unfold Ad at h⊢
 rw[Bool.or_eq_false_iff]at h⊢
 refine⟨h.1,?_⟩;have c:=h.2;split at c
 .rename_i t x v f;split
  .rename_i j off g;rw[d.ptr _ _ _ g]at c;exact c
  .rfl
 .grind
 .rfl
theorem Jc.of_fz{τ:St}{w':World}(c:Fz σ τ)(h:Jc τ ι o w w'):Jc σ ι o w w':=
 ⟨λk p T f b d g i=>let⟨cs',hk'⟩:=c.cells k p T f d;h.cells k p T cs' b hk' (OE c g) i,λb off v j=>h.imm b off v (c.imm b off v j),h.ext,λl b m n r s=>h.args l b m n (by rw[c.m_];exact r) (λx t k d=>s x t k (d.imp (c.lst x k) (λ⟨off,e⟩=>⟨off,c.ptr x k off e⟩)))⟩
theorem aEZ(ps:Array (Nat×Operand))(a:Act):(ps.map fun(i,x)=>(i,a.eval x)).toList=ps.toList.map λp=>(p.1,a.eval p.2):=bf
theorem ME(H:aK B ι σ a w){T n:Nat}{ps:Array (Nat×Operand)}(I:o.op= .buildSlice T n ps)(h:FB C o T n ps.toList σ K):UY B C ι o σ K a w:=by
 intro next Q f
 unfold FB at h;obtain⟨τ,l,h,u⟩:=pH _ _ H h;split at h
 .rename_i d E z J L;split at h
  .rename_i j m g;obtain⟨s,v,D,F,M,rfl,y,N,e,p⟩:=GB L;rw[N]at m g h;have g:=Nat.le_of_ble_eq_true g;obtain⟨t,c,b⟩:=FJ l e ps.toList _ j (qN aD p n) m;simp only[length_replicate]at c
   have r:(execOp a.eval o).run C.P w= .ok (.value (.slice (some ⟨w.heap.size,0,none⟩) n n)) (w.alloc (.cells j.flatten.toArray E)):=by
    have O:(Instr.buildSlice T n (ps.map fun(i,x)=>(i,a.eval x))).run C.P w= .ok (.slice (some ⟨w.heap.size,0,none⟩) n n) (w.alloc (.cells j.flatten.toArray E)):=by
     by_cases G:n*s.size=0
     .have R:n=0:=by rcases Nat.mul_eq_zero.1 G with h|h<;>omega
      subst R;have:j=[]:=eq_nil_of_length_eq_zero c;subst this;simp only[replicate_zero,flatten_nil]at b;have A:Array.map (λ_:Nat=>(default:Value)) (Array.range 0)= #[]:=bk
      simp[Instr.buildSlice,run_underlying D,run_sizeOf F,newRow];rw[A,b];simp
     .refine run_buildSlice w T E n _ j.flatten.toArray s v D F M aD G ?_
      have:((Array.range (n*s.size)).map (v.cells[· %v.cells.size]!))=(replicate n v.cells.toList).flatten.toArray:=by
       apply Array.toList_inj.1;have:=KD y e n;unfold madeCells at this;rw[this]
      rw[this,aEZ];exact b
    unfold execOp;simp only[I,Sem.run_bind,O,Result.andThen_ok,Sem.run_pure]
   unfold Oper.wp;rw[r,Oper.upon_value];refine GU l J rfl rfl ?_ (x:=.at (.lst d)) (by show _=_;simp) (λS U V W X Y Z=>f S U V W X Y (Z.of_fz u)) h;refine⟨t,cX t.len,.inr ⟨w.heap.size,n,j.flatten.toArray,by rw[c],Nat.zero_le _,kQ _ _,aD,?_,?_,?_⟩⟩
   .have:n<=n*s.size:=Nat.le_mul_of_pos_right n e;unfold maxLen;omega
   .simp only[size_toArray,cX t.len,c]
   .rw[take_of_length_le];rw[cX t.len];omega
  grind
 grind
theorem NF(t:aK B ι σ a w){T:Nat}{l c:Operand}(L:o.op= .makeSlice T l c)(h:Gj C o T l c σ K):UY B C ι o σ K a w:=by
 intro next Q f
 have p:=t.ev l;have r:=t.ev c;unfold Gj at h;split at h
 .rename_i d E z G n H m M N u y;rw[u]at p;rw[y]at r;have p:a.eval l= .int G n:=p;have r:a.eval c= .int H m:=r;obtain⟨s,v,O,I,R,rfl,A,D,i,b⟩:=GB N;obtain⟨S,U,J,V,h⟩:=h;rw[D]at h;have F:C.P.bytesOf E=s.bytes:=by simp[Program.bytesOf,I]
  rw[F,Int.mul_comm]at J
  have j:(execOp a.eval o).run C.P w= .ok (.value (.slice (some ⟨w.heap.size,0,none⟩) n.toNat m.toNat)) (w.alloc (.cells (madeCells v.cells (m.toNat*s.size)) E)):=by
   unfold execOp;simp only[L,p,r,Sem.run_bind,run_make (P:=C.P) w T E s v O I R G H n m S U J aD,Result.andThen_ok,Sem.run_pure]
  unfold Oper.wp;rw[j,Oper.upon_value];refine GU t M rfl rfl ?_ (x:=.at (.lst d)) (by show _=_;simp) f h;have g:v.cells.toList.length=s.size:=by omega
  refine⟨qN g b _,cX (qN g b _).len,.inr ⟨w.heap.size,m.toNat,_,bk,Nat.zero_le _,kQ _ _,?_,?_,size_madeCells _ _,?_⟩⟩
  .simp;omega
  .unfold maxLen;omega
  .rw[KD A i]
   have e:replicate m.toNat v.cells.toList=replicate n.toNat v.cells.toList++replicate (m.toNat-n.toNat) v.cells.toList:=by
    rw[replicate_append_replicate];grind
   rw[e,flatten_append,take_left'];rw[cX (qN g b _).len]
 grind
theorem yB{P:Program}(w:World)(t tx M e:TypeId)(i:TypeInfo)(z:Value)(N:P.underlying t=some (.slice e))(O:P.info? e=some i)(Y:i.zero=some z)
 (T:z.cells.size=i.size)(v:Value)(n:Nat)(xs:bx)(l:w.ownsRow 0 e i.size v n xs)(x:Value)(m:Nat)(c:bx)(A:Src P i.size tx x m c w)
 (H:n+m<=maxLen)(p:(n+m)*i.bytes<=140737488355328):
 ∃Q w',(Builtin.append_ #[t,tx] M #[v,x]).run P w= .ok Q w'/\w'.ownsRow 0 e i.size Q (n+m) (xs++c)/\D6 (λb=>v.ownBlock=some b) w w'/\
  (∀b,Q.ownBlock=some b->w.heap.size<=b\/v.ownBlock=some b)/\Q.oneCell'=true:=by
 have R:n+m<=9223372036854775807:=by simp only[maxLen]at H;omega
 have Z:=A.newsLen;have r:(xs++c).length=(n+m)*i.size:=by rw[length_append,l.1,Z,Nat.add_mul]
 have grown:∀(f:Nat),f<n+m->∀(S:Nat->Prop),
  (w.drew.alloc (.cells ((xs++c).toArray++Builtin.zeroCells z.cells (grownCap w (n+m) f e-(n+m))) e)).ownsRow 0 e i.size
   (.slice (some ⟨w.heap.size,0,none⟩) (n+m) (grownCap w (n+m) f e)) (n+m) (xs++c)/\
  D6 S w (w.drew.alloc (.cells ((xs++c).toArray++Builtin.zeroCells z.cells (grownCap w (n+m) f e-(n+m))) e)):=by
  intro f ho S;have U:=grownCap_ge w (n+m) f e;have E:grownCap w (n+m) f e<=maxLen:=grownCap_le_maxLen w (n+m) f e H;refine⟨⟨r,.inr ⟨w.heap.size,_,_,rfl,Nat.zero_le _,heap_alloc_new w.drew _,U,E,?_,?_⟩⟩,⟨rfl,rfl,rfl,Nat.le_succ _,bf,λk D _=>heap_alloc_old w.drew _ k D⟩⟩
  .simp only[Array.size_append,size_toArray,size_zeroCells,T,r, <-Nat.add_mul]
   grind
  grind
 rcases l.2 with⟨rfl,rfl⟩|⟨g,d,s,rfl,V,hg,a0,E,W,X⟩
 .have hx:xs=[]:=eq_nil_of_length_eq_zero bk;subst hx;by_cases hm:m=0
  .subst hm;have hn:c=[]:=eq_nil_of_length_eq_zero aD;subst hn;refine⟨.slice none 0 0,w,?_,World.ownsRow_nil w 0 e i.size,D6.refl _ _,λb G=>bk,rfl⟩;rcases A.kind with⟨e',D⟩|D<;>simp[Builtin.append_,run_underlying N,run_underlying D,sizeOf,typeInfo,O,A.len,A.cells]
  .have I:=run_append_grow_src (P:=P) w t tx M e i z N O Y none 0 0 [] (by simp[Builtin.firstCells]) x m c A aD aD (growslice_fits aD p);have y:=grown 0 aD (λb=>Value.ownBlock (.slice none 0 0)=some b);exact⟨_,_,I,y.1,y.2,λb G=>by simp[Value.ownBlock]at G;left;omega,rfl⟩
 .by_cases h:n+m<=d
  .have a':n*i.size+c.length<=s.size:=by rw[Z,W, <-Nat.add_mul];exact Nat.mul_le_mul_right _ h
   have J:=run_storeCells_at P g (n*i.size) e c 0 s w hg aD A.one;simp only[Nat.add_zero]at J
   have I:(Builtin.append_ #[t,tx] M #[.slice (some ⟨g,0,none⟩) n d,x]).run P w= .ok (.slice (some ⟨g,0,none⟩) (n+m) d) (w.setRow g (s.toList.take (n*i.size)++c++s.toList.drop (n*i.size+c.length)).toArray):=by
    rcases A.kind with⟨e',D⟩|D<;>simp[Builtin.append_,run_underlying N,run_underlying D,sizeOf,typeInfo,O,A.len,h,A.cells,Addr.add_lit,J]
   refine⟨_,_,I,⟨r,.inr ⟨g,d,_,rfl,V,setRow_heap w g s _ e _ hg,h,E,?_,?_⟩⟩,⟨rfl,rfl,rfl,Nat.le_refl _,bf,λk _ D=>setRow_other w g k _ (λe=>D (by simp[Value.ownBlock,e]))⟩,λb G=>.inr G,rfl⟩
   .grind
   grind
  .have F:∀j u,xs[j]? =some u->w.cell? ((⟨g,0,none⟩:Addr).add j)=some u:=l.cells (g:=g) rfl
   have L:(Builtin.firstCells i.size n (.slice (some ⟨g,0,none⟩) n d)).run P w.drew= .ok xs.toArray w.drew:=
    run_firstCells_some w.drew i.size n ⟨g,0,none⟩ n d xs l.1 (bt F)
   have I:=run_append_grow_src (P:=P) w t tx M e i z N O Y (some ⟨g,0,none⟩) n d xs L x m c A aD aD (growslice_fits aD p);have y:=grown d aD (λb=>Value.ownBlock (.slice (some ⟨g,0,none⟩) n d)=some b);exact⟨_,_,I,y.1,y.2,λb G=>by simp[Value.ownBlock]at G;left;omega,rfl⟩
end
end Go.Vc
namespace Go.Vc
open Go Go.Lib List
theorem TM{z:Array Value}{sz:Nat}(b:z.size=sz)(f:0<sz)(n:Nat):(Builtin.zeroCells z n).toList=(replicate n z.toList).flatten:=by
 apply ext_getElem?;intro j;by_cases g:j<n*sz
 .have h:j/sz<n:=Nat.div_lt_of_lt_mul bk;have c:j%sz<sz:=Nat.mod_lt _ f;have d:=mY (xs:=replicate n z.toList) (sz:=sz) (i:=j/sz) (e:=z.toList) (λe l=>bk) (by simp[h]) (j%sz) z[j%sz] (by simp[b,c]);rw[show j/sz*sz+j%sz=j by rw[Nat.mul_comm];exact Nat.div_add_mod j sz]at d;rw[d];simp[Builtin.zeroCells,g,b,c]
 .rw[getElem?_eq_none,getElem?_eq_none]
  .rw[cX (sz:=sz) (λe l=>bk)];simp;omega
  .simp[Builtin.zeroCells,b];omega
theorem Lz{P:Program}(w:World)(t g l e:TypeId)(i:TypeInfo)(z:Value)(m n:IntKind)(v:P.underlying t=some (.slice e))(h:P.underlying g=some (.int n))(y:P.info? e=some i)(A:i.zero=some z)
 (c:z.cells.size=i.size)(p:0<i.size)(k:Nat)(r:0<k)(d:k*i.bytes<=140737488355328)(D:k<=140737488355328):
 ∃f w',(Builtin.append_ #[t,g] l #[.slice none 0 0,.int m k]).run P w= .ok f w'/\w'.ownsRow 0 e i.size f k (replicate k z.cells.toList).flatten/\D6 (λ_=>False) w w'/\
  (∀b,f.ownBlock=some b->w.heap.size<=b)/\f.oneCell'=true:=by
 have s:=run_append_grow_zeros w t g l e i z m n v h y A none 0 0 [] (run_firstCells_none w.drew i.size 0 0 0) k r p aD aD aD (by rw[Nat.zero_add,nextslicecap_zero r];omega);rw[Nat.zero_add]at s;have E:=grownCap_ge w k 0 e;have j:=grownCap_le_maxLen w k 0 e (by unfold maxLen;omega);refine⟨_,_,s,?_,?_,?_,rfl⟩
 .refine⟨cX (sz:=i.size) (λx u=>bk) |>.trans bf,.inr ⟨w.heap.size,_,_,rfl,Nat.zero_le _,kQ _ _,aD,j,?_,?_⟩⟩
  .simp[Builtin.zeroCells,c];rw[<-Nat.add_mul]
   grind
  .simp only[Array.toList_append,TM c p];rw[take_append_of_le_length]
   .simp only[nil_append];rw[take_of_length_le];rw[cX (sz:=i.size) (λx u=>bk)];simp
   .simp only[nil_append];rw[cX (sz:=i.size) (λx u=>bk)];simp
 .exact⟨rfl,rfl,rfl,Nat.le_succ _,by show w.heap.size<=(w.heap.push _).size;simp,λb d _=>fM w.drew _ d⟩
 .intro b d;simp[Value.ownBlock]at d;omega
end Go.Vc
namespace Go.Vc
open Go List
section
variable{B:sJ}{C:Ctx}{ι:cn}{σ:St}{a:Act}{w:World}{o:Oper}{K:St->Prop}
theorem Gy{sz:Nat}:∀{xs:List bx}(_:∀e∈xs,e.length=sz) {j:Nat} {v:Value},xs.flatten[j]? =some v->∃(i:Nat)(e:bx)(q:Nat),xs[i]? =some e/\e[q]? =some v/\j=i*sz+q
 |[],_,j,v,h=>by simp at h
 |x::xs,b,j,v,h=>by
  have g:=b x bf;rw[flatten_cons]at h;by_cases c:j<x.length
  .rw[getElem?_append_left c]at h;exact⟨0,x,j,rfl,h,bf⟩
  .rw[getElem?_append_right aD]at h;obtain⟨i,e,q,l,d,m⟩:=Gy (λe f=>b e (by simp[f])) h;exact⟨i+1,e,q,bk,d,bk⟩
theorem bNQ{P:Program}{tx j E sz:Nat}{v:Value}{b:List bx}(f:P.underlying tx=some (.slice j))(h:jI sz b)(i:w.ownsRow 0 E sz v b.length b.flatten):
 Src P sz tx v b.length b.flatten w:=by
 have l:∀u∈b.flatten,u.oneCell'=true:=λu m=>by
  obtain⟨e,n,c⟩:=mem_flatten.1 m;exact h.one e n u c
 rcases i.2 with⟨rfl,p⟩|⟨g,d,r,rfl,_⟩
 .have:b=[]:=eq_nil_of_length_eq_zero p;subst this;exact Src.ofNil w f 0
 .exact Src.ofSlice w f ⟨g,0,none⟩ _ d _ (cX h.len) (i.cells (g:=g) rfl) l
theorem TX{P:Program}{tx y sz:Nat}{h:PH}(z:P.underlying tx=some (.slice y)){m:Option Addr}{n c:Nat}{l:List bx}(s:jI sz l)(d:cD h ⟨m,n,c⟩ sz l)
 (p:∀b o v,h b o=some v->w.cell? ⟨b,o,none⟩=some v):Src P sz tx (.slice m n c) l.length l.flatten w:=by
 have A:∀u∈l.flatten,u.oneCell'=true:=λu t=>by
  obtain⟨e,D,x⟩:=mem_flatten.1 t;exact s.one e D u x
 have r:n=l.length:=d.len;subst r;rcases d.row with rfl|⟨b,off,f,g⟩
 .refine⟨.inl ⟨y,z⟩,λ_=>rfl,?_,?_,bf,λu t=>by simp at t⟩
  .cases m<;>simp[Builtin.firstCells,loadCells,loadCellsFrom]
  .cases m<;>simp[Builtin.firstCells,loadCells,loadCellsFrom]
 .have f:m=some ⟨b,off,none⟩:=f;subst f;refine Src.ofSlice w z ⟨b,off,none⟩ _ c _ (cX s.len) ?_ A;intro j u E;obtain⟨i,e,q,F,G,rfl⟩:=Gy s.len E;rw[Addr.add_none];have:=p _ _ _ ((g i e F).rd q u G)
  grind
theorem I0(s:ByteArray):(fR s).flatten=byteCells s:=by
 unfold fR byteCells
 induction s.data.toList with
 |nil=>rfl
 |cons b r c=>simp[c]
theorem TW(p:aK B ι σ a w){sz tx:Nat}{y:Operand}{R:List bx->Prop}{lent:Bool}(h:MY C.P lent σ sz tx (σ.ev y) R):
 ∃i,jI sz i/\Src C.P sz tx (a.eval y) i.length i.flatten w/\R i:=by
 have d:=p.ev y;unfold MY at h;split at h
 .rename_i k G r l;rw[r]at d;have d:a.eval y=ι k:=d;split at h
  .rename_i E s i t;split at h
   .rename_i g;have g:=Nat.eq_of_beq_eq_true g;subst g;obtain⟨m,H⟩:=tK p t;exact⟨i,m,by rw[d];exact bNQ l m H,h⟩
   grind
  grind
 .rename_i D n c G r l;rw[r]at d;have d:a.eval y= .slice D n c:=d;obtain⟨i,m,f,h⟩:=h;refine⟨i,m,?_,h⟩;rw[d];cases lent with
  |false=>exact TX l m f p.wrel.hsat
  |true=>
   cases f with
   |imm f=>exact TX l m f p.wrel.hsat
   |lent b o L E M g z I F=>
    have g:D=some ⟨b,o,none⟩:=g;have z:n=i.length:=z;subst g z
    have J:∀u∈i.flatten,u.oneCell'=true:=λu l=>by
     obtain⟨e,v,A⟩:=mem_flatten.1 l;exact m.one e v u A
    refine Src.ofSlice w l ⟨b,o,none⟩ _ c _ (cX m.len) ?_ J;intro j u N;rw[Addr.add_none,cell_of_heap (p.wrel.msat b _ I)]
    grind
 .rename_i s r l;rw[r]at d;have d:a.eval y= .string s:=d;split at h
  .rename_i g;have g:=Nat.eq_of_beq_eq_true g;subst g;refine⟨fR s,⟨λe v=>by obtain⟨b,_,rfl⟩:=mem_map.1 v;rfl,λe v u x=>by obtain⟨b,_,rfl⟩:=mem_map.1 v;simp at x;subst x;rfl⟩,?_,h⟩;rw[d,I0];have F:(fR s).length=s.size:=by simp[fR]
   rw[F];exact Src.ofString w l s
  grind
 grind
theorem D6.mono{S S':Nat->Prop}{w w':World}(h:D6 S w w')(d:∀b,S b->S' b):D6 S' w w':=⟨h.tape,h.os,h.output,h.drawn,h.size,λb e f=>h.block b e (λc=>f (d b c))⟩
theorem El{v:Value}{b:Nat}(h:v.ownBlock=some b):blk v=some b:=by
 cases v<;>simp[Value.ownBlock]at h
 case slice ad n c=>cases ad<;>simp at h;simpa[blk]using h
theorem Dw{sz:Nat}{xs c:List bx}(d:jI sz xs)(f:jI sz c):jI sz (xs++c):=
 ⟨λe b=>(mem_append.1 b).elim (d.len e) (f.len e),λe b=>(mem_append.1 b).elim (d.one e) (f.one e)⟩
theorem Ae{E sz n:Nat}{v:Value}{l:bx}(h:w.ownsRow 0 E sz v n l){b:Nat}(c:blk v=some b):v.ownBlock=some b:=by
 rcases h.2 with⟨rfl,_⟩|⟨g,d,e,rfl,_⟩
 .simp[blk]at c
 .simpa[blk,Value.ownBlock]using c
theorem baX(f:aK B ι σ a w){w':World}{m':MH}{S:Nat->Prop}(n:D6 S w w')(E:∀b,S b->σ.m b≠none)(t:∀b o,m' b=some o->w'.heap[b]? =some o/\(σ.m b≠none\/w.heap.size<=b)):
 aK B ι {σ with m:=m'} a w'/\∀o,AZ o.op=false->Jc σ ι o w w':=by
 have c:=f.wrel
 have A:∀b,w.heap.size<=b->∀i,σ.h b i=none:=by
  intro b d i;cases e:σ.h b i with
  |none=>rfl
  |some v=>have:=World.block_lt_of_cell? w ⟨b,i,none⟩ (c.hsat _ _ _ e);grind
 have F:∀b,S b->∀i,σ.h b i=none:=by
  intro b d i;cases e:σ.m b with
  |none=>grind
  |some x=>exact c.disj b x e i
 have u:∀k r b,nth σ.own k=some (some r)->blk (ι k)=some b->¬S b:=by
  intro k r b g d y;exact E b y (f.fresh k r b g d).2.1
 have j:∀b i v,σ.h b i=some v->w'.cell? ⟨b,i,none⟩=some v:=by
  intro b i v G;have z:=c.hsat b i v G;rw[<-z];exact World.cell?_of_block (w:=w) (w':=w') (a:=⟨b,i,none⟩) (n.block b (World.block_lt_of_cell? w ⟨b,i,none⟩ z) (λy=>bk))
 refine⟨⟨f.slots,f.defers,λk r g=>(f.own k r g).world (λb d=>n.block b (rB (f.own k r g) d) (u k r b g d)),f.dist,?_,?_,f.one⟩,λo M=>⟨?_,j,λh=>bk,λl b _ s z _=>n.block b s (λy=>E b y z)⟩⟩
 .intro k r b g d;obtain⟨H,N,I⟩:=f.fresh k r b g d;refine⟨H,?_,I⟩;show m' b=none;cases e:m' b with
  |none=>rfl
  |some x=>
   rcases(t b x e).2 with s|s
   .grind
   .have:=rB (f.own k r g) d;omega
 .refine⟨n.tape.trans c.tape,n.os.trans c.os,n.output.trans c.output,Nat.le_trans c.drawn n.drawn,Nat.le_trans c.size n.size,?_,j,λb o e=>(t b o e).1,?_,c.hle,c.hold,?_⟩
  .intro b d J;rw[n.block b (Nat.lt_of_lt_of_le d c.size) (λy=>?_)]
   .exact c.frame b d J
   .cases e:σ.m b with
    |none=>grind
    |some x=>
     rcases c.mfr b x e with s|s
     .omega
     grind
  .intro b o e i;rcases(t b o e).2 with s|s
   .cases D:σ.m b with
    |none=>grind
    |some x=>exact c.disj b x D i
   grind
  .intro b o e;rcases(t b o e).2 with s|s
   .cases D:σ.m b with
    |none=>grind
    |some x=>exact c.mfr b x D
   .exact .inl (Nat.le_trans c.size s)
 .intro k p T O b g _ L;have d:blk (ι k)=some b:=by rw[L];rfl
  exact n.block b (rB (f.own k _ g) d) (u k _ b g d)
theorem UD(L:aK B ι σ a w){T tx:Nat}{x y:Operand}{c:Call}(ho:o.op= .call c)(hc:c.callee= .builtin .append)(hx:c.args.toList=[x,y])(ht:c.argTypes.toList=[T,tx])
 (h:Qr C o T tx x y σ K):UY B C ι o σ K a w:=by
 intro next Q O
 have a8:c.args= #[x,y]:=bk
 have b3:c.argTypes= #[T,tx]:=bk
 unfold Qr at h;split at h
 .rename_i d E z hd hE;obtain⟨Y,zv,hu,hi,hv,rfl,a1,a2,d0,b4⟩:=GB hE;have a3:C.P.bytesOf E=Y.bytes:=by simp[Program.bytesOf,hi]
  have V:∀I R,(Builtin.append_ #[T,tx] o.type #[a.eval x,a.eval y]).run C.P w= .ok I R->(execOp a.eval o).run C.P w= .ok (.value I) R:=by
   intro I R hr;unfold execOp;simp only[ho,resolve,hc,a8,b3,invoke,builtin,Sem.run_bind,Sem.run_pure,Result.andThen_ok,map_toArray,map_cons,map_nil];rw[hr];rfl
  have c':∀(S:Option Addr)(n cp:Nat),σ.ev x= .at (.val (.slice S n cp))->(∃s:List bx,dC σ.m ⟨S,n,cp⟩ E (C.P.cellsOf E) s/\
   MY C.P (RG C) σ (C.P.cellsOf E) tx (σ.ev y) λM=>
    (s.length+M.length)*C.P.bytesOf E<=140737488355328/\s.length+M.length<=140737488355328/\
    ∀(s':Sl)(m':MH),eD σ.m m' ⟨S,n,cp⟩ s' E (C.P.cellsOf E) (s++M)->K ({σ with m:=m'}.put (some d) (.at (.val s'.val))))->o.wp C.P a w next Q:=by
   intro S n cp Z h;have D:=L.ev x;rw[Z]at D;have D:a.eval x= .slice S n cp:=D;obtain⟨s,t,h⟩:=h;obtain⟨M,hr,v,N,a6,h⟩:=TW L h;rw[a2]at hr v h;rw[a3]at N;have a':=t.rows;rw[a2]at a'
   have a9:w.ownsRow 0 E Y.size (.slice S n cp) s.length s.flatten:=by
    refine⟨cX a'.len,?_⟩;rcases t.ex with⟨J,e2⟩|⟨b,a4,a0,J,hm,F,h2,h3,h4⟩
    .grind
    .simp only[Sl.mk.injEq]at J;obtain⟨rfl,rfl,rfl⟩:=J;exact .inr ⟨b,_,a0,rfl,Nat.zero_le _,L.wrel.msat b _ hm,F,h2,bk,bk⟩
   have b0:∀b,Value.ownBlock (.slice S n cp)=some b->σ.m b≠none:=by
    intro b r;rcases t.ex with⟨J,e2⟩|⟨b',a4,a0,J,hm,_⟩
    .simp only[Sl.mk.injEq]at J;obtain⟨rfl,rfl,rfl⟩:=J;simp[Value.ownBlock]at r
    .simp only[Sl.mk.injEq]at J;obtain⟨rfl,rfl,rfl⟩:=J;simp[Value.ownBlock]at r
     grind
   obtain⟨I,R,a5,H,f,G,A⟩:=yB (P:=C.P) w T tx o.type E Y zv hu hi hv a1 (.slice S n cp) s.length s.flatten a9 (a.eval y) M.length M.flatten v (by unfold maxLen;omega) N;rw[<-flatten_append, <-length_append]at H
   obtain⟨U,n',W,rfl⟩:∃U n' W,I= .slice U n' W:=by
    rcases H.2 with⟨e,_⟩|⟨g,a4,a0,e,_⟩
    .grind
    grind
   let m':MH:=λb=>if Value.ownBlock (.slice U n' W)=some b then R.heap[b]? else if Value.ownBlock (.slice S n cp)=some b then none else σ.m b
   have b5:∀b,Value.ownBlock (.slice U n' W)=some b->m' b=R.heap[b]? :=λb r=>bk
   obtain⟨c0,hk⟩:=baX (m':=m') L f b0 (by
    intro b ob r;by_cases J:Value.ownBlock (.slice U n' W)=some b
    .grind
    .by_cases e2:Value.ownBlock (.slice S n cp)=some b
     .grind
     .simp only[m',if_neg J,if_neg e2]at r;refine⟨?_,.inl (by rw[r];simp)⟩;have F:=L.wrel.msat b ob r;rw[f.block b (Array.getElem?_eq_some_iff.1 F).1 e2];exact F)
   unfold Oper.wp;rw[V _ R (by rw[D];exact a5),Oper.upon_value,hd];refine O ι _ _ _ (c0.put (some d) (x:=.at (.val (.slice U n' W))) rfl) (h ⟨U,n',W⟩ m' ⟨⟨?_,?_⟩,?_,?_⟩) (hk o (by rw[ho];rfl))
   .exact Dw a' hr
   .rcases H.2 with⟨J,e2⟩|⟨b,a4,a0,J,_,hh,F,h2,h3,h4⟩
    .grind
    .simp only[Value.slice.injEq]at J;obtain⟨rfl,rfl,rfl⟩:=J;exact .inr ⟨b,_,a0,rfl,by rw[b5 b rfl];exact hh,F,h2,h3,h4⟩
   .intro b ob r c1
    have e2:Value.ownBlock (.slice S n cp)≠some b:=by
     intro e;rcases t.ex with⟨J,_⟩|⟨b',a4,a0,J,hm,_⟩
     .simp only[Sl.mk.injEq]at J;obtain⟨rfl,rfl,rfl⟩:=J;simp[Value.ownBlock]at e
     .simp only[Sl.mk.injEq]at J;obtain⟨rfl,rfl,rfl⟩:=J;simp[Value.ownBlock]at e
      grind
    have J:Value.ownBlock (.slice U n' W)≠some b:=by
     intro e;rcases G b e with F|F
     .have:=(Array.getElem?_eq_some_iff.1 (L.wrel.msat b ob r)).1;omega
     grind
    grind
   .intro b i e;have e:U=some ⟨b,i,none⟩:=e;rcases G b (by rw[e];rfl)with F|F
    .left;cases e2:σ.m b with
     |none=>rfl
     |some x=>have:=(Array.getElem?_eq_some_iff.1 (L.wrel.msat b x e2)).1;omega
    .right;rcases t.ex with⟨J,_⟩|⟨b',a4,a0,J,hm,_⟩
     .simp only[Sl.mk.injEq]at J;obtain⟨rfl,rfl,rfl⟩:=J;simp[Value.ownBlock]at F
     .simp only[Sl.mk.injEq]at J;obtain⟨rfl,rfl,rfl⟩:=J;simp[Value.ownBlock]at F
      grind
  split at h
  .rename_i S n cp d1 d2 Z;have D:=L.ev x;rw[Z]at D;have D:a.eval x= .slice S n cp:=D;obtain⟨rfl,s,X,t,h⟩:=h;obtain⟨M,hr,v,c1,N,a6,h⟩:=TW L h;rw[a2]at hr v h X t;rw[a3]at N;have hn:cp=s.length:=t.len;subst hn
   have fin:∃I R,(Builtin.append_ #[T,tx] o.type #[.slice S s.length s.length,a.eval y]).run C.P w= .ok I R/\R.ownsRow 0 E Y.size I (s.length+M.length) (s++M).flatten/\D6 (λ_=>False) w R/\
    (∀b,I.ownBlock=some b->w.heap.size<=b)/\I.oneCell'=true:=by
    cases S with
    |none=>
     have c2:s=[]:=by
      rcases t.row with e|⟨b,off,e,_⟩
      .exact e
      .cases e
     subst c2;obtain⟨I,R,F,h2,h3,h4,h5⟩:=yB (P:=C.P) w T tx o.type E Y zv hu hi hv a1 (.slice none 0 0) 0 [] (World.ownsRow_nil w 0 E Y.size) (a.eval y) M.length M.flatten v (by unfold maxLen;omega) aD;refine⟨I,R,F,bk,h3.mono (λb r=>by simp[Value.ownBlock]at r),λb r=>?_,h5⟩;rcases h4 b r with e|e
     .exact e
     .simp[Value.ownBlock]at e
    |some S=>
     have hy:0<M.length:=by
      grind
     have d3:=TX (P:=C.P) (w:=w) (tx:=T) hu X t L.wrel.hsat;have c3:s.length+M.length<=maxLen:=by unfold maxLen;omega
     have b6:(s.flatten++M.flatten).length=(s.length+M.length)*Y.size:=by rw[length_append,cX X.len,cX hr.len,Nat.add_mul]
     have c4:=grownCap_ge w (s.length+M.length) s.length E;have c5:grownCap w (s.length+M.length) s.length E<=maxLen:=grownCap_le_maxLen w _ _ E c3
     have b7:(Builtin.firstCells Y.size s.length (.slice (some S) s.length s.length)).run C.P w.drew= .ok s.flatten.toArray w.drew:=by
      rcases t.row with rfl|⟨b,off,e,hc⟩
      .simp[Builtin.firstCells,loadCells,loadCellsFrom]
      .have e:some S=some ⟨b,off,none⟩:=e;cases e;refine run_firstCells_some w.drew Y.size s.length ⟨b,off,none⟩ s.length s.length s.flatten (cX X.len) λj u hj=>?_;obtain⟨i,e,q,F,h2,rfl⟩:=Gy X.len hj;rw[Addr.add_none];have:=L.wrel.hsat _ _ _ ((hc i e F).rd q u h2);rw[<-Nat.add_assoc];exact this
     have c6:=run_append_grow_src (P:=C.P) w T tx o.type E Y zv hu hi hv (some S) s.length s.length s.flatten b7 (a.eval y) M.length M.flatten v aD aD (growslice_fits aD N);refine⟨_,_,c6,⟨?_,.inr ⟨w.heap.size,_,_,rfl,Nat.zero_le _,heap_alloc_new w.drew _,c4,c5,?_,?_⟩⟩,⟨rfl,rfl,rfl,Nat.le_succ _,bf,λk hk _=>heap_alloc_old w.drew _ k hk⟩,λb r=>by simp[Value.ownBlock]at r;omega,rfl⟩
     .grind
     .simp only[Array.size_append,size_toArray,size_zeroCells,a1,b6, <-Nat.add_mul]
      grind
     grind
   obtain⟨I,R,a5,p,f,G,A⟩:=fin;rw[<-length_append]at p;unfold Oper.wp;rw[V I R bk,Oper.upon_value,hd];refine O (upd ι d I) _ _ _ ?_ h ?_
   .refine aK.put ?_ (some d) (by show _=_;simp);exact L.place d _ I (f.mono (λb r=>r.elim)) ⟨Dw X hr,p⟩ A (λb r=>.inl (G b (Ae p r)))
   .exact Fo L d (λ_=>CG hd) (λb r _=>f.block b r (λF=>F.elim)) (λhg=>by rw[ho]at hg;simp[AZ]at hg) (λl e=>by simp_all [uO])
  .grind
  rename_i b1 b8;clear b8 b1;split at h
  .rename_i Z;have D:=L.ev x;rw[Z]at D;have D:a.eval x= .slice none 0 0:=D;split at h
   .rename_i n c7
    obtain⟨kn,kq,c8,c9⟩:∃kn kq,C.P.underlying tx=some (.int kn)/\σ.ev y= .at (.val (.int kq n)):=by
     unfold ahQ at c7
     grind
    have hy:=L.ev y;rw[c9]at hy;have hy:a.eval y= .int kq n:=hy;obtain⟨h0,N,a6,h⟩:=h;rw[a2]at h;rw[a3]at N;obtain⟨k,rfl⟩:∃k:Nat,n=k:=⟨n.toNat,aD⟩
    have b9:k*Y.bytes<=140737488355328:=by omega
    obtain⟨I,R,a5,p,f,G,A⟩:=Lz (P:=C.P) w T tx o.type E Y zv kq kn hu c8 hi hv a1 aD k aD b9 aD;unfold Oper.wp;rw[V I R bk,Oper.upon_value,hd];refine O (upd ι d I) _ _ _ ?_ h ?_
    .refine aK.put ?_ (some d) (by show _=_;simp);refine L.place d _ I (f.mono (λb r=>r.elim)) ⟨?_,?_⟩ A (λb r=>.inl (G b (Ae p r)))
     .exact qN aD b4 _
     grind
    .exact Fo L d (λ_=>CG hd) (λb r _=>f.block b r (λF=>F.elim)) (λhg=>by rw[ho]at hg;simp[AZ]at hg) (λl e=>by simp_all [uO])
   .obtain⟨M,hr,v,N,a6,h⟩:=TW L h;rw[a2]at hr v h;rw[a3]at N;obtain⟨I,R,a5,p,f,G,A⟩:=yB (P:=C.P) w T tx o.type E Y zv hu hi hv a1 (.slice none 0 0) 0 [] (World.ownsRow_nil w 0 E Y.size) (a.eval y) M.length M.flatten v (by unfold maxLen;omega) bk;simp only[Nat.zero_add,nil_append]at p;unfold Oper.wp;rw[V I R bk,Oper.upon_value,hd];refine O (upd ι d I) _ _ _ ?_ h ?_
    .refine aK.put ?_ (some d) (by show _=_;simp);refine L.place d _ I (f.mono (λb r=>by simp[Value.ownBlock]at r)) ⟨hr,p⟩ A (λb r=>?_);rcases G b (Ae p r)with F|F
     .exact .inl F
     .simp[Value.ownBlock]at F
    .exact Fo L d (λ_=>CG hd) (λb r _=>f.block b r (λF=>by simp[Value.ownBlock]at F)) (λhg=>by rw[ho]at hg;simp[AZ]at hg) (λl e=>by simp_all [uO])
  .rename_i k Z;have D:=L.ev x;rw[Z]at D;have D:a.eval x=ι k:=D;split at h
   .rename_i E' sz s p d';split at h
    .rename_i b2 a7;have b2:=Nat.eq_of_beq_eq_true b2;have a7:=Nat.eq_of_beq_eq_true a7;subst b2;rw[a2]at a7;subst a7;obtain⟨M,hr,v,N,a6,h⟩:=TW L h;rw[a3]at N;obtain⟨X,a9⟩:=tK L p;obtain⟨I,R,a5,H,f,G,A⟩:=yB (P:=C.P) w T tx o.type E' Y zv hu hi hv a1 (ι k) s.length s.flatten a9 (a.eval y) M.length M.flatten v (by unfold maxLen;omega) N;rw[<-flatten_append, <-length_append]at H;unfold Oper.wp;rw[V I R bk,Oper.upon_value,hd];refine O (upd ι k I) _ _ _ ?_ h ?_
     .refine aK.put ?_ (some d) (by show _=_;simp);refine L.place k _ I (f.mono (λb r=>⟨⟨_,p⟩,El r⟩)) ⟨Dw X hr,H⟩ A (λb r=>?_);rcases G b (Ae H r)with F|F
      .exact .inl F
      .exact .inr ⟨⟨_,p⟩,El F⟩
     .refine Fo L k (λ⟨p',T',d4,e⟩=>bk) (λb r hn=>f.block b r (λF=>hn ⟨⟨_,p⟩,El F⟩)) (λhg=>by rw[ho]at hg;simp[AZ]at hg) (λl e=>by simp_all [uO])
    grind
   grind
  .grind
  grind
 grind
theorem aK.rewrite(d:aK B ι σ a w){k:Nat}{u h:Own}{w':World}(p:nth σ.own k=some (some u))(v:D6 (λb=>blk (ι k)=some b) w w')(z:D8 ι w' (ι k) h):
 aK B ι (σ.setOwn k (some h)) a w':=by
 have c:∀j m,nth (σ.setOwn k (some h)).own j=some (some m)->(j=k/\m=h)\/(j≠k/\nth σ.own j=some (some m)):=by
  intro j m l;simp only[St.setOwn,Af]at l;by_cases e:j=k
  .subst e;by_cases A:j<σ.own.length
   .grind
   .simp[A,jX]at l
  grind
 refine⟨d.slots,d.defers,?_,?_,?_,?_,d.one⟩
 .intro j m l;rcases c j m l with⟨rfl,rfl⟩|⟨n,i⟩
  .exact z
  .have r:=d.own j m i;refine r.world (λb f=>v.block b (rB r f) (λg=>n (d.dist j k _ _ b i p f g)))
 .intro j D t E b l i f g;rcases c j t l with⟨rfl,rfl⟩|⟨n,s⟩<;>rcases c D E i with⟨rfl,rfl⟩|⟨x,y⟩
  .rfl
  .exact d.dist _ _ _ _ b p y f g
  .exact d.dist _ _ _ _ b s p f g
  .exact d.dist _ _ _ _ b s y f g
 .intro j t b l f;rcases c j t l with⟨rfl,rfl⟩|⟨n,s⟩
  .exact d.fresh _ _ b p f
  .exact d.fresh _ _ b s f
 .exact d.wrel.ext v (λb f=>d.fresh k u b p f)
theorem Jm(e:∀k,(ι k).oneCell'=true):∀{cs:cw}{vs:bx},uQ cs=true->iQ ι cs vs->∀v∈vs,v.oneCell'=true
 |[],[],_,_,v,f=>by cases f
 |x::cs,u::vs,g,j,v,f=>by
  simp only[uQ]at g;split at g
  .rename_i l;rcases mem_cons.1 f with rfl|f
   .have d:=j.1;cases x with
    |val m=>
     have:v=m:=d;subst this;cases v<;>first|rfl|(simp[At.storable]at l)
    |ptr k off=>obtain⟨b,_,rfl⟩:=d;rfl
    |lst k=>have:v=ι k:=d;grind
    |el k i p off=>obtain⟨b,n,c,_,rfl⟩:=d;rfl
    |junk=>simp[At.storable]at l
   .exact Jm e g j.2 v f
  .cases g
 |[],_::_,_,h,_,_=>h.elim
 |_::_,[],_,h,_,_=>h.elim
theorem T0{P:Program}{T:TypeId}{w:World}{g off:Nat}{b:Array Value}{E:TypeId}{v:Value}(h:jD P T=true)(e:v.cells.size=P.cellsOf T)(j:w.heap[g]? =some (.cells b E (0,0)))
 (l:off+v.cells.size<=b.size)(m:∀u∈v.cells.toList,u.oneCell'=true):
 (storeVar T ⟨g,off,none⟩ v).run P w= .ok () (w.setRow g (splice b.toList off v.cells.toList).toArray):=by
 obtain⟨i,d,n,r,p,f⟩:=gP h;have c:=run_storeCells_at P g off E v.cells.toList 0 b w j aD m;simp only[Nat.add_zero]at c;unfold storeVar;rw[p]at e;simp only[Sem.run_bind,run_sizeOf n,Result.andThen_ok];rw[if_neg aD];simp only[c,splice]
theorem FX(w:World)(g:Nat)(cs:Array Value):D6 (λb=>b=g) w (w.setRow g cs):=
 ⟨rfl,rfl,rfl,Nat.le_refl _,bf,λb _ c=>setRow_other w g b cs c⟩
theorem FY{cs:cw}{l vs:bx}(c:wA cs=some l)(b:iQ ι cs vs):vs=l:=by
 rw[DO c,iQ.vals]at b;exact b
theorem flatten_set{sz:Nat}{l:bx}:∀{xs:List bx}{i:Nat}{e:bx}{off:Nat},(∀e∈xs,e.length=sz)->xs[i]? =some e->off+l.length<=e.length->
 splice xs.flatten (i*sz+off) l=(xs.set i (splice e off l)).flatten
 |[],i,e,off,_,b,_=>by simp at b
 |x::xs,0,e,off,d,b,c=>by
  simp at b;subst b;simp only[splice,Nat.zero_mul,Nat.zero_add,flatten_cons,set_cons_zero,append_assoc]
  grind
 |x::xs,i+1,e,off,d,b,c=>by
  simp only[getElem?_cons_succ]at b;have j:x.length=sz:=d x bf;have f:=flatten_set (λe g=>d e (by simp[g])) b c;rw[set_cons_succ,flatten_cons,flatten_cons, <-f];simp only[splice];have h:(i+1)*sz+off=x.length+(i*sz+off):=bk
  rw[h,take_length_add_append,show x.length+(i*sz+off)+l.length=x.length+(i*sz+off+l.length)by omega,drop_length_add_append];simp
theorem Q1{sz:Nat}{xs:List bx}{i off:Nat}{e l:bx}(c:jI sz xs)(p:xs[i]? =some e)(f:off+l.length<=e.length)(r:∀u∈l,u.oneCell'=true):
 jI sz (xs.set i (splice e off l)):=by
 have b:e∈xs:=mem_of_getElem? p;constructor
 .intro g j;rcases mem_or_eq_of_mem_set j with h|h
  .exact c.len g h
  .rw[h,wC _ _ _ f];exact c.len e b
 .intro g j u d;rcases mem_or_eq_of_mem_set j with h|h
  .exact c.one g h u d
  .rw[h]at d;unfold splice at d;rcases mem_append.1 d with m|m
   .rcases mem_append.1 m with n|n
    .exact c.one e b u (mem_of_mem_take n)
    grind
   .exact c.one e b u (mem_of_mem_drop m)
theorem F0(u l:bx)(p N:Nat)(b:p+l.length<=N)(c:N<=u.length):(splice u p l).take N=splice (u.take N) p l:=by
 apply ext_getElem?;intro j;simp only[splice,getElem?_take,getElem?_append,length_append,length_take,getElem?_drop]
 grind
theorem Vb(y:aK B ι σ a w){T:Nat}{x v:Operand}(Z:o.op= .store T x v)(a':o.dst=none)(h:TV C T x v σ K):UY B C ι o σ K a w:=by
 intro next Q I
 have D:=y.ev x;unfold TV at h;split at h
 .exact h.elim
 .rename_i new a0;split at h
  .rename_i U a6 hT;have U:=Nat.eq_of_beq_eq_true U;have hd:=Cc y.one (y.ev v) a0;have h1:=Jm y.one a6 hd;have b8:new.length=(a.eval v).cells.size:=by have:=hd.length;omega
   have J:∀g off z E,a.eval x= .pointer (some ⟨g,off,none⟩)->w.heap[g]? =some (.cells z E (0,0))->off+(a.eval v).cells.size<=z.size->
    (execOp a.eval o).run C.P w= .ok .skip (w.setRow g (splice z.toList off (a.eval v).cells.toList).toArray):=by
    intro g off z E V H F;unfold execOp;simp only[Z,V,Instr.storeAt,Instr.sureAddr,Sem.run_bind,Sem.run_pure,Result.andThen_ok,T0 hT aD H F h1]
   have LU:a.put o.dst undef=a:=by rw[a'];rfl
   split at h
   .rename_i k off V;rw[V]at D;split at h
    .rename_i p E N A;split at h
     .rename_i F;have F:=Nat.le_of_ble_eq_true F;obtain⟨b,vs,O,hh,a1⟩:=xO y A;obtain⟨d,f,hp⟩:=D;rw[O]at f;simp only[Value.pointer.injEq,Option.some.injEq,Addr.mk.injEq]at f;obtain⟨rfl, -, -⟩:=f;have b9:N.length=vs.size:=by have:=a1.length;omega
      unfold Oper.wp;rw[J b off vs E hp hh aD,Oper.upon_skip,LU];have a7:blk (ι k)=some b:=by rw[O];rfl
      have j:=FX w b (splice vs.toList off (a.eval v).cells.toList).toArray;refine I ι _ _ _ (y.rewrite A (j.mono (λd f=>bk)) ?_) h ?_
      .exact⟨b,_,O,setRow_heap w b vs _ E _ hh,bt (a1.splice off hd),λq e=>by subst e;have:=akJ y A;grind⟩
      .refine Fo y k (λ_=>?_) (λd f hn=>j.block d f (λe=>hn ⟨⟨_,A⟩,bk⟩)) (λH=>by rw[Z]at H;simp[AZ]at H) (λl e=>by simp_all [uO]);unfold Ad;simp[Z,V]
     grind
    grind
   .rename_i k i sz off V;rw[V]at D;split at h
    .rename_i E s xs l A hl;split at h
     .rename_i hs;have hs:=Nat.eq_of_beq_eq_true hs;subst hs;obtain⟨e,he,F,h⟩:=h;obtain⟨hr,a2⟩:=tK y A;obtain⟨b,n,c,O,hp⟩:=D;have R:(a.eval v).cells.toList=l:=FY hl hd;rcases a2.2 with⟨hv,hn⟩|⟨g,c',z,hv,_,H,a8,a9,c0,W⟩
      .grind
      .rw[O]at hv;simp only[Value.slice.injEq,Option.some.injEq,Addr.mk.injEq]at hv;obtain⟨⟨rfl, -, -⟩,rfl,rfl⟩:=hv;have b0:i<xs.length:=(List.getElem?_eq_some_iff.1 he).1;have c1:e.length=s:=hr.len e (mem_of_getElem? he);have b1:(a.eval v).cells.size=l.length:=bk
       have b2:=cX hr.len
       have b3:i*s+off+l.length<=xs.length*s:=by
        have:(i+1)*s<=xs.length*s:=Nat.mul_le_mul_right _ b0
        grind
       have b7:xs.length*s<=c*s:=Nat.mul_le_mul_right _ a8;unfold Oper.wp;rw[J b (i*s+off) z E hp H aD,Oper.upon_skip,LU];have a7:blk (ι k)=some b:=by rw[O];rfl
       have j:=FX w b (splice z.toList (i*s+off) (a.eval v).cells.toList).toArray;have a3:∀u∈l,u.oneCell'=true:=bk
       refine I ι _ _ _ (y.rewrite A (j.mono (λd f=>bk)) ?_) h ?_
       .have a4:=Q1 hr he F a3;refine⟨a4,cX a4.len,.inr ⟨b,c,_,bk,Nat.zero_le _,setRow_heap w b z _ E _ H,bk,a9,?_,?_⟩⟩
        .simp only[size_toArray,R];rw[wC]
         .omega
         grind
        .rw[length_set];rw[<-flatten_set hr.len he F,R, <-W];have c2:z.toList.length=c*s:=by omega
         exact F0 z.toList l (i*s+off) (xs.length*s) b3 aD
       .refine Fo y k (λ⟨p',T',b4,e'⟩=>bk) (λd f b5=>j.block d f (λe'=>b5 ⟨⟨_,A⟩,bk⟩)) (λH=>by rw[Z]at H;simp[AZ]at H) (λl e=>by simp_all [uO])
     grind
    grind
   .rename_i b off V;rw[V]at D;have D:a.eval x= .pointer (some ⟨b,off,none⟩):=D;split at h
    .rename_i l hl;obtain⟨N,E,X,F,h⟩:=h;have R:(a.eval v).cells.toList=l:=FY hl hd;have b1:(a.eval v).cells.size=l.length:=bk
     have H:=y.wrel.msat b _ X.at_
     let m':MH:=λd=>if d=b then some (.cells (splice N.toList off l).toArray E (0,0))else σ.m d
     unfold Oper.wp;rw[J b off N E D H aD,Oper.upon_skip,LU,R];have j:=FX w b (splice N.toList off l).toArray
     have a5:∀k S,nth σ.own k=some (some S)->blk (ι k)≠some b:=by
      intro k S A hb;have:=(y.fresh k S b A hb).2.1;rw[X.at_]at this;cases this
     refine I ι {σ with m:=m'} _ _ ?_ (h m' ⟨by simp[m'],λd f=>bk⟩) ?_
     .refine⟨y.slots,y.defers,?_,y.dist,?_,?_,y.one⟩
      .intro k S A;exact(y.own k S A).world (λd f=>j.block d (rB (y.own k S A) f) (λe=>a5 k S A (e▸f)))
      .intro k S d A f;obtain⟨f1,f2,f3⟩:=y.fresh k S d A f
       grind
      .have G:=y.wrel;refine⟨G.tape,G.os,G.output,G.drawn,Nat.le_trans G.size j.size,?_,?_,?_,?_,G.hle,G.hold,?_⟩
       .intro d f hE
        have L:d≠b:=λe=>by
         subst e;rcases G.mfr d _ X.at_ with M|M
         .omega
         grind
        rw[j.block d (Nat.lt_of_lt_of_le f G.size) L];exact G.frame d f hE
       .intro d t u Y;have L:d≠b:=λe=>by subst e;rw[G.disj d _ X.at_ t]at Y;cases Y
        have M:=G.hsat d t u Y;rw[<-M];exact World.cell?_of_block (w:=w) (a:=⟨d,t,none⟩) (j.block d (World.block_lt_of_cell? w ⟨d,t,none⟩ M) L)
       .intro d ob f;have r:(if d=b then some (Obj.cells (splice N.toList off l).toArray E (0,0))else σ.m d)=some ob:=f;by_cases e:d=b
        .subst e;rw[if_pos rfl]at r;rw[setRow_heap w d N _ E _ H];exact r
        .rw[if_neg e]at r;have M:=G.msat d ob r;rw[j.block d (Array.getElem?_eq_some_iff.1 M).1 e];exact M
       .intro d ob f i;have r:(if d=b then some (Obj.cells (splice N.toList off l).toArray E (0,0))else σ.m d)=some ob:=f;by_cases e:d=b
        .subst e;exact G.disj d _ X.at_ i
        .rw[if_neg e]at r;exact G.disj d _ r i
       .intro d ob f;have r:(if d=b then some (Obj.cells (splice N.toList off l).toArray E (0,0))else σ.m d)=some ob:=f;by_cases e:d=b
        .subst e;exact G.mfr d _ X.at_
        .rw[if_neg e]at r;exact G.mfr d _ r
     .constructor
      .intro k p' T' b4 d A ht O;exact j.block d (rB (y.own k _ A) (by rw[O];rfl)) (λe=>a5 k _ A (by rw[O, <-e];rfl))
      .intro d t u Y;have L:d≠b:=λe=>by subst e;rw[y.wrel.disj d _ X.at_ t]at Y;cases Y
       have M:=y.wrel.hsat d t u Y;rw[<-M];exact World.cell?_of_block (w:=w) (a:=⟨d,t,none⟩) (j.block d (World.block_lt_of_cell? w ⟨d,t,none⟩ M) L)
      .intro H;rw[Z]at H;simp[AZ]at H
      .intro l' d b6;simp[uO,Z]at b6
    grind
   grind
  grind
end
end Go.Vc
namespace Go.Vc
open Go List
section
variable{B:sJ}{C:Ctx}{ι:cn}{σ:St}{a:Act}{w:World}{o:Oper}{K:St->Prop}
theorem lW(c:aK B ι σ a w):Jc σ ι o w w:=
 ⟨λ_ _ _ _ _ _ _ _=>rfl,λb off v d=>c.wrel.hsat b off v d,λ_ _ _=>rfl,λ_ _ _ _ _ _=>rfl⟩
theorem Vj(r:aK B ι σ a w){T:Nat}{x:Operand}{lo hi mx:Option Operand}(M:o.op= .slice T x lo hi mx)(h:TY C o T x lo hi mx σ K):UY B C ι o σ K a w:=by
 intro next Q l
 have d:=r.ev x;unfold TY at h;split at h
 .rename_i k n D;rw[D]at d;have d:a.eval x=ι k:=d;have c:=r.ev n;split at h
  .rename_i E R v F i E' S G z;rw[G]at c;have c:a.eval n= .int F i:=c;split at h
   case h_2=>exact h.elim
   rename_i t;obtain⟨H,J,h⟩:=h;obtain⟨hr,N⟩:=tK r S;have I:jI R (v.take i.toNat):=⟨λe Z=>hr.len e (mem_of_mem_take Z),λe Z=>hr.one e (mem_of_mem_take Z)⟩
   have y:(v.take i.toNat).length=i.toNat:=bk
   obtain⟨U,_,p,_⟩:=gP t;rcases N.2 with⟨V,a7⟩|⟨g,m,a',V,a8,hg,a9,a0,a1,L⟩
   .have a2:i=0:=by omega
    subst a2
    have f:(execOp a.eval o).run C.P w= .ok (.value (.slice none 0 0)) w:=by
     unfold execOp;simp[M,d,V,c,Instr.sliceAt,run_underlying z,Instr.slice,Instr.sliceBounds,Instr.sliceBound,asIntOf,run_sizeOf p]
    unfold Oper.wp;rw[f,Oper.upon_value];refine l (upd ι k (.slice none 0 0)) _ _ _ ?_ h (lW r);refine aK.put ?_ o.dst (by show _=_;simp);refine r.place k _ _ (D6.refl _ _) ⟨I,?_⟩ rfl (λb hb=>bk)
    grind
   .have f:(execOp a.eval o).run C.P w= .ok (.value (.slice (some ⟨g,0,none⟩) i.toNat m)) w:=by
     have a3:i<=(m:Int):=by omega
     unfold execOp;simp[M,d,V,c,Instr.sliceAt,run_underlying z,Instr.slice,Instr.sliceBounds,Instr.sliceBound,asIntOf,run_sizeOf p,H,a3,Addr.add_none]
    unfold Oper.wp;rw[f,Oper.upon_value];refine l (upd ι k (.slice (some ⟨g,0,none⟩) i.toNat m)) _ _ _ ?_ h (lW r);refine aK.put ?_ o.dst (by show _=_;simp);refine r.place k _ _ (D6.refl _ _) ⟨I,cX I.len,.inr ⟨g,m,a',by rw[y],Nat.zero_le _,hg,aD,a0,a1,?_⟩⟩ rfl (λb hb=>.inr ⟨⟨_,S⟩,by rw[V];exact hb⟩);rw[y]
    have O:(v.take i.toNat).flatten=v.flatten.take (i.toNat*R):=by
     have:v=v.take i.toNat++v.drop i.toNat:=(take_append_drop _ _).symm;rw[show v.flatten=(v.take i.toNat).flatten++(v.drop i.toNat).flatten by grind];rw[take_left'];rw[cX I.len,y]
    rw[O, <-L,take_take];congr 1;have:i.toNat*R<=v.length*R:=Nat.mul_le_mul_right _ aD;omega
  grind
 .rename_i A len m n D;rw[D]at d;have d:a.eval x= .slice A len m:=d;have c:=r.ev n;split at h
  .rename_i F i E' G z;rw[G]at c;have c:a.eval n= .int F i:=c;split at h
   case h_2=>exact h.elim
   rename_i t;obtain⟨H,J,h⟩:=h;obtain⟨U,_,p,_⟩:=gP t
   have f:(execOp a.eval o).run C.P w= .ok (.value (.slice A i.toNat m)) w:=by
    unfold execOp;simp[M,d,c,Instr.sliceAt,run_underlying z,Instr.slice,Instr.sliceBounds,Instr.sliceBound,asIntOf,run_sizeOf p,H,J];cases A<;>simp[Addr.add]
   unfold Oper.wp;rw[f,Oper.upon_value];exact l ι _ _ _ (r.put o.dst (x:=.at (.val _)) rfl) h (lW r)
  grind
 .rename_i A len m n k D;rw[D]at d;have d:a.eval x= .slice A len m:=d;have c:=r.ev n;have u:=r.ev k;split at h
  .rename_i F i kj j E' G S z;rw[G]at c;rw[S]at u;have c:a.eval n= .int F i:=c;have u:a.eval k= .int kj j:=u;split at h
   case h_2=>exact h.elim
   rename_i t;obtain⟨H,J,h2,h⟩:=h;obtain⟨U,_,p,_⟩:=gP t
   have f:(execOp a.eval o).run C.P w= .ok (.value (.slice A i.toNat j.toNat)) w:=by
    have W:0<=j:=by omega
    have X:max j 0=j:=by omega
    unfold execOp;simp[X,M,d,c,u,Instr.sliceAt,run_underlying z,Instr.slice,Instr.sliceBounds,Instr.sliceBound,asIntOf,run_sizeOf p,H,J,h2,W];cases A<;>simp[Addr.add]
   unfold Oper.wp;rw[f,Oper.upon_value];exact l ι _ _ _ (r.put o.dst (x:=.at (.val _)) rfl) h (lW r)
  grind
 .rename_i A len m n D;rw[D]at d;have d:a.eval x= .slice A len m:=d;have c:=r.ev n;split at h
  .rename_i F i E' G z;rw[G]at c;have c:a.eval n= .int F i:=c;split at h
   case h_2=>exact h.elim
   rename_i t;obtain⟨H,J,hc,h⟩:=h;obtain⟨U,_,p,b',a4,a6⟩:=gP t;have a5:=run_sizeOf p;obtain⟨s,Y⟩:∃s:Sl,cgQ (C.P.cellsOf E') ⟨A,len,m⟩ i.toNat s:=⟨⟨_,_,_⟩,rfl,rfl,rfl⟩
   have f:(execOp a.eval o).run C.P w= .ok (.value (.slice s.a s.len s.cap)) w:=by
    have W:=Y.a_;have X:=Y.len;have h5:=Y.cap;dsimp only at W X h5;unfold execOp;simp[M,d,c,Instr.sliceAt,run_underlying z,Instr.slice,Instr.sliceBounds,Instr.sliceBound,asIntOf,a5,H,J,W,X,h5,a4]
   unfold Oper.wp;rw[f,Oper.upon_value];exact l ι _ _ _ (r.put o.dst (x:=.at (.val _)) rfl) (h s Y) (lW r)
  grind
 .rename_i b off n D;rw[D]at d;have d:a.eval x= .pointer (some ⟨b,off,none⟩):=d;have c:=r.ev n;split at h
  .rename_i F i len E' G z;rw[G]at c;have c:a.eval n= .int F i:=c;split at h
   case h_2=>exact h.elim
   rename_i t;obtain⟨H,J,h⟩:=h;obtain⟨U,_,p,_⟩:=gP t
   have f:(execOp a.eval o).run C.P w= .ok (.value (.slice (some ⟨b,off,none⟩) i.toNat len)) w:=by
    unfold execOp;simp[M,d,c,Instr.sliceAt,run_underlying z,Instr.sliceBounds,Instr.sliceBound,asIntOf,run_sizeOf p,H,J,Instr.sureAddr,asAddr,Addr.add]
   unfold Oper.wp;rw[f,Oper.upon_value];exact l ι _ _ _ (r.put o.dst (x:=.at (.val _)) rfl) h (lW r)
  grind
 grind
structure Ld(ι:cn)(σ σ':St)(ks:cv):Prop where
 cells:∀k p T cs,nth σ.own k=some (some (.cellsP p T cs))->k∉ks->∃cs',nth σ'.own k=some (some (.cellsP p T cs'))
 imm:σ'.h=σ.h
 lst:∀x k,σ'.ev x= .at (.lst k)->σ.ev x= .at (.lst k)
 m_:∀b,σ.m b=none->σ'.m b≠none->∃k∈ks,blk (ι k)=some b
theorem Qf{σ:St}{k:Nat}{f:At->At}{m:MH}{h:PH}{own:di}(d:∀x j,f x≠ .lst j){x:Operand}{j:Nat}(c:St.ev {sl:=σ.sl.map (SV.sub k f),own:=own,m:=m,h:=h} x= .at (.lst j)):σ.ev x= .at (.lst j):=by
 rcases Z7 σ k f m h own x with b|⟨v,b⟩
 .exact aiX d (b▸c)
 .rcases b with rfl|⟨g,rfl⟩|⟨g,rfl⟩<;>exact c
theorem czQ(t:aK B ι σ a w){k T:Nat}{p:Option Nat}{cs:cw}{l:bx}(E:nth σ.own k=some (some (.cellsP p T cs)))(L:wA cs=some l):
 ∃(b:Nat)(m':MH),mH σ.m σ.h b/\iL σ.m m' b (.cells l.toArray T (0,0))/\
  aK B ι {(σ.sub k (λ |.ptr _ o=>.val (.pointer (some ⟨b,o,none⟩))|_=>.junk)).setOwn k none with m:=m'} a w/\
  Ld ι σ {(σ.sub k (λ |.ptr _ o=>.val (.pointer (some ⟨b,o,none⟩))|_=>.junk)).setOwn k none with m:=m'} [k]:=by
 obtain⟨b,M,I,N,F⟩:=xO t E;have O:M.toList=l:=FY L F;have y:blk (ι k)=some b:=by rw[I];rfl
 obtain⟨W,P,J⟩:=t.fresh k _ b E y
 let m':MH:=λf=>if f=b then some (.cells l.toArray T (0,0))else σ.m f
 have g:aK B ι ((σ.sub k (λ |.ptr _ o=>.val (.pointer (some ⟨b,o,none⟩))|_=>.junk)).setOwn k none) a w:=by
  have:=t.drop k (ι k) (t.one k) (λ |.ptr _ o=>.val (.pointer (some ⟨b,o,none⟩))|_=>.junk) (by
   intro x v D F;cases x<;>simp only[At.key,Option.some.injEq,reduceCtorEq]at D
   case lst=>trivial
   case el=>trivial
   case ptr j off=>
    subst D;obtain⟨f,d,Q⟩:=F;rw[I]at d;simp only[Value.pointer.injEq,Option.some.injEq,Addr.mk.injEq]at d;obtain⟨rfl, -, -⟩:=d;exact Q)
  rwa [Jh]at this
 have s:∀j z,nth ((σ.sub k (λ |.ptr _ o=>.val (.pointer (some ⟨b,o,none⟩))|_=>.junk)).setOwn k none).own j=some (some z)->blk (ι j)≠some b:=by
  intro j z u R;obtain⟨s,X,G,_⟩:=rI u;exact s (t.dist j k _ _ b G E R y)
 refine⟨b,m',⟨P,J⟩,⟨by simp[m'],λf d=>bk⟩,⟨g.slots,g.defers,g.own,g.dist,?_,?_,g.one⟩,?_⟩
 .intro j z f u d;obtain⟨S,U,V⟩:=g.fresh j z f u d;refine⟨S,?_,V⟩;have:f≠b:=λe=>s j z u (e▸d);show(if f=b then _ else σ.m f)=none;rw[if_neg this];exact U
 .have n:=t.wrel;refine⟨n.tape,n.os,n.output,n.drawn,n.size,n.frame,n.hsat,?_,?_,n.hle,n.hold,?_⟩
  .intro f r d;have c:(if f=b then some (Obj.cells l.toArray T (0,0))else σ.m f)=some r:=d;by_cases e:f=b
   .subst e;rw[if_pos rfl]at c;rw[N, <-c];congr 2
    grind
   .rw[if_neg e]at c;exact n.msat f r c
  .intro f r d i;have c:(if f=b then some (Obj.cells l.toArray T (0,0))else σ.m f)=some r:=d;by_cases e:f=b
   .subst e;exact J i
   .rw[if_neg e]at c;exact n.disj f r c i
  .intro f r d;have c:(if f=b then some (Obj.cells l.toArray T (0,0))else σ.m f)=some r:=d;by_cases e:f=b
   .grind
   .rw[if_neg e]at c;exact n.mfr f r c
 .refine⟨?_,rfl,λx j D=>Qf (λx j=>bk) D,λf Y Z=>⟨k,bf,?_⟩⟩
  case refine_2=>
   grind
  intro j p' T' H u A;simp only[mem_singleton]at A;refine⟨H.map (At.sub k (λ |.ptr _ o=>.val (.pointer (some ⟨b,o,none⟩))|_=>.junk)),?_⟩
  .simp only[St.setOwn,St.sub,Af,BC,A,false_and,if_false,u];rfl
theorem czX{σ τ υ:St}{k:Nat}{ks:cv}(h:Ld ι σ τ [k])(c:Ld ι τ υ ks){b:Nat}(d:σ.m b=none)(f:υ.m b≠none):∃j∈k::ks,blk (ι j)=some b:=by
 cases e:τ.m b with
 |none=>
  obtain⟨j,g,i⟩:=c.m_ b e f
  grind
 |some o=>
  obtain⟨j,g,i⟩:=h.m_ b d (by rw[e];simp)
  grind
theorem zW:∀(ks:cv)(σ:St),aK B ι σ a w->Gl σ K ks->∃e,aK B ι e a w/\K e/\Ld ι σ e ks
 |[],σ,g,h=>⟨σ,g,h,⟨λ_ _ _ y h _=>⟨y,h⟩,rfl,λ_ _ h=>h,λ_ i m=>(m i).elim⟩⟩
 |k::ks,σ,g,h=>by
  simp only[Gl]at h;split at h
  .rename_i p T y D;split at h
   .rename_i l E;obtain⟨b,F,n,r,s,d⟩:=czQ g D E;obtain⟨e,t,G,c⟩:=zW ks _ s (h b F n r);refine⟨e,t,G,⟨λj z T' u H A=>?_,c.imm.trans d.imm,λx j I=>d.lst x j (c.lst x j I),λb i m=>czX d c i m⟩⟩;simp only[mem_cons,not_or]at A;obtain⟨f,v⟩:=d.cells j z T' u H bk;exact c.cells j z T' f v A.2
   grind
  grind
theorem baJ(H:aK B ι σ a w){k E sz:Nat}{xs:List bx}(R:nth σ.own k=some (some (.lst E sz xs))):
 ∃(s:Sl)(m':MH),rE σ.m m' σ.h s E sz xs/\aK B ι {(σ.sub k (λ |.lst _=>.val s.val|_=>.junk)).setOwn k none with m:=m'} a w/\
  Ld ι σ {(σ.sub k (λ |.lst _=>.val s.val|_=>.junk)).setOwn k none with m:=m'} [k]:=by
 obtain⟨hr,u⟩:=tK H R
 obtain⟨s,S⟩:∃s:Sl,ι k=s.val:=by
  rcases u.2 with⟨t,_⟩|⟨g,n,p,t,_⟩
  .exact⟨⟨none,0,0⟩,t⟩
  .exact⟨⟨some ⟨g,0,none⟩,xs.length,n⟩,t⟩
 have l:aK B ι ((σ.sub k (λ |.lst _=>.val s.val|_=>.junk)).setOwn k none) a w:=by
  have:=H.drop k (ι k) (H.one k) (λ |.lst _=>.val s.val|_=>.junk) (by
   intro x v O T;cases x<;>simp only[At.key,Option.some.injEq,reduceCtorEq]at O
   case ptr=>trivial
   case el=>trivial
   case lst j=>
    subst O;have T:v=ι j:=T;show v=s.val;rw[T,S])
  rwa [Jh]at this
 have J:∀m':MH,(∀b,σ.m b=none->m' b≠none->blk (ι k)=some b)->Ld ι σ {(σ.sub k (λ |.lst _=>.val s.val|_=>.junk)).setOwn k none with m:=m'} [k]:=by
  intro m' U;refine⟨?_,rfl,λx j O=>Qf (λx j=>bk) O,λd P Q=>⟨k,bf,U d P Q⟩⟩;intro j p' T' V I L;simp only[mem_singleton]at L;refine⟨V.map (At.sub k (λ |.lst _=>.val s.val|_=>.junk)),?_⟩;simp only[St.setOwn,St.sub,Af,BC,L,false_and,if_false,I];rfl
 rcases u.2 with⟨t,W⟩|⟨g,n,p,t,a0,hg,X,Y,Z,D⟩
 .have F:s=⟨none,0,0⟩:=by
   rw[S]at t;obtain⟨x,y,z⟩:=s;simp only[Sl.val,Value.slice.injEq]at t
   grind
  subst F;exact⟨⟨none,0,0⟩,σ.m,⟨⟨hr,.inl ⟨rfl,eq_nil_of_length_eq_zero W⟩⟩,λ_ _=>rfl,λb i e=>by cases e⟩,l,J σ.m (λb P Q=>(Q P).elim)⟩
 .have M:blk (ι k)=some g:=by rw[t];rfl
  obtain⟨f1,f2,f3⟩:=H.fresh k _ g R M
  have F:s=⟨some ⟨g,0,none⟩,xs.length,n⟩:=by
   rw[S]at t;obtain⟨x,y,z⟩:=s;simp only[Sl.val,Value.slice.injEq]at t
   grind
  subst F
  let m':MH:=λd=>if d=g then some (.cells p E (0,0))else σ.m d
  have G:∀j N,nth ((σ.sub k (λ |.lst _=>.val (Sl.mk (some ⟨g,0,none⟩) xs.length n).val|_=>.junk)).setOwn k none).own j=some (some N)->blk (ι j)≠some g:=by
   intro j N I hb;obtain⟨G,o1,a',_⟩:=rI I;exact G (H.dist j k _ _ g a' R hb M)
  refine⟨⟨some ⟨g,0,none⟩,xs.length,n⟩,m',⟨⟨hr,.inr ⟨g,n,p,rfl,by simp[m'],X,Y,Z,D⟩⟩,λd f=>?_,λb i e=>?_⟩,⟨l.slots,l.defers,l.own,l.dist,?_,?_,l.one⟩,J m' (λb P Q=>?_)⟩
  .grind
  .simp only[Option.some.injEq,Addr.mk.injEq]at e;obtain⟨rfl,_,_⟩:=e;exact⟨f2,f3⟩
  .intro j N d I f;obtain⟨g1,g2,g3⟩:=l.fresh j N d I f;refine⟨g1,?_,g3⟩;have:d≠g:=λe=>G j N I (e▸f);show(if d=g then _ else σ.m d)=none;rw[if_neg this];exact g2
  .have r:=H.wrel;refine⟨r.tape,r.os,r.output,r.drawn,r.size,r.frame,r.hsat,?_,?_,r.hle,r.hold,?_⟩
   .intro d A f;have c:(if d=g then some (Obj.cells p E (0,0))else σ.m d)=some A:=f;by_cases e:d=g
    .grind
    .rw[if_neg e]at c;exact r.msat d A c
   .intro d A f i;have c:(if d=g then some (Obj.cells p E (0,0))else σ.m d)=some A:=f;by_cases e:d=g
    .subst e;exact f3 i
    .rw[if_neg e]at c;exact r.disj d A c i
   .intro d A f;have c:(if d=g then some (Obj.cells p E (0,0))else σ.m d)=some A:=f;by_cases e:d=g
    .grind
    .rw[if_neg e]at c;exact r.mfr d A c
  grind
theorem DG:∀(ks:cv)(σ:St),aK B ι σ a w->DU σ K ks->∃e,aK B ι e a w/\K e/\Ld ι σ e ks
 |[],σ,i,h=>⟨σ,i,h,⟨λ_ _ _ y h _=>⟨y,h⟩,rfl,λ_ _ h=>h,λ_ l m=>(m l).elim⟩⟩
 |k::ks,σ,i,h=>by
  simp only[DU]at h;split at h
  .rename_i E H I z;obtain⟨s,A,f,n,d⟩:=baJ i z;obtain⟨e,p,D,c⟩:=DG ks _ n (h s A f);refine⟨e,p,D,⟨λj u T' r F v=>?_,c.imm.trans d.imm,λx j G=>d.lst x j (c.lst x j G),λb l m=>czX d c l m⟩⟩;simp only[mem_cons,not_or]at v;obtain⟨g,t⟩:=d.cells j u T' r F bk;exact c.cells j u T' g t v.2
  grind
end
end Go.Vc
namespace Go.Vc
open Go List
def D9(w:World):CV->Value->Prop
 |.val v,u=>u=v
 |.lst E c b,u=>jI c b/\w.ownsRow 0 E c u b.length b.flatten
 |.tup e,u=>∃d:Array Value,u= .tuple d/\e=d.toList.map .val
def gR:CV->Value->Option Nat
 |.lst _ _ _,u=>blk u
 |_,_=>none
def Cy(w:World):cz->bx->Prop
 |[],[]=>True
 |c::cs,v::vs=>D9 w c v/\Cy w cs vs
 |_,_=>False
def uC(m:MH)(d:cz)(vs:bx)(b:Nat):Prop:=m b≠none\/∃(i:Nat)(c:CV)(u:Value),d[i]? =some c/\vs[i]? =some u/\gR c u=some b
structure AR(w:World)(m:MH)(h:PH)(cvs:cz)(vs:bx):Prop where
 args:Cy w cvs vs
 hsat:∀b o v,h b o=some v->w.cell? ⟨b,o,none⟩=some v
 msat:∀b o,m b=some o->w.heap[b]? =some o
 disj:∀b o,m b=some o->∀i,h b i=none
 sep:∀(i j:Nat)(c d:CV)(u v:Value)(b:Nat),cvs[i]? =some c->vs[i]? =some u->cvs[j]? =some d->vs[j]? =some v->gR c u=some b->gR d v=some b->i=j
 free:∀(i:Nat)(c:CV)(u:Value)(b:Nat),cvs[i]? =some c->vs[i]? =some u->gR c u=some b->m b=none/\∀o,h b o=none
def Sound(P:Program)(f:FuncId)(S:Spec):Prop:=
 (∃g,P.funcs[f]? =some g/\g.body.isSome=true/\(g.name== "runtime.NumGoroutine")=false)/\
 ∀c d m h w K,S c m h K->AR w m h c d->
  Calls P f d.toArray w λe n=>∃r u j l,e= .returned u/\K r j l/\D9 n r u/\xV ⟨w,uC m c d,h,[]⟩ j l n/\
   (∀b,gR r u=some b->(w.heap.size<=b\/uC m c d b)/\j b=none/\∀i,l b i=none)
section
variable{B:sJ}{C:Ctx}{ι:cn}{σ:St}{a:Act}{w:World}{o:Oper}{K:St->Prop}
theorem Ix(sz:Nat):jI sz []:=⟨(λe b=>by cases b),(λe b=>by cases b)⟩
theorem FL(p:aK B ι σ a w){mv:cv}:∀(i:Nat)(l:dc)(ts:dn)(f:cz),sT C.P σ mv i l ts=some f->
 Cy w f (l.map a.eval)/\∀(j:Nat)(c:CV)(u:Value)(b:Nat),f[j]? =some c->(l.map a.eval)[j]? =some u->gR c u=some b->
  ∃x k s,l[j]? =some x/\mv.contains (i+j)=true/\σ.ev x= .at (.lst k)/\nth σ.own k=some (some s)/\u=ι k
 |i,[],ts,f,h=>by
  simp[sT]at h;subst h;exact⟨trivial,λj c u b H=>by simp at H⟩
 |i,x::r,ts,f,h=>by
  simp only[sT]at h;split at h
  .cases h
  .rename_i g m;obtain⟨n,I⟩:=FL p (i+1) r ts.tail g m
   have d:∀(D:CV),(∀(u:Value)(b:Nat),(a.eval x)=u->gR D u=some b->∃k s,mv.contains i=true/\σ.ev x= .at (.lst k)/\nth σ.own k=some (some s)/\u=ι k)->
    ∀(j:Nat)(c:CV)(u:Value)(b:Nat),(D::g)[j]? =some c->((x::r).map a.eval)[j]? =some u->gR c u=some b->
     ∃F k s,(x::r)[j]? =some F/\mv.contains (i+j)=true/\σ.ev F= .at (.lst k)/\nth σ.own k=some (some s)/\u=ι k:=by
    grind
   split at h
   .rename_i y;split at h
    .rename_i k v;have e:=p.ev x;rw[v]at e;have e:a.eval x=ι k:=e;split at h
     .rename_i E L M G;simp only[Option.some.injEq]at h;subst h;obtain⟨J,N⟩:=tK p G;refine⟨⟨⟨J,bk⟩,n⟩,d _ (λu b t _=>⟨k,_,y,v,G,bk⟩)⟩
     .cases h
    .rename_i v;have e:=p.ev x;rw[v]at e;have e:a.eval x= .slice none 0 0:=e;split at h
     .rename_i E z O;simp only[Option.some.injEq]at h;subst h;refine⟨⟨⟨Ix _,by rw[e];exact World.ownsRow_nil w 0 E _⟩,n⟩,d _ (λu b t A=>?_)⟩;rw[e]at t;subst t;simp[gR,blk]at A
     .cases h
    .cases h
   .split at h
    .rename_i u t;simp only[Option.some.injEq]at h;subst h;exact⟨⟨p.rho t,n⟩,d _ (λu b _ A=>by simp[gR]at A)⟩
    .cases h
theorem DF{mv:cv}:∀(i:Nat)(l:dc)(j:Nat)(x:Operand)(k:Nat),l[j]? =some x->mv.contains (i+j)=true->σ.ev x= .at (.lst k)->k∈kB σ mv i l
 |i,[],j,x,k,h,_,_=>by simp at h
 |i,y::r,0,x,k,h,b,c=>by
  simp at h;subst h;simp only[Nat.add_zero]at b;simp only[kB,b,c]
  grind
 |i,y::r,j+1,x,k,h,b,c=>by
  simp only[getElem?_cons_succ]at h;have:=DF (i+1) r j x k h (by rw[show i+1+j=i+(j+1)by omega];exact b) c;simp only[kB]
  grind
theorem Il{mv:cv}:∀(i:Nat)(l:dc),LH (kB σ mv i l)=true->∀(j c:Nat)(x e:Operand)(k:Nat),l[j]? =some x->l[c]? =some e->
 mv.contains (i+j)=true->mv.contains (i+c)=true->σ.ev x= .at (.lst k)->σ.ev e= .at (.lst k)->j=c
 |i,[],_,j,_,_,_,_,h,_,_,_,_,_=>by simp at h
 |i,y::r,b,j,c,x,e,k,h,s,E,u,v,f=>by
  have key:∀j x,r[j]? =some x->mv.contains (i+(j+1))=true->σ.ev x= .at (.lst k)->∀g,y=g->mv.contains i=true->σ.ev g= .at (.lst k)->False:=by
   intro j x z A m g D n p;subst D;simp only[kB,n,p]at b;have t:=DF (σ:=σ) (mv:=mv) (i+1) r j x k z bk m;simp only[LH]at b
   grind
  have d:LH (kB σ mv (i+1) r)=true:=by
   simp only[kB]at b;split at b
   .simp only[LH]at b
    grind
   .exact b
  cases j with
  |zero=>
   grind
  |succ j=>
   cases c with
   |zero=>
    grind
   |succ c=>
    simp only[getElem?_cons_succ]at h s;have:=Il (i+1) r d j c x e k h s bk bk v f;rw[this]
theorem Ip:∀(ks:cv)(σ:St),aK B ι σ a w->aK B ι (B4 σ ks) a w/\(B4 σ ks).m=σ.m/\(B4 σ ks).h=σ.h/\
 (∀j o',nth (B4 σ ks).own j=some (some o')->j∉ks/\∃d,nth σ.own j=some (some d))
 |[],σ,c=>⟨c,rfl,rfl,λj o' h=>⟨bf,o',h⟩⟩
 |k::ks,σ,c=>by
  have e:=c.kill k (ι k) (c.one k);rw[Jh]at e;obtain⟨f,g,i,l⟩:=Ip ks (σ.kill k) e;refine⟨f,g,i,λj o' n=>?_⟩;obtain⟨s,d,b⟩:=l j o' n;rw[Om]at b;obtain⟨p,t,r,_⟩:=rI b
  grind
theorem xV.trans{m m':MH}{h j:PH}{w w':World}{E:Nat->Prop}(d:xV B m h w)(c:xV ⟨w,E,h,[]⟩ m' j w')(r:∀b,E b->B.w0.heap.size<=b\/B.E b):xV B m' j w':=by
 refine⟨c.tape.trans d.tape,c.os.trans d.os,c.output.trans d.output,Nat.le_trans d.drawn c.drawn,Nat.le_trans d.size c.size,?_,c.hsat,c.msat,c.disj,λb o v n=>c.hle b o v (d.hle b o v n),?_,?_⟩
 .intro b f i
  have g:¬E b:=λe=>by
   grind
  rw[c.frame b (Nat.lt_of_lt_of_le f d.size) g];exact d.frame b f i
 .intro b f i
  have g:¬E b:=λe=>by
   grind
  rw[c.hold b (Nat.lt_of_lt_of_le f d.size) g];exact d.hold b f i
 .intro b p f;rcases c.mfr b p f with l|l
  .exact .inl (Nat.le_trans d.size l)
  grind
theorem aK.called{m':MH}{l:PH}{w':World}{E:Nat->Prop}(d:aK B ι σ a w)(n:xV ⟨w,E,σ.h,[]⟩ m' l w')(r:∀b,E b->B.w0.heap.size<=b\/B.E b)
 (e:∀j o' b,nth σ.own j=some (some o')->blk (ι j)=some b->¬E b):aK B ι {σ with m:=m',h:=l} a w':=by
 refine⟨d.slots,d.defers,?_,d.dist,?_,d.wrel.trans n r,d.one⟩
 .intro j o' f;have c:=d.own j o' f;exact c.world (λb g=>n.frame b (rB c g) (e j o' b f g))
 .intro j o' b f g;have c:=d.own j o' f;obtain⟨s,z,t⟩:=d.fresh j o' b f g;have p:=rB c g;have u:=e j o' b f g;refine⟨s,?_,λi=>?_⟩
  .show m' b=none;cases v:m' b with
   |none=>rfl
   |some x=>
    rcases n.mfr b x v with y|y
    .grind
    grind
  .have:l b=σ.h b:=n.hold b p u;show l b i=none;rw[this];exact t i
theorem Jj:∀{rs:cz}{l:List (Sum At cw)}{us:bx},Ec rs=some l->rs=us.map .val->QR ι l us
 |[],l,us,h,b=>by
  simp[Ec]at h;subst h;cases us with
  |nil=>trivial
  |cons u us=>simp at b
 |.val v::r,l,us,h,b=>by
  cases us with
  |nil=>simp at b
  |cons u us=>
   simp only[map_cons,List.cons.injEq,CV.val.injEq]at b;simp only[Ec]at h;split at h
   .rename_i d c;simp only[Option.some.injEq]at h;subst h;exact⟨b.1.symm,Jj c b.2⟩
   .cases h
 |.lst _ _ _::_,l,us,h,_=>by simp[Ec]at h
 |.tup _::_,l,us,h,_=>by simp[Ec]at h
theorem M8{E sz n:Nat}{v:Value}{l:bx}(h:w.ownsRow 0 E sz v n l):v.oneCell'=true:=by
 rcases h.2 with⟨rfl,_⟩|⟨g,b,c,rfl,_⟩<;>rfl
theorem M3{σ:St}{k:Nat}:∀{l:dc},k∈qA σ l->∃x∈l,∃off,σ.ev x= .at (.ptr k off)
 |[],h=>by cases h
 |x::r,h=>by
  have b:=λh=>M3 (σ:=σ) (k:=k) (l:=r) h;have c:k∈qA σ r->∃y∈x::r,∃off,σ.ev y= .at (.ptr k off):=λh=>let⟨y,hy,off,e⟩:=b h;⟨y,mem_cons_of_mem _ hy,off,e⟩
  simp only[qA]at h
  grind
theorem abQ(X:∀g S,assoc C.specs g=some S->Sound C.P g S)(hM:aK B ι σ a w){c:Call}{g:Operand}{f:FuncId}{fs cs:Array Value}(ho:o.op= .call c)(hc:c.callee= .value g)
 (hg:σ.ev g= .at (.val (.func (.func f) fs cs)))(e8:fs.toList=[])(e9:cs.toList=[])(h:abX C o f c.args.toList c.argTypes.toList σ K):UY B C ι o σ K a w:=by
 intro next Q H
 unfold abX at h;split at h
 .exact h.elim
 .rename_i S hS;obtain⟨⟨fn,c2,c3,c4⟩,Y⟩:=X f S hS;obtain⟨τ,c5,h,L⟩:=pH _ _ hM h;obtain⟨υ,s,h,Z⟩:=zW _ _ c5 h;split at h
  .rename_i R b0 c6;generalize HH C f=mv at*
   obtain⟨U,A⟩:=FL s 0 _ _ _ b0
   have b1:AR w υ.m υ.h R (c.args.toList.map a.eval):=by
    refine⟨U,s.wrel.hsat,s.wrel.msat,s.wrel.disj,?_,?_⟩
    .intro i j D d1 u v b N hu hj hv V a3;obtain⟨x,k,ow,hx,hm,hk,y,rfl⟩:=A i D u b N hu V;obtain⟨x',W,f',a4,c7,a',a5,rfl⟩:=A j d1 v b hj hv a3;have z:blk (ι k)=some b:=by cases D<;>simp[gR]at V;exact V
     have F:blk (ι W)=some b:=by cases d1<;>simp[gR]at a3;exact a3
     have c8:=s.dist k W _ _ b y a5 z F;subst c8;exact Il (σ:=υ) (mv:=mv) 0 c.args.toList c6 i j x x' k hx a4 hm c7 hk a'
    .intro i D u b N hu V;obtain⟨x,k,ow,hx,hm,hk,y,rfl⟩:=A i D u b N hu V;have z:blk (ι k)=some b:=by cases D<;>simp[gR]at V;exact V
     exact(s.fresh k ow b y z).2
   have a6:=Y R _ υ.m υ.h w _ h b1;have c9:a.eval g= .func (.func f) fs cs:=by have:=hM.ev g;rw[hg]at this;exact this
   have b3:fs= #[]:=bk
   have b4:cs= #[]:=bk
   subst b3 b4;have a0:c.args.map a.eval=(c.args.toList.map a.eval).toArray:=bk
   have d':¬fn.body=none:=bk
   have d0:¬fn.name= "runtime.NumGoroutine" :=bk
   have b5:(execOp a.eval o).run C.P w= .ok (.enter f (c.args.toList.map a.eval).toArray) w:=by
    unfold execOp;simp only[ho,resolve,hc,c9,Deferred.ofValue,Sem.run_bind,Sem.run_pure,Result.andThen_ok,invoke,callFunc];simp[program,Sem.run,c2,d0,d',a0]
   unfold Oper.wp;rw[b5,Oper.upon_enter];refine Calls.mono a6 ?_;rintro e w' ⟨r,u,m',h',rfl,hK,hr,hw,V⟩;show next (a.put o.dst u) w'
   obtain⟨b6,f0,f4,a7⟩:=Ip (kB υ mv 0 c.args.toList) υ s
   have b7:∀b,uC υ.m R (c.args.toList.map a.eval) b->B.w0.heap.size<=b\/B.E b:=by
    rintro b (M|⟨i,D,O,N,G,t⟩)
    .cases I:υ.m b with
     |none=>grind
     |some ob=>exact s.wrel.mfr b ob I
    .obtain⟨x,k,ow,hx,I,hk,y,rfl⟩:=A i D O b N G t;have z:blk (ι k)=some b:=by cases D<;>simp[gR]at t;exact t
     exact(s.fresh k ow b y z).1
   have a8:∀j o' b,nth (B4 υ (kB υ mv 0 c.args.toList)).own j=some (some o')->blk (ι j)=some b->¬uC υ.m R (c.args.toList.map a.eval) b:=by
    intro j o' b hj a1 b8;obtain⟨b9,o1,c'⟩:=a7 j o' hj;rcases b8 with M|⟨i,D,O,N,G,t⟩
    .exact M (s.fresh j o1 b c' a1).2.1
    .obtain⟨x,k,ow,hx,I,hk,y,rfl⟩:=A i D O b N G t;have z:blk (ι k)=some b:=by cases D<;>simp[gR]at t;exact t
     have:=s.dist j k _ _ b c' y a1 z;subst this;exact b9 (DF 0 _ i x j hx aD hk)
   have a9:aK B ι {B4 υ (kB υ mv 0 c.args.toList)with m:=m',h:=h'} a w':=by
    refine b6.called (E:=uC υ.m R (c.args.toList.map a.eval)) ?_ b7 a8
    grind
   have J:Jc σ ι o w w':=by
    constructor
    .intro k p T d2 b hk ht hι;obtain⟨d3,d4⟩:=L.cells k p T d2 hk;have d5:=OE L ht
     have d6:k∉qA τ c.args.toList:=by
      unfold Ad at d5
      grind
     obtain⟨f5,a2⟩:=Z.cells k p T d3 d4 d6;have z:blk (ι k)=some b:=by rw[hι];rfl
     refine hw.frame b (rB (s.own k _ a2) z) ?_;rintro(M|⟨i,D,O,N,G,t⟩)
     .exact M (s.fresh k _ b a2 z).2.1
     .obtain⟨x,W,ow,hx,I,a',y,rfl⟩:=A i D O b N G t;have F:blk (ι W)=some b:=by cases D<;>simp[gR]at t;exact t
      have:=s.dist k W _ _ b a2 y z F;subst this;cases D<;>simp[gR]at t;rename_i E1 f6 f7;have b':=s.own k _ a2;obtain⟨b2,f8,e2,_,_⟩:=b'
      have e5:∃ad n cp,ι k= .slice ad n cp:=by
       have c0:∀(l:cz)(vs:bx),Cy w l vs->∀(i:Nat)(D:CV)(O:Value),l[i]? =some D->vs[i]? =some O->D9 w D O:=by
        intro l
        induction l with
        |nil=>grind
        |cons x0 r0 d7=>
         intro vs hv i D O h1 h2;cases vs with
         |nil=>exact hv.elim
         |cons v0 d8=>
          cases i with
          |zero=>simp at h1 h2;subst h1 h2;exact hv.1
          |succ i=>simp at h1 h2;exact d7 d8 hv.2 i D O h1 h2
       have:=c0 _ _ U i _ _ N G;rcases this.2.2 with⟨e3,_⟩|⟨g3,e6,e7,e3,_⟩
       .grind
       grind
      grind
    .intro b off v hv;have h1:=L.imm b off v hv;rw[<-Z.imm]at h1;exact hw.hsat b off v (hw.hle b off v h1)
    .intro hg;rw[ho]at hg;simp[AZ]at hg
    .intro l b hl V M hx;have hl:c.args.toList=l:=by simpa[uO,ho,hc]using hl
     refine hw.frame b V ?_;rintro(I|⟨i,D,O,N,G,t⟩)
     .obtain⟨k,hk,z⟩:=Z.m_ b (by rw[L.m_];exact M) I;obtain⟨x,d9,off,e'⟩:=M3 hk;exact hx x (hl▸d9) k (.inr ⟨off,L.ptr x k off e'⟩) z
     .obtain⟨x,W,ow,a4,I,a',y,rfl⟩:=A i D O b N G t;have F:blk (ι W)=some b:=by cases D<;>simp[gR]at t;exact t
      exact hx x (hl▸mem_of_getElem? a4) W (.inl (L.lst x W (Z.lst x W a'))) F
   unfold ccJ at hK;split at hK
   .rename_i v;exact H ι _ _ _ (a9.put o.dst (x:=.at (.val v)) hr) hK J
   .rename_i E sz xs;split at hK
    .rename_i d hd;rw[hd];generalize (kB υ mv 0 c.args.toList).headD d=kd at hK;refine H (upd ι kd u) _ _ _ (aK.put ?_ (some d) (x:=.at (.lst kd)) (by show _=_;simp)) hK J;refine a9.adopt kd _ u ⟨hr.1,hr.2⟩ (M8 hr.2) (λb e0=>?_);obtain⟨f1,f2,f3⟩:=V b e0;refine⟨⟨?_,f2,f3⟩,?_⟩
     .rcases f1 with f1|f1
      .exact .inl (Nat.le_trans s.wrel.size f1)
      grind
     .intro j o' _ hj a1;have e1:nth (B4 υ (kB υ mv 0 c.args.toList)).own j=some (some o'):=hj;rcases f1 with f1|f1
      .have:=rB (b6.own j o' e1) a1;omega
      grind
    grind
   .rename_i rs;split at hK
    .rename_i l hl;obtain⟨us,rfl,e4⟩:=hr;exact H ι _ _ _ (a9.put o.dst (x:=.tup l) ⟨us,rfl,Jj hl e4⟩) hK J
    grind
  grind
end
end Go.Vc
