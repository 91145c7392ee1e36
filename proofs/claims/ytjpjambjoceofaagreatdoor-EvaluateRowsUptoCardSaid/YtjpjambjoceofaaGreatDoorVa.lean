/- Own work. -/
import Derived.Calls
import Derived.CallsIn
import Derived.Orders
import Derived.KernelRfl
import Derived.Laws.AppendOwn
import Derived.Laws.CopyRow
import Derived.Deep.AppendSrc
import Derived.Deep.LoopGhost
import Derived.Laws.StructEq
import Derived.Laws.BytesArg
import Derived.Laws.NewBlocks
import Derived.Great.BuildSlice
import Derived.Laws.MakeOwn
import Derived.Lib.AppendZerosOnto
set_option linter.unusedVariables false
set_option linter.unusedSimpArgs false
namespace Go
abbrev fg:=List (Nat×Operand)
abbrev fe:=List TypeId
abbrev fb:=List ByteArray
abbrev ej:=List Operand
abbrev eh:=List Nat
abbrev dw:=List UInt8
abbrev dv:=Nat->Value
abbrev du:=List (Value×Value)
abbrev dr:=List (Int×Bool)
abbrev dp:=List (Int×Int)
abbrev dm:=List Int
abbrev dj:=List Value
universe u
theorem cn{α:Type u}{l:List α}{i:Nat}{a:α}(h:l[i]? =some a):i<l.length:=(_root_.List.getElem?_eq_some_iff.1 h).1
theorem cq{α:Type u}{l:List α}{i:Nat}(h:i<l.length):l[i]? =some l[i]:=_root_.List.getElem?_eq_getElem h
theorem cr{α:Type u}{l:List α}{i:Nat}{a:α}(h:l[i]? =some a):a∈l:=_root_.List.mem_of_getElem? h
theorem ct{α:Type u}{a b:List α}:(a++b).length=a.length+b.length:=_root_.List.length_append
theorem cu{α:Type u}{i:Nat}{l:List α}(h:l.length<=i):l.take i=l:=_root_.List.take_of_length_le h
theorem cv{α:Type u}{β:Type u}{f:α->β}{a b:List α}:(a++b).map f=a.map f++b.map f:=_root_.List.map_append
theorem cw{α:Type u}{a b:α}:(some a=some b)=(a=b):=Option.some.injEq a b
theorem cz{a b:Bool}:((a&&b)=true)=(a=true∧b=true):=Bool.and_eq_true a b
theorem da{a b:Nat}(h:Nat.beq a b=true):a=b:=Nat.eq_of_beq_eq_true h
theorem db{α:Type u}{l:List α}{i:Nat}:l.take (i+1)=l.take i++l[i]?.toList:=_root_.List.take_add_one
theorem dc{p:Prop}[Decidable p]:(decide p=true)=p:=decide_eq_true_eq
theorem dd{α:Type u}{a:Array α}{i:Nat}:a.toList[i]? =a[i]?:=Array.getElem?_toList
theorem de{α:Type u}{a:α}{l:List α}:(a::l).length=l.length+1:=_root_.List.length_cons
theorem dg{a b c:Nat}(h:a<=b)(g:b<=c):a<=c:=Nat.le_trans h g
theorem dh{a b c:Nat}(h:a<b)(g:b<=c):a<c:=Nat.lt_of_lt_of_le h g
theorem bu{α:Sort u}{a b:α}(h:a=b:=by kernel_rfl):a=b:=h
theorem bx{p:Prop}(h:p:=by simp):p:=h
theorem bz{p:Prop}(h:p:=by decide):p:=h
theorem ca{p:Prop}(h:p:=by simp_all):p:=h
theorem cd{p:Prop}(h:p:=by rw[@List.length_map];omega):p:=h
theorem ce{p:Prop}(h:p:=by simp;omega):p:=h
theorem cg{p:Prop}(h:p:=by grind):p:=h
theorem ci{p:Prop}(h:p:=by dsimp only;omega):p:=h
theorem ck{p:Prop}(h:p:=by dsimp only;omega):p:=h
theorem cj{a i:Nat}(h:i<a:=by omega):a-(i+1)<a-i:=by omega
theorem cm{p q:Prop}(h:p)(e:p->q:=by intro h;simpa using h):q:=e h
theorem aC{p:Prop}(h:p:=by omega):p:=h
end Go
namespace Go.Vc
open Go List
abbrev PH:=Nat->Nat->Option Value
abbrev MH:=Nat->Option Obj
abbrev ff:=Int×Nat×dp×(Int×Int)×Bool×MH
structure Sl where
 a:Option Addr
 len:Nat
 cap:Nat
abbrev dy:=List (ByteArray×Sl)
abbrev dq:=List Sl
def Sl.val(s:Sl):Value:=.slice s.a s.len s.cap
inductive At where
 |val (v:Value)
 |ptr (k o:Nat)
 |lst (k:Nat)
 |el (k i sz o:Nat)
 |junk
abbrev dz:=List At
inductive SV where
 |at(x:At)
 |agg (cs:dz)
 |tup (xs:List (Sum At dz))
abbrev fh:=List (Nat×SV)
abbrev fd:=List SV
inductive Own where
 |cellsP (p:Option Nat) (T:TypeId) (cs:dz)
 |lst (E:TypeId) (sz:Nat) (xs:List dj)
abbrev fa:=List (Option Own)
abbrev Own.cells(T:TypeId)(cs:dz):Own:=.cellsP none T cs
structure St where
 sl:fd
 own:fa
 m:MH
 h:PH
inductive CV where
 |val (v:Value)
 |lst (E:TypeId) (sz:Nat) (xs:List dj)
 |tup (xs:List CV)
abbrev ei:=List CV
abbrev dk:=CV->MH->PH->Prop
abbrev Spec:=ei->MH->PH->dk->Prop
structure Dec where
 X:Type
 enc:X->dj
inductive zO where
 |normal
 |exit (id:Nat)
 |ret
structure M6 where
 A:Type
 st:A->St
 inv:A->Prop
 mu:A->Nat
structure YJ where
 A:Type
 st:A->St
 inv:A->Prop
structure sG where
 A:Type
 st:A->St
 frz:Bool:=false
abbrev em:=List (Nat×sG)
structure Ctx where
 P:Program
 loops2:em
 cuts2:em
 rcuts:List (Nat×em)
 heapT:fe
 specs:List (Nat×Spec)
 dec:TypeId->Dec
 loops:List (Nat×M6)
 cuts:List (Nat×YJ)
 moves:List (Nat×eh)
 retMove:Bool
 yield:Option Spec
 elemT:fe:=[]
def nth{α:Type}:List α->Nat->Option α
 |[],_=>none
 |x::_,0=>some x
 |_::xs,n+1=>nth xs n
def Ph:eh->Nat->Bool
 |[],_=>false
 |x::r,n=>match Nat.beq x n with|true=>true|false=>Ph r n
def assoc.{u}{α:Type u}:List (Nat×α)->Nat->Option α
 |[],_=>none
 |(k,v)::r,n=>match Nat.beq k n with|true=>some v|false=>assoc r n
def branch(c:Bool)(A B:Prop):Prop:=match c with|true=>A|false=>B
def St.ev(σ:St):Operand->SV
 |.tmp t=>match nth σ.sl t with|some x=>x|none=>.at .junk
 |.const v=>.at (.val v)
 |.global g=>.at (.val (.pointer (some ⟨g,0,none⟩)))
 |.func f=>.at (.val (.func (.func f) #[] #[]))
def St.put(σ:St)(d:Option Tmp)(x:SV):St:=
 match d with
 |some d=>{σ with sl:=σ.sl.set d x}
 |none=>σ
def At.sub(k:Nat)(f:At->At):At->At
 |.val v=>.val v
 |.ptr j o=>match Nat.beq j k with|true=>f (.ptr j o)|false=>.ptr j o
 |.lst j=>match Nat.beq j k with|true=>f (.lst j)|false=>.lst j
 |.el j i a o=>match Nat.beq j k with|true=>f (.el j i a o)|false=>.el j i a o
 |.junk=>.junk
def SV.sub(k:Nat)(f:At->At):SV->SV
 |.at x=>.at (x.sub k f)
 |.agg a=>.agg (a.map (At.sub k f))
 |.tup b=>.tup (b.map λ |.inl x=>.inl (x.sub k f)|.inr a=>.inr (a.map (At.sub k f)))
def Own.sub(k:Nat)(f:At->At):Own->Own
 |.cellsP p T a=>.cellsP p T (a.map (At.sub k f))
 |.lst E b c=>.lst E b c
def St.sub(σ:St)(k:Nat)(f:At->At):St:=
 {σ with sl:=σ.sl.map (SV.sub k f),own:=σ.own.map (Option.map (Own.sub k f))}
def St.kill(σ:St)(k:Nat):St:=
 let τ:=σ.sub k (λ_=>.junk)
 {τ with own:=τ.own.set k none}
def St.setOwn(σ:St)(k:Nat)(o:Option Own):St:={σ with own:=σ.own.set k o}
def At.val? :At->Option Value
 |.val v=>some v
 |_=>none
def tO:dz->Option dj
 |[]=>some []
 |.val v::r=>match tO r with|some l=>some (v::l)|none=>none
 |_::_=>none
def SV.val? :SV->Option Value
 |.at (.val v)=>some v
 |.agg a=>match tO a with|some l=>some (.agg l.toArray)|none=>none
 |_=>none
def SV.cells? :SV->Option dz
 |.at (.val (.agg a))=>some (a.toList.map .val)
 |.at (.val (.tuple _))=>none
 |.at .junk=>none
 |.at x=>some [x]
 |.agg a=>some a
 |.tup _=>none
def At.storable:At->Bool
 |.val (.agg _)=>false
 |.val (.tuple _)=>false
 |.junk=>false
 |_=>true
def sF:dz->Bool
 |[]=>true
 |x::r=>match x.storable with|true=>sF r|false=>false
def zX{α:Type}(P:Program):Sem α->Option α
 |.pure a=>some a
 |.program k=>zX P (k P)
 |.mark _ k=>zX P k
 |_=>none
def St.rho(σ:St)(x:Operand):Value:=match(σ.ev x).val? with|some v=>v|none=>undef
def M3(σ:St):ej->Bool
 |[]=>true
 |x::r=>match(σ.ev x).val? with|some _=>M3 σ r|none=>false
structure bB(h:PH)(b o:Nat)(l:dj):Prop where
 rd:∀i v,l[i]? =some v->h b (o+i)=some v
inductive aK(m:MH)(h:PH)(b off:Nat)(l:dj):Prop
 |imm (hr:bB h b off l):aK m h b off l
 |lent (cs:Array Value) (E:TypeId) (fz:Nat×Nat) (hm:m b=some (.cells cs E fz)) (hl:(cs.toList.drop off).take l.length=l):aK m h b off l
structure sK(m:MH)(b:Nat)(o:Obj):Prop where
 at_:m b=some o
structure dZ(m:MH)(h:PH)(b:Nat):Prop where
 m_:m b=none
 h_:∀i,h b i=none
def Bw(P:Program)(t:TypeId):Bool:=
 match P.underlying t with
 |some (.struct _)=>true
 |some (.array _ _)=>true
 |_=>false
def mk(P:Program)(T:TypeId)(cs:dz):SV:=
 match Bw P T with
 |true=>.agg cs
 |false=>match cs with|[x]=>.at x|_=>.at .junk
def vT(C:Ctx)(o:Oper)(σ:St)(K:St->Prop):Prop:=
 match M3 σ o.op.operands.toList with
 |true=>match zX C.P (execOp σ.rho o)with
  |some (.value v)=>K (σ.put o.dst (.at (.val v)))
  |_=>False
 |false=>False
def iR(P:Program)(T:TypeId):Bool:=
 match P.underlying T with
 |some _=>match P.cellsOf T with|0=>false|_=>true
 |none=>false
def a0J(C:Ctx)(T:TypeId)(R:dj->Prop)(K:dj->Prop):Prop:=
 ∃y:(C.dec T).X,R ((C.dec T).enc y)/\
  match Nat.beq ((C.dec T).enc y).length (C.P.cellsOf T)with
  |true=>K ((C.dec T).enc y)
  |false=>False
def Wu(C:Ctx)(o:Oper)(T:TypeId)(x:Operand)(σ:St)(K:St->Prop):Prop:=
 match iR C.P T with
 |false=>False
 |true=>
  match σ.ev x with
  |.at (.ptr k off)=>
   match nth σ.own k with
   |some (some (.cellsP _ _ a))=>
    match Nat.ble (off+C.P.cellsOf T) a.length with
    |true=>K (σ.put o.dst (mk C.P T ((a.drop off).take (C.P.cellsOf T))))
    |false=>False
   |_=>False
  |.at (.el k i c off)=>
   match nth σ.own k with
   |some (some (.lst _ s d))=>
    match Nat.beq s c with
    |true=>∃e:dj,d[i]? =some e/\a0J C T (λl=>(e.drop off).take (C.P.cellsOf T)=l) λl=>K (σ.put o.dst (mk C.P T (l.map .val)))
    |false=>False
   |_=>False
  |.at (.val (.pointer (some ⟨b,off,none⟩)))=>
   a0J C T (aK σ.m σ.h b off) λl=>K (σ.put o.dst (mk C.P T (l.map .val)))
  |_=>False
def splice{α:Type}(cs:List α)(off:Nat)(new:List α):List α:=cs.take off++new++cs.drop (off+new.length)
structure gI(m m':MH)(b:Nat)(o:Obj):Prop where
 at_:m' b=some o
 other:∀b',b'≠b->m' b'=m b'
def Sd(C:Ctx)(T:TypeId)(x v:Operand)(σ:St)(K:St->Prop):Prop:=
 match(σ.ev v).cells? with
 |none=>False
 |some new=>
 match Nat.beq new.length (C.P.cellsOf T),sF new,iR C.P T with
 |true,true,true=>
  match σ.ev x with
  |.at (.ptr k off)=>
   match nth σ.own k with
   |some (some (.cellsP p E a))=>
    match Nat.ble (off+new.length) a.length with
    |true=>K (σ.setOwn k (some (.cellsP p E (splice a off new))))
    |false=>False
   |_=>False
  |.at (.el k i f off)=>
   match nth σ.own k,tO new with
   |some (some (.lst E s c)),some l=>
    match Nat.beq s f with
    |true=>∃e:dj,c[i]? =some e/\off+l.length<=e.length/\
     K (σ.setOwn k (some (.lst E s (c.set i (splice e off l)))))
    |false=>False
   |_,_=>False
  |.at (.val (.pointer (some ⟨b,off,none⟩)))=>
   match tO new with
   |some l=>∃(a:Array Value)(E:TypeId),sK σ.m b (.cells a E (0,0))/\off+l.length<=a.size/\
    ∀d:MH,gI σ.m d b (.cells (splice a.toList off l).toArray E (0,0))->K {σ with m:=d}
   |none=>False
  |_=>False
 |_,_,_=>False
def Jq(P:Program)(T:TypeId)(f:Nat):Option (Nat×TypeId):=
 match P.underlying T with
 |some (.struct a)=>match nth a.toList f with
  |some g=>match Nat.beq (P.cellsOf g.type) 0 with|true=>none|false=>some (g.offset,g.type)
  |none=>none
 |_=>none
def Fv(C:Ctx)(o:Oper)(T:TypeId)(x:Operand)(f:Nat)(σ:St)(K:St->Prop):Prop:=
 match Jq C.P T f with
 |none=>False
 |some (g,_)=>
  match σ.ev x with
  |.at (.ptr k off)=>K (σ.put o.dst (.at (.ptr k (off+g))))
  |.at (.el k i a off)=>K (σ.put o.dst (.at (.el k i a (off+g))))
  |.at (.val (.pointer (some ⟨b,off,none⟩)))=>K (σ.put o.dst (.at (.val (.pointer (some ⟨b,off+g,none⟩)))))
  |_=>False
def Ho(o:Oper)(x:Operand)(σ:St)(K:St->Prop):Prop:=
 match σ.ev x with
 |.at (.ptr k off)=>K (σ.put o.dst (.at (.ptr k off)))
 |.at (.el k i b off)=>K (σ.put o.dst (.at (.el k i b off)))
 |.at (.val (.pointer (some a)))=>K (σ.put o.dst (.at (.val (.pointer (some a)))))
 |_=>False
def Fm(C:Ctx)(o:Oper)(T:TypeId)(x i:Operand)(σ:St)(K:St->Prop):Prop:=
 match σ.ev i with
 |.at (.val (.int _ n))=>
  match C.P.underlying T with
  |some (.slice E)=>
   match iR C.P E with
   |true=>
    match σ.ev x with
    |.at (.lst k)=>
     match nth σ.own k with
     |some (some (.lst _ c d))=>match Nat.beq c (C.P.cellsOf E)with
      |true=>0<=n/\n<(d.length:Int)/\K (σ.put o.dst (.at (.el k n.toNat c 0)))
      |false=>False
     |_=>False
    |.at (.val (.slice a len _))=>
     ∃b off,a=some ⟨b,off,none⟩/\0<=n/\n<(len:Int)/\
      K (σ.put o.dst (.at (.val (.pointer (some ⟨b,off+n.toNat*C.P.cellsOf E,none⟩)))))
    |_=>False
   |false=>False
  |some (.array len E)=>
   match iR C.P E with
   |true=>
    match σ.ev x with
    |.at (.ptr k off)=>0<=n/\n<(len:Int)/\K (σ.put o.dst (.at (.ptr k (off+n.toNat*C.P.cellsOf E))))
    |.at (.val (.pointer (some ⟨b,off,none⟩)))=>0<=n/\n<(len:Int)/\K (σ.put o.dst (.at (.val (.pointer (some ⟨b,off+n.toNat*C.P.cellsOf E,none⟩)))))
    |_=>False
   |false=>False
  |_=>False
 |_=>False
def Zs(o:Oper)(op:BinOp)(x y:Operand)(σ:St)(K:St->Prop):Prop:=
 match σ.ev x,σ.ev y with
 |.at (.val (.int k a)),.at (.val (.int c b))=>
  match decide (k=c)with
  |true=>
   b≠0/\(match op with
    |.quo=>K (σ.put o.dst (.at (.val (.int k (k.wrap (a.tdiv b))))))
    |.rem=>K (σ.put o.dst (.at (.val (.int k (a.tmod b)))))
    |_=>False)
  |false=>False
 |_,_=>False
def OJ(C:Ctx)(o:Oper)(x y:Operand)(σ:St)(K:St->Prop):Prop:=
 match σ.ev x,σ.ev y with
 |.at (.val (.string a)),.at (.val (.string b))=>a.size+b.size<=9223372036854775807/\K (σ.put o.dst (.at (.val (.string (a++b)))))
 |_,_=>vT C o σ K
def Wh(o:Oper)(c a b:Operand)(σ:St)(K:St->Prop):Prop:=
 match σ.ev c with
 |.at (.val (.bool t))=>branch t (K (σ.put o.dst (σ.ev a))) (K (σ.put o.dst (σ.ev b)))
 |_=>False
structure bN(h:PH)(s:Sl)(sz:Nat)(xs:List dj):Prop where
 len:s.len=xs.length
 row:xs=[]\/∃b o,s.a=some ⟨b,o,none⟩/\∀i e,xs[i]? =some e->bB h b (o+i*sz) e
 cap:s.len<=s.cap
structure PH.le(h h':PH):Prop where
 le:∀b o v,h b o=some v->h' b o=some v
def tT(σ:St)(K:St->Prop):eh->Prop
 |[]=>K σ
 |k::ks=>
  match nth σ.own k with
  |some (some (.lst _ b c))=>
   ∀(s:Sl)(a:PH),PH.le σ.h a->bN a s b c->
    tT {(σ.sub k (λ |.lst _=>.val s.val|_=>.junk)).setOwn k none with h:=a} K ks
  |_=>False
def Kh:dz->eh
 |[]=>[]
 |.lst k::r=>match(Kh r).contains k with|true=>Kh r|false=>k::Kh r
 |_::r=>Kh r
def SV.keys:SV->eh
 |.at x=>Kh [x]
 |.agg a=>Kh a
 |.tup _=>[]
def zeroCells(P:Program)(T:TypeId):Option dj:=
 match P.info? T with
 |some i=>match i.zero with
  |some v=>some v.cells.toList
  |none=>none
 |none=>none
def S8(C:Ctx)(o:Oper)(T:TypeId)(σ:St)(K:St->Prop):Prop:=
 match o.dst,zeroCells C.P T with
 |some d,some z=>K (((σ.kill d).setOwn d (some (.cells T (z.map .val)))).put (some d) (.at (.ptr d 0)))
 |_,_=>False
def Zw(o:Oper)(T:TypeId)(x:Operand)(σ:St)(K:St->Prop):Prop:=
 match o.dst,(σ.ev x).cells? with
 |some d,some a=>K (((σ.kill d).setOwn d (some (.cells T (a.map (At.sub d (λ_=>.junk)))))).put (some d) (.at (.ptr d 0)))
 |_,_=>False
def partAt(P:Program)(T:TypeId)(i:Nat):Option (Nat×Nat):=
 match P.underlying T with
 |some (.struct a)=>match nth a.toList i with|some g=>some (g.offset,P.cellsOf g.type)|none=>none
 |some (.array _ E)=>some (i*P.cellsOf E,P.cellsOf E)
 |_=>none
def Ny(P:Program)(T:TypeId):Bool:=
 match P.underlying T with
 |some (.struct a)=>a.toList.all λf=>(P.info? f.type).isSome
 |some (.array _ E)=>(P.info? E).isSome
 |_=>false
def CR(P:Program)(T:TypeId)(σ:St):fg->dz->Option dz
 |[],b=>some b
 |(i,x)::r,b=>
  match partAt P T i,(σ.ev x).cells? with
  |some (off,a),some new=>
   match Nat.beq new.length a,Nat.ble (off+new.length) b.length with
   |true,true=>CR P T σ r (splice b off new)
   |_,_=>none
  |_,_=>none
def S4(C:Ctx)(o:Oper)(T:TypeId)(parts:fg)(σ:St)(K:St->Prop):Prop:=
 match zeroCells C.P T with
 |some z=>match CR C.P T σ parts (z.map .val),Ny C.P T with
  |some a,true=>K (σ.put o.dst (.agg a))
  |_,_=>False
 |none=>False
def CQ(σ:St)(sz:Nat):fg->List dj->Option (List dj)
 |[],a=>some a
 |(i,x)::r,a=>
  match(σ.ev x).cells? with
  |some b=>match tO b with
   |some l=>match Nat.beq l.length sz,Nat.ble (i+1) a.length,sF b with
    |true,true,true=>CQ σ sz r (a.set i l)
    |_,_,_=>none
   |none=>none
  |none=>none
def EY(σ:St):ej->eh
 |[]=>[]
 |x::r=>(σ.ev x).keys++(EY σ r).filter (λk=> !(σ.ev x).keys.contains k)
def elemOf(P:Program)(T:TypeId):Option (TypeId×dj):=
 match P.underlying T with
 |some (.slice E)=>match zeroCells P E with
  |some z=>match Nat.beq z.length (P.cellsOf E),Nat.beq (P.cellsOf E) 0,z.all Value.oneCell' with
   |true,false,true=>some (E,z)
   |_,_,_=>none
  |none=>none
 |_=>none
def El(C:Ctx)(o:Oper)(T:TypeId)(n:Nat)(parts:fg)(σ:St)(K:St->Prop):Prop:=
 tT σ (λτ=>
  match o.dst,elemOf C.P T with
  |some d,some (E,z)=>
   match CQ τ (C.P.cellsOf E) parts (replicate n z),Nat.ble (n*C.P.cellsOf E) 16777216 with
   |some a,true=>K (((τ.kill d).setOwn d (some (.lst E (C.P.cellsOf E) a))).put (some d) (.at (.lst d)))
   |_,_=>False
  |_,_=>False) (EY σ (parts.map (·.2)))
structure cT(sz:Nat)(ys:List dj):Prop where
 len:∀e∈ys,e.length=sz
 one:∀e∈ys,∀u∈e,u.oneCell'=true
structure cM(m:MH)(s:Sl)(E:TypeId)(sz:Nat)(xs:List dj):Prop where
 rows:cT sz xs
 ex:(s=⟨none,0,0⟩/\xs=[])\/∃b cap cur,s=⟨some ⟨b,0,none⟩,xs.length,cap⟩/\m b=some (.cells cur E (0,0))/\xs.length<=cap/\cap<=maxLen/\cur.size=cap*sz/\cur.toList.take (xs.length*sz)=xs.flatten
structure qJ(m m':MH)(h:PH)(s:Sl)(E:TypeId)(sz:Nat)(xs:List dj):Prop where
 row:cM m' s E sz xs
 other:∀b,(∀i,s.a≠some ⟨b,i,none⟩)->m' b=m b
 fresh:∀b i,s.a=some ⟨b,i,none⟩->dZ m h b
def CM(σ:St)(K:St->Prop):eh->Prop
 |[]=>K σ
 |k::ks=>
  match nth σ.own k with
  |some (some (.lst E b c))=>
   ∀(s:Sl)(a:MH),qJ σ.m a σ.h s E b c->
    CM {(σ.sub k (λ |.lst _=>.val s.val|_=>.junk)).setOwn k none with m:=a} K ks
  |_=>False
def Ff(C:Ctx)(o:Oper)(T:TypeId)(l c:Operand)(σ:St)(K:St->Prop):Prop:=
 match o.dst,elemOf C.P T,σ.ev l,σ.ev c with
 |some d,some (E,z),.at (.val (.int _ n)),.at (.val (.int _ m))=>
  0<=n/\n<=m/\m*(C.P.bytesOf E:Int)<=281474976710656/\m<=281474976710656/\
   K (((σ.kill d).setOwn d (some (.lst E (C.P.cellsOf E) (replicate n.toNat z)))).put (some d) (.at (.lst d)))
 |_,_,_,_=>False
def jM(s:ByteArray):List dj:=s.data.toList.map λb=>[.int .u8 b.toNat]
inductive kS(m:MH)(h:PH)(s:Sl)(sz:Nat)(ys:List dj):Prop
 |imm (hr:bN h s sz ys):kS m h s sz ys
 |lent (b o:Nat) (cs:Array Value) (E:TypeId) (fz:Nat×Nat) (hs:s.a=some ⟨b,o,none⟩) (hn:s.len=ys.length) (hm:m b=some (.cells cs E fz)) (hl:(cs.toList.drop o).take ys.flatten.length=ys.flatten):kS m h s sz ys
def bKX(a:Bool)(σ:St)(s:Sl)(sz:Nat)(b:List dj):Prop:=match a with|true=>kS σ.m σ.h s sz b|false=>bN σ.h s sz b
def Ls(P:Program)(b:Bool)(σ:St)(sz:Nat)(tx:TypeId)(y:SV)(K:List dj->Prop):Prop:=
 match y,P.underlying tx with
 |.at (.lst k),some (.slice _)=>match nth σ.own k with
  |some (some (.lst _ s d))=>match Nat.beq s sz with|true=>K d|false=>False
  |_=>False
 |.at (.val (.slice a n c)),some (.slice _)=>∃d:List dj,cT sz d/\bKX b σ ⟨a,n,c⟩ sz d/\K d
 |.at (.val (.string s)),some .string=>match Nat.beq sz 1 with|true=>K (jM s)|false=>False
 |_,_=>False
structure bV(m m':MH)(s s':Sl)(E:TypeId)(sz:Nat)(zs:List dj):Prop where
 row:cM m' s' E sz zs
 other:∀b o,m b=some o->(∀i,s.a≠some ⟨b,i,none⟩)->m' b=some o
 fresh:∀b i,s'.a=some ⟨b,i,none⟩->m b=none\/∃i,s.a=some ⟨b,i,none⟩
 old:s'.a=s.a\/∀b o,m b=some o->m' b=some o
def sameKey(y:SV)(k:Nat):Bool:=match y with|.at (.lst a)=>Nat.beq a k|_=>false
def YN(y:SV)(d:Option TypeDesc):Option Int:=
 match d with
 |some (.int _)=>match y with
  |.at (.val (.int _ n))=>some n
  |_=>none
 |_=>none
def P0(C:Ctx):Bool:=match C.heapT with|[]=>false|_=>true
def inM(C:Ctx)(T:TypeId):Bool:=Ph C.heapT (1000+T)
def bUX(C:Ctx)(T:TypeId):Bool:=Ph C.heapT (3000+T)
def OR(C:Ctx)(o:Oper)(T tx:TypeId)(x y:Operand)(σ:St)(K:St->Prop):Prop:=
 match o.dst,elemOf C.P T with
 |some d,some (E,z)=>
  match inM C T,bUX C T,σ.ev x with
  |false,true,.at (.val (.slice a n c))=>
   c=n/\∃e:List dj,cT (C.P.cellsOf E) e/\bN σ.h ⟨a,n,c⟩ (C.P.cellsOf E) e/\
    Ls C.P (P0 C) σ (C.P.cellsOf E) tx (σ.ev y) λb=>
     (a=none\/0<b.length)/\(e.length+b.length)*C.P.bytesOf E<=140737488355328/\e.length+b.length<=140737488355328/\
     K (((σ.kill d).setOwn d (some (.lst E (C.P.cellsOf E) (e++b)))).put (some d) (.at (.lst d)))
  |true,_,.at (.val (.slice a n c))=>
   ∃e:List dj,cM σ.m ⟨a,n,c⟩ E (C.P.cellsOf E) e/\
    Ls C.P (P0 C) σ (C.P.cellsOf E) tx (σ.ev y) λb=>
     (e.length+b.length)*C.P.bytesOf E<=140737488355328/\e.length+b.length<=140737488355328/\
     ∀(f:Sl)(g:MH),bV σ.m g ⟨a,n,c⟩ f E (C.P.cellsOf E) (e++b)->K ({σ with m:=g}.put (some d) (.at (.val f.val)))
  |_,_,_=>match σ.ev x with
  |.at (.val (.slice none 0 0))=>
   match YN (σ.ev y) (C.P.underlying tx)with
   |some n=>0<n/\n*(C.P.bytesOf E:Int)<=140737488355328/\n<=140737488355328/\
    K (((σ.kill d).setOwn d (some (.lst E (C.P.cellsOf E) (replicate n.toNat z)))).put (some d) (.at (.lst d)))
   |none=>Ls C.P (P0 C) σ (C.P.cellsOf E) tx (σ.ev y) λb=>
    b.length*C.P.bytesOf E<=140737488355328/\b.length<=140737488355328/\
    K (((σ.kill d).setOwn d (some (.lst E (C.P.cellsOf E) b))).put (some d) (.at (.lst d)))
  |.at (.lst k)=>
   match nth σ.own k,sameKey (σ.ev y) k with
   |some (some (.lst E' i e)),false=>
    match Nat.beq E' E,Nat.beq i (C.P.cellsOf E)with
    |true,true=>
     Ls C.P (P0 C) σ i tx (σ.ev y) λb=>
      (e.length+b.length)*C.P.bytesOf E<=140737488355328/\e.length+b.length<=140737488355328/\
      K (((σ.kill k).setOwn k (some (.lst E i (e++b)))).put (some d) (.at (.lst k)))
    |_,_=>False
   |_,_=>False
  |.at (.val (.slice a n c))=>
   ∃e:List dj,cM σ.m ⟨a,n,c⟩ E (C.P.cellsOf E) e/\
    Ls C.P (P0 C) σ (C.P.cellsOf E) tx (σ.ev y) λb=>
     (e.length+b.length)*C.P.bytesOf E<=140737488355328/\e.length+b.length<=140737488355328/\
     ∀(f:Sl)(g:MH),bV σ.m g ⟨a,n,c⟩ f E (C.P.cellsOf E) (e++b)->K ({σ with m:=g}.put (some d) (.at (.val f.val)))
  |_=>False
 |_,_=>False
def Ut(P:Program)(ts:fe):Bool:=
 match ts with
 |t::_=>match P.underlying t with
  |some (.slice _)=>true
  |_=>false
 |[]=>false
def aEJ(C:Ctx)(o:Oper)(x:Operand)(ts:fe)(σ:St)(K:St->Prop):Prop:=
 match σ.ev x with
 |.at (.lst k)=>match nth σ.own k,Ut C.P ts with
  |some (some (.lst _ _ a)),true=>K (σ.put o.dst (.at (.val (.int .i64 a.length))))
  |_,_=>False
 |_=>vT C o σ K
structure tA(sz:Nat)(x:Sl)(i:Nat)(s:Sl):Prop where
 a_:s.a=if x.cap=i then x.a else x.a.map λy=>y.add (i*sz)
 len:s.len=x.len-i
 cap:s.cap=x.cap-i
def Sg(C:Ctx)(o:Oper)(T:TypeId)(x:Operand)(e f g:Option Operand)(σ:St)(K:St->Prop):Prop:=
 match σ.ev x,e,f,g with
 |.at (.lst k),none,some n,none=>
  match nth σ.own k,σ.ev n,C.P.underlying T with
  |some (some (.lst E h d)),.at (.val (.int _ i)),some (.slice E')=>
   match iR C.P E' with
   |true=>0<=i/\i<=(d.length:Int)/\K (((σ.kill k).setOwn k (some (.lst E h (d.take i.toNat)))).put o.dst (.at (.lst k)))
   |false=>False
  |_,_,_=>False
 |.at (.val (.slice a _ c)),none,some n,none=>
  match σ.ev n,C.P.underlying T with
  |.at (.val (.int _ i)),some (.slice E')=>
   match iR C.P E' with
   |true=>0<=i/\i<=(c:Int)/\K (σ.put o.dst (.at (.val (.slice a i.toNat c))))
   |false=>False
  |_,_=>False
 |.at (.val (.slice a _ c)),none,some n,some k=>
  match σ.ev n,σ.ev k,C.P.underlying T with
  |.at (.val (.int _ i)),.at (.val (.int _ j)),some (.slice E')=>
   match iR C.P E' with
   |true=>0<=i/\i<=j/\j<=(c:Int)/\K (σ.put o.dst (.at (.val (.slice a i.toNat j.toNat))))
   |false=>False
  |_,_,_=>False
 |.at (.val (.slice a len c)),some n,none,none=>
  match σ.ev n,C.P.underlying T with
  |.at (.val (.int _ i)),some (.slice E')=>
   match iR C.P E' with
   |true=>0<=i/\i<=(len:Int)/\len<=c/\∀s:Sl,tA (C.P.cellsOf E') ⟨a,len,c⟩ i.toNat s->K (σ.put o.dst (.at (.val (.slice s.a s.len s.cap))))
   |false=>False
  |_,_=>False
 |.at (.val (.pointer (some ⟨b,off,none⟩))),none,some n,none=>
  match σ.ev n,C.P.underlying T with
  |.at (.val (.int _ i)),some (.array len E')=>
   match iR C.P E' with
   |true=>0<=i/\i<=(len:Int)/\K (σ.put o.dst (.at (.val (.slice (some ⟨b,off,none⟩) i.toNat len))))
   |false=>False
  |_,_=>False
 |_,_,_,_=>False
def SL(C:Ctx)(o:Oper)(T:TypeId)(x:Operand)(f:Nat)(σ:St)(K:St->Prop):Prop:=
 match Jq C.P T f,(σ.ev x).cells?,(match σ.ev x with|.agg _=>true|.at (.val (.agg _))=>true|_=>false)with
 |some (g,T'),some a,true=>
  match Nat.ble (g+C.P.cellsOf T') a.length&&iR C.P T' with
  |true=>K (σ.put o.dst (mk C.P T' ((a.drop g).take (C.P.cellsOf T'))))
  |false=>False
 |_,_,_=>False
def SG(P:Program)(E:TypeId)(cs:dz)(n:Int)(K:SV->Prop):Nat->Nat->Prop
 |0,_=>True
 |f+1,i=>branch (n==(i:Int)) (K (mk P E ((cs.drop (i*P.cellsOf E)).take (P.cellsOf E)))) (SG P E cs n K f (i+1))
def SE(C:Ctx)(o:Oper)(T:TypeId)(x i:Operand)(σ:St)(K:St->Prop):Prop:=
 match σ.ev i,C.P.underlying T with
 |.at (.val (.int _ n)),some (.array len E)=>
  match(σ.ev x).cells? with
  |some a=>match Nat.beq a.length (len*C.P.cellsOf E),iR C.P E,(match σ.ev x with|.agg _=>true|.at (.val (.agg _))=>true|_=>false)with
   |true,true,true=>0<=n/\n<(len:Int)/\SG C.P E a n (λv=>K (σ.put o.dst v)) len 0
   |_,_,_=>False
  |none=>False
 |.at (.val (.int _ n)),some .string=>
  match σ.ev x with
  |.at (.val (.string s))=>0<=n/\∃b,s.data.toList[n.toNat]? =some b/\K (σ.put o.dst (.at (.val (.int .u8 b.toNat))))
  |_=>False
 |_,_=>False
def KY(C:Ctx)(o:Oper)(x:Operand)(i:Nat)(σ:St)(K:St->Prop):Prop:=
 match σ.ev x with
 |.tup a=>match nth a i with
  |some (.inl y)=>K (σ.put o.dst (.at y))
  |some (.inr b)=>K (σ.put o.dst (.agg b))
  |none=>False
 |_=>vT C o σ K
def bP(a:dw):List dj:=a.map λb=>[.int .u8 b.toNat]
def K2(C:Ctx)(o:Oper)(src a:TypeId)(x:Operand)(σ:St)(K:St->Prop):Prop:=
 match σ.ev x with
 |.at (.lst k)=>
  match nth σ.own k,C.P.underlying src,C.P.underlying a with
  |some (some (.lst _ _ c)),some (.slice E),some .string=>
   match C.P.underlying E with
   |some (.int .u8)=>∃b:dw,c=bP b/\K (σ.put o.dst (.at (.val (.string ⟨b.toArray⟩))))
   |_=>False
  |_,_,_=>False
 |_=>vT C o σ K
def nZ(σ:St):ej->eh
 |[]=>[]
 |x::r=>match σ.ev x with
  |.at (.ptr k _)=>match(nZ σ r).contains k with|true=>nZ σ r|false=>k::nZ σ r
  |_=>nZ σ r
def Fi(σ:St)(K:St->Prop):eh->Prop
 |[]=>K σ
 |k::ks=>
  match nth σ.own k with
  |some (some (.cellsP _ T c))=>
   match tO c with
   |some l=>
    ∀(b:Nat)(a:MH),dZ σ.m σ.h b->gI σ.m a b (.cells l.toArray T (0,0))->
     Fi {(σ.sub k (λ |.ptr _ o=>.val (.pointer (some ⟨b,o,none⟩))|_=>.junk)).setOwn k none with m:=a} K ks
   |none=>False
  |_=>False
def qO(P:Program)(σ:St)(mv:eh):Nat->ej->fe->Option ei
 |_,[],_=>some []
 |i,x::r,b=>
  match qO P σ mv (i+1) r b.tail with
  |none=>none
  |some a=>
   match mv.contains i with
   |true=>match σ.ev x with
    |.at (.lst k)=>match nth σ.own k with
     |some (some (.lst E c d))=>some (.lst E c d::a)
     |_=>none
    |.at (.val (.slice none 0 0))=>match elemOf P (b.headD 0)with
     |some (E,_)=>some (.lst E (P.cellsOf E) []::a)
     |none=>none
    |_=>none
   |false=>match(σ.ev x).val? with
    |some u=>some (.val u::a)
    |none=>none
def jN(σ:St)(mv:eh):Nat->ej->eh
 |_,[]=>[]
 |i,x::r=>match mv.contains i,σ.ev x with
  |true,.at (.lst k)=>k::jN σ mv (i+1) r
  |_,_=>jN σ mv (i+1) r
def D7(mv:eh):Nat->ej->ej
 |_,[]=>[]
 |i,x::r=>match mv.contains i with
  |true=>D7 mv (i+1) r
  |false=>x::D7 mv (i+1) r
def AZ(σ:St):eh->St
 |[]=>σ
 |k::ks=>AZ (σ.kill k) ks
def C6:ei->Option (List (Sum At dz))
 |[]=>some []
 |.val v::r=>match C6 r with|some l=>some (.inl (.val v)::l)|none=>none
 |_::_=>none
def bCJ(o:Oper)(σ:St)(a:eh)(K:St->Prop)(r:CV)(m:MH)(h:PH):Prop:=
 match r with
 |.val v=>K ({σ with m:=m,h:=h}.put o.dst (.at (.val v)))
 |.lst E b c=>match o.dst with
  |some d=>K ((({σ with m:=m,h:=h}.kill (a.headD d)).setOwn (a.headD d) (some (.lst E b c))).put (some d) (.at (.lst (a.headD d))))
  |none=>False
 |.tup e=>match C6 e with
  |some l=>K ({σ with m:=m,h:=h}.put o.dst (.tup l))
  |none=>False
def J5:eh->Bool
 |[]=>true
 |x::r=>match r.contains x with|true=>false|false=>J5 r
def Gy(C:Ctx)(f:Nat):eh:=match assoc C.moves f with|some l=>l|none=>[]
def Ys(C:Ctx)(o:Oper)(f:FuncId)(args:ej)(ts:fe)(σ:St)(K:St->Prop):Prop:=
 match assoc C.specs f with
 |none=>False
 |some S=>
  tT σ (λτ=>Fi τ (λυ=>
   match qO C.P υ (Gy C f) 0 args ts,J5 (jN υ (Gy C f) 0 args)with
   |some a,true=>S a υ.m υ.h (bCJ o (AZ υ (jN υ (Gy C f) 0 args)) (jN υ (Gy C f) 0 args) K)
   |_,_=>False) (nZ τ args))
   (EY σ (D7 (Gy C f) 0 args))
structure StructEq(P:Program)(T:TypeId)(x y:Value)(r:Bool):Prop where
 guard:P.eqGuardType P.depth T=false
 eq:∀w,(Op.equalIn 10000 T x y).run P w= .ok r w
def C8(C:Ctx)(o:Oper)(neg:Bool)(T:TypeId)(x y:Operand)(σ:St)(K:St->Prop):Prop:=
 match(σ.ev x).val?,(σ.ev y).val? with
 |some (.agg a),some (.agg b)=>∃r,StructEq C.P T (.agg a) (.agg b) r/\K (σ.put o.dst (.at (.val (.bool (match neg with|true=> !r|false=>r)))))
 |_,_=>False
structure Cp(m:MH)(b:Nat)(kvs:du):Prop where
 ex:∃(es:Array MapEntry)(clock:Nat),m b=some (.map es clock)/\es.toList.map (λe=>(e.key,e.val))=kvs
structure KeyLaw(P:Program)(kt:TypeId)(Ok:Value->Prop):Prop where
 under:∃d,P.underlying kt=some d
 check:∀v w b,Ok v->(Instr.checkKey b 10000 kt v).run P w= .ok () w
 eq:∀x y w,Ok x->Ok y->∃r,(Op.equal kt x y).run P w= .ok r w/\(r=true↔x=y)
 now:∀d x y r,P.underlying kt=some d->Ok x->Ok y->Instr.sameNow d x y=some r->(r=true↔x=y)
structure j8(m m':MH)(b:Nat):Prop where
 other:∀b',b'≠b->m' b'=m b'
def Kd(o:Oper)(r:Option Operand)(σ:St)(K:St->Prop):Prop:=
 match r with
 |none=>∀(b:Nat)(a:MH),dZ σ.m σ.h b->gI σ.m a b (.map #[] 0)->K ({σ with m:=a}.put o.dst (.at (.val (.map (some b)))))
 |some _=>False
def R2(P:Program)(T:TypeId):Option Value:=
 match P.info? T with
 |some i=>match i.zero with
  |some (.int k n)=>some (.int k n)
  |some (.bool b)=>some (.bool b)
  |some (.slice none 0 0)=>some (.slice none 0 0)
  |_=>none
 |none=>none
def only:dj->Value
 |[u]=>u
 |_=>undef
def NR(C:Ctx)(o:Oper)(T:TypeId)(x k:Operand)(ok:Bool)(σ:St)(K:St->Prop):Prop:=
 match C.P.underlying T,σ.ev x,(σ.ev k).val? with
 |some (.map f c),.at (.val (.map (some b))),some d=>
  match R2 C.P c with
  |some z=>
   ∃(a:List (Value×(C.dec c).X))(Ok:Value->Prop),Cp σ.m b (a.map λp=>(p.1,only ((C.dec c).enc p.2)))/\KeyLaw C.P f Ok/\Ok d/\(∀e∈a,Ok e.1)/\
    ((∀e∈a,e.1≠d)->K (σ.put o.dst (match ok with|true=>.tup [.inl (.val z),.inl (.val (.bool false))]|false=>.at (.val z))))/\
    ∀y,(d,y)∈a->match(C.dec c).enc y with
     |[u]=>K (σ.put o.dst (match ok with|true=>.tup [.inl (.val u),.inl (.val (.bool true))]|false=>.at (.val u)))
     |_=>False
  |none=>False
 |_,_,_=>False
def Ca(C:Ctx)(T:TypeId)(x k v:Operand)(σ:St)(K:St->Prop):Prop:=
 match C.P.underlying T,σ.ev x,(σ.ev k).val?,(σ.ev v).val? with
 |some (.map f _),.at (.val (.map (some b))),some c,some u=>
  ∃(a:du)(Ok:Value->Prop),Cp σ.m b a/\KeyLaw C.P f Ok/\Ok c/\(∀e∈a,Ok e.1)/\(∀e∈a,e.1≠c)/\
   ∀d:MH,j8 σ.m d b->Cp d b (a++[(c,u)])->K {σ with m:=d}
 |_,_,_,_=>False
structure pG(m:MH)(b:Nat)(kvs:du):Prop where
 ex:∃(es:Array MapEntry)(clock:Nat),m b=some (.map es clock)/\es.toList.map (λe=>(e.key,e.val))=kvs/\(∀e∈es.toList,e.born<clock)/\(es.toList.map (·.born)).Nodup
def Ji(C:Ctx)(T:TypeId)(x k v:Operand)(σ:St)(K:St->Prop):Prop:=
 match C.P.underlying T,σ.ev x,(σ.ev k).val?,(σ.ev v).val? with
 |some (.map h _),.at (.val (.map (some b))),some c,some u=>
  ∃(a:du)(Ok:Value->Prop),pG σ.m b a/\KeyLaw C.P h Ok/\Ok c/\Instr.sameBits 10000 c c=true/\(∀e∈a,Ok e.1)/\
   ((∀e∈a,e.1≠c)->∀d:MH,j8 σ.m d b->pG d b (a++[(c,u)])->K {σ with m:=d})/\
   ∀(f:du)(i:Value)(g:du),a=f++(c,i)::g->∀d:MH,j8 σ.m d b->pG d b (f++(c,u)::g)->K {σ with m:=d}
 |_,_,_,_=>False
structure lK(m:MH)(b r:Nat)(kvs left:du):Prop where
 ex:∃(es:Array MapEntry)(clock since:Nat)(seen:Array Nat)(c0:Nat),m b=some (.map es clock)/\es.toList.map (λe=>(e.key,e.val))=kvs/\(∀e∈es.toList,e.born<clock)/\(es.toList.map (·.born)).Nodup/\
  m r=some (.mapIter (some b) since seen c0)/\(∀e∈es.toList,e.born<since)/\since<=c0/\since<=clock/\(es.toList.filter λe=> !seen.contains e.born).map (λe=>(e.key,e.val))=left
structure Es(m:MH)(b r:Nat)(kvs left:du)(x:Value×Value):Prop where
 it:lK m b r kvs left
 ex:∃(es:Array MapEntry)(clock since:Nat)(seen:Array Nat)(e:MapEntry),m b=some (.map es clock)/\(es.toList.map (·.born)).Nodup/\m r=some (.mapIter (some b) since (seen.push e.born) clock)/\e∈es.toList/\x=(e.key,e.val)
def Sk(C:Ctx)(o:Oper)(T:TypeId)(x:Operand)(σ:St)(K:St->Prop):Prop:=
 match C.P.underlying T,σ.ev x with
 |some .string,.at (.val (.string s))=>
  ∀(b:Nat)(c:MH),dZ σ.m σ.h b->gI σ.m c b (.stringIter s 0)->K ({σ with m:=c}.put o.dst (.at (.val (.pointer (some ⟨b,0,none⟩)))))
 |some (.map _ _),.at (.val (.map (some b)))=>
  ∃a:du,pG σ.m b a/\∀(r:Nat)(c:MH),dZ σ.m σ.h r->j8 σ.m c r->lK c b r a a->K ({σ with m:=c}.put o.dst (.at (.val (.pointer (some ⟨r,0,none⟩)))))
 |_,_=>False
def Wr(o:Oper)(x:Operand)(c:Bool)(σ:St)(K:St->Prop):Prop:=
 match σ.ev x,c with
 |.at (.val (.pointer (some ⟨b,0,none⟩))),true=>
  ∃(s:ByteArray)(a:Nat),sK σ.m b (.stringIter s a)/\
   (s.size<=a->K (σ.put o.dst (.tup [.inl (.val (.bool false))])))/\
   (a<s.size->∀d:MH,gI σ.m d b (.stringIter s (a+(Utf8.decode s a).2))->
    K ({σ with m:=d}.put o.dst (.tup [.inl (.val (.bool true)),.inl (.val (.int .i64 a)),.inl (.val (.int .i32 (Utf8.decode s a).1))])))
 |.at (.val (.pointer (some ⟨r,0,none⟩))),false=>
  ∃(b:Nat)(e left:du),lK σ.m b r e left/\
   (left=[]->K (σ.put o.dst (.tup [.inl (.val (.bool false))])))/\
   ∀(f:du)(x:Value×Value)(g:du),left=f++x::g->∀d:MH,j8 σ.m d r->Es d b r e (f++g) x->
    K ({σ with m:=d}.put o.dst (.tup [.inl (.val (.bool true)),.inl (.val x.1),.inl (.val x.2)]))
 |_,_=>False
def SQ(C:Ctx)(o:Oper)(x:Operand)(σ:St)(K:St->Prop):Prop:=
 match σ.ev x with
 |.at (.val (.pointer (some ⟨r,0,none⟩)))=>∃(b:Nat)(c left:du)(x:Value×Value),Es σ.m b r c left x/\
  match Ph C.heapT 410000 with
  |true=>∃s:Sl,x.2=Sl.val s/\K (σ.put o.dst (.tup [.inl (.val x.1),.inl (.val (.slice s.a s.len s.cap))]))
  |false=>K (σ.put o.dst (.tup [.inl (.val x.1),.inl (.val x.2)]))
 |_=>False
def aaJ(σ:St)(x v:Operand):eh:=match σ.ev x with|.at (.ptr _ _)=>[]|_=>(σ.ev v).keys
def Ft(C:Ctx)(o:Oper)(T:TypeId):eh:=match o.dst with|some d=>(match Ph C.heapT T||Ph C.heapT (200000+d)with|true=>[d]|false=>[])|none=>[]
def bTJ(C:Ctx)(o:Oper)(T:TypeId):Bool:=match Ft C o T with|[]=>false|_=>true
def Zb(C:Ctx)(o:Oper)(τ:St):eh:=match o.dst with|some d=>(match Ph C.heapT (100000+d)with|true=>(τ.ev (.tmp d)).keys|false=>[])|none=>[]
structure V0(w:World)(m:MH)(h:PH):Prop where
 hsat:∀b o v,h b o=some v->w.cell? ⟨b,o,none⟩=some v
 msat:∀b o,m b=some o->w.heap[b]? =some o
 disj:∀b o,m b=some o->∀i,h b i=none
structure O6(w:World)(m:MH)(h:PH)(m':MH)(h':PH)(w':World):Prop where
 tape:w'.tape=w.tape
 os:w'.os=w.os
 output:w'.output=w.output
 drawn:w.drawn<=w'.drawn
 size:w.heap.size<=w'.heap.size
 frame:∀b,b<w.heap.size->m b=none->w'.heap[b]? =w.heap[b]?
 heapy:V0 w' m' h'
 hle:PH.le h h'
 hold:∀b,b<w.heap.size->m b=none->h' b=h b
 mfr:∀b o,m' b=some o->w.heap.size<=b\/m b≠none
def valOf(P:Program)(T:TypeId)(cs:dj):Value:=
 match Bw P T with
 |true=>.agg cs.toArray
 |false=>match cs with|[x]=>x|_=>undef
structure FAt(P:Program)(f:FuncId)(T:TypeId)(cvs:ei)(m:MH)(h:PH)(R:dj->MH->PH->Prop):Prop where
 fn:∃fn,P.funcs[f]? =some fn/\fn.body.isSome=true/\(fn.name== "runtime.NumGoroutine")=false
 go:∀(vs:dj)(w:World),cvs=vs.map .val->V0 w m h->Calls P f vs.toArray w λe w'=>∃l m' h',e= .returned (valOf P T l)/\R l m' h'/\O6 w m h m' h' w'
def M4:ei->dj->ei
 |[],l=>l.map .val
 |c::r,l=>c::M4 r l
def bVZ:fe->Option TypeId
 |[]=>none
 |x::r=>match Nat.ble 510000 x with|true=>some (Nat.sub x 510000)|false=>bVZ r
def b2Q(C:Ctx):Operand->Option TypeId
 |.tmp _=>bVZ C.heapT
 |_=>none
def a0Z(C:Ctx)(o:Oper)(T:TypeId)(f:FuncId)(a:dj)(args:ej)(σ:St)(K:St->Prop):Prop:=
 match qO C.P σ [] 0 args []with
 |some b=>∃R:(C.dec T).X->MH->PH->Prop,FAt C.P f T (M4 b a) σ.m σ.h (λl m h=>∃x,l=(C.dec T).enc x/\R x m h)/\
  ∀(x:(C.dec T).X)(m:MH)(h:PH),R x m h->K ({σ with m:=m,h:=h}.put o.dst (mk C.P T (((C.dec T).enc x).map .val)))
 |none=>False
def Pg(C:Ctx)(o:Oper)(σ:St)(K:St->Prop):Prop:=
 match o.op with
 |.move x=>K (σ.put o.dst (σ.ev x))
 |.assign x=>K (σ.put o.dst (σ.ev x))
 |.pick c a b=>Wh o c a b σ K
 |.alloc T=>S8 C o T σ (λτ=>Fi τ K (Ft C o T))
 |.box T x=>match bTJ C o T with
  |true=>tT σ (λτ=>Zw o T x τ (λυ=>Fi υ K (Ft C o T))) (σ.ev x).keys
  |false=>Zw o T x σ K
 |.build T h=>S4 C o T h.toList σ K
 |.buildSlice T n h=>El C o T n h.toList σ (λτ=>CM τ (λυ=>tT υ K (Zb C o υ)) (Ft C o T))
 |.load T x=>Wu C o T x σ K
 |.store T x v=>match o.dst with|none=>tT σ (λτ=>Sd C T x v τ K) (aaJ σ x v)|some _=>False
 |.makeFunc _ _ e=>Fi σ (λτ=>vT C o τ K) (nZ σ e.toList)
 |.nilCheck x=>Ho o x σ K
 |.binOp .quo _ x y _=>Zs o .quo x y σ K
 |.binOp .rem _ x y _=>Zs o .rem x y σ K
 |.binOp .eql T x y _=>match Bw C.P T with|true=>C8 C o false T x y σ K|false=>vT C o σ K
 |.binOp .neq T x y _=>match Bw C.P T with|true=>C8 C o true T x y σ K|false=>vT C o σ K
 |.binOp .add _ x y _=>OJ C o x y σ K
 |.binOp .. =>vT C o σ K
 |.unOp .. =>vT C o σ K
 |.convert s d x=>K2 C o s d x σ K
 |.makeSlice T l c=>Ff C o T l c σ (λτ=>CM τ K (Ft C o (2000+T)))
 |.slice T x m p q=>Sg C o T x m p q σ K
 |.fieldAddr T x f=>Fv C o T x f σ K
 |.field T x f=>SL C o T x f σ K
 |.indexAddr T x i=>Fm C o T x i σ K
 |.index T x i=>SE C o T x i σ K
 |.extract x i=>KY C o x i σ K
 |.makeMap _ r=>Kd o r σ K
 |.lookup T x k ok=>NR C o T x k ok σ K
 |.mapUpdate T x k v=>match o.dst with|none=>(match Ph C.heapT 400000 with|true=>Ji C T x k v σ K|false=>Ca C T x k v σ K)|some _=>False
 |.range T x=>Sk C o T x σ K
 |.next x b=>Wr o x b σ K
 |.entry x=>SQ C o x σ K
 |.call c=>match c.callee with
  |.builtin .len=>match c.args.toList with
   |[x]=>aEJ C o x c.argTypes.toList σ K
   |_=>False
  |.builtin .append=>match c.args.toList,c.argTypes.toList with
   |[x,y],[T,t]=>OR C o T t x y σ (λτ=>tT τ K (Zb C o τ))
   |_,_=>False
  |.builtin .cap=>vT C o σ K
  |.builtin .min=>vT C o σ K
  |.builtin .max=>vT C o σ K
  |.builtin _=>False
  |.value g=>match σ.ev g with
   |.at (.val (.func (.func f) j e))=>match b2Q C g with
    |some T=>match j.toList with
     |[]=>a0Z C o T f e.toList c.args.toList σ K
     |_=>False
    |none=>match j.toList,e.toList with
     |[],[]=>Ys C o f c.args.toList c.argTypes.toList σ K
     |_,_=>False
   |_=>False
  |.invoke .. =>False
 |_=>False
def setTmp(σ:St)(c:Operand)(b:Bool):St:=
 match c with
 |.tmp t=>{σ with sl:=σ.sl.set t (.at (.val (.bool b)))}
 |_=>σ
def N4(f:Oper->St->(St->Prop)->Prop)(ops:Array Oper)(o:Oper)(σ:St)(K:St->Prop):Prop:=
 match o.guard with
 |none=>f o σ K
 |some (j,a)=>
  match nth ops.toList j with
  |none=>False
  |some g=>match g.dst with
   |none=>False
   |some d=>match σ.ev (.tmp d)with
    |.at (.val (.bool t))=>
     branch t
      (match a with|true=>f o (setTmp σ (.tmp d) true) K|false=>K ((setTmp σ (.tmp d) true).put o.dst (.at (.val undef))))
      (match a with|false=>f o (setTmp σ (.tmp d) false) K|true=>K ((setTmp σ (.tmp d) false).put o.dst (.at (.val undef))))
    |.at (.val (.tuple _))=>K (σ.put o.dst (.at (.val undef)))
    |_=>False
def SH(C:Ctx)(ops:Array Oper)(o:Oper)(σ:St)(K:St->Prop):Prop:=N4 (Pg C) ops o σ K
structure La(P:Program)(S:Spec):Prop where
 go:∀(l:Nat)(vs:dj)(m:MH)(h:PH)(w:World)(K:dk),S (.val (.func (.yield l) #[] #[])::vs.map .val) m h K->V0 w m h->
  ∃fn tmps assign body,(Instr.yield l vs.toArray).run P w= .ok (.round l fn tmps assign body) w/\
   RoundIn Fence.wide 0 P l fn tmps assign body w λe w'=>∃u m' h',e= .returned u/\K (.val u) m' h'/\O6 w m h m' h' w'
def R4(C:Ctx)(o:Oper)(v:Value)(args:ej)(σ:St)(K:St->Prop):Prop:=
 match C.yield with
 |none=>False
 |some S=>
  match qO C.P σ [] 0 args []with
  |some a=>La C.P S/\S (.val v::a) σ.m σ.h (λr m h=>match r with
   |.val u=>K ({σ with m:=m,h:=h}.put o.dst (.at (.val u)))
   |_=>False)
  |none=>False
def PT(C:Ctx)(o:Oper)(σ:St)(K:St->Prop):Prop:=
 match o.op with
 |.call c=>match c.callee with
  |.value g=>match σ.ev g with
   |.at (.val (.func (.yield l) a b))=>match a.toList,b.toList with
    |[],[]=>R4 C o (.func (.yield l) #[] #[]) c.args.toList σ K
    |_,_=>False
   |_=>Pg C o σ K
  |_=>Pg C o σ K
 |_=>Pg C o σ K
def PG(C:Ctx)(ops:Array Oper):List Oper->St->(St->Prop)->Prop
 |[],σ,K=>K σ
 |o::r,σ,K=>N4 (PT C) ops o σ (λτ=>PG C ops r τ K)
def Aq(P:Program)(o:Oper):Bool:=
 match o.op with
 |.load .. =>true
 |.convert src _ _=>match P.underlying src with
  |some (.slice _)=>true
  |_=>false
 |_=>false
def EI:Op->Bool
 |.move _|.assign _|.pick .. |.build .. |.load .. |.nilCheck _|.unOp .. |.fieldAddr .. |.field .. |.indexAddr .. |.index .. |.extract .. =>true
 |.binOp .. =>true
 |.convert .. =>true
 |.call {callee:=.builtin .len,.. }=>true
 |.call {callee:=.builtin .min,.. }=>true
 |.call {callee:=.builtin .max,.. }=>true
 |_=>false
def GB(ops:Array Oper):eh->Option (Nat×Oper)
 |[]=>none
 |i::r=>match nth ops.toList i with
  |some o=>match EI o.op with|true=>some (i,o)|false=>GB ops r
  |none=>GB ops r
def waits(a:Oper)(i:Nat):Bool:=a.after.toList.any λe=>Region.binds .any e&&Nat.beq e.on i
def yA(σ:St)(a:Oper)(k:Nat):Bool:=
 (match a.dst with|some d=>Nat.beq d k|none=>false)||
 match a.op with
 |.store _ x _=>match σ.ev x with
  |.at (.ptr j _)=>Nat.beq j k
  |_=>false
 |.call c=>match c.callee with
  |.value _=>(nZ σ c.args.toList).contains k
  |_=>false
 |_=>false
def zA(ops:Array Oper)(σ:St)(b:Oper):Bool:=
 match b.guard with
 |none=>false
 |some (j,a)=>match nth ops.toList j with
  |none=>false
  |some g=>match g.dst with
   |none=>false
   |some d=>match σ.ev (.tmp d)with
    |.at (.val (.bool t))=>match t,a with
     |true,false=>true
     |false,true=>true
     |_,_=>false
    |.at (.val (.tuple _))=>true
    |_=>false
def bjJ:Op->Bool
 |.move _=>true
 |_=>false
def bWX(ops:Array Oper)(ok:Oper)(i:Nat):Bool:=
 waits ok i||ops.toList.zipIdx.any λx=>waits ok x.2&&waits x.1 i
def bJZ(ops:Array Oper):Bool:=
 let l:=ops.toList
 let n:=l.length
 (List.range n).all λi=>match nth l i with
  |none=>true
  |some a=>(a.after.toList.all λe=> !Region.binds .any e||Nat.blt e.on i)&&((List.range n).all λk=>match nth l k with
   |none=>true
   |some ok=>match ok.dst with
    |none=>true
    |some d=>Nat.beq i k|| !(a.dst==some d))&&
   (((List.range n).all λk=>match nth l k with
   |none=>true
   |some ok=>match ok.dst with
    |none=>true
    |some d=> !(a.looksAt ops).contains d||waits a k)||
   (bjJ a.op&&(List.range n).all λk=>match nth l k with
   |none=>true
   |some ok=>match ok.dst with
    |none=>true
    |some d=> !(a.looksAt ops).contains d||bWX ops ok i))
def zH:Op->Bool
 |.alloc _|.box .. |.buildSlice .. |.makeSlice .. |.makeMap .. |.lookup .. =>true
 |_=>false
def sD(o:Oper):Option ej:=
 match o.op with
 |.call c=>match c.callee with
  |.value _=>some c.args.toList
  |_=>none
 |_=>none
def GZ(σ:St)(k:Nat):ej->Bool
 |[]=>true
 |x::r=>(match σ.ev x with
  |.at (.lst j)=>match nth σ.own j with|some (some _)=> !Nat.beq j k|_=>false
  |.at (.ptr j _)=>match nth σ.own j with|some (some _)=> !Nat.beq j k|_=>false
  |_=>true)&&GZ σ k r
def S7(σ:St)(a:Oper)(k:Nat):Bool:=
 zH a.op||match sD a with|some l=>GZ σ k l|none=>false
def Lr(P:Program)(n:Bool)(σ:St)(c f:Oper)(K:Prop):Prop:=
 match Aq P f with
 |false=>K
 |true=>
  match f.op with
  |.load T x=>match iR P T with
   |false=>False
   |true=>match σ.ev x,f.dst with
    |.at (.ptr k off),_=>match nth σ.own k with
     |some (some (.cellsP _ _ a))=>match yA σ c k,Nat.ble (off+P.cellsOf T) a.length with
      |false,true=>K
      |_,_=>False
     |_=>False
    |.at (.val (.pointer (some ⟨b,o,none⟩))),some d=>match(σ.ev (.tmp d)).cells? with
     |some a=>match tO a with
      |some l=>match Nat.beq l.length (P.cellsOf T)with
       |true=>match zH c.op||n with
        |true=>aK σ.m σ.h b o l/\K
        |false=>bB σ.h b o l/\K
       |false=>False
      |none=>False
     |none=>False
    |.at (.el k i p off),some d=>match nth σ.own k,(σ.ev (.tmp d)).cells? with
     |some (some (.lst _ s g)),some a=>match tO a,Nat.beq s p,S7 σ c k with
      |some l,true,true=>match Nat.beq l.length (P.cellsOf T)with
       |true=>(∃e:dj,g[i]? =some e/\(e.drop off).take (P.cellsOf T)=l)/\K
       |false=>False
      |_,_,_=>False
     |_,_=>False
    |_,_=>False
  |.convert src j x=>match σ.ev x,f.dst with
   |.at (.lst k),some d=>match nth σ.own k,σ.ev (.tmp d)with
    |some (some (.lst _ _ g)),.at (.val (.string s))=>match P.underlying src,P.underlying j with
     |some (.slice E),some .string=>match P.underlying E with
      |some (.int .u8)=>match S7 σ c k with
       |true=>g=jM s/\K
       |false=>False
      |_=>False
     |_,_=>False
    |_,_=>False
   |_,_=>False
  |_=>False
def JO(P:Program)(c:Bool)(ops:Array Oper)(a:Array Bool)(σ:St)(b:Oper):Nat->List Oper->Prop->Prop
 |_,[],K=>K
 |i,d::r,K=>
  match a.getD i false,EI d.op,waits b i,zA ops σ d with
  |true,true,false,false=>Lr P c σ b d (JO P c ops a σ b (i+1) r K)
  |_,_,_,_=>JO P c ops a σ b (i+1) r K
def H2(σ:St)(c a:Oper)(τ:St)(K:Prop):Prop:=
 match a.op with
 |.load _ x=>match σ.ev x,a.dst with
  |.at (.val (.pointer (some ⟨b,o,none⟩))),some d=>match(σ.ev (.tmp d)).cells? with
   |some e=>match tO e with
    |some l=>match zH c.op with
     |true=>K
     |false=>aK τ.m τ.h b o l/\K
    |none=>K
   |none=>K
  |_,_=>K
 |_=>K
def FK(ops:Array Oper)(a:Array Bool)(σ:St)(b:Oper)(τ:St):Nat->List Oper->Prop->Prop
 |_,[],K=>K
 |i,c::r,K=>
  match a.getD i false,EI c.op,waits b i,zA ops σ c with
  |true,true,false,false=>H2 σ b c τ (FK ops a σ b τ (i+1) r K)
  |_,_,_,_=>FK ops a σ b τ (i+1) r K
def Yy(C:Ctx):Bool:=Ph C.heapT 0
def JI(C:Ctx)(ops:Array Oper)(a:Array Bool)(σ:St)(b:Oper)(τ:St)(K:Prop):Prop:=match Yy C with|true=>FK ops a σ b τ 0 ops.toList K|false=>K
def a3Q(g:Nat->Prop):eh->Prop
 |[]=>True
 |[j]=>g j
 |j::r=>g j/\a3Q g r
def Ck(C:Ctx)(ops:Array Oper):Nat->Array Bool->St->(St->Prop)->Prop
 |0,a,σ,K=>match Region.ready .any ops a with|[]=>K σ|_=>False
 |n+1,a,σ,K=>
  match Region.ready .any ops a with
  |[]=>K σ
  |rs=>match GB ops rs with
   |some (i,o)=>SH C ops o σ (λτ=>Ck C ops n (a.setIfInBounds i true) τ K)
   |none=>
    a3Q (λj=>match nth ops.toList j with
     |some o=>JO C.P (Yy C) ops a σ o 0 ops.toList (SH C ops o σ (λτ=>JI C ops a σ o τ (Ck C ops n (a.setIfInBounds j true) τ K)))
     |none=>False) rs
def lC:Code->Option Nat
 |.region id _ _=>some id
 |.seq a b=>match lC a with|some i=>some i|none=>lC b
 |.cond _ a b=>match lC a with|some i=>some i|none=>lC b
 |.block _ a=>lC a
 |.loop a=>lC a
 |.scope a=>lC a
 |_=>none
def B9:fd->fd->Prop->Prop
 |[],[],K=>K
 |x::xs,.at .junk::ys,K=>match x with|_=>B9 xs ys K
 |x::xs,y::ys,K=>x=y/\B9 xs ys K
 |_,_,_=>False
def wX:fa->fa->Prop->Prop
 |[],[],K=>K
 |_::xs,none::ys,K=>wX xs ys K
 |x::xs,some y::ys,K=>x=some y/\wX xs ys K
 |_,_,_=>False
def SU(τ:St):fd->Nat->St->St
 |[],_,σ=>σ
 |y::ys,i,σ=>
  SU τ ys (i+1) (match y with
   |.at (.lst k)=>match nth σ.sl i with
    |some (.at (.val (.slice none 0 0)))=>match nth τ.own k,nth σ.own k with
     |some (some (.lst E a _)),some none=>((σ.kill k).setOwn k (some (.lst E a []))).put (some i) (.at (.lst k))
     |_,_=>σ
    |_=>σ
   |_=>σ)
def Hf(σ:St)(q j:Nat)(x:At):St:=
 match nth σ.own q with
 |some (some (.cellsP p T a))=>σ.setOwn q (some (.cellsP p T (a.set j x)))
 |_=>σ
def GQ(τ:St)(q:Nat):dz->Nat->St->St
 |[],_,σ=>σ
 |y::ys,j,σ=>
  GQ τ q ys (j+1) (match y with
   |.lst k=>match nth σ.own q with
    |some (some (.cellsP _ _ a))=>match nth a j with
     |some (.val (.slice none 0 0))=>match nth τ.own k,nth σ.own k with
      |some (some (.lst E b _)),some none=>Hf ((σ.kill k).setOwn k (some (.lst E b []))) q j (.lst k)
      |_,_=>σ
     |_=>σ
    |_=>σ
   |_=>σ)
def M0(τ:St):fa->Nat->St->St
 |[],_,σ=>σ
 |y::ys,q,σ=>
  M0 τ ys (q+1) (match y with
   |some (.cellsP _ _ a)=>GQ τ q a 0 σ
   |_=>σ)
def conv(σ τ:St):St:=M0 τ τ.own 0 (SU τ τ.sl 0 σ)
def wV(σ τ:St)(K:Prop):Prop:=
 B9 (conv σ τ).sl τ.sl (wX (conv σ τ).own τ.own ((conv σ τ).m=τ.m/\(conv σ τ).h=τ.h/\K))
structure vO(m:MH)(h:PH):Prop where
 disj:∀b o,m b=some o->∀i,h b i=none
structure Av(m:MH)(h:PH)(m2:MH)(h2:PH):Prop where
 sub:∀b o,m2 b=some o->m b=some o
 le:PH.le h h2
 new:∀b i v,h2 b i=some v->h b i=some v\/∃cs E fz,m b=some (.cells cs E fz)/\cs[i]? =some v/\m2 b=none
def Sx(σ τ:St)(K:Prop):Prop:=
 B9 (conv σ τ).sl τ.sl (wX (conv σ τ).own τ.own (Av (conv σ τ).m (conv σ τ).h τ.m τ.h/\K))
def Ic(c:sG)(R:c.A->Prop)(τ:St):Prop:=match c.frz with
 |false=>∃x,R x/\wV τ (c.st x) True
 |true=>vO τ.m τ.h->∃x,R x/\Sx τ (c.st x) True
def S9(c:sG)(I:c.A->Prop)(S:c.A->Prop)(τ:St):Prop:=match c.frz with
 |false=>∃x,I x/\S x/\wV τ (c.st x) True
 |true=>vO τ.m τ.h->∃x,I x/\S x/\Sx τ (c.st x) True
def tV{α:Type}(d:α)(l:List (Nat×α)):Nat->Nat->List α
 |0,_=>[]
 |n+1,i=>(match assoc l i with|some x=>x|none=>d)::tV d l n (i+1)
def bK(n a:Nat)(sl:fh)(own:List (Nat×Own))(m:MH)(h:PH):St:=
 {sl:=tV (.at .junk) sl n 0,own:=tV none (own.map λp=>(p.1,some p.2)) a 0,m:=m,h:=h}
def Zu(C:Ctx)(b:Code):Option YJ:=match lC b with|some i=>assoc C.cuts i|none=>none
def bNX(C:Ctx)(b:Code):Option M6:=match lC b with|some i=>assoc C.loops i|none=>none
def OH(C:Ctx)(b:Code):Option sG:=match lC b with|some i=>assoc C.cuts2 i|none=>none
def biZ(C:Ctx)(b:Code):Option sG:=match lC b with|some i=>assoc C.loops2 i|none=>none
def YT(C:Ctx)(ops:Array Oper):em->List Oper->St->(St->Prop)->Prop
 |[],l,σ,K=>PG C ops l σ K
 |(n,a)::r,l,σ,K=>∃I:a.A->Prop,PG C ops (l.take n) σ (λτ=>∃x,I x/\wV τ (a.st x) True)/\∀x,I x->YT C ops r (l.drop n) (a.st x) K
def JR(C:Ctx)(id:Nat):em:=match assoc C.rcuts id with|some l=>l|none=>[]
def VC(C:Ctx):Code->St->(zO->St->Prop)->Prop
 |.skip,σ,Q=>Q .normal σ
 |.label _,σ,Q=>Q .normal σ
 |.region id d false,σ,Q=>YT C d (JR C id) d.toList σ (Q .normal)
 |.region _ d true,σ,Q=>match bJZ d,Region.noSelect d,C.P.follows .mixedOrders with
  |true,true,true=>Ck C d d.size (Array.replicate d.size false) σ (Q .normal)
  |_,_,_=>False
 |.seq a b,σ,Q=>
  match Zu C b with
  |some c=>VC C a σ (λe τ=>match e with
   |.normal=>∃x,c.inv x/\wV τ (c.st x) True
   |e=>Q e τ)/\∀x,c.inv x->VC C b (c.st x) Q
  |none=>match OH C b with
   |some c=>∃I:c.A->Prop,VC C a σ (λe τ=>match e with
    |.normal=>Ic c I τ
    |e=>Q e τ)/\∀x,I x->VC C b (c.st x) Q
   |none=>VC C a σ (λe τ=>match e with
    |.normal=>VC C b τ Q
    |e=>Q e τ)
 |.cond c x y,σ,Q=>
  match σ.ev c with
  |.at (.val (.bool t))=>branch t (VC C x (setTmp σ c true) Q) (VC C y (setTmp σ c false) Q)
  |_=>False
 |.block id c,σ,Q=>
  VC C c σ (λe τ=>match e with
   |.exit i=>match Nat.beq i id with|true=>Q .normal τ|false=>Q (.exit i) τ
   |e=>Q e τ)
 |.loop c,σ,Q=>
  match bNX C c with
  |some l=>
   (∃x,l.inv x/\wV σ (l.st x) True)/\
   ∀x,l.inv x->VC C c (l.st x) (λe τ=>match e with
    |.normal=>∃y,l.inv y/\l.mu y<l.mu x/\wV τ (l.st y) True
    |e=>Q e τ)
  |none=>match biZ C c with
   |some l=>∃(I:l.A->Prop)(f:l.A->Nat),
    Ic l I σ/\
    ∀x,I x->VC C c (l.st x) (λe τ=>match e with
     |.normal=>S9 l I (λy=>f y<f x) τ
     |e=>Q e τ)
   |none=>False
 |.exit id,σ,Q=>Q (.exit id) σ
 |.ret,σ,Q=>Q .ret σ
 |_,_,_=>False
def YY(C:Ctx)(σ:St):ResultVar->Option SV
 |.tmp t=>some (σ.ev (.tmp t))
 |.cell a T=>match σ.ev (.tmp a)with
  |.at (.ptr k off)=>match nth σ.own k with
   |some (some (.cellsP _ _ b))=>match Nat.ble (off+C.P.cellsOf T) b.length,iR C.P T with
    |true,true=>some (mk C.P T ((b.drop off).take (C.P.cellsOf T)))
    |_,_=>none
   |_=>none
  |_=>none
def Hj(C:Ctx)(σ:St):List ResultVar->Option fd
 |[]=>some []
 |r::rs=>match YY C σ r,Hj C σ rs with
  |some x,some l=>some (x::l)
  |_,_=>none
def Y8:fd->eh
 |[]=>[]
 |x::r=>x.keys++(Y8 r).filter (λk=> !x.keys.contains k)
def CW(P:Program)(σ:St)(mv:Bool):fd->fe->Option ei
 |[],_=>some []
 |x::r,a=>match CW P σ mv r a.tail with
  |none=>none
  |some l=>match mv with
   |true=>match x with
    |.at (.lst k)=>match nth σ.own k with
     |some (some (.lst E b c))=>some (.lst E b c::l)
     |_=>none
    |.at (.val (.slice none 0 0))=>match elemOf P (a.headD 0)with
     |some (E,_)=>some (.lst E (P.cellsOf E) []::l)
     |none=>none
    |_=>none
   |false=>match x.val? with
    |some v=>some (.val v::l)
    |none=>none
def H9:fd->eh
 |[]=>[]
 |.at (.ptr k _)::r=>match(H9 r).contains k with|true=>H9 r|false=>k::H9 r
 |_::r=>H9 r
def CI(C:Ctx)(fn:Func)(K:dk)(σ:St):Prop:=
 match Hj C σ fn.results.toList with
 |none=>False
 |some a=>
  tT σ (λτ=>Fi τ (λυ=>
   match Hj C υ fn.results.toList with
   |none=>False
   |some b=>match CW C.P υ C.retMove b fn.resultTypes.toList with
    |some [r]=>K r υ.m υ.h
    |some c=>match C.retMove with|true=>False|false=>K (.tup c) υ.m υ.h
    |none=>False) (match C.retMove with|true=>[]|false=>H9 a)) (match C.retMove with|true=>[]|false=>Y8 a)
def GP(n:Nat):Nat->ei->fd
 |_,[]=>[]
 |i,.val v::r=>.at (.val v)::GP n (i+1) r
 |i,.lst _ _ _::r=>.at (.lst (n+i))::GP n (i+1) r
 |i,.tup _::r=>.at .junk::GP n (i+1) r
def zJ:ei->fa
 |[]=>[]
 |.lst E a b::r=>some (.lst E a b)::zJ r
 |_::r=>none::zJ r
def entry(n:Nat)(args:ei)(m:MH)(h:PH):St:=
 {sl:=GP n 0 args++replicate (n-args.length) (.at .junk),own:=replicate n none++zJ args,m:=m,h:=h}
def Bx(C:Ctx)(fn:Func)(c:Code)(σ:St)(K:dk):Prop:=
 VC C c σ (λe τ=>match e with
  |.normal=>CI C fn K τ
  |.ret=>CI C fn K τ
  |_=>False)
end Go.Vc
namespace Go.Vc
open Go List
theorem jI{α:Type}:∀(l:List α)(i:Nat),nth l i=l[i]?
 |[],i=>by simp[nth]
 |x::xs,0=>by simp[nth]
 |x::xs,n+1=>by simp[nth,jI xs n]
def xZ(ι:dv):At->Value->Prop
 |.val v,u=>u=v
 |.ptr k o,u=>∃b,ι k= .pointer (some ⟨b,0,none⟩)/\u= .pointer (some ⟨b,o,none⟩)
 |.lst k,u=>u=ι k
 |.el k i a o,u=>∃b n c,ι k= .slice (some ⟨b,0,none⟩) n c/\u= .pointer (some ⟨b,i*a+o,none⟩)
 |.junk,_=>True
def iK(ι:dv):dz->dj->Prop
 |[],[]=>True
 |x::xs,v::vs=>xZ ι x v/\iK ι xs vs
 |_,_=>False
def O7(ι:dv):List (Sum At dz)->dj->Prop
 |[],[]=>True
 |.inl x::xs,v::vs=>xZ ι x v/\O7 ι xs vs
 |.inr b::xs,v::vs=>(∃a:Array Value,v= .agg a/\iK ι b a.toList)/\O7 ι xs vs
 |_,_=>False
def Den(ι:dv):SV->Value->Prop
 |.at x,u=>xZ ι x u
 |.agg b,u=>∃a:Array Value,u= .agg a/\iK ι b a.toList
 |.tup c,u=>∃a:Array Value,u= .tuple a/\O7 ι c a.toList
def DenS(ι:dv):fd->dj->Prop
 |[],[]=>True
 |x::xs,v::vs=>Den ι x v/\DenS ι xs vs
 |_,_=>False
theorem iK.length{ι:dv}:∀{cs:dz}{vs:dj},iK ι cs vs->cs.length=vs.length
 |[],[],_=>rfl
 |_::_,_::_,h=>by simp[iK.length h.2]
 |[],_::_,h=>h.elim
 |_::_,[],h=>h.elim
theorem iK.get{ι:dv}:∀{cs:dz}{vs:dj}(_:iK ι cs vs)(i:Nat)(x:At),cs[i]? =some x->∃v,vs[i]? =some v/\xZ ι x v
 |[],[],_,i,x,a=>by simp at a
 |_::_,v::_,h,0,x,a=>by simp at a;subst a;exact⟨v,rfl,h.1⟩
 |_::_,_::_,h,i+1,x,a=>by simp at a⊢;exact iK.get h.2 i x a
 |[],_::_,h,_,_,_=>h.elim
 |_::_,[],h,_,_,_=>h.elim
theorem iK.take{ι:dv}:∀{cs:dz}{vs:dj}(n:Nat),iK ι cs vs->iK ι (cs.take n) (vs.take n)
 |_,_,0,_=>by simp[iK]
 |[],[],n+1,h=>cg
 |_::_,_::_,n+1,h=>by simp only[take_succ_cons];exact⟨h.1,h.2.take n⟩
 |[],_::_,_+1,h=>h.elim
 |_::_,[],_+1,h=>h.elim
theorem iK.drop{ι:dv}:∀{cs:dz}{vs:dj}(n:Nat),iK ι cs vs->iK ι (cs.drop n) (vs.drop n)
 |_,_,0,h=>cg
 |[],[],n+1,h=>cg
 |_::_,_::_,n+1,h=>by simp only[drop_succ_cons];exact h.2.drop n
 |[],_::_,_+1,h=>h.elim
 |_::_,[],_+1,h=>h.elim
theorem iK.append{ι:dv}:∀{cs a:dz}{vs b:dj},iK ι cs vs->iK ι a b->iK ι (cs++a) (vs++b)
 |[],_,[],_,_,c=>cg
 |_::_,_,_::_,_,h,c=>⟨h.1,h.2.append c⟩
 |[],_,_::_,_,h,_=>h.elim
 |_::_,_,[],_,h,_=>h.elim
theorem iK.splice{ι:dv}{cs new:dz}{vs us:dj}(off:Nat)(h:iK ι cs vs)(a:iK ι new us):
 iK ι (splice cs off new) (splice vs off us):=by
 unfold Vc.splice;rw[a.length];exact((h.take off).append a).append (h.drop _)
theorem iK.set{ι:dv}:∀{cs:dz}{vs:dj}(j:Nat){x:At}{v:Value},iK ι cs vs->xZ ι x v->iK ι (cs.set j x) (vs.set j v)
 |[],[],_,_,_,_,_=>cg
 |_::_,_::_,0,_,_,h,a=>⟨a,h.2⟩
 |_::_,_::_,j+1,_,_,h,a=>⟨h.1,h.2.set j a⟩
 |[],_::_,_,_,_,h,_=>h.elim
 |_::_,[],_,_,_,h,_=>h.elim
theorem iK.vals{ι:dv}:∀{l:dj}{vs:dj},iK ι (l.map .val) vs↔vs=l
 |[],[]=>by simp[iK]
 |[],_::_=>by simp[iK]
 |_::_,[]=>by simp[iK]
 |a::l,v::vs=>by simp only[map_cons,iK,xZ,iK.vals,List.cons.injEq]
theorem CH:∀{cs:dz}{l:dj},tO cs=some l->cs=l.map .val
 |[],l,h=>by simp[tO]at h;grind
 |.val v::r,l,h=>by
  simp only[tO]at h;cases a:tO r with
  |none=>grind
  |some b=>simp[a]at h;subst h;simp[CH a]
 |.ptr _ _::_,_,h=>by simp[tO]at h
 |.lst _::_,_,h=>by simp[tO]at h
 |.el _ _ _ _::_,_,h=>by simp[tO]at h
 |.junk::_,_,h=>by simp[tO]at h
theorem Den.val?{ι:dv}{x:SV}{u v:Value}(h:Den ι x u)(a:x.val? =some v):u=v:=by
 cases x with
 |«at» y=>cases y<;>simp[SV.val?]at a;subst a;exact h
 |agg c=>
  simp only[SV.val?]at a;cases b:tO c with
  |none=>grind
  |some l=>
   simp[b]at a;obtain⟨e,rfl,d⟩:=h;rw[CH b,iK.vals]at d;subst a;congr 1
   grind
 |tup f=>simp[SV.val?]at a
theorem DenS.length{ι:dv}:∀{xs:fd}{vs:dj},DenS ι xs vs->xs.length=vs.length
 |[],[],_=>rfl
 |_::_,_::_,h=>by simp[DenS.length h.2]
 |[],_::_,h=>h.elim
 |_::_,[],h=>h.elim
theorem DenS.get{ι:dv}:∀{xs:fd}{vs:dj}(_:DenS ι xs vs)(i:Nat)(x:SV),xs[i]? =some x->∃v,vs[i]? =some v/\Den ι x v
 |[],[],_,i,x,a=>by simp at a
 |_::_,v::_,h,0,x,a=>by simp at a;subst a;exact⟨v,rfl,h.1⟩
 |_::_,_::_,h,i+1,x,a=>by simp at a⊢;exact DenS.get h.2 i x a
 |[],_::_,h,_,_,_=>h.elim
 |_::_,[],h,_,_,_=>h.elim
theorem DenS.set{ι:dv}:∀{xs:fd}{vs:dj}(j:Nat){x:SV}{v:Value},DenS ι xs vs->Den ι x v->DenS ι (xs.set j x) (vs.set j v)
 |[],[],_,_,_,_,_=>cg
 |_::_,_::_,0,_,_,h,a=>⟨a,h.2⟩
 |_::_,_::_,j+1,_,_,h,a=>⟨h.1,h.2.set j a⟩
 |[],_::_,_,_,_,h,_=>h.elim
 |_::_,[],_,_,_,h,_=>h.elim
def upd(ι:dv)(k:Nat)(u:Value):Nat->Value:=λj=>if j=k then u else ι j
@[simp] theorem upd_same (ι:dv) (k:Nat) (u:Value):upd ι k u k=u:=by simp[upd]
theorem oN(ι:dv){k j:Nat}(u:Value)(h:j≠k):upd ι k u j=ι j:=by simp[upd,h]
def At.key:At->Option Nat
 |.ptr k _=>some k
 |.lst k=>some k
 |.el k _ _ _=>some k
 |_=>none
theorem xZ.sub{ι:dv}{k:Nat}{u:Value}{f:At->At}(g:∀x v,x.key=some k->xZ ι x v->xZ (upd ι k u) (f x) v){x:At}{v:Value}(h:xZ ι x v):
 xZ (upd ι k u) (x.sub k f) v:=by
 cases x with
 |val w=>exact h
 |junk=>trivial
 |ptr j o=>
  simp only[At.sub];split
  .rename_i a;exact g _ _ (by simp only[At.key,cw];exact da a) h
  .rename_i a;have d:j≠k:=λe=>by subst e;simp at a
   obtain⟨b,l,m⟩:=h;exact⟨b,by rw[oN _ _ d];exact l,m⟩
 |lst j=>
  simp only[At.sub];split
  .rename_i a;exact g _ _ (by simp only[At.key,cw];exact da a) h
  .rename_i a;have d:j≠k:=λe=>by subst e;simp at a
   simp only[xZ]at h⊢
   rw[oN _ _ d];exact h
 |el j i p o=>
  simp only[At.sub];split
  .rename_i a;exact g _ _ (by simp only[At.key,cw];exact da a) h
  .rename_i a;have d:j≠k:=λe=>by subst e;simp at a
   obtain⟨b,n,c,l,m⟩:=h;exact⟨b,n,c,by rw[oN _ _ d];exact l,m⟩
theorem iK.sub{ι:dv}{k:Nat}{u:Value}{f:At->At}(a:∀x v,x.key=some k->xZ ι x v->xZ (upd ι k u) (f x) v):∀{cs:dz}{vs:dj},iK ι cs vs->
 iK (upd ι k u) (cs.map (At.sub k f)) vs
 |[],[],_=>trivial
 |_::_,_::_,h=>⟨xZ.sub a h.1,iK.sub a h.2⟩
 |[],_::_,h=>h.elim
 |_::_,[],h=>h.elim
theorem O7.sub{ι:dv}{k:Nat}{u:Value}{f:At->At}(a:∀x v,x.key=some k->xZ ι x v->xZ (upd ι k u) (f x) v):∀{cs:List (Sum At dz)}{vs:dj},O7 ι cs vs->
 O7 (upd ι k u) (cs.map λ |.inl x=>.inl (x.sub k f)|.inr cs=>.inr (cs.map (At.sub k f))) vs
 |[],[],_=>trivial
 |.inl _::_,_::_,h=>⟨xZ.sub a h.1,O7.sub a h.2⟩
 |.inr _::_,_::_,h=>⟨let⟨us,e,hd⟩:=h.1;⟨us,e,iK.sub a hd⟩,O7.sub a h.2⟩
 |[],_::_,h=>h.elim
 |.inl _::_,[],h=>h.elim
 |.inr _::_,[],h=>h.elim
theorem Den.sub{ι:dv}{k:Nat}{u:Value}{f:At->At}(a:∀x v,x.key=some k->xZ ι x v->xZ (upd ι k u) (f x) v){x:SV}{v:Value}(h:Den ι x v):
 Den (upd ι k u) (x.sub k f) v:=by
 cases x with
 |«at» y=>exact xZ.sub a h
 |agg d=>obtain⟨b,e,c⟩:=h;exact⟨b,e,iK.sub a c⟩
 |tup g=>obtain⟨b,e,c⟩:=h;exact⟨b,e,O7.sub a c⟩
theorem DenS.sub{ι:dv}{k:Nat}{u:Value}{f:At->At}(a:∀x v,x.key=some k->xZ ι x v->xZ (upd ι k u) (f x) v):∀{xs:fd}{vs:dj},DenS ι xs vs->
 DenS (upd ι k u) (xs.map (SV.sub k f)) vs
 |[],[],_=>trivial
 |_::_,_::_,h=>⟨Den.sub a h.1,DenS.sub a h.2⟩
 |[],_::_,h=>h.elim
 |_::_,[],h=>h.elim
structure qE where
 w0:World
 E:Nat->Prop
 h0:PH
 dfs:List Deferred
def blk:Value->Option Nat
 |.pointer (some a)=>some a.block
 |.slice (some a) _ _=>some a.block
 |_=>none
def C1(ι:dv)(w:World)(v:Value):Own->Prop
 |.cellsP p T e=>∃b c,v= .pointer (some ⟨b,0,none⟩)/\w.heap[b]? =some (.cells c T (0,0))/\iK ι e c.toList/\∀q,p=some q->b=q
 |.lst E d a=>cT d a/\w.ownsRow 0 E d v a.length a.flatten
structure vN(B:qE)(m:MH)(h:PH)(w:World):Prop where
 tape:w.tape=B.w0.tape
 os:w.os=B.w0.os
 output:w.output=B.w0.output
 drawn:B.w0.drawn<=w.drawn
 size:B.w0.heap.size<=w.heap.size
 frame:∀b,b<B.w0.heap.size->¬B.E b->w.heap[b]? =B.w0.heap[b]?
 hsat:∀b o v,h b o=some v->w.cell? ⟨b,o,none⟩=some v
 msat:∀b o,m b=some o->w.heap[b]? =some o
 disj:∀b o,m b=some o->∀i,h b i=none
 hle:∀b o v,B.h0 b o=some v->h b o=some v
 hold:∀b,b<B.w0.heap.size->¬B.E b->h b=B.h0 b
 mfr:∀b o,m b=some o->B.w0.heap.size<=b\/B.E b
structure aJ(B:qE)(ι:dv)(σ:St)(a:Act)(w:World):Prop where
 slots:DenS ι σ.sl a.tmps.toList
 defers:a.defers=B.dfs
 own:∀k o,nth σ.own k=some (some o)->C1 ι w (ι k) o
 dist:∀k k' o o' b,nth σ.own k=some (some o)->nth σ.own k'=some (some o')->blk (ι k)=some b->blk (ι k')=some b->k=k'
 fresh:∀k o b,nth σ.own k=some (some o)->blk (ι k)=some b->(B.w0.heap.size<=b\/B.E b)/\σ.m b=none/\∀i,σ.h b i=none
 wrel:vN B σ.m σ.h w
 one:∀k,(ι k).oneCell'=true
theorem yD{α:Type}(l:List α)(k j:Nat)(x:α):nth (l.set k x) j=if j=k/\k<l.length then some x else nth l j:=by
 rw[jI,jI,getElem?_set]
 grind
theorem Ay{α β:Type}(f:α->β)(l:List α)(j:Nat):nth (l.map f) j=(nth l j).map f:=by
 rw[jI,jI,getElem?_map]
theorem Act.toList_put(a:Act)(d:Nat)(v:Value):(a.put (some d) v).tmps.toList=a.tmps.toList.set d v:=by
 simp[Act.put]
theorem aJ.put{B:qE}{ι:dv}{σ:St}{a:Act}{w:World}(h:aJ B ι σ a w)(d:Option Tmp){x:SV}{v:Value}(hx:Den ι x v):
 aJ B ι (σ.put d x) (a.put d v) w:=by
 cases d with
 |none=>exact h
 |some d=>
  refine⟨?_,h.defers,h.own,h.dist,h.fresh,h.wrel,h.one⟩;rw[Act.toList_put];exact h.slots.set d hx
theorem aJ.ev{B:qE}{ι:dv}{σ:St}{a:Act}{w:World}(h:aJ B ι σ a w)(x:Operand):Den ι (σ.ev x) (a.eval x):=by
 cases x with
 |const v=>rfl
 |global g=>rfl
 |func f=>rfl
 |tmp t=>
  simp only[St.ev,jI];cases b:σ.sl[t]? with
  |none=>exact trivial
  |some x=>
   obtain⟨v,c,d⟩:=h.slots.get t x b
   have:a.eval (.tmp t)=v:=by
    simp only[Act.eval,Array.getD_eq_getD_getElem?]
    grind
   grind
theorem aJ.rho{B:qE}{ι:dv}{σ:St}{a:Act}{w:World}(h:aJ B ι σ a w){x:Operand}{v:Value}(hx:(σ.ev x).val? =some v):
 a.eval x=v:=(h.ev x).val? hx
theorem pB{ι:dv}{w:World}{v:Value}{o:Own}{b:Nat}(h:C1 ι w v o)(a:blk v=some b):b<w.heap.size:=by
 cases o with
 |cellsP p T g=>
  obtain⟨c,i,rfl,d,_⟩:=h;simp[blk]at a;grind
 |lst E j l=>
  rcases h.2.2 with⟨rfl,_⟩|⟨c,e,f,rfl,_,d,_⟩
  .simp[blk]at a
  .simp[blk]at a;grind
theorem C1.world{ι:dv}{w w':World}{v:Value}{o:Own}(h:C1 ι w v o)(f:∀b,blk v=some b->w'.heap[b]? =w.heap[b]?):C1 ι w' v o:=by
 cases o with
 |cellsP p T m=>
  obtain⟨a,g,rfl,c,i⟩:=h;exact⟨a,g,rfl,by rw[f _ rfl];exact c,i⟩
 |lst E n q=>
  refine⟨h.1,h.2.1,?_⟩;rcases h.2.2 with⟨rfl,r⟩|⟨a,d,e,rfl,j,c,l⟩
  .grind
  .exact .inr ⟨a,d,e,rfl,j,by rw[f _ rfl];exact c,l⟩
theorem C1.sub{ι:dv}{w:World}{v:Value}{o:Own}{k:Nat}{u:Value}{f:At->At}(a:∀x v,x.key=some k->xZ ι x v->xZ (upd ι k u) (f x) v)(h:C1 ι w v o):
 C1 (upd ι k u) w v (o.sub k f):=by
 cases o with
 |cellsP p T i=>
  obtain⟨b,c,rfl,d,e,g⟩:=h;exact⟨b,c,rfl,d,iK.sub a e,g⟩
 |lst E j l=>exact h
theorem pK{σ:St}{k j:Nat}{f:At->At}{b:Own}(h:nth ((σ.sub k f).setOwn k none).own j=some (some b)):
 j≠k/\∃o,nth σ.own j=some (some o)/\b=o.sub k f:=by
 simp only[St.setOwn,St.sub,yD,Ay]at h;by_cases a:j=k
 .subst a;by_cases c:j<σ.own.length
  .grind
  .simp[c,jI]at h
 .simp only[a,false_and,if_false]at h;refine⟨a,?_⟩;cases d:nth σ.own j with
  |none=>grind
  |some x=>
   cases x with
   |none=>grind
   |some o=>grind
theorem R6{ι:dv}(h:∀k,(ι k).oneCell'=true)(k:Nat){u:Value}(a:u.oneCell'=true):∀j,(upd ι k u j).oneCell'=true:=by
 intro j;unfold upd
 grind
theorem aJ.drop{B:qE}{ι:dv}{σ:St}{a:Act}{w:World}(h:aJ B ι σ a w)(k:Nat)(u:Value)(r:u.oneCell'=true)(f:At->At)
 (p:∀x v,x.key=some k->xZ ι x v->xZ (upd ι k u) (f x) v):aJ B (upd ι k u) ((σ.sub k f).setOwn k none) a w:=by
 refine⟨DenS.sub p h.slots,h.defers,?_,?_,?_,h.wrel,R6 h.one k r⟩
 .intro j q d;obtain⟨c,o,e,rfl⟩:=pK d;rw[oN _ _ c];exact(h.own j o e).sub p
 .intro j s o q b d m g i;obtain⟨c,o,e,rfl⟩:=pK d;obtain⟨l,q,n,rfl⟩:=pK m;rw[oN _ _ c]at g;rw[oN _ _ l]at i;exact h.dist j s _ _ b e n g i
 .intro j o b d g;obtain⟨c,o,e,rfl⟩:=pK d;rw[oN _ _ c]at g;exact h.fresh j o b e g
theorem MW(σ:St)(k:Nat):σ.kill k=(σ.sub k (λ_=>.junk)).setOwn k none:=rfl
theorem aJ.kill{B:qE}{ι:dv}{σ:St}{a:Act}{w:World}(h:aJ B ι σ a w)(k:Nat)(u:Value)(b:u.oneCell'=true):aJ B (upd ι k u) (σ.kill k) a w:=
 h.drop k u b _ (λ_ _ _ _=>trivial)
structure CY(S:Nat->Prop)(w w':World):Prop where
 tape:w'.tape=w.tape
 os:w'.os=w.os
 output:w'.output=w.output
 drawn:w.drawn<=w'.drawn
 size:w.heap.size<=w'.heap.size
 block:∀b,b<w.heap.size->¬S b->w'.heap[b]? =w.heap[b]?
theorem CY.refl(S:Nat->Prop)(w:World):CY S w w:=⟨rfl,rfl,rfl,Nat.le_refl _,Nat.le_refl _,λ_ _ _=>rfl⟩
theorem vN.ext{B:qE}{m:MH}{h:PH}{w w':World}{S:Nat->Prop}(a:vN B m h w)(c:CY S w w')(p:∀b,S b->(B.w0.heap.size<=b\/B.E b)/\m b=none/\∀i,h b i=none):
 vN B m h w':=by
 refine⟨c.tape.trans a.tape,c.os.trans a.os,c.output.trans a.output,dg a.drawn c.drawn,dg a.size c.size,?_,?_,?_,a.disj,a.hle,a.hold,a.mfr⟩
 .intro b f j;rw[c.block b (dh f a.size) (λg=>?_)]
  .exact a.frame b f j
  grind
 .intro b o v l;have e:=a.hsat b o v l
  have d:b<w.heap.size:=by
   unfold World.cell? at e
   grind
  have q:=c.block b d (λg=>cg);unfold World.cell? at e⊢
  grind
 .intro b o n;have e:=a.msat b o n;have d:=(Array.getElem?_eq_some_iff.1 e).1;rw[c.block b d (λg=>cg)];exact e
theorem aJ.place{B:qE}{ι:dv}{σ:St}{a:Act}{w w':World}(h:aJ B ι σ a w)(k:Nat)(o:Own)(v:Value)
 (J:CY (λb=>(∃l,nth σ.own k=some (some l))/\blk (ι k)=some b) w w')
 (N:C1 (upd ι k v) w' v o)(z:v.oneCell'=true)
 (O:∀b,blk v=some b->w.heap.size<=b\/((∃l,nth σ.own k=some (some l))/\blk (ι k)=some b)):
 aJ B (upd ι k v) ((σ.kill k).setOwn k (some o)) a w':=by
 have P:∀b,((∃l,nth σ.own k=some (some l))/\blk (ι k)=some b)->(B.w0.heap.size<=b\/B.E b)/\σ.m b=none/\∀i,σ.h b i=none:=
  λb⟨⟨l,s⟩,D⟩=>h.fresh k l b s D
 have F:=h.wrel.ext J P
 have A:∀b,blk v=some b->(B.w0.heap.size<=b\/B.E b)/\σ.m b=none/\∀i,σ.h b i=none:=by
  intro b K;rcases O b K with G|L
  .refine⟨.inl (dg h.wrel.size G),?_,?_⟩
   .cases Q:σ.m b with
    |none=>rfl
    |some R=>have:=(Array.getElem?_eq_some_iff.1 (h.wrel.msat b R Q)).1;omega
   .intro i;cases S:σ.h b i with
    |none=>rfl
    |some u=>
     have T:=h.wrel.hsat b i u S;unfold World.cell? at T
     grind
  grind
 have c:∀j l,nth ((σ.kill k).setOwn k (some o)).own j=some (some l)->
  (j=k/\l=o)\/(j≠k/\∃n,nth σ.own j=some (some n)/\l=n.sub k (λ_=>.junk)):=by
  intro j l q;simp only[MW,St.setOwn,St.sub,yD,Ay,length_set,length_map]at q;by_cases e:j=k
  .subst e;by_cases t:j<σ.own.length
   .grind
   .simp[t,jI]at q
  .simp only[e,false_and,if_false]at q;refine .inr ⟨e,?_⟩;cases W:nth σ.own j with
   |none=>grind
   |some x=>
    cases x with
    |none=>grind
    |some n=>grind
 have other:∀j n,j≠k->nth σ.own j=some (some n)->∀b,blk (ι j)=some b->blk v≠some b/\w'.heap[b]? =w.heap[b]? :=by
  intro j n e g b d;have t:=pB (h.own j n g) d;have y:¬((∃l,nth σ.own k=some (some l))/\blk (ι k)=some b):=λ⟨⟨l,s⟩,D⟩=>e (h.dist j k n l b g s d D);refine⟨λK=>?_,J.block b t y⟩
  grind
 refine⟨DenS.sub (f:=λ_=>.junk) (λ_ _ _ _=>trivial) h.slots,h.defers,?_,?_,?_,F,R6 h.one k z⟩
 .intro j l q;rcases c j l q with⟨rfl,rfl⟩|⟨e,n,g,rfl⟩
  .rw[upd_same];exact N
  .rw[oN _ _ e];refine C1.world ((h.own j n g).sub (f:=λ_=>.junk) (λ_ _ _ _=>trivial)) (λb d=>(other j n e g b d).2)
 .intro j M n U b q H d p;rcases c j n q with⟨rfl,rfl⟩|⟨e,C,g,rfl⟩<;>rcases c M U H with⟨rfl,rfl⟩|⟨r,V,I,rfl⟩
  .rfl
  .rw[upd_same]at d;rw[oN _ _ r]at p
   grind
  .rw[upd_same]at p;rw[oN _ _ e]at d
   grind
  .rw[oN _ _ e]at d;rw[oN _ _ r]at p;exact h.dist j M _ _ b g I d p
 .intro j n b q d;rcases c j n q with⟨rfl,rfl⟩|⟨e,C,g,rfl⟩
  .rw[upd_same]at d;exact A b d
  .rw[oN _ _ e]at d;exact h.fresh j C b g d
theorem aJ.adopt{B:qE}{ι:dv}{σ:St}{a:Act}{w:World}(h:aJ B ι σ a w)(k:Nat)(o:Own)(v:Value)
 (C:C1 (upd ι k v) w v o)(s:v.oneCell'=true)
 (D:∀b,blk v=some b->((B.w0.heap.size<=b\/B.E b)/\σ.m b=none/\∀i,σ.h b i=none)/\∀j q,j≠k->nth σ.own j=some (some q)->blk (ι j)≠some b):
 aJ B (upd ι k v) ((σ.kill k).setOwn k (some o)) a w:=by
 have c:∀j q,nth ((σ.kill k).setOwn k (some o)).own j=some (some q)->
  (j=k/\q=o)\/(j≠k/\∃n,nth σ.own j=some (some n)/\q=n.sub k (λ_=>.junk)):=by
  intro j q p;simp only[MW,St.setOwn,St.sub,yD,Ay,length_set,length_map]at p;by_cases d:j=k
  .subst d;by_cases u:j<σ.own.length
   .grind
   .simp[u,jI]at p
  .simp only[d,false_and,if_false]at p;refine .inr ⟨d,?_⟩;cases H:nth σ.own j with
   |none=>grind
   |some x=>
    cases x with
    |none=>grind
    |some n=>grind
 refine⟨DenS.sub (f:=λ_=>.junk) (λ_ _ _ _=>trivial) h.slots,h.defers,?_,?_,?_,h.wrel,R6 h.one k s⟩
 .intro j q p;rcases c j q p with⟨rfl,rfl⟩|⟨d,n,l,rfl⟩
  .rw[upd_same];exact C
  .rw[oN _ _ d];exact(h.own j n l).sub (f:=λ_=>.junk) (λ_ _ _ _=>trivial)
 .intro j A n F b p y e g;rcases c j n p with⟨rfl,rfl⟩|⟨d,t,l,rfl⟩<;>rcases c A F y with⟨rfl,rfl⟩|⟨r,G,z,rfl⟩
  .rfl
  .rw[upd_same]at e;rw[oN _ _ r]at g
   grind
  .rw[upd_same]at g;rw[oN _ _ d]at e
   grind
  .rw[oN _ _ d]at e;rw[oN _ _ r]at g;exact h.dist j A _ _ b l z e g
 .intro j n b p e;rcases c j n p with⟨rfl,rfl⟩|⟨d,t,l,rfl⟩
  .rw[upd_same]at e;exact(D b e).1
  .rw[oN _ _ d]at e;exact h.fresh j t b l e
theorem HU(ι:dv)(k:Nat):upd ι k (ι k)=ι:=by
 funext j;unfold upd
 grind
structure Fz(σ σ':St):Prop where
 cells:∀k p T cs,nth σ.own k=some (some (.cellsP p T cs))->∃cs',nth σ'.own k=some (some (.cellsP p T cs'))
 imm:∀b off v,σ.h b off=some v->σ'.h b off=some v
 ptr:∀x k off,σ'.ev x= .at (.ptr k off)->σ.ev x= .at (.ptr k off)
 lst:∀x k,σ'.ev x= .at (.lst k)->σ.ev x= .at (.lst k)
 m_:σ'.m=σ.m
theorem Fz.refl(σ:St):Fz σ σ:=⟨λ_ _ _ a h=>⟨a,h⟩,λ_ _ _ h=>h,λ_ _ _ h=>h,λ_ _ h=>h,rfl⟩
theorem Fz.trans{σ τ υ:St}(h:Fz σ τ)(a:Fz τ υ):Fz σ υ:=
 ⟨λk p T d e=>let⟨cs',hk'⟩:=h.cells k p T d e;a.cells k p T cs' hk',λb o v f=>a.imm b o v (h.imm b o v f),λx k o c=>h.ptr x k o (a.ptr x k o c),λx k c=>h.lst x k (a.lst x k c),a.m_.trans h.m_⟩
theorem Ym(σ:St)(k:Nat)(f:At->At)(m:MH)(h:PH)(own:fa)(x:Operand):
 St.ev {sl:=σ.sl.map (SV.sub k f),own:=own,m:=m,h:=h} x=(σ.ev x).sub k f\/(∃v,x= .const v\/(∃g,x= .global g)\/∃g,x= .func g):=by
 cases x with
 |tmp t=>
  left;simp only[St.ev,Ay];cases nth σ.sl t with
  |none=>rfl
  |some y=>rfl
 |const v=>grind
 |global g=>exact .inr ⟨undef,.inr (.inl ⟨g,rfl⟩)⟩
 |func g=>exact .inr ⟨undef,.inr (.inr ⟨g,rfl⟩)⟩
theorem bfJ{k:Nat}{f:At->At}(a:∀x j o,f x≠ .ptr j o){x:SV}{j o:Nat}(h:x.sub k f= .at (.ptr j o)):x= .at (.ptr j o):=by
 cases x with
 |«at» y=>
  cases y<;>simp only[SV.sub,At.sub,SV.at.injEq]at h⊢
  case val=>exact h
  case junk=>exact h
  all_goals
   split at h
   .exact absurd h (a _ _ _)
   .exact h
 |agg b=>simp[SV.sub]at h
 |tup c=>simp[SV.sub]at h
theorem YR{k:Nat}{f:At->At}(a:∀x j,f x≠ .lst j){x:SV}{j:Nat}(h:x.sub k f= .at (.lst j)):x= .at (.lst j):=by
 cases x with
 |«at» y=>
  cases y<;>simp only[SV.sub,At.sub,SV.at.injEq]at h⊢
  case val=>exact h
  case junk=>exact h
  all_goals
   split at h
   .exact absurd h (a _ _)
   .exact h
 |agg b=>simp[SV.sub]at h
 |tup c=>simp[SV.sub]at h
theorem aFZ{σ:St}{k:Nat}{f:At->At}{m:MH}{h:PH}(n:m=σ.m)(q:∀x j o,f x≠ .ptr j o)(d:∀x j,f x≠ .lst j)(r:∀p T cs,nth σ.own k≠some (some (.cellsP p T cs)))(s:∀b off v,σ.h b off=some v->h b off=some v):
 Fz σ {(σ.sub k f).setOwn k none with m:=m,h:=h}:=by
 refine⟨?_,s,?_,?_,n⟩
 .intro j p T cs l;have i:j≠k:=λe=>r p T cs (e▸l);refine⟨cs.map (At.sub k f),?_⟩;simp only[St.setOwn,St.sub,yD,Ay,i,false_and,if_false,l];rfl
 .intro x j off c;rcases Ym σ k f m h ((σ.sub k f).setOwn k none).own x with a|⟨v,a⟩
  .have:(σ.ev x).sub k f= .at (.ptr j off):=a▸c;exact bfJ q this
  .rcases a with rfl|⟨g,rfl⟩|⟨g,rfl⟩<;>exact c
 .intro x j c;rcases Ym σ k f m h ((σ.sub k f).setOwn k none).own x with a|⟨v,a⟩
  .have:(σ.ev x).sub k f= .at (.lst j):=a▸c;exact YR d this
  .rcases a with rfl|⟨g,rfl⟩|⟨g,rfl⟩<;>exact c
end Go.Vc
namespace Go.Vc
open Go List
theorem Bc{α:Type}(P:Program):∀(s:Sem α)(x:α),zX P s=some x->∀w,s.run P w= .ok x w:=by
 intro s
 induction s with
 |pure a=>intro x h w;simp[zX]at h;subst h;rfl
 |program k b=>intro x h w;simp only[zX]at h;simp only[Sem.run];grind
 |mark m k b=>intro x h w;simp only[zX]at h;simp only[Sem.run];grind
 |_=>intro x h w;simp[zX]at h
def Ti(C:Ctx)(ι:dv)(o:Oper)(σ:St)(K:St->Prop)(a:Act)(w:World):Prop:=
 ∃v x,(∀b,(Aq C.P o=false\/b=w)->(execOp a.eval o).run C.P b= .ok (.value v) b)/\Den ι x v/\K (σ.put o.dst x)
section
variable{B:qE}{C:Ctx}{ι:dv}{σ:St}{a:Act}{w:World}{o:Oper}{K:St->Prop}
theorem LS(d:aJ B ι σ a w):∀(l:ej),M3 σ l=true->∀x∈l,σ.rho x=a.eval x
 |[],_,x,b=>by cases b
 |y::l,h,x,b=>by
  simp only[M3]at h;cases c:(σ.ev y).val? with
  |none=>grind
  |some v=>
   simp[c]at h;rcases mem_cons.1 b with rfl|b
   .simp only[St.rho,c];exact(d.rho c).symm
   .exact LS d l h x b
theorem lL(d:aJ B ι σ a w)(e:∀cs b,o.op≠ .select cs b)(h:vT C o σ K):Ti C ι o σ K a w:=by
 unfold vT at h;split at h
 .rename_i f;have g:execOp a.eval o=execOp σ.rho o:=execOp_congr o e λx j=>(LS d _ f x cg).symm;split at h
  .rename_i v i;exact⟨v,.at (.val v),λc _=>by rw[g];exact Bc _ _ _ i c,rfl,h⟩
  grind
 grind
theorem Addr.add_none(b o j:Nat):(⟨b,o,none⟩:Addr).add j=⟨b,o+j,none⟩:=by unfold Addr.add;grind
def mkV(P:Program)(T:TypeId)(cs:dj):Value:=match Bw P T with|true=>.agg cs.toArray|false=>cs.headD undef
theorem gA{P:Program}{T:TypeId}(h:iR P T=true):∃i d,P.info? T=some i/\P.underlying T=some d/\P.cellsOf T=i.size/\0<i.size:=by
 unfold iR at h;split at h
 .rename_i d c;split at h
  .cases h
  .rename_i e;cases b:P.info? T with
   |none=>simp[Program.underlying,b]at c
   |some i=>
    have f:P.cellsOf T=i.size:=by simp[Program.cellsOf,b]
    grind
 .cases h
theorem PM{P:Program}{T:TypeId}{d:TypeDesc}(h:P.underlying T=some d)(w:World):(isAgg T).run P w= .ok (Bw P T) w:=by
 unfold isAgg Bw;rw[Sem.run_bind,run_underlying h w,h];cases d<;>rfl
theorem run_sizeOf{P:Program}{T:TypeId}{i:TypeInfo}(h:P.info? T=some i)(w:World):(sizeOf T).run P w= .ok i.size w:=by
 simp[sizeOf,typeInfo,program,Sem.run,h]
theorem zE{P:Program}{T:TypeId}{w:World}{b off:Nat}{cs:dj}(l:iR P T=true)(c:cs.length=P.cellsOf T)
 (m:∀j v,cs[j]? =some v->w.cell? ⟨b,off+j,none⟩=some v):(loadVar T ⟨b,off,none⟩).run P w= .ok (mkV P T cs) w:=by
 obtain⟨i,d,n,p,e,f⟩:=gA l;rw[e]at c;unfold loadVar;rw[Sem.run_bind,PM p];simp only[Result.andThen_ok];unfold mkV;cases g:Bw P T with
 |true=>
  have q:(loadCells ⟨b,off,none⟩ cs.length).run P w= .ok cs.toArray w:=
   run_loadCells_list (P:=P) w ⟨b,off,none⟩ cs (λj v s=>by rw[Addr.add_none];grind)
  simp[run_sizeOf n, <-c,q]
 |false=>
  cases cs with
  |nil=>grind
  |cons v r=>
   have h:=m 0 v rfl;simp only[Nat.add_zero]at h;simp[load,Sem.run,h]
theorem HE{P:Program}{T:TypeId}{ats:dz}{cs:dj}(h:iK ι ats cs):Den ι (mk P T ats) (mkV P T cs):=by
 unfold mk mkV;cases Bw P T with
 |true=>exact⟨cs.toArray,rfl,cm h⟩
 |false=>
  cases ats with
  |nil=>exact trivial
  |cons x r=>
   cases cs with
   |nil=>exact h.elim
   |cons v l=>
    cases r with
    |nil=>exact h.1
    |cons y r=>exact trivial
theorem vF(c:aJ B ι σ a w){k:Nat}{T:TypeId}{cs:dz}{p:Option Nat}(d:nth σ.own k=some (some (.cellsP p T cs))):
 ∃b vs,ι k= .pointer (some ⟨b,0,none⟩)/\w.heap[b]? =some (.cells vs T (0,0))/\iK ι cs vs.toList:=
 let⟨b,vs,h1,h2,h3,_⟩:=c.own k _ d;⟨b,vs,h1,h2,h3⟩
theorem Y2(c:aJ B ι σ a w){k q:Nat}{T:TypeId}{cs:dz}(d:nth σ.own k=some (some (.cellsP (some q) T cs))):ι k= .pointer (some ⟨q,0,none⟩):=by
 obtain⟨b,e,f,_,_,g⟩:=c.own k _ d
 grind
theorem cell_of_heap{w:World}{b o:Nat}{vs:Array Value}{T:TypeId}{c:Nat×Nat}(h:w.heap[b]? =some (.cells vs T c)):w.cell? ⟨b,o,none⟩=vs.toList[o]? :=by
 simp[World.cell?,h]
theorem PC{vs:dj}{off n j:Nat}{v:Value}(h:((vs.drop off).take n)[j]? =some v):vs[off+j]? =some v:=by
 grind
theorem Db(c:vN B σ.m σ.h w){b off:Nat}{l:dj}(h:aK σ.m σ.h b off l):∀j v,l[j]? =some v->w.cell? ⟨b,off+j,none⟩=some v:=by
 intro j v d;cases h with
 |imm e=>exact c.hsat _ _ _ (e.rd j v d)
 |lent g E i f n=>
  rw[cell_of_heap (c.msat _ _ f)]
  grind
theorem nI{xs:List dj}{sz i:Nat}{e:dj}(b:∀e∈xs,e.length=sz)(c:xs[i]? =some e)(j:Nat)(v:Value)(d:e[j]? =some v):
 xs.flatten[i*sz+j]? =some v:=by
 induction xs generalizing i with
 |nil=>simp at c
 |cons x r f=>
  have g:x.length=sz:=b x bx;cases i with
  |zero=>
   grind
  |succ i=>
   grind
theorem qY(b:aJ B ι σ a w){k:Nat}{E sz:Nat}{xs:List dj}(c:nth σ.own k=some (some (.lst E sz xs))):
 cT sz xs/\w.ownsRow 0 E sz (ι k) xs.length xs.flatten:=b.own k _ c
theorem Wt(F:aJ B ι σ a w){T:TypeId}{x:Operand}(R:o.op= .load T x)(h:Wu C o T x σ K):Ti C ι o σ K a w:=by
 have f:∀(b off:Nat)(u:dj),a.eval x= .pointer (some ⟨b,off,none⟩)->iR C.P T=true->u.length=C.P.cellsOf T->(∀j v,u[j]? =some v->w.cell? ⟨b,off+j,none⟩=some v)->
  ∀l,(Aq C.P o=false\/l=w)->(execOp a.eval o).run C.P l= .ok (.value (mkV C.P T u)) l:=by
  intro b off u q z S U l G;have G:l=w:=G.resolve_left (by simp[Aq,R]);subst G;have:=zE z S U;unfold execOp;simp only[R,q,Instr.loadAt,Instr.sureAddr,Sem.run_bind,Sem.run_pure,Result.andThen_ok,this]
 have d:=F.ev x;unfold Wu at h;split at h
 .exact h.elim
 .rename_i z;split at h
  .rename_i k off q;rw[q]at d;split at h
   .rename_i p T' u H;split at h
    .rename_i I;obtain⟨b,V,J,W,X⟩:=vF F H;obtain⟨b',r,L⟩:=d;rw[J]at r;simp only[Value.pointer.injEq,cw,Addr.mk.injEq]at r;obtain⟨rfl, -, -⟩:=r;have A:=(X.drop off).take (C.P.cellsOf T);refine⟨_,_,f b off ((V.toList.drop off).take (C.P.cellsOf T)) L z ?_ ?_,HE A,h⟩
     .rw[<-A.length];have:=Nat.le_of_ble_eq_true I;simp;omega
     .intro j v M;rw[cell_of_heap W]
      grind
    grind
   grind
  .rename_i k i sz off q;rw[q]at d;split at h
   .rename_i E s xs H;split at h
    .rename_i N;have N:=da N;subst N;obtain⟨e,Y,y,O,h⟩:=h;split at h
     .rename_i m;obtain⟨t,D⟩:=qY F H;obtain⟨b,n,c,J,L⟩:=d;refine⟨_,_,f b _ _ L z (da m) ?_,HE (iK.vals.2 rfl),h⟩;intro j v M;rw[<-O]at M;have Q:=PC M;have Z:=nI t.len Y _ _ Q;have:=D.cells (g:=b) (by rw[J];rfl) _ _ Z;rw[Addr.add_none]at this
      grind
     grind
    grind
   grind
  .rename_i b off q;rw[q]at d;obtain⟨y,O,h⟩:=h;split at h
   .rename_i m;exact⟨_,_,f b off _ d z (da m) (Db F.wrel O),HE (iK.vals.2 rfl),h⟩
   grind
  grind
theorem NP(c:aJ B ι σ a w){x:Operand}(b:o.op= .move x\/o.op= .assign x)(h:K (σ.put o.dst (σ.ev x))):Ti C ι o σ K a w:=by
 refine⟨a.eval x,σ.ev x,λd _=>?_,c.ev x,h⟩;rcases b with b|b<;>simp[execOp,b]
theorem sE{c:Bool}{A D:Prop}(h:branch c A D):(c=true/\A)\/(c=false/\D):=by
 cases c
 .exact .inr ⟨rfl,h⟩
 .exact .inl ⟨rfl,h⟩
theorem Wg(d:aJ B ι σ a w){c x y:Operand}(f:o.op= .pick c x y)(h:Wh o c x y σ K):Ti C ι o σ K a w:=by
 have b:=d.ev c;unfold Wh at h;split at h
 .rename_i t g;rw[g]at b;have b:a.eval c= .bool t:=b;rcases sE h with⟨rfl,h⟩|⟨rfl,h⟩
  .exact⟨a.eval x,σ.ev x,λe _=>by simp[execOp,f,b,asBool],d.ev x,h⟩
  .exact⟨a.eval y,σ.ev y,λe _=>by simp[execOp,f,b,asBool],d.ev y,h⟩
 grind
theorem Jp{P:Program}{T f g T':Nat}(h:Jq P T f=some (g,T')):∃c Pa,P.underlying T=some (.struct c)/\c[f]? =some Pa/\Pa.offset=g/\Pa.type=T'/\P.cellsOf T'≠0:=by
 unfold Jq at h;split at h
 .rename_i c d;split at h
  .rename_i Pa b;split at h
   .cases h
   .rename_i i;simp only[cw,Prod.mk.injEq]at h;obtain⟨rfl,rfl⟩:=h;rw[jI,dd]at b;exact⟨c,Pa,d,b,rfl,rfl,λe=>by rw[e]at i;simp at i⟩
  .cases h
 .cases h
theorem TV{P:Program}{T f g T':Nat}(h:Jq P T f=some (g,T'))(w:World)(b off:Nat):
 (Instr.fieldAt T (.pointer (some ⟨b,off,none⟩)) f).run P w= .ok (.pointer (some ⟨b,off+g,none⟩)) w:=by
 obtain⟨m,Pa,j,l,rfl,rfl,e⟩:=Jp h;cases c:P.info? Pa.type with
 |none=>simp[Program.cellsOf,c]at e
 |some i=>
  have d:i.size≠0:=by simpa[Program.cellsOf,c]using e
  simp[Instr.fieldAt,run_underlying j,l,Instr.sureAddr,fieldPlace,run_sizeOf c,d,Addr.add_none]
theorem L5(q:aJ B ι σ a w){T f:Nat}{x:Operand}(r:o.op= .fieldAddr T x f)(h:Fv C o T x f σ K):Ti C ι o σ K a w:=by
 have d:=q.ev x;unfold Fv at h;split at h
 .exact h.elim
 .rename_i g T' s
  have e:∀b off,a.eval x= .pointer (some ⟨b,off,none⟩)->∀j,(Aq C.P o=false\/j=w)->(execOp a.eval o).run C.P j= .ok (.value (.pointer (some ⟨b,off+g,none⟩))) j:=by
   intro b off l j _;unfold execOp;simp only[r,l,Sem.run_bind,TV s,Result.andThen_ok,Sem.run_pure]
  split at h
  .rename_i k off l;rw[l]at d;obtain⟨b,m,p⟩:=d;exact⟨_,.at (.ptr k (off+g)),e b off p,⟨b,m,rfl⟩,h⟩
  .rename_i k i t off l;rw[l]at d;obtain⟨b,n,c,m,p⟩:=d;exact⟨_,.at (.el k i t (off+g)),e b _ p,⟨b,n,c,m,cg⟩,h⟩
  .rename_i b off l;rw[l]at d;exact⟨_,.at (.val _),e b off d,rfl,h⟩
  grind
theorem NI(p:aJ B ι σ a w){x:Operand}(q:o.op= .nilCheck x)(h:Ho o x σ K):Ti C ι o σ K a w:=by
 have d:=p.ev x
 have e:∀j,a.eval x= .pointer (some j)->∀f,(Aq C.P o=false\/f=w)->(execOp a.eval o).run C.P f= .ok (.value (.pointer (some j))) f:=by
  intro j g f _;unfold execOp;simp[q,g]
 unfold Ho at h;split at h
 .rename_i k off g;rw[g]at d;obtain⟨b,l,m⟩:=d;exact⟨_,.at (.ptr k off),e _ m,⟨b,l,rfl⟩,h⟩
 .rename_i k i r off g;rw[g]at d;obtain⟨b,n,c,l,m⟩:=d;exact⟨_,.at (.el k i r off),e _ m,⟨b,n,c,l,rfl⟩,h⟩
 .rename_i j g;rw[g]at d;exact⟨_,.at (.val _),e _ d,rfl,h⟩
 grind
end
end Go.Vc
namespace Go.Vc
open Go List
section
variable{B:qE}{C:Ctx}{ι:dv}{σ:St}{a:Act}{w:World}{o:Oper}{K:St->Prop}
theorem A7(f:∀k,(ι k).oneCell'=true){x:SV}{v:Value}{cs:dz}(h:Den ι x v)(d:x.cells? =some cs):iK ι cs v.cells.toList:=by
 have one:∀u:Value,u.oneCell'=true->u.cells= #[u]:=λu g=>by cases u<;>first|rfl|(simp[Value.oneCell']at g)
 cases x with
 |«at» y=>
  cases y with
  |val u=>
   have h:v=u:=h;subst h;cases v<;>simp only[SV.cells?,cw,reduceCtorEq]at d<;>subst d<;>first|exact⟨rfl,trivial⟩|skip
   exact iK.vals.2 rfl
  |junk=>simp[SV.cells?]at d
  |ptr k off=>
   simp only[SV.cells?,cw]at d;subst d;obtain⟨b,e,rfl⟩:=h;exact⟨⟨b,e,rfl⟩,trivial⟩
  |lst k=>
   simp only[SV.cells?,cw]at d;subst d;have h:v=ι k:=h;rw[one v cg];exact⟨h,trivial⟩
  |el k i m off=>
   simp only[SV.cells?,cw]at d;subst d;obtain⟨b,n,c,e,rfl⟩:=h;exact⟨⟨b,n,c,e,rfl⟩,trivial⟩
 |agg l=>
  simp only[SV.cells?,cw]at d;subst d;obtain⟨p,rfl,j⟩:=h;exact j
 |tup q=>simp[SV.cells?]at d
theorem run_indexAt_slice{P:Program}{T E:TypeId}(f:P.underlying T=some (.slice E))(g:iR P E=true)(w:World)(b off len c:Nat)(k:IntKind)(n:Int)(h:0<=n)(j:n<(len:Int)):
 (Instr.indexAt T (.slice (some ⟨b,off,none⟩) len c) (.int k n)).run P w= .ok (.pointer (some ⟨b,off+n.toNat*P.cellsOf E,none⟩)) w:=by
 obtain⟨i,d,l,p,m,e⟩:=gA g;rw[m];simp[Instr.indexAt,asIntOf,run_underlying f,h,j,run_sizeOf l,Addr.add_none]
theorem run_indexAt_array{P:Program}{T E len:Nat}(e:P.underlying T=some (.array len E))(f:iR P E=true)(w:World)(b off:Nat)(k:IntKind)(n:Int)(g:0<=n)(h:n<(len:Int)):
 (Instr.indexAt T (.pointer (some ⟨b,off,none⟩)) (.int k n)).run P w= .ok (.pointer (some ⟨b,off+n.toNat*P.cellsOf E,none⟩)) w:=by
 obtain⟨i,d,j,m,l,c⟩:=gA f;rw[l];simp[Instr.indexAt,asIntOf,run_underlying e,Instr.sureAddr,g,h,run_sizeOf j,Addr.add_none]
theorem L4(s:aJ B ι σ a w){T:Nat}{x i:Operand}(z:o.op= .indexAddr T x i)(h:Fm C o T x i σ K):Ti C ι o σ K a w:=by
 have d:=s.ev x;have e:=s.ev i;unfold Fm at h;split at h
 .rename_i t n D;rw[D]at e;have e:a.eval i= .int t n:=e;split at h
  .rename_i E u;split at h
   .rename_i v
    have f:∀b off len j,a.eval x= .slice (some ⟨b,off,none⟩) len j->0<=n->n<(len:Int)->∀c,(Aq C.P o=false\/c=w)->(execOp a.eval o).run C.P c= .ok (.value (.pointer (some ⟨b,off+n.toNat*C.P.cellsOf E,none⟩))) c:=by
     intro b off len j l m p c _;unfold execOp;simp only[z,l,e,Sem.run_bind,run_indexAt_slice u v c b off len j t n m p,Result.andThen_ok,Sem.run_pure]
    split at h
    .rename_i k l;rw[l]at d;have d:a.eval x=ι k:=d;split at h
     .rename_i E' F L G;split at h
      .rename_i q;have q:=da q;obtain⟨m,p,h⟩:=h;obtain⟨y,r⟩:=qY s G;rcases r.2 with⟨A,M⟩|⟨g,j,H,A,_⟩
       .omega
       .refine⟨_,.at (.el k n.toNat F 0),f g 0 _ j cg m p,⟨g,_,j,A,?_⟩,h⟩
        grind
      grind
     grind
    .rename_i N len j l;rw[l]at d;obtain⟨b,off,rfl,m,p,h⟩:=h;exact⟨_,.at (.val _),f b off len j d m p,rfl,h⟩
    grind
   grind
  .rename_i len E u;split at h
   .rename_i v
    have f:∀b off,a.eval x= .pointer (some ⟨b,off,none⟩)->0<=n->n<(len:Int)->∀c,(Aq C.P o=false\/c=w)->(execOp a.eval o).run C.P c= .ok (.value (.pointer (some ⟨b,off+n.toNat*C.P.cellsOf E,none⟩))) c:=by
     intro b off l m p c _;unfold execOp;simp only[z,l,e,Sem.run_bind,run_indexAt_array u v c b off t n m p,Result.andThen_ok,Sem.run_pure]
    split at h
    .rename_i k off l;rw[l]at d;obtain⟨b,I,J⟩:=d;obtain⟨m,p,h⟩:=h;exact⟨_,.at (.ptr k (off+n.toNat*C.P.cellsOf E)),f b off J m p,⟨b,I,rfl⟩,h⟩
    .rename_i b off l;rw[l]at d;obtain⟨m,p,h⟩:=h;exact⟨_,.at (.val _),f b off d m p,rfl,h⟩
    grind
   grind
  grind
 grind
theorem arJ(i:aJ B ι σ a w){op:BinOp}{tx q:Nat}{x y:Operand}(j:o.op= .binOp op tx x y q)(h:Zs o op x y σ K):Ti C ι o σ K a w:=by
 have b:=i.ev x;have c:=i.ev y;unfold Zs at h;split at h
 .rename_i k n l m d e;rw[d]at b;rw[e]at c;have b:a.eval x= .int k n:=b;have c:a.eval y= .int l m:=c;split at h
  .rename_i f;have f:k=l:=of_decide_eq_true f;subst f;obtain⟨p,h⟩:=h;split at h
   .exact⟨_,.at (.val _),λg _=>by unfold execOp;simp[j,b,c,eqGuard,binOp,Op.intDiv,p],rfl,h⟩
   .exact⟨_,.at (.val _),λg _=>by unfold execOp;simp[j,b,c,eqGuard,binOp,Op.intDiv,p],rfl,h⟩
   grind
  grind
 grind
theorem SX(e:aJ B ι σ a w){tx j:Nat}{x y:Operand}(l:o.op= .binOp .add tx x y j)(h:OJ C o x y σ K):Ti C ι o σ K a w:=by
 have c:=e.ev x;have d:=e.ev y;unfold OJ at h;split at h
 .rename_i s t f g;rw[f]at c;rw[g]at d;have c:a.eval x= .string s:=c;have d:a.eval y= .string t:=d;obtain⟨n,h⟩:=h
  have i:¬((s.size+t.size:Nat):Int)>IntKind.i64.max:=by
   have:IntKind.i64.max=9223372036854775807:=bz
   omega
  exact⟨_,.at (.val _),λm _=>by unfold execOp;simp only[l,c,d,eqGuard,binOp,Op.stringOp,if_neg i];simp,rfl,h⟩
 .exact lL e (λp b=>cg) h
theorem ET(f:aJ B ι σ a w){neg:Bool}{tx l:Nat}{x y:Operand}(g:o.op= .binOp (match neg with|true=>.neq|false=>.eql) tx x y l)(h:C8 C o neg tx x y σ K):Ti C ι o σ K a w:=by
 unfold C8 at h;split at h
 .rename_i m n d e;have i:a.eval x= .agg m:=(f.ev x).val? d;have j:a.eval y= .agg n:=(f.ev y).val? e;obtain⟨r,c,h⟩:=h;refine⟨_,.at (.val _),λb _=>?_,rfl,h⟩;cases neg
  .unfold execOp;simp[g,i,j,run_eqGuard_agg _ _ _ _ _ _ _ c.guard,run_eql_struct,c.eq b]
  .unfold execOp;simp[g,i,j,run_eqGuard_agg _ _ _ _ _ _ _ c.guard,run_neq_struct,c.eq b]
 grind
theorem Zc(off:Nat):∀(l:dj)(s:Nat)(cs:Array Value),off+s+l.length<=cs.size->
 ((l.zipIdx s).foldl (λcs x=>cs.setIfInBounds (off+x.2) x.1) cs).toList=splice cs.toList (off+s) l
 |[],s,cs,_=>by simp[splice]
 |v::l,s,cs,h=>by
  simp only[de]at h;simp only[zipIdx_cons,foldl_cons];have:=Zc off l (s+1) (cs.setIfInBounds (off+s) v) cg;rw[this];simp only[Array.toList_setIfInBounds,splice,de];exact list_seg_step cs.toList (off+s) v l aC
theorem P9{place:Nat->Option (Nat×Nat)}{cells:Array Value}{i off size:Nat}{v:Value}{rest:List (Nat×Value)}(c:place i=some (off,size))(e:v.cells.size=size)(d:off+v.cells.size<=cells.size):
 Instr.fill place cells ((i,v)::rest)=Instr.fill place (splice cells.toList off v.cells.toList).toArray rest:=by
 have b:=Zc off v.cells.toList 0 cells aC;simp only[Nat.add_zero]at b;simp only[Instr.fill,c];rw[if_neg cg];congr 1;apply Array.toList_inj.1;rw[<-b];rw[<-Array.foldl_toList];simp
theorem yB{α:Type}(cs new:List α)(off:Nat)(h:off+new.length<=cs.length):(splice cs off new).length=cs.length:=by
 unfold splice;grind
theorem Ak(j:aJ B ι σ a w)(place:Nat->Option (Nat×Nat)){P:Program}{T:TypeId}(b:∀i r,partAt P T i=some r->place i=some r):
 ∀(parts:fg)(cs:dz)(cells:Array Value)(out:dz),iK ι cs cells.toList->CR P T σ parts cs=some out->
  ∃r,Instr.fill place cells (parts.map λp=>(p.1,a.eval p.2))=some r/\iK ι out r.toList
 |[],cs,cells,out,g,h=>by
  simp[CR]at h;subst h;exact⟨cells,rfl,g⟩
 |(i,x)::parts,cs,cells,out,g,h=>by
  simp only[CR]at h;split at h
  .rename_i off c new s d;split at h
   .rename_i q e;have q:=da q;have e:=Nat.le_of_ble_eq_true e;have f:=A7 j.one (j.ev x) d;have l:(a.eval x).cells.size=c:=by have:=f.length;grind
    have m:=g.length;simp at m;have:=Ak j place b parts (splice cs off new) (splice cells.toList off (a.eval x).cells.toList).toArray out (cm (g.splice off f)) h;obtain⟨r,t,n⟩:=this;refine⟨r,?_,n⟩;simp only[map_cons];rw[P9 (b i _ s) l aC];exact t
   .cases h
  .cases h
theorem Bb{P:Program}{T:TypeId}{z:dj}(h:zeroCells P T=some z):∃i v,P.info? T=some i/\i.zero=some v/\z=v.cells.toList:=by
 unfold zeroCells at h
 grind
theorem Lz{P:Program}:∀(b:List Field),(b.all λf=>(P.info? f.type).isSome)=true->
 ∃c,b.mapM (λf=>(P.info? f.type).map λi=>(f.offset,i.size))=some c/\c.length=b.length/\∀(i:Nat)(g:Field),b[i]? =some g->c[i]? =some (g.offset,P.cellsOf g.type)
 |[],_=>⟨[],bx,rfl,λi g h=>by simp at h⟩
 |f::b,h=>by
  simp only[all_cons,cz]at h;obtain⟨c,d,e,l⟩:=Lz b h.2;cases m:P.info? f.type with
  |none=>grind
  |some i=>
   refine⟨(f.offset,i.size)::c,?_,cg,?_⟩
   .simp[mapM_cons,m,d]
   .intro j g n;cases j with
    |zero=>simp at n;subst n;simp[Program.cellsOf,m]
    |succ j=>grind
theorem VN(A:aJ B ι σ a w){T:Nat}{ps:Array (Nat×Operand)}(I:o.op= .build T ps)(h:S4 C o T ps.toList σ K):Ti C ι o σ K a w:=by
 unfold S4 at h;split at h
 .rename_i z J;split at h
  .rename_i q e t;obtain⟨N,v,f,D,rfl⟩:=Bb J
   have key:∃r,C.P.built T ((ps.map λp=>(p.1,a.eval p.2)).toList)=some r/\iK ι q r.toList:=by
    unfold Ny at t;have j:iK ι (v.cells.toList.map .val) v.cells.toList:=iK.vals.2 rfl;split at t
    .rename_i L l;obtain⟨F,u,G,H⟩:=Lz L.toList t
     have b:∀i r,partAt C.P T i=some r->F.toArray[i]? =some r:=by
      intro i r c;unfold partAt at c;simp only[l]at c;split at c
      .rename_i g M;rw[jI]at M
       grind
      grind
     obtain⟨r,c,d⟩:=Ak A (λi=>F.toArray[i]?) b ps.toList _ v.cells q j e;refine⟨r,?_,d⟩;unfold Program.built;simp only[f,l,D,u];simpa using c
    .rename_i n E l;cases m:C.P.info? E with
     |none=>grind
     |some s=>
      have b:∀i r,partAt C.P T i=some r->(λi=>some (i*s.size,s.size)) i=some r:=by
       intro i r c;unfold partAt at c;simp only[l,Program.cellsOf,m]at c
       grind
      obtain⟨r,c,d⟩:=Ak A (λi=>some (i*s.size,s.size)) b ps.toList _ v.cells q j e;refine⟨r,?_,d⟩;unfold Program.built;simp only[f,l,D,m];simpa using c
    grind
   obtain⟨r,c,d⟩:=key;refine⟨.agg r,.agg q,λy _=>?_,⟨r,rfl,d⟩,h⟩;unfold execOp;simp only[I,Sem.run_bind,run_build y T _ r c,Result.andThen_ok,Sem.run_pure]
  grind
 grind
theorem aeQ(m:aJ B ι σ a w){x:Operand}{c:Call}(s:o.op= .call c)(u:c.callee= .builtin .len)(hx:c.args.toList=[x])
 (h:aEJ C o x c.argTypes.toList σ K):Ti C ι o σ K a w:=by
 unfold aEJ at h;split at h
 .rename_i k y;split at h
  .rename_i E I z i f
   have n:∃t E,c.argTypes[0]? =some t/\C.P.underlying t=some (.slice E):=by
    unfold Ut at f;split at f
    .rename_i t r l;split at f
     .rename_i E A;exact⟨t,E,by rw[<-dd,l];rfl,A⟩
     grind
    grind
   obtain⟨t,E',l,v⟩:=n;have d:=m.ev x;rw[y]at d;have d:a.eval x=ι k:=d;obtain⟨p,j⟩:=qY m i;have e:c.args= #[x]:=cg
   refine⟨.int .i64 z.length,.at (.val _),λD _=>?_,rfl,h⟩;rcases j.2 with⟨q,F⟩|⟨g,G,H,q,_⟩
   .unfold execOp;simp[s,resolve,u,invoke,builtin,Builtin.len_,e,l,d,q,run_underlying v,goInt,F]
   .unfold execOp;simp[s,resolve,u,invoke,builtin,Builtin.len_,e,l,d,q,run_underlying v,goInt]
  grind
 .exact lL m (λJ b=>cg) h
theorem TU{P:Program}{T:TypeId}{cs:Array Value}{off:Nat}(g:iR P T=true)(b:off+P.cellsOf T<=cs.size)(w:World):
 (part T cs off).run P w= .ok (mkV P T ((cs.toList.drop off).take (P.cellsOf T))) w:=by
 obtain⟨i,d,h,j,l,f⟩:=gA g;unfold part mkV;rw[Sem.run_bind,PM j];simp only[Result.andThen_ok];rw[l]at b⊢
 cases Bw P T with
 |true=>
  simp only[if_true,Sem.run_bind,run_sizeOf h,Result.andThen_ok,Sem.run_pure];congr 2
  grind
 |false=>
  have c:off<cs.size:=by omega
  have e:(cs.toList.drop off)=cs[off]::cs.toList.drop (off+1):=by
   rw[<-getElem_cons_drop aC];simp
  simp only[Bool.false_eq_true,if_false,Array.getElem?_eq_getElem c];rw[e];cases m:i.size with
  |zero=>omega
  |succ n=>simp
theorem UE(p:aJ B ι σ a w){T f:Nat}{x:Operand}(z:o.op= .field T x f)(h:SL C o T x f σ K):Ti C ι o σ K a w:=by
 unfold SL at h;split at h
 .rename_i g T' u A q i;split at h
  .rename_i d;simp only[cz]at d;have v:=Nat.le_of_ble_eq_true d.1;have j:=A7 p.one (p.ev x) q;obtain⟨F,Pa,D,r,rfl,rfl,G⟩:=Jp A
   have E:∃c,a.eval x= .agg c:=by
    have b:=p.ev x;split at i
    .rename_i l s;rw[s]at b;obtain⟨c,e,_⟩:=b;grind
    .rename_i c s;rw[s]at b;exact⟨c,b⟩
    grind
   obtain⟨c,m⟩:=E;rw[m]at j;have j:iK ι u c.toList:=j;have y:u.length=c.size:=by have:=j.length;omega
   have n:Pa.offset+C.P.cellsOf Pa.type<=c.size:=by omega
   refine⟨_,_,λt _=>?_,HE ((j.drop Pa.offset).take (C.P.cellsOf Pa.type)),h⟩;unfold execOp;simp only[z,Instr.field,Sem.run_bind,run_underlying D,Result.andThen_ok,r,m,asAgg,Sem.run_pure,TU d.2 n t]
  grind
 grind
theorem Jv:∀{xs:List (Sum At dz)}{vs:dj}(_:O7 ι xs vs)(i:Nat)(y:Sum At dz),xs[i]? =some y->∃v,vs[i]? =some v/\Den ι (match y with|.inl x=>.at x|.inr cs=>.agg cs) v
 |[],[],_,i,y,b=>by simp at b
 |.inl x::_,v::_,h,0,y,b=>by simp at b;subst b;exact⟨v,rfl,h.1⟩
 |.inr cs::_,v::_,h,0,y,b=>by simp at b;subst b;exact⟨v,rfl,h.1⟩
 |.inl _::_,_::_,h,i+1,y,b=>by simp at b⊢;exact Jv h.2 i y b
 |.inr _::_,_::_,h,i+1,y,b=>by simp at b⊢;exact Jv h.2 i y b
 |[],_::_,h,_,_,_=>h.elim
 |.inl _::_,[],h,_,_,_=>h.elim
 |.inr _::_,[],h,_,_,_=>h.elim
theorem Pm(m:aJ B ι σ a w){x:Operand}{i:Nat}(q:o.op= .extract x i)(h:KY C o x i σ K):Ti C ι o σ K a w:=by
 have g:=m.ev x;unfold KY at h;split at h
 .rename_i t r;rw[r]at g;obtain⟨s,l,n⟩:=g
  have d:∀v,s.toList[i]? =some v->∀c,(Aq C.P o=false\/c=w)->(execOp a.eval o).run C.P c= .ok (.value v) c:=by
   intro v f c _;unfold execOp;rw[dd]at f;simp[q,l,Instr.extract,f]
  split at h
  .rename_i y j;rw[jI]at j;obtain⟨v,f,e⟩:=Jv n i _ j;exact⟨v,.at y,d v f,e,h⟩
  .rename_i p j;rw[jI]at j;obtain⟨v,f,e⟩:=Jv n i _ j;exact⟨v,.agg p,d v f,e,h⟩
  grind
 .exact lL m (λp b=>cg) h
theorem LH{P:Program}{E:TypeId}{cs:dz}{n:Int}{Q:SV->Prop}:∀(f i:Nat),SG P E cs n Q f i->(i:Int)<=n->n<((i+f:Nat):Int)->
 Q (mk P E ((cs.drop (n.toNat*P.cellsOf E)).take (P.cellsOf E)))
 |0,i,_,c,d=>by omega
 |f+1,i,h,c,d=>by
  simp only[SG]at h;rcases sE h with⟨e,b⟩|⟨e,b⟩
  .grind
  .have:n≠(i:Int):=cg
   exact LH f (i+1) b aC aC
theorem Uv(m:aJ B ι σ a w){T:Nat}{x i:Operand}(J:o.op= .index T x i)(h:SE C o T x i σ K):Ti C ι o σ K a w:=by
 have c:=m.ev i;unfold SE at h;split at h
 .rename_i u n len E v y;rw[v]at c;have c:a.eval i= .int u n:=c;split at h
  .rename_i L z;split at h
   .rename_i g M p;have g:=da g;obtain⟨A,R,h⟩:=h;have q:=A7 m.one (m.ev x) z
    have S:∃j,a.eval x= .agg j:=by
     have f:=m.ev x;split at p
     .rename_i l D;rw[D]at f;obtain⟨j,e,_⟩:=f;grind
     .rename_i j D;rw[D]at f;exact⟨j,f⟩
     grind
    obtain⟨j,r⟩:=S;rw[r]at q;have q:iK ι L j.toList:=q;have F:L.length=j.size:=by have:=q.length;omega
    obtain⟨X,d,G,U,N,O⟩:=gA M;have V:=LH len 0 h aC aC;refine⟨_,_,λt _=>?_,HE ((q.drop (n.toNat*C.P.cellsOf E)).take (C.P.cellsOf E)),V⟩
    have H:n.toNat*C.P.cellsOf E+C.P.cellsOf E<=j.size:=by
     rw[<-F,g, <-Nat.succ_mul];exact Nat.mul_le_mul_right _ aC
    have Q:=TU M H t;unfold execOp;rw[N]at Q;simp only[J,Instr.index,c,asIntOf,Sem.run_bind,Sem.run_pure,run_underlying y,Result.andThen_ok,r,A,R,and_self,if_true,run_sizeOf G,Q,N]
   grind
  grind
 .rename_i u n v y;rw[v]at c;have c:a.eval i= .int u n:=c;split at h
  .rename_i s W;have f:=m.ev x;rw[W]at f;have f:a.eval x= .string s:=f;obtain⟨A,b,Y,h⟩:=h;refine⟨_,.at (.val _),λt _=>?_,rfl,h⟩
   have I:s[n.toNat]? =some b:=by
    have:s[n.toNat]? =s.data[n.toNat]? :=by
     simp only[getElem?_def];rfl
    grind
   unfold execOp;simp[J,Instr.index,c,asIntOf,run_underlying y,f,A,I]
  grind
 grind
end
end Go.Vc
namespace Go.Vc
open Go List
section
variable{B:qE}{C:Ctx}{ι:dv}{σ:St}{a:Act}{w:World}{o:Oper}{K:St->Prop}
theorem Ev{P:Program}{l:World}{src d E E' sz:Nat}{x:Operand}{v:Value}{c:dw}(s:o.op= .convert src d x)(t:P.underlying src=some (.slice E))(p:P.underlying E=some (.int .u8))(u:P.underlying d=some .string)
 (m:a.eval x=v)(f:l.ownsRow 0 E' sz v (bP c).length (bP c).flatten):(execOp a.eval o).run P l= .ok (.value (.string ⟨c.toArray⟩)) l:=by
 have h:(bP c).length=c.length:=by simp[bP]
 rcases f.2 with⟨q,y⟩|⟨g,r,A,q,_⟩
 .rw[h]at y;have:c=[]:=eq_nil_of_length_eq_zero y;subst this;unfold execOp;simp only[s,m,q,Sem.run_bind,run_convert_bytes_nil l src E t p 0 0 d u,Result.andThen_ok,Sem.run_pure];rfl
 .have n:strOfNums (c.map λb=>(b.toNat:Int))=⟨c.toArray⟩:=by
   unfold strOfNums;congr 1;simp[Function.comp_def]
  have j:∀i,i<c.length->l.cell? ⟨g,0+i,none⟩=some (.int .u8 ((c.map λb=>(b.toNat:Int)).getD i 0)):=by
   intro i D
   have F:(bP c).flatten[i*1+0]? =some (.int .u8 (c[i].toNat:Int)):=
    nI (sz:=1) (e:=[.int .u8 (c[i].toNat:Int)]) (λe p=>by obtain⟨b,_,rfl⟩:=mem_map.1 p;rfl) (by simp[bP,D]) 0 _ rfl
   have:=f.cells (g:=g) (by rw[q];rfl) _ _ F;rw[Addr.add_none]at this
   grind
  have z:=run_convert_bytes_arg (P:=P) l src E t p g 0 c.length r (c.map λb=>(b.toNat:Int)) bx j d u;rw[n]at z;unfold execOp;simp only[s,m,q,h,Sem.run_bind,z,Result.andThen_ok,Sem.run_pure]
theorem Pn(i:aJ B ι σ a w){src e:Nat}{x:Operand}(m:o.op= .convert src e x)(h:K2 C o src e x σ K):Ti C ι o σ K a w:=by
 unfold K2 at h;split at h
 .rename_i k p;split at h
  .rename_i E' s t E f n q;split at h
   .rename_i r;obtain⟨u,rfl,h⟩:=h;have d:=i.ev x;rw[p]at d;have d:a.eval x=ι k:=d;obtain⟨j,g⟩:=qY i f;refine⟨_,.at (.val _),λl c=>?_,rfl,h⟩;have c:l=w:=c.resolve_left (by simp[Aq,m,n]);rw[c];exact Ev m n r q d g
   grind
  grind
 .exact lL i (λv b=>cg) h
structure HO(σ:St)(ι:dv)(o:Oper)(w w':World):Prop where
 cells:∀k p T cs b,nth σ.own k=some (some (.cellsP p T cs))->yA σ o k=false->ι k= .pointer (some ⟨b,0,none⟩)->w'.heap[b]? =w.heap[b]?
 imm:∀b off v,σ.h b off=some v->w'.cell? ⟨b,off,none⟩=some v
 ext:zH o.op=true->∀b,b<w.heap.size->w'.heap[b]? =w.heap[b]?
 args:∀l b,sD o=some l->b<w.heap.size->σ.m b=none->(∀x∈l,∀k,(σ.ev x= .at (.lst k)\/∃off,σ.ev x= .at (.ptr k off))->blk (ι k)≠some b)->w'.heap[b]? =w.heap[b]?
def Tw(B:qE)(C:Ctx)(ι:dv)(o:Oper)(σ:St)(K:St->Prop)(a:Act)(w:World):Prop:=
 ∀(next:Act->World->Prop)(Q:Exit->Act->World->Prop),(∀e c d b,aJ B e c d b->K c->HO σ ι o w b->next d b)->o.wp C.P a w next Q
theorem D8(f:aJ B ι σ a w){w':World}(j:Nat)(z:(∃p T cs,nth σ.own j=some (some (.cellsP p T cs)))->yA σ o j=true)
 (q:∀b,b<w.heap.size->¬((∃g,nth σ.own j=some (some g))/\blk (ι j)=some b)->w'.heap[b]? =w.heap[b]?)(s:zH o.op=true->∀b,b<w.heap.size->w'.heap[b]? =w.heap[b]?)
 (t:∀l,sD o=some l->∀b,b<w.heap.size->w'.heap[b]? =w.heap[b]?):HO σ ι o w w':=by
 refine⟨?_,?_,s,λl b h i _ _=>t l h b i⟩
 .intro k p T cs b r A u;have m:=f.own k _ r;have e:blk (ι k)=some b:=by rw[u];rfl
  refine q b (pB m e) ?_;rintro⟨⟨g,c⟩,d⟩;have:=f.dist k j _ _ b r c e d
  grind
 .intro b off v y;have h:=f.wrel.hsat b off v y;have n:b<w.heap.size:=World.block_lt_of_cell? w ⟨b,off,none⟩ h
  have i:=q b n (by
   rintro⟨⟨g,c⟩,d⟩;have:=(f.fresh j g b c d).2.2 off
   grind)
  rw[<-h];exact World.cell?_of_block (w:=w) (w':=w') (a:=⟨b,off,none⟩) i
theorem BH{d:Nat}(b:o.dst=some d):yA σ o d=true:=by
 unfold yA;simp[b]
theorem j9(w:World)(ob:Obj):(w.alloc ob).heap[w.heap.size]? =some ob:=by
 show(w.heap.push ob)[w.heap.size]? =_;simp
theorem fK(w:World)(ob:Obj){b:Nat}(h:b<w.heap.size):(w.alloc ob).heap[b]? =w.heap[b]? :=by
 show(w.heap.push ob)[b]? =_
 grind
theorem V9(S:Nat->Prop)(w:World)(ob:Obj):CY S w (w.alloc ob):=
 ⟨rfl,rfl,rfl,Nat.le_refl _,by show w.heap.size<=(w.heap.push ob).size;simp,λb c _=>fK w ob c⟩
theorem FP(h:aJ B ι σ a w){d:Nat}(i:o.dst=some d){ob:Obj}{g:Own}{v:Value}{x:SV}(q:blk v=some w.heap.size)(f:v.oneCell'=true)
 (m:C1 (upd ι d v) (w.alloc ob) v g)(hx:Den (upd ι d v) x v)
 {next:Act->World->Prop}(c:∀n j l w',aJ B n j l w'->K j->HO σ ι o w w'->next l w')
 (p:K (((σ.kill d).setOwn d (some g)).put (some d) x)):next (a.put o.dst v) (w.alloc ob):=by
 rw[i];refine c (upd ι d v) _ _ _ ?_ p ?_
 .refine aJ.put ?_ (some d) hx;exact h.place d g v (V9 _ w ob) m f (λb e=>cg)
 .exact D8 h d (λ_=>BH i) (λb e _=>fK w ob e) (λ_ b e=>fK w ob e) (λ_ _ b e=>fK w ob e)
theorem VQ(g:aJ B ι σ a w){T:Nat}(i:o.op= .alloc T)(h:S8 C o T σ K):Tw B C ι o σ K a w:=by
 intro next Q b
 unfold S8 at h;split at h
 .rename_i d z j l;obtain⟨n,v,f,m,rfl⟩:=Bb l
  have c:(execOp a.eval o).run C.P w= .ok (.value (.pointer (some ⟨w.heap.size,0,none⟩))) (w.alloc (.cells v.cells T)):=by
   unfold execOp;simp[i,Instr.alloc,zeroValue,typeInfo,f,m,newVar,newRow]
  unfold Oper.wp;rw[c,Oper.upon_value];refine FP g j rfl rfl ?_ (x:=.at (.ptr d 0)) ⟨w.heap.size,bx,rfl⟩ b h;exact⟨w.heap.size,v.cells,rfl,j9 _ _,iK.vals.2 rfl,λ_ e=>by cases e⟩
 grind
theorem RN(g:aJ B ι σ a w){T:Nat}{x:Operand}(j:o.op= .box T x)(h:Zw o T x σ K):Tw B C ι o σ K a w:=by
 intro next Q b
 unfold Zw at h;split at h
 .rename_i d m l i
  have c:(execOp a.eval o).run C.P w= .ok (.value (.pointer (some ⟨w.heap.size,0,none⟩))) (w.alloc (.cells (a.eval x).cells T)):=by
   unfold execOp;simp[j,Instr.box,newVar,newRow]
  unfold Oper.wp;rw[c,Oper.upon_value];refine FP g l rfl rfl ?_ (x:=.at (.ptr d 0)) ⟨w.heap.size,bx,rfl⟩ b h;exact⟨w.heap.size,_,rfl,j9 _ _,iK.sub (f:=λ_=>.junk) (λ_ _ _ _=>trivial) (A7 g.one (g.ev x) i),λ_ e=>by cases e⟩
 grind
end
end Go.Vc
namespace Go.Vc
open Go List
section
variable{B:qE}{C:Ctx}{ι:dv}{σ:St}{a:Act}{w:World}{o:Oper}{K:St->Prop}
theorem bkX(z:aJ B ι σ a w){k E sz:Nat}{xs:List dj}(M:nth σ.own k=some (some (.lst E sz xs))):
 ∃(s:Sl)(f:PH),PH.le σ.h f/\bN f s sz xs/\ι k=s.val/\
  aJ B ι {(σ.sub k (λ |.lst _=>.val s.val|_=>.junk)).setOwn k none with h:=f} a w/\
  Fz σ {(σ.sub k (λ |.lst _=>.val s.val|_=>.junk)).setOwn k none with h:=f}:=by
 obtain⟨q,l⟩:=qY z M;have F:∀p T S,nth σ.own k≠some (some (.cellsP p T S)):=λp T S e=>cg
 have n:∀(s:Sl),ι k=s.val->aJ B ι ((σ.sub k (λ |.lst _=>.val s.val|_=>.junk)).setOwn k none) a w:=by
  intro s L
  have:=z.drop k (ι k) (z.one k) (λ |.lst _=>.val s.val|_=>.junk) (by
   intro x v G N;cases x<;>simp only[At.key,cw,reduceCtorEq]at G
   case ptr=>trivial
   case el=>trivial
   case lst j=>
    subst G;have N:v=ι j:=N;show v=s.val;rw[N,L])
  rwa [HU]at this
 rcases l.2 with⟨r,V⟩|⟨g,t,W,r,_,hg,H,X,Y,O⟩
 .have G:xs=[]:=eq_nil_of_length_eq_zero V;refine⟨⟨none,0,0⟩,σ.h,⟨λ_ _ _ h=>h⟩,⟨by simp[G],.inl G,Nat.le_refl _⟩,r,n _ r,?_⟩;exact aFZ (m:=σ.m) (h:=σ.h) rfl (λx j o=>cg) (λx j=>cg) F (λ_ _ _ h=>h)
 .have P:=z.fresh k _ g M (by rw[r];rfl)
  let f:PH:=λb o=>if b=g then xs.flatten[o]? else σ.h b o
  have u:∀b o v,σ.h b o=some v->f b o=some v:=by
   grind
  have L:ι k=Sl.val ⟨some ⟨g,0,none⟩,xs.length,t⟩:=r;refine⟨⟨some ⟨g,0,none⟩,xs.length,t⟩,f,⟨u⟩,⟨rfl,.inr ⟨g,0,rfl,?_⟩,H⟩,L,?_,?_⟩
  .intro i e Z;constructor;intro j v A;show(if g=g then _ else _)=_;rw[if_pos rfl,Nat.zero_add];exact nI q.len Z j v A
  .have c:=n _ L
   have y:∀j I,nth ((σ.sub k (λ |.lst _=>.val (Sl.val ⟨some ⟨g,0,none⟩,xs.length,t⟩)|_=>.junk)).setOwn k none).own j=some (some I)->blk (ι j)≠some g:=by
    intro j I A J;obtain⟨Q,o1,R,_⟩:=pK A;exact Q (z.dist j k _ _ g R M J (by rw[r];rfl))
   refine⟨c.slots,c.defers,c.own,c.dist,?_,?_,c.one⟩
   .intro j I b A J;obtain⟨h1,h2,h3⟩:=c.fresh j I b A J;refine⟨h1,h2,λi=>?_⟩;show(if b=g then _ else _)=_;rw[if_neg (λe:b=g=>y j I A cg)];exact h3 i
   .have d:=z.wrel;refine⟨d.tape,d.os,d.output,d.drawn,d.size,d.frame,?_,d.msat,?_,λb o v h=>u b o v (d.hle b o v h),?_,d.mfr⟩
    .intro b off v D;have D:(if b=g then xs.flatten[off]? else σ.h b off)=some v:=D;by_cases e:b=g
     .subst e;rw[if_pos rfl]at D;have:=l.cells (g:=b) (by rw[r];rfl) off v D
      rwa [Addr.add_none,Nat.zero_add]at this
     .rw[if_neg e]at D;exact d.hsat b off v D
    .intro b ob U i;show(if b=g then _ else _)=_;rw[if_neg (λe=>by subst e;have:=P.2.1;simp only[St.setOwn,St.sub]at U;grind)];exact d.disj b ob U i
    .intro b J hE;funext i;show(if b=g then _ else _)=_;rw[if_neg (λe=>cg)];exact congrFun (d.hold b J hE) i
  .exact aFZ (m:=σ.m) (h:=f) rfl (λx j o=>cg) (λx j=>cg) F u
theorem nH:∀(ks:eh)(σ:St),aJ B ι σ a w->tT σ K ks->∃b,aJ B ι b a w/\K b/\Fz σ b
 |[],σ,e,h=>⟨σ,e,h,Fz.refl σ⟩
 |k::ks,σ,e,h=>by
  simp only[tT]at h;split at h
  .rename_i E p q l;obtain⟨s,m,f,c,_,g,i⟩:=bkX e l;obtain⟨b,j,n,d⟩:=nH ks _ g (h s m f c);exact⟨b,j,n,i.trans d⟩
  grind
theorem Fx{P:Program}{T E:Nat}{z:dj}(h:elemOf P T=some (E,z)):
 ∃i v,P.underlying T=some (.slice E)/\P.info? E=some i/\i.zero=some v/\z=v.cells.toList/\v.cells.size=i.size/\P.cellsOf E=i.size/\0<i.size/\∀u∈z,u.oneCell'=true:=by
 unfold elemOf at h;split at h
 .rename_i E' e;split at h
  .rename_i f c;split at h
   .rename_i b g j;simp only[cw,Prod.mk.injEq]at h;obtain⟨rfl,rfl⟩:=h;obtain⟨i,v,d,l,rfl⟩:=Bb c;have m:P.cellsOf E'=i.size:=by simp[Program.cellsOf,d]
    have b:=da b
    grind
   .cases h
  .cases h
 .cases h
theorem cX{sz:Nat}:∀{xs:List dj},(∀e∈xs,e.length=sz)->xs.flatten.length=xs.length*sz
 |[],_=>bx
 |x::xs,h=>by
  rw[flatten_cons,ct,cX (λe b=>h e (by simp[b])),h x bx,de,Nat.succ_mul];omega
theorem Ez(t:aJ B ι σ a w){sz:Nat}(v:0<sz):∀(parts:fg)(es:List dj)(out:List dj),cT sz es->CQ σ sz parts es=some out->
 cT sz out/\out.length=es.length/\Instr.fill (λi=>some (i*sz,sz)) es.flatten.toArray (parts.map λp=>(p.1,a.eval p.2))=some out.flatten.toArray
 |[],es,out,j,h=>by simp[CQ]at h;subst h;exact⟨j,rfl,rfl⟩
 |(i,x)::parts,es,out,j,h=>by
  simp only[CQ]at h;split at h
  .rename_i m z;split at h
   .rename_i l A;split at h
    .rename_i b f D;have b:=da b;have f:=Nat.le_of_ble_eq_true f;have s:=A7 t.one (t.ev x) z;rw[CH A,iK.vals]at s
     have F:∀u∈l,u.oneCell'=true:=by
      intro u M;have G:=CH A;clear s A
      have:∀(m:dz),sF m=true->∀x∈m,x.storable=true:=by
       intro m
       induction m with
       |nil=>grind
       |cons y r H=>
        intro I x N;simp only[sF]at I
        grind
      have d:=this m D (.val u) cg;cases u<;>first|rfl|(simp[At.storable]at d)
     have E:cT sz (es.set i l):=by
      constructor
      .intro e n;rcases mem_or_eq_of_mem_set n with d|d
       .exact j.len e d
       grind
      .intro e n;rcases mem_or_eq_of_mem_set n with d|d
       .exact j.one e d
       grind
     obtain⟨d,O,J⟩:=Ez t v parts (es.set i l) out E h;refine⟨d,cg,?_⟩;simp only[map_cons]
     have g:∀(es:List dj)(i:Nat),(∀e∈es,e.length=sz)->i<es.length->splice es.flatten (i*sz) l=(es.set i l).flatten:=by
      intro es
      induction es with
      |nil=>grind
      |cons e r H=>
       intro i c P;have n:e.length=sz:=c e bx;cases i with
       |zero=>
        simp only[splice,Nat.zero_mul,take_zero,nil_append,Nat.zero_add,flatten_cons,set_cons_zero,b]
        grind
       |succ i=>
        have:=H i (λe n=>c e (by simp[n])) cg;simp only[flatten_cons,set_cons_succ, <-this,splice];have L:(i+1)*sz=e.length+i*sz:=cg
        rw[L,take_length_add_append,show e.length+i*sz+l.length=e.length+(i*sz+l.length)by omega,drop_length_add_append];simp
     have q:=cX j.len;rw[P9 rfl cg (by rw[<-Array.length_toList,s];simp only[size_toArray,q,b];rw[<-Nat.succ_mul];exact Nat.mul_le_mul_right _ f),s];rw[g es i j.len aC];exact J
    .cases h
   .cases h
  .cases h
end
end Go.Vc
namespace Go.Vc
open Go List
section
variable{B:qE}{C:Ctx}{ι:dv}{σ:St}{a:Act}{w:World}{o:Oper}{K:St->Prop}
theorem Jj{z:Array Value}{sz:Nat}(b:z.size=sz)(f:0<sz)(n:Nat):(madeCells z (n*sz)).toList=(replicate n z.toList).flatten:=by
 apply ext_getElem?;intro j;by_cases g:j<n*sz
 .have h:j/sz<n:=Nat.div_lt_of_lt_mul cg;have c:j%sz<sz:=Nat.mod_lt _ f;have d:=nI (xs:=replicate n z.toList) (sz:=sz) (i:=j/sz) (e:=z.toList) (λe l=>cg) (by simp[h]) (j%sz) z[j%sz] (by simp[b,c]);rw[show j/sz*sz+j%sz=j by rw[Nat.mul_comm];exact Nat.div_add_mod j sz]at d;rw[d];simp[madeCells,g,b,c]
 .rw[getElem?_eq_none,getElem?_eq_none]
  .rw[cX (sz:=sz) (λe l=>cg)];simp;omega
  .simp[madeCells];omega
theorem oO{z:dj}{sz:Nat}(c:z.length=sz)(d:∀u∈z,u.oneCell'=true)(n:Nat):cT sz (replicate n z):=
 ⟨λe b=>cg,λe b=>cg⟩
theorem Nb{τ:St}(d:Fz σ τ){k:Nat}(h:yA σ o k=false):yA τ o k=false:=by
 have i:∀(l:ej)(j:Nat),j∈nZ τ l->j∈nZ σ l:=by
  intro l
  induction l with
  |nil=>intro j b;cases b
  |cons x r m=>
   intro j b
   have e:∀(υ:St)(j:Nat),j∈nZ υ (x::r)↔(∃off,υ.ev x= .at (.ptr j off))\/j∈nZ υ r:=by
    intro υ j;simp only[nZ]
    grind
   rw[e]at b⊢
   rcases b with⟨off,b⟩|b
   .exact .inl ⟨off,d.ptr _ _ _ b⟩
   grind
 unfold yA at h⊢
 rw[Bool.or_eq_false_iff]at h⊢
 refine⟨h.1,?_⟩;have c:=h.2;split at c
 .rename_i t x v f;split
  .rename_i j off g;rw[d.ptr _ _ _ g]at c;exact c
  .rfl
 .grind
 .rfl
theorem HO.of_fz{τ:St}{w':World}(c:Fz σ τ)(h:HO τ ι o w w'):HO σ ι o w w':=
 ⟨λk p T f b d g i=>let⟨cs',hk'⟩:=c.cells k p T f d;h.cells k p T cs' b hk' (Nb c g) i,λb off v j=>h.imm b off v (c.imm b off v j),h.ext,λl b m n q r=>h.args l b m n (by rw[c.m_];exact q) (λx s k d=>r x s k (d.imp (c.lst x k) (λ⟨off,e⟩=>⟨off,c.ptr x k off e⟩)))⟩
theorem acJ(ps:Array (Nat×Operand))(a:Act):(ps.map fun(i,x)=>(i,a.eval x)).toList=ps.toList.map λp=>(p.1,a.eval p.2):=bx
theorem K7(G:aJ B ι σ a w){T n:Nat}{ps:Array (Nat×Operand)}(H:o.op= .buildSlice T n ps)(h:El C o T n ps.toList σ K):Tw B C ι o σ K a w:=by
 intro next Q f
 unfold El at h;obtain⟨τ,l,h,t⟩:=nH _ _ G h;split at h
 .rename_i d E z I J;split at h
  .rename_i j m g;obtain⟨r,v,A,D,L,rfl,u,M,e,p⟩:=Fx J;rw[M]at m g h;have g:=Nat.le_of_ble_eq_true g;obtain⟨s,c,b⟩:=Ez l e ps.toList _ j (oO aC p n) m;simp only[length_replicate]at c
   have q:(execOp a.eval o).run C.P w= .ok (.value (.slice (some ⟨w.heap.size,0,none⟩) n n)) (w.alloc (.cells j.flatten.toArray E)):=by
    have N:(Instr.buildSlice T n (ps.map fun(i,x)=>(i,a.eval x))).run C.P w= .ok (.slice (some ⟨w.heap.size,0,none⟩) n n) (w.alloc (.cells j.flatten.toArray E)):=by
     by_cases F:n*r.size=0
     .have O:n=0:=by rcases Nat.mul_eq_zero.1 F with h|h<;>omega
      subst O;have:j=[]:=eq_nil_of_length_eq_zero c;subst this;simp only[replicate_zero,flatten_nil]at b;have y:Array.map (λ_:Nat=>(default:Value)) (Array.range 0)= #[]:=cg
      simp[Instr.buildSlice,run_underlying A,run_sizeOf D,newRow];rw[y,b];simp
     .refine run_buildSlice w T E n _ j.flatten.toArray r v A D L aC F ?_
      have:((Array.range (n*r.size)).map (v.cells[· %v.cells.size]!))=(replicate n v.cells.toList).flatten.toArray:=by
       apply Array.toList_inj.1;have:=Jj u e n;unfold madeCells at this;rw[this]
      rw[this,acJ];exact b
    unfold execOp;simp only[H,Sem.run_bind,N,Result.andThen_ok,Sem.run_pure]
   unfold Oper.wp;rw[q,Oper.upon_value];refine FP l I rfl rfl ?_ (x:=.at (.lst d)) (by show _=_;simp) (λR S U V W X Y=>f R S U V W X (Y.of_fz t)) h;refine⟨s,cX s.len,.inr ⟨w.heap.size,n,j.flatten.toArray,by rw[c],Nat.zero_le _,j9 _ _,aC,?_,?_,?_⟩⟩
   .have:n<=n*r.size:=Nat.le_mul_of_pos_right n e;unfold maxLen;omega
   .simp only[size_toArray,cX s.len,c]
   .rw[cu];rw[cX s.len];omega
  grind
 grind
theorem L3(s:aJ B ι σ a w){T:Nat}{l c:Operand}(J:o.op= .makeSlice T l c)(h:Ff C o T l c σ K):Tw B C ι o σ K a w:=by
 intro next Q f
 have p:=s.ev l;have q:=s.ev c;unfold Ff at h;split at h
 .rename_i d E z F n G m L M t u;rw[t]at p;rw[u]at q;have p:a.eval l= .int F n:=p;have q:a.eval c= .int G m:=q;obtain⟨r,v,N,H,O,rfl,y,A,i,b⟩:=Fx M;obtain⟨R,S,I,U,h⟩:=h;rw[A]at h;have D:C.P.bytesOf E=r.bytes:=by simp[Program.bytesOf,H]
  rw[D,Int.mul_comm]at I
  have j:(execOp a.eval o).run C.P w= .ok (.value (.slice (some ⟨w.heap.size,0,none⟩) n.toNat m.toNat)) (w.alloc (.cells (madeCells v.cells (m.toNat*r.size)) E)):=by
   unfold execOp;simp only[J,p,q,Sem.run_bind,run_make (P:=C.P) w T E r v N H O F G n m R S I aC,Result.andThen_ok,Sem.run_pure]
  unfold Oper.wp;rw[j,Oper.upon_value];refine FP s L rfl rfl ?_ (x:=.at (.lst d)) (by show _=_;simp) f h;have g:v.cells.toList.length=r.size:=by omega
  refine⟨oO g b _,cX (oO g b _).len,.inr ⟨w.heap.size,m.toNat,_,cg,Nat.zero_le _,j9 _ _,?_,?_,size_madeCells _ _,?_⟩⟩
  .simp;omega
  .unfold maxLen;omega
  .rw[Jj y i]
   have e:replicate m.toNat v.cells.toList=replicate n.toNat v.cells.toList++replicate (m.toNat-n.toNat) v.cells.toList:=by
    rw[replicate_append_replicate];grind
   rw[e,flatten_append,take_left'];rw[cX (oO g b _).len]
 grind
theorem vS{P:Program}(w:World)(t tx N e:TypeId)(i:TypeInfo)(z:Value)(O:P.underlying t=some (.slice e))(Q:P.info? e=some i)(Y:i.zero=some z)
 (T:z.cells.size=i.size)(v:Value)(n:Nat)(xs:dj)(p:w.ownsRow 0 e i.size v n xs)(x:Value)(m:Nat)(d:dj)(D:Src P i.size tx x m d w)
 (H:n+m<=maxLen)(q:(n+m)*i.bytes<=140737488355328):
 ∃I w',(Builtin.append_ #[t,tx] N #[v,x]).run P w= .ok I w'/\w'.ownsRow 0 e i.size I (n+m) (xs++d)/\CY (λb=>v.ownBlock=some b) w w'/\
  (∀b,I.ownBlock=some b->w.heap.size<=b\/v.ownBlock=some b)/\I.oneCell'=true/\
  ((∃a k c k' c',v= .slice a k c/\I= .slice a k' c')\/∀k,k<w.heap.size->w'.heap[k]? =w.heap[k]?):=by
 have R:n+m<=9223372036854775807:=by simp only[maxLen]at H;omega
 have Z:=D.newsLen;have s:(xs++d).length=(n+m)*i.size:=by rw[ct,p.1,Z,Nat.add_mul]
 have grown:∀(h:Nat),h<n+m->∀(S:Nat->Prop),
  (w.drew.alloc (.cells ((xs++d).toArray++Builtin.zeroCells z.cells (grownCap w (n+m) h e-(n+m))) e)).ownsRow 0 e i.size
   (.slice (some ⟨w.heap.size,0,none⟩) (n+m) (grownCap w (n+m) h e)) (n+m) (xs++d)/\
  CY S w (w.drew.alloc (.cells ((xs++d).toArray++Builtin.zeroCells z.cells (grownCap w (n+m) h e-(n+m))) e)):=by
  intro h ho S;have U:=grownCap_ge w (n+m) h e;have E:grownCap w (n+m) h e<=maxLen:=grownCap_le_maxLen w (n+m) h e H;refine⟨⟨s,.inr ⟨w.heap.size,_,_,rfl,Nat.zero_le _,heap_alloc_new w.drew _,U,E,?_,?_⟩⟩,⟨rfl,rfl,rfl,Nat.le_succ _,bx,λk r _=>heap_alloc_old w.drew _ k r⟩⟩
  .simp only[Array.size_append,size_toArray,size_zeroCells,T,s, <-Nat.add_mul]
   grind
  grind
 rcases p.2 with⟨rfl,rfl⟩|⟨g,f,y,rfl,V,hg,a0,E,W,X⟩
 .have hx:xs=[]:=eq_nil_of_length_eq_zero cg;subst hx;by_cases hm:m=0
  .subst hm;have hn:d=[]:=eq_nil_of_length_eq_zero aC;subst hn;refine⟨.slice none 0 0,w,?_,World.ownsRow_nil w 0 e i.size,CY.refl _ _,λb G=>cg,rfl,.inr λ_ _=>rfl⟩;rcases D.kind with⟨e',r⟩|r<;>simp[Builtin.append_,run_underlying O,run_underlying r,sizeOf,typeInfo,Q,D.len,D.cells]
  .have J:=run_append_grow_src (P:=P) w t tx N e i z O Q Y none 0 0 [] (by simp[Builtin.firstCells]) x m d D aC aC (growslice_fits aC q);have A:=grown 0 aC (λb=>Value.ownBlock (.slice none 0 0)=some b);exact⟨_,_,J,A.1,A.2,λb G=>by simp[Value.ownBlock]at G;left;omega,rfl,.inr λk r=>heap_alloc_old w.drew _ k r⟩
 .by_cases l:n+m<=f
  .have a':n*i.size+d.length<=y.size:=by rw[Z,W, <-Nat.add_mul];exact Nat.mul_le_mul_right _ l
   have L:=run_storeCells_at P g (n*i.size) e d 0 y w hg aC D.one;simp only[Nat.add_zero]at L
   have J:(Builtin.append_ #[t,tx] N #[.slice (some ⟨g,0,none⟩) n f,x]).run P w= .ok (.slice (some ⟨g,0,none⟩) (n+m) f) (w.setRow g (y.toList.take (n*i.size)++d++y.toList.drop (n*i.size+d.length)).toArray):=by
    rcases D.kind with⟨e',r⟩|r<;>simp[Builtin.append_,run_underlying O,run_underlying r,sizeOf,typeInfo,Q,D.len,l,D.cells,Addr.add_lit,L]
   refine⟨_,_,J,⟨s,.inr ⟨g,f,_,rfl,V,setRow_heap w g y _ e _ hg,l,E,?_,?_⟩⟩,⟨rfl,rfl,rfl,Nat.le_refl _,bx,λk _ r=>setRow_other w g k _ (λe=>r (by simp[Value.ownBlock,e]))⟩,λb G=>.inr G,rfl,.inl ⟨_,_,_,_,_,rfl,rfl⟩⟩
   .grind
   grind
  .have F:∀j u,xs[j]? =some u->w.cell? ((⟨g,0,none⟩:Addr).add j)=some u:=p.cells (g:=g) rfl
   have M:(Builtin.firstCells i.size n (.slice (some ⟨g,0,none⟩) n f)).run P w.drew= .ok xs.toArray w.drew:=
    run_firstCells_some w.drew i.size n ⟨g,0,none⟩ n f xs p.1 (cm F)
   have J:=run_append_grow_src (P:=P) w t tx N e i z O Q Y (some ⟨g,0,none⟩) n f xs M x m d D aC aC (growslice_fits aC q);have A:=grown f aC (λb=>Value.ownBlock (.slice (some ⟨g,0,none⟩) n f)=some b);exact⟨_,_,J,A.1,A.2,λb G=>by simp[Value.ownBlock]at G;left;omega,rfl,.inr λk r=>heap_alloc_old w.drew _ k r⟩
end
end Go.Vc
namespace Go.Vc
open Go Go.Lib List
theorem R3{z:Array Value}{sz:Nat}(b:z.size=sz)(f:0<sz)(n:Nat):(Builtin.zeroCells z n).toList=(replicate n z.toList).flatten:=by
 apply ext_getElem?;intro j;by_cases g:j<n*sz
 .have h:j/sz<n:=Nat.div_lt_of_lt_mul cg;have c:j%sz<sz:=Nat.mod_lt _ f;have d:=nI (xs:=replicate n z.toList) (sz:=sz) (i:=j/sz) (e:=z.toList) (λe l=>cg) (by simp[h]) (j%sz) z[j%sz] (by simp[b,c]);rw[show j/sz*sz+j%sz=j by rw[Nat.mul_comm];exact Nat.div_add_mod j sz]at d;rw[d];simp[Builtin.zeroCells,g,b,c]
 .rw[getElem?_eq_none,getElem?_eq_none]
  .rw[cX (sz:=sz) (λe l=>cg)];simp;omega
  .simp[Builtin.zeroCells,b];omega
theorem JV{P:Program}(w:World)(t g l e:TypeId)(i:TypeInfo)(z:Value)(m n:IntKind)(u:P.underlying t=some (.slice e))(h:P.underlying g=some (.int n))(v:P.info? e=some i)(y:i.zero=some z)
 (c:z.cells.size=i.size)(p:0<i.size)(k:Nat)(q:0<k)(d:k*i.bytes<=140737488355328)(A:k<=140737488355328):
 ∃f w',(Builtin.append_ #[t,g] l #[.slice none 0 0,.int m k]).run P w= .ok f w'/\w'.ownsRow 0 e i.size f k (replicate k z.cells.toList).flatten/\CY (λ_=>False) w w'/\
  (∀b,f.ownBlock=some b->w.heap.size<=b)/\f.oneCell'=true:=by
 have r:=run_append_grow_zeros w t g l e i z m n u h v y none 0 0 [] (run_firstCells_none w.drew i.size 0 0 0) k q p aC aC aC (by rw[Nat.zero_add,nextslicecap_zero q];omega);rw[Nat.zero_add]at r;have D:=grownCap_ge w k 0 e;have j:=grownCap_le_maxLen w k 0 e (by unfold maxLen;omega);refine⟨_,_,r,?_,?_,?_,rfl⟩
 .refine⟨cX (sz:=i.size) (λx s=>cg) |>.trans bx,.inr ⟨w.heap.size,_,_,rfl,Nat.zero_le _,j9 _ _,aC,j,?_,?_⟩⟩
  .simp[Builtin.zeroCells,c];rw[<-Nat.add_mul]
   grind
  .simp only[Array.toList_append,R3 c p];rw[take_append_of_le_length]
   .simp only[nil_append];rw[cu];rw[cX (sz:=i.size) (λx s=>cg)];simp
   .simp only[nil_append];rw[cX (sz:=i.size) (λx s=>cg)];simp
 .exact⟨rfl,rfl,rfl,Nat.le_succ _,by show w.heap.size<=(w.heap.push _).size;simp,λb d _=>fK w.drew _ d⟩
 .intro b d;simp[Value.ownBlock]at d;omega
end Go.Vc
namespace Go.Vc
open Go List
section
variable{B:qE}{C:Ctx}{ι:dv}{σ:St}{a:Act}{w:World}{o:Oper}{K:St->Prop}
theorem Fu{sz:Nat}:∀{xs:List dj}(_:∀e∈xs,e.length=sz) {j:Nat} {v:Value},xs.flatten[j]? =some v->∃(i:Nat)(e:dj)(q:Nat),xs[i]? =some e/\e[q]? =some v/\j=i*sz+q
 |[],_,j,v,h=>by simp at h
 |x::xs,b,j,v,h=>by
  have g:=b x bx;rw[flatten_cons]at h;by_cases c:j<x.length
  .rw[getElem?_append_left c]at h;exact⟨0,x,j,rfl,h,bx⟩
  .rw[getElem?_append_right aC]at h;obtain⟨i,e,q,l,d,m⟩:=Fu (λe f=>b e (by simp[f])) h;exact⟨i+1,e,q,cg,d,cg⟩
theorem bgQ{P:Program}{tx j E sz:Nat}{v:Value}{b:List dj}(f:P.underlying tx=some (.slice j))(h:cT sz b)(i:w.ownsRow 0 E sz v b.length b.flatten):
 Src P sz tx v b.length b.flatten w:=by
 have l:∀u∈b.flatten,u.oneCell'=true:=λu m=>by
  obtain⟨e,n,c⟩:=mem_flatten.1 m;exact h.one e n u c
 rcases i.2 with⟨rfl,p⟩|⟨g,d,q,rfl,_⟩
 .have:b=[]:=eq_nil_of_length_eq_zero p;subst this;exact Src.ofNil w f 0
 .exact Src.ofSlice w f ⟨g,0,none⟩ _ d _ (cX h.len) (i.cells (g:=g) rfl) l
theorem Sf{P:Program}{tx z sz:Nat}{h:PH}(A:P.underlying tx=some (.slice z)){m:Option Addr}{n c:Nat}{l:List dj}(s:cT sz l)(d:bN h ⟨m,n,c⟩ sz l)
 (p:∀b o v,h b o=some v->w.cell? ⟨b,o,none⟩=some v):Src P sz tx (.slice m n c) l.length l.flatten w:=by
 have D:∀u∈l.flatten,u.oneCell'=true:=λu t=>by
  obtain⟨e,E,y⟩:=mem_flatten.1 t;exact s.one e E u y
 have r:n=l.length:=d.len;subst r;rcases d.row with rfl|⟨b,off,f,g⟩
 .refine⟨.inl ⟨z,A⟩,λ_=>rfl,?_,?_,bx,λu t=>by simp at t⟩
  .cases m<;>simp[Builtin.firstCells,loadCells,loadCellsFrom]
  .cases m<;>simp[Builtin.firstCells,loadCells,loadCellsFrom]
 .have f:m=some ⟨b,off,none⟩:=f;subst f;refine Src.ofSlice w A ⟨b,off,none⟩ _ c _ (cX s.len) ?_ D;intro j u F;obtain⟨i,e,q,G,H,rfl⟩:=Fu s.len F;rw[Addr.add_none];have:=p _ _ _ ((g i e G).rd q u H)
  grind
theorem HH(s:ByteArray):(jM s).flatten=byteCells s:=by
 unfold jM byteCells
 induction s.data.toList with
 |nil=>rfl
 |cons b r c=>simp[c]
theorem Se(p:aJ B ι σ a w){sz tx:Nat}{y:Operand}{R:List dj->Prop}{lent:Bool}(h:Ls C.P lent σ sz tx (σ.ev y) R):
 ∃i,cT sz i/\Src C.P sz tx (a.eval y) i.length i.flatten w/\R i:=by
 have d:=p.ev y;unfold Ls at h;split at h
 .rename_i k G q l;rw[q]at d;have d:a.eval y=ι k:=d;split at h
  .rename_i E s i r;split at h
   .rename_i g;have g:=da g;subst g;obtain⟨m,H⟩:=qY p r;exact⟨i,m,by rw[d];exact bgQ l m H,h⟩
   grind
  grind
 .rename_i D n c G q l;rw[q]at d;have d:a.eval y= .slice D n c:=d;obtain⟨i,m,f,h⟩:=h;refine⟨i,m,?_,h⟩;rw[d];cases lent with
  |false=>exact Sf l m f p.wrel.hsat
  |true=>
   cases f with
   |imm f=>exact Sf l m f p.wrel.hsat
   |lent b o L E M g z I F=>
    have g:D=some ⟨b,o,none⟩:=g;have z:n=i.length:=z;subst g z
    have J:∀u∈i.flatten,u.oneCell'=true:=λu l=>by
     obtain⟨e,t,A⟩:=mem_flatten.1 l;exact m.one e t u A
    refine Src.ofSlice w l ⟨b,o,none⟩ _ c _ (cX m.len) ?_ J;intro j u N;rw[Addr.add_none,cell_of_heap (p.wrel.msat b _ I)]
    grind
 .rename_i s q l;rw[q]at d;have d:a.eval y= .string s:=d;split at h
  .rename_i g;have g:=da g;subst g;refine⟨jM s,⟨λe t=>by obtain⟨b,_,rfl⟩:=mem_map.1 t;rfl,λe t u v=>by obtain⟨b,_,rfl⟩:=mem_map.1 t;simp at v;subst v;rfl⟩,?_,h⟩;rw[d,HH];have F:(jM s).length=s.size:=by simp[jM]
   rw[F];exact Src.ofString w l s
  grind
 grind
theorem CY.mono{S S':Nat->Prop}{w w':World}(h:CY S w w')(d:∀b,S b->S' b):CY S' w w':=⟨h.tape,h.os,h.output,h.drawn,h.size,λb e f=>h.block b e (λc=>f (d b c))⟩
theorem Df{v:Value}{b:Nat}(h:v.ownBlock=some b):blk v=some b:=by
 cases v<;>simp[Value.ownBlock]at h
 case slice ad n c=>cases ad<;>simp at h;simpa[blk]using h
theorem Cq{sz:Nat}{xs c:List dj}(hx:cT sz xs)(d:cT sz c):cT sz (xs++c):=
 ⟨λe b=>(mem_append.1 b).elim (hx.len e) (d.len e),λe b=>(mem_append.1 b).elim (hx.one e) (d.one e)⟩
theorem yC{E sz n:Nat}{v:Value}{l:dj}(h:w.ownsRow 0 E sz v n l){b:Nat}(c:blk v=some b):v.ownBlock=some b:=by
 rcases h.2 with⟨rfl,_⟩|⟨g,d,e,rfl,_⟩
 .simp[blk]at c
 .simpa[blk,Value.ownBlock]using c
theorem aDZ(f:aJ B ι σ a w){w':World}{m':MH}{S:Nat->Prop}(n:CY S w w')(D:∀b,S b->σ.m b≠none)(s:∀b o,m' b=some o->w'.heap[b]? =some o/\(σ.m b≠none\/w.heap.size<=b)):
 aJ B ι {σ with m:=m'} a w'/\∀o,zH o.op=false->HO σ ι o w w':=by
 have c:=f.wrel
 have z:∀b,w.heap.size<=b->∀i,σ.h b i=none:=by
  intro b d i;cases e:σ.h b i with
  |none=>rfl
  |some v=>have:=World.block_lt_of_cell? w ⟨b,i,none⟩ (c.hsat _ _ _ e);grind
 have E:∀b,S b->∀i,σ.h b i=none:=by
  intro b d i;cases e:σ.m b with
  |none=>grind
  |some x=>exact c.disj b x e i
 have t:∀k q b,nth σ.own k=some (some q)->blk (ι k)=some b->¬S b:=by
  intro k q b g d u;exact D b u (f.fresh k q b g d).2.1
 have j:∀b i v,σ.h b i=some v->w'.cell? ⟨b,i,none⟩=some v:=by
  intro b i v F;have y:=c.hsat b i v F;rw[<-y];exact World.cell?_of_block (w:=w) (w':=w') (a:=⟨b,i,none⟩) (n.block b (World.block_lt_of_cell? w ⟨b,i,none⟩ y) (λu=>cg))
 refine⟨⟨f.slots,f.defers,λk q g=>(f.own k q g).world (λb d=>n.block b (pB (f.own k q g) d) (t k q b g d)),f.dist,?_,?_,f.one⟩,λo L=>⟨?_,j,λh=>cg,λl b _ r y _=>n.block b r (λu=>D b u y)⟩⟩
 .intro k q b g d;obtain⟨G,M,H⟩:=f.fresh k q b g d;refine⟨G,?_,H⟩;show m' b=none;cases e:m' b with
  |none=>rfl
  |some x=>
   rcases(s b x e).2 with r|r
   .grind
   .have:=pB (f.own k q g) d;omega
 .refine⟨n.tape.trans c.tape,n.os.trans c.os,n.output.trans c.output,dg c.drawn n.drawn,dg c.size n.size,?_,j,λb o e=>(s b o e).1,?_,c.hle,c.hold,?_⟩
  .intro b d I;rw[n.block b (dh d c.size) (λu=>?_)]
   .exact c.frame b d I
   .cases e:σ.m b with
    |none=>grind
    |some x=>
     rcases c.mfr b x e with r|r
     .omega
     grind
  .intro b o e i;rcases(s b o e).2 with r|r
   .cases A:σ.m b with
    |none=>grind
    |some x=>exact c.disj b x A i
   grind
  .intro b o e;rcases(s b o e).2 with r|r
   .cases A:σ.m b with
    |none=>grind
    |some x=>exact c.mfr b x A
   .exact .inl (dg c.size r)
 .intro k p T N b g _ J;have d:blk (ι k)=some b:=by rw[J];rfl
  exact n.block b (pB (f.own k _ g) d) (t k _ b g d)
theorem S6(M:aJ B ι σ a w){T tx:Nat}{x y:Operand}{c:Call}(ho:o.op= .call c)(hc:c.callee= .builtin .append)(hx:c.args.toList=[x,y])(ht:c.argTypes.toList=[T,tx])
 (h:OR C o T tx x y σ K):Tw B C ι o σ K a w:=by
 intro next Q R
 have b4:c.args= #[x,y]:=cg
 have b9:c.argTypes= #[T,tx]:=cg
 unfold OR at h;split at h
 .rename_i d E z hd hE;obtain⟨Z,zv,hu,hi,hv,rfl,a2,a3,d5,c'⟩:=Fx hE;have a4:C.P.bytesOf E=Z.bytes:=by simp[Program.bytesOf,hi]
  have W:∀L U,(Builtin.append_ #[T,tx] o.type #[a.eval x,a.eval y]).run C.P w= .ok L U->(execOp a.eval o).run C.P w= .ok (.value L) U:=by
   intro L U hr;unfold execOp;simp only[ho,resolve,hc,b4,b9,invoke,builtin,Sem.run_bind,Sem.run_pure,Result.andThen_ok,map_toArray,map_cons,map_nil];rw[hr];rfl
  have c4:∀(X:Option Addr)(n cp:Nat),σ.ev x= .at (.val (.slice X n cp))->(∃s:List dj,cM σ.m ⟨X,n,cp⟩ E (C.P.cellsOf E) s/\
   Ls C.P (P0 C) σ (C.P.cellsOf E) tx (σ.ev y) λN=>
    (s.length+N.length)*C.P.bytesOf E<=140737488355328/\s.length+N.length<=140737488355328/\
    ∀(s':Sl)(m':MH),bV σ.m m' ⟨X,n,cp⟩ s' E (C.P.cellsOf E) (s++N)->K ({σ with m:=m'}.put (some d) (.at (.val s'.val))))->o.wp C.P a w next Q:=by
   intro X n cp a' h;have G:=M.ev x;rw[a']at G;have G:a.eval x= .slice X n cp:=G;obtain⟨s,t,h⟩:=h;obtain⟨N,hr,v,O,b1,h⟩:=Se M h;rw[a3]at hr v h;rw[a4]at O;have a0:=t.rows;rw[a3]at a0
   have b5:w.ownsRow 0 E Z.size (.slice X n cp) s.length s.flatten:=by
    refine⟨cX a0.len,?_⟩;rcases t.ex with⟨H,e2⟩|⟨b,a5,a1,H,hm,A,h2,h3,h4⟩
    .grind
    .simp only[Sl.mk.injEq]at H;obtain⟨rfl,rfl,rfl⟩:=H;exact .inr ⟨b,_,a1,rfl,Nat.zero_le _,M.wrel.msat b _ hm,A,h2,cg,cg⟩
   have b6:∀b,Value.ownBlock (.slice X n cp)=some b->σ.m b≠none:=by
    intro b r;rcases t.ex with⟨H,e2⟩|⟨b',a5,a1,H,hm,_⟩
    .simp only[Sl.mk.injEq]at H;obtain⟨rfl,rfl,rfl⟩:=H;simp[Value.ownBlock]at r
    .simp only[Sl.mk.injEq]at H;obtain⟨rfl,rfl,rfl⟩:=H;simp[Value.ownBlock]at r
     grind
   obtain⟨L,U,a6,J,f,I,D,F⟩:=vS (P:=C.P) w T tx o.type E Z zv hu hi hv a2 (.slice X n cp) s.length s.flatten b5 (a.eval y) N.length N.flatten v (by unfold maxLen;omega) O;rw[<-flatten_append, <-ct]at J
   obtain⟨S,n',V,rfl⟩:∃S n' V,L= .slice S n' V:=by
    rcases J.2 with⟨e,_⟩|⟨g,a5,a1,e,_⟩
    .grind
    grind
   let m':MH:=λb=>if Value.ownBlock (.slice S n' V)=some b then U.heap[b]? else σ.m b
   have b3:∀b,Value.ownBlock (.slice S n' V)=some b->m' b=U.heap[b]? :=λb r=>cg
   obtain⟨c5,hk⟩:=aDZ (m':=m') M f b6 (by
    intro b ob r;by_cases H:Value.ownBlock (.slice S n' V)=some b
    .grind
    .simp only[m',if_neg H]at r;refine⟨?_,.inl cg⟩;have A:=M.wrel.msat b ob r;rcases F with⟨_,_,_,_,_,a9,b0⟩|F
     .simp only[Value.slice.injEq]at a9 b0;obtain⟨rfl,rfl,rfl⟩:=a9;obtain⟨rfl,rfl,rfl⟩:=b0;rw[f.block b (Array.getElem?_eq_some_iff.1 A).1 λe=>H (by cases S<;>exact e)];exact A
     .rw[F b (Array.getElem?_eq_some_iff.1 A).1];exact A)
   unfold Oper.wp;rw[W _ U (by rw[G];exact a6),Oper.upon_value,hd];refine R ι _ _ _ (c5.put (some d) (x:=.at (.val (.slice S n' V))) rfl) (h ⟨S,n',V⟩ m' ⟨⟨?_,?_⟩,?_,?_,?_⟩) (hk o (by rw[ho];rfl))
   .exact Cq a0 hr
   .rcases J.2 with⟨H,e2⟩|⟨b,a5,a1,H,_,hh,A,h2,h3,h4⟩
    .grind
    .simp only[Value.slice.injEq]at H;obtain⟨rfl,rfl,rfl⟩:=H;exact .inr ⟨b,_,a1,rfl,by rw[b3 b rfl];exact hh,A,h2,h3,h4⟩
   .intro b ob r c6
    have e2:Value.ownBlock (.slice X n cp)≠some b:=by
     intro e;rcases t.ex with⟨H,_⟩|⟨b',a5,a1,H,hm,_⟩
     .simp only[Sl.mk.injEq]at H;obtain⟨rfl,rfl,rfl⟩:=H;simp[Value.ownBlock]at e
     .simp only[Sl.mk.injEq]at H;obtain⟨rfl,rfl,rfl⟩:=H;simp[Value.ownBlock]at e
      grind
    have H:Value.ownBlock (.slice S n' V)≠some b:=by
     intro e;rcases I b e with A|A
     .have:=(Array.getElem?_eq_some_iff.1 (M.wrel.msat b ob r)).1;omega
     grind
    simp only[m',if_neg H];exact r
   .intro b i e;have e:S=some ⟨b,i,none⟩:=e;rcases I b (by rw[e];rfl)with A|A
    .left;cases e2:σ.m b with
     |none=>rfl
     |some x=>have:=(Array.getElem?_eq_some_iff.1 (M.wrel.msat b x e2)).1;omega
    .right;rcases t.ex with⟨H,_⟩|⟨b',a5,a1,H,hm,_⟩
     .simp only[Sl.mk.injEq]at H;obtain⟨rfl,rfl,rfl⟩:=H;simp[Value.ownBlock]at A
     .simp only[Sl.mk.injEq]at H;obtain⟨rfl,rfl,rfl⟩:=H;simp[Value.ownBlock]at A
      grind
   .rcases F with⟨_,_,_,_,_,a9,b0⟩|F
    .simp only[Value.slice.injEq]at a9 b0;exact .inl (by rw[b0.1,a9.1])
    .refine .inr λb ob r=>?_;have A:=M.wrel.msat b ob r;by_cases H:Value.ownBlock (.slice S n' V)=some b
     .rw[b3 b H,F b (Array.getElem?_eq_some_iff.1 A).1];exact A
     .simp only[m',if_neg H];exact r
  split at h
  .rename_i X n cp d6 d7 a';have G:=M.ev x;rw[a']at G;have G:a.eval x= .slice X n cp:=G;obtain⟨rfl,s,Y,t,h⟩:=h;obtain⟨N,hr,v,c6,O,b1,h⟩:=Se M h;rw[a3]at hr v h Y t;rw[a4]at O;have hn:cp=s.length:=t.len;subst hn
   have fin:∃L U,(Builtin.append_ #[T,tx] o.type #[.slice X s.length s.length,a.eval y]).run C.P w= .ok L U/\U.ownsRow 0 E Z.size L (s.length+N.length) (s++N).flatten/\CY (λ_=>False) w U/\
    (∀b,L.ownBlock=some b->w.heap.size<=b)/\L.oneCell'=true:=by
    cases X with
    |none=>
     have c7:s=[]:=by
      rcases t.row with e|⟨b,off,e,_⟩
      .exact e
      .cases e
     subst c7;obtain⟨L,U,A,h2,h3,h4,h5,_⟩:=vS (P:=C.P) w T tx o.type E Z zv hu hi hv a2 (.slice none 0 0) 0 [] (World.ownsRow_nil w 0 E Z.size) (a.eval y) N.length N.flatten v (by unfold maxLen;omega) aC;refine⟨L,U,A,cg,h3.mono (λb r=>by simp[Value.ownBlock]at r),λb r=>?_,h5⟩;rcases h4 b r with e|e
     .exact e
     .simp[Value.ownBlock]at e
    |some X=>
     have hy:0<N.length:=by
      grind
     have d8:=Sf (P:=C.P) (w:=w) (tx:=T) hu Y t M.wrel.hsat;have c8:s.length+N.length<=maxLen:=by unfold maxLen;omega
     have c0:(s.flatten++N.flatten).length=(s.length+N.length)*Z.size:=by rw[ct,cX Y.len,cX hr.len,Nat.add_mul]
     have c9:=grownCap_ge w (s.length+N.length) s.length E;have d':grownCap w (s.length+N.length) s.length E<=maxLen:=grownCap_le_maxLen w _ _ E c8
     have c1:(Builtin.firstCells Z.size s.length (.slice (some X) s.length s.length)).run C.P w.drew= .ok s.flatten.toArray w.drew:=by
      rcases t.row with rfl|⟨b,off,e,hc⟩
      .simp[Builtin.firstCells,loadCells,loadCellsFrom]
      .have e:some X=some ⟨b,off,none⟩:=e;cases e;refine run_firstCells_some w.drew Z.size s.length ⟨b,off,none⟩ s.length s.length s.flatten (cX Y.len) λj u hj=>?_;obtain⟨i,e,q,A,h2,rfl⟩:=Fu Y.len hj;rw[Addr.add_none];have:=M.wrel.hsat _ _ _ ((hc i e A).rd q u h2);rw[<-Nat.add_assoc];exact this
     have d0:=run_append_grow_src (P:=C.P) w T tx o.type E Z zv hu hi hv (some X) s.length s.length s.flatten c1 (a.eval y) N.length N.flatten v aC aC (growslice_fits aC O);refine⟨_,_,d0,⟨?_,.inr ⟨w.heap.size,_,_,rfl,Nat.zero_le _,heap_alloc_new w.drew _,c9,d',?_,?_⟩⟩,⟨rfl,rfl,rfl,Nat.le_succ _,bx,λk hk _=>heap_alloc_old w.drew _ k hk⟩,λb r=>by simp[Value.ownBlock]at r;omega,rfl⟩
     .grind
     .simp only[Array.size_append,size_toArray,size_zeroCells,a2,c0, <-Nat.add_mul]
      grind
     grind
   obtain⟨L,U,a6,p,f,I,D⟩:=fin;rw[<-ct]at p;unfold Oper.wp;rw[W L U cg,Oper.upon_value,hd];refine R (upd ι d L) _ _ _ ?_ h ?_
   .refine aJ.put ?_ (some d) (by show _=_;simp);exact M.place d _ L (f.mono (λb r=>r.elim)) ⟨Cq Y hr,p⟩ D (λb r=>.inl (I b (yC p r)))
   .exact D8 M d (λ_=>BH hd) (λb r _=>f.block b r (λA=>A.elim)) (λhg=>by rw[ho]at hg;simp[zH]at hg) (λl e=>by simp_all [sD])
  .grind
  rename_i b7 c2;clear c2 b7;split at h
  .rename_i a';have G:=M.ev x;rw[a']at G;have G:a.eval x= .slice none 0 0:=G;split at h
   .rename_i n d1
    obtain⟨kn,kq,d2,d3⟩:∃kn kq,C.P.underlying tx=some (.int kn)/\σ.ev y= .at (.val (.int kq n)):=by
     unfold YN at d1
     grind
    have hy:=M.ev y;rw[d3]at hy;have hy:a.eval y= .int kq n:=hy;obtain⟨h0,O,b1,h⟩:=h;rw[a3]at h;rw[a4]at O;obtain⟨k,rfl⟩:∃k:Nat,n=k:=⟨n.toNat,aC⟩
    have c3:k*Z.bytes<=140737488355328:=by omega
    obtain⟨L,U,a6,p,f,I,D⟩:=JV (P:=C.P) w T tx o.type E Z zv kq kn hu d2 hi hv a2 aC k aC c3 aC;unfold Oper.wp;rw[W L U cg,Oper.upon_value,hd];refine R (upd ι d L) _ _ _ ?_ h ?_
    .refine aJ.put ?_ (some d) (by show _=_;simp);refine M.place d _ L (f.mono (λb r=>r.elim)) ⟨?_,?_⟩ D (λb r=>.inl (I b (yC p r)))
     .exact oO aC c' _
     grind
    .exact D8 M d (λ_=>BH hd) (λb r _=>f.block b r (λA=>A.elim)) (λhg=>by rw[ho]at hg;simp[zH]at hg) (λl e=>by simp_all [sD])
   .obtain⟨N,hr,v,O,b1,h⟩:=Se M h;rw[a3]at hr v h;rw[a4]at O;obtain⟨L,U,a6,p,f,I,D,F⟩:=vS (P:=C.P) w T tx o.type E Z zv hu hi hv a2 (.slice none 0 0) 0 [] (World.ownsRow_nil w 0 E Z.size) (a.eval y) N.length N.flatten v (by unfold maxLen;omega) cg;simp only[Nat.zero_add,nil_append]at p;unfold Oper.wp;rw[W L U cg,Oper.upon_value,hd];refine R (upd ι d L) _ _ _ ?_ h ?_
    .refine aJ.put ?_ (some d) (by show _=_;simp);refine M.place d _ L (f.mono (λb r=>by simp[Value.ownBlock]at r)) ⟨hr,p⟩ D (λb r=>?_);rcases I b (yC p r)with A|A
     .omega
     .simp[Value.ownBlock]at A
    .exact D8 M d (λ_=>BH hd) (λb r _=>f.block b r (λA=>by simp[Value.ownBlock]at A)) (λhg=>by rw[ho]at hg;simp[zH]at hg) (λl e=>by simp_all [sD])
  .rename_i k a';have G:=M.ev x;rw[a']at G;have G:a.eval x=ι k:=G;split at h
   .rename_i E' sz s p d4;split at h
    .rename_i b8 b2;have b8:=da b8;have b2:=da b2;subst b8;rw[a3]at b2;subst b2;obtain⟨N,hr,v,O,b1,h⟩:=Se M h;rw[a4]at O;obtain⟨Y,b5⟩:=qY M p;obtain⟨L,U,a6,J,f,I,D,F⟩:=vS (P:=C.P) w T tx o.type E' Z zv hu hi hv a2 (ι k) s.length s.flatten b5 (a.eval y) N.length N.flatten v (by unfold maxLen;omega) O;rw[<-flatten_append, <-ct]at J;unfold Oper.wp;rw[W L U cg,Oper.upon_value,hd];refine R (upd ι k L) _ _ _ ?_ h ?_
     .refine aJ.put ?_ (some d) (by show _=_;simp);refine M.place k _ L (f.mono (λb r=>⟨⟨_,p⟩,Df r⟩)) ⟨Cq Y hr,J⟩ D (λb r=>?_);rcases I b (yC J r)with A|A
      .omega
      .exact .inr ⟨⟨_,p⟩,Df A⟩
     .refine D8 M k (λ⟨p',T',d9,e⟩=>cg) (λb r hn=>f.block b r (λA=>hn ⟨⟨_,p⟩,Df A⟩)) (λhg=>by rw[ho]at hg;simp[zH]at hg) (λl e=>by simp_all [sD])
    grind
   grind
  .grind
  grind
 grind
theorem aJ.rewrite(d:aJ B ι σ a w){k:Nat}{t h:Own}{w':World}(p:nth σ.own k=some (some t))(u:CY (λb=>blk (ι k)=some b) w w')(z:C1 ι w' (ι k) h):
 aJ B ι (σ.setOwn k (some h)) a w':=by
 have c:∀j m,nth (σ.setOwn k (some h)).own j=some (some m)->(j=k/\m=h)\/(j≠k/\nth σ.own j=some (some m)):=by
  intro j m l;simp only[St.setOwn,yD]at l;by_cases e:j=k
  .subst e;by_cases A:j<σ.own.length
   .grind
   .simp[A,jI]at l
  grind
 refine⟨d.slots,d.defers,?_,?_,?_,?_,d.one⟩
 .intro j m l;rcases c j m l with⟨rfl,rfl⟩|⟨n,i⟩
  .exact z
  .have q:=d.own j m i;refine q.world (λb f=>u.block b (pB q f) (λg=>n (d.dist j k _ _ b i p f g)))
 .intro j D s E b l i f g;rcases c j s l with⟨rfl,rfl⟩|⟨n,r⟩<;>rcases c D E i with⟨rfl,rfl⟩|⟨v,y⟩
  .rfl
  .exact d.dist _ _ _ _ b p y f g
  .exact d.dist _ _ _ _ b r p f g
  .exact d.dist _ _ _ _ b r y f g
 .intro j s b l f;rcases c j s l with⟨rfl,rfl⟩|⟨n,r⟩
  .exact d.fresh _ _ b p f
  .exact d.fresh _ _ b r f
 .exact d.wrel.ext u (λb f=>d.fresh k t b p f)
theorem H0(e:∀k,(ι k).oneCell'=true):∀{cs:dz}{vs:dj},sF cs=true->iK ι cs vs->∀v∈vs,v.oneCell'=true
 |[],[],_,_,v,f=>by cases f
 |x::cs,u::vs,g,j,v,f=>by
  simp only[sF]at g;split at g
  .rename_i l;rcases mem_cons.1 f with rfl|f
   .have d:=j.1;cases x with
    |val m=>
     have:v=m:=d;subst this;cases v<;>first|rfl|(simp[At.storable]at l)
    |ptr k off=>obtain⟨b,_,rfl⟩:=d;rfl
    |lst k=>have:v=ι k:=d;grind
    |el k i p off=>obtain⟨b,n,c,_,rfl⟩:=d;rfl
    |junk=>simp[At.storable]at l
   .exact H0 e g j.2 v f
  grind
 |[],_::_,_,h,_,_=>h.elim
 |_::_,[],_,h,_,_=>h.elim
theorem Sj{P:Program}{T:TypeId}{w:World}{g off:Nat}{b:Array Value}{E:TypeId}{v:Value}(h:iR P T=true)(e:v.cells.size=P.cellsOf T)(j:w.heap[g]? =some (.cells b E (0,0)))
 (l:off+v.cells.size<=b.size)(m:∀u∈v.cells.toList,u.oneCell'=true):
 (storeVar T ⟨g,off,none⟩ v).run P w= .ok () (w.setRow g (splice b.toList off v.cells.toList).toArray):=by
 obtain⟨i,d,n,q,p,f⟩:=gA h;have c:=run_storeCells_at P g off E v.cells.toList 0 b w j aC m;simp only[Nat.add_zero]at c;unfold storeVar;rw[p]at e;simp only[Sem.run_bind,run_sizeOf n,Result.andThen_ok];rw[if_neg aC];simp only[c,splice]
theorem EL(w:World)(g:Nat)(cs:Array Value):CY (λb=>b=g) w (w.setRow g cs):=
 ⟨rfl,rfl,rfl,Nat.le_refl _,bx,λb _ c=>setRow_other w g b cs c⟩
theorem EM{cs:dz}{l vs:dj}(c:tO cs=some l)(b:iK ι cs vs):vs=l:=by
 rw[CH c,iK.vals]at b;exact b
theorem flatten_set{sz:Nat}{l:dj}:∀{xs:List dj}{i:Nat}{e:dj}{off:Nat},(∀e∈xs,e.length=sz)->xs[i]? =some e->off+l.length<=e.length->
 splice xs.flatten (i*sz+off) l=(xs.set i (splice e off l)).flatten
 |[],i,e,off,_,b,_=>by simp at b
 |x::xs,0,e,off,d,b,c=>by
  simp at b;subst b;simp only[splice,Nat.zero_mul,Nat.zero_add,flatten_cons,set_cons_zero,append_assoc]
  grind
 |x::xs,i+1,e,off,d,b,c=>by
  simp only[getElem?_cons_succ]at b;have j:x.length=sz:=d x bx;have f:=flatten_set (λe g=>d e (by simp[g])) b c;rw[set_cons_succ,flatten_cons,flatten_cons, <-f];simp only[splice];have h:(i+1)*sz+off=x.length+(i*sz+off):=cg
  rw[h,take_length_add_append,show x.length+(i*sz+off)+l.length=x.length+(i*sz+off+l.length)by omega,drop_length_add_append];simp
theorem Pd{sz:Nat}{xs:List dj}{i off:Nat}{e l:dj}(c:cT sz xs)(p:xs[i]? =some e)(f:off+l.length<=e.length)(q:∀u∈l,u.oneCell'=true):
 cT sz (xs.set i (splice e off l)):=by
 have b:e∈xs:=cr p;constructor
 .intro g j;rcases mem_or_eq_of_mem_set j with h|h
  .exact c.len g h
  .rw[h,yB _ _ _ f];exact c.len e b
 .intro g j u d;rcases mem_or_eq_of_mem_set j with h|h
  .exact c.one g h u d
  .rw[h]at d;unfold splice at d;rcases mem_append.1 d with m|m
   .rcases mem_append.1 m with n|n
    .exact c.one e b u (mem_of_mem_take n)
    grind
   .exact c.one e b u (mem_of_mem_drop m)
theorem EO(u l:dj)(p N:Nat)(b:p+l.length<=N)(c:N<=u.length):(splice u p l).take N=splice (u.take N) p l:=by
 apply ext_getElem?;intro j;simp only[splice,getElem?_take,getElem?_append,ct,length_take,getElem?_drop]
 grind
theorem TK(y:aJ B ι σ a w){T:Nat}{x v:Operand}(Z:o.op= .store T x v)(a':o.dst=none)(h:Sd C T x v σ K):Tw B C ι o σ K a w:=by
 intro next Q I
 have D:=y.ev x;unfold Sd at h;split at h
 .exact h.elim
 .rename_i new a0;split at h
  .rename_i U a6 hT;have U:=da U;have hd:=A7 y.one (y.ev v) a0;have h1:=H0 y.one a6 hd;have c':new.length=(a.eval v).cells.size:=by have:=hd.length;omega
   have J:∀g off z E,a.eval x= .pointer (some ⟨g,off,none⟩)->w.heap[g]? =some (.cells z E (0,0))->off+(a.eval v).cells.size<=z.size->
    (execOp a.eval o).run C.P w= .ok .skip (w.setRow g (splice z.toList off (a.eval v).cells.toList).toArray):=by
    intro g off z E V H F;unfold execOp;simp only[Z,V,Instr.storeAt,Instr.sureAddr,Sem.run_bind,Sem.run_pure,Result.andThen_ok,Sj hT aC H F h1]
   have kP:a.put o.dst undef=a:=by rw[a'];rfl
   split at h
   .rename_i k off V;rw[V]at D;split at h
    .rename_i p E N A;split at h
     .rename_i F;have F:=Nat.le_of_ble_eq_true F;obtain⟨b,vs,O,hh,a1⟩:=vF y A;obtain⟨d,f,hp⟩:=D;rw[O]at f;simp only[Value.pointer.injEq,cw,Addr.mk.injEq]at f;obtain⟨rfl, -, -⟩:=f;have c0:N.length=vs.size:=by have:=a1.length;omega
      unfold Oper.wp;rw[J b off vs E hp hh aC,Oper.upon_skip,kP];have a9:blk (ι k)=some b:=by rw[O];rfl
      have j:=EL w b (splice vs.toList off (a.eval v).cells.toList).toArray;refine I ι _ _ _ (y.rewrite A (j.mono (λd f=>cg)) ?_) h ?_
      .exact⟨b,_,O,setRow_heap w b vs _ E _ hh,cm (a1.splice off hd),λq e=>by subst e;have:=Y2 y A;grind⟩
      .refine D8 y k (λ_=>?_) (λd f hn=>j.block d f (λe=>hn ⟨⟨_,A⟩,cg⟩)) (λH=>by rw[Z]at H;simp[zH]at H) (λl e=>by simp_all [sD]);unfold yA;simp[Z,V]
     grind
    grind
   .rename_i k i sz off V;rw[V]at D;split at h
    .rename_i E s xs l A hl;split at h
     .rename_i hs;have hs:=da hs;subst hs;obtain⟨e,he,F,h⟩:=h;obtain⟨hr,a2⟩:=qY y A;obtain⟨b,n,c,O,hp⟩:=D;have R:(a.eval v).cells.toList=l:=EM hl hd;rcases a2.2 with⟨hv,hn⟩|⟨g,c1,z,hv,_,H,b0,b1,c2,W⟩
      .grind
      .rw[O]at hv;simp only[Value.slice.injEq,cw,Addr.mk.injEq]at hv;obtain⟨⟨rfl, -, -⟩,rfl,rfl⟩:=hv;have b2:i<xs.length:=(cn he);have c3:e.length=s:=hr.len e (cr he);have b3:(a.eval v).cells.size=l.length:=cg
       have b4:=cX hr.len
       have b5:i*s+off+l.length<=xs.length*s:=by
        have:(i+1)*s<=xs.length*s:=Nat.mul_le_mul_right _ b2
        grind
       have b9:xs.length*s<=c*s:=Nat.mul_le_mul_right _ b0;unfold Oper.wp;rw[J b (i*s+off) z E hp H aC,Oper.upon_skip,kP];have a9:blk (ι k)=some b:=by rw[O];rfl
       have j:=EL w b (splice z.toList (i*s+off) (a.eval v).cells.toList).toArray;have a3:∀u∈l,u.oneCell'=true:=cg
       refine I ι _ _ _ (y.rewrite A (j.mono (λd f=>cg)) ?_) h ?_
       .have a4:=Pd hr he F a3;refine⟨a4,cX a4.len,.inr ⟨b,c,_,cg,Nat.zero_le _,setRow_heap w b z _ E _ H,cg,b1,?_,?_⟩⟩
        .simp only[size_toArray,R];rw[yB]
         .omega
         grind
        .rw[length_set];rw[<-flatten_set hr.len he F,R, <-W];have c4:z.toList.length=c*s:=by omega
         exact EO z.toList l (i*s+off) (xs.length*s) b5 aC
       .refine D8 y k (λ⟨p',T',b6,e'⟩=>cg) (λd f b7=>j.block d f (λe'=>b7 ⟨⟨_,A⟩,cg⟩)) (λH=>by rw[Z]at H;simp[zH]at H) (λl e=>by simp_all [sD])
     grind
    grind
   .rename_i b off V;rw[V]at D;have D:a.eval x= .pointer (some ⟨b,off,none⟩):=D;split at h
    .rename_i l hl;obtain⟨N,E,X,F,h⟩:=h;have R:(a.eval v).cells.toList=l:=EM hl hd;have b3:(a.eval v).cells.size=l.length:=cg
     have H:=y.wrel.msat b _ X.at_
     let m':MH:=λd=>if d=b then some (.cells (splice N.toList off l).toArray E (0,0))else σ.m d
     unfold Oper.wp;rw[J b off N E D H aC,Oper.upon_skip,kP,R];have j:=EL w b (splice N.toList off l).toArray
     have a5:∀k S,nth σ.own k=some (some S)->blk (ι k)≠some b:=by
      intro k S A hb;have:=(y.fresh k S b A hb).2.1;rw[X.at_]at this;cases this
     refine I ι {σ with m:=m'} _ _ ?_ (h m' ⟨by simp[m'],λd f=>cg⟩) ?_
     .refine⟨y.slots,y.defers,?_,y.dist,?_,?_,y.one⟩
      .intro k S A;exact(y.own k S A).world (λd f=>j.block d (pB (y.own k S A) f) (λe=>a5 k S A (e▸f)))
      .intro k S d A f;obtain⟨f1,f2,f3⟩:=y.fresh k S d A f
       grind
      .have G:=y.wrel;refine⟨G.tape,G.os,G.output,G.drawn,dg G.size j.size,?_,?_,?_,?_,G.hle,G.hold,?_⟩
       .intro d f hE
        have L:d≠b:=λe=>by
         subst e;rcases G.mfr d _ X.at_ with M|M
         .omega
         grind
        rw[j.block d (dh f G.size) L];exact G.frame d f hE
       .intro d t u Y;have L:d≠b:=λe=>by subst e;rw[G.disj d _ X.at_ t]at Y;cases Y
        have M:=G.hsat d t u Y;rw[<-M];exact World.cell?_of_block (w:=w) (a:=⟨d,t,none⟩) (j.block d (World.block_lt_of_cell? w ⟨d,t,none⟩ M) L)
       .intro d ob f;have r:(if d=b then some (Obj.cells (splice N.toList off l).toArray E (0,0))else σ.m d)=some ob:=f;by_cases e:d=b
        .subst e;rw[if_pos rfl]at r;rw[setRow_heap w d N _ E _ H];exact r
        .rw[if_neg e]at r;have M:=G.msat d ob r;rw[j.block d (Array.getElem?_eq_some_iff.1 M).1 e];exact M
       .intro d ob f i;have r:(if d=b then some (Obj.cells (splice N.toList off l).toArray E (0,0))else σ.m d)=some ob:=f;by_cases e:d=b
        .subst e;exact G.disj d _ X.at_ i
        .rw[if_neg e]at r;exact G.disj d _ r i
       .intro d ob f;have r:(if d=b then some (Obj.cells (splice N.toList off l).toArray E (0,0))else σ.m d)=some ob:=f;by_cases e:d=b
        .subst e;exact G.mfr d _ X.at_
        .rw[if_neg e]at r;exact G.mfr d _ r
     .constructor
      .intro k p' T' b6 d A ht O;exact j.block d (pB (y.own k _ A) (by rw[O];rfl)) (λe=>a5 k _ A (by rw[O, <-e];rfl))
      .intro d t u Y;have L:d≠b:=λe=>by subst e;rw[y.wrel.disj d _ X.at_ t]at Y;cases Y
       have M:=y.wrel.hsat d t u Y;rw[<-M];exact World.cell?_of_block (w:=w) (a:=⟨d,t,none⟩) (j.block d (World.block_lt_of_cell? w ⟨d,t,none⟩ M) L)
      .intro H;rw[Z]at H;simp[zH]at H
      .intro l' d b8;simp[sD,Z]at b8
    grind
   grind
  grind
end
end Go.Vc
namespace Go.Vc
open Go List
section
variable{B:qE}{C:Ctx}{ι:dv}{σ:St}{a:Act}{w:World}{o:Oper}{K:St->Prop}
theorem lI(c:aJ B ι σ a w):HO σ ι o w w:=
 ⟨λ_ _ _ _ _ _ _ _=>rfl,λb off v d=>c.wrel.hsat b off v d,λ_ _ _=>rfl,λ_ _ _ _ _ _=>rfl⟩
theorem TP(q:aJ B ι σ a w){T:Nat}{x:Operand}{lo hi mx:Option Operand}(L:o.op= .slice T x lo hi mx)(h:Sg C o T x lo hi mx σ K):Tw B C ι o σ K a w:=by
 intro next Q l
 have d:=q.ev x;unfold Sg at h;split at h
 .rename_i k n A;rw[A]at d;have d:a.eval x=ι k:=d;have c:=q.ev n;split at h
  .rename_i E O u D i E' R F y;rw[F]at c;have c:a.eval n= .int D i:=c;split at h
   case h_2=>exact h.elim
   rename_i r;obtain⟨G,I,h⟩:=h;obtain⟨hr,M⟩:=qY q R;have H:cT O (u.take i.toNat):=⟨λe Y=>hr.len e (mem_of_mem_take Y),λe Y=>hr.one e (mem_of_mem_take Y)⟩
   have v:(u.take i.toNat).length=i.toNat:=cg
   obtain⟨S,_,p,_⟩:=gA r;rcases M.2 with⟨U,a6⟩|⟨g,m,Z,U,a9,hg,b',a',a0,J⟩
   .have a1:i=0:=by omega
    subst a1
    have f:(execOp a.eval o).run C.P w= .ok (.value (.slice none 0 0)) w:=by
     unfold execOp;simp[L,d,U,c,Instr.sliceAt,run_underlying y,Instr.slice,Instr.sliceBounds,Instr.sliceBound,asIntOf,run_sizeOf p]
    unfold Oper.wp;rw[f,Oper.upon_value];refine l (upd ι k (.slice none 0 0)) _ _ _ ?_ h (lI q);refine aJ.put ?_ o.dst (by show _=_;simp);refine q.place k _ _ (CY.refl _ _) ⟨H,?_⟩ rfl (λb hb=>cg)
    grind
   .have f:(execOp a.eval o).run C.P w= .ok (.value (.slice (some ⟨g,0,none⟩) i.toNat m)) w:=by
     have a2:i<=(m:Int):=by omega
     unfold execOp;simp[L,d,U,c,Instr.sliceAt,run_underlying y,Instr.slice,Instr.sliceBounds,Instr.sliceBound,asIntOf,run_sizeOf p,G,a2,Addr.add_none]
    unfold Oper.wp;rw[f,Oper.upon_value];refine l (upd ι k (.slice (some ⟨g,0,none⟩) i.toNat m)) _ _ _ ?_ h (lI q);refine aJ.put ?_ o.dst (by show _=_;simp);refine q.place k _ _ (CY.refl _ _) ⟨H,cX H.len,.inr ⟨g,m,Z,by rw[v],Nat.zero_le _,hg,aC,a',a0,?_⟩⟩ rfl (λb hb=>.inr ⟨⟨_,R⟩,by rw[U];exact hb⟩);rw[v]
    have N:(u.take i.toNat).flatten=u.flatten.take (i.toNat*O):=by
     have:u=u.take i.toNat++u.drop i.toNat:=(take_append_drop _ _).symm;rw[show u.flatten=(u.take i.toNat).flatten++(u.drop i.toNat).flatten by grind];rw[take_left'];rw[cX H.len,v]
    rw[N, <-J,take_take];congr 1;have:i.toNat*O<=u.length*O:=Nat.mul_le_mul_right _ aC;omega
  grind
 .rename_i z len m n A;rw[A]at d;have d:a.eval x= .slice z len m:=d;have c:=q.ev n;split at h
  .rename_i D i E' F y;rw[F]at c;have c:a.eval n= .int D i:=c;split at h
   case h_2=>exact h.elim
   rename_i r;obtain⟨G,I,h⟩:=h;obtain⟨S,_,p,_⟩:=gA r
   have f:(execOp a.eval o).run C.P w= .ok (.value (.slice z i.toNat m)) w:=by
    unfold execOp;simp[L,d,c,Instr.sliceAt,run_underlying y,Instr.slice,Instr.sliceBounds,Instr.sliceBound,asIntOf,run_sizeOf p,G,I];cases z<;>simp[Addr.add]
   unfold Oper.wp;rw[f,Oper.upon_value];exact l ι _ _ _ (q.put o.dst (x:=.at (.val _)) rfl) h (lI q)
  grind
 .rename_i z len m n k A;rw[A]at d;have d:a.eval x= .slice z len m:=d;have c:=q.ev n;have t:=q.ev k;split at h
  .rename_i D i kj j E' F R y;rw[F]at c;rw[R]at t;have c:a.eval n= .int D i:=c;have t:a.eval k= .int kj j:=t;split at h
   case h_2=>exact h.elim
   rename_i r;obtain⟨G,I,h2,h⟩:=h;obtain⟨S,_,p,_⟩:=gA r
   have f:(execOp a.eval o).run C.P w= .ok (.value (.slice z i.toNat j.toNat)) w:=by
    have V:0<=j:=by omega
    have W:max j 0=j:=by omega
    unfold execOp;simp[W,L,d,c,t,Instr.sliceAt,run_underlying y,Instr.slice,Instr.sliceBounds,Instr.sliceBound,asIntOf,run_sizeOf p,G,I,h2,V];cases z<;>simp[Addr.add]
   unfold Oper.wp;rw[f,Oper.upon_value];exact l ι _ _ _ (q.put o.dst (x:=.at (.val _)) rfl) h (lI q)
  grind
 .rename_i z len m n A;rw[A]at d;have d:a.eval x= .slice z len m:=d;have c:=q.ev n;split at h
  .rename_i D i E' F y;rw[F]at c;have c:a.eval n= .int D i:=c;split at h
   case h_2=>exact h.elim
   rename_i r;obtain⟨G,I,hc,h⟩:=h;obtain⟨S,_,p,b0,a3,a5⟩:=gA r;have a4:=run_sizeOf p;obtain⟨s,X⟩:∃s:Sl,tA (C.P.cellsOf E') ⟨z,len,m⟩ i.toNat s:=⟨⟨_,_,_⟩,rfl,rfl,rfl⟩
   have f:(execOp a.eval o).run C.P w= .ok (.value (.slice s.a s.len s.cap)) w:=by
    have V:=X.a_;have W:=X.len;have h5:=X.cap;dsimp only at V W h5;unfold execOp;simp[L,d,c,Instr.sliceAt,run_underlying y,Instr.slice,Instr.sliceBounds,Instr.sliceBound,asIntOf,a4,G,I,V,W,h5,a3]
   unfold Oper.wp;rw[f,Oper.upon_value];exact l ι _ _ _ (q.put o.dst (x:=.at (.val _)) rfl) (h s X) (lI q)
  grind
 .rename_i b off n A;rw[A]at d;have d:a.eval x= .pointer (some ⟨b,off,none⟩):=d;have c:=q.ev n;split at h
  .rename_i D i len E' F y;rw[F]at c;have c:a.eval n= .int D i:=c;split at h
   case h_2=>exact h.elim
   rename_i r;obtain⟨G,I,h⟩:=h;obtain⟨S,_,p,_⟩:=gA r
   have f:(execOp a.eval o).run C.P w= .ok (.value (.slice (some ⟨b,off,none⟩) i.toNat len)) w:=by
    unfold execOp;simp[L,d,c,Instr.sliceAt,run_underlying y,Instr.sliceBounds,Instr.sliceBound,asIntOf,run_sizeOf p,G,I,Instr.sureAddr,asAddr,Addr.add]
   unfold Oper.wp;rw[f,Oper.upon_value];exact l ι _ _ _ (q.put o.dst (x:=.at (.val _)) rfl) h (lI q)
  grind
 grind
structure Ld(ι:dv)(σ σ':St)(ks:eh):Prop where
 cells:∀k p T cs,nth σ.own k=some (some (.cellsP p T cs))->k∉ks->∃cs',nth σ'.own k=some (some (.cellsP p T cs'))
 imm:σ'.h=σ.h
 lst:∀x k,σ'.ev x= .at (.lst k)->σ.ev x= .at (.lst k)
 m_:∀b,σ.m b=none->σ'.m b≠none->∃k∈ks,blk (ι k)=some b
theorem OG{σ:St}{k:Nat}{f:At->At}{m:MH}{h:PH}{own:fa}(c:∀x j,f x≠ .lst j){x:Operand}{j:Nat}(hx:St.ev {sl:=σ.sl.map (SV.sub k f),own:=own,m:=m,h:=h} x= .at (.lst j)):σ.ev x= .at (.lst j):=by
 rcases Ym σ k f m h own x with b|⟨v,b⟩
 .exact YR c (b▸hx)
 .rcases b with rfl|⟨g,rfl⟩|⟨g,rfl⟩<;>exact hx
theorem bTX(s:aJ B ι σ a w){k T:Nat}{p:Option Nat}{cs:dz}{l:dj}(D:nth σ.own k=some (some (.cellsP p T cs)))(J:tO cs=some l):
 ∃(b:Nat)(m':MH),dZ σ.m σ.h b/\gI σ.m m' b (.cells l.toArray T (0,0))/\
  aJ B ι {(σ.sub k (λ |.ptr _ o=>.val (.pointer (some ⟨b,o,none⟩))|_=>.junk)).setOwn k none with m:=m'} a w/\
  Ld ι σ {(σ.sub k (λ |.ptr _ o=>.val (.pointer (some ⟨b,o,none⟩))|_=>.junk)).setOwn k none with m:=m'} [k]:=by
 obtain⟨b,L,H,M,E⟩:=vF s D;have N:L.toList=l:=EM J E;have u:blk (ι k)=some b:=by rw[H];rfl
 obtain⟨V,O,I⟩:=s.fresh k _ b D u
 let m':MH:=λf=>if f=b then some (.cells l.toArray T (0,0))else σ.m f
 have g:aJ B ι ((σ.sub k (λ |.ptr _ o=>.val (.pointer (some ⟨b,o,none⟩))|_=>.junk)).setOwn k none) a w:=by
  have:=s.drop k (ι k) (s.one k) (λ |.ptr _ o=>.val (.pointer (some ⟨b,o,none⟩))|_=>.junk) (by
   intro x v A E;cases x<;>simp only[At.key,cw,reduceCtorEq]at A
   case lst=>trivial
   case el=>trivial
   case ptr j off=>
    subst A;obtain⟨f,d,P⟩:=E;rw[H]at d;simp only[Value.pointer.injEq,cw,Addr.mk.injEq]at d;obtain⟨rfl, -, -⟩:=d;exact P)
  rwa [HU]at this
 have r:∀j y,nth ((σ.sub k (λ |.ptr _ o=>.val (.pointer (some ⟨b,o,none⟩))|_=>.junk)).setOwn k none).own j=some (some y)->blk (ι j)≠some b:=by
  intro j y t Q;obtain⟨r,W,F,_⟩:=pK t;exact r (s.dist j k _ _ b F D Q u)
 refine⟨b,m',⟨O,I⟩,⟨by simp[m'],λf d=>cg⟩,⟨g.slots,g.defers,g.own,g.dist,?_,?_,g.one⟩,?_⟩
 .intro j y f t d;obtain⟨R,S,U⟩:=g.fresh j y f t d;refine⟨R,?_,U⟩;have:f≠b:=λe=>r j y t (e▸d);show(if f=b then _ else σ.m f)=none;rw[if_neg this];exact S
 .have n:=s.wrel;refine⟨n.tape,n.os,n.output,n.drawn,n.size,n.frame,n.hsat,?_,?_,n.hle,n.hold,?_⟩
  .intro f q d;have c:(if f=b then some (Obj.cells l.toArray T (0,0))else σ.m f)=some q:=d;by_cases e:f=b
   .subst e;rw[if_pos rfl]at c;rw[M, <-c];congr 2
    grind
   .rw[if_neg e]at c;exact n.msat f q c
  .intro f q d i;have c:(if f=b then some (Obj.cells l.toArray T (0,0))else σ.m f)=some q:=d;by_cases e:f=b
   .subst e;exact I i
   .rw[if_neg e]at c;exact n.disj f q c i
  .intro f q d;have c:(if f=b then some (Obj.cells l.toArray T (0,0))else σ.m f)=some q:=d;by_cases e:f=b
   .grind
   .rw[if_neg e]at c;exact n.mfr f q c
 .refine⟨?_,rfl,λx j A=>OG (λx j=>cg) A,λf X Y=>⟨k,bx,?_⟩⟩
  case refine_2=>
   grind
  intro j Z T' G t z;simp only[mem_singleton]at z;refine⟨G.map (At.sub k (λ |.ptr _ o=>.val (.pointer (some ⟨b,o,none⟩))|_=>.junk)),?_⟩
  .simp only[St.setOwn,St.sub,yD,Ay,z,false_and,if_false,t];rfl
theorem bTZ{σ τ υ:St}{k:Nat}{ks:eh}(h:Ld ι σ τ [k])(c:Ld ι τ υ ks){b:Nat}(d:σ.m b=none)(f:υ.m b≠none):∃j∈k::ks,blk (ι j)=some b:=by
 cases e:τ.m b with
 |none=>
  obtain⟨j,g,i⟩:=c.m_ b e f
  grind
 |some o=>
  obtain⟨j,g,i⟩:=h.m_ b d cg
  grind
theorem xP:∀(ks:eh)(σ:St),aJ B ι σ a w->Fi σ K ks->∃e,aJ B ι e a w/\K e/\Ld ι σ e ks
 |[],σ,g,h=>⟨σ,g,h,⟨λ_ _ _ v h _=>⟨v,h⟩,rfl,λ_ _ h=>h,λ_ i m=>(m i).elim⟩⟩
 |k::ks,σ,g,h=>by
  simp only[Fi]at h;split at h
  .rename_i p T v A;split at h
   .rename_i l D;obtain⟨b,E,n,q,r,d⟩:=bTX g A D;obtain⟨e,s,F,c⟩:=xP ks _ r (h b E n q);refine⟨e,s,F,⟨λj y T' t G z=>?_,c.imm.trans d.imm,λx j H=>d.lst x j (c.lst x j H),λb i m=>bTZ d c i m⟩⟩;simp only[mem_cons,not_or]at z;obtain⟨f,u⟩:=d.cells j y T' t G cg;exact c.cells j y T' f u z.2
   grind
  grind
theorem aEZ(G:aJ B ι σ a w){k E sz:Nat}{xs:List dj}(Q:nth σ.own k=some (some (.lst E sz xs))):
 ∃(s:Sl)(m':MH),qJ σ.m m' σ.h s E sz xs/\aJ B ι {(σ.sub k (λ |.lst _=>.val s.val|_=>.junk)).setOwn k none with m:=m'} a w/\
  Ld ι σ {(σ.sub k (λ |.lst _=>.val s.val|_=>.junk)).setOwn k none with m:=m'} [k]:=by
 obtain⟨Y,t⟩:=qY G Q
 obtain⟨s,Z⟩:∃s:Sl,ι k=s.val:=by
  rcases t.2 with⟨r,_⟩|⟨g,n,p,r,_⟩
  .exact⟨⟨none,0,0⟩,r⟩
  .exact⟨⟨some ⟨g,0,none⟩,xs.length,n⟩,r⟩
 have l:aJ B ι ((σ.sub k (λ |.lst _=>.val s.val|_=>.junk)).setOwn k none) a w:=by
  have:=G.drop k (ι k) (G.one k) (λ |.lst _=>.val s.val|_=>.junk) (by
   intro x v N hd;cases x<;>simp only[At.key,cw,reduceCtorEq]at N
   case ptr=>trivial
   case el=>trivial
   case lst j=>
    subst N;have hd:v=ι j:=hd;show v=s.val
    grind)
  rwa [HU]at this
 have I:∀m':MH,(∀b,σ.m b=none->m' b≠none->blk (ι k)=some b)->Ld ι σ {(σ.sub k (λ |.lst _=>.val s.val|_=>.junk)).setOwn k none with m:=m'} [k]:=by
  intro m' R;refine⟨?_,rfl,λx j N=>OG (λx j=>cg) N,λd O P=>⟨k,bx,R d O P⟩⟩;intro j p' T' S H J;simp only[mem_singleton]at J;refine⟨S.map (At.sub k (λ |.lst _=>.val s.val|_=>.junk)),?_⟩;simp only[St.setOwn,St.sub,yD,Ay,J,false_and,if_false,H];rfl
 rcases t.2 with⟨r,T⟩|⟨g,n,p,r,a',hg,U,V,W,A⟩
 .have D:s=⟨none,0,0⟩:=by
   rw[Z]at r;obtain⟨x,y,z⟩:=s;simp only[Sl.val,Value.slice.injEq]at r
   grind
  subst D;exact⟨⟨none,0,0⟩,σ.m,⟨⟨Y,.inl ⟨rfl,eq_nil_of_length_eq_zero T⟩⟩,λ_ _=>rfl,λb i e=>by cases e⟩,l,I σ.m (λb O P=>(P O).elim)⟩
 .have L:blk (ι k)=some g:=by rw[r];rfl
  obtain⟨f1,f2,f3⟩:=G.fresh k _ g Q L
  have D:s=⟨some ⟨g,0,none⟩,xs.length,n⟩:=by
   rw[Z]at r;obtain⟨x,y,z⟩:=s;simp only[Sl.val,Value.slice.injEq]at r
   grind
  subst D
  let m':MH:=λd=>if d=g then some (.cells p E (0,0))else σ.m d
  have F:∀j M,nth ((σ.sub k (λ |.lst _=>.val (Sl.mk (some ⟨g,0,none⟩) xs.length n).val|_=>.junk)).setOwn k none).own j=some (some M)->blk (ι j)≠some g:=by
   intro j M H hb;obtain⟨F,o1,X,_⟩:=pK H;exact F (G.dist j k _ _ g X Q hb L)
  refine⟨⟨some ⟨g,0,none⟩,xs.length,n⟩,m',⟨⟨Y,.inr ⟨g,n,p,rfl,by simp[m'],U,V,W,A⟩⟩,λd f=>?_,λb i e=>?_⟩,⟨l.slots,l.defers,l.own,l.dist,?_,?_,l.one⟩,I m' (λb O P=>?_)⟩
  .grind
  .simp only[cw,Addr.mk.injEq]at e;obtain⟨rfl,_,_⟩:=e;exact⟨f2,f3⟩
  .intro j M d H f;obtain⟨g1,g2,g3⟩:=l.fresh j M d H f;refine⟨g1,?_,g3⟩;have:d≠g:=λe=>F j M H (e▸f);show(if d=g then _ else σ.m d)=none;rw[if_neg this];exact g2
  .have q:=G.wrel;refine⟨q.tape,q.os,q.output,q.drawn,q.size,q.frame,q.hsat,?_,?_,q.hle,q.hold,?_⟩
   .intro d u f;have c:(if d=g then some (Obj.cells p E (0,0))else σ.m d)=some u:=f;by_cases e:d=g
    .grind
    .rw[if_neg e]at c;exact q.msat d u c
   .intro d u f i;have c:(if d=g then some (Obj.cells p E (0,0))else σ.m d)=some u:=f;by_cases e:d=g
    .subst e;exact f3 i
    .rw[if_neg e]at c;exact q.disj d u c i
   .intro d u f;have c:(if d=g then some (Obj.cells p E (0,0))else σ.m d)=some u:=f;by_cases e:d=g
    .grind
    .rw[if_neg e]at c;exact q.mfr d u c
  grind
theorem CB:∀(ks:eh)(σ:St),aJ B ι σ a w->CM σ K ks->∃e,aJ B ι e a w/\K e/\Ld ι σ e ks
 |[],σ,i,h=>⟨σ,i,h,⟨λ_ _ _ v h _=>⟨v,h⟩,rfl,λ_ _ h=>h,λ_ l m=>(m l).elim⟩⟩
 |k::ks,σ,i,h=>by
  simp only[CM]at h;split at h
  .rename_i E G H y;obtain⟨s,z,f,n,d⟩:=aEZ i y;obtain⟨e,p,A,c⟩:=CB ks _ n (h s z f);refine⟨e,p,A,⟨λj t T' q D u=>?_,c.imm.trans d.imm,λx j F=>d.lst x j (c.lst x j F),λb l m=>bTZ d c l m⟩⟩;simp only[mem_cons,not_or]at u;obtain⟨g,r⟩:=d.cells j t T' q D cg;exact c.cells j t T' g r u.2
  grind
end
end Go.Vc
namespace Go.Vc
open Go List
def C5(w:World):CV->Value->Prop
 |.val v,u=>u=v
 |.lst E c b,u=>cT c b/\w.ownsRow 0 E c u b.length b.flatten
 |.tup e,u=>∃d:Array Value,u= .tuple d/\e=d.toList.map .val
def gK:CV->Value->Option Nat
 |.lst _ _ _,u=>blk u
 |_,_=>none
def CG(w:World):ei->dj->Prop
 |[],[]=>True
 |c::cs,v::vs=>C5 w c v/\CG w cs vs
 |_,_=>False
def sI(m:MH)(d:ei)(vs:dj)(b:Nat):Prop:=m b≠none\/∃(i:Nat)(c:CV)(u:Value),d[i]? =some c/\vs[i]? =some u/\gK c u=some b
structure zD(w:World)(m:MH)(h:PH)(cvs:ei)(vs:dj):Prop where
 args:CG w cvs vs
 hsat:∀b o v,h b o=some v->w.cell? ⟨b,o,none⟩=some v
 msat:∀b o,m b=some o->w.heap[b]? =some o
 disj:∀b o,m b=some o->∀i,h b i=none
 sep:∀(i j:Nat)(c d:CV)(u v:Value)(b:Nat),cvs[i]? =some c->vs[i]? =some u->cvs[j]? =some d->vs[j]? =some v->gK c u=some b->gK d v=some b->i=j
 free:∀(i:Nat)(c:CV)(u:Value)(b:Nat),cvs[i]? =some c->vs[i]? =some u->gK c u=some b->m b=none/\∀o,h b o=none
def Sound(P:Program)(f:FuncId)(S:Spec):Prop:=
 (∃g,P.funcs[f]? =some g/\g.body.isSome=true/\(g.name== "runtime.NumGoroutine")=false)/\
 ∀c d m h w K,S c m h K->zD w m h c d->
  Calls P f d.toArray w λe n=>∃r u j l,e= .returned u/\K r j l/\C5 n r u/\vN ⟨w,sI m c d,h,[]⟩ j l n/\
   (∀b,gK r u=some b->(w.heap.size<=b\/sI m c d b)/\j b=none/\∀i,l b i=none)
section
variable{B:qE}{C:Ctx}{ι:dv}{σ:St}{a:Act}{w:World}{o:Oper}{K:St->Prop}
theorem Hi(sz:Nat):cT sz []:=⟨(λe b=>by cases b),(λe b=>by cases b)⟩
theorem EB(p:aJ B ι σ a w){mv:eh}:∀(i:Nat)(l:ej)(ts:fe)(f:ei),qO C.P σ mv i l ts=some f->
 CG w f (l.map a.eval)/\∀(j:Nat)(c:CV)(u:Value)(b:Nat),f[j]? =some c->(l.map a.eval)[j]? =some u->gK c u=some b->
  ∃x k q,l[j]? =some x/\mv.contains (i+j)=true/\σ.ev x= .at (.lst k)/\nth σ.own k=some (some q)/\u=ι k
 |i,[],ts,f,h=>by
  simp[qO]at h;subst h;exact⟨trivial,λj c u b G=>by simp at G⟩
 |i,x::r,ts,f,h=>by
  simp only[qO]at h;split at h
  .cases h
  .rename_i g m;obtain⟨n,H⟩:=EB p (i+1) r ts.tail g m
   have d:∀(A:CV),(∀(u:Value)(b:Nat),(a.eval x)=u->gK A u=some b->∃k q,mv.contains i=true/\σ.ev x= .at (.lst k)/\nth σ.own k=some (some q)/\u=ι k)->
    ∀(j:Nat)(c:CV)(u:Value)(b:Nat),(A::g)[j]? =some c->((x::r).map a.eval)[j]? =some u->gK c u=some b->
     ∃D k q,(x::r)[j]? =some D/\mv.contains (i+j)=true/\σ.ev D= .at (.lst k)/\nth σ.own k=some (some q)/\u=ι k:=by
    grind
   split at h
   .rename_i v;split at h
    .rename_i k t;have e:=p.ev x;rw[t]at e;have e:a.eval x=ι k:=e;split at h
     .rename_i E J L F;simp only[cw]at h;subst h;obtain⟨I,M⟩:=qY p F;refine⟨⟨⟨I,cg⟩,n⟩,d _ (λu b s _=>⟨k,_,v,t,F,cg⟩)⟩
     .cases h
    .rename_i t;have e:=p.ev x;rw[t]at e;have e:a.eval x= .slice none 0 0:=e;split at h
     .rename_i E z N;simp only[cw]at h;subst h;refine⟨⟨⟨Hi _,by rw[e];exact World.ownsRow_nil w 0 E _⟩,n⟩,d _ (λu b s y=>?_)⟩;rw[e]at s;subst s;simp[gK,blk]at y
     .cases h
    .cases h
   .split at h
    .rename_i u s;simp only[cw]at h;subst h;exact⟨⟨p.rho s,n⟩,d _ (λu b _ y=>by simp[gK]at y)⟩
    .cases h
theorem CA{mv:eh}:∀(i:Nat)(l:ej)(j:Nat)(x:Operand)(k:Nat),l[j]? =some x->mv.contains (i+j)=true->σ.ev x= .at (.lst k)->k∈jN σ mv i l
 |i,[],j,x,k,h,_,_=>by simp at h
 |i,y::r,0,x,k,h,b,c=>by
  simp at h;subst h;simp only[Nat.add_zero]at b;simp only[jN,b,c]
  grind
 |i,y::r,j+1,x,k,h,b,c=>by
  simp only[getElem?_cons_succ]at h;have:=CA (i+1) r j x k h (by rw[show i+1+j=i+(j+1)by omega];exact b) c;simp only[jN]
  grind
theorem G3{mv:eh}:∀(i:Nat)(l:ej),J5 (jN σ mv i l)=true->∀(j c:Nat)(x e:Operand)(k:Nat),l[j]? =some x->l[c]? =some e->
 mv.contains (i+j)=true->mv.contains (i+c)=true->σ.ev x= .at (.lst k)->σ.ev e= .at (.lst k)->j=c
 |i,[],_,j,_,_,_,_,h,_,_,_,_,_=>by simp at h
 |i,y::r,b,j,c,x,e,k,h,q,D,t,u,f=>by
  have key:∀j x,r[j]? =some x->mv.contains (i+(j+1))=true->σ.ev x= .at (.lst k)->∀g,y=g->mv.contains i=true->σ.ev g= .at (.lst k)->False:=by
   intro j x v z m g A n p;subst A;simp only[jN,n,p]at b;have s:=CA (σ:=σ) (mv:=mv) (i+1) r j x k v cg m;simp only[J5]at b
   grind
  have d:J5 (jN σ mv (i+1) r)=true:=by
   simp only[jN]at b;split at b
   .simp only[J5]at b
    grind
   omega
  cases j with
  |zero=>
   grind
  |succ j=>
   cases c with
   |zero=>
    grind
   |succ c=>
    simp only[getElem?_cons_succ]at h q;have:=G3 (i+1) r d j c x e k h q cg cg u f;rw[this]
theorem G5:∀(ks:eh)(σ:St),aJ B ι σ a w->aJ B ι (AZ σ ks) a w/\(AZ σ ks).m=σ.m/\(AZ σ ks).h=σ.h/\
 (∀j b,nth (AZ σ ks).own j=some (some b)->j∉ks/\∃e,nth σ.own j=some (some e))
 |[],σ,d=>⟨d,rfl,rfl,λj b h=>⟨bx,b,h⟩⟩
 |k::ks,σ,d=>by
  have f:=d.kill k (ι k) (d.one k);rw[HU]at f;obtain⟨g,i,l,n⟩:=G5 ks (σ.kill k) f;refine⟨g,i,l,λj b p=>?_⟩;obtain⟨s,e,c⟩:=n j b p;rw[MW]at c;obtain⟨q,t,r,_⟩:=pK c
  grind
theorem vN.trans{m m':MH}{h j:PH}{w w':World}{E:Nat->Prop}(d:vN B m h w)(c:vN ⟨w,E,h,[]⟩ m' j w')(q:∀b,E b->B.w0.heap.size<=b\/B.E b):vN B m' j w':=by
 refine⟨c.tape.trans d.tape,c.os.trans d.os,c.output.trans d.output,dg d.drawn c.drawn,dg d.size c.size,?_,c.hsat,c.msat,c.disj,λb o v n=>c.hle b o v (d.hle b o v n),?_,?_⟩
 .intro b f i
  have g:¬E b:=λe=>by
   grind
  rw[c.frame b (dh f d.size) g];exact d.frame b f i
 .intro b f i
  have g:¬E b:=λe=>by
   grind
  rw[c.hold b (dh f d.size) g];exact d.hold b f i
 .intro b p f;rcases c.mfr b p f with l|l
  .exact .inl (dg d.size l)
  grind
theorem aJ.called{m':MH}{n:PH}{w':World}{E:Nat->Prop}(d:aJ B ι σ a w)(p:vN ⟨w,E,σ.h,[]⟩ m' n w')(r:∀b,E b->B.w0.heap.size<=b\/B.E b)
 (e:∀j f b,nth σ.own j=some (some f)->blk (ι j)=some b->¬E b):aJ B ι {σ with m:=m',h:=n} a w':=by
 refine⟨d.slots,d.defers,?_,d.dist,?_,d.wrel.trans p r,d.one⟩
 .intro j f g;have c:=d.own j f g;exact c.world (λb l=>p.frame b (pB c l) (e j f b g l))
 .intro j f b g l;have c:=d.own j f g;obtain⟨s,A,t⟩:=d.fresh j f b g l;have q:=pB c l;have u:=e j f b g l;refine⟨s,?_,λi=>?_⟩
  .show m' b=none;cases v:m' b with
   |none=>rfl
   |some y=>
    rcases p.mfr b y v with z|z
    .grind
    grind
  .have:n b=σ.h b:=p.hold b q u;show n b i=none;rw[this];exact t i
theorem HW:∀{d:ei}{l:List (Sum At dz)}{us:dj},C6 d=some l->d=us.map .val->O7 ι l us
 |[],l,us,h,b=>by
  simp[C6]at h;subst h;cases us with
  |nil=>trivial
  |cons u us=>simp at b
 |.val v::r,l,us,h,b=>by
  cases us with
  |nil=>simp at b
  |cons u us=>
   simp only[map_cons,List.cons.injEq,CV.val.injEq]at b;simp only[C6]at h;split at h
   .rename_i e c;simp only[cw]at h;subst h;exact⟨b.1.symm,HW c b.2⟩
   .cases h
 |.lst _ _ _::_,l,us,h,_=>by simp[C6]at h
 |.tup _::_,l,us,h,_=>by simp[C6]at h
theorem Lv{E sz n:Nat}{v:Value}{l:dj}(h:w.ownsRow 0 E sz v n l):v.oneCell'=true:=by
 rcases h.2 with⟨rfl,_⟩|⟨g,b,c,rfl,_⟩<;>rfl
theorem Lt{σ:St}{k:Nat}:∀{l:ej},k∈nZ σ l->∃x∈l,∃off,σ.ev x= .at (.ptr k off)
 |[],h=>by cases h
 |x::r,h=>by
  have b:=λh=>Lt (σ:=σ) (k:=k) (l:=r) h;have c:k∈nZ σ r->∃y∈x::r,∃off,σ.ev y= .at (.ptr k off):=λh=>let⟨y,hy,off,e⟩:=b h;⟨y,mem_cons_of_mem _ hy,off,e⟩
  simp only[nZ]at h
  grind
theorem Yr(W:∀g S,assoc C.specs g=some S->Sound C.P g S)(hM:aJ B ι σ a w){c:Call}{g:Operand}{f:FuncId}{fs cs:Array Value}(ho:o.op= .call c)(hc:c.callee= .value g)
 (hg:σ.ev g= .at (.val (.func (.func f) fs cs)))(f':fs.toList=[])(f0:cs.toList=[])(h:Ys C o f c.args.toList c.argTypes.toList σ K):Tw B C ι o σ K a w:=by
 intro next Q G
 unfold Ys at h;split at h
 .exact h.elim
 .rename_i S hS;obtain⟨⟨fn,c4,c5,c6⟩,X⟩:=W f S hS;obtain⟨τ,c7,h,J⟩:=nH _ _ hM h;obtain⟨υ,q,h,Y⟩:=xP _ _ c7 h;split at h
  .rename_i O b3 c8;generalize Gy C f=mv at*
   obtain⟨R,z⟩:=EB q 0 _ _ _ b3
   have b4:zD w υ.m υ.h O (c.args.toList.map a.eval):=by
    refine⟨R,q.wrel.hsat,q.wrel.msat,q.wrel.disj,?_,?_⟩
    .intro i j A d1 u v b M hu hj hv U a3;obtain⟨x,k,ow,Z,hm,hk,t,rfl⟩:=z i A u b M hu U;obtain⟨x',V,f4,a4,c9,a',a5,rfl⟩:=z j d1 v b hj hv a3;have y:blk (ι k)=some b:=by cases A<;>simp[gK]at U;exact U
     have D:blk (ι V)=some b:=by cases d1<;>simp[gK]at a3;exact a3
     have d':=q.dist k V _ _ b t a5 y D;subst d';exact G3 (σ:=υ) (mv:=mv) 0 c.args.toList c8 i j x x' k Z a4 hm c9 hk a'
    .intro i A u b M hu U;obtain⟨x,k,ow,Z,hm,hk,t,rfl⟩:=z i A u b M hu U;have y:blk (ι k)=some b:=by cases A<;>simp[gK]at U;exact U
     exact(q.fresh k ow b t y).2
   have a6:=X O _ υ.m υ.h w _ h b4;have d0:a.eval g= .func (.func f) fs cs:=by have:=hM.ev g;rw[hg]at this;exact this
   have b5:fs= #[]:=cg
   have b6:cs= #[]:=cg
   subst b5 b6;have a0:c.args.map a.eval=(c.args.toList.map a.eval).toArray:=cg
   have d2:¬fn.body=none:=cg
   have d3:¬fn.name= "runtime.NumGoroutine" :=cg
   have b7:(execOp a.eval o).run C.P w= .ok (.enter f (c.args.toList.map a.eval).toArray) w:=by
    unfold execOp;simp only[ho,resolve,hc,d0,Deferred.ofValue,Sem.run_bind,Sem.run_pure,Result.andThen_ok,invoke,callFunc];simp[program,Sem.run,c4,d3,d2,a0]
   unfold Oper.wp;rw[b7,Oper.upon_enter];refine Calls.mono a6 ?_;rintro e w' ⟨r,u,m',h',rfl,hK,hr,hw,U⟩;show next (a.put o.dst u) w'
   obtain⟨b8,f5,f6,a9⟩:=G5 (jN υ mv 0 c.args.toList) υ q
   have b9:∀b,sI υ.m O (c.args.toList.map a.eval) b->B.w0.heap.size<=b\/B.E b:=by
    rintro b (L|⟨i,A,N,M,F,s⟩)
    .cases H:υ.m b with
     |none=>grind
     |some ob=>exact q.wrel.mfr b ob H
    .obtain⟨x,k,ow,Z,H,hk,t,rfl⟩:=z i A N b M F s;have y:blk (ι k)=some b:=by cases A<;>simp[gK]at s;exact s
     exact(q.fresh k ow b t y).1
   have b':∀j o' b,nth (AZ υ (jN υ mv 0 c.args.toList)).own j=some (some o')->blk (ι j)=some b->¬sI υ.m O (c.args.toList.map a.eval) b:=by
    intro j o' b hj a1 c';obtain⟨c0,o1,c2⟩:=a9 j o' hj;rcases c' with L|⟨i,A,N,M,F,s⟩
    .exact L (q.fresh j o1 b c2 a1).2.1
    .obtain⟨x,k,ow,Z,H,hk,t,rfl⟩:=z i A N b M F s;have y:blk (ι k)=some b:=by cases A<;>simp[gK]at s;exact s
     have:=q.dist j k _ _ b c2 t a1 y;subst this;exact c0 (CA 0 _ i x j Z aC hk)
   have b0:aJ B ι {AZ υ (jN υ mv 0 c.args.toList)with m:=m',h:=h'} a w':=by
    refine b8.called (E:=sI υ.m O (c.args.toList.map a.eval)) ?_ b9 b'
    grind
   have I:HO σ ι o w w':=by
    constructor
    .intro k p T d4 b hk ht hι;obtain⟨d5,d6⟩:=J.cells k p T d4 hk;have d7:=Nb J ht
     have d8:k∉nZ τ c.args.toList:=by
      unfold yA at d7
      grind
     obtain⟨f7,a2⟩:=Y.cells k p T d5 d6 d8;have y:blk (ι k)=some b:=by rw[hι];rfl
     refine hw.frame b (pB (q.own k _ a2) y) ?_;rintro(L|⟨i,A,N,M,F,s⟩)
     .exact L (q.fresh k _ b a2 y).2.1
     .obtain⟨x,V,ow,Z,H,a',t,rfl⟩:=z i A N b M F s;have D:blk (ι V)=some b:=by cases A<;>simp[gK]at s;exact s
      have:=q.dist k V _ _ b a2 t y D;subst this;cases A<;>simp[gK]at s;rename_i E1 f8 f9;have b1:=q.own k _ a2;obtain⟨b2,g',e2,_,_⟩:=b1
      have e7:∃ad n cp,ι k= .slice ad n cp:=by
       have c3:∀(l:ei)(vs:dj),CG w l vs->∀(i:Nat)(A:CV)(N:Value),l[i]? =some A->vs[i]? =some N->C5 w A N:=by
        intro l
        induction l with
        |nil=>grind
        |cons x0 r0 d9=>
         intro vs hv i A N h1 h2;cases vs with
         |nil=>exact hv.elim
         |cons v0 e'=>
          cases i with
          |zero=>simp at h1 h2;subst h1 h2;exact hv.1
          |succ i=>simp at h1 h2;exact d9 e' hv.2 i A N h1 h2
       have:=c3 _ _ R i _ _ M F;rcases this.2.2 with⟨e3,_⟩|⟨g3,e8,e9,e3,_⟩
       .grind
       grind
      grind
    .intro b off v hv;have h1:=J.imm b off v hv;rw[<-Y.imm]at h1;exact hw.hsat b off v (hw.hle b off v h1)
    .intro hg;rw[ho]at hg;simp[zH]at hg
    .intro l b hl U L Z;have hl:c.args.toList=l:=by simpa[sD,ho,hc]using hl
     refine hw.frame b U ?_;rintro(H|⟨i,A,N,M,F,s⟩)
     .obtain⟨k,hk,y⟩:=Y.m_ b (by rw[J.m_];exact L) H;obtain⟨x,e0,off,e1⟩:=Lt hk;exact Z x (hl▸e0) k (.inr ⟨off,J.ptr x k off e1⟩) y
     .obtain⟨x,V,ow,a4,H,a',t,rfl⟩:=z i A N b M F s;have D:blk (ι V)=some b:=by cases A<;>simp[gK]at s;exact s
      exact Z x (hl▸cr a4) V (.inl (J.lst x V (Y.lst x V a'))) D
   unfold bCJ at hK;split at hK
   .rename_i v;exact G ι _ _ _ (b0.put o.dst (x:=.at (.val v)) hr) hK I
   .rename_i E sz xs;split at hK
    .rename_i d hd;rw[hd];generalize (jN υ mv 0 c.args.toList).headD d=kd at hK;refine G (upd ι kd u) _ _ _ (aJ.put ?_ (some d) (x:=.at (.lst kd)) (by show _=_;simp)) hK I;refine b0.adopt kd _ u ⟨hr.1,hr.2⟩ (Lv hr.2) (λb e4=>?_);obtain⟨f1,f2,f3⟩:=U b e4;refine⟨⟨?_,f2,f3⟩,?_⟩
     .rcases f1 with f1|f1
      .exact .inl (dg q.wrel.size f1)
      grind
     .intro j o' _ hj a1;have e5:nth (AZ υ (jN υ mv 0 c.args.toList)).own j=some (some o'):=hj;rcases f1 with f1|f1
      .have:=pB (b8.own j o' e5) a1;omega
      grind
    grind
   .rename_i rs;split at hK
    .rename_i l hl;obtain⟨us,rfl,e6⟩:=hr;exact G ι _ _ _ (b0.put o.dst (x:=.tup l) ⟨us,rfl,HW hl e6⟩) hK I
    grind
  grind
end
end Go.Vc
