/- Own work. -/
import Derived.Calls
import Derived.CallsIn
import Derived.Orders
import Derived.KernelRfl
import Derived.Laws.AppendOwn
import Derived.Laws.CopyRow
import Derived.Deep.AppendSrc
import Derived.Deep.LoopGhost
import Derived.Laws.StructEq
import Derived.Laws.BytesArg
import Derived.Laws.NewBlocks
import Derived.Great.BuildSlice
import Derived.Laws.MakeOwn
import Derived.Lib.AppendZerosOnto
namespace Go
abbrev uv:=List (Nat×Operand)
abbrev ut:=List TypeId
abbrev ug:=List UInt8
abbrev uf:=List Operand
abbrev tz:=List (Value×Value)
abbrev tw:=List Nat
abbrev tv:=Nat->Value
abbrev tu:=List (Int×Int)
abbrev tp:=List (Int×Bool)
abbrev tm:=List Value
abbrev ti:=List Int
universe u
theorem sg{α:Type u}{l:List α}{i:Nat}{a:α}(h:l[i]?=some a):i<l.length:=(_root_.List.getElem?_eq_some_iff.1 h).1
theorem sh{α:Type u}{l:List α}{i:Nat}(h:i<l.length):l[i]?=some l[i]:=_root_.List.getElem?_eq_getElem h
theorem si{α:Type u}{l:List α}{i:Nat}{a:α}(h:l[i]?=some a):a∈l:=_root_.List.mem_of_getElem? h
theorem sj{α:Type u}{a b:List α}:(a++b).length=a.length+b.length:=_root_.List.length_append
theorem sm{α:Type u}{i:Nat}{l:List α}(h:l.length<=i):l.take i=l:=_root_.List.take_of_length_le h
theorem sn{α:Type u}{β:Type u}{f:α->β}{a b:List α}:(a++b).map f=a.map f++b.map f:=_root_.List.map_append
theorem ss{α:Type u}{a b:α}:(some a=some b)=(a=b):=Option.some.injEq a b
theorem su{a b:Bool}:((a&&b)=true)=(a=true∧b=true):=Bool.and_eq_true a b
theorem sw{a b:Nat}(h:Nat.beq a b=true):a=b:=Nat.eq_of_beq_eq_true h
theorem sy{α:Type u}{l:List α}{i:Nat}:l.take (i+1)=l.take i++l[i]?.toList:=_root_.List.take_add_one
theorem s0{p:Prop}[Decidable p]:(decide p=true)=p:=decide_eq_true_eq
theorem td{α:Type u}{a:Array α}{i:Nat}:a.toList[i]?=a[i]?:=Array.getElem?_toList
theorem te{α:Type u}{a:α}{l:List α}:(a::l).length=l.length+1:=_root_.List.length_cons
theorem tf{a b c:Nat}(h:a<=b)(g:b<=c):a<=c:=Nat.le_trans h g
theorem tg{a b c:Nat}(h:a<b)(g:b<=c):a<c:=Nat.lt_of_lt_of_le h g
theorem bt{α:Sort u}{a b:α}(h:a=b:=by kernel_rfl):a=b:=h
theorem bu{p:Prop}(h:p:=by simp):p:=h
theorem bx{p:Prop}(h:p:=by decide):p:=h
theorem bz{p:Prop}(h:p:=by simp_all):p:=h
theorem ce{p:Prop}(h:p:=by rw[@List.length_map];omega):p:=h
theorem cv{p:Prop}(h:p:=by simp;omega):p:=h
theorem da{p:Prop}(h:p:=by grind):p:=h
theorem em{p:Prop}(h:p:=by dsimp only;omega):p:=h
theorem gt{p:Prop}(h:p:=by dsimp only;omega):p:=h
theorem ge{a i:Nat}(h:i<a:=by omega):a-(i+1)<a-i:=by omega
theorem mp{p q:Prop}(h:p)(e:p->q:=by intro h;simpa using h):q:=e h
theorem aC{p:Prop}(h:p:=by omega):p:=h
end Go
namespace Go.Vc
open Go List
abbrev PH:=Nat->Nat->Option Value
abbrev MH:=Nat->Option Obj
abbrev uq:=Int×Nat×tu×(Int×Int)×Bool×MH
structure Sl where
 a:Option Addr
 len:Nat
 cap:Nat
abbrev un:=List (ByteArray×Sl)
abbrev tq:=List Sl
def Sl.val(s:Sl):Value:=.slice s.a s.len s.cap
inductive At where
 |val (v:Value)
 |ptr (k o:Nat)
 |au (k:Nat)
 |el (k i sz o:Nat)
 |di
abbrev ue:=List At
inductive SV where
 |at(x:At)
 |agg (cs:ue)
 |dg (xs:List (Sum At ue))
abbrev uw:=List (Nat×SV)
abbrev uj:=List SV
inductive fi where
 |de (p:Option Nat) (T:TypeId) (cs:ue)
 |au (E:TypeId) (sz:Nat) (xs:List tm)
abbrev ui:=List (Option fi)
abbrev fi.cells(T:TypeId)(cs:ue):fi:=.de none T cs
structure St where
 sl:uj
 own:ui
 m:MH
 h:PH
inductive CV where
 |val (v:Value)
 |au (E:TypeId) (sz:Nat) (xs:List tm)
 |dg (xs:List CV)
abbrev uc:=List CV
abbrev tt:=CV->MH->PH->Prop
abbrev jo:=uc->MH->PH->tt->Prop
structure Dec where
 X:Type
 ag:X->tm
inductive CW where
 |normal
 |exit (id:Nat)
 |ret
structure R8 where
 A:Type
 st:A->St
 ml:A->Prop
 mu:A->Nat
structure bmX where
 A:Type
 st:A->St
 ml:A->Prop
structure y8 where
 A:Type
 st:A->St
 po:Bool:=false
abbrev um:=List (Nat×y8)
structure bk where
 P:Program
 jy:um
 ki:um
 jh:List (Nat×um)
 ff:ut
 cq:List (Nat×jo)
 gn:TypeId->Dec
 gd:List (Nat×R8)
 iu:List (Nat×bmX)
 gq:List (Nat×tw)
 dt:Bool
 yield:Option jo
 qz:ut:=[]
def cr{α:Type}:List α->Nat->Option α
 |[],_=>none
 |x::_,0=>some x
 |_::xs,n+1=>cr xs n
def SR:tw->Nat->Bool
 |[],_=>false
 |x::r,n=>match Nat.beq x n with|true=>true|false=>SR r n
def cg.{u}{α:Type u}:List (Nat×α)->Nat->Option α
 |[],_=>none
 |(k,v)::r,n=>match Nat.beq k n with|true=>some v|false=>cg r n
def branch(c:Bool)(A B:Prop):=match c with|true=>A|false=>B
def St.ev(σ:St):Operand->SV
 |.tmp t=>match cr σ.sl t with|some x=>x|none=>.at .di
 |.const v=>.at (.val v)
 |.global g=>.at (.val (.pointer (some ⟨g,0,none⟩)))
 |.func f=>.at (.val (.func (.func f) #[] #[]))
def St.put(σ:St)(d:Option Tmp)(x:SV):=
 match d with
 |some d=>{σ with sl:=σ.sl.set d x}
 |none=>σ
def At.sub(k:Nat)(f:At->At):At->At
 |.val v=>.val v
 |.ptr j o=>match Nat.beq j k with|true=>f (.ptr j o)|false=>.ptr j o
 |.au j=>match Nat.beq j k with|true=>f (.au j)|false=>.au j
 |.el j i a o=>match Nat.beq j k with|true=>f (.el j i a o)|false=>.el j i a o
 |.di=>.di
def SV.sub(k:Nat)(f:At->At):SV->SV
 |.at x=>.at (x.sub k f)
 |.agg cs=>.agg (cs.map (At.sub k f))
 |.dg a=>.dg (a.map λ|.inl x=>.inl (x.sub k f)|.inr cs=>.inr (cs.map (At.sub k f)))
def fi.sub(k:Nat)(f:At->At):fi->fi
 |.de p T cs=>.de p T (cs.map (At.sub k f))
 |.au E a b=>.au E a b
def St.sub(σ:St)(k:Nat)(f:At->At):=
 {σ with sl:=σ.sl.map (SV.sub k f),own:=σ.own.map (Option.map (fi.sub k f))}
def St.fo(σ:St)(k:Nat):=
 let τ:=σ.sub k (λ_=>.di)
 {τ with own:=τ.own.set k none}
def St.bl(σ:St)(k:Nat)(o:Option fi):={σ with own:=σ.own.set k o}
def At.val? :At->Option Value
 |.val v=>some v
 |_=>none
def zR:ue->Option tm
 |[]=>some []
 |.val v::r=>match zR r with|some l=>some (v::l)|none=>none
 |_::_=>none
def SV.val? :SV->Option Value
 |.at (.val v)=>some v
 |.agg cs=>match zR cs with|some l=>some (.agg l.toArray)|none=>none
 |_=>none
def SV.cells? :SV->Option ue
 |.at (.val (.agg cs))=>some (cs.toList.map .val)
 |.at (.val (.tuple _))=>none
 |.at .di=>none
 |.at x=>some [x]
 |.agg cs=>some cs
 |.dg _=>none
def At.gy:At->Bool
 |.val (.agg _)=>false
 |.val (.tuple _)=>false
 |.di=>false
 |_=>true
def xX:ue->Bool
 |[]=>true
 |x::r=>match x.gy with|true=>xX r|false=>false
def CY{α:Type}(P:Program):Sem α->Option α
 |.pure a=>some a
 |.program k=>CY P (k P)
 |.mark _ k=>CY P k
 |_=>none
def St.rho(σ:St)(x:Operand):=match(σ.ev x).val? with|some v=>v|none=>undef
def R5(σ:St):uf->Bool
 |[]=>true
 |x::r=>match(σ.ev x).val? with|some _=>R5 σ r|none=>false
structure bJ(h:PH)(b o:Nat)(l:tm):Prop where
 rd:∀i v,l[i]?=some v->h b (o+i)=some v
inductive aK(m:MH)(h:PH)(b off:Nat)(l:tm):Prop
 |ay (hr:bJ h b off l):aK m h b off l
 |dx (cs:Array Value) (E:TypeId) (fz:Nat×Nat) (hm:m b=some (.cells cs E fz)) (hl:(cs.toList.drop off).take l.length=l):aK m h b off l
structure yA(m:MH)(b:Nat)(o:Obj):Prop where
 y:m b=some o
structure eT(m:MH)(h:PH)(b:Nat):Prop where
 m_:m b=none
 h_:∀i,h b i=none
def EC(P:Program)(t:TypeId):=
 match P.underlying t with
 |some (.struct _)=>true
 |some (.array _ _)=>true
 |_=>false
def mk(P:Program)(T:TypeId)(cs:ue):SV:=
 match EC P T with
 |true=>.agg cs
 |false=>match cs with|[x]=>.at x|_=>.at .di
def A3(C:bk)(o:Oper)(σ:St)(K:St->Prop):=
 match R5 σ o.op.operands.toList with
 |true=>match CY C.P (execOp σ.rho o)with
  |some (.value v)=>K (σ.put o.dst (.at (.val v)))
  |_=>False
 |false=>False
def kL(P:Program)(T:TypeId):=
 match P.underlying T with
 |some _=>match P.cellsOf T with|0=>false|_=>true
 |none=>false
def cMX(C:bk)(T:TypeId)(R K:tm->Prop):=
 ∃y:(C.gn T).X,R ((C.gn T).ag y)/\
  match Nat.beq ((C.gn T).ag y).length (C.P.cellsOf T)with
  |true=>K ((C.gn T).ag y)
  |false=>False
def aKQ(C:bk)(o:Oper)(T:TypeId)(x:Operand)(σ:St)(K:St->Prop):=
 match kL C.P T with
 |false=>False
 |true=>
  match σ.ev x with
  |.at (.ptr k off)=>
   match cr σ.own k with
   |some (some (.de _ _ cs))=>
    match Nat.ble (off+C.P.cellsOf T) cs.length with
    |true=>K (σ.put o.dst (mk C.P T ((cs.drop off).take (C.P.cellsOf T))))
    |false=>False
   |_=>False
  |.at (.el k i a off)=>
   match cr σ.own k with
   |some (some (.au _ s c))=>
    match Nat.beq s a with
    |true=>∃e:tm,c[i]?=some e/\cMX C T (λl=>(e.drop off).take (C.P.cellsOf T)=l) λl=>K (σ.put o.dst (mk C.P T (l.map .val)))
    |false=>False
   |_=>False
  |.at (.val (.pointer (some ⟨b,off,none⟩)))=>
   cMX C T (aK σ.m σ.h b off) λl=>K (σ.put o.dst (mk C.P T (l.map .val)))
  |_=>False
def aq{α}(cs:List α)(off:Nat)(new:List α):=cs.take off++new++cs.drop (off+new.length)
structure iZ(m m':MH)(b:Nat)(o:Obj):Prop where
 y:m' b=some o
 ai:∀b',b'≠b->m' b'=m b'
def XD(C:bk)(T:TypeId)(x v:Operand)(σ:St)(K:St->Prop):=
 match(σ.ev v).cells? with
 |none=>False
 |some new=>
 match Nat.beq new.length (C.P.cellsOf T),xX new,kL C.P T with
 |true,true,true=>
  match σ.ev x with
  |.at (.ptr k off)=>
   match cr σ.own k with
   |some (some (.de p E cs))=>
    match Nat.ble (off+new.length) cs.length with
    |true=>K (σ.bl k (some (.de p E (aq cs off new))))
    |false=>False
   |_=>False
  |.at (.el k i d off)=>
   match cr σ.own k,zR new with
   |some (some (.au E s a)),some l=>
    match Nat.beq s d with
    |true=>∃e:tm,a[i]?=some e/\off+l.length<=e.length/\
     K (σ.bl k (some (.au E s (a.set i (aq e off l)))))
    |false=>False
   |_,_=>False
  |.at (.val (.pointer (some ⟨b,off,none⟩)))=>
   match zR new with
   |some l=>∃cs E,yA σ.m b (.cells cs E (0,0))/\off+l.length<=cs.size/\
    ∀c:MH,iZ σ.m c b (.cells (aq cs.toList off l).toArray E (0,0))->K {σ with m:=c}
   |none=>False
  |_=>False
 |_,_,_=>False
def N8(P:Program)(T:TypeId)(f:Nat):=
 match P.underlying T with
 |some (.struct a)=>match cr a.toList f with
  |some g=>match Nat.beq (P.cellsOf g.type) 0 with|true=>none|false=>some (g.offset,g.type)
  |none=>none
 |_=>none
def IU(C:bk)(o:Oper)(T:TypeId)(x:Operand)(f:Nat)(σ:St)(K:St->Prop):=
 match N8 C.P T f with
 |none=>False
 |some (g,_)=>
  match σ.ev x with
  |.at (.ptr k off)=>K (σ.put o.dst (.at (.ptr k (off+g))))
  |.at (.el k i a off)=>K (σ.put o.dst (.at (.el k i a (off+g))))
  |.at (.val (.pointer (some ⟨b,off,none⟩)))=>K (σ.put o.dst (.at (.val (.pointer (some ⟨b,off+g,none⟩)))))
  |_=>False
def Ll(o:Oper)(x:Operand)(σ:St)(K:St->Prop):=
 match σ.ev x with
 |.at (.ptr k off)=>K (σ.put o.dst (.at (.ptr k off)))
 |.at (.el k i b off)=>K (σ.put o.dst (.at (.el k i b off)))
 |.at (.val (.pointer (some a)))=>K (σ.put o.dst (.at (.val (.pointer (some a)))))
 |_=>False
def IJ(C:bk)(o:Oper)(T:TypeId)(x i:Operand)(σ:St)(K:St->Prop):Prop:=
 match σ.ev i with
 |.at (.val (.int _ n))=>
  match C.P.underlying T with
  |some (.slice E)=>
   match kL C.P E with
   |true=>
    match σ.ev x with
    |.at (.au k)=>
     match cr σ.own k with
     |some (some (.au _ c d))=>match Nat.beq c (C.P.cellsOf E)with
      |true=>0<=n/\n<(d.length:Int)/\K (σ.put o.dst (.at (.el k n.toNat c 0)))
      |false=>False
     |_=>False
    |.at (.val (.slice a len _))=>
     ∃b off,a=some ⟨b,off,none⟩/\0<=n/\n<(len:Int)/\
      K (σ.put o.dst (.at (.val (.pointer (some ⟨b,off+n.toNat*C.P.cellsOf E,none⟩)))))
    |_=>False
   |false=>False
  |some (.array len E)=>
   match kL C.P E with
   |true=>
    match σ.ev x with
    |.at (.ptr k off)=>0<=n/\n<(len:Int)/\K (σ.put o.dst (.at (.ptr k (off+n.toNat*C.P.cellsOf E))))
    |.at (.val (.pointer (some ⟨b,off,none⟩)))=>0<=n/\n<(len:Int)/\K (σ.put o.dst (.at (.val (.pointer (some ⟨b,off+n.toNat*C.P.cellsOf E,none⟩)))))
    |_=>False
   |false=>False
  |_=>False
 |_=>False
def byQ(o:Oper)(op:BinOp)(x y:Operand)(σ:St)(K:St->Prop):=
 match σ.ev x,σ.ev y with
 |.at (.val (.int k a)),.at (.val (.int c b))=>
  match decide (k=c)with
  |true=>
   b≠0/\(match op with
    |.quo=>K (σ.put o.dst (.at (.val (.int k (k.wrap (a.tdiv b))))))
    |.rem=>K (σ.put o.dst (.at (.val (.int k (a.tmod b)))))
    |_=>False)
  |false=>False
 |_,_=>False
def TV(C:bk)(o:Oper)(x y:Operand)(σ:St)(K:St->Prop):=
 match σ.ev x,σ.ev y with
 |.at (.val (.string a)),.at (.val (.string b))=>a.size+b.size<=9223372036854775807/\K (σ.put o.dst (.at (.val (.string (a++b)))))
 |_,_=>A3 C o σ K
def aIX(o:Oper)(c a b:Operand)(σ:St)(K:St->Prop):=
 match σ.ev c with
 |.at (.val (.bool t))=>branch t (K (σ.put o.dst (σ.ev a))) (K (σ.put o.dst (σ.ev b)))
 |_=>False
structure bT(h:PH)(s:Sl)(sz:Nat)(xs:List tm):Prop where
 len:s.len=xs.length
 row:xs=[]\/∃b o,s.a=some ⟨b,o,none⟩/\∀i e,xs[i]?=some e->bJ h b (o+i*sz) e
 cap:s.len<=s.cap
structure PH.le(h h':PH):Prop where
 le:∀b o v,h b o=some v->h' b o=some v
def zY(σ:St)(K:St->Prop):tw->Prop
 |[]=>K σ
 |k::ks=>
  match cr σ.own k with
  |some (some (.au _ b c))=>
   ∀s a,PH.le σ.h a->bT a s b c->
    zY {(σ.sub k (λ|.au _=>.val s.val|_=>.di)).bl k none with h:=a} K ks
  |_=>False
def Pc:ue->tw
 |[]=>[]
 |.au k::r=>match(Pc r).contains k with|true=>Pc r|false=>k::Pc r
 |_::r=>Pc r
def SV.ng:SV->tw
 |.at x=>Pc [x]
 |.agg cs=>Pc cs
 |.dg _=>[]
def zeroCells(P:Program)(T:TypeId):=
 match P.info? T with
 |some i=>match i.zero with
  |some v=>some v.cells.toList
  |none=>none
 |none=>none
def Yv(C:bk)(o:Oper)(T:TypeId)(σ:St)(K:St->Prop):=
 match o.dst,zeroCells C.P T with
 |some d,some z=>K (((σ.fo d).bl d (some (.cells T (z.map .val)))).put (some d) (.at (.ptr d 0)))
 |_,_=>False
def bzX(o:Oper)(T:TypeId)(x:Operand)(σ:St)(K:St->Prop):=
 match o.dst,(σ.ev x).cells? with
 |some d,some cs=>K (((σ.fo d).bl d (some (.cells T (cs.map (At.sub d (λ_=>.di)))))).put (some d) (.at (.ptr d 0)))
 |_,_=>False
def partAt(P:Program)(T:TypeId)(i:Nat):=
 match P.underlying T with
 |some (.struct a)=>match cr a.toList i with|some g=>some (g.offset,P.cellsOf g.type)|none=>none
 |some (.array _ E)=>some (i*P.cellsOf E,P.cellsOf E)
 |_=>none
def SC(P:Program)(T:TypeId):=
 match P.underlying T with
 |some (.struct a)=>a.toList.all λf=>(P.info? f.type).isSome
 |some (.array _ E)=>(P.info? E).isSome
 |_=>false
def Gs(P:Program)(T:TypeId)(σ:St):uv->ue->Option ue
 |[],cs=>some cs
 |(i,x)::r,cs=>
  match partAt P T i,(σ.ev x).cells? with
  |some (off,a),some new=>
   match Nat.beq new.length a,Nat.ble (off+new.length) cs.length with
   |true,true=>Gs P T σ r (aq cs off new)
   |_,_=>none
  |_,_=>none
def Ys(C:bk)(o:Oper)(T:TypeId)(parts:uv)(σ:St)(K:St->Prop):=
 match zeroCells C.P T with
 |some z=>match Gs C.P T σ parts (z.map .val),SC C.P T with
  |some cs,true=>K (σ.put o.dst (.agg cs))
  |_,_=>False
 |none=>False
def Gr(σ:St)(sz:Nat):uv->List tm->Option (List tm)
 |[],a=>some a
 |(i,x)::r,a=>
  match(σ.ev x).cells? with
  |some cs=>match zR cs with
   |some l=>match Nat.beq l.length sz,Nat.ble (i+1) a.length,xX cs with
    |true,true,true=>Gr σ sz r (a.set i l)
    |_,_,_=>none
   |none=>none
  |none=>none
def Iu(σ:St):uf->tw
 |[]=>[]
 |x::r=>(σ.ev x).ng++(Iu σ r).filter (λk=>!(σ.ev x).ng.contains k)
def ii(P:Program)(T:TypeId):=
 match P.underlying T with
 |some (.slice E)=>match zeroCells P E with
  |some z=>match Nat.beq z.length (P.cellsOf E),Nat.beq (P.cellsOf E) 0,z.all Value.oneCell' with
   |true,false,true=>some (E,z)
   |_,_,_=>none
  |none=>none
 |_=>none
def HX(C:bk)(o:Oper)(T:TypeId)(n:Nat)(parts:uv)(σ:St)(K:St->Prop):=
 zY σ (λτ=>
  match o.dst,ii C.P T with
  |some d,some (E,z)=>
   match Gr τ (C.P.cellsOf E) parts (replicate n z),Nat.ble (n*C.P.cellsOf E) 16777216 with
   |some a,true=>K (((τ.fo d).bl d (some (.au E (C.P.cellsOf E) a))).put (some d) (.at (.au d)))
   |_,_=>False
  |_,_=>False) (Iu σ (parts.map (·.2)))
structure dA(sz:Nat)(ys:List tm):Prop where
 len:∀e∈ys,e.length=sz
 one:∀e∈ys,∀u∈e,u.oneCell'=true
structure cH(m:MH)(s:Sl)(E:TypeId)(sz:Nat)(xs:List tm):Prop where
 rows:dA sz xs
 ex:(s=⟨none,0,0⟩/\xs=[])\/∃b cap cur,s=⟨some ⟨b,0,none⟩,xs.length,cap⟩/\m b=some (.cells cur E (0,0))/\xs.length<=cap/\cap<=maxLen/\cur.size=cap*sz/\cur.toList.take (xs.length*sz)=xs.flatten
structure vT(m m':MH)(h:PH)(s:Sl)(E:TypeId)(sz:Nat)(xs:List tm):Prop where
 row:cH m' s E sz xs
 ai:∀b,(∀i,s.a≠some ⟨b,i,none⟩)->m' b=m b
 f:∀b i,s.a=some ⟨b,i,none⟩->eT m h b
def Gp(σ:St)(K:St->Prop):tw->Prop
 |[]=>K σ
 |k::ks=>
  match cr σ.own k with
  |some (some (.au E b c))=>
   ∀s a,vT σ.m a σ.h s E b c->
    Gp {(σ.sub k (λ|.au _=>.val s.val|_=>.di)).bl k none with m:=a} K ks
  |_=>False
def IC(C:bk)(o:Oper)(T:TypeId)(l c:Operand)(σ:St)(K:St->Prop):=
 match o.dst,ii C.P T,σ.ev l,σ.ev c with
 |some d,some (E,z),.at (.val (.int _ n)),.at (.val (.int _ m))=>
  0<=n/\n<=m/\m*(C.P.bytesOf E:Int)<=281474976710656/\m<=281474976710656/\
   K (((σ.fo d).bl d (some (.au E (C.P.cellsOf E) (replicate n.toNat z)))).put (some d) (.at (.au d)))
 |_,_,_,_=>False
def mV(s:ByteArray):List tm:=s.data.toList.map λb=>[.int .u8 b.toNat]
inductive mH(m:MH)(h:PH)(s:Sl)(sz:Nat)(ys:List tm):Prop
 |ay (hr:bT h s sz ys):mH m h s sz ys
 |dx (b o:Nat) (cs:Array Value) (E:TypeId) (fz:Nat×Nat) (hs:s.a=some ⟨b,o,none⟩) (hn:s.len=ys.length) (hm:m b=some (.cells cs E fz)) (hl:(cs.toList.drop o).take ys.flatten.length=ys.flatten):mH m h s sz ys
def dKZ(a:Bool)(σ:St)(s:Sl)(sz:Nat)(b:List tm):=match a with|true=>mH σ.m σ.h s sz b|false=>bT σ.h s sz b
def Mc(P:Program)(b:Bool)(σ:St)(sz:Nat)(tx:TypeId)(y:SV)(K:List tm->Prop):=
 match y,P.underlying tx with
 |.at (.au k),some (.slice _)=>match cr σ.own k with
  |some (some (.au _ s d))=>match Nat.beq s sz with|true=>K d|false=>False
  |_=>False
 |.at (.val (.slice a n c)),some (.slice _)=>∃d:List tm,dA sz d/\dKZ b σ ⟨a,n,c⟩ sz d/\K d
 |.at (.val (.string s)),some .string=>match Nat.beq sz 1 with|true=>K (mV s)|false=>False
 |_,_=>False
structure cL(m m':MH)(s s':Sl)(E:TypeId)(sz:Nat)(zs:List tm):Prop where
 row:cH m' s' E sz zs
 ai:∀b o,m b=some o->(∀i,s.a≠some ⟨b,i,none⟩)->m' b=some o
 f:∀b i,s'.a=some ⟨b,i,none⟩->m b=none\/∃i,s.a=some ⟨b,i,none⟩
 bj:s'.a=s.a\/∀b o,m b=some o->m' b=some o
def sameKey(y:SV)(k:Nat):=match y with|.at (.au a)=>Nat.beq a k|_=>false
def bnQ(y:SV)(d:Option TypeDesc):=
 match d with
 |some (.int _)=>match y with
  |.at (.val (.int _ n))=>some n
  |_=>none
 |_=>none
def SY(C:bk):=match C.ff with|[]=>false|_=>true
def inM(C:bk)(T:TypeId):=SR C.ff (1000+T)
def dVQ(C:bk)(T:TypeId):=SR C.ff (3000+T)
def dUJ(C:bk)(T:TypeId):=SR C.ff (4000+T)
def coQ(e:Bool)(a:Option Addr)(b:List tm)(R Q:Prop):=
 match e with
 |true=>(a≠none->b=[]->Q)/\(a=none\/0<b.length->R)
 |false=>(a=none\/0<b.length)/\R
def T2(C:bk)(o:Oper)(T tx:TypeId)(x y:Operand)(σ:St)(K:St->Prop):=
 match o.dst,ii C.P T with
 |some d,some (E,z)=>
  match inM C T,dVQ C T,σ.ev x with
  |false,true,.at (.val (.slice a n c))=>
   c=n/\∃e:List tm,dA (C.P.cellsOf E) e/\bT σ.h ⟨a,n,c⟩ (C.P.cellsOf E) e/\
    Mc C.P (SY C) σ (C.P.cellsOf E) tx (σ.ev y) λb=>
     coQ (dUJ C T) a b ((e.length+b.length)*C.P.bytesOf E<=140737488355328/\e.length+b.length<=140737488355328/\
     K (((σ.fo d).bl d (some (.au E (C.P.cellsOf E) (e++b)))).put (some d) (.at (.au d)))) (K (σ.put (some d) (.at (.val (.slice a n c)))))
  |true,_,.at (.val (.slice a n c))=>
   ∃e:List tm,cH σ.m ⟨a,n,c⟩ E (C.P.cellsOf E) e/\
    Mc C.P (SY C) σ (C.P.cellsOf E) tx (σ.ev y) λb=>
     (e.length+b.length)*C.P.bytesOf E<=140737488355328/\e.length+b.length<=140737488355328/\
     ∀f g,cL σ.m g ⟨a,n,c⟩ f E (C.P.cellsOf E) (e++b)->K ({σ with m:=g}.put (some d) (.at (.val f.val)))
  |_,_,_=>match σ.ev x with
  |.at (.val (.slice none 0 0))=>
   match bnQ (σ.ev y) (C.P.underlying tx)with
   |some n=>0<n/\n*(C.P.bytesOf E:Int)<=140737488355328/\n<=140737488355328/\
    K (((σ.fo d).bl d (some (.au E (C.P.cellsOf E) (replicate n.toNat z)))).put (some d) (.at (.au d)))
   |none=>Mc C.P (SY C) σ (C.P.cellsOf E) tx (σ.ev y) λb=>
    b.length*C.P.bytesOf E<=140737488355328/\b.length<=140737488355328/\
    K (((σ.fo d).bl d (some (.au E (C.P.cellsOf E) b))).put (some d) (.at (.au d)))
  |.at (.au k)=>
   match cr σ.own k,sameKey (σ.ev y) k with
   |some (some (.au E' i e)),false=>
    match Nat.beq E' E,Nat.beq i (C.P.cellsOf E)with
    |true,true=>
     Mc C.P (SY C) σ i tx (σ.ev y) λb=>
      (e.length+b.length)*C.P.bytesOf E<=140737488355328/\e.length+b.length<=140737488355328/\
      K (((σ.fo k).bl k (some (.au E i (e++b)))).put (some d) (.at (.au k)))
    |_,_=>False
   |_,_=>False
  |.at (.val (.slice a n c))=>
   ∃e:List tm,cH σ.m ⟨a,n,c⟩ E (C.P.cellsOf E) e/\
    Mc C.P (SY C) σ (C.P.cellsOf E) tx (σ.ev y) λb=>
     (e.length+b.length)*C.P.bytesOf E<=140737488355328/\e.length+b.length<=140737488355328/\
     ∀f g,cL σ.m g ⟨a,n,c⟩ f E (C.P.cellsOf E) (e++b)->K ({σ with m:=g}.put (some d) (.at (.val f.val)))
  |_=>False
 |_,_=>False
def bgZ(C:bk)(o:Oper)(T tx:TypeId)(x y:Operand)(σ:St)(K:St->Prop):Prop:=
 match ii C.P T,σ.ev x with
 |some (E,_),.at (.val (.slice d n _))=>∃b off,d=some ⟨b,off,none⟩/\
  Mc C.P (SY C) σ (C.P.cellsOf E) tx (σ.ev y) λa=>
   a.length<=n/\∃cs E',yA σ.m b (.cells cs E' (0,0))/\off+a.length*C.P.cellsOf E<=cs.size/\
    ∀c:MH,iZ σ.m c b (.cells (aq cs.toList off a.flatten).toArray E' (0,0))->K ({σ with m:=c}.put o.dst (.at (.val (.int .i64 a.length))))
 |_,_=>False
def ZX(P:Program)(a:ut):=
 match a with
 |t::_=>match P.underlying t with
  |some (.slice _)=>true
  |_=>false
 |[]=>false
def clZ(C:bk)(o:Oper)(x:Operand)(a:ut)(σ:St)(K:St->Prop):=
 match σ.ev x with
 |.at (.au k)=>match cr σ.own k,ZX C.P a with
  |some (some (.au _ _ b)),true=>K (σ.put o.dst (.at (.val (.int .i64 b.length))))
  |_,_=>False
 |_=>A3 C o σ K
structure tJ(sz:Nat)(x:Sl)(i:Nat)(s:Sl):Prop where
 a_:s.a=if x.cap=i then x.a else x.a.map λy=>y.add (i*sz)
 len:s.len=x.len-i
 cap:s.cap=x.cap-i
def XF(C:bk)(o:Oper)(T:TypeId)(x:Operand)(e f g:Option Operand)(σ:St)(K:St->Prop):=
 match σ.ev x,e,f,g with
 |.at (.au k),none,some n,none=>
  match cr σ.own k,σ.ev n,C.P.underlying T with
  |some (some (.au E h d)),.at (.val (.int _ i)),some (.slice E')=>
   match kL C.P E' with
   |true=>0<=i/\i<=(d.length:Int)/\K (((σ.fo k).bl k (some (.au E h (d.take i.toNat)))).put o.dst (.at (.au k)))
   |false=>False
  |_,_,_=>False
 |.at (.val (.slice a _ c)),none,some n,none=>
  match σ.ev n,C.P.underlying T with
  |.at (.val (.int _ i)),some (.slice E')=>
   match kL C.P E' with
   |true=>0<=i/\i<=(c:Int)/\K (σ.put o.dst (.at (.val (.slice a i.toNat c))))
   |false=>False
  |_,_=>False
 |.at (.val (.slice a _ c)),none,some n,some k=>
  match σ.ev n,σ.ev k,C.P.underlying T with
  |.at (.val (.int _ i)),.at (.val (.int _ j)),some (.slice E')=>
   match kL C.P E' with
   |true=>0<=i/\i<=j/\j<=(c:Int)/\K (σ.put o.dst (.at (.val (.slice a i.toNat j.toNat))))
   |false=>False
  |_,_,_=>False
 |.at (.val (.slice a _ c)),some n,some k,none=>
  match σ.ev n,σ.ev k,C.P.underlying T with
  |.at (.val (.int _ i)),.at (.val (.int _ j)),some (.slice E')=>
   match kL C.P E' with
   |true=>0<=i/\i<=j/\j<=(c:Int)/\∀s:Sl,tJ (C.P.cellsOf E') ⟨a,j.toNat,c⟩ i.toNat s->K (σ.put o.dst (.at (.val (.slice s.a s.len s.cap))))
   |false=>False
  |_,_,_=>False
 |.at (.val (.slice a len c)),some n,none,none=>
  match σ.ev n,C.P.underlying T with
  |.at (.val (.int _ i)),some (.slice E')=>
   match kL C.P E' with
   |true=>0<=i/\i<=(len:Int)/\len<=c/\∀s:Sl,tJ (C.P.cellsOf E') ⟨a,len,c⟩ i.toNat s->K (σ.put o.dst (.at (.val (.slice s.a s.len s.cap))))
   |false=>False
  |_,_=>False
 |.at (.val (.pointer (some ⟨b,off,none⟩))),none,some n,none=>
  match σ.ev n,C.P.underlying T with
  |.at (.val (.int _ i)),some (.array len E')=>
   match kL C.P E' with
   |true=>0<=i/\i<=(len:Int)/\K (σ.put o.dst (.at (.val (.slice (some ⟨b,off,none⟩) i.toNat len))))
   |false=>False
  |_,_=>False
 |_,_,_,_=>False
def Yc(C:bk)(o:Oper)(T:TypeId)(x:Operand)(f:Nat)(σ:St)(K:St->Prop):=
 match N8 C.P T f,(σ.ev x).cells?,(match σ.ev x with|.agg _=>true|.at (.val (.agg _))=>true|_=>false)with
 |some (g,T'),some cs,true=>
  match Nat.ble (g+C.P.cellsOf T') cs.length&&kL C.P T' with
  |true=>K (σ.put o.dst (mk C.P T' ((cs.drop g).take (C.P.cellsOf T'))))
  |false=>False
 |_,_,_=>False
def X7(P:Program)(E:TypeId)(cs:ue)(n:Int)(K:SV->Prop):Nat->Nat->Prop
 |0,_=>True
 |f+1,i=>branch (n==(i:Int)) (K (mk P E ((cs.drop (i*P.cellsOf E)).take (P.cellsOf E)))) (X7 P E cs n K f (i+1))
def X5(C:bk)(o:Oper)(T:TypeId)(x i:Operand)(σ:St)(K:St->Prop):=
 match σ.ev i,C.P.underlying T with
 |.at (.val (.int _ n)),some (.array len E)=>
  match(σ.ev x).cells? with
  |some cs=>match Nat.beq cs.length (len*C.P.cellsOf E),kL C.P E,(match σ.ev x with|.agg _=>true|.at (.val (.agg _))=>true|_=>false)with
   |true,true,true=>0<=n/\n<(len:Int)/\X7 C.P E cs n (λv=>K (σ.put o.dst v)) len 0
   |_,_,_=>False
  |none=>False
 |.at (.val (.int _ n)),some .string=>
  match σ.ev x with
  |.at (.val (.string s))=>0<=n/\∃b,s.data.toList[n.toNat]?=some b/\K (σ.put o.dst (.at (.val (.int .u8 b.toNat))))
  |_=>False
 |_,_=>False
def PZ(C:bk)(o:Oper)(x:Operand)(i:Nat)(σ:St)(K:St->Prop):=
 match σ.ev x with
 |.dg a=>match cr a i with
  |some (.inl y)=>K (σ.put o.dst (.at y))
  |some (.inr cs)=>K (σ.put o.dst (.agg cs))
  |none=>False
 |_=>A3 C o σ K
def dE(a:ug):List tm:=a.map λb=>[.int .u8 b.toNat]
def P3(C:bk)(o:Oper)(ko a:TypeId)(x:Operand)(σ:St)(K:St->Prop):=
 match σ.ev x with
 |.at (.au k)=>
  match cr σ.own k,C.P.underlying ko,C.P.underlying a with
  |some (some (.au _ _ c)),some (.slice E),some .string=>
   match C.P.underlying E with
   |some (.int .u8)=>∃b:ug,c=dE b/\K (σ.put o.dst (.at (.val (.string ⟨b.toArray⟩))))
   |_=>False
  |_,_,_=>False
 |_=>A3 C o σ K
def uZ(σ:St):uf->tw
 |[]=>[]
 |x::r=>match σ.ev x with
  |.at (.ptr k _)=>match(uZ σ r).contains k with|true=>uZ σ r|false=>k::uZ σ r
  |_=>uZ σ r
def IE(σ:St)(K:St->Prop):tw->Prop
 |[]=>K σ
 |k::ks=>
  match cr σ.own k with
  |some (some (.de _ T cs))=>
   match zR cs with
   |some l=>
    ∀b a,eT σ.m σ.h b->iZ σ.m a b (.cells l.toArray T (0,0))->
     IE {(σ.sub k (λ|.ptr _ o=>.val (.pointer (some ⟨b,o,none⟩))|_=>.di)).bl k none with m:=a} K ks
   |none=>False
  |_=>False
def wH(P:Program)(σ:St)(mv:tw):Nat->uf->ut->Option uc
 |_,[],_=>some []
 |i,x::r,b=>
  match wH P σ mv (i+1) r b.tail with
  |none=>none
  |some a=>
   match mv.contains i with
   |true=>match σ.ev x with
    |.at (.au k)=>match cr σ.own k with
     |some (some (.au E c d))=>some (.au E c d::a)
     |_=>none
    |.at (.val (.slice none 0 0))=>match ii P (b.headD 0)with
     |some (E,_)=>some (.au E (P.cellsOf E) []::a)
     |none=>none
    |_=>none
   |false=>match(σ.ev x).val? with
    |some u=>some (.val u::a)
    |none=>none
def l7(σ:St)(mv:tw):Nat->uf->tw
 |_,[]=>[]
 |i,x::r=>match mv.contains i,σ.ev x with
  |true,.at (.au k)=>k::l7 σ mv (i+1) r
  |_,_=>l7 σ mv (i+1) r
def HM(mv:tw):Nat->uf->uf
 |_,[]=>[]
 |i,x::r=>match mv.contains i with
  |true=>HM mv (i+1) r
  |false=>x::HM mv (i+1) r
def Ec(σ:St):tw->St
 |[]=>σ
 |k::ks=>Ec (σ.fo k) ks
def GF:uc->Option (List (Sum At ue))
 |[]=>some []
 |.val v::r=>match GF r with|some l=>some (.inl (.val v)::l)|none=>none
 |_::_=>none
def dAJ(o:Oper)(σ:St)(a:tw)(K:St->Prop)(r:CV)(m:MH)(h:PH):=
 match r with
 |.val v=>K ({σ with m:=m,h:=h}.put o.dst (.at (.val v)))
 |.au E b c=>match o.dst with
  |some d=>K ((({σ with m:=m,h:=h}.fo (a.headD d)).bl (a.headD d) (some (.au E b c))).put (some d) (.at (.au (a.headD d))))
  |none=>False
 |.dg e=>match GF e with
  |some l=>K ({σ with m:=m,h:=h}.put o.dst (.dg l))
  |none=>False
def O4:tw->Bool
 |[]=>true
 |x::r=>match r.contains x with|true=>false|false=>O4 r
def Kb(C:bk)(f:Nat):=match cg C.gq f with|some l=>l|none=>[]
def bhJ(C:bk)(o:Oper)(f:FuncId)(args:uf)(b:ut)(σ:St)(K:St->Prop):=
 match cg C.cq f with
 |none=>False
 |some S=>
  zY σ (λτ=>IE τ (λυ=>
   match wH C.P υ (Kb C f) 0 args b,O4 (l7 υ (Kb C f) 0 args)with
   |some a,true=>S a υ.m υ.h (dAJ o (Ec υ (l7 υ (Kb C f) 0 args)) (l7 υ (Kb C f) 0 args) K)
   |_,_=>False) (uZ τ args))
   (Iu σ (HM (Kb C f) 0 args))
structure gh(P:Program)(T:TypeId)(x y:Value)(r:Bool):Prop where
 guard:P.eqGuardType P.depth T=false
 eq:∀w,(Op.equalIn 10000 T x y).run P w=.ok r w
def GI(C:bk)(o:Oper)(neg:Bool)(T:TypeId)(x y:Operand)(σ:St)(K:St->Prop):=
 match(σ.ev x).val?,(σ.ev y).val? with
 |some (.agg a),some (.agg b)=>∃r,gh C.P T (.agg a) (.agg b) r/\K (σ.put o.dst (.at (.val (.bool (match neg with|true=>!r|false=>r)))))
 |_,_=>False
structure xZ(m:MH)(b:Nat)(kvs:tz):Prop where
 ex:∃es clock,m b=some (.map es clock)/\es.toList.map (λe=>(e.key,e.val))=kvs
structure dz(P:Program)(kt:TypeId)(Ok:Value->Prop):Prop where
 gw:∃d,P.underlying kt=some d
 rh:∀v w b,Ok v->(Instr.checkKey b 10000 kt v).run P w=.ok () w
 eq:∀x y w,Ok x->Ok y->∃r,(Op.equal kt x y).run P w=.ok r w/\(r=true↔x=y)
 now:∀d x y r,P.underlying kt=some d->Ok x->Ok y->Instr.sameNow d x y=some r->(r=true↔x=y)
structure kM(m m':MH)(b:Nat):Prop where
 ai:∀b',b'≠b->m' b'=m b'
def O9(o:Oper)(r:Option Operand)(σ:St)(K:St->Prop):=
 match r with
 |none=>∀b a,eT σ.m σ.h b->iZ σ.m a b (.map #[] 0)->K ({σ with m:=a}.put o.dst (.at (.val (.map (some b)))))
 |some _=>False
def Xr(P:Program)(T:TypeId):Option Value:=
 match P.info? T with
 |some i=>match i.zero with
  |some (.int k n)=>some (.int k n)
  |some (.bool b)=>some (.bool b)
  |some (.slice none 0 0)=>some (.slice none 0 0)
  |_=>none
 |none=>none
def only:tm->Value
 |[u]=>u
 |_=>undef
def SS(C:bk)(o:Oper)(T:TypeId)(x k:Operand)(ok:Bool)(σ:St)(K:St->Prop):Prop:=
 match C.P.underlying T,σ.ev x,(σ.ev k).val? with
 |some (.map f c),.at (.val (.map (some b))),some d=>
  match Xr C.P c with
  |some z=>
   ∃(a:List (Value×(C.gn c).X))(Ok:_),xZ σ.m b (a.map λp=>(p.1,only ((C.gn c).ag p.2)))/\dz C.P f Ok/\Ok d/\(∀e∈a,Ok e.1)/\
    ((∀e∈a,e.1≠d)->K (σ.put o.dst (match ok with|true=>.dg [.inl (.val z),.inl (.val (.bool false))]|false=>.at (.val z))))/\
    ∀y,(d,y)∈a->match(C.gn c).ag y with
     |[u]=>K (σ.put o.dst (match ok with|true=>.dg [.inl (.val u),.inl (.val (.bool true))]|false=>.at (.val u)))
     |_=>False
  |none=>False
 |_,_,_=>False
def FK(C:bk)(T:TypeId)(x k v:Operand)(σ:St)(K:St->Prop):=
 match C.P.underlying T,σ.ev x,(σ.ev k).val?,(σ.ev v).val? with
 |some (.map f _),.at (.val (.map (some b))),some c,some u=>
  ∃a Ok,xZ σ.m b a/\dz C.P f Ok/\Ok c/\(∀e∈a,Ok e.1)/\(∀e∈a,e.1≠c)/\
   ∀d:MH,kM σ.m d b->xZ d b (a++[(c,u)])->K {σ with m:=d}
 |_,_,_,_=>False
structure pZ(m:MH)(b:Nat)(kvs:tz):Prop where
 ex:∃es clock,m b=some (.map es clock)/\es.toList.map (λe=>(e.key,e.val))=kvs/\(∀e∈es.toList,e.born<clock)/\(es.toList.map (·.born)).Nodup
def NR(C:bk)(T:TypeId)(x k v:Operand)(σ:St)(K:St->Prop):=
 match C.P.underlying T,σ.ev x,(σ.ev k).val?,(σ.ev v).val? with
 |some (.map h _),.at (.val (.map (some b))),some c,some u=>
  ∃a Ok,pZ σ.m b a/\dz C.P h Ok/\Ok c/\Instr.sameBits 10000 c c=true/\(∀e∈a,Ok e.1)/\
   ((∀e∈a,e.1≠c)->∀d:MH,kM σ.m d b->pZ d b (a++[(c,u)])->K {σ with m:=d})/\
   ∀f i g,a=f++(c,i)::g->∀d:MH,kM σ.m d b->pZ d b (f++(c,u)::g)->K {σ with m:=d}
 |_,_,_,_=>False
structure pD(m:MH)(b r:Nat)(kvs left:tz):Prop where
 ex:∃es clock since seen c0,m b=some (.map es clock)/\es.toList.map (λe=>(e.key,e.val))=kvs/\(∀e∈es.toList,e.born<clock)/\(es.toList.map (·.born)).Nodup/\
  m r=some (.mapIter (some b) since seen c0)/\(∀e∈es.toList,e.born<since)/\since<=c0/\since<=clock/\(es.toList.filter λe=>!seen.contains e.born).map (λe=>(e.key,e.val))=left
structure H0(m:MH)(b r:Nat)(kvs left:tz)(x:Value×Value):Prop where
 it:pD m b r kvs left
 ex:∃(es:_)(clock since:_)(seen:Array Nat)(e:_),m b=some (.map es clock)/\(es.toList.map (·.born)).Nodup/\m r=some (.mapIter (some b) since (seen.push e.born) clock)/\e∈es.toList/\x=(e.key,e.val)
def XL(C:bk)(o:Oper)(T:TypeId)(x:Operand)(σ:St)(K:St->Prop):=
 match C.P.underlying T,σ.ev x with
 |some .string,.at (.val (.string s))=>
  ∀b c,eT σ.m σ.h b->iZ σ.m c b (.stringIter s 0)->K ({σ with m:=c}.put o.dst (.at (.val (.pointer (some ⟨b,0,none⟩)))))
 |some (.map _ _),.at (.val (.map (some b)))=>
  ∃a:tz,pZ σ.m b a/\∀r c,eT σ.m σ.h r->kM σ.m c r->pD c b r a a->K ({σ with m:=c}.put o.dst (.at (.val (.pointer (some ⟨r,0,none⟩)))))
 |_,_=>False
def aJQ(o:Oper)(x:Operand)(c:Bool)(σ:St)(K:St->Prop):=
 match σ.ev x,c with
 |.at (.val (.pointer (some ⟨b,0,none⟩))),true=>
  ∃s a,yA σ.m b (.stringIter s a)/\
   (s.size<=a->K (σ.put o.dst (.dg [.inl (.val (.bool false))])))/\
   (a<s.size->∀d:MH,iZ σ.m d b (.stringIter s (a+(Utf8.decode s a).2))->
    K ({σ with m:=d}.put o.dst (.dg [.inl (.val (.bool true)),.inl (.val (.int .i64 a)),.inl (.val (.int .i32 (Utf8.decode s a).1))])))
 |.at (.val (.pointer (some ⟨r,0,none⟩))),false=>
  ∃b e left,pD σ.m b r e left/\
   (left=[]->K (σ.put o.dst (.dg [.inl (.val (.bool false))])))/\
   ∀f x g,left=f++x::g->∀d:MH,kM σ.m d r->H0 d b r e (f++g) x->
    K ({σ with m:=d}.put o.dst (.dg [.inl (.val (.bool true)),.inl (.val x.1),.inl (.val x.2)]))
 |_,_=>False
def Yj(C:bk)(o:Oper)(x:Operand)(σ:St)(K:St->Prop):=
 match σ.ev x with
 |.at (.val (.pointer (some ⟨r,0,none⟩)))=>∃b c left x,H0 σ.m b r c left x/\
  match SR C.ff 410000 with
  |true=>∃s:Sl,x.2=Sl.val s/\K (σ.put o.dst (.dg [.inl (.val x.1),.inl (.val (.slice s.a s.len s.cap))]))
  |false=>K (σ.put o.dst (.dg [.inl (.val x.1),.inl (.val x.2)]))
 |_=>False
def bMZ(σ:St)(x v:Operand):=match σ.ev x with|.at (.ptr _ _)=>[]|_=>(σ.ev v).ng
def IQ(C:bk)(o:Oper)(T:TypeId):=match o.dst with|some d=>(match SR C.ff T||SR C.ff (200000+d)with|true=>[d]|false=>[])|none=>[]
def dTZ C o T:=match IQ C o T with|[]=>false|_=>true
def bsJ(C:bk)(o:Oper)(τ:St):=match o.dst with|some d=>(match SR C.ff (100000+d)with|true=>(τ.ev (.tmp d)).ng|false=>[])|none=>[]
structure aCZ(w:World)(m:MH)(h:PH):Prop where
 F:∀b o v,h b o=some v->w.cell? ⟨b,o,none⟩=some v
 t:∀b o,m b=some o->w.heap[b]?=some o
 z:∀b o,m b=some o->∀i,h b i=none
structure Ui(w:World)(m:MH)(h:PH)(m':MH)(h':PH)(w':World):Prop where
 tape:w'.tape=w.tape
 os:w'.os=w.os
 output:w'.output=w.output
 drawn:w.drawn<=w'.drawn
 size:w.heap.size<=w'.heap.size
 frame:∀b,b<w.heap.size->m b=none->w'.heap[b]?=w.heap[b]?
 jz:aCZ w' m' h'
 iz:PH.le h h'
 hold:∀b,b<w.heap.size->m b=none->h' b=h b
 gc:∀b o,m' b=some o->w.heap.size<=b\/m b≠none
def iw(P:Program)(T:TypeId)(cs:tm):Value:=
 match EC P T with
 |true=>.agg cs.toArray
 |false=>match cs with|[x]=>x|_=>undef
structure FAt(P:Program)(f:FuncId)(T:TypeId)(cvs:uc)(m:MH)(h:PH)(R:tm->MH->PH->Prop):Prop where
 fn:∃fn,P.funcs[f]?=some fn/\fn.body.isSome=true/\(fn.name== "runtime.NumGoroutine")=false
 go:∀(vs:tm)(w:_),cvs=vs.map .val->aCZ w m h->Calls P f vs.toArray w λe w'=>∃l m' h',e=.returned (iw P T l)/\R l m' h'/\Ui w m h m' h' w'
def R6:uc->tm->uc
 |[],l=>l.map .val
 |c::r,l=>c::R6 r l
def dWX:ut->Option TypeId
 |[]=>none
 |x::r=>match Nat.ble 510000 x with|true=>some (Nat.sub x 510000)|false=>dWX r
def d1J(C:bk):Operand->Option TypeId
 |.tmp _=>dWX C.ff
 |_=>none
def cLZ(C:bk)(o:Oper)(T:TypeId)(f:FuncId)(a:tm)(args:uf)(σ:St)(K:St->Prop):=
 match wH C.P σ [] 0 args []with
 |some b=>∃R:(C.gn T).X->MH->PH->Prop,FAt C.P f T (R6 b a) σ.m σ.h (λl m h=>∃x,l=(C.gn T).ag x/\R x m h)/\
  ∀x m h,R x m h->K ({σ with m:=m,h:=h}.put o.dst (mk C.P T (((C.gn T).ag x).map .val)))
 |none=>False
def Ut(C:bk)(o:Oper)(σ:St)(K:St->Prop):=
 match o.op with
 |.move x=>K (σ.put o.dst (σ.ev x))
 |.assign x=>K (σ.put o.dst (σ.ev x))
 |.pick c a b=>aIX o c a b σ K
 |.alloc T=>Yv C o T σ (λτ=>IE τ K (IQ C o T))
 |.box T x=>match dTZ C o T with
  |true=>zY σ (λτ=>bzX o T x τ (λυ=>IE υ K (IQ C o T))) (σ.ev x).ng
  |false=>bzX o T x σ K
 |.build T e=>Ys C o T e.toList σ K
 |.buildSlice T n e=>HX C o T n e.toList σ (λτ=>Gp τ (λυ=>zY υ K (bsJ C o υ)) (IQ C o T))
 |.load T x=>aKQ C o T x σ K
 |.store T x v=>match o.dst with|none=>zY σ (λτ=>XD C T x v τ K) (bMZ σ x v)|some _=>False
 |.makeFunc _ _ cs=>IE σ (λτ=>A3 C o τ K) (uZ σ cs.toList)
 |.nilCheck x=>Ll o x σ K
 |.binOp .quo _ x y _=>byQ o .quo x y σ K
 |.binOp .rem _ x y _=>byQ o .rem x y σ K
 |.binOp .eql T x y _=>match EC C.P T with|true=>GI C o false T x y σ K|false=>A3 C o σ K
 |.binOp .neq T x y _=>match EC C.P T with|true=>GI C o true T x y σ K|false=>A3 C o σ K
 |.binOp .add _ x y _=>TV C o x y σ K
 |.binOp .. =>A3 C o σ K
 |.unOp .. =>A3 C o σ K
 |.convert s d x=>P3 C o s d x σ K
 |.makeSlice T l c=>IC C o T l c σ (λτ=>Gp τ K (IQ C o (2000+T)))
 |.slice T x m p q=>XF C o T x m p q σ K
 |.fieldAddr T x f=>IU C o T x f σ K
 |.field T x f=>Yc C o T x f σ K
 |.indexAddr T x i=>IJ C o T x i σ K
 |.index T x i=>X5 C o T x i σ K
 |.extract x i=>PZ C o x i σ K
 |.makeMap _ r=>O9 o r σ K
 |.lookup T x k ok=>SS C o T x k ok σ K
 |.mapUpdate T x k v=>match o.dst with|none=>(match SR C.ff 400000 with|true=>NR C T x k v σ K|false=>FK C T x k v σ K)|some _=>False
 |.range T x=>XL C o T x σ K
 |.next x b=>aJQ o x b σ K
 |.entry x=>Yj C o x σ K
 |.call c=>match c.callee with
  |.builtin .len=>match c.args.toList with
   |[x]=>clZ C o x c.argTypes.toList σ K
   |_=>False
  |.builtin .append=>match c.args.toList,c.argTypes.toList with
   |[x,y],[T,h]=>T2 C o T h x y σ (λτ=>zY τ K (bsJ C o τ))
   |_,_=>False
  |.builtin .copy=>match c.args.toList,c.argTypes.toList with
   |[x,y],[T,h]=>bgZ C o T h x y σ K
   |_,_=>False
  |.builtin .cap=>A3 C o σ K
  |.builtin .min=>A3 C o σ K
  |.builtin .max=>A3 C o σ K
  |.builtin _=>False
  |.value g=>match σ.ev g with
   |.at (.val (.func (.func f) j cs))=>match d1J C g with
    |some T=>match j.toList with
     |[]=>cLZ C o T f cs.toList c.args.toList σ K
     |_=>False
    |none=>match j.toList,cs.toList with
     |[],[]=>bhJ C o f c.args.toList c.argTypes.toList σ K
     |_,_=>False
   |_=>False
  |.invoke .. =>False
 |_=>False
def dk(σ:St)(c:Operand)(b:Bool):=
 match c with
 |.tmp t=>{σ with sl:=σ.sl.set t (.at (.val (.bool b)))}
 |_=>σ
def Tc(f:Oper->St->(St->Prop)->Prop)(ops:Array Oper)(o:Oper)(σ:St)(K:St->Prop):=
 match o.guard with
 |none=>f o σ K
 |some (j,a)=>
  match cr ops.toList j with
  |none=>False
  |some g=>match g.dst with
   |none=>False
   |some d=>match σ.ev (.tmp d)with
    |.at (.val (.bool t))=>
     branch t
      (match a with|true=>f o (dk σ (.tmp d) true) K|false=>K ((dk σ (.tmp d) true).put o.dst (.at (.val undef))))
      (match a with|false=>f o (dk σ (.tmp d) false) K|true=>K ((dk σ (.tmp d) false).put o.dst (.at (.val undef))))
    |.at (.val (.tuple _))=>K (σ.put o.dst (.at (.val undef)))
    |_=>False
def X8 C ops o σ K:=Tc (Ut C) ops o σ K
structure Qb(P:Program)(S:jo):Prop where
 go:∀(l:_)(vs:tm)(m:_)(h:_)(w:_)(K:_),S (.val (.func (.yield l) #[] #[])::vs.map .val) m h K->aCZ w m h->
  ∃fn tmps assign body,(Instr.yield l vs.toArray).run P w=.ok (.round l fn tmps assign body) w/\
   RoundIn Fence.wide 0 P l fn tmps assign body w λe w'=>∃u m' h',e=.returned u/\K (.val u) m' h'/\Ui w m h m' h' w'
def Xt(C:bk)(o:Oper)(v:Value)(args:uf)(σ:St)(K:St->Prop):=
 match C.yield with
 |none=>False
 |some S=>
  match wH C.P σ [] 0 args []with
  |some a=>Qb C.P S/\S (.val v::a) σ.m σ.h (λr m h=>match r with
   |.val u=>K ({σ with m:=m,h:=h}.put o.dst (.at (.val u)))
   |_=>False)
  |none=>False
def UY(C:bk)(o:Oper)(σ:St)(K:St->Prop):=
 match o.op with
 |.call c=>match c.callee with
  |.value g=>match σ.ev g with
   |.at (.val (.func (.yield l) a cs))=>match a.toList,cs.toList with
    |[],[]=>Xt C o (.func (.yield l) #[] #[]) c.args.toList σ K
    |_,_=>False
   |_=>Ut C o σ K
  |_=>Ut C o σ K
 |_=>Ut C o σ K
def UN(C:bk)(ops:Array Oper):List Oper->St->(St->Prop)->Prop
 |[],σ,K=>K σ
 |o::r,σ,K=>Tc (UY C) ops o σ (λτ=>UN C ops r τ K)
def Dg(P:Program)(o:Oper):=
 match o.op with
 |.load .. =>true
 |.convert ko _ _=>match P.underlying ko with
  |some (.slice _)=>true
  |_=>false
 |_=>false
def Ih:Op->Bool
 |.move _|.assign _|.pick .. |.build .. |.load .. |.nilCheck _|.unOp .. |.fieldAddr .. |.field .. |.indexAddr .. |.index .. |.extract .. =>true
 |.binOp .. =>true
 |.convert .. =>true
 |.call {callee:=.builtin .len,.. }=>true
 |.call {callee:=.builtin .min,.. }=>true
 |.call {callee:=.builtin .max,.. }=>true
 |_=>false
def Kh(ops:Array Oper):tw->Option (Nat×Oper)
 |[]=>none
 |i::r=>match cr ops.toList i with
  |some o=>match Ih o.op with|true=>some (i,o)|false=>Kh ops r
  |none=>Kh ops r
def waits(a:Oper)(i:Nat):=a.after.toList.any λe=>Region.binds .any e&&Nat.beq e.on i
def B9(σ:St)(a:Oper)(k:Nat):=
 (match a.dst with|some d=>Nat.beq d k|none=>false)||
 match a.op with
 |.store _ x _=>match σ.ev x with
  |.at (.ptr j _)=>Nat.beq j k
  |_=>false
 |.call c=>match c.callee with
  |.value _=>(uZ σ c.args.toList).contains k
  |_=>false
 |_=>false
def CF(ops:Array Oper)(σ:St)(b:Oper):=
 match b.guard with
 |none=>false
 |some (j,a)=>match cr ops.toList j with
  |none=>false
  |some g=>match g.dst with
   |none=>false
   |some d=>match σ.ev (.tmp d)with
    |.at (.val (.bool t))=>match t,a with
     |true,false=>true
     |false,true=>true
     |_,_=>false
    |.at (.val (.tuple _))=>true
    |_=>false
def c8Z:Op->Bool
 |.move _=>true
 |_=>false
def dWZ(ops:Array Oper)(ok:Oper)(i:Nat):=
 waits ok i||ops.toList.zipIdx.any λx=>waits ok x.2&&waits x.1 i
def dJJ(ops:Array Oper):=
 let l:=ops.toList
 let n:=l.length
 (List.range n).all λi=>match cr l i with
  |none=>true
  |some a=>(a.after.toList.all λe=>!Region.binds .any e||Nat.blt e.on i)&&((List.range n).all λk=>match cr l k with
   |none=>true
   |some ok=>match ok.dst with
    |none=>true
    |some d=>Nat.beq i k|| !(a.dst==some d))&&
   (((List.range n).all λk=>match cr l k with
   |none=>true
   |some ok=>match ok.dst with
    |none=>true
    |some d=>!(a.looksAt ops).contains d||waits a k)||
   (c8Z a.op&&(List.range n).all λk=>match cr l k with
   |none=>true
   |some ok=>match ok.dst with
    |none=>true
    |some d=>!(a.looksAt ops).contains d||dWZ ops ok i))
def CQ:Op->Bool
 |.alloc _|.box .. |.buildSlice .. |.makeSlice .. |.makeMap .. |.lookup .. =>true
 |_=>false
def vZ(o:Oper):=
 match o.op with
 |.call c=>match c.callee with
  |.value _=>some c.args.toList
  |_=>none
 |_=>none
def KE(σ:St)(k:Nat):uf->Bool
 |[]=>true
 |x::r=>(match σ.ev x with
  |.at (.au j)=>match cr σ.own j with|some (some _)=>!Nat.beq j k|_=>false
  |.at (.ptr j _)=>match cr σ.own j with|some (some _)=>!Nat.beq j k|_=>false
  |_=>true)&&KE σ k r
def Yu σ a k:=
 CQ a.op||match vZ a with|some l=>KE σ k l|none=>false
def Qt(P:Program)(j:Bool)(σ:St)(a c:Oper)(K:Prop):=
 match Dg P c with
 |false=>K
 |true=>
  match c.op with
  |.load T x=>match kL P T with
   |false=>False
   |true=>match σ.ev x,c.dst with
    |.at (.ptr k off),_=>match cr σ.own k with
     |some (some (.de _ _ cs))=>match B9 σ a k,Nat.ble (off+P.cellsOf T) cs.length with
      |false,true=>K
      |_,_=>False
     |_=>False
    |.at (.val (.pointer (some ⟨b,o,none⟩))),some d=>match(σ.ev (.tmp d)).cells? with
     |some cs=>match zR cs with
      |some l=>match Nat.beq l.length (P.cellsOf T)with
       |true=>match CQ a.op||j with
        |true=>aK σ.m σ.h b o l/\K
        |false=>bJ σ.h b o l/\K
       |false=>False
      |none=>False
     |none=>False
    |.at (.el k i n off),some d=>match cr σ.own k,(σ.ev (.tmp d)).cells? with
     |some (some (.au _ s f)),some cs=>match zR cs,Nat.beq s n,Yu σ a k with
      |some l,true,true=>match Nat.beq l.length (P.cellsOf T)with
       |true=>(∃e:tm,f[i]?=some e/\(e.drop off).take (P.cellsOf T)=l)/\K
       |false=>False
      |_,_,_=>False
     |_,_=>False
    |_,_=>False
  |.convert ko g x=>match σ.ev x,c.dst with
   |.at (.au k),some d=>match cr σ.own k,σ.ev (.tmp d)with
    |some (some (.au _ _ f)),.at (.val (.string s))=>match P.underlying ko,P.underlying g with
     |some (.slice E),some .string=>match P.underlying E with
      |some (.int .u8)=>match Yu σ a k with
       |true=>f=mV s/\K
       |false=>False
      |_=>False
     |_,_=>False
    |_,_=>False
   |_,_=>False
  |_=>False
def OL(P:Program)(c:Bool)(ops:Array Oper)(a:Array Bool)(σ:St)(b:Oper):Nat->List Oper->Prop->Prop
 |_,[],K=>K
 |i,d::r,K=>
  match a.getD i false,Ih d.op,waits b i,CF ops σ d with
  |true,true,false,false=>Qt P c σ b d (OL P c ops a σ b (i+1) r K)
  |_,_,_,_=>OL P c ops a σ b (i+1) r K
def Mb(σ:St)(c a:Oper)(τ:St)(K:Prop):=
 match a.op with
 |.load _ x=>match σ.ev x,a.dst with
  |.at (.val (.pointer (some ⟨b,o,none⟩))),some d=>match(σ.ev (.tmp d)).cells? with
   |some cs=>match zR cs with
    |some l=>match CQ c.op with
     |true=>K
     |false=>aK τ.m τ.h b o l/\K
    |none=>K
   |none=>K
  |_,_=>K
 |_=>K
def Jf(ops:Array Oper)(a:Array Bool)(σ:St)(b:Oper)(τ:St):Nat->List Oper->Prop->Prop
 |_,[],K=>K
 |i,c::r,K=>
  match a.getD i false,Ih c.op,waits b i,CF ops σ c with
  |true,true,false,false=>Mb σ b c τ (Jf ops a σ b τ (i+1) r K)
  |_,_,_,_=>Jf ops a σ b τ (i+1) r K
def bjJ(C:bk):=SR C.ff 0
def Oz C ops a σ b τ K:=match bjJ C with|true=>Jf ops a σ b τ 0 ops.toList K|false=>K
def cQQ(g:Nat->Prop):tw->Prop
 |[]=>True
 |[j]=>g j
 |j::r=>g j/\cQQ g r
def FV(C:bk)(ops:Array Oper):Nat->Array Bool->St->(St->Prop)->Prop
 |0,a,σ,K=>match Region.ready .any ops a with|[]=>K σ|_=>False
 |n+1,a,σ,K=>
  match Region.ready .any ops a with
  |[]=>K σ
  |rs=>match Kh ops rs with
   |some (i,o)=>X8 C ops o σ (λτ=>FV C ops n (a.setIfInBounds i true) τ K)
   |none=>
    cQQ (λj=>match cr ops.toList j with
     |some o=>OL C.P (bjJ C) ops a σ o 0 ops.toList (X8 C ops o σ (λτ=>Oz C ops a σ o τ (FV C ops n (a.setIfInBounds j true) τ K)))
     |none=>False) rs
def oS:Code->Option Nat
 |.region id _ _=>some id
 |.seq a b=>match oS a with|some i=>some i|none=>oS b
 |.cond _ a b=>match oS a with|some i=>some i|none=>oS b
 |.block _ a=>oS a
 |.loop a=>oS a
 |.scope a=>oS a
 |_=>none
def FJ:uj->uj->Prop->Prop
 |[],[],K=>K
 |x::xs,.at .di::ys,K=>match x with|_=>FJ xs ys K
 |x::xs,y::ys,K=>x=y/\FJ xs ys K
 |_,_,_=>False
def Bz:ui->ui->Prop->Prop
 |[],[],K=>K
 |_::xs,none::ys,K=>Bz xs ys K
 |x::xs,some y::ys,K=>x=some y/\Bz xs ys K
 |_,_,_=>False
def Yo(τ:St):uj->Nat->St->St
 |[],_,σ=>σ
 |y::ys,i,σ=>
  Yo τ ys (i+1) (match y with
   |.at (.au k)=>match cr σ.sl i with
    |some (.at (.val (.slice none 0 0)))=>match cr τ.own k,cr σ.own k with
     |some (some (.au E a _)),some none=>((σ.fo k).bl k (some (.au E a []))).put (some i) (.at (.au k))
     |_,_=>σ
    |_=>σ
   |_=>σ)
def Lb(σ:St)(q j:Nat)(x:At):=
 match cr σ.own q with
 |some (some (.de p T cs))=>σ.bl q (some (.de p T (cs.set j x)))
 |_=>σ
def KA(τ:St)(q:Nat):ue->Nat->St->St
 |[],_,σ=>σ
 |y::ys,j,σ=>
  KA τ q ys (j+1) (match y with
   |.au k=>match cr σ.own q with
    |some (some (.de _ _ cs))=>match cr cs j with
     |some (.val (.slice none 0 0))=>match cr τ.own k,cr σ.own k with
      |some (some (.au E a _)),some none=>Lb ((σ.fo k).bl k (some (.au E a []))) q j (.au k)
      |_,_=>σ
     |_=>σ
    |_=>σ
   |_=>σ)
def R3(τ:St):ui->Nat->St->St
 |[],_,σ=>σ
 |y::ys,q,σ=>
  R3 τ ys (q+1) (match y with
   |some (.de _ _ cs)=>KA τ q cs 0 σ
   |_=>σ)
def conv σ τ:=R3 τ τ.own 0 (Yo τ τ.sl 0 σ)
def Bx σ τ K:=
 FJ (conv σ τ).sl τ.sl (Bz (conv σ τ).own τ.own ((conv σ τ).m=τ.m/\(conv σ τ).h=τ.h/\K))
structure uP(m:MH)(h:PH):Prop where
 z:∀b o,m b=some o->∀i,h b i=none
structure wA(m:MH)(h:PH)(m2:MH)(h2:PH):Prop where
 sub:∀b o,m2 b=some o->m b=some o
 le:PH.le h h2
 new:∀b i v,h2 b i=some v->h b i=some v\/∃cs E fz,m b=some (.cells cs E fz)/\cs[i]?=some v/\m2 b=none
def XX σ τ K:=
 FJ (conv σ τ).sl τ.sl (Bz (conv σ τ).own τ.own (wA (conv σ τ).m (conv σ τ).h τ.m τ.h/\K))
def Mm(c:y8)(R:c.A->Prop)(τ:St):=match c.po with
 |false=>∃x,R x/\Bx τ (c.st x) True
 |true=>uP τ.m τ.h->∃x,R x/\XX τ (c.st x) True
def Yw(c:y8)(I S:c.A->Prop)(τ:St):=match c.po with
 |false=>∃x,I x/\S x/\Bx τ (c.st x) True
 |true=>uP τ.m τ.h->∃x,I x/\S x/\XX τ (c.st x) True
def zZ{α:Type}(d:α)(l:List (Nat×α)):Nat->Nat->List α
 |0,_=>[]
 |n+1,i=>(match cg l i with|some x=>x|none=>d)::zZ d l n (i+1)
def bO(n a:Nat)(sl:uw)(own:List (Nat×fi))(m:MH)(h:PH):St:=
 {sl:=zZ (.at .di) sl n 0,own:=zZ none (own.map λp=>(p.1,some p.2)) a 0,m:=m,h:=h}
abbrev SW(k:Nat):Nat×SV:=(k,.at (.ptr k 0))
abbrev UV(k T:Nat)(l:tm):Nat×fi:=(k,.cells T (l.map .val))
def byZ(C:bk)(b:Code):=match oS b with|some i=>cg C.iu i|none=>none
def dLJ(C:bk)(b:Code):=match oS b with|some i=>cg C.gd i|none=>none
def TU(C:bk)(b:Code):=match oS b with|some i=>cg C.ki i|none=>none
def c7X(C:bk)(b:Code):=match oS b with|some i=>cg C.jy i|none=>none
def boX(C:bk)(ops:Array Oper):um->List Oper->St->(St->Prop)->Prop
 |[],l,σ,K=>UN C ops l σ K
 |(n,a)::r,l,σ,K=>∃I:a.A->Prop,UN C ops (l.take n) σ (λτ=>∃x,I x/\Bx τ (a.st x) True)/\∀x,I x->boX C ops r (l.drop n) (a.st x) K
def OP(C:bk)(id:Nat):=match cg C.jh id with|some l=>l|none=>[]
def VC(C:bk):Code->St->(CW->St->Prop)->Prop
 |.skip,σ,Q=>Q .normal σ
 |.label _,σ,Q=>Q .normal σ
 |.region id d false,σ,Q=>boX C d (OP C id) d.toList σ (Q .normal)
 |.region _ d true,σ,Q=>match dJJ d,Region.noSelect d,C.P.follows .mixedOrders with
  |true,true,true=>FV C d d.size (Array.replicate d.size false) σ (Q .normal)
  |_,_,_=>False
 |.seq a b,σ,Q=>
  match byZ C b with
  |some c=>VC C a σ (λe τ=>match e with
   |.normal=>∃x,c.ml x/\Bx τ (c.st x) True
   |e=>Q e τ)/\∀x,c.ml x->VC C b (c.st x) Q
  |none=>match TU C b with
   |some c=>∃I:c.A->Prop,VC C a σ (λe τ=>match e with
    |.normal=>Mm c I τ
    |e=>Q e τ)/\∀x,I x->VC C b (c.st x) Q
   |none=>VC C a σ (λe τ=>match e with
    |.normal=>VC C b τ Q
    |e=>Q e τ)
 |.cond c x y,σ,Q=>
  match σ.ev c with
  |.at (.val (.bool t))=>branch t (VC C x (dk σ c true) Q) (VC C y (dk σ c false) Q)
  |_=>False
 |.block id c,σ,Q=>
  VC C c σ (λe τ=>match e with
   |.exit i=>match Nat.beq i id with|true=>Q .normal τ|false=>Q (.exit i) τ
   |e=>Q e τ)
 |.loop c,σ,Q=>
  match dLJ C c with
  |some l=>
   (∃x,l.ml x/\Bx σ (l.st x) True)/\
   ∀x,l.ml x->VC C c (l.st x) (λe τ=>match e with
    |.normal=>∃y,l.ml y/\l.mu y<l.mu x/\Bx τ (l.st y) True
    |e=>Q e τ)
  |none=>match c7X C c with
   |some l=>∃(I:_)(f:l.A->Nat),
    Mm l I σ/\
    ∀x,I x->VC C c (l.st x) (λe τ=>match e with
     |.normal=>Yw l I (λy=>f y<f x) τ
     |e=>Q e τ)
   |none=>False
 |.exit id,σ,Q=>Q (.exit id) σ
 |.ret,σ,Q=>Q .ret σ
 |_,_,_=>False
def bpX(C:bk)(σ:St):ResultVar->Option SV
 |.tmp t=>some (σ.ev (.tmp t))
 |.cell a T=>match σ.ev (.tmp a)with
  |.at (.ptr k off)=>match cr σ.own k with
   |some (some (.de _ _ cs))=>match Nat.ble (off+C.P.cellsOf T) cs.length,kL C.P T with
    |true,true=>some (mk C.P T ((cs.drop off).take (C.P.cellsOf T)))
    |_,_=>none
   |_=>none
  |_=>none
def Lg(C:bk)(σ:St):List ResultVar->Option uj
 |[]=>some []
 |r::rs=>match bpX C σ r,Lg C σ rs with
  |some x,some l=>some (x::l)
  |_,_=>none
def brJ:uj->tw
 |[]=>[]
 |x::r=>x.ng++(brJ r).filter (λk=>!x.ng.contains k)
def Gx(P:Program)(σ:St)(mv:Bool):uj->ut->Option uc
 |[],_=>some []
 |x::r,a=>match Gx P σ mv r a.tail with
  |none=>none
  |some l=>match mv with
   |true=>match x with
    |.at (.au k)=>match cr σ.own k with
     |some (some (.au E b c))=>some (.au E b c::l)
     |_=>none
    |.at (.val (.slice none 0 0))=>match ii P (a.headD 0)with
     |some (E,_)=>some (.au E (P.cellsOf E) []::l)
     |none=>none
    |_=>none
   |false=>match x.val? with
    |some v=>some (.val v::l)
    |none=>none
def Mj:uj->tw
 |[]=>[]
 |.at (.ptr k _)::r=>match(Mj r).contains k with|true=>Mj r|false=>k::Mj r
 |_::r=>Mj r
def Gi(C:bk)(fn:Func)(K:tt)(σ:St):=
 match Lg C σ fn.results.toList with
 |none=>False
 |some a=>
  zY σ (λτ=>IE τ (λυ=>
   match Lg C υ fn.results.toList with
   |none=>False
   |some b=>match Gx C.P υ C.dt b fn.resultTypes.toList with
    |some [r]=>K r υ.m υ.h
    |some c=>match C.dt with|true=>False|false=>K (.dg c) υ.m υ.h
    |none=>False) (match C.dt with|true=>[]|false=>Mj a)) (match C.dt with|true=>[]|false=>brJ a)
def Kz(n:Nat):Nat->uc->uj
 |_,[]=>[]
 |i,.val v::r=>.at (.val v)::Kz n (i+1) r
 |i,.au _ _ _::r=>.at (.au (n+i))::Kz n (i+1) r
 |i,.dg _::r=>.at .di::Kz n (i+1) r
def CS:uc->ui
 |[]=>[]
 |.au E a b::r=>some (.au E a b)::CS r
 |_::r=>none::CS r
def entry(n:Nat)(args:uc)(m:MH)(h:PH):St:=
 {sl:=Kz n 0 args++replicate (n-args.length) (.at .di),own:=replicate n none++CS args,m:=m,h:=h}
def xS C fn c σ K:=
 VC C c σ (λe τ=>match e with
  |.normal=>Gi C fn K τ
  |.ret=>Gi C fn K τ
  |_=>False)
end Go.Vc
namespace Go.Vc
open Go List
theorem mK{α:Type}:∀(l:List α)(i:Nat),cr l i=l[i]?
 |[],i=>by simp[cr]
 |x::xs,0=>by simp[cr]
 |x::xs,n+1=>by simp[cr,mK xs n]
def B5(ι:tv):At->Value->Prop
 |.val v,u=>u=v
 |.ptr k o,u=>∃b,ι k=.pointer (some ⟨b,0,none⟩)/\u=.pointer (some ⟨b,o,none⟩)
 |.au k,u=>u=ι k
 |.el k i a o,u=>∃b n c,ι k=.slice (some ⟨b,0,none⟩) n c/\u=.pointer (some ⟨b,i*a+o,none⟩)
 |.di,_=>True
def kB(ι:tv):ue->tm->Prop
 |[],[]=>True
 |x::xs,v::vs=>B5 ι x v/\kB ι xs vs
 |_,_=>False
def Uk(ι:tv):List (Sum At ue)->tm->Prop
 |[],[]=>True
 |.inl x::xs,v::vs=>B5 ι x v/\Uk ι xs vs
 |.inr cs::xs,v::vs=>(∃a:Array Value,v=.agg a/\kB ι cs a.toList)/\Uk ι xs vs
 |_,_=>False
def fw(ι:tv):SV->Value->Prop
 |.at x,u=>B5 ι x u
 |.agg cs,u=>∃a:Array Value,u=.agg a/\kB ι cs a.toList
 |.dg b,u=>∃a:Array Value,u=.tuple a/\Uk ι b a.toList
def dp(ι:tv):uj->tm->Prop
 |[],[]=>True
 |x::xs,v::vs=>fw ι x v/\dp ι xs vs
 |_,_=>False
theorem kB.length{ι:tv}:∀{cs:ue}{vs:tm},kB ι cs vs->cs.length=vs.length
 |[],[],_=>rfl
 |_::_,_::_,h=>by simp[kB.length h.2]
 |[],_::_,h=>h.elim
 |_::_,[],h=>h.elim
theorem kB.get{ι:tv}:∀{cs:ue}{vs:tm}(_:kB ι cs vs)(i:Nat)(x:At),cs[i]?=some x->∃v,vs[i]?=some v/\B5 ι x v
 |[],[],_,i,x,a=>by simp at a
 |_::_,v::_,h,0,x,a=>by simp at a;subst a;exact⟨v,rfl,h.1⟩
 |_::_,_::_,h,i+1,x,a=>by simp at a⊢;exact kB.get h.2 i x a
 |[],_::_,h,_,_,_=>h.elim
 |_::_,[],h,_,_,_=>h.elim
theorem kB.take{ι:tv}:∀{cs:ue}{vs:tm}(n:Nat),kB ι cs vs->kB ι (cs.take n) (vs.take n)
 |_,_,0,_=>by simp[kB]
 |[],[],n+1,h=>by simp[kB]
 |_::_,_::_,n+1,h=>by simp only[take_succ_cons];exact⟨h.1,h.2.take n⟩
 |[],_::_,_+1,h=>h.elim
 |_::_,[],_+1,h=>h.elim
theorem kB.drop{ι:tv}:∀{cs:ue}{vs:tm}(n:Nat),kB ι cs vs->kB ι (cs.drop n) (vs.drop n)
 |_,_,0,h=>mp h
 |[],[],n+1,h=>by simp[kB]
 |_::_,_::_,n+1,h=>by simp only[drop_succ_cons];exact h.2.drop n
 |[],_::_,_+1,h=>h.elim
 |_::_,[],_+1,h=>h.elim
theorem kB.append{ι:tv}:∀{cs a:ue}{vs b:tm},kB ι cs vs->kB ι a b->kB ι (cs++a) (vs++b)
 |[],_,[],_,_,c=>da
 |_::_,_,_::_,_,h,c=>⟨h.1,h.2.append c⟩
 |[],_,_::_,_,h,_=>h.elim
 |_::_,_,[],_,h,_=>h.elim
theorem kB.aq{ι cs new vs us} off(h:kB ι cs vs)(a:kB ι new us):
 kB ι (aq cs off new) (aq vs off us):=by
 unfold Vc.aq;rw[a.length];exact((h.take off).append a).append (h.drop _)
theorem kB.set{ι:tv}:∀{cs:ue}{vs:tm}(j:Nat){x:At}{v:Value},kB ι cs vs->B5 ι x v->kB ι (cs.set j x) (vs.set j v)
 |[],[],_,_,_,_,_=>by simp[kB]
 |_::_,_::_,0,_,_,h,a=>⟨a,h.2⟩
 |_::_,_::_,j+1,_,_,h,a=>⟨h.1,h.2.set j a⟩
 |[],_::_,_,_,_,h,_=>h.elim
 |_::_,[],_,_,_,h,_=>h.elim
theorem kB.fk{ι:tv}:∀{l:tm}{vs:tm},kB ι (l.map .val) vs↔vs=l
 |[],[]=>by simp[kB]
 |[],_::_=>by simp[kB]
 |_::_,[]=>by simp[kB]
 |a::l,v::vs=>by simp only[map_cons,kB,B5,kB.fk,List.cons.injEq]
theorem Gf:∀{cs:ue}{l:tm},zR cs=some l->cs=l.map .val
 |[],l,h=>by grind[zR]
 |.val v::r,l,h=>by
  simp only[zR]at h;cases a:zR r with
  |none=>grind
  |some b=>simp[a]at h;subst h;simp[Gf a]
 |.ptr _ _::_,_,h=>by simp[zR]at h
 |.au _::_,_,h=>by simp[zR]at h
 |.el _ _ _ _::_,_,h=>by simp[zR]at h
 |.di::_,_,h=>by simp[zR]at h
theorem fw.val?{ι x u v}(h:fw ι x u)(a:x.val?=some v):u=v:=by
 cases x with
 |agg cs=>
  simp only[SV.val?]at a;cases b:zR cs with
  |none=>grind
  |some l=>
   simp[b]at a;obtain⟨d,rfl,c⟩:=h;rw[Gf b,kB.fk]at c;subst a;congr 1
   grind
 |dg e=>grind[SV.val?]
 |_ y=>cases y<;>simp[SV.val?]at a;subst a;exact h
theorem dp.length{ι:tv}:∀{xs:uj}{vs:tm},dp ι xs vs->xs.length=vs.length
 |[],[],_=>rfl
 |_::_,_::_,h=>by simp[dp.length h.2]
 |[],_::_,h=>h.elim
 |_::_,[],h=>h.elim
theorem dp.get{ι:tv}:∀{xs:uj}{vs:tm}(_:dp ι xs vs)(i:Nat)(x:SV),xs[i]?=some x->∃v,vs[i]?=some v/\fw ι x v
 |[],[],_,i,x,a=>by simp at a
 |_::_,v::_,h,0,x,a=>by simp at a;subst a;exact⟨v,rfl,h.1⟩
 |_::_,_::_,h,i+1,x,a=>by simp at a⊢;exact dp.get h.2 i x a
 |[],_::_,h,_,_,_=>h.elim
 |_::_,[],h,_,_,_=>h.elim
theorem dp.set{ι:tv}:∀{xs:uj}{vs:tm}(j:Nat){x:SV}{v:Value},dp ι xs vs->fw ι x v->dp ι (xs.set j x) (vs.set j v)
 |[],[],_,_,_,_,_=>by simp[dp]
 |_::_,_::_,0,_,_,h,a=>⟨a,h.2⟩
 |_::_,_::_,j+1,_,_,h,a=>⟨h.1,h.2.set j a⟩
 |[],_::_,_,_,_,h,_=>h.elim
 |_::_,[],_,_,_,h,_=>h.elim
def dv(ι:tv)(k:Nat)(u:Value):=λj=>if j=k then u else ι j
@[simp] theorem upd_same (ι:tv) (k:Nat) (u:Value):dv ι k u k=u:=by simp[dv]
theorem tW ι{k j} u(h:j≠k):dv ι k u j=ι j:=by simp[dv,h]
def At.key:At->Option Nat
 |.ptr k _=>some k
 |.au k=>some k
 |.el k _ _ _=>some k
 |_=>none
theorem B5.sub{ι k u f}(m:∀x v,x.key=some k->B5 ι x v->B5 (dv ι k u) (f x) v){x v}(h:B5 ι x v):
 B5 (dv ι k u) (x.sub k f) v:=by
 cases x with
 |val w=>exact h
 |di=>trivial
 |ptr j o=>
  simp only[At.sub];split
  .grind[At.key,ss,sw]
  .rename_i a;have d:j≠k:=λe=>by subst e;simp at a
   obtain⟨b,l,g⟩:=h;exact⟨b,by grind[tW],g⟩
 |au j=>
  simp only[At.sub];split
  .grind[At.key,ss,sw]
  .rename_i a;have d:j≠k:=λe=>by subst e;simp at a
   grind[B5,tW]
 |el j i p o=>
  simp only[At.sub];split
  .grind[At.key,ss,sw]
  .rename_i a;have d:j≠k:=λe=>by subst e;simp at a
   obtain⟨b,n,c,l,g⟩:=h;exact⟨b,n,c,by grind[tW],g⟩
theorem kB.sub{ι:tv}{k:Nat}{u:Value}{f:At->At}(a:∀x v,x.key=some k->B5 ι x v->B5 (dv ι k u) (f x) v):∀{cs:ue}{vs:tm},kB ι cs vs->
 kB (dv ι k u) (cs.map (At.sub k f)) vs
 |[],[],_=>trivial
 |_::_,_::_,h=>⟨B5.sub a h.1,kB.sub a h.2⟩
 |[],_::_,h=>h.elim
 |_::_,[],h=>h.elim
theorem Uk.sub{ι:tv}{k:Nat}{u:Value}{f:At->At}(a:∀x v,x.key=some k->B5 ι x v->B5 (dv ι k u) (f x) v):∀{cs:List (Sum At ue)}{vs:tm},Uk ι cs vs->
 Uk (dv ι k u) (cs.map λ|.inl x=>.inl (x.sub k f)|.inr cs=>.inr (cs.map (At.sub k f))) vs
 |[],[],_=>trivial
 |.inl _::_,_::_,h=>⟨B5.sub a h.1,Uk.sub a h.2⟩
 |.inr _::_,_::_,h=>⟨let⟨us,e,hd⟩:=h.1;⟨us,e,kB.sub a hd⟩,Uk.sub a h.2⟩
 |[],_::_,h=>h.elim
 |.inl _::_,[],h=>h.elim
 |.inr _::_,[],h=>h.elim
theorem fw.sub{ι k u f}(a:∀x v,x.key=some k->B5 ι x v->B5 (dv ι k u) (f x) v){x v}(h:fw ι x v):
 fw (dv ι k u) (x.sub k f) v:=by
 cases x with
 |agg cs=>obtain⟨b,e,c⟩:=h;exact⟨b,e,kB.sub a c⟩
 |dg d=>obtain⟨b,e,c⟩:=h;exact⟨b,e,Uk.sub a c⟩
 |_ y=>exact B5.sub a h
theorem dp.sub{ι:tv}{k:Nat}{u:Value}{f:At->At}(a:∀x v,x.key=some k->B5 ι x v->B5 (dv ι k u) (f x) v):∀{xs:uj}{vs:tm},dp ι xs vs->
 dp (dv ι k u) (xs.map (SV.sub k f)) vs
 |[],[],_=>trivial
 |_::_,_::_,h=>⟨fw.sub a h.1,dp.sub a h.2⟩
 |[],_::_,h=>h.elim
 |_::_,[],h=>h.elim
structure vU where
 w0:World
 E:Nat->Prop
 h0:PH
 dfs:List Deferred
def cj:Value->Option Nat
 |.pointer (some a)=>some a.block
 |.slice (some a) _ _=>some a.block
 |_=>none
def GC(ι:tv)(w:World)(v:Value):fi->Prop
 |.de p T cs=>∃b c,v=.pointer (some ⟨b,0,none⟩)/\w.heap[b]?=some (.cells c T (0,0))/\kB ι cs c.toList/\∀q,p=some q->b=q
 |.au E d a=>dA d a/\w.ownsRow 0 E d v a.length a.flatten
structure AV(B:vU)(m:MH)(h:PH)(w:World):Prop where
 tape:w.tape=B.w0.tape
 os:w.os=B.w0.os
 output:w.output=B.w0.output
 drawn:B.w0.drawn<=w.drawn
 size:B.w0.heap.size<=w.heap.size
 frame:∀b,b<B.w0.heap.size->¬B.E b->w.heap[b]?=B.w0.heap[b]?
 F:∀b o v,h b o=some v->w.cell? ⟨b,o,none⟩=some v
 t:∀b o,m b=some o->w.heap[b]?=some o
 z:∀b o,m b=some o->∀i,h b i=none
 iz:∀b o v,B.h0 b o=some v->h b o=some v
 hold:∀b,b<B.w0.heap.size->¬B.E b->h b=B.h0 b
 gc:∀b o,m b=some o->B.w0.heap.size<=b\/B.E b
structure aL(B:vU)(ι:tv)(σ:St)(a:Act)(w:World):Prop where
 dq:dp ι σ.sl a.tmps.toList
 defers:a.defers=B.dfs
 own:∀k o,cr σ.own k=some (some o)->GC ι w (ι k) o
 eh:∀k k' o o' b,cr σ.own k=some (some o)->cr σ.own k'=some (some o')->cj (ι k)=some b->cj (ι k')=some b->k=k'
 f:∀k o b,cr σ.own k=some (some o)->cj (ι k)=some b->(B.w0.heap.size<=b\/B.E b)/\σ.m b=none/\∀i,σ.h b i=none
 g:AV B σ.m σ.h w
 one:∀k,(ι k).oneCell'=true
theorem Cb{α}(l:List α) k j x:cr (l.set k x) j=if j=k/\k<l.length then some x else cr l j:=by
 grind[mK]
theorem Dp{α β}(f:α->β) l j:cr (l.map f) j=(cr l j).map f:=by
 grind[mK]
theorem Act.ms(a:Act) d v:(a.put (some d) v).tmps.toList=a.tmps.toList.set d v:=by
 simp[Act.put]
theorem aL.put{B ι σ a w}(h:aL B ι σ a w) d{x v}(hx:fw ι x v):
 aL B ι (σ.put d x) (a.put d v) w:=by
 cases d with
 |none=>exact h
 |some d=>
  refine⟨?_,h.defers,h.own,h.eh,h.f,h.g,h.one⟩;rw[Act.ms];exact h.dq.set d hx
theorem aL.ev{B ι σ a w}(h:aL B ι σ a w) x:fw ι (σ.ev x) (a.eval x):=by
 cases x with
 |const v=>rfl
 |global g=>rfl
 |func f=>rfl
 |tmp t=>
  simp only[St.ev,mK];cases b:σ.sl[t]? with
  |none=>exact trivial
  |some x=>
   have⟨v,c,d⟩:=h.dq.get t x b;simp_all[Act.eval,Array.getD_eq_getD_getElem?]
theorem aL.rho{B ι σ a w}(h:aL B ι σ a w){x v}(hx:(σ.ev x).val?=some v):
 a.eval x=v:=(h.ev x).val? hx
theorem uM{ι w v o b}(h:GC ι w v o)(a:cj v=some b):b<w.heap.size:=by
 cases o with
 |de p T cs=>
  obtain⟨c,g,rfl,d,_⟩:=h
  grind[cj]
 |au E i j=>
  rcases h.2.2 with⟨rfl,_⟩|⟨c,e,f,rfl,_,d,_⟩
  .simp[cj]at a
  grind[cj]
theorem GC.world{ι w w' v o}(h:GC ι w v o)(f:∀b,cj v=some b->w'.heap[b]?=w.heap[b]?):GC ι w' v o:=by
 cases o with
 |de p T cs=>
  obtain⟨a,g,rfl,c,i⟩:=h;exact⟨a,g,rfl,by rw[f _ rfl];exact c,i⟩
 |au E m n=>
  refine⟨h.1,h.2.1,?_⟩;rcases h.2.2 with⟨rfl,q⟩|⟨a,d,e,rfl,j,c,l⟩
  .grind
  .exact .inr ⟨a,d,e,rfl,j,by rw[f _ rfl];exact c,l⟩
theorem GC.sub{ι w v o k u f}(a:∀x v,x.key=some k->B5 ι x v->B5 (dv ι k u) (f x) v)(h:GC ι w v o):
 GC (dv ι k u) w v (o.sub k f):=by
 cases o with
 |de p T cs=>
  obtain⟨b,c,rfl,d,e,g⟩:=h;exact⟨b,c,rfl,d,kB.sub a e,g⟩
 |au E i j=>exact h
theorem uS{σ:St}{k j f a}(h:cr ((σ.sub k f).bl k none).own j=some (some a)):
 j≠k/\∃o,cr σ.own j=some (some o)/\a=o.sub k f:=by
 simp only[St.bl,St.sub,Cb,Dp]at h;by_cases b:j=k
 .grind[mK]
 .simp only[b,false_and,if_false]at h;refine⟨b,?_⟩;cases c:cr σ.own j with
  |none=>grind
  |some x=>
   cases x with
   |none=>grind
   |some o=>grind
theorem Xv{ι}(h:∀k,(ι k).oneCell'=true) k{u}(a:u.oneCell'=true):∀j,(dv ι k u j).oneCell'=true:=by
 grind[dv]
theorem aL.drop{B ι σ a w}(h:aL B ι σ a w) k u(r:u.oneCell'=true) f(p:∀x v,x.key=some k->B5 ι x v->B5 (dv ι k u) (f x) v):aL B (dv ι k u) ((σ.sub k f).bl k none) a w:=by
 refine⟨dp.sub p h.dq,h.defers,?_,?_,?_,h.g,Xv h.one k r⟩
 .intro j q d;obtain⟨c,o,e,rfl⟩:=uS d;rw[tW _ _ c];exact(h.own j o e).sub p
 .intro j s o q b d m g i;obtain⟨c,o,e,rfl⟩:=uS d;obtain⟨l,q,n,rfl⟩:=uS m;rw[tW _ _ c]at g;rw[tW _ _ l]at i;exact h.eh j s _ _ b e n g i
 .intro j o b d g;obtain⟨c,o,e,rfl⟩:=uS d;rw[tW _ _ c]at g;exact h.f j o b e g
theorem R0(σ:St) k:σ.fo k=(σ.sub k (λ_=>.di)).bl k none:=rfl
theorem aL.fo{B ι σ a w}(h:aL B ι σ a w) k u(b:u.oneCell'=true):aL B (dv ι k u) (σ.fo k) a w:=
 h.drop k u b _ (λ_ _ _ _=>trivial)
structure Gz(S:Nat->Prop)(w w':World):Prop where
 tape:w'.tape=w.tape
 os:w'.os=w.os
 output:w'.output=w.output
 drawn:w.drawn<=w'.drawn
 size:w.heap.size<=w'.heap.size
 block:∀b,b<w.heap.size->¬S b->w'.heap[b]?=w.heap[b]?
theorem Gz.refl S w:Gz S w w:=⟨rfl,rfl,rfl,Nat.le_refl _,Nat.le_refl _,λ_ _ _=>rfl⟩
theorem AV.ext{B m h w w' S}(a:AV B m h w)(c:Gz S w w')(p:∀b,S b->(B.w0.heap.size<=b\/B.E b)/\m b=none/\∀i,h b i=none):
 AV B m h w':=by
 refine⟨c.tape.trans a.tape,c.os.trans a.os,c.output.trans a.output,tf a.drawn c.drawn,tf a.size c.size,?_,?_,?_,a.z,a.iz,a.hold,a.gc⟩
 .intro b f j;rw[c.block b (tg f a.size) (λg=>?_)]
  .exact a.frame b f j
  grind
 .intro b o v l;have e:=a.F b o v l
  have d:b<w.heap.size:=by
   grind[World.cell?]
  have q:=c.block b d (λg=>da)
  grind[World.cell?]
 .intro b o n;have e:=a.t b o n;have d:=(Array.getElem?_eq_some_iff.1 e).1;rw[c.block b d (λg=>da)];exact e
theorem aL.fx{B ι σ a w w'}(h:aL B ι σ a w) k o v(J:Gz (λb=>(∃l,cr σ.own k=some (some l))/\cj (ι k)=some b) w w')(U:GC (dv ι k v) w' v o)(t:v.oneCell'=true)(N:∀b,cj v=some b->w.heap.size<=b\/((∃l,cr σ.own k=some (some l))/\cj (ι k)=some b)):
 aL B (dv ι k v) ((σ.fo k).bl k (some o)) a w':=by
 have O:∀b,((∃l,cr σ.own k=some (some l))/\cj (ι k)=some b)->(B.w0.heap.size<=b\/B.E b)/\σ.m b=none/\∀i,σ.h b i=none:=
  λb⟨⟨l,r⟩,C⟩=>h.f k l b r C
 have D:=h.g.ext J O
 have y:∀b,cj v=some b->(B.w0.heap.size<=b\/B.E b)/\σ.m b=none/\∀i,σ.h b i=none:=by
  intro b K;rcases N b K with F|L
  .refine⟨.inl (tf h.g.size F),?_,?_⟩
   .cases P:σ.m b with
    |none=>rfl
    |some Q=>have:=(Array.getElem?_eq_some_iff.1 (h.g.t b Q P)).1;omega
   .intro i;cases R:σ.h b i with
    |none=>rfl
    |some u=>
     have V:=h.g.F b i u R
     grind[World.cell?]
  grind
 have c:∀j l,cr ((σ.fo k).bl k (some o)).own j=some (some l)->
  (j=k/\l=o)\/(j≠k/\∃n,cr σ.own j=some (some n)/\l=n.sub k (λ_=>.di)):=by
  intro j l p;simp only[R0,St.bl,St.sub,Cb,Dp,length_set,length_map]at p;by_cases e:j=k
  .grind[mK]
  .simp only[e,false_and,if_false]at p;refine .inr ⟨e,?_⟩;cases W:cr σ.own j with
   |none=>grind
   |some x=>
    cases x with
    |none=>grind
    |some n=>grind
 have ai:∀j n,j≠k->cr σ.own j=some (some n)->∀b,cj (ι j)=some b->cj v≠some b/\w'.heap[b]?=w.heap[b]? :=by
  intro j n e g b d;have G:=uM (h.own j n g) d;have s:¬((∃l,cr σ.own k=some (some l))/\cj (ι k)=some b):=λ⟨⟨l,r⟩,C⟩=>e (h.eh j k n l b g r d C);refine⟨λK=>?_,J.block b G s⟩
  grind
 refine⟨dp.sub (f:=λ_=>.di) (λ_ _ _ _=>trivial) h.dq,h.defers,?_,?_,?_,D,Xv h.one k t⟩
 .intro j l p;rcases c j l p with⟨rfl,rfl⟩|⟨e,n,g,rfl⟩
  .simp_all
  .rw[tW _ _ e];refine GC.world ((h.own j n g).sub (f:=λ_=>.di) (λ_ _ _ _=>trivial)) (λb d=>(ai j n e g b d).2)
 .intro j M n S b p H d q;rcases c j n p with⟨rfl,rfl⟩|⟨e,z,g,rfl⟩<;>rcases c M S H with⟨rfl,rfl⟩|⟨A,T,I,rfl⟩
  .rfl
  .grind[upd_same,tW]
  .grind[upd_same,tW]
  .rw[tW _ _ e]at d;rw[tW _ _ A]at q;exact h.eh j M _ _ b g I d q
 .intro j n b p d;rcases c j n p with⟨rfl,rfl⟩|⟨e,z,g,rfl⟩
  .rw[upd_same]at d;exact y b d
  .rw[tW _ _ e]at d;exact h.f j z b g d
theorem aL.adopt{B ι σ a w}(h:aL B ι σ a w) k o v(F:GC (dv ι k v) w v o)(r:v.oneCell'=true)(A:∀b,cj v=some b->((B.w0.heap.size<=b\/B.E b)/\σ.m b=none/\∀i,σ.h b i=none)/\∀j n,j≠k->cr σ.own j=some (some n)->cj (ι j)≠some b):
 aL B (dv ι k v) ((σ.fo k).bl k (some o)) a w:=by
 have c:∀j n,cr ((σ.fo k).bl k (some o)).own j=some (some n)->
  (j=k/\n=o)\/(j≠k/\∃l,cr σ.own j=some (some l)/\n=l.sub k (λ_=>.di)):=by
  intro j n p;simp only[R0,St.bl,St.sub,Cb,Dp,length_set,length_map]at p;by_cases d:j=k
  .grind[mK]
  .simp only[d,false_and,if_false]at p;refine .inr ⟨d,?_⟩;cases G:cr σ.own j with
   |none=>grind
   |some x=>
    cases x with
    |none=>grind
    |some l=>grind
 refine⟨dp.sub (f:=λ_=>.di) (λ_ _ _ _=>trivial) h.dq,h.defers,?_,?_,?_,h.g,Xv h.one k r⟩
 .intro j n p;rcases c j n p with⟨rfl,rfl⟩|⟨d,l,g,rfl⟩
  .simp_all
  .rw[tW _ _ d];exact(h.own j l g).sub (f:=λ_=>.di) (λ_ _ _ _=>trivial)
 .intro j z l C b p u e q;rcases c j l p with⟨rfl,rfl⟩|⟨d,s,g,rfl⟩<;>rcases c z C u with⟨rfl,rfl⟩|⟨t,D,y,rfl⟩
  .rfl
  .grind[upd_same,tW]
  .grind[upd_same,tW]
  .rw[tW _ _ d]at e;rw[tW _ _ t]at q;exact h.eh j z _ _ b g y e q
 .intro j l b p e;rcases c j l p with⟨rfl,rfl⟩|⟨d,s,g,rfl⟩
  .rw[upd_same]at e;exact(A b e).1
  .rw[tW _ _ d]at e;exact h.f j s b g e
theorem LZ ι k:dv ι k (ι k)=ι:=by
 grind[dv]
structure Fz(σ σ':St):Prop where
 cells:∀k p T cs,cr σ.own k=some (some (.de p T cs))->∃cs',cr σ'.own k=some (some (.de p T cs'))
 ay:∀b off v,σ.h b off=some v->σ'.h b off=some v
 ptr:∀x k off,σ'.ev x=.at (.ptr k off)->σ.ev x=.at (.ptr k off)
 au:∀x k,σ'.ev x=.at (.au k)->σ.ev x=.at (.au k)
 m_:σ'.m=σ.m
theorem Fz.refl σ:Fz σ σ:=⟨λ_ _ _ cs h=>⟨cs,h⟩,λ_ _ _ h=>h,λ_ _ _ h=>h,λ_ _ h=>h,rfl⟩
theorem Fz.trans{σ τ υ}(h:Fz σ τ)(a:Fz τ υ):Fz σ υ:=
 ⟨λk p T cs d=>let⟨cs',hk'⟩:=h.cells k p T cs d;a.cells k p T cs' hk',λb o v e=>a.ay b o v (h.ay b o v e),λx k o c=>h.ptr x k o (a.ptr x k o c),λx k c=>h.au x k (a.au x k c),a.m_.trans h.m_⟩
theorem bfZ(σ:St) k f m h own x:
 St.ev {sl:=σ.sl.map (SV.sub k f),own:=own,m:=m,h:=h} x=(σ.ev x).sub k f\/(∃v,x=.const v\/(∃g,x=.global g)\/∃g,x=.func g):=by
 cases x with
 |tmp t=>
  left;simp only[St.ev,Dp];cases cr σ.sl t with
  |none=>rfl
  |some y=>rfl
 |const v=>grind
 |global g=>simp_all
 |func g=>simp_all
theorem c3J{k f}(a:∀x j o,f x≠ .ptr j o){x:SV}{j o}(h:x.sub k f=.at (.ptr j o)):x=.at (.ptr j o):=by
 cases x with
 |agg cs=>simp[SV.sub]at h
 |dg b=>simp[SV.sub]at h
 |_ y=>
  cases y<;>simp only[SV.sub,At.sub,SV.at.injEq]at h⊢
  case val=>exact h
  case di=>exact h
  all_goals
   split at h
   .exact absurd h (a _ _ _)
   .exact h
theorem boQ{k f}(a:∀x j,f x≠ .au j){x:SV}{j}(h:x.sub k f=.at (.au j)):x=.at (.au j):=by
 cases x with
 |agg cs=>simp[SV.sub]at h
 |dg b=>simp[SV.sub]at h
 |_ y=>
  cases y<;>simp only[SV.sub,At.sub,SV.at.injEq]at h⊢
  case val=>exact h
  case di=>exact h
  all_goals
   split at h
   .exact absurd h (a _ _)
   .exact h
theorem cnJ{σ k f m h}(l:m=σ.m)(s:∀x j o,f x≠ .ptr j o)(n:∀x j,f x≠ .au j)(q:∀p T cs,cr σ.own k≠some (some (.de p T cs)))(r:∀b off v,σ.h b off=some v->h b off=some v):
 Fz σ {(σ.sub k f).bl k none with m:=m,h:=h}:=by
 refine⟨?_,r,?_,?_,l⟩
 .intro j p T cs i;have d:j≠k:=λe=>q p T cs (e▸i);refine⟨cs.map (At.sub k f),?_⟩;simp only[St.bl,St.sub,Cb,Dp,d,false_and,if_false,i];rfl
 .intro x j off c;rcases bfZ σ k f m h ((σ.sub k f).bl k none).own x with a|⟨v,a⟩
  .have:(σ.ev x).sub k f=.at (.ptr j off):=a▸c
   grind[c3J]
  .rcases a with rfl|⟨g,rfl⟩|⟨g,rfl⟩<;>exact c
 .intro x j c;rcases bfZ σ k f m h ((σ.sub k f).bl k none).own x with a|⟨v,a⟩
  .have:(σ.ev x).sub k f=.at (.au j):=a▸c
   grind[boQ]
  .rcases a with rfl|⟨g,rfl⟩|⟨g,rfl⟩<;>exact c
end Go.Vc
namespace Go.Vc
open Go List
theorem Em{α} P:∀(s:_)(x:α),CY P s=some x->∀w,s.run P w=.ok x w:=by
 intro s
 induction s with
 |pure a=>simp_all[CY]
 |program k b=>grind[CY,Sem.run]
 |mark m k b=>grind[CY,Sem.run]
 |_=>intro x h w;simp[CY]at h
def YH(C:bk)(ι:tv)(o:Oper)(σ:St)(K:St->Prop)(a:Act)(w:World):=
 ∃v x,(∀b,(Dg C.P o=false\/b=w)->(execOp a.eval o).run C.P b=.ok (.value v) b)/\fw ι x v/\K (σ.put o.dst x)
section
variable{B:vU}{C:bk}{ι:tv}{σ:St}{a:Act}{w:World}{o:Oper}{K:St->Prop}
theorem Q7(d:aL B ι σ a w):∀(l:uf),R5 σ l=true->∀x∈l,σ.rho x=a.eval x
 |[],_,x,b=>by cases b
 |y::l,h,x,b=>by
  simp only[R5]at h;cases c:(σ.ev y).val? with
  |none=>grind
  |some v=>
   simp[c]at h;rcases mem_cons.1 b with rfl|b
   .simp only[St.rho,c];exact(d.rho c).symm
   .exact Q7 d l h x b
theorem pF(d:aL B ι σ a w)(e:∀cs b,o.op≠ .select cs b)(h:A3 C o σ K):YH C ι o σ K a w:=by
 unfold A3 at h;split at h
 .rename_i f;have g:execOp a.eval o=execOp σ.rho o:=execOp_congr o e λx j=>(Q7 d _ f x da).symm;split at h
  .rename_i v i;exact⟨v,.at (.val v),λc _=>by rw[g];exact Em _ _ _ i c,rfl,h⟩
  grind
 grind
theorem Addr.ei b o j:(⟨b,o,none⟩:Addr).add j=⟨b,o+j,none⟩:=by grind[Addr.add]
def mkV(P:Program)(T:TypeId)(cs:tm):Value:=match EC P T with|true=>.agg cs.toArray|false=>cs.headD undef
theorem iL{P T}(h:kL P T=true):∃i d,P.info? T=some i/\P.underlying T=some d/\P.cellsOf T=i.size/\0<i.size:=by
 grind[kL,Program.underlying,Program.cellsOf]
theorem US{P T d}(h:P.underlying T=some d) w:(isAgg T).run P w=.ok (EC P T) w:=by
 unfold isAgg EC;rw[Sem.run_bind,run_underlying h w,h];cases d<;>rfl
theorem db{P T i}(h:P.info? T=some i) w:(sizeOf T).run P w=.ok i.size w:=by
 simp[sizeOf,typeInfo,program,Sem.run,h]
theorem CL{P T w b off cs}(h:kL P T=true)(c:cs.length=P.cellsOf T)(l:∀j v,cs[j]?=some v->w.cell? ⟨b,off+j,none⟩=some v):(loadVar T ⟨b,off,none⟩).run P w=.ok (mkV P T cs) w:=by
 have⟨i,d,n,m,e,f⟩:=iL h;rw[e]at c;unfold loadVar;rw[Sem.run_bind,US m];simp only[Result.andThen_ok];unfold mkV;cases g:EC P T with
 |true=>
  have p:(loadCells ⟨b,off,none⟩ cs.length).run P w=.ok cs.toArray w:=
   run_loadCells_list (P:=P) w ⟨b,off,none⟩ cs (λj v q=>by grind[Addr.ei])
  simp_all[db]
 |false=>
  cases cs with
  |nil=>grind
  |cons v r=>
   have s:=l 0 v rfl;simp_all
theorem LD{P T ats cs}(h:kB ι ats cs):fw ι (mk P T ats) (mkV P T cs):=by
 unfold mk mkV;cases EC P T with
 |true=>exact⟨cs.toArray,rfl,mp h⟩
 |false=>
  cases ats with
  |nil=>exact trivial
  |cons x r=>
   cases cs with
   |nil=>exact h.elim
   |cons v l=>
    cases r with
    |nil=>exact h.1
    |cons y r=>exact trivial
theorem AM(c:aL B ι σ a w){k T cs p}(d:cr σ.own k=some (some (.de p T cs))):
 ∃b vs,ι k=.pointer (some ⟨b,0,none⟩)/\w.heap[b]?=some (.cells vs T (0,0))/\kB ι cs vs.toList:=
 let⟨b,vs,h1,h2,h3,_⟩:=c.own k _ d;⟨b,vs,h1,h2,h3⟩
theorem bqZ(c:aL B ι σ a w){k q T cs}(d:cr σ.own k=some (some (.de (some q) T cs))):ι k=.pointer (some ⟨q,0,none⟩):=by
 have⟨b,e,f,_,_,g⟩:=c.own k _ d
 grind
theorem dj{w:World}{b o vs T c}(h:w.heap[b]?=some (.cells vs T c)):w.cell? ⟨b,o,none⟩=vs.toList[o]? :=by
 simp[World.cell?,h]
theorem UL{vs:tm}{off n j v}(h:((vs.drop off).take n)[j]?=some v):vs[off+j]?=some v:=by
 grind
theorem GM(c:AV B σ.m σ.h w){b off l}(h:aK σ.m σ.h b off l):∀j v,l[j]?=some v->w.cell? ⟨b,off+j,none⟩=some v:=by
 intro j v d;cases h with
 |ay e=>exact c.F _ _ _ (e.rd j v d)
 |dx cs E g f i=>
  rw[dj (c.t _ _ f)]
  grind
theorem oR{xs:List tm}{sz i e}(b:∀e∈xs,e.length=sz)(c:xs[i]?=some e) j v(d:e[j]?=some v):
 xs.flatten[i*sz+j]?=some v:=by
 induction xs generalizing i with
 |nil=>simp at c
 |cons x r f=>
  have g:x.length=sz:=b x bu;cases i with
  |zero=>
   grind
  |succ i=>
   grind
theorem wW(b:aL B ι σ a w){k E sz xs}(c:cr σ.own k=some (some (.au E sz xs))):
 dA sz xs/\w.ownsRow 0 E sz (ι k) xs.length xs.flatten:=b.own k _ c
theorem aJJ(D:aL B ι σ a w){T x}(Q:o.op=.load T x)(h:aKQ C o T x σ K):YH C ι o σ K a w:=by
 have f:∀(b off:Nat)(cs:tm),a.eval x=.pointer (some ⟨b,off,none⟩)->kL C.P T=true->cs.length=C.P.cellsOf T->(∀j v,cs[j]?=some v->w.cell? ⟨b,off+j,none⟩=some v)->
  ∀l,(Dg C.P o=false\/l=w)->(execOp a.eval o).run C.P l=.ok (.value (mkV C.P T cs)) l:=by
  intro b off cs q u R S l F;have F:l=w:=F.resolve_left (by simp[Dg,Q]);subst F;have:=CL u R S;unfold execOp;simp only[Q,q,Instr.loadAt,Instr.sureAddr,Sem.run_bind,Sem.run_pure,Result.andThen_ok,this]
 have d:=D.ev x;unfold aKQ at h;split at h
 .exact h.elim
 .rename_i u;split at h
  .rename_i k off q;rw[q]at d;split at h
   .rename_i p T' cs G;split at h
    .rename_i H;have⟨b,U,I,V,W⟩:=AM D G;obtain⟨Z,r,J⟩:=d;rw[I]at r;simp only[Value.pointer.injEq,ss,Addr.mk.injEq]at r;obtain⟨rfl,-,-⟩:=r;have z:=(W.drop off).take (C.P.cellsOf T);refine⟨_,_,f b off ((U.toList.drop off).take (C.P.cellsOf T)) J u ?_ ?_,LD z,h⟩
     .rw[<-z.length];have:=Nat.le_of_ble_eq_true H;simp;omega
     .intro j v L;rw[dj V]
      grind
    grind
   grind
  .rename_i k i sz off q;rw[q]at d;split at h
   .rename_i E s xs G;split at h
    .rename_i M;have M:=sw M;subst M;obtain⟨e,X,y,N,h⟩:=h;split at h
     .rename_i m;have⟨t,A⟩:=wW D G;obtain⟨b,n,c,I,J⟩:=d;refine⟨_,_,f b _ _ J u (sw m) ?_,LD (kB.fk.2 rfl),h⟩;intro j v L;rw[<-N]at L;have O:=UL L;have Y:=oR t.len X _ _ O;have:=A.cells (g:=b) (by rw[I];rfl) _ _ Y;rw[Addr.ei]at this
      grind
     grind
    grind
   grind
  .rename_i b off q;rw[q]at d;obtain⟨y,N,h⟩:=h;split at h
   .rename_i m;exact⟨_,_,f b off _ d u (sw m) (GM D.g N),LD (kB.fk.2 rfl),h⟩
   grind
  grind
theorem SP(c:aL B ι σ a w){x}(b:o.op=.move x\/o.op=.assign x)(h:K (σ.put o.dst (σ.ev x))):YH C ι o σ K a w:=by
 refine⟨a.eval x,σ.ev x,λd _=>?_,c.ev x,h⟩;rcases b with b|b<;>simp[execOp,b]
theorem xW{c A D}(h:branch c A D):(c=true/\A)\/(c=false/\D):=by
 cases c
 .exact .inr ⟨rfl,h⟩
 .exact .inl ⟨rfl,h⟩
theorem aIQ(d:aL B ι σ a w){c x y}(f:o.op=.pick c x y)(h:aIX o c x y σ K):YH C ι o σ K a w:=by
 have b:=d.ev c;unfold aIX at h;split at h
 .rename_i t g;rw[g]at b;have b:a.eval c=.bool t:=b;rcases xW h with⟨rfl,h⟩|⟨rfl,h⟩
  .exact⟨a.eval x,σ.ev x,λe _=>by simp[execOp,f,b,asBool],d.ev x,h⟩
  .exact⟨a.eval y,σ.ev y,λe _=>by simp[execOp,f,b,asBool],d.ev y,h⟩
 grind
theorem N7{P T f g T'}(h:N8 P T f=some (g,T')):∃c Uo,P.underlying T=some (.struct c)/\c[f]?=some Uo/\Uo.offset=g/\Uo.type=T'/\P.cellsOf T'≠0:=by
 unfold N8 at h;split at h
 .rename_i c d;split at h
  .rename_i Uo b;split at h
   .cases h
   .rename_i i;simp only[ss,Prod.mk.injEq]at h;obtain⟨rfl,rfl⟩:=h;rw[mK,td]at b;exact⟨c,Uo,d,b,rfl,rfl,λe=>bz⟩
  .cases h
 .cases h
theorem Zt{P T f g T'}(h:N8 P T f=some (g,T')) w b off:
 (Instr.fieldAt T (.pointer (some ⟨b,off,none⟩)) f).run P w=.ok (.pointer (some ⟨b,off+g,none⟩)) w:=by
 obtain⟨c,Uo,d,e,rfl,rfl,j⟩:=N7 h;cases l:P.info? Uo.type with
 |none=>grind[Program.cellsOf]
 |some i=>
  simp_all[Program.cellsOf,Instr.fieldAt,Instr.sureAddr,fieldPlace,run_underlying,db,Addr.ei]
theorem Rj(q:aL B ι σ a w){T f x}(r:o.op=.fieldAddr T x f)(h:IU C o T x f σ K):YH C ι o σ K a w:=by
 have d:=q.ev x;unfold IU at h;split at h
 .exact h.elim
 .rename_i g T' s
  have e:∀b off,a.eval x=.pointer (some ⟨b,off,none⟩)->∀j,(Dg C.P o=false\/j=w)->(execOp a.eval o).run C.P j=.ok (.value (.pointer (some ⟨b,off+g,none⟩))) j:=by
   intro b off l j _;unfold execOp;simp only[r,l,Sem.run_bind,Zt s,Result.andThen_ok,Sem.run_pure]
  split at h
  .rename_i k off l;rw[l]at d;obtain⟨b,m,p⟩:=d;exact⟨_,.at (.ptr k (off+g)),e b off p,⟨b,m,rfl⟩,h⟩
  .rename_i k i t off l;rw[l]at d;obtain⟨b,n,c,m,p⟩:=d;exact⟨_,.at (.el k i t (off+g)),e b _ p,⟨b,n,c,m,da⟩,h⟩
  .rename_i b off l;rw[l]at d;exact⟨_,.at (.val _),e b off d,rfl,h⟩
  grind
theorem SK(p:aL B ι σ a w){x}(q:o.op=.nilCheck x)(h:Ll o x σ K):YH C ι o σ K a w:=by
 have d:=p.ev x
 have e:∀j,a.eval x=.pointer (some j)->∀f,(Dg C.P o=false\/f=w)->(execOp a.eval o).run C.P f=.ok (.value (.pointer (some j))) f:=by
  intro j g f _;unfold execOp;simp[q,g]
 unfold Ll at h;split at h
 .rename_i k off g;rw[g]at d;obtain⟨b,l,m⟩:=d;exact⟨_,.at (.ptr k off),e _ m,⟨b,l,rfl⟩,h⟩
 .rename_i k i r off g;rw[g]at d;obtain⟨b,n,c,l,m⟩:=d;exact⟨_,.at (.el k i r off),e _ m,⟨b,n,c,l,rfl⟩,h⟩
 .rename_i j g;rw[g]at d;exact⟨_,.at (.val _),e _ d,rfl,h⟩
 grind
end
end Go.Vc
namespace Go.Vc
open Go List
section
variable{B:vU}{C:bk}{ι:tv}{σ:St}{a:Act}{w:World}{o:Oper}{K:St->Prop}
theorem Ei(f:∀k,(ι k).oneCell'=true){x v cs}(h:fw ι x v)(d:x.cells?=some cs):kB ι cs v.cells.toList:=by
 have one:∀u:Value,u.oneCell'=true->u.cells=#[u]:=λu j=>by cases u<;>first|rfl|grind[Value.oneCell']
 cases x with
 |agg l=>
  simp only[SV.cells?,ss]at d;subst d;obtain⟨p,rfl,g⟩:=h;exact g
 |dg q=>grind[SV.cells?]
 |_ y=>
  cases y with
  |val u=>
   have h:v=u:=h;subst h;cases v<;>simp only[SV.cells?,ss,reduceCtorEq]at d<;>subst d<;>first|exact⟨rfl,trivial⟩|skip
   exact kB.fk.2 rfl
  |di=>grind[SV.cells?]
  |ptr k off=>
   simp only[SV.cells?,ss]at d;subst d;obtain⟨b,e,rfl⟩:=h;exact⟨⟨b,e,rfl⟩,trivial⟩
  |au k=>
   simp only[SV.cells?,ss]at d;subst d;have h:v=ι k:=h;rw[one v da];exact⟨h,trivial⟩
  |el k i m off=>
   simp only[SV.cells?,ss]at d;subst d;obtain⟨b,n,c,e,rfl⟩:=h;exact⟨⟨b,n,c,e,rfl⟩,trivial⟩
theorem jd{P T E}(e:P.underlying T=some (.slice E))(f:kL P E=true) w b off(len:Nat) cap k n(g:0<=n)(h:n<(len:Int)):
 (Instr.indexAt T (.slice (some ⟨b,off,none⟩) len cap) (.int k n)).run P w=.ok (.pointer (some ⟨b,off+n.toNat*P.cellsOf E,none⟩)) w:=by
 have⟨i,d,j,m,l,c⟩:=iL f;rw[l];simp[Instr.indexAt,asIntOf,run_underlying e,g,h,db j,Addr.ei]
theorem je{P:Program}{T E len}(e:P.underlying T=some (.array len E))(f:kL P E=true) w b off k n(g:0<=n)(h:n<(len:Int)):
 (Instr.indexAt T (.pointer (some ⟨b,off,none⟩)) (.int k n)).run P w=.ok (.pointer (some ⟨b,off+n.toNat*P.cellsOf E,none⟩)) w:=by
 have⟨i,d,j,m,l,c⟩:=iL f;rw[l];simp[Instr.indexAt,asIntOf,run_underlying e,Instr.sureAddr,g,h,db j,Addr.ei]
theorem Ri(s:aL B ι σ a w){T x i}(A:o.op=.indexAddr T x i)(h:IJ C o T x i σ K):YH C ι o σ K a w:=by
 have d:=s.ev x;have e:=s.ev i;unfold IJ at h;split at h
 .rename_i t n D;rw[D]at e;have e:a.eval i=.int t n:=e;split at h
  .rename_i E u;split at h
   .rename_i v
    have f:∀b off len j,a.eval x=.slice (some ⟨b,off,none⟩) len j->0<=n->n<(len:Int)->∀c,(Dg C.P o=false\/c=w)->(execOp a.eval o).run C.P c=.ok (.value (.pointer (some ⟨b,off+n.toNat*C.P.cellsOf E,none⟩))) c:=by
     intro b off len j l m p c _;unfold execOp;simp only[A,l,e,Sem.run_bind,jd u v c b off len j t n m p,Result.andThen_ok,Sem.run_pure]
    split at h
    .rename_i k l;rw[l]at d;have d:a.eval x=ι k:=d;split at h
     .rename_i E' F L G;split at h
      .rename_i q;have q:=sw q;obtain⟨m,p,h⟩:=h;have⟨y,r⟩:=wW s G;rcases r.2 with⟨z,M⟩|⟨g,j,H,z,_⟩
       .omega
       .refine⟨_,.at (.el k n.toNat F 0),f g 0 _ j (by rw[d,z]) m p,⟨g,_,j,z,?_⟩,h⟩
        grind
      grind
     grind
    .rename_i N len j l;rw[l]at d;obtain⟨b,off,rfl,m,p,h⟩:=h;exact⟨_,.at (.val _),f b off len j d m p,rfl,h⟩
    grind
   grind
  .rename_i len E u;split at h
   .rename_i v
    have f:∀b off,a.eval x=.pointer (some ⟨b,off,none⟩)->0<=n->n<(len:Int)->∀c,(Dg C.P o=false\/c=w)->(execOp a.eval o).run C.P c=.ok (.value (.pointer (some ⟨b,off+n.toNat*C.P.cellsOf E,none⟩))) c:=by
     intro b off l m p c _;unfold execOp;simp only[A,l,e,Sem.run_bind,je u v c b off t n m p,Result.andThen_ok,Sem.run_pure]
    split at h
    .rename_i k off l;rw[l]at d;obtain⟨b,I,J⟩:=d;obtain⟨m,p,h⟩:=h;exact⟨_,.at (.ptr k (off+n.toNat*C.P.cellsOf E)),f b off J m p,⟨b,I,rfl⟩,h⟩
    .rename_i b off l;rw[l]at d;obtain⟨m,p,h⟩:=h;exact⟨_,.at (.val _),f b off d m p,rfl,h⟩
    grind
   grind
  grind
 grind
theorem b9J(i:aL B ι σ a w){op tx q x y}(j:o.op=.binOp op tx x y q)(h:byQ o op x y σ K):YH C ι o σ K a w:=by
 have b:=i.ev x;have c:=i.ev y;unfold byQ at h;split at h
 .rename_i k n l m d e;rw[d]at b;rw[e]at c;have b:a.eval x=.int k n:=b;have c:a.eval y=.int l m:=c;split at h
  .rename_i f;have f:k=l:=of_decide_eq_true f;subst f;obtain⟨p,h⟩:=h;split at h
   .exact⟨_,.at (.val _),λg _=>by unfold execOp;simp[j,b,c,eqGuard,binOp,Op.intDiv,p],rfl,h⟩
   .exact⟨_,.at (.val _),λg _=>by unfold execOp;simp[j,b,c,eqGuard,binOp,Op.intDiv,p],rfl,h⟩
   grind
  grind
 grind
theorem Yp(e:aL B ι σ a w){tx j x y}(l:o.op=.binOp .add tx x y j)(h:TV C o x y σ K):YH C ι o σ K a w:=by
 have c:=e.ev x;have d:=e.ev y;unfold TV at h;split at h
 .rename_i s t f g;rw[f]at c;rw[g]at d;have c:a.eval x=.string s:=c;have d:a.eval y=.string t:=d;obtain⟨n,h⟩:=h
  have i:¬((s.size+t.size:Nat):Int)>IntKind.i64.max:=by
   have:IntKind.i64.max=9223372036854775807:=bx
   omega
  exact⟨_,.at (.val _),λm _=>by unfold execOp;simp only[l,c,d,eqGuard,binOp,Op.stringOp,if_neg i];simp,rfl,h⟩
 .exact pF e (λcs b=>da) h
theorem Io(f:aL B ι σ a w){neg tx l x y}(g:o.op=.binOp (match neg with|true=>.neq|false=>.eql) tx x y l)(h:GI C o neg tx x y σ K):YH C ι o σ K a w:=by
 unfold GI at h;split at h
 .rename_i m n d e;have i:a.eval x=.agg m:=(f.ev x).val? d;have j:a.eval y=.agg n:=(f.ev y).val? e;obtain⟨r,c,h⟩:=h;refine⟨_,.at (.val _),λb _=>?_,rfl,h⟩;cases neg
  .unfold execOp;simp[g,i,j,run_eqGuard_agg _ _ _ _ _ _ _ c.guard,run_eql_struct,c.eq b]
  .unfold execOp;simp[g,i,j,run_eqGuard_agg _ _ _ _ _ _ _ c.guard,run_neq_struct,c.eq b]
 grind
theorem btQ(off:Nat):∀(l:tm)(s:Nat)(cs:Array Value),off+s+l.length<=cs.size->
 ((l.zipIdx s).foldl (λcs x=>cs.setIfInBounds (off+x.2) x.1) cs).toList=aq cs.toList (off+s) l
 |[],s,cs,_=>by simp[aq]
 |v::l,s,cs,h=>by
  simp only[te]at h;simp only[zipIdx_cons,foldl_cons];have:=btQ off l (s+1) (cs.setIfInBounds (off+s) v) cv
  grind[aq,Array.toList_setIfInBounds,te,list_seg_step]
theorem Ve{fx cells i off size v jg}(c:fx i=some (off,size))(e:v.cells.size=size)(d:off+v.cells.size<=cells.size):
 Instr.fill fx cells ((i,v)::jg)=Instr.fill fx (aq cells.toList off v.cells.toList).toArray jg:=by
 have b:=btQ off v.cells.toList 0 cells aC;simp only[Nat.add_zero]at b;simp only[Instr.fill,c];rw[if_neg cv];congr 1;apply Array.toList_inj.1;rw[<-b];rw[<-Array.foldl_toList];simp
theorem qM{α}(cs:List α) new off(h:off+new.length<=cs.length):(aq cs off new).length=cs.length:=by
 grind[aq]
theorem C8(j:aL B ι σ a w)(fx:Nat->Option (Nat×Nat)){P:Program}{T:TypeId}(b:∀i r,partAt P T i=some r->fx i=some r):
 ∀(parts:uv)(cs:ue)(cells:Array Value)(en:ue),kB ι cs cells.toList->Gs P T σ parts cs=some en->
  ∃r,Instr.fill fx cells (parts.map λp=>(p.1,a.eval p.2))=some r/\kB ι en r.toList
 |[],cs,cells,en,g,h=>by
  simp[Gs]at h;subst h;exact⟨cells,rfl,g⟩
 |(i,x)::parts,cs,cells,en,g,h=>by
  simp only[Gs]at h;split at h
  .rename_i off c new s d;split at h
   .rename_i q e;have q:=sw q;have e:=Nat.le_of_ble_eq_true e;have f:=Ei j.one (j.ev x) d;have l:(a.eval x).cells.size=c:=by have:=f.length;grind
    have m:=g.length;simp at m;have:=C8 j fx b parts (aq cs off new) (aq cells.toList off (a.eval x).cells.toList).toArray en (mp (g.aq off f)) h;obtain⟨r,t,n⟩:=this;refine⟨r,?_,n⟩;simp only[map_cons];rw[Ve (b i _ s) l aC];exact t
   .cases h
  .cases h
theorem El{P T z}(h:zeroCells P T=some z):∃i v,P.info? T=some i/\i.zero=some v/\z=v.cells.toList:=by
 grind[zeroCells]
theorem QG{P:Program}:∀(b:List Field),(b.all λf=>(P.info? f.type).isSome)=true->
 ∃c,b.mapM (λf=>(P.info? f.type).map λi=>(f.offset,i.size))=some c/\c.length=b.length/\∀(i:Nat)(g:Field),b[i]?=some g->c[i]?=some (g.offset,P.cellsOf g.type)
 |[],_=>⟨[],bu,rfl,λi g h=>by simp at h⟩
 |f::b,h=>by
  simp only[all_cons,su]at h;have⟨c,j,d,e⟩:=QG b h.2;cases l:P.info? f.type with
  |none=>grind
  |some i=>
   refine⟨(f.offset,i.size)::c,?_,by simp[d],?_⟩
   .simp_all
   grind[Program.cellsOf]
theorem azX(y:aL B ι σ a w){T ps}(H:o.op=.build T ps)(h:Ys C o T ps.toList σ K):YH C ι o σ K a w:=by
 unfold Ys at h;split at h
 .rename_i z I;split at h
  .rename_i cs e q;obtain⟨M,v,f,A,rfl⟩:=El I
   have key:∃r,C.P.built T ((ps.map λp=>(p.1,a.eval p.2)).toList)=some r/\kB ι cs r.toList:=by
    unfold SC at q;have j:kB ι (v.cells.toList.map .val) v.cells.toList:=kB.fk.2 rfl;split at q
    .rename_i J l;have⟨D,t,F,G⟩:=QG J.toList q
     have b:∀i r,partAt C.P T i=some r->D.toArray[i]?=some r:=by
      intro i r c;unfold partAt at c;simp only[l]at c;split at c
      .rename_i g L;rw[mK]at L
       grind
      .cases c
     have⟨r,c,d⟩:=C8 y (λi=>D.toArray[i]?) b ps.toList _ v.cells cs j e;refine⟨r,?_,d⟩;unfold Program.built;simp only[f,l,A,t];simpa using c
    .rename_i n E l;cases m:C.P.info? E with
     |none=>grind
     |some s=>
      have b:∀i r,partAt C.P T i=some r->(λi=>some (i*s.size,s.size)) i=some r:=by
       intro i r c;unfold partAt at c;simp only[l,Program.cellsOf,m]at c
       grind
      have⟨r,c,d⟩:=C8 y (λi=>some (i*s.size,s.size)) b ps.toList _ v.cells cs j e;refine⟨r,?_,d⟩;unfold Program.built;simp only[f,l,A,m];simpa using c
    .cases q
   obtain⟨r,c,d⟩:=key;refine⟨.agg r,.agg cs,λu _=>?_,⟨r,rfl,d⟩,h⟩;unfold execOp;simp only[H,Sem.run_bind,run_build u T _ r c,Result.andThen_ok,Sem.run_pure]
  grind
 grind
theorem bQQ(m:aL B ι σ a w){x c}(s:o.op=.call c)(u:c.callee=.builtin .len)(hx:c.args.toList=[x])(h:clZ C o x c.argTypes.toList σ K):YH C ι o σ K a w:=by
 unfold clZ at h;split at h
 .rename_i k y;split at h
  .rename_i E I z i d
   have n:∃t E,c.argTypes[0]?=some t/\C.P.underlying t=some (.slice E):=by
    unfold ZX at d;split at d
    .rename_i t r l;split at d
     .rename_i E A;exact⟨t,E,by rw[<-td,l];rfl,A⟩
     .cases d
    .cases d
   obtain⟨t,E',l,v⟩:=n;have e:=m.ev x;rw[y]at e;have e:a.eval x=ι k:=e;have⟨p,j⟩:=wW m i;have f:c.args=#[x]:=da
   refine⟨.int .i64 z.length,.at (.val _),λD _=>?_,rfl,h⟩;rcases j.2 with⟨q,F⟩|⟨g,G,H,q,_⟩
   .unfold execOp;simp[s,resolve,u,invoke,builtin,Builtin.len_,f,l,e,q,run_underlying v,goInt,F]
   .unfold execOp;simp[s,resolve,u,invoke,builtin,Builtin.len_,f,l,e,q,run_underlying v,goInt]
  grind
 .exact pF m (λcs b=>da) h
theorem Zs{P T cs off}(g:kL P T=true)(b:off+P.cellsOf T<=cs.size) w:
 (part T cs off).run P w=.ok (mkV P T ((cs.toList.drop off).take (P.cellsOf T))) w:=by
 have⟨i,d,h,j,l,f⟩:=iL g;unfold part mkV;rw[Sem.run_bind,US j];simp only[Result.andThen_ok];rw[l]at b⊢
 cases EC P T with
 |true=>
  simp only[if_true,Sem.run_bind,db h,Result.andThen_ok,Sem.run_pure];congr 2
  grind
 |false=>
  have c:off<cs.size:=by omega
  have e:(cs.toList.drop off)=cs[off]::cs.toList.drop (off+1):=by
   rw[<-getElem_cons_drop aC];simp
  simp only[Bool.false_eq_true,if_false,Array.getElem?_eq_getElem c];rw[e];cases m:i.size with
  |zero=>omega
  |succ n=>simp
theorem aaQ(p:aL B ι σ a w){T f x}(y:o.op=.field T x f)(h:Yc C o T x f σ K):YH C ι o σ K a w:=by
 unfold Yc at h;split at h
 .rename_i g T' cs z q c;split at h
  .rename_i i;simp only[su]at i;have u:=Nat.le_of_ble_eq_true i.1;have j:=Ei p.one (p.ev x) q;obtain⟨E,Uo,A,r,rfl,rfl,F⟩:=N7 z
   have D:∃d,a.eval x=.agg d:=by
    have b:=p.ev x;split at c
    .rename_i l s;rw[s]at b;obtain⟨d,e,_⟩:=b;grind
    .rename_i d s;rw[s]at b;exact⟨d,b⟩
    .cases c
   obtain⟨d,m⟩:=D;rw[m]at j;have j:kB ι cs d.toList:=j;have v:cs.length=d.size:=by have:=j.length;omega
   have n:Uo.offset+C.P.cellsOf Uo.type<=d.size:=by omega
   refine⟨_,_,λt _=>?_,LD ((j.drop Uo.offset).take (C.P.cellsOf Uo.type)),h⟩;unfold execOp;simp only[y,Instr.field,Sem.run_bind,run_underlying A,Result.andThen_ok,r,m,asAgg,Sem.run_pure,Zs i.2 n t]
  grind
 grind
theorem Oe:∀{xs:List (Sum At ue)}{vs:tm}(_:Uk ι xs vs)(i:Nat)(y:Sum At ue),xs[i]?=some y->∃v,vs[i]?=some v/\fw ι (match y with|.inl x=>.at x|.inr cs=>.agg cs) v
 |[],[],_,i,y,b=>by simp at b
 |.inl x::_,v::_,h,0,y,b=>by simp at b;subst b;exact⟨v,rfl,h.1⟩
 |.inr cs::_,v::_,h,0,y,b=>by simp at b;subst b;exact⟨v,rfl,h.1⟩
 |.inl _::_,_::_,h,i+1,y,b=>by simp at b⊢;exact Oe h.2 i y b
 |.inr _::_,_::_,h,i+1,y,b=>by simp at b⊢;exact Oe h.2 i y b
 |[],_::_,h,_,_,_=>h.elim
 |.inl _::_,[],h,_,_,_=>h.elim
 |.inr _::_,[],h,_,_,_=>h.elim
theorem Uz(m:aL B ι σ a w){x i}(p:o.op=.extract x i)(h:PZ C o x i σ K):YH C ι o σ K a w:=by
 have g:=m.ev x;unfold PZ at h;split at h
 .rename_i s q;rw[q]at g;obtain⟨r,l,n⟩:=g
  have d:∀v,r.toList[i]?=some v->∀c,(Dg C.P o=false\/c=w)->(execOp a.eval o).run C.P c=.ok (.value v) c:=by
   intro v f c _;unfold execOp;rw[td]at f;simp[p,l,Instr.extract,f]
  split at h
  .rename_i y j;rw[mK]at j;have⟨v,f,e⟩:=Oe n i _ j;exact⟨v,.at y,d v f,e,h⟩
  .rename_i cs j;rw[mK]at j;have⟨v,f,e⟩:=Oe n i _ j;exact⟨v,.agg cs,d v f,e,h⟩
  grind
 .exact pF m (λcs b=>da) h
theorem QO{P:Program}{E:TypeId}{cs:ue}{n:Int}{Q:SV->Prop}:∀(f i:Nat),X7 P E cs n Q f i->(i:Int)<=n->n<((i+f:Nat):Int)->
 Q (mk P E ((cs.drop (n.toNat*P.cellsOf E)).take (P.cellsOf E)))
 |0,i,_,c,d=>by omega
 |f+1,i,h,c,d=>by
  simp only[X7]at h;rcases xW h with⟨e,b⟩|⟨e,b⟩
  .grind
  .have:n≠(i:Int):=da
   exact QO f (i+1) b aC aC
theorem ZZ(p:aL B ι σ a w){T x i}(J:o.op=.index T x i)(h:X5 C o T x i σ K):YH C ι o σ K a w:=by
 have c:=p.ev i;unfold X5 at h;split at h
 .rename_i u n len E v y;rw[v]at c;have c:a.eval i=.int u n:=c;split at h
  .rename_i cs z;split at h
   .rename_i g L j;have g:=sw g;obtain⟨A,Q,h⟩:=h;have q:=Ei p.one (p.ev x) z
    have R:∃m,a.eval x=.agg m:=by
     have f:=p.ev x;split at j
     .rename_i l D;rw[D]at f;obtain⟨m,e,_⟩:=f;grind
     .rename_i m D;rw[D]at f;exact⟨m,f⟩
     .cases j
    obtain⟨m,r⟩:=R;rw[r]at q;have q:kB ι cs m.toList:=q;have F:cs.length=m.size:=by have:=q.length;omega
    have⟨W,d,G,S,M,N⟩:=iL L;have U:=QO len 0 h aC aC;refine⟨_,_,λt _=>?_,LD ((q.drop (n.toNat*C.P.cellsOf E)).take (C.P.cellsOf E)),U⟩
    have H:n.toNat*C.P.cellsOf E+C.P.cellsOf E<=m.size:=by
     rw[<-F,g,<-Nat.succ_mul];exact Nat.mul_le_mul_right _ aC
    have O:=Zs L H t;unfold execOp;rw[M]at O;simp only[J,Instr.index,c,asIntOf,Sem.run_bind,Sem.run_pure,run_underlying y,Result.andThen_ok,r,A,Q,and_self,if_true,db G,O,M]
   grind
  grind
 .rename_i u n v y;rw[v]at c;have c:a.eval i=.int u n:=c;split at h
  .rename_i s V;have f:=p.ev x;rw[V]at f;have f:a.eval x=.string s:=f;obtain⟨A,b,X,h⟩:=h;refine⟨_,.at (.val _),λt _=>?_,rfl,h⟩
   have I:s[n.toNat]?=some b:=by
    have:s[n.toNat]?=s.data[n.toNat]? :=by
     simp only[getElem?_def];rfl
    grind
   unfold execOp;simp[J,Instr.index,c,asIntOf,run_underlying y,f,A,I]
  grind
 grind
end
end Go.Vc
namespace Go.Vc
open Go List
section
variable{B:vU}{C:bk}{ι:tv}{σ:St}{a:Act}{w:World}{o:Oper}{K:St->Prop}
theorem H4{P h ko f E E' sz x v c}(s:o.op=.convert ko f x)(t:P.underlying ko=some (.slice E))(l:P.underlying E=some (.int .u8))(u:P.underlying f=some .string)(m:a.eval x=v)(d:h.ownsRow 0 E' sz v (dE c).length (dE c).flatten):(execOp a.eval o).run P h=.ok (.value (.string ⟨c.toArray⟩)) h:=by
 have j:(dE c).length=c.length:=by simp[dE]
 rcases d.2 with⟨n,q⟩|⟨g,y,z,n,_⟩
 .rw[j]at q;have:c=[]:=eq_nil_of_length_eq_zero q;subst this;unfold execOp;simp only[s,m,n,Sem.run_bind,run_convert_bytes_nil h ko E t l 0 0 f u,Result.andThen_ok,Sem.run_pure];rfl
 .have r:strOfNums (c.map λb=>(b.toNat:Int))=⟨c.toArray⟩:=by
   simp_all[strOfNums,Function.comp_def]
  have p:∀i,i<c.length->h.cell? ⟨g,0+i,none⟩=some (.int .u8 ((c.map λb=>(b.toNat:Int)).getD i 0)):=by
   intro i A
   have D:(dE c).flatten[i*1+0]?=some (.int .u8 (c[i].toNat:Int)):=
    oR (sz:=1) (e:=[.int .u8 (c[i].toNat:Int)]) (λe l=>by obtain⟨b,_,rfl⟩:=mem_map.1 l;rfl) (by simp[dE,A]) 0 _ rfl
   have:=d.cells (g:=g) (by rw[n];rfl) _ _ D
   grind[Addr.ei]
  grind[execOp,run_convert_bytes_arg,Sem.run_bind,Result.andThen_ok,Sem.run_pure]
theorem UA(i:aL B ι σ a w){ko e x}(m:o.op=.convert ko e x)(h:P3 C o ko e x σ K):YH C ι o σ K a w:=by
 unfold P3 at h;split at h
 .rename_i k p;split at h
  .rename_i E' s t E f n q;split at h
   .rename_i r;obtain⟨u,rfl,h⟩:=h;have d:=i.ev x;rw[p]at d;have d:a.eval x=ι k:=d;have⟨j,g⟩:=wW i f;refine⟨_,.at (.val _),λl c=>?_,rfl,h⟩;have c:l=w:=c.resolve_left (by simp[Dg,m,n]);rw[c];exact H4 m n r q d g
   grind
  grind
 .exact pF i (λcs b=>da) h
structure LS(σ:St)(ι:tv)(o:Oper)(w w':World):Prop where
 cells:∀k p T cs b,cr σ.own k=some (some (.de p T cs))->B9 σ o k=false->ι k=.pointer (some ⟨b,0,none⟩)->w'.heap[b]?=w.heap[b]?
 ay:∀b off v,σ.h b off=some v->w'.cell? ⟨b,off,none⟩=some v
 ext:CQ o.op=true->∀b,b<w.heap.size->w'.heap[b]?=w.heap[b]?
 args:∀l b,vZ o=some l->b<w.heap.size->σ.m b=none->(∀x∈l,∀k,(σ.ev x=.at (.au k)\/∃off,σ.ev x=.at (.ptr k off))->cj (ι k)≠some b)->w'.heap[b]?=w.heap[b]?
def YB(B:vU)(C:bk)(ι:tv)(o:Oper)(σ:St)(K:St->Prop)(a:Act)(w:World):=
 ∀next Q,(∀e c d b,aL B e c d b->K c->LS σ ι o w b->next d b)->o.wp C.P a w next Q
theorem FL(f:aL B ι σ a w){w'} j(z:(∃p T cs,cr σ.own j=some (some (.de p T cs)))->B9 σ o j=true)(n:∀b,b<w.heap.size->¬((∃g,cr σ.own j=some (some g))/\cj (ι j)=some b)->w'.heap[b]?=w.heap[b]?)(s:CQ o.op=true->∀b,b<w.heap.size->w'.heap[b]?=w.heap[b]?)(t:∀l,vZ o=some l->∀b,b<w.heap.size->w'.heap[b]?=w.heap[b]?):LS σ ι o w w':=by
 refine⟨?_,?_,s,λl b h q _ _=>t l h b q⟩
 .intro k p T cs b r A u;have i:=f.own k _ r;have e:cj (ι k)=some b:=by rw[u];rfl
  refine n b (uM i e) ?_;rintro⟨⟨g,c⟩,d⟩;have:=f.eh k j _ _ b r c e d
  grind
 .intro b off v y;have h:=f.g.F b off v y;have m:b<w.heap.size:=World.block_lt_of_cell? w ⟨b,off,none⟩ h
  have q:=n b m (by
   rintro⟨⟨g,c⟩,d⟩;have:=(f.f j g b c d).2.2 off
   grind)
  grind[World.cell?_of_block]
theorem CK{d}(b:o.dst=some d):B9 σ o d=true:=by
 simp_all[B9]
theorem nA(w:World) ob:(w.alloc ob).heap[w.heap.size]?=some ob:=by
 show(w.heap.push ob)[w.heap.size]?=_;simp
theorem iF(w:World) ob{b}(h:b<w.heap.size):(w.alloc ob).heap[b]?=w.heap[b]? :=by
 show(w.heap.push ob)[b]?=_
 grind
theorem aFJ S w ob:Gz S w (w.alloc ob):=
 ⟨rfl,rfl,rfl,Nat.le_refl _,bz,λb c _=>iF w ob c⟩
theorem Jm(h:aL B ι σ a w){d}(i:o.dst=some d){ob g v x}(q:cj v=some w.heap.size)(f:v.oneCell'=true)(m:GC (dv ι d v) (w.alloc ob) v g)(hx:fw (dv ι d v) x v){next:Act->World->Prop}(c:∀n j l w',aL B n j l w'->K j->LS σ ι o w w'->next l w')(p:K (((σ.fo d).bl d (some g)).put (some d) x)):next (a.put o.dst v) (w.alloc ob):=by
 rw[i];refine c (dv ι d v) _ _ _ ?_ p ?_
 .refine aL.put ?_ (some d) hx;exact h.fx d g v (aFJ _ w ob) m f (λb e=>da)
 .exact FL h d (λ_=>CK i) (λb e _=>iF w ob e) (λ_ b e=>iF w ob e) (λ_ _ b e=>iF w ob e)
theorem azJ(g:aL B ι σ a w){T}(i:o.op=.alloc T)(h:Yv C o T σ K):YB B C ι o σ K a w:=by
 intro next Q b
 unfold Yv at h;split at h
 .rename_i d z j l;obtain⟨n,v,f,m,rfl⟩:=El l
  have c:(execOp a.eval o).run C.P w=.ok (.value (.pointer (some ⟨w.heap.size,0,none⟩))) (w.alloc (.cells v.cells T)):=by
   unfold execOp;simp[i,Instr.alloc,zeroValue,typeInfo,f,m,newVar,newRow]
  unfold Oper.wp;rw[c,Oper.upon_value];refine Jm g j rfl rfl ?_ (x:=.at (.ptr d 0)) ⟨w.heap.size,bu,rfl⟩ b h;exact⟨w.heap.size,v.cells,rfl,nA _ _,kB.fk.2 rfl,λ_ e=>by cases e⟩
 grind
theorem Xc(g:aL B ι σ a w){T x}(j:o.op=.box T x)(h:bzX o T x σ K):YB B C ι o σ K a w:=by
 intro next Q b
 unfold bzX at h;split at h
 .rename_i d cs l i
  have c:(execOp a.eval o).run C.P w=.ok (.value (.pointer (some ⟨w.heap.size,0,none⟩))) (w.alloc (.cells (a.eval x).cells T)):=by
   unfold execOp;simp[j,Instr.box,newVar,newRow]
  unfold Oper.wp;rw[c,Oper.upon_value];refine Jm g l rfl rfl ?_ (x:=.at (.ptr d 0)) ⟨w.heap.size,bu,rfl⟩ b h;exact⟨w.heap.size,_,rfl,nA _ _,kB.sub (f:=λ_=>.di) (λ_ _ _ _=>trivial) (Ei g.one (g.ev x) i),λ_ e=>by cases e⟩
 grind
end
end Go.Vc
namespace Go.Vc
open Go List
section
variable{B:vU}{ι:tv}{σ:St}{a:Act}{w:World}{o:Oper}{K:St->Prop}
theorem c9Z(z:aL B ι σ a w){k E sz xs}(M:cr σ.own k=some (some (.au E sz xs))):
 ∃s f,PH.le σ.h f/\bT f s sz xs/\ι k=s.val/\
  aL B ι {(σ.sub k (λ|.au _=>.val s.val|_=>.di)).bl k none with h:=f} a w/\
  Fz σ {(σ.sub k (λ|.au _=>.val s.val|_=>.di)).bl k none with h:=f}:=by
 have⟨q,l⟩:=wW z M;have F:∀p T cs,cr σ.own k≠some (some (.de p T cs)):=λp T cs e=>da
 have n:∀(s:Sl),ι k=s.val->aL B ι ((σ.sub k (λ|.au _=>.val s.val|_=>.di)).bl k none) a w:=by
  intro s L
  have:=z.drop k (ι k) (z.one k) (λ|.au _=>.val s.val|_=>.di) (by
   intro x v G N;cases x<;>simp only[At.key,ss,reduceCtorEq]at G
   case ptr=>trivial
   case el=>trivial
   case au j=>
    subst G;have N:v=ι j:=N;show v=s.val;rw[N,L])
  grind[LZ]
 rcases l.2 with⟨r,R⟩|⟨g,t,S,r,_,hg,H,U,V,O⟩
 .have G:xs=[]:=eq_nil_of_length_eq_zero R;refine⟨⟨none,0,0⟩,σ.h,⟨λ_ _ _ h=>h⟩,⟨by simp[G],.inl G,Nat.le_refl _⟩,r,n _ r,?_⟩;exact cnJ (m:=σ.m) (h:=σ.h) rfl (λx j o=>da) (λx j=>da) F (λ_ _ _ h=>h)
 .have W:=z.f k _ g M (by rw[r];rfl)
  let f:PH:=λb o=>if b=g then xs.flatten[o]? else σ.h b o
  have u:∀b o v,σ.h b o=some v->f b o=some v:=by
   grind
  have L:ι k=Sl.val ⟨some ⟨g,0,none⟩,xs.length,t⟩:=r;refine⟨⟨some ⟨g,0,none⟩,xs.length,t⟩,f,⟨u⟩,⟨rfl,.inr ⟨g,0,rfl,?_⟩,H⟩,L,?_,?_⟩
  .intro i e X;constructor;intro j v A;show(if g=g then _ else _)=_;rw[if_pos rfl,Nat.zero_add];exact oR q.len X j v A
  .have c:=n _ L
   have y:∀j I,cr ((σ.sub k (λ|.au _=>.val (Sl.val ⟨some ⟨g,0,none⟩,xs.length,t⟩)|_=>.di)).bl k none).own j=some (some I)->cj (ι j)≠some g:=by
    intro j I A J;have⟨P,o1,Q,_⟩:=uS A;exact P (z.eh j k _ _ g Q M J (by rw[r];rfl))
   refine⟨c.dq,c.defers,c.own,c.eh,?_,?_,c.one⟩
   .intro j I b A J;have⟨Y,Z,h3⟩:=c.f j I b A J;refine⟨Y,Z,λi=>?_⟩;show(if b=g then _ else _)=_;rw[if_neg (λe:b=g=>y j I A da)];exact h3 i
   .have d:=z.g;refine⟨d.tape,d.os,d.output,d.drawn,d.size,d.frame,?_,d.t,?_,λb o v h=>u b o v (d.iz b o v h),?_,d.gc⟩
    .intro b off v D;have D:(if b=g then xs.flatten[off]? else σ.h b off)=some v:=D;by_cases e:b=g
     .subst e;rw[if_pos rfl]at D;have:=l.cells (g:=b) (by rw[r];rfl) off v D;simp_all[Addr.ei,Nat.zero_add]
     .rw[if_neg e]at D;exact d.F b off v D
    .intro b ob hm i;show(if b=g then _ else _)=_;rw[if_neg (λe=>by grind[St.bl,St.sub])];exact d.z b ob hm i
    .intro b J hE;funext i;show(if b=g then _ else _)=_;rw[if_neg (λe=>da)];exact congrFun (d.hold b J hE) i
  .exact cnJ (m:=σ.m) (h:=f) rfl (λx j o=>da) (λx j=>da) F u
theorem sU:∀(ks:tw)(σ:St),aL B ι σ a w->zY σ K ks->∃b,aL B ι b a w/\K b/\Fz σ b
 |[],σ,e,h=>⟨σ,e,h,Fz.refl σ⟩
 |k::ks,σ,e,h=>by
  simp only[zY]at h;split at h
  .rename_i E p q l;have⟨s,m,f,c,_,g,i⟩:=c9Z e l;have⟨b,j,n,d⟩:=sU ks _ g (h s m f c);exact⟨b,j,n,i.trans d⟩
  grind
theorem FR{P T E z}(h:ii P T=some (E,z)):
 ∃i v,P.underlying T=some (.slice E)/\P.info? E=some i/\i.zero=some v/\z=v.cells.toList/\v.cells.size=i.size/\P.cellsOf E=i.size/\0<i.size/\∀u∈z,u.oneCell'=true:=by
 unfold ii at h;split at h
 .rename_i E' c;split at h
  .rename_i d b;split at h
   .rename_i e f g;simp only[ss,Prod.mk.injEq]at h;obtain⟨rfl,rfl⟩:=h;obtain⟨i,v,j,l,rfl⟩:=El b
    grind[Program.cellsOf,sw]
   .cases h
  .cases h
 .cases h
theorem dY{sz:Nat}:∀{xs:List tm},(∀e∈xs,e.length=sz)->xs.flatten.length=xs.length*sz
 |[],_=>bu
 |x::xs,h=>by
  rw[flatten_cons,sj,dY (λe b=>h e (by simp[b])),h x bu,te,Nat.succ_mul];omega
theorem H7(s:aL B ι σ a w){sz:Nat}(t:0<sz):∀(parts:uv)(es:List tm)(en:List tm),dA sz es->Gr σ sz parts es=some en->
 dA sz en/\en.length=es.length/\Instr.fill (λi=>some (i*sz,sz)) es.flatten.toArray (parts.map λp=>(p.1,a.eval p.2))=some en.flatten.toArray
 |[],es,en,j,h=>by simp[Gr]at h;subst h;exact⟨j,rfl,rfl⟩
 |(i,x)::parts,es,en,j,h=>by
  simp only[Gr]at h;split at h
  .rename_i cs v;split at h
   .rename_i l z;split at h
    .rename_i b f A;have b:=sw b;have f:=Nat.le_of_ble_eq_true f;have q:=Ei s.one (s.ev x) v;rw[Gf z,kB.fk]at q
     have E:∀u∈l,u.oneCell'=true:=by
      intro u L;have F:=Gf z;clear q z
      have:∀(cs:ue),xX cs=true->∀x∈cs,x.gy=true:=by
       intro cs
       induction cs with
       |nil=>grind
       |cons y r G=>
        intro H x M;simp only[xX]at H
        grind
      have d:=this cs A (.val u) da;cases u<;>first|rfl|(simp[At.gy]at d)
     have D:dA sz (es.set i l):=by
      constructor
      .intro e m;rcases mem_or_eq_of_mem_set m with d|d
       .exact j.len e d
       grind
      .intro e m;rcases mem_or_eq_of_mem_set m with d|d
       .exact j.one e d
       grind
     have⟨d,N,I⟩:=H7 s t parts (es.set i l) en D h;refine⟨d,da,?_⟩;simp only[map_cons]
     have g:∀(es:List tm)(i:Nat),(∀e∈es,e.length=sz)->i<es.length->aq es.flatten (i*sz) l=(es.set i l).flatten:=by
      intro es
      induction es with
      |nil=>grind
      |cons e r G=>
       intro i c O;have m:e.length=sz:=c e bu;cases i with
       |zero=>
        simp only[aq,Nat.zero_mul,take_zero,nil_append,Nat.zero_add,flatten_cons,set_cons_zero,b]
        grind
       |succ i=>
        have:=G i (λe m=>c e (by simp[m])) da;simp only[flatten_cons,set_cons_succ,<-this,aq];have J:(i+1)*sz=e.length+i*sz:=da
        rw[J,take_length_add_append,show e.length+i*sz+l.length=e.length+(i*sz+l.length)by omega,drop_length_add_append];simp
     have n:=dY j.len;rw[Ve rfl da (by rw[<-Array.length_toList,q];simp only[size_toArray,n,b];rw[<-Nat.succ_mul];exact Nat.mul_le_mul_right _ f),q];rw[g es i j.len aC];exact I
    .cases h
   .cases h
  .cases h
end
end Go.Vc
namespace Go.Vc
open Go List
section
variable{B:vU}{C:bk}{ι:tv}{σ:St}{a:Act}{w:World}{o:Oper}{K:St->Prop}
theorem NS{z sz}(b:z.size=sz)(c:0<sz) n:(madeCells z (n*sz)).toList=(replicate n z.toList).flatten:=by
 apply ext_getElem?;intro j;by_cases g:j<n*sz
 .have d:j/sz<n:=Nat.div_lt_of_lt_mul da;have f:j%sz<sz:=Nat.mod_lt _ c;have h:=oR (xs:=replicate n z.toList) (sz:=sz) (i:=j/sz) (e:=z.toList) (λe l=>da) (by simp[d]) (j%sz) z[j%sz] (by simp[b,f])
  grind[madeCells,Nat.mul_comm,Nat.div_add_mod]
 simp_all[madeCells]
theorem tX{z sz}(c:z.length=sz)(d:∀u∈z,u.oneCell'=true) n:dA sz (replicate n z):=
 ⟨λe b=>da,λe b=>da⟩
theorem Se{τ}(d:Fz σ τ){k}(h:B9 σ o k=false):B9 τ o k=false:=by
 have i:∀(l:uf)(j:Nat),j∈uZ τ l->j∈uZ σ l:=by
  intro l
  induction l with
  |nil=>intro j b;cases b
  |cons x r m=>
   intro j b
   have e:∀(υ:St)(j:Nat),j∈uZ υ (x::r)↔(∃off,υ.ev x=.at (.ptr j off))\/j∈uZ υ r:=by
    grind[uZ]
   rw[e]at b⊢
   rcases b with⟨off,b⟩|b
   .exact .inl ⟨off,d.ptr _ _ _ b⟩
   grind
 unfold B9 at h⊢
 rw[Bool.or_eq_false_iff]at h⊢
 refine⟨h.1,?_⟩;have c:=h.2;split at c
 .rename_i t x v f;split
  .rename_i j off g;rw[d.ptr _ _ _ g]at c;exact c
  .rfl
 .grind
 .rfl
theorem LS.np{τ w'}(c:Fz σ τ)(h:LS τ ι o w w'):LS σ ι o w w':=
 ⟨λk p T cs b d f g=>let⟨cs',hk'⟩:=c.cells k p T cs d;h.cells k p T cs' b hk' (Se c f) g,λb off v i=>h.ay b off v (c.ay b off v i),h.ext,λl b j m n q=>h.args l b j m (by rw[c.m_];exact n) (λx r k d=>q x r k (d.imp (c.au x k) (λ⟨off,e⟩=>⟨off,c.ptr x k off e⟩)))⟩
theorem bPQ(ps:Array (Nat×Operand))(a:Act):(ps.map fun(i,x)=>(i,a.eval x)).toList=ps.toList.map λp=>(p.1,a.eval p.2):=bu
theorem P9(G:aL B ι σ a w){T n ps}(H:o.op=.buildSlice T n ps)(h:HX C o T n ps.toList σ K):YB B C ι o σ K a w:=by
 intro next Q f
 unfold HX at h;have⟨τ,l,h,t⟩:=sU _ _ G h;split at h
 .rename_i d E z I J;split at h
  .rename_i j m g;obtain⟨r,v,A,D,L,rfl,u,M,e,p⟩:=FR J;rw[M]at m g h;have g:=Nat.le_of_ble_eq_true g;have⟨s,c,b⟩:=H7 l e ps.toList _ j (tX aC p n) m;simp only[length_replicate]at c
   have q:(execOp a.eval o).run C.P w=.ok (.value (.slice (some ⟨w.heap.size,0,none⟩) n n)) (w.alloc (.cells j.flatten.toArray E)):=by
    have N:(Instr.buildSlice T n (ps.map fun(i,x)=>(i,a.eval x))).run C.P w=.ok (.slice (some ⟨w.heap.size,0,none⟩) n n) (w.alloc (.cells j.flatten.toArray E)):=by
     by_cases F:n*r.size=0
     .have O:n=0:=by rcases Nat.mul_eq_zero.1 F with h|h<;>omega
      subst O;have:j=[]:=eq_nil_of_length_eq_zero c;subst this;simp only[replicate_zero,flatten_nil]at b;have y:Array.map (λ_:Nat=>(default:Value)) (Array.range 0)=#[]:=da
      simp[Instr.buildSlice,run_underlying A,db D,newRow];rw[y,b];simp
     .refine run_buildSlice w T E n _ j.flatten.toArray r v A D L aC F ?_
      have:((Array.range (n*r.size)).map (v.cells[· %v.cells.size]!))=(replicate n v.cells.toList).flatten.toArray:=by
       apply Array.toList_inj.1;have:=NS u e n;unfold madeCells at this;rw[this]
      rw[this,bPQ];exact b
    unfold execOp;simp only[H,Sem.run_bind,N,Result.andThen_ok,Sem.run_pure]
   unfold Oper.wp;rw[q,Oper.upon_value];refine Jm l I rfl rfl ?_ (x:=.at (.au d)) (by show _=_;simp) (λR S U V W X Y=>f R S U V W X (Y.np t)) h;refine⟨s,dY s.len,.inr ⟨w.heap.size,n,j.flatten.toArray,by rw[c],Nat.zero_le _,nA _ _,aC,?_,?_,?_⟩⟩
   .have:n<=n*r.size:=Nat.le_mul_of_pos_right n e;unfold maxLen;omega
   .simp only[size_toArray,dY s.len,c]
   .rw[sm];rw[dY s.len];omega
  grind
 grind
theorem Rh(s:aL B ι σ a w){T l c}(J:o.op=.makeSlice T l c)(h:IC C o T l c σ K):YB B C ι o σ K a w:=by
 intro next Q f
 have p:=s.ev l;have q:=s.ev c;unfold IC at h;split at h
 .rename_i d E z F n G m L M t u;rw[t]at p;rw[u]at q;have p:a.eval l=.int F n:=p;have q:a.eval c=.int G m:=q;obtain⟨r,v,N,H,O,rfl,y,A,i,b⟩:=FR M;obtain⟨R,S,I,U,h⟩:=h;rw[A]at h;have D:C.P.bytesOf E=r.bytes:=by simp[Program.bytesOf,H]
  rw[D,Int.mul_comm]at I
  have j:(execOp a.eval o).run C.P w=.ok (.value (.slice (some ⟨w.heap.size,0,none⟩) n.toNat m.toNat)) (w.alloc (.cells (madeCells v.cells (m.toNat*r.size)) E)):=by
   unfold execOp;simp only[J,p,q,Sem.run_bind,run_make (P:=C.P) w T E r v N H O F G n m R S I aC,Result.andThen_ok,Sem.run_pure]
  unfold Oper.wp;rw[j,Oper.upon_value];refine Jm s L rfl rfl ?_ (x:=.at (.au d)) (by show _=_;simp) f h;have g:v.cells.toList.length=r.size:=by omega
  refine⟨tX g b _,dY (tX g b _).len,.inr ⟨w.heap.size,m.toNat,_,da,Nat.zero_le _,nA _ _,?_,?_,size_madeCells _ _,?_⟩⟩
  .simp;omega
  .unfold maxLen;omega
  .rw[NS y i]
   have e:replicate m.toNat v.cells.toList=replicate n.toNat v.cells.toList++replicate (m.toNat-n.toNat) v.cells.toList:=by
    rw[replicate_append_replicate];grind
   rw[e,flatten_append,take_left'];rw[dY (tX g b _).len]
 grind
theorem AZ{P:Program}(w:World)(t tx L e:TypeId) i z(M:P.underlying t=some (.slice e))(N:P.info? e=some i)(Y:i.zero=some z)(R:z.cells.size=i.size) v n xs(l:w.ownsRow 0 e i.size v n xs) x m d(D:Src P i.size tx x m d w)(T:n+m<=maxLen)(p:(n+m)*i.bytes<=140737488355328):
 ∃G w',(Builtin.append_ #[t,tx] L #[v,x]).run P w=.ok G w'/\w'.ownsRow 0 e i.size G (n+m) (xs++d)/\Gz (λb=>v.ownBlock=some b) w w'/\
  (∀b,G.ownBlock=some b->w.heap.size<=b\/v.ownBlock=some b)/\G.oneCell'=true/\
  ((∃a k c k' c',v=.slice a k c/\G=.slice a k' c')\/∀k,k<w.heap.size->w'.heap[k]?=w.heap[k]?):=by
 have O:n+m<=9223372036854775807:=by grind[maxLen]
 have Z:=D.newsLen;have r:(xs++d).length=(n+m)*i.size:=by rw[sj,l.1,Z,Nat.add_mul]
 have dr:∀(h:Nat),h<n+m->∀(S:Nat->Prop),
  (w.drew.alloc (.cells ((xs++d).toArray++Builtin.zeroCells z.cells (grownCap w (n+m) h e-(n+m))) e)).ownsRow 0 e i.size
   (.slice (some ⟨w.heap.size,0,none⟩) (n+m) (grownCap w (n+m) h e)) (n+m) (xs++d)/\
  Gz S w (w.drew.alloc (.cells ((xs++d).toArray++Builtin.zeroCells z.cells (grownCap w (n+m) h e-(n+m))) e)):=by
  intro h ho S;have U:=grownCap_ge w (n+m) h e;have E:grownCap w (n+m) h e<=maxLen:=grownCap_le_maxLen w (n+m) h e T;refine⟨⟨r,.inr ⟨w.heap.size,_,_,rfl,Nat.zero_le _,heap_alloc_new w.drew _,U,E,?_,?_⟩⟩,⟨rfl,rfl,rfl,Nat.le_succ _,bu,λk q _=>heap_alloc_old w.drew _ k q⟩⟩
  .simp only[Array.size_append,size_toArray,size_zeroCells,R,r,<-Nat.add_mul]
   grind
  grind
 rcases l.2 with⟨rfl,rfl⟩|⟨g,f,s,rfl,V,hg,a0,E,W,X⟩
 .have hx:xs=[]:=eq_nil_of_length_eq_zero da;subst hx;by_cases hm:m=0
  .subst hm;have hn:d=[]:=eq_nil_of_length_eq_zero aC;subst hn;refine⟨.slice none 0 0,w,?_,World.ownsRow_nil w 0 e i.size,Gz.refl _ _,λb Q=>da,rfl,.inr λ_ _=>rfl⟩;rcases D.kind with⟨e',q⟩|q<;>simp[Builtin.append_,run_underlying M,run_underlying q,sizeOf,typeInfo,N,D.len,D.cells]
  .have H:=run_append_grow_src (P:=P) w t tx L e i z M N Y none 0 0 [] (by simp[Builtin.firstCells]) x m d D aC aC (growslice_fits aC p);have y:=dr 0 aC (λb=>Value.ownBlock (.slice none 0 0)=some b);exact⟨_,_,H,y.1,y.2,λb Q=>by grind[Value.ownBlock],rfl,.inr λk q=>heap_alloc_old w.drew _ k q⟩
 .by_cases A:n+m<=f
  .have a':n*i.size+d.length<=s.size:=by rw[Z,W,<-Nat.add_mul];simp_all[Nat.mul_le_mul_right]
   have I:=run_storeCells_at P g (n*i.size) e d 0 s w hg aC D.one;simp only[Nat.add_zero]at I
   have H:(Builtin.append_ #[t,tx] L #[.slice (some ⟨g,0,none⟩) n f,x]).run P w=.ok (.slice (some ⟨g,0,none⟩) (n+m) f) (w.setRow g (s.toList.take (n*i.size)++d++s.toList.drop (n*i.size+d.length)).toArray):=by
    rcases D.kind with⟨e',q⟩|q<;>simp[Builtin.append_,run_underlying M,run_underlying q,sizeOf,typeInfo,N,D.len,A,D.cells,Addr.add_lit,I]
   refine⟨_,_,H,⟨r,.inr ⟨g,f,_,rfl,V,setRow_heap w g s _ e _ hg,A,E,?_,?_⟩⟩,⟨rfl,rfl,rfl,Nat.le_refl _,bu,λk _ q=>setRow_other w g k _ (λe=>q (by simp[Value.ownBlock,e]))⟩,λb Q=>.inr Q,rfl,.inl ⟨_,_,_,_,_,rfl,rfl⟩⟩
   .grind
   grind
  .have F:∀j u,xs[j]?=some u->w.cell? ((⟨g,0,none⟩:Addr).add j)=some u:=l.cells (g:=g) rfl
   have J:(Builtin.firstCells i.size n (.slice (some ⟨g,0,none⟩) n f)).run P w.drew=.ok xs.toArray w.drew:=
    run_firstCells_some w.drew i.size n ⟨g,0,none⟩ n f xs l.1 (mp F)
   have H:=run_append_grow_src (P:=P) w t tx L e i z M N Y (some ⟨g,0,none⟩) n f xs J x m d D aC aC (growslice_fits aC p);have y:=dr f aC (λb=>Value.ownBlock (.slice (some ⟨g,0,none⟩) n f)=some b);exact⟨_,_,H,y.1,y.2,λb Q=>by grind[Value.ownBlock],rfl,.inr λk q=>heap_alloc_old w.drew _ k q⟩
end
end Go.Vc
namespace Go.Vc
open Go Go.Lib List
theorem Xs{z sz}(b:z.size=sz)(c:0<sz) n:(Builtin.zeroCells z n).toList=(replicate n z.toList).flatten:=by
 apply ext_getElem?;intro j;by_cases g:j<n*sz
 .have d:j/sz<n:=Nat.div_lt_of_lt_mul da;have f:j%sz<sz:=Nat.mod_lt _ c;have h:=oR (xs:=replicate n z.toList) (sz:=sz) (i:=j/sz) (e:=z.toList) (λe l=>da) (by simp[d]) (j%sz) z[j%sz] (by simp[b,f])
  grind[Builtin.zeroCells,Nat.mul_comm,Nat.div_add_mod]
 simp_all[Builtin.zeroCells]
theorem OT{P:Program}(w:World)(t d:TypeId) j e i z l m(r:P.underlying t=some (.slice e))(f:P.underlying d=some (.int m))(s:P.info? e=some i)(u:i.zero=some z)(g:z.cells.size=i.size)(v:0<i.size) k(n:0<k)(p:k*i.bytes<=140737488355328)(y:k<=140737488355328):
 ∃c w',(Builtin.append_ #[t,d] j #[.slice none 0 0,.int l k]).run P w=.ok c w'/\w'.ownsRow 0 e i.size c k (replicate k z.cells.toList).flatten/\Gz (λ_=>False) w w'/\
  (∀b,c.ownBlock=some b->w.heap.size<=b)/\c.oneCell'=true:=by
 have q:=run_append_grow_zeros w t d j e i z l m r f s u none 0 0 [] (run_firstCells_none w.drew i.size 0 0 0) k n v aC aC aC (by rw[Nat.zero_add,nextslicecap_zero n];omega);rw[Nat.zero_add]at q;have A:=grownCap_ge w k 0 e;have h:=grownCap_le_maxLen w k 0 e (by grind[maxLen]);refine⟨_,_,q,?_,?_,?_,rfl⟩
 .refine⟨dY (sz:=i.size) (λx D=>da) |>.trans bu,.inr ⟨w.heap.size,_,_,rfl,Nat.zero_le _,nA _ _,aC,h,?_,?_⟩⟩
  .simp[Builtin.zeroCells,g];rw[<-Nat.add_mul]
   grind
  simp_all[Array.toList_append,Xs]
 .exact⟨rfl,rfl,rfl,Nat.le_succ _,bz,λb p _=>iF w.drew _ p⟩
 grind[Value.ownBlock]
end Go.Vc
namespace Go.Vc
open Go List
section
variable{B:vU}{C:bk}{ι:tv}{σ:St}{a:Act}{w:World}{o:Oper}{K:St->Prop}
theorem IS{sz:Nat}:∀{xs:List tm}(_:∀e∈xs,e.length=sz) {j:Nat} {v:Value},xs.flatten[j]?=some v->∃(i:Nat)(e:tm)(q:Nat),xs[i]?=some e/\e[q]?=some v/\j=i*sz+q
 |[],_,j,v,h=>by simp at h
 |x::xs,b,j,v,h=>by
  have g:=b x bu;rw[flatten_cons]at h;by_cases c:j<x.length
  .rw[getElem?_append_left c]at h;exact⟨0,x,j,rfl,h,bu⟩
  .rw[getElem?_append_right aC]at h;have⟨i,e,q,l,d,m⟩:=IS (λe f=>b e (by simp[f])) h;exact⟨i+1,e,q,da,d,da⟩
theorem c4Q{P tx i E sz v b}(j:P.underlying tx=some (.slice i))(f:dA sz b)(h:w.ownsRow 0 E sz v b.length b.flatten):
 Src P sz tx v b.length b.flatten w:=by
 have l:∀u∈b.flatten,u.oneCell'=true:=λu m=>by
  have⟨e,n,c⟩:=mem_flatten.1 m;exact f.one e n u c
 rcases h.2 with⟨rfl,q⟩|⟨g,d,p,rfl,_⟩
 .grind[eq_nil_of_length_eq_zero,Src.ofNil]
 .exact Src.ofSlice w j ⟨g,0,none⟩ _ d _ (dY f.len) (h.cells (g:=g) rfl) l
theorem XE{P tx z sz h}(A:P.underlying tx=some (.slice z)){m n c l}(s:dA sz l)(d:bT h ⟨m,n,c⟩ sz l)(p:∀b o v,h b o=some v->w.cell? ⟨b,o,none⟩=some v):Src P sz tx (.slice m n c) l.length l.flatten w:=by
 have D:∀u∈l.flatten,u.oneCell'=true:=λu t=>by
  have⟨e,E,y⟩:=mem_flatten.1 t;exact s.one e E u y
 have r:n=l.length:=d.len;subst r;rcases d.row with rfl|⟨b,off,f,g⟩
 .refine⟨.inl ⟨z,A⟩,λ_=>rfl,?_,?_,bu,λu t=>by simp at t⟩
  .cases m<;>simp[Builtin.firstCells,loadCells,loadCellsFrom]
  .cases m<;>simp[Builtin.firstCells,loadCells,loadCellsFrom]
 .have f:m=some ⟨b,off,none⟩:=f;subst f;refine Src.ofSlice w A ⟨b,off,none⟩ _ c _ (dY s.len) ?_ D;intro j u F;obtain⟨i,e,q,G,H,rfl⟩:=IS s.len F;rw[Addr.ei];have:=p _ _ _ ((g i e G).rd q u H)
  grind
theorem LG s:(mV s).flatten=byteCells s:=by
 unfold mV byteCells
 induction s.data.toList with
 |nil=>rfl
 |cons b r c=>simp[c]
theorem Sm(p:aL B ι σ a w){sz tx y R dx}(h:Mc C.P dx σ sz tx (σ.ev y) R):
 ∃i,dA sz i/\Src C.P sz tx (a.eval y) i.length i.flatten w/\R i:=by
 have d:=p.ev y;unfold Mc at h;split at h
 .rename_i k F q l;rw[q]at d;have d:a.eval y=ι k:=d;split at h
  .rename_i E s i r;split at h
   .rename_i g;have g:=sw g;subst g;have⟨m,I⟩:=wW p r
    grind[c4Q]
   grind
  grind
 .rename_i D n c F q l;rw[q]at d;have d:a.eval y=.slice D n c:=d;obtain⟨i,m,f,h⟩:=h;refine⟨i,m,?_,h⟩;rw[d];cases dx with
  |false=>exact XE l m f p.g.F
  |true=>
   cases f with
   |ay f=>exact XE l m f p.g.F
   |dx b o cs E J g z G L=>
    have g:D=some ⟨b,o,none⟩:=g;have z:n=i.length:=z;subst g z
    have H:∀u∈i.flatten,u.oneCell'=true:=λu l=>by
     have⟨e,t,A⟩:=mem_flatten.1 l;exact m.one e t u A
    refine Src.ofSlice w l ⟨b,o,none⟩ _ c _ (dY m.len) ?_ H;intro j u M;rw[Addr.ei,dj (p.g.t b _ G)]
    grind
 .rename_i s q l;rw[q]at d;have d:a.eval y=.string s:=d;split at h
  .rename_i g;have g:=sw g;subst g;refine⟨mV s,⟨λe t=>by obtain⟨b,_,rfl⟩:=mem_map.1 t;rfl,λe t u v=>by obtain⟨b,_,rfl⟩:=mem_map.1 t;simp at v;subst v;rfl⟩,?_,h⟩;rw[d,LG];simp_all[mV,Src.ofString]
  grind
 grind
theorem Gz.mono{S S' w w'}(h:Gz S w w')(d:∀b,S b->S' b):Gz S' w w':=⟨h.tape,h.os,h.output,h.drawn,h.size,λb e f=>h.block b e (λc=>f (d b c))⟩
theorem GP{v b}(h:v.ownBlock=some b):cj v=some b:=by
 cases v<;>simp[Value.ownBlock]at h
 grind[cj]
theorem F0{sz xs c}(hx:dA sz xs)(d:dA sz c):dA sz (xs++c):=
 ⟨λe b=>(mem_append.1 b).elim (hx.len e) (d.len e),λe b=>(mem_append.1 b).elim (hx.one e) (d.one e)⟩
theorem Ca{E sz n v l}(h:w.ownsRow 0 E sz v n l){b}(c:cj v=some b):v.ownBlock=some b:=by
 rcases h.2 with⟨rfl,_⟩|⟨g,d,e,rfl,_⟩
 .simp[cj]at c
 grind[cj,Value.ownBlock]
theorem ZS(f:aL B ι σ a w){w' m' S}(n:Gz S w w')(D:∀b,S b->σ.m b≠none)(s:∀b o,m' b=some o->w'.heap[b]?=some o/\(σ.m b≠none\/w.heap.size<=b)):
 aL B ι {σ with m:=m'} a w'/\∀o,CQ o.op=false->LS σ ι o w w':=by
 have c:=f.g
 have z:∀b,w.heap.size<=b->∀i,σ.h b i=none:=by
  intro b d i;cases e:σ.h b i with
  |none=>rfl
  |some v=>have:=World.block_lt_of_cell? w ⟨b,i,none⟩ (c.F _ _ _ e);grind
 have E:∀b,S b->∀i,σ.h b i=none:=by
  intro b d i;cases e:σ.m b with
  |none=>grind
  |some x=>exact c.z b x e i
 have t:∀k q b,cr σ.own k=some (some q)->cj (ι k)=some b->¬S b:=by
  intro k q b g d u;exact D b u (f.f k q b g d).2.1
 have j:∀b i v,σ.h b i=some v->w'.cell? ⟨b,i,none⟩=some v:=by
  intro b i v F;have y:=c.F b i v F;rw[<-y];exact World.cell?_of_block (w:=w) (w':=w') (a:=⟨b,i,none⟩) (n.block b (World.block_lt_of_cell? w ⟨b,i,none⟩ y) (λu=>da))
 refine⟨⟨f.dq,f.defers,λk q g=>(f.own k q g).world (λb d=>n.block b (uM (f.own k q g) d) (t k q b g d)),f.eh,?_,?_,f.one⟩,λo L=>⟨?_,j,λh=>da,λl b _ r y _=>n.block b r (λu=>D b u y)⟩⟩
 .intro k q b g d;have⟨G,M,H⟩:=f.f k q b g d;refine⟨G,?_,H⟩;show m' b=none;cases e:m' b with
  |none=>rfl
  |some x=>
   rcases(s b x e).2 with r|r
   .grind
   .have:=uM (f.own k q g) d;omega
 .refine⟨n.tape.trans c.tape,n.os.trans c.os,n.output.trans c.output,tf c.drawn n.drawn,tf c.size n.size,?_,j,λb o e=>(s b o e).1,?_,c.iz,c.hold,?_⟩
  .intro b d I;rw[n.block b (tg d c.size) (λu=>?_)]
   .exact c.frame b d I
   .cases e:σ.m b with
    |none=>grind
    |some x=>
     rcases c.gc b x e with r|r
     .omega
     grind
  .intro b o e i;rcases(s b o e).2 with r|r
   .cases A:σ.m b with
    |none=>grind
    |some x=>exact c.z b x A i
   grind
  .intro b o e;rcases(s b o e).2 with r|r
   .cases A:σ.m b with
    |none=>grind
    |some x=>exact c.gc b x A
   .exact .inl (tf c.size r)
 .intro k p T cs b g _ J;have d:cj (ι k)=some b:=by rw[J];rfl
  exact n.block b (uM (f.own k _ g) d) (t k _ b g d)
theorem OU{P:Program}{w} t tx j e i(l:P.underlying t=some (.slice e))(m:P.info? e=some i) g b c x(f:Src P i.size tx x 0 [] w)(d:b<=c):
 (Builtin.append_ #[t,tx] j #[.slice (some g) b c,x]).run P w=.ok (.slice (some g) b c) w:=by
 rcases f.kind with⟨n,h⟩|h<;>simp[Builtin.append_,run_underlying l,run_underlying h,sizeOf,typeInfo,m,f.len,d,f.cells,storeCells]
theorem Yt(N:aL B ι σ a w){T tx x y c}(ho:o.op=.call c)(hc:c.callee=.builtin .append)(hx:c.args.toList=[x,y])(ht:c.argTypes.toList=[T,tx])(h:T2 C o T tx x y σ K):YB B C ι o σ K a w:=by
 intro next Q R
 have b2:c.args=#[x,y]:=da
 have b7:c.argTypes=#[T,tx]:=da
 unfold T2 at h;split at h
 .rename_i d E z hd hE;obtain⟨it,zv,hu,hi,hv,rfl,a3,a',d2,b8⟩:=FR hE;have a4:C.P.bytesOf E=it.bytes:=by simp[Program.bytesOf,hi]
  have V:∀O U,(Builtin.append_ #[T,tx] o.type #[a.eval x,a.eval y]).run C.P w=.ok O U->(execOp a.eval o).run C.P w=.ok (.value O) U:=by
   intro O U hr;unfold execOp;simp only[ho,resolve,hc,b2,b7,invoke,builtin,Sem.run_bind,Sem.run_pure,Result.andThen_ok,map_toArray,map_cons,map_nil];rw[hr];rfl
  have c2:∀(X:Option Addr)(n cp:Nat),σ.ev x=.at (.val (.slice X n cp))->(∃t:List tm,cH σ.m ⟨X,n,cp⟩ E (C.P.cellsOf E) t/\
   Mc C.P (SY C) σ (C.P.cellsOf E) tx (σ.ev y) λL=>
    (t.length+L.length)*C.P.bytesOf E<=140737488355328/\t.length+L.length<=140737488355328/\
    ∀(s':Sl)(m':MH),cL σ.m m' ⟨X,n,cp⟩ s' E (C.P.cellsOf E) (t++L)->K ({σ with m:=m'}.put (some d) (.at (.val s'.val))))->o.wp C.P a w next Q:=by
   intro X n cp a0 h;have A:=N.ev x;rw[a0]at A;have A:a.eval x=.slice X n cp:=A;obtain⟨t,D,h⟩:=h;have⟨L,hr,s,S,a9,h⟩:=Sm N h;rw[a']at hr s h;rw[a4]at S;have a1:=D.rows;rw[a']at a1
   have b3:w.ownsRow 0 E it.size (.slice X n cp) t.length t.flatten:=by
    refine⟨dY a1.len,?_⟩;rcases D.ex with⟨H,e2⟩|⟨b,a5,a2,H,hm,v,h2,h3,h4⟩
    .grind
    .simp only[Sl.mk.injEq]at H;obtain⟨rfl,rfl,rfl⟩:=H;exact .inr ⟨b,_,a2,rfl,Nat.zero_le _,N.g.t b _ hm,v,h2,da,da⟩
   have b4:∀b,Value.ownBlock (.slice X n cp)=some b->σ.m b≠none:=by
    intro b f;rcases D.ex with⟨H,e2⟩|⟨b',a5,a2,H,hm,_⟩
    .simp only[Sl.mk.injEq]at H;obtain⟨rfl,rfl,rfl⟩:=H;simp[Value.ownBlock]at f
    .simp only[Sl.mk.injEq]at H;obtain⟨rfl,rfl,rfl⟩:=H;simp[Value.ownBlock]at f
     grind
   have⟨O,U,a6,J,p,I,F,G⟩:=AZ (P:=C.P) w T tx o.type E it zv hu hi hv a3 (.slice X n cp) t.length t.flatten b3 (a.eval y) L.length L.flatten s (by unfold maxLen;omega) S;rw[<-flatten_append,<-sj]at J
   obtain⟨M,n',W,rfl⟩:∃M n' W,O=.slice M n' W:=by
    rcases J.2 with⟨e,_⟩|⟨g,a5,a2,e,_⟩
    .grind
    grind
   let m':MH:=λb=>if Value.ownBlock (.slice M n' W)=some b then U.heap[b]? else σ.m b
   have b1:∀b,Value.ownBlock (.slice M n' W)=some b->m' b=U.heap[b]? :=λb f=>da
   have⟨c3,hk⟩:=ZS (m':=m') N p b4 (by
    intro b ob f;by_cases H:Value.ownBlock (.slice M n' W)=some b
    .grind
    .simp only[m',if_neg H]at f;refine⟨?_,.inl (by rw[f];simp)⟩;have v:=N.g.t b ob f;rcases G with⟨_,_,_,_,_,a7,a8⟩|G
     .simp only[Value.slice.injEq]at a7 a8;obtain⟨rfl,rfl,rfl⟩:=a7;obtain⟨rfl,rfl,rfl⟩:=a8;rw[p.block b (Array.getElem?_eq_some_iff.1 v).1 λe=>H (by cases M<;>exact e)];exact v
     .rw[G b (Array.getElem?_eq_some_iff.1 v).1];exact v)
   unfold Oper.wp;rw[V _ U (by rw[A];exact a6),Oper.upon_value,hd];refine R ι _ _ _ (c3.put (some d) (x:=.at (.val (.slice M n' W))) rfl) (h ⟨M,n',W⟩ m' ⟨⟨?_,?_⟩,?_,?_,?_⟩) (hk o (by rw[ho];rfl))
   .exact F0 a1 hr
   .rcases J.2 with⟨H,e2⟩|⟨b,a5,a2,H,_,hh,v,h2,h3,h4⟩
    .grind
    .simp only[Value.slice.injEq]at H;obtain⟨rfl,rfl,rfl⟩:=H;exact .inr ⟨b,_,a2,rfl,by rw[b1 b rfl];exact hh,v,h2,h3,h4⟩
   .intro b ob f Y
    have e2:Value.ownBlock (.slice X n cp)≠some b:=by
     intro e;rcases D.ex with⟨H,_⟩|⟨b',a5,a2,H,hm,_⟩
     .simp only[Sl.mk.injEq]at H;obtain⟨rfl,rfl,rfl⟩:=H;simp[Value.ownBlock]at e
     .simp only[Sl.mk.injEq]at H;obtain⟨rfl,rfl,rfl⟩:=H;simp[Value.ownBlock]at e
      grind
    have H:Value.ownBlock (.slice M n' W)≠some b:=by
     intro e;rcases I b e with v|v
     .have:=(Array.getElem?_eq_some_iff.1 (N.g.t b ob f)).1;omega
     grind
    simp only[m',if_neg H];exact f
   .intro b i e;have e:M=some ⟨b,i,none⟩:=e;rcases I b (by rw[e];rfl)with v|v
    .left;cases e2:σ.m b with
     |none=>rfl
     |some x=>have:=(Array.getElem?_eq_some_iff.1 (N.g.t b x e2)).1;omega
    .right;rcases D.ex with⟨H,_⟩|⟨b',a5,a2,H,hm,_⟩
     .simp only[Sl.mk.injEq]at H;obtain⟨rfl,rfl,rfl⟩:=H;simp[Value.ownBlock]at v
     .simp only[Sl.mk.injEq]at H;obtain⟨rfl,rfl,rfl⟩:=H;simp[Value.ownBlock]at v
      grind
   .rcases G with⟨_,_,_,_,_,a7,a8⟩|G
    .simp only[Value.slice.injEq]at a7 a8;exact .inl (by rw[a8.1,a7.1])
    .refine .inr λb ob f=>?_;have v:=N.g.t b ob f;by_cases H:Value.ownBlock (.slice M n' W)=some b
     .rw[b1 b H,G b (Array.getElem?_eq_some_iff.1 v).1];exact v
     .simp only[m',if_neg H];exact f
  split at h
  .rename_i X n cp d3 d4 a0;have A:=N.ev x;rw[a0]at A;have A:a.eval x=.slice X n cp:=A;obtain⟨rfl,t,Z,D,h⟩:=h;have⟨L,hr,s,hf⟩:=Sm N h;clear h;by_cases Y:¬(X=none\/0<L.length)
   .rw[not_or]at Y;have hy:L=[]:=eq_nil_of_length_eq_zero aC;unfold coQ at hf;split at hf
    .obtain⟨M,rfl⟩:=Option.ne_none_iff_exists'.1 Y.1;subst hy;have h:=hf.1 Y.1 rfl;unfold Oper.wp;rw[a']at s;rw[V _ w (by rw[A];exact OU T tx o.type E it hu hi M _ _ _ s (Nat.le_refl _)),Oper.upon_value,hd];exact R ι _ _ _ (N.put (some d) (x:=.at (.val (.slice (some M) cp cp))) rfl) h (FL N d (λ_=>CK hd) (λb f _=>rfl) (λ_ _ _=>rfl) (λl e=>by simp_all[vZ]))
    .exact(not_or.2 Y hf.1).elim
   have Y:=Classical.not_not.1 Y
   have h:=(show(t.length+L.length)*C.P.bytesOf E<=140737488355328/\t.length+L.length<=140737488355328/\
    K (((σ.fo d).bl d (some (.au E (C.P.cellsOf E) (t++L)))).put (some d) (.at (.au d)))by
    unfold coQ at hf;split at hf
    .exact hf.2 Y
    .exact hf.2)
   clear hf;obtain⟨S,a9,h⟩:=h;rw[a']at hr s h Z D;rw[a4]at S;have hn:cp=t.length:=D.len;subst hn
   have du:∃O U,(Builtin.append_ #[T,tx] o.type #[.slice X t.length t.length,a.eval y]).run C.P w=.ok O U/\U.ownsRow 0 E it.size O (t.length+L.length) (t++L).flatten/\Gz (λ_=>False) w U/\
    (∀b,O.ownBlock=some b->w.heap.size<=b)/\O.oneCell'=true:=by
    cases X with
    |none=>
     have c4:t=[]:=by
      rcases D.row with e|⟨b,off,e,_⟩
      .exact e
      .cases e
     subst c4;have⟨O,U,v,h2,h3,h4,h5,_⟩:=AZ (P:=C.P) w T tx o.type E it zv hu hi hv a3 (.slice none 0 0) 0 [] (World.ownsRow_nil w 0 E it.size) (a.eval y) L.length L.flatten s (by unfold maxLen;omega) aC;refine⟨O,U,v,da,h3.mono (λb f=>by simp[Value.ownBlock]at f),λb f=>?_,h5⟩;rcases h4 b f with e|e
     .exact e
     .simp[Value.ownBlock]at e
    |some X=>
     have hy:0<L.length:=by
      grind
     have d5:=XE (P:=C.P) (w:=w) (tx:=T) hu Z D N.g.F;have c5:t.length+L.length<=maxLen:=by unfold maxLen;omega
     have b9:(t.flatten++L.flatten).length=(t.length+L.length)*it.size:=by rw[sj,dY Z.len,dY hr.len,Nat.add_mul]
     have c6:=grownCap_ge w (t.length+L.length) t.length E;have c7:grownCap w (t.length+L.length) t.length E<=maxLen:=grownCap_le_maxLen w _ _ E c5
     have c':(Builtin.firstCells it.size t.length (.slice (some X) t.length t.length)).run C.P w.drew=.ok t.flatten.toArray w.drew:=by
      rcases D.row with rfl|⟨b,off,e,hc⟩
      .simp[Builtin.firstCells,loadCells,loadCellsFrom]
      .have e:some X=some ⟨b,off,none⟩:=e;cases e;refine run_firstCells_some w.drew it.size t.length ⟨b,off,none⟩ t.length t.length t.flatten (dY Z.len) λj u hj=>?_;obtain⟨i,e,q,v,h2,rfl⟩:=IS Z.len hj;rw[Addr.ei];have:=N.g.F _ _ _ ((hc i e v).rd q u h2);rw[<-Nat.add_assoc];exact this
     have c8:=run_append_grow_src (P:=C.P) w T tx o.type E it zv hu hi hv (some X) t.length t.length t.flatten c' (a.eval y) L.length L.flatten s aC aC (growslice_fits aC S);refine⟨_,_,c8,⟨?_,.inr ⟨w.heap.size,_,_,rfl,Nat.zero_le _,heap_alloc_new w.drew _,c6,c7,?_,?_⟩⟩,⟨rfl,rfl,rfl,Nat.le_succ _,bu,λk hk _=>heap_alloc_old w.drew _ k hk⟩,λb f=>by simp[Value.ownBlock]at f;omega,rfl⟩
     .grind
     .simp only[Array.size_append,size_toArray,size_zeroCells,a3,b9,<-Nat.add_mul]
      grind
     grind
   obtain⟨O,U,a6,r,p,I,F⟩:=du;rw[<-sj]at r;unfold Oper.wp;rw[V O U da,Oper.upon_value,hd];refine R (dv ι d O) _ _ _ ?_ h ?_
   .refine aL.put ?_ (some d) (by show _=_;simp);exact N.fx d _ O (p.mono (λb f=>f.elim)) ⟨F0 Z hr,r⟩ F (λb f=>.inl (I b (Ca r f)))
   .exact FL N d (λ_=>CK hd) (λb f _=>p.block b f (λv=>v.elim)) (λhg=>by rw[ho]at hg;simp[CQ]at hg) (λl e=>by simp_all[vZ])
  .grind
  rename_i b5 c0;clear c0 b5;split at h
  .rename_i a0;have A:=N.ev x;rw[a0]at A;have A:a.eval x=.slice none 0 0:=A;split at h
   .rename_i n c9
    obtain⟨kn,kq,d',d0⟩:∃kn kq,C.P.underlying tx=some (.int kn)/\σ.ev y=.at (.val (.int kq n)):=by
     unfold bnQ at c9
     grind
    have hy:=N.ev y;rw[d0]at hy;have hy:a.eval y=.int kq n:=hy;obtain⟨h0,S,a9,h⟩:=h;rw[a']at h;rw[a4]at S;obtain⟨k,rfl⟩:∃k:Nat,n=k:=⟨n.toNat,aC⟩
    have c1:k*it.bytes<=140737488355328:=by omega
    have⟨O,U,a6,r,p,I,F⟩:=OT (P:=C.P) w T tx o.type E it zv kq kn hu d' hi hv a3 aC k aC c1 aC;unfold Oper.wp;rw[V O U da,Oper.upon_value,hd];refine R (dv ι d O) _ _ _ ?_ h ?_
    .refine aL.put ?_ (some d) (by show _=_;simp);refine N.fx d _ O (p.mono (λb f=>f.elim)) ⟨?_,?_⟩ F (λb f=>.inl (I b (Ca r f)))
     .exact tX aC b8 _
     grind
    .exact FL N d (λ_=>CK hd) (λb f _=>p.block b f (λv=>v.elim)) (λhg=>by rw[ho]at hg;simp[CQ]at hg) (λl e=>by simp_all[vZ])
   .have⟨L,hr,s,S,a9,h⟩:=Sm N h;rw[a']at hr s h;rw[a4]at S;have⟨O,U,a6,r,p,I,F,G⟩:=AZ (P:=C.P) w T tx o.type E it zv hu hi hv a3 (.slice none 0 0) 0 [] (World.ownsRow_nil w 0 E it.size) (a.eval y) L.length L.flatten s (by unfold maxLen;omega) da;simp only[Nat.zero_add,nil_append]at r;unfold Oper.wp;rw[V O U da,Oper.upon_value,hd];refine R (dv ι d O) _ _ _ ?_ h ?_
    .refine aL.put ?_ (some d) (by show _=_;simp);refine N.fx d _ O (p.mono (λb f=>by simp[Value.ownBlock]at f)) ⟨hr,r⟩ F (λb f=>?_);rcases I b (Ca r f)with v|v
     .exact .inl v
     .simp[Value.ownBlock]at v
    .exact FL N d (λ_=>CK hd) (λb f _=>p.block b f (λv=>by simp[Value.ownBlock]at v)) (λhg=>by rw[ho]at hg;simp[CQ]at hg) (λl e=>by simp_all[vZ])
  .rename_i k a0;have A:=N.ev x;rw[a0]at A;have A:a.eval x=ι k:=A;split at h
   .rename_i E' sz t r d1;split at h
    .rename_i b6 b0;have b6:=sw b6;have b0:=sw b0;subst b6;rw[a']at b0;subst b0;have⟨L,hr,s,S,a9,h⟩:=Sm N h;rw[a4]at S;have⟨Z,b3⟩:=wW N r;have⟨O,U,a6,J,p,I,F,G⟩:=AZ (P:=C.P) w T tx o.type E' it zv hu hi hv a3 (ι k) t.length t.flatten b3 (a.eval y) L.length L.flatten s (by unfold maxLen;omega) S;rw[<-flatten_append,<-sj]at J;unfold Oper.wp;rw[V O U da,Oper.upon_value,hd];refine R (dv ι k O) _ _ _ ?_ h ?_
     .refine aL.put ?_ (some d) (by show _=_;simp);refine N.fx k _ O (p.mono (λb f=>⟨⟨_,r⟩,GP f⟩)) ⟨F0 Z hr,J⟩ F (λb f=>?_);rcases I b (Ca J f)with v|v
      .exact .inl v
      .exact .inr ⟨⟨_,r⟩,GP v⟩
     .refine FL N k (λ⟨p',T',d6,e⟩=>da) (λb f hn=>p.block b f (λv=>hn ⟨⟨_,r⟩,GP v⟩)) (λhg=>by rw[ho]at hg;simp[CQ]at hg) (λl e=>by simp_all[vZ])
    grind
   grind
  .grind
  grind
 grind
theorem aL.kr(d:aL B ι σ a w){k s g w'}(m:cr σ.own k=some (some s))(t:Gz (λb=>cj (ι k)=some b) w w')(y:GC ι w' (ι k) g):
 aL B ι (σ.bl k (some g)) a w':=by
 have c:∀j l,cr (σ.bl k (some g)).own j=some (some l)->(j=k/\l=g)\/(j≠k/\cr σ.own j=some (some l)):=by
  grind[St.bl,Cb,mK]
 refine⟨d.dq,d.defers,?_,?_,?_,?_,d.one⟩
 .intro j l n;rcases c j l n with⟨rfl,rfl⟩|⟨i,h⟩
  .exact y
  .have p:=d.own j l h;refine p.world (λb e=>t.block b (uM p e) (λf=>i (d.eh j k _ _ b h m e f)))
 .intro j z r A b n h e f;rcases c j r n with⟨rfl,rfl⟩|⟨i,q⟩<;>rcases c z A h with⟨rfl,rfl⟩|⟨u,v⟩
  .rfl
  .exact d.eh _ _ _ _ b m v e f
  .exact d.eh _ _ _ _ b q m e f
  .exact d.eh _ _ _ _ b q v e f
 .intro j r b n e;rcases c j r n with⟨rfl,rfl⟩|⟨i,q⟩
  .exact d.f _ _ b m e
  .exact d.f _ _ b q e
 .exact d.g.ext t (λb e=>d.f k s b m e)
theorem Ma(e:∀k,(ι k).oneCell'=true):∀{cs:ue}{vs:tm},xX cs=true->kB ι cs vs->∀v∈vs,v.oneCell'=true
 |[],[],_,_,v,f=>by cases f
 |x::cs,u::vs,g,j,v,f=>by
  simp only[xX]at g;split at g
  .rename_i l;rcases mem_cons.1 f with rfl|f
   .have d:=j.1;cases x with
    |val m=>
     have:v=m:=d;subst this;cases v<;>first|rfl|(simp[At.gy]at l)
    |ptr k off=>obtain⟨b,_,rfl⟩:=d;rfl
    |au k=>have:v=ι k:=d;grind
    |el k i p off=>obtain⟨b,n,c,_,rfl⟩:=d;rfl
    |di=>grind[At.gy]
   .exact Ma e g j.2 v f
  .cases g
 |[],_::_,_,h,_,_=>h.elim
 |_::_,[],_,h,_,_=>h.elim
theorem XJ{P T w g off b E v}(e:kL P T=true)(f:v.cells.size=P.cellsOf T)(h:w.heap[g]?=some (.cells b E (0,0)))(j:off+v.cells.size<=b.size)(l:∀u∈v.cells.toList,u.oneCell'=true):
 (storeVar T ⟨g,off,none⟩ v).run P w=.ok () (w.setRow g (aq b.toList off v.cells.toList).toArray):=by
 have⟨i,d,n,p,q,c⟩:=iL e;have m:=run_storeCells_at P g off E v.cells.toList 0 b w h aC l;simp_all[storeVar,aq,Nat.add_zero,Sem.run_bind,db,Result.andThen_ok]
theorem EU w g cs:Gz (λb=>b=g) w (w.setRow g cs):=
 ⟨rfl,rfl,rfl,Nat.le_refl _,by simp,λb _ c=>setRow_other w g b cs c⟩
theorem bgX(q:aL B ι σ a w){T tx x y c}(L:o.op=.call c)(S:c.callee=.builtin .copy)(hx:c.args.toList=[x,y])(U:c.argTypes.toList=[T,tx])(h:bgZ C o T tx x y σ K):YB B C ι o σ K a w:=by
 intro next Q j
 have l:c.args=#[x,y]:=by apply Array.toList_inj.1;simpa using hx
 have r:c.argTypes=#[T,tx]:=by apply Array.toList_inj.1;simpa using U
 unfold bgZ at h;split at h
 .rename_i E z ad n V W D;obtain⟨it,zv,X,Y,hv,rfl,Z,F,M,N⟩:=FR W;obtain⟨b,off,rfl,h⟩:=h;have f:=q.ev x;rw[D]at f;have f:a.eval x=.slice (some ⟨b,off,none⟩) n V:=f;have⟨p,hr,d,G,cs,E',H,s,h⟩:=Sm q h;rw[F]at hr d s;have O:=q.g.t b _ H.y;have a':=d.newsLen;have t:=run_storeCells_at C.P b off E' p.flatten 0 cs w O aC d.one
  have u:(execOp a.eval o).run C.P w=.ok (.value (.int .i64 p.length)) (w.setRow b (aq cs.toList off p.flatten).toArray):=by
   unfold execOp;simp only[L,resolve,S,l,r,invoke,builtin,Sem.run_bind,Sem.run_pure,Result.andThen_ok,map_toArray,map_cons,map_nil];rw[f];have v:=d.cells;generalize p.flatten=fl at t v⊢
   simp[Builtin.copy_,run_underlying X,d.len,sizeOf,typeInfo,Y,Nat.min_eq_left G,v,t];exact⟨rfl,by simp[aq]⟩
  let m':MH:=λg=>if g=b then some (.cells (aq cs.toList off p.flatten).toArray E' (0,0))else σ.m g
  have i:=EU w b (aq cs.toList off p.flatten).toArray
  have⟨I,hk⟩:=ZS (m':=m') q i (λg e=>by subst e;rw[H.y];simp) (by
   intro g ob A;by_cases e:g=b
   .subst e;simp only[m',if_true]at A;refine⟨?_,.inl (by rw[H.y];simp)⟩;rw[setRow_heap w g cs _ E' _ O];exact A
   .simp only[m',if_neg e]at A;have R:=q.g.t g ob A;refine⟨?_,.inl (by rw[A];simp)⟩;rw[i.block g (Array.getElem?_eq_some_iff.1 R).1 e];exact R)
  unfold Oper.wp;rw[u,Oper.upon_value];exact j ι _ _ _ (I.put o.dst (x:=.at (.val (.int .i64 p.length))) rfl) (h m' ⟨by simp[m'],λg J=>by simp[m',J]⟩) (hk o (by rw[L];rfl))
 .exact h.elim
theorem Ik{cs l vs}(c:zR cs=some l)(b:kB ι cs vs):vs=l:=by
 rw[Gf c,kB.fk]at b;exact b
theorem dw{sz:Nat}{l:tm}:∀{xs:List tm}{i:Nat}{e:tm}{off:Nat},(∀e∈xs,e.length=sz)->xs[i]?=some e->off+l.length<=e.length->
 aq xs.flatten (i*sz+off) l=(xs.set i (aq e off l)).flatten
 |[],i,e,off,_,b,_=>by simp at b
 |x::xs,0,e,off,d,b,c=>by
  grind[aq]
 |x::xs,i+1,e,off,d,b,c=>by
  simp only[getElem?_cons_succ]at b;have j:x.length=sz:=d x bu;have f:=dw (λe g=>d e (by simp[g])) b c;rw[set_cons_succ,flatten_cons,flatten_cons,<-f];simp only[aq];have h:(i+1)*sz+off=x.length+(i*sz+off):=da
  rw[h,take_length_add_append,show x.length+(i*sz+off)+l.length=x.length+(i*sz+off+l.length)by omega,drop_length_add_append];simp
theorem Uq{sz xs i off e l}(c:dA sz xs)(p:xs[i]?=some e)(f:off+l.length<=e.length)(q:∀u∈l,u.oneCell'=true):
 dA sz (xs.set i (aq e off l)):=by
 have b:e∈xs:=si p;constructor
 .intro g j;rcases mem_or_eq_of_mem_set j with h|h
  .exact c.len g h
  .rw[h,qM _ _ _ f];exact c.len e b
 .intro g j u d;rcases mem_or_eq_of_mem_set j with h|h
  .exact c.one g h u d
  .rw[h]at d;unfold aq at d;rcases mem_append.1 d with m|m
   .rcases mem_append.1 m with n|n
    .exact c.one e b u (mem_of_mem_take n)
    grind
   .exact c.one e b u (mem_of_mem_drop m)
theorem EV(u:tm) l p N(b:p+l.length<=N)(c:N<=u.length):(aq u p l).take N=aq (u.take N) p l:=by
 apply ext_getElem?
 grind[aq,sj,length_take]
theorem Zg(y:aL B ι σ a w){T x v}(Y:o.op=.store T x v)(a':o.dst=none)(h:XD C T x v σ K):YB B C ι o σ K a w:=by
 intro next Q I
 have D:=y.ev x;unfold XD at h;split at h
 .exact h.elim
 .rename_i new a0;split at h
  .rename_i S a6 hT;have S:=sw S;have hd:=Ei y.one (y.ev v) a0;have h1:=Ma y.one a6 hd;have b8:new.length=(a.eval v).cells.size:=by have:=hd.length;omega
   have J:∀g off z E,a.eval x=.pointer (some ⟨g,off,none⟩)->w.heap[g]?=some (.cells z E (0,0))->off+(a.eval v).cells.size<=z.size->
    (execOp a.eval o).run C.P w=.ok .skip (w.setRow g (aq z.toList off (a.eval v).cells.toList).toArray):=by
    intro g off z E U H F;unfold execOp;simp only[Y,U,Instr.storeAt,Instr.sureAddr,Sem.run_bind,Sem.run_pure,Result.andThen_ok,XJ hT aC H F h1]
   have vQ:a.put o.dst undef=a:=by rw[a'];rfl
   split at h
   .rename_i k off U;rw[U]at D;split at h
    .rename_i p E cs A;split at h
     .rename_i F;have F:=Nat.le_of_ble_eq_true F;have⟨b,vs,N,hh,a1⟩:=AM y A;obtain⟨d,f,hp⟩:=D;rw[N]at f;simp only[Value.pointer.injEq,ss,Addr.mk.injEq]at f;obtain⟨rfl,-,-⟩:=f;have b9:cs.length=vs.size:=by have:=a1.length;omega
      unfold Oper.wp;rw[J b off vs E hp hh aC,Oper.upon_skip,vQ];have a7:cj (ι k)=some b:=by rw[N];rfl
      have j:=EU w b (aq vs.toList off (a.eval v).cells.toList).toArray;refine I ι _ _ _ (y.kr A (j.mono (λd f=>da)) ?_) h ?_
      .exact⟨b,_,N,setRow_heap w b vs _ E _ hh,mp (a1.aq off hd),λq e=>by subst e;have:=bqZ y A;grind⟩
      .refine FL y k (λ_=>?_) (λd f hn=>j.block d f (λe=>hn ⟨⟨_,A⟩,da⟩)) (λH=>by rw[Y]at H;simp[CQ]at H) (λl e=>by simp_all[vZ]);unfold B9;simp[Y,U]
     grind
    grind
   .rename_i k i sz off U;rw[U]at D;split at h
    .rename_i E s xs l A hl;split at h
     .rename_i hs;have hs:=sw hs;subst hs;obtain⟨e,he,F,h⟩:=h;have⟨hr,a2⟩:=wW y A;obtain⟨b,n,c,N,hp⟩:=D;have O:(a.eval v).cells.toList=l:=Ik hl hd;rcases a2.2 with⟨hv,hn⟩|⟨g,c',z,hv,_,H,a8,a9,c0,V⟩
      .grind
      .rw[N]at hv;simp only[Value.slice.injEq,ss,Addr.mk.injEq]at hv;obtain⟨⟨rfl,-,-⟩,rfl,rfl⟩:=hv;have b0:i<xs.length:=(sg he);have c1:e.length=s:=hr.len e (si he);have b1:(a.eval v).cells.size=l.length:=da
       have b2:=dY hr.len
       have b3:i*s+off+l.length<=xs.length*s:=by
        have:(i+1)*s<=xs.length*s:=Nat.mul_le_mul_right _ b0
        grind
       have b7:xs.length*s<=c*s:=Nat.mul_le_mul_right _ a8;unfold Oper.wp;rw[J b (i*s+off) z E hp H aC,Oper.upon_skip,vQ];have a7:cj (ι k)=some b:=by rw[N];rfl
       have j:=EU w b (aq z.toList (i*s+off) (a.eval v).cells.toList).toArray;have a3:∀u∈l,u.oneCell'=true:=da
       refine I ι _ _ _ (y.kr A (j.mono (λd f=>da)) ?_) h ?_
       .have a4:=Uq hr he F a3;refine⟨a4,dY a4.len,.inr ⟨b,c,_,da,Nat.zero_le _,setRow_heap w b z _ E _ H,da,a9,?_,?_⟩⟩
        .simp only[size_toArray,O];rw[qM]
         .omega
         grind
        .rw[length_set];rw[<-dw hr.len he F,O,<-V];have c2:z.toList.length=c*s:=by omega
         exact EV z.toList l (i*s+off) (xs.length*s) b3 aC
       .refine FL y k (λ⟨p',T',b4,e'⟩=>da) (λd f b5=>j.block d f (λe'=>b5 ⟨⟨_,A⟩,da⟩)) (λH=>by rw[Y]at H;simp[CQ]at H) (λl e=>by simp_all[vZ])
     grind
    grind
   .rename_i b off U;rw[U]at D;have D:a.eval x=.pointer (some ⟨b,off,none⟩):=D;split at h
    .rename_i l hl;obtain⟨cs,E,W,F,h⟩:=h;have O:(a.eval v).cells.toList=l:=Ik hl hd;have b1:(a.eval v).cells.size=l.length:=da
     have H:=y.g.t b _ W.y
     let m':MH:=λd=>if d=b then some (.cells (aq cs.toList off l).toArray E (0,0))else σ.m d
     unfold Oper.wp;rw[J b off cs E D H aC,Oper.upon_skip,vQ,O];have j:=EU w b (aq cs.toList off l).toArray
     have a5:∀k R,cr σ.own k=some (some R)->cj (ι k)≠some b:=by
      intro k R A hb;have:=(y.f k R b A hb).2.1;rw[W.y]at this;cases this
     refine I ι {σ with m:=m'} _ _ ?_ (h m' ⟨by simp[m'],λd f=>da⟩) ?_
     .refine⟨y.dq,y.defers,?_,y.eh,?_,?_,y.one⟩
      .intro k R A;exact(y.own k R A).world (λd f=>j.block d (uM (y.own k R A) f) (λe=>a5 k R A (e▸f)))
      .intro k R d A f;have⟨f1,f2,f3⟩:=y.f k R d A f
       grind
      .have G:=y.g;refine⟨G.tape,G.os,G.output,G.drawn,tf G.size j.size,?_,?_,?_,?_,G.iz,G.hold,?_⟩
       .intro d f hE
        have L:d≠b:=λe=>by
         subst e;rcases G.gc d _ W.y with M|M
         .omega
         grind
        rw[j.block d (tg f G.size) L];exact G.frame d f hE
       .intro d t u X;have L:d≠b:=λe=>by subst e;rw[G.z d _ W.y t]at X;cases X
        have M:=G.F d t u X;rw[<-M];exact World.cell?_of_block (w:=w) (a:=⟨d,t,none⟩) (j.block d (World.block_lt_of_cell? w ⟨d,t,none⟩ M) L)
       .intro d Z f;have r:(if d=b then some (Obj.cells (aq cs.toList off l).toArray E (0,0))else σ.m d)=some Z:=f;by_cases e:d=b
        .subst e;rw[if_pos rfl]at r;rw[setRow_heap w d cs _ E _ H];exact r
        .rw[if_neg e]at r;have M:=G.t d Z r;rw[j.block d (Array.getElem?_eq_some_iff.1 M).1 e];exact M
       .intro d Z f i;have r:(if d=b then some (Obj.cells (aq cs.toList off l).toArray E (0,0))else σ.m d)=some Z:=f;by_cases e:d=b
        .subst e;exact G.z d _ W.y i
        .rw[if_neg e]at r;exact G.z d _ r i
       .intro d Z f;have r:(if d=b then some (Obj.cells (aq cs.toList off l).toArray E (0,0))else σ.m d)=some Z:=f;by_cases e:d=b
        .subst e;exact G.gc d _ W.y
        .rw[if_neg e]at r;exact G.gc d _ r
     .constructor
      .intro k p' T' b4 d A ht N;exact j.block d (uM (y.own k _ A) (by rw[N];rfl)) (λe=>a5 k _ A (by rw[N,<-e];rfl))
      .intro d t u X;have L:d≠b:=λe=>by subst e;rw[y.g.z d _ W.y t]at X;cases X
       have M:=y.g.F d t u X;rw[<-M];exact World.cell?_of_block (w:=w) (a:=⟨d,t,none⟩) (j.block d (World.block_lt_of_cell? w ⟨d,t,none⟩ M) L)
      .intro H;rw[Y]at H;simp[CQ]at H
      .intro l' d b6;simp[vZ,Y]at b6
    grind
   grind
  grind
end
end Go.Vc
namespace Go.Vc
open Go List
section
variable{B:vU}{C:bk}{ι:tv}{σ:St}{a:Act}{w:World}{o:Oper}{K:St->Prop}
theorem nX(c:aL B ι σ a w):LS σ ι o w w:=
 ⟨λ_ _ _ _ _ _ _ _=>rfl,λb off v d=>c.g.F b off v d,λ_ _ _=>rfl,λ_ _ _ _ _ _=>rfl⟩
theorem Zl(r:aL B ι σ a w){T x lo hi mx}(L:o.op=.slice T x lo hi mx)(h:XF C o T x lo hi mx σ K):YB B C ι o σ K a w:=by
 intro next Q l
 have d:=r.ev x;unfold XF at h;split at h
 .rename_i k n y;rw[y]at d;have d:a.eval x=ι k:=d;have c:=r.ev n;split at h
  .rename_i E sz z A i E' U D v;rw[D]at c;have c:a.eval n=.int A i:=c;split at h
   case h_2=>exact h.elim
   rename_i t;obtain⟨F,H,h⟩:=h;have⟨hr,V⟩:=wW r U;have I:dA sz (z.take i.toNat):=⟨λe he=>hr.len e (mem_of_mem_take he),λe he=>hr.one e (mem_of_mem_take he)⟩
   have G:(z.take i.toNat).length=i.toNat:=da
   have⟨W,_,q,_⟩:=iL t;rcases V.2 with⟨hv,a5⟩|⟨g,m,a',hv,a6,hg,a7,a0,a1,M⟩
   .have a2:i=0:=by omega
    subst a2
    have f:(execOp a.eval o).run C.P w=.ok (.value (.slice none 0 0)) w:=by
     unfold execOp;simp[L,d,hv,c,Instr.sliceAt,run_underlying v,Instr.slice,Instr.sliceBounds,Instr.sliceBound,asIntOf,db q]
    unfold Oper.wp;rw[f,Oper.upon_value];refine l (dv ι k (.slice none 0 0)) _ _ _ ?_ h (nX r);refine aL.put ?_ o.dst (by show _=_;simp);refine r.fx k _ _ (Gz.refl _ _) ⟨I,?_⟩ rfl (λb hb=>da)
    grind
   .have f:(execOp a.eval o).run C.P w=.ok (.value (.slice (some ⟨g,0,none⟩) i.toNat m)) w:=by
     have a3:i<=(m:Int):=by omega
     unfold execOp;simp[L,d,hv,c,Instr.sliceAt,run_underlying v,Instr.slice,Instr.sliceBounds,Instr.sliceBound,asIntOf,db q,F,a3,Addr.ei]
    unfold Oper.wp;rw[f,Oper.upon_value];refine l (dv ι k (.slice (some ⟨g,0,none⟩) i.toNat m)) _ _ _ ?_ h (nX r);refine aL.put ?_ o.dst (by show _=_;simp);refine r.fx k _ _ (Gz.refl _ _) ⟨I,dY I.len,.inr ⟨g,m,a',by rw[G],Nat.zero_le _,hg,aC,a0,a1,?_⟩⟩ rfl (λb hb=>.inr ⟨⟨_,U⟩,by rw[hv];exact hb⟩);rw[G]
    have X:(z.take i.toNat).flatten=z.flatten.take (i.toNat*sz):=by
     have:z=z.take i.toNat++z.drop i.toNat:=(take_append_drop _ _).symm;rw[show z.flatten=(z.take i.toNat).flatten++(z.drop i.toNat).flatten by grind];rw[take_left'];rw[dY I.len,G]
    rw[X,<-M,take_take];congr 1;have:i.toNat*sz<=z.length*sz:=Nat.mul_le_mul_right _ aC;omega
  .exact h.elim
 .rename_i u len m n y;rw[y]at d;have d:a.eval x=.slice u len m:=d;have c:=r.ev n;split at h
  .rename_i A i E' D v;rw[D]at c;have c:a.eval n=.int A i:=c;split at h
   case h_2=>exact h.elim
   rename_i t;obtain⟨F,H,h⟩:=h;have⟨W,_,q,_⟩:=iL t
   have f:(execOp a.eval o).run C.P w=.ok (.value (.slice u i.toNat m)) w:=by
    unfold execOp;simp[L,d,c,Instr.sliceAt,run_underlying v,Instr.slice,Instr.sliceBounds,Instr.sliceBound,asIntOf,db q,F,H];cases u<;>simp[Addr.add]
   unfold Oper.wp;rw[f,Oper.upon_value];exact l ι _ _ _ (r.put o.dst (x:=.at (.val _)) rfl) h (nX r)
  .exact h.elim
 .rename_i u len m n k y;rw[y]at d;have d:a.eval x=.slice u len m:=d;have c:=r.ev n;have p:=r.ev k;split at h
  .rename_i A i kj j E' D U v;rw[D]at c;rw[U]at p;have c:a.eval n=.int A i:=c;have p:a.eval k=.int kj j:=p;split at h
   case h_2=>exact h.elim
   rename_i t;obtain⟨F,H,h2,h⟩:=h;have⟨W,_,q,_⟩:=iL t
   have f:(execOp a.eval o).run C.P w=.ok (.value (.slice u i.toNat j.toNat)) w:=by
    have N:0<=j:=by omega
    have O:max j 0=j:=by omega
    unfold execOp;simp[O,L,d,c,p,Instr.sliceAt,run_underlying v,Instr.slice,Instr.sliceBounds,Instr.sliceBound,asIntOf,db q,F,H,h2,N];cases u<;>simp[Addr.add]
   unfold Oper.wp;rw[f,Oper.upon_value];exact l ι _ _ _ (r.put o.dst (x:=.at (.val _)) rfl) h (nX r)
  .exact h.elim
 .rename_i u len m n k y;rw[y]at d;have d:a.eval x=.slice u len m:=d;have c:=r.ev n;have p:=r.ev k;split at h
  .rename_i A i kj j E' D U v;rw[D]at c;rw[U]at p;have c:a.eval n=.int A i:=c;have p:a.eval k=.int kj j:=p;split at h
   case h_2=>exact h.elim
   rename_i t;obtain⟨F,H,h2,h⟩:=h;have⟨W,_,q,a4,R,Y⟩:=iL t;have S:=db q;obtain⟨s,J⟩:∃s:Sl,tJ (C.P.cellsOf E') ⟨u,j.toNat,m⟩ i.toNat s:=⟨⟨_,_,_⟩,rfl,rfl,rfl⟩
   have f:(execOp a.eval o).run C.P w=.ok (.value (.slice s.a s.len s.cap)) w:=by
    have N:=J.a_;have O:=J.len;have Z:=J.cap;dsimp only at N O Z;have h6:0<=j:=by omega
    have h7:max j 0=j:=by omega
    unfold execOp;simp[L,d,c,p,Instr.sliceAt,run_underlying v,Instr.slice,Instr.sliceBounds,Instr.sliceBound,asIntOf,S,F,H,h2,h6,h7,N,O,Z,R]
   unfold Oper.wp;rw[f,Oper.upon_value];exact l ι _ _ _ (r.put o.dst (x:=.at (.val _)) rfl) (h s J) (nX r)
  .exact h.elim
 .rename_i u len m n y;rw[y]at d;have d:a.eval x=.slice u len m:=d;have c:=r.ev n;split at h
  .rename_i A i E' D v;rw[D]at c;have c:a.eval n=.int A i:=c;split at h
   case h_2=>exact h.elim
   rename_i t;obtain⟨F,H,hc,h⟩:=h;have⟨W,_,q,a4,R,Y⟩:=iL t;have S:=db q;obtain⟨s,J⟩:∃s:Sl,tJ (C.P.cellsOf E') ⟨u,len,m⟩ i.toNat s:=⟨⟨_,_,_⟩,rfl,rfl,rfl⟩
   have f:(execOp a.eval o).run C.P w=.ok (.value (.slice s.a s.len s.cap)) w:=by
    have N:=J.a_;have O:=J.len;have Z:=J.cap;dsimp only at N O Z;unfold execOp;simp[L,d,c,Instr.sliceAt,run_underlying v,Instr.slice,Instr.sliceBounds,Instr.sliceBound,asIntOf,S,F,H,N,O,Z,R]
   unfold Oper.wp;rw[f,Oper.upon_value];exact l ι _ _ _ (r.put o.dst (x:=.at (.val _)) rfl) (h s J) (nX r)
  .exact h.elim
 .rename_i b off n y;rw[y]at d;have d:a.eval x=.pointer (some ⟨b,off,none⟩):=d;have c:=r.ev n;split at h
  .rename_i A i len E' D v;rw[D]at c;have c:a.eval n=.int A i:=c;split at h
   case h_2=>exact h.elim
   rename_i t;obtain⟨F,H,h⟩:=h;have⟨W,_,q,_⟩:=iL t
   have f:(execOp a.eval o).run C.P w=.ok (.value (.slice (some ⟨b,off,none⟩) i.toNat len)) w:=by
    unfold execOp;simp[L,d,c,Instr.sliceAt,run_underlying v,Instr.sliceBounds,Instr.sliceBound,asIntOf,db q,F,H,Instr.sureAddr,Addr.add]
   unfold Oper.wp;rw[f,Oper.upon_value];exact l ι _ _ _ (r.put o.dst (x:=.at (.val _)) rfl) h (nX r)
  .exact h.elim
 .exact h.elim
structure Ld(ι:tv)(σ σ':St)(ks:tw):Prop where
 cells:∀k p T cs,cr σ.own k=some (some (.de p T cs))->k∉ks->∃cs',cr σ'.own k=some (some (.de p T cs'))
 ay:σ'.h=σ.h
 au:∀x k,σ'.ev x=.at (.au k)->σ.ev x=.at (.au k)
 m_:∀b,σ.m b=none->σ'.m b≠none->∃k∈ks,cj (ι k)=some b
theorem TQ{σ:St}{k f m h own}(c:∀x j,f x≠ .au j){x j}(hx:St.ev {sl:=σ.sl.map (SV.sub k f),own:=own,m:=m,h:=h} x=.at (.au j)):σ.ev x=.at (.au j):=by
 rcases bfZ σ k f m h own x with b|⟨v,b⟩
 .grind[boQ]
 .rcases b with rfl|⟨g,rfl⟩|⟨g,rfl⟩<;>exact hx
theorem dTQ(s:aL B ι σ a w){k T p cs l}(D:cr σ.own k=some (some (.de p T cs)))(J:zR cs=some l):
 ∃b m',eT σ.m σ.h b/\iZ σ.m m' b (.cells l.toArray T (0,0))/\
  aL B ι {(σ.sub k (λ|.ptr _ o=>.val (.pointer (some ⟨b,o,none⟩))|_=>.di)).bl k none with m:=m'} a w/\
  Ld ι σ {(σ.sub k (λ|.ptr _ o=>.val (.pointer (some ⟨b,o,none⟩))|_=>.di)).bl k none with m:=m'} [k]:=by
 have⟨b,L,H,M,E⟩:=AM s D;have N:L.toList=l:=Ik J E;have u:cj (ι k)=some b:=by rw[H];rfl
 have⟨V,O,I⟩:=s.f k _ b D u
 let m':MH:=λf=>if f=b then some (.cells l.toArray T (0,0))else σ.m f
 have g:aL B ι ((σ.sub k (λ|.ptr _ o=>.val (.pointer (some ⟨b,o,none⟩))|_=>.di)).bl k none) a w:=by
  have:=s.drop k (ι k) (s.one k) (λ|.ptr _ o=>.val (.pointer (some ⟨b,o,none⟩))|_=>.di) (by
   intro x v A E;cases x<;>simp only[At.key,ss,reduceCtorEq]at A
   case au=>trivial
   case el=>trivial
   case ptr j off=>
    subst A;obtain⟨f,d,P⟩:=E;rw[H]at d;simp only[Value.pointer.injEq,ss,Addr.mk.injEq]at d;obtain⟨rfl,-,-⟩:=d;exact P)
  grind[LZ]
 have r:∀j y,cr ((σ.sub k (λ|.ptr _ o=>.val (.pointer (some ⟨b,o,none⟩))|_=>.di)).bl k none).own j=some (some y)->cj (ι j)≠some b:=by
  intro j y t Q;have⟨r,W,F,_⟩:=uS t;exact r (s.eh j k _ _ b F D Q u)
 refine⟨b,m',⟨O,I⟩,⟨by simp[m'],λf d=>da⟩,⟨g.dq,g.defers,g.own,g.eh,?_,?_,g.one⟩,?_⟩
 .intro j y f t d;have⟨R,S,U⟩:=g.f j y f t d;refine⟨R,?_,U⟩;have:f≠b:=λe=>r j y t (e▸d);show(if f=b then _ else σ.m f)=none;rw[if_neg this];exact S
 .have n:=s.g;refine⟨n.tape,n.os,n.output,n.drawn,n.size,n.frame,n.F,?_,?_,n.iz,n.hold,?_⟩
  .intro f q d;have c:(if f=b then some (Obj.cells l.toArray T (0,0))else σ.m f)=some q:=d;by_cases e:f=b
   .subst e;rw[if_pos rfl]at c;rw[M,<-c];congr 2
    grind
   .rw[if_neg e]at c;exact n.t f q c
  .intro f q d i;have c:(if f=b then some (Obj.cells l.toArray T (0,0))else σ.m f)=some q:=d;by_cases e:f=b
   .subst e;exact I i
   .rw[if_neg e]at c;exact n.z f q c i
  .intro f q d;have c:(if f=b then some (Obj.cells l.toArray T (0,0))else σ.m f)=some q:=d;by_cases e:f=b
   .grind
   .rw[if_neg e]at c;exact n.gc f q c
 .refine⟨?_,rfl,λx j A=>TQ (λx j=>da) A,λf X Y=>⟨k,bu,?_⟩⟩
  case refine_2=>
   grind
  intro j Z T' G t z;simp only[mem_singleton]at z;refine⟨G.map (At.sub k (λ|.ptr _ o=>.val (.pointer (some ⟨b,o,none⟩))|_=>.di)),?_⟩
  .simp only[St.bl,St.sub,Cb,Dp,z,false_and,if_false,t];rfl
theorem dTX{σ τ υ k ks}(h:Ld ι σ τ [k])(c:Ld ι τ υ ks){b}(d:σ.m b=none)(f:υ.m b≠none):∃j∈k::ks,cj (ι j)=some b:=by
 cases e:τ.m b with
 |none=>
  have⟨j,g,i⟩:=c.m_ b e f
  grind
 |some o=>
  have⟨j,g,i⟩:=h.m_ b d (by rw[e];simp)
  grind
theorem BW:∀(ks:tw)(σ:St),aL B ι σ a w->IE σ K ks->∃e,aL B ι e a w/\K e/\Ld ι σ e ks
 |[],σ,g,h=>⟨σ,g,h,⟨λ_ _ _ cs h _=>⟨cs,h⟩,rfl,λ_ _ h=>h,λ_ i m=>(m i).elim⟩⟩
 |k::ks,σ,g,h=>by
  simp only[IE]at h;split at h
  .rename_i p T cs z;split at h
   .rename_i l A;have⟨b,D,n,q,r,d⟩:=dTQ g z A;have⟨e,s,E,c⟩:=BW ks _ r (h b D n q);refine⟨e,s,E,⟨λj v T' t F y=>?_,c.ay.trans d.ay,λx j G=>d.au x j (c.au x j G),λb i m=>dTX d c i m⟩⟩;simp only[mem_cons,not_or]at y;have⟨f,u⟩:=d.cells j v T' t F da;exact c.cells j v T' f u y.2
   grind
  grind
theorem clX(G:aL B ι σ a w){k E sz xs}(Q:cr σ.own k=some (some (.au E sz xs))):
 ∃s m',vT σ.m m' σ.h s E sz xs/\aL B ι {(σ.sub k (λ|.au _=>.val s.val|_=>.di)).bl k none with m:=m'} a w/\
  Ld ι σ {(σ.sub k (λ|.au _=>.val s.val|_=>.di)).bl k none with m:=m'} [k]:=by
 have⟨Z,r⟩:=wW G Q
 obtain⟨s,hs⟩:∃s:Sl,ι k=s.val:=by
  rcases r.2 with⟨u,_⟩|⟨g,n,p,u,_⟩
  .exact⟨⟨none,0,0⟩,u⟩
  .exact⟨⟨some ⟨g,0,none⟩,xs.length,n⟩,u⟩
 have l:aL B ι ((σ.sub k (λ|.au _=>.val s.val|_=>.di)).bl k none) a w:=by
  have:=G.drop k (ι k) (G.one k) (λ|.au _=>.val s.val|_=>.di) (by
   intro x v N R;cases x<;>simp only[At.key,ss,reduceCtorEq]at N
   case ptr=>trivial
   case el=>trivial
   case au j=>
    subst N;have R:v=ι j:=R;show v=s.val;rw[R,hs])
  grind[LZ]
 have I:∀m':MH,(∀b,σ.m b=none->m' b≠none->cj (ι k)=some b)->Ld ι σ {(σ.sub k (λ|.au _=>.val s.val|_=>.di)).bl k none with m:=m'} [k]:=by
  intro m' S;refine⟨?_,rfl,λx j N=>TQ (λx j=>da) N,λd O P=>⟨k,bu,S d O P⟩⟩;intro j p' T' T H J;simp only[mem_singleton]at J;refine⟨T.map (At.sub k (λ|.au _=>.val s.val|_=>.di)),?_⟩;simp only[St.bl,St.sub,Cb,Dp,J,false_and,if_false,H];rfl
 rcases r.2 with⟨u,U⟩|⟨g,n,p,u,a',hg,V,W,X,A⟩
 .have D:s=⟨none,0,0⟩:=by
   rw[hs]at u;obtain⟨x,y,z⟩:=s
   grind[Sl.val,Value.slice.injEq]
  subst D;exact⟨⟨none,0,0⟩,σ.m,⟨⟨Z,.inl ⟨rfl,eq_nil_of_length_eq_zero U⟩⟩,λ_ _=>rfl,λb i e=>by cases e⟩,l,I σ.m (λb O P=>(P O).elim)⟩
 .have L:cj (ι k)=some g:=by rw[u];rfl
  have⟨f1,f2,f3⟩:=G.f k _ g Q L
  have D:s=⟨some ⟨g,0,none⟩,xs.length,n⟩:=by
   simp_all[Sl.val,Value.slice.injEq]
  subst D
  let m':MH:=λd=>if d=g then some (.cells p E (0,0))else σ.m d
  have F:∀j M,cr ((σ.sub k (λ|.au _=>.val (Sl.mk (some ⟨g,0,none⟩) xs.length n).val|_=>.di)).bl k none).own j=some (some M)->cj (ι j)≠some g:=by
   intro j M H hb;have⟨F,o1,Y,_⟩:=uS H;exact F (G.eh j k _ _ g Y Q hb L)
  refine⟨⟨some ⟨g,0,none⟩,xs.length,n⟩,m',⟨⟨Z,.inr ⟨g,n,p,rfl,by simp[m'],V,W,X,A⟩⟩,λd f=>?_,λb i e=>?_⟩,⟨l.dq,l.defers,l.own,l.eh,?_,?_,l.one⟩,I m' (λb O P=>?_)⟩
  .grind
  .simp only[ss,Addr.mk.injEq]at e;obtain⟨rfl,_,_⟩:=e;exact⟨f2,f3⟩
  .intro j M d H f;have⟨g1,g2,g3⟩:=l.f j M d H f;refine⟨g1,?_,g3⟩;have:d≠g:=λe=>F j M H (e▸f);show(if d=g then _ else σ.m d)=none;rw[if_neg this];exact g2
  .have q:=G.g;refine⟨q.tape,q.os,q.output,q.drawn,q.size,q.frame,q.F,?_,?_,q.iz,q.hold,?_⟩
   .intro d t f;have c:(if d=g then some (Obj.cells p E (0,0))else σ.m d)=some t:=f;by_cases e:d=g
    .grind
    .rw[if_neg e]at c;exact q.t d t c
   .intro d t f i;have c:(if d=g then some (Obj.cells p E (0,0))else σ.m d)=some t:=f;by_cases e:d=g
    .subst e;exact f3 i
    .rw[if_neg e]at c;exact q.z d t c i
   .intro d t f;have c:(if d=g then some (Obj.cells p E (0,0))else σ.m d)=some t:=f;by_cases e:d=g
    .grind
    .rw[if_neg e]at c;exact q.gc d t c
  grind
theorem F8:∀(ks:tw)(σ:St),aL B ι σ a w->Gp σ K ks->∃e,aL B ι e a w/\K e/\Ld ι σ e ks
 |[],σ,i,h=>⟨σ,i,h,⟨λ_ _ _ cs h _=>⟨cs,h⟩,rfl,λ_ _ h=>h,λ_ l m=>(m l).elim⟩⟩
 |k::ks,σ,i,h=>by
  simp only[Gp]at h;split at h
  .rename_i E F G v;have⟨s,y,f,n,d⟩:=clX i v;have⟨e,p,z,c⟩:=F8 ks _ n (h s y f);refine⟨e,p,z,⟨λj t T' q A u=>?_,c.ay.trans d.ay,λx j D=>d.au x j (c.au x j D),λb l m=>dTX d c l m⟩⟩;simp only[mem_cons,not_or]at u;have⟨g,r⟩:=d.cells j t T' q A da;exact c.cells j t T' g r u.2
  grind
end
end Go.Vc
namespace Go.Vc
open Go List
def GD(w:World):CV->Value->Prop
 |.val v,u=>u=v
 |.au E c b,u=>dA c b/\w.ownsRow 0 E c u b.length b.flatten
 |.dg e,u=>∃d:Array Value,u=.tuple d/\e=d.toList.map .val
def jC:CV->Value->Option Nat
 |.au _ _ _,u=>cj u
 |_,_=>none
def EM(w:World):uc->tm->Prop
 |[],[]=>True
 |c::cs,v::vs=>GD w c v/\EM w cs vs
 |_,_=>False
def xL(m:MH)(d:uc)(vs:tm)(b:Nat):=m b≠none\/∃(i:Nat)(c:_)(u:_),d[i]?=some c/\vs[i]?=some u/\jC c u=some b
structure CJ(w:World)(m:MH)(h:PH)(cvs:uc)(vs:tm):Prop where
 args:EM w cvs vs
 F:∀b o v,h b o=some v->w.cell? ⟨b,o,none⟩=some v
 t:∀b o,m b=some o->w.heap[b]?=some o
 z:∀b o,m b=some o->∀i,h b i=none
 sep:∀(i j:Nat)(c d:_)(u v:_)(b:_),cvs[i]?=some c->vs[i]?=some u->cvs[j]?=some d->vs[j]?=some v->jC c u=some b->jC d v=some b->i=j
 jb:∀(i:Nat)(c:_)(u:_)(b:_),cvs[i]?=some c->vs[i]?=some u->jC c u=some b->m b=none/\∀o,h b o=none
def af(P:Program)(f:FuncId)(S:jo):=
 (∃g,P.funcs[f]?=some g/\g.body.isSome=true/\(g.name== "runtime.NumGoroutine")=false)/\
 ∀c d m h w K,S c m h K->CJ w m h c d->
  Calls P f d.toArray w λe n=>∃r u j l,e=.returned u/\K r j l/\GD n r u/\AV ⟨w,xL m c d,h,[]⟩ j l n/\
   (∀b,jC r u=some b->(w.heap.size<=b\/xL m c d b)/\j b=none/\∀i,l b i=none)
section
variable{B:vU}{C:bk}{ι:tv}{σ:St}{a:Act}{w:World}{o:Oper}{K:St->Prop}
theorem Lf sz:dA sz []:=⟨(λe b=>by cases b),(λe b=>by cases b)⟩
theorem H9(p:aL B ι σ a w){mv:tw}:∀(i:Nat)(l:uf)(t:ut)(f:uc),wH C.P σ mv i l t=some f->
 EM w f (l.map a.eval)/\∀(j:Nat)(c:CV)(u:Value)(b:Nat),f[j]?=some c->(l.map a.eval)[j]?=some u->jC c u=some b->
  ∃x k q,l[j]?=some x/\mv.contains (i+j)=true/\σ.ev x=.at (.au k)/\cr σ.own k=some (some q)/\u=ι k
 |i,[],t,f,h=>by
  simp[wH]at h;subst h;exact⟨trivial,λj c u b H=>by simp at H⟩
 |i,x::r,t,f,h=>by
  simp only[wH]at h;split at h
  .cases h
  .rename_i g m;have⟨n,I⟩:=H9 p (i+1) r t.tail g m
   have d:∀(D:CV),(∀(u:Value)(b:Nat),(a.eval x)=u->jC D u=some b->∃k q,mv.contains i=true/\σ.ev x=.at (.au k)/\cr σ.own k=some (some q)/\u=ι k)->
    ∀(j:Nat)(c:CV)(u:Value)(b:Nat),(D::g)[j]?=some c->((x::r).map a.eval)[j]?=some u->jC c u=some b->
     ∃F k q,(x::r)[j]?=some F/\mv.contains (i+j)=true/\σ.ev F=.at (.au k)/\cr σ.own k=some (some q)/\u=ι k:=by
    grind
   split at h
   .rename_i y;split at h
    .rename_i k v;have e:=p.ev x;rw[v]at e;have e:a.eval x=ι k:=e;split at h
     .rename_i E L M G;simp only[ss]at h;subst h;have⟨J,N⟩:=wW p G;refine⟨⟨⟨J,da⟩,n⟩,d _ (λu b s _=>⟨k,_,y,v,G,da⟩)⟩
     .cases h
    .rename_i v;have e:=p.ev x;rw[v]at e;have e:a.eval x=.slice none 0 0:=e;split at h
     .rename_i E z O;simp only[ss]at h;subst h;refine⟨⟨⟨Lf _,by rw[e];exact World.ownsRow_nil w 0 E _⟩,n⟩,d _ (λu b s A=>?_)⟩;rw[e]at s;subst s;simp[jC,cj]at A
     .cases h
    .cases h
   .split at h
    .rename_i u s;simp only[ss]at h;subst h;exact⟨⟨p.rho s,n⟩,d _ (λu b _ A=>by simp[jC]at A)⟩
    .cases h
theorem F7{mv:tw}:∀(i:Nat)(l:uf)(j:Nat)(x:Operand)(k:Nat),l[j]?=some x->mv.contains (i+j)=true->σ.ev x=.at (.au k)->k∈l7 σ mv i l
 |i,[],j,x,k,h,_,_=>by simp at h
 |i,y::r,0,x,k,h,b,c=>by
  simp_all[l7,Nat.add_zero]
 |i,y::r,j+1,x,k,h,b,c=>by
  simp only[getElem?_cons_succ]at h;have:=F7 (i+1) r j x k h (by rw[show i+1+j=i+(j+1)by omega];exact b) c
  grind[l7]
theorem KW{mv:tw}:∀(i:Nat)(l:uf),O4 (l7 σ mv i l)=true->∀(j b:Nat)(x d:Operand)(k:Nat),l[j]?=some x->l[b]?=some d->
 mv.contains (i+j)=true->mv.contains (i+b)=true->σ.ev x=.at (.au k)->σ.ev d=.at (.au k)->j=b
 |i,[],_,j,_,_,_,_,h,_,_,_,_,_=>by simp at h
 |i,y::r,m,j,b,x,d,k,h,f,q,n,p,e=>by
  have key:∀j x,r[j]?=some x->mv.contains (i+(j+1))=true->σ.ev x=.at (.au k)->∀g,y=g->mv.contains i=true->σ.ev g=.at (.au k)->False:=by
   grind[l7,O4,F7]
  have c:O4 (l7 σ mv (i+1) r)=true:=by
   grind[l7,O4]
  cases j with
  |zero=>
   grind
  |succ j=>
   cases b with
   |zero=>
    grind
   |succ b=>
    simp only[getElem?_cons_succ]at h f;have:=KW (i+1) r c j b x d k h f da da p e;rw[this]
theorem KX:∀(ks:tw)(σ:St),aL B ι σ a w->aL B ι (Ec σ ks) a w/\(Ec σ ks).m=σ.m/\(Ec σ ks).h=σ.h/\
 (∀j b,cr (Ec σ ks).own j=some (some b)->j∉ks/\∃e,cr σ.own j=some (some e))
 |[],σ,d=>⟨d,rfl,rfl,λj b h=>⟨bu,b,h⟩⟩
 |k::ks,σ,d=>by
  have f:=d.fo k (ι k) (d.one k);rw[LZ]at f;have⟨g,i,l,n⟩:=KX ks (σ.fo k) f;refine⟨g,i,l,λj b p=>?_⟩;have⟨s,e,c⟩:=n j b p;rw[R0]at c;have⟨q,t,r,_⟩:=uS c
  grind
theorem AV.trans{m m' h j w w' E}(d:AV B m h w)(c:AV ⟨w,E,h,[]⟩ m' j w')(q:∀b,E b->B.w0.heap.size<=b\/B.E b):AV B m' j w':=by
 refine⟨c.tape.trans d.tape,c.os.trans d.os,c.output.trans d.output,tf d.drawn c.drawn,tf d.size c.size,?_,c.F,c.t,c.z,λb o v n=>c.iz b o v (d.iz b o v n),?_,?_⟩
 .intro b f i
  have g:¬E b:=λe=>by
   grind
  rw[c.frame b (tg f d.size) g];exact d.frame b f i
 .intro b f i
  have g:¬E b:=λe=>by
   grind
  rw[c.hold b (tg f d.size) g];exact d.hold b f i
 .intro b p f;rcases c.gc b p f with l|l
  .exact .inl (tf d.size l)
  grind
theorem aL.nk{m' p w' E}(d:aL B ι σ a w)(n:AV ⟨w,E,σ.h,[]⟩ m' p w')(r:∀b,E b->B.w0.heap.size<=b\/B.E b)(e:∀j f b,cr σ.own j=some (some f)->cj (ι j)=some b->¬E b):aL B ι {σ with m:=m',h:=p} a w':=by
 refine⟨d.dq,d.defers,?_,d.eh,?_,d.g.trans n r,d.one⟩
 .intro j f g;have c:=d.own j f g;exact c.world (λb l=>n.frame b (uM c l) (e j f b g l))
 .intro j f b g l;have c:=d.own j f g;have⟨s,z,A⟩:=d.f j f b g l;have q:=uM c l;have t:=e j f b g l;refine⟨s,?_,λi=>?_⟩
  .show m' b=none;cases u:m' b with
   |none=>rfl
   |some v=>
    rcases n.gc b v u with y|y
    .grind
    grind
  .have:p b=σ.h b:=n.hold b q t;simp_all
theorem L4:∀{d:uc}{l:List (Sum At ue)}{us:tm},GF d=some l->d=us.map .val->Uk ι l us
 |[],l,us,h,b=>by
  simp[GF]at h;subst h;cases us with
  |nil=>trivial
  |cons u us=>simp at b
 |.val v::r,l,us,h,b=>by
  cases us with
  |nil=>simp at b
  |cons u us=>
   simp only[map_cons,List.cons.injEq,CV.val.injEq]at b;simp only[GF]at h;split at h
   .rename_i e c;simp only[ss]at h;subst h;exact⟨b.1.symm,L4 c b.2⟩
   .cases h
 |.au _ _ _::_,l,us,h,_=>by simp[GF]at h
 |.dg _::_,l,us,h,_=>by simp[GF]at h
theorem Qy{E sz n v l}(h:w.ownsRow 0 E sz v n l):v.oneCell'=true:=by
 rcases h.2 with⟨rfl,_⟩|⟨g,b,c,rfl,_⟩<;>rfl
theorem Qv{σ:St}{k:Nat}:∀{l:uf},k∈uZ σ l->∃x∈l,∃off,σ.ev x=.at (.ptr k off)
 |[],h=>by cases h
 |x::r,h=>by
  have b:=λh=>Qv (σ:=σ) (k:=k) (l:=r) h
  grind[uZ,mem_cons_of_mem]
theorem bhZ(W:∀g S,cg C.cq g=some S->af C.P g S)(hM:aL B ι σ a w){c g f fs cs}(ho:o.op=.call c)(hc:c.callee=.value g)(hg:σ.ev g=.at (.val (.func (.func f) fs cs)))(e8:fs.toList=[])(e9:cs.toList=[])(h:bhJ C o f c.args.toList c.argTypes.toList σ K):YB B C ι o σ K a w:=by
 intro next Q G
 unfold bhJ at h;split at h
 .exact h.elim
 .rename_i S hS;have⟨⟨fn,c2,c3,c4⟩,X⟩:=W f S hS;have⟨τ,c5,h,J⟩:=sU _ _ hM h;have⟨υ,q,h,Y⟩:=BW _ _ c5 h;split at h
  .rename_i O b0 c6;generalize Kb C f=mv at*
   have⟨R,z⟩:=H9 q 0 _ _ _ b0
   have b1:CJ w υ.m υ.h O (c.args.toList.map a.eval):=by
    refine⟨R,q.g.F,q.g.t,q.g.z,?_,?_⟩
    .intro i j A d1 u v b M hu hj hv U a3;obtain⟨x,k,ow,Z,hm,hk,t,rfl⟩:=z i A u b M hu U;obtain⟨x',V,f',a4,c7,a',a5,rfl⟩:=z j d1 v b hj hv a3;have y:cj (ι k)=some b:=by cases A<;>simp[jC]at U;exact U
     have D:cj (ι V)=some b:=by cases d1<;>simp[jC]at a3;exact a3
     have c8:=q.eh k V _ _ b t a5 y D;subst c8;exact KW (σ:=υ) (mv:=mv) 0 c.args.toList c6 i j x x' k Z a4 hm c7 hk a'
    .intro i A u b M hu U;obtain⟨x,k,ow,Z,hm,hk,t,rfl⟩:=z i A u b M hu U;have y:cj (ι k)=some b:=by cases A<;>simp[jC]at U;exact U
     exact(q.f k ow b t y).2
   have a6:=X O _ υ.m υ.h w _ h b1;have c9:a.eval g=.func (.func f) fs cs:=by have:=hM.ev g;rw[hg]at this;exact this
   have b3:fs=#[]:=da
   have b4:cs=#[]:=da
   subst b3 b4;have a0:c.args.map a.eval=(c.args.toList.map a.eval).toArray:=da
   have d':¬fn.body=none:=da
   have d0:¬fn.name= "runtime.NumGoroutine" :=da
   have b5:(execOp a.eval o).run C.P w=.ok (.enter f (c.args.toList.map a.eval).toArray) w:=by
    unfold execOp;simp only[ho,resolve,hc,c9,Deferred.ofValue,Sem.run_bind,Sem.run_pure,Result.andThen_ok,invoke,callFunc];simp[program,Sem.run,c2,d0,d',a0]
   unfold Oper.wp;rw[b5,Oper.upon_enter];refine Calls.mono a6 ?_;rintro e w'⟨r,u,m',h',rfl,hK,hr,hw,U⟩;show next (a.put o.dst u) w'
   have⟨b6,f0,f4,a7⟩:=KX (l7 υ mv 0 c.args.toList) υ q
   have b7:∀b,xL υ.m O (c.args.toList.map a.eval) b->B.w0.heap.size<=b\/B.E b:=by
    rintro b (L|⟨i,A,N,M,F,s⟩)
    .cases H:υ.m b with
     |none=>grind
     |some ob=>exact q.g.gc b ob H
    .obtain⟨x,k,ow,Z,H,hk,t,rfl⟩:=z i A N b M F s;have y:cj (ι k)=some b:=by cases A<;>simp[jC]at s;exact s
     exact(q.f k ow b t y).1
   have a8:∀j o' b,cr (Ec υ (l7 υ mv 0 c.args.toList)).own j=some (some o')->cj (ι j)=some b->¬xL υ.m O (c.args.toList.map a.eval) b:=by
    intro j o' b hj a1 b8;have⟨b9,o1,c'⟩:=a7 j o' hj;rcases b8 with L|⟨i,A,N,M,F,s⟩
    .exact L (q.f j o1 b c' a1).2.1
    .obtain⟨x,k,ow,Z,H,hk,t,rfl⟩:=z i A N b M F s;have y:cj (ι k)=some b:=by cases A<;>simp[jC]at s;exact s
     have:=q.eh j k _ _ b c' t a1 y;subst this;exact b9 (F7 0 _ i x j Z aC hk)
   have a9:aL B ι {Ec υ (l7 υ mv 0 c.args.toList)with m:=m',h:=h'} a w':=by
    refine b6.nk (E:=xL υ.m O (c.args.toList.map a.eval)) ?_ b7 a8
    grind
   have I:LS σ ι o w w':=by
    constructor
    .intro k p T d2 b hk ht hι;have⟨d3,d4⟩:=J.cells k p T d2 hk;have d5:=Se J ht
     have d6:k∉uZ τ c.args.toList:=by
      unfold B9 at d5
      grind
     have⟨f5,a2⟩:=Y.cells k p T d3 d4 d6;have y:cj (ι k)=some b:=by rw[hι];rfl
     refine hw.frame b (uM (q.own k _ a2) y) ?_;rintro(L|⟨i,A,N,M,F,s⟩)
     .exact L (q.f k _ b a2 y).2.1
     .obtain⟨x,V,ow,Z,H,a',t,rfl⟩:=z i A N b M F s;have D:cj (ι V)=some b:=by cases A<;>simp[jC]at s;exact s
      have:=q.eh k V _ _ b a2 t y D;subst this;cases A<;>simp[jC]at s;rename_i E1 f6 f7;have b':=q.own k _ a2;obtain⟨b2,f8,e2,_,_⟩:=b'
      have e5:∃ad n cp,ι k=.slice ad n cp:=by
       have c0:∀(l:uc)(vs:tm),EM w l vs->∀(i:Nat)(A:CV)(N:Value),l[i]?=some A->vs[i]?=some N->GD w A N:=by
        intro l
        induction l with
        |nil=>grind
        |cons x0 r0 d7=>
         intro vs hv i A N h1 h2;cases vs with
         |nil=>exact hv.elim
         |cons v0 d8=>
          cases i with
          |zero=>simp at h1 h2;subst h1 h2;exact hv.1
          |succ i=>simp at h1 h2;exact d7 d8 hv.2 i A N h1 h2
       have:=c0 _ _ R i _ _ M F;rcases this.2.2 with⟨e3,_⟩|⟨g3,e6,e7,e3,_⟩
       .grind
       grind
      grind
    .intro b off v hv;have h1:=J.ay b off v hv;rw[<-Y.ay]at h1;exact hw.F b off v (hw.iz b off v h1)
    .intro hg;rw[ho]at hg;simp[CQ]at hg
    .intro l b hl U L Z;have hl:c.args.toList=l:=by simpa[vZ,ho,hc]using hl
     refine hw.frame b U ?_;rintro(H|⟨i,A,N,M,F,s⟩)
     .have⟨k,hk,y⟩:=Y.m_ b (by rw[J.m_];exact L) H;have⟨x,d9,off,e'⟩:=Qv hk;exact Z x (hl▸d9) k (.inr ⟨off,J.ptr x k off e'⟩) y
     .obtain⟨x,V,ow,a4,H,a',t,rfl⟩:=z i A N b M F s;have D:cj (ι V)=some b:=by cases A<;>simp[jC]at s;exact s
      exact Z x (hl▸si a4) V (.inl (J.au x V (Y.au x V a'))) D
   unfold dAJ at hK;split at hK
   .rename_i v;exact G ι _ _ _ (a9.put o.dst (x:=.at (.val v)) hr) hK I
   .rename_i E sz xs;split at hK
    .rename_i d hd;rw[hd];generalize (l7 υ mv 0 c.args.toList).headD d=kd at hK;refine G (dv ι kd u) _ _ _ (aL.put ?_ (some d) (x:=.at (.au kd)) (by show _=_;simp)) hK I;refine a9.adopt kd _ u ⟨hr.1,hr.2⟩ (Qy hr.2) (λb e0=>?_);have⟨f1,f2,f3⟩:=U b e0;refine⟨⟨?_,f2,f3⟩,?_⟩
     .rcases f1 with f1|f1
      .exact .inl (tf q.g.size f1)
      grind
     .intro j o' _ hj a1;have e1:cr (Ec υ (l7 υ mv 0 c.args.toList)).own j=some (some o'):=hj;rcases f1 with f1|f1
      .have:=uM (b6.own j o' e1) a1;omega
      grind
    grind
   .rename_i rs;split at hK
    .rename_i l hl;obtain⟨us,rfl,e4⟩:=hr;exact G ι _ _ _ (a9.put o.dst (x:=.dg l) ⟨us,rfl,L4 hl e4⟩) hK I
    grind
  grind
end
end Go.Vc
