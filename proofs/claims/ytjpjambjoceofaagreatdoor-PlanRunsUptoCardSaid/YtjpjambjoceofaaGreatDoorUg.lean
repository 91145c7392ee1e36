/- Own work. -/
import Derived.Test.YtjpjambjoceofaaGreatDoorUf
set_option linter.unusedVariables false
set_option linter.unusedSimpArgs false
namespace Go.Ps
open Go Go.Vc Go.Proofs List Tryz
variable{K:dk}{m:MH}{h:PH}{s:lL}{ps:dl}{cb:Nat}{sc:bX}{v:QV}{q:Query}{p:Pred}{l:dl}{i:Nat}{N:Nat}{m':MH}{h':PH}{co:dl}{gr:dl}{od:dr}{w:Pred}{ta:Int}{li:Int}{xs:List dj}{sz:Nat}{k:Nat}{ks:List dl}{rs:dl}{r:Sl}{a:dl}{b:Nat}
structure VOk(v:VV):Prop where
 kind:l8 v.kind
 int:l8 v.int
 text:v.text.size<=64
structure U6(r:dp):Prop where
 len:r.length<=12
 val:∀v∈r,VOk v
def pick(r:dp)(cols:dl):dp:=cols.map λc=>r.getD c.toNat zeroV
structure fS(n:Nat)(cols:dl):Prop where
 at_:∀c∈cols,0<=c/\c<n
 len:cols.length<=100000
def gH(on:dq):dl:=on.map Prod.fst
def fV(on:dq):dl:=on.map Prod.snd
def aiZ:Vc.Spec:=λc m h K=>∃s on,c=[cS s]/\jA h s on/\∀a b h',PH.le h h'->Ints h' a (gH on)->Ints h' b (fV on)->K (.tup [cS a,cS b]) m h'
def X1:Vc.Spec:=λd m h K=>∃s t r c,d=[cS s,cS t]/\bT h s r/\Ints h t c/\fS r.length c/\K (cB ((pick r c).all jH)) m h
def bMJ:Vc.Spec:=λc m h K=>∃n:Nat,c=[.val (.slice none 0 0),cI n]/\n<=1000/\K (.lst 27 3 []) m h
def XW:Vc.Spec:=λc m h K=>∃d rs,c=[cS d]/\Rows h d rs/\rs.length<=10/\(∀r∈rs,r.length<=12)/\∀e h',PH.le h h'->bT h' e rs.flatten->K (cS e) m h'
noncomputable def bjJ(s:Sl)(m:MH)(h:PH):Ctx:=
 cT [] [(2,{A:=Nat×dl×dl,st:=λ⟨i,l,k⟩=>bO 25 26 [(2,.at (.lst 16)),(3,.at (.lst 21)),(6,sv s),(7,iv s.len),(8,iv i)] [(16,.lst 3 1 (l.map eI)),(21,.lst 3 1 (k.map eI))] m h})] [] [] false
noncomputable def bjZ(s t:Sl)(m:MH)(h:PH):Ctx:=
 cT [(186,NA)] [(2,{A:=Nat,st:=λi=>bO 20 22 [(0,sv s),(7,sv t),(8,iv t.len),(9,iv i)] [] m h})] [] [] false
noncomputable def bqJ(c:Sl)(m:MH)(h:PH):Ctx:=
 cT [(254,bMJ)] [(3,{A:=Nat×Nat,st:=λ⟨i,n⟩=>bO 36 37 [(0,sv c),(3,iv n),(9,sv c),(10,iv c.len),(11,iv i)] [] m h}),
  (11,{A:=Nat×dp,st:=λ⟨i,l⟩=>bO 36 37 [(6,.at (.lst 24)),(25,sv c),(26,iv c.len),(27,iv i)] [(24,.lst 27 3 (l.map VV.enc))] m h})] [] [] false
def Me(s:Sl)(m:MH)(h:PH)(K:dk):Prop:=
  ∃(I:Nat×dl×dl->Prop)(d:Nat×dl×dl->Nat),(∃(x:Nat×dl×dl),aA (I x) (eL 16) (aA (eL 21) (aH s) (aA (aY s) (aZ x.1) (aA (xP x.2.1) (xP x.2.2) (bG m m h h)))))/\∀(x:Nat×dl×dl),I x->aW (↑x.1:Int) (aF s) (aJ (λb o=>aI (aK s.a b o) (0<=(↑x.1:Int)) ((↑x.1:Int)<aF s) (∃(y:Int×Int),aA (aR m h b (bE o x.1 2) (oD y)) (bY 0) (aA ((0:Int)<2) (j4 (nY (dT x.2.1) 1*8)) (aA (zY (dT x.2.1)) (bY 1) (aA ((1:Int)<2) (j4 (nY (dT x.2.2) 1*8)) (zY (dT x.2.2)/\∃(c:Nat×dl×dl),aA (I c) (d c<d x) (aA (eL 16) (eL 21) (aA (aH s) (aY s) (aA (eR (bF ((↑x.1:Int)+1))=bL c.1) (gU (eG (dT x.2.1) (bQ y.1)) c.2.1) (bS
 (gU (eG (dT x.2.2) (bQ y.2)) c.2.2) m m h h))))))))))) (bU h 1 (dT x.2.1) (λe f=>bU f 1 (dT x.2.2) (λg j=>K (CV.tup (dK e g)) m j)))
def Md(s t:Sl)(m:MH)(h:PH)(K:dk):Prop:=
  j6 (λI x=>aA (I x) (aH s) (aA (aH t) (aY t) (bS (aZ x) m m h h))) (λI d x=>I x->aW (↑x:Int) (aF t) (aJ (λb o=>aI (aK t.a b o) (0<=(↑x:Int)) ((↑x:Int)<aF t) (∃(y:Int),aR m h b (bE o x 1) (bQ y)/\aJ (λe f=>aI (aK s.a e f) (0<=y) (y<aF s) (∃(g:VV),aR m h e (cC f y 3) g.enc/\∃(v:VV),yG (mW g=mW v) (jH v) K m h (λc=>aA (I c) (d c<d x) (aA (aH s) (aH t) (aA (aY t) (eR (bF ((↑x:Int)+1))=bL c) (aA (m=m) (h=h) True))))))))) (K dR m h))
def Sv(n:Nat)(m:MH)(h:PH)(K:dk):Prop:=
  Od n 0 32 (xH (bF ((↑n:Int)-0)) yP) (K (CV.lst 27 3 []) m h)
noncomputable abbrev kR(a:dp):List dj:=List.map VV.enc a
attribute [push_cast] kR
def SU(d:Sl)(m:MH)(h:PH)(K:dk):Prop:=
  HN (λI x=>aA (I x) (aH d) (aA (aZ x.2) (aH d) (aA (aY d) (aZ x.1) (aA (m=m) (h=h) True)))) (λI g x=>I x->aW (↑x.1:Int) (aF d) (aJ (λb o=>aI (aK d.a b o) (0<=(↑x.1:Int)) ((↑x.1:Int)<aF d) (∃(y:Sl),aR m h b (bE o x.1 1) (aM y)/\aW (bF ((↑x.2:Int)+aF y)) 0 False (∃(c:Nat×Nat),aA (I c) (g c<g x) (aA (aH d) (Oe x y c) (aA (aH d) (aY d) (aA (eR (bF ((↑x.1:Int)+1))=bL c.1) (m=m) (bR h h)))))))) (∃(n:Nat),aA (E7 x.2=E7 n) (nA n) (∃(I1:Nat×dp->Prop)(j:Nat×dp->Nat),(∃(c:Nat×dp),aA (I1 c) (eL 24) (aA (aH d) (aY d) (aA (aZ c.1) (u9 27 3 (kR c.2)) (aA (m=m) (h=h) True))))/\∀(c:Nat×dp),I1 c->aW (↑c.1:Int) (aF d)
 (aJ (λb o=>aI (aK d.a b o) (0<=(↑c.1:Int)) ((↑c.1:Int)<aF d) (∃(y:Sl),aR m h b (bE o c.1 1) (aM y)/\∃(e:List dj),aA (cZ 3 e) (cE h (cX y) 3 e) (aA (mI (kR c.2) e 32) (mC (kR c.2) e) (∃(f:Nat×dp),aA (I1 f) (j f<j c) (aA (eL 24) (aH d) (aA (aY d) (eR (bF ((↑c.1:Int)+1))=bL f.1) (aA (bW 27 3 (kR c.2++e)=bW 27 3 (kR f.2)) (m=m) (bR h h))))))))) (bU h 3 (kR c.2) (λs t=>K (F9 s) m t)))))
theorem VQ{r:dp}{cols:dl}(e:fS r.length cols){v:VV}(f:v∈pick r cols):v∈r:=by
 obtain⟨c,d,rfl⟩:=mem_map.1 f;have:=e.at_ c d
 grind
theorem Um{r:dp}{cols:dl}{i:Nat}{c:Int}(d:fS r.length cols)(e:cols[i]? =some c):∃v,r[c.toNat]? =some v/\(pick r cols)[i]? =some v/\0<=c/\c<r.length:=by
 have:=d.at_ c (cr e);refine⟨r[c.toNat]'(by omega),cq _,?_,this⟩;unfold pick
 grind
theorem b4Z{s:Sl}{on:dq}(f:jA h s on)(z:∀a b h',PH.le h h'->Ints h' a (gH on)->Ints h' b (fV on)->K (.tup [cS a,cS b]) m h'):Me s m h K:=by
 dsimp only[Me,push_cast];have g:=f.slen;have E:=f.len;refine⟨λx=>x.1<=on.length/\x.2.1=(on.take x.1).map Prod.fst/\x.2.2=(on.take x.1).map Prod.snd,λx=>on.length-x.1,⟨(0,[],[]),⟨bx,bx,bx⟩,MT⟩,?_⟩;rintro⟨i,l,k⟩ ⟨A,t,u⟩;dsimp only at A t u;subst t u;refine aD (λc=>?_) (λj=>?_)
 .dsimp only at c;obtain⟨p,y⟩:=dO g c;obtain⟨b,o,e,rd⟩:=jA.at f y;refine⟨b,o,e,aC,c,p,.imm rd,aC,aC,?_,?_,aC,aC,?_,?_,(i+1,(on.take (i+1)).map Prod.fst,(on.take (i+1)).map Prod.snd),⟨aC,rfl,rfl⟩,cg,?_⟩
  all_goals (try (simp only[length_map,length_take];omega))
  dsimp only;rw[db,y,Option.toList_some,cv,cv,cv,cv];exact MT
 .dsimp only at j⊢
  rw[cu aC];intro a F n B b C d D;exact z a b C (n.trans d) ⟨B.mono d,by simp[gH];omega⟩ ⟨D,by simp[fV];omega⟩
theorem b4X{s t:Sl}{r:dp}{cols:dl}(z:bT h s r)(A:Ints h t cols)(B:fS r.length cols)(g:K (cB ((pick r cols).all jH)) m h):Md s t m h K:=by
 dsimp only[Md,push_cast];have E:=bI.slen z;have n:=A.slen;have F:=B.len;have G:(pick r cols).length=cols.length:=by simp[pick]
 refine⟨λi=>i<=cols.length/\∀j:Nat,j<i->∀v,(pick r cols)[j]? =some v->jH v=true,λi=>cols.length-i,⟨0,⟨aC,λj C=>by omega⟩,MT⟩,λi⟨R,D⟩=>aD (λd=>?_) (λH=>?_)⟩
 .obtain⟨c,f⟩:=dO n d;obtain⟨b,o,e,rd⟩:=A.at f;obtain⟨v,x,I,J,S⟩:=Um B f;obtain⟨L,M,w,O,y,rfl⟩:=bI.at z x;refine⟨b,o,e,aC,d,c,.imm cg,L,M,O,J,aC,v,.imm y,v,rfl,aB (λP=>?_) (λT=>⟨i+1,⟨aC,λj C u U=>?_⟩,(show cols.length-(i+1)<cols.length-i by omega),MT⟩)⟩
  .have:(pick r cols).all jH=false:=by
    grind
   rw[this]at g;exact g
  grind
 .have:(pick r cols).all jH=true:=by
   rw[all_eq_true];intro v Q;obtain⟨j,C⟩:=getElem?_of_mem Q
   grind
  rw[this]at g;exact g
theorem YT:di 254 bMJ:=by
 refine fU func254 ?_;rintro d m h K ⟨n,rfl,f,c⟩;refine⟨cT [] [] [] [] true,rfl,aG,Sv n m h K,bu,?_⟩;dsimp only[Sv,push_cast];have e:IntKind.i64.wrap ((n:Int)-0)=n:=by rw[dL aC aC];omega
 have g:IntKind.i64.wrap ((n:Int)-IntKind.i64.wrap (0-0))=n:=by rw[show IntKind.i64.wrap (0-0)=0 from by rw[dL aC aC];rfl,e]
 exact aD (λj=>⟨aC,aC,aC,aC,aC,aC,aC,c⟩) (λ_=>c)
theorem Bw{α:Type}{ks:List (List α)}{k:List α}(c:ks[i]? =some k):((ks.take (i+1)).map List.length).sum=((ks.take i).map List.length).sum+k.length:=by
 rw[db,c];simp
theorem IP{α:Type}{ks:List (List α)}(h:∀k∈ks,k.length<=12):∀i,((ks.take i).map List.length).sum<=12*i
 |0=>bx
 |i+1=>by
  have c:=IP h i;cases e:ks[i]? with
  |none=>rw[db,e];grind
  |some k=>rw[Bw e];grind
theorem Zw:di 191 XW:=by
 refine fU func191 ?_;rintro I m h K ⟨E,ks,rfl,y,T,d,J⟩;refine⟨bqJ E m h,rfl,aE YT aG,SU E m h K,bu,?_⟩;dsimp only[SU,push_cast];have j:=bI.slen y;refine⟨λ⟨i,n⟩=>i<=ks.length/\n=((ks.take i).map List.length).sum,λ⟨i,_⟩=>ks.length-i,⟨(0,0),⟨aC,bx⟩,MT⟩,?_⟩;rintro⟨i,n⟩ ⟨F,rfl⟩;dsimp only;have L:=IP d i;refine aD (λc=>?_) (λt=>?_)
 .obtain⟨k,e⟩:=dO j c;obtain⟨b,o,g,z,r,f⟩:=bI.at y e;have M:=bI.slen f;have u:=d k (cr e)
  have O:IntKind.i64.wrap (((((ks.take i).map List.length).sum:Nat):Int)+(g.len:Int))=((((ks.take (i+1)).map List.length).sum:Nat):Int):=by
   rw[Bw e,dL aC aC];omega
  refine⟨b,o,z,aC,c,g,.imm r,?_⟩;rw[O];exact aD (λG=>by omega) (λ_=>⟨(i+1,((ks.take (i+1)).map List.length).sum),⟨aC,rfl⟩,aC,MT⟩)
 .refine⟨((ks.take i).map List.length).sum,rfl,aC,?_⟩;refine⟨λ⟨i,l⟩=>i<=ks.length/\l=(ks.take i).flatten,λ⟨i,_⟩=>ks.length-i,⟨(0,[]),⟨aC,bx⟩,MT⟩,?_⟩;clear L t F;rintro⟨i,l⟩ ⟨F,rfl⟩;dsimp only;have P:(ks.take i).flatten.length<=12*i:=by have:=IP d i;grind
  refine aD (λc=>?_) (λt g h' A H=>J g h' A ⟨⟨ks.flatten,?_,rfl,λi x Q=>⟨x,Q,rfl⟩⟩,?_⟩)
  .obtain⟨k,e⟩:=dO j c;obtain⟨b,o,g,z,r,f⟩:=bI.at y e;have u:=d k (cr e);obtain⟨B,C,R,S⟩:=f.ex
   have D:B=k:=by
    apply ext_getElem?
    grind
   subst D;refine⟨b,o,z,aC,c,g,.imm r,B.map VV.enc,Cf B,C,?_,?_,(i+1,(ks.take (i+1)).flatten),⟨aC,rfl⟩,aC,?_⟩
   .grind
   .grind
   .rw[db,e,Option.toList_some,flatten_append,cv,flatten_cons,flatten_nil,append_nil];exact MT
  .grind
  grind
theorem UO:∀(u:Nat)(b:UInt8),b∈Lib.decDigits u->48<=b.toNat/\b.toNat<=57:=by
 intro u
 induction u using Nat.strongRecOn with
 |_ u d=>
  intro b c;rw[Lib.decDigits]at c
  have one:∀k,k<10->48<=(UInt8.ofNat (48+k)).toNat/\(UInt8.ofNat (48+k)).toNat<=57:=λk e=>by
   rw[UInt8.toNat_ofNat'];omega
  grind
theorem auJ:∀(u v:Nat),Lib.decDigits u=Lib.decDigits v->u=v:=by
 intro u
 induction u using Nat.strongRecOn with
 |_ u g=>
  intro v h;have f:=congrArg List.length h;rw[Lib.decDigits_length,Lib.decDigits_length]at f
  have one:∀a b,a<10->b<10->UInt8.ofNat (48+a)=UInt8.ofNat (48+b)->a=b:=λa b j n e=>by
   have:=congrArg UInt8.toNat e;rw[UInt8.toNat_ofNat',UInt8.toNat_ofNat']at this;omega
  by_cases d:u<10
  .have c:v<10:=by
    apply Classical.byContradiction;intro c;rw[Lib.nDigits_small d,Lib.nDigits_big c]at f;have:=Lib.nDigits_pos (v/10);omega
   rw[Lib.decDigits.eq_def u,Lib.decDigits.eq_def v,dif_pos d,dif_pos c]at h
   grind
  .have c:¬v<10:=λc=>by
    grind
   rw[Lib.decDigits.eq_def u,Lib.decDigits.eq_def v,dif_neg d,dif_neg c]at h;have o:=append_inj' h rfl
   grind
theorem Rt{n:Int}(c:0<=n)(d:n<18446744073709551616):IntKind.u64.wrap n=n:=by
 rw[IntKind.wrap_u64];omega
theorem aFX{n:Int}(c:n<0)(d: -9223372036854775808<=n):IntKind.u64.wrap (0-IntKind.u64.wrap n)= -n:=by
 rw[IntKind.wrap_u64,IntKind.wrap_u64];omega
theorem DZ{n:Int}(h:l8 n)(c:0<=n):l7 n=Lib.decDigits n.toNat:=by
 unfold l7;rw[if_neg aC,Rt c (by have:=h.2;omega)]
theorem D0{n:Int}(h:l8 n)(c:n<0):l7 n=45::Lib.decDigits (-n).toNat:=by
 unfold l7;rw[if_pos c,aFX c h.1]
theorem aMX{m n:Int}(c:l8 m)(d:l8 n)(h:l7 m=l7 n):m=n:=by
 have f:∀u r,Lib.decDigits u=45::r->False:=λu r e=>by
  have:=UO u 45 cg
  grind
 by_cases g:0<=m<;>by_cases j:0<=n
 .rw[DZ c g,DZ d j]at h;have:=auJ _ _ h;omega
 .rw[DZ c g,D0 d aC]at h
  grind
 .rw[D0 c aC,DZ d j]at h
  grind
 .rw[D0 c aC,D0 d aC]at h;have:=auJ _ _ (List.cons.inj h).2;omega
theorem VB{α:Type}{x:α}:∀{a b r r':List α},x∉a->x∉b->a++x::r=b++x::r'->a=b/\r=r'
 |[],[],r,r',_,_,h=>⟨rfl,(List.cons.inj h).2⟩
 |[],c::b,r,r',_,e,h=>by
  grind
 |c::a,[],r,r',f,_,h=>by
  grind
 |c::a,d::b,r,r',f,e,h=>by
  have g:=List.cons.inj h;obtain⟨j,n⟩:=VB (λm=>f (by simp[m])) (λm=>e (by simp[m])) g.2
  grind
structure a4J(κ:dp->ByteArray):Prop where
 inj:∀{a b:dp},a.length=b.length->(∀v∈a,VOk v)->(∀v∈b,VOk v)->(κ a=κ b↔a=b)
structure Step where
 op:Int
 table:Int
 wher:Pred
 columns:dl
 on:dq
 group:dl
 order:dr
 limit:Int
 left:Int
 right:Int
abbrev dv:=List Step
variable{ts:dv}{t:Step}
def Step.query(t:Step):Query:=.mk t.op t.table t.wher t.columns t.on t.group t.order t.limit []
structure kW(h:PH)(t:Step)(v:gA):Prop where
 op_:v.op=t.op
 table_:v.table=t.table
 where_:dX h t.wher v.where_
 columns_:Ints h v.columns t.columns
 on_:jA h v.on t.on
 group_:Ints h v.group t.group
 order_:iV h v.order t.order
 limit_:v.limit=t.limit
 left_:v.left=t.left
 right_:v.right=t.right
theorem kW.mono{v:gA}(x:kW h t v)(le:PH.le h h'):kW h' t v:=⟨x.op_,x.table_,x.where_.mono le,x.columns_.mono le,x.on_.mono le,x.group_.mono le,x.order_.mono le,x.limit_,x.left_,x.right_⟩
def aT(v:gA):CV:=.val (.agg ⟨v.enc⟩)
def kN(l:dl):dw:=l.flatMap λn=>l7 n++[32]
def yW(v:VV):dw:=kN [v.kind]++(l7 v.int++[32])++kN [(v.text.size:Int)]++v.text.data.toList
def F7(o:OV):dw:=kN [o.kind,o.index]++yW o.value
mutual
def mS:Pred->dw
 |.mk op c l r args=>kN [op,c]++F7 l++F7 r++kN [(args.length:Int)]++lA args
def lA:dx->dw
 |[]=>[]
 |p::ps=>mS p++lA ps
end
theorem lB:∀l:dl,(kN l).length<=22*l.length
 |[]=>by simp[kN]
 |n::l=>by
  have:=lB l;have c:=Ib n;unfold kN at this⊢
  grind
def XZ:Vc.Spec:=λc m h K=>∃xs s l,c=[.lst 5 1 xs,cS s]/\Ints h s l/\gS m/\xs.length+22*l.length+100<=140737488355328/\K (.lst 5 1 (xs++bH (kN l))) m h
def bQX:Vc.Spec:=λc m h K=>∃xs v,c=[.lst 5 1 xs,aV v]/\gS m/\xs.length+v.text.size+500<=140737488355328/\K (.lst 5 1 (xs++bH (yW v))) m h
def cmQ:Vc.Spec:=λc m h K=>∃xs o,c=[.lst 5 1 xs,aO o]/\gS m/\xs.length+o.value.text.size+1000<=140737488355328/\K (.lst 5 1 (xs++bH (F7 o))) m h
def clZ(N:Nat):Vc.Spec:=λc m h K=>∃xs v p,c=[.lst 5 1 xs,aP v]/\dX h p v/\SizeOf.sizeOf p<N/\gS m/\xs.length+(mS p).length+5000<=140737488355328/\K (.lst 5 1 (xs++bH (mS p))) m h
def clJ:Vc.Spec:=λc m h K=>∃xs v p,c=[.lst 5 1 xs,aP v]/\dX h p v/\gS m/\xs.length+(mS p).length+5000<=140737488355328/\K (.lst 5 1 (xs++bH (mS p))) m h
noncomputable def blX(s:Sl)(m:MH)(h:PH):Ctx:=
 cT [(256,X0)] [(2,{A:=Nat×List dj,st:=λ⟨i,xs⟩=>bO 21 23 [(0,.at (.lst 21)),(7,sv s),(8,iv s.len),(9,iv i)] [(21,.lst 5 1 xs)] m h})] [] [(256,[0])] true
def Su(xs:List dj)(s:Sl)(m:MH)(h:PH)(K:dk):Prop:=
  ∃(I:Nat×List dj->Prop)(e:Nat×List dj->Nat),(∃(x:Nat×List dj),aA (I x) (eL 21) (aA (aH s) (aY s) (aA (aZ x.1) (bW 5 1 xs=bW 5 1 x.2) (aA (m=m) (h=h) True))))/\∀(x:Nat×List dj),I x->aW (↑x.1:Int) (aF s) (aJ (λb o=>aI (aK s.a b o) (0<=(↑x.1:Int)) ((↑x.1:Int)<aF s) (∃(y:Int),aR m h b (bE o x.1 1) (bQ y)/\∃(c:List dj)(i:Int),aA (Ev x.2 y=Ev c i) (gS m) (aA (j4 (nY c 40)) (j4 (nY (jL c (l7 i)) 1*1)) (zY (jL c (l7 i))/\∃(d:Nat×List dj),aA (I d) (e d<e x) (aA (eL 21) (aH s) (aA (aY s) (eR (bF ((↑x.1:Int)+1))=bL d.1) (aA (bW 5 1 (eG (jL c (l7 i)) (kH (zZ 32)))=bW 5 1 d.2) (m=m) (bR h h))))))))) (K
 (CV.lst 5 1 x.2) m h)
abbrev BK(a:Nat->Nat->Option Value)(b:Nat)(c:List dj)(d:Sl->PH->(List dj)->Sl->dl->Prop):Prop:=bU a b c (λx e=>∃(f:List dj),DP (λg j=>d x e f g j))
noncomputable abbrev kX(a:List dj)(b:Sl):eb:=nO (CV.lst 5 1 a) (F9 b)
abbrev xU(a:List dj)(b:dl):Prop:=j4 (nY a (22*b.length)+100)
attribute [push_cast] BK kX xU
def Mj(xs:List dj)(v:VV)(m:MH)(h:PH)(K:dk):Prop:=
  BK h 1 (gL (bQ v.kind)) (λs f x g l=>aA (kX xs s=kX x g) (Ints f g l) (aA (gS m) (xU x l) (∃(c:List dj)(i:Int),aA (Ev (jL x (kN l)) v.int=Ev c i) (gS m) (aA (j4 (nY c 40)) (j4 (nY (jL c (l7 i)) 1*1)) (zY (jL c (l7 i))/\BK f 1 (gL (bQ (↑v.text.size:Int))) (λo j d n e=>aA (kX (eG (jL c (l7 i)) (kH (zZ 32))) o=kX d n) (Ints j n e) (aA (gS m) (xU d e) (aA (mI (jL d (kN e)) (i7 v.text) 1) (mC (jL d (kN e)) (i7 v.text)) (K (CV.lst 5 1 (jL d (kN e)++i7 v.text)) m j)))))))))
theorem fK(a b:dw):bH (a++b)=bH a++bH b:=by simp[bH]
theorem Ints.ofRow{s:Sl}(r:cE h s 1 (l.map eI))(c:l.length<=17592186044416):Ints h s l:=⟨r,c⟩
theorem aKZ{x:Int}(c:l[i]? =some x):kN (l.take (i+1))=kN (l.take i)++l7 x++[32]:=by
 rw[db,c];simp[kN]
theorem FL:di 255 XZ:=by
 refine fU func255 ?_;rintro n m h K ⟨xs,s,l,rfl,f,u,z,A⟩;refine⟨blX s m h,rfl,aE Qf aG,Su xs s m h K,bu,?_⟩;dsimp only[Su,push_cast];have d:=f.slen;refine⟨λ⟨i,g⟩=>i<=l.length/\g=xs++bH (kN (l.take i)),λ⟨i,_⟩=>l.length-i,⟨(0,xs),⟨aC,by simp[kN,bH]⟩,MT⟩,?_⟩;rintro⟨i,g⟩ ⟨B,rfl⟩;dsimp only;refine aD (λc=>?_) (λy=>?_)
 .obtain⟨x,j⟩:=dO d c;obtain⟨b,o,e,r⟩:=f.at' j;have C:=lB (l.take i);have D:=Ib x;have E:(l.take i).length=i:=ce
  refine⟨b,o,e,aC,c,x,.imm r,_,x,rfl,u,?_,?_,?_,(i+1,xs++bH (kN (l.take (i+1)))),⟨aC,rfl⟩,aC,?_⟩
  .rw[ct,cL];omega
  .rw[ct,ct,cL,cL];omega
  .rw[ct,ct,cL,cL];omega
  .rw[aKZ j,fK,fK, <-append_assoc, <-append_assoc];exact MT
 grind
theorem Qh:di 192 bQX:=by
 refine DS func192 ?_;rintro g m h K ⟨xs,v,rfl,c,z,d⟩;refine⟨cT [(255,XZ),(256,X0)] [] [] [(255,[0]),(256,[0])] true,rfl,aE FL (aE Qf aG),Mj xs v m h (jF h K),bu,?_⟩;show Mj xs v m h (jF h K);dsimp only[Mj,push_cast];intro j A e n;have o:=lB [v.kind];have B:=Ib v.int;have u:=lB [(v.text.size:Int)];have C:(i7 v.text).length=v.text.size:=by simp[i7]
 simp only[de,length_nil]at o u;refine⟨_,j,[v.kind],rfl,.ofRow n bx,c,ce,_,v.int,rfl,c,?_,?_,?_,λx D f y=>⟨_,x,[(v.text.size:Int)],rfl,.ofRow y bx,c,?_,?_,?_,?_⟩⟩
 .rw[ct,cL];omega
 .simp only[ct,cL];omega
 .simp only[ct,cL];omega
 .simp only[ct,cL,de,length_nil];omega
 .simp only[ct,cL,de,length_nil];omega
 .simp only[ct,cL,de,length_nil];omega
 .refine .out (Sub.refl m) (e.trans f) ?_;rw[yW,fK,fK,fK,fK]at d;simp only[append_assoc]at d⊢
  exact d
theorem a3Z(v:VV):v.text.size<=(yW v).length:=by
 have:v.text.data.toList.length=v.text.size:=bx
 simp only[yW,ct];omega
theorem VX(o:OV):o.value.text.size<=(F7 o).length:=by
 have:=a3Z o.value;simp only[F7,ct];omega
theorem Nb{l:dx}{x:Pred}(c:l[i]? =some x):lA (l.take (i+1))=lA (l.take i)++mS x:=by
 have key:∀(a:dx),lA (a++[x])=lA a++mS x:=by
  intro a
  induction a with
  |nil=>simp[lA]
  |cons y a d=>simp[lA,d]
 rw[db,c];exact key _
theorem VN{l:dx}:∀(i:Nat),(lA (l.take i)).length<=(lA l).length:=by
 induction l with
 |nil=>intro i;simp
 |cons y a c=>
  intro i;cases i with
  |zero=>simp[lA]
  |succ i=>have:=c i;simp only[take_succ_cons,lA,ct];omega
def oL(l:dq):dw:=l.flatMap λp=>kN [p.1,p.2]
def rT(l:dr):dw:=l.flatMap λp=>kN [p.1,if p.2 then 1 else 0]
structure Q0(t:Step):Prop where
 wher:(mS t.wher).length<=1000000000
 columns:t.columns.length<=1000000000
 on:t.on.length<=1000000000
 group:t.group.length<=1000000000
 order:t.order.length<=1000000000
theorem VR{l:dq}{x:Int×Int}(c:l[i]? =some x):oL (l.take (i+1))=oL (l.take i)++kN [x.1,x.2]:=by
 rw[db,c];simp[oL]
theorem M6{l:dr}{x:Int×Bool}(c:l[i]? =some x):rT (l.take (i+1))=rT (l.take i)++kN [x.1,if x.2 then 1 else 0]:=by
 rw[db,c];simp[rT]
theorem Pb:∀l:dq,(oL l).length<=44*l.length
 |[]=>by simp[oL]
 |n::l=>by
  have:=Pb l;have c:=lB [n.1,n.2];unfold oL at this⊢
  grind
theorem OP:∀l:dr,(rT l).length<=44*l.length
 |[]=>by simp[rT]
 |n::l=>by
  have:=OP l;have c:=lB [n.1,if n.2 then 1 else 0];unfold rT at this⊢
  grind
structure KV where
 i0:Int
 i1:Int
 i2:Int
 i3:Int
 i4:Int
 s0:ByteArray
 s1:ByteArray
 s2:ByteArray
 s3:ByteArray
 s4:ByteArray
def KV.val(a:KV):Value:=.agg #[.int .i64 a.i0,.int .i64 a.i1,.int .i64 a.i2,.int .i64 a.i3,.int .i64 a.i4,.string a.s0,.string a.s1,.string a.s2,.string a.s3,.string a.s4]
def keyOf(t:Step):KV:=⟨t.op,t.table,t.limit,t.left,t.right,⟨(mS t.wher).toArray⟩,⟨(kN t.columns).toArray⟩,⟨(oL t.on).toArray⟩,⟨(kN t.group).toArray⟩,⟨(rT t.order).toArray⟩⟩
def Ab(r:dp)(o:OV):VV:=if o.kind=3 then o.value else if o.kind=1/\0<=o.index/\o.index<r.length then r.getD o.index.toNat zeroV else zeroV
def Vt(d c:Int):Bool:=if d=1 then c==0 else if d=2 then c !=0 else if d=3 then decide (c<0)else if d=4 then decide (c<=0)else if d=5 then decide (c>0)else if d=6 then decide (c>=0)else false
def rA(c:Int)(a b:VV):Bool:=jH a&&jH b&&a.kind==b.kind&&Vt c (jO a b)
mutual
def iB(r:dp):Pred->Bool
 |.mk op c a b args=>if op=1 then true else if op=3 then rA c (Ab r a) (Ab r b)else if op=4 then GJ r args else if op=5 then GH r args else if op=6 then PK r args else false
def GJ(r:dp):dx->Bool
 |[]=>true
 |p::ps=>iB r p&&GJ r ps
def GH(r:dp):dx->Bool
 |[]=>false
 |p::ps=>iB r p||GH r ps
def PK(r:dp):dx->Bool
 |[]=>false
 |p::_=> !iB r p
end
theorem GI(r:dp):∀ps,GJ r ps=ps.all (iB r)
 |[]=>by simp[GJ]
 |p::ps=>by simp[GJ,GI r ps]
theorem GG(r:dp):∀ps,GH r ps=ps.any (iB r)
 |[]=>by simp[GH]
 |p::ps=>by simp[GH,GG r ps]
def DenS:Vc.Spec:=λc m h K=>∃o s r,c=[aO o,cS s,iO]/\bT h s r/\K (aV (Ab r o)) m h
def NL(p:Int->Bool):Vc.Spec:=λd m h K=>∃c,d=[cI c]/\K (cB (p c)) m h
def cjJ:Vc.Spec:=λc m h K=>∃op,c=[cI op]/\
 branch (op==1) (K (fv 246) m h) (branch (op==2) (K (fv 247) m h) (branch (op==3) (K (fv 248) m h) (branch (op==4) (K (fv 249) m h) (branch (op==5) (K (fv 250) m h) (branch (op==6) (K (fv 251) m h) (K (.val .nilFunc) m h))))))
def Va(N:Nat):Vc.Spec:=λc m h K=>∃v s p r,c=[aP v,cS s,iO]/\dX h p v/\bT h s r/\SizeOf.sizeOf p<N/\K (cB (iB r p)) m h
def Vb:Vc.Spec:=λc m h K=>∃v s p r,c=[aP v,cS s,iO]/\dX h p v/\bT h s r/\K (cB (iB r p)) m h
noncomputable def bAJ(N:Nat)(v:PV)(s:Sl)(m:MH)(h:PH):Ctx:=
 cT [(185,DenS),(186,NA),(187,cjJ),(108,NB),(114,Va N),(246,NL (λc=>c==0)),(247,NL (λc=>c !=0)),(248,NL (λc=>decide (c<0))),(249,NL (λc=>decide (c<=0))),(250,NL (λc=>decide (c>0))),(251,NL (λc=>decide (c>=0)))] [(12,{A:=Nat,st:=λi=>bO 102 105 [(1,sv s),(2,vv sC),(60,sv v.args),(61,iv v.args.len),(62,iv i)] [] m h}),
  (20,{A:=Nat,st:=λi=>bO 102 105 [(1,sv s),(2,vv sC),(75,sv v.args),(76,iv v.args.len),(77,iv i)] [] m h})] [(6,{A:=VV×VV,st:=λ⟨a,b⟩=>bO 102 105 [(3,.at (.ptr 3 0)),(7,.at (.ptr 7 0)),(8,.at (.ptr 8 0))] [(3,.cells 32 (v.enc.map .val)),(7,.cells 27 (a.enc.map .val)),(8,.cells 27 (b.enc.map .val))] m h})] [] false
abbrev Kb(a:Int)(b:OV)(c:MH)(d:PH)(e:Nat)(g:VV->Prop):Prop:=aJ (λx f=>aI (aK Option.none x f) (a<=b.index) (b.index<a) (∃(j:VV),aR c d x (cC f b.index e) j.enc/\g j))
attribute [push_cast] Kb
def SY(o:OV)(s:Sl)(m:MH)(h:PH)(K:dk):Prop:=
  cO (o.kind==3) (K (gV (xG o)) m h) (o.kind==2) (aW o.index 0 (K (gV yP) m h) (eK o.index 0 (K (gV yP) m h) (Kb 0 o m h 3 (λy=>K (gV y.enc) m h)))) (dD o.kind 1 (aW o.index 0 (K (gV yP) m h) (eK o.index (aF s) (K (gV yP) m h) (aJ (λb c=>aI (aK s.a b c) (0<=o.index) (o.index<aF s) (∃(y:VV),aR m h b (cC c o.index 3) y.enc/\K (gV y.enc) m h))))) (K (gV yP) m h))
def Mk(op:Int)(m:MH)(h:PH)(K:dk):Prop:=
  mE m h (λb e=>gP m e b (bC Value.nilFunc Value.nilFunc (bC Value.nilFunc Value.nilFunc (bC Value.nilFunc Value.nilFunc (kH Value.nilFunc)))) 275) (λb e=>kS (λc E=>aA (Gc e b (lF c E 0)) (7<=c.size) (∀(d:MH),gP e d b (bC Value.nilFunc (oB 246) (bC (oB 247) (oB 248) (bC (oB 249) (oB 250) (tA (oB 251) 7 c.toList)))) E->aW op 0 (K (CV.val Value.nilFunc) d h) (eK op 7 (K (CV.val Value.nilFunc) d h) (aA (bY op) (op<7) (∃(y:Option Nat),aR d h b (cC 0 op 1) (kH (bCZ y))/\K (CV.val (bCZ y)) d h))))))
def aWX(c:Int)(m:MH)(h:PH)(K:dk):Prop:=
  K (vD (c==0)) m h
def aWQ(c:Int)(m:MH)(h:PH)(K:dk):Prop:=
  K (vD (c !=0)) m h
def aVJ(c:Int)(m:MH)(h:PH)(K:dk):Prop:=
  K (vD (decide (c<0))) m h
def aVZ(c:Int)(m:MH)(h:PH)(K:dk):Prop:=
  K (vD (decide (c<=0))) m h
def aVQ(c:Int)(m:MH)(h:PH)(K:dk):Prop:=
  K (vD (decide (c>0))) m h
def aUJ(c:Int)(m:MH)(h:PH)(K:dk):Prop:=
  K (vD (decide (c>=0))) m h
noncomputable abbrev zN(a:OV)(b:Sl):eb:=cV a.enc (fP b iO)
abbrev lS(a:dp)(b:OV)(c:VV):Prop:=oQ 27 (cH (At.val (fE (Ab a b).kind)) (At.val (fE (Ab a b).int)) (kM (At.val (Value.string (Ab a b).text))))=nK 27 c.enc
abbrev xT(a:PV)(b:Sl)(c:PH)(d:OV->dp->(VV×VV)->Prop):Prop:=∃(x:OV),nB (λe f=>aA (cV (sZ a) (fP b iO)=zN x e) (bT c e f) (∃(g:VV×VV),d x f g))
abbrev Kc(a:eb)(b:PH)(c:OV->dp->Prop):Prop:=∃(x:OV),nB (λd e=>aA (a=zN x d) (bT b d e) (c x e))
abbrev EE(a:VV×VV)(b:Int->Prop):Prop:=∃(x c:VV),xK a.1 a.2=xK x c/\pL (jO x c) (λd=>b d)
abbrev tX:Prop:=eQ sQn
noncomputable abbrev Fw(a:PV)(b:Sl):eb:=cV a.enc (fP b iO)
abbrev EI(a:PV)(b:Sl)(c:PH)(d:Nat)(e:Pred->dp->Prop):Prop:=H3 (λx g f j=>aA (Fw a b=Fw x g) (dX c f x) (aA (bT c g j) (qP f d) (e f j)))
attribute [push_cast] zN lS xT Kc EE tX Fw EI
def Tz(N:Nat)(v:PV)(s:Sl)(m:MH)(h:PH)(K:dk):Prop:=
  cO (v.op==1) (K dR m h) (v.op==3) (∃(I:VV×VV->Prop),aI (∃(o:OV),nB (λf r=>aA (zN v.left s=zN o f) (bT h f r) (aA (∃(d:OV),nB (λn e=>aI (cV (sZ v) (fP s iO)=zN d n) (bT h n e) (∃(x:VV×VV),aA (I x) bJ (aA gI fF (aA (fM v) (lS r o x.1) (aA (lS e d x.2) (m=m) (bR h h))))) (∃(x:VV×VV),aA (I x) bJ (aA gI fF (aA (fM v) (lS r o x.1) (aA (lS e d x.2) (m=m) (bR h h))))))) (xT v s h (λd e x=>aA (I x) bJ (aA gI fF (aA (fM v) (lS r o x.1) (aA (lS e d x.2) (m=m) (bR h h)))))/\xT v s h (λd e x=>aA (I x) bJ (aA gI fF (aA (fM v) (lS r o x.1) (aA (lS e d x.2) (m=m) (bR h h)))))) (xT v s h (λd e x=>aA (I x)
 bJ (aA gI fF (aA (fM v) (lS r o x.1) (aA (lS e d x.2) (m=m) (bR h h)))))/\xT v s h (λd e x=>aA (I x) bJ (aA gI fF (aA (fM v) (lS r o x.1) (aA (lS e d x.2) (m=m) (bR h h))))))))) ((∃(o:OV),nB (λf r=>aI (zN v.left s=zN o f) (bT h f r) (xT v s h (λd e x=>aA (I x) bJ (aA gI fF (aA (fM v) (lS r o x.1) (aA (lS e d x.2) (m=m) (bR h h)))))) (xT v s h (λd e x=>aA (I x) bJ (aA gI fF (aA (fM v) (lS r o x.1) (aA (lS e d x.2) (m=m) (bR h h))))))))/\Kc (zN v.left s) h (λo r=>xT v s h (λd e x=>aA (I x) bJ (aA gI fF (aA (fM v) (lS r o x.1) (aA (lS e d x.2) (m=m) (bR h h))))))) (∃(o:OV),nB (λf r=>aI
 (zN v.left s=zN o f) (bT h f r) (xT v s h (λd e x=>aA (I x) bJ (aA gI fF (aA (fM v) (lS r o x.1) (aA (lS e d x.2) (m=m) (bR h h)))))) (xT v s h (λd e x=>aA (I x) bJ (aA gI fF (aA (fM v) (lS r o x.1) (aA (lS e d x.2) (m=m) (bR h h)))))))) (Kc (zN v.left s) h (λo r=>xT v s h (λd e x=>aA (I x) bJ (aA gI fF (aA (fM v) (lS r o x.1) (aA (lS e d x.2) (m=m) (bR h h)))))))/\∀(x:VV×VV),I x->∃(u:VV),hZ (mW x.1=mW u) (!(jH u)) (K aX m h) (∃(z:VV),mW x.2=mW z/\cO (!(jH z)) (K aX m h) (x.1.kind !=x.2.kind) (K aX m h) (pL v.cmp (λo=>cO (o==1) (EE x (λc=>K (vD (c==0)) m h)) (o==2) (EE x (λc=>K (vD (c !=0)) m h))
 (cO (o==3) (EE x (λc=>K (vD (decide (c<0))) m h)) (o==4) (EE x (λc=>K (vD (decide (c<=0))) m h)) (cO (o==5) (EE x (λc=>K (vD (decide (c>0))) m h)) (o==6) (EE x (λc=>K (vD (decide (c>=0))) m h)) (K aX m h))))))) (cO (v.op==4) (j6 (λI x=>aA (I x) (aH s) (aA tX (aH v.args) (aA (pY v) (aZ x) (aA (m=m) (h=h) True)))) (λI j x=>I x->aW (↑x:Int) (aF v.args) (aJ (λb o=>aI (aK v.args.a b o) (0<=(↑x:Int)) ((↑x:Int)<aF v.args) (∃(y:PV),aR m h b (bE o x 13) y.enc/\EI y s h N (λp r=>mB (iB r p) (K aX m h) (∃(g:Nat),aA (I g) (j g<j x) (aA (aH s) tX (aA (aH v.args) (aY v.args) (aA (eR (bF ((↑x:Int)+1))=bL g) (m=m) (bR h h))))))))) (K dR m h))) (v.op==5) (j6 (fun
 I x=>aA (I x) (aH s) (aA tX (aH v.args) (aA (pY v) (aZ x) (aA (m=m) (h=h) True)))) (λI j x=>I x->aW (↑x:Int) (aF v.args) (aJ (λb o=>aI (aK v.args.a b o) (0<=(↑x:Int)) ((↑x:Int)<aF v.args) (∃(y:PV),aR m h b (bE o x 13) y.enc/\EI y s h N (λp r=>branch (iB r p) (K dR m h) (∃(g:Nat),aA (I g) (j g<j x) (aA (aH s) tX (aA (aH v.args) (aY v.args) (aA (eR (bF ((↑x:Int)+1))=bL g) (m=m) (bR h h))))))))) (K aX m h))) (dD v.op 6 (fA (mG v) 0 (aJ (λb o=>aI (aK v.args.a b o) ((0:Int)<=0) (0<aF v.args) (∃(y:PV),aR m h b (o+0) y.enc/\EI y s h N (λp r=>K (CV.val (Value.bool (!(iB r p)))) m h)))) (K aX m h)) (K aX m h)))
theorem ZA:di 185 DenS:=by
 refine fU func185 ?_;rintro x m h K ⟨o,s,r,rfl,j,c⟩;refine⟨cT [] [] [] [] false,rfl,aG,SY o s m h K,bu,?_⟩;dsimp only[SY,push_cast];have y:=bI.slen j;unfold Ab at c;refine aB (λd=>?_) (λd=>aB (λn=>?_) (λn=>aB (λf=>?_) (λf=>?_)))
 .rw[if_pos cg]at c;exact c
 .have n:o.kind=2:=cg
  rw[if_neg aC,if_neg aC]at c;exact aD (λ_=>c) (λu=>aD (λ_=>c) (λg=>absurd (show o.index>=((0:Nat):Int)by omega) g))
 .have d:o.kind≠3:=cg
  have f:o.kind=1:=cg
  rw[if_neg d]at c;refine aD (λu=>?_) (λu=>aD (λg=>?_) (λg=>?_))
  .rw[if_neg aC]at c;exact c
  .rw[if_neg aC]at c;exact c
  .rw[if_pos ⟨f,aC,aC⟩]at c
   have z:r[o.index.toNat]? =some (r.getD o.index.toNat zeroV):=by
    grind
   obtain⟨b,off,v,e,rd,rfl⟩:=bI.at j z;exact⟨b,off,e,aC,aC,_,.imm rd,c⟩
 .have d:o.kind≠3:=cg
  have f:o.kind≠1:=cg
  rw[if_neg d,if_neg (λe=>f e.1)]at c;exact c
theorem Zz:di 187 cjJ:=by
 refine DS func187 ?_;rintro o m h K ⟨op,rfl,f⟩;refine⟨rI [] [] [] [] [275] [] false,rfl,aG,Mk op m h (jF h K),bu,?_⟩;show Mk op m h (jF h K);dsimp only[Mk,push_cast];intro b F n g;refine⟨_,_,⟨g.at_⟩,bz,λu j=>?_⟩;have c:Sub m u:=((Sub.refl m).upd n.m_ g.other).upd n.m_ j.other;have e:=j.at_
 have d:∀k,¬(1<=op/\op<=6)->op=k->K (.val .nilFunc) m h:=λk G _=>by
  have:(op==1)=false/\(op==2)=false/\(op==3)=false/\(op==4)=false/\(op==5)=false/\(op==6)=false:=by
   grind
  obtain⟨x,y,z,A,B,C⟩:=this;rw[x,y,z,A,B,C]at f;exact f
 refine aD (λD=>.sub c (d _ aC rfl)) (λD=>aD (λE=>.sub c (d _ aC rfl)) (λE=>⟨aC,aC,?_⟩));have:op=0\/op=1\/op=2\/op=3\/op=4\/op=5\/op=6:=by omega
 rcases this with rfl|rfl|rfl|rfl|rfl|rfl|rfl
 .exact⟨none,.lent _ _ _ e rfl,.sub c (d 0 aC rfl)⟩
 .exact⟨some 246,.lent _ _ _ e rfl,.sub c f⟩
 .exact⟨some 247,.lent _ _ _ e rfl,.sub c f⟩
 .exact⟨some 248,.lent _ _ _ e rfl,.sub c f⟩
 .exact⟨some 249,.lent _ _ _ e rfl,.sub c f⟩
 .exact⟨some 250,.lent _ _ _ e rfl,.sub c f⟩
 .exact⟨some 251,.lent _ _ _ e rfl,.sub c f⟩
theorem YZ:di 246 (NL (λc=>c==0)):=by
 refine fU func246 ?_;rintro d m h K ⟨c,rfl,e⟩;refine⟨cT [] [] [] [] false,rfl,aG,aWX c m h K,bu,?_⟩;exact e
theorem YY:di 247 (NL (λc=>c !=0)):=by
 refine fU func247 ?_;rintro d m h K ⟨c,rfl,e⟩;refine⟨cT [] [] [] [] false,rfl,aG,aWQ c m h K,bu,?_⟩;exact e
theorem YX:di 248 (NL (λc=>decide (c<0))):=by
 refine fU func248 ?_;rintro d m h K ⟨c,rfl,e⟩;refine⟨cT [] [] [] [] false,rfl,aG,aVJ c m h K,bu,?_⟩;exact e
theorem YW:di 249 (NL (λc=>decide (c<=0))):=by
 refine fU func249 ?_;rintro d m h K ⟨c,rfl,e⟩;refine⟨cT [] [] [] [] false,rfl,aG,aVZ c m h K,bu,?_⟩;exact e
theorem YV:di 250 (NL (λc=>decide (c>0))):=by
 refine fU func250 ?_;rintro d m h K ⟨c,rfl,e⟩;refine⟨cT [] [] [] [] false,rfl,aG,aVQ c m h K,bu,?_⟩;exact e
theorem YU:di 251 (NL (λc=>decide (c>=0))):=by
 refine fU func251 ?_;rintro d m h K ⟨c,rfl,e⟩;refine⟨cT [] [] [] [] false,rfl,aG,aUJ c m h K,bu,?_⟩;exact e
theorem Xj:∀N,di 114 (Va N)
 |0=>by
  refine eA (fn:=Tryz.f114) (c:=cM Tryz.f114) func114 rfl bz ?_;rintro S m h K ⟨v,s,p,r,rfl,_,_,hN,_⟩;omega
 |N+1=>by
  refine fU func114 ?_;rintro S m h K ⟨v,s,p,r,rfl,hp,C,hN,d⟩;refine⟨bAJ N v s m h,rfl,aE ZA (aE Jd (aE Zz (aE Jk (aE (Xj N) (aE YZ (aE YY (aE YX (aE YW (aE YV (aE YU aG)))))))))),Tz N v s m h K,bu,?_⟩;dsimp only[Tz,push_cast];have o:=@uK p;obtain⟨op,a',l,q,ps⟩:=p;obtain⟨rfl,rfl,rfl,rfl,D⟩:=hp.parts;have T:=D.slen;have Y:=D.len;simp only[Pred.args]at o;simp only[iB]at d;refine aB (λZ=>?_) (λZ=>aB (λh3=>?_) (λh3=>aB (λh4=>?_) (λh4=>aB (λh5=>?_) (λh5=>aB (λh6=>?_) (λh6=>?_)))))
  .rw[if_pos cg]at d;exact d
  all_goals have n1:v.op≠1:=cm Z
  .rw[if_neg n1,if_pos cg]at d;refine⟨λx=>x=(Ab r v.left,Ab r v.right),?_,?_⟩
   .repeat' (first|exact⟨_,rfl,MT⟩|refine⟨v.left,s,r,rfl,C,?_⟩|refine⟨v.right,s,r,rfl,C,?_⟩|refine And.intro ?_ ?_)
   .rintro⟨a,b⟩ E;simp only[Prod.mk.injEq]at E;obtain⟨rfl,rfl⟩:=E;generalize Ab r v.left=a at d⊢
    generalize Ab r v.right=b at d⊢
    have U:rA v.cmp a b=false->K (cB false) m h:=λe=>cg
    refine⟨a,rfl,aB (λn=>U ?_) (λn=>⟨b,rfl,aB (λF=>U ?_) (λF=>aB (λG=>U ?_) (λG=>⟨v.cmp,rfl,?_⟩))⟩)⟩
    .have n:jH a=false:=cg
     simp[rA,n]
    .have F:jH b=false:=cg
     simp[rA,F]
    .have G:a.kind≠b.kind:=cg
     simp[rA,G]
    .have n:jH a=true:=cg
     have F:jH b=true:=cg
     have G:a.kind=b.kind:=cg
     have e4:rA v.cmp a b=Vt v.cmp (jO a b):=by simp[rA,n,F,G]
     rw[e4]at d;unfold Vt at d;refine aB (λz=>?_) (λz=>aB (λA=>?_) (λA=>aB (λB=>?_) (λB=>aB (λH=>?_) (λH=>aB (λQ=>?_) (λQ=>aB (λV=>?_) (λV=>?_))))))
     all_goals simp only[beq_iff_eq,beq_eq_false_iff_ne]at*
     .rw[if_pos z]at d;exact⟨a,b,rfl,_,rfl,d⟩
     .rw[if_neg z,if_pos A]at d;exact⟨a,b,rfl,_,rfl,d⟩
     .rw[if_neg z,if_neg A,if_pos B]at d;exact⟨a,b,rfl,_,rfl,d⟩
     .rw[if_neg z,if_neg A,if_neg B,if_pos H]at d;exact⟨a,b,rfl,_,rfl,d⟩
     .rw[if_neg z,if_neg A,if_neg B,if_neg H,if_pos Q]at d;exact⟨a,b,rfl,_,rfl,d⟩
     .rw[if_neg z,if_neg A,if_neg B,if_neg H,if_neg Q,if_pos V]at d;exact⟨a,b,rfl,_,rfl,d⟩
     .rw[if_neg z,if_neg A,if_neg B,if_neg H,if_neg Q,if_neg V]at d;exact d
  all_goals have n3:v.op≠3:=cm h3
  all_goals rw[if_neg n1,if_neg n3]at d
  .rw[if_pos cg,GI]at d;refine⟨λi=>i<=ps.length/\∀j:Nat,j<i->∀x,ps[j]? =some x->iB r x=true,λi=>ps.length-i,⟨0,⟨aC,λj I=>by omega⟩,MT⟩,λi⟨hi,J⟩=>aD (λf=>?_) (λW=>?_)⟩
   .obtain⟨x,g⟩:=dO T f;obtain⟨L,M,u,n,R,O⟩:=D.at g;have:=o (cr g);refine⟨L,M,n,aC,f,u,.imm R,u,s,x,r,rfl,O,C,aC,aB (λX=>?_) (λhe=>⟨i+1,⟨aC,λj I y P=>?_⟩,(show ps.length-(i+1)<ps.length-i by omega),MT⟩)⟩
    .have:ps.all (iB r)=false:=by
      grind
     rw[this]at d;exact d
    grind
   .have:ps.all (iB r)=true:=by
     rw[all_eq_true];intro y P;obtain⟨j,I⟩:=getElem?_of_mem P
     grind
    rw[this]at d;exact d
  all_goals have n4:v.op≠4:=cm h4
  all_goals rw[if_neg n4]at d
  .rw[if_pos cg,GG]at d;refine⟨λi=>i<=ps.length/\∀j:Nat,j<i->∀x,ps[j]? =some x->iB r x=false,λi=>ps.length-i,⟨0,⟨aC,λj I=>by omega⟩,MT⟩,λi⟨hi,J⟩=>aD (λf=>?_) (λW=>?_)⟩
   .obtain⟨x,g⟩:=dO T f;obtain⟨L,M,u,n,R,O⟩:=D.at g;have:=o (cr g);refine⟨L,M,n,aC,f,u,.imm R,u,s,x,r,rfl,O,C,aC,aB (λhe=>?_) (λX=>⟨i+1,⟨aC,λj I y P=>?_⟩,(show ps.length-(i+1)<ps.length-i by omega),MT⟩)⟩
    .have:ps.any (iB r)=true:=any_eq_true.2 ⟨x,cr g,he⟩;rw[this]at d;exact d
    grind
   .have:ps.any (iB r)=false:=by
     rw[any_eq_false];intro y P;obtain⟨j,I⟩:=getElem?_of_mem P
     grind
    rw[this]at d;exact d
  all_goals have n5:v.op≠5:=cm h5
  all_goals rw[if_neg n5]at d
  .rw[if_pos cg]at d;refine aD (λh7=>?_) (λh7=>?_)
   .obtain⟨x,g⟩:=dO (i:=0) T aC;obtain⟨L,M,u,n,R,O⟩:=D.at g;have:=o (cr g)
    have e7:PK r ps= !iB r x:=by
     cases ps with
     |nil=>simp at g
     |cons y _=>simp at g;subst g;rfl
    rw[e7]at d;exact⟨L,M,n,aC,aC,u,.imm aC,u,s,x,r,rfl,O,C,aC,d⟩
   .have:ps=[]:=length_eq_zero_iff.1 aC;subst this;exact d
  .rw[if_neg cg]at d;exact d
theorem abZ:di 114 Vb:=iQ Xj λ_ _ _ _⟨v,s,p,r,e,c,d,f⟩=>⟨SizeOf.sizeOf p+1,v,s,p,r,e,c,d,aC,f⟩
structure gT(w:Nat)(l:dm):Prop where
 row:∀r∈l,U6 r
 wid:∀r∈l,r.length=w
 srt:jU l
 len:l.length<=8000000
def Lu(l:dm)(x:dp):Bool:=l.any λy=>dQ x y==0
theorem Ox{l:dm}{x:dp}:Lu l x=true↔x∈l:=by
 simp only[Lu,any_eq_true,beq_iff_eq,iH]
 grind
theorem fJ.sub{c:PH}{r:CV}(sub:Sub m m')(le:PH.le h c)(d:K r m c):fJ h K r m' c:=λ_=>⟨m,c,sub,le,λ_ _ _ e=>.inl e,d⟩
structure DT(m:MH)(y:Nat)(ks:eu):Prop where
 ex:∃kk:eu,w8 m y (kk.map λk=>(Value.string k,Value.bool true))/\∀k,k∈kk↔k∈ks
theorem DT.new{y:Nat}(h:m y=some (.map #[] 0)):DT m y []:=⟨[],⟨#[],0,h,rfl,bx,bx⟩,bx⟩
theorem DT.get{y:Nat}{ks:eu}{key:ByteArray}{K:Bool->Prop}(s:DT m y ks)(g:∀t:Bool,(t=true↔key∈ks)->K t):
 ∃(d:List (Value×Bool))(Ok:Value->Prop),qM m y (d.map λp=>(p.1,Value.bool p.2))/\KeyLaw Tryz.prog 9 Ok/\Ok (.string key)/\(∀e,List.Mem e d->Ok e.1)/\((∀e,List.Mem e d->e.1=Value.string key->False)->K false)/\∀t,List.Mem (Value.string key,t) d->K t:=by
 obtain⟨j,⟨o,c,u,x,_,_⟩,z⟩:=s.ex;refine⟨j.map λk=>(Value.string k,true),_,⟨o,c,u,by rw[x];simp⟩,Ee,⟨key,rfl⟩,λe A=>?_,λB=>g false ⟨λe=>(by cases e),λf=>?_⟩,λt n=>g t ⟨λ_=>?_,λ_=>?_⟩⟩
 .obtain⟨k,_,rfl⟩:=mem_map.1 (show e∈_ from A)
  grind
 .exact(B (Value.string key,true) (mem_map.2 (⟨key,(z key).2 f,rfl⟩:∃a,a∈j/\(Value.string a,true)=(Value.string key,true))) rfl).elim
 .obtain⟨k,f,e⟩:=mem_map.1 (show(Value.string key,t)∈_ from n)
  grind
 .obtain⟨k,f,e⟩:=mem_map.1 (show(Value.string key,t)∈_ from n)
  grind
theorem VF(key:ByteArray):Instr.sameBits 10000 (Value.string key) (Value.string key)=true:=by
 show(key==key)=true;cases key with
 |mk d=>exact beq_self_eq_true d
theorem DT.put{y:Nat}{ks:eu}{key:ByteArray}{Q:MH->Prop}(s:DT m y ks)(u:∀m':MH,qD m m' y->DT m' y (key::ks)->Q m'):
 ∃(c:dt)(Ok:Value->Prop),w8 m y c/\KeyLaw Tryz.prog 9 Ok/\Ok (.string key)/\Instr.sameBits 10000 (Value.string key) (Value.string key)=true/\(∀e,List.Mem e c->Ok e.1)/\((∀e,List.Mem e c->e.1=Value.string key->False)->∀m':MH,qD m m' y->w8 m' y (c++[(Value.string key,Value.bool true)])->Q m')/\
  ∀(g:dt)(d:Value)(j:dt),c=g++(Value.string key,d)::j->∀m':MH,qD m m' y->w8 m' y (g++(Value.string key,Value.bool true)::j)->Q m':=by
 obtain⟨f,x,A⟩:=s.ex;refine⟨_,_,x,Ee,⟨key,rfl⟩,VF key,λe z=>?_,λB m' n o=>u m' n ⟨f++[key],cg,λk=>?_⟩,λg d j e m' n o=>u m' n ⟨f,?_,λk=>?_⟩⟩
 .obtain⟨k,_,rfl⟩:=mem_map.1 (show e∈_ from z)
  grind
 .grind
 .have:(Value.string key,d)∈f.map λk=>(Value.string k,Value.bool true):=by rw[e];simp
  grind
 .have:(Value.string key,d)∈f.map λk=>(Value.string k,Value.bool true):=by rw[e];simp
  grind
theorem wU{α:Type}{l:List α}{x:α}(p:α->Bool)(c:l[k]? =some x):(l.take (k+1)).filter p=(l.take k).filter p++(if p x then[x]else[]):=by
 rw[db,c,Option.toList_some,filter_append]
 grind
def aoZ(n:Nat):Query->List dm->Prop:=λ_ c=>n<=c.length/\∀l∈c,∃w,gT w l
def bVZ(q:Query)(ls:List dm):dm:=match q with|.mk _ _ w _ _ _ _ _ _=>(ls.getD 0 []).filter λr=>iB r w
theorem afJ{ls:List dm}{i:Nat}(h:i<ls.length):ls[i]? =some (ls.getD i []):=by
 grind
theorem eD.app{us vs:dn}{a b:dm}(x:eD h us a)(y:eD h vs b):eD h (us++vs) (a++b):=by
 refine⟨by simp[x.len,y.len],λj r c=>?_⟩;have g:=x.len;by_cases d:j<a.length
 .rw[getElem?_append_left d]at c;obtain⟨u,e,f⟩:=x.at_ j r c
  grind
 .rw[getElem?_append_right aC]at c;obtain⟨u,e,f⟩:=y.at_ _ r c
  grind
def cnZ(_:Query)(ls:List dm):dm:=Bb (ls.getD 0 []++ls.getD 1 [])
def czQ(q:Query)(ls:List dm):dm:=match q with|.mk _ _ _ co _ _ _ _ _=>Bb ((ls.getD 0 []).map λr=>pick r co)
def Ym(q:Query)(ls:List dm):Prop:=match q with|.mk _ _ _ co _ _ _ _ _=>1<=ls.length/\co.length<=12/\∃w,gT w (ls.getD 0 [])/\fS w co
theorem a9J{r:dp}{y:VV}(d:(pick r co)[i]? =some y)(e:i<co.length):((pick r co).take i++replicate (co.length-i) zeroV).set i y=(pick r co).take (i+1)++replicate (co.length-(i+1)) zeroV:=by
 have c:(pick r co).length=co.length:=by simp[pick]
 rw[set_append,if_neg ce];rw[db,d,Option.toList_some,append_assoc];congr 1;rw[show co.length-i=(co.length-(i+1))+1 by omega,replicate_succ];simp[c,Nat.min_eq_left (Nat.le_of_lt e)]
theorem aJJ{r:dp}(d:i<co.length):(((pick r co).take i++replicate (co.length-i) zeroV).map VV.enc)[i]? =some (VV.enc zeroV):=by
 have c:(pick r co).length=co.length:=by simp[pick]
 grind
theorem En{m0:MH}{o:Obj}(c:Sub m0 m)(g:lZ m h b)(j:iD m m' b o):Sub m0 m'/\m0 b=none:=by
 have d:m0 b=none:=by
  cases e:m0 b with
  |none=>rfl
  |some x=>have f:=c b x e;rw[g.m_]at f;cases f
 exact⟨c.upd d j.other,d⟩
def LL(_:Query)(ls:List dm):Prop:=2<=ls.length/\∃w,∀l∈ls,gT w l
def crX(_:Query)(ls:List dm):dm:=(ls.getD 0 []).filter λx=>Lu (ls.getD 1 []) x==false
def crJ(_:Query)(ls:List dm):dm:=(ls.getD 0 []).filter λx=>Lu (ls.getD 1 []) x==true
def i6:dr->dp->dp->Int
 |[],a,b=>dQ a b
 |(c,d)::r,a,b=>if 0<=c/\c<a.length/\c<b.length then(if jO (a.getD c.toNat zeroV) (b.getD c.toNat zeroV)≠0 then(if d then-jO (a.getD c.toNat zeroV) (b.getD c.toNat zeroV)else jO (a.getD c.toNat zeroV) (b.getD c.toNat zeroV))else i6 r a b)else i6 r a b
def G4:Vc.Spec:=λc m h K=>∃o s t od a b,c=[cS o,cS s,cS t]/\iV h o od/\bT h s a/\bT h t b/\K (cI (i6 od a b)) m h
noncomputable def b0Z(o s t:Sl)(m:MH)(h:PH):Ctx:=
 cT [(108,NB),(102,DF)] [(2,{A:=Nat,st:=λi=>bO 55 58 [(1,sv s),(2,sv t),(10,sv o),(11,iv o.len),(12,iv i)] [] m h})] [] [] false
abbrev Al(a:Nat->Prop)(b:Nat->Nat)(c:Nat)(d e g:Sl)(i:MH)(j:PH):Prop:=∃(x:Nat),aA (a x) (b x<b c) (aA (aH d) (aH e) (aA (aH g) (aY g) (aA (eR (bF ((↑c:Int)+1))=bL x) (i=i) (bR j j))))
attribute [push_cast] Al
def WC(o s t:Sl)(m:MH)(h:PH)(K:dk):Prop:=
  j6 (λI x=>aA (I x) (aH s) (aA (aH t) (aH o) (aA (aY o) (aZ x) (aA (m=m) (h=h) True)))) (λI c x=>I x->aW (↑x:Int) (aF o) (aJ (λb e=>aI (aK o.a b e) (0<=(↑x:Int)) ((↑x:Int)<aF o) (∃(y:Int×Bool),aR m h b (bE e x 2) (qX y)/\aW y.1 0 (Al I c x s t o m h) (cO (decide (y.1>=aF s)) (Al I c x s t o m h) (decide (y.1>=aF t)) (Al I c x s t o m h) (aJ (λf g=>aI (aK s.a f g) (0<=y.1) (y.1<aF s) (∃(j:VV),aR m h f (cC g y.1 3) j.enc/\aJ (λn u=>aI (aK t.a n u) (0<=y.1) (y.1<aF t) (∃(z:VV),aR m h n (cC u y.1 3) z.enc/\∃(a d:VV),xK j z=xK a d/\cO (jO a d==0) (Al I c x s t o m h) y.2 (K (fN (bF (0-jO a d))) m h) (K (fN (jO a d)) m h)))))))))) (sF s
 t h (λa b=>K (fN (dQ a b)) m h)))
theorem QB(a b:VV): -1<=jO a b/\jO a b<=1:=by
 have c:∀x y:Int, -1<=CI x y/\CI x y<=1:=λx y=>by unfold CI;omega
 have d:=(PC a.text.data.toList b.text.data.toList).2;have e: -1<=Rn a.text b.text/\Rn a.text b.text<=1:=by unfold Rn;omega
 have f:=c a.kind b.kind;have g:=c a.int b.int;unfold jO;omega
theorem TM{c:Int}{d:Bool}{r:dr}{a b:dp}(h:¬(0<=c/\c<a.length/\c<b.length)):i6 ((c,d)::r) a b=i6 r a b:=by
 rw[i6,if_neg h]
theorem avZ{c:Int}{d:Bool}{r:dr}{a b:dp}{x y:VV}(e:0<=c)(f:a[c.toNat]? =some x)(g:b[c.toNat]? =some y):i6 ((c,d)::r) a b=if jO x y≠0 then(if d then-jO x y else jO x y)else i6 r a b:=by
 have j:=(List.getElem?_eq_some_iff.1 f).1;have n:=(List.getElem?_eq_some_iff.1 g).1;rw[i6,if_pos ⟨e,aC,aC⟩]
 grind
theorem Sb:di 64 G4:=by
 refine fU func64 ?_;rintro L m h K ⟨o,s,t,od,a,b,rfl,C,D,E,g⟩;refine⟨b0Z o s t m h,rfl,aE Jk (aE Cx aG),WC o s t m h K,bu,?_⟩;dsimp only[WC,push_cast];have F:=C.slen;have M:=C.len;have O:=bI.slen D;have P:=bI.slen E;refine⟨λi=>i<=od.length/\i6 od a b=i6 (od.drop i) a b,λi=>od.length-i,⟨0,⟨aC,bx⟩,MT⟩,λi⟨hi,j⟩=>aD (λn=>?_) (λQ=>?_)⟩
 .obtain⟨⟨c,B⟩,G⟩:=dO F n;obtain⟨R,S,T,U⟩:=C.row.get (i:=i) (e:=Ah (c,B)) (by simp[G]);rw[drop_cons G]at j
  have skip:¬(0<=c/\c<a.length/\c<b.length)->∃d:Nat,(λi=>i<=od.length/\i6 od a b=i6 (od.drop i) a b) d/\(λi=>od.length-i) d<(λi=>od.length-i) i/\eQ (Ye s)/\eQ (Ye t)/\eQ (Ye o)/\eQ (eR ↑o.len)/\eR (IntKind.i64.wrap ((i:Int)+1))=eR ↑d/\m=m/\h=h/\True:=λV=>
   ⟨i+1,⟨aC,by rw[j,TM V]⟩,(show od.length-(i+1)<od.length-i by omega),MT⟩
  refine⟨R,S,T,aC,n,(c,B),.imm U,aD (λH=>skip (λe=>by omega)) (λH=>aD (λI=>skip (λe=>by omega)) (λI=>aD (λJ=>skip (λe=>by omega)) (λJ=>?_)))⟩;dsimp only at H I J⊢
  obtain⟨x,z⟩:∃x,a[c.toNat]? =some x:=⟨_,cq aC⟩
  obtain⟨y,A⟩:∃y,b[c.toNat]? =some y:=⟨_,cq aC⟩
  obtain⟨W,X,u,Y,Z,rfl⟩:=bI.at D z;obtain⟨b3,o3,u,e3,r3,rfl⟩:=bI.at E A;rw[avZ aC z A]at j;have a':=QB x y;refine⟨W,X,Y,aC,aC,x,.imm Z,b3,o3,e3,aC,aC,y,.imm r3,x,y,rfl,aB (λh4=>⟨i+1,⟨aC,?_⟩,(show od.length-(i+1)<od.length-i by omega),MT⟩) (λh4=>aB (λf=>?_) (λf=>?_))⟩
  .grind
  .have f:B=true:=f;rw[j,if_pos cg,if_pos f]at g;rw[dL aC aC,Int.zero_sub];exact g
  .have f:B=false:=f;rw[j,if_pos cg,if_neg (by simp[f])]at g;exact g
 .rw[j,drop_eq_nil_of_le aC,i6]at g;exact⟨s,t,a,b,rfl,D,E,g⟩
def Lj(w:Nat):dr->dp->dp->Int
 |[],a,b=>dQ a b
 |(c,d)::r,a,b=>if 0<=c/\c<w then(if(if d then-jO (a.getD c.toNat zeroV) (b.getD c.toNat zeroV)else jO (a.getD c.toNat zeroV) (b.getD c.toNat zeroV))≠0 then(if d then-jO (a.getD c.toNat zeroV) (b.getD c.toNat zeroV)else jO (a.getD c.toNat zeroV) (b.getD c.toNat zeroV))else Lj w r a b)else Lj w r a b
theorem DA{w:Nat}:∀{od:dr}{a b:dp},a.length=w->b.length=w->i6 od a b=Lj w od a b
 |[],_,_,_,_=>rfl
 |(c,f)::r,a,b,d,e=>by
  rw[i6,Lj,d,e,DA (od:=r) d e];omega
theorem T1.neg{α:Type}{c:α->α->Int}(h:T1 c):T1 (λx y=> -c x y):=by
 refine⟨λx y=>by have:=h.anti x y;omega,λx y z d e=>?_⟩;have f:=h.anti x y;have g:=h.anti y z;have j:=h.anti x z;have:=h.trans z y x aC aC;omega
theorem Li(w:Nat):∀od,T1 (Lj w od)
 |[]=>GQ
 |(c,d)::r=>by
  have f:=Li w r;have g:T1 (λa b:dp=>jO (a.getD c.toNat zeroV) (b.getD c.toNat zeroV)):=Lk.of λa:dp=>a.getD c.toNat zeroV;by_cases h:0<=c/\c<w
  .have e:Lj w ((c,d)::r)=λa b=>if(if d then-jO (a.getD c.toNat zeroV) (b.getD c.toNat zeroV)else jO (a.getD c.toNat zeroV) (b.getD c.toNat zeroV))≠0 then(if d then-jO (a.getD c.toNat zeroV) (b.getD c.toNat zeroV)else jO (a.getD c.toNat zeroV) (b.getD c.toNat zeroV))else Lj w r a b:=by
    funext a b;rw[Lj,if_pos h]
   rw[e];cases d
   .exact g.lex f
   .exact g.neg.lex f
  .have e:Lj w ((c,d)::r)=Lj w r:=by funext a b;rw[Lj,if_neg h]
   grind
theorem bDZ{w:Nat}(od:dr):Sort.SWO (Go.Proofs.ltOf (fun(x y:G0 h (λl=>l.length=w))=>i6 od x.l y.l)):=by
 have e:(fun(x y:G0 h (λl=>l.length=w))=>i6 od x.l y.l)=λx y=>Lj w od x.l y.l:=by
  funext x y;exact DA x.pr_ y.pr_
 rw[e];exact(Li w od).swo
def bbZ(on:dq)(ls:List dm):Prop:=2<=ls.length/\∃w c,gT w (ls.getD 0 [])/\gT c (ls.getD 1 [])/\fS w (gH on)/\fS c (fV on)
def bbQ(q:Query)(ls:List dm):Prop:=match q with|.mk _ _ _ _ on _ _ _ _=>bbZ on ls
def agree(on:dq)(x y:dp):Bool:=dQ (pick x (gH on)) (pick y (fV on))==0
def cyX(q:Query)(ls:List dm):dm:=match q with|.mk _ _ _ _ on _ _ _ _=>(ls.getD 0 []).filter λx=>(ls.getD 1 []).any λy=>agree on x y
theorem Cc{on:dq}{x y:dp}:agree on x y=true↔pick x (gH on)=pick y (fV on):=by
 simp only[agree,beq_iff_eq,iH]
theorem JM{r:dp}{cols:dl}(c:U6 r)(d:fS r.length cols):∀v∈pick r cols,VOk v:=λv e=>c.val v (VQ d e)
theorem L0{κ:dp->ByteArray}(c:a4J κ){on:dq}{x y:dp}(d:U6 x)(e:U6 y)(f:fS x.length (gH on))(g:fS y.length (fV on)):κ (pick x (gH on))=κ (pick y (fV on))↔agree on x y=true:=by
 rw[Cc];exact c.inj (by simp[pick,gH,fV]) (JM d f) (JM e g)
structure rK(m0 m:MH)(y:Nat)(kk:dy)(us:ByteArray->dn):Prop where
 map_:w8 m y (kk.map λp=>(Value.string p.1,iI p.2))
 nodup:(kk.map Prod.fst).Nodup
 row:∀p∈kk,dC m p.2 94 1 ((us p.1).map eS)
 fresh:∀p∈kk,∀x i,p.2.a=some ⟨x,i,none⟩->m0 x=none
 apart:∀p∈kk,∀q∈kk,p.1≠q.1->∀x i j,p.2.a=some ⟨x,i,none⟩->q.2.a≠some ⟨x,j,none⟩
 none_:∀k,k∉kk.map Prod.fst->us k=[]
 old:∀x o,m0 x=some o->x≠y->m x=some o
def F6(kk:dy)(key:ByteArray)(s:Sl):Prop:=(s=⟨none,0,0⟩/\key∉kk.map Prod.fst)\/(key,s)∈kk
theorem rK.new{y:Nat}(h:m y=some (.map #[] 0)):rK m m y [] λ_=>[]:=⟨⟨#[],0,h,rfl,bx,bx⟩,bx,bx,bx,bx,λ_ _=>rfl,λ_ _ e _=>e⟩
theorem F6.row{m0:MH}{y:Nat}{kk:dy}{us:ByteArray->dn}{key:ByteArray}{s:Sl}(g:rK m0 m y kk us)(d:F6 kk key s):dC m s 94 1 ((us key).map eS)/\∀x i,s.a=some ⟨x,i,none⟩->m0 x=none:=by
 rcases d with⟨rfl,f⟩|c
 .rw[g.none_ key f];exact⟨⟨vE [],.inl ⟨rfl,rfl⟩⟩,λx i e=>by cases e⟩
 .exact⟨g.row _ c,g.fresh _ c⟩
def OJ(us:ByteArray->dn)(key:ByteArray)(e:Sl):ByteArray->dn:=λk=>if k=key then us k++[e]else us k
theorem rK.core{m0 U:MH}{y:Nat}{kk A:dy}{us:ByteArray->dn}{key:ByteArray}{s E e:Sl}(g:rK m0 m y kk us)(H:∃o,m0 y=some o)(I:F6 kk key s)(F:dY m U s E 94 1 ((us key).map eS++[[iI e]]))
 (V:w8 m' y (A.map λp=>(Value.string p.1,iI p.2)))(u:qD U m' y)(J:(A.map Prod.fst).Nodup)(z:∀p∈A,p=(key,E)\/(p∈kk/\p.1≠key))(G:(key,E)∈A)(L:∀k,k∈kk.map Prod.fst->k∈A.map Prod.fst):rK m0 m' y A (OJ us key e):=by
 obtain⟨oy,H⟩:=H;obtain⟨W,a'⟩:=I.row g;obtain⟨es,c,h1,_⟩:=g.map_;have a0:∀i,s.a≠some ⟨y,i,none⟩:=λi f=>cg
 have X:∀x,m x=none->m0 x=none:=λx M=>by
  cases O:m0 x with
  |none=>rfl
  |some o=>
   by_cases P:x=y
   .grind
   .rw[g.old x o O P]at M;cases M
 have Y:∀x i,E.a=some ⟨x,i,none⟩->m0 x=none:=λx i f=>by
  rcases F.fresh x i f with h|⟨j,h⟩
  .grind
  grind
 have D:∀p∈kk,∀x i,p.2.a=some ⟨x,i,none⟩->∃o,m x=some o:=λp B x i f=>by
  rcases(g.row p B).ex with⟨h,_⟩|⟨b,a1,a2,h,V,_⟩
  .grind
  grind
 have Q:∀p∈kk,p.1≠key->∀x i j,p.2.a=some ⟨x,i,none⟩->s.a≠some ⟨x,j,none⟩:=λp B d x i j f C=>by
  rcases I with⟨rfl,_⟩|I
  .cases C
  .exact g.apart p B _ I d x i j f C
 refine⟨V,J,λp B=>?_,λp B x i f=>?_,λp B q hq d x i j f C=>?_,λk Z=>?_,λx o O d=>?_⟩
 .rcases z p B with rfl|⟨n,d⟩
  .have R:(OJ us key e key).map eS=(us key).map eS++[[iI e]]:=by simp[OJ,eS]
   rw[R];exact dC.keep F.row λb i f=>u.other b (λC=>cg)
  .have R:OJ us key e p.1=us p.1:=if_neg d;rw[R];refine dC.keep (g.row p n) λb i f=>?_;obtain⟨o,ho⟩:=D p n b i f;rw[u.other b (λC=>by rw[C]at f;rw[g.fresh p n y i f]at H;cases H),ho];exact F.other b o ho (λj=>Q p n d b i j f)
 .rcases z p B with rfl|⟨n,_⟩
  .grind
  .exact g.fresh p n x i f
 .have M:∀p∈kk,p.1≠key->∀i j,p.2.a=some ⟨x,i,none⟩->E.a≠some ⟨x,j,none⟩:=λp B d i j f C=>by
   rcases F.fresh x j C with h|⟨j',h⟩
   .grind
   grind
  rcases z p B with rfl|⟨n,a3⟩<;>rcases z q hq with rfl|⟨S,a4⟩
  .grind
  .grind
  .grind
  .exact g.apart p n q S d x i j f C
 .have T:k≠key:=λf=>Z (mem_map.2 ⟨_,G,f.symm⟩);simp only[OJ,if_neg T];exact g.none_ k λh=>Z (L k h)
 .rw[u.other x d];exact F.other x o (g.old x o O d) (λi f=>cg)
theorem rK.put{m0 A:MH}{y:Nat}{kk:dy}{us:ByteArray->dn}{key:ByteArray}{s u e:Sl}{Q:MH->Prop}(g:rK m0 m y kk us)(B:∃o,m0 y=some o)(C:F6 kk key s)(D:dY m A s u 94 1 ((us key).map eS++[[iI e]]))
 (J:∀m' E,rK m0 m' y E (OJ us key e)->Q m'):
 ∃(j:dt)(Ok:Value->Prop),w8 A y j/\KeyLaw Tryz.prog 9 Ok/\Ok (.string key)/\Instr.sameBits 10000 (Value.string key) (Value.string key)=true/\(∀e,List.Mem e j->Ok e.1)/\((∀e,List.Mem e j->e.1=Value.string key->False)->∀m':MH,qD A m' y->w8 m' y (j++[(Value.string key,iI u)])->Q m')/\
  ∀(F:dt)(L:Value)(G:dt),j=F++(Value.string key,L)::G->∀m':MH,qD A m' y->w8 m' y (F++(Value.string key,iI u)::G)->Q m':=by
 have H:∀i,s.a≠some ⟨y,i,none⟩:=λi n=>by
  obtain⟨o,M⟩:=B;rw[(C.row g).2 y i n]at M;cases M
 obtain⟨R,c,S,T,U,V⟩:=g.map_;refine⟨kk.map λp=>(Value.string p.1,iI p.2),_,⟨R,c,D.other _ _ S H,T,U,V⟩,Ee,⟨key,rfl⟩,VF key,λe W=>?_,λX m' d I=>?_,λF L G Y m' d I=>?_⟩
 .obtain⟨k,_,rfl⟩:=mem_map.1 (show e∈_ from W)
  grind
 .have Z:key∉kk.map Prod.fst:=λh=>by
   obtain⟨p,hp,n⟩:=mem_map.1 h;subst n;exact X _ (mem_map_of_mem (f:=λp:ByteArray×Sl=>(Value.string p.1,iI p.2)) hp) rfl
  refine J m' (kk++[(key,u)]) (g.core B C D cg d ?_ ?_ bx (λk hk=>cg))
  .rw[cv,nodup_append];refine⟨g.nodup,bx,λa ha b hb n=>?_⟩
   grind
  grind
 .obtain⟨k1,a',e1,n,e3⟩:=map_eq_append_iff.1 Y;obtain⟨p,k2,e4,O,e6⟩:=map_eq_cons_iff.1 e3;subst e1 e4 n e6;simp only[Prod.mk.injEq,Value.string.injEq]at O;have x:=g.nodup;rw[cv,map_cons,O.1]at x;have z:=nodup_append.1 x;have P:=nodup_cons.1 z.2.1;refine J m' (k1++(key,u)::k2) (g.core B C D cg d cg ?_ bx (λk hk=>cg))
  grind
theorem rK.get2{m0:MH}{y:Nat}{kk:dy}{us:ByteArray->dn}{key:ByteArray}{K0:Prop}{K:Sl->Prop}(g:rK m0 m y kk us)(n:F6 kk key ⟨none,0,0⟩->K0)(o:∀s,F6 kk key s->K s):
 ∃(d:fc)(Ok:Value->Prop),qM m y (d.map λp=>(p.1,iI p.2))/\KeyLaw Tryz.prog 9 Ok/\Ok (.string key)/\(∀e,List.Mem e d->Ok e.1)/\((∀e,List.Mem e d->e.1=Value.string key->False)->K0)/\∀t,List.Mem (Value.string key,t) d->K t:=by
 obtain⟨u,c,x,z,_,_⟩:=g.map_;refine⟨kk.map λp=>(.string p.1,p.2),_,⟨u,c,x,by rw[z];simp⟩,Ee,⟨key,rfl⟩,λe A=>?_,λB=>n (.inl ⟨rfl,λh=>?_⟩),λt C=>o t (.inr ?_)⟩
 .obtain⟨k,_,rfl⟩:=mem_map.1 (show e∈_ from A)
  grind
 .obtain⟨p,j,e⟩:=mem_map.1 h;subst e;exact B (.string p.1,p.2) (mem_map_of_mem (f:=λp:ByteArray×Sl=>(Value.string p.1,p.2)) j) rfl
 .obtain⟨p,j,e⟩:=mem_map.1 (show(Value.string key,t)∈_ from C)
  grind
structure ajJ(m0 m:MH)(h:PH)(y:Nat)(f:ByteArray->dm):Prop where
 ex:∃kk us,rK m0 m y kk us/\∀k,eD h (us k) (f k)
theorem ajJ.upd{m0:MH}{y:Nat}{kk:dy}{us:ByteArray->dn}{f c:ByteArray->dm}{key:ByteArray}{e:Sl}{r:dp}(g:rK m0 m' y kk (OJ us key e))(j:∀k,eD h (us k) (f k))(n:bT h e r)(o:c key=f key++[r])(u:∀k,k≠key->c k=f k):ajJ m0 m' h y c:=by
 refine⟨kk,_,g,λk=>?_⟩;by_cases d:k=key
 .subst d;rw[o];have:OJ us k e k=us k++[e]:=if_pos rfl;rw[this];exact(j k).snoc n
 .rw[u k d];have:OJ us key e k=us k:=if_neg d
  grind
def kE(cols:dl)(r:dp):Bool:=(pick r cols).all jH
def jG(on:dq)(b:dm)(x:dp):dm:=
 if kE (gH on) x then(b.filter λy=>kE (fV on) y&&agree on x y).map (x++ ·)else[]
def cAX(q:Query)(ls:List dm):dm:=match q with|.mk _ _ _ _ on _ _ _ _=>(ls.getD 0 []).flatMap (jG on (ls.getD 1 []))
def Yn(q:Query)(ls:List dm):Prop:=match q with|.mk _ _ _ _ on _ _ _ _=>bbZ on ls/\(ls.getD 0 []).length*(ls.getD 1 []).length<=8000000
theorem wT{α β:Type}{f:α->List β}{n:Nat}:∀{l:List α},(∀x∈l,(f x).length<=n)->(l.flatMap f).length<=l.length*n
 |[],_=>bx
 |a::l,h=>by
  have d:=h a (mem_cons_self ..);have e:=wT (l:=l) λx c=>h x (mem_cons_of_mem _ c);simp only[flatMap_cons,ct,de,Nat.add_mul,Nat.one_mul];omega
theorem FH{α β:Type}{l:List α}{x:α}(f:α->List β)(c:l[k]? =some x):(l.take (k+1)).flatMap f=(l.take k).flatMap f++f x:=by
 rw[db,c];simp
theorem A1{on:dq}{b:dm}{x:dp}:(jG on b x).length<=b.length:=by
 unfold jG;grind
def under(κ:dp->ByteArray)(cols:dl)(l:dm)(key:ByteArray):dm:=l.filter λz=>kE cols z&&decide (κ (pick z cols)=key)
theorem IL{κ:dp->ByteArray}{cols:dl}{l:dm}{r:dp}(c:l[k]? =some r)(key:ByteArray):under κ cols (l.take (k+1)) key=under κ cols (l.take k) key++(if kE cols r&&decide (κ (pick r cols)=key)then[r]else[]):=wU _ c
def oG(κ:dp->ByteArray)(gr:dl)(l:dm)(k:ByteArray):dm:=l.filter λz=>decide (κ (pick z gr)=k)
def uO(od:dr)(l:dm):Prop:=l.Pairwise λa b=>¬i6 od b a<0
structure wO(κ:dp->ByteArray)(m:MH)(h:PH)(y:Nat)(gr:dl)(od:dr)(l:dm)(kk:dy)(g:ByteArray->dm):Prop where
 map_:w8 m y (kk.map λp=>(Value.string p.1,iI p.2))
 nodup:(kk.map Prod.fst).Nodup
 rows:∀p∈kk,Rows h p.2 (g p.1)
 none_:∀k,k∉kk.map Prod.fst->g k=[]
 perm:∀k,(g k).Perm (oG κ gr l k)
 sort:∀k,uO od (g k)
structure cdZ(m:MH)(h:PH)(od:dr)(p:ByteArray×Sl)(f:ByteArray->dm)(st:Prop):Prop where
 ex:∃ps:em,dC m p.2 94 1 (ps.map λq=>eS q.1)/\(∀q∈ps,bT h q.1 q.2)/\(ps.map Prod.snd).Perm (f p.1)/\(st->uO od (ps.map Prod.snd))
noncomputable def leftOf(m:MH)(r:Nat):Nat:=match m r with
 |some (.mapIter (some b) _ c _)=>(match m b with|some (.map d _)=>(d.toList.filter λe=> !c.contains e.born).length|_=>0)
 |_=>0
theorem mT.left_{r:Nat}{d left:dt}(i:mT m b r d left):leftOf m r=left.length:=by
 obtain⟨n,c,e,f,o,g,_,_,_,j,_,_,_,u⟩:=i.ex;simp only[leftOf,j,g]
 grind
theorem mT.mem{r:Nat}{d left:dt}(i:mT m b r d left){x:Value×Value}(g:x∈left):x∈d:=by
 obtain⟨j,c,e,f,n,o,u,_,_,y,_,_,_,z⟩:=i.ex
 grind
theorem mT.keep{r:Nat}{e left:dt}(i:mT m b r e left)(n:m' b=m b)(o:m' r=m r):mT m' b r e left:=by
 obtain⟨g,c,d,f,j,u,x⟩:=i.ex;exact⟨g,c,d,f,j,cg,cg⟩
theorem mT.nodup{r:Nat}{d left:dt}(i:mT m b r d left)(g:d.Nodup):left.Nodup:=by
 obtain⟨j,c,e,f,n,o,u,_,_,x,_,_,_,y⟩:=i.ex
 grind
theorem cyQ{us:dn}{rs:dm}(c:eD h us rs):∃ps:em,ps.map Prod.fst=us/\ps.map Prod.snd=rs/\∀q∈ps,bT h q.1 q.2:=by
 refine⟨us.zip rs,map_fst_zip (Nat.le_of_eq c.len),map_snd_zip (Nat.le_of_eq c.len.symm),λq e=>?_⟩;obtain⟨i,d⟩:=mem_iff_getElem?.1 e;rw[getElem?_zip_eq_some]at d;obtain⟨u,f,g⟩:=c.at_ i _ d.2
 grind
theorem dC.ice{s:Sl}{us:dn}(n:dC m s 94 1 (us.map eS))(D:∀b c,s.a=some ⟨b,0,none⟩->m b=some (.cells c 94 (0,0))->∀i,h b i=c[i]?):cE h s 1 (us.map eS):=by
 rcases n.ex with⟨rfl,f⟩|⟨b,x,c,rfl,E,y,F,G,H⟩
 .rw[f];exact cE.nil _ _
 .refine⟨bx,?_,y⟩;by_cases I:us.map eS=[]
  .grind
  .refine .inr ⟨b,0,rfl,λi e d=>⟨λj v o=>?_⟩⟩;have z:=n.rows.len e (cr d);have A:j=0:=cg
   subst A;have B:=(cn d)
   have J:((us.map eS).flatten)[i]? =some v:=by
    rw[getElem?_map]at d;cases g:us[i]? with
    |none=>grind
    |some u=>
     rw[g]at d;simp at d;subst d;simp[eS]at o;subst o
     have:∀l:dn,(l.map eS).flatten=l.map λu=>Value.slice u.a u.len u.cap:=λl=>by
      induction l with
      |nil=>rfl
      |cons a l C=>simp only[map_cons,flatten_cons,C];rfl
     grind
   grind
theorem UF{kk:dy}(d:(kk.map Prod.fst).Nodup){p q:ByteArray×Sl}(c:p∈kk)(f:q∈kk)(e:p.1=q.1):p=q:=by
 induction kk with
 |nil=>cases c
 |cons a kk g=>
  grind
theorem Wi{κ:dp->ByteArray}{O T C:MH}{A:PH}{y r:Nat}{l:dm}{kk:dy}{uk:ByteArray->dn}(U:Sub m O)(ny:m y=none)(m4y:O y=some (.map #[] 0))(g:rK O T y kk uk)(hg:∀k,eD A (uk k) (oG κ gr l k))(le:PH.le h A)(a1:l.length<=8000000)
 (V:∀b o,T b=some o->(∀p∈kk,∀i,p.2.a≠some ⟨b,i,none⟩)->C b=some o)(W:mT C y r (kk.map λp=>(Value.string p.1,iI p.2)) [])(n:∀p∈kk,cdZ C A od p (oG κ gr l) ((Value.string p.1,iI p.2)∉([]:dt)))
 (hK:∀y m2 d kk g,m y=none->(∀b,b≠y->m2 b=m b)->PH.le h d->wO κ m2 d y gr od l kk g->K (.val (.map (some y))) m2 d):fJ h K (.val (.map (some y))) C A:=by
 intro hd;have D:∀b o,O b=some o->∀p∈kk,∀i,p.2.a≠some ⟨b,i,none⟩:=λb o e p f i J=>by rw[g.fresh p f b i J]at e;cases e
 have L:Sub m T:=λz o J=>g.old z o (U z o J) (λe3=>cg)
 classical
 let B:Nat->Prop:=λb=>∃p∈kk,p.2.a=some ⟨b,0,none⟩
 have hB:∀b,B b->m b=none/\b≠y/\∀i,A b i=none:=by
  rintro b ⟨p,f,e⟩;obtain⟨ps,E,_⟩:=(n p f).ex;refine⟨?_,λJ=>?_,hd b _ (E.blk e).choose_spec⟩
  .cases J:m b with
   |none=>rfl
   |some o=>exact(D b o (U b o J) p f 0 e).elim
  grind
 let d:PH:=λb i=>if B b then(match C b with|some (.cells cs _ _)=>cs[i]? |_=>none)else A b i
 have H:PH.le A d:=⟨λb i v e=>by
  grind⟩
 have a2:∀p∈kk,∃G,Rows d p.2 G/\G.Perm (oG κ gr l p.1)/\uO od G:=λp f=>by
  obtain⟨ps,E,h3,h4,I⟩:=(n p f).ex;refine⟨ps.map Prod.snd,?_,h4,I bx⟩;have e5:(ps.map λq=>eS q.1)=(ps.map Prod.fst).map eS:=by rw[map_map];rfl
  rw[e5]at E
  have X:cE d p.2 1 ((ps.map Prod.fst).map eS):=dC.ice E λb M Y P i=>by
   show(if B b then _ else A b i)=_;rw[if_pos ⟨p,f,Y⟩,P]
  refine eD.rows (us:=ps.map Prod.fst) ⟨bx,λj x Q=>?_⟩ X ?_
  .rw[getElem?_map]at Q;cases R:ps[j]? with
   |none=>grind
   |some q=>
    rw[R]at Q;have Q:q.2=x:=cg
    exact⟨q.1,cg,Q▸bT.mono (h3 q (cr R)) H⟩
  .have:=h4.length_eq;have h6:(oG κ gr l p.1).length<=l.length:=length_filter_le _ _;omega
 let G:ByteArray->dm:=λk=>if e:∃p G,p∈kk/\p.1=k/\Rows d p.2 G/\G.Perm (oG κ gr l p.1)/\uO od G then e.choose_spec.choose else[]
 have hG:∀p∈kk,Rows d p.2 (G p.1)/\(G p.1).Perm (oG κ gr l p.1)/\uO od (G p.1):=λp f=>by
  have Z:∃u G,u∈kk/\u.1=p.1/\Rows d u.2 G/\G.Perm (oG κ gr l u.1)/\uO od G:=by
   grind
  have R:G p.1=Z.choose_spec.choose:=dif_pos Z;rw[R];obtain⟨I,h6,h7⟩:=Z.choose_spec.choose_spec
  have tr:∀u G',u∈kk->u.1=p.1->(Rows d u.2 G'/\G'.Perm (oG κ gr l u.1)/\uO od G')->Rows d p.2 G'/\G'.Perm (oG κ gr l p.1)/\uO od G':=λu G' E d h3=>by
   have e7:=UF g.nodup E f d
   grind
  grind
 have hN:∀k,k∉kk.map Prod.fst->G k=[]/\oG κ gr l k=[]:=λk F=>by
  refine⟨dif_neg ?_,?_⟩
  .grind
  .have I:=(hg k).len;rw[g.none_ k F]at I
   grind
 obtain⟨es,c,a',a0,c0,i1,i2,i3,i4,_⟩:=W.ex;refine⟨λb=>if b=y then C y else m b,d,λb o e=>?_,le.trans H,λb i v' e=>?_,hK y _ d kk G ny (λb S=>if_neg S) (le.trans H) ⟨⟨es,c,(if_pos rfl).trans i1,i2,i3,i4⟩,g.nodup,λp f=>(hG p f).1,λk F=>(hN k F).1,λk=>?_,λk=>?_⟩⟩
 .have e:(if b=y then C y else m b)=some o:=e;split at e
  .grind
  .exact V b o (L b o e) (D b o (U b o e))
 .have e:(if B b then _ else A b i)=some v':=e;split at e
  .rename_i S;have I:=hB b S;obtain⟨p,f,Y⟩:=S;obtain⟨ps,E,_⟩:=(n p f).ex;obtain⟨M,P⟩:=E.blk Y;rw[P]at e;refine .inr ⟨M,94,(0,0),P,e,?_⟩;show(if b=y then C y else m b)=none;rw[if_neg I.2.1];exact I.1
  grind
 .by_cases F:k∈kk.map Prod.fst
  .obtain⟨p,f,rfl⟩:=mem_map.1 F
   grind
  grind
 .by_cases F:k∈kk.map Prod.fst
  .obtain⟨p,f,rfl⟩:=mem_map.1 F
   grind
  .rw[(hN k F).1];exact List.Pairwise.nil
theorem Wh{κ:dp->ByteArray}{V J L M:MH}{X:PH}{y r w:Nat}{gr:dl}{od:dr}{l:dm}{kk:dy}{uk:ByteArray->dn}{left Y Z:dt}{x:Value×Value}(m4y:V y=some (.map #[] 0))(g:rK V J y kk uk)(O:gT w l)(a6:J r=none)
 (a7:∀b o,J b=some o->(∀p∈kk,∀i,p.2.a≠some ⟨b,i,none⟩)->L b=some o)(P:mT L y r (kk.map λp=>(Value.string p.1,iI p.2)) left)(D:∀p∈kk,cdZ L X od p (oG κ gr l) ((Value.string p.1,iI p.2)∉left))(a':left=Y++x::Z)(C:qD L M r)(a0:FV M y r (kk.map λp=>(Value.string p.1,iI p.2)) (Y++Z) x):
 ∃(c:ByteArray×Sl)(ps:em),x=(Value.string c.1,iI c.2)/\(∀b o,V b=some o->b≠y->M b=some o/\∀i,c.2.a≠some ⟨b,i,none⟩)/\dC M c.2 94 1 (ps.map λp:Sl×dp=>eS p.1)/\(∀p∈ps,bT X p.1 p.2)/\(∀p∈ps,p.2.length=w)/\ps.length<=l.length/\
  ∀(n:em)(E:MH),n.Perm ps->n.Pairwise (λp q=>¬i6 od q.2 p.2<0)->dC E c.2 94 1 (n.map λp=>eS p.1)->(∀b,(∀i,c.2.a≠some ⟨b,i,none⟩)->E b=M b)->
   (∀b o,J b=some o->(∀p∈kk,∀i,p.2.a≠some ⟨b,i,none⟩)->E b=some o)/\(∃left,mT E y r (kk.map λp=>(Value.string p.1,iI p.2)) left/\∀p∈kk,cdZ E X od p (oG κ gr l) ((Value.string p.1,iI p.2)∉left))/\leftOf E r<leftOf L r:=by
 have G:∀p∈kk,∀x i,p.2.a=some ⟨x,i,none⟩->∃o,J x=some o:=λp B x i W=>⟨_,((g.row p B).blk W).choose_spec⟩
 have H:∀{z o},J z=some o->z≠r:=fun{z o} W e3=>cg
 have a1:x∈left:=cg
 obtain⟨c,d,rfl⟩:=mem_map.1 (mT.mem P a1);obtain⟨ps,h1,h3,h4,h5⟩:=(D c d).ex;have F:∀b o,V b=some o->∀p∈kk,∀i,p.2.a≠some ⟨b,i,none⟩:=λb o e p B i W=>by rw[g.fresh p B b i W]at e;cases e
 have u:∀p∈kk,∀b i,p.2.a=some ⟨b,i,none⟩->b≠r:=λp B b i e=>H (G p B b i e).choose_spec;have Q:=h4.length_eq;have a2:(oG κ gr l c.1).length<=l.length:=length_filter_le _ _;rw[length_map]at Q;refine⟨c,ps,rfl,λb o e a3=>⟨?_,F b o e c d⟩,dC.keep h1 λb i e=>C.other b (u c d b i e),h3,λq hq=>?_,aC,λn E A a4 I f=>?_⟩
 .have mb:=g.old b o e a3;rw[C.other b (H mb)]
  grind
 .have:q.2∈oG κ gr l c.1:=h4.mem_iff.1 (mem_map_of_mem hq);exact O.wid _ (mem_filter.1 this).1
 .have R:∀i,c.2.a≠some ⟨y,i,none⟩:=F y _ m4y c d;have S:∀i,c.2.a≠some ⟨r,i,none⟩:=λi e=>u c d r i e rfl;have T:mT E y r (kk.map λp=>(Value.string p.1,iI p.2)) (Y++Z):=mT.keep a0.it (f y R) (f r S);refine⟨λb o e hb=>?_,⟨_,T,λp B=>?_⟩,?_⟩
  .rw[f b (hb c d),C.other b (H e)]
   grind
  .by_cases U:p=c
   .subst U;refine⟨n,I,λq hq=>h3 q (A.mem_iff.1 hq),(A.map _).trans h4,λ_=>?_⟩;rw[uO,pairwise_map];omega
   .have a5:p.1≠c.1:=λe=>U (UF g.nodup B d e);obtain⟨qs,g1,g3,g4,g5⟩:=(D p B).ex;refine⟨qs,dC.keep g1 λb i e=>?_,g3,g4,λhn=>g5 λhl=>hn ?_⟩
    .rw[f b (λj=>g.apart p B c d a5 b i j e),C.other b (u p B b i e)]
    grind
  .rw[mT.left_ T,mT.left_ P,a'];simp
theorem ME{w:Nat}:∀{od:dr}{a b:dp},Lj w od a b=0->a=b
 |[],_,_,h=>iH.1 h
 |(c,d)::r,a,b,h=>by
  rw[Lj]at h;generalize (if d then-jO (a.getD c.toNat zeroV) (b.getD c.toNat zeroV)else jO (a.getD c.toNat zeroV) (b.getD c.toNat zeroV))=x at h;split at h
  .split at h
   .omega
   .exact ME h
  .exact ME h
theorem D4{w:Nat}{od:dr}{a b:dp}(c:a.length=w)(d:b.length=w):i6 od a b= -i6 od b a:=by
 rw[DA c d,DA d c];exact(Li w od).anti a b
theorem a3Q{w:Nat}{a b:dp}(c:a.length=w)(d:b.length=w)(h:i6 od a b=0):a=b:=by
 rw[DA c d]at h;exact ME h
theorem MZ{w:Nat}{od:dr}{x:dp}:∀{G:dm}{n:Nat},uO od G->(∀r∈G,r.length=w)->G.Nodup->(x∈G.take n↔x∈G/\(G.countP λy=>decide (i6 od y x<0))<n)
 |[],n,_,_,_=>bx
 |a::G,0,_,_,_=>bx
 |a::G,n+1,g,j,o=>by
  have g:=pairwise_cons.1 g;have o:=nodup_cons.1 o;have z:=MZ (x:=x) (G:=G) (n:=n) g.2 (λr A=>j r (mem_cons_of_mem _ A)) o.2;have c:=j a (mem_cons_self ..);rw[take_succ_cons,mem_cons,z,mem_cons,countP_cons];by_cases u:x=a
  .subst u;have B:¬i6 od x x<0:=by have:=D4 (od:=od) c c;omega
   have C:(G.countP λy=>decide (i6 od y x<0))=0:=countP_eq_zero.2 λy D=>cg
   grind
  .by_cases d:x∈G
   .have f:=j x (mem_cons_of_mem _ d);have B:=g.1 x d;have C:=D4 (od:=od) c f;have E:i6 od a x≠0:=λe=>u (a3Q c f e).symm
    grind
   grind
theorem Rc{l:dm}(h:jU l):l.Nodup:=by
 rw[nodup_iff_pairwise_ne];exact h.imp fun{a b} c e=>by subst e;have:=GQ.anti a a;omega
def rG(gr:dl)(x y:dp):Bool:=dQ (pick x gr) (pick y gr)==0
theorem Ca{gr:dl}{x y:dp}:rG gr x y=true↔pick x gr=pick y gr:=by
 simp only[rG,beq_iff_eq,iH]
def z8(gr:dl)(od:dr)(li:Int)(a b:dm):dm:=a.filter λx=>decide (((b.countP λy=>rG gr x y&&decide (i6 od y x<0):Nat):Int)<li)
def cyJ(q:Query)(ls:List dm):dm:=match q with|.mk _ _ _ _ _ gr od li _=>z8 gr od li (ls.getD 0 []) (ls.getD 0 [])
def Yl(q:Query)(ls:List dm):Prop:=match q with|.mk _ _ _ _ _ gr _ li _=>1<=ls.length/\(∃w,gT w (ls.getD 0 [])/\fS w gr)/\0<=li
theorem beX{κ:dp->ByteArray}(e:a4J κ){w:Nat}{l:dm}(c:gT w l)(f:fS w gr){x y:dp}(g:U6 x)(j:x.length=w)(d:y∈l):κ (pick y gr)=κ (pick x gr)↔rG gr x y=true:=by
 rw[Ca];have:=e.inj (a:=pick y gr) (b:=pick x gr) (by simp[pick]) (JM (c.row y d) (by rw[c.wid y d];exact f)) (JM g cg)
 grind
theorem Nl{κ:dp->ByteArray}(c:a4J κ){w:Nat}{l:dm}(d:gT w l)(e:fS w gr){x:dp}(f:U6 x)(g:x.length=w):
 ((oG κ gr l (κ (pick x gr))).countP λy=>decide (i6 od y x<0))=l.countP λy=>rG gr x y&&decide (i6 od y x<0):=by
 rw[oG,countP_filter];refine countP_congr λy j=>?_;have n:=beX c d e f g j
 grind
theorem Xr{α:Type}{p q:α->Bool}:∀{l:List α},(∀x∈l,¬(p x=true/\q x=true))->l.countP p+l.countP q=l.countP λx=>p x||q x
 |[],_=>rfl
 |a::l,h=>by
  have d:=Xr (l:=l) λx c=>h x (mem_cons_of_mem _ c)
  grind
theorem aNZ{κ:dp->ByteArray}(z:a4J κ){y w:Nat}{l:dm}{kk:dy}{g:ByteArray->dm}(e:wO κ m h y gr od l kk g)(c:gT w l)(d:fS w gr)(A:0<=li)(x:dp):
 x∈z8 gr od li l l↔∃p∈kk,x∈(g p.1).take li.toNat:=by
 have B:∀k r,r∈g k->r∈l/\κ (pick r gr)=k:=λk r n=>by
  have:=(e.perm k).mem_iff.1 n;simpa[oG]using this
 have C:∀k,(g k).Nodup:=λk=>(e.perm k).nodup_iff.2 ((Rc c.srt).sublist filter_sublist);have D:∀k,x∈(g k).take li.toNat↔x∈g k/\((g k).countP λy=>decide (i6 od y x<0))<li.toNat:=λk=>MZ (e.sort k) (λr n=>c.wid r (B k r n).1) (C k)
 have E:x∈l->((g (κ (pick x gr))).countP λy=>decide (i6 od y x<0))=l.countP λy=>rG gr x y&&decide (i6 od y x<0):=λj=>by
  rw[(e.perm _).countP_eq];exact Nl z c d (c.row x j) (c.wid x j)
 rw[z8,mem_filter];constructor
 .rintro⟨j,u⟩;have u:=of_decide_eq_true u;have f:x∈g (κ (pick x gr)):=(e.perm _).mem_iff.2 (by simp[oG,j])
  have o:κ (pick x gr)∈kk.map Prod.fst:=by
   by_cases o:κ (pick x gr)∈kk.map Prod.fst
   .exact o
   .rw[e.none_ _ o]at f;cases f
  grind
 grind
open Classical in
structure GY(κ:dp->ByteArray)(gr:dl)(li:Int)(l:dm)(kk:dy)(g:ByteArray->dm)(left:dt)(acc:dm):Prop where
 mem:∀x,x∈acc↔∃p∈kk,(Value.string p.1,iI p.2)∉left/\x∈(g p.1).take li.toNat
 cnt:acc.length+(l.countP λz=>decide (Value.string (κ (pick z gr))∈left.map Prod.fst))<=l.length
open Classical in
theorem GY.start{κ:dp->ByteArray}{gr:dl}{li:Int}{l:dm}{kk:dy}{g:ByteArray->dm}:GY κ gr li l kk g (kk.map λp=>(Value.string p.1,iI p.2)) []:=by
 refine⟨λx=>⟨λe=>(by cases e),?_⟩,?_⟩
 .grind
 grind
theorem aLX{kk:dy}(c:(kk.map Prod.fst).Nodup):(kk.map λp=>(Value.string p.1,iI p.2)).Nodup:=by
 grind
open Classical in
theorem GY.step{κ:dp->ByteArray}{m F:MH}{h:PH}{y G r:Nat}{gr:dl}{od:dr}{li:Int}{l f:dm}{kk:dy}{g:ByteArray->dm}{left d e:dt}{c:ByteArray×Sl}(st:GY κ gr li l kk g left f)(o:wO κ m h y gr od l kk g)(j:mT F G r (kk.map λp=>(Value.string p.1,iI p.2)) left)(u:c∈kk)(A:left=d++(Value.string c.1,iI c.2)::e):
 GY κ gr li l kk g (d++e) (f++(g c.1).take li.toNat):=by
 have B:=mT.nodup j (aLX o.nodup);rw[A]at B
 have E:(Value.string c.1,iI c.2)∉d++e:=λh=>by
  grind
 have C:∀x∈d++e,x∈left:=λx h=>cg
 refine⟨λx=>?_,?_⟩
 .rw[mem_append,st.mem]
  grind
 .have H:Value.string c.1∉(d++e).map Prod.fst:=λh=>by
   obtain⟨z,D,n⟩:=mem_map.1 h;obtain⟨p,I,rfl⟩:=mem_map.1 (mT.mem j (C _ D));simp only[Value.string.injEq]at n;have:=UF o.nodup I u n
   grind
  have L:=Xr (l:=l) (p:=λz=>decide (Value.string (κ (pick z gr))∈(d++e).map Prod.fst)) (q:=λz=>decide (κ (pick z gr)=c.1)) (λz _⟨M,O⟩=>by
   grind)
  have P:(l.countP λz=>decide (Value.string (κ (pick z gr))∈(d++e).map Prod.fst)||decide (κ (pick z gr)=c.1))=l.countP λz=>decide (Value.string (κ (pick z gr))∈left.map Prod.fst):=by
   grind
  have Q:(oG κ gr l c.1).length=l.countP λz=>decide (κ (pick z gr)=c.1):=by rw[oG,countP_eq_length_filter]
  have J:=(o.perm c.1).length_eq;have:=st.cnt;rw[ct,length_take];omega
theorem GY.done{κ:dp->ByteArray}(j:a4J κ){y w:Nat}{l e:dm}{kk:dy}{g:ByteArray->dm}(st:GY κ gr li l kk g [] e)(n:wO κ m h y gr od l kk g)(c:gT w l)(d:fS w gr)(f:0<=li):z8 gr od li l l=Bb e:=
 Uh (c.srt.sublist filter_sublist) λx=>by rw[aNZ j n c d f,st.mem];simp
theorem a7J{h:PH}{s:Sl}{l:dm}{li:Int}(f:Rows h s l)(g:0<=li):(0<=if(s.len:Int)<li then(s.len:Int)else li)/\(if(s.len:Int)<li then(s.len:Int)else li)<=s.cap/\∃us:dn,cE h ⟨s.a,(if(s.len:Int)<li then(s.len:Int)else li).toNat,s.cap⟩ 1 (us.map eS)/\eD h us (l.take li.toNat)/\us.length<=l.length:=by
 obtain⟨⟨c,d,n,o⟩,_⟩:=f;have u:s.len=c.length:=by have:=d.len;grind
 have y:((if(s.len:Int)<li then(s.len:Int)else li).toNat)=min c.length li.toNat:=by omega
 have e:=d.cap;refine⟨aC,aC,c.take (min c.length li.toNat),?_,⟨cg,λj x z=>?_⟩,ce⟩
 .rw[y,map_take];exact cE.cut d _ ce
 grind
theorem KW{w:World}{q:Nat}{c:Array Obj}(d:b<w.heap.size):(Sort.grow (w.drewN q) c).heap[b]? =w.heap[b]? :=by
 show((w.drewN q).heap++c)[b]? =_;rw[Array.getElem?_append_left (show b<(w.drewN q).heap.size from d)];rfl
theorem Xx{P:Program}{g:Nat}{cs:dj}{m:MH}{h:PH}{S:Vc.Spec}{r:CV}{u:Value}(H:Sound P g S)(I:S (cs.map .val) m h λr' m' h'=>r'=r/\m'=m/\h'=h)(J:∀w u',G5 w r u'->u'=u){w:World}
 (L:∀b o v,h b o=some v->w.cell? ⟨b,o,none⟩=some v)(U:∀b o,m b=some o->w.heap[b]? =some o)(M:∀b o,m b=some o->∀i,h b i=none)(B:Nat)(C:Array Obj):
 Calls P g cs.toArray (Sort.grow (w.drewN B) C) λe w'=>e= .returned u/\∃q D,w'=Sort.grow ((Sort.grow (w.drewN B) C).drewN q) D:=by
 obtain⟨W,hW⟩:∃W,Sort.grow (w.drewN B) C=W:=⟨_,rfl⟩
 rw[hW];have E:∀b,b<w.heap.size->W.heap[b]? =w.heap[b]? :=λb f=>by rw[<-hW];exact KW f
 have x:∀(l:dj)(w:World),DV w (l.map .val) l:=λl w=>by
  induction l with
  |nil=>trivial
  |cons a l O=>exact⟨rfl,O⟩
 have z:∀(l:dj)(i:Nat)(c:CV)(u:Value)(b:Nat),(l.map CV.val)[i]? =some c->iG c u=some b->False:=λl i c u b n f=>by
  rw[getElem?_map]at n;cases e:l[i]? with
  |none=>grind
  |some v=>rw[e]at n;simp at n;subst n;simp[iG]at f
 have A:B9 W m h (cs.map .val) cs:=by
  refine⟨x _ _,?_,?_,M,λi j c d u v b n _ _ _ f _=>(z _ i c u b n f).elim,λi c u b n _ f=>(z _ i c u b n f).elim⟩
  .intro b o v Q;have F:=L b o v Q;rw[World.cell?_of_block (w:=w) (w':=W) (a:=⟨b,o,none⟩) (E b (World.block_lt_of_cell? w ⟨b,o,none⟩ F))];exact F
  grind
 refine(H.2 _ _ m h W _ I A).mono ?_;rintro e w' ⟨r',u',m',h',rfl,⟨rfl,rfl,rfl⟩,G,y,_⟩;have R:=J _ _ G;subst R;refine⟨rfl,MQ y.tape y.os y.output y.drawn y.size (λb f=>?_)⟩;cases T:m' b with
 |none=>
  refine y.frame b f ?_;rintro(F|⟨i,c,u,n,_,V⟩)
  .grind
  grind
 |some o=>rw[y.msat b o T];grind
theorem Yb{g:Nat}{S R:Vc.Spec}(V:di g S)(hR:∀B m h K,R B m h K->∃(n E F G H:Nat)(od:dr)(rs:dm)(r:dp),B=[cI n,.val (.func (.func g) #[] #[.pointer (some ⟨E,0,none⟩),.pointer (some ⟨F,0,none⟩),.pointer (some ⟨G,0,none⟩)])]/\rs.length<=502633886983/\rs.length=n/\uO od rs/\(∀x∈rs,x.length=H)/\r.length=H/\
 (∀(i:Nat) x,rs[i]? =some x->S ([.int .i64 i,.pointer (some ⟨E,0,none⟩),.pointer (some ⟨F,0,none⟩),.pointer (some ⟨G,0,none⟩)].map .val) m h λr' m' h'=>r'=cB (decide (i6 od x r>=0))/\m'=m/\h'=h)/\K (cI ((rs.countP λy=>decide (i6 od y r<0):Nat):Int)) m h):di 126 R:=by
 refine⟨⟨Tryz.f126,func126,rfl,bz⟩,?_⟩;intro B W m h w K h0 d;obtain⟨n,E,F,G,H,od,rs,r,rfl,X,rfl,J,Y,f,hS,hK⟩:=hR _ _ _ _ h0
 obtain⟨v1,I,rfl⟩:∃v I,W=[v,I]:=by
  have:=(rD d.args).1
  match W,this with
  |[v,I],_=>grind
 have C:v1= .int .i64 rs.length:=d.args.1;have h2:I= .func (.func g) #[] #[.pointer (some ⟨E,0,none⟩),.pointer (some ⟨F,0,none⟩),.pointer (some ⟨G,0,none⟩)]:=d.args.2.1;subst C h2
 have eg:∀args w,(callFunc g args).run Tryz.prog w= .ok (.enter g args) w:=λargs w=>by
  obtain⟨Z,L,c,hn⟩:=V.1;have M:¬Z.body=none:=cg
  have O:¬Z.name= "runtime.NumGoroutine" :=cg
  simp[callFunc,program,Sem.run,L,O,M]
 have D:=Any.sort_Search Tryz.searchO g #[.pointer (some ⟨E,0,none⟩),.pointer (some ⟨F,0,none⟩),.pointer (some ⟨G,0,none⟩)] rs.length (λi=>decide (i6 od (rs.toArray[i]!) r>=0)) w eg aC
  (λmm P i hi=>Xx (cs:=[.int .i64 i,.pointer (some ⟨E,0,none⟩),.pointer (some ⟨F,0,none⟩),.pointer (some ⟨G,0,none⟩)]) V
   (hS i _ cg) (λw u' hu=>hu) d.hsat d.msat d.disj mm P)
  (λa b Q c j=>?_)
 .refine Calls.mono D ?_;rintro e w' ⟨rfl,q,P,rfl⟩
  have u:((List.range rs.length).countP λi=> !decide (i6 od (rs.toArray[i]!) r>=0))=rs.countP λy=>decide (i6 od y r<0):=by
   have:=Go.Lib.countP_range rs.toArray (λy=> !decide (i6 od y r>=0))
   grind
  rw[u];refine⟨_,_,m,h,rfl,hK,rfl,⟨rfl,rfl,rfl,Nat.le_add_right _ _,?_,λb c _=>KW c,λb o v T=>?_,λb o c=>?_,d.disj,λ_ _ _ e=>e,λ_ _ _=>rfl,λb o c=>.inr (.inl cg)⟩,λb c=>by cases c⟩
  .show w.heap.size<=((w.drewN q).heap++P).size;rw[Array.size_append];exact Nat.le_add_right _ _
  .have C:=d.hsat b o v T;rw[World.cell?_of_block (w:=w) (a:=⟨b,o,none⟩) (KW (World.block_lt_of_cell? w ⟨b,o,none⟩ C))];exact C
  .have C:=d.msat b o c;rw[KW (Array.getElem?_eq_some_iff.1 C).1];exact C
 .have j:=of_decide_eq_true j;refine decide_eq_true ?_;rcases Nat.lt_or_eq_of_le Q with U|rfl
  .have ha:a<rs.length:=by omega
   rw[getElem!_pos _ a aC]at j;rw[getElem!_pos _ b aC];simp only[getElem_toArray]at j⊢
   have z:=Y _ (getElem_mem ha);have A:=Y _ (getElem_mem c);have h5:=(pairwise_iff_getElem.1 J) a b ha c U;have h6:=D4 (od:=od) z A;have h7:=D4 (od:=od) z f;have h8:=D4 (od:=od) A f;rw[DA z A]at h6;have:=(Li H od).trans r rs[a] rs[b] (by rw[<-DA f z];omega) aC;rw[<-DA f A]at this;omega
  omega
theorem wO.get2{κ:dp->ByteArray}{y:Nat}{l:dm}{kk:dy}{G:ByteArray->dm}{key:ByteArray}{K0:Prop}{K:Sl->Prop}(g:wO κ m h y gr od l kk G)(n:F6 kk key ⟨none,0,0⟩->K0)(o:∀s,F6 kk key s->K s):
 ∃(d:fc)(Ok:Value->Prop),qM m y (d.map λp=>(p.1,iI p.2))/\KeyLaw Tryz.prog 9 Ok/\Ok (.string key)/\(∀e,List.Mem e d->Ok e.1)/\((∀e,List.Mem e d->e.1=Value.string key->False)->K0)/\∀t,List.Mem (Value.string key,t) d->K t:=by
 obtain⟨u,c,x,z,_,_⟩:=g.map_;refine⟨kk.map λp=>(.string p.1,p.2),_,⟨u,c,x,by rw[z];simp⟩,Ee,⟨key,rfl⟩,λe A=>?_,λB=>n (.inl ⟨rfl,λh=>?_⟩),λt C=>o t (.inr ?_)⟩
 .obtain⟨k,_,rfl⟩:=mem_map.1 (show e∈_ from A)
  grind
 .obtain⟨p,j,e⟩:=mem_map.1 h;subst e;exact B (.string p.1,p.2) (mem_map_of_mem (f:=λp:ByteArray×Sl=>(Value.string p.1,p.2)) j) rfl
 .obtain⟨p,j,e⟩:=mem_map.1 (show(Value.string key,t)∈_ from C)
  grind
theorem wO.keep{κ:dp->ByteArray}{y:Nat}{l:dm}{kk:dy}{G:ByteArray->dm}(g:wO κ m h y gr od l kk G)(d:∀o,m y=some o->m' y=some o)(le:PH.le h h'):wO κ m' h' y gr od l kk G:=by
 obtain⟨e,c,f,j,n,u⟩:=g.map_;exact⟨⟨e,c,d _ f,j,n,u⟩,g.nodup,λp x=>bI.mono (g.rows p x) le (λr t z=>bT.mono z le),g.none_,g.perm,g.sort⟩
theorem wO.at_{κ:dp->ByteArray}{y:Nat}{l:dm}{kk:dy}{G:ByteArray->dm}{key:ByteArray}{s:Sl}(g:wO κ m h y gr od l kk G)(c:F6 kk key s):Rows h s (G key):=by
 rcases c with⟨rfl,d⟩|e
 .rw[g.none_ key d];exact(eD.nil h).rows (cE.nil _ _) bx
 .exact g.rows _ e
def bSQ(q:Query)(ls:List dm):dm:=match q with|.mk _ _ _ _ _ gr od li _=>z8 gr od li (ls.getD 0 []) (ls.getD 1 [])
def Pe(q:Query)(ls:List dm):Prop:=match q with|.mk _ _ _ _ _ gr _ _ _=>2<=ls.length/\∃w,gT w (ls.getD 0 [])/\gT w (ls.getD 1 [])/\fS w gr
def Q8(op:Int)(q:Query)(ls:List dm):dm:=
 if op=2 then bVZ q ls else if op=3 then czQ q ls else if op=4 then cAX q ls else if op=5 then cyX q ls else if op=6 then cnZ q ls else if op=7 then crX q ls else if op=8 then crJ q ls else if op=9 then cyJ q ls else bSQ q ls
def LM(op:Int)(q:Query)(ls:List dm):Prop:=
 if op=2 then aoZ 1 q ls else if op=3 then Ym q ls else if op=4 then Yn q ls else if op=5 then bbQ q ls else if op=6 then aoZ 2 q ls else if op=7 then LL q ls else if op=8 then LL q ls else if op=9 then Yl q ls else Pe q ls
mutual
def A3(ls:List dm):Query->Nat->dm×Nat
 |.mk op ta w co on gr od li args,k=>if op=1 then(ls.getD k [],k+1)else(Q8 op (.mk op ta w co on gr od li args) (yU ls args k).1,(yU ls args k).2)
def yU(ls:List dm):ds->Nat->List dm×Nat
 |[],k=>([],k)
 |q::qs,k=>((A3 ls q k).1::(yU ls qs (A3 ls q k).2).1,(yU ls qs (A3 ls q k).2).2)
end
mutual
def okQ(ls:List dm):Query->Nat->Prop
 |.mk op ta w co on gr od li args,k=>if op=1 then k<ls.length else LM op (.mk op ta w co on gr od li args) (yU ls args k).1/\bbX ls args k
def bbX(ls:List dm):ds->Nat->Prop
 |[],_=>True
 |q::qs,k=>okQ ls q k/\bbX ls qs (A3 ls q k).2
end
def Leaves(h:PH)(s:Sl)(ls:List dm):Prop:=bI h 1 eS (λl t=>Rows h t l) s ls
def aEQ:Vc.Spec:=λc m h K=>∃s r,c=[cS s]/\bT h s r/\r.length<=1000/\∀d h',PH.le h h'->bT h' d r->K (cS d) m h'
def Wy(a:Addr)(n c:Nat)(m:MH)(h:PH)(K:dk):Prop:=
  ∃(y:List dj),aA (cZ 3 y) (cE h (Sl.mk (Option.some a) n c) 3 y) (aA (E4 0 y 32) (j4 (0+y.length)) (bU h 3 (Ft y) (λs d=>K (F9 s) m d)))
theorem ctX(a:Addr)(n c:Nat)(m:MH)(h:PH)(K:dk):Wy a n c m h K=(tB (cT [] [] [] [] false) Tryz.f78 (cM Tryz.f78) (entry Tryz.f78.ntmps [.val (.slice (some a) n c)] m h) K):=bu
def R7(n c:Nat)(m:MH)(h:PH)(K:dk):Prop:=
  K iO m h
theorem bYX(n c:Nat)(m:MH)(h:PH)(K:dk):R7 n c m h K=(tB (cT [] [] [] [] false) Tryz.f78 (cM Tryz.f78) (entry Tryz.f78.ntmps [.val (.slice none n c)] m h) K):=bu
theorem aPJ:di 78 aEQ:=by
 refine eA (fn:=Tryz.f78) (c:=cM Tryz.f78) func78 rfl bz ?_;rintro z m h K ⟨⟨a,n,c⟩,r,rfl,f,G,g⟩;refine⟨cT [] [] [] [] false,rfl,aG,?_⟩;cases a with
 |none=>
  show tB _ Tryz.f78 (cM Tryz.f78) (entry Tryz.f78.ntmps [.val (.slice none n c)] m h) K;rw[<-bYX n c m h K];dsimp only[R7,push_cast];refine g ⟨none,0,0⟩ h (.refl _) ?_;cases r with
  |nil=>exact⟨⟨[],cE.nil _ _,rfl,λi x A=>by simp at A⟩,bx⟩
  |cons x r=>
   obtain⟨b,o,v,e,_⟩:=bI.at f (i:=0) (x:=x) rfl;cases e
 |some a=>
  show tB _ Tryz.f78 (cM Tryz.f78) (entry Tryz.f78.ntmps [.val (.slice (some a) n c)] m h) K;rw[<-ctX a n c m h K];dsimp only[Wy,push_cast];obtain⟨⟨j,B,C,D⟩,E⟩:=f;refine⟨j.map VV.enc,?_,B,cg,cg,λs h' le F=>g s h' le ⟨⟨j,cg,C,D⟩,E⟩⟩;constructor
  .intro e d;obtain⟨x,_,rfl⟩:=mem_map.1 d;rfl
  .intro e d u y;obtain⟨x,_,rfl⟩:=mem_map.1 d;simp[VV.enc]at y;rcases y with rfl|rfl|rfl<;>rfl
mutual
def nN:Query->dl
 |.mk op ta _ _ _ _ _ _ args=>(if op=1 then[ta]else[])++lM args
def lM:ds->dl
 |[]=>[]
 |q::qs=>nN q++lM qs
end
theorem fJ.rowG{E:TypeId}{m m':MH}{h c:PH}{s:Sl}{vs:dj}{K:dk}(sub:Sub m m')(le:PH.le h c)(C:dC m' s E 1 (vs.map λv=>[v]))(M:∀i b,s.a=some ⟨b,i,none⟩->m b=none)(x:∀h',PH.le c h'->cE h' s 1 (vs.map λv=>[v])->K (cS s) m h'):fJ h K (cS s) m' c:=by
 intro D;rcases C.ex with⟨rfl,g⟩|⟨b,F,n,rfl,G,O,P,Q,y⟩
 .refine⟨m,c,sub,le,λb i v e=>.inl e,x c (.refl _) ?_⟩;rw[g];exact cE.nil _ _
 .have z:∀i,c b i=none:=D b _ G;refine⟨m,oZ c b n.toList,sub,le.trans (apZ z),λH i v e=>?_,x _ (apZ z) ⟨?_,?_,?_⟩⟩
  .by_cases A:H=b
   .subst A;simp only[oZ,if_true]at e
    grind
   .simp only[oZ,if_neg A]at e;exact .inl e
  .simp
  .by_cases I:vs.map (λv=>[v])=[]
   .exact .inl I
   .refine .inr ⟨b,0,rfl,λi e f=>⟨λj v B=>?_⟩⟩;rw[getElem?_map]at f;cases d:vs[i]? with
    |none=>grind
    |some u=>
     rw[d]at f;simp at f;subst f;have J:j=0:=cg
     subst J;have B:u=v:=cg
     subst B;have L:=(cn d)
     have o:∀l:dj,(l.map λv=>[v]).flatten=l:=λl=>by
      induction l with
      |nil=>rfl
      |cons a l R=>grind
     rw[o]at y;rw[<-y,getElem?_take,length_map,if_pos aC]at d;simp only[oZ,if_true]
     grind
  omega
structure G1(s:lL)(c:Nat)(ls:List dm)(k:Nat)(ts:dl):Prop where
 at_:∀(j:Nat)(t:Int),ts[j]? =some t->∃l,ls[k+j]? =some l/\gT (kA s t).length l/\l.length<=c
theorem G1.left{c:Nat}{ls:List dm}{b:dl}(x:G1 s c ls k (a++b)):G1 s c ls k a:=
 ⟨λj t h=>x.at_ j t cg⟩
theorem G1.right{c:Nat}{ls:List dm}{b:dl}(x:G1 s c ls k (a++b)):G1 s c ls (k+a.length) b:=
 ⟨λj t h=>by
  have:=x.at_ (a.length+j) t cg
  grind⟩
theorem Cs{op:Int}{on:dq}{args:ds}{ks:dl}(h:bM s ps (.mk op ta w co on gr od li args)=(ks,0)):
 ∃c,eO s ps args=(c,0)/\(c.length:Int)=arity op/\eU s ps (.mk op ta w co on gr od li args) (c.getD 0 []) (c.getD 1 [])=(ks,0):=by
 rw[bM]at h;generalize eO s ps args=r at h;obtain⟨c,e⟩:=r;dsimp only at h;split at h
 .rename_i d;subst d;split at h
  .grind
  .simp[eN]at h
 .rename_i d;simp only[eN,Prod.mk.injEq]at h;omega
theorem oE{e:ds}{d:List dl}(h:eO s ps (q::e)=(d,0)):∃k c,bM s ps q=(k,0)/\eO s ps e=(c,0)/\d=k::c:=by
 rw[eO]at h
 grind
theorem vG{ks:dl}(h:nI l=(ks,0)):ks=l/\l.length<=12:=by
 unfold nI at h
 grind
theorem wM{op:Int}(h:arity op=0):op=1:=by
 unfold arity at h
 grind
mutual
theorem XD{s:lL}{ps:dl}{c:Nat}(f:1<=c):∀{q:Query}{ks:dl},bM s ps q=(ks,0)->1<=gW c q
 |.mk op ta w co on gr od li args,ks,h=>by
  obtain⟨j,d,g,o⟩:=Cs h;have e:=agQ f d;rw[gW];split
  .exact f
  .rename_i n;split
   .exact e.1
   .match args,d,e with
    |[],d,_=>rw[eO]at d;simp only[Prod.mk.injEq,and_true]at d;rw[<-d]at g;exact absurd (wM g.symm) n
    |q::qs,d,e=>grind
theorem agQ{s:lL}{ps:dl}{c:Nat}(f:1<=c):∀{e:ds}{d:List dl},eO s ps e=(d,0)->1<=zK c e/\(e≠[]->1<=Bp c e)
 |[],d,h=>by simp[zK]
 |q::e,d,h=>by
  obtain⟨k,g,j,n,x⟩:=oE h;have o:=XD f j;have u:=agQ f n;rw[zK,Bp];exact⟨Nat.mul_pos o u.1,λ_=>by omega⟩
end
def T3(c:Nat):ds->List dl->List dm->Prop
 |[],[],[]=>True
 |q::qs,k::ks,l::ls=>gT k.length l/\l.length<=gW c q/\T3 c qs ks ls
 |_,_,_=>False
theorem Uw{α:Type}:∀{l:List α},l.length=2->∃a b,l=[a,b]
 |[a,b],_=>⟨a,b,rfl⟩
theorem T3.len{c:Nat}{d:ds}{ls:List dm}(h:T3 c d ks ls):d.length=ks.length/\ls.length=ks.length:=by
 induction d generalizing ks ls with
 |nil=>
  match ks,ls,h with
  |[],[],_=>omega
  |_::_,[],h=>exact h.elim
  |[],_::_,h=>exact h.elim
  |_::_,_::_,h=>exact h.elim
 |cons q d e=>
  match ks,ls,h with
  |[],[],h=>exact h.elim
  |_::_,[],h=>exact h.elim
  |[],_::_,h=>exact h.elim
  |k::ks,l::ls,h=>
   obtain⟨f,g⟩:=e h.2.2
   grind
theorem gT.filter{w:Nat}{l:dm}(x:gT w l)(p:dp->Bool):gT w (l.filter p):=
 ⟨λr h=>x.row r (mem_filter.1 h).1,λr h=>x.wid r (mem_filter.1 h).1,x.srt.filter p,dg (length_filter_le _ _) x.len⟩
theorem Wd(x:dp):∀l:dm,(L3 x l).length<=l.length+1
 |[]=>by simp[L3]
 |y::l=>by
  have:=Wd x l;simp only[L3]
  grind
theorem JD:∀l:dm,(Bb l).length<=l.length
 |[]=>by simp[Bb]
 |x::l=>by
  have c:=JD l;have d:=Wd x (Bb l);show(L3 x (Bb l)).length<=(x::l).length
  grind
theorem gT.set{w:Nat}{l:dm}(c:∀r∈l,U6 r)(d:∀r∈l,r.length=w)(e:l.length<=8000000):gT w (Bb l):=
 ⟨λr h=>c r (Gm.1 h),λr h=>d r (Gm.1 h),CM l,dg (JD l) e⟩
theorem Ll:∀{x y u v:dp},x.length=y.length->dQ (x++u) (y++v)=if dQ x y≠0 then dQ x y else dQ u v
 |[],[],u,v,_=>by simp[dQ]
 |a::x,b::y,u,v,h=>by
  simp only[de,Nat.add_right_cancel_iff]at h;simp only[cons_append,dQ];by_cases e:jO a b=0
  .simp only[e,ne_eq,not_true_eq_false,if_false];exact Ll h
  omega
 |[],_::_,_,_,h=>by simp at h
 |_::_,[],_,_,h=>by simp at h
theorem Dy{on:dq}{b:dm}{x z:dp}(h:z∈jG on b x):∃y∈b,z=x++y:=by
 unfold jG at h
 grind
theorem gT.join{w w':Nat}{a b:dm}{on:dq}(d:gT w a)(g:gT w' b)(A:w+w'<=12)(j:a.length*b.length<=8000000):gT (w+w') (a.flatMap (jG on b)):=by
 refine⟨λr h=>?_,λr h=>?_,?_,dg (wT λx _=>A1) j⟩
 .obtain⟨x,c,h⟩:=mem_flatMap.1 h;obtain⟨y,e,rfl⟩:=Dy h;have B:=d.wid x c;have C:=g.wid y e;refine⟨cg,λv f=>?_⟩;rcases mem_append.1 f with f|f
  .exact(d.row x c).val v f
  .exact(g.row y e).val v f
 .obtain⟨x,c,h⟩:=mem_flatMap.1 h;obtain⟨y,e,rfl⟩:=Dy h;rw[ct,d.wid x c,g.wid y e]
 .refine pairwise_flatMap.2 ⟨λx c=>?_,?_⟩
  .unfold jG;split
   .refine pairwise_map.2 ((g.srt.filter _).imp fun{y z} h=>?_);rw[Ll rfl,if_neg (by rw[iH.2 rfl];simp)];exact h
   .exact List.Pairwise.nil
  .refine d.srt.imp_of_mem fun{x y} c e h z n u o=>?_;obtain⟨D,_,rfl⟩:=Dy n;obtain⟨E,_,rfl⟩:=Dy o;rw[Ll (by rw[d.wid x c,d.wid y e]),if_pos aC];exact h
theorem UA{c:Int}(h:F0 a c=true):0<=c/\c<a.length:=by
 simp only[F0,cz,dc]at h;exact h
theorem KX{α:Type}{T:List α->α->Prop}{l:List α}(h:Good T l){x:α}(d:x∈l):∃c,T c x:=by
 obtain⟨i,f,e⟩:=mem_iff_getElem.1 d;exact⟨_,h i x cg⟩
theorem JN:∀(n:Nat)(l:dl),l.Nodup->(∀x∈l,0<=x/\x<n)->l.length<=n
 |0,[],_,_=>bx
 |0,x::l,_,h=>by have:=h x (mem_cons_self ..);omega
 |n+1,l,c,h=>by
  by_cases e:(n:Int)∈l
  .have f:=JN n (l.erase n) (c.erase _) (λx d=>by
    grind)
   grind
  .have:=JN n l c (λx d=>by
    grind)
   omega
theorem PN{α:Type}{T:List α->α->Prop}{l:List α}(f:α->Int)(d:∀c x,T c x->f x∉c.map f)(h:Good T l):(l.map f).Nodup:=by
 rw[nodup_iff_pairwise_ne,pairwise_map,pairwise_iff_getElem];intro i j o g n e;refine d _ _ (h j l[j] (cq g)) (mem_map.2 ⟨l[i],?_,e⟩);rw[mem_take_iff_getElem]
 grind
theorem PM(h:Good (G3 a) gr)(j:a.length<=12):fS a.length gr:=by
 have f:∀c∈gr,0<=c/\c<a.length:=λc g=>by obtain⟨_,d⟩:=KX h g;exact UA d.1
 have d:=PN id (λe x(h:G3 a e x)=>cm h.2) h;rw[map_id]at d;exact⟨f,by have:=JN _ _ d f;omega⟩
theorem RQ{b:dl}{on:dq}(h:Good (uS a b) on)(B:a.length<=12)(C:b.length<=12):fS a.length (gH on)/\fS b.length (fV on):=by
 have n:∀c∈gH on,0<=c/\c<a.length:=λc f=>by
  obtain⟨p,g,rfl⟩:=mem_map.1 f;obtain⟨_,d⟩:=KX h g;exact UA d.1
 have d:∀c∈fV on,0<=c/\c<b.length:=λc f=>by
  obtain⟨p,g,rfl⟩:=mem_map.1 f;obtain⟨_,d⟩:=KX h g;exact UA d.2.1
 have o:(gH on).Nodup:=PN Prod.fst (λj x(h:uS a b j x) u=>by
  obtain⟨y,z,e⟩:=mem_map.1 u;exact(h.2.2.2 y z).1 e) h
 have A:=JN _ _ o n;exact⟨⟨n,aC⟩,⟨d,by simp only[gH,fV,length_map]at A⊢;omega⟩⟩
theorem VP{w:Nat}{r:dp}(c:U6 r)(e:r.length=w)(f:fS w co)(d:co.length<=12):U6 (pick r co)/\(pick r co).length=co.length:=
 ⟨⟨by simpa[pick]using d,JM c cg⟩,by simp[pick]⟩
theorem JA{c:Nat}{p:Query}:Bp c [q,p]=gW c q+gW c p:=by simp[Bp]
theorem Uc{c:Nat}:Bp c [q]=gW c q:=by simp[Bp]
theorem a9X{c:Nat}{p:Query}:zK c [q,p]=gW c q*gW c p:=by simp[zK]
theorem bTX{c:Nat}{op:Int}{on:dq}{args:ds}{ks:dl}{u:List dl}{L:List dm}(P:op≠1)
 (O:(u.length:Int)=arity op)(G:∀k∈u,k.length<=12)(f:eU s ps (.mk op ta w co on gr od li args) (u.getD 0 []) (u.getD 1 [])=(ks,0))(E:T3 c args u L)(n:gW c (.mk op ta w co on gr od li args)<=8000000):
 LM op (.mk op ta w co on gr od li args) L/\gT ks.length (Q8 op (.mk op ta w co on gr od li args) L)/\(Q8 op (.mk op ta w co on gr od li args) L).length<=gW c (.mk op ta w co on gr od li args):=by
 rw[gW,if_neg P]at n⊢
 unfold eU at f;dsimp only at f;split at f
 .simp[eN]at f
 have one:arity op=1->∃q k l,args=[q]/\u=[k]/\L=[l]/\gT k.length l/\l.length<=gW c q/\k.length<=12:=λe=>by
  obtain⟨Q,R⟩:=E.len;obtain⟨k,rfl⟩:=length_eq_one_iff.1 (show u.length=1 by omega);obtain⟨q,rfl⟩:=length_eq_one_iff.1 (show args.length=1 by omega);obtain⟨l,rfl⟩:=length_eq_one_iff.1 (show L.length=1 by omega);exact⟨q,k,l,rfl,rfl,rfl,E.1,E.2.1,G k bx⟩
 have two:arity op=2->∃q p k y l B,args=[q,p]/\u=[k,y]/\L=[l,B]/\gT k.length l/\l.length<=gW c q/\gT y.length B/\B.length<=gW c p/\k.length<=12/\y.length<=12:=λe=>by
  obtain⟨Q,R⟩:=E.len;obtain⟨k,y,rfl⟩:=Uw (show u.length=2 by omega);obtain⟨q,p,rfl⟩:=Uw (show args.length=2 by omega);obtain⟨l,B,rfl⟩:=Uw (show L.length=2 by omega);exact⟨q,p,k,y,l,B,rfl,rfl,rfl,E.1,E.2.1,E.2.2.1,E.2.2.2.1,G k bx,G y bx⟩
 have S:op=2\/op=3\/op=9\/op=4\/op=5\/op=6\/op=7\/op=8\/op=10:=by
  have:0<=arity op:=by omega
  unfold arity at this
  grind
 rcases S with rfl|rfl|rfl|rfl|rfl|rfl|rfl|rfl|rfl
 .obtain⟨q,k,l,rfl,rfl,rfl,j,F,C⟩:=one rfl;simp only[show((2:Int)=4)=False by decide,if_false,if_true]at f n⊢
  split at f
  .obtain⟨rfl,_⟩:=vG f;refine⟨⟨bx,λx z=>cg⟩,j.filter _,dg (length_filter_le _ _) ?_⟩;rw[Uc];exact F
  .rename_i e;simp only[eN,Prod.mk.injEq]at f;omega
 .obtain⟨q,k,l,rfl,rfl,rfl,j,F,C⟩:=one rfl;simp only[show((3:Int)=4)=False by decide,show((3:Int)=2)=False by decide,if_false,if_true]at f n⊢
  split at f
  .rename_i g;obtain⟨rfl,d⟩:=vG f;rw[length_map]at d⊢
   have A:fS k.length co:=⟨λc A=>by obtain⟨_,O⟩:=KX g.2 A;exact UA O,aC⟩
   rw[Uc]at n⊢
   refine⟨⟨bx,d,_,j,A⟩,gT.set (λr h=>?_) (λr h=>?_) cg,dg (JD _) cg⟩
   .obtain⟨x,z,rfl⟩:=mem_map.1 h;exact(VP (j.row x z) (j.wid x z) A d).1
   .obtain⟨x,z,rfl⟩:=mem_map.1 h;exact(VP (j.row x z) (j.wid x z) A d).2
  .simp[eN]at f
 .obtain⟨q,k,l,rfl,rfl,rfl,j,F,C⟩:=one rfl;simp only[show((9:Int)=4)=False by decide,show((9:Int)=2)=False by decide,show((9:Int)=3)=False by decide,show((9:Int)=5)=False by decide,if_false,if_true]at f n⊢
  split at f
  .rename_i g;obtain⟨rfl,d⟩:=vG f;rw[Uc]at n⊢
   exact⟨⟨bx,⟨_,j,PM g.group_ C⟩,g.low⟩,j.filter _,dg (length_filter_le _ _) F⟩
  .simp[eN]at f
 .obtain⟨q,p,k,y,l,B,rfl,rfl,rfl,j,F,o,H,C,D⟩:=two rfl;simp only[show((4:Int)=2)=False by decide,show((4:Int)=3)=False by decide,if_false,if_true]at f n⊢
  split at f
  .rename_i g;obtain⟨rfl,d⟩:=vG f;rw[a9X]at n⊢
   have A:=RQ g C D;have J:l.length*B.length<=gW c q*gW c p:=Nat.mul_le_mul F H;rw[ct]at d⊢
   exact⟨⟨⟨bx,_,_,j,o,A.1,A.2⟩,dg J n⟩,j.join o d (dg J n),dg (wT λx _=>A1) J⟩
  .simp[eN]at f
 .obtain⟨q,p,k,y,l,B,rfl,rfl,rfl,j,F,o,H,C,D⟩:=two rfl;simp only[show((5:Int)=2)=False by decide,show((5:Int)=3)=False by decide,show((5:Int)=4)=False by decide,if_false,if_true]at f n⊢
  split at f
  .rename_i g;obtain⟨rfl,d⟩:=vG f;rw[JA]at n⊢
   have A:=RQ g C D;exact⟨⟨bx,_,_,j,o,A.1,A.2⟩,j.filter _,dg (length_filter_le _ _) cg⟩
  .simp[eN]at f
 all_goals
  obtain⟨q,p,k,y,l,B,rfl,rfl,rfl,j,F,o,H,C,D⟩:=two rfl
 .simp only[show((6:Int)=2)=False by decide,show((6:Int)=3)=False by decide,show((6:Int)=4)=False by decide,show((6:Int)=5)=False by decide,show((6:Int)=9)=False by decide,show((6:Int)=10)=False by decide,if_false,if_true]at f n⊢
  split at f
  .rename_i g;have g:k=y:=g;subst g;obtain⟨rfl,d⟩:=vG f;rw[JA]at n⊢
   have I:(l++B).length<=gW c q+gW c p:=cg
   refine⟨⟨bx,λx z=>cg⟩,gT.set (λr h=>?_) (λr h=>?_) (dg I n),dg (JD _) I⟩
   .rcases mem_append.1 h with h|h
    .exact j.row r h
    .exact o.row r h
   .rcases mem_append.1 h with h|h
    .exact j.wid r h
    .exact o.wid r h
  .simp[eN]at f
 .simp only[show((7:Int)=2)=False by decide,show((7:Int)=3)=False by decide,show((7:Int)=4)=False by decide,show((7:Int)=5)=False by decide,show((7:Int)=9)=False by decide,show((7:Int)=10)=False by decide,if_false,if_true]at f n⊢
  split at f
  .rename_i g;have g:k=y:=g;subst g;obtain⟨rfl,d⟩:=vG f;rw[JA]at n⊢
   exact⟨⟨bx,_,λx z=>by simp at z;rcases z with rfl|rfl;exact j;exact o⟩,j.filter _,dg (length_filter_le _ _) cg⟩
  .simp[eN]at f
 .simp only[show((8:Int)=2)=False by decide,show((8:Int)=3)=False by decide,show((8:Int)=4)=False by decide,show((8:Int)=5)=False by decide,show((8:Int)=9)=False by decide,show((8:Int)=10)=False by decide,if_false,if_true]at f n⊢
  split at f
  .rename_i g;have g:k=y:=g;subst g;obtain⟨rfl,d⟩:=vG f;rw[JA]at n⊢
   exact⟨⟨bx,_,λx z=>by simp at z;rcases z with rfl|rfl;exact j;exact o⟩,j.filter _,dg (length_filter_le _ _) cg⟩
  .simp[eN]at f
 .simp only[show((10:Int)=2)=False by decide,show((10:Int)=3)=False by decide,show((10:Int)=4)=False by decide,show((10:Int)=5)=False by decide,show((10:Int)=9)=False by decide,if_false,if_true]at f n⊢
  split at f
  .rename_i g;obtain⟨g,M⟩:=g;have g:k=y:=g;subst g;obtain⟨rfl,d⟩:=vG f;rw[JA]at n⊢
   exact⟨⟨bx,_,j,o,PM M.group_ C⟩,j.filter _,dg (length_filter_le _ _) cg⟩
  .simp[eN]at f
theorem XC{s:lL}{ps:dl}{c:Nat}(g:1<=c):∀{d:ds}{e:List dl},eO s ps d=(e,0)->∀q∈d,gW c q<=Bp c d/\gW c q<=zK c d
 |[],_,_,q,f=>by simp at f
 |p::d,e,h,q,f=>by
  obtain⟨k,j,o,n,y⟩:=oE h;have u:=XD g o;have x:=(agQ g n).1;rw[Bp,zK];rcases mem_cons.1 f with rfl|f
  .exact⟨aC,Nat.le_mul_of_pos_right _ x⟩
  .have:=XC g n q f;exact⟨aC,dg this.2 (Nat.le_mul_of_pos_left _ u)⟩
theorem PD{s:lL}{ps:dl}:∀{e:ds}{c:List dl},eO s ps e=(c,0)->∀k∈c,k.length<=12
 |[],c,h,k,d=>by rw[eO]at h;grind
 |q::e,c,h,k,d=>by
  obtain⟨j,f,n,g,rfl⟩:=oE h;rcases mem_cons.1 d with rfl|d
  .have:=z7 s ps q;grind
  .exact PD g k d
structure cJX(c:Nat)(ls:List dm)(q:Query)(k:Nat)(ks:dl):Prop where
 ok:okQ ls q k
 rel:gT ks.length (A3 ls q k).1
 bnd:(A3 ls q k).1.length<=gW c q
 nxt:(A3 ls q k).2=k+(nN q).length
mutual
theorem Qt{s:lL}{ps:dl}{c:Nat}{ls:List dm}(o:1<=c):∀{q:Query}{ks:dl}{k:Nat},bM s ps q=(ks,0)->G1 s c ls k (nN q)->gW c q<=8000000->cJX c ls q k ks
 |.mk op ta w co on gr od li args,ks,k,h,f,u=>by
  obtain⟨A,g,x,d⟩:=Cs h;by_cases e:op=1
  .subst e
   have B:args=[]:=by
    cases args with
    |nil=>rfl
    |cons q F=>obtain⟨_,_,_,_,rfl⟩:=oE g;simp[arity]at x;omega
   subst B;have j:nN (.mk 1 ta w co on gr od li [])=[ta]:=by simp[nN,lM]
   unfold eU at d;dsimp only at d;split at d
   .simp[eN]at d
   try rw[if_pos rfl]at d
   split at d
   .obtain⟨rfl,_⟩:=vG d;rw[j]at f;obtain⟨l,y,G,C⟩:=f.at_ 0 ta rfl;rw[Nat.add_zero]at y;have z:(A3 ls (.mk 1 ta w co on gr od li []) k)=(l,k+1):=by rw[A3,if_pos rfl,getD_eq_getElem?_getD,y];rfl
    refine⟨by rw[okQ,if_pos rfl];grind,cg,by rw[z,gW,if_pos rfl];exact C,cg⟩
   .simp[eN]at d
  .have j:nN (.mk op ta w co on gr od li args)=lM args:=by simp[nN,e]
   rw[j]at f
   have n:∀q∈args,gW c q<=8000000:=λq D=>by
    have H:=XC o g q D;rw[gW,if_neg e]at u
    grind
   obtain⟨I,E,J⟩:=TH o g f n;obtain⟨L,M,O⟩:=bTX e x (PD g) d E u;have z:A3 ls (.mk op ta w co on gr od li args) k=(Q8 op (.mk op ta w co on gr od li args) (yU ls args k).1,(yU ls args k).2):=by rw[A3,if_neg e]
   exact⟨by rw[okQ,if_neg e];grind,cg,cg,cg⟩
theorem TH{s:lL}{ps:dl}{c:Nat}{ls:List dm}(n:1<=c):∀{d:ds}{e:List dl}{k:Nat},eO s ps d=(e,0)->G1 s c ls k (lM d)->(∀q∈d,gW c q<=8000000)->bbX ls d k/\T3 c d e (yU ls d k).1/\(yU ls d k).2=k+(lM d).length
 |[],e,k,h,_,_=>by
  rw[eO]at h;simp only[Prod.mk.injEq,and_true]at h;subst h;simp[bbX,yU,T3,lM]
 |q::d,e,k,h,j,o=>by
  obtain⟨A,u,x,y,rfl⟩:=oE h;rw[lM]at j;have f:=Qt n x j.left (o q (mem_cons_self ..));have g:=TH n y j.right (λp z=>o p (mem_cons_of_mem _ z));rw[<-f.nxt]at g;rw[bbX,yU,lM];refine⟨⟨f.ok,g.1⟩,⟨f.rel,f.bnd,g.2.1⟩,?_⟩;rw[g.2.2,f.nxt,ct];omega
end
mutual
def nX(st:List dm):Query->dm
 |.mk op ta w co on gr od li args=>if op=1 then st.getD ta.toNat []else Q8 op (.mk op ta w co on gr od li args) (JE st args)
def JE(st:List dm):ds->List dm
 |[]=>[]
 |q::qs=>nX st q::JE st qs
end
structure G2(st ls:List dm)(k:Nat)(ts:dl):Prop where
 at_:∀(j:Nat)(t:Int),ts[j]? =some t->ls.getD (k+j) []=st.getD t.toNat []
theorem G2.left{st ls:List dm}{b:dl}(x:G2 st ls k (a++b)):G2 st ls k a:=
 ⟨λj t h=>x.at_ j t cg⟩
theorem G2.right{st ls:List dm}{b:dl}(x:G2 st ls k (a++b)):G2 st ls (k+a.length) b:=
 ⟨λj t h=>by
  have:=x.at_ (a.length+j) t cg
  grind⟩
theorem aIQ{args:ds}{c:List dl}(d:eO s ps args=(c,0))(e:(c.length:Int)=arity 1):args=[]:=by
 cases args with
 |nil=>rfl
 |cons q f=>obtain⟨_,_,_,_,rfl⟩:=oE d;simp[arity]at e;omega
mutual
theorem Mz{s:lL}{ps:dl}{st ls:List dm}:∀{q:Query}{ks:dl}{k:Nat},bM s ps q=(ks,0)->G2 st ls k (nN q)->A3 ls q k=(nX st q,k+(nN q).length)
 |.mk op ta w co on gr od li args,ks,k,h,c=>by
  obtain⟨g,f,j,o⟩:=Cs h;by_cases e:op=1
  .subst e;have n:=aIQ f j;subst n;have d:nN (.mk 1 ta w co on gr od li [])=[ta]:=by simp[nN,lM]
   rw[d]at c⊢
   have:=c.at_ 0 ta rfl;rw[Nat.add_zero]at this;rw[A3,nX,if_pos rfl,if_pos rfl,this];rfl
  .have d:nN (.mk op ta w co on gr od li args)=lM args:=by simp[nN,e]
   rw[d]at c⊢
   rw[A3,nX,if_neg e,if_neg e,Jm f c]
theorem Jm{s:lL}{ps:dl}{st ls:List dm}:∀{d:ds}{c:List dl}{k:Nat},eO s ps d=(c,0)->G2 st ls k (lM d)->yU ls d k=(JE st d,k+(lM d).length)
 |[],c,k,h,_=>by simp[yU,JE,lM]
 |q::d,c,k,h,e=>by
  obtain⟨n,f,g,j,rfl⟩:=oE h;rw[lM]at e;rw[yU,JE,lM,Mz g e.left,Jm j e.right,ct,Nat.add_assoc]
end
mutual
theorem Gn{s:lL}{ps:dl}:∀{q:Query}{ks:dl},bM s ps q=(ks,0)->∀t∈nN q,0<=t/\t<s.tables.length
 |.mk op ta w co on gr od li args,ks,h,t,f=>by
  obtain⟨g,j,n,c⟩:=Cs h;rw[nN]at f;rcases mem_append.1 f with d|d
  .split at d
   .rename_i e;subst e;simp only[mem_singleton]at d;subst d;unfold eU at c;dsimp only at c;split at c
    .simp[eN]at c
    try rw[if_pos rfl]at c
    split at c
    .omega
    .simp[eN]at c
   .simp at d
  .exact RJ j t d
theorem RJ{s:lL}{ps:dl}:∀{e:ds}{d:List dl},eO s ps e=(d,0)->∀t∈lM e,0<=t/\t<s.tables.length
 |[],d,h,t,c=>by rw[lM]at c;simp at c
 |q::e,d,h,t,c=>by
  obtain⟨n,f,g,j,rfl⟩:=oE h;rw[lM]at c;rcases mem_append.1 c with c|c
  .exact Gn g t c
  .exact RJ j t c
end
def w7(key:Int)(k:Int)(i:Nat)(v:VV):Bool:=jW v&&(v.kind==k||((v.kind==2||v.kind==1)&&decide (key<=(i:Int))))
def Bh(t:A8)(r:dp):Bool:=decide (r.length=t.columns.length)&&(List.range r.length).all λi=>w7 t.key (t.columns.getD i ⟨⟨#[]⟩,0⟩).kind i (r.getD i zeroV)
def mP(t:A8)(r:dp):dp:=r.take (max 0 (min t.key r.length)).toNat
def Ry(t:A8)(l:dm):Prop:=(∀r∈l,Bh t r=true)/\∀(i:Nat) r c,l[i]? =some r->l[i+1]? =some c->dQ (mP t r) (mP t c)<0
def IN(s:lL)(st:List dm):Prop:=∀(i:Nat) t l,s.tables[i]? =some t->st[i]? =some l->Ry t l
open Classical in
noncomputable def jP(s:lL)(st:List dm):Int:=
 if cQ s≠0 then cQ s else if 512<(st.map λl=>(l.length:Int)).sum then 2 else if st.length≠s.tables.length then 80 else if IN s st then 0 else 80
def Vj(st:List dm):Prop:=∀l∈st,∀r∈l,∀v∈r,l8 v.kind/\l8 v.int
def Ch(t:A8)(key row:dp):Bool->dm->dm
 |d,[]=>if d then[]else[row]
 |d,r::l=>(if 0<=dQ (mP t r) key/\d=false then[row]else[])++((if dQ (mP t r) key≠0 then[r]else[])++Ch t key row (d||decide (0<=dQ (mP t r) key)) l)
def Rp(t:A8)(l:dm):Prop:=l.Pairwise λx y=>dQ (mP t x) (mP t y)<0
theorem FO{x y z:dp}(c:dQ x y<0)(d:dQ y z<0):dQ x z<0:=by
 have:=Ac x y z aC aC;rcases Int.lt_or_eq_of_le this with h|h
 .exact h
 .rw[iH]at h;subst h;have:=lQ x y;omega
theorem O3{t:A8}{key row:dp}:∀{l:dm},(∀r∈l,0<dQ (mP t r) key)->Ch t key row true l=l
 |[],_=>rfl
 |r::l,h=>by
  have d:=h r (mem_cons_self ..);rw[Ch,if_neg bx,if_pos aC,Bool.true_or,O3 λx c=>h x (mem_cons_of_mem _ c)];rfl
theorem NT{t:A8}{key row z:dp}:∀{l:dm}{d:Bool},z∈Ch t key row d l->z=row\/z∈l
 |[],d,h=>by
  rw[Ch]at h
  grind
 |r::l,d,h=>by
  rw[Ch]at h;rcases mem_append.1 h with h|h
  .grind
  .rcases mem_append.1 h with h|h
   .grind
   .exact(NT h).imp id λh=>mem_cons_of_mem _ h
theorem NU{t:A8}{key row:dp}:∀{l:dm}{d:Bool},(Ch t key row d l).length<=l.length+(if d then 0 else 1)
 |[],d=>by rw[Ch];grind
 |r::l,d=>by
  have:=NU (t:=t) (key:=key) (row:=row) (l:=l) (d:=d||decide (0<=dQ (mP t r) key));rw[Ch]
  grind
theorem O4{t:A8}{row:dp}:∀{l:dm},Rp t l->Rp t (Ch t (mP t row) row false l)
 |[],_=>by rw[Ch];exact pairwise_singleton _ _
 |r::l,h=>by
  obtain⟨f,n⟩:=pairwise_cons.1 h;rw[Ch];by_cases g:0<=dQ (mP t r) (mP t row)
  .rw[if_pos ⟨g,rfl⟩,show(false||decide (0<=dQ (mP t r) (mP t row)))=true by simp[g]];by_cases j:dQ (mP t r) (mP t row)=0
   .rw[if_neg (by simp[j])];have e:=iH.1 j
    rw[O3 λx c=>by
     have d:=f x c;rw[e]at d;have:=lQ (mP t x) (mP t row);omega]
    exact pairwise_cons.2 ⟨λx c=>by rw[<-e];exact f x c,n⟩
   .rw[if_pos j];have d:dQ (mP t row) (mP t r)<0:=by have:=lQ (mP t row) (mP t r);omega
    rw[O3 λx c=>by
     have o:=FO d (f x c);have:=lQ (mP t x) (mP t row);omega]
    refine pairwise_cons.2 ⟨λx c=>?_,h⟩;rcases mem_cons.1 c with rfl|c
    .exact d
    .exact FO d (f x c)
  .rw[if_neg (by simp[g]),if_pos aC,show(false||decide (0<=dQ (mP t r) (mP t row)))=false by simp[g]];refine pairwise_cons.2 ⟨λx c=>?_,O4 n⟩;rcases NT c with rfl|c
   .omega
   grind
theorem OO{st:List dm}(h:jP s st=0):cQ s=0/\st.length=s.tables.length/\IN s st/\(st.map λl=>(l.length:Int)).sum<=512:=by
 unfold jP at h
 grind
theorem beZ{t:A8}{x y:dp}(h:x.length=y.length):(mP t x).length=(mP t y).length:=by simp[mP,h]
theorem bDX{t:A8}{x y:dp}(h:x.length=y.length)(c:dQ (mP t x) (mP t y)<0):dQ x y<0:=by
 have d:x=mP t x++x.drop (max 0 (min t.key x.length)).toNat:=(take_append_drop _ _).symm;have e:y=mP t y++y.drop (max 0 (min t.key y.length)).toNat:=(take_append_drop _ _).symm;rw[d,e,Ll (beZ h),if_pos aC];exact c
theorem Rp.of{t:A8}:∀{l:dm},(∀(i:Nat) r r',l[i]? =some r->l[i+1]? =some r'->dQ (mP t r) (mP t r')<0)->Rp t l
 |[],_=>List.Pairwise.nil
 |[_],_=>pairwise_singleton _ _
 |a::b::l,h=>by
  have d:Rp t (b::l):=Rp.of λi r r' f g=>h (i+1) r r' f g;refine pairwise_cons.2 ⟨λx c=>?_,d⟩;have e:=h 0 a b rfl rfl;rcases mem_cons.1 c with rfl|c
  .exact e
  .exact FO e ((pairwise_cons.1 d).1 x c)
theorem Rp.adj{t:A8}{l:dm}(h:Rp t l)(i:Nat)(r r':dp)(c:l[i]? =some r)(d:l[i+1]? =some r'):dQ (mP t r) (mP t r')<0:=by
 obtain⟨e,rfl⟩:=List.getElem?_eq_some_iff.1 c;obtain⟨f,rfl⟩:=List.getElem?_eq_some_iff.1 d;exact pairwise_iff_getElem.1 h i (i+1) e f aC
theorem Vs{t:ByteArray}(h:t.toList=(⟨#[]⟩:ByteArray).toList):t.size<=64:=by rw[nV h];decide
theorem I7{t:ByteArray}(h:DI t=true):t.size<=64:=Vs (by simp only[DI,beq_iff_eq]at h;rw[h,ByteArray.toList_eq])
theorem MS{v:VV}(h:jW v=true):v.text.size<=64:=by
 unfold jW at h;split at h
 .simp only[cz]at h;exact I7 h.2
 .split at h
  .simp only[cz]at h;exact I7 h.2
  .split at h
   .exact I7 h
   grind
theorem CO(h:(eF s ps q).2=0):cQ s=0/\ps.all eH=true/\uT q=true/\(bM s ps q).2=0:=by
 unfold eF at h;split at h
 .rename_i c;split at h
  .rename_i d;split at h
   .grind
   .simp[eN]at h
  .simp[eN]at h
 .rename_i c;simp[eN]at h;omega
theorem MU{v:VV}(h:jW v=true):1<=v.kind/\v.kind<=5/\v.text.size<=64:=by
 refine⟨?_,?_,MS h⟩
 all_goals
  unfold jW at h;split at h
  .rename_i e;simp at e;omega
  .split at h
   .rename_i e;simp at e;omega
   .split at h
    .rename_i e;simp at e;omega
    .split at h
     .rename_i e;simp at e;omega
     .cases h
theorem Ie{t:A8}{r:dp}(h:Bh t r=true):r.length=t.columns.length/\∀v∈r,jW v=true:=by
 simp only[Bh,cz,dc,all_eq_true,mem_range]at h;refine⟨h.1,λv e=>?_⟩;obtain⟨i,c,rfl⟩:=mem_iff_getElem.1 e;have d:=h.2 i c;simp only[w7,cz,getD_eq_getElem?_getD,cq c,Option.getD_some]at d;exact d.1
theorem bQJ{t:A8}{l:dm}(u:t.columns.length<=12)(c:Ry t l)(g:∀r∈l,∀v∈r,l8 v.kind/\l8 v.int)(j:l.length<=8000000):gT t.columns.length l:=by
 have n:∀r∈l,r.length=t.columns.length:=λr d=>(Ie (c.1 r d)).1;refine⟨λr d=>⟨cg,λv e=>?_⟩,n,?_,j⟩
 .have o:=(Ie (c.1 r d)).2 v e;have f:=g r d v e;exact⟨f.1,f.2,(MU o).2.2⟩
 .exact(Rp.of c.2).imp_of_mem fun{x y} e z h=>bDX cg h
def sQ(st:List dm)(q:Query):List dm:=(nN q).map λt=>st.getD t.toNat []
theorem a6J{st:List dm}{t:Int}(c:jP s st=0)(n:Vj st)(o:0<=t)(D:t<s.tables.length):gT (kA s t).length (st.getD t.toNat [])/\st.getD t.toNat []∈st:=by
 obtain⟨u,E,y,F⟩:=OO c;have f:t.toNat<s.tables.length:=by omega
 have g:t.toNat<st.length:=by omega
 have j:s.tables[t.toNat]? =some s.tables[t.toNat]:=cq f;have z:st[t.toNat]? =some st[t.toNat]:=cq g;have A:st.getD t.toNat []=st[t.toNat]:=cg
 have d:st[t.toNat]∈st:=getElem_mem g;have G:=zH u _ (getElem_mem f);have B:(kA s t).length=s.tables[t.toNat].columns.length:=by rw[kA,if_neg aC,j];simp
 have e:∀{l:List dm}{x},x∈l->((x.length:Nat):Int)<=(l.map λl=>(l.length:Int)).sum:=fun{l x}=>by
  induction l with
  |nil=>grind
  |cons a l C=>
   intro h
   have o:∀l:List dm,0<=(l.map λl=>(l.length:Int)).sum:=λl=>by
    induction l with
    |nil=>simp
    |cons a l C=>grind
   grind
 have:=e d;rw[A,B];exact⟨bQJ aC (y _ _ _ j z) (n _ d) aC,d⟩
theorem Ya{st:List dm}{ks:dl}{c:Nat}(d:jP s st=0)(o:Vj st)(A:∀l∈st,l.length<=c)(u:1<=c)(e:bM s ps q=(ks,0))(g:gW c q<=8000000):
 okQ (sQ st q) q 0/\(A3 (sQ st q) q 0).1=nX st q/\gT ks.length (nX st q)/\(nX st q).length<=8000000:=by
 have z:∀(j:Nat)(t:Int),(nN q)[j]? =some t->(sQ st q)[0+j]? =some (st.getD t.toNat []):=λj t h=>by rw[Nat.zero_add,sQ,getElem?_map,h];rfl
 have x:=Qt u (ls:=sQ st q) (k:=0) e ⟨λj t h=>⟨_,z j t h,by
  have n:=Gn e t (cr h);have:=a6J d o n.1 n.2
  grind⟩⟩ g
 have y:=Mz (st:=st) (ls:=sQ st q) (k:=0) e ⟨λj t h=>cg⟩;have f:(A3 (sQ st q) q 0).1=nX st q:=by rw[y]
 refine⟨x.ok,f,by rw[<-f];exact x.rel,?_⟩;rw[<-f];exact dg x.bnd g
def Rr(t:Step)(ts c:dv)(k:Nat):Prop:=(∃x,ts[k]? =some x/\keyOf x=keyOf t/\c=ts)\/((∀x∈ts,keyOf x≠keyOf t)/\c=ts++[t]/\k=ts.length)
def Bo(q:Query)(ts d:dv)(k:Nat):Prop:=
 match q with
 |.mk op ta w co on gr od li []=>Rr ⟨op,ta,w,co,on,gr,od,li,0,0⟩ ts d k
 |.mk op ta w co on gr od li [a]=>∃c l,Bo a ts c l/\Rr ⟨op,ta,w,co,on,gr,od,li,l,0⟩ c d k
 |.mk op ta w co on gr od li (a::b::_)=>∃c l e r,Bo a ts c l/\Bo b c e r/\Rr ⟨op,ta,w,co,on,gr,od,li,l,r⟩ e d k
 termination_by SizeOf.sizeOf q
def Ad(q:Query):Prop:=
 match q with
 |.mk op ta w co on gr od li args=>Q0 ⟨op,ta,w,co,on,gr,od,li,0,0⟩/\∀a∈args,Ad a
 termination_by SizeOf.sizeOf q
def Steps(h:PH)(vs:List gA)(ts:dv):Prop:=vs.length=ts.length/\∀(i:Nat) t,ts[i]? =some t->∃v,vs[i]? =some v/\kW h t v
def Q4(args:ds)(ts c:dv)(l:Nat):Prop:=match args with
 |[]=>c=ts/\l=0
 |a::_=>Bo a ts c l
def Second(args:ds)(ts c:dv)(r:Nat):Prop:=match args with
 |_::b::_=>Bo b ts c r
 |_=>c=ts/\r=0
theorem vP{op:Int}{on:dq}{args:ds}{c:dv}:
 Bo (.mk op ta w co on gr od li args) ts c k↔∃d l e r,Q4 args ts d l/\Second args d e r/\Rr ⟨op,ta,w,co,on,gr,od,li,(l:Nat),(r:Nat)⟩ e c k:=by
 rw[Bo.eq_def];cases args with
 |nil=>
  simp only[Q4,Second]
  grind
 |cons a args=>
  cases args with
  |nil=>
   simp only[Q4,Second]
   grind
  |cons b args=>
   simp only[Q4,Second]
theorem O0{op:Int}{on:dq}{args:ds}:
 Ad (.mk op ta w co on gr od li args)↔Q0 ⟨op,ta,w,co,on,gr,od,li,0,0⟩/\∀a∈args,Ad a:=by rw[Ad.eq_def]
theorem dC.blk{s:Sl}{E:Nat}(h:dC m s E sz xs)(e:s.a=some ⟨b,i,none⟩):∃c,m b=some (.cells c E (0,0)):=by
 rcases h.ex with⟨rfl,_⟩|⟨f,d,c,rfl,g,_⟩
 .cases e
 grind
theorem dC.slen{s:Sl}{E:Nat}(h:dC m s E sz xs):s.len=xs.length:=by
 rcases h.ex with⟨rfl,rfl⟩|⟨e,c,d,rfl,f,_⟩<;>rfl
theorem dC.keep{s:Sl}{E:Nat}(h:dC m s E sz xs)(f:∀b i,s.a=some ⟨b,i,none⟩->m' b=m b):dC m' s E sz xs:=by
 refine⟨h.rows,?_⟩;rcases h.ex with c|⟨b,d,e,rfl,g,j⟩
 .exact .inl c
 grind
def aPl(p r:Sl):CV:=.val (.agg ⟨[.slice p.a p.len p.cap,.slice r.a r.len r.cap]⟩)
theorem fJ.keep{r:CV}(c:Sub m m')(le:PH.le h h')(d:K r m h):fJ h K r m' h':=
 λ_=>⟨m,h,c,.refl _,λb i v e=>.inl (le.le b i v e),d⟩
def Rq(q:Query):Prop:=
 match q with
 |.mk op _ _ _ _ _ _ _ args=>(args.length:Int)=arity op/\∀a∈args,Rq a
 termination_by SizeOf.sizeOf q
theorem XF{op:Int}{on:dq}{args:ds}:
 Rq (.mk op ta w co on gr od li args)↔(args.length:Int)=arity op/\∀a∈args,Rq a:=by rw[Rq.eq_def]
theorem vO(op:Int):arity op<=2:=by
 unfold arity;omega
theorem IY{α:Type}{l l':List α}(h:l<+:l'){x:α}(c:l[i]? =some x):l'[i]? =some x:=by
 obtain⟨r,rfl⟩:=h
 grind
theorem aKJ(f:(ts.map keyOf).Nodup){j:Nat}{x y:Step}(g:ts[i]? =some x)(n:ts[j]? =some y)(e:keyOf x=keyOf y):i=j:=by
 have c:=(List.getElem?_eq_some_iff.1 g)
 have d:=(List.getElem?_eq_some_iff.1 n)
 obtain⟨c,u⟩:=c;obtain⟨d,z⟩:=d;have o:(ts.map keyOf)[i]' cg=(ts.map keyOf)[j]' cg:=cg
 exact(getElem_inj f).1 o
theorem LN:∀(n:Nat){l:ed},l.Nodup->(∀x∈l,x<n)->l.length<=n
 |0,l,_,h=>by
  cases l with
  |nil=>simp
  |cons x l=>have:=h x bx;omega
 |n+1,l,c,h=>by
  by_cases d:n∈l
  .have f:=length_erase_of_mem d
   have g:=LN n (c.erase n) (λx e=>by
    grind)
   omega
  .have:=LN n c (λx e=>by
    grind)
   omega
theorem Wj{α:Type}{T:List α->α->Prop}{l:List α}{f:α->Int}{n:Nat}(h:Good T l)(e:∀c x,T c x->0<=f x/\f x<n)(o:∀c x,T c x->∀y∈c,f y≠f x):l.length<=n:=by
 have u:(l.map λx=>(f x).toNat).Nodup:=by
  rw[nodup_iff_pairwise_ne,pairwise_iff_getElem];intro i j d g z;simp only[length_map]at d g;simp only[getElem_map];have D:=h i l[i] (cq d);have A:=h j l[j] (cq g);have:=o _ _ A l[i] (mem_take_iff_getElem.2 ⟨i,aC,rfl⟩)
  grind
 have:=LN n u (λx B=>by
  obtain⟨y,C,rfl⟩:=mem_map.1 B;obtain⟨i,d⟩:=mem_iff_getElem?.1 C;have:=e _ _ (h i y d);omega)
 grind
mutual
def bFJ:Pred->Prop
 |.mk _ _ l r args=>l.value.text.size<=64/\r.value.text.size<=64/\U1 args
def U1:dx->Prop
 |[]=>True
 |p::ps=>bFJ p/\U1 ps
end
theorem VW(o:OV)(h:o.value.text.size<=64):(F7 o).length<=200:=by
 have e:=lB [o.kind,o.index];have f:=lB [o.value.kind];have g:=lB [(o.value.text.size:Int)];have c:=lB [o.value.int];have d:kN [o.value.int]=l7 o.value.int++[32]:=by unfold kN;grind
 rw[d]at c;have j:o.value.text.data.toList.length=o.value.text.size:=by rw[Array.length_toList];rfl
 simp only[F7,yW,ct,de,length_nil]at*
 omega
mutual
theorem LJ:∀p:Pred,bFJ p->((mS p).length:Int)<=1000*RA p
 |.mk op c l r args,h=>by
  obtain⟨d,e,f⟩:=h;have g:=VW l d;have j:=VW r e;have n:=O8 args f;have o:=lB [op,c];have u:=lB [(args.length:Int)];simp only[mS,RA,ct,de,length_nil]at*
  omega
theorem O8:∀ps:dx,U1 ps->((lA ps).length:Int)<=1000*CH ps
 |[],_=>by simp[lA,CH]
 |p::ps,h=>by
  have:=LJ p h.1;have:=O8 ps h.2;simp only[lA,CH,ct];omega
end
theorem Xm{v:VV}(h:X2 v zeroV=true):v.text.size<=64:=by
 simp only[X2,cz,beq_iff_eq]at h;exact Vs h.2.2.1
theorem K7{o:OV}(h:X3 o dG=true):o.value.text.size<=64:=by
 simp only[X3,cz,beq_iff_eq]at h;exact Xm h.2.2.1
theorem Nu{o:OV}(h:qB l o≠0):o.value.text.size<=64:=by
 unfold qB at h;split at h
 .omega
 .rename_i c;simp only[Bool.or_eq_true,not_or,Bool.not_eq_true',Bool.not_eq_false]at c;exact Xm c.2
theorem Nj{cols params:dl}{o:OV}(h:kindOf cols params o≠0):o.value.text.size<=64:=by
 unfold kindOf at h;split at h
 .split at h
  .omega
  .rename_i c;simp only[Bool.or_eq_true,not_or,Bool.not_eq_true',Bool.not_eq_false,jH,cz]at c;exact MS c.2.1
 .split at h
  .exact Nu h
  .split at h
   .exact Nu h
   omega
mutual
theorem MV{cols params:dl}:∀p:Pred,iP cols params p=true->bFJ p
 |.mk op c l r args,h=>by
  unfold iP at h;split at h
  .simp only[cz,Ej,beq_iff_eq]at h;have:args=[]:=eq_nil_of_length_eq_zero h.2;subst this;exact⟨K7 h.1.1.2,K7 h.1.2,trivial⟩
  .split at h
   .simp only[cz,beq_iff_eq,bne_iff_ne,ne_eq,dc]at h;have:args=[]:=eq_nil_of_length_eq_zero h.1.1.1.1;subst this;exact⟨Nj h.1.2,Nj (cols:=cols) (params:=params) aC,trivial⟩
   .split at h
    .simp only[cz,Ej]at h;exact⟨K7 h.1.1.2,K7 h.1.2,Jw args h.2⟩
    .cases h
theorem Jw{cols params:dl}:∀ps:dx,w9 cols params ps=true->U1 ps
 |[],_=>trivial
 |p::ps,h=>by
  simp only[w9,cz]at h;exact⟨MV p h.1,Jw ps h.2⟩
end
theorem a9Z{cols params:dl}(h:fH cols params p=0):(mS p).length<=1000000000:=by
 unfold fH at h;split at h
 .cases h
 .split at h
  .cases h
  .rename_i c;split at h
   .cases h
   .rename_i e;have d:iP cols params p=true:=cg
    have f:=LJ p (MV p d);simp only[Bool.or_eq_true,not_or,dc]at c;have g:=He p 0 aC;omega
theorem a5Q:(mS gM).length<=1000000000:=by
 have:=LJ gM ⟨bz,bz,trivial⟩;have e:RA gM=1:=rfl;omega
theorem Fy{s:lL}{ps:dl}:∀(c:ds),∀k∈(eO s ps c).1,k.length<=12
 |[],k,h=>by simp[eO]at h
 |q::c,k,h=>by
  simp only[eO]at h;split at h
  .split at h
   .simp only[mem_cons]at h;rcases h with rfl|h
    .exact z7 s ps q
    .exact Fy c k h
   .simp at h
  .simp at h
theorem Wl(h:∀k∈ks,k.length<=12)(j:Nat):(ks.getD j []).length<=12:=by
 grind
theorem IG{s:lL}{ps:dl}:∀{c:ds}{ks:List dl},eO s ps c=(ks,0)->ks.length=c.length/\∀q∈c,(bM s ps q).2=0
 |[],ks,h=>by simp[eO]at h;subst h;simp
 |q::c,ks,h=>by
  simp only[eO]at h;split at h
  .rename_i f;split at h
   .rename_i d;have e:eO s ps c=((eO s ps c).1,0):=Prod.ext rfl d;obtain⟨g,j⟩:=IG e
    grind
   grind
  grind
theorem B5{op:Int}{on:dq}{args:ds}(h:(bM s ps (.mk op ta w co on gr od li args)).2=0):
 (∀a∈args,(bM s ps a).2=0)/\(args.length:Int)=arity op/\∃a b,a.length<=12/\b.length<=12/\(eU s ps (.mk op ta w co on gr od li args) a b).2=0:=by
 simp only[bM]at h;split at h
 .rename_i c;have e:eO s ps args=((eO s ps args).1,0):=Prod.ext rfl c;obtain⟨f,d⟩:=IG e;split at h
  .rename_i g;refine⟨d,aC,_,_,?_,?_,h⟩
   .exact Wl (Fy args) 0
   .exact Wl (Fy args) 1
  .simp[eN]at h
 .rename_i c;simp[eN]at h;omega
theorem bbJ{op:Int}{on:dq}{args:ds}{b:dl}(I:a.length<=12)(h:(eU s ps (.mk op ta w co on gr od li args) a b).2=0):
 Q0 ⟨op,ta,w,co,on,gr,od,li,0,0⟩:=by
 unfold eU at h;dsimp only at h;split at h
 .simp[eN]at h
 .rename_i j;rw[not_or]at j;have z:dU (.mk op ta w co on gr od li args):=Classical.not_not.1 j.2;obtain⟨_,A,B,C,D⟩:=z
  have E:∀l:dl,(nI l).2=0->l.length<=12:=λl e=>by
   unfold nI at e
   grind
  have F:(mS w).length<=1000000000:=by
   rcases A with rfl|rfl
   .simp only[show¬((2:Int)=1)by decide,if_false,if_true]at h;split at h
    .rename_i e;exact a9Z e
    .rename_i e;simp[eN]at h;omega
   .exact a5Q
  have G:co.length<=1000000000:=by
   rcases B with rfl|rfl
   .simp only[show¬((3:Int)=1)by decide,show¬((3:Int)=2)by decide,if_false,if_true]at h;split at h
    .grind
    .simp[eN]at h
   .simp
  have H:on.length<=1000000000:=by
   have d:Good (uS a b) on->on.length<=1000000000:=λg=>by
    have:=Wj (f:=λp=>p.1) (n:=a.length) g (λc x t=>by have:=t.1;rw[eV]at this;exact this) (λc x t y o=>(t.2.2.2 y o).1);omega
   rcases C with rfl|rfl|rfl
   .simp only[show¬((4:Int)=1)by decide,show¬((4:Int)=2)by decide,show¬((4:Int)=3)by decide,if_false,if_true]at h;split at h
    .grind
    .simp[eN]at h
   .simp only[show¬((5:Int)=1)by decide,show¬((5:Int)=2)by decide,show¬((5:Int)=3)by decide,show¬((5:Int)=4)by decide,if_false,if_true]at h;split at h
    .grind
    .simp[eN]at h
   .simp
  have u:gr.length<=1000000000/\od.length<=1000000000:=by
   have d:rF a gr od li->gr.length<=1000000000/\od.length<=1000000000:=λr=>by
    have:=Wj (f:=λp=>p) (n:=a.length) r.group_ (λc x t=>by have:=t.1;rw[eV]at this;exact this) (λc x t y o e=>t.2 cg);have:=r.len_;omega
   rcases D with rfl|rfl|⟨rfl,rfl,_⟩
   .simp only[show¬((9:Int)=1)by decide,show¬((9:Int)=2)by decide,show¬((9:Int)=3)by decide,show¬((9:Int)=4)by decide,show¬((9:Int)=5)by decide,if_false,if_true]at h;split at h
    .grind
    .simp[eN]at h
   .simp only[show¬((10:Int)=1)by decide,show¬((10:Int)=2)by decide,show¬((10:Int)=3)by decide,show¬((10:Int)=4)by decide,show¬((10:Int)=5)by decide,show¬((10:Int)=9)by decide,if_false,if_true]at h;split at h
    .grind
    .simp[eN]at h
   .simp
  exact⟨F,G,H,u.1,u.2⟩
theorem DY{s:lL}{ps:dl}:∀q:Query,(bM s ps q).2=0->Ad q/\Rq q
 |.mk op ta w co on gr od li args,h=>by
  obtain⟨d,e,a,b,f,_,g⟩:=B5 h;rw[O0,XF];exact⟨⟨bbJ f g,λq c=>(DY q (d q c)).1⟩,e,λq c=>(DY q (d q c)).2⟩
theorem aJZ(h:(eF s ps q).2=0):Ad q:=(DY q (CO h).2.2.2).1
noncomputable def bnJ(N:Nat)(v:PV)(m:MH):Ctx:=
 cT [(207,bNJ N)] [(4,{A:=Nat×en×PH,st:=λ⟨i,c,h⟩=>bO 24 25 [(1,.at (.ptr 1 0)),(2,.at (.ptr 2 0)),(9,sv v.args),(10,iv v.args.len),(11,iv i)] [(1,.cells 32 ((v.enc.take 12).map .val++[.lst 20])),(2,.cells 32 (iJ.enc.map .val)),(20,.lst 32 13 (c.map PV.enc))] m h})] [] [] false
def U8:Vc.Spec:=λc m h K=>∃v t,c=[aT v]/\kW h t v/\∀d h',PH.le h h'->dZ h' t.query d->K (aQ d) m h'
noncomputable def bkZ(N:Nat)(v:PV)(m:MH):Ctx:=
 cT [(255,XZ),(289,cmQ),(262,clZ N)] [(6,{A:=Nat×List dj×PH,st:=λ⟨i,xs,h⟩=>bO 40 42 [(0,.at (.lst 40)),(29,sv v.args),(30,iv v.args.len),(31,iv i)] [(40,.lst 5 1 xs)] m h})] [] [(255,[0]),(289,[0]),(262,[0])] true
def amQ:dz:=[.val (.int .i64 0),.val (.int .i64 0),.val (.int .i64 0),.val (.int .i64 0),.val (.int .i64 0),.val (.string ⟨#[]⟩),.val (.string ⟨#[]⟩),.val (.string ⟨#[]⟩),.val (.string ⟨#[]⟩),.val (.string ⟨#[]⟩)]
noncomputable def bnZ(v:gA)(m:MH):Ctx:=
 cT [(255,XZ),(262,clJ)] [(3,{A:=Nat×List dj×PH,st:=λ⟨i,xs,h⟩=>bO 68 69 [(1,.at (.ptr 1 0)),(2,.at (.ptr 2 0)),(3,.at (.lst 23)),(4,.at (.val (.slice none 0 0))),(11,sv v.on),(12,iv v.on.len),(13,iv i)] [(1,.cells 123 (v.enc.map .val)),(2,.cells 254 amQ),(23,.lst 5 1 xs)] m h}),
  (8,{A:=Nat×List dj×List dj×PH,st:=λ⟨i,xs,c,h⟩=>bO 68 69 [(1,.at (.ptr 1 0)),(2,.at (.ptr 2 0)),(3,.at (.lst 23)),(4,.at (.lst 39)),(26,sv v.order),(27,iv v.order.len),(28,iv i)] [(1,.cells 123 (v.enc.map .val)),(2,.cells 254 amQ),(23,.lst 5 1 xs),(39,.lst 5 1 c)] m h})] [] [(255,[0]),(262,[0])] false
noncomputable abbrev HY(a:Nat×en×PH):List dj:=List.map PV.enc a.2.1
attribute [push_cast] HY
def SF(N:Nat)(v:PV)(m:MH)(h:PH)(K:dk):Prop:=
  ∃(I:Nat×en×PH->Prop)(e:Nat×en×PH->Nat),(∃(x:Nat×en×PH),aA (I x) dW (aA cW (aH v.args) (aA (pY v) (aZ x.1) (aA (eQ (oQ 32 (sG v.op v.cmp v.left (cH (fL (kU v.left)) (fL (p7 v.left)) (cH (lD v.left) (fL v.right.kind) (cH (xO v.right) (fL (kU v.right)) (cH (fL (p7 v.right)) (lD v.right) (kM (At.lst 20))))))))) mA (bS (u9 32 13 (HY x)) m m h x.2.2)))))/\∀(x:Nat×en×PH),I x->aW (↑x.1:Int) (aF v.args) (aJ (λb o=>aI (aK v.args.a b o) (0<=(↑x.1:Int)) ((↑x.1:Int)<aF v.args) (∃(y:PV),aR m x.2.2 b (bE o x.1 13) y.enc/\qA (λf p=>aI (gK y.enc=gK f.enc) (dX x.2.2 p f) (qP p N) (Hr x.2.2 p (λg d=>iY (HY x) 136 (∃(c:Nat×en×PH),aA (I c) (e c<e
 x) (aA dW cW (aA (aH v.args) (aY v.args) (aA (eR (bF ((↑x.1:Int)+1))=bL c.1) (eQ (oQ 32 (sG v.op v.cmp v.left (cH (fL (kU v.left)) (fL (p7 v.left)) (cH (lD v.left) (fL v.right.kind) (cH (xO v.right) (fL (kU v.right)) (cH (fL (p7 v.right)) (lD v.right) (kM (At.lst 20))))))))) (rZ mA (bW 32 13 (eG (HY x) g.enc)=bW 32 13 (HY c)) m m d c.2.2))))))))))) (bU x.2.2 13 (HY x) (λs d=>K (gV (bC (fE v.op) (fE v.cmp) (bC (zL v) (zM v) (bC (j8 v.left) (xI v) (bC (xJ v) (xM v) (bC (zR v) (zS v) (bC (zT v) (zU v) (aM s)))))))) m d))
def Tt(v:gA)(m:MH)(h:PH)(K:dk):Prop:=
  qR (λc q=>sX (bC (fE v.op) (fE v.table) (bC (fE v.where_.op) (fE v.where_.cmp) (bC (zL v.where_) (zM v.where_) (bC (fE (kU v.where_.left)) (xI v.where_) (bC (xJ v.where_) (xM v.where_) (bC (zR v.where_) (zS v.where_) (bC (zT v.where_) (zU v.where_) (bC (iI v.where_.args) (iI v.columns) (bC (iI v.on) (iI v.group) (bC (iI v.order) (fE v.limit) lV)))))))))) c.enc (dZ h q c) (KD h q (λd e=>K (gV d.enc) m e)))
abbrev LS(a:gA->Step->Prop):Prop:=∃(x:gA)(c:Step),a x c
noncomputable abbrev KC(a:Step):Query:=Query.mk a.op a.table a.wher a.columns a.on a.group a.order a.limit []
abbrev Ke(a:gA)(b:Nat->Nat->Option Value)(c:QV->PH->Prop):Prop:=LS (λx d=>sX a.enc x.enc (kW b d x) (KD b (KC d) (λe f=>c e f)))
attribute [push_cast] LS KC Ke
def Mw(v w:gA)(m:MH)(h:PH)(K:dk):Prop:=
  dD v.left w.left (dD v.right w.right (Ke v h (λf g=>Ke w g (λj c=>Ko (λd e p q=>aI (fY f.enc j.enc=fY d.enc e.enc) (dZ c p d) (dZ c q e) (∀(r:Bool),(eZ r↔p=q)->K (vD r) m c))))) (K aX m h)) (K aX m h)
noncomputable abbrev By(a:List dj)(b:dj):eb:=nO (CV.lst 5 1 a) (gV b)
attribute [push_cast] By
def Mc(xs:List dj)(o:OV)(m:MH)(h:PH)(K:dk):Prop:=
  BK h 1 (kH (qI o)::gL (kH (qJ o))) (λs d x e l=>aA (kX xs s=kX x e) (Ints d e l) (aA (gS m) (xU x l) (∃(c:List dj)(v:VV),aI (By (jL x (kN l)) (xG o)=By c v.enc) (gS m) (j4 (nY c v.text.size+500)) (K (CV.lst 5 1 (jL c (yW v))) m d))))
def Mf(N:Nat)(xs:List dj)(v:PV)(m:MH)(h:PH)(K:dk):Prop:=
  BK h 1 (bQ v.op::gL (bQ v.cmp)) (λs z x A l=>aA (kX xs s=kX x A) (Ints z A l) (aA (gS m) (xU x l) (∃(e:List dj)(o:OV),aI (By (jL x (kN l)) (uE v)=By e o.enc) (gS m) (j4 (nY e o.value.text.size+1000)) (∃(f:List dj)(g:OV),aI (By (jL e (F7 o)) (sZ v)=By f g.enc) (gS m) (j4 (nY f g.value.text.size+1000)) (BK z 1 (gL (bQ (mG v))) (λG B j C n=>aA (kX (jL f (F7 g)) G=kX j C) (Ints B C n) (aA (gS m) (xU j n) (∃(I:Nat×List dj×PH->Prop)(D:Nat×List dj×PH->Nat),(∃(c:Nat×List dj×PH),aA (I c) (eL 40) (aA (aH v.args) (pY v) (aA (aZ c.1) (bW 5 1 (jL j (kN n))=bW 5 1 c.2.1) (aA (m=
 m) (B=c.2.2) True))))/\∀(c:Nat×List dj×PH),I c->aW (↑c.1:Int) (aF v.args) (aJ (λb E=>aI (aK v.args.a b E) (0<=(↑c.1:Int)) ((↑c.1:Int)<aF v.args) (∃(y:PV),aR m c.2.2 b (bE E c.1 13) y.enc/\∃(u:List dj),qA (λF p=>aA (nO (CV.lst 5 1 c.2.1) (pZ y)=nO (CV.lst 5 1 u) (pZ F)) (dX c.2.2 p F) (aA (qP p N) (gS m) (j4 (nY u (mS p).length+5000)/\∃(d:Nat×List dj×PH),aA (I d) (D d<D c) (aA (eL 40) (aH v.args) (aA (pY v) (eR (bF ((↑c.1:Int)+1))=bL d.1) (aA (bW 5 1 (jL u (mS p))=bW 5 1 d.2.1) (m=m) (bR c.2.2 d.2.2)))))))))) (K (CV.lst 5 1 c.2.1) m c.2.2)))))))))
abbrev kF(a:gA):Prop:=eQ (nK 123 a.enc)
abbrev HG:Prop:=eQ (oQ 254 (cH dV dV (cH (fL 0) dV (cH dV OF (cH OF OF (iU OF OF))))))
noncomputable abbrev Aw(a:Nat×List dj×List dj×PH):List dj:=a.2.2.1
noncomputable abbrev yB(a:Nat×List dj×List dj×PH):Nat->Nat->Option Value:=a.2.2.2
abbrev Ax(a:List dj)(b:dw):Prop:=a=i7 (ByteArray.mk (Array.mk b))
attribute [push_cast] kF HG Aw yB Ax
def Mi(v:gA)(m:MH)(h:PH)(K:dk):Prop:=
  ∃(I:Nat×List dj×PH->Prop)(C:Nat×List dj×PH->Nat),(∃(x:Nat×List dj×PH),aA (I x) dW (aA cW (eL 23) (aA tX (aH v.on) (aA (aY v.on) (aZ x.1) (aA (kF v) HG (aA (u9 5 1 x.2.1) (m=m) (bR h x.2.2)))))))/\∀(x:Nat×List dj×PH),I x->aW (↑x.1:Int) (aF v.on) (aJ (λb o=>aI (aK v.on.a b o) (0<=(↑x.1:Int)) ((↑x.1:Int)<aF v.on) (∃(y:Int×Int),aA (aR m x.2.2 b (bE o x.1 2) (oD y)) (bY 0) (aA ((0:Int)<2) (bY 1) ((1:Int)<2/\BK x.2.2 1 (bQ y.1::gL (bQ y.2)) (λs g c f l=>aA (kX x.2.1 s=kX c f) (Ints g f l) (aA (gS m) (xU c l) (∃(d:Nat×List dj×PH),aA (I d) (C d<C x) (aA dW cW (aA (eL 23) tX (aA (aH v.on) (aY
 v.on) (aA (eR (bF ((↑x.1:Int)+1))=bL d.1) (kF v) (aA HG (bW 5 1 (jL c (kN l))=bW 5 1 d.2.1) (bG m m g d.2.2)))))))))))))) (∃(I1:Nat×List dj×List dj×PH->Prop)(n:Nat×List dj×List dj×PH->Nat),(∃(c:Nat×List dj×List dj×PH),aA (I1 c) dW (aA cW (eL 23) (aA (eL 39) (aH v.order) (aA (aY v.order) (aZ c.1) (aA (kF v) HG (aA (bW 5 1 x.2.1=bW 5 1 c.2.1) (u9 5 1 (Aw c)) (bG m m x.2.2 (yB c))))))))/\∀(c:Nat×List dj×List dj×PH),I1 c->aW (↑c.1:Int) (aF v.order) (aJ (λb o=>aI (aK v.order.a b o) (0<=(↑c.1:Int)) ((↑c.1:Int)<aF v.order) (∃(y:Int×Bool),aR m (yB c) b (bE o c.1 2) (qX y)/\branch y.2 (BK
 (yB c) 1 (bQ y.1::gL (bQ 1)) (λs g d f l=>aA (kX (Aw c) s=kX d f) (Ints g f l) (aA (gS m) (xU d l) (∃(e:Nat×List dj×List dj×PH),aA (I1 e) (n e<n c) (aA dW cW (aA (eL 23) (eL 39) (aA (aH v.order) (aY v.order) (aA (eR (bF ((↑c.1:Int)+1))=bL e.1) (kF v) (aA HG (bW 5 1 c.2.1=bW 5 1 e.2.1) (bS (bW 5 1 (jL d (kN l))=bW 5 1 (Aw e)) m m g (yB e))))))))))) (BK (yB c) 1 (bQ y.1::gL (kH cF)) (λs g d f l=>aA (kX (Aw c) s=kX d f) (Ints g f l) (aA (gS m) (xU d l) (∃(e:Nat×List dj×List dj×PH),aA (I1 e) (n e<n c) (aA dW cW (aA (eL 23) (eL 39) (aA (aH v.order) (aY v.order) (aA (eR (bF
 ((↑c.1:Int)+1))=bL e.1) (kF v) (aA HG (bW 5 1 c.2.1=bW 5 1 e.2.1) (bS (bW 5 1 (jL d (kN l))=bW 5 1 (Aw e)) m m g (yB e)))))))))))))) (∃(b:dw),c.2.1=bH b/\∃(j:dw),aI (Aw c=bH j) (Ax c.2.1 b) (Ax (Aw c) j) (∃(d:List dj),qA (λD p=>aA (nO (CV.lst 5 1 []) (pZ v.where_)=nO (CV.lst 5 1 d) (pZ D)) (dX (yB c) p D) (aA (gS m) (j4 (nY d (mS p).length+5000)) (∃(u:dw),aA (jL d (mS p)=bH u) (Ax (jL d (mS p)) u) (aA (Ax c.2.1 b) (Ax (Aw c) j) (∃(e:List dj),DP (λs l=>aA (kX [] v.columns=kX e s) (Ints (yB c) s l) (aA (gS m) (xU e l) (∃(z:dw),aA (jL e (kN l)=
 bH z) (Ax (jL d (mS p)) u) (aA (Ax (jL e (kN l)) z) (Ax c.2.1 b) (Cp (Ax (Aw c) j) (λA=>DP (λf B=>aA (kX [] v.group=kX A f) (Ints (yB c) f B) (aA (gS m) (xU A B) (∃(E:dw),jL A (kN B)=bH E/\K (gV (bC (fE v.op) (fE v.table) (bC (fE v.limit) (fE v.left) (bC (fE v.right) (zW u) (bC (zW z) (zW b) (nL (zW E) (zW j))))))) m (yB c))))))))))))))))))
theorem W2:∀N,di 207 (bNJ N)
 |0=>by
  refine eA (fn:=Tryz.f207) (c:=cM Tryz.f207) func207 rfl bz ?_;rintro C m h K ⟨v,p,rfl,_,O,_⟩;omega
 |N+1=>by
  refine fU func207 ?_;rintro C m h K ⟨v,p,rfl,P,O,Q⟩;refine⟨bnJ N v m,rfl,aE (W2 N) aG,SF N v m h K,bu,?_⟩;dsimp only[SF,push_cast];have f:=@uK p;obtain⟨op,R,l,r,ps⟩:=p;obtain⟨rfl,rfl,rfl,rfl,D⟩:=P.parts;have S:=D.slen;have o:=D.len;simp only[Pred.args]at f;refine⟨λ⟨i,y,e⟩=>i<=ps.length/\PH.le h e/\y.length=i/\∀(j:Nat) x,(ps.take i)[j]? =some x->∃u,y[j]? =some u/\dX e x u,λ⟨i,_,_⟩=>ps.length-i,⟨(0,[],h),⟨aC,.refl _,rfl,λj x e=>by simp at e⟩,MT⟩,?_⟩;rintro⟨i,y,e⟩ ⟨T,g,z,n⟩;dsimp only;refine aD (λA=>?_) (λU L h' d B=>Q ⟨v.op,v.cmp,v.left,v.right,L⟩ h' (g.trans d) (dX.mk (v:=⟨v.op,v.cmp,v.left,v.right,L⟩) ⟨⟨y,B,aC,λj x e=>?_⟩,o⟩))
  .obtain⟨q,E⟩:=dO S A;obtain⟨V,W,u,X,Y,F⟩:=(D.mono g).at E;refine⟨V,W,X,aC,A,u,.imm Y,u,q,rfl,F,?_,λM h' d G=>⟨ce,ce,(i+1,y++[M],h'),⟨aC,g.trans d,by simp[z],λj x e=>?_⟩,cj,?_⟩⟩
   .have:=f (cr E);omega
   .rw[db,E]at e;by_cases hj:j<i
    .rw[getElem?_append_left ce]at e;obtain⟨Z,H,I⟩:=n j x e;exact⟨Z,by rw[getElem?_append_left aC];exact H,I.mono d⟩
    .rw[getElem?_append_right ce]at e;have J:=(cn e);simp at J;have:j=i:=by omega
     subst this;simp only[length_take,Nat.min_eq_left T,Nat.sub_self]at e;simp at e;subst e;exact⟨M,by rw[getElem?_append_right aC,z];simp,G⟩
   .rw[cv];exact MT
  .rw[cu aC]at n;obtain⟨u,H,I⟩:=n j x e;exact⟨u,H,I.mono d⟩
theorem Zk:di 207 bOQ:=iQ W2 λ_ _ _ _⟨v,p,e,c,d⟩=>⟨SizeOf.sizeOf p+1,v,p,e,c,aC,d⟩
def bIZ:Vc.Spec:=λc m h K=>∃v w t u,c=[aT v,aT w]/\kW h t v/\kW h u w/\∀r:Bool,(r=true↔t=u)->K (cB r) m h
theorem caQ{v:gA}(x:kW h t v)(d:∀c h',PH.le h h'->dZ h' t.query c->K (aQ c) m h'):Tt v m h K:=
 ⟨⟨v.op,v.table,v.where_,v.columns,v.on,v.group,v.order,v.limit,⟨none,0,0⟩⟩,t.query,rfl,nS.rep ⟨x.op_,x.table_,x.where_,x.columns_,x.on_,x.group_,x.order_,x.limit_,.nil _ _ _ _⟩,d⟩
theorem Jh:di 131 U8:=by
 refine fU func131 ?_;rintro c m h K ⟨v,t,rfl,x,d⟩;refine⟨cT [(49,alX)] [] [] [] false,rfl,aE Sc aG,Tt v m h K,bu,?_⟩;exact caQ x d
theorem acX:di 111 bIZ:=by
 refine DS func111 ?_;rintro n m h K ⟨v,w,t,u,rfl,x,y,j⟩;refine⟨cT [(131,U8),(31,ceQ)] [] [] [] false,rfl,aE Jh (aE aTX aG),Mw v w m h (jF h K),bu,?_⟩;show Mw v w m h (jF h K);dsimp only[Mw,push_cast];refine aB (λc=>aB (λd=>⟨v,t,rfl,x,λo F f z=>⟨w,u,rfl,y.mono f,λA G g B=>⟨o,A,_,_,rfl,dZ.mono g z,B,λr C=>.out (Sub.refl m) (f.trans g) (j r (C.trans ?_))⟩⟩⟩) (λd=>.here (j false ⟨λe=>(by cases e),λe=>?_⟩))) (λc=>.here (j false ⟨λe=>(by cases e),λe=>?_⟩))
 .have c:t.left=u.left:=by rw[x.left_,y.left_]at c;simpa using c
  have d:t.right=u.right:=by rw[x.right_,y.right_]at d;simpa using d
  obtain⟨H,I,J,L,M,O,P,Q,R,D⟩:=t;obtain⟨S,T,U,V,W,X,Y,Z,b9,E⟩:=u;dsimp only at c d⊢
  subst c d;constructor
  .intro e;injection e with e1 e2 e3 e4 e5 e6 e7 e8;rw[e1,e2,e3,e4,e5,e6,e7,e8]
  .intro e;injection e with e1 e2 e3 e4 e5 e6 e7 e8;rw[e1,e2,e3,e4,e5,e6,e7,e8]
 .subst e;rw[x.right_,y.right_]at d;simp at d
 .subst e;rw[x.left_,y.left_]at c;simp at c
theorem YJ:di 289 cmQ:=by
 refine DS func289 ?_;rintro f m h K ⟨xs,o,rfl,d,u,e⟩;refine⟨cT [(255,XZ),(192,bQX)] [] [] [(255,[0]),(192,[0])] true,rfl,aE FL (aE Qh aG),Mc xs o m h (jF h K),bu,?_⟩;show Mc xs o m h (jF h K);dsimp only[Mc,push_cast];intro g x c j;have n:=lB [o.kind,o.index];simp only[de,length_nil]at n;refine⟨_,g,[o.kind,o.index],rfl,.ofRow j bx,d,ce,_,o.value,rfl,d,?_,?_⟩
 .rw[ct,cL];omega
 .refine .out (Sub.refl m) c ?_;rw[F7,fK, <-append_assoc]at e;exact e
theorem WU:∀N,di 262 (clZ N)
 |0=>by
  refine R4 (fn:=Tryz.f262) (c:=cM Tryz.f262) func262 rfl bz ?_;rintro x m h K ⟨xs,v,p,rfl,_,I,_,_,_⟩;omega
 |N+1=>by
  refine DS func262 ?_;rintro x m h K ⟨xs,v,p,rfl,J,I,j,L,G⟩;refine⟨bkZ N v m,rfl,aE FL (aE YJ (aE (WU N) aG)),Mf N xs v m h (jF h K),bu,?_⟩;show Mf N xs v m h (jF h K);dsimp only[Mf,push_cast];have d:=@uK p;obtain⟨op,M,l,r,f⟩:=p;obtain⟨rfl,rfl,rfl,rfl,y⟩:=J.parts;have z:=y.slen;have A:=y.len;simp only[Pred.args]at d;have Z:=VX v.left;have b2:=VX v.right;have O:=lB [v.op,v.cmp];have P:=lB [(f.length:Int)];simp only[de,length_nil]at O P;simp only[mS,ct]at L;intro Q h1 B R;refine⟨_,Q,[v.op,v.cmp],rfl,.ofRow R bx,j,ce,_,v.left,rfl,j,?_,_,v.right,rfl,j,?_,λS T C U=>⟨_,S,[(v.args.len:Int)],rfl,.ofRow U bx,j,?_,?_⟩⟩
  .simp only[ct,cL];omega
  .simp only[ct,cL];omega
  .simp only[ct,cL,de,length_nil];omega
  rw[z];refine⟨λ⟨i,H,D⟩=>i<=f.length/\PH.le h D/\H=xs++bH (kN [v.op,v.cmp])++bH (F7 v.left)++bH (F7 v.right)++bH (kN [(f.length:Int)])++bH (lA (f.take i)),λ⟨i,_,_⟩=>f.length-i,⟨(0,_,T),⟨aC,B.trans C,rfl⟩,?_⟩,?_⟩
  .simp only[take_zero,lA,bH,map_nil,append_nil];exact MT
  rintro⟨i,H,D⟩ ⟨hi,g,rfl⟩;dsimp only;refine aD (λE=>?_) (λV=>?_)
  .obtain⟨q,n⟩:=dO rfl E;obtain⟨W,o,u,e,X,F⟩:=(y.mono g).at n;have Y:=VN (l:=f) (i+1);rw[Nb n,ct]at Y;refine⟨W,o,e,aC,aC,u,.imm X,_,u,q,rfl,F,?_,j,?_,(i+1,xs++bH (kN [v.op,v.cmp])++bH (F7 v.left)++bH (F7 v.right)++bH (kN [(f.length:Int)])++bH (lA (f.take (i+1))),D),⟨aC,g,rfl⟩,cj,?_⟩
   .have:=d (cr n);omega
   .simp only[ct,cL];omega
   .rw[Nb n,fK, <-append_assoc];exact MT
  .rw[cu aC];refine .out (Sub.refl m) g ?_;simp only[mS,fK, <-append_assoc]at G;exact G
theorem YM:di 262 clJ:=iQ WU λ_ _ _ _⟨xs,v,p,e,c,d,f,g⟩=>⟨SizeOf.sizeOf p+1,xs,v,p,e,c,aC,d,f,g⟩
def a6Z(b:dw):Value:=.string ⟨b.toArray⟩
def V8(t:Step):dj:=[.int .i64 t.op,.int .i64 t.table,.int .i64 t.limit,.int .i64 t.left,.int .i64 t.right,a6Z (mS t.wher),a6Z (kN t.columns),a6Z (oL t.on),a6Z (kN t.group),a6Z (rT t.order)]
def bKQ:Vc.Spec:=λc m h K=>∃v t,c=[aT v]/\kW h t v/\Q0 t/\gS m/\K (.val (.agg ⟨V8 t⟩)) m h
theorem Zj:di 208 bKQ:=by
 refine DS func208 ?_;rintro I m h K ⟨v,t,rfl,f,y,u,J⟩;refine⟨bnZ v m,rfl,aE FL (aE YM aG),Mi v m h (jF h K),bu,?_⟩;show Mi v m h (jF h K);dsimp only[Mi,push_cast];have D:=f.on_.slen;have E:=f.order_.slen;have O:=y.wher;have P:=y.columns;have Q:=y.on;have R:=y.group;have S:=y.order;refine⟨λ⟨i,xs,n⟩=>i<=t.on.length/\PH.le h n/\xs=bH (oL (t.on.take i)),λ⟨i,_,_⟩=>t.on.length-i,⟨(0,[],h),⟨aC,.refl _,by simp[oL,bH]⟩,MT⟩,?_⟩;rintro⟨i,xs,n⟩ ⟨G,c,rfl⟩;dsimp only;refine aD (λg=>?_) (λz=>?_)
 .obtain⟨x,d⟩:=dO D g;obtain⟨b,o,e,r⟩:=(f.on_.mono c).at d;have L:=Pb (t.on.take i);have M:(t.on.take i).length=i:=ce
  refine⟨b,o,e,aC,g,x,.imm r,aC,aC,aC,aC,λA B j C=>⟨_,A,[x.1,x.2],rfl,.ofRow C bx,u,?_,(i+1,bH (oL (t.on.take (i+1))),B),⟨aC,c.trans j,rfl⟩,cj,?_⟩⟩
  .rw[cL];simp only[de,length_nil];omega
  .rw[VR d,fK];exact MT
 rw[cu aC];refine⟨λ⟨i,xs,H,n⟩=>i<=t.order.length/\PH.le h n/\xs=bH (oL t.on)/\H=bH (rT (t.order.take i)),λ⟨i,_,_,_⟩=>t.order.length-i,⟨(0,bH (oL t.on),[],n),⟨aC,c,rfl,by simp[rT,bH]⟩,MT⟩,?_⟩;clear c z G;clear i n;rintro⟨i,xs,H,n⟩ ⟨G,c,rfl,rfl⟩;dsimp only;refine aD (λg=>?_) (λz=>?_)
 .obtain⟨x,d⟩:=dO E g;obtain⟨b,o,e,r⟩:=(f.order_.mono c).at d;have L:=OP (t.order.take i);have M:(t.order.take i).length=i:=ce
  refine⟨b,o,e,aC,g,x,.imm r,aB (λF A B j C=>⟨_,A,[x.1,1],rfl,.ofRow C bx,u,?_,(i+1,bH (oL t.on),bH (rT (t.order.take (i+1))),B),⟨aC,c.trans j,rfl,rfl⟩,cj,?_⟩) (λF A B j C=>⟨_,A,[x.1,0],rfl,.ofRow C bx,u,?_,(i+1,bH (oL t.on),bH (rT (t.order.take (i+1))),B),⟨aC,c.trans j,rfl,rfl⟩,cj,?_⟩)⟩
  .rw[cL];simp only[de,length_nil];omega
  .rw[M6 d,fK,F];exact MT
  .rw[cL];simp only[de,length_nil];omega
  .rw[M6 d,fK,F];exact MT
 rw[cu aC];refine⟨_,rfl,_,rfl,kD _,kD _,[],v.where_,t.wher,rfl,f.where_.mono c,u,ce,_,rfl,kD _,kD _,kD _,[],v.columns,t.columns,rfl,f.columns_.mono c,u,ce,_,rfl,kD _,kD _,kD _,kD _,[],v.group,t.group,rfl,f.group_.mono c,u,ce,_,rfl,.out (Sub.refl m) c ?_⟩;rw[f.op_,f.table_,f.limit_,f.left_,f.right_];exact J
def cwQ(a b:KV):Bool:=a.i0==b.i0&&(a.i1==b.i1&&(a.i2==b.i2&&(a.i3==b.i3&&(a.i4==b.i4&&(a.s0.toList==b.s0.toList&&(a.s1.toList==b.s1.toList&&(a.s2.toList==b.s2.toList&&(a.s3.toList==b.s3.toList&&(a.s4.toList==b.s4.toList&&(true))))))))))
theorem bCQ(a b:KV)(d:Nat)(w:World):(Op.equalIn (d+2) 254 a.val b.val).run Tryz.prog w= .ok (cwQ a b) w:=by
 unfold KV.val;rw[run_equalIn_struct w (d+1) 254 _ _ bu bu,show(Tryz.prog.fieldsOf 254).toList=[II 254 0,II 254 1,II 254 2,II 254 3,II 254 4,II 254 5,II 254 6,II 254 7,II 254 8,II 254 9]by kernel_rfl];refine eM (x:=.int .i64 a.i0) (y:=.int .i64 b.i0) bu bu bu (run_equalIn_int w d _ .i64 .i64 _ _ bu) ?_;refine eM (x:=.int .i64 a.i1) (y:=.int .i64 b.i1) bu bu bu (run_equalIn_int w d _ .i64 .i64 _ _ bu) ?_;refine eM (x:=.int .i64 a.i2) (y:=.int .i64 b.i2) bu bu bu (run_equalIn_int w d _ .i64 .i64 _ _ bu) ?_;refine eM (x:=.int .i64 a.i3) (y:=.int .i64 b.i3) bu bu bu (run_equalIn_int w d _ .i64 .i64 _ _ bu) ?_;refine eM (x:=.int .i64 a.i4) (y:=.int .i64 b.i4) bu bu bu (run_equalIn_int w d _ .i64 .i64 _ _ bu) ?_;refine eM (x:=.string a.s0) (y:=.string b.s0) bu bu bu (run_equalIn_string w d _ _ _ bu) ?_;refine eM (x:=.string a.s1) (y:=.string b.s1) bu bu bu (run_equalIn_string w d _ _ _ bu) ?_;refine eM (x:=.string a.s2) (y:=.string b.s2) bu bu bu (run_equalIn_string w d _ _ _ bu) ?_;refine eM (x:=.string a.s3) (y:=.string b.s3) bu bu bu (run_equalIn_string w d _ _ _ bu) ?_;refine eM (x:=.string a.s4) (y:=.string b.s4) bu bu bu (run_equalIn_string w d _ _ _ bu) ?_;simp[Op.eqFields]
theorem bCX{a b:KV}:cwQ a b=true↔a=b:=by
 obtain⟨I,J,L,M,O,P,Q,R,S,T⟩:=a;obtain⟨y,z,A,B,C,D,E,F,G,H⟩:=b;simp only[cwQ,Bool.and_true,cz,beq_iff_eq,KV.mk.injEq];constructor
 .rintro⟨d,e,f,g,j,n,o,u,x,c⟩;exact⟨d,e,f,g,j,nV n,nV o,nV u,nV x,nV c⟩
 .rintro⟨d,e,f,g,j,n,o,u,x,c⟩;exact⟨d,e,f,g,j,by rw[n],by rw[o],by rw[u],by rw[x],by rw[c]⟩
theorem KV.val_inj{a b:KV}:a.val=b.val↔a=b:=by
 obtain⟨y,z,A,B,C,D,E,F,G,H⟩:=a;obtain⟨c,d,e,f,g,j,n,o,u,x⟩:=b;simp[KV.val]
theorem a6Q:∃c,Tryz.prog.underlying 254=some (.struct c):=by
 have:(match Tryz.prog.underlying 254 with|some (.struct _)=>true|_=>false)=true:=bu
 split at this
 .rename_i c h;exact⟨c,h⟩
 .cases this
theorem R0:KeyLaw Tryz.prog 254 (λv=>∃a:KV,v=a.val):=by
 obtain⟨f,c⟩:=a6Q;refine⟨⟨_,c⟩,?_,?_,?_⟩
 .rintro _ w b ⟨a,rfl⟩;exact zF _ _ _ (show zG Tryz.prog (Instr.checkKey b 10000 254 a.val)=some ()by kernel_rfl) w
 .rintro _ _ w ⟨a,rfl⟩ ⟨b,rfl⟩;refine⟨_,bCQ a b 9998 w,?_⟩;rw[bCX,KV.val_inj]
 .rintro d _ _ r e ⟨a,rfl⟩ ⟨b,rfl⟩ h;rw[c]at e;cases e;simp[KV.val,Instr.sameNow]at h
theorem aLJ(t:Step):(keyOf t).val= .agg ⟨V8 t⟩:=rfl
structure nT(m:MH)(h:PH)(cb mb:Nat)(s:Sl)(ts:dv):Prop where
 at_:m cb=some (.cells #[.slice s.a s.len s.cap,.map (some mb)] 183 (0,0))
 row:∃vs,dC m s 123 22 (vs.map gA.enc)/\Steps h vs ts
 map_:qM m mb (ts.mapIdx λi t=>((keyOf t).val,.int .i64 i))
 nodup:(ts.map keyOf).Nodup
structure IB(m m':MH)(cb mb:Nat)(s s':Sl):Prop where
 other:∀b o,m b=some o->b≠cb->b≠mb->(∀i,s.a≠some ⟨b,i,none⟩)->m' b=some o
 fresh:∀b i,s'.a=some ⟨b,i,none⟩->m b=none\/∃i,s.a=some ⟨b,i,none⟩
def cmX(N:Nat):Vc.Spec:=λc m h K=>∃v q cb d s ts,c=[cP cb,aQ v]/\dZ h q v/\SizeOf.sizeOf q<N/\Ad q/\nT m h cb d s ts/\gS m/\(ts.length:Int)+NQ q<=8000000/\
 ∀ts'(k:Nat) s' m' h',PH.le h h'->Bo q ts ts' k->nT m' h' cb d s' ts'->IB m m' cb d s s'->K (cI k) m' h'
def cCJ:TypeId->Dec:=λT=>match T with
 |181=>⟨Nat,λb=>[.map (some b)]⟩
 |T=>dec T
noncomputable def byQ(N:Nat)(cb:Nat)(v:QV):Ctx:=
 {rI [(207,bOQ),(136,Vg),(137,aEX),(141,aDJ),(208,bKQ),(134,cmX N)] [] [(2,{A:=gA×MH×PH,st:=λ⟨t,m,h⟩=>bO 89 91 [(0,pv cb),(3,.at (.ptr 3 0)),(5,.at (.ptr 5 0))] [(3,.cells 38 (v.enc.map .val)),(5,.cells 123 (t.enc.map .val))] m h}),
  (4,{A:=gA×MH×PH,st:=λ⟨t,m,h⟩=>bO 89 91 [(0,pv cb),(3,.at (.ptr 3 0)),(5,.at (.ptr 5 0))] [(3,.cells 38 (v.enc.map .val)),(5,.cells 123 (t.enc.map .val))] m h}),
  (6,{A:=gA×MH×PH,st:=λ⟨t,m,h⟩=>bO 89 91 [(0,pv cb),(5,.at (.ptr 5 0))] [(5,.cells 123 (t.enc.map .val))] m h})] [] [1060] [] false with dec:=cCJ}
def y9:ds->dv->dv->ed->Prop
 |[],ts,c,ks=>c=ts/\ks=[]
 |q::qs,ts,c,ks=>∃d k e,Bo q ts d k/\y9 qs d c e/\ks=k::e
noncomputable def oK(s:lL)(c:ds):Int:=if 32<c.length then 2 else if cQ s≠0 then cQ s else kB (c.map λq=>(eF s [] q).2)
structure bJX(h:PH)(p r:Sl)(ts:dv)(ks:ed):Prop where
 steps:∃vs,cE h p 22 (vs.map gA.enc)/\Steps h vs ts
 roots:Ints h r (ks.map fun(k:Nat)=>(k:Int))
 nodup:(ts.map keyOf).Nodup
def XX:Vc.Spec:=λd m h K=>∃sc e s c,d=[aS sc,cS e]/\fR h s sc/\wV h e c/\gS m/\(∀q∈c,(eF s [] q).2=0->Ad q)/\
 (oK s c≠0->K (.tup [aPl cG cG,cI (oK s c)]) m h)/\(oK s c=0->∀p r ts ks h',PH.le h h'->y9 c [] ts ks->bJX h' p r ts ks->K (.tup [aPl p r,cI 0]) m h')
def cHZ:Vc.Spec:=λc m h K=>∃v q cb d s ts,c=[cP cb,aQ v]/\dZ h q v/\Ad q/\nT m h cb d s ts/\gS m/\(ts.length:Int)+NQ q<=8000000/\
 ∀ts'(k:Nat) s' m' h',PH.le h h'->Bo q ts ts' k->nT m' h' cb d s' ts'->IB m m' cb d s s'->K (cI k) m' h'
noncomputable def bYJ(sc:bX)(sl:Sl)(m0:MH):Ctx:=
 {rI [(90,uP),(57,wW),(134,cHZ)] [(7,{A:=Nat×PH,st:=λ⟨i,h⟩=>bO 64 66 [(1,sv sl),(2,.at (.ptr 2 0)),(4,.at (.ptr 4 0)),(25,sv sl),(26,iv sl.len),(27,iv i)] [(2,.cells 43 (sc.enc.map .val)),(4,.cells 62 [.val (.slice none 0 0),.val (.slice none 0 0)])] m0 h}),
  (16,{A:=Nat×Nat×dl×MH×PH,st:=λ⟨i,cb,ks,m,h⟩=>bO 64 66 [(4,.at (.ptr 4 0)),(11,pv cb),(12,.at (.lst 46)),(47,sv sl),(48,iv sl.len),(49,iv i)] [(4,.cells 62 [.val (.slice none 0 0),.val (.slice none 0 0)]),(46,.lst 3 1 (ks.map eI))] m h})] [] [] [183] [] false with dec:=cCJ}
abbrev N9(a:(gA×MH×PH->Prop)->Prop)(b:(gA×MH×PH->Prop)->(gA×MH×PH)->Prop)(c:(gA×MH×PH)->Prop):Prop:=∃(x:gA×MH×PH->Prop),a x/\∀(d:gA×MH×PH),b x d->c d
abbrev J0(a:QV)(b:PH)(c:Sl->PH->Prop):Prop:=EN (λx e=>aA (eY a.on=eY x) (jA b x e) (fT (λf d=>dN b d (jA d f e) (c f d))))
abbrev Py(a:Sl->dr->Prop):Prop:=∃(x:Sl)(c:dr),a x c
noncomputable abbrev lI(a:gA×MH×PH):Nat->Option Obj:=a.2.1
noncomputable abbrev lU(a:gA×MH×PH):Nat->Nat->Option Value:=a.2.2
abbrev EF(a:QV)(b:PH)(c:gA×MH×PH->Prop)(d:Nat)(e:Sl->dz)(g:MH):Prop:=Py (λx n=>aA (eY a.order=eY x) (iV b x n) (fT (λo j=>dN b j (iV j o n) (∃(f:gA×MH×PH),aA (c f) (dE d) (aA bJ dM (aA (dJ a) (oQ 123 (e o)=nK 123 f.1.enc) (aA (g=lI f) (j=lU f) True)))))))
noncomputable abbrev E5(a:QV)(b:PV)(c d e g:Sl):dz:=cH (fL a.op) (zX a) (pQ b (cH (jR c) (jR d) (cH (jR e) (jR g) (cH (fL a.limit) dV (kM dV)))))
abbrev Oa(a:Nat->Nat->Sl->dv->Prop):Prop:=aJ (λx c=>∃(d:Sl)(e:dv),a x c d e)
noncomputable abbrev mJ(a:Nat)(b:CV):eb:=nO (uR a 0) b
abbrev HJ(a:dv)(b:Query):Prop:=(↑a.length:Int)+NQ b<=8000000
abbrev H4(a:dv->Nat->Sl->Prop):Prop:=∀(x:dv)(c:Nat)(d:Sl),a x c d
noncomputable abbrev EG(a:Step):Value:=Value.agg (Array.mk (bC (fE a.op) (fE a.table) (bC (fE a.limit) (fE a.left) (bC (fE a.right) (zW (mS a.wher)) (bC (zW (kN a.columns)) (zW (oL a.on)) (nL (zW (kN a.group)) (zW (rT a.order))))))))
attribute [push_cast] N9 J0 Py lI lU EF E5 Oa mJ HJ H4 EG
def Tq(N:Nat)(cb:Nat)(v:QV)(m:MH)(h:PH)(K:dk):Prop:=
  N9 (λI=>qA (λz p=>sX (B3 v) z.enc (dX h p z) (Hr h p (λG j=>qT v.columns j (λl=>fT (λs B=>dN j B (Ints B s l) (J0 v B (λn A=>qT v.group A (λF=>fT (λu g=>dN A g (Ints g u F) (EF v g I cb (λC=>E5 v G s n u C) m/\EF v g I cb (λC=>E5 v G s n u C) m)))/\qT v.group A (λF=>fT (λu g=>dN A g (Ints g u F) (EF v g I cb (λC=>E5 v G s n u C) m))))/\J0 v B (λn A=>qT v.group A (λF=>fT (λu g=>dN A g (Ints g u F) (EF v g I cb (λC=>E5 v G s n u C) m)))))))/\qT v.columns j (λl=>fT (λs B=>dN j B (Ints B s l) (J0 v B (λn A=>qT v.group A (λF=>fT (λu g=>dN A g (Ints g
 u F) (EF v g I cb (λC=>E5 v G s n u C) m))))))))))/\qA (λz p=>sX (B3 v) z.enc (dX h p z) (Hr h p (λG j=>qT v.columns j (λl=>fT (λs B=>dN j B (Ints B s l) (J0 v B (λn A=>qT v.group A (λF=>fT (λu g=>dN A g (Ints g u F) (EF v g I cb (λC=>E5 v G s n u C) m))))))))))) (λI x=>I x) (λx=>N9 (λI=>fA (aF v.args) 0 (aJ (λb o=>aI (aK v.args.a b o) ((0:Int)<=0) (0<aF v.args) (∃(y:QV),aR (lI x) (lU x) b (o+0) y.enc/\qR (λz q=>Oa (λc E s t=>aA (mJ cb (hX y)=mJ c (hX z)) (dZ (lU x) q z) (aA (sB q N) (Ad q) (aI (nT (lI x) (lU x) c E s t) (gS (lI x)) (HJ t q) (H4 (λH k n=>iM (λD j=>
 dN (lU x) j (Bo q t H k) (nT D j c E n H->IB (lI x) D c E s n->∃(d:gA×MH×PH),aA (I d) (dE cb) (aA bJ dM (aA (dJ v) (oQ 123 (cH (fL x.1.op) (fL x.1.table) (pQ x.1.where_ (cH (jR x.1.columns) (jR x.1.on) (cH (jR x.1.group) (jR x.1.order) (cH (fL x.1.limit) (fL (↑k:Int)) (kM (fL x.1.right)))))))=nK 123 d.1.enc) (aA (D=lI d) (j=lU d) True)))))))))))))) (∃(d:gA×MH×PH),aA (I d) (dE cb) (aA bJ dM (aA (dJ v) (nK 123 x.1.enc=nK 123 d.1.enc) (aA (lI x=lI d) (lU x=lU d) True))))) (λI d=>I d) (λd=>N9 (λI=>fA (aF v.args) 1 (aJ (λb o=>aI (aK v.args.a b o) ((0:Int)<=1) (1<aF v.args) (∃(y:QV),aR (lI d) (lU d) b (o+21) y.enc/\qR (λz q=>Oa (fun
 c E s t=>aA (mJ cb (hX y)=mJ c (hX z)) (dZ (lU d) q z) (aA (sB q N) (Ad q) (aI (nT (lI d) (lU d) c E s t) (gS (lI d)) (HJ t q) (H4 (λH k n=>iM (λD j=>dN (lU d) j (Bo q t H k) (nT D j c E n H->IB (lI d) D c E s n->∃(f:gA×MH×PH),aA (I f) (dE cb) (aA dM (oQ 123 (cH (fL d.1.op) (fL d.1.table) (pQ d.1.where_ (cH (jR d.1.columns) (jR d.1.on) (cH (jR d.1.group) (jR d.1.order) (cH (fL d.1.limit) (fL d.1.left) (kM (fL (↑k:Int))))))))=nK 123 f.1.enc) (bG D (lI f) j (lU f)))))))))))))) (∃(f:gA×MH×PH),aA (I f) (dE cb) (aA dM (nK 123 d.1.enc=nK 123 f.1.enc) (bG (lI d) (lI f) (lU d) (lU f))))) (λI f=>I f) (λf=>LS (λz t
 =>aA (gK f.1.enc=gK z.enc) (kW (lU f) t z) (aA (Q0 t) (gS (lI f)) (∃(y:Nat),aR (lI f) (lU f) cb 1 (kH (mL y))/\∃(k:List (Value×Int))(O:Value->Prop),aA (qM (lI f) y (List.map (fun(p:Value×Int)=>(p.1,fE p.2)) k)) (DO 254 O) (aA (O (EG t)) (∀(e:Value×Int),List.Mem e k->O e.1) (((∀(e:Value×Int),List.Mem e k->e.1=EG t->False)->kZ (lI f) (lU f) cb 0 (λJ=>∃(L:Sl),Cr (aR (lI f) (lU f) cb 0 (aM L)) (aR (lI f) (lU f) cb 0 (aM L)) (λQ=>nQ (dC (lI f) (cX L) 123 22 Q) Q 272 (jN (λs E=>dY (lI f) E (cX L) s 123 22 (eG Q f.1.enc)->vR E cb (iI s) (λD=>∃(M:Nat),aR D (lU f) cb 1 (kH (mL M))/\LW (λP O1=>aA (qM D M
 P) (DO 254 O1) (aA (O1 (EG t)) (∀(e:Value×Value),List.Mem e P->O1 e.1) ((∀(e:Value×Value),H5 e P (EG t))/\∀(R:MH),qD D R M->qM R M (P++DL (EG t) (fE (aF J)))->K (fN (aF J)) R (lU f))))))))))/\∀(J:Int),List.Mem (EG t,J) k->K (fN J) (lI f) (lU f)))))))))
noncomputable abbrev Dd:dj:=nL sC sC
abbrev pG:Prop:=eQ (oQ 62 (iU Q9 Q9))
noncomputable abbrev BM(a:Nat×Nat×dl×MH×PH):Nat->Option Obj:=a.2.2.2.1
noncomputable abbrev BL(a:Nat×Nat×dl×MH×PH):Nat->Nat->Option Value:=a.2.2.2.2
abbrev wF(a:Nat)(b:dj):Prop:=a<b.length
noncomputable abbrev xL(a:List dj)(b:Int)(c:dj):List dj:=List.set a b.toNat c
attribute [push_cast] Dd pG BM BL wF xL
def PZ(sc:bX)(sl:Sl)(m:MH)(h:PH)(K:dk):Prop:=
  fA (aF sl) 32 (K (CV.tup (bD (gV Dd) 2)) m h) (An sc h (λs=>cK (cQ s) 0 (K (CV.tup (bD (gV Dd) (cQ s))) m h) (HR (λI x=>aA (I x) (aH sl) (aA cW fI (aA (aH sl) (aY sl) (aA (aZ x.1) (bP sc) (bS pG m m h x.2))))) (λI C x=>I x->aW (↑x.1:Int) (aF sl) (aJ (λb o=>aI (aK sl.a b o) (0<=(↑x.1:Int)) ((↑x.1:Int)<aF sl) (∃(y:QV),aR m x.2 b (bE o x.1 21) y.enc/\Bz (cV (cD sc) (nO iO (hX y))) x.2 (λg p q _ f=>cK (eF g p q).2 0 (K (CV.tup (nO (gV Dd) (CV.val (fE (eF g p q).2)))) m f) (∃(d:Nat×PH),aA (I d) (C d<C x) (aA (aH sl) cW (aA fI (aH sl) (aA (aY sl) (eR (bF ((↑x.1:Int)+1))=bL d.1) (rZ (bP sc) pG m m f d.2))))))))) (CT m x.2 (λb
 D=>mE D x.2 (λn u=>gP D u n (nL sC (Value.map Option.none)) 183) (λn u=>kS (λc E=>aA (Gc u n (lF c E 0)) (2<=c.size) (∀(F:MH),gP u F n (bC sC (mL b) (List.drop 2 c.toList)) E->aA (bY (aF sl)) (aF sl<=aF sl) (aA (sK sl 8) (qU (aF sl)) (∃(I1:Nat×Nat×dl×MH×PH->Prop)(G:Nat×Nat×dl×MH×PH->Nat),(∃(d:Nat×Nat×dl×MH×PH),aA (I1 d) fI (aA (dP n d.2.1) (eL 46) (aA (aH sl) (aY sl) (aA (aZ d.1) pG (bS (gU (xH (aF sl) (kH cF)) d.2.2.1) F (BM d) x.2 (BL d))))))/\∀(d:Nat×Nat×dl×MH×PH),I1 d->aW (↑d.1:Int) (aF sl) (aJ (λH o=>aI (aK sl.a H o) (0<=(↑d.1:Int)) ((↑d.1:Int)<aF sl) (∃(y:QV),aR (BM d) (BL d)
 H (bE o d.1 21) y.enc/\qR (λv q=>Oa (λz A g t=>aA (mJ d.2.1 (hX y)=mJ z (hX v)) (dZ (BL d) q v) (aA (Ad q) (nT (BM d) (BL d) z A g t) (aA (gS (BM d)) (HJ t q) (H4 (λJ k L=>iM (λB f=>dN (BL d) f (Bo q t J k) (nT B f z A L J->IB (BM d) B z A g L->oT (↑d.1:Int) (dT d.2.2.1) (λe=>aA (jZ (dT d.2.2.1) (↑d.1:Int) e) (wF 0 e) (∃(j:Nat×Nat×dl×MH×PH),aA (I1 j) (G j<G d) (aA fI (dP d.2.1 j.2.1) (aA (eL 46) (aH sl) (aA (aY sl) (eR (bF ((↑d.1:Int)+1))=bL j.1) (rZ pG (gU (xL (dT d.2.2.1) (↑d.1:Int) (tA (fE (↑k:Int)) 1 e)) j.2.2.1) B (BM j) f (BL j)))))))))))))))))) (kZ (BM d) (BL
 d) d.2.1 0 (λy=>bU (BL d) 1 (dT d.2.2.1) (λg f=>K (CV.tup (bD (gV (kP y g)) 0)) (BM d) f))))))))))))))
noncomputable abbrev Ob(a:Sl):dj:=bC MX cF (bC cF cF (bC cF MX (bC sC sC (bC sC sC (bC sC cF (aM a))))))
abbrev KA(a:bX->Sl->lL->ds->Prop):Prop:=EM (λx c=>∃(d:lL)(e:ds),a x c d e)
abbrev Kz(a:Query)(b:ds)(c:lL)(d:Prop):Prop:=List.Mem a b->(eF c [] a).2=0->d
abbrev KL(a:Sl->dv->ed->Prop):Prop:=∀(x:Sl)(c:dv)(d:ed),a x c d
attribute [push_cast] Ob KA Kz KL
def Qa(m:MH)(h:PH)(K:dk):Prop:=
  bU h 2 (gL (nL (zW (DJ 105 100)) (fE 4))) (λs D=>bU D 21 (gL (B4 1 cF cF On)) (λf E=>bU E 21 (B4 2 cF (fE 1) (Ob f)::gL (B4 2 cF (fE 1) (Ob f))) (λF G=>bU G 5 (gL (HH (u7 116) s 1)) (λH I=>bU I 21 (gL (B4 6 cF cF (Ob F))) (λJ d=>KA (λg j e q=>aA (iS (nL cF (iI H)) J=iS (cD g) j) (fR d e g) (aA (wV d j q) (gS m) (aA (∀(n:Query),Kz n q e (Ad n)) (eT (uW (oK e q=0)) (oK e q==0) (K aX m d) (K aX m d)) (oK e q=0->∀(p:Sl),KL (λr t k=>∀(c:PH),dN d c (y9 q [] t k) (eT (bJX c p r t k) (aF p==3) (dD (aF r) 1 (aJ (λb o=>aI (aK r.a b o) ((0:Int)<=0) (0<aF r)
 (∃(y:Int),aR m c b (o+0) (bQ y)/\dD y 2 (aJ (λu x=>aI (aK p.a u x) ((0:Int)<=2) (2<aF p) (∃(z:Int),aR m c u (x+44+20) (bQ z)/\dD z 1 (aJ (λA B=>aI (aK p.a A B) ((0:Int)<=2) (2<aF p) (∃(C:Int),aR m c A (B+44+21) (bQ C)/\K (vD (C==1)) m c))) (K aX m c)))) (K aX m c)))) (K aX m c)) (K aX m c))))))))))))
def stepOf:Query->Int->Int->Step
 |.mk op ta w co on gr od li _,l,r=>⟨op,ta,w,co,on,gr,od,li,l,r⟩
theorem bFQ{c:dv}(h:Rr t ts c k):c.length<=ts.length+1:=by
 rcases h with⟨_,_,_,rfl⟩|⟨_,rfl,_⟩
 .omega
 .simp
theorem yY:∀(q:Query){ts c:dv}{k:Nat},Bo q ts c k->(c.length:Int)<=ts.length+NQ q
 |.mk op ta w co on gr od li args,ts,c,k,h=>by
  rw[vP]at h;obtain⟨f,l,g,r,d,e,j⟩:=h;have:=bFQ j;simp only[NQ]
  match args,d,e with
  |[],d,e=>
   obtain⟨rfl,_⟩:=d;obtain⟨rfl,_⟩:=e;simp only[wZ];omega
  |[a],d,e=>
   obtain⟨rfl,_⟩:=e;have:=yY a d;simp only[wZ];omega
  |a::b::r,d,e=>
   have:=yY a d;have:=yY b e;have:=sR r;simp only[wZ];omega
theorem IB.refl(m:MH)(cb c:Nat)(s:Sl):IB m m cb c s s:=⟨λ_ _ h _ _ _=>h,λb i h=>.inr ⟨i,h⟩⟩
theorem IB.trans{y m2:MH}{f:PH}{g:Nat}{s z B:Sl}{A:dv}(a:IB m y cb g s z)(c:nT y f cb g z A)(b:IB y m2 cb g z B):IB m m2 cb g s B:=by
 refine⟨λx o h n u C=>b.other x o (a.other x o h n u C) n u (λi e=>?_),λx i e=>?_⟩
 .rcases a.fresh x i e with f|⟨j,f⟩
  .rw[f]at h;cases h
  .exact C j f
 .rcases b.fresh x i e with d|⟨j,d⟩
  .by_cases D:∃i,s.a=some ⟨x,i,none⟩
   .exact .inr D
   .left;cases E:m x with
    |none=>rfl
    |some o=>
     have n:x≠cb:=λe=>by rw[e,c.at_]at d;cases d
     have u:x≠g:=λe=>by
      obtain⟨G,H,F,_⟩:=c.map_.ex;rw[e,F]at d;cases d
     rw[a.other x o E n u (λi e=>D ⟨i,e⟩)]at d;cases d
  .exact a.fresh x j d
theorem nT.tab{o:Nat}{s u:Sl}(c:nT m h cb o s ts)(g:IB m m' cb o s u)(y:gS m):gS m':=by
 obtain⟨T,A,e⟩:=y;have d:((Lib.pow10Tab.map λz=>Value.int .u64 z).toArray).size=20:=bz
 refine⟨T,A,g.other 1 _ e (λx=>?_) (λx=>?_) (λi x=>?_)⟩
 .rw[x,c.at_]at e;simp only[cw,Obj.cells.injEq]at e;rw[<-e.1]at d;cases d
 .obtain⟨F,G,B,_⟩:=c.map_.ex;rw[x,B]at e;cases e
 .obtain⟨H,C,_⟩:=c.row;rcases C.ex with⟨f,_⟩|⟨b,D,E,f,j,_,_,n,_⟩
  .rw[f]at x;cases x
  .rw[f]at x;simp only[cw,Addr.mk.injEq]at x;rw[x.1,e]at j;simp only[cw,Obj.cells.injEq]at j;rw[<-j.1,d]at n;omega
theorem nT.mono{d:Nat}{s:Sl}(c:nT m h cb d s ts)(le:PH.le h h'):nT m h' cb d s ts:=by
 obtain⟨f,g,j,n⟩:=c.row;exact⟨c.at_,⟨f,g,j,λi t e=>let⟨v,e1,e2⟩:=n i t e;⟨v,e1,e2.mono le⟩⟩,c.map_,c.nodup⟩
theorem aoJ{ts:dv}{k:Value}{y:Int}(h:(k,y)∈ts.mapIdx λi t=>((keyOf t).val,(i:Int))):∃(i:Nat)(t:Step),ts[i]? =some t/\k=(keyOf t).val/\y=i:=by
 obtain⟨i,c,e⟩:=mem_mapIdx.1 h;simp only[Prod.mk.injEq]at e;exact⟨i,ts[i],cq c,e.1.symm,e.2.symm⟩
theorem bEJ{m:MH}{h:PH}{cb g:Nat}{s:Sl}{ts:dv}{t:Step}{v:gA}{N:Nat}{w:QV}{K:dk}(c:nT m h cb g s ts)(ht:gS m)(hk:Q0 t)(hv:kW h t v)(hl:ts.length+1<=8000001)
 (hK:∀ts'(k:Nat) j m',Rr t ts ts' k->nT m' h cb g j ts'->IB m m' cb g s j->K (cI k) m' h):
 ∃(V:gA)(t:Step),[CV.val (.agg ⟨v.enc⟩)]=[CV.val (.agg ⟨V.enc⟩)]/\kW h t V/\Q0 t/\gS m/\∃y:Nat,aR m h cb 1 [Value.map (some y)]/\∃(f:List (Value×Int))(Ok:Value->Prop),qM m y (f.map λp=>(p.1,.int .i64 p.2))/\KeyLaw Tryz.prog 254 Ok/\Ok (.agg ⟨V8 t⟩)/\(∀e:Value×Int,List.Mem e f->Ok e.1)/\
  ((∀e:Value×Int,List.Mem e f->e.1= .agg ⟨V8 t⟩->False)->∃y:Sl,aR m h cb 0 [.slice y.a y.len y.cap]/\∃d:Sl,aR m h cb 0 [.slice d.a d.len d.cap]/\aR m h cb 0 [.slice d.a d.len d.cap]/\∃xs,dC m ⟨d.a,d.len,d.cap⟩ 123 22 xs/\(xs.length+1)*272<=140737488355328/\xs.length<140737488355328/\
   ∀(j:Sl)(m':MH),dY m m' ⟨d.a,d.len,d.cap⟩ j 123 22 (xs++[v.enc])->∃(cs:Array Value)(E:TypeId),Gc m' cb (.cells cs E (0,0))/\0<cs.size/\∀n:MH,iD m' n cb (.cells ⟨.slice j.a j.len j.cap::([]++cs.toList.drop 1)⟩ E (0,0))->
    ∃F:Nat,aR n h cb 1 [Value.map (some F)]/\∃(f:dt)(Ok:Value->Prop),qM n F f/\KeyLaw Tryz.prog 254 Ok/\Ok (.agg ⟨V8 t⟩)/\(∀e:Value×Value,List.Mem e f->Ok e.1)/\(∀e:Value×Value,List.Mem e f->e.1= .agg ⟨V8 t⟩->False)/\
     ∀m':MH,qD n m' F->qM m' F (f++[(.agg ⟨V8 t⟩,.int .i64 y.len)])->K (.val (.int .i64 y.len)) m' h)/\
  ∀y:Int,List.Mem (Value.agg ⟨V8 t⟩,y) f->K (.val (.int .i64 y)) m h:=by
 obtain⟨vs,hr,O,a1⟩:=c.row;have I:=dC.slen hr;rw[length_map,O]at I
 have W:(ts.mapIdx λi t=>((keyOf t).val,(i:Int))).map (λp=>(p.1,Value.int .i64 p.2))=ts.mapIdx λi t=>((keyOf t).val,.int .i64 i):=by
  apply ext_getElem?;intro i;simp only[getElem?_map,getElem?_mapIdx,Option.map_map];rfl
 have a2:aR m h cb 1 [Value.map (some g)]:=.of_m c.at_ rfl;have P:aR m h cb 0 [.slice s.a s.len s.cap]:=.of_m c.at_ rfl
 have a3:∀b i,s.a=some ⟨b,i,none⟩->b≠cb:=λb i e B=>by
  obtain⟨Q,z⟩:=dC.blk hr e;rw[B,c.at_]at z;cases z
 have J:cb≠g:=λe=>by
  obtain⟨es,cl,z,_⟩:=c.map_.ex;rw[<-e,c.at_]at z;cases z
 refine⟨v,t,rfl,hv,hk,ht,g,a2,ts.mapIdx λi t=>((keyOf t).val,(i:Int)),_,by rw[W];exact c.map_,R0,⟨keyOf t,rfl⟩,λe X=>?_,λa4=>?_,λy hy=>?_⟩
 .obtain⟨i,t',_,G,_⟩:=aoJ (k:=e.1) (y:=e.2) X;exact⟨keyOf t',G⟩
 .have A:∀x∈ts,keyOf x≠keyOf t:=by
   intro x C e;obtain⟨i,D⟩:=mem_iff_getElem?.1 C;have H:=(cn D);refine a4 ((keyOf x).val,(i:Int)) ?_ (by rw[e];rfl);refine mem_mapIdx.2 ⟨i,H,?_⟩;rw[cq H]at D;cases D;rfl
  refine⟨s,P,s,P,P,vs.map gA.enc,hr,cd,cd,λj m1 R=>?_⟩;have L:m1 cb=some (.cells #[.slice s.a s.len s.cap,.map (some g)] 183 (0,0)):=R.other cb _ c.at_ (λi e=>a3 cb i e rfl);refine⟨_,_,⟨L⟩,bx,λm2 S=>?_⟩;have S:iD m1 m2 cb (.cells #[.slice j.a j.len j.cap,.map (some g)] 183 (0,0)):=S;obtain⟨es,cl,Y,a5⟩:=c.map_.ex
  have M:m1 g=some (.map es cl):=R.other g _ Y (λi e=>by
   obtain⟨Q,z⟩:=dC.blk hr e;rw[Y]at z;cases z)
  have Z:m2 g=some (.map es cl):=by rw[S.other g (Ne.symm J)];exact M
  refine⟨g,.of_m S.at_ rfl,ts.mapIdx λi t=>((keyOf t).val,.int .i64 i),_,⟨es,cl,Z,a5⟩,R0,⟨keyOf t,rfl⟩,λe X=>?_,λe X B=>?_,λm3 T U=>?_⟩
  .obtain⟨i,D,G⟩:=mem_mapIdx.1 X;exact⟨keyOf ts[i],by rw[<-G]⟩
  .obtain⟨i,D,G⟩:=mem_mapIdx.1 X;rw[<-G]at B;exact A ts[i] (getElem_mem D) (KV.val_inj.1 B)
  .rw[I]at U⊢
   have a':∀b i,j.a=some ⟨b,i,none⟩->b≠cb:=λb i e B=>by
    obtain⟨Q,z⟩:=dC.blk R.row e;rw[B,L]at z;cases z
   have a0:∀b i,j.a=some ⟨b,i,none⟩->b≠g:=λb i e B=>by
    obtain⟨Q,z⟩:=dC.blk R.row e;rw[B,M]at z;cases z
   refine hK (ts++[t]) ts.length j m3 (.inr ⟨A,rfl,rfl⟩) ⟨?_,⟨vs++[v],?_,?_⟩,?_,?_⟩ ⟨?_,?_⟩
   .rw[T.other cb J];exact S.at_
   .rw[cv];refine dC.keep R.row (λb i e=>?_);rw[T.other b (a0 b i e),S.other b (a' b i e)]
   .refine⟨by simp[O],λi x C=>?_⟩;by_cases D:i<ts.length
    .rw[getElem?_append_left D]at C;obtain⟨u,G,B⟩:=a1 i x C;exact⟨u,by rw[getElem?_append_left aC];exact G,B⟩
    .rw[getElem?_append_right aC]at C;have H:=(cn C);simp at H;have:i=ts.length:=by omega
     subst this;simp at C;subst C;exact⟨v,by rw[getElem?_append_right aC,O];simp,hv⟩
   .rw[mapIdx_append];rw[<-aLJ]at U;simpa using U
   .rw[cv,nodup_append];refine⟨c.nodup,bx,λa ha b hb=>?_⟩;obtain⟨x,C,rfl⟩:=mem_map.1 ha;simp at hb;rw[hb];exact A x C
   .intro b o e n1 n2 n3;rw[T.other b n2,S.other b n1];exact R.other b o e n3
   .exact R.fresh
 .obtain⟨i,t',D,G,rfl⟩:=aoJ hy;refine hK ts i s m (.inl ⟨t',D,?_,rfl⟩) c (.refl _ _ _ _);exact(KV.val_inj.1 (G.symm.trans rfl:(keyOf t').val=(keyOf t).val))
theorem Xg:∀N,di 134 (cmX N)
 |0=>by
  refine eA (fn:=Tryz.f134) (c:=cM Tryz.f134) func134 rfl bz ?_;rintro a' m h K ⟨v,q,cb,F,s,ts,rfl,_,hN,_⟩;omega
 |N+1=>by
  refine fU func134 ?_;rintro a' m h K ⟨v,q,cb,F,s,ts,rfl,hq,hN,E,c,ht,hl,hK⟩;refine⟨byQ N cb v,rfl,aE Zk (aE Qp (aE Z0 (aE ZX (aE Zj (aE (Xg N) aG))))),Tq N cb v m h K,bu,?_⟩;dsimp only[Tq,push_cast];have f:=@vF q;obtain⟨op,ta,w,co,on,gr,od,li,args⟩:=q;have x:=hq.parts;have g:=x.args_.slen;rw[O0]at E;obtain⟨E,O⟩:=E;simp only[NQ]at hl;simp only[Query.args]at f;refine⟨λ⟨t,G,Y⟩=>G=m/\PH.le h Y/\kW Y ⟨op,ta,w,co,on,gr,od,li,0,0⟩ t,?_,?_⟩
  .repeat' (first
    |(refine⟨v.where_,w,rfl,x.where_,λv1 h1 j P=>?_⟩)
    |(refine⟨v.columns,co,rfl,x.columns_.mono j,λQ h2 n r2=>?_⟩)
    |(refine⟨v.on,on,rfl,x.on_.mono (j.trans n),λs3 h3 o r3=>?_⟩)
    |(refine⟨v.group,gr,rfl,x.group_.mono ((j.trans n).trans o),λs4 h4 y r4=>?_⟩)
    |(refine⟨v.order,od,rfl,x.order_.mono (((j.trans n).trans o).trans y),λs5 h5 z r5=>?_⟩)
    |(exact⟨(⟨v.op,v.table,v1,Q,s3,s4,s5,v.limit,0,0⟩,m,h5),⟨rfl,(((j.trans n).trans o).trans y).trans z,⟨x.op_,x.table_,P.mono (((n.trans o).trans y).trans z),r2.mono ((o.trans y).trans z),r3.mono (y.trans z),r4.mono z,r5,x.limit_,rfl,rfl⟩⟩,MT⟩)
    |apply And.intro)
  rintro⟨t,m0,Y⟩ ⟨rfl,d,A⟩;dsimp only;refine⟨λ⟨t,G,L⟩=>∃e l M,Q4 args ts e l/\(e.length:Int)+wZ (args.drop 1)+1<=8000000/\nT G L cb F M e/\IB m0 G cb F s M/\PH.le h L/\kW L ⟨op,ta,w,co,on,gr,od,li,(l:Nat),0⟩ t,aD (λR=>?_) (λS=>?_),?_⟩
  .obtain⟨a,rs,rfl⟩:∃a rs,args=a::rs:=by
    cases args with
    |nil=>simp at g;omega
    |cons a rs=>exact⟨a,rs,rfl⟩
   simp only[wZ]at hl;have a1:=sR rs;obtain⟨b1,o1,u,e1,P,H⟩:=(x.args_.mono d).at (i:=0) (x:=a) rfl;refine⟨b1,o1,e1,aC,aC,u,.imm (cm P),u,a,cb,F,s,ts,rfl,H,?_,O a bx,c.mono d,ht,aC,λB k T m' h' C I U V=>⟨(⟨t.op,t.table,t.where_,t.columns,t.on,t.group,t.order,t.limit,k,t.right⟩,m',h'),⟨B,k,T,I,?_,U,V,d.trans C,?_⟩,?_⟩⟩
   .have:=f (q:=a) bx;omega
   .have:=yY a I;simp only[drop_succ_cons,drop_zero];omega
   .have r:=A.mono C;exact⟨r.op_,r.table_,r.where_,r.columns_,r.on_,r.group_,r.order_,r.limit_,rfl,r.right_⟩
   .rw[A.right_];exact MT
  .obtain rfl:args=[]:=by
    cases args with
    |nil=>rfl
    |cons a rs=>simp at g;omega
   exact⟨(t,m0,Y),⟨ts,0,s,⟨rfl,rfl⟩,by simp[wZ]at hl⊢;omega,c.mono d,.refl _ _ _ _,d,A⟩,MT⟩
  clear A d;rintro⟨t,m1,L⟩ ⟨e,l,M,hf,J,Z,g1,d,A⟩;dsimp only;have a2:=c.tab g1 ht;refine⟨λ⟨t,G,W⟩=>∃D r Q,Second args e D r/\D.length+1<=8000000/\nT G W cb F Q D/\IB m0 G cb F s Q/\PH.le h W/\kW W ⟨op,ta,w,co,on,gr,od,li,(l:Nat),(r:Nat)⟩ t,aD (λR=>?_) (λS=>?_),?_⟩
  .obtain⟨a0,a,rs,rfl⟩:∃a0 a rs,args=a0::a::rs:=by
    cases args with
    |nil=>simp at g;omega
    |cons a rs=>cases rs with
     |nil=>simp at g;omega
     |cons b rs=>exact⟨a,b,rs,rfl⟩
   simp only[wZ,drop_succ_cons,drop_zero]at J;have a1:=sR rs;obtain⟨b1,o1,u,e1,P,H⟩:=(x.args_.mono d).at (i:=1) (x:=a) rfl;refine⟨b1,o1,e1,aC,aC,u,.imm (cm P),u,a,cb,F,M,e,rfl,H,?_,O a bx,Z,a2,aC,λB k T m' h' C I U V=>⟨(⟨t.op,t.table,t.where_,t.columns,t.on,t.group,t.order,t.limit,t.left,k⟩,m',h'),⟨B,k,T,I,?_,U,g1.trans Z V,d.trans C,?_⟩,?_⟩⟩
   .have:=f (q:=a) bx;omega
   .have:=yY a I;omega
   .have r:=A.mono C;exact⟨r.op_,r.table_,r.where_,r.columns_,r.on_,r.group_,r.order_,r.limit_,r.left_,rfl⟩
   .exact MT
  .cases args with
   |nil=>exact⟨(t,m1,L),⟨e,0,M,⟨rfl,rfl⟩,by simp[wZ]at J;omega,Z,g1,d,A⟩,MT⟩
   |cons a rs=>cases rs with
    |nil=>exact⟨(t,m1,L),⟨e,0,M,⟨rfl,rfl⟩,by simp[wZ]at J;omega,Z,g1,d,A⟩,MT⟩
    |cons b rs=>simp at g;omega
  clear A;rintro⟨t,m2,W⟩ ⟨D,r,Q,a3,a4,c2,g2,X,A⟩;dsimp only;exact bEJ (N:=N) (w:=v) (t:=⟨op,ta,w,co,on,gr,od,li,(l:Nat),(r:Nat)⟩) c2 (c.tab g2 ht) ⟨E.wher,E.columns,E.on,E.group,E.order⟩ A aC (λB k T m' I U V=>hK B k T m' W X (vP.2 ⟨e,l,D,r,hf,a3,I⟩) U (g2.trans c2 V))
theorem Z3:di 134 cHZ:=iQ Xg λ_ _ _ _⟨v,q,cb,c,s,ts,e,d,f,g,j,n,o⟩=>⟨SizeOf.sizeOf q+1,v,q,cb,c,s,ts,e,d,aC,f,g,j,n,o⟩
theorem GV:∀{e:ds}{q:Query}{ts d c:dv}{ks:ed}{k:Nat},y9 e ts d ks->Bo q d c k->y9 (e++[q]) ts c (ks++[k])
 |[],q,ts,d,c,ks,k,h,f=>by
  obtain⟨rfl,rfl⟩:=h;exact⟨c,k,[],f,⟨rfl,rfl⟩,rfl⟩
 |p::e,q,ts,d,c,ks,k,h,f=>by
  obtain⟨g,j,n,o,u,rfl⟩:=h;exact⟨g,j,_,o,GV u f,rfl⟩
theorem FJ:∀{l:dl}{i:Nat}{e:Int},l[i]? =some e->e≠0->(∀j x,j<i->l[j]? =some x->x=0)->kB l=e
 |[],_,_,h,_,_=>by simp at h
 |x::r,0,e,h,c,_=>by simp at h;subst h;simp[kB,c]
 |x::r,i+1,e,h,c,d=>by
  have:x=0:=d 0 x aC rfl;subst this;simp only[kB,if_true];exact FJ (i:=i) (cm h) c (λj y g f=>d (j+1) y aC (cm f))
theorem Rz(h:uT q=true):NQ q<=24:=by
 rw[<-G8,(Jv q 8 0 aC).1]at h;have:=h.1;omega
theorem M8(h:(eF s ps q).2=0):uT q=true:=by
 unfold eF at h;split at h
 .split at h
  .split at h
   .assumption
   .simp[eN]at h
  .simp[eN]at h
 .rename_i c;simp[eN]at h;exact(c h).elim
theorem bcX(m:MH):dC m cG 123 22 (([]:List gA).map gA.enc):=⟨⟨λ_ h=>by simp at h,λ_ h=>by simp at h⟩,.inl ⟨rfl,rfl⟩⟩
theorem a7Q{kk:ed}{n:Nat}(c:kk.length<n):((kk.map fun(k:Nat)=>(k:Int))++replicate (n-kk.length) (0:Int)).set kk.length (k:Int)=((kk++[k]).map fun(k:Nat)=>(k:Int))++replicate (n-(kk.length+1)) (0:Int):=by
 have e:n-kk.length=(n-(kk.length+1))+1:=by omega
 rw[e,replicate_succ];have d:kk.length=(kk.map fun(k:Nat)=>(k:Int)).length:=bx
 rw[set_append,if_neg bx];simp
theorem aQQ:di 72 XX:=by
 refine Wm func72 ?_;rintro b8 m h K ⟨sc,sl,s,c,rfl,hs,hq,ht,a4,T,hK⟩;refine⟨bYJ sc sl m,rfl,aE Ih (aE bg (aE Z3 aG)),PZ sc sl m h (fJ h K),bu,?_⟩;show PZ sc sl m h (fJ h K);dsimp only[PZ,push_cast];have hl:=hq.slen;unfold oK at T hK;refine aD (λU=>?_) (λU=>⟨sc,s,rfl,hs,aB (λV=>?_) (λV=>?_)⟩)
 .rw[if_pos aC]at T;exact fJ.keep (Sub.refl m) (.refl _) (T bz)
 .have V:cQ s≠0:=cm V
  rw[if_neg aC,if_pos V]at T;exact fJ.keep (Sub.refl m) (.refl _) (T V)
 have V:cQ s=0:=cm V
 rw[if_neg aC,if_neg (cm V)]at T hK;refine⟨λ⟨i,O⟩=>i<=c.length/\PH.le h O/\∀j q,j<i->c[j]? =some q->(eF s [] q).2=0,λ⟨i,_⟩=>c.length-i,⟨(0,h),⟨aC,.refl _,λj q W=>by omega⟩,MT⟩,?_⟩;rintro⟨i,O⟩ ⟨hi,n,B⟩;dsimp only;refine aD (λF=>?_) (λa5 b m1 hb G cb m2 Z a'=>?_)
 .obtain⟨q,z⟩:=dO hl F;obtain⟨b1,o1,u,P,r1,a0⟩:=(hq.mono n).at z;refine⟨b1,o1,P,aC,F,u,.imm r1,sc,cG,u,s,[],q,rfl,hs.mono n,⟨cE.nil _ _,bx⟩,a0,λX U a6 ri=>aB (λQ=>?_) (λQ=>?_)⟩
  .have Q:(eF s [] q).2≠0:=cm Q
   have a1:kB (c.map λq=>(eF s [] q).2)=(eF s [] q).2:=FJ (i:=i) (by simp[z]) Q (λj x W O=>by
    rw[getElem?_map,Option.map_eq_some_iff]at O;obtain⟨q',y,rfl⟩:=O;exact B j q' W y)
   rw[a1]at T;exact fJ.keep (Sub.refl m) (n.trans a6) (T Q)
  .have Q:(eF s [] q).2=0:=cm Q
   refine⟨(i+1,U),⟨ck,n.trans a6,λj q' W y=>?_⟩,cj,MT⟩;by_cases b3:j=i
   .subst b3;rw[z]at y;cases y;exact Q
   .exact B j q' aC y
 have H:∀q∈c,(eF s [] q).2=0:=λq y=>by
  obtain⟨j,W⟩:=mem_iff_getElem?.1 y;exact B j q (by have:=(cn W);omega) W
 have a1:kB (c.map λq=>(eF s [] q).2)=0:=vJ _ (λx O=>by
  obtain⟨q,y,rfl⟩:=mem_map.1 O;exact H q y)
 have hK:=hK a1;have a7:cb≠b:=λe=>by have:=Z.m_;rw[e,G.at_]at this;cases this
 refine⟨_,_,⟨a'.at_⟩,bx,λm3 I=>?_⟩;have I:iD m2 m3 cb (.cells #[.slice none 0 0,.map (some b)] 183 (0,0)):=I
 have J:Sub m m3:=λx o e=>by
  have n1:x≠b:=λd=>by rw[d,hb.m_]at e;cases e
  have n2:x≠cb:=λd=>by
   have:=Z.m_;rw[<-d,G.other x n1,e]at this;cases this
  rw[I.other x n2,a'.other x n2,G.other x n1];exact e
 have c0:nT m3 O cb b cG []:=⟨I.at_,⟨[],bcX m3,rfl,λi t e=>by simp at e⟩,⟨#[],0,by rw[I.other b (Ne.symm a7),a'.other b (Ne.symm a7)];exact G.at_,rfl⟩,bx⟩
 refine⟨aC,aC,aC,aC,?_⟩;refine⟨λ⟨i,R,ks,mx,hy⟩=>R=cb/\i<=c.length/\PH.le O hy/\∃ts X L,L.length=i/\ks=(L.map fun(k:Nat)=>(k:Int))++replicate (c.length-i) 0/\y9 (c.take i) [] ts L/\nT mx hy cb b X ts/\IB m3 mx cb b cG X/\ts.length<=24*i,λ⟨i,_,_,_,_⟩=>c.length-i,⟨(0,cb,replicate c.length 0,m3,O),⟨rfl,aC,.refl _,[],cG,[],rfl,bx,⟨rfl,rfl⟩,c0,.refl _ _ _ _,bx⟩,?_⟩,?_⟩
 .have:List.map eI (replicate c.length (0:Int))=replicate (Int.toNat (sl.len:Int)) [Value.int .i64 0]:=by rw[map_replicate,Int.toNat_natCast,hl];rfl
  rw[this];exact MT
 clear hi a5 B i;rintro⟨i,R,ks,mx,hy⟩ ⟨rfl,hi,f,ts,X,L,M,rfl,C,hc,hg,b9⟩;dsimp only;have a8:gS mx:=c0.tab hg (ht.sub J);refine aD (λF=>?_) (λa5=>?_)
 .obtain⟨q,z⟩:=dO hl F;obtain⟨b1,o1,u,P,r1,a0⟩:=(hq.mono (n.trans f)).at z;have a9:=H q (cr z);have c':=Rz (M8 a9);refine⟨b1,o1,P,aC,F,u,.imm r1,u,q,R,b,X,ts,rfl,a0,a4 q (cr z) a9,hc,a8,aC,λb4 k s' m' h' A ha b5 b6=>⟨aC,?_,eI 0,?_,by simp[eI],(i+1,R,((L++[k]).map fun(k:Nat)=>(k:Int))++replicate (c.length-(i+1)) 0,m',h'),⟨rfl,aC,f.trans A,b4,s',L++[k],by simp[M],rfl,?_,b5,hg.trans hc b6,?_⟩,cj,?_⟩⟩
  .simp[M];omega
  .rw[getElem?_map,Int.toNat_natCast,getElem?_append_right (by simp[M]),getElem?_replicate,if_pos (by simp[M];omega)];rfl
  .rw[db,z];exact GV C ha
  .have:=yY q ha;omega
  .have e2:(List.map eI ((L.map fun(k:Nat)=>(k:Int))++replicate (c.length-i) 0)).set (Int.toNat (i:Int)) (Value.int .i64 (k:Int)::([]++List.drop 1 (eI 0)))=List.map eI (((L++[k]).map fun(k:Nat)=>(k:Int))++replicate (c.length-(i+1)) 0):=by
    subst M;rw[<-a7Q aC,map_set,Int.toNat_natCast];rfl
   rw[<-e2];exact MT
 .rw[cu aC]at C;refine⟨X,.of_m hc.at_ rfl,λr h' A hr=>?_⟩;have hz:c.length-i=0:=by omega
  rw[hz,replicate_zero,append_nil]at hr;obtain⟨vs,b',S⟩:=hc.row;intro b0
  have Y:Sub m mx:=λx o e=>hg.other x o (J x o e) (λd=>by
   have n1:x≠b:=λd=>by rw[d,hb.m_]at e;cases e
   have:=Z.m_;rw[<-d,G.other x n1,e]at this;cases this) (λd=>by rw[d,hb.m_]at e;cases e) (λi d=>by cases d)
  have D:Ints h' r (L.map fun(k:Nat)=>(k:Int)):=⟨hr,ce⟩
  rcases b'.ex with⟨P,e2⟩|⟨g,c1,a2,P,hm,b2,_,c2,a3⟩
  .refine⟨m,h',Y,n.trans (f.trans A),λb i v e=>.inl e,hK X r ts L h' (n.trans (f.trans A)) C ⟨⟨vs,?_,?_⟩,D,hc.nodup⟩⟩
   .rw[P,e2];exact cE.nil _ _
   .exact⟨S.1,λi t e=>let⟨v,k1,k2⟩:=S.2 i t e;⟨v,k1,k2.mono A⟩⟩
  .have mg:m g=none:=by
    cases e:m g with
    |none=>rfl
    |some o=>
     rcases hg.fresh g 0 (by rw[P])with d|⟨_,d⟩
     .rw[J g o e]at d;cases d
     .cases d
   have b7:∀i,h' g i=none:=b0 g _ hm
   have E:PH.le h' (λx i=>if x=g then a2[i]? else h' x i):=⟨λx i v e=>by
    have:x≠g:=λd=>by rw[d,b7 i]at e;cases e
    simp[this,e]⟩
   refine⟨m,λx i=>if x=g then a2[i]? else h' x i,Y,(n.trans (f.trans A)).trans E,λx i v e=>?_,hK X r ts L _ ((n.trans (f.trans A)).trans E) C ⟨⟨vs,?_,?_⟩,D.mono E,hc.nodup⟩⟩
   .by_cases d:x=g
    .subst d;simp at e;exact .inr ⟨a2,123,(0,0),hm,e,mg⟩
    .simp[d]at e;exact .inl e
   .refine⟨by rw[P],.inr ⟨g,0,by rw[P],λi e hi=>⟨λj v W=>?_⟩⟩,by rw[P];exact b2⟩;have U:=lJ (xs:=vs.map gA.enc) (sz:=22) (λe Q=>by obtain⟨x,_,rfl⟩:=mem_map.1 Q;rfl) hi j v W;rw[<-a3,getElem?_take]at U;split at U
    .simp only[if_true,Nat.zero_add];rw[<-dd];exact U
    .cases U
   .exact⟨S.1,λi t e=>let⟨v,k1,k2⟩:=S.2 i t e;⟨v,k1,k2.mono (A.trans E)⟩⟩
theorem RZ{x:Step}(h:keyOf x=keyOf t):x.op=t.op/\x.left=t.left/\x.right=t.right:=by
 simp only[keyOf,KV.mk.injEq]at h;exact⟨h.1,h.2.2.2.1,h.2.2.2.2.1⟩
theorem CB{c:dv}(e:(ts.map keyOf).Nodup)(h:Rr t ts c k):(c.map keyOf).Nodup/\ts<+:c:=by
 rcases h with⟨_,_,_,rfl⟩|⟨d,rfl,_⟩
 .exact⟨e,prefix_refl _⟩
 .refine⟨?_,prefix_append _ _⟩;rw[cv,nodup_append];refine⟨e,bx,λa g b f=>?_⟩;obtain⟨x,j,rfl⟩:=mem_map.1 g;simp at f;rw[f];exact d x j
theorem wN:∀(q:Query){ts c:dv}{k:Nat},(ts.map keyOf).Nodup->Bo q ts c k->(c.map keyOf).Nodup/\ts<+:c
 |.mk op ta w co on gr od li args,ts,c,k,f,h=>by
  rw[vP]at h;obtain⟨x,l,y,r,d,e,g⟩:=h
  match args,d,e with
  |[],d,e=>
   obtain⟨rfl,rfl⟩:=d;obtain⟨rfl,rfl⟩:=e;exact CB f g
  |[a],d,e=>
   obtain⟨rfl,rfl⟩:=e;obtain⟨j,n⟩:=wN a f d;obtain⟨o,u⟩:=CB j g;exact⟨o,n.trans u⟩
  |a::b::rest,d,e=>
   obtain⟨j,n⟩:=wN a f d;obtain⟨o,u⟩:=wN b j e;obtain⟨z,A⟩:=CB o g;exact⟨z,(n.trans u).trans A⟩
theorem again:∀(q:Query){ts c o B:dv}{k C:Nat},(ts.map keyOf).Nodup->Bo q ts c k->c<+:o->(o.map keyOf).Nodup->Bo q o B C->B=o/\C=k
 |.mk op ta w co on gr od li args,ts,c,o,B,k,C,D,h,I,d,g=>by
  rw[vP]at h g;obtain⟨P,l,f,r,j,n,u⟩:=h;obtain⟨Q,W,R,X,z,A,E⟩:=g
  have key:∀(f:dv)(l r:Nat),(f.map keyOf).Nodup->Rr ⟨op,ta,w,co,on,gr,od,li,(l:Nat),(r:Nat)⟩ f c k->Rr ⟨op,ta,w,co,on,gr,od,li,(l:Nat),(r:Nat)⟩ o B C->B=o/\C=k:=by
   intro f l r S u E
   have F:∃x,c[k]? =some x/\keyOf x=keyOf ⟨op,ta,w,co,on,gr,od,li,(l:Nat),(r:Nat)⟩:=by
    rcases u with⟨x,F,e,rfl⟩|⟨_,rfl,rfl⟩
    .exact⟨x,F,e⟩
    .exact⟨_,bx,rfl⟩
   obtain⟨x,F,e⟩:=F;have G:=IY I F;rcases E with⟨y,T,U,rfl⟩|⟨J,_,_⟩
   .exact⟨rfl,aKJ d T G (U.trans e.symm)⟩
   .exact(J x (cr G) e).elim
  match args,j,n,z,A with
  |[],j,n,z,A=>
   obtain⟨rfl,rfl⟩:=j;obtain⟨rfl,rfl⟩:=n;obtain⟨rfl,rfl⟩:=z;obtain⟨rfl,rfl⟩:=A;exact key _ _ _ D u E
  |[a],j,n,z,A=>
   obtain⟨rfl,rfl⟩:=n;obtain⟨rfl,rfl⟩:=A;obtain⟨H,V⟩:=wN a D j;obtain⟨L,M⟩:=CB H u;obtain⟨rfl,rfl⟩:=again a D j (M.trans I) d z;exact key _ _ _ H u E
  |a::b::rest,j,n,z,A=>
   obtain⟨H,V⟩:=wN a D j;obtain⟨L,M⟩:=wN b H n;obtain⟨Y,O⟩:=CB L u;obtain⟨rfl,rfl⟩:=again a D j ((M.trans O).trans I) d z;obtain⟨rfl,rfl⟩:=again b H n (O.trans I) d A;exact key _ _ _ L u E
theorem a8J(h:(eF s ps q).2=0):Rq q:=(DY q (CO h).2.2.2).2
end Go.Ps
