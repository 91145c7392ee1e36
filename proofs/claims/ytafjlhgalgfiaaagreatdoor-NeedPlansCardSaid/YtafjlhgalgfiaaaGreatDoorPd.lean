/- Own work. -/
import Derived.Test.YtafjlhgalgfiaaaGreatDoorPc
set_option linter.unusedVariables false
set_option linter.unusedSimpArgs false
namespace Go.Ps
open Go Go.Vc Go.Proofs List Tryz
variable{K:da}{m:MH}{h:PH}{s:jC}{ps:db}{cb:Nat}{sc:cK}{v:QV}{p:Pred}{l:db}{i:Nat}{N:Nat}{m':MH}{h':PH}{co:db}{gr:db}{od:di}{ta:Int}{li:Int}{xs:List dc}{sz:Nat}{ks:List db}{rs:db}{r:Sl}{a:db}{b:Nat}
def bR h s l:=bI h 3 VV.enc Eq s l
theorem bR.mono{s l}(x:bR h s l)(le:PH.le h h'):bR h' s l:=bI.mono x le λ_ _ e=>e
def jV(ps:dj)(o:OV):=if o.kind=2/\0<=o.index/\o.index<ps.length then⟨3,0,ps.getD o.index.toNat zeroV⟩else o
mutual
def Hl(ps:dj):Pred->Pred
 |.mk op c l r args=>.mk op c (jV ps l) (jV ps r) (Ij ps args)
def Ij(ps:dj):dp->dp
 |[]=>[]
 |p::r=>Hl ps p::Ij ps r
end
theorem RU(ps:dj):∀l,Ij ps l=l.map (Hl ps)
 |[]=>by simp[Ij]
 |p::r=>by simp[Ij,RU ps r]
theorem boJ o:jV [] o=o:=by unfold jV;grind
mutual
theorem NU:∀p,Hl [] p=p
 |.mk op c l r args=>by simp only[Hl,boJ,RT args]
theorem RT:∀l,Ij [] l=l
 |[]=>by simp[Ij]
 |p::r=>by simp only[Ij,NU p,RT r]
end
def zY:QV:=⟨0,0,iO,⟨none,0,0⟩,⟨none,0,0⟩,⟨none,0,0⟩,⟨none,0,0⟩,0,⟨none,0,0⟩⟩
def cbJ:Vc.Spec:=λc m h K=>∃o s ps,c=[aO o,cS s]/\bR h s ps/\K (aO (jV ps o)) m h
def cMZ(N:Nat):Vc.Spec:=λc m h K=>∃v s p ps,c=[aP v,cS s]/\fJ h p v/\bR h s ps/\SizeOf.sizeOf p<N/\∀d h',PH.le h h'->fJ h' (Hl ps p) d->K (aP d) m h'
def ccQ:Vc.Spec:=λc m h K=>∃v s p ps,c=[aP v,cS s]/\fJ h p v/\bR h s ps/\∀d h',PH.le h h'->fJ h' (Hl ps p) d->K (aP d) m h'
def b9J(N:Nat):Vc.Spec:=λc m h K=>∃v q,c=[aQ v]/\cY h q v/\SizeOf.sizeOf q<N/\∀d h',PH.le h h'->cY h' q d->K (aQ d) m h'
def caX:Vc.Spec:=λc m h K=>∃v q,c=[aQ v]/\cY h q v/\∀d h',PH.le h h'->cY h' q d->K (aQ d) m h'
noncomputable def bLZ(N:Nat)(v:PV)(s:Sl)(m:MH)(h:PH):=
 cZ [(170,cMZ N),(213,cbJ)] [(3,{A:=Nat×OV×OV×dz×PH,st:=λ⟨i,l,r,c,h⟩=>bS 40 42 [(1,sv s),(2,.at (.ptr 2 0)),(4,.at (.ptr 4 0)),(5,.at (.ptr 5 0)),(22,iv v.args.len),(23,iv i)] [(2,.cells 35 (v.enc.map .val)),(4,.cells 35 (iO.enc.map .val)),(5,.cells 35 (([Value.int .i64 v.op,Value.int .i64 v.cmp]++l.enc++r.enc).map .val++[.lst 36])),(36,.lst 35 13 (c.map PV.enc))] m h})] [(2,{A:=OV×OV,st:=λ⟨l,r⟩=>bS 40 42 [(1,sv s),(2,.at (.ptr 2 0)),(4,.at (.ptr 4 0)),(5,.at (.ptr 5 0))] [(2,.cells 35 (v.enc.map .val)),(4,.cells 35 (iO.enc.map .val)),(5,.cells 35 (([Value.int .i64 v.op,Value.int .i64 v.cmp]++l.enc++r.enc++[Value.slice none 0 0]).map .val))] m h})] [] false
noncomputable def bTX(N:Nat)(v:QV)(co:db)(on:dh)(gr:db)(od:di)(m:MH):=
 cZ [(170,ccQ),(118,b9J N)] [(9,{A:=Nat×PV×dw×PH,st:=λ⟨i,w,c,h⟩=>bS 46 47 [(1,.at (.ptr 1 0)),(2,.at (.ptr 2 0)),(3,.at (.ptr 3 0)),(29,iv v.args.len),(30,iv i)] [(1,.cells 41 (v.enc.map .val)),(2,.cells 41 (zY.enc.map .val)),(3,.cells 41 (([Value.int .i64 v.op,Value.int .i64 v.table]++w.enc).map .val++[.lst 12,.lst 16,.lst 20,.lst 24,.val (.int .i64 v.limit),.lst 42])),(12,.lst 3 1 (co.map eI)),(16,.lst 130 2 (on.map pA)),(20,.lst 3 1 (gr.map eI)),(24,.lst 77 2 (od.map Aa)),(42,.lst 41 21 (c.map QV.enc))] m h})] [] [] false
def TE(o:OV)(s:Sl)(m:MH)(h:PH)(K:da):=
  dO o.kind 2 (gQ o.index 0 (aZ o.index (aG s) (bF (λb c=>aH (aM s.a b c) (0<=o.index) (o.index<aG s) (∃(y:VV),aL m h b (fF c o.index 3) y.enc/\K (qK (aU (eH 3) dD (aU (eH y.kind) (eH y.int) (lJ (Value.string y.text))))) m h))) (K (lZ o) m h)) (K (lZ o) m h)) (K (lZ o) m h)
abbrev Co(a:Sl->dj->Prop):=∃(x:Sl)(c:dj),a x c
abbrev y8(a:OV->Sl->dj->Prop):=∃(x:OV),Co (λc d=>a x c d)
abbrev pE:=eQ (oQ 35 zP)
abbrev Ei a b:=oQ 35 a=oQ 35 b
noncomputable abbrev Gr a b:=At.val (eH (tD (jV a b)))
noncomputable abbrev yI(a:PV)(b c:OV)(d:dv):=fC (mD a.op) (mD a.cmp) (fC (mD b.kind) (mD b.index) (fC (mD (tD b)) (mD b.value.int) (fC (SF (HM b)) (mD c.kind) (fC (mD c.index) (mD (tD c)) (fC (mD c.value.int) (SF (HM c)) d)))))
noncomputable abbrev Dh(a:Nat×OV×OV×dz×PH):=a.2.1
noncomputable abbrev Di(a:Nat×OV×OV×dz×PH):=a.2.2.1
noncomputable abbrev Gs(a:Nat×OV×OV×dz×PH):=List.map PV.enc a.2.2.2.1
noncomputable abbrev Ep(a:Nat×OV×OV×dz×PH):=a.2.2.2.2
abbrev GP(a:PV->Sl->Pred->dj->Prop):=∃(x:PV)(c:Sl)(d:Pred)(e:dj),a x c d e
abbrev Em(a:PH)(b:Pred)(c:PV->PH->Prop):=∀(x:PV)(d:PH),bY a d (fJ d b x) (c x d)
attribute [push_cast] Co y8 pE Ei Gr yI Dh Di Gs Ep GP Em
def TU(N:Nat)(v:PV)(s:Sl)(m:MH)(h:PH)(K:da):=
  ∃(I:OV×OV->Prop),(y8 (λo f p=>aH (jJ (lZ v.left) s=jJ (lZ o) f) (bR h f p) (y8 (λe g d=>aA (jJ (lZ v.right) s=jJ (lZ e) g) (bR h g d) (∃(x:OV×OV),aA (I x) (aJ s) (aA eD iL (aA dU (hX v) (aA pE (Ei (fC (mD v.op) (mD v.cmp) (fC (At.val (i6 (jV p o))) (At.val (sQ (jV p o))) (fC (Gr p o) (At.val (mS (jV p o))) (fC (At.val (lA (jV p o))) (At.val (i6 (jV d e))) (fC (At.val (sQ (jV d e))) (Gr d e) (fC (At.val (mS (jV d e))) (At.val (lA (jV d e))) (nR Ht))))))) (yI v x.1 x.2 (nR Ht))) (bO (m=m) h h))))))) (y8 (λe g d=>aA (jJ (lZ v.right) s=jJ (lZ e) g) (bR h g d) (∃(x:OV×OV),aA (I x) (aJ s) (aA eD iL (aA dU
 (hX v) (aA pE (Ei (fC (mD v.op) (mD v.cmp) (fC (At.val (i6 (jV p o))) (At.val (sQ (jV p o))) (fC (Gr p o) (At.val (mS (jV p o))) (fC (At.val (lA (jV p o))) (At.val (i6 (jV d e))) (fC (At.val (sQ (jV d e))) (Gr d e) (fC (At.val (mS (jV d e))) (At.val (lA (jV d e))) (nR Ht))))))) (yI v x.1 x.2 (nR Ht))) (bO (m=m) h h))))))))/\y8 (λo f p=>aA (jJ (lZ v.left) s=jJ (lZ o) f) (bR h f p) (y8 (λe g d=>aA (jJ (lZ v.right) s=jJ (lZ e) g) (bR h g d) (∃(x:OV×OV),aA (I x) (aJ s) (aA eD iL (aA dU (hX v) (aA pE (Ei (fC (mD v.op) (mD v.cmp) (fC (At.val (i6 (jV p o))) (At.val (sQ (jV p o))) (fC (Gr p o) (At.val (mS (jV p o))) (fC (At.val
 (lA (jV p o))) (At.val (i6 (jV d e))) (fC (At.val (sQ (jV d e))) (Gr d e) (fC (At.val (mS (jV d e))) (At.val (lA (jV d e))) (nR Ht))))))) (yI v x.1 x.2 (nR Ht))) (bO (m=m) h h)))))))))/\∀(x:OV×OV),I x->∃(I1:Nat×OV×OV×dz×PH->Prop)(t:Nat×OV×OV×dz×PH->Nat),(∃(c:Nat×OV×OV×dz×PH),aA (I1 c) (aJ s) (aA eD iL (aA dU (sO v) (aA (bA c.1) (hX v) (aA pE (Ei (yI v x.1 x.2 (nR (At.lst 36))) (yI v (Dh c) (Di c) (nR (At.lst 36)))) (aA (oH 35 13 (bW 35 13 (Gs c))) (m=m) (bQ h (Ep c))))))))/\∀(c:Nat×OV×OV×dz×PH),I1 c->aZ (↑c.1:Int) (aG v.args) (bF (λb o=>aH (aM v.args.a b o) (0<=(↑c.1:Int)) ((↑c.1:Int)<aG v.args)
 (∃(y:PV),aL m (Ep c) b (bK o c.1 13) y.enc/\GP (λu f p d=>aA (jJ (fL y) s=jJ (fL u) f) (fJ (Ep c) p u) (aA (bR (Ep c) f d) (uQ p N) (Em (Ep c) (Hl d p) (λz n=>aA (aL m n b (bK o c.1 13) y.enc) (bU n b (bK o c.1 13) y.enc) (aA (iK (mO (Gs c) 1*136)) (mR (Gs c)) (∃(j:Nat×OV×OV×dz×PH),aA (I1 j) (t j<t c) (aA (aJ s) eD (aA iL dU (aA (sO v) (fU (bC c.1 1)=bP j.1) (aA (hX v) pE (aA (Ei (yI v (Dh c) (Di c) (nR (At.lst 36))) (yI v (Dh j) (Di j) (nR (At.lst 36)))) (bW 35 13 (iT (Gs c) z.enc)=bW 35 13 (Gs j)) (bO (m=m) n (Ep j)))))))))))))))) (bN (Ep c) 13 (Gs c) (λf n=>K (qK
 (aU (eH v.op) (eH v.cmp) (aU (i6 (Dh c)) (sQ (Dh c)) (aU (eH (tD (Dh c))) (mS (Dh c)) (aU (lA (Dh c)) (i6 (Di c)) (aU (sQ (Di c)) (eH (tD (Di c))) (aU (mS (Di c)) (lA (Di c)) (bH f)))))))) m n))
abbrev E6(a:Nat)(b:List dc)(c d e:Prop)(g:(List dc)->Prop):=aA (eU a b) c (aA d e (∃(x:List dc),g x))
abbrev iV:=eQ (oQ 41 zQ)
abbrev Aq a b:=oQ 41 a=oQ 41 b
noncomputable abbrev CL a b c:=fC (mD a.op) (A9 a) (pQ b (fC (At.lst 12) (At.lst 16) (fC (At.lst 20) (At.lst 24) c)))
noncomputable abbrev xJ(a:QV):=mD a.limit
noncomputable abbrev AG(a:Nat×PV×dw×PH):=a.2.1
abbrev CJ a b:=bW 130 2 a=bW 130 2 b
noncomputable abbrev zG a:=List.map pA a
noncomputable abbrev HO a:=List.map Aa a
noncomputable abbrev Gt(a:Nat×PV×dw×PH):=List.map QV.enc a.2.2.1
noncomputable abbrev C9(a:PV)(b:Value)(c:dc):=aU (lA a.left) (i6 a.right) (aU (sQ a.right) (eH (tD a.right)) (aU (mS a.right) (lA a.right) (aU (gP a.args) b c)))
attribute [push_cast] E6 iV Aq CL xJ AG CJ zG HO Gt C9
def NJ(N:Nat)(v:QV)(co:db)(on:dh)(gr:db)(od:di)(m:MH)(h:PH)(K:da):=
  GP (λt s p u=>aH (aX (AJ v) Dn=jJ (fL t) s) (fJ h p t) (bR h s u) (Em h (Hl u p) (λC e=>∃(y:List dc),E6 1 y (cO e (Sl.mk v.columns.a v.columns.len v.columns.cap) 1 y) (y9 y 8) (zA y) (λf=>E6 2 f (cO e (Sl.mk v.on.a v.on.len v.on.cap) 2 f) (y9 f 16) (zA f) (λg=>E6 1 g (cO e (Sl.mk v.group.a v.group.len v.group.cap) 1 g) (y9 g 8) (zA g) (λj=>aA (eU 2 j) (cO e (Sl.mk v.order.a v.order.len v.order.cap) 2 j) (aA (y9 j 16) (zA j) (∃(I:Nat×PV×dw×PH->Prop)(z:Nat×PV×dw×PH->Nat),(∃(x:Nat×PV×dw×PH),aA (I x) eJ (aA eD cH (aA (qY v) (bA x.1) (aA (cV v) iV (aA (Aq (CL v C (j9 (xJ v) (At.lst 42))) (CL v (AG x) (j9
 (xJ v) (At.lst 42)))) (qR y co) (aA (CJ f (zG on)) (qR g gr) (aA (bW 77 2 j=bW 77 2 (HO od)) (oH 41 21 (bW 41 21 (Gt x))) (aA (m=m) (e=x.2.2.2) True))))))))/\∀(x:Nat×PV×dw×PH),yS (I x) x.1 v (bF (λb o=>aH (aM (gJ v) b o) (0<=(↑x.1:Int)) ((↑x.1:Int)<aG v.args) (∃(n:QV),aL m x.2.2.2 b (bK o x.1 21) n.enc/\uR (λA q=>aH (iQ n=iQ A) (cY x.2.2.2 q A) (rN q N) (∀(B:QV)(c:PH),bY x.2.2.2 c (cY c q B) (aA (aL m c b (bK o x.1 21) n.enc) (bU c b (bK o x.1 21) n.enc) (aA (iK (mO (Gt x) 1*280)) (mR (Gt x)) (∃(d:Nat×PV×dw×PH),aA (I d) (z d<z x) (aA eJ eD (aA cH (qY v) (aA (fU (bC x.1 1)=bP d.1) (cV v) (aA iV (Aq (CL
 v (AG x) (j9 (xJ v) (At.lst 42))) (CL v (AG d) (j9 (xJ v) (At.lst 42)))) (aA (eQ (bW 3 1 (List.map eI co))) (eQ (bW 130 2 (zG on))) (aA (eQ (bW 3 1 (List.map eI gr))) (eQ (bW 77 2 (HO od))) (aA (bW 41 21 (iT (Gt x) B.enc)=bW 41 21 (Gt d)) (m=m) (bQ c d.2.2.2)))))))))))))))) (bN x.2.2.2 1 (fS co) (λD c=>bN c 2 (zG on) (λE F=>bN F 1 (fS gr) (λG H=>bN H 2 (HO od) (λJ L=>bN L 21 (Gt x) (λM O=>K (qK (aU (eH v.op) (kS v) (aU (eH (AG x).op) (eH (AG x).cmp) (aU (i6 (AG x).left) (sQ (AG x).left) (aU (eH (tD (AG x).left)) (mS (AG x).left) (C9 (AG x) (gP D) (aU (gP E) (gP G) (aU (gP J) (y7 v) (bH M))))))))) m O))))))))))))))
theorem aaJ:cz 213 cbJ:=by
 refine gW func213 ?_;rintro t m h K ⟨o,s,ps,rfl,g,c⟩;refine⟨cZ [] [] [] [] false,rfl,aI,TE o s m h K,bh,?_⟩;dsimp only[TE,push_cast];have x:=bI.slen g;unfold jV at c;refine aC (λd=>aF (λj=>aF (λn=>?_) (λn=>?_)) (λj=>?_)) (λd=>?_)
 .have d:o.kind=2:=bo
  rw[if_pos ⟨d,j,aD⟩]at c
  have u:ps[o.index.toNat]? =some (ps.getD o.index.toNat zeroV):=by
   grind
  obtain⟨b,f,v,e,r,rfl⟩:=bI.at g u;exact⟨b,f,e,aD,n,_,.imm r,c⟩
 .rw[if_neg (λe=>by omega)]at c;exact c
 .rw[if_neg (λe=>by omega)]at c;exact c
 .have d:o.kind≠2:=bo
  rw[if_neg (λe=>d e.1)]at c;exact c
theorem SZ{α:Type}{β}{ps:List α}{us i}{R R':α->β->Prop}{q v}(e:i<=ps.length)(c:us.length=i)(f:ps[i]? =some q)(d:∀(j:Nat) x,(ps.take i)[j]? =some x->∃u,us[j]? =some u/\R x u)(g:∀x u,R x u->R' x u)(n:R' q v):
 ∀(j:Nat) x,(ps.take (i+1))[j]? =some x->∃u,(us++[v])[j]? =some u/\R' x u:=by
 grind
theorem Yp:∀N,cz 170 (cMZ N)
 |0=>by
  refine eG (fn:=Tryz.f170) (c:=dQ Tryz.f170) func170 rfl bj ?_;rintro B m h K ⟨v,s,p,ps,rfl,_,_,P,_⟩;omega
 |N+1=>by
  refine gW func170 ?_;rintro B m h K ⟨v,s,p,ps,rfl,Q,C,P,J⟩;refine⟨bLZ N v s m h,rfl,aE (Yp N) (aE aaJ aI),TU N v s m h K,bh,?_⟩;dsimp only[TU,push_cast];have g:=@yW p;obtain⟨op,R,l,r,D⟩:=p;obtain⟨rfl,rfl,rfl,rfl,E⟩:=Q.parts;have S:=E.slen;have L:=E.len;simp only[Pred.args]at g;simp only[Hl,RU]at J;refine⟨λx=>x=(jV ps v.left,jV ps v.right),?_,?_⟩
  .repeat' (first|exact⟨(jV ps v.left,jV ps v.right),rfl,MT⟩|refine⟨v.left,s,ps,rfl,C,?_⟩|refine⟨v.right,s,ps,rfl,C,?_⟩|apply And.intro)
  rintro _ rfl;dsimp only;refine⟨λ⟨i,l,r,o,f⟩=>l=jV ps v.left/\r=jV ps v.right/\i<=D.length/\PH.le h f/\o.length=i/\∀(j:Nat) x,(D.take i)[j]? =some x->∃u,o[j]? =some u/\fJ f (Hl ps x) u,λ⟨i,_,_,_,_⟩=>D.length-i,⟨(0,jV ps v.left,jV ps v.right,[],h),⟨rfl,rfl,aD,.refl _,rfl,λj x f=>by simp at f⟩,MT⟩,?_⟩;rintro⟨i,_,_,o,f⟩ ⟨rfl,rfl,T,e,t,n⟩;dsimp only;refine aF (λz=>?_) (λU M h' d A=>J ⟨v.op,v.cmp,jV ps v.left,jV ps v.right,M⟩ h' (e.trans d) (fJ.mk (v:=⟨v.op,v.cmp,jV ps v.left,jV ps v.right,M⟩) ⟨⟨o,A,bn,λj x f=>?_⟩,bn⟩))
  .obtain⟨q,O⟩:=dW S z;obtain⟨V,W,u,X,F,G⟩:=(E.mono e).at O;refine⟨V,W,X,aD,z,u,.imm F,u,s,q,ps,rfl,G,C.mono e,?_,λY h' d H=>⟨.imm (F.mono d),F.mono d,bn,bn,(i+1,jV ps v.left,jV ps v.right,o++[Y],h'),⟨rfl,rfl,aD,e.trans d,by simp[t],SZ (R':=λx u=>fJ h' (Hl ps x) u) T t O n (λ_ _ I=>I.mono d) H⟩,aD,?_⟩⟩
   .grind
   .rw[cj];exact MT
  .rw[ci aD]at n;rw[getElem?_map,Option.map_eq_some_iff]at f;obtain⟨y,Z,rfl⟩:=f;obtain⟨u,h1,I⟩:=n j y Z;exact⟨u,h1,I.mono d⟩
theorem Rt:cz 170 ccQ:=iE Yp λ_ _ _ _⟨v,s,p,ps,e,c,d,f⟩=>⟨SizeOf.sizeOf p+1,v,s,p,ps,e,c,d,aD,f⟩
theorem Qk(l:dw):eU 21 (l.map QV.enc):=by
 constructor
 .intro e c;obtain⟨x,_,rfl⟩:=mem_map.1 c;rfl
 .intro e c u d;obtain⟨x,_,rfl⟩:=mem_map.1 c;simp[QV.enc]at d;rcases d with rfl|rfl|rfl|rfl|rfl|rfl|rfl|rfl|rfl|rfl|rfl|rfl|rfl|rfl|rfl|rfl|rfl|rfl|rfl|rfl|rfl<;>rfl
theorem cCQ{op w on args}(x:mL h op ta w co on gr od li args v)(W:∀q∈args,SizeOf.sizeOf q<N)(X:∀H h',PH.le h h'->cY h' (.mk op ta w co on gr od li args) H->K (aQ H) m h'):NJ N v co on gr od m h K:=by
 dsimp only[NJ,push_cast];have Y:=x.args_.slen;have g:=x.args_.len;have Z:=x.columns_.len;have l2:=x.on_.len;have l3:=x.group_.len;have l4:=x.order_.len;refine⟨v.where_,⟨none,0,0⟩,w,[],rfl,x.where_,.nil _ _ _ _,λn M c O=>⟨_,qM co,(x.columns_.mono c).row,bn,bn,_,FW on,(x.on_.mono c).row,bn,bn,_,qM gr,(x.group_.mono c).row,bn,bn,_,FV od,(x.order_.mono c).row,bn,bn,?_⟩⟩;rw[NU]at O;refine⟨λ⟨i,w',o,t⟩=>w'=n/\i<=args.length/\PH.le M t/\o.length=i/\∀(j:Nat) q,(args.take i)[j]? =some q->∃u,o[j]? =some u/\cY t q u,λ⟨i,_,_,_⟩=>args.length-i,⟨(0,n,[],M),⟨rfl,aD,.refl _,rfl,λj x t=>by simp at t⟩,MT⟩,?_⟩;rintro⟨i,n,o,t⟩ ⟨rfl,hi,e,y,f⟩;dsimp only;refine aF (λz=>?_) (λa'=>?_)
 .obtain⟨q,A⟩:=dW Y z;obtain⟨b1,o1,u,I,B,J⟩:=(x.args_.mono (c.trans e)).at A;refine⟨b1,o1,I,aD,z,u,.imm B,u,q,rfl,J,W q (ce A),λH h' d L=>⟨.imm (B.mono d),B.mono d,bn,bn,(i+1,n,o++[H],h'),⟨rfl,aD,e.trans d,by simp[y],SZ (R':=cY h') hi y A f (λ_ _ P=>P.mono d) L⟩,aD,?_⟩⟩;rw[cj];exact MT
 .rw[ci aD]at f;intro s1 P C B s2 h3 D r2 s3 h4 E r3 s4 h5 F r4 s5 h6 G r5;have Q:=G;have R:=F.trans Q;have S:=E.trans R;have T:=D.trans S;have U:=C.trans T;have V:=e.trans U
  exact X ⟨v.op,v.table,n,s1,s2,s3,s4,v.limit,s5⟩ h6 (c.trans V) (mL.rep ⟨x.op_,x.table_,O.mono V,⟨B.mono T,Z⟩,⟨r2.mono S,l2⟩,⟨r3.mono R,l3⟩,⟨r4.mono Q,l4⟩,x.limit_,⟨⟨o,r5,aD,λj q A=>by
   obtain⟨u,I,e2⟩:=f j q A;exact⟨u,I,e2.mono U⟩⟩,g⟩⟩)
theorem YD:∀N,cz 118 (b9J N)
 |0=>by
  refine eG (fn:=Tryz.f118) (c:=dQ Tryz.f118) func118 rfl bj ?_;rintro e m h K ⟨v,q,rfl,_,g,_⟩;omega
 |N+1=>by
  refine gW func118 ?_;rintro e m h K ⟨v,q,rfl,f,g,j⟩;have d:=@vR q;obtain⟨op,ta,w,co,on,gr,od,li,args⟩:=q;refine⟨bTX N v co on gr od m,rfl,aE Rt (aE (YD N) aI),NJ N v co on gr od m h K,bh,?_⟩;exact cCQ f.parts (λq f=>by have:=d (q:=q) f;omega) j
theorem arX:cz 118 caX:=iE YD λ_ _ _ _⟨v,q,e,c,d⟩=>⟨SizeOf.sizeOf q+1,v,q,e,c,aD,d⟩
mutual
def bnZ:Pred->Nat
 |.mk _ _ _ _ args=>1+Mq args
def Mq:dp->Nat
 |[]=>0
 |p::ps=>bnZ p+Mq ps
end
mutual
def auJ:Pred->Nat
 |.mk _ _ _ _ args=>1+OI args
def OI:dp->Nat
 |[]=>0
 |p::ps=>max (auJ p) (OI ps)
end
mutual
theorem QE:∀(p:Pred)(n:Int),sM p n<=n+bnZ p
 |.mk _ _ _ _ args,n=>by
  have:=Ov args (n+1);simp only[sM,bnZ];omega
theorem Ov:∀(ps:dp)(n:Int),mX ps n<=n+Mq ps
 |[],n=>by simp[mX,Mq]
 |p::ps,n=>by
  have c:=QE p n;have d:=Ov ps (sM p n);simp only[mX,Mq];omega
end
mutual
theorem OK:∀(p:Pred)(n:Nat),auJ p<=n->pL p n=false
 |.mk _ _ _ _ args,0,h=>by simp only[auJ]at h;omega
 |.mk _ _ _ _ args,n+1,h=>by
  simp only[auJ]at h;simp only[pL];exact Mo args n aD
theorem Mo:∀(ps:dp)(n:Nat),OI ps<=n->yE ps n=false
 |[],_,_=>rfl
 |p::ps,n,h=>by
  simp only[OI]at h;simp only[yE,OK p n aD,Mo ps n aD,Bool.or_false]
end
def gF:Nat->Nat
 |0=>1
 |d+1=>1+3*gF d
structure R4(d:Nat)(p:Pred):Prop where
 n:bnZ p<=gF d
 d:auJ p<=d+1
theorem cSZ:∀d,1<=gF d
 |0=>Nat.le_refl _
 |d+1=>by rw[gF];omega
theorem R4.leaf d{op c a b}:R4 d (.mk op c a b []):=⟨by simp[bnZ,Mq,cSZ],by simp[auJ,OI]⟩
theorem R4.node{d op c a b ps}(h:∀p∈ps,R4 d p)(g:ps.length<=3):R4 (d+1) (.mk op c a b ps):=by
 have j:∀l:dp,(∀p∈l,R4 d p)->Mq l<=l.length*gF d/\OI l<=d+1:=λl=>by
  induction l with
  |nil=>intro _;simp[Mq,OI]
  |cons p l o=>
   intro f;have t:=o λx u=>f x (mem_cons_of_mem _ u);have e:=f p (mem_cons_self ..);have:=e.n;have:=e.d;simp only[Mq,OI,cu,Nat.add_mul,Nat.one_mul];omega
 have t:=j ps h;have e:ps.length*gF d<=3*gF d:=Nat.mul_le_mul_right _ g;exact⟨by simp only[bnZ,gF];omega,by simp only[auJ];omega⟩
mutual
def kF:Query->Nat
 |.mk _ _ _ _ _ _ _ _ args=>1+kC args
def kC:dl->Nat
 |[]=>0
 |q::qs=>kF q+kC qs
end
mutual
def Ie:Query->Nat
 |.mk _ _ _ _ _ _ _ _ args=>1+DP args
def DP:dl->Nat
 |[]=>0
 |q::qs=>max (Ie q) (DP qs)
end
mutual
def gM(c:Nat):Query->Nat
 |.mk op _ _ _ _ _ _ _ args=>if op=1 then c else if op=4 then yZ c args else vP c args
def vP(c:Nat):dl->Nat
 |[]=>0
 |q::qs=>gM c q+vP c qs
def yZ(c:Nat):dl->Nat
 |[]=>1
 |q::qs=>gM c q*yZ c qs
end
mutual
theorem QB:∀(p:Query)(n:Int),vS p n<=n+kF p/\(vS p n<=24->vS p n=n+kF p)
 |.mk _ _ _ _ _ _ _ _ args,n=>by
  have:=Ou args (n+1);simp only[vS,kF];omega
theorem Ou:∀(ps:dl)(n:Int),qN ps n<=n+kC ps/\(qN ps n<=24->qN ps n=n+kC ps)
 |[],n=>by simp[qN,kC]
 |p::ps,n=>by
  have c:=QB p n;have d:=Ou ps (vS p n);simp only[qN,kC];omega
end
theorem SQ{q}(h:sJ q=true):kF q<=24:=by
 simp only[sJ,cm,cr]at h;have:=(QB q 0).2 h.1;omega
def gN:Nat->Nat
 |0=>3
 |d+1=>2+2*gN d
def gD:Nat->Nat
 |0=>3
 |d+1=>2+gD d
def gB:Nat->Nat
 |0=>4
 |d+1=>gB d*gB d
structure uU(n d b:Nat)(q:Query):Prop where
 n:kF q<=n
 d:Ie q<=d
 b:gM 4 q<=b
def Wr d q:=uU (gN d) (gD d) (gB d) q
def D5:Nat->Query->Prop
 |0,q=>uU 1 1 4 q
 |d+1,q=>uU (1+2*gN d) (1+gD d) (gB d*gB d) q
theorem uU.mono{n d c e f q}(x:uU n d b q)(g:n<=c)(j:d<=e)(o:b<=f):uU c e f q:=⟨cv x.n g,cv x.d j,cv x.b o⟩
theorem G0:∀d,3<=gN d/\3<=gD d/\4<=gB d
 |0=>bj
 |d+1=>by
  obtain⟨e,f,c⟩:=G0 d;have:4*4<=gB d*gB d:=Nat.mul_le_mul c c;simp only[gN,gD,gB];omega
theorem D5.arg:∀{d:Nat}{q:Query},D5 d q->Wr d q
 |0,_,x=>uU.mono x bj bj bj
 |d+1,_,x=>uU.mono x (by simp only[gN];omega) (by simp only[gD];omega) (by simp only[gB];omega)
theorem uU.one{n d q}(x:uU n d b q)(c:4<=b){op w on}:uU (n+1) (d+1) b (.mk op ta w co on gr od li [q]):=by
 obtain⟨e,f,g⟩:=x;refine⟨by simp only[kF,kC];omega,by simp only[Ie,DP];omega,?_⟩;simp only[gM,yZ,vP]
 grind
theorem uU.two{n:Nat}{d f g c q p}(x:uU n d b q)(y:uU f g c p)(j:4<=b)(e:4<=c){op w on}:uU (1+n+f) (1+max d g) (b*c) (.mk op ta w co on gr od li [q,p]):=by
 obtain⟨u,z,o⟩:=x;obtain⟨A,B,t⟩:=y;have C:b*4<=b*c:=Nat.mul_le_mul_left _ e;have D:4*c<=b*c:=Nat.mul_le_mul_right _ j;have E:gM 4 q*gM 4 p<=b*c:=Nat.mul_le_mul o t;refine⟨by simp only[kF,kC];omega,by simp only[Ie,DP];omega,?_⟩;simp only[gM,yZ,vP]
 grind
theorem uU.scan{w on}:uU 1 1 4 (.mk 1 ta w co on gr od li []):=⟨by simp[kF,kC],by simp[Ie,DP],by simp[gM]⟩
theorem D5.node{d op w on args}(h:∀a∈args,Wr d a)(e:args.length<=2):D5 (d+1) (.mk op ta w co on gr od li args):=by
 have c:=(G0 d).2.2;have f:gB d*4<=gB d*gB d:=Nat.mul_le_mul_left _ c
 match args,h,e with
 |[],_,_=>exact⟨by simp only[kF,kC];omega,by simp only[Ie,DP];omega,by simp only[gM,yZ,vP];grind⟩
 |[q],h,_=>exact uU.mono (uU.one (h q bi) c) aD aD aD
 |[q,p],h,_=>exact uU.mono (uU.two (h q bi) (h p bi) c c) aD aD (Nat.le_refl _)
theorem D5.filter{d q}(x:D5 d q){op w on}:Wr d (.mk op ta w co on gr od li [q]):=by
 cases d with
 |zero=>exact uU.mono (uU.one x bj) bj bj bj
 |succ d=>
  have c:=(G0 d).2.2;have e:gB d*4<=gB d*gB d:=Nat.mul_le_mul_left _ c;exact uU.mono (uU.one x aD) (by simp only[gN];omega) (by simp only[gD];omega) (by simp only[gB];omega)
theorem Wr.three d{q}(x:uU 3 3 4 q):Wr d q:=uU.mono x (G0 d).1 (G0 d).2.1 (G0 d).2.2
theorem D5.mono{q:Query}:∀{d e:Nat},D5 d q->d<=e->D5 e q
 |d,0,x,h=>bo
 |d,e+1,x,h=>by
  by_cases c:d=e+1
  .grind
  .have y:=D5.arg (x.mono (e:=e) aD);have f:=(G0 e).2.2;have g:gB e*1<=gB e*gB e:=Nat.mul_le_mul_left _ aD;exact uU.mono y aD aD aD
abbrev kW(a:MH)(b:PH)(c d:Nat)(e:Sl->Prop):=∃(x:Sl),aL a b c d (bH x)/\e x
noncomputable abbrev zI a:=Value.int IntKind.u8 a
abbrev xH a:=a->False
attribute [push_cast] kW zI xH
def Ym(cb:Nat)(n:Int)(m:MH)(h:PH)(K:da):=
  ∃(y:Int),aL m h cb 1 (bM y)/\kW m h cb 0 (λj=>gQ y (aG j) (K (fI 0) m h) (aZ n 1 (K (fI 0) m h) (∃(e:Int),aL m h cb 1 (bM e)/\uY m cb 1 (bM (kE (e+1))) (λc=>kW c h cb 0 (λf=>∃(d:Int),aL c h cb 1 (bM d)/\bF (λb o=>aH (aM f.a b o) (0<=kE (d-1)) (kE (d-1)<aG f) (∃(g:UInt8),aA (aL c h b (fF o (kE (d-1)) 1) (lJ (zI (AF g)))) (xH (n=0)) (K (fI (Int.tmod (kE (AF g)) n)) c h))))))))
theorem cVJ cb n m h K:Ym cb n m h K=(yC (ctx [] [] [] [] false) Tryz.f19 (dQ Tryz.f19) (entry 40 [.val (.pointer (some ⟨cb,0,none⟩)),.val (.int .i64 n)] m h) K):=bh
def cEQ:Vc.Spec:=λc m h K=>∃(cb:Nat)(n:Int)(r:dr),c=[.val (.pointer (some ⟨cb,0,none⟩)),.val (.int .i64 n)]/\aCQ m h cb r/\
 ∀m',bT m m' cb->aCQ m' h cb (YU n r).2->K (.val (.int .i64 (YU n r).1)) m' h
theorem Tf:cz 19 cEQ:=by
 refine eG (fn:=Tryz.f19) (c:=dQ Tryz.f19) func19 rfl bj ?_;rintro F m h K ⟨cb,n,r,rfl,⟨s,d,k,x,e,D,f,rfl⟩,t⟩;refine⟨ctx [] [] [] [] false,rfl,aI,?_⟩;show yC (ctx [] [] [] [] false) Tryz.f19 (dQ Tryz.f19) (entry 40 [.val (.pointer (some ⟨cb,0,none⟩)),.val (.int .i64 n)] m h) K;rw[<-cVJ];dsimp only[Ym,push_cast];have G:s.len=d.length:=by have:=e.len;simpa[bJ]using this
 refine⟨k,.of_m x rfl,s,.of_m x rfl,aF (λH=>?_) (λz=>aF (λA=>?_) (λA=>?_))⟩
 .have u:d.drop k=[]:=bn
  rw[u]at t;exact t m ⟨λ_ _=>rfl⟩ ⟨s,d,k,x,e,D,f,by rw[u];rfl⟩
 .have j:k<d.length:=by omega
  have u:d.drop k=d[k]::d.drop (k+1):=drop_eq_getElem_cons j;rw[u]at t;simp only[YU,if_pos A]at t;refine t m ⟨λ_ _=>rfl⟩ ⟨s,d,k,x,e,D,f,u.symm⟩
 .have j:k<d.length:=by omega
  have u:d.drop k=d[k]::d.drop (k+1):=drop_eq_getElem_cons j;rw[u]at t;simp only[YU,if_neg A]at t;have I:IntKind.i64.wrap ((k:Int)+1)=((k+1:Nat):Int):=by rw[eM]<;>omega
  have B:IntKind.i64.wrap (((k+1:Nat):Int)-1)=(k:Int):=by rw[eM]<;>omega
  refine⟨k,.of_m x rfl,_,_,⟨x⟩,bi,λm' E=>?_⟩;have g:=E.at_;rw[I]at g;simp only[splice]at g;obtain y|⟨b,o,J,C⟩:=e.row
  .exfalso;have:=congrArg List.length y;simp[bJ]at this
   grind
  refine⟨s,.of_m g rfl,((k+1:Nat):Int),.of_m g rfl,b,o,J,?_⟩;rw[B];refine⟨aD,aD,d[k],.imm ?_,aD,?_⟩
  .have:=C k [.int .u8 d[k].toNat] (by simp[bJ,j])
   grind
  .have z:d[k].toNat<256:=d[k].toNat_lt;rw[eM aD aD,Int.tmod_eq_emod_of_nonneg aD];refine t m' ⟨E.other⟩ ⟨s,d,k+1,g,e,aD,f,rfl⟩
def bE m h cb:=∃r,aCQ m h cb r
theorem bE.mono(x:bE m h cb)(le:PH.le h h'):bE m h' cb:=by
 obtain⟨r,s,c,k,d,e,f⟩:=x;exact⟨r,s,c,k,d,e.mono le,f⟩
theorem bT.refl m cb:bT m m cb:=⟨λ_ _=>rfl⟩
theorem bT.trans{d}(a:bT m m' cb)(b:bT m' d cb):bT m d cb:=⟨λc e=>(b.other c e).trans (a.other c e)⟩
def xB n:= -9223372036854775808<=n/\n<=9223372036854775807
structure NX(v:VV):Prop where
 int_:xB v.int
 text_:v.text.size<=64
def KOk(k:Int):=k=3\/k=4\/k=5
def aTX k v:=KOk k->nI v=true/\v.kind=k
def N1:Vc.Spec:=λc m h K=>∃cb n,c=[cP cb,cI n]/\bE m h cb/\∀k m',0<=k->(k<n\/k=0)->bT m m' cb->bE m' h cb->K (cI k) m' h
def U4:Vc.Spec:=λc m h K=>∃cb n,c=[cP cb,cI n]/\0<=n/\n<=1000/\bE m h cb/\∀r m',bT m m' cb->bE m' h cb->K (cB r) m' h
def aRZ:Vc.Spec:=λc m h K=>∃cb,c=[cP cb]/\bE m h cb/\∀k m',xB k->bT m m' cb->bE m' h cb->K (cI k) m' h
def cHX:Vc.Spec:=λc m h K=>∃cb,c=[cP cb]/\bE m h cb/\∀t m',t.size<=64->bT m m' cb->bE m' h cb->K (YT t) m' h
def V9:Vc.Spec:=λd m h K=>∃cb c,d=[cP cb,cI c]/\bE m h cb/\∀v m',NX v->aTX c v->bT m m' cb->bE m' h cb->K (aV v) m' h
theorem O0:cz 19 N1:=by
 refine⟨Tf.1,λc d m h w K e f=>Tf.2 c d m h w K ?_ f⟩;obtain⟨cb,n,rfl,⟨r,g⟩,j⟩:=e;refine⟨cb,n,r,rfl,g,λm' o t=>j _ m' ?_ ?_ o ⟨_,t⟩⟩
 .cases r with
  |nil=>simp[YU]
  |cons b r=>
   simp only[YU]
   grind
 .cases r with
  |nil=>simp[YU]
  |cons b r=>
   simp only[YU];split
   .simp
   .exact .inl (Int.emod_lt_of_pos _ aD)
noncomputable def bOZ h:=
 cZ [(19,N1)] [(18,{A:=Nat×ByteArray×MH,st:=λ⟨i,t,m⟩=>bS 37 38 [(3,vv (.string t)),(4,iv i)] [] m h}),(23,{A:=Nat×ByteArray×MH,st:=λ⟨i,t,m⟩=>bS 37 38 [(3,vv (.string t)),(5,iv i)] [] m h})] [] [] false
abbrev kB(a:Nat)(b:Int)(c:Nat->Option Obj)(d:Nat->Nat->Option Value)(e:Int->MH->Prop):=∃(x:Nat)(j:Int),aA (cA (dM a) b=cA (dM x) j) (bE c d x) (∀(f:Int)(g:MH),cF f->f<j\/f=0->bT c g x->bE g d x->e f g)
attribute [push_cast] kB
def Yg(cb:Nat)(n:Int)(m:MH)(h:PH)(K:da):=
  kB cb n m h (λk c=>K (yF (k==kE (n-1))) c h)
def Ug(cb:Nat)(m:MH)(h:PH)(K:da):=
  kB cb 12 m h (λk c=>cW (k==9) (K (fI (Int.negSucc 0)) c h) (k==10) (K (fI 9223372036854775807) c h) (dO k 11 (K (fI (Int.negSucc 9223372036854775807)) c h) (xH ((4:Int)=0)/\K (fI (Int.tmod k 4)) c h)))
noncomputable abbrev dX(a:Nat)(b:dr):=OfNat.ofNat a::b
noncomputable abbrev zC a:=dX a []
attribute [push_cast] dX zC
def Uf(cb:Nat)(m:MH)(h:PH)(K:da):=
  kB cb 10 m h (λk d=>cW (k==0) (K (lL (ByteArray.mk (Array.mk (zC 97)))) d h) (k==1) (K (lL (ByteArray.mk (Array.mk (zC 97)))) d h) (cW (k==2) (K (lL (ByteArray.mk (Array.mk (zC 97)))) d h) (k==3) (K (lL (ByteArray.mk (Array.mk (zC 98)))) d h) (cW (k==4) (K (lL (ByteArray.mk (Array.mk (zC 98)))) d h) (k==5) (K (CV.val Sv) d h) (cW (k==6) (K (lL (ByteArray.mk (Array.mk (dX 97 (dX 0 []))))) d h) (k==7) (K (lL (ByteArray.mk (Array.mk (zC 255)))) d h) (dO k 8 (∃(I:Nat×ByteArray×MH->Prop)(e:Nat×ByteArray×MH->Nat),(∃(x:Nat×ByteArray×MH),aA (I x) (SV.at aQz=SV.at (SF x.2.1)) (aA (bA x.1) (d=x.2.2) (bQ h h)))/\∀(x:Nat×ByteArray×MH),I x->aZ (↑x.1:Int) 64 (x.2.1.size<9223372036854775807/\∃(c:Nat×ByteArray×MH),aA
 (I c) (e c<e x) (aA (SV.at (SF (x.2.1++ByteArray.mk (Array.mk (zC 255))))=SV.at (SF c.2.1)) (fU (bC x.1 1)=bP c.1) (bO (x.2.2=c.2.2) h h))) (K (lL x.2.1) x.2.2 h)) (∃(I:Nat×ByteArray×MH->Prop)(e:Nat×ByteArray×MH->Nat),(∃(x:Nat×ByteArray×MH),aA (I x) (SV.at aQz=SV.at (SF x.2.1)) (aA (bA x.1) (d=x.2.2) (bQ h h)))/\∀(x:Nat×ByteArray×MH),I x->aZ (↑x.1:Int) 64 (x.2.1.size<9223372036854775807/\∃(c:Nat×ByteArray×MH),aA (I c) (e c<e x) (aA (SV.at (SF (x.2.1++ByteArray.mk (Array.mk (zC 98))))=SV.at (SF c.2.1)) (fU (bC x.1 1)=bP c.1) (bO (x.2.2=c.2.2) h h))) (K (lL x.2.1) x.2.2 h)))))))
noncomputable abbrev yP a b:=aU (eH a) (eH b) (lJ Sv)
abbrev qB a b c d:=bE a b c->d
attribute [push_cast] yP qB
def XD(cb:Nat)(d:Int)(m:MH)(h:PH)(K:da):=
  cW (d==3) (kB cb 2 m h (λk e=>K (qK (yP d k)) e h)) (d==4) (∃(c:Nat),aA (pN (dM cb)=pN (dM c)) (bE m h c) (∀(k:Int)(e:MH),xB k->bT m e c->qB e h c (K (qK (yP d k)) e h))) (∃(c:Nat),aA (pN (dM cb)=pN (dM c)) (bE m h c) (∀(t:ByteArray)(e:MH),t.size<=64->bT m e c->qB e h c (K (qK (aU (eH 5) dD (lJ (Value.string t)))) e h)))
theorem cVZ{n}(d:bE m h cb)(e:∀r m',bT m m' cb->bE m' h cb->K (cB r) m' h):Yg cb n m h K:=
 ⟨cb,n,rfl,d,λ_ m' _ _ f c=>e _ m' f c⟩
theorem J7:HI ⟨#[]⟩=true:=by simp[HI,ByteArray.toList_eq]
theorem cOJ{k}(c:0<=k)(d:k<2\/k=0):nI ⟨3,k,⟨#[]⟩⟩=true:=by
 have:k=0\/k=1:=by omega
 rcases this with rfl|rfl<;>simp[nI,J7]
theorem brX k:nI ⟨4,k,⟨#[]⟩⟩=true:=by simp[nI,J7]
theorem cOZ{t}(h:t.size<=64):nI ⟨5,0,t⟩=true:=by
 simp[nI];omega
theorem FB:cz 25 U4:=by
 refine gW func25 ?_;rintro c m h K ⟨cb,n,rfl,_,_,d,e⟩;refine⟨cZ [(19,N1)] [] [] [] false,rfl,aE O0 aI,Yg cb n m h K,bh,?_⟩;exact cVZ d e
theorem aoX:cz 145 aRZ:=by
 refine gW func145 ?_;rintro f m h K ⟨cb,rfl,g,d⟩;refine⟨cZ [(19,N1)] [] [] [] false,rfl,aE O0 aI,Ug cb m h K,bh,?_⟩;dsimp only[Ug,push_cast];refine⟨cb,12,rfl,g,λk m' j n e c=>aC (λ_=>d _ m' ⟨aD,aD⟩ e c) (λ_=>aC (λ_=>d _ m' ⟨aD,aD⟩ e c) (λ_=>aC (λ_=>d _ m' ⟨aD,aD⟩ e c) (λ_=>⟨aD,d _ m' ?_ e c⟩)))⟩;rw[Int.tmod_eq_emod_of_nonneg j];exact⟨aD,aD⟩
theorem aoQ:cz 146 cHX:=by
 refine gW func146 ?_;rintro g m h K ⟨cb,rfl,j,d⟩;refine⟨bOZ h,rfl,aE O0 aI,Uf cb m h K,bh,?_⟩;dsimp only[Uf,push_cast];refine⟨cb,10,rfl,j,λk m' x y e c=>?_⟩;refine aC (λ_=>d _ m' bj e c) (λ_=>aC (λ_=>d _ m' bj e c) (λ_=>aC (λ_=>d _ m' bj e c) (λ_=>aC (λ_=>d _ m' bj e c) (λ_=>aC (λ_=>d _ m' bj e c) (λ_=>aC (λ_=>d _ m' bj e c) (λ_=>aC (λ_=>d _ m' bj e c) (λ_=>aC (λ_=>d _ m' bj e c) (λ_=>aC (λ_=>?_) (λ_=>?_)))))))))
 all_goals
  refine⟨λ⟨i,t,n⟩=>n=m'/\i<=64/\t.size=i,λ⟨i,_,_⟩=>64-i,⟨(0,⟨#[]⟩,m'),⟨rfl,aD,rfl⟩,MT⟩,?_⟩;rintro⟨i,t,m'⟩ ⟨rfl,z,f⟩;dsimp only;refine aF (λo=>⟨?_,(i+1,_,m'),⟨rfl,aD,?_⟩,bt,MT⟩) (λu=>d t m' aD e c)
  .rw[f];show i+1<=_;omega
  .rw[ByteArray.size_append,f];rfl
theorem Nh:cz 88 V9:=by
 refine gW func88 ?_;rintro y m h K ⟨cb,c,rfl,j,n⟩;refine⟨cZ [(19,N1),(145,aRZ),(146,cHX)] [] [] [] false,rfl,aE O0 (aE aoX (aE aoQ aI)),XD cb c m h K,bh,?_⟩;dsimp only[XD,push_cast];refine aC (λe=>⟨cb,2,rfl,j,λk m' z A g d=>n ⟨c,k,⟨#[]⟩⟩ m' ⟨⟨bo,bo⟩,by show(ByteArray.mk #[]).size<=64;decide⟩ (λ_=>?_) g d⟩) (λo=>aC (λe=>⟨cb,rfl,j,λk m' f g d=>n ⟨c,k,⟨#[]⟩⟩ m' ⟨f,by show(ByteArray.mk #[]).size<=64;decide⟩ (λ_=>?_) g d⟩) (λu=>⟨cb,rfl,j,λt m' x g d=>n ⟨5,0,t⟩ m' ⟨⟨bi,bi⟩,x⟩ (λf=>?_) g d⟩))
 .have e:c=3:=bx e
  subst e;exact⟨cOJ z A,rfl⟩
 .have e:c=4:=bx e
  subst e;exact⟨brX k,rfl⟩
 .have o:c≠3:=bo
  have u:c≠4:=bo
  exact⟨cOZ x,by rcases f with f|f|f;exact absurd f o;exact absurd f u;exact f.symm⟩
mutual
def ES:Pred->Prop
 |.mk _ _ l r args=>NX l.value/\NX r.value/\NY args
def NY:dp->Prop
 |[]=>True
 |p::ps=>ES p/\NY ps
end
theorem Sa:∀{l:dp},NY l↔∀p∈l,ES p
 |[]=>by simp[NY]
 |p::ps=>by simp[NY,Sa (l:=ps)]
theorem uH:NX zeroV:=⟨⟨bj,bj⟩,bj⟩
structure Zb(cols params:db)(kind:Int)(o:OV):Prop where
 val:NX o.value
 kind:KOk kind->kindOf cols params o=kind
def O6(l:db):=∀k∈l,KOk k
structure PW(cols params:db)(d:Nat)(p:Pred):Prop where
 vals:ES p
 valid:O6 cols->kH cols params p=true
 siz:R4 d p
def Za:Vc.Spec:=λf m h K=>∃cb s t e d c,f=[cP cb,cS s,cS t,cI e]/\bE m h cb/\Ints h s d/\Ints h t c/\d.length<=1000/\c.length<=1000/\∀o m',Zb d c e o->bT m m' cb->bE m' h cb->K (aO o) m' h
def KP(K:da)(m:MH)(h:PH)(cb:Nat)(R:Pred->Prop):=∀v p m' h',PH.le h h'->fJ h' p v->R p->bT m m' cb->bE m' h' cb->K (aP v) m' h'
def b0Q N:=λe m h K=>∃cb s t d c,∃deep:Nat,e=[cP cb,cS s,cS t,cI deep]/\bE m h cb/\Ints h s d/\Ints h t c/\d.length<=1000/\c.length<=1000/\deep<N/\deep<=1000/\KP K m h cb (PW d c deep)
structure Cx(cols params:db)(d:Nat)(p:Pred):Prop where
 vals:ES p
 valid:d<=2->O6 cols->O6 params->gY cols params p=0
def Ha:=λe m h K=>∃cb s t d c,∃deep:Nat,e=[cP cb,cS s,cS t,cI deep]/\bE m h cb/\Ints h s d/\Ints h t c/\d.length<=1000/\c.length<=1000/\deep<=1000/\KP K m h cb (Cx d c deep)
def pv b:=vv (.pointer (some ⟨b,0,none⟩))
noncomputable def bRZ cb s t c m h:=
 cZ [(19,N1),(88,V9)] [(3,{A:=Nat×fc,st:=λ⟨i,d⟩=>bS 64 68 [(0,pv cb),(2,sv t),(3,iv c),(8,.at (.ptr 8 0)),(9,.at (.lst 29)),(15,sv s),(16,iv s.len),(17,iv i)] [(8,.cells 32 (fQ.enc.map .val)),(29,.lst 32 5 (d.map OV.enc))] m h}),
  (9,{A:=Nat×fc,st:=λ⟨i,d⟩=>bS 64 68 [(0,pv cb),(3,iv c),(8,.at (.ptr 8 0)),(9,.at (.lst 29)),(31,sv t),(32,iv t.len),(33,iv i)] [(8,.cells 32 (fQ.enc.map .val)),(29,.lst 32 5 (d.map OV.enc))] m h})] [] [] false
noncomputable def cpZ(N cb:Nat)(s t:Sl)(deep:Nat)(c:PH):=
 cZ [(19,N1),(25,U4),(128,Za),(88,V9),(65,b0Q N)] [(18,{A:=Int×Int×dz×MH×PH,st:=λ⟨op,n,d,m,h⟩=>bS 107 111 [(0,pv cb),(1,sv s),(2,sv t),(3,iv deep),(8,.at (.ptr 8 0)),(12,.at (.ptr 12 0)),(13,iv n)] [(8,.cells 35 (iO.enc.map .val)),(12,.cells 35 (((⟨op,0,fQ,fQ,⟨none,0,0⟩⟩:PV).enc.take 12).map .val++[.lst 104])),(104,.lst 35 13 (d.map PV.enc))] m h})] [(3,{A:=Int×Bool×MH,st:=λ⟨k,b,m⟩=>bS 107 111 [(0,pv cb),(1,sv s),(2,sv t),(3,iv deep),(8,.at (.ptr 8 0)),(9,iv k),(16,bv b)] [(8,.cells 35 (iO.enc.map .val))] m c}),
  (5,{A:=Int×Bool×MH,st:=λ⟨k,b,m⟩=>bS 107 111 [(0,pv cb),(1,sv s),(2,sv t),(3,iv deep),(8,.at (.ptr 8 0)),(9,iv k),(27,bv b)] [(8,.cells 35 (iO.enc.map .val))] m c}),
  (8,{A:=Int×MH,st:=λ⟨k,m⟩=>bS 107 111 [(0,pv cb),(1,sv s),(2,sv t),(8,.at (.ptr 8 0)),(10,iv k)] [(8,.cells 35 (iO.enc.map .val))] m c}),
  (9,{A:=PV×Int×MH,st:=λ⟨p,k,m⟩=>bS 107 111 [(0,pv cb),(1,sv s),(2,sv t),(8,.at (.ptr 8 0)),(10,iv k),(11,.at (.ptr 11 0))] [(8,.cells 35 (iO.enc.map .val)),(11,.cells 35 (p.enc.map .val))] m c}),
  (11,{A:=PV×MH,st:=λ⟨p,m⟩=>bS 107 111 [(0,pv cb),(8,.at (.ptr 8 0)),(11,.at (.ptr 11 0))] [(8,.cells 35 (iO.enc.map .val)),(11,.cells 35 (p.enc.map .val))] m c}),
  (13,{A:=PV×MH,st:=λ⟨p,m⟩=>bS 107 111 [(8,.at (.ptr 8 0)),(11,.at (.ptr 11 0))] [(8,.cells 35 (iO.enc.map .val)),(11,.cells 35 (p.enc.map .val))] m c})] [] false
noncomputable abbrev gV:=mD 0
abbrev F9:=eQ (oQ 32 (fC gV gV (fC (mD 0) gV (nR aQz))))
noncomputable abbrev pJ(a:Nat×fc):=List.map OV.enc a.2
abbrev tT a b c:=aA (iK (mO a 1*b)) (mR a) c
abbrev LB(a b:Nat×fc):=fU (bC a.1 1)=bP b.1
abbrev sC(a b:Int)(c:dc->Prop):=aA (cF a) (a<b) (∃(x:dc),c x)
abbrev pY(a:List dc)(b:Int)(c:dc):=a[b.toNat]? =Option.some c
abbrev Ge(a:Nat)(b:Int)(c:Nat->Option Obj)(d:Nat->Nat->Option Value)(e:VV->MH->Prop):=∃(x:Nat)(j:Int),aA (cA (dM a) b=cA (dM x) j) (bE c d x) (∀(f:VV)(g:MH),NX f->aTX j f->bT c g x->bE g d x->e f g)
attribute [push_cast] gV F9 pJ tT LB sC pY Ge
def Up(cb:Nat)(s t:Sl)(d:Int)(m:MH)(h:PH)(K:da):=
  ∃(I:Nat×fc->Prop)(g:Nat×fc->Nat),(∃(x:Nat×fc),aA (I x) (dL cb) (aA (aJ t) (iW d) (aA fP (eL 29) (aA (aJ s) (bG s) (aA (bA x.1) F9 (aA (oH 32 5 (bW 32 5 (pJ x))) (m=m) (bQ h h)))))))/\∀(x:Nat×fc),I x->aZ (↑x.1:Int) (aG s) (bF (λb o=>aH (aM s.a b o) (0<=(↑x.1:Int)) ((↑x.1:Int)<aG s) (∃(y:Int),aL m h b (bK o x.1 1) (bM y)/\dO y d (tT (pJ x) 48 (∃(c:Nat×fc),aA (I c) (g c<g x) (aA (dL cb) (aJ t) (aA (iW d) fP (aA (eL 29) (aJ s) (aA (bG s) (LB x c) (aA F9 (bW 32 5 (iT (pJ x) (aU (eH 1) (eH (↑x.1:Int)) (aU dD dD (lJ Sv))))=bW 32 5 (pJ c)) (bO (m=m) h h)))))))) (∃(c:Nat×fc),aA (I c) (g c<g x)
 (aA (dL cb) (aJ t) (aA (iW d) fP (aA (eL 29) (aJ s) (aA (bG s) (LB x c) (aA F9 (bW 32 5 (pJ x)=bW 32 5 (pJ c)) (bO (m=m) h h)))))))))) (∃(I1:Nat×fc->Prop)(j:Nat×fc->Nat),(∃(c:Nat×fc),aA (I1 c) (dL cb) (aA (iW d) fP (aA (eL 29) (aJ t) (aA (bG t) (bA c.1) (j4 F9 (bW 32 5 (pJ x)=bW 32 5 (pJ c)) (m=m) h h)))))/\∀(c:Nat×fc),I1 c->aZ (↑c.1:Int) (aG t) (bF (λb o=>aH (aM t.a b o) (0<=(↑c.1:Int)) ((↑c.1:Int)<aG t) (∃(y:Int),aL m h b (bK o c.1 1) (bM y)/\dO y d (tT (pJ c) 48 (∃(f:Nat×fc),aA (I1 f) (j f<j c) (aA (dL cb) (iW d) (aA fP (eL 29) (aA (aJ t) (bG t) (aA (LB c f) F9 (aA
 (bW 32 5 (iT (pJ c) (aU (eH 2) (eH (↑c.1:Int)) (aU dD dD (lJ Sv))))=bW 32 5 (pJ f)) (m=m) (bQ h h)))))))) (∃(f:Nat×fc),aA (I1 f) (j f<j c) (aA (dL cb) (iW d) (aA fP (eL 29) (aA (aJ t) (bG t) (aA (LB c f) F9 (aA (bW 32 5 (pJ c)=bW 32 5 (pJ f)) (m=m) (bQ h h)))))))))) (kB cb (bC (pJ c).length 1) m h (λk n=>aZ k (mG (pJ c)) (sC k (mG (pJ c)) (λe=>pY (pJ c) k e/\∃(y:OV),List.take 5 (List.drop 0 e)=y.enc/\K (lZ y) n h)) (Ge cb d n h (λv u=>K (qK (aU (eH 3) dD (aU (eH v.kind) (eH v.int) (lJ (Value.string v.text))))) u h)))))
abbrev pC(a:Nat)(b:Int)(c:Nat->Option Obj)(d:Nat->Nat->Option Value)(e:Nat->Bool->Prop):=∃(x:Nat)(f:Int),aA (cA (dM a) b=cA (dM x) f) (cF f) (aA (f<=1000) (bE c d x) (∀(g:Bool),e x g))
abbrev K6(a:Int×Bool×MH->Prop)(b:Nat)(c d:Sl)(e:Nat)(g:Int)(i:(Int×Bool×MH)->Prop)(j:Nat->Option Obj)(k:PH):=∃(x:Int×Bool×MH),aA (a x) (dL b) (aA (aJ c) (aJ d) (aA (eQ (bP e)) fP (aA (dV g x.1) (i x) (aH pE (j=x.2.2) (k=k) True))))
noncomputable abbrev iA a b:=dM a::b
abbrev oV a:=a<=1000
abbrev gC(a:db):=oV a.length
abbrev iG(a:MH->PH->Prop):=∀(x:MH)(c:PH),a x c
abbrev De(a:PH)(b:PV->Pred->MH->PH->Prop):=∀(x:PV)(d:Pred),iG (λe c=>bY a c (fJ c d x) (b x d e c))
abbrev K7(a:du)(b:MH)(c:PH)(d:Nat)(e:PV->MH->PH->Prop):=∃(x:Nat),gL (λo t=>tC (λg j=>∃(f:Nat),aA (a=iA x (cM o::cA (cM t) (↑f:Int))) (bE b c x) (aA (Ints c o g) (Ints c t j) (aA (gC g) (gC j) (aA (f<d) (oV f) (De c (λy z n u=>PW g j f z->bT b n x->qB n u x (e y n u))))))))
noncomputable abbrev LC a b:=fC (mD a) gV (fC (mD b) gV (fC gV gV (fC aQz gV (fC gV gV (fC (mD b) aQz (nR (At.lst 104)))))))
noncomputable abbrev Jb(a:Int×Int×dz×MH×PH):=List.map PV.enc a.2.2.1
abbrev cN(a:Nat->Option Obj)(b:MH×PH):=a=b.1
noncomputable abbrev LP(a:Int×Int×dz×MH×PH):=a.2.2.2.2
attribute [push_cast] pC K6 iA oV gC iG De K7 LC Jb cN LP
def XR(N cb:Nat)(s t:Sl)(deep:Nat)(m:MH)(h:PH)(K:da):=
  kB cb 9 m h (λk E=>∃(I:Int×Bool×MH->Prop),dO k 0 (pC cb 2 E h (λc r=>∀(e:MH),bT E e c->bE e h c->K6 I cb s t deep k (λx=>kJ r x.2.1) e h)) (K6 I cb s t deep k (λx=>EZ x.2.1) E h)/\∀(x:Int×Bool×MH),iB (I x) x.2.1 (kB cb 2 x.2.2 h (λj e=>K (qK (aU (eH (kE (1+j))) dD (aU dD dD (aU dD dD (aU Sv dD (aU dD dD (aU dD Sv j5))))))) e h)) (∃(I1:Int×Bool×MH->Prop),aZ x.1 6 (K6 I1 cb s t deep x.1 (λn=>Ah n.2.1) x.2.2 h) (K6 I1 cb s t deep x.1 (λn=>kJ (decide ((↑deep:Int)<1)) n.2.1) x.2.2 h)/\∀(n:Int×Bool×MH),I1 n->cW n.2.1 (∃(I2:Int×MH->Prop),fX (aG s) 0 (kB cb (aG s) n.2.2 h (λj e=>bF (λb o=>aH (aM s.a b o) (0<=j) (j<aG
 s) (∃(y:Int),aL e h b (fF o j 1) (bM y)/\∃(d:Int×MH),aA (I2 d) (dL cb) (aA (aJ s) (aJ t) (aA fP (dV y d.1) (aA pE (e=d.2) (bQ h h)))))))) (∃(d:Int×MH),aA (I2 d) (dL cb) (aA (aJ s) (aJ t) (aA fP (dV 4 d.1) (aA pE (n.2.2=d.2) (bQ h h)))))/\∀(d:Int×MH),I2 d->∃(I3:PV×Int×MH->Prop),kB cb 6 d.2 h (λj e=>∃(c:Nat),gL (λA C=>∃(H:Int),tC (λB p=>aA (iA cb (cM s::cA (cM t) d.1)=iA c (cM A::cA (cM C) H)) (bE e h c) (aA (Ints h A B) (Ints h C p) (aA (gC B) (gC p) (∀(o:OV)(z:MH),Zb B p H o->bT e z c->qB z h c (Ge cb d.1 z h (λv F=>∃(f:PV×Int×MH),aA (I3 f) (dL cb) (aA (aJ s) (aJ t) (aA fP (dV d.1 f.2.1) (aA
 (eP 11) pE (aH (oQ 35 (fC (mD 3) (mD (kE (1+j))) (fC (mD o.kind) (mD o.index) (fC (mD (tD o)) (mD o.value.int) (fC (SF (HM o)) (mD 3) (fC gV (mD v.kind) (fC (mD v.int) (SF v.text) (nR Ht)))))))=qO 35 f.1.enc) (F=f.2.2) (h=h) True))))))))))))/\∀(f:PV×Int×MH),I3 f->∃(I4:PV×MH->Prop),pC cb 3 f.2.2 h (λc r=>∀(e:MH),bT f.2.2 e c->bE e h c->branch r (∃(B:Nat),gL (λA C=>∃(j:Int),tC (λG p=>aA (iA cb (cM s::cA (cM t) f.2.1)=iA B (cM A::cA (cM C) j)) (bE e h B) (aA (Ints h A G) (Ints h C p) (aA (gC G) (gC p) (∀(o:OV)(z:MH),Zb G p j o->bT e z B->qB z h B (∃(g:PV×MH),aA (I4 g) (dL cb) (aA fP (eP 11) (aA pE (oQ 35 (yI f.1 f.1.left o (nR (nX
 f.1.args)))=qO 35 g.1.enc) (aA (z=g.2) (h=h) True)))))))))) (∃(g:PV×MH),aA (I4 g) (dL cb) (aA fP (eP 11) (aA pE (qO 35 f.1.enc=qO 35 g.1.enc) (aA (e=g.2) (h=h) True)))))/\∀(g:PV×MH),I4 g->∃(I5:PV×MH->Prop),pC cb 6 g.2 h (λc r=>∀(e:MH),bT g.2 e c->bE e h c->branch r (∃(u:PV×MH),aA (I5 u) fP (aA (eP 11) pE (aH (oQ 35 (yI g.1 g.1.right g.1.left (nR (nX g.1.args)))=qO 35 u.1.enc) (e=u.2) (h=h) True))) (∃(u:PV×MH),aA (I5 u) fP (aA (eP 11) pE (aH (qO 35 g.1.enc=qO 35 u.1.enc) (e=u.2) (h=h) True))))/\∀(u:PV×MH),I5 u->K (fL u.1) u.2 h) (n.1==6) (K7 (iA cb (cM s::cA (cM t) (kE ((↑deep:Int)-1)))) n.2.2 h N (λv e D=>bN D 13 (lI v.enc) (λA J
 =>K (qK (aU (eH 6) dD (aU dD dD (aU dD dD (aU Sv dD (aU dD dD (aU dD Sv (bH A)))))))) e J))) (kB cb 3 n.2.2 h (λj e=>∃(I2:Int×Int×dz×MH×PH->Prop)(z:Int×Int×dz×MH×PH->Nat),(∃(d:Int×Int×dz×MH×PH),aA (I2 d) (dL cb) (aA (aJ s) (aJ t) (aA (eQ (bP deep)) fP (aA (eP 12) (dV j d.2.1) (aA pE (Ei (LC (kE (kE (4+n.1)-7)) 0) (LC d.1 0)) (aA (oH 35 13 (bW 35 13 (Jb d))) (cN e d.2.2.2) (bQ h (LP d))))))))/\∀(d:Int×Int×dz×MH×PH),I2 d->gQ d.2.1 0 (K7 (iA cb (cM s::cA (cM t) (kE ((↑deep:Int)-1)))) d.2.2.2.1 (LP d) N (λv F D=>tT (Jb d) 136 (∃(f:Int×Int×dz×MH×PH),aA (I2 f) (z f<z d) (aA (dL cb)
 (aJ s) (aA (aJ t) (eQ (bP deep)) (aA fP (eP 12) (aA (dV (kE (d.2.1-1)) f.2.1) pE (aA (Ei (LC d.1 0) (LC f.1 0)) (bW 35 13 (iT (Jb d) v.enc)=bW 35 13 (Jb f)) (bO (cN F f.2.2.2) D (LP f)))))))))) (bN (LP d) 13 (Jb d) (λA D=>K (qK (aU (eH d.1) dD (aU dD dD (aU dD dD (aU Sv dD (aU dD dD (aU dD Sv (bH A)))))))) d.2.2.2.1 D))))))
def Yb(N cb:Nat)(s t:Sl)(deep:Nat)(m:MH)(h:PH)(K:da):=
  K7 (iA cb (cM s::cA (cM t) (↑deep:Int))) m h N (λv e d=>Gf (cM s::aX (cM t) (fL v)) d (λc p f=>dO (gY c p f) 2 (K7 (iA cb (cM s::cA (cM t) 1)) e d N (λg j n=>K (fL g) j n)) (K (fL v) e d)))
theorem YH:Zl zeroV zeroV=true:=by simp[Zl]
theorem Ee:HG 0 fQ fQ=true:=by simp[HG,eqO,Zl]
theorem ZR{cols params x}(h:cols[i]? =some x):kindOf cols params ⟨1,i,zeroV⟩=x:=by
 have d:=(bz h);have e:kindOf cols params ⟨1,i,zeroV⟩=sT cols ⟨1,i,zeroV⟩:=rfl;have c:=YH;rw[e];simp only[sT,c,Bool.not_true,Bool.or_false]
 grind
theorem ZQ{cols params x}(h:params[i]? =some x):kindOf cols params ⟨2,i,zeroV⟩=x:=by
 have d:=(bz h);have e:kindOf cols params ⟨2,i,zeroV⟩=sT params ⟨2,i,zeroV⟩:=rfl;have c:=YH;rw[e];simp only[sT,c,Bool.not_true,Bool.or_false]
 grind
theorem W9{cols params c v}(f:NX v)(g:aTX c v):Zb cols params c ⟨3,0,v⟩:=⟨f,λh=>by
 obtain⟨j,d⟩:=g h;have e:kindOf cols params ⟨3,0,v⟩=if((0:Int) !=0|| !kM v)then 0 else v.kind:=rfl
 rw[e,if_neg,d];simp only[kM,j,d];rcases h with rfl|rfl|rfl<;>decide⟩
theorem aqX:cz 128 Za:=by
 refine gW func128 ?_;rintro U m h K ⟨cb,s,t,d,e,c,rfl,V,P,Q,Z,l2,R⟩;refine⟨bRZ cb s t d m h,rfl,aE O0 (aE Nh aI),Up cb s t d m h K,bh,?_⟩;dsimp only[Up,push_cast];have E:=P.slen;have F:=Q.slen;refine⟨λ⟨i,f⟩=>i<=e.length/\f.length<=i/\∀o∈f,Zb e c d o,λ⟨i,_⟩=>e.length-i,⟨(0,[]),⟨aD,bi,bi⟩,MT⟩,?_⟩;rintro⟨i,f⟩ ⟨S,y,g⟩;dsimp only;refine aF (λj=>?_) (λz=>?_)
 .obtain⟨x,A⟩:=dW E j;obtain⟨G,H,I,J⟩:=P.at' A;refine⟨G,H,I,aD,j,x,.imm J,aC (λW=>⟨bn,bn,(i+1,f++[⟨1,i,zeroV⟩]),⟨aD,bn,?_⟩,aD,?_⟩) (λ_=>⟨(i+1,f),⟨aD,bo,g⟩,aD,MT⟩)⟩
  .intro o u;rcases mem_append.1 u with n|n
   .grind
   .simp at n;subst n;exact⟨uH,λ_=>by rw[ZR (bx A)];grind⟩
  .rw[cj];exact MT
 refine⟨λ⟨i,f⟩=>i<=c.length/\f.length<=1000+i/\∀o∈f,Zb e c d o,λ⟨i,_⟩=>c.length-i,⟨(0,f),⟨aD,aD,g⟩,MT⟩,?_⟩;clear S y g z;rintro⟨i,f⟩ ⟨S,y,g⟩;dsimp only;refine aF (λj=>?_) (λz=>?_)
 .obtain⟨x,A⟩:=dW F j;obtain⟨G,H,I,J⟩:=Q.at' A;refine⟨G,H,I,aD,j,x,.imm J,aC (λW=>⟨bn,bn,(i+1,f++[⟨2,i,zeroV⟩]),⟨aD,bn,?_⟩,aD,?_⟩) (λ_=>⟨(i+1,f),⟨aD,bo,g⟩,aD,MT⟩)⟩
  .intro o u;rcases mem_append.1 u with n|n
   .grind
   .simp at n;subst n;exact⟨uH,λ_=>by rw[ZQ (bx A)];grind⟩
  .rw[cj];exact MT
 .refine⟨cb,_,rfl,V,λk m' X n u B=>aF (λT=>?_) (λT=>⟨cb,d,rfl,B,λv L Y M O C=>R ⟨3,0,v⟩ L (W9 Y M) (u.trans O) C⟩)⟩;have D:k.toNat<f.length:=bo
  exact⟨X,T,_,by rw[getElem?_map,cd D];rfl,f[k.toNat],rfl,R _ m' (g _ (getElem_mem D)) u B⟩
theorem QZ{h v}(c:v.args=⟨none,0,0⟩):fJ h (.mk v.op v.cmp v.left v.right []) v:=fJ.mk (by rw[c];exact .nil _ _ _ _)
structure cbZ(cols params:db)(kd:Int)(p:PV):Prop where
 args_:p.args=⟨none,0,0⟩
 op_:p.op=3
 cmp_:1<=p.cmp/\p.cmp<=6
 left_:Zb cols params kd p.left
 right_:Zb cols params kd p.right
 kind_:O6 cols->KOk kd
theorem chX{k}(h:KOk k):k≠0:=by rcases h with rfl|rfl|rfl<;>decide
theorem cbZ.pw{cols params f p}(x:cbZ cols params f p) d:PW cols params d (.mk p.op p.cmp p.left p.right []):=by
 refine⟨⟨x.left_.val,x.right_.val,trivial⟩,λg=>?_,R4.leaf d⟩;have c:=x.kind_ g;have j:=x.left_.kind c;have n:=x.right_.kind c;have o:=chX c;have e:=x.cmp_;rw[x.op_];simp[kH,j,n,o,e.1,e.2]
theorem cQQ{cols params d}(x:PW cols params d p):PW cols params (d+1) (.mk 6 0 fQ fQ [p]):=
 ⟨⟨uH,uH,x.vals,trivial⟩,λf=>by
  have e:=Ee;simp[kH,z6,e,x.valid f],R4.node (λq c=>by simp at c;subst c;exact x.siz) bi⟩
theorem cQX{cols params d op ps}(f:op=4\/op=5)(x:∀p∈ps,PW cols params d p)(g:ps.length<=3):PW cols params (d+1) (.mk op 0 fQ fQ ps):=
 ⟨⟨uH,uH,Sa.2 λp c=>(x p c).vals⟩,λj=>by
  have e:=Ee;have n:z6 cols params ps=true:=by rw[Hy,all_eq_true];exactλp c=>(x p c).valid j
  rcases f with rfl|rfl<;>simp[kH,e,n],R4.node (λq o=>(x q o).siz) g⟩
theorem aKJ:∀N,cz 65 (b0Q N)
 |0=>by
  refine eG (fn:=Tryz.f65) (c:=dQ Tryz.f65) func65 rfl bj ?_;rintro a0 m h K ⟨cb,s,t,f,d,deep,rfl,_,_,_,_,_,hN,_⟩;omega
 |N+1=>by
  refine gW func65 ?_;rintro a0 m h K ⟨cb,s,t,f,d,deep,rfl,hc,M,ht,l1,l2,hN,hd,hK⟩;refine⟨cpZ N cb s t deep h,rfl,aE O0 (aE FB (aE aqX (aE Nh (aE (aKJ N) aI)))),XR N cb s t deep m h K,bh,?_⟩;dsimp only[XR,push_cast];have a7:=M.slen;refine⟨cb,9,rfl,hc,λk B L O g y=>?_⟩;refine⟨λ⟨k,_,z⟩=>0<=k/\k<=8/\bT m z cb/\bE z h cb,aC (λ_=>⟨cb,2,rfl,aD,aD,y,λr E C D=>⟨(k,r,E),⟨L,aD,g.trans C,D⟩,MT⟩⟩) (λ_=>⟨(k,false,B),⟨L,aD,g,y⟩,MT⟩),?_⟩;clear L O g y k B;rintro⟨k,b,B⟩ ⟨L,O,g,y⟩;dsimp only;refine aC (λ_=>⟨cb,2,rfl,y,λj E R j1 C D=>?_⟩) (λ_=>?_)
  .refine hK ⟨IntKind.i64.wrap (1+j),0,fQ,fQ,⟨none,0,0⟩⟩ _ E h (.refl _) (QZ rfl) ⟨⟨uH,uH,trivial⟩,λ_=>?_,R4.leaf _⟩ (g.trans C) D;have hj:j=0\/j=1:=by omega
   have e1:IntKind.i64.wrap 1=1:=bj
   have e2:IntKind.i64.wrap 2=2:=bj
   rcases hj with rfl|rfl
   .simp[kH,e1,Ee]
   .simp[kH,e2,Ee]
  refine⟨λ⟨k,b,z⟩=>0<=k/\k<=8/\(b=false->6<=k/\1<=deep)/\bT m z cb/\bE z h cb,aF (λ_=>⟨(k,true,B),⟨L,O,λe=>(by cases e),g,y⟩,MT⟩) (λhk=>⟨(k,_,B),⟨L,O,λe=>?_,g,y⟩,MT⟩),?_⟩
  .grind
  clear L O g y k B;rintro⟨k,b,B⟩ ⟨L,O,kb,g,y⟩;dsimp only;refine aC (λ_=>?_) (λhb=>?_)
  .refine⟨λ⟨G,z⟩=>(O6 f->KOk G)/\bT m z cb/\bE z h cb,aF (λa6=>⟨cb,s.len,rfl,y,λj E R j1 C D=>?_⟩) (λ_=>⟨(4,B),⟨λ_=>.inr (.inl rfl),g,y⟩,MT⟩),?_⟩
   .obtain⟨b1,a1,e1,r1⟩:=M.inb (n:=j) R aD
    have hm:f.getD j.toNat 0∈f:=by
     grind
    exact⟨b1,a1,e1,R,aD,_,.imm r1,(_,E),⟨λS=>S _ hm,g.trans C,D⟩,MT⟩
   clear g y B;rintro⟨G,B⟩ ⟨T,g,y⟩;dsimp only;refine⟨λ⟨p,G,z⟩=>cbZ f d G p/\bT m z cb/\bE z h cb,⟨cb,6,rfl,y,λj E R j1 C D=>⟨cb,s,t,G,f,d,rfl,D,M,ht,l1,l2,λo m3 ho U V=>⟨cb,G,rfl,V,λv m4 hv a2 o4 c4=>⟨(⟨3,IntKind.i64.wrap (1+j),o,⟨3,0,v⟩,⟨none,0,0⟩⟩,G,m4),⟨⟨rfl,rfl,?_,ho,W9 hv a2,T⟩,((g.trans C).trans U).trans o4,c4⟩,MT⟩⟩⟩⟩,?_⟩
   .show 1<=IntKind.i64.wrap (1+j)/\IntKind.i64.wrap (1+j)<=6;rw[eM aD aD];omega
   clear g y B T G;rintro⟨p,G,B⟩ ⟨pw,g,y⟩;dsimp only;refine⟨λ⟨p,z⟩=>cbZ f d G p/\bT m z cb/\bE z h cb,⟨cb,3,rfl,aD,aD,y,λr E C D=>aC (λ_=>⟨cb,s,t,G,f,d,rfl,D,M,ht,l1,l2,λo m3 ho U V=>⟨(⟨p.op,p.cmp,p.left,o,p.args⟩,m3),⟨⟨pw.args_,pw.op_,pw.cmp_,pw.left_,ho,pw.kind_⟩,(g.trans C).trans U,V⟩,MT⟩⟩) (λ_=>⟨(p,E),⟨pw,g.trans C,D⟩,MT⟩)⟩,?_⟩;clear pw g y B p;rintro⟨p,B⟩ ⟨pw,g,y⟩;dsimp only;refine⟨λ⟨p,z⟩=>cbZ f d G p/\bT m z cb/\bE z h cb,⟨cb,6,rfl,aD,aD,y,λr E C D=>aC (λ_=>⟨(⟨p.op,p.cmp,p.right,p.left,p.args⟩,E),⟨⟨pw.args_,pw.op_,pw.cmp_,pw.right_,pw.left_,pw.kind_⟩,g.trans C,D⟩,MT⟩) (λ_=>⟨(p,E),⟨pw,g.trans C,D⟩,MT⟩)⟩,?_⟩;clear pw g y B p;rintro⟨p,B⟩ ⟨pw,g,y⟩;exact hK p _ B h (.refl _) (QZ pw.args_) (pw.pw deep) g y
  have a3:=kb hb;have hw:IntKind.i64.wrap ((deep:Int)-1)=((deep-1:Nat):Int):=by rw[eM aD aD];omega
  rw[hw];have W:deep=deep-1+1:=by omega
  refine aC (λ_=>⟨cb,s,t,f,d,deep-1,rfl,y,M,ht,l1,l2,aD,aD,λv p E h2 F hr hp C D X Y H I=>?_⟩) (λa4=>⟨cb,3,rfl,y,λj E R j1 C D=>?_⟩)
  .refine hK ⟨6,0,fQ,fQ,X⟩ (.mk 6 0 fQ fQ [p]) E Y (F.trans H) (fJ.mk (v:=⟨6,0,fQ,fQ,X⟩) ⟨⟨[v],I,rfl,λi x J=>?_⟩,bi⟩) (by rw[W];exact cQQ hp) (g.trans C) (D.mono H)
   match i,J with
   |0,J=>simp at J;subst J;exact⟨v,rfl,hr.mono H⟩
   |_+1,J=>simp at J
  refine⟨λ⟨op,n,P,z,J⟩=>(op=4\/op=5)/\ -1<=n/\n<=2/\(P.length:Int)<=2-n/\PH.le h J/\bT m z cb/\bE z J cb/\∃ps:dp,ps.length=P.length/\(∀q∈ps,PW f d (deep-1) q)/\∀(i:Nat) q,ps[i]? =some q->∃u,P[i]? =some u/\fJ J q u,λ⟨_,n,_,_,_⟩=>(n+1).toNat,⟨(_,j,[],E,h),⟨?_,aD,aD,bn,.refl _,g.trans C,D,[],rfl,bi,λi q Q=>by simp at Q⟩,MT⟩,?_⟩
  .have a4:k≠6:=bo
   have a5:k=7\/k=8:=by omega
   rcases a5 with rfl|rfl
   .exact .inl bj
   .exact .inr bj
  rintro⟨op,n,P,z,J⟩ ⟨Z,n0,n1,ul,F,ox,cx,ps,pl,pw,a'⟩;dsimp only;refine aF (λhn=>⟨cb,s,t,f,d,deep-1,rfl,cx,M.mono F,ht.mono F,l1,l2,aD,aD,λv p m3 Y A hr hp U V=>⟨bn,bn,(op,n-1,P++[v],m3,Y),⟨Z,bo,bo,bn,F.trans A,ox.trans U,V,ps++[p],by simp[pl],?_,?_⟩,?_,?_⟩⟩) (λhn X Y A I=>?_)
  .grind
  .intro i q Q;by_cases hi:i<ps.length
   .rw[getElem?_append_left hi]at Q;obtain⟨u,h1,h2⟩:=a' i q Q;exact⟨u,bo,h2.mono A⟩
   grind
  .grind
  .rw[cj,eM aD aD];exact MT
  .exact hK ⟨op,0,fQ,fQ,X⟩ (.mk op 0 fQ fQ ps) z Y (F.trans A) (fJ.mk (v:=⟨op,0,fQ,fQ,X⟩) ⟨⟨P,I,pl,λi q Q=>(a' i q Q).imp λu hu=>⟨hu.1,hu.2.mono A⟩⟩,aD⟩) (by rw[W];exact cQX Z pw aD) ox (cx.mono A)
theorem YO(h:O6 l):l.all gI=true:=all_eq_true.2 λk c=>by
 rcases h k c with e|e|e<;>subst e<;>rfl
theorem aGQ{cols params d}(x:PW cols params d p)(e:d<=2)(c:O6 cols)(f:O6 params):gY cols params p=0:=by
 have j:=QE p 0;have o:=x.siz.n;have g:=OK p 8 (by have:=x.siz.d;omega)
 have t:gF d<=13:=by match d,e with
  |0,_=>decide
  |1,_=>decide
  |2,_=>decide
 unfold gY;rw[YO c,YO f,if_neg bi,g,if_neg bn,x.valid c];rfl
theorem No:cz 27 Ha:=by
 refine gW func27 ?_;rintro F m h K ⟨cb,s,t,e,c,deep,rfl,G,j,n,y,z,H,A⟩;refine⟨cZ [(65,b0Q 1001),(66,v7)] [] [] [] false,rfl,aE (aKJ 1001) (aE Nk aI),Yb 1001 cb s t deep m h K,bh,?_⟩;dsimp only[Yb,push_cast];refine⟨cb,s,t,e,c,deep,rfl,G,j,n,y,z,aD,H,λv p I J d B C D E=>⟨s,t,v,e,c,p,rfl,j.mono d,n.mono d,B,aC (λ_=>⟨cb,s,t,e,c,1,rfl,E,j.mono d,n.mono d,y,z,aD,aD,λL M O P f o g Q R=>A L M O P (d.trans f) o ⟨g.vals,λ_ u x=>aGQ g bj u x⟩ (D.trans Q) R⟩) (λ_=>A v p I J d B ⟨C.vals,λS u x=>aGQ C S u x⟩ D E)⟩⟩
def cG:Sl:=⟨none,0,0⟩
def aVQ:Vc.Spec:=λc m h K=>∃n k,c=[YT n,cI k]/\K (.val (.agg ⟨(rG.mk n k).enc⟩)) m h
def b2J:Vc.Spec:=λc m h K=>∃t,c=[cI t]/\K (aQ ⟨1,t,iO,cG,cG,cG,cG,0,cG⟩) m h
def cFZ(v:QV)(g o:Sl)(k:Int):QV:=⟨v.op,v.table,v.where_,v.columns,v.on,g,o,k,v.args⟩
def cIQ:Vc.Spec:=λd m h K=>∃cb v s c,d=[cP cb,aQ (cFZ v cG cG v.limit),cS s]/\bE m h cb/\Ints h s c/\c.length<=1000/\
 ∀g o k gr od m' h',PH.le h h'->Ints h' g gr->jW h' o od->gr.length<=c.length->od.length<=c.length->0<=k->k<=3->bT m m' cb->bE m' h' cb->K (aQ (cFZ v g o k)) m' h'
noncomputable def csJ(cb:Nat)(v:QV)(s:Sl)(h:PH):=
 cZ [(19,N1),(25,U4)] [(2,{A:=Nat×db×di×MH,st:=λ⟨i,gr,od,m⟩=>bS 37 40 [(0,pv cb),(4,.at (.ptr 4 0)),(6,.at (.ptr 6 0)),(9,iv s.len),(10,iv i)] [(4,.cells 41 ((v.enc.take 17).map .val++[.lst 19,.lst 30,.val (.int .i64 v.limit),.val (.slice v.args.a v.args.len v.args.cap)])),(6,.cells 41 (zY.enc.map .val)),(19,.lst 3 1 (gr.map eI)),(30,.lst 77 2 (od.map Aa))] m h})] [] [] false
def bFX(n:ByteArray)(k:Int)(m:MH)(h:PH)(K:da):=
  K (qK (lE (Value.string n) (eH k))) m h
noncomputable abbrev Er a:=PJ (eH 1) (eH a)
attribute [push_cast] Er
def bGQ(t:Int)(m:MH)(h:PH)(K:da):=
  K (qK (Er t)) m h
abbrev II a:=eQ (oQ 41 (fC (mD a.op) (A9 a) (pQ a.where_ (fC (E3 a) (nX a.on) (fC (At.lst 19) (At.lst 30) (j9 (xJ a) (nX a.args)))))))
noncomputable abbrev wX(a:Nat×db×di×MH):=HO a.2.2.1
abbrev K8(a:Nat×db×di×MH->Prop)(b:Nat×db×di×MH->Nat)(c:Nat×db×di×MH)(d:Nat)(e:Sl)(g:Prop)(i j:(Nat×db×di×MH)->Prop)(k:MH)(l:PH):=∃(x:Nat×db×di×MH),aA (a x) (b x<b c) (aA (dL d) iL (aA (eP 6) (bG e) (aA (fU (bC c.1 1)=bP x.1) g (aA iV (i x) (aA (j x) (k=x.2.2.2) (bQ l l))))))
attribute [push_cast] II wX K8
def X4(cb:Nat)(v:QV)(s:Sl)(m:MH)(h:PH)(K:da):=
  ∃(I:Nat×db×di×MH->Prop)(o:Nat×db×di×MH->Nat),(∃(x:Nat×db×di×MH),aA (I x) (dL cb) (aA iL (eP 6) (aA (bG s) (bA x.1) (aA (II v) iV (j4 (tN x.2.1) (oH 77 2 (bW 77 2 (wX x))) (m=x.2.2.2) h h)))))/\∀(x:Nat×db×di×MH),I x->aZ (↑x.1:Int) (aG s) (pC cb 3 x.2.2.2 h (λc r=>∀(f:MH),bT x.2.2.2 f c->bE f h c->branch r (tT (fS x.2.1) 8 (pC cb 3 f h (λj t=>∀(e:MH),bT f e j->bE e h j->branch t (pC cb 2 e h (λn u=>∀(g:MH),bT e g n->bE g h n->tT (wX x) 16 (K8 I o x cb s (II v) (λd=>uZ x.2.1 (↑x.1:Int) d.2.1) (λd=>bW 77 2 (iT (wX x) (lE (eH (↑x.1:Int))
 (Value.bool u)))=bW 77 2 (wX d)) g h))) (K8 I o x cb s (II v) (λd=>uZ x.2.1 (↑x.1:Int) d.2.1) (λd=>bW 77 2 (wX x)=bW 77 2 (wX d)) e h)))) (pC cb 3 f h (λj t=>∀(e:MH),bT f e j->bE e h j->branch t (pC cb 2 e h (λn u=>∀(g:MH),bT e g n->bE g h n->tT (wX x) 16 (K8 I o x cb s (II v) (λd=>qR (fS x.2.1) d.2.1) (λd=>bW 77 2 (iT (wX x) (lE (eH (↑x.1:Int)) (Value.bool u)))=bW 77 2 (wX d)) g h))) (K8 I o x cb s (II v) (λd=>qR (fS x.2.1) d.2.1) (λd=>bW 77 2 (wX x)=bW 77 2 (wX d)) e h))))) (kB cb 4 x.2.2.2 h (λk f=>bN h 1 (fS x.2.1) (λy z=>bN z 2 (wX x) (λA B=>K (yJ v v (yO v (aU (gP v.on)
 (gP y) (aU (gP A) (eH k) (bH v.args))))) f B))))
theorem bbZ:cz 72 aVQ:=by
 refine gW func72 ?_;rintro c m h K ⟨n,k,rfl,d⟩;refine⟨cZ [] [] [] [] false,rfl,aI,bFX n k m h K,bh,?_⟩;exact d
theorem Ts:cz 33 b2J:=by
 refine gW func33 ?_;rintro c m h K ⟨t,rfl,d⟩;refine⟨cZ [] [] [] [] false,rfl,aI,bGQ t m h K,bh,?_⟩;exact d
theorem beZ:cz 36 cIQ:=by
 refine gW func36 ?_;rintro I m h K ⟨cb,v,s,c,rfl,J,L,X,M⟩;refine⟨csJ cb v s h,rfl,aE O0 (aE FB aI),X4 cb v s m h K,bh,?_⟩;dsimp only[X4,push_cast];have O:=L.slen;refine⟨λ⟨i,gr,od,E⟩=>i<=c.length/\gr.length<=i/\od.length<=i/\bT m E cb/\bE E h cb,λ⟨i,_,_,_⟩=>c.length-i,⟨(0,[],[],m),⟨aD,bi,bi,.refl _ _,J⟩,MT⟩,?_⟩;rintro⟨i,gr,od,Y⟩ ⟨Z,hg,ho,n,F⟩;dsimp only;refine aF (λP=>?_) (λQ=>?_)
 .have fin:∀(f:db)(g:di) m',f.length<=i+1->g.length<=i+1->bT m m' cb->bE m' h cb->(i+1<=c.length/\f.length<=i+1/\g.length<=i+1/\bT m m' cb/\bE m' h cb):=λf g m' G A R S=>⟨aD,G,A,R,S⟩
  refine⟨cb,3,rfl,aD,aD,F,λr H j z=>aC (λ_=>⟨bn,bn,cb,3,rfl,aD,aD,z,λB o t u=>aC (λ_=>⟨cb,2,rfl,aD,aD,u,λx y C D=>⟨bn,bn,(i+1,gr++[(i:Int)],od++[((i:Int),x)],y),fin (gr++[(i:Int)]) (od++[((i:Int),x)]) y bn bn (((n.trans j).trans t).trans C) D,aD,?_⟩⟩) (λ_=>⟨(i+1,gr++[(i:Int)],od,o),fin (gr++[(i:Int)]) od o bn aD ((n.trans j).trans t) u,aD,?_⟩)⟩)
   (λ_=>⟨cb,3,rfl,aD,aD,z,λB o t u=>aC (λ_=>⟨cb,2,rfl,aD,aD,u,λx y C D=>⟨bn,bn,(i+1,gr,od++[((i:Int),x)],y),fin gr (od++[((i:Int),x)]) y aD bn (((n.trans j).trans t).trans C) D,aD,?_⟩⟩) (λ_=>⟨(i+1,gr,od,o),fin gr od o aD aD ((n.trans j).trans t) u,aD,MT⟩)⟩)⟩
  .simp only[cj];exact MT
  .simp only[cj];exact MT
  .simp only[cj];exact MT
 .refine⟨cb,4,rfl,F,λk H T k1 j z U G e V W A d B=>?_⟩;exact M U W k gr od H A (e.trans d) ⟨V.mono d,aD⟩ ⟨B,aD⟩ aD aD T aD (n.trans j) (z.mono (e.trans d))
def b5X:Vc.Spec:=λc m h K=>∃cb s t a b,c=[cP cb,cS s,cS t]/\bE m h cb/\Ints h s a/\Ints h t b/\a.length<=1000/\b.length<=1000/\
 ∀o on m' h',PH.le h h'->gS h' o on->on.length<=10->bT m m' cb->bE m' h' cb->K (cS o) m' h'
noncomputable def ctX cb s t h:=
 cZ [(19,N1)] [(3,{A:=Int×dh×MH,st:=λ⟨n,on,m⟩=>bS 77 80 [(0,pv cb),(1,sv s),(2,sv t),(7,.at (.lst 75)),(8,iv n)] [(75,.lst 130 2 (on.map pA))] m h}),
  (8,{A:=Int×Nat×dh×(Int×Int)×Bool×MH,st:=λ⟨n,i,on,p,f,m⟩=>bS 77 80 [(0,pv cb),(1,sv s),(2,sv t),(7,.at (.lst 75)),(8,iv n),(9,.at (.ptr 9 0)),(10,bv f),(49,.at (.lst 75)),(50,iv on.length),(51,iv i)] [(9,.cells 130 [.val (.int .i64 p.1),.val (.int .i64 p.2)]),(75,.lst 130 2 (on.map pA))] m h})] [] [] false
noncomputable abbrev CQ(a:Int×dh×MH):=zG a.2.1
noncomputable abbrev Gv(a:Int×Nat×dh×(Int×Int)×Bool×MH):=a.2.2.2.2.1
noncomputable abbrev CP(a:Int×Nat×dh×(Int×Int)×Bool×MH):=a.2.2.1.length
noncomputable abbrev AK(a:Int×Nat×dh×(Int×Int)×Bool×MH):=a.2.2.2.1
noncomputable abbrev wW(a:Int×Nat×dh×(Int×Int)×Bool×MH):=zG a.2.2.1
noncomputable abbrev Bz(a:Int×Nat×dh×(Int×Int)×Bool×MH):=a.2.2.2.2.2
abbrev Po(a:en->Prop)(b:en->Nat)(c d:Nat)(e g:Sl)(i:Int×Nat×dh×(Int×Int)×Bool×MH)(j:en->Int×Nat×dh×(Int×Int)×Bool×MH)(k:en->Prop):=∃(x:Int×Nat×dh×(Int×Int)×Bool×MH),aA (a x) (b x<c) (aA (dL d) (aJ e) (aA (aJ g) (eL 75) (aA (dV i.1 (j x).1) (eP 9) (k x))))
attribute [push_cast] CQ Gv CP AK wW Bz Po
def X6(cb:Nat)(s t:Sl)(m:MH)(h:PH)(K:da):=
  kB cb 3 m h (λk F=>∃(I:Int×dh×MH->Prop)(n:Int×dh×MH->Nat),(∃(x:Int×dh×MH),aA (I x) (dL cb) (aA (aJ s) (aJ t) (aA (eL 75) (dV k x.1) (aA (oH 130 2 (bW 130 2 (CQ x))) (F=x.2.2) (bQ h h)))))/\∀(x:Int×dh×MH),I x->fX x.1 0 (fX (aG s) 0 (fX (aG t) 0 (kB cb (aG s) x.2.2 h (λu G=>kB cb (aG t) G h (λz A=>aA (cF 0) ((0:Int)<2) (bF (λb o=>aH (aM s.a b o) (0<=u) (u<aG s) (∃(y:Int),aH (aL A h b (fF o u 1) (bM y)) ((0:Int)<=1) ((1:Int)<2) (bF (λC D=>aH (aM t.a C D) (0<=z) (z<aG t) (∃(E:Int),aL A h C (fF D z 1) (bM E)/\∃(I1:Int×Nat×dh×(Int×Int)×Bool×MH->Prop)(f:Int×Nat×List
 (Int×Int)×(Int×Int)×Bool×MH->Nat),(∃(d:Int×Nat×dh×(Int×Int)×Bool×MH),aA (I1 d) (dL cb) (aA (aJ s) (aJ t) (aA (eL 75) (dV x.1 d.1) (aA (eP 9) (kJ (y==E) (Gv d)) (aA (eL 75) (bV (CQ x).length (CP d)) (aA (bA d.2.1) (Gu (j9 (mD u) (mD z)) (yM (AK d))) (aH (CJ (CQ x) (wW d)) (A=Bz d) (h=h) True)))))))/\∀(d:Int×Nat×dh×(Int×Int)×Bool×MH),I1 d->aZ (↑d.2.1:Int) (↑(CP d):Int) (sC (↑d.2.1:Int) (mG (wW d)) (λe=>pY (wW d) (↑d.2.1:Int) e/\∃(B:Int×Int),fT (List.take 2 (List.drop 0 e)=u7 B) (Gv d) (aA (cF 0) CF (aA (cF 0) CF (dH B.1 (AK d).1 (aA (cF 1) CG (aA rW CG (Po (λc
 =>I1 c) (λc=>f c) (f d) cb s t d (λc=>c) (λc=>aA (kJ (B.2 !=(AK d).2) (Gv c)) (eL 75) (aA (bV (CP d) (CP c)) (fU (bC d.2.1 1)=bP c.2.1) (aA (Gu (yM (AK d)) (yM (AK c))) (CJ (wW d) (wW c)) (aA (Bz d=Bz c) (h=h) True))))))) (Po (λc=>I1 c) (λc=>f c) (f d) cb s t d (λc=>c) (λc=>aA (EZ (Gv c)) (eL 75) (aA (bV (CP d) (CP c)) (fU (bC d.2.1 1)=bP c.2.1) (aA (Gu (yM (AK d)) (yM (AK c))) (CJ (wW d) (wW c)) (aA (Bz d=Bz c) (h=h) True)))))))) (Po (λc=>I1 c) (λc=>f c) (f d) cb s t d (λc=>c) (λc=>aA (EZ (Gv c)) (eL 75) (aA (bV (CP d) (CP c)) (fU (bC d.2.1 1)
 =bP c.2.1) (aA (Gu (yM (AK d)) (yM (AK c))) (CJ (wW d) (wW c)) (aA (Bz d=Bz c) (h=h) True))))))) (branch (Gv d) (tT (wW d) 16 (∃(c:Int×dh×MH),aA (I c) (n c<n x) (aA (dL cb) (aJ s) (aA (aJ t) (eL 75) (aA (dV (kE (d.1-1)) c.1) (bW 130 2 (iT (wW d) (u7 (AK d)))=bW 130 2 (CQ c)) (bO (Bz d=c.2.2) h h)))))) (∃(c:Int×dh×MH),aA (I c) (n c<n x) (aA (dL cb) (aJ s) (aA (aJ t) (eL 75) (aA (dV (kE (d.1-1)) c.1) (CJ (wW d) (CQ c)) (bO (Bz d=c.2.2) h h))))))))))))))) (bN h 2 (CQ x) (λg j=>K (cM g) x.2.2 j))) (bN h 2 (CQ x) (λg j=>K (cM g) x.2.2 j))) (bN h 2 (CQ x) (λg j=>K (cM
 g) x.2.2 j)))
theorem bfQ:cz 34 b5X:=by
 refine gW func34 ?_;rintro L m h K ⟨cb,s,t,a,b,rfl,M,C,D,l1,l2,O⟩;refine⟨ctX cb s t h,rfl,aE O0 aI,X6 cb s t m h K,bh,?_⟩;dsimp only[X6,push_cast];have P:=C.slen;have Q:=D.slen;refine⟨cb,3,rfl,M,λk g E R d j=>⟨λ⟨n,on,A⟩=>0<=n/\n<=2/\(on.length:Int)<=2-n/\bT m A cb/\bE A h cb,λ⟨n,_,_⟩=>n.toNat,⟨(k,[],g),⟨E,aD,bn,d,j⟩,MT⟩,?_⟩⟩;clear E R d j g;rintro⟨n,on,g⟩ ⟨n0,n1,S,d,j⟩;dsimp only;have out:∀(e:Sl)(h':PH),PH.le h h'->cO h' e 2 (on.map pA)->K (.val (.slice e.a e.len e.cap)) g h':=λe h' o u=>O e on g h' o ⟨u,aD⟩ aD d (j.mono o);refine aF (λhn=>aF (λhp=>aF (λhq=>?_) (λ_=>out)) (λ_=>out)) (λ_=>out);refine⟨cb,s.len,rfl,j,λx m2 F x1 G T=>⟨cb,t.len,rfl,T,λy c H y1 I J=>?_⟩⟩;obtain⟨U,V,W,X⟩:=C.inb (n:=x) F aD;obtain⟨Y,Z,e2,r2⟩:=D.inb (n:=y) H aD;refine⟨aD,aD,U,V,W,F,aD,_,.imm X,aD,aD,Y,Z,e2,H,aD,_,.imm r2,?_⟩;refine⟨λ⟨n',i,B,p,f,A⟩=>n'=n/\B=on/\A=c/\i<=on.length,λ⟨_,i,_,_,_,_⟩=>on.length-i,⟨(n,0,on,(x,y),a.getD x.toNat 0==b.getD y.toNat 0,c),⟨rfl,rfl,rfl,aD⟩,?_⟩,?_⟩
 .rw[length_map];exact MT
 rintro⟨n,i,on,p,f,c⟩ ⟨rfl,rfl,rfl,hi⟩;dsimp only;refine aF (λa'=>?_) (λa0=>?_)
 .have hl:i<on.length:=by omega
  have z:(on.map pA)[i]? =some (pA on[i]):=bo
  refine⟨aD,bo,_,z,on[i],rfl,aC (λ_=>⟨aD,aD,aD,aD,aC (λ_=>⟨aD,aD,aD,aD,(n,i+1,on,p,_,c),⟨rfl,rfl,rfl,bu⟩,bt,MT⟩) (λ_=>⟨(n,i+1,on,p,_,c),⟨rfl,rfl,rfl,bu⟩,bt,MT⟩)⟩) (λ_=>⟨(n,i+1,on,p,_,c),⟨rfl,rfl,rfl,bu⟩,bt,MT⟩)⟩
 .have hw:IntKind.i64.wrap (n-1)=n-1:=eM aD aD;rw[hw];refine aC (λ_=>⟨bo,bo,(n-1,on++[p],c),⟨aD,aD,bn,(d.trans G).trans I,J⟩,aD,?_⟩) (λ_=>⟨(n-1,on,c),⟨aD,aD,bo,(d.trans G).trans I,J⟩,aD,MT⟩);rw[cj];exact MT
def c4Q:Vc.Spec:=λd m h K=>∃s e,∃c:Nat,d=[cS s,cI c]/\cO h s 1 (bJ e)/\s.len<=s.cap/\c<=1000/\∀cb m' h',PH.le h h'->m cb=none->bT m m' cb->bE m' h' cb->K (cP cb) m' h'
abbrev M3(a b:Prop)(c:(List dc)->Prop):=aA a b (∃(x:List dc),c x)
abbrev Da(a:Int)(b:Sl):=a<=(↑b.cap:Int)
attribute [push_cast] M3 Da
def aJZ(s:Sl)(c:Nat)(m:MH)(h:PH)(K:da):=
  M3 (cF (ite ((↑c:Int)<aG s) (↑c:Int) (aG s))) (Da (ite ((↑c:Int)<aG s) (↑c:Int) (aG s)) s) (λy=>aA (eU 1 y) (sV m h (Sl.mk s.a (ite ((↑c:Int)<aG s) (↑c:Int) (aG s)).toNat s.cap) 1 y) (aA (y9 y 1) (zA y) (bN h 1 y (λf e=>lG m e (λb d=>iR m d b (lE (gP f) dD) 86) (λb d=>K (dM b) d e)))))
theorem KJ l:eU 1 (bJ l):=by
 constructor
 .intro e c;obtain⟨x,_,rfl⟩:=mem_map.1 c;rfl
 .intro e c u d;obtain⟨x,_,rfl⟩:=mem_map.1 c;simp at d;subst d;rfl
theorem cO.cut{s}(r:cO h s sz xs) n(c:n<=xs.length):cO h ⟨s.a,n,s.cap⟩ sz (xs.take n):=by
 refine⟨bn,?_,by have d:=r.len;have f:=r.cap;grind⟩;rcases r.row with e|⟨b,o,g,k⟩
 .grind
 grind
theorem bFQ:cz 8 c4Q:=by
 refine gW func8 ?_;rintro t m h K ⟨s,g,c,rfl,n,z,A,u⟩;refine⟨vO [] [] [] [] [86] [] false,rfl,aI,aJZ s c m h K,bh,?_⟩;have B:s.len=g.length:=by have:=n.len;simpa[bJ]using this
 dsimp only[aJZ,push_cast];have d:(if(c:Int)<(s.len:Int)then(c:Int)else(s.len:Int))=((min c s.len:Nat):Int):=by omega
 rw[d];have e:=cO.cut n (min c s.len) (by simp[bJ];omega);refine⟨aD,aD,bJ (g.take (min c s.len)),KJ _,.imm ?_,by simp[bJ];omega,by simp[bJ];omega,λx h' j f b m' y o=>?_⟩
 .rw[show bJ (g.take (min c s.len))=(bJ g).take (min c s.len)by simp[bJ,map_take]];exact e
 .exact u b m' h' j y.m_ ⟨o.other⟩ ⟨_,⟨⟨x,_,0,o.at_,f,aD,bn,rfl⟩⟩⟩
def cJJ:Vc.Spec:=λc m h K=>∃n:Nat,c=[.val (.slice none 0 0),cI n]/\n<=1000/\K (.lst 3 1 []) m h
noncomputable def bNX c m h:=
 cZ [(198,cJJ)] [(3,{A:=Nat×Nat,st:=λ⟨i,n⟩=>bS 36 37 [(0,sv c),(3,iv n),(9,sv c),(10,iv c.len),(11,iv i)] [] m h}),
  (11,{A:=Nat×db,st:=λ⟨i,l⟩=>bS 36 37 [(6,.at (.lst 24)),(25,sv c),(26,iv c.len),(27,iv i)] [(24,.lst 3 1 (l.map eI))] m h})] [] [] false
noncomputable abbrev wI(a:Nat):=kE ((↑a:Int)-0)
abbrev Ka(a:Int):=a<=140737488355328
noncomputable abbrev vK(a:Int)(b:dc):=replicate a.toNat b
noncomputable abbrev CZ:=lJ dD
attribute [push_cast] wI Ka vK CZ
def TJ(n:Nat)(m:MH)(h:PH)(K:da):=
  fX (kE ((↑n:Int)-kE ((0:Int)-0))) 0 (aA (cF 0) (cF 0) (aA (0<wI n) (Ka (wI n*8)) (aH (Ka (wI n)) ((0:Int)<=0) (cF (mG (vK (wI n) CZ))) (K (CV.lst 3 1 []) m h)))) (K (CV.lst 3 1 []) m h)
abbrev I9(a:(Nat×Nat->Prop)->(Nat×Nat)->Prop)(b:(Nat×Nat->Prop)->(Nat×Nat->Nat)->(Nat×Nat)->Prop):=∃(x:Nat×Nat->Prop)(d:Nat×Nat->Nat),(∃(c:Nat×Nat),a x c)/\∀(c:Nat×Nat),b x d c
attribute [push_cast] I9
def T8 d m h K:=
  I9 (λI x=>aA (I x) (aJ d) (aA (bA x.2) (aJ d) (aA (bG d) (bA x.1) (aA (m=m) (h=h) True)))) (λI g x=>I x->aZ (↑x.1:Int) (aG d) (bF (λb o=>aH (aM d.a b o) (0<=(↑x.1:Int)) ((↑x.1:Int)<aG d) (∃(y:Sl),aL m h b (bK o x.1 1) (bH y)/\aZ (bC x.2 (aG y)) 0 False (∃(c:Nat×Nat),aA (I c) (g c<g x) (aA (aJ d) (fU (bC x.2 (aG y))=bP c.2) (aA (aJ d) (bG d) (aA (fU (bC x.1 1)=bP c.1) (m=m) (bQ h h)))))))) (∃(n:Nat),aA (cA Dn (↑x.2:Int)=cA Dn (↑n:Int)) (oV n) (LL (λI1 c=>aA (I1 c) (eL 24) (aA (aJ d) (bG d) (aA (bA c.1) (tN c.2) (aA (m=m) (h=h) True)))) (λI1 j c=>I1 c->aZ (↑c.1:Int) (aG d) (bF (λb o=>aH (aM d.a b o) (0<=(↑c.1:Int))
 ((↑c.1:Int)<aG d) (∃(y:Sl),aL m h b (bK o c.1 1) (bH y)/\∃(e:List dc),aA (eU 1 e) (cO h (Sl.mk y.a y.len y.cap) 1 e) (aA (tJ (fS c.2) e 8) (oL (fS c.2) e) (∃(f:Nat×db),aA (I1 f) (j f<j c) (aA (eL 24) (aJ d) (aA (bG d) (fU (bC c.1 1)=bP f.1) (aA (qR (fS c.2++e) f.2) (m=m) (bQ h h))))))))) (Gj h c.2 K m)))))
theorem aeZ:cz 198 cJJ:=by
 refine gW func198 ?_;rintro d m h K ⟨n,rfl,f,c⟩;refine⟨cZ [] [] [] [] true,rfl,aI,TJ n m h K,bh,?_⟩;dsimp only[TJ,push_cast];have e:IntKind.i64.wrap ((n:Int)-0)=n:=by rw[eM aD aD];omega
 have g:IntKind.i64.wrap ((n:Int)-IntKind.i64.wrap (0-0))=n:=by rw[show IntKind.i64.wrap (0-0)=0 from by rw[eM aD aD];rfl,e]
 exact aF (λj=>⟨aD,aD,aD,aD,aD,aD,aD,c⟩) (λ_=>c)
def Ch(ks:List db):=(ks.map List.length).sum
theorem Oc{k}(c:ks[i]? =some k):Ch (ks.take (i+1))=Ch (ks.take i)+k.length:=by
 unfold Ch;rw[cq,c];simp
theorem MF{ks:List db}(h:∀k∈ks,k.length<=12):∀i,Ch (ks.take i)<=12*i
 |0=>by simp[Ch]
 |i+1=>by
  have c:=MF h i;cases e:ks[i]? with
  |none=>rw[cq,e];grind
  |some k=>rw[Oc e];grind
theorem Rv:cz 154 MC:=by
 refine gW func154 ?_;rintro E m h K ⟨A,ks,rfl,x,L,d,F⟩;refine⟨bNX A m h,rfl,aE aeZ aI,T8 A m h K,bh,?_⟩;dsimp only[T8,push_cast];have j:=bI.slen x;refine⟨λ⟨i,n⟩=>i<=ks.length/\n=Ch (ks.take i),λ⟨i,_⟩=>ks.length-i,⟨(0,0),⟨aD,by simp[Ch]⟩,MT⟩,?_⟩;rintro⟨i,n⟩ ⟨B,rfl⟩;dsimp only;have G:=MF d i;refine aF (λc=>?_) (λt=>?_)
 .obtain⟨k,e⟩:=dW j c;obtain⟨b,o,g,y,r,f⟩:=bI.at x e;have H:=f.slen;have u:=d k (ce e)
  have I:IntKind.i64.wrap ((Ch (ks.take i):Int)+(g.len:Int))=((Ch (ks.take (i+1)):Nat):Int):=by
   rw[Oc e,eM aD aD];omega
  refine⟨b,o,y,aD,c,g,.imm r,?_⟩;rw[I];exact aF (λC=>by omega) (λ_=>⟨(i+1,Ch (ks.take (i+1))),⟨aD,rfl⟩,aD,MT⟩)
 .refine⟨Ch (ks.take i),rfl,aD,?_⟩;refine⟨λ⟨i,l⟩=>i<=ks.length/\l=(ks.take i).flatten,λ⟨i,_⟩=>ks.length-i,⟨(0,[]),⟨aD,bi⟩,MT⟩,?_⟩;clear G t B;rintro⟨i,l⟩ ⟨B,rfl⟩;dsimp only;have J:(ks.take i).flatten.length<=12*i:=by have:=MF d i;simpa[Ch,length_flatten]using this
  refine aF (λc=>?_) (λt g h' z D=>F g h' z ⟨?_,?_⟩)
  .obtain⟨k,e⟩:=dW j c;obtain⟨b,o,g,y,r,f⟩:=bI.at x e;have u:=d k (ce e);refine⟨b,o,y,aD,c,g,.imm r,k.map eI,qM k,f.row,?_,?_,(i+1,(ks.take (i+1)).flatten),⟨aD,rfl⟩,aD,?_⟩
   .grind
   .grind
   .rw[cq,e,Option.toList_some,flatten_append,cj,flatten_cons,flatten_nil,append_nil];exact MT
  .grind
  grind
theorem bbX:∀N,cz 75 (Hd N):=aKQ Rv
def XM(v:QV)(m:MH)(h:PH)(K:da):=
  lG m h (λb c=>iR m c b v.enc 41) (λb c=>K (DI 139 (Array.mk (lJ (vQp b 0)))) c h)
end Go.Ps
