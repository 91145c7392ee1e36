/-
  Part 7 of a proof that a law of the given program returns true: a condition generator that is proved sound, and contracts of functions. No condition of its own. Own work, joined by a program (pack2.py).
-/
import Derived.Test.YtmecdlibgejboaaGreatDoorNf
set_option linter.unusedVariables false
set_option linter.unusedSimpArgs false
namespace Go.Ps
open Go Go.Vc Go.Proofs List Tryz
variable{K:bu}{m:MH}{h:PH}{s:iJ}{ps:bt}{ts:ck}{cb:Nat}{sc:cN}{v:QV}{t:Step}{p:Pred}{l:bt}{i:Nat}{N:Nat}{m':MH}{h':PH}{co:bt}{gr:bt}{od:ca}{ta:Int}{li:Int}{xs:List bw}{sz:Nat}{ks:List bt}{rs:bt}{r:Sl}{a:bt}{b:Nat}
mutual
def jI:PN->Nat
 |.mk _ args _ _ _=>1+pP args
def pP:dn->Nat
 |[]=>0
 |p::ps=>jI p+pP ps
end
def G7(p:PN):Prop:=
 match p with
 |.mk (.mk op _ _ co on gr od _ _) args _ _ c=>(args.length:Int)=arity op/\0<=c/\c<=500/\co.length<=1000/\on.length<=1000/\gr.length<=1000/\od.length<=1000/\∀a∈args,G7 a
 termination_by SizeOf.sizeOf p
def bSZ(N:Nat):Vc.Spec:=λc m h K=>∃v p d e cb f ts rs,c=[cP cb,aPN v,cI d]/\mF h p v/\SizeOf.sizeOf p<N/\G7 p/\fH e m h cb f ts rs/\fM e/\ts.length+5*jI p<=90000/\rs.length+jI p<=90000/\
 ∀m' h',PH.le h h'->fH e m' h' cb f (eZ p d ts rs).1 (eZ p d ts rs).2->K (.tup []) m' h'
noncomputable def f50_ctx(N cb:Nat)(d:Int)(v:fT)(m:MH)(h:PH):Ctx:=
 uC [(50,bSZ N),(84,XM),(85,a0Q),(86,aVQ),(87,btX),(88,bsZ),(89,YV),(90,aVX)]
 [(13,{A:=Nat×bz×fT×fT,st:=λ⟨i,l,a,b⟩=>bY 236 239 [(0,pv cb),(2,iv d),(7,.at (.ptr 7 0)),(8,.at (.ptr 8 0)),(9,.at (.lst 82)),(70,iv b.width),(71,iv i)] [(7,.cells 107 (a.enc.map .val)),(8,.cells 107 (b.enc.map .val)),(82,.lst 91 2 (l.map pY))] m h})]
 [(11,{A:=fT×fT,st:=λ⟨a,b⟩=>bY 236 239 [(0,pv cb),(2,iv d),(7,.at (.ptr 7 0)),(8,.at (.ptr 8 0))] [(7,.cells 107 (a.enc.map .val)),(8,.cells 107 (b.enc.map .val))] m h}),
  (18,{A:=fT×fT×MH×PH,st:=λ⟨a,b,m,h⟩=>bY 236 239 [(0,pv cb),(2,iv d),(7,.at (.ptr 7 0)),(8,.at (.ptr 8 0))] [(7,.cells 107 (a.enc.map .val)),(8,.cells 107 (b.enc.map .val))] m h}),
  (21,{A:=fT×fT,st:=λ⟨a,b⟩=>bY 236 239 [(0,pv cb),(2,iv d),(6,.at (.ptr 6 0)),(11,.at (.ptr 11 0)),(12,.at (.ptr 12 0))] [(6,.cells 35 (v.query.enc.map .val)),(11,.cells 107 (a.enc.map .val)),(12,.cells 107 (b.enc.map .val))] m h}),
  (22,{A:=fT×fT×MH×PH,st:=λ⟨a,b,m,h⟩=>bY 236 239 [(0,pv cb),(2,iv d),(6,.at (.ptr 6 0)),(12,.at (.ptr 12 0))] [(6,.cells 35 (v.query.enc.map .val)),(12,.cells 107 (b.enc.map .val))] m h}),
  (25,{A:=MH×PH,st:=λ⟨m,h⟩=>bY 236 239 [(0,pv cb),(2,iv d),(4,.at (.ptr 4 0))] [(4,.cells 107 (v.enc.map .val))] m h}),
  (29,{A:=fT×fT,st:=λ⟨a,b⟩=>bY 236 239 [(0,pv cb),(2,iv d),(13,.at (.ptr 13 0)),(14,.at (.ptr 14 0))] [(13,.cells 107 (a.enc.map .val)),(14,.cells 107 (b.enc.map .val))] m h}),
  (30,{A:=fT×fT×MH×PH,st:=λ⟨a,b,m,h⟩=>bY 236 239 [(0,pv cb),(2,iv d),(13,.at (.ptr 13 0)),(14,.at (.ptr 14 0))] [(13,.cells 107 (a.enc.map .val)),(14,.cells 107 (b.enc.map .val))] m h}),
  (35,{A:=MH×PH,st:=λ⟨m,h⟩=>bY 236 239 [(0,pv cb),(2,iv d),(4,.at (.ptr 4 0)),(6,.at (.ptr 6 0))] [(4,.cells 107 (v.enc.map .val)),(6,.cells 35 (v.query.enc.map .val))] m h})] [] [1030] [] false
abbrev mH(a:fT)(b c:Int)(d:Nat->Nat->fT->Prop):Prop:=aW (λx e=>aI (aX a.args.a x e) (b<=c) (c<aG a.args) (∃(f:fT),d x e f))
noncomputable abbrev u9(a:fT):CV:=lG a.enc
abbrev oO(a:ct)(b:fT)(c:PH)(d:Nat)(e:MH)(g:Nat)(i:PN->Int->MH->Nat->Nat->ck->bt->Prop):Prop:=∃(x:PN)(u:Int)(f:MH),Nw (λj y n o=>aA (a=cT j::bT (u9 b) u) (mF c x b) (aA (SizeOf.sizeOf x<d) (G7 x) (aA (fH f e c j y n o) (fM f) (aA (n.length+g*jI x<=90000) (o.length+jI x<=90000) (i x u f j y n o)))))
noncomputable abbrev tA(a:Step)(b:ck):CV:=CV.val (dY (↑(bR a b).2:Int))
abbrev jY(a b:fT):Prop:=mZ 107 a.enc=mZ 107 b.enc
noncomputable abbrev nB(a:Nat×bz×fT×fT):fT×fT:=a.2.2
abbrev Iv(a:Prop)(b:fT×fT×MH×PH->Prop)(c:(fT×fT×MH×PH)->Prop):Prop:=a/\∀(x:fT×fT×MH×PH),b x->c x
noncomputable abbrev IP(a b:Int)(c:bt)(d:Int):Step:=Step.mk a b Jb c [] [] [] b d b
noncomputable abbrev zF(a:fT×fT×MH×PH):Nat->Nat->Option Value:=a.2.2.2
abbrev MC(a:ct)(b:Nat->Option Obj)(c:Nat->Nat->Option Value)(d:Int->Int->MH->Nat->Nat->ck->bt->Prop):Prop:=Fp (λx j=>∃(e:MH),Nw (λf n g o=>aA (a=cT f::bT (eG x) j) (fH e b c f n g o) (aA (fM e) (g.length<=100000) (d x j e f n g o))))
noncomputable abbrev yI(a b:Int):Step:=Step.mk 8 0 Jb [] [] [] [] 0 a b
abbrev Iu(a:Nat)(b c:Int)(d:Nat->Option Obj)(e:Nat->Nat->Option Value)(g:Int->Int->ck->MH->PH->Prop):Prop:=MC (cT a::bT (eG b) c) d e (λx j u y z n A=>eX (λo f=>cD e f (fH u o f y z (bR (yI x j) n).1 A) (g x j n o f)))
abbrev pE:Prop:=eP 13
attribute [push_cast] mH u9 oO tA jY nB Iv IP zF MC yI Iu pE
def aq(N cb:Nat)(v:fT)(d:Int)(m:MH)(h:PH)(K:bu):Prop:=
  dJ (wB v==1) (wO m h cb 1 (λy=>∃(x:List bw),aI (eC m (Sl.mk y.a y.len y.cap) 3 1 x) (iF (jJ x 1) 8) (lO x) (oD (λs E=>jP m E (Sl.mk y.a y.len y.cap) s 3 1 (fK x (bJ d))->rO E cb 1 (aY s) (λF=>wE K F h))))) (wB v==2) (mH v 0 0 (λb o y=>aU m h b (o+0) y.enc/\∃(G:fT),oO (cT cb::bT (u9 y) d) G h N m 5 (λp B E c F t r=>eX (λC e=>cD h e (fH E C e c F (eZ p B t r).1 (eZ p B t r).2) (wE K C e))))) (dJ (wB v==3) (mH v 0 0 (λb o y=>aU m h b (o+0) y.enc/\aW (λz u=>aI (aX v.args.a z u) ((0:Int)<=0) (0<aG v.args) (∃(j:Int),aI (aU m h z (u+0+23) (bJ j)) (bO h b (o+0) y.enc) (bO h z (u+0+23) (bJ j)) (Bx (λs c=>aI
 (iN v.query.columns=iN s) (Ints h s c) (iO c) (∀(X:Sl)(e:PH),cD h e (iD e X (mU c)) (bO e b (o+0) y.enc/\Ge cb j d X e m (λl r Z E L F t H=>eX (λC A=>cD e A (fH E C A L F (bR (wJ Z l r) t).1 H) (bO A z (u+0+23) (bJ j)/\∃(G:fT),oO (cT cb::bK (lG y.enc) (tA (wJ Z l r) t)) G A N C 5 (λp B J R Q D S=>eX (λO M=>cD A M (fH J O M R Q (eZ p B D S).1 (eZ p B D S).2) (wE K O M)))))))))))))) (wB v==4) (∃(I:fT×fT->Prop),mH v 0 0 (λb o y=>aU m h b (o+0) y.enc/\mH v 0 1 (λz u j=>aA (aU m h z (u+25) j.enc) (aA (aU m h b (o+0) y.enc) (aU m h z (u+25) j.enc) (aA (aU m h b (o+0) y.enc) (aU m h z (u+25) j.enc) (bO h z (u+25)
 j.enc/\∃(x:fT×fT),aA (I x) (cQ cb) (aA (dO d) iR (aA eN (jY y x.1) (aA (jY j x.2) (m=m) (bD h h))))))) (aA (aU m h b (o+0) y.enc) (aU m h z (u+25) j.enc) (aI (aU m h b (o+0) y.enc) (aU m h z (u+25) j.enc) (bO h z (u+25) j.enc) (∃(x:fT×fT),aA (I x) (cQ cb) (aA (dO d) iR (aA eN (jY y x.1) (aA (jY j x.2) (m=m) (bD h h)))))))))/\∀(x:fT×fT),I x->∃(I1:Nat×bz×fT×fT->Prop)(E:Nat×bz×fT×fT->Nat),(∃(f:Nat×bz×fT×fT),aA (I1 f) (cQ cb) (aA (dO d) iR (aA eN (eL 82) (aA (dA x.2.width (nB f).2.width) (bF f.1) (aA (jY x.1 (nB f).1) (jY x.2 (nB f).2) (aA (tY 91 2 (Er f.2.1)) (m=m) (bD h h)))))))/\∀(f:
 Nat×bz×fT×fT),I1 f->bA (↑f.1:Int) (nB f).2.width (jZ (Er f.2.1) 16 (∃(P:Nat×bz×fT×fT),aA (I1 P) (E P<E f) (aA (cQ cb) (dO d) (aA iR eN (aA (eL 82) (dA (nB f).2.width (nB P).2.width) (aA (fU (bG f.1 1)=bP P.1) (jY (nB f).1 (nB P).1) (aA (jY (nB f).2 (nB P).2) (cH 91 2 (fK (Er f.2.1) (CG (iE ((nB f).1.width+(↑f.1:Int))) (↑f.1:Int)))=cH 91 2 (Er P.2.1)) (bS (m=m) h h)))))))) (∃(I2:fT×fT×MH×PH->Prop),Iv (cG h 2 (Er f.2.1) (λs e=>Ge cb d (nB f).2.rows s e m (λl r o F c C t H=>eX (λJ A=>cD e A (fH F J A c C (bR (wJ o l r) t).1 H) (Fp (λa n=>aA (bT (eG 0) (nB f).1.width=bT (eG
 a) n) (bZ a) (aA (bZ n) (a<=1000) (n<=1000/\∀(X:Sl)(M:PH),cD A M (Ints M X (gH a n)) (∃(V:Int),Bx (λL R=>I9 (cT cb::bK (tA (wJ o l r) t) (dN X)) (λc3=>cT c3::bK (eG V) (dN L)) (Ints M L R) (iO R) J M (λQ c3 O D S=>eX (λU h4=>cD M h4 (fH Q U h4 c3 O (bR (IP 3 0 R V) D).1 S) (∃(G:fT),oO (cT cb::bK (lG (nB f).1.enc) (tA (IP 3 0 R V) D)) G h4 N U 5 (λp B m8 c4 m9 T Y=>eX (λa1 h5=>cD h4 h5 (fH m8 a1 h5 c4 m9 (eZ p B T Y).1 (eZ p B T Y).2) (∃(P:fT×fT×MH×PH),aA (I2 P) (cQ cb) (aA (dO d) iR (aA eN (jY (nB f).1 P.1) (aA (jY (nB f).2 P.2.1) (cV a1 P.2.2) (bD h5 (zF P))))))))))))))))))))) I2 (λP=>Fp (λa
 n=>aA (bT (eG P.1.width) P.2.1.width=bT (eG a) n) (bZ a) (aA (bZ n) (a<=1000) (n<=1000/\∀(s:Sl)(e:PH),cD (zF P) e (Ints e s (gH a n)) (∃(l:Int),Bx (λc L=>I9 (cT cb::bK (eG d) (dN s)) (λR=>cT R::bK (eG l) (dN c)) (Ints e c L) (iO L) P.2.2.1 e (λF R C t r=>eX (λJ A=>cD e A (fH F J A R C (bR (IP 3 0 L l) t).1 r) (∃(G:fT),oO (cT cb::bK (lG P.2.1.enc) (tA (IP 3 0 L l) t)) G A N J 5 (λp B Q c3 O D H=>eX (λU M=>cD A M (fH Q U M c3 O (eZ p B D H).1 (eZ p B D H).2) (wE K U M)))))))))))))) (dJ (wB v==5) (∃(I:fT×fT->Prop),mH v 0 0 (λb o y=>aU m h b (o+0) y.enc/\mH v 0 1 (λz u j=>aA (aU m h z (u+25) j.enc) (aA (aU m
 h b (o+0) y.enc) (aU m h z (u+25) j.enc) (aA (aU m h b (o+0) y.enc) (aU m h z (u+25) j.enc) (bO h z (u+25) j.enc/\∃(x:fT×fT),aA (I x) (cQ cb) (aA (dO d) (eP 6) (aA (eP 11) (eP 12) (aA (fA v.query) (jY y x.1) (aI (jY j x.2) (m=m) (h=h) True))))))) (aA (aU m h b (o+0) y.enc) (aU m h z (u+25) j.enc) (aI (aU m h b (o+0) y.enc) (aU m h z (u+25) j.enc) (bO h z (u+25) j.enc) (∃(x:fT×fT),aA (I x) (cQ cb) (aA (dO d) (eP 6) (aA (eP 11) (eP 12) (aA (fA v.query) (jY y x.1) (aI (jY j x.2) (m=m) (h=h) True)))))))))/\∀(x:fT×fT),I x->∃(I1:fT×fT×MH×PH->Prop),Iv (Ge cb d x.2.rows v.query.on h m (λl r o E c F t H=>eX (λC e=>cD h e (fH E C e c F (bR (wJ o l r) t).1 H) (∃(G:
 fT),oO (cT cb::bK (lG x.1.enc) (tA (wJ o l r) t)) G e N C 5 (λp B J L Q D S=>eX (λO A=>cD e A (fH J O A L Q (eZ p B D S).1 (eZ p B D S).2) (∃(f:fT×fT×MH×PH),aA (I1 f) (cQ cb) (aA (dO d) (eP 6) (aA (eP 12) (fA v.query) (aA (jY x.2 f.2.1) (cV O f.2.2) (bD A (zF f)))))))))))) I1 (λf=>Ke (λs o=>aI (iN v.query.on=iN s) (iD (zF f) s o) (lR o.length) (∀(X:Sl)(e:PH),cD (zF f) e (iD e X (oJ o)) (Ge cb f.2.1.env d X e f.2.2.1 (λl r u E c F t H=>eX (λC A=>cD e A (fH E C A c F (bR (wJ u l r) t).1 H) (∃(G:fT),oO (cT cb::bK (lG f.2.1.enc) (tA (wJ u l r) t)) G A N C 5 (λp B J L Q D S=>eX (λO M=>cD A M
 (fH J O M L Q (eZ p B D S).1 (eZ p B D S).2) (wE K O M))))))))))) (wB v==6) (∃(I:MH×PH->Prop),mH v 0 0 (λb o y=>aU m h b (o+0) y.enc/\aW (λz u=>aI (aX v.args.a z u) ((0:Int)<=0) (0<aG v.args) (∃(j:Int),aA (aU m h z (u+0+23) (bJ j)) (bO h b (o+0) y.enc) (Iu cb j d m h (λl r t E e=>bO e z (u+0+23) (bJ j)/\∃(G:fT),oO (cT cb::bK (lG y.enc) (tA (yI l r) t)) G e N E 5 (λp B F c C D H=>eX (λJ A=>cD e A (fH F J A c C (eZ p B D H).1 (eZ p B D H).2) (∃(x:MH×PH),aA (I x) (cQ cb) (aA (dO d) (eP 4) (aI (eQ (mZ 107 v.enc)) (cV J x) (A=x.2) True))))))))))/\∀(x:MH×PH),I x->mH v 0 1 (λb o y=>aU x.1 x.2 b (o+25) y.enc/\aW (λz u=>
 aI (aX v.args.a z u) ((0:Int)<=1) (1<aG v.args) (∃(j:Int),aA (aU x.1 x.2 z (u+25+23) (bJ j)) (bO x.2 b (o+25) y.enc) (Iu cb j d x.1 x.2 (λl r t E e=>bO e z (u+25+23) (bJ j)/\∃(G:fT),oO (cT cb::bK (lG y.enc) (tA (yI l r) t)) G e N E 5 (λp B F c C D H=>eX (λJ A=>cD e A (fH F J A c C (eZ p B D H).1 (eZ p B D H).2) (wE K J A))))))))) (dJ (wB v==7) (∃(I:fT×fT->Prop),mH v 0 0 (λb o y=>aU m h b (o+0) y.enc/\mH v 0 1 (λz u j=>aA (aU m h z (u+25) j.enc) (aA (aU m h b (o+0) y.enc) (aU m h z (u+25) j.enc) (aA (aU m h b (o+0) y.enc) (aU m h z (u+25) j.enc) (bO h z (u+25) j.enc/\∃(x:fT×fT),aA (I x) (cQ cb) (aA (dO d) pE (aA (eP
 14) (jY y x.1) (aA (jY j x.2) (m=m) (bD h h))))))) (aA (aU m h b (o+0) y.enc) (aU m h z (u+25) j.enc) (aI (aU m h b (o+0) y.enc) (aU m h z (u+25) j.enc) (bO h z (u+25) j.enc) (∃(x:fT×fT),aA (I x) (cQ cb) (aA (dO d) pE (aA (eP 14) (jY y x.1) (aA (jY j x.2) (m=m) (bD h h)))))))))/\∀(x:fT×fT),I x->∃(I1:fT×fT×MH×PH->Prop),Iv (∃(G:fT),oO (cT cb::bT (u9 x.1) d) G h N m 5 (λp B E c F t r=>eX (λC e=>cD h e (fH E C e c F (eZ p B t r).1 (eZ p B t r).2) (∃(f:fT×fT×MH×PH),aA (I1 f) (cQ cb) (aA (dO d) pE (aA (eP 14) (jY x.1 f.1) (aA (jY x.2 f.2.1) (cV C f.2.2) (bD e (zF f))))))))) I1 (λf=>Iu cb f.2.1.env d f.2.2.1 (zF f) (λl r t E e
 =>MC (cT cb::bT (tA (yI l r) t) f.1.rows) E e (λV H F c C D S=>eX (λJ A=>cD e A (fH F J A c C (bR (yI V H) D).1 S) (∃(G:fT),oO (cT cb::bK (lG f.2.1.enc) (tA (yI V H) D)) G A N J 5 (λp B Q L O T Y=>eX (λU M=>cD A M (fH Q U M L O (eZ p B T Y).1 (eZ p B T Y).2) (wE K U M))))))))) (wB v==8) (∃(I:fT×fT->Prop),mH v 0 0 (λb o y=>aU m h b (o+0) y.enc/\mH v 0 1 (λz u j=>aA (aU m h z (u+25) j.enc) (aA (aU m h b (o+0) y.enc) (aU m h z (u+25) j.enc) (aA (aU m h b (o+0) y.enc) (aU m h z (u+25) j.enc) (bO h z (u+25) j.enc/\∃(x:fT×fT),aA (I x) (cQ cb) (aA (dO d) pE (aA (eP 14) (jY y x.1) (aA (jY j x.2) (m=m) (bD h
 h))))))) (aA (aU m h b (o+0) y.enc) (aU m h z (u+25) j.enc) (aI (aU m h b (o+0) y.enc) (aU m h z (u+25) j.enc) (bO h z (u+25) j.enc) (∃(x:fT×fT),aA (I x) (cQ cb) (aA (dO d) pE (aA (eP 14) (jY y x.1) (aA (jY j x.2) (m=m) (bD h h)))))))))/\∀(x:fT×fT),I x->∃(I1:fT×fT×MH×PH->Prop),Iv (∃(G:fT),oO (cT cb::bT (u9 x.1) d) G h N m 5 (λp B E c F t r=>eX (λC e=>cD h e (fH E C e c F (eZ p B t r).1 (eZ p B t r).2) (∃(f:fT×fT×MH×PH),aA (I1 f) (cQ cb) (aA (dO d) pE (aA (eP 14) (jY x.1 f.1) (aA (jY x.2 f.2.1) (cV C f.2.2) (bD e (zF f))))))))) I1 (λf=>Iu cb f.2.1.env d f.2.2.1 (zF f) (λl r t E e=>MC (cT cb::bT (tA (yI l r) t)
 f.1.rows) E e (λV H F c C D S=>eX (λJ A=>cD e A (fH F J A c C (bR (yI V H) D).1 S) (∃(G:fT),oO (cT cb::bK (lG f.2.1.enc) (tA (yI V H) D)) G A N J 5 (λp B Q L O T Y=>eX (λU M=>cD A M (fH Q U M L O (eZ p B T Y).1 (eZ p B T Y).2) (wE K U M))))))))) (dJ (wB v==9) (mH v 0 0 (λb o y=>aU m h b (o+0) y.enc/\mH v 0 0 (λz u j=>aA (aU m h z (u+0) j.enc) (bO h b (o+0) y.enc) (∃(G:fT)(p:PN)(B:Int)(q:QV),Cg (λZ t w c o3 g W l a=>∃(E:MH),Nw (λL F D r=>aA (gP cb (u9 j::bK (eG d) (cC v.query))=gP L (u9 G::bK (eG B) (cC q))) (mF h p G) (aA (eO h (Query.mk Z t w c o3 g W l a) q) (iO g) (aA (lR W.length) (fH E m h L
 F D r) (aA (fM E) (D.length<=99999) (eX (λC e=>cD h e (fH E C e L F (z6 p B g W l D).1 r) (bO e z (u+0) j.enc/\∃(v2:fT),oO (cT cb::bT (u9 y) (↑(z6 p B g W l D).2:Int)) v2 e N C 5 (λp1 d2 J R Q T H=>eX (λO A=>cD e A (fH J O A R Q (eZ p1 d2 T H).1 (eZ p1 d2 T H).2) (wE K O A))))))))))))))) (wB v==10) (∃(I:MH×PH->Prop),mH v 0 0 (λb o y=>aU m h b (o+0) y.enc/\∃(G:fT),oO (cT cb::bT (u9 y) d) G h N m 5 (λp B E c F t r=>eX (λC e=>cD h e (fH E C e c F (eZ p B t r).1 (eZ p B t r).2) (∃(x:MH×PH),aA (I x) (cQ cb) (aA (dO d) (eP 4) (aA (eP 6) (eQ (mZ 107 v.enc)) (aA (fA v.query) (cV C x) (bD e x.2))))))))/\∀(x:MH×PH),I x->mH v 0 1
 (λb o y=>aU x.1 x.2 b (o+25) y.enc/\mH v 0 1 (λz u j=>aA (aU x.1 x.2 z (u+25) j.enc) (bO x.2 b (o+25) y.enc) (∃(G:fT)(p:PN)(B:Int)(q:QV),Cg (λZ t w c o3 g W l a=>∃(E:MH),Nw (λL F D r=>aA (gP cb (u9 j::bK (eG d) (cC v.query))=gP L (u9 G::bK (eG B) (cC q))) (mF x.2 p G) (aA (eO x.2 (Query.mk Z t w c o3 g W l a) q) (iO g) (aA (lR W.length) (fH E x.1 x.2 L F D r) (aA (fM E) (D.length<=99999) (eX (λC e=>cD x.2 e (fH E C e L F (z6 p B g W l D).1 r) (bO e z (u+25) j.enc/\∃(v2:fT),oO (cT cb::bT (u9 y) (↑(z6 p B g W l D).2:Int)) v2 e N C 5 (λp1 d2 J R Q T H=>eX (λO A=>cD e A (fH J O A R Q (eZ p1 d2 T H).1 (eZ p1 d2 T H).2)
 (wE K O A))))))))))))))) (wE K m h)))))
theorem F2{α:Type}{l:List α}(h:(l.length:Int)=1):∃a,l=[a]:=by
 match l,h with
 |[a],_=>exact⟨a,rfl⟩
 |[],h=>simp at h
 |_::_::_,h=>simp at h;omega
theorem qT{α:Type}{l:List α}(h:(l.length:Int)=2):∃a b,l=[a,b]:=by
 match l,h with
 |[a,b],_=>exact⟨a,b,rfl⟩
 |[],h=>simp at h
 |[_],h=>simp at h
 |_::_::_::_,h=>simp at h;omega
theorem G7.w{p:PN}(x:G7 p):0<=p.width/\p.width<=500:=by
 obtain⟨⟨op,ta,w,co,on,gr,od,li,c⟩,args,rows,env,d⟩:=p;rw[G7]at x;exact⟨x.2.1,x.2.2.1⟩
theorem Bf(a:PN)(d:Int)(gr:bt)(od:ca)(li:Int)(ts:ck):(z6 a d gr od li ts).1.length<=ts.length+2:=by
 unfold z6;have c:=dH (dE a.env d (rG gr)) ts;have e:=dH (Nk (bR (dE a.env d (rG gr)) ts).2 a.rows gr od li) (bR (dE a.env d (rG gr)) ts).1;dsimp only;omega
theorem fZ:∀(p:PN)(d:Int)(ts:ck)(rs:bt),(eZ p d ts rs).1.length<=ts.length+5*jI p/\(eZ p d ts rs).2.length<=rs.length+jI p
 |.mk (.mk op ta w co on gr od li g) args rows env n,d,ts,rs=>by
  rw[eZ.eq_def]
  match args with
  |[]=>dsimp only;split<;>simp[jI,pP]<;>omega
  |[a]=>
   dsimp only;simp only[jI,pP];split
   .have:=fZ a d ts rs;omega
   .split
    .have c:=dH (dE a.env d (mU co)) ts;have:=fZ a (bR (dE a.env d (mU co)) ts).2 (bR (dE a.env d (mU co)) ts).1 rs;omega
    .split
     .have c:=Bf a d gr od li ts;have:=fZ a (z6 a d gr od li ts).2 (z6 a d gr od li ts).1 rs;omega
     .dsimp only;omega
  |a::b::r=>
   dsimp only;simp only[jI,pP];split
   .have c:=dH (dE d b.rows (Am a.width b.width)) ts;generalize bR (dE d b.rows (Am a.width b.width)) ts=x at*
    have o:=dH (lZ x.2 (gH 0 a.width)) x.1;generalize bR (lZ x.2 (gH 0 a.width)) x.1=y at*
    have e:=fZ a y.2 y.1 rs;generalize eZ a y.2 y.1 rs=z at*
    have j:=dH (lZ d (gH a.width b.width)) z.1;generalize bR (lZ d (gH a.width b.width)) z.1=u at*
    have f:=fZ b u.2 u.1 z.2;omega
   .split
    .have c:=dH (dE d b.rows on) ts;generalize bR (dE d b.rows on) ts=x at*
     have e:=fZ a x.2 x.1 rs;generalize eZ a x.2 x.1 rs=z at*
     have j:=dH (dE b.env d (oJ on)) z.1;generalize bR (dE b.env d (oJ on)) z.1=u at*
     have f:=fZ b u.2 u.1 z.2;omega
    .split
     .have c:=dH (cK a.env d) ts;generalize bR (cK a.env d) ts=x at*
      have e:=fZ a x.2 x.1 rs;generalize eZ a x.2 x.1 rs=z at*
      have j:=dH (cK b.env d) z.1;generalize bR (cK b.env d) z.1=u at*
      have f:=fZ b u.2 u.1 z.2;omega
     .split
      .have e:=fZ a d ts rs;generalize eZ a d ts rs=z at*
       have c:=dH (cK b.env d) z.1;generalize bR (cK b.env d) z.1=x at*
       have j:=dH (cK x.2 a.rows) x.1;generalize bR (cK x.2 a.rows) x.1=u at*
       have f:=fZ b u.2 u.1 z.2;omega
      .split
       .have e:=fZ a d ts rs;generalize eZ a d ts rs=z at*
        have c:=Bf b d gr od li z.1;generalize z6 b d gr od li z.1=x at*
        have f:=fZ b x.2 x.1 z.2;omega
       .dsimp only;omega
 termination_by p=>SizeOf.sizeOf p
theorem Zc{m0:MH}{z:Nat}{d:Int}(c:fH m0 m h cb z ts rs)(hl:rs.length<=90000)(Y:∀m',fH m0 m' h cb z ts (rs++[d])->K (.tup []) m' h):
 ∃y:Sl,aU m h cb 1 [gU y]/\∃xs,eC m (Sl.mk y.a y.len y.cap) 3 1 xs/\(xs.length+1)*8<=140737488355328/\xs.length<140737488355328/\∀(V:Sl)(m':MH),jP m m' (Sl.mk y.a y.len y.cap) V 3 1 (xs++[[dY d]])->∃(cs:Array Value)(E:TypeId),MAt m' cb (Obj.cells cs E)/\1<cs.size/\∀(u:MH),iV m' u cb (Obj.cells (Array.mk (splice cs.toList 1 [gU V])) E)->K (CV.tup []) u h:=by
 obtain⟨s,r,g,⟨Z,W,P⟩,n,Q,G⟩:=c.ex;obtain⟨es,cl,A,R⟩:=c.map_.ex;refine⟨r,.of_m g rfl,rs.map eI,n,by rw[length_map];omega,by rw[length_map];omega,λH m1 D=>?_⟩
 have S:∀i,r.a≠some ⟨cb,i,none⟩:=λi e=>by
  obtain⟨B,f⟩:=eC.blk n e;rw[g]at f;cases f
 have T:∀i,r.a≠some ⟨z,i,none⟩:=λi e=>by
  obtain⟨B,f⟩:=eC.blk n e;rw[A]at f;cases f
 have I:cb≠z:=λe=>by rw[e,A]at g;cases g
 have x:=D.other cb _ g S;have J:=D.other z _ A T;refine⟨_,_,⟨x⟩,bj,λU F=>?_⟩;have F:iV m1 U cb (.cells #[.slice s.a s.len s.cap,.slice H.a H.len H.cap,.map (some z)] 103 (0,0)):=F
 have L:∀b o,m b=some o->b≠cb->(∀i,r.a≠some ⟨b,i,none⟩)->U b=some o:=λb o e n1 n3=>by
  rw[F.other b n1];exact D.other b o e n3
 have M:∀b i,H.a=some ⟨b,i,none⟩->b≠cb:=λb i e e2=>by
  obtain⟨B,f⟩:=eC.blk D.row e;rw[e2,x]at f;cases f
 refine Y U ⟨λb o e=>L b o (c.sub b o e) (λC=>by rw[C,c.cb0]at e;cases e) (λi C=>by rw[G b i C]at e;cases e),c.cb0,c.mb0,⟨es,cl,by rw[F.other z (Ne.symm I)];exact J,R⟩,c.nodup,s,H,F.at_,⟨Z,?_,P⟩,?_,Q,?_⟩
 .refine eC.keep W (λb i e=>?_);obtain⟨B,f⟩:=eC.blk W e;rw[f];refine L b _ f (λC=>?_) (λj C=>?_)
  .rw[C,g]at f;cases f
  .obtain⟨X,h4⟩:=eC.blk n C;rw[h4]at f;cases f
 .rw[map_append];exact eC.keep D.row (λb i e=>by rw[F.other b (M b i e)])
 .intro b i e;rcases D.fresh b i e with O|⟨j,O⟩
  .cases e0:m0 b with
   |none=>rfl
   |some o=>rw[c.sub b o e0]at O;cases O
  .exact G b j O
theorem mF.form{p:PN}{v:fT}(x:mF h p v):∃q s,v=⟨q,s,p.rows,p.env,p.width⟩:=by
 obtain⟨q,s,r,e,w⟩:=v;have c:=x.rows_;have d:=x.env_;have f:=x.width_;dsimp only at c d f;exact⟨q,s,by rw[c,d,f]⟩
theorem f50_all:∀N,br 50 (bSZ N)
 |0=>by
  refine eV (fn:=Tryz.f50) (c:=cL Tryz.f50) func50 rfl bk ?_;rintro c9 m h K ⟨v,p,d,B,cb,C,ts,rs,rfl,_,hN,_⟩;omega
 |N+1=>by
  refine hJ func50 ?_;rintro c9 m h K ⟨v,p,d,B,cb,C,ts,rs,rfl,hp,hN,ok,c,U,l1,l2,M⟩;refine⟨f50_ctx N cb d v m h,rfl,aE (f50_all N) (aE PJ (aE ZO (aE ZN (aE ZM (aE ZL (aE ZK (aE ZJ aH))))))),aq N cb v d m h K,bi,?_⟩;dsimp only[aq,push_cast];obtain⟨⟨op,ta,w,co,on,gr,od,li,a4⟩,args,rows,env,wd⟩:=p;obtain⟨hq,_,_,_,d1,vs,hr,b5⟩:=hp;rw[G7]at ok;obtain⟨oa,d2,d3,b6,b7,b8,b9,a7⟩:=ok;have x:=hq.parts;have n:v.args.len=args.length:=by have:=hr.len;rw[length_map,b5.length]at this;exact this
  have at_:∀{hx:PH}(_:PH.le h hx)(i:Nat)(a:PN)(_:args[i]? =some a),∃b o q s,v.args.a=some ⟨b,o,none⟩/\bO hx b (o+i*25) (fT.enc ⟨q,s,a.rows,a.env,a.width⟩)/\mF hx a ⟨q,s,a.rows,a.env,a.width⟩:=λle i a ha=>by
   obtain⟨b,o,u,e,r,H⟩:=brQ (hr.mono le) (j7.mono le b5) ha;obtain⟨q,s,rfl⟩:=H.form;exact⟨b,o,q,s,e,r,H⟩
  have a8:∀a∈args,SizeOf.sizeOf a<N:=λa ha=>by
   have:=sizeOf_lt_of_mem ha;simp only[PN.mk.sizeOf_spec]at hN;omega
  have j:∀{mx:MH}{hx:PH}(a:PN)(u:fT)(dd:Int)(a0:ck)(a1:bt){KK:MH->PH->Prop},a∈args->mF hx a u->fH B mx hx cb C a0 a1->a0.length+5*jI a<=90000->a1.length+jI a<=90000->(∀m' h',PH.le hx h'->fH B m' h' cb C (eZ a dd a0 a1).1 (eZ a dd a0 a1).2->KK m' h')->
   ∃(v:fT)(p:PN),∃(a9:Int)(B:MH),∃(a5 C:Nat)(ts:ck)(rs:bt),[cQp cb 0,lG (fT.enc u),eG dd]=[cQp a5 0,lG (fT.enc v),eG a9]/\mF hx p v/\SizeOf.sizeOf p<N/\G7 p/\fH B mx hx a5 C ts rs/\fM B/\ts.length+5*jI p<=90000/\rs.length+jI p<=90000/\∀(m':MH)(h':PH),hx.le h'->fH B m' h' a5 C (eZ p a9 ts rs).1 (eZ p a9 ts rs).2->KK m' h':=
   λa u dd a0 a1 KK ha H O b1 b2 hk=>⟨u,a,dd,B,cb,C,a0,a1,rfl,H,a8 a ha,a7 a ha,O,U,b1,b2,hk⟩
  show branch (v.query.op==1) _ _;rw[x.op_];simp only[jI]at l1 l2;refine aC (λe=>?_) (λn1=>aC (λe=>?_) (λn2=>aC (λe=>?_) (λn3=>aC (λe=>?_) (λn4=>aC (λe=>?_) (λn5=>aC (λe=>?_) (λn6=>aC (λe=>?_) (λn7=>aC (λe=>?_) (λn8=>aC (λe=>?_) (λn9=>aC (λe=>?_) (λd'=>?_))))))))))
  .have e:op=1:=bo e
   subst e;obtain rfl:args=[]:=eq_nil_of_length_eq_zero (by have:arity 1=0:=rfl;omega);rw[eZ]at M;exact Zc c aD (λm' c'=>M m' h (.refl _) (bo c'))
  .have e:op=2:=bo e
   subst e;obtain⟨a,rfl⟩:=F2 (l:=args) (by rw[oa];rfl);simp only[pP]at l1 l2;simp only[eZ,if_true]at M;obtain⟨b,o,Q,R,e,r,H⟩:=at_ (.refl _) 0 a rfl;exact⟨b,o,e,aD,by rw[n];simp,_,.imm r,j a _ d ts rs bj H c aD aD M⟩
  .have e:op=3:=bo e
   subst e;obtain⟨a,rfl⟩:=F2 (l:=args) (by rw[oa];rfl);simp only[pP]at l1 l2;simp only[eZ,if_true,show((3:Int)=2)=False by simp,if_false]at M;obtain⟨b,o,Q,R,e,r,H⟩:=at_ (.refl _) 0 a rfl;have rc:=(Me r).2.2.1;have hx:=dH (dE a.env d (mU co)) ts;refine⟨b,o,e,aD,by rw[n];simp,_,.imm r,b,o,e,aD,by rw[n];simp,_,.imm rc,r,rc,v.query.columns,co,rfl,x.columns_,b6,λs h1 S b0=>⟨r.mono S,a.env,d,s,mU co,B,cb,C,ts,rs,rfl,b0,Nat.le_trans (NU co co.length) b6,c.mono S,U,aD,λm2 h2 D O=>⟨rc.mono (S.trans D),?_⟩⟩⟩;have O:fH B m2 h2 cb C (bR (dE a.env d (mU co)) ts).1 rs:=O;exact j a _ _ _ _ bj (H.mono (S.trans D)) O aD aD (λL J g E=>M L J ((S.trans D).trans g) E)
  .have e:op=4:=bo e
   subst e;obtain⟨a,f,rfl⟩:=qT (l:=args) (by rw[oa];rfl);simp only[pP]at l1 l2;simp only[eZ,if_true]at M;obtain⟨b,o,Q,R,e,r,H⟩:=at_ (.refl _) 0 a rfl;obtain⟨b',o',X,P,e',A,G⟩:=at_ (.refl _) 1 f rfl;have wa:=(a7 a bj).w;have wb:=(a7 f bj).w;have a2:=dH (dE d f.rows (Am a.width f.width)) ts;have d0:=dH (lZ (bR (dE d f.rows (Am a.width f.width)) ts).2 (gH 0 a.width)) (bR (dE d f.rows (Am a.width f.width)) ts).1;have a3:=fZ a (bR (lZ (bR (dE d f.rows (Am a.width f.width)) ts).2 (gH 0 a.width)) (bR (dE d f.rows (Am a.width f.width)) ts).1).2 (bR (lZ (bR (dE d f.rows (Am a.width f.width)) ts).2 (gH 0 a.width)) (bR (dE d f.rows (Am a.width f.width)) ts).1).1 rs;generalize hZ:eZ a (bR (lZ (bR (dE d f.rows (Am a.width f.width)) ts).2 (gH 0 a.width)) (bR (dE d f.rows (Am a.width f.width)) ts).1).2 (bR (lZ (bR (dE d f.rows (Am a.width f.width)) ts).2 (gH 0 a.width)) (bR (dE d f.rows (Am a.width f.width)) ts).1).1 rs=Z at*
   have a6:=dH (lZ d (gH a.width f.width)) Z.1;refine⟨λx=>x=(⟨Q,R,a.rows,a.env,a.width⟩,⟨X,P,f.rows,f.env,f.width⟩),⟨b,o,e,aD,by rw[n];simp,_,.imm r,b',o',e',aD,by rw[n];simp,_,.imm A,⟨.imm r,.imm A,.imm r,.imm A,A,_,rfl,MT⟩,.imm r,.imm A,.imm r,.imm A,A,_,rfl,MT⟩,?_⟩;rintro _ rfl;obtain⟨k,hk⟩:∃k:Nat,f.width=k:=⟨f.width.toNat,aD⟩
   refine⟨λx=>x.1<=k/\x.2.1=Am a.width (x.1:Nat)/\x.2.2=(⟨Q,R,a.rows,a.env,a.width⟩,⟨X,P,f.rows,f.env,f.width⟩),λx=>k-x.1,⟨(0,[],_,_),⟨by show 0<=k;omega,rfl,rfl⟩,MT⟩,?_⟩;rintro⟨i,l,yz⟩ ⟨hi,Y,e2⟩;dsimp only at hi Y e2⊢
   subst Y e2;have d4:(Am a.width (i:Nat)).length=i:=by simp[Am]
   refine aF (λc0=>?_) (λc1=>?_)
   .have c0:(i:Int)<(k:Int):=by rw[<-hk];exact c0
    refine⟨by rw[length_map];omega,by rw[length_map];omega,(i+1,Am a.width ((i+1:Nat):Int),_,_),⟨by show i+1<=k;omega,rfl,rfl⟩,by show k-(i+1)<k-i;omega,?_⟩
    have e:Am a.width ((i+1:Nat):Int)=Am a.width (i:Nat)++[(IntKind.i64.wrap (a.width+(i:Int)),(i:Int))]:=by
     rw[dT aD aD];simp[Am,range_succ]
    rw[e,map_append];exact MT
   .have c1:¬(i:Int)<(k:Int):=by rw[<-hk];exact c1
    obtain rfl:i=k:=by omega
    rw[hk]at a2 d0 a3 hZ;refine⟨λx=>x.2.1=⟨X,P,f.rows,f.env,f.width⟩/\x.1=⟨Q,R,a.rows,a.env,a.width⟩/\PH.le h x.2.2.2/\fH B x.2.2.1 x.2.2.2 cb C Z.1 Z.2,λs h1 S b0=>⟨d,f.rows,s,Am a.width (i:Nat),B,cb,C,ts,rs,rfl,⟨b0,aD⟩,aD,c.mono S,U,aD,λm2 h2 D O=>?_⟩,?_⟩
    .have O:fH B m2 h2 cb C (bR (dE d f.rows (Am a.width (i:Nat))) ts).1 rs:=O;refine⟨0,a.width,rfl,aD,aD,aD,aD,λP J g b3=>⟨_,P,gH 0 a.width,B,cb,C,(bR (dE d f.rows (Am a.width (i:Nat))) ts).1,rs,rfl,b3,?_,O.mono g,U,aD,λm4 h4 V c4=>?_⟩⟩
     .simp[gH];omega
     .have c4:fH B m4 h4 cb C (bR (lZ (bR (dE d f.rows (Am a.width (i:Nat))) ts).2 (gH 0 a.width)) (bR (dE d f.rows (Am a.width (i:Nat))) ts).1).1 rs:=c4;have le:=((S.trans D).trans g).trans V;exact j a _ _ _ _ bj (H.mono le) c4 aD aD (λL J g E=>⟨(_,_,L,J),⟨rfl,rfl,le.trans g,by rw[<-hZ];exact E⟩,MT⟩)
    .rintro⟨y,z,L,J⟩ ⟨Y,e2,g,E⟩;dsimp only at Y e2 g E⊢
     subst Y e2;refine⟨a.width,f.width,rfl,aD,aD,aD,aD,λP h4 V b3=>⟨d,P,gH a.width f.width,B,cb,C,Z.1,Z.2,rfl,b3,by simp[gH];omega,E.mono V,U,aD,λm5 h5 F T=>?_⟩⟩;have T:fH B m5 h5 cb C (bR (lZ d (gH a.width f.width)) Z.1).1 Z.2:=T;have le:=(g.trans V).trans F;exact j f _ _ _ _ bj (G.mono le) T aD aD (λm6 h6 I W=>M m6 h6 (le.trans I) W)
  .have e:op=5:=bo e
   subst e;obtain⟨a,f,rfl⟩:=qT (l:=args) (by rw[oa];rfl);simp only[pP]at l1 l2;simp only[eZ,if_true,show((5:Int)=4)=False by simp,if_false]at M;obtain⟨b,o,Q,R,e,r,H⟩:=at_ (.refl _) 0 a rfl;obtain⟨b',o',X,P,e',A,G⟩:=at_ (.refl _) 1 f rfl;have a2:=dH (dE d f.rows on) ts;have a3:=fZ a (bR (dE d f.rows on) ts).2 (bR (dE d f.rows on) ts).1 rs;generalize hZ:eZ a (bR (dE d f.rows on) ts).2 (bR (dE d f.rows on) ts).1 rs=Z at*
   have a6:=dH (dE f.env d (oJ on)) Z.1;refine⟨λx=>x=(⟨Q,R,a.rows,a.env,a.width⟩,⟨X,P,f.rows,f.env,f.width⟩),⟨b,o,e,aD,by rw[n];simp,_,.imm r,b',o',e',aD,by rw[n];simp,_,.imm A,⟨.imm r,.imm A,.imm r,.imm A,A,_,rfl,MT⟩,.imm r,.imm A,.imm r,.imm A,A,_,rfl,MT⟩,?_⟩;rintro _ rfl;refine⟨λx=>x.2.1=⟨X,P,f.rows,f.env,f.width⟩/\PH.le h x.2.2.2/\fH B x.2.2.1 x.2.2.2 cb C Z.1 Z.2,⟨d,f.rows,v.query.on,on,B,cb,C,ts,rs,rfl,x.on_,b7,c,U,aD,λm2 h2 D O=>?_⟩,?_⟩
   .have O:fH B m2 h2 cb C (bR (dE d f.rows on) ts).1 rs:=O;exact j a _ _ _ _ bj (H.mono D) O aD aD (λL J g E=>⟨(⟨Q,R,a.rows,a.env,a.width⟩,_,L,J),⟨rfl,D.trans g,by rw[<-hZ];exact E⟩,MT⟩)
   .rintro⟨y,z,L,J⟩ ⟨Y,g,E⟩;dsimp only at Y g E⊢
    subst Y;refine⟨v.query.on,on,rfl,x.on_.mono g,b7,λs h4 V hs=>⟨f.env,d,s,oJ on,B,cb,C,Z.1,Z.2,rfl,hs,by simp[oJ];omega,E.mono V,U,aD,λm5 h5 F T=>?_⟩⟩;have T:fH B m5 h5 cb C (bR (dE f.env d (oJ on)) Z.1).1 Z.2:=T;have le:=(g.trans V).trans F;exact j f _ _ _ _ bj (G.mono le) T aD aD (λm6 h6 I W=>M m6 h6 (le.trans I) W)
  .have e:op=6:=bo e
   subst e;obtain⟨a,f,rfl⟩:=qT (l:=args) (by rw[oa];rfl);simp only[pP]at l1 l2;simp only[eZ,if_true,show((6:Int)=4)=False by simp,show((6:Int)=5)=False by simp,if_false]at M;obtain⟨b,o,Q,R,e,r,H⟩:=at_ (.refl _) 0 a rfl;have rc:=(Me r).2.2.1;have a2:=dH (cK a.env d) ts;have a3:=fZ a (bR (cK a.env d) ts).2 (bR (cK a.env d) ts).1 rs;generalize hZ:eZ a (bR (cK a.env d) ts).2 (bR (cK a.env d) ts).1 rs=Z at*
   have a6:=dH (cK f.env d) Z.1;refine⟨λx=>PH.le h x.2/\fH B x.1 x.2 cb C Z.1 Z.2,⟨b,o,e,aD,by rw[n];simp,_,.imm r,b,o,e,aD,by rw[n];simp,_,.imm rc,r,a.env,d,B,cb,C,ts,rs,rfl,c,U,aD,λm2 h2 D O=>⟨rc.mono D,?_⟩⟩,?_⟩
   .have O:fH B m2 h2 cb C (bR (cK a.env d) ts).1 rs:=O;exact j a _ _ _ _ bj (H.mono D) O aD aD (λL J g E=>⟨(L,J),⟨D.trans g,by rw[<-hZ];exact E⟩,MT⟩)
   .rintro⟨L,J⟩ ⟨g,E⟩;dsimp only at g E⊢
    obtain⟨b',o',X,P,e',A,G⟩:=at_ g 1 f rfl;have c8:=(Me A).2.2.1;refine⟨b',o',e',aD,by rw[n];simp,_,.imm A,b',o',e',aD,by rw[n];simp,_,.imm c8,A,f.env,d,B,cb,C,Z.1,Z.2,rfl,E,U,aD,λm5 h5 F T=>⟨c8.mono F,?_⟩⟩;have T:fH B m5 h5 cb C (bR (cK f.env d) Z.1).1 Z.2:=T;exact j f _ _ _ _ bj (G.mono F) T aD aD (λm6 h6 I W=>M m6 h6 ((g.trans F).trans I) W)
  .have e:op=7:=bo e
   subst e;obtain⟨a,f,rfl⟩:=qT (l:=args) (by rw[oa];rfl);simp only[pP]at l1 l2;simp only[eZ,if_true,show((7:Int)=4)=False by simp,show((7:Int)=5)=False by simp,show((7:Int)=6)=False by simp,if_false,true_or]at M;obtain⟨b,o,Q,R,e,r,H⟩:=at_ (.refl _) 0 a rfl;obtain⟨b',o',X,P,e',A,G⟩:=at_ (.refl _) 1 f rfl;have a3:=fZ a d ts rs;generalize hZ:eZ a d ts rs=Z at*
   have a2:=dH (cK f.env d) Z.1;have a6:=dH (cK (bR (cK f.env d) Z.1).2 a.rows) (bR (cK f.env d) Z.1).1;refine⟨λx=>x=(⟨Q,R,a.rows,a.env,a.width⟩,⟨X,P,f.rows,f.env,f.width⟩),⟨b,o,e,aD,by rw[n];simp,_,.imm r,b',o',e',aD,by rw[n];simp,_,.imm A,⟨.imm r,.imm A,.imm r,.imm A,A,_,rfl,MT⟩,.imm r,.imm A,.imm r,.imm A,A,_,rfl,MT⟩,?_⟩;rintro _ rfl;refine⟨λx=>x.1=⟨Q,R,a.rows,a.env,a.width⟩/\x.2.1=⟨X,P,f.rows,f.env,f.width⟩/\PH.le h x.2.2.2/\fH B x.2.2.1 x.2.2.2 cb C Z.1 Z.2,j a _ _ _ _ bj H c aD aD (λL J g E=>⟨(_,_,L,J),⟨rfl,rfl,g,by rw[<-hZ];exact E⟩,MT⟩),?_⟩;rintro⟨y,z,L,J⟩ ⟨Y,e2,g,E⟩;dsimp only at Y e2 g E⊢
   subst Y e2;refine⟨f.env,d,B,cb,C,Z.1,Z.2,rfl,E,U,aD,λm5 h5 F T=>⟨_,a.rows,B,cb,C,(bR (cK f.env d) Z.1).1,Z.2,rfl,T,U,aD,λm6 h6 I W=>?_⟩⟩;have W:fH B m6 h6 cb C (bR (cK (bR (cK f.env d) Z.1).2 a.rows) (bR (cK f.env d) Z.1).1).1 Z.2:=W;have le:=(g.trans F).trans I;exact j f _ _ _ _ bj (G.mono le) W aD aD (λm7 h7 b4 c7=>M m7 h7 (le.trans b4) c7)
  .have e:op=8:=bo e
   subst e;obtain⟨a,f,rfl⟩:=qT (l:=args) (by rw[oa];rfl);simp only[pP]at l1 l2;simp only[eZ,if_true,show((8:Int)=4)=False by simp,show((8:Int)=5)=False by simp,show((8:Int)=6)=False by simp,if_false,or_true]at M;obtain⟨b,o,Q,R,e,r,H⟩:=at_ (.refl _) 0 a rfl;obtain⟨b',o',X,P,e',A,G⟩:=at_ (.refl _) 1 f rfl;have a3:=fZ a d ts rs;generalize hZ:eZ a d ts rs=Z at*
   have a2:=dH (cK f.env d) Z.1;have a6:=dH (cK (bR (cK f.env d) Z.1).2 a.rows) (bR (cK f.env d) Z.1).1;refine⟨λx=>x=(⟨Q,R,a.rows,a.env,a.width⟩,⟨X,P,f.rows,f.env,f.width⟩),⟨b,o,e,aD,by rw[n];simp,_,.imm r,b',o',e',aD,by rw[n];simp,_,.imm A,⟨.imm r,.imm A,.imm r,.imm A,A,_,rfl,MT⟩,.imm r,.imm A,.imm r,.imm A,A,_,rfl,MT⟩,?_⟩;rintro _ rfl;refine⟨λx=>x.1=⟨Q,R,a.rows,a.env,a.width⟩/\x.2.1=⟨X,P,f.rows,f.env,f.width⟩/\PH.le h x.2.2.2/\fH B x.2.2.1 x.2.2.2 cb C Z.1 Z.2,j a _ _ _ _ bj H c aD aD (λL J g E=>⟨(_,_,L,J),⟨rfl,rfl,g,by rw[<-hZ];exact E⟩,MT⟩),?_⟩;rintro⟨y,z,L,J⟩ ⟨Y,e2,g,E⟩;dsimp only at Y e2 g E⊢
   subst Y e2;refine⟨f.env,d,B,cb,C,Z.1,Z.2,rfl,E,U,aD,λm5 h5 F T=>⟨_,a.rows,B,cb,C,(bR (cK f.env d) Z.1).1,Z.2,rfl,T,U,aD,λm6 h6 I W=>?_⟩⟩;have W:fH B m6 h6 cb C (bR (cK (bR (cK f.env d) Z.1).2 a.rows) (bR (cK f.env d) Z.1).1).1 Z.2:=W;have le:=(g.trans F).trans I;exact j f _ _ _ _ bj (G.mono le) W aD aD (λm7 h7 b4 c7=>M m7 h7 (le.trans b4) c7)
  .have e:op=9:=bo e
   subst e;obtain⟨a,rfl⟩:=F2 (l:=args) (by rw[oa];rfl);simp only[pP]at l1 l2;simp only[eZ,if_true,show((9:Int)=2)=False by simp,show((9:Int)=3)=False by simp,if_false]at M;obtain⟨b,o,Q,R,e,r,H⟩:=at_ (.refl _) 0 a rfl;have hx:=Bf a d gr od li ts;refine⟨b,o,e,aD,by rw[n];simp,_,.imm r,b,o,e,aD,by rw[n];simp,_,.imm r,r,_,a,d,v.query,9,ta,w,co,on,gr,od,li,a4,B,cb,C,ts,rs,rfl,H,hq,b8,b9,c,U,aD,λm2 h2 D O=>⟨r.mono D,j a _ _ _ _ bj (H.mono D) O aD aD (λL J g E=>M L J (D.trans g) E)⟩⟩
  .have e:op=10:=bo e
   subst e;obtain⟨a,f,rfl⟩:=qT (l:=args) (by rw[oa];rfl);simp only[pP]at l1 l2;simp only[eZ,if_true,show((10:Int)=4)=False by simp,show((10:Int)=5)=False by simp,show((10:Int)=6)=False by simp,show((10:Int)=7)=False by simp,show((10:Int)=8)=False by simp,if_false,or_false]at M;obtain⟨b,o,Q,R,e,r,H⟩:=at_ (.refl _) 0 a rfl;have a3:=fZ a d ts rs;generalize hZ:eZ a d ts rs=Z at*
   have a2:=Bf f d gr od li Z.1;refine⟨λx=>PH.le h x.2/\fH B x.1 x.2 cb C Z.1 Z.2,⟨b,o,e,aD,by rw[n];simp,_,.imm r,j a _ _ _ _ bj H c aD aD (λL J g E=>⟨(L,J),⟨g,by rw[<-hZ];exact E⟩,MT⟩)⟩,?_⟩;rintro⟨L,J⟩ ⟨g,E⟩;dsimp only at g E⊢
   obtain⟨b',o',X,P,e',A,G⟩:=at_ g 1 f rfl;exact⟨b',o',e',aD,by rw[n];simp,_,.imm A,b',o',e',aD,by rw[n];simp,_,.imm A,A,_,f,d,v.query,10,ta,w,co,on,gr,od,li,a4,B,cb,C,Z.1,Z.2,rfl,G,hq.mono g,b8,b9,E,U,aD,λm5 h5 F T=>⟨A.mono F,j f _ _ _ _ bj (G.mono F) T aD aD (λm6 h6 I W=>M m6 h6 ((g.trans F).trans I) W)⟩⟩
  .exfalso;have h0:0<=arity op:=by omega
   simp only[beq_eq_false_iff_ne]at n1 n2 n3 n4 n5 n6 n7 n8 n9 d';unfold arity at h0;simp only[beq_iff_eq,Bool.or_eq_true]at h0;rw[if_neg n1,if_neg aD,if_neg aD]at h0;omega
def bSJ:Vc.Spec:=λc m h K=>∃v p d e cb f ts rs,c=[cP cb,aPN v,cI d]/\mF h p v/\G7 p/\fH e m h cb f ts rs/\fM e/\ts.length+5*jI p<=90000/\rs.length+jI p<=90000/\
 ∀m' h',PH.le h h'->fH e m' h' cb f (eZ p d ts rs).1 (eZ p d ts rs).2->K (.tup []) m' h'
theorem ax:br 50 bSJ:=lI f50_all λ_ _ _ _⟨v,p,d,c,cb,f,ts,rs,e,g,j,n,o,u,x,y⟩=>⟨SizeOf.sizeOf p+1,v,p,d,c,cb,f,ts,rs,e,g,aD,j,n,o,u,x,y⟩
def Ot(r:cd)(o:OV):VV:=if o.kind=3 then o.value else if o.kind=1/\0<=o.index/\o.index<r.length then r.getD o.index.toNat zeroV else zeroV
def aoQ(d c:Int):Bool:=if d=1 then c==0 else if d=2 then c !=0 else if d=3 then decide (c<0)else if d=4 then decide (c<=0)else if d=5 then decide (c>0)else if d=6 then decide (c>=0)else false
def HC(c:Int)(a b:VV):Bool:=lY a&&lY b&&a.kind==b.kind&&aoQ c (lW a b)
mutual
def mE(r:cd):Pred->Bool
 |.mk op c a b args=>if op=1 then true else if op=3 then HC c (Ot r a) (Ot r b)else if op=4 then FB r args else if op=5 then FA r args else if op=6 then TS r args else false
def FB(r:cd):cq->Bool
 |[]=>true
 |p::ps=>mE r p&&FB r ps
def FA(r:cd):cq->Bool
 |[]=>false
 |p::ps=>mE r p||FA r ps
def TS(r:cd):cq->Bool
 |[]=>false
 |p::_=> !mE r p
end
theorem LM(r:cd):∀ps,FB r ps=ps.all (mE r)
 |[]=>by simp[FB]
 |p::ps=>by simp[FB,LM r ps]
theorem LL(r:cd):∀ps,FA r ps=ps.any (mE r)
 |[]=>by simp[FA]
 |p::ps=>by simp[FA,LL r ps]
def DenS:Vc.Spec:=λc m h K=>∃o s r,c=[aO o,cS s,CZ]/\cA h s r/\K (aV (Ot r o)) m h
def L7(p:Int->Bool):Vc.Spec:=λd m h K=>∃c,d=[cI c]/\K (cB (p c)) m h
def bxX:Vc.Spec:=λc m h K=>∃op,c=[cI op]/\
 branch (op==1) (K (fv 196) m h) (branch (op==2) (K (fv 197) m h) (branch (op==3) (K (fv 198) m h) (branch (op==4) (K (fv 199) m h) (branch (op==5) (K (fv 200) m h) (branch (op==6) (K (fv 201) m h) (K (.val .nilFunc) m h))))))
def aYJ(N:Nat):Vc.Spec:=λc m h K=>∃v s p r,c=[aP v,cS s,CZ]/\eH h p v/\cA h s r/\SizeOf.sizeOf p<N/\K (cB (mE r p)) m h
def aZQ:Vc.Spec:=λc m h K=>∃v s p r,c=[aP v,cS s,CZ]/\eH h p v/\cA h s r/\K (cB (mE r p)) m h
noncomputable def aLX(N:Nat)(v:PV)(s:Sl)(m:MH)(h:PH):Ctx:=
 cW [(167,DenS),(168,Ri),(169,bxX),(166,Rq),(122,aYJ N),(196,L7 (λc=>c==0)),(197,L7 (λc=>c !=0)),(198,L7 (λc=>decide (c<0))),(199,L7 (λc=>decide (c<=0))),(200,L7 (λc=>decide (c>0))),(201,L7 (λc=>decide (c>=0)))] [(12,{A:=Nat,st:=λi=>bY 102 105 [(1,sv s),(2,vv pO),(60,sv v.args),(61,iv v.args.len),(62,iv i)] [] m h}),
  (20,{A:=Nat,st:=λi=>bY 102 105 [(1,sv s),(2,vv pO),(75,sv v.args),(76,iv v.args.len),(77,iv i)] [] m h})] [(6,{A:=VV×VV,st:=λ⟨a,b⟩=>bY 102 105 [(3,.at (.ptr 3 0)),(7,.at (.ptr 7 0)),(8,.at (.ptr 8 0))] [(3,.cells 29 (v.enc.map .val)),(7,.cells 24 (a.enc.map .val)),(8,.cells 24 (b.enc.map .val))] m h})] [] false
def Qh(o:OV)(s:Sl)(m:MH)(h:PH)(K:bu):Prop:=
  dJ (o.kind==3) (K (hX o.value) m h) (o.kind==2) (bA o.index 0 (K (lG yU) m h) (fQ o.index 0 (K (lG yU) m h) (aW (λb c=>aI (aX Option.none b c) (0<=o.index) (o.index<0) (∃(y:VV),aU m h b (gC c o.index 3) y.enc/\K (hX y) m h))))) (dZ o.kind 1 (bA o.index 0 (K (lG yU) m h) (fQ o.index (aG s) (K (lG yU) m h) (aW (λb c=>aI (aX s.a b c) (0<=o.index) (o.index<aG s) (∃(y:VV),aU m h b (gC c o.index 3) y.enc/\K (hX y) m h))))) (K (lG yU) m h))
def KF(op:Int)(m:MH)(h:PH)(K:bu):Prop:=
  ∀(b:Nat)(e:MH),fC m h b->gO m e b (aR Value.nilFunc Value.nilFunc (aR Value.nilFunc Value.nilFunc (aR Value.nilFunc Value.nilFunc (kL Value.nilFunc)))) 247->Kf (λc E=>aA (MAt e b (B5 c E 0)) (7<=c.size) (∀(d:MH),gO e d b (aR Value.nilFunc (nC 196) (aR (nC 197) (nC 198) (aR (nC 199) (nC 200) (tZ (nC 201) 7 c.toList)))) E->bA op 0 (K (CV.val Value.nilFunc) d h) (fQ op 7 (K (CV.val Value.nilFunc) d h) (aA (bZ op) (op<7) (∃(y:Option Nat),aU d h b (gC 0 op 1) (kL (aPX y))/\K (CV.val (aPX y)) d h)))))
def aeQ(c:Int)(m:MH)(h:PH)(K:bu):Prop:=
  K (xZ (c==0)) m h
def adJ(c:Int)(m:MH)(h:PH)(K:bu):Prop:=
  K (xZ (j8 c)) m h
def adZ(c:Int)(m:MH)(h:PH)(K:bu):Prop:=
  K (xZ (decide (c<0))) m h
def adX(c:Int)(m:MH)(h:PH)(K:bu):Prop:=
  K (xZ (decide (c<=0))) m h
def adQ(c:Int)(m:MH)(h:PH)(K:bu):Prop:=
  K (xZ (decide (c>0))) m h
def acJ(c:Int)(m:MH)(h:PH)(K:bu):Prop:=
  K (xZ (decide (c>=0))) m h
noncomputable abbrev vB(a:OV)(b:Sl):ct:=vD a::bK (dN b) CZ
abbrev lA(a:cd)(b:OV)(c:VV):Prop:=oQ 24 (fF (At.val (dY (Ot a b).kind)) (At.val (dY (Ot a b).int)) (rI (At.val (Value.string (Ot a b).text))))=mZ 24 c.enc
abbrev wL(a:PV)(b:Sl)(c:PH)(d:OV->cd->(VV×VV)->Prop):Prop:=∃(x:OV),oK (λe f=>aA (vB a.right b=vB x e) (cA c e f) (∃(g:VV×VV),d x f g))
abbrev DP(a:VV×VV)(b:Int->Prop):Prop:=∃(x c:VV),bK (hX a.1) (hX a.2)=bK (hX x) (hX c)/\∃(d:Int),kH (lW x c) d/\b d
abbrev IV(a:PV->Sl->Pred->cd->Prop):Prop:=∃(x:PV)(c:Sl)(d:Pred)(e:cd),a x c d e
noncomputable abbrev AX(a:PV)(b:Sl):ct:=cZ a::bK (dN b) CZ
attribute [push_cast] vB lA wL DP IV AX
def QJ(N:Nat)(v:PV)(s:Sl)(m:MH)(h:PH)(K:bu):Prop:=
  dJ (v.op==1) (fJ K m h) (v.op==3) (∃(I:VV×VV->Prop),aI (∃(o:OV),oK (λd r=>aA (vB v.left s=vB o d) (cA h d r) (aA (∃(e:OV),oK (λu f=>aI (vB v.right s=vB e u) (cA h u f) (∃(x:VV×VV),aA (I x) dR (aA iR eN (aA (iS v) (lA r o x.1) (aA (lA f e x.2) (m=m) (bD h h))))) (∃(x:VV×VV),aA (I x) dR (aA iR eN (aA (iS v) (lA r o x.1) (aA (lA f e x.2) (m=m) (bD h h))))))) (wL v s h (λe f x=>aA (I x) dR (aA iR eN (aA (iS v) (lA r o x.1) (aA (lA f e x.2) (m=m) (bD h h)))))/\wL v s h (λe f x=>aA (I x) dR (aA iR eN (aA (iS v) (lA r o x.1) (aA (lA f e x.2) (m=m) (bD h h)))))) (wL v s h (λe f x=>aA (I x) dR (aA
 iR eN (aA (iS v) (lA r o x.1) (aA (lA f e x.2) (m=m) (bD h h)))))/\wL v s h (λe f x=>aA (I x) dR (aA iR eN (aA (iS v) (lA r o x.1) (aA (lA f e x.2) (m=m) (bD h h))))))))) ((∃(o:OV),oK (λd r=>aI (vB v.left s=vB o d) (cA h d r) (wL v s h (λe f x=>aA (I x) dR (aA iR eN (aA (iS v) (lA r o x.1) (aA (lA f e x.2) (m=m) (bD h h)))))) (wL v s h (λe f x=>aA (I x) dR (aA iR eN (aA (iS v) (lA r o x.1) (aA (lA f e x.2) (m=m) (bD h h))))))))/\∃(o:OV),oK (λd r=>aA (vB v.left s=vB o d) (cA h d r) (wL v s h (λe f x=>aA (I x) dR (aA iR eN (aA (iS v) (lA r o x.1) (aA (lA f e x.2) (m=m) (bD h h)))))))) (∃(o:
 OV),oK (λd r=>aI (vB v.left s=vB o d) (cA h d r) (wL v s h (λe f x=>aA (I x) dR (aA iR eN (aA (iS v) (lA r o x.1) (aA (lA f e x.2) (m=m) (bD h h)))))) (wL v s h (λe f x=>aA (I x) dR (aA iR eN (aA (iS v) (lA r o x.1) (aA (lA f e x.2) (m=m) (bD h h)))))))) (∃(o:OV),oK (λd r=>aA (vB v.left s=vB o d) (cA h d r) (wL v s h (λe f x=>aA (I x) dR (aA iR eN (aA (iS v) (lA r o x.1) (aA (lA f e x.2) (m=m) (bD h h))))))))/\∀(x:VV×VV),I x->∃(g:VV),fB (nE (hX x.1) (hX g)) (!(lY g)) (K bB m h) (∃(z:VV),nE (hX x.2) (hX z)/\dJ (!(lY z)) (K bB m h) (x.1.kind !=x.2.kind) (K bB m h) (∃(o:Int),kH v.cmp o/\dJ (o==
 1) (DP x (λc=>K (xZ (c==0)) m h)) (o==2) (DP x (λc=>K (xZ (j8 c)) m h)) (dJ (o==3) (DP x (λc=>K (xZ (decide (c<0))) m h)) (o==4) (DP x (λc=>K (xZ (decide (c<=0))) m h)) (dJ (o==5) (DP x (λc=>K (xZ (decide (c>0))) m h)) (o==6) (DP x (λc=>K (xZ (decide (c>=0))) m h)) (K bB m h)))))) (dJ (v.op==4) (mP (λI x=>aA (I x) (aJ s) (aA (eQ sQn) (aJ v.args) (aA (rW v) (bF x) (aA (m=m) (h=h) True)))) (λI n x=>I x->bA (↑x:Int) (aG v.args) (aW (λb o=>aI (aX v.args.a b o) (0<=(↑x:Int)) ((↑x:Int)<aG v.args) (∃(y:PV),aU m h b (bN o x 13) y.enc/\IV (λg d p r=>aA (AX y s=AX g d) (eH h p g) (aA (cA h d r) (qD p N) (qB (mE r p) (K bB m h) (∃(j:Nat),aA (I j) (n
 j<n x) (aA (aJ s) (eQ sQn) (aA (aJ v.args) (bI v.args) (aA (fU (bG x 1)=bP j) (m=m) (bD h h))))))))))) (fJ K m h))) (v.op==5) (mP (λI x=>aA (I x) (aJ s) (aA (eQ sQn) (aJ v.args) (aA (rW v) (bF x) (aA (m=m) (h=h) True)))) (λI n x=>I x->bA (↑x:Int) (aG v.args) (aW (λb o=>aI (aX v.args.a b o) (0<=(↑x:Int)) ((↑x:Int)<aG v.args) (∃(y:PV),aU m h b (bN o x 13) y.enc/\IV (λg d p r=>aA (AX y s=AX g d) (eH h p g) (aA (cA h d r) (qD p N) (branch (mE r p) (fJ K m h) (∃(j:Nat),aA (I j) (n j<n x) (aA (aJ s) (eQ sQn) (aA (aJ v.args) (bI v.args) (aA (fU (bG x 1)=bP j) (m=m) (bD h h))))))))))) (K bB m h))) (dZ v.op 6 (gM (rX v) 0 (aW (λb o=>aI (aX v.args.a b o)
 ((0:Int)<=0) (0<aG v.args) (∃(y:PV),aU m h b (o+0) y.enc/\IV (λg d p r=>aA (AX y s=AX g d) (eH h p g) (aA (cA h d r) (qD p N) (K (CV.val (Value.bool (!(mE r p)))) m h)))))) (K bB m h)) (K bB m h)))
theorem WK:br 167 DenS:=by
 refine hJ func167 ?_;rintro y m h K ⟨o,s,r,rfl,u,c⟩;refine⟨cW [] [] [] [] false,rfl,aH,Qh o s m h K,bi,?_⟩;dsimp only[Qh,push_cast];have z:=bV.slen u;unfold Ot at c;refine aC (λd=>?_) (λd=>aC (λg=>?_) (λg=>aC (λf=>?_) (λf=>?_)))
 .rw[if_pos (bo d)]at c;exact c
 .have g:o.kind=2:=bo g
  rw[if_neg aD,if_neg aD]at c;exact aF (λ_=>c) (λx=>aF (λ_=>c) (λj=>absurd (show o.index>=((0:Nat):Int)by omega) j))
 .have d:o.kind≠3:=bo d
  have f:o.kind=1:=bo f
  rw[if_neg d]at c;refine aF (λx=>?_) (λx=>aF (λj=>?_) (λj=>?_))
  .rw[if_neg aD]at c;exact c
  .rw[if_neg aD]at c;exact c
  .rw[if_pos ⟨f,aD,aD⟩]at c
   have A:r[o.index.toNat]? =some (r.getD o.index.toNat zeroV):=by
    rw[getD_eq_getElem?_getD,getElem?_eq_getElem aD];simp
   obtain⟨b,n,v,e,rd,rfl⟩:=bV.at u A;exact⟨b,n,e,aD,aD,_,.imm rd,c⟩
 .have d:o.kind≠3:=bo d
  have f:o.kind≠1:=bo f
  rw[if_neg d,if_neg (λe=>f e.1)]at c;exact c
theorem WJ:br 169 bxX:=by
 refine EU func169 ?_;rintro o m h K ⟨op,rfl,f⟩;refine⟨uC [] [] [] [] [247] [] false,rfl,aH,KF op m h (kE h K),bi,?_⟩;show KF op m h (kE h K);dsimp only[KF,push_cast];intro b F n g;refine⟨_,_,⟨g.at_⟩,bk,λu j=>?_⟩;have c:Sub m u:=((Sub.refl m).upd n.m_ g.other).upd n.m_ j.other;have e:=j.at_
 have d:∀k,¬(1<=op/\op<=6)->op=k->K (.val .nilFunc) m h:=λk G _=>by
  have:(op==1)=false/\(op==2)=false/\(op==3)=false/\(op==4)=false/\(op==5)=false/\(op==6)=false:=by
   simp only[beq_eq_false_iff_ne];omega
  obtain⟨x,y,z,A,B,C⟩:=this;rw[x,y,z,A,B,C]at f;exact f
 refine aF (λD=>.sub c (d _ aD rfl)) (λD=>aF (λE=>.sub c (d _ aD rfl)) (λE=>⟨aD,aD,?_⟩));have:op=0\/op=1\/op=2\/op=3\/op=4\/op=5\/op=6:=by omega
 rcases this with rfl|rfl|rfl|rfl|rfl|rfl|rfl
 .exact⟨none,.lent _ _ _ e rfl,.sub c (d 0 aD rfl)⟩
 .exact⟨some 196,.lent _ _ _ e rfl,.sub c f⟩
 .exact⟨some 197,.lent _ _ _ e rfl,.sub c f⟩
 .exact⟨some 198,.lent _ _ _ e rfl,.sub c f⟩
 .exact⟨some 199,.lent _ _ _ e rfl,.sub c f⟩
 .exact⟨some 200,.lent _ _ _ e rfl,.sub c f⟩
 .exact⟨some 201,.lent _ _ _ e rfl,.sub c f⟩
theorem Wm:br 196 (L7 (λc=>c==0)):=by
 refine hJ func196 ?_;rintro d m h K ⟨c,rfl,e⟩;refine⟨cW [] [] [] [] false,rfl,aH,aeQ c m h K,bi,?_⟩;exact e
theorem Wl:br 197 (L7 (λc=>c !=0)):=by
 refine hJ func197 ?_;rintro d m h K ⟨c,rfl,e⟩;refine⟨cW [] [] [] [] false,rfl,aH,adJ c m h K,bi,?_⟩;exact e
theorem Wk:br 198 (L7 (λc=>decide (c<0))):=by
 refine hJ func198 ?_;rintro d m h K ⟨c,rfl,e⟩;refine⟨cW [] [] [] [] false,rfl,aH,adZ c m h K,bi,?_⟩;exact e
theorem Wj:br 199 (L7 (λc=>decide (c<=0))):=by
 refine hJ func199 ?_;rintro d m h K ⟨c,rfl,e⟩;refine⟨cW [] [] [] [] false,rfl,aH,adX c m h K,bi,?_⟩;exact e
theorem Wh:br 200 (L7 (λc=>decide (c>0))):=by
 refine hJ func200 ?_;rintro d m h K ⟨c,rfl,e⟩;refine⟨cW [] [] [] [] false,rfl,aH,adQ c m h K,bi,?_⟩;exact e
theorem Wg:br 201 (L7 (λc=>decide (c>=0))):=by
 refine hJ func201 ?_;rintro d m h K ⟨c,rfl,e⟩;refine⟨cW [] [] [] [] false,rfl,aH,acJ c m h K,bi,?_⟩;exact e
theorem UQ:∀N,br 122 (aYJ N)
 |0=>by
  refine eV (fn:=Tryz.f122) (c:=cL Tryz.f122) func122 rfl bk ?_;rintro U m h K ⟨v,s,p,r,rfl,_,_,hN,_⟩;omega
 |N+1=>by
  refine hJ func122 ?_;rintro U m h K ⟨v,s,p,r,rfl,hp,I,hN,d⟩;refine⟨aLX N v s m h,rfl,aE WK (aE HF (aE WJ (aE HG (aE (UQ N) (aE Wm (aE Wl (aE Wk (aE Wj (aE Wh (aE Wg aH)))))))))),QJ N v s m h K,bi,?_⟩;dsimp only[QJ,push_cast];have B:=@zW p;obtain⟨op,a1,l,q,ps⟩:=p;obtain⟨rfl,rfl,rfl,rfl,J⟩:=hp.parts;have V:=J.slen;have a0:=J.len;simp only[Pred.args]at B;simp only[mE]at d;refine aC (λW=>?_) (λW=>aC (λX=>?_) (λX=>aC (λY=>?_) (λY=>aC (λZ=>?_) (λZ=>aC (λh6=>?_) (λh6=>?_)))))
  .rw[if_pos (bo W)]at d;exact d
  all_goals have n1:v.op≠1:=bo W
  .rw[if_neg n1,if_pos (bo X)]at d;refine⟨λx=>x=(Ot r v.left,Ot r v.right),?_,?_⟩
   .repeat' (first|exact⟨_,rfl,MT⟩|refine⟨v.left,s,r,rfl,I,?_⟩|refine⟨v.right,s,r,rfl,I,?_⟩|refine And.intro ?_ ?_)
   .rintro⟨a,b⟩ L;simp only[Prod.mk.injEq]at L;obtain⟨rfl,rfl⟩:=L;generalize Ot r v.left=a at d⊢
    generalize Ot r v.right=b at d⊢
    have hf:HC v.cmp a b=false->K (cB false) m h:=λe=>by rw[e]at d;exact d
    refine⟨a,rfl,aC (λo=>hf ?_) (λo=>⟨b,rfl,aC (λF=>hf ?_) (λF=>aC (λA=>hf ?_) (λA=>⟨v.cmp,rfl,?_⟩))⟩)⟩
    .have o:lY a=false:=bo o
     simp[HC,o]
    .have F:lY b=false:=bo F
     simp[HC,F]
    .have A:a.kind≠b.kind:=bo A
     simp[HC,A]
    .have o:lY a=true:=bo o
     have F:lY b=true:=bo F
     have A:a.kind=b.kind:=bo A
     have M:HC v.cmp a b=aoQ v.cmp (lW a b):=by simp[HC,o,F,A]
     rw[M]at d;unfold aoQ at d;refine aC (λE=>?_) (λE=>aC (λG=>?_) (λG=>aC (λH=>?_) (λH=>aC (λO=>?_) (λO=>aC (λT=>?_) (λT=>aC (λc6=>?_) (λc6=>?_))))))
     all_goals simp only[beq_iff_eq,beq_eq_false_iff_ne]at*
     .rw[if_pos E]at d;exact⟨a,b,rfl,_,rfl,d⟩
     .rw[if_neg E,if_pos G]at d;exact⟨a,b,rfl,_,rfl,d⟩
     .rw[if_neg E,if_neg G,if_pos H]at d;exact⟨a,b,rfl,_,rfl,d⟩
     .rw[if_neg E,if_neg G,if_neg H,if_pos O]at d;exact⟨a,b,rfl,_,rfl,d⟩
     .rw[if_neg E,if_neg G,if_neg H,if_neg O,if_pos T]at d;exact⟨a,b,rfl,_,rfl,d⟩
     .rw[if_neg E,if_neg G,if_neg H,if_neg O,if_neg T,if_pos c6]at d;exact⟨a,b,rfl,_,rfl,d⟩
     .rw[if_neg E,if_neg G,if_neg H,if_neg O,if_neg T,if_neg c6]at d;exact d
  all_goals have n3:v.op≠3:=bo X
  all_goals rw[if_neg n1,if_neg n3]at d
  .rw[if_pos (bo Y),LM]at d;refine⟨λi=>i<=ps.length/\∀j:Nat,j<i->∀x,ps[j]? =some x->mE r x=true,λi=>ps.length-i,⟨0,⟨aD,λj C=>by omega⟩,MT⟩,λi⟨hi,f⟩=>aF (λg=>?_) (λa'=>?_)⟩
   .obtain⟨x,n⟩:=eF V g;obtain⟨P,Q,u,o,R,S⟩:=J.at n;have:=B (mem_of_getElem? n);refine⟨P,Q,o,aD,g,u,.imm R,u,s,x,r,rfl,S,I,aD,aC (λD=>?_) (λhe=>⟨i+1,⟨aD,λj C y z=>?_⟩,(show ps.length-(i+1)<ps.length-i by omega),MT⟩)⟩
    .have:ps.all (mE r)=false:=by
      cases A:ps.all (mE r)with
      |false=>rfl
      |true=>rw[all_eq_true]at A;rw[A x (mem_of_getElem? n)]at D;cases D
     rw[this]at d;exact d
    .by_cases M:j=i
     .subst M;rw[n]at z;cases z;simpa using he
     .exact f j aD y z
   .have:ps.all (mE r)=true:=by
     rw[all_eq_true];intro y z;obtain⟨j,C⟩:=getElem?_of_mem z;exact f j (by have:=(List.getElem?_eq_some_iff.1 C).1;omega) y C
    rw[this]at d;exact d
  all_goals have n4:v.op≠4:=bo Y
  all_goals rw[if_neg n4]at d
  .rw[if_pos (bo Z),LL]at d;refine⟨λi=>i<=ps.length/\∀j:Nat,j<i->∀x,ps[j]? =some x->mE r x=false,λi=>ps.length-i,⟨0,⟨aD,λj C=>by omega⟩,MT⟩,λi⟨hi,f⟩=>aF (λg=>?_) (λa'=>?_)⟩
   .obtain⟨x,n⟩:=eF V g;obtain⟨P,Q,u,o,R,S⟩:=J.at n;have:=B (mem_of_getElem? n);refine⟨P,Q,o,aD,g,u,.imm R,u,s,x,r,rfl,S,I,aD,aC (λhe=>?_) (λD=>⟨i+1,⟨aD,λj C y z=>?_⟩,(show ps.length-(i+1)<ps.length-i by omega),MT⟩)⟩
    .have:ps.any (mE r)=true:=any_eq_true.2 ⟨x,mem_of_getElem? n,he⟩;rw[this]at d;exact d
    .by_cases M:j=i
     .subst M;rw[n]at z;cases z;exact D
     .exact f j aD y z
   .have:ps.any (mE r)=false:=by
     rw[any_eq_false];intro y z;obtain⟨j,C⟩:=getElem?_of_mem z;rw[f j (by have:=(List.getElem?_eq_some_iff.1 C).1;omega) y C];simp
    rw[this]at d;exact d
  all_goals have n5:v.op≠5:=bo Z
  all_goals rw[if_neg n5]at d
  .rw[if_pos (bo h6)]at d;refine aF (λh7=>?_) (λh7=>?_)
   .obtain⟨x,n⟩:=eF (i:=0) V aD;obtain⟨P,Q,u,o,R,S⟩:=J.at n;have:=B (mem_of_getElem? n)
    have e7:TS r ps= !mE r x:=by
     cases ps with
     |nil=>simp at n
     |cons y _=>simp at n;subst n;rfl
    rw[e7]at d;exact⟨P,Q,o,aD,aD,u,.imm (bo R),u,s,x,r,rfl,S,I,aD,d⟩
   .have:ps=[]:=length_eq_zero_iff.1 aD;subst this;exact d
  .rw[if_neg (bo h6)]at d;exact d
theorem Xg:br 122 aZQ:=lI UQ λ_ _ _ _⟨v,s,p,r,e,c,d,f⟩=>⟨SizeOf.sizeOf p+1,v,s,p,r,e,c,d,aD,f⟩
structure hU(w:Nat)(l:bx):Prop where
 row:∀r∈l,SD r
 wid:∀r∈l,r.length=w
 srt:j9 l
 len:l.length<=1000000
def G6(l:bx)(x:cd):Bool:=l.any λy=>dP x y==0
theorem GJ{l:bx}{x:cd}:G6 l x=true↔x∈l:=by
 simp only[G6,any_eq_true,beq_iff_eq,jM];exact⟨λ⟨y,c,d⟩=>d▸c,λh=>⟨x,h,rfl⟩⟩
theorem fW.sub{c:PH}{r:CV}(sub:Sub m m')(le:PH.le h c)(d:K r m c):fW h K r m' c:=λ_=>⟨m,c,sub,le,λ_ _ _ e=>.inl e,d⟩
structure CU(m:MH)(y:Nat)(ks:db):Prop where
 ex:∃kk:db,vT m y (kk.map λk=>(Value.string k,Value.bool true))/\∀k,k∈kk↔k∈ks
theorem CU.new{y:Nat}(h:m y=some (.map #[] 0)):CU m y []:=⟨[],⟨#[],0,h,rfl,bj,bj⟩,bj⟩
theorem CU.get{y:Nat}{ks:db}{key:ByteArray}{K:Bool->Prop}(s:CU m y ks)(g:∀t:Bool,(t=true↔key∈ks)->K t):
 ∃(d:List (Value×Bool))(Ok:Value->Prop),vR m y (d.map λp=>(p.1,Value.bool p.2))/\KeyLaw Tryz.prog 9 Ok/\Ok (.string key)/\(∀e,List.Mem e d->Ok e.1)/\((∀e,List.Mem e d->e.1=Value.string key->False)->K false)/\∀t,List.Mem (Value.string key,t) d->K t:=by
 obtain⟨j,⟨u,c,x,z,_,_⟩,n⟩:=s.ex;refine⟨j.map λk=>(Value.string k,true),_,⟨u,c,x,by rw[z];simp⟩,Bm,⟨key,rfl⟩,λe A=>?_,λB=>g false ⟨λe=>(by cases e),λf=>?_⟩,λt o=>g t ⟨λ_=>?_,λ_=>?_⟩⟩
 .obtain⟨k,_,rfl⟩:=mem_map.1 (show e∈_ from A);exact⟨k,rfl⟩
 .exact(B (Value.string key,true) (mem_map.2 (⟨key,(n key).2 f,rfl⟩:∃a,a∈j/\(Value.string a,true)=(Value.string key,true))) rfl).elim
 .obtain⟨k,f,e⟩:=mem_map.1 (show(Value.string key,t)∈_ from o);simp only[Prod.mk.injEq,Value.string.injEq]at e;rw[<-e.1];exact(n k).1 f
 .obtain⟨k,f,e⟩:=mem_map.1 (show(Value.string key,t)∈_ from o);simp only[Prod.mk.injEq]at e;exact e.2.symm
theorem Ti(key:ByteArray):Instr.sameBits 10000 (Value.string key) (Value.string key)=true:=by
 show(key==key)=true;cases key with
 |mk d=>exact beq_self_eq_true d
theorem CU.put{y:Nat}{ks:db}{key:ByteArray}{Q:MH->Prop}(s:CU m y ks)(A:∀m':MH,pX m m' y->CU m' y (key::ks)->Q m'):
 ∃(c:ci)(Ok:Value->Prop),vT m y c/\KeyLaw Tryz.prog 9 Ok/\Ok (.string key)/\Instr.sameBits 10000 (Value.string key) (Value.string key)=true/\(∀e,List.Mem e c->Ok e.1)/\((∀e,List.Mem e c->e.1=Value.string key->False)->∀m':MH,pX m m' y->vT m' y (c++[(Value.string key,Value.bool true)])->Q m')/\
  ∀(n:ci)(g:Value)(o:ci),c=n++(Value.string key,g)::o->∀m':MH,pX m m' y->vT m' y (n++(Value.string key,Value.bool true)::o)->Q m':=by
 obtain⟨j,B,u⟩:=s.ex;refine⟨_,_,B,Bm,⟨key,rfl⟩,Ti key,λe C=>?_,λE m' x d=>A m' x ⟨j++[key],bo d,λk=>?_⟩,λn g o e m' x d=>A m' x ⟨j,?_,λk=>?_⟩⟩
 .obtain⟨k,_,rfl⟩:=mem_map.1 (show e∈_ from C);exact⟨k,rfl⟩
 .simp[u,or_comm]
 .have:(Value.string key,g)∈j.map λk=>(Value.string k,Value.bool true):=by rw[e];simp
  obtain⟨k,_,f⟩:=mem_map.1 this;simp only[Prod.mk.injEq]at f;rw[<-f.2]at e;rw[e];exact d
 .have:(Value.string key,g)∈j.map λk=>(Value.string k,Value.bool true):=by rw[e];simp
  obtain⟨D,z,f⟩:=mem_map.1 this;simp only[Prod.mk.injEq,Value.string.injEq]at f;rw[u];constructor
  .exact mem_cons_of_mem _
  .intro h;rcases mem_cons.1 h with rfl|h
   .rw[<-f.1];exact(u D).1 z
   .exact h
theorem vO{α:Type}{l:List α}{k:Nat}{x:α}(p:α->Bool)(c:l[k]? =some x):(l.take (k+1)).filter p=(l.take k).filter p++(if p x then[x]else[]):=by
 rw[take_add_one,c,Option.toList_some,filter_append];congr 1;cases e:p x<;>simp[e]
def brX(n:Nat):Query->List bx->Prop:=λ_ c=>n<=c.length/\∀l∈c,∃w,hU w l
def Yk(q:Query)(ls:List bx):bx:=match q with|.mk _ _ w _ _ _ _ _ _=>(ls.getD 0 []).filter λr=>mE r w
theorem gS.app{us vs:ce}{a b:bx}(x:gS h us a)(y:gS h vs b):gS h (us++vs) (a++b):=by
 refine⟨by simp[x.len,y.len],λj r c=>?_⟩;have f:=x.len;by_cases g:j<a.length
 .rw[getElem?_append_left g]at c;obtain⟨u,d,e⟩:=x.at_ j r c;exact⟨u,by rw[getElem?_append_left aD];exact d,e⟩
 .rw[getElem?_append_right aD]at c;obtain⟨u,d,e⟩:=y.at_ _ r c;exact⟨u,by rw[getElem?_append_right aD,f];exact d,e⟩
def bAZ(_:Query)(ls:List bx):bx:=Dq (ls.getD 0 []++ls.getD 1 [])
def bqJ(q:Query)(ls:List bx):bx:=match q with|.mk _ _ _ co _ _ _ _ _=>Dq ((ls.getD 0 []).map λr=>pick r co)
def atQ(q:Query)(ls:List bx):Prop:=match q with|.mk _ _ _ co _ _ _ _ _=>1<=ls.length/\co.length<=12/\∃w,hU w (ls.getD 0 [])/\jC w co
theorem arQ{r:cd}{y:VV}(d:(pick r co)[i]? =some y)(e:i<co.length):((pick r co).take i++replicate (co.length-i) zeroV).set i y=(pick r co).take (i+1)++replicate (co.length-(i+1)) zeroV:=by
 have c:(pick r co).length=co.length:=by simp[pick]
 rw[set_append,if_neg (by simp;omega)];rw[take_add_one,d,Option.toList_some,append_assoc];congr 1;rw[show co.length-i=(co.length-(i+1))+1 by omega,replicate_succ];simp[c,Nat.min_eq_left (Nat.le_of_lt e)]
theorem Zg{r:cd}(d:i<co.length):(((pick r co).take i++replicate (co.length-i) zeroV).map VV.enc)[i]? =some (VV.enc zeroV):=by
 have c:(pick r co).length=co.length:=by simp[pick]
 rw[getElem?_map,getElem?_append_right (by simp;omega),getElem?_replicate,if_pos (by simp;omega)];rfl
theorem Dy{m0:MH}{o:Obj}(c:Sub m0 m)(g:fC m h b)(j:iV m m' b o):Sub m0 m'/\m0 b=none:=by
 have d:m0 b=none:=by
  cases e:m0 b with
  |none=>rfl
  |some x=>have f:=c b x e;rw[g.m_]at f;cases f
 exact⟨c.upd d j.other,d⟩
def RT(_:Query)(ls:List bx):Prop:=2<=ls.length/\∃w,∀l∈ls,hU w l
def bEJ(_:Query)(ls:List bx):bx:=(ls.getD 0 []).filter λx=>G6 (ls.getD 1 []) x==false
def axZ(_:Query)(ls:List bx):bx:=(ls.getD 0 []).filter λx=>G6 (ls.getD 1 []) x==true
def lF:ca->cd->cd->Int
 |[],a,b=>dP a b
 |(c,d)::r,a,b=>if 0<=c/\c<a.length/\c<b.length then(if lW (a.getD c.toNat zeroV) (b.getD c.toNat zeroV)≠0 then(if d then-lW (a.getD c.toNat zeroV) (b.getD c.toNat zeroV)else lW (a.getD c.toNat zeroV) (b.getD c.toNat zeroV))else lF r a b)else lF r a b
def OR:Vc.Spec:=λc m h K=>∃o s t od a b,c=[cS o,cS s,cS t]/\jD h o od/\cA h s a/\cA h t b/\K (cI (lF od a b)) m h
noncomputable def aJZ(o s t:Sl)(m:MH)(h:PH):Ctx:=
 cW [(166,Rq),(118,Hh)] [(2,{A:=Nat,st:=λi=>bY 55 58 [(1,sv s),(2,sv t),(10,sv o),(11,iv o.len),(12,iv i)] [] m h})] [] [] false
def QE(o s t:Sl)(m:MH)(h:PH)(K:bu):Prop:=
  mP (λI x=>aA (I x) (aJ s) (aA (aJ t) (aJ o) (aA (bI o) (bF x) (aA (m=m) (h=h) True)))) (λI d x=>I x->bA (↑x:Int) (aG o) (aW (λb f=>aI (aX o.a b f) (0<=(↑x:Int)) ((↑x:Int)<aG o) (∃(y:Int×Bool),aU m h b (bN f x 2) (yR y)/\bA y.1 0 (∃(c:Nat),aA (I c) (d c<d x) (aA (aJ s) (aJ t) (aA (aJ o) (bI o) (aA (fU (bG x 1)=bP c) (m=m) (bD h h))))) (dJ (decide (y.1>=aG s)) (∃(c:Nat),aA (I c) (d c<d x) (aA (aJ s) (aJ t) (aA (aJ o) (bI o) (aA (fU (bG x 1)=bP c) (m=m) (bD h h))))) (decide (y.1>=aG t)) (∃(c:Nat),aA (I c) (d c<d x) (aA (aJ s) (aJ t) (aA (aJ o) (bI o) (aA (fU (bG x 1)=bP c) (m=m) (bD h h))))) (aW (λg j=>aI (aX s.a g j) (0<=
 y.1) (y.1<aG s) (∃(n:VV),aU m h g (gC j y.1 3) n.enc/\aW (λu z=>aI (aX t.a u z) (0<=y.1) (y.1<aG t) (∃(A:VV),aU m h u (gC z y.1 3) A.enc/\∃(a e:VV),bK (hX n) (hX A)=bK (hX a) (hX e)/\dJ (lW a e==0) (∃(c:Nat),aA (I c) (d c<d x) (aA (aJ s) (aJ t) (aA (aJ o) (bI o) (aA (fU (bG x 1)=bP c) (m=m) (bD h h))))) y.2 (K (eG (iE (0-lW a e))) m h) (K (eG (lW a e)) m h)))))))))) (∃(B:Sl),oK (λC a=>∃(b:cd),aI (dX s t=dX B C) (cA h B a) (cA h C b) (K (eG (dP a b)) m h))))
theorem Xz(a b:VV): -1<=lW a b/\lW a b<=1:=by
 have c:∀x y:Int, -1<=BN x y/\BN x y<=1:=λx y=>by unfold BN;split<;>(try split)<;>omega
 have g:=(NI a.text.data.toList b.text.data.toList).2;have d: -1<=O8 a.text b.text/\O8 a.text b.text<=1:=by unfold O8;omega
 have e:=c a.kind b.kind;have f:=c a.int b.int;unfold lW;split
 .exact e
 .split
  .exact f
  .exact d
theorem akQ{c:Int}{d:Bool}{r:ca}{a b:cd}(h:¬(0<=c/\c<a.length/\c<b.length)):lF ((c,d)::r) a b=lF r a b:=by
 rw[lF,if_neg h]
theorem boX{c:Int}{d:Bool}{r:ca}{a b:cd}{x y:VV}(g:0<=c)(e:a[c.toNat]? =some x)(f:b[c.toNat]? =some y):lF ((c,d)::r) a b=if lW x y≠0 then(if d then-lW x y else lW x y)else lF r a b:=by
 have j:=(List.getElem?_eq_some_iff.1 e).1;have n:=(List.getElem?_eq_some_iff.1 f).1;rw[lF,if_pos ⟨g,aD,aD⟩];rw[getD_eq_getElem?_getD,getD_eq_getElem?_getD,e,f];rfl
theorem Oj:br 136 OR:=by
 refine hJ func136 ?_;rintro M m h K ⟨o,s,t,od,a,b,rfl,D,E,F,j⟩;refine⟨aJZ o s t m h,rfl,aE HG (aE BC aH),QE o s t m h K,bi,?_⟩;dsimp only[QE,push_cast];have G:=D.slen;have O:=D.len;have P:=bV.slen E;have Q:=bV.slen F;refine⟨λi=>i<=od.length/\lF od a b=lF (od.drop i) a b,λi=>od.length-i,⟨0,⟨aD,bj⟩,MT⟩,λi⟨hi,d⟩=>aF (λn=>?_) (λR=>?_)⟩
 .obtain⟨⟨c,B⟩,L⟩:=eF G n;obtain⟨S,T,U,V⟩:=D.row.get (i:=i) (e:=BU (c,B)) (by simp[L]);rw[drop_cons L]at d
  have skip:¬(0<=c/\c<a.length/\c<b.length)->∃f:Nat,(λi=>i<=od.length/\lF od a b=lF (od.drop i) a b) f/\(λi=>od.length-i) f<(λi=>od.length-i) i/\eQ (sQs s)/\eQ (sQs t)/\eQ (sQs o)/\eQ (fU ↑o.len)/\fU (IntKind.i64.wrap ((i:Int)+1))=fU ↑f/\m=m/\h=h/\True:=λW=>
   ⟨i+1,⟨aD,by rw[d,akQ W]⟩,(show od.length-(i+1)<od.length-i by omega),MT⟩
  refine⟨S,T,U,aD,n,(c,B),.imm V,aF (λH=>skip (λe=>by have:c<0:=H;omega)) (λH=>aF (λI=>skip (λe=>by have:c>=(s.len:Int):=I;omega)) (λI=>aF (λJ=>skip (λe=>by have:c>=(t.len:Int):=J;omega)) (λJ=>?_)))⟩;dsimp only at H I J⊢
  obtain⟨x,z⟩:∃x,a[c.toNat]? =some x:=⟨_,getElem?_eq_getElem aD⟩
  obtain⟨y,A⟩:∃y,b[c.toNat]? =some y:=⟨_,getElem?_eq_getElem aD⟩
  obtain⟨X,Y,u,Z,r2,rfl⟩:=bV.at E z;obtain⟨b3,o3,u,e3,r3,rfl⟩:=bV.at F A;rw[boX aD z A]at d;have a':=Xz x y;refine⟨X,Y,Z,aD,aD,x,.imm r2,b3,o3,e3,aD,aD,y,.imm r3,x,y,rfl,aC (λC=>⟨i+1,⟨aD,?_⟩,(show od.length-(i+1)<od.length-i by omega),MT⟩) (λC=>aC (λg=>?_) (λg=>?_))⟩
  .rw[d,if_neg (bo C)]
  .have g:B=true:=g;rw[d,if_pos (bo C),if_pos g]at j;rw[dT aD aD,Int.zero_sub];exact j
  .have g:B=false:=g;rw[d,if_pos (bo C),if_neg (by simp[g])]at j;exact j
 .rw[d,drop_eq_nil_of_le aD,lF]at j;exact⟨s,t,a,b,rfl,E,F,j⟩
def JB(w:Nat):ca->cd->cd->Int
 |[],a,b=>dP a b
 |(c,d)::r,a,b=>if 0<=c/\c<w then(if(if d then-lW (a.getD c.toNat zeroV) (b.getD c.toNat zeroV)else lW (a.getD c.toNat zeroV) (b.getD c.toNat zeroV))≠0 then(if d then-lW (a.getD c.toNat zeroV) (b.getD c.toNat zeroV)else lW (a.getD c.toNat zeroV) (b.getD c.toNat zeroV))else JB w r a b)else JB w r a b
theorem Cx{w:Nat}:∀{od:ca}{a b:cd},a.length=w->b.length=w->lF od a b=JB w od a b
 |[],_,_,_,_=>rfl
 |(c,g)::r,a,b,d,f=>by
  rw[lF,JB,d,f,Cx (od:=r) d f];by_cases h:0<=c/\c<w
  .rw[if_pos ⟨h.1,h.2,h.2⟩,if_pos h];cases g<;>simp
  .rw[if_neg (λe=>h ⟨e.1,e.2.1⟩),if_neg h]
theorem Rr.neg{α:Type}{c:α->α->Int}(h:Rr c):Rr (λx y=> -c x y):=by
 refine⟨λx y=>by have:=h.anti x y;omega,λx y z d e=>?_⟩;have f:=h.anti x y;have g:=h.anti y z;have j:=h.anti x z;have:=h.trans z y x aD aD;omega
theorem JA(w:Nat):∀od,Rr (JB w od)
 |[]=>FJ
 |(c,d)::r=>by
  have f:=JA w r;have g:Rr (λa b:cd=>lW (a.getD c.toNat zeroV) (b.getD c.toNat zeroV)):=JC.of λa:cd=>a.getD c.toNat zeroV;by_cases h:0<=c/\c<w
  .have e:JB w ((c,d)::r)=λa b=>if(if d then-lW (a.getD c.toNat zeroV) (b.getD c.toNat zeroV)else lW (a.getD c.toNat zeroV) (b.getD c.toNat zeroV))≠0 then(if d then-lW (a.getD c.toNat zeroV) (b.getD c.toNat zeroV)else lW (a.getD c.toNat zeroV) (b.getD c.toNat zeroV))else JB w r a b:=by
    funext a b;rw[JB,if_pos h]
   rw[e];cases d
   .exact g.lex f
   .exact g.neg.lex f
  .have e:JB w ((c,d)::r)=JB w r:=by funext a b;rw[JB,if_neg h]
   rw[e];exact f
theorem aQX{w:Nat}(od:ca):Sort.SWO (Go.Proofs.ltOf (fun(x y:EY h (λl=>l.length=w))=>lF od x.l y.l)):=by
 have e:(fun(x y:EY h (λl=>l.length=w))=>lF od x.l y.l)=λx y=>JB w od x.l y.l:=by
  funext x y;exact Cx x.pr_ y.pr_
 rw[e];exact(JA w od).swo
def a4Z(on:bz)(ls:List bx):Prop:=2<=ls.length/\∃w c,hU w (ls.getD 0 [])/\hU c (ls.getD 1 [])/\jC w (nI on)/\jC c (iQ on)
def asX(q:Query)(ls:List bx):Prop:=match q with|.mk _ _ _ _ on _ _ _ _=>a4Z on ls
def agree(on:bz)(x y:cd):Bool:=dP (pick x (nI on)) (pick y (iQ on))==0
def bqX(q:Query)(ls:List bx):bx:=match q with|.mk _ _ _ _ on _ _ _ _=>(ls.getD 0 []).filter λx=>(ls.getD 1 []).any λy=>agree on x y
theorem alX{on:bz}{x y:cd}:agree on x y=true↔pick x (nI on)=pick y (iQ on):=by
 simp only[agree,beq_iff_eq,jM]
theorem Ie{r:cd}{cols:bt}(c:SD r)(d:jC r.length cols):∀v∈pick r cols,VOk v:=λv e=>c.val v (Tx d e)
theorem Ko{κ:cd->ByteArray}(c:amZ κ){on:bz}{x y:cd}(d:SD x)(e:SD y)(f:jC x.length (nI on))(g:jC y.length (iQ on)):κ (pick x (nI on))=κ (pick y (iQ on))↔agree on x y=true:=by
 rw[alX];exact c.inj (by simp[pick,nI,iQ]) (Ie d f) (Ie e g)
structure qW(m0 m:MH)(y:Nat)(kk:cm)(us:ByteArray->ce):Prop where
 map_:vT m y (kk.map λp=>(Value.string p.1,gU p.2))
 nodup:(kk.map Prod.fst).Nodup
 row:∀p∈kk,eC m p.2 100 1 ((us p.1).map eS)
 fresh:∀p∈kk,∀x i,p.2.a=some ⟨x,i,none⟩->m0 x=none
 apart:∀p∈kk,∀q∈kk,p.1≠q.1->∀x i j,p.2.a=some ⟨x,i,none⟩->q.2.a≠some ⟨x,j,none⟩
 none_:∀k,k∉kk.map Prod.fst->us k=[]
 old:∀x o,m0 x=some o->x≠y->m x=some o
def ET(kk:cm)(key:ByteArray)(s:Sl):Prop:=(s=⟨none,0,0⟩/\key∉kk.map Prod.fst)\/(key,s)∈kk
theorem qW.new{y:Nat}(h:m y=some (.map #[] 0)):qW m m y [] λ_=>[]:=⟨⟨#[],0,h,rfl,bj,bj⟩,bj,bj,bj,bj,λ_ _=>rfl,λ_ _ e _=>e⟩
theorem ET.row{m0:MH}{y:Nat}{kk:cm}{us:ByteArray->ce}{key:ByteArray}{s:Sl}(g:qW m0 m y kk us)(d:ET kk key s):eC m s 100 1 ((us key).map eS)/\∀x i,s.a=some ⟨x,i,none⟩->m0 x=none:=by
 rcases d with⟨rfl,f⟩|c
 .rw[g.none_ key f];exact⟨⟨H7 [],.inl ⟨rfl,rfl⟩⟩,λx i e=>by cases e⟩
 .exact⟨g.row _ c,g.fresh _ c⟩
def MW(us:ByteArray->ce)(key:ByteArray)(e:Sl):ByteArray->ce:=λk=>if k=key then us k++[e]else us k
theorem qW.core{m0 m1:MH}{y:Nat}{kk A:cm}{us:ByteArray->ce}{key:ByteArray}{s I e:Sl}(g:qW m0 m y kk us)(E:∃o,m0 y=some o)(S:ET kk key s)(J:jP m m1 s I 100 1 ((us key).map eS++[[gU e]]))
 (U:vT m' y (A.map λp=>(Value.string p.1,gU p.2)))(u:pX m1 m' y)(V:(A.map Prod.fst).Nodup)(z:∀p∈A,p=(key,I)\/(p∈kk/\p.1≠key))(L:(key,I)∈A)(W:∀k,k∈kk.map Prod.fst->k∈A.map Prod.fst):qW m0 m' y A (MW us key e):=by
 obtain⟨oy,E⟩:=E;obtain⟨a0,G⟩:=S.row g;obtain⟨es,c,h1,_⟩:=g.map_;have a1:∀i,s.a≠some ⟨y,i,none⟩:=λi d=>by rw[G y i d]at E;cases E
 have M:∀x,m x=none->m0 x=none:=λx H=>by
  cases T:m0 x with
  |none=>rfl
  |some o=>
   by_cases O:x=y
   .subst O;rw[H]at h1;cases h1
   .rw[g.old x o T O]at H;cases H
 have F:∀x i,I.a=some ⟨x,i,none⟩->m0 x=none:=λx i d=>by
  rcases J.fresh x i d with h|⟨j,h⟩
  .exact M x h
  .exact G x j h
 have D:∀p∈kk,∀x i,p.2.a=some ⟨x,i,none⟩->∃o,m x=some o:=λp B x i d=>by
  rcases(g.row p B).ex with⟨h,_⟩|⟨b,a2,a3,h,U,_⟩
  .rw[h]at d;cases d
  .rw[h]at d;simp only[Option.some.injEq,Addr.mk.injEq]at d;exact⟨_,d.1▸U⟩
 have P:∀p∈kk,p.1≠key->∀x i j,p.2.a=some ⟨x,i,none⟩->s.a≠some ⟨x,j,none⟩:=λp B f x i j d C=>by
  rcases S with⟨rfl,_⟩|S
  .cases C
  .exact g.apart p B _ S f x i j d C
 refine⟨U,V,λp B=>?_,λp B x i d=>?_,λp B q hq f x i j d C=>?_,λk hk=>?_,λx o T f=>?_⟩
 .rcases z p B with rfl|⟨n,f⟩
  .have X:(MW us key e key).map eS=(us key).map eS++[[gU e]]:=by simp[MW,eS]
   rw[X];exact eC.keep J.row λb i d=>u.other b (λC=>by rw[C]at d;rw[F y i d]at E;cases E)
  .have X:MW us key e p.1=us p.1:=if_neg f;rw[X];refine eC.keep (g.row p n) λb i d=>?_;obtain⟨o,Q⟩:=D p n b i d;rw[u.other b (λC=>by rw[C]at d;rw[g.fresh p n y i d]at E;cases E),Q];exact J.other b o Q (λj=>P p n f b i j d)
 .rcases z p B with rfl|⟨n,_⟩
  .exact F x i d
  .exact g.fresh p n x i d
 .have H:∀p∈kk,p.1≠key->∀i j,p.2.a=some ⟨x,i,none⟩->I.a≠some ⟨x,j,none⟩:=λp B f i j d C=>by
   rcases J.fresh x j C with h|⟨j',h⟩
   .obtain⟨o,Q⟩:=D p B x i d;rw[h]at Q;cases Q
   .exact P p B f x i j' d h
  rcases z p B with rfl|⟨n,Y⟩<;>rcases z q hq with rfl|⟨R,Z⟩
  .exact f rfl
  .exact H q R Z j i C d
  .exact H p n Y i j d C
  .exact g.apart p n q R f x i j d C
 .have a':k≠key:=λd=>hk (mem_map.2 ⟨_,L,d.symm⟩);simp only[MW,if_neg a'];exact g.none_ k λh=>hk (W k h)
 .rw[u.other x f];exact J.other x o (g.old x o T f) (λi d=>by have h5:=G x i d;rw[T]at h5;cases h5)
theorem qW.put{m0 D:MH}{y:Nat}{kk:cm}{us:ByteArray->ce}{key:ByteArray}{s A e:Sl}{Q:MH->Prop}(g:qW m0 m y kk us)(E:∃o,m0 y=some o)(F:ET kk key s)(G:jP m D s A 100 1 ((us key).map eS++[[gU e]]))
 (S:∀m' H,qW m0 m' y H (MW us key e)->Q m'):
 ∃(j:ci)(Ok:Value->Prop),vT D y j/\KeyLaw Tryz.prog 9 Ok/\Ok (.string key)/\Instr.sameBits 10000 (Value.string key) (Value.string key)=true/\(∀e,List.Mem e j->Ok e.1)/\((∀e,List.Mem e j->e.1=Value.string key->False)->∀m':MH,pX D m' y->vT m' y (j++[(Value.string key,gU A)])->Q m')/\
  ∀(I:ci)(T:Value)(J:ci),j=I++(Value.string key,T)::J->∀m':MH,pX D m' y->vT m' y (I++(Value.string key,gU A)::J)->Q m':=by
 have L:∀i,s.a≠some ⟨y,i,none⟩:=λi n=>by
  obtain⟨o,U⟩:=E;rw[(F.row g).2 y i n]at U;cases U
 obtain⟨W,c,X,Y,Z,h4⟩:=g.map_;refine⟨kk.map λp=>(Value.string p.1,gU p.2),_,⟨W,c,G.other _ _ X L,Y,Z,h4⟩,Bm,⟨key,rfl⟩,Ti key,λe he=>?_,λhn m' d x=>?_,λI T J e0 m' d x=>?_⟩
 .obtain⟨k,_,rfl⟩:=mem_map.1 (show e∈_ from he);exact⟨k.1,rfl⟩
 .have B:key∉kk.map Prod.fst:=λh=>by
   obtain⟨p,M,n⟩:=mem_map.1 h;subst n;exact hn _ (mem_map_of_mem (f:=λp:ByteArray×Sl=>(Value.string p.1,gU p.2)) M) rfl
  refine S m' (kk++[(key,A)]) (g.core E F G (bo x) d ?_ ?_ bj (λk O=>by rw[map_append];exact mem_append_left _ O))
  .rw[map_append,nodup_append];refine⟨g.nodup,bj,λa ha b V n=>?_⟩;simp at V;subst n V;exact B ha
  .intro p M;rcases mem_append.1 M with h|h
   .exact .inr ⟨h,λn=>B (n▸mem_map_of_mem h)⟩
   .exact .inl (bo h)
 .obtain⟨k1,a',e1,n,e3⟩:=map_eq_append_iff.1 e0;obtain⟨p,k2,e4,P,e6⟩:=map_eq_cons_iff.1 e3;subst e1 e4 n e6;simp only[Prod.mk.injEq,Value.string.injEq]at P;have z:=g.nodup;rw[map_append,map_cons,P.1]at z;have u:=nodup_append.1 z;have C:=nodup_cons.1 u.2.1;refine S m' (k1++(key,A)::k2) (g.core E F G (bo x) d (bo z) ?_ bj (λk O=>by simpa[P.1]using O));intro q hq;rcases mem_append.1 hq with h|h
  .exact .inr ⟨mem_append_left _ h,λR=>u.2.2 q.1 (mem_map_of_mem h) key (mem_cons_self ..) R⟩
  .rcases mem_cons.1 h with h|h
   .exact .inl h
   .exact .inr ⟨mem_append_right _ (mem_cons_of_mem _ h),λR=>C.1 (R▸mem_map_of_mem h)⟩
theorem qW.get2{m0:MH}{y:Nat}{kk:cm}{us:ByteArray->ce}{key:ByteArray}{K0:Prop}{K:Sl->Prop}(g:qW m0 m y kk us)(n:ET kk key ⟨none,0,0⟩->K0)(o:∀s,ET kk key s->K s):
 ∃(d:dj)(Ok:Value->Prop),vR m y (d.map λp=>(p.1,gU p.2))/\KeyLaw Tryz.prog 9 Ok/\Ok (.string key)/\(∀e,List.Mem e d->Ok e.1)/\((∀e,List.Mem e d->e.1=Value.string key->False)->K0)/\∀t,List.Mem (Value.string key,t) d->K t:=by
 obtain⟨u,c,x,z,_,_⟩:=g.map_;refine⟨kk.map λp=>(.string p.1,p.2),_,⟨u,c,x,by rw[z];simp⟩,Bm,⟨key,rfl⟩,λe A=>?_,λB=>n (.inl ⟨rfl,λh=>?_⟩),λt C=>o t (.inr ?_)⟩
 .obtain⟨k,_,rfl⟩:=mem_map.1 (show e∈_ from A);exact⟨k.1,rfl⟩
 .obtain⟨p,j,e⟩:=mem_map.1 h;subst e;exact B (.string p.1,p.2) (mem_map_of_mem (f:=λp:ByteArray×Sl=>(Value.string p.1,p.2)) j) rfl
 .obtain⟨p,j,e⟩:=mem_map.1 (show(Value.string key,t)∈_ from C);simp only[Prod.mk.injEq,Value.string.injEq]at e;obtain⟨D,E⟩:=e;subst D E;exact j
structure XR(m0 m:MH)(h:PH)(y:Nat)(f:ByteArray->bx):Prop where
 ex:∃kk us,qW m0 m y kk us/\∀k,gS h (us k) (f k)
theorem XR.upd{m0:MH}{y:Nat}{kk:cm}{us:ByteArray->ce}{f c:ByteArray->bx}{key:ByteArray}{e:Sl}{r:cd}(g:qW m0 m' y kk (MW us key e))(j:∀k,gS h (us k) (f k))(n:cA h e r)(o:c key=f key++[r])(u:∀k,k≠key->c k=f k):XR m0 m' h y c:=by
 refine⟨kk,_,g,λk=>?_⟩;by_cases d:k=key
 .subst d;rw[o];have:MW us k e k=us k++[e]:=if_pos rfl;rw[this];exact(j k).snoc n
 .rw[u k d];have:MW us key e k=us k:=if_neg d;rw[this];exact j k
def Dt(cols:bt)(r:cd):Bool:=(pick r cols).all lY
def oX(on:bz)(b:bx)(x:cd):bx:=
 if Dt (nI on) x then(b.filter λy=>Dt (iQ on) y&&agree on x y).map (x++ ·)else[]
def bNQ(q:Query)(ls:List bx):bx:=match q with|.mk _ _ _ _ on _ _ _ _=>(ls.getD 0 []).flatMap (oX on (ls.getD 1 []))
def atJ(q:Query)(ls:List bx):Prop:=match q with|.mk _ _ _ _ on _ _ _ _=>a4Z on ls/\(ls.getD 0 []).length*(ls.getD 1 []).length<=1000000
theorem Ab{α β:Type}{f:α->List β}{n:Nat}:∀{l:List α},(∀x∈l,(f x).length<=n)->(l.flatMap f).length<=l.length*n
 |[],_=>bj
 |a::l,h=>by
  have d:=h a (mem_cons_self ..);have e:=Ab (l:=l) λx c=>h x (mem_cons_of_mem _ c);simp only[flatMap_cons,length_append,length_cons,Nat.add_mul,Nat.one_mul];omega
theorem EA{α β:Type}{l:List α}{k:Nat}{x:α}(f:α->List β)(c:l[k]? =some x):(l.take (k+1)).flatMap f=(l.take k).flatMap f++f x:=by
 rw[take_add_one,c];simp
theorem Cu{on:bz}{b:bx}{x:cd}:(oX on b x).length<=b.length:=by
 unfold oX;split
 .rw[length_map];exact length_filter_le _ _
 .simp
def under(κ:cd->ByteArray)(cols:bt)(l:bx)(key:ByteArray):bx:=l.filter λz=>Dt cols z&&decide (κ (pick z cols)=key)
theorem Hi{κ:cd->ByteArray}{cols:bt}{l:bx}{k:Nat}{r:cd}(c:l[k]? =some r)(key:ByteArray):under κ cols (l.take (k+1)) key=under κ cols (l.take k) key++(if Dt cols r&&decide (κ (pick r cols)=key)then[r]else[]):=vO _ c
def nK(κ:cd->ByteArray)(gr:bt)(l:bx)(k:ByteArray):bx:=l.filter λz=>decide (κ (pick z gr)=k)
def tM(od:ca)(l:bx):Prop:=l.Pairwise λa b=>¬lF od b a<0
structure vJ(κ:cd->ByteArray)(m:MH)(h:PH)(y:Nat)(gr:bt)(od:ca)(l:bx)(kk:cm)(g:ByteArray->bx):Prop where
 map_:vT m y (kk.map λp=>(Value.string p.1,gU p.2))
 nodup:(kk.map Prod.fst).Nodup
 rows:∀p∈kk,Rows h p.2 (g p.1)
 none_:∀k,k∉kk.map Prod.fst->g k=[]
 perm:∀k,(g k).Perm (nK κ gr l k)
 sort:∀k,tM od (g k)
structure bpZ(m:MH)(h:PH)(od:ca)(p:ByteArray×Sl)(f:ByteArray->bx)(st:Prop):Prop where
 ex:∃ps:cz,eC m p.2 100 1 (ps.map λq=>eS q.1)/\(∀q∈ps,cA h q.1 q.2)/\(ps.map Prod.snd).Perm (f p.1)/\(st->tM od (ps.map Prod.snd))
noncomputable def leftOf(m:MH)(r:Nat):Nat:=match m r with
 |some (.mapIter (some b) _ c _)=>(match m b with|some (.map d _)=>(d.toList.filter λe=> !c.contains e.born).length|_=>0)
 |_=>0
theorem lV.left_{r:Nat}{d left:ci}(i:lV m b r d left):leftOf m r=left.length:=by
 obtain⟨o,c,e,f,u,g,_,_,_,j,_,_,_,n⟩:=i.ex;simp only[leftOf,j,g];rw[<-n,length_map]
theorem lV.mem{r:Nat}{d left:ci}(i:lV m b r d left){x:Value×Value}(g:x∈left):x∈d:=by
 obtain⟨y,c,f,j,z,A,n,_,_,B,_,_,_,o⟩:=i.ex;rw[<-o]at g;rw[<-n];obtain⟨e,u,rfl⟩:=mem_map.1 g;exact mem_map.2 ⟨e,(mem_filter.1 u).1,rfl⟩
theorem lV.keep{r:Nat}{e left:ci}(i:lV m b r e left)(g:m' b=m b)(j:m' r=m r):lV m' b r e left:=by
 obtain⟨n,c,d,f,o,u,x⟩:=i.ex;exact⟨n,c,d,f,o,by rw[g];exact u,by rw[j];exact x⟩
theorem lV.nodup{r:Nat}{d left:ci}(i:lV m b r d left)(f:d.Nodup):left.Nodup:=by
 obtain⟨o,c,e,g,u,x,j,_,_,y,_,_,_,n⟩:=i.ex;rw[<-n];rw[<-j]at f;exact f.sublist (filter_sublist.map _)
theorem bLQ{us:ce}{rs:bx}(c:gS h us rs):∃ps:cz,ps.map Prod.fst=us/\ps.map Prod.snd=rs/\∀q∈ps,cA h q.1 q.2:=by
 refine⟨us.zip rs,map_fst_zip (Nat.le_of_eq c.len),map_snd_zip (Nat.le_of_eq c.len.symm),λq f=>?_⟩;obtain⟨i,d⟩:=mem_iff_getElem?.1 f;rw[getElem?_zip_eq_some]at d;obtain⟨u,e,g⟩:=c.at_ i _ d.2;rw[d.1]at e;cases e;exact g
theorem eC.ice{s:Sl}{us:ce}(o:eC m s 100 1 (us.map eS))(y:∀b c,s.a=some ⟨b,0,none⟩->m b=some (.cells c 100 (0,0))->∀i,h b i=c[i]?):dK h s 1 (us.map eS):=by
 rcases o.ex with⟨rfl,g⟩|⟨b,z,c,rfl,A,B,I,J,C⟩
 .rw[g];exact dK.nil _ _
 .refine⟨bj,?_,B⟩;by_cases D:us.map eS=[]
  .exact .inl D
  .refine .inr ⟨b,0,rfl,λi e d=>⟨λj v n=>?_⟩⟩;have E:=o.rows.len e (mem_of_getElem? d);have F:j=0:=by have:=(List.getElem?_eq_some_iff.1 n).1;omega
   subst F;have G:=(List.getElem?_eq_some_iff.1 d).1
   have x:((us.map eS).flatten)[i]? =some v:=by
    rw[getElem?_map]at d;cases f:us[i]? with
    |none=>rw[f]at d;cases d
    |some u=>
     rw[f]at d;simp at d;subst d;simp[eS]at n;subst n
     have:∀l:ce,(l.map eS).flatten=l.map λu=>Value.slice u.a u.len u.cap:=λl=>by
      induction l with
      |nil=>rfl
      |cons a l H=>simp only[map_cons,flatten_cons,H];rfl
     rw[this,getElem?_map,f];rfl
   rw[<-C,getElem?_take,if_pos aD]at x;rw[y b c rfl A, <-Array.getElem?_toList,show 0+i*1+0=i by omega];exact x
theorem MM{kk:cm}(c:(kk.map Prod.fst).Nodup){p q:ByteArray×Sl}(g:p∈kk)(j:q∈kk)(e:p.1=q.1):p=q:=by
 induction kk with
 |nil=>cases g
 |cons a kk n=>
  have c:=nodup_cons.1 c;rcases mem_cons.1 g with rfl|d<;>rcases mem_cons.1 j with rfl|f
  .rfl
  .exact(c.1 (mem_map.2 ⟨q,f,e.symm⟩)).elim
  .exact(c.1 (mem_map.2 ⟨p,d,e⟩)).elim
  .exact n c.2 d f
theorem TV{κ:cd->ByteArray}{S V H:MH}{D:PH}{y r:Nat}{l:bx}{kk:cm}{uk:ByteArray->ce}(W:Sub m S)(ny:m y=none)(m4y:S y=some (.map #[] 0))(g:qW S V y kk uk)(hg:∀k,gS D (uk k) (nK κ gr l k))(le:PH.le h D)(a2:l.length<=1000000)
 (X:∀b o,V b=some o->(∀p∈kk,∀i,p.2.a≠some ⟨b,i,none⟩)->H b=some o)(Y:lV H y r (kk.map λp=>(Value.string p.1,gU p.2)) [])(n:∀p∈kk,bpZ H D od p (nK κ gr l) ((Value.string p.1,gU p.2)∉([]:ci)))
 (hK:∀y m2 f kk g,m y=none->(∀b,b≠y->m2 b=m b)->PH.le h f->vJ κ m2 f y gr od l kk g->K (.val (.map (some y))) m2 f):fW h K (.val (.map (some y))) H D:=by
 intro hd;have u:∀b o,S b=some o->∀p∈kk,∀i,p.2.a≠some ⟨b,i,none⟩:=λb o e p d i A=>by rw[g.fresh p d b i A]at e;cases e
 have P:Sub m V:=λz o A=>g.old z o (W z o A) (λe3=>by rw[e3,ny]at A;cases A)
 classical
 let B:Nat->Prop:=λb=>∃p∈kk,p.2.a=some ⟨b,0,none⟩
 have hB:∀b,B b->m b=none/\b≠y/\∀i,D b i=none:=by
  rintro b ⟨p,d,e⟩;obtain⟨ps,I,_⟩:=(n p d).ex;refine⟨?_,λA=>?_,hd b _ (I.blk e).choose_spec⟩
  .cases A:m b with
   |none=>rfl
   |some o=>exact(u b o (W b o A) p d 0 e).elim
  .rw[A]at e;exact u y _ m4y p d 0 e
 let f:PH:=λb i=>if B b then(match H b with|some (.cells cs _ _)=>cs[i]? |_=>none)else D b i
 have J:PH.le D f:=⟨λb i v e=>by
  have:¬B b:=λM=>by rw[(hB b M).2.2 i]at e;cases e
  show(if B b then _ else D b i)=some v;rw[if_neg this];exact e⟩
 have Z:∀p∈kk,∃G,Rows f p.2 G/\G.Perm (nK κ gr l p.1)/\tM od G:=λp d=>by
  obtain⟨ps,I,h3,h4,F⟩:=(n p d).ex;refine⟨ps.map Prod.snd,?_,h4,F bj⟩;have e5:(ps.map λq=>eS q.1)=(ps.map Prod.fst).map eS:=by rw[map_map];rfl
  rw[e5]at I
  have a':dK f p.2 1 ((ps.map Prod.fst).map eS):=eC.ice I λb Q ea T i=>by
   show(if B b then _ else D b i)=_;rw[if_pos ⟨p,d,ea⟩,T]
  refine gS.rows (us:=ps.map Prod.fst) ⟨bj,λj x L=>?_⟩ a' ?_
  .rw[getElem?_map]at L;cases O:ps[j]? with
   |none=>rw[O]at L;cases L
   |some q=>
    rw[O]at L;have L:q.2=x:=bo L
    exact⟨q.1,by rw[getElem?_map,O];rfl,L▸cA.mono (h3 q (mem_of_getElem? O)) J⟩
  .have:=h4.length_eq;have h6:(nK κ gr l p.1).length<=l.length:=length_filter_le _ _;omega
 let G:ByteArray->bx:=λk=>if e:∃p G,p∈kk/\p.1=k/\Rows f p.2 G/\G.Perm (nK κ gr l p.1)/\tM od G then e.choose_spec.choose else[]
 have R:∀p∈kk,Rows f p.2 (G p.1)/\(G p.1).Perm (nK κ gr l p.1)/\tM od (G p.1):=λp d=>by
  have ex:∃E G,E∈kk/\E.1=p.1/\Rows f E.2 G/\G.Perm (nK κ gr l E.1)/\tM od G:=by
   obtain⟨G,R⟩:=Z p d;exact⟨p,G,d,rfl,R⟩
  have O:G p.1=ex.choose_spec.choose:=dif_pos ex;rw[O];obtain⟨F,h6,h7⟩:=ex.choose_spec.choose_spec
  have tr:∀E G',E∈kk->E.1=p.1->(Rows f E.2 G'/\G'.Perm (nK κ gr l E.1)/\tM od G')->Rows f p.2 G'/\G'.Perm (nK κ gr l p.1)/\tM od G':=λE G' I f h3=>by
   have e7:=MM g.nodup I d f;subst e7;exact h3
  exact tr _ _ F h6 h7
 have U:∀k,k∉kk.map Prod.fst->G k=[]/\nK κ gr l k=[]:=λk C=>by
  refine⟨dif_neg ?_,?_⟩
  .rintro⟨p,_,d,e,_⟩;exact C (mem_map.2 ⟨p,d,e⟩)
  .have F:=(hg k).len;rw[g.none_ k C]at F;exact eq_nil_of_length_eq_zero F.symm
 obtain⟨es,c,a0,a1,c0,i1,i2,i3,i4,_⟩:=Y.ex;refine⟨λb=>if b=y then H y else m b,f,λb o e=>?_,le.trans J,λb i v' e=>?_,hK y _ f kk G ny (λb M=>if_neg M) (le.trans J) ⟨⟨es,c,(if_pos rfl).trans i1,i2,i3,i4⟩,g.nodup,λp d=>(R p d).1,λk C=>(U k C).1,λk=>?_,λk=>?_⟩⟩
 .have e:(if b=y then H y else m b)=some o:=e;split at e
  .rename_i A;rw[A];exact e
  .exact X b o (P b o e) (u b o (W b o e))
 .have e:(if B b then _ else D b i)=some v':=e;split at e
  .rename_i M;have F:=hB b M;obtain⟨p,d,ea⟩:=M;obtain⟨ps,I,_⟩:=(n p d).ex;obtain⟨Q,T⟩:=I.blk ea;rw[T]at e;refine .inr ⟨Q,100,(0,0),T,e,?_⟩;show(if b=y then H y else m b)=none;rw[if_neg F.2.1];exact F.1
  .exact .inl e
 .by_cases C:k∈kk.map Prod.fst
  .obtain⟨p,d,rfl⟩:=mem_map.1 C;exact(R p d).2.1
  .rw[(U k C).1,(U k C).2]
 .by_cases C:k∈kk.map Prod.fst
  .obtain⟨p,d,rfl⟩:=mem_map.1 C;exact(R p d).2.2
  .rw[(U k C).1];exact List.Pairwise.nil
theorem TU{κ:cd->ByteArray}{m4 M P Q:MH}{hz:PH}{y r w:Nat}{gr:bt}{od:ca}{l:bx}{kk:cm}{uk:ByteArray->ce}{left l1 l2:ci}{x:Value×Value}(m4y:m4 y=some (.map #[] 0))(g:qW m4 M y kk uk)(R:hU w l)(a':M r=none)
 (S:∀b o,M b=some o->(∀p∈kk,∀i,p.2.a≠some ⟨b,i,none⟩)->P b=some o)(T:lV P y r (kk.map λp=>(Value.string p.1,gU p.2)) left)(E:∀p∈kk,bpZ P hz od p (nK κ gr l) ((Value.string p.1,gU p.2)∉left))(G:left=l1++x::l2)(D:pX P Q r)(a0:EH Q y r (kk.map λp=>(Value.string p.1,gU p.2)) (l1++l2) x):
 ∃(c:ByteArray×Sl)(ps:cz),x=(Value.string c.1,gU c.2)/\(∀b o,m4 b=some o->b≠y->Q b=some o/\∀i,c.2.a≠some ⟨b,i,none⟩)/\eC Q c.2 100 1 (ps.map λp:Sl×cd=>eS p.1)/\(∀p∈ps,cA hz p.1 p.2)/\(∀p∈ps,p.2.length=w)/\ps.length<=l.length/\
  ∀(n:cz)(F:MH),n.Perm ps->n.Pairwise (λp q=>¬lF od q.2 p.2<0)->eC F c.2 100 1 (n.map λp=>eS p.1)->(∀b,(∀i,c.2.a≠some ⟨b,i,none⟩)->F b=Q b)->
   (∀b o,M b=some o->(∀p∈kk,∀i,p.2.a≠some ⟨b,i,none⟩)->F b=some o)/\(∃left,lV F y r (kk.map λp=>(Value.string p.1,gU p.2)) left/\∀p∈kk,bpZ F hz od p (nK κ gr l) ((Value.string p.1,gU p.2)∉left))/\leftOf F r<leftOf P r:=by
 have H:∀p∈kk,∀x i,p.2.a=some ⟨x,i,none⟩->∃o,M x=some o:=λp C x i O=>⟨_,((g.row p C).blk O).choose_spec⟩
 have I:∀{z o},M z=some o->z≠r:=fun{z o} O e3=>by rw[e3,a']at O;cases O
 have a1:x∈left:=by rw[G];simp
 obtain⟨c,d,rfl⟩:=mem_map.1 (lV.mem T a1);obtain⟨ps,h1,h3,h4,h5⟩:=(E c d).ex;have u:∀b o,m4 b=some o->∀p∈kk,∀i,p.2.a≠some ⟨b,i,none⟩:=λb o e p C i O=>by rw[g.fresh p C b i O]at e;cases e
 have A:∀p∈kk,∀b i,p.2.a=some ⟨b,i,none⟩->b≠r:=λp C b i e=>I (H p C b i e).choose_spec;have U:=h4.length_eq;have a2:(nK κ gr l c.1).length<=l.length:=length_filter_le _ _;rw[length_map]at U;refine⟨c,ps,rfl,λb o e a3=>⟨?_,u b o e c d⟩,eC.keep h1 λb i e=>D.other b (A c d b i e),h3,λq hq=>?_,aD,λn F B J L f=>?_⟩
 .have mb:=g.old b o e a3;rw[D.other b (I mb)];exact S b o mb (u b o e)
 .have:q.2∈nK κ gr l c.1:=h4.mem_iff.1 (mem_map_of_mem hq);exact R.wid _ (mem_filter.1 this).1
 .have V:∀i,c.2.a≠some ⟨y,i,none⟩:=u y _ m4y c d;have W:∀i,c.2.a≠some ⟨r,i,none⟩:=λi e=>A c d r i e rfl;have X:lV F y r (kk.map λp=>(Value.string p.1,gU p.2)) (l1++l2):=lV.keep a0.it (f y V) (f r W);refine⟨λb o e hb=>?_,⟨_,X,λp C=>?_⟩,?_⟩
  .rw[f b (hb c d),D.other b (I e)];exact S b o e hb
  .by_cases Y:p=c
   .subst Y;refine⟨n,L,λq hq=>h3 q (B.mem_iff.1 hq),(B.map _).trans h4,λ_=>?_⟩;rw[tM,pairwise_map];exact J
   .have Z:p.1≠c.1:=λe=>Y (MM g.nodup C d e);obtain⟨qs,g1,g3,g4,g5⟩:=(E p C).ex;refine⟨qs,eC.keep g1 λb i e=>?_,g3,g4,λhn=>g5 λhl=>hn ?_⟩
    .rw[f b (λj=>g.apart p C c d Z b i j e),D.other b (A p C b i e)]
    .rw[G]at hl;rcases mem_append.1 hl with h|h
     .exact mem_append_left _ h
     .rcases mem_cons.1 h with h|h
      .simp only[Prod.mk.injEq,Value.string.injEq]at h;exact(Z h.1).elim
      .exact mem_append_right _ h
  .rw[lV.left_ X,lV.left_ T,G];simp
theorem KY{w:Nat}:∀{od:ca}{a b:cd},JB w od a b=0->a=b
 |[],_,_,h=>jM.1 h
 |(c,d)::r,a,b,h=>by
  rw[JB]at h;generalize (if d then-lW (a.getD c.toNat zeroV) (b.getD c.toNat zeroV)else lW (a.getD c.toNat zeroV) (b.getD c.toNat zeroV))=x at h;split at h
  .split at h
   .rename_i e;exact(e h).elim
   .exact KY h
  .exact KY h
theorem De{w:Nat}{od:ca}{a b:cd}(c:a.length=w)(d:b.length=w):lF od a b= -lF od b a:=by
 rw[Cx c d,Cx d c];exact(JA w od).anti a b
theorem ajJ{w:Nat}{a b:cd}(c:a.length=w)(d:b.length=w)(h:lF od a b=0):a=b:=by
 rw[Cx c d]at h;exact KY h
theorem Lk{w:Nat}{od:ca}{x:cd}:∀{G:bx}{n:Nat},tM od G->(∀r∈G,r.length=w)->G.Nodup->(x∈G.take n↔x∈G/\(G.countP λy=>decide (lF od y x<0))<n)
 |[],n,_,_,_=>bj
 |a::G,0,_,_,_=>bj
 |a::G,n+1,f,o,u=>by
  have f:=pairwise_cons.1 f;have u:=nodup_cons.1 u;have B:=Lk (x:=x) (G:=G) (n:=n) f.2 (λr C=>o r (mem_cons_of_mem _ C)) u.2;have c:=o a (mem_cons_self ..);rw[take_succ_cons,mem_cons,B,mem_cons,countP_cons];by_cases j:x=a
  .subst j;have z:¬lF od x x<0:=by have:=De (od:=od) c c;omega
   have A:(G.countP λy=>decide (lF od y x<0))=0:=countP_eq_zero.2 λy D=>bo (f.1 y D)
   rw[A,if_neg (bo z)];simp
  .by_cases d:x∈G
   .have g:=o x (mem_cons_of_mem _ d);have z:=f.1 x d;have A:=De (od:=od) c g;have E:lF od a x≠0:=λe=>j (ajJ c g e).symm;rw[if_pos (by simp;omega)];simp[j,d]
   .simp[j,d]
theorem OY{l:bx}(h:j9 l):l.Nodup:=by
 rw[nodup_iff_pairwise_ne];exact h.imp fun{a b} c e=>by subst e;have:=FJ.anti a a;omega
def H6(gr:bt)(x y:cd):Bool:=dP (pick x gr) (pick y gr)==0
theorem Zb{x y:cd}:H6 gr x y=true↔pick x gr=pick y gr:=by
 simp only[H6,beq_iff_eq,jM]
def HD(gr:bt)(od:ca)(li:Int)(a b:bx):bx:=a.filter λx=>decide (((b.countP λy=>H6 gr x y&&decide (lF od y x<0):Nat):Int)<li)
def bLJ(q:Query)(ls:List bx):bx:=match q with|.mk _ _ _ _ _ gr od li _=>HD gr od li (ls.getD 0 []) (ls.getD 0 [])
def asZ(q:Query)(ls:List bx):Prop:=match q with|.mk _ _ _ _ _ gr _ li _=>1<=ls.length/\(∃w,hU w (ls.getD 0 [])/\jC w gr)/\0<=li
theorem awJ{κ:cd->ByteArray}(f:amZ κ){w:Nat}{l:bx}(c:hU w l)(d:jC w gr){x y:cd}(g:SD x)(j:x.length=w)(e:y∈l):κ (pick y gr)=κ (pick x gr)↔H6 gr x y=true:=by
 rw[Zb];have:=f.inj (a:=pick y gr) (b:=pick x gr) (by simp[pick]) (Ie (c.row y e) (by rw[c.wid y e];exact d)) (Ie g (by rw[j];exact d));rw[this];exact eq_comm
theorem LJ{κ:cd->ByteArray}(c:amZ κ){w:Nat}{l:bx}(d:hU w l)(e:jC w gr){x:cd}(f:SD x)(g:x.length=w):
 ((nK κ gr l (κ (pick x gr))).countP λy=>decide (lF od y x<0))=l.countP λy=>H6 gr x y&&decide (lF od y x<0):=by
 rw[nK,countP_filter];refine countP_congr λy j=>?_;have n:=awJ c d e f g j;simp only[Bool.and_eq_true,decide_eq_true_eq];rw[n,and_comm]
theorem U2{α:Type}{p q:α->Bool}:∀{l:List α},(∀x∈l,¬(p x=true/\q x=true))->l.countP p+l.countP q=l.countP λx=>p x||q x
 |[],_=>rfl
 |a::l,h=>by
  have d:=U2 (l:=l) λx c=>h x (mem_cons_of_mem _ c);have e:=h a (mem_cons_self ..);rw[countP_cons,countP_cons,countP_cons];cases f:p a<;>cases g:q a<;>simp_all<;>omega
theorem ZB{κ:cd->ByteArray}(F:amZ κ){y w:Nat}{l:bx}{kk:cm}{g:ByteArray->bx}(n:vJ κ m h y gr od l kk g)(c:hU w l)(d:jC w gr)(G:0<=li)(x:cd):
 x∈HD gr od li l l↔∃p∈kk,x∈(g p.1).take li.toNat:=by
 have z:∀k r,r∈g k->r∈l/\κ (pick r gr)=k:=λk r u=>by
  have:=(n.perm k).mem_iff.1 u;simpa[nK]using this
 have H:∀k,(g k).Nodup:=λk=>(n.perm k).nodup_iff.2 ((OY c.srt).sublist filter_sublist);have A:∀k,x∈(g k).take li.toNat↔x∈g k/\((g k).countP λy=>decide (lF od y x<0))<li.toNat:=λk=>Lk (n.sort k) (λr u=>c.wid r (z k r u).1) (H k)
 have B:x∈l->((g (κ (pick x gr))).countP λy=>decide (lF od y x<0))=l.countP λy=>H6 gr x y&&decide (lF od y x<0):=λf=>by
  rw[(n.perm _).countP_eq];exact LJ F c d (c.row x f) (c.wid x f)
 rw[HD,mem_filter];constructor
 .rintro⟨f,C⟩;have C:=of_decide_eq_true C;have j:x∈g (κ (pick x gr)):=(n.perm _).mem_iff.2 (by simp[nK,f])
  have o:κ (pick x gr)∈kk.map Prod.fst:=by
   by_cases o:κ (pick x gr)∈kk.map Prod.fst
   .exact o
   .rw[n.none_ _ o]at j;cases j
  obtain⟨p,D,e⟩:=mem_map.1 o;refine⟨p,D,?_⟩;rw[e];exact(A _).2 ⟨j,by rw[B f];omega⟩
 .rintro⟨p,D,f⟩;obtain⟨I,J⟩:=(A _).1 f;obtain⟨E,L⟩:=z _ _ I;rw[<-L,B E]at J;exact⟨E,decide_eq_true aD⟩
open Classical in
structure FP(κ:cd->ByteArray)(gr:bt)(li:Int)(l:bx)(kk:cm)(g:ByteArray->bx)(left:ci)(acc:bx):Prop where
 mem:∀x,x∈acc↔∃p∈kk,(Value.string p.1,gU p.2)∉left/\x∈(g p.1).take li.toNat
 cnt:acc.length+(l.countP λz=>decide (Value.string (κ (pick z gr))∈left.map Prod.fst))<=l.length
open Classical in
theorem FP.start{κ:cd->ByteArray}{gr:bt}{li:Int}{l:bx}{kk:cm}{g:ByteArray->bx}:FP κ gr li l kk g (kk.map λp=>(Value.string p.1,gU p.2)) []:=by
 refine⟨λx=>⟨λe=>(by cases e),?_⟩,?_⟩
 .rintro⟨p,c,d,_⟩;exact(d (mem_map_of_mem (f:=λp:ByteArray×Sl=>(Value.string p.1,gU p.2)) c)).elim
 .rw[length_nil,Nat.zero_add];exact countP_le_length
theorem Zs{kk:cm}(d:(kk.map Prod.fst).Nodup):(kk.map λp=>(Value.string p.1,gU p.2)).Nodup:=by
 rw[nodup_iff_pairwise_ne,pairwise_map]at d;rw[nodup_iff_pairwise_ne,pairwise_map];exact d.imp λc e=>c (by simp only[Prod.mk.injEq,Value.string.injEq]at e;exact e.1)
open Classical in
theorem FP.step{κ:cd->ByteArray}{m O:MH}{h:PH}{y P r:Nat}{gr:bt}{od:ca}{li:Int}{l B:bx}{kk:cm}{g:ByteArray->bx}{left f j:ci}{c:ByteArray×Sl}(st:FP κ gr li l kk g left B)(I:vJ κ m h y gr od l kk g)(C:lV O P r (kk.map λp=>(Value.string p.1,gU p.2)) left)(n:c∈kk)(d:left=f++(Value.string c.1,gU c.2)::j):
 FP κ gr li l kk g (f++j) (B++(g c.1).take li.toNat):=by
 have D:=lV.nodup C (Zs I.nodup);rw[d]at D
 have e:(Value.string c.1,gU c.2)∉f++j:=λh=>by
  have L:=nodup_append.1 D;have o:=nodup_cons.1 L.2.1;rcases mem_append.1 h with h|h
  .exact L.2.2 _ h _ (mem_cons_self ..) rfl
  .exact o.1 h
 have E:∀x∈f++j,x∈left:=λx h=>by rw[d];rcases mem_append.1 h with h|h;exact mem_append_left _ h;exact mem_append_right _ (mem_cons_of_mem _ h)
 refine⟨λx=>?_,?_⟩
 .rw[mem_append,st.mem];constructor
  .rintro(⟨p,u,J,A⟩|A)
   .exact⟨p,u,λh=>J (E _ h),A⟩
   .exact⟨c,n,e,A⟩
  .rintro⟨p,u,J,A⟩;by_cases F:p=c
   .subst F;exact .inr A
   .refine .inl ⟨p,u,λh=>?_,A⟩;rw[d]at h;rcases mem_append.1 h with h|h
    .exact J (mem_append_left _ h)
    .rcases mem_cons.1 h with h|h
     .simp only[Prod.mk.injEq,Value.string.injEq]at h;exact F (MM I.nodup u n h.1)
     .exact J (mem_append_right _ h)
 .have M:Value.string c.1∉(f++j).map Prod.fst:=λh=>by
   obtain⟨z,G,H⟩:=mem_map.1 h;obtain⟨p,u,rfl⟩:=mem_map.1 (lV.mem C (E _ G));simp only[Value.string.injEq]at H;have:=MM I.nodup u n H;subst this;exact e G
  have L:=U2 (l:=l) (p:=λz=>decide (Value.string (κ (pick z gr))∈(f++j).map Prod.fst)) (q:=λz=>decide (κ (pick z gr)=c.1)) (λz _⟨o,Q⟩=>by
   have o:=of_decide_eq_true o;rw[of_decide_eq_true Q]at o;exact M o)
  have S:(l.countP λz=>decide (Value.string (κ (pick z gr))∈(f++j).map Prod.fst)||decide (κ (pick z gr)=c.1))=l.countP λz=>decide (Value.string (κ (pick z gr))∈left.map Prod.fst):=by
   refine countP_congr λz _=>?_;rw[d];simp only[Bool.or_eq_true,decide_eq_true_eq,map_append,map_cons,mem_append,mem_cons,Value.string.injEq];constructor
   .rintro((h|h)|h)
    .exact .inl h
    .exact .inr (.inr h)
    .exact .inr (.inl h)
   .rintro(h|h|h)
    .exact .inl (.inl h)
    .exact .inr h
    .exact .inl (.inr h)
  have T:(nK κ gr l c.1).length=l.countP λz=>decide (κ (pick z gr)=c.1):=by rw[nK,countP_eq_length_filter]
  have R:=(I.perm c.1).length_eq;have:=st.cnt;rw[length_append,length_take];omega
theorem FP.done{κ:cd->ByteArray}(j:amZ κ){y w:Nat}{l e:bx}{kk:cm}{g:ByteArray->bx}(st:FP κ gr li l kk g [] e)(n:vJ κ m h y gr od l kk g)(c:hU w l)(d:jC w gr)(f:0<=li):HD gr od li l l=Dq e:=
 X4 (c.srt.sublist filter_sublist) λx=>by rw[ZB j n c d f,st.mem];simp
theorem apZ{h:PH}{s:Sl}{l:bx}{li:Int}(y:Rows h s l)(z:0<=li):(0<=if(s.len:Int)<li then(s.len:Int)else li)/\(if(s.len:Int)<li then(s.len:Int)else li)<=s.cap/\∃us:ce,dK h ⟨s.a,(if(s.len:Int)<li then(s.len:Int)else li).toNat,s.cap⟩ 1 (us.map eS)/\gS h us (l.take li.toNat)/\us.length<=l.length:=by
 obtain⟨⟨c,d,f,g⟩,_⟩:=y;have A:s.len=c.length:=by have:=d.len;simpa using this
 have B:((if(s.len:Int)<li then(s.len:Int)else li).toNat)=min c.length li.toNat:=by split<;>omega
 have n:=d.cap;refine⟨by split<;>omega,by split<;>omega,c.take (min c.length li.toNat),?_,⟨by simp[f];omega,λj x e=>?_⟩,by simp;omega⟩
 .rw[B,map_take];exact dK.cut d _ (by simp;omega)
 .rw[getElem?_take]at e;split at e
  .obtain⟨u,o,C⟩:=g j x e;have:=(List.getElem?_eq_some_iff.1 o).1;exact⟨u,by rw[getElem?_take,if_pos aD];exact o,C⟩
  .cases e
theorem Jj{w:World}{q:Nat}{c:Array Obj}(d:b<w.heap.size):(Sort.grow (w.drewN q) c).heap[b]? =w.heap[b]? :=by
 show((w.drewN q).heap++c)[b]? =_;rw[Array.getElem?_append_left (show b<(w.drewN q).heap.size from d)];rfl
theorem U6{P:Program}{g:Nat}{cs:bw}{m:MH}{h:PH}{S:Vc.Spec}{r:CV}{u:Value}(L:Sound P g S)(M:S (cs.map .val) m h λr' m' h'=>r'=r/\m'=m/\h'=h)(O:∀w D,FW w r D->D=u){w:World}
 (Q:∀b o v,h b o=some v->w.cell? ⟨b,o,none⟩=some v)(R:∀b o,m b=some o->w.heap[b]? =some o)(T:∀b o,m b=some o->∀i,h b i=none)(E:Nat)(F:Array Obj):
 Calls P g cs.toArray (Sort.grow (w.drewN E) F) λe w'=>e= .returned u/\∃q G,w'=Sort.grow ((Sort.grow (w.drewN E) F).drewN q) G:=by
 obtain⟨W,J⟩:∃W,Sort.grow (w.drewN E) F=W:=⟨_,rfl⟩
 rw[J];have C:∀b,b<w.heap.size->W.heap[b]? =w.heap[b]? :=λb n=>by rw[<-J];exact Jj n
 have y:∀(l:bw)(w:World),CY w (l.map .val) l:=λl w=>by
  induction l with
  |nil=>trivial
  |cons a l U=>exact⟨rfl,U⟩
 have z:∀(l:bw)(i:Nat)(c:CV)(u:Value)(b:Nat),(l.map CV.val)[i]? =some c->iC c u=some b->False:=λl i c u b f n=>by
  rw[getElem?_map]at f;cases e:l[i]? with
  |none=>rw[e]at f;cases f
  |some v=>rw[e]at f;simp at f;subst f;simp[iC]at n
 have x:Bd W m h (cs.map .val) cs:=by
  refine⟨y _ _,?_,?_,T,λi j c d u v b f _ _ _ n _=>(z _ i c u b f n).elim,λi c u b f _ n=>(z _ i c u b f n).elim⟩
  .intro b o v V;have A:=Q b o v V;rw[World.cell?_of_block (w:=w) (w':=W) (a:=⟨b,o,none⟩) (C b (World.block_lt_of_cell? w ⟨b,o,none⟩ A))];exact A
  .intro b o n;have A:=R b o n;rw[C b (Array.getElem?_eq_some_iff.1 A).1];exact A
 refine(L.2 _ _ m h W _ M x).mono ?_;rintro e w' ⟨r',D,m',h',rfl,⟨rfl,rfl,rfl⟩,H,B,_⟩;have X:=O _ _ H;subst X;refine⟨rfl,Le B.tape B.os B.output B.drawn B.size (λb n=>?_)⟩;cases I:m' b with
 |none=>
  refine B.frame b n ?_;rintro(A|⟨i,c,u,f,_,Y⟩)
  .exact A I
  .exact z _ i c u b f Y
 |some o=>rw[B.msat b o I];exact(x.msat b o I).symm
theorem Vz{g:Nat}{S R:Vc.Spec}(W:br g S)(hR:∀B m h K,R B m h K->∃(n E F G I:Nat)(od:ca)(rs:bx)(r:cd),B=[cI n,.val (.func (.func g) #[] #[.pointer (some ⟨E,0,none⟩),.pointer (some ⟨F,0,none⟩),.pointer (some ⟨G,0,none⟩)])]/\rs.length<=502633886983/\rs.length=n/\tM od rs/\(∀x∈rs,x.length=I)/\r.length=I/\
 (∀(i:Nat) x,rs[i]? =some x->S ([.int .i64 i,.pointer (some ⟨E,0,none⟩),.pointer (some ⟨F,0,none⟩),.pointer (some ⟨G,0,none⟩)].map .val) m h λr' m' h'=>r'=cB (decide (lF od x r>=0))/\m'=m/\h'=h)/\K (cI ((rs.countP λy=>decide (lF od y r<0):Nat):Int)) m h):br 134 R:=by
 refine⟨⟨Tryz.f134,func134,rfl,bk⟩,?_⟩;intro B X m h w K h0 f;obtain⟨n,E,F,G,I,od,rs,r,rfl,Y,rfl,J,Z,j,hS,hK⟩:=hR _ _ _ _ h0
 obtain⟨v1,H,rfl⟩:∃v H,X=[v,H]:=by
  have:=(qS f.args).1
  match X,this with
  |[v,H],_=>exact⟨v,H,rfl⟩
 have C:v1= .int .i64 rs.length:=f.args.1;have h2:H= .func (.func g) #[] #[.pointer (some ⟨E,0,none⟩),.pointer (some ⟨F,0,none⟩),.pointer (some ⟨G,0,none⟩)]:=f.args.2.1;subst C h2
 have eg:∀args w,(callFunc g args).run Tryz.prog w= .ok (.enter g args) w:=λargs w=>by
  obtain⟨fn,L,c,hn⟩:=W.1;have M:¬fn.body=none:=by intro e;rw[e]at c;cases c
  have O:¬fn.name= "runtime.NumGoroutine" :=bo hn
  simp[callFunc,program,Sem.run,L,O,M]
 have D:=Any.sort_Search Tryz.searchO g #[.pointer (some ⟨E,0,none⟩),.pointer (some ⟨F,0,none⟩),.pointer (some ⟨G,0,none⟩)] rs.length (λi=>decide (lF od (rs.toArray[i]!) r>=0)) w eg aD
  (λmm P i hi=>U6 (cs:=[.int .i64 i,.pointer (some ⟨E,0,none⟩),.pointer (some ⟨F,0,none⟩),.pointer (some ⟨G,0,none⟩)]) W
   (hS i _ (by rw[getElem!_pos _ i (bo hi)];simp[hi])) (λw u' hu=>hu) f.hsat f.msat f.disj mm P)
  (λa b Q c d=>?_)
 .refine Calls.mono D ?_;rintro e w' ⟨rfl,q,P,rfl⟩
  have u:((List.range rs.length).countP λi=> !decide (lF od (rs.toArray[i]!) r>=0))=rs.countP λy=>decide (lF od y r<0):=by
   have:=Go.Lib.countP_range rs.toArray (λy=> !decide (lF od y r>=0));rw[size_toArray]at this;rw[this];refine countP_congr λy _=>?_;simp
  rw[u];refine⟨_,_,m,h,rfl,hK,rfl,⟨rfl,rfl,rfl,Nat.le_add_right _ _,?_,λb c _=>Jj c,λb o v T=>?_,λb o c=>?_,f.disj,λ_ _ _ e=>e,λ_ _ _=>rfl,λb o c=>.inr (.inl (by rw[show m b=some o from c];simp))⟩,λb c=>by cases c⟩
  .show w.heap.size<=((w.drewN q).heap++P).size;rw[Array.size_append];exact Nat.le_add_right _ _
  .have C:=f.hsat b o v T;rw[World.cell?_of_block (w:=w) (a:=⟨b,o,none⟩) (Jj (World.block_lt_of_cell? w ⟨b,o,none⟩ C))];exact C
  .have C:=f.msat b o c;rw[Jj (Array.getElem?_eq_some_iff.1 C).1];exact C
 .have d:=of_decide_eq_true d;refine decide_eq_true ?_;rcases Nat.lt_or_eq_of_le Q with U|rfl
  .have V:a<rs.length:=by omega
   rw[getElem!_pos _ a (bo V)]at d;rw[getElem!_pos _ b (bo c)];simp only[getElem_toArray]at d⊢
   have z:=Z _ (getElem_mem V);have A:=Z _ (getElem_mem c);have h5:=(pairwise_iff_getElem.1 J) a b V c U;have h6:=De (od:=od) z A;have h7:=De (od:=od) z j;have h8:=De (od:=od) A j;rw[Cx z A]at h6;have:=(JA I od).trans r rs[a] rs[b] (by rw[<-Cx j z];omega) aD;rw[<-Cx j A]at this;omega
  .exact d
theorem vJ.get2{κ:cd->ByteArray}{y:Nat}{l:bx}{kk:cm}{G:ByteArray->bx}{key:ByteArray}{K0:Prop}{K:Sl->Prop}(g:vJ κ m h y gr od l kk G)(n:ET kk key ⟨none,0,0⟩->K0)(o:∀s,ET kk key s->K s):
 ∃(d:dj)(Ok:Value->Prop),vR m y (d.map λp=>(p.1,gU p.2))/\KeyLaw Tryz.prog 9 Ok/\Ok (.string key)/\(∀e,List.Mem e d->Ok e.1)/\((∀e,List.Mem e d->e.1=Value.string key->False)->K0)/\∀t,List.Mem (Value.string key,t) d->K t:=by
 obtain⟨u,c,x,z,_,_⟩:=g.map_;refine⟨kk.map λp=>(.string p.1,p.2),_,⟨u,c,x,by rw[z];simp⟩,Bm,⟨key,rfl⟩,λe A=>?_,λB=>n (.inl ⟨rfl,λh=>?_⟩),λt C=>o t (.inr ?_)⟩
 .obtain⟨k,_,rfl⟩:=mem_map.1 (show e∈_ from A);exact⟨k.1,rfl⟩
 .obtain⟨p,j,e⟩:=mem_map.1 h;subst e;exact B (.string p.1,p.2) (mem_map_of_mem (f:=λp:ByteArray×Sl=>(Value.string p.1,p.2)) j) rfl
 .obtain⟨p,j,e⟩:=mem_map.1 (show(Value.string key,t)∈_ from C);simp only[Prod.mk.injEq,Value.string.injEq]at e;obtain⟨D,E⟩:=e;subst D E;exact j
theorem vJ.keep{κ:cd->ByteArray}{y:Nat}{l:bx}{kk:cm}{G:ByteArray->bx}(g:vJ κ m h y gr od l kk G)(d:∀o,m y=some o->m' y=some o)(le:PH.le h h'):vJ κ m' h' y gr od l kk G:=by
 obtain⟨e,c,f,j,n,u⟩:=g.map_;exact⟨⟨e,c,d _ f,j,n,u⟩,g.nodup,λp x=>bV.mono (g.rows p x) le (λr t z=>cA.mono z le),g.none_,g.perm,g.sort⟩
theorem vJ.at_{κ:cd->ByteArray}{y:Nat}{l:bx}{kk:cm}{G:ByteArray->bx}{key:ByteArray}{s:Sl}(g:vJ κ m h y gr od l kk G)(c:ET kk key s):Rows h s (G key):=by
 rcases c with⟨rfl,d⟩|e
 .rw[g.none_ key d];exact(gS.nil h).rows (dK.nil _ _) bj
 .exact g.rows _ e
def X8(q:Query)(ls:List bx):bx:=match q with|.mk _ _ _ _ _ gr od li _=>HD gr od li (ls.getD 0 []) (ls.getD 1 [])
def TE(q:Query)(ls:List bx):Prop:=match q with|.mk _ _ _ _ _ gr _ _ _=>2<=ls.length/\∃w,hU w (ls.getD 0 [])/\hU w (ls.getD 1 [])/\jC w gr
def SL(op:Int)(q:Query)(ls:List bx):bx:=
 if op=2 then Yk q ls else if op=3 then bqJ q ls else if op=4 then bNQ q ls else if op=5 then bqX q ls else if op=6 then bAZ q ls else if op=7 then bEJ q ls else if op=8 then axZ q ls else if op=9 then bLJ q ls else X8 q ls
def O0(op:Int)(q:Query)(ls:List bx):Prop:=
 if op=2 then brX 1 q ls else if op=3 then atQ q ls else if op=4 then atJ q ls else if op=5 then asX q ls else if op=6 then brX 2 q ls else if op=7 then RT q ls else if op=8 then RT q ls else if op=9 then asZ q ls else TE q ls
mutual
def Ay(ls:List bx):Query->Nat->bx×Nat
 |.mk op ta w co on gr od li args,k=>if op=1 then(ls.getD k [],k+1)else(SL op (.mk op ta w co on gr od li args) (xA ls args k).1,(xA ls args k).2)
def xA(ls:List bx):cg->Nat->List bx×Nat
 |[],k=>([],k)
 |q::qs,k=>((Ay ls q k).1::(xA ls qs (Ay ls q k).2).1,(xA ls qs (Ay ls q k).2).2)
end
mutual
def okQ(ls:List bx):Query->Nat->Prop
 |.mk op ta w co on gr od li args,k=>if op=1 then k<ls.length else O0 op (.mk op ta w co on gr od li args) (xA ls args k).1/\asJ ls args k
def asJ(ls:List bx):cg->Nat->Prop
 |[],_=>True
 |q::qs,k=>okQ ls q k/\asJ ls qs (Ay ls q k).2
end
def Leaves(h:PH)(s:Sl)(ls:List bx):Prop:=bV h 1 eS (λl t=>Rows h t l) s ls
def SI:Vc.Spec:=λc m h K=>∃s r,c=[cS s]/\cA h s r/\r.length<=1000/\∀d h',PH.le h h'->cA h' d r->K (cS d) m h'
def Un(a:Addr)(n c:Nat)(m:MH)(h:PH)(K:bu):Prop:=
  ∃(y:List bw),aA (eW 3 y) (dK h (Sl.mk (Option.some a) n c) 3 y) (aA (iF (0+y.length) 32) (oL (0+y.length)) (cG h 3 (Eu y) (λs d=>K (dN s) m d)))
theorem bHJ(a:Addr)(n c:Nat)(m:MH)(h:PH)(K:bu):Un a n c m h K=(sI (cW [] [] [] [] false) Tryz.f62 (cL Tryz.f62) (entry Tryz.f62.ntmps [.val (.slice (some a) n c)] m h) K):=bi
def PM(n c:Nat)(m:MH)(h:PH)(K:bu):Prop:=
  K CZ m h
theorem beX(n c:Nat)(m:MH)(h:PH)(K:bu):PM n c m h K=(sI (cW [] [] [] [] false) Tryz.f62 (cL Tryz.f62) (entry Tryz.f62.ntmps [.val (.slice none n c)] m h) K):=bi
theorem PO:br 62 SI:=by
 refine eV (fn:=Tryz.f62) (c:=cL Tryz.f62) func62 rfl bk ?_;rintro A m h K ⟨⟨a,n,c⟩,r,rfl,g,G,j⟩;refine⟨cW [] [] [] [] false,rfl,aH,?_⟩;cases a with
 |none=>
  show sI _ Tryz.f62 (cL Tryz.f62) (entry Tryz.f62.ntmps [.val (.slice none n c)] m h) K;rw[<-beX n c m h K];dsimp only[PM,push_cast];refine j ⟨none,0,0⟩ h (.refl _) ?_;cases r with
  |nil=>exact⟨⟨[],dK.nil _ _,rfl,λi x B=>by simp at B⟩,bj⟩
  |cons x r=>
   obtain⟨b,o,v,e,_⟩:=bV.at g (i:=0) (x:=x) rfl;cases e
 |some a=>
  show sI _ Tryz.f62 (cL Tryz.f62) (entry Tryz.f62.ntmps [.val (.slice (some a) n c)] m h) K;rw[<-bHJ a n c m h K];dsimp only[Un,push_cast];obtain⟨⟨y,C,D,E⟩,F⟩:=g;refine⟨y.map VV.enc,?_,C,by rw[length_map];omega,by rw[length_map];omega,λs h' le d=>j s h' le ⟨⟨y,bo d,D,E⟩,F⟩⟩;constructor
  .intro e f;obtain⟨x,_,rfl⟩:=mem_map.1 f;rfl
  .intro e f u z;obtain⟨x,_,rfl⟩:=mem_map.1 f;simp[VV.enc]at z;rcases z with rfl|rfl|rfl<;>rfl
mutual
def pA:Query->bt
 |.mk op ta _ _ _ _ _ _ args=>(if op=1 then[ta]else[])++kU args
def kU:cg->bt
 |[]=>[]
 |q::qs=>pA q++kU qs
end
structure FR(s:iJ)(c:Nat)(ls:List bx)(k:Nat)(ts:bt):Prop where
 at_:∀(j:Nat)(t:Int),ts[j]? =some t->∃l,ls[k+j]? =some l/\hU (iA s t).length l/\l.length<=c
theorem FR.left{c k:Nat}{ls:List bx}{b:bt}(x:FR s c ls k (a++b)):FR s c ls k a:=
 ⟨λj t h=>x.at_ j t (by rw[getElem?_append_left (List.getElem?_eq_some_iff.1 h).1];exact h)⟩
theorem FR.right{c k:Nat}{ls:List bx}{b:bt}(x:FR s c ls k (a++b)):FR s c ls (k+a.length) b:=
 ⟨λj t h=>by
  have:=x.at_ (a.length+j) t (by rw[getElem?_append_right aD,Nat.add_sub_cancel_left];exact h)
  rwa [show k+a.length+j=k+(a.length+j)by omega]⟩
theorem sH{op:Int}{w:Pred}{on:bz}{args:cg}{ks:bt}(h:aK s ps (.mk op ta w co on gr od li args)=(ks,0)):
 ∃c,dV s ps args=(c,0)/\(c.length:Int)=arity op/\dQ s ps (.mk op ta w co on gr od li args) (c.getD 0 []) (c.getD 1 [])=(ks,0):=by
 rw[aK]at h;generalize dV s ps args=r at h;obtain⟨c,e⟩:=r;dsimp only at h;split at h
 .rename_i d;subst d;split at h
  .rename_i f;exact⟨c,rfl,f,h⟩
  .simp[dG]at h
 .rename_i d;simp only[dG,Prod.mk.injEq]at h;exact absurd h.2 d
theorem lS{q:Query}{f:cg}{d:List bt}(h:dV s ps (q::f)=(d,0)):∃k c,aK s ps q=(k,0)/\dV s ps f=(c,0)/\d=k::c:=by
 rw[dV]at h;generalize aK s ps q=r at h;obtain⟨k,e⟩:=r;generalize dV s ps f=r at h;obtain⟨ks,n⟩:=r;dsimp only at h;split at h
 .rename_i g;split at h
  .rename_i j;simp only[Prod.mk.injEq,and_true]at h;exact⟨k,ks,by rw[g],by rw[j],h.symm⟩
  .rename_i j;simp only[Prod.mk.injEq]at h;exact absurd h.2 j
 .rename_i g;simp only[Prod.mk.injEq]at h;exact absurd h.2 g
theorem mD{ks:bt}(h:kR l=(ks,0)):ks=l/\l.length<=12:=by
 unfold kR at h;split at h
 .rename_i c;simp only[Prod.mk.injEq,and_true]at h;exact⟨h.symm,c⟩
 .simp at h
theorem Ow{op:Int}(h:arity op=0):op=1:=by
 unfold arity at h;split at h
 .rename_i e;simpa using e
 .split at h
  .omega
  .split at h<;>omega
mutual
theorem Va{s:iJ}{ps:bt}{c:Nat}(f:1<=c):∀{q:Query}{ks:bt},aK s ps q=(ks,0)->1<=fE c q
 |.mk op ta w co on gr od li args,ks,h=>by
  obtain⟨j,d,g,o⟩:=sH h;have e:=XE f d;rw[fE];split
  .exact f
  .rename_i n;split
   .exact e.1
   .match args,d,e with
    |[],d,_=>rw[dV]at d;simp only[Prod.mk.injEq,and_true]at d;rw[<-d]at g;exact absurd (Ow g.symm) n
    |q::qs,d,e=>exact e.2 bj
theorem XE{s:iJ}{ps:bt}{c:Nat}(f:1<=c):∀{e:cg}{d:List bt},dV s ps e=(d,0)->1<=u0 c e/\(e≠[]->1<=sB c e)
 |[],d,h=>by simp[u0]
 |q::e,d,h=>by
  obtain⟨k,g,j,n,x⟩:=lS h;have o:=Va f j;have u:=XE f n;rw[u0,sB];exact⟨Nat.mul_pos o u.1,λ_=>by omega⟩
end
def Ru(c:Nat):cg->List bt->List bx->Prop
 |[],[],[]=>True
 |q::qs,k::ks,l::ls=>hU k.length l/\l.length<=fE c q/\Ru c qs ks ls
 |_,_,_=>False
theorem R4{α:Type}:∀{l:List α},l.length=2->∃a b,l=[a,b]
 |[a,b],_=>⟨a,b,rfl⟩
theorem Ru.len{c:Nat}{d:cg}{ls:List bx}(h:Ru c d ks ls):d.length=ks.length/\ls.length=ks.length:=by
 induction d generalizing ks ls with
 |nil=>
  match ks,ls,h with
  |[],[],_=>exact⟨rfl,rfl⟩
  |_::_,[],h=>exact h.elim
  |[],_::_,h=>exact h.elim
  |_::_,_::_,h=>exact h.elim
 |cons q d e=>
  match ks,ls,h with
  |[],[],h=>exact h.elim
  |_::_,[],h=>exact h.elim
  |[],_::_,h=>exact h.elim
  |k::ks,l::ls,h=>
   obtain⟨f,g⟩:=e h.2.2;exact⟨by simp[f],by simp[g]⟩
theorem hU.filter{w:Nat}{l:bx}(x:hU w l)(p:cd->Bool):hU w (l.filter p):=
 ⟨λr h=>x.row r (mem_filter.1 h).1,λr h=>x.wid r (mem_filter.1 h).1,x.srt.filter p,Nat.le_trans (length_filter_le _ _) x.len⟩
theorem TO(x:cd):∀l:bx,(Kp x l).length<=l.length+1
 |[]=>by simp[Kp]
 |y::l=>by
  have:=TO x l;simp only[Kp];split
  .simp
  .split<;>simp<;>omega
theorem H5:∀l:bx,(Dq l).length<=l.length
 |[]=>by simp[Dq]
 |x::l=>by
  have c:=H5 l;have d:=TO x (Dq l);show(Kp x (Dq l)).length<=(x::l).length;simp only[length_cons];omega
theorem hU.set{w:Nat}{l:bx}(c:∀r∈l,SD r)(d:∀r∈l,r.length=w)(e:l.length<=1000000):hU w (Dq l):=
 ⟨λr h=>c r (Ff.1 h),λr h=>d r (Ff.1 h),Fe l,Nat.le_trans (H5 l) e⟩
theorem JD:∀{x y u v:cd},x.length=y.length->dP (x++u) (y++v)=if dP x y≠0 then dP x y else dP u v
 |[],[],u,v,_=>by simp[dP]
 |a::x,b::y,u,v,h=>by
  simp only[length_cons,Nat.add_right_cancel_iff]at h;simp only[cons_append,dP];by_cases e:lW a b=0
  .simp only[e,ne_eq,not_true_eq_false,if_false];exact JD h
  .simp[e]
 |[],_::_,_,_,h=>by simp at h
 |_::_,[],_,_,h=>by simp at h
theorem Ct{on:bz}{b:bx}{x z:cd}(h:z∈oX on b x):∃y∈b,z=x++y:=by
 unfold oX at h;split at h
 .obtain⟨y,c,rfl⟩:=mem_map.1 h;exact⟨y,(mem_filter.1 c).1,rfl⟩
 .simp at h
theorem hU.join{w w':Nat}{a b:bx}{on:bz}(d:hU w a)(g:hU w' b)(A:w+w'<=12)(j:a.length*b.length<=1000000):hU (w+w') (a.flatMap (oX on b)):=by
 refine⟨λr h=>?_,λr h=>?_,?_,Nat.le_trans (Ab λx _=>Cu) j⟩
 .obtain⟨x,c,h⟩:=mem_flatMap.1 h;obtain⟨y,e,rfl⟩:=Ct h;have B:=d.wid x c;have C:=g.wid y e;refine⟨by rw[length_append];omega,λv f=>?_⟩;rcases mem_append.1 f with f|f
  .exact(d.row x c).val v f
  .exact(g.row y e).val v f
 .obtain⟨x,c,h⟩:=mem_flatMap.1 h;obtain⟨y,e,rfl⟩:=Ct h;rw[length_append,d.wid x c,g.wid y e]
 .refine pairwise_flatMap.2 ⟨λx c=>?_,?_⟩
  .unfold oX;split
   .refine pairwise_map.2 ((g.srt.filter _).imp fun{y z} h=>?_);rw[JD rfl,if_neg (by rw[jM.2 rfl];simp)];exact h
   .exact List.Pairwise.nil
  .refine d.srt.imp_of_mem fun{x y} c e h z n u o=>?_;obtain⟨D,_,rfl⟩:=Ct n;obtain⟨E,_,rfl⟩:=Ct o;rw[JD (by rw[d.wid x c,d.wid y e]),if_pos aD];exact h
theorem NP{c:Int}(h:BM a c=true):0<=c/\c<a.length:=by
 simp only[BM,Bool.and_eq_true,decide_eq_true_eq]at h;exact h
theorem FD{α:Type}{T:List α->α->Prop}{l:List α}(h:Good T l){x:α}(d:x∈l):∃c,T c x:=by
 obtain⟨i,f,e⟩:=mem_iff_getElem.1 d;exact⟨_,h i x (by rw[<-e];exact getElem?_eq_getElem f)⟩
theorem Ih:∀(n:Nat)(l:bt),l.Nodup->(∀x∈l,0<=x/\x<n)->l.length<=n
 |0,[],_,_=>bj
 |0,x::l,_,h=>by have:=h x (mem_cons_self ..);omega
 |n+1,l,d,h=>by
  by_cases f:(n:Int)∈l
  .have g:=Ih n (l.erase n) (d.erase _) (λx c=>by
    have j:=(d.mem_erase_iff).1 c;have:=h x j.2;omega)
   rw[length_erase_of_mem f]at g;omega
  .have:=Ih n l d (λx c=>by
    have:=h x c;have o:x≠(n:Int):=λe=>f (e▸c);omega)
   omega
theorem NS{α:Type}{T:List α->α->Prop}{l:List α}(f:α->Int)(d:∀c x,T c x->f x∉c.map f)(h:Good T l):(l.map f).Nodup:=by
 rw[nodup_iff_pairwise_ne,pairwise_map,pairwise_iff_getElem];intro i j o g n e;refine d _ _ (h j l[j] (getElem?_eq_getElem g)) (mem_map.2 ⟨l[i],?_,e⟩);rw[mem_take_iff_getElem];exact⟨i,aD,rfl⟩
theorem NR(h:Good (EI a) gr)(j:a.length<=12):jC a.length gr:=by
 have f:∀c∈gr,0<=c/\c<a.length:=λc g=>by obtain⟨_,d⟩:=FD h g;exact NP d.1
 have d:=NS id (λe x(h:EI a e x)=>bo h.2) h;rw[map_id]at d;exact⟨f,by have:=Ih _ _ d f;omega⟩
theorem Pp{b:bt}{on:bz}(h:Good (kX a b) on)(B:a.length<=12)(C:b.length<=12):jC a.length (nI on)/\jC b.length (iQ on):=by
 have n:∀c∈nI on,0<=c/\c<a.length:=λc f=>by
  obtain⟨p,g,rfl⟩:=mem_map.1 f;obtain⟨_,d⟩:=FD h g;exact NP d.1
 have d:∀c∈iQ on,0<=c/\c<b.length:=λc f=>by
  obtain⟨p,g,rfl⟩:=mem_map.1 f;obtain⟨_,d⟩:=FD h g;exact NP d.2.1
 have o:(nI on).Nodup:=NS Prod.fst (λj x(h:kX a b j x) u=>by
  obtain⟨y,z,e⟩:=mem_map.1 u;exact(h.2.2.2 y z).1 e) h
 have A:=Ih _ _ o n;exact⟨⟨n,aD⟩,⟨d,by simp only[nI,iQ,length_map]at A⊢;omega⟩⟩
theorem Tw{w:Nat}{r:cd}(c:SD r)(d:r.length=w)(e:jC w co)(f:co.length<=12):SD (pick r co)/\(pick r co).length=co.length:=
 ⟨⟨by simpa[pick]using f,Ie c (by rw[d];exact e)⟩,by simp[pick]⟩
theorem HZ{c:Nat}{q p:Query}:sB c [q,p]=fE c q+fE c p:=by simp[sB]
theorem RF{c:Nat}{q:Query}:sB c [q]=fE c q:=by simp[sB]
theorem aqX{c:Nat}{q p:Query}:u0 c [q,p]=fE c q*fE c p:=by simp[u0]
theorem a4J{c:Nat}{op:Int}{w:Pred}{on:bz}{args:cg}{ks:bt}{u:List bt}{L:List bx}(Q:op≠1)
 (R:(u.length:Int)=arity op)(G:∀k∈u,k.length<=12)(d:dQ s ps (.mk op ta w co on gr od li args) (u.getD 0 []) (u.getD 1 [])=(ks,0))(F:Ru c args u L)(o:fE c (.mk op ta w co on gr od li args)<=1000000):
 O0 op (.mk op ta w co on gr od li args) L/\hU ks.length (SL op (.mk op ta w co on gr od li args) L)/\(SL op (.mk op ta w co on gr od li args) L).length<=fE c (.mk op ta w co on gr od li args):=by
 rw[fE,if_neg Q]at o⊢
 unfold dQ at d;dsimp only at d;split at d
 .simp[dG]at d
 have one:arity op=1->∃q k l,args=[q]/\u=[k]/\L=[l]/\hU k.length l/\l.length<=fE c q/\k.length<=12:=λe=>by
  obtain⟨J,M⟩:=F.len;obtain⟨k,rfl⟩:=length_eq_one_iff.1 (show u.length=1 by omega);obtain⟨q,rfl⟩:=length_eq_one_iff.1 (show args.length=1 by simpa using J);obtain⟨l,rfl⟩:=length_eq_one_iff.1 (show L.length=1 by simpa using M);exact⟨q,k,l,rfl,rfl,rfl,F.1,F.2.1,G k (by simp)⟩
 have two:arity op=2->∃q p k z l B,args=[q,p]/\u=[k,z]/\L=[l,B]/\hU k.length l/\l.length<=fE c q/\hU z.length B/\B.length<=fE c p/\k.length<=12/\z.length<=12:=λe=>by
  obtain⟨J,M⟩:=F.len;obtain⟨k,z,rfl⟩:=R4 (show u.length=2 by omega);obtain⟨q,p,rfl⟩:=R4 (show args.length=2 by simpa using J);obtain⟨l,B,rfl⟩:=R4 (show L.length=2 by simpa using M);exact⟨q,p,k,z,l,B,rfl,rfl,rfl,F.1,F.2.1,F.2.2.1,F.2.2.2.1,G k (by simp),G z (by simp)⟩
 have S:op=2\/op=3\/op=9\/op=4\/op=5\/op=6\/op=7\/op=8\/op=10:=by
  have:0<=arity op:=by omega
  unfold arity at this;split at this
  .rename_i e;simp at e;exact absurd e Q
  .split at this
   .rename_i e;simp at e;omega
   .split at this
    .rename_i e;simp at e;omega
    .omega
 rcases S with rfl|rfl|rfl|rfl|rfl|rfl|rfl|rfl|rfl
 .obtain⟨q,k,l,rfl,rfl,rfl,g,C,D⟩:=one rfl;simp only[show((2:Int)=4)=False by decide,if_false,if_true]at d o⊢
  split at d
  .obtain⟨rfl,_⟩:=mD d;refine⟨⟨by simp,λx y=>by simp at y;subst y;exact⟨_,g⟩⟩,g.filter _,Nat.le_trans (length_filter_le _ _) ?_⟩;rw[RF];exact C
  .rename_i e;simp only[dG,Prod.mk.injEq]at d;exact absurd d.2 e
 .obtain⟨q,k,l,rfl,rfl,rfl,g,C,D⟩:=one rfl;simp only[show((3:Int)=4)=False by decide,show((3:Int)=2)=False by decide,if_false,if_true]at d o⊢
  split at d
  .rename_i j;obtain⟨rfl,f⟩:=mD d;rw[length_map]at f⊢
   have A:jC k.length co:=⟨λc A=>by obtain⟨_,R⟩:=FD j.2 A;exact NP R,aD⟩
   rw[RF]at o⊢
   refine⟨⟨by simp,f,_,g,A⟩,hU.set (λr h=>?_) (λr h=>?_) (by show(l.map _).length<=_;rw[length_map];exact g.len),Nat.le_trans (H5 _) (by show(l.map _).length<=_;rw[length_map];exact C)⟩
   .obtain⟨x,y,rfl⟩:=mem_map.1 h;exact(Tw (g.row x y) (g.wid x y) A f).1
   .obtain⟨x,y,rfl⟩:=mem_map.1 h;exact(Tw (g.row x y) (g.wid x y) A f).2
  .simp[dG]at d
 .obtain⟨q,k,l,rfl,rfl,rfl,g,C,D⟩:=one rfl;simp only[show((9:Int)=4)=False by decide,show((9:Int)=2)=False by decide,show((9:Int)=3)=False by decide,show((9:Int)=5)=False by decide,if_false,if_true]at d o⊢
  split at d
  .rename_i j;obtain⟨rfl,f⟩:=mD d;rw[RF]at o⊢
   exact⟨⟨by simp,⟨_,g,NR j.group_ D⟩,j.low⟩,g.filter _,Nat.le_trans (length_filter_le _ _) C⟩
  .simp[dG]at d
 .obtain⟨q,p,k,z,l,B,rfl,rfl,rfl,g,C,n,H,D,E⟩:=two rfl;simp only[show((4:Int)=2)=False by decide,show((4:Int)=3)=False by decide,if_false,if_true]at d o⊢
  split at d
  .rename_i j;obtain⟨rfl,f⟩:=mD d;rw[aqX]at o⊢
   have A:=Pp j D E;have O:l.length*B.length<=fE c q*fE c p:=Nat.mul_le_mul C H;rw[length_append]at f⊢
   exact⟨⟨⟨by simp,_,_,g,n,A.1,A.2⟩,Nat.le_trans O o⟩,g.join n f (Nat.le_trans O o),Nat.le_trans (Ab λx _=>Cu) O⟩
  .simp[dG]at d
 .obtain⟨q,p,k,z,l,B,rfl,rfl,rfl,g,C,n,H,D,E⟩:=two rfl;simp only[show((5:Int)=2)=False by decide,show((5:Int)=3)=False by decide,show((5:Int)=4)=False by decide,if_false,if_true]at d o⊢
  split at d
  .rename_i j;obtain⟨rfl,f⟩:=mD d;rw[HZ]at o⊢
   have A:=Pp j D E;exact⟨⟨by simp,_,_,g,n,A.1,A.2⟩,g.filter _,Nat.le_trans (length_filter_le _ _) (by show l.length<=_;omega)⟩
  .simp[dG]at d
 all_goals
  obtain⟨q,p,k,z,l,B,rfl,rfl,rfl,g,C,n,H,D,E⟩:=two rfl
 .simp only[show((6:Int)=2)=False by decide,show((6:Int)=3)=False by decide,show((6:Int)=4)=False by decide,show((6:Int)=5)=False by decide,show((6:Int)=9)=False by decide,show((6:Int)=10)=False by decide,if_false,if_true]at d o⊢
  split at d
  .rename_i j;have j:k=z:=j;subst j;obtain⟨rfl,f⟩:=mD d;rw[HZ]at o⊢
   have I:(l++B).length<=fE c q+fE c p:=by rw[length_append];omega
   refine⟨⟨by simp,λx y=>by simp at y;rcases y with rfl|rfl;exact⟨_,g⟩;exact⟨_,n⟩⟩,hU.set (λr h=>?_) (λr h=>?_) (Nat.le_trans I o),Nat.le_trans (H5 _) I⟩
   .rcases mem_append.1 h with h|h
    .exact g.row r h
    .exact n.row r h
   .rcases mem_append.1 h with h|h
    .exact g.wid r h
    .exact n.wid r h
  .simp[dG]at d
 .simp only[show((7:Int)=2)=False by decide,show((7:Int)=3)=False by decide,show((7:Int)=4)=False by decide,show((7:Int)=5)=False by decide,show((7:Int)=9)=False by decide,show((7:Int)=10)=False by decide,if_false,if_true]at d o⊢
  split at d
  .rename_i j;have j:k=z:=j;subst j;obtain⟨rfl,f⟩:=mD d;rw[HZ]at o⊢
   exact⟨⟨by simp,_,λx y=>by simp at y;rcases y with rfl|rfl;exact g;exact n⟩,g.filter _,Nat.le_trans (length_filter_le _ _) (by show l.length<=_;omega)⟩
  .simp[dG]at d
 .simp only[show((8:Int)=2)=False by decide,show((8:Int)=3)=False by decide,show((8:Int)=4)=False by decide,show((8:Int)=5)=False by decide,show((8:Int)=9)=False by decide,show((8:Int)=10)=False by decide,if_false,if_true]at d o⊢
  split at d
  .rename_i j;have j:k=z:=j;subst j;obtain⟨rfl,f⟩:=mD d;rw[HZ]at o⊢
   exact⟨⟨by simp,_,λx y=>by simp at y;rcases y with rfl|rfl;exact g;exact n⟩,g.filter _,Nat.le_trans (length_filter_le _ _) (by show l.length<=_;omega)⟩
  .simp[dG]at d
 .simp only[show((10:Int)=2)=False by decide,show((10:Int)=3)=False by decide,show((10:Int)=4)=False by decide,show((10:Int)=5)=False by decide,show((10:Int)=9)=False by decide,if_false,if_true]at d o⊢
  split at d
  .rename_i j;obtain⟨j,P⟩:=j;have j:k=z:=j;subst j;obtain⟨rfl,f⟩:=mD d;rw[HZ]at o⊢
   exact⟨⟨by simp,_,g,n,NR P.group_ D⟩,g.filter _,Nat.le_trans (length_filter_le _ _) (by show l.length<=_;omega)⟩
  .simp[dG]at d
theorem JF{s:iJ}{ps:bt}{c:Nat}(g:1<=c):∀{d:cg}{e:List bt},dV s ps d=(e,0)->∀q∈d,fE c q<=sB c d/\fE c q<=u0 c d
 |[],_,_,q,f=>by simp at f
 |p::d,e,h,q,f=>by
  obtain⟨k,j,o,n,y⟩:=lS h;have u:=Va g o;have x:=(XE g n).1;rw[sB,u0];rcases mem_cons.1 f with rfl|f
  .exact⟨aD,Nat.le_mul_of_pos_right _ x⟩
  .have:=JF g n q f;exact⟨aD,Nat.le_trans this.2 (Nat.le_mul_of_pos_left _ u)⟩
theorem NL{s:iJ}{ps:bt}:∀{e:cg}{c:List bt},dV s ps e=(c,0)->∀k∈c,k.length<=12
 |[],c,h,k,d=>by rw[dV]at h;simp only[Prod.mk.injEq,and_true]at h;subst h;simp at d
 |q::e,c,h,k,d=>by
  obtain⟨n,f,g,j,rfl⟩:=lS h;rcases mem_cons.1 d with rfl|d
  .have:=jH s ps q;rw[g]at this;exact this
  .exact NL j k d
structure bUX(c:Nat)(ls:List bx)(q:Query)(k:Nat)(ks:bt):Prop where
 ok:okQ ls q k
 rel:hU ks.length (Ay ls q k).1
 bnd:(Ay ls q k).1.length<=fE c q
 nxt:(Ay ls q k).2=k+(pA q).length
mutual
theorem UW{s:iJ}{ps:bt}{c:Nat}{ls:List bx}(y:1<=c):∀{q:Query}{ks:bt}{k:Nat},aK s ps q=(ks,0)->FR s c ls k (pA q)->fE c q<=1000000->bUX c ls q k ks
 |.mk op ta w co on gr od li args,ks,k,h,j,o=>by
  obtain⟨A,n,z,d⟩:=sH h;by_cases e:op=1
  .subst e
   have B:args=[]:=by
    cases args with
    |nil=>rfl
    |cons q M=>obtain⟨_,_,_,_,rfl⟩:=lS n;simp[arity]at z;omega
   subst B;have g:pA (.mk 1 ta w co on gr od li [])=[ta]:=by simp[pA,kU]
   unfold dQ at d;dsimp only at d;split at d
   .simp[dG]at d
   try rw[if_pos rfl]at d
   split at d
   .obtain⟨rfl,_⟩:=mD d;rw[g]at j;obtain⟨l,u,C,D⟩:=j.at_ 0 ta rfl;rw[Nat.add_zero]at u;have f:(Ay ls (.mk 1 ta w co on gr od li []) k)=(l,k+1):=by rw[Ay,if_pos rfl,getD_eq_getElem?_getD,u];rfl
    refine⟨by rw[okQ,if_pos rfl];exact(List.getElem?_eq_some_iff.1 u).1,by rw[f];exact C,by rw[f,fE,if_pos rfl];exact D,by rw[f,g];rfl⟩
   .simp[dG]at d
  .have g:pA (.mk op ta w co on gr od li args)=kU args:=by simp[pA,e]
   rw[g]at j
   have x:∀q∈args,fE c q<=1000000:=λq E=>by
    have O:=JF y n q E;rw[fE,if_neg e]at o;split at o<;>omega
   obtain⟨F,G,H⟩:=Q5 y n j x;obtain⟨I,J,L⟩:=a4J e z (NL n) d G o;have f:Ay ls (.mk op ta w co on gr od li args) k=(SL op (.mk op ta w co on gr od li args) (xA ls args k).1,(xA ls args k).2):=by rw[Ay,if_neg e]
   exact⟨by rw[okQ,if_neg e];exact⟨I,F⟩,by rw[f];exact J,by rw[f];exact L,by rw[f,g];exact H⟩
theorem Q5{s:iJ}{ps:bt}{c:Nat}{ls:List bx}(n:1<=c):∀{d:cg}{e:List bt}{k:Nat},dV s ps d=(e,0)->FR s c ls k (kU d)->(∀q∈d,fE c q<=1000000)->asJ ls d k/\Ru c d e (xA ls d k).1/\(xA ls d k).2=k+(kU d).length
 |[],e,k,h,_,_=>by
  rw[dV]at h;simp only[Prod.mk.injEq,and_true]at h;subst h;simp[asJ,xA,Ru,kU]
 |q::d,e,k,h,j,o=>by
  obtain⟨A,u,x,y,rfl⟩:=lS h;rw[kU]at j;have f:=UW n x j.left (o q (mem_cons_self ..));have g:=Q5 n y j.right (λp z=>o p (mem_cons_of_mem _ z));rw[<-f.nxt]at g;rw[asJ,xA,kU];refine⟨⟨f.ok,g.1⟩,⟨f.rel,f.bnd,g.2.1⟩,?_⟩;rw[g.2.2,f.nxt,length_append];omega
end
structure Au(m:MH)(tb:Nat)(ws:List cM):Prop where
 ex:∃cur:Array Value,m tb=some (.cells cur 82 (0,0))/\cur.toList.take (ws.length*5)=(ws.map cM.enc).flatten
def YR:Vc.Spec:=λd m h K=>∃e g n f j w c,∃t:Nat,d=[aS ⟨e,⟨some ⟨g,0,none⟩,n,f⟩⟩,cI t]/\t<n/\Au m g j/\j[t]? =some w/\E0 h w.columns c/\c.length<=8/\
 ∀o h',PH.le h h'->Ints h' o (c.map nP.kind)->K (cS o) m h'
noncomputable def bhZ(cb:Nat):Ctx:=
 uC [(30,Lb),(36,Rs),(73,YZ),(59,YR),(18,BJ)] [] [(5,{A:=Int×Int×MH×PH,st:=λ⟨n,id,m,h⟩=>bY 86 87 [(0,pv cb),(2,.at (.ptr 2 0)),(3,iv n),(4,iv id)] [(2,.cells 40 [.val (.int .i64 0),.val (.slice none 0 0)])] m h}),
  (9,{A:=Int×cN×MH×PH,st:=λ⟨n,s,m,h⟩=>bY 86 87 [(0,pv cb),(2,.at (.ptr 2 0)),(3,iv n),(5,.at (.ptr 5 0))] [(2,.cells 40 [.val (.int .i64 0),.val (.slice none 0 0)]),(5,.cells 40 (s.enc.map .val))] m h}),
  (11,{A:=Int×cN×MH×PH,st:=λ⟨n,s,m,h⟩=>bY 86 87 [(0,pv cb),(2,.at (.ptr 2 0)),(3,iv n),(5,.at (.ptr 5 0))] [(2,.cells 40 [.val (.int .i64 0),.val (.slice none 0 0)]),(5,.cells 40 (s.enc.map .val))] m h}),
  (13,{A:=cN×MH×PH,st:=λ⟨s,m,h⟩=>bY 86 87 [(0,pv cb),(2,.at (.ptr 2 0)),(5,.at (.ptr 5 0))] [(2,.cells 40 [.val (.int .i64 0),.val (.slice none 0 0)]),(5,.cells 40 (s.enc.map .val))] m h}),
  (15,{A:=cN×MH×PH,st:=λ⟨s,m,h⟩=>bY 86 87 [(2,.at (.ptr 2 0)),(5,.at (.ptr 5 0))] [(2,.cells 40 [.val (.int .i64 0),.val (.slice none 0 0)]),(5,.cells 40 (s.enc.map .val))] m h})] [] [38] [] false
def mV(id:Int):List yB:=
 [⟨⟨⟨[112,114,111,106,101,99,116,115]⟩⟩,[⟨⟨⟨[105,100]⟩⟩,4⟩,⟨⟨⟨[111,119,110,101,114]⟩⟩,4⟩],1,[],[]⟩,
  ⟨⟨⟨[116,97,115,107,115]⟩⟩,[⟨⟨⟨[105,100]⟩⟩,id⟩,⟨⟨⟨[112,114,111,106,101,99,116]⟩⟩,4⟩,⟨⟨⟨[116,105,116,108,101]⟩⟩,5⟩,⟨⟨⟨[100,111,110,101]⟩⟩,3⟩],1,[],[]⟩,
  ⟨⟨⟨[109,101,109,98,101,114,115]⟩⟩,[⟨⟨⟨[112,114,111,106,101,99,116]⟩⟩,4⟩,⟨⟨⟨[112,101,114,115,111,110]⟩⟩,4⟩],2,[],[]⟩,
  ⟨⟨⟨[97,114,99,104,105,118,101,100]⟩⟩,[⟨⟨⟨[116,97,115,107]⟩⟩,id⟩],1,[],[]⟩]
structure MR(h:PH)(t:yB)(w:cM):Prop where
 name_:w.name=t.name
 key_:w.key=t.key
 cols_:E0 h w.columns t.columns
def XG(h:PH)(id:Int)(ws:List cM):Prop:=ws.length=4/\∀(i:Nat) t,(mV id)[i]? =some t->∃w,ws[i]? =some w/\MR h t w
structure CA(m0:MH)(h0:PH)(cb:Nat)(tb n:Nat)(id:Int)(ws:List cM)(s:cN)(m:MH)(h:PH):Prop where
 le_:PH.le h0 h
 ver0:0<=s.version
 ver1:s.version<=2
 case_:bC m h cb
 n2:2<=n
 n4:n<=4
 sl_:∃cap,s.tables=⟨some ⟨tb,0,none⟩,n,cap⟩/\n<=cap
 id_:id=4\/id=5
 new_:m0 tb=none
 ne_:tb≠cb
 row_:Au m tb ws
 ws_:XG h id ws
 other_:∀b,b≠cb->b≠tb->m b=m0 b
def YI:Vc.Spec:=λc m h K=>∃cb,c=[cP cb]/\bC m h cb/\∀d n id e s m' h',CA m h cb d n id e s m' h'->K (aS s) m' h'
noncomputable def bGZ:Ctx:=
 uC [(29,YI)] [(3,{A:=Nat×cN×MH×PH,st:=λ⟨i,s,m,h⟩=>bY 25 26 [(2,.at (.ptr 2 0)),(3,.at (.ptr 3 0)),(9,iv s.tables.len),(10,iv i)] [(2,.cells 40 [.val (.int .i64 0),.val (.slice none 0 0)]),(3,.cells 40 (s.enc.map .val))] m h})] [] [] [38] [] false
def ah(v:cN)(t:Int)(m:MH)(h:PH)(K:bu):Prop:=
  bA t 0 (K CZ m h) (fQ t (i6 v) (K CZ m h) (Mr v t m h (λb=>b) (λo=>o) 1 (λy=>y) (λy I x=>aA (I x) (eL 32) (aA (bH y (mR x)) (cF y (mR x)) (aA (bF x.1) (rJ (u6 x)) (aA (m=m) (h=h) True)))) (λI d x=>Mq (I x) x 0 (λb o y=>aU m h b (bN o x.1 2) (qE y.name y.kind)) (λy c=>aA (I c) (d c<d x) (aA (eL 32) (bH (mR x) (mR c)) (aA (cF (mR x) (mR c)) (fU (bG x.1 1)=bP c.1) (aA (rK (u6 x) y.kind (u6 c)) (m=m) (bD h h))))) (sW h (u6 x) K m))))
theorem ay(v:cN)(t:Int)(m:MH)(h:PH)(K:bu):ah v t m h K=(sI (f59_ctx m h) Tryz.f59 (cL Tryz.f59) (entry Tryz.f59.ntmps [aS v,cI t] m h) K):=bi
abbrev uP:Prop:=eQ (oQ 40 (mN jA FM))
abbrev AP(a:ByteArray)(b:Int)(c:ByteArray)(d:Int)(e:ByteArray->Int->Prop):Prop:=bT (jU a) b=bT (jU c) d/\∃(x:ByteArray)(f:Int),e x f
noncomputable abbrev IX:ByteArray:=ByteArray.mk (Array.mk (eY 105 (eY 100 [])))
noncomputable abbrev IG:ByteArray:=ByteArray.mk (Array.mk (eY 112 (eY 114 (eY 111 (eY 106 (eY 101 (eY 99 (vC 116))))))))
noncomputable abbrev Mz(a:Nat)(b:cn):ByteArray:=ByteArray.mk (Array.mk (eY 116 (eY a (eY 115 (eY 107 b)))))
noncomputable abbrev j4(a:cN×MH×PH):Nat->Nat->Option Value:=a.2.2
abbrev Iw(a:Int×cN×MH×PH->Prop)(b:Nat)(c:Int)(d:(Int×cN×MH×PH)->Prop)(e:MH)(g:Nat->Nat->Option Value):Prop:=∃(x:Int×cN×MH×PH),aA (a x) (cQ b) (aA fG (dA c x.1) (aA dL uP (aA (d x) (cV e x.2.2) (bD g (j4 x.2)))))
noncomputable abbrev Aq(a:Option Addr)(b c:Nat):At:=At.val (Value.slice a b c)
noncomputable abbrev tT(a:Int×cN×MH×PH):cN:=a.2.1
abbrev wM(a b:cN):Prop:=oQ 40 (mN (Ik a) (Ij a))=oQ 40 (mN (Ik b) (Ij b))
abbrev zC(a:ct)(b:MH)(c:PH)(d:Nat->bt->bt->Nat->Prop):Prop:=Kd (λx j=>B4 (λn e f=>∃(g:Nat),aA (a=gP x (dN j::bT (dN n) (↑g:Int))) (bC b c x) (aA (Ints c j e) (Ints c n f) (aI (iO e) (iO f) (lR g) (d x e f g)))))
attribute [push_cast] uP AP IX IG Mz j4 Iw Aq tT wM zC
def UA(cb:Nat)(m:MH)(h:PH)(K:bu):Prop:=
  kO cb 3 m h (λk L=>∃(I:Int×Int×MH×PH->Prop),oP cb 5 L h (λc r=>∀(E:MH),bM L E c->bC E h c->branch r (∃(x:Int×Int×MH×PH),aA (I x) (cQ cb) (aA fG (dA (iE (2+k)) x.1) (aA (dA 5 x.2.1) uP (aA (cV E x.2.2) (h=x.2.2.2) True)))) (∃(x:Int×Int×MH×PH),aA (I x) (cQ cb) (aA fG (dA (iE (2+k)) x.1) (aA (dA 4 x.2.1) uP (aA (cV E x.2.2) (h=x.2.2.2) True)))))/\∀(x:Int×Int×MH×PH),I x->kO cb 3 x.2.2.1 x.2.2.2 (λM E=>∃(n:ByteArray)(O:Int),AP IX 4 n O (λP Q=>AP (ByteArray.mk (Array.mk (eY 111 (eY 119 (eY 110 (eY 101 (vC 114))))))) 4 P Q (λR S=>AP IX x.2.1 R S (λT U=>AP IG 4 T U (λV W=>AP (ByteArray.mk (Array.mk (eY 116 (eY 105
 (eY 116 (eY 108 (vC 101))))))) 5 V W (λX Y=>AP (ByteArray.mk (Array.mk (eY 100 (eY 111 (eY 110 (eY 101 [])))))) 3 X Y (λZ k8=>AP IG 4 Z k8 (λn7 k9=>AP (ByteArray.mk (Array.mk (eY 112 (eY 101 (eY 114 (eY 115 (eY 111 (eY 110 [])))))))) 4 n7 k9 (λn8 a=>bT (jU (Mz 97 [])) x.2.1=bT (jU n8) a/\cG x.2.2.2 2 (oC (qE n O) (qE P Q)) (λs h1=>cG h1 2 (qE R S::qE T U::oC (qE V W) (qE X Y)) (λs1 h2=>cG h2 2 (oC (qE Z k8) (qE n7 k9)) (λs2 h3=>cG h3 2 (iZ (qE n8 a)) (λs3 F=>oD (λC G=>pM E G F C 82 5 (aR (Value.string (ByteArray.mk (Array.mk (eY 112 (eY 114 (eY 111 (eY 106 (eY 101 (eY 99 (eY 116 (eY 115 []))))))))))) (gU s) (aR (dY 1) pO iT)
 ::aR (Value.string (Mz 97 (vC 115))) (gU s1) (aR (dY 1) pO iT)::oC (aR (Value.string (ByteArray.mk (Array.mk (eY 109 (eY 101 (eY 109 (eY 98 (eY 101 (eY 114 (vC 115)))))))))) (gU s2) (aR (dY 2) pO iT)) (aR (Value.string (ByteArray.mk (Array.mk (eY 97 (eY 114 (eY 99 (eY 104 (eY 105 (eY 118 (eY 101 (eY 100 []))))))))))) (gU s3) (aR (dY 1) pO iT)))->aA (bZ x.1) (x.1<=(↑C.cap:Int)) (∃(I1:Int×cN×MH×PH->Prop),oP cb 2 G F (λc r=>∀(j:MH),bM G j c->bC j F c->branch r (cG F 1 (iZ (bJ 1)) (λB y=>aW (λb o=>aI (aX C.a b o) ((0:Int)<=1) (1<(↑x.1.toNat:Int)) (cG y 2 (iZ (nA (gU B) bL)) (λD z=>rO j b (o+5+3) (aY D) (λA=>Iw I1 cb x.1 (λg=>oQ 40 (mN (iI M)
 (Aq C.a x.1.toNat C.cap))=oQ 40 (mN (Ik (tT g)) (Ij (tT g)))) A z)))))) (Iw I1 cb x.1 (λg=>oQ 40 (mN (iI M) (Aq C.a x.1.toNat C.cap))=oQ 40 (mN (Ik (tT g)) (Ij (tT g)))) j F))/\∀(g:Int×cN×MH×PH),I1 g->∃(I2:Int×cN×MH×PH->Prop),gM g.1 2 (oP cb 3 g.2.2.1 (j4 g.2) (λc r=>∀(j:MH),bM g.2.2.1 j c->bC j (j4 g.2) c->branch r (cG (j4 g.2) 1 (iZ (kL bL)) (λB y=>F7 (tT g) 2 (λb o=>cG y 2 (iZ (nA (gU B) bL)) (λD z=>rO j b (o+10+3) (aY D) (λA=>Iw I2 cb g.1 (λf=>wM (tT g) (tT f)) A z))))) (Iw I2 cb g.1 (λf=>wM (tT g) (tT f)) j (j4 g.2)))) (∃(f:Int×cN×MH×PH),aA (I2 f) (cQ cb) (aA fG
 (dA g.1 f.1) (aA dL uP (aA (wM (tT g) (tT f)) (fO g.2.2 f.2.2) (bD (j4 g.2) (j4 f.2))))))/\∀(f:Int×cN×MH×PH),I2 f->∃(I3:cN×MH×PH->Prop),gM f.1 3 (oP cb 3 f.2.2.1 (j4 f.2) (λc r=>∀(j:MH),bM f.2.2.1 j c->bC j (j4 f.2) c->branch r (cG (j4 f.2) 1 (iZ (kL bL)) (λB y=>F7 (tT f) 3 (λb o=>cG y 2 (iZ (nA (gU B) (dY 1))) (λD z=>rO j b (o+15+3) (aY D) (λA=>∃(e:cN×MH×PH),aA (I3 e) (cQ cb) (aA fG dL (aA uP (wM (tT f) e.1) (aA (cV A e.2) (z=j4 e) True)))))))) (∃(e:cN×MH×PH),aA (I3 e) (cQ cb) (aA fG dL (aA uP (wM (tT f) e.1) (aA (cV j e.2) (j4 f.2=j4 e) True)))))) (∃(e:
 cN×MH×PH),aA (I3 e) (cQ cb) (aA fG dL (aA uP (wM (tT f) e.1) (aA (fO f.2.2 e.2) (j4 f.2=j4 e) True))))/\∀(e:cN×MH×PH),I3 e->∃(I4:cN×MH×PH->Prop),oP cb 3 e.2.1 (j4 e) (λc r=>∀(j:MH),bM e.2.1 j c->bC j (j4 e) c->branch r (∃(v:Int),aW (λt n9=>∃(c1:Nat)(w:List cM)(w1:cM)(H:List nP)(J:Nat),aA (bT (bQ e.1) 1=bT (lG (nA (dY v) (Value.slice (mG t) n9 c1))) (↑J:Int)) (J<n9) (aA (Au j t w) (w[J]? =Option.some w1) (aA (E0 (j4 e) w1.columns H) (H.length<=8) (∀(B:Sl)(y:PH),cD (j4 e) y (Ints y B (List.map nP.kind H)) (zC (gP cb (dN B::bT CZ 1)) j y (λc3 c4 p d=>Bw (λv1 p1=>eX (λA z=>cD y z (eH z p1 v1) (xE c4
 p d p1->bM j A c3->jN A z c3 (F7 e.1 1 (λb o=>cG z 13 (iZ v1.enc) (λD h7=>rO A b (o+5+4) (aY D) (λm6=>∃(u:cN×MH×PH),aA (I4 u) fG (aA dL uP (aI (wM e.1 u.1) (cV m6 u.2) (h7=j4 u) True)))))))))))))))) (∃(u:cN×MH×PH),aA (I4 u) fG (aA dL uP (aI (wM e.1 u.1) (cV j u.2) (j4 e=j4 u) True))))/\∀(u:cN×MH×PH),I4 u->K (bQ u.1) u.2.1 (j4 u)))))))))))))))))
def Sf(cb:Nat)(m:MH)(h:PH)(K:bu):Prop:=
  ∃(c:Nat),oB (cT cb) (cT c) (bC m h c) (∀(t n:Nat)(i:Int)(w:List cM)(s:cN),eX (λe f=>CA m h c t n i w s e f->∃(I:Nat×cN×MH×PH->Prop)(g:Nat×cN×MH×PH->Nat),(∃(x:Nat×cN×MH×PH),aA (I x) fG (aA dR (cF s.tables x.2.1.tables) (aA (bF x.1) uP (aA (wM s x.2.1) (cV e x.2.2) (bD f (j4 x.2))))))/\∀(x:Nat×cN×MH×PH),I x->bA (↑x.1:Int) (aG x.2.1.tables) (aW (λb o=>aI (aX (tX x.2.1) b o) (0<=(↑x.1:Int)) ((↑x.1:Int)<aG x.2.1.tables) (rO x.2.2.1 b (bN o x.1 5+3) iT (λy=>aW (λj u=>aI (aX (tX x.2.1) j u) (0<=(↑x.1:Int)) ((↑x.1:Int)<aG x.2.1.tables) (rO y j (bN u x.1 5+4) iT (λz=>∃(d:Nat×cN×MH×PH),aA (I d) (g d<g x) (aA
 fG dR (aA (cF x.2.1.tables d.2.1.tables) (fU (bG x.1 1)=bP d.1) (aA uP (wM x.2.1 d.2.1) (bS (cV z d.2.2) (j4 x.2) (j4 d.2)))))))))))) (K (bQ x.2.1) x.2.2.1 (j4 x.2))))
theorem M3{α:Type}(l:List α)(o:Nat)(x:α)(h:o<l.length):splice l o [x]=l.set o x:=by
 rw[set_eq_take_append_cons_drop,if_pos h];simp[splice]
theorem flatten_set:∀(ws:List cM){i k:Nat}{w w':cM}{x:Value},ws[i]? =some w->k<5->w'.enc=w.enc.set k x->((ws.map cM.enc).flatten).set (i*5+k) x=((ws.set i w').map cM.enc).flatten
 |[],i,k,w,w',x,h,_,_=>by simp at h
 |u::ws,0,k,w,w',x,h,c,e=>by
  simp at h;subst h;simp only[map_cons,flatten_cons,set_cons_zero,Nat.zero_mul,Nat.zero_add,e];rw[set_append_left _ _ (by simpa[cM.enc]using c)]
 |u::ws,i+1,k,w,w',x,h,c,e=>by
  simp only[map_cons,flatten_cons,set_cons_succ];have d:u.enc.length=5:=rfl;rw[set_append_right _ _ (by rw[d];omega),d,show(i+1)*5+k-5=i*5+k by omega,flatten_set ws (bo h) c e]
theorem ayJ(ws:List cM):((ws.map cM.enc).flatten).length=ws.length*5:=by
 induction ws with
 |nil=>rfl
 |cons w ws c=>simp only[map_cons,flatten_cons,length_append,c,length_cons];show 5+_=_;omega
theorem Au.big{d:Nat}{ws:List cM}{cs:Array Value}{E:TypeId}{e:Nat×Nat}(h:Au m d ws)(c:m d=some (.cells cs E e)):ws.length*5<=cs.size:=by
 obtain⟨f,g,j⟩:=h.ex;rw[g]at c;simp only[Option.some.injEq,Obj.cells.injEq]at c;obtain⟨rfl,_,_⟩:=c;have:=congrArg List.length j;rw[ayJ]at this;simp at this;omega
theorem Au.store{c:Nat}{ws:List cM}{k:Nat}{w w':cM}{x:Value}(h:Au m c ws)(f:ws[i]? =some w)(g:k<5)(e:w'.enc=w.enc.set k x){cs:Array Value}{E:TypeId}{j:Nat×Nat}(d:m c=some (.cells cs E j))
 (n:m' c=some (.cells (splice cs.toList (i*5+k) [x]).toArray E (0,0))):Au m' c (ws.set i w'):=by
 have A:=h.big d;have o:=(List.getElem?_eq_some_iff.1 f).1;obtain⟨u,y,z⟩:=h.ex;rw[y]at d;simp only[Option.some.injEq,Obj.cells.injEq]at d;obtain⟨rfl,rfl,_⟩:=d;refine⟨_,n,?_⟩;rw[M3 _ _ _ (by simp;omega),length_set,toList_toArray,take_set,z];exact flatten_set ws f g e
theorem Au.rd{d:Nat}{ws:List cM}(r:Au m d ws){j:Nat}{w:cM}{x:Value}(f:ws[i]? =some w)(g:w.enc[j]? =some x):aU m h d (i*5+j) [x]:=by
 obtain⟨n,o,u⟩:=r.ex;refine .of_m o ?_;have c:=lT (xs:=ws.map cM.enc) (sz:=5) (λe y=>by obtain⟨x,_,rfl⟩:=mem_map.1 y;rfl) (by rw[getElem?_map,f];rfl) j x g;rw[<-u,getElem?_take]at c;split at c
 .rw[drop_cons c];rfl
 .cases c
theorem az{g:Int}{j n u:Nat}{ws:List cM}{w:cM}{cols:List nP}{t:Nat}(H:t<n)(C:Au m j ws)(D:ws[t]? =some w)(A:E0 h w.columns cols)(I:cols.length<=8)
 (E:∀sl h',PH.le h h'->Ints h' sl (cols.map nP.kind)->K (cS sl) m h'):ah ⟨g,⟨some ⟨j,0,none⟩,n,u⟩⟩ t m h K:=by
 dsimp only[ah,push_cast];have x:=bV.slen A;refine aF (λF=>by omega) (λF=>aF (λy=>by have y:(t:Int)>=(n:Int):=y;omega) (λy=>?_));refine⟨j,0,rfl,aD,by show(t:Int)<(n:Int);omega,w.columns,?_,λ⟨i,sl,l⟩=>sl=w.columns/\i<=cols.length/\l=(cols.take i).map nP.kind,λ⟨i,_,_⟩=>cols.length-i,⟨(0,w.columns,[]),⟨rfl,bj,bj⟩,MT⟩,?_⟩
 .rw[Nat.zero_add,Int.toNat_natCast];exact C.rd D rfl
 rintro⟨i,_,_⟩ ⟨rfl,J,rfl⟩;dsimp only;refine aF (λf=>?_) (λG sl h' z d=>?_)
 .obtain⟨c,B⟩:=eF x f;obtain⟨b,o,e,r⟩:=E0.at A B;refine⟨b,o,e,aD,f,c,.imm r,?_,?_,(i+1,w.columns,(cols.take (i+1)).map nP.kind),⟨rfl,aD,rfl⟩,by show cols.length-(i+1)<cols.length-i;omega,?_⟩
  .simp;omega
  .simp;omega
  .rw[iH B,map_append];exact MT
 .rw[take_of_length_le aD]at d;exact E sl h' z ⟨d,by simp;omega⟩
theorem aB:br 59 YR:=by
 refine eV (fn:=Tryz.f59) (c:=cL Tryz.f59) func59 rfl bk ?_;rintro e m h K ⟨f,A,n,g,B,w,d,t,rfl,j,o,u,x,y,z⟩;refine⟨f59_ctx m h,rfl,aH,?_⟩;rw[<-ay];exact az j o u x y z
theorem MR.mono{t:yB}{w:cM}(x:MR h t w)(le:PH.le h h'):MR h' t w:=⟨x.name_,x.key_,bV.mono x.cols_ le λ_ _ e=>e⟩
theorem XG.mono{id:Int}{ws:List cM}(x:XG h id ws)(le:PH.le h h'):XG h' id ws:=⟨x.1,λi t e=>let⟨w,e1,e2⟩:=x.2 i t e;⟨w,e1,e2.mono le⟩⟩
theorem XG.set{id:Int}{ws:List cM}{w w':cM}(x:XG h id ws)(f:ws[i]? =some w)(n:w'.name=w.name)(o:w'.key=w.key)(y:w'.columns=w.columns):XG h id (ws.set i w'):=by
 refine⟨by rw[length_set];exact x.1,λj t e=>?_⟩;obtain⟨u,d,c⟩:=x.2 j t e;by_cases g:i=j
 .subst g;rw[f]at d;cases d;exact⟨w',by rw[getElem?_set_self (List.getElem?_eq_some_iff.1 f).1],⟨by rw[n];exact c.name_,by rw[o];exact c.key_,by rw[y];exact c.cols_⟩⟩
 .exact⟨u,by rw[getElem?_set_ne g];exact d,c⟩
theorem CA.on{m0 c:MH}{g d:PH}{e n:Nat}{id:Int}{ws:List cM}{s:cN}(x:CA m0 g cb e n id ws s m h)(le:PH.le h d)(j:bM m c cb)(u:bC c d cb):CA m0 g cb e n id ws s c d:=by
 refine⟨x.le_.trans le,x.ver0,x.ver1,u,x.n2,x.n4,x.sl_,x.id_,x.new_,x.ne_,?_,x.ws_.mono le,λb o y=>by rw[j.other b o];exact x.other_ b o y⟩;obtain⟨f,z,A⟩:=x.row_.ex;exact⟨f,by rw[j.other e x.ne_];exact z,A⟩
theorem CA.store{m0:MH}{u:PH}{c n:Nat}{id:Int}{ws:List cM}{s:cN}(x:CA m0 u cb c n id ws s m h){k o:Nat}{w w':cM}{y:Value}(d:ws[i]? =some w)(A:k<5)(B:o=i*5+k)(e:w'.enc=w.enc.set k y)(C:w'.name=w.name)(D:w'.key=w.key)(F:w'.columns=w.columns){Q:MH->Prop}
 (G:∀m2,CA m0 u cb c n id (ws.set i w') s m2 h->Q m2):∃(cs:Array Value)(E:TypeId),MAt m c (.cells cs E (0,0))/\o<cs.size/\∀m2:MH,iV m m2 c (.cells (splice cs.toList o [y]).toArray E (0,0))->Q m2:=by
 obtain⟨f,g,M⟩:=x.row_.ex;have H:=(List.getElem?_eq_some_iff.1 d).1;refine⟨f,82,⟨g⟩,by have:=x.row_.big g;omega,λm2 j=>G m2 ?_⟩;subst B;refine⟨x.le_,x.ver0,x.ver1,?_,x.n2,x.n4,x.sl_,x.id_,x.new_,x.ne_,x.row_.store d A e g j.at_,x.ws_.set d C D F,λb I z=>by rw[j.other b z];exact x.other_ b I z⟩;obtain⟨r,q,cs,k,J,L⟩:=x.case_;exact⟨r,q,cs,k,by rw[j.other cb x.ne_.symm];exact J,L⟩
theorem G1{h:PH}{s:Sl}{l:List nP}(r:dK h s 2 (l.map nP.enc))(c:l.length<=8):E0 h s l:=⟨⟨l,r,rfl,λi x e=>⟨x,e,rfl⟩⟩,aD⟩
theorem pM.tabs{m m':MH}{h:PH}{s:Sl}{w:cM}{ws:List cM}(x:pM m m' h s 82 5 ((w::ws).map cM.enc)):∃f d,s=⟨some ⟨f,0,none⟩,ws.length+1,d⟩/\ws.length+1<=d/\Au m' f (w::ws)/\fC m h f/\∀b,b≠f->m' b=m b:=by
 rcases x.row.ex with⟨_,e⟩|⟨b,d,g,e,j,n,_,y,o⟩
 .cases e
 .subst e;refine⟨b,d,bj,bo n,⟨g,j,bo o⟩,x.fresh b 0 rfl,λc u=>x.other c (λi e=>by simp only[Option.some.injEq,Addr.mk.injEq]at e;exact u e.1.symm)⟩
theorem abQ:br 29 YI:=by
 refine hJ func29 ?_;rintro a6 m h K ⟨cb,rfl,hc,hK⟩;refine⟨bhZ cb,rfl,aE L3 (aE Dc (aE ZZ (aE aB (aE GP aH)))),UA cb m h K,bi,?_⟩;dsimp only[UA,push_cast];refine⟨cb,3,rfl,hc,λk m1 k0 k1 R c1=>?_⟩;have a':IntKind.i64.wrap (2+k)=2+k:=dT aD aD;rw[a'];refine⟨λ⟨n,id,E,J⟩=>2<=n/\n<=4/\(id=4\/id=5)/\J=h/\bM m E cb/\bC E h cb,⟨cb,5,rfl,aD,aD,c1,λr m2 o2 c2=>aC (λ_=>⟨(2+k,5,m2,h),⟨by show 2<=2+k;omega,by show 2+k<=4;omega,.inr rfl,rfl,R.trans o2,c2⟩,MT⟩) (λ_=>⟨(2+k,4,m2,h),⟨by show 2<=2+k;omega,by show 2+k<=4;omega,.inl rfl,rfl,R.trans o2,c2⟩,MT⟩)⟩,?_⟩;clear R c1 m1 a' k0 k1 k;rintro⟨n,id,m1,J⟩ ⟨n2,n4,a3,rfl,R,c1⟩;dsimp only;refine⟨cb,3,rfl,c1,λk m2 k0 k1 o2 c2=>?_⟩;refine⟨_,_,rfl,_,_,rfl,_,_,rfl,_,_,rfl,_,_,rfl,_,_,rfl,_,_,rfl,_,_,rfl,_,_,rfl,λs1 h1 a0 r1 s2 h2 S r2 s3 h3 F r3 s4 h4 z r4 tl m3 L=>?_⟩;obtain⟨d,f,rfl,M,O,T,A⟩:=pM.tabs (w:=⟨_,s1,1,bW,bW⟩) (ws:=[⟨_,s2,1,bW,bW⟩,⟨_,s3,2,bW,bW⟩,⟨_,s4,1,bW,bW⟩]) L;simp only[length_cons,length_nil]at M;have U:PH.le J h4:=((a0.trans S).trans F).trans z
 have x:d≠cb:=λe=>by
  obtain⟨r,q,cs,j,q1,_⟩:=c2;have:=T.m_;rw[e,q1]at this;cases this
 have a1:m d=none:=by rw[<-R.other d x, <-o2.other d x];exact T.m_
 have c3:bC m3 h4 cb:=by
  obtain⟨r,q,cs,j,q1,q2,q3⟩:=c2;exact⟨r,q,cs,j,by rw[A cb x.symm];exact q1,q2.mono U,q3⟩
 have S0:CA m J cb d n.toNat id _ ⟨k,⟨some ⟨d,0,none⟩,n.toNat,f⟩⟩ m3 h4:=⟨U,k0,by show k<=2;omega,c3,aD,aD,⟨f,rfl,aD⟩,a3,a1,x,O,⟨rfl,λi t e=>?_⟩,λb n1 n2=>by rw[A b n2,o2.other b n1,R.other b n1]⟩
 rotate_left
 .match i,e with
  |0,e=>cases e;exact⟨_,rfl,⟨rfl,rfl,G1 (l:=[⟨_,_⟩,⟨_,_⟩]) (r1.mono ((S.trans F).trans z)) bk⟩⟩
  |1,e=>cases e;exact⟨_,rfl,⟨rfl,rfl,G1 (l:=[⟨_,_⟩,⟨_,_⟩,⟨_,_⟩,⟨_,_⟩]) (r2.mono (F.trans z)) bj⟩⟩
  |2,e=>cases e;exact⟨_,rfl,⟨rfl,rfl,G1 (l:=[⟨_,_⟩,⟨_,_⟩]) (r3.mono z) bk⟩⟩
  |3,e=>cases e;exact⟨_,rfl,⟨rfl,rfl,G1 (l:=[⟨_,_⟩]) r4 bj⟩⟩
  |i+4,e=>simp[mV]at e
 generalize a4:(cM.mk _ s1 1 bW bW::_)=a7 at S0;clear a4 O L r1 r2 r3 r4;have B:∀{ws:List cM}{i:Nat},ws.length=4->i<4->∃w,ws[i]? =some w:=λhl hi=>⟨_,getElem?_eq_getElem aD⟩
 refine⟨aD,by show n<=(f:Int);omega,λ⟨V,s,E,W⟩=>V=n/\∃ws,CA m J cb d n.toNat id ws s E W,⟨cb,2,rfl,aD,aD,c3,λr X o4 c4=>aC (λ_ s5 G a2 r5=>⟨d,0,rfl,aD,aD,λs6 h6 C r6=>?_⟩) (λ_=>⟨(n,⟨k,⟨some ⟨d,0,none⟩,n.toNat,f⟩⟩,X,h4),⟨rfl,_,S0.on (.refl _) o4 c4⟩,MT⟩)⟩,?_⟩
 .obtain⟨w,P⟩:=B (i:=1) S0.ws_.1 aD;exact(S0.on (a2.trans C) o4 (c4.mono (a2.trans C))).store (k:=3) (w':={w with references:=s6}) P aD rfl rfl rfl rfl rfl λy Y=>⟨(n,⟨k,⟨some ⟨d,0,none⟩,n.toNat,f⟩⟩,y,h6),⟨rfl,_,Y⟩,MT⟩
 clear S0 c3 A T a1 M U a0 S F z R o2 c1 c2;rintro⟨V,s,X,G⟩ ⟨rfl,ws,S0⟩;dsimp only;obtain⟨f,c,_⟩:=S0.sl_;have o:s.tables.a=some ⟨d,0,none⟩:=by rw[c]
 have H:s.tables.len=V.toNat:=by rw[c]
 refine⟨λ⟨n,s,E,W⟩=>n=V/\∃ws,CA m J cb d n.toNat id ws s E W,aF (λhn=>⟨cb,3,rfl,aD,aD,S0.case_,λr y Q I=>aC (λ_ s7 h7 u r7=>⟨d,0,o,aD,aD,λs8 h8 g r8=>?_⟩) (λ_=>⟨(V,s,y,G),⟨rfl,_,S0.on (.refl _) Q I⟩,MT⟩)⟩) (λ_=>⟨(V,s,X,G),⟨rfl,_,S0⟩,MT⟩),?_⟩
 .obtain⟨w,P⟩:=B (i:=2) S0.ws_.1 aD;exact(S0.on (u.trans g) Q (I.mono (u.trans g))).store (k:=3) (w':={w with references:=s8}) P aD rfl rfl rfl rfl rfl λy Y=>⟨(V,s,y,h8),⟨rfl,_,Y⟩,MT⟩
 clear S0 o H c;rintro⟨D,s,X,G⟩ ⟨rfl,ws,S0⟩;dsimp only;obtain⟨f,c,_⟩:=S0.sl_;have o:s.tables.a=some ⟨d,0,none⟩:=by rw[c]
 have H:s.tables.len=D.toNat:=by rw[c]
 refine⟨λ⟨s,E,W⟩=>∃ws,CA m J cb d D.toNat id ws s E W,aF (λhn=>⟨cb,3,rfl,aD,aD,S0.case_,λr y Q I=>aC (λ_ s7 h7 u r7=>⟨d,0,o,aD,aD,λs8 h8 g r8=>?_⟩) (λ_=>⟨(s,y,G),⟨_,S0.on (.refl _) Q I⟩,MT⟩)⟩) (λ_=>⟨(s,X,G),⟨_,S0⟩,MT⟩),?_⟩
 .obtain⟨w,P⟩:=B (i:=3) S0.ws_.1 aD;exact(S0.on (u.trans g) Q (I.mono (u.trans g))).store (k:=3) (w':={w with references:=s8}) P aD rfl rfl rfl rfl rfl λy Y=>⟨(s,y,h8),⟨_,Y⟩,MT⟩
 clear S0 o H c;rintro⟨s,X,G⟩ ⟨ws,S0⟩;dsimp only;obtain⟨f,c,_⟩:=S0.sl_;have o:s.tables.a=some ⟨d,0,none⟩:=by rw[c]
 have H:s.tables.len=D.toNat:=by rw[c]
 refine⟨λ⟨s,E,W⟩=>∃ws,CA m J cb d D.toNat id ws s E W,⟨cb,3,rfl,aD,aD,S0.case_,λr y Q I=>aC (λ_=>?_) (λ_=>⟨(s,y,G),⟨_,S0.on (.refl _) Q I⟩,MT⟩)⟩,λ⟨s,X,G⟩⟨ws,S0⟩=>hK _ _ _ _ _ _ _ S0⟩;have S1:=S0.on (.refl _) Q I;obtain⟨w,P,Z⟩:=S1.ws_.2 1 _ rfl;refine⟨s.version,d,D.toNat,f,ws,w,_,1,by rw[c];rfl,aD,S1.row_,P,Z.cols_,bj,λsl h6 C a5=>?_⟩;refine⟨cb,sl,bW,_,[],1,rfl,I.mono C,a5,⟨dK.nil _ _,bj⟩,bj,bj,aD,λa8 p m6 h7 u hp a9 o6 c6=>⟨d,0,o,aD,aD,λs8 h8 g r8=>?_⟩⟩;exact(S1.on ((C.trans u).trans g) o6 (c6.mono g)).store (k:=4) (w':={w with checks:=s8}) P aD rfl rfl rfl rfl rfl λy Y=>⟨(s,y,h8),⟨_,Y⟩,MT⟩
structure xF(s:iJ):Prop where
 ex:∃ver n id,0<=ver/\ver<=2/\2<=n/\n<=4/\(id=4\/id=5)/\s=⟨ver,(mV id).take n⟩
def aVZ:Vc.Spec:=λc m h K=>∃cb,c=[cP cb]/\bC m h cb/\∀s v m' h',xF s->gA h' s v->PH.le h h'->bM m m' cb->bC m' h' cb->K (aS v) m' h'
theorem TZ{f:FuncId}{fn:Func}(n:Tryz.prog.funcs[f]? =some fn){S:Vc.Spec}(j:∀c m h K,S c m h K->∃C:Ctx,C.P=Tryz.prog/\(∀g S,assoc C.specs g=some S->br g S)/\∃N:Prop,N=sI C fn (cL fn) (entry fn.ntmps c m h) (fW h K)/\N)(o:fn.body=some (cL fn):=by rfl)(d:(fn.name== "runtime.NumGoroutine")=false:=by decide):br f S:=Zz n o d λc m h K u=>let⟨C,hC,hs,N,e,hn⟩:=j c m h K u;⟨C,hC,hs,e▸hn⟩
theorem aAZ:br 8 aVZ:=by
 refine TZ func8 ?_;rintro a' m h K ⟨cb,rfl,hc,hK⟩;refine⟨bGZ,rfl,aE abQ aH,Sf cb m h (fW h K),bi,?_⟩;show Sf cb m h (fW h K);dsimp only[Sf,push_cast];refine⟨cb,rfl,hc,λc n id z s P A S1=>?_⟩;refine⟨λ⟨i,D,mx,E⟩=>D=s/\E=A/\i<=n/\∃z,CA m h cb c n id z s mx A/\∀j w,j<i->z[j]? =some w->w.references=bW/\w.checks=bW,λ⟨i,_,_,_⟩=>n-i,⟨(0,s,P,A),⟨rfl,rfl,aD,z,S1,λj w R=>by omega⟩,MT⟩,?_⟩;clear S1 z P;rintro⟨i,D,P,E⟩ ⟨rfl,rfl,L,z,S1,B⟩;dsimp only;obtain⟨a0,F,G⟩:=S1.sl_;have H:D.tables.a=some ⟨c,0,none⟩:=by rw[F]
 have S:D.tables.len=n:=by rw[F]
 have T:=S1.n4;refine aF (λM=>⟨c,0,H,aD,M,?_⟩) (λa1 f=>?_)
 .obtain⟨w,Y⟩:∃w,z[i]? =some w:=⟨_,getElem?_eq_getElem (by have:=S1.ws_.1;have:=S1.n4;omega)⟩
  refine S1.store (i:=i) (k:=3) (w':={w with references:=bW}) Y aD aD rfl rfl rfl rfl λm2 S2=>⟨c,0,H,aD,M,?_⟩
  have O:=(List.getElem?_eq_some_iff.1 Y).1;have U:(z.set i {w with references:=bW})[i]? =some {w with references:=bW}:=getElem?_set_self O;refine S2.store (i:=i) (k:=4) (w':={w with references:=bW,checks:=bW}) U aD aD rfl rfl rfl rfl λm3 S3=>⟨(i+1,D,m3,E),⟨rfl,rfl,by show i+1<=n;omega,_,S3,λj u R Q=>?_⟩,by show n-(i+1)<n-i;omega,MT⟩
  by_cases e:i=j
  .subst e;rw[getElem?_set_self (by rw[length_set];exact O)]at Q;cases Q;exact⟨rfl,rfl⟩
  .rw[getElem?_set_ne e,getElem?_set_ne e]at Q;exact B j u aD Q
 .have f:=f;obtain⟨I,C,J⟩:=S1.row_.ex;have V:∀i,E c i=none:=f c _ C
  have d:PH.le E (λx i=>if x=c then I[i]? else E x i):=⟨λx i v e=>by
   have:x≠c:=λg=>by rw[g,V i]at e;cases e
   simp[this,e]⟩
  refine⟨λb=>if b=c then none else P b,λx i=>if x=c then I[i]? else E x i,λb o e=>?_,S1.le_.trans d,λx i v e=>?_,hK ⟨D.version,(mV id).take n⟩ D _ _ ⟨⟨_,_,_,S1.ver0,S1.ver1,S1.n2,S1.n4,S1.id_,rfl⟩⟩ ⟨rfl,?_⟩ (S1.le_.trans d) ⟨λb hb=>?_⟩ ?_⟩
  .by_cases g:b=c
   .simp[g]at e
   .simpa[g]using e
  .by_cases g:x=c
   .subst g;simp at e;exact .inr ⟨I,82,(0,0),C,e,bj⟩
   .simp[g]at e;exact .inl e
  .have Z:=S1.ws_.1;have T:=S1.n4;refine⟨⟨z.take n,⟨by rw[S];simp;omega,.inr ⟨c,0,H,λi e L=>⟨λj v R=>?_⟩⟩,by rw[F];exact G⟩,by simp[mV];omega,λi t e=>?_⟩,by simp[mV];omega⟩
   .rw[map_take,getElem?_take]at L;split at L
    .have A:=lT (xs:=z.map cM.enc) (sz:=5) (λe he=>by obtain⟨x,_,rfl⟩:=mem_map.1 he;rfl) L j v R;rw[<-J,getElem?_take]at A;split at A
     .simp only[if_true,Nat.zero_add];rw[<-Array.getElem?_toList];exact A
     .cases A
    .cases L
   .rw[getElem?_take]at e;split at e
    .rename_i W;obtain⟨w,e1,e2⟩:=S1.ws_.2 i t e;obtain⟨z1,z2⟩:=B i w aD e1;have X:=e2.mono d
     have y:t.refs=[]/\t.checks=[]:=by
      match i,e with
      |0,e=>cases e;exact⟨rfl,rfl⟩
      |1,e=>cases e;exact⟨rfl,rfl⟩
      |2,e=>cases e;exact⟨rfl,rfl⟩
      |3,e=>cases e;exact⟨rfl,rfl⟩
      |i+4,e=>simp[mV]at e
     refine⟨w,by rw[getElem?_take,if_pos W];exact e1,⟨X.name_,X.cols_,X.key_,by rw[z1,y.1];exact bV.nil _ _ _ _,by rw[z2,y.2];exact bV.nil _ _ _ _⟩⟩
    .cases e
  .by_cases g:b=c
   .subst g;simp[S1.new_]
   .simp[g];exact S1.other_ b hb g
  .obtain⟨r,q,cs,k,q1,q2,q3⟩:=S1.case_;exact⟨r,q,cs,k,by simp[S1.ne_.symm];exact q1,q2.mono d,q3⟩
def QW(q:Query):Prop:=
 match q with
 |.mk _ _ w _ _ _ _ _ args=>CB w/\∀a∈args,QW a
 termination_by SizeOf.sizeOf q
theorem J5{op:Int}{w:Pred}{on:bz}{args:cg}:
 QW (.mk op ta w co on gr od li args)↔CB w/\∀a∈args,QW a:=by rw[QW.eq_def]
def aTJ(s:iJ):Prop:=∀t,Lc (iA s t)
structure aTX(s:iJ)(ps ks:bt)(q0 q:Query):Prop where
 qw:QW q
 siz:∀d,BP d q0->SK d q
 kin:aTJ s->Lc ps->Lc ks->ks≠[]->ks.length<=12->aK s ps q0=(ks,0)->aK s ps q=(ks,0)
def KQ(K:bu)(m:MH)(h:PH)(cb:Nat)(R:Query->Prop):Prop:=∀w q m' h',PH.le h h'->eO h' q w->R q->bM m m' cb->bC m' h' cb->K (aQ w) m' h'
def YH:Vc.Spec:=λc m h K=>∃cb sc p k v s ps ks q,c=[cP cb,aS sc,cS p,cS k,aQ v]/\bC m h cb/\gA h s sc/\lK s/\s.tables.length<=1000/\Ints h p ps/\ps.length<=1000/\Ints h k ks/\ks.length<=1000/\eO h q v/\QW q/\KQ K m h cb (aTX s ps ks q)
noncomputable def bhQ(cb:Nat)(sc:cN)(p k:Sl)(v:QV):Ctx:=
 cW [(30,Lb),(59,uK),(31,aUQ),(36,Rs),(18,BJ)] [(3,{A:=Int×Nat×MH×PH,st:=λ⟨f,n,m,h⟩=>bY 112 117 [(0,pv cb),(2,sv p),(3,sv k),(6,.at (.ptr 6 0)),(9,.at (.ptr 9 0)),(10,.at (.ptr 10 0)),(11,iv f),(12,iv n)] [(6,.cells 40 (sc.enc.map .val)),(9,.cells 35 (v.enc.map .val)),(10,.cells 35 (CD.enc.map .val))] m h}),
  (9,{A:=Int×Nat×Int×Sl×bt×Nat×MH×PH,st:=λ⟨f,n,t,c,d,i,m,h⟩=>bY 112 117 [(0,pv cb),(2,sv p),(3,sv k),(6,.at (.ptr 6 0)),(9,.at (.ptr 9 0)),(10,.at (.ptr 10 0)),(11,iv f),(12,iv n),(13,iv t),(14,sv c),(15,.at (.lst 75)),(45,sv k),(46,iv k.len),(47,iv i)] [(6,.cells 40 (sc.enc.map .val)),(9,.cells 35 (v.enc.map .val)),(10,.cells 35 (CD.enc.map .val)),(75,.lst 3 1 (d.map eI))] m h}),
  (13,{A:=Int×Nat×Int×Sl×bt×Nat×Int×Int×Nat×MH×PH,st:=λ⟨f,n,t,c,d,i,e,g,j,m,h⟩=>bY 112 117 [(0,pv cb),(2,sv p),(3,sv k),(6,.at (.ptr 6 0)),(9,.at (.ptr 9 0)),(10,.at (.ptr 10 0)),(11,iv f),(12,iv n),(13,iv t),(14,sv c),(15,.at (.lst 75)),(17,iv e),(18,iv g),(45,sv k),(46,iv k.len),(47,iv i),(56,iv c.len),(57,iv j)] [(6,.cells 40 (sc.enc.map .val)),(9,.cells 35 (v.enc.map .val)),(10,.cells 35 (CD.enc.map .val)),(75,.lst 3 1 (d.map eI))] m h})] [] [] false
abbrev lN:Prop:=eP 10
noncomputable abbrev A5(a:Int×Nat×MH×PH):Nat->Nat->Option Value:=a.2.2.2
noncomputable abbrev AR(a:Int×Nat×Int×Sl×bt×Nat×MH×PH):Sl:=a.2.2.2.1
noncomputable abbrev AQ(a:Int×Nat×Int×Sl×bt×Nat×MH×PH):Nat:=a.2.2.2.2.2.1
noncomputable abbrev AS(a:Int×Nat×Int×Sl×bt×Nat×MH×PH):List bw:=oE a.2.2.2.2.1
noncomputable abbrev Gp(a:Int×Nat×Int×Sl×bt×Nat×MH×PH):MH×PH:=a.2.2.2.2.2.2
noncomputable abbrev tR(a:Int×Nat×Int×Sl×bt×Nat×MH×PH):Nat->Nat->Option Value:=a.2.2.2.2.2.2.2
noncomputable abbrev IY(a:Int×Nat×Int×Sl×bt×Nat×MH×PH):Nat->Option Obj:=a.2.2.2.2.2.2.1
noncomputable abbrev rY(a:Int×Nat×Int×Sl×bt×Nat×Int×Int×Nat×MH×PH):Sl:=a.2.2.2.1
noncomputable abbrev IS(a:Int×Nat×Int×Sl×bt×Nat×Int×Int×Nat×MH×PH):Int:=a.2.2.2.2.2.2.1
noncomputable abbrev Gm(a:Int×Nat×Int×Sl×bt×Nat×Int×Int×Nat×MH×PH):Nat:=a.2.2.2.2.2.1
noncomputable abbrev GD(a:Int×Nat×Int×Sl×bt×Nat×Int×Int×Nat×MH×PH):Nat:=a.2.2.2.2.2.2.2.2.1
noncomputable abbrev En(a:Int×Nat×Int×Sl×bt×Nat×Int×Int×Nat×MH×PH):List bw:=oE a.2.2.2.2.1
noncomputable abbrev Gn(a:Int×Nat×Int×Sl×bt×Nat×Int×Int×Nat×MH×PH):MH×PH:=a.2.2.2.2.2.2.2.2.2
noncomputable abbrev D6(a:Int×Nat×Int×Sl×bt×Nat×Int×Int×Nat×MH×PH):Nat->Nat->Option Value:=a.2.2.2.2.2.2.2.2.2.2
noncomputable abbrev IQ(a:Int×Nat×Int×Sl×bt×Nat×Int×Int×Nat×MH×PH):Int:=Int.tmod (iE (a.2.2.2.2.2.2.2.1+(↑(GD a):Int))) (aG (rY a))
abbrev Gq(a:Prop)(b c d:Nat)(e g:Sl)(i:Prop):Prop:=aA a (b<c) (aA (cQ d) (aJ e) (aA (aJ g) (eP 6) (aA (eP 9) lN i)))
noncomputable abbrev nH(a:PV)(b:Sl):bw:=aR (jW a.left) (kC a.right) (aR (kD a.right) (dY (jK a.right)) (aR (kJ a.right) (jW a.right) (aR (gU a.args) pO (aR pO pO (aR pO bL (aY b))))))
attribute [push_cast] lN A5 AR AQ AS Gp tR IY rY IS Gm GD En Gn D6 IQ Gq nH
def Uw(cb:Nat)(sc:cN)(p k:Sl)(v:QV)(m:MH)(h:PH)(K:bu):Prop:=
  kO cb (iE (i6 sc+1)) m h (λT U=>∃(I:Int×Nat×MH×PH->Prop)(J:Int×Nat×MH×PH->Nat),(∃(x:Int×Nat×MH×PH),aA (I x) (cQ cb) (aA (aJ p) (aJ k) (aA (eP 6) (eP 9) (aA lN (dA T x.1) (aA (bF x.2.1) (cE sc) (aA (fA v) jF (bS (cV U x.2.2) h (A5 x))))))))/\∀(x:Int×Nat×MH×PH),I x->bA (↑x.2.1:Int) (aG sc.tables) (GC (i6 sc)/\AK (bT (bQ sc) (Int.tmod (iE (x.1+(↑x.2.1:Int))) (i6 sc))) (A5 x) (λs z=>∃(I1:Int×Nat×Int×Sl×bt×Nat×MH×PH->Prop)(u:Int×Nat×Int×Sl×bt×Nat×MH×PH->Nat),(∃(f:Int×Nat×Int×Sl×bt×Nat×MH×PH),aA (I1 f) (cQ cb) (aA (aJ p) (aJ k) (aA (eP 6) (eP 9) (aA lN (dA x.1 f.1) (aA (cJ x.2.1 f.2.1) (dA (Int.tmod (iE
 (x.1+(↑x.2.1:Int))) (i6 sc)) f.2.2.1) (aA (bH s (AR f)) (eL 75) (aA (aJ k) (bI k) (aA (bF (AQ f)) (cE sc) (aA (fA v) jF (aA (rJ (AS f)) (fO x.2.2 (Gp f)) (bD z (tR f))))))))))))/\∀(f:Int×Nat×Int×Sl×bt×Nat×MH×PH),I1 f->bA (↑(AQ f):Int) (aG k) (aW (λb o=>aI (aX k.a b o) (0<=(↑(AQ f):Int)) ((↑(AQ f):Int)<aG k) (∃(y:Int),aU (IY f) (tR f) b (bN o (AQ f) 1) (bJ y)/\kO cb (aG (AR f)) (IY f) (tR f) (λV C=>∃(I2:Int×Nat×Int×Sl×bt×Nat×Int×Int×Nat×MH×PH->Prop)(B:Int×Nat×Int×Sl×bt×Nat×Int×Int×Nat×MH×PH->Nat),(∃(e:Int×Nat×Int×Sl×bt×Nat×Int×Int×Nat×MH×PH),aA (I2 e) (cQ cb)
 (aA (aJ p) (aJ k) (aA (eP 6) (eP 9) (aA lN (dA f.1 e.1) (aA (cJ f.2.1 e.2.1) (dA f.2.2.1 e.2.2.1) (aA (bH (AR f) (rY e)) (eL 75) (aA (dA y (IS e)) (dA V e.2.2.2.2.2.2.2.1) (aA (aJ k) (bI k) (aA (cJ (AQ f) (Gm e)) (cF (AR f) (rY e)) (aA (bF (GD e)) (cE sc) (aA (fA v) jF (aA (AD (AS f) (En e)) (cV C (Gn e)) (bD (tR f) (D6 e))))))))))))))/\∀(e:Int×Nat×Int×Sl×bt×Nat×Int×Int×Nat×MH×PH),I2 e->bA (↑(GD e):Int) (aG (rY e)) (GC (aG (rY e))/\aW (λQ R=>aI (aX (rY e).a Q R) (0<=IQ e) (IQ e<aG (rY e)) (∃(S:Int),aU e.2.2.2.2.2.2.2.2.2.1 (D6 e) Q (gC R (IQ e) 1) (bJ S)/\
 dZ S (IS e) (jZ (En e) 8 (∃(g:Int×Nat×Int×Sl×bt×Nat×MH×PH),Gq (I1 g) (u g) (u f) cb p k (aA (dA e.1 g.1) (cJ e.2.1 g.2.1) (aA (dA e.2.2.1 g.2.2.1) (bH (rY e) (AR g)) (aA (eL 75) (aJ k) (aA (bI k) (fU (bG (Gm e) 1)=bP (AQ g)) (aA (cE sc) (fA v) (aA jF (rK (En e) (IQ e) (AS g)) (bS (fO (Gn e) (Gp g)) (D6 e) (tR g)))))))))) (∃(g:Int×Nat×Int×Sl×bt×Nat×Int×Int×Nat×MH×PH),Gq (I2 g) (B g) (B e) cb p k (aA (dA e.1 g.1) (cJ e.2.1 g.2.1) (aA (dA e.2.2.1 g.2.2.1) (bH (rY e) (rY g)) (aA (eL 75) (dA (IS e) (IS g)) (aA (dA e.2.2.2.2.2.2.2.1 g.2.2.2.2.2.2.2.1) (aJ k) (aA (bI k) (cJ (Gm e)
 (Gm g)) (aA (cF (rY e) (rY g)) (fU (bG (GD e) 1)=bP (GD g)) (aA (cE sc) (fA v) (aA jF (AD (En e) (En g)) (bS (fO (Gn e) (Gn g)) (D6 e) (D6 g)))))))))))))) (∃(g:Int×Nat×Int×Sl×bt×Nat×MH×PH),Gq (I1 g) (u g) (u f) cb p k (aA (dA e.1 g.1) (cJ e.2.1 g.2.1) (aA (dA e.2.2.1 g.2.2.1) (bH (rY e) (AR g)) (aA (eL 75) (aJ k) (aA (bI k) (fU (bG (Gm e) 1)=bP (AQ g)) (aA (cE sc) (fA v) (aA jF (AD (En e) (AS g)) (bS (fO (Gn e) (Gp g)) (D6 e) (tR g))))))))))))) (dZ f.1 (i6 sc) (∃(e:Int×Nat×MH×PH),Gq (I e) (J e) (J x) cb p k (aA (dA f.1 e.1) (fU (bG f.2.1 1)=bP e.2.1) (aA (cE sc)
 (fA v) (aI jF (fO (Gp f) e.2.2) (tR f=A5 e) True)))) (bA (↑(AS f).length:Int) (aG k) (∃(e:Int×Nat×MH×PH),Gq (I e) (J e) (J x) cb p k (aA (dA f.1 e.1) (fU (bG f.2.1 1)=bP e.2.1) (aA (cE sc) (fA v) (aI jF (fO (Gp f) e.2.2) (tR f=A5 e) True)))) (∃(t:Int),kH f.2.2.1 t/\oP cb 2 (IY f) (tR f) (λc r=>∀(C:MH),bM (IY f) C c->bC C (tR f) c->branch r (zC (gP cb (dN (AR f)::bT (dN p) 1)) C (tR f) (λD L E d=>Bw (λj A=>eX (λB n=>cD (tR f) n (eH n A j) (xE L E d A->bM C B D->jN B n D (cG n 21 (iZ (AI t)) (λF G=>cG G 1 (AS f) (λH M=>cG M 21 (iZ (Ms 2 bL j.op j
 (nH j F))) (λO P=>K (lG (uS 3 (Gr (gU H) (aY O)))) B P))))))))/\zC (gP cb (dN (AR f)::bT (dN p) 1)) C (tR f) (λD L E d=>Bw (λj A=>eX (λB n=>cD (tR f) n (eH n A j) (xE L E d A->bM C B D->jN B n D (cG n 21 (iZ (AI t)) (λF G=>cG G 1 (AS f) (λH M=>cG M 21 (iZ (Ms 2 bL j.op j (nH j F))) (λO P=>K (lG (uS 3 (Gr (gU H) (aY O)))) B P))))))))) (cG (tR f) 1 (AS f) (λF n=>cG n 21 (iZ (AI t)) (λH G=>K (lG (uS 3 (Gr (gU F) (aY H)))) C G))))))))) (zC (gP cb (dN k::bT (dN p) 1)) x.2.2.1 (A5 x) (λc D E d=>Bw (λj A=>eX (λu z=>cD (A5 x) z (eH z A j) (xE D E d A
 ->bM x.2.2.1 u c->jN u z c (cG z 21 (iZ v.enc) (λs n=>K (lG (aR (dY 2) bL (aR (dY j.op) (dY j.cmp) (aR (kC j.left) (kD j.left) (aR (dY (jK j.left)) (kJ j.left) (nH j s)))))) u n))))))/\zC (gP cb (dN k::bT (dN p) 1)) x.2.2.1 (A5 x) (λc D E d=>Bw (λj A=>eX (λu z=>cD (A5 x) z (eH z A j) (xE D E d A->bM x.2.2.1 u c->jN u z c (cG z 21 (iZ v.enc) (λs n=>K (lG (aR (dY 2) bL (aR (dY j.op) (dY j.cmp) (aR (kC j.left) (kD j.left) (aR (dY (jK j.left)) (kJ j.left) (nH j s)))))) u n))))))))
theorem nJ(h:PH):Ints h bW []:=⟨dK.nil _ _,bj⟩
theorem sQ(h:PH):iD h bW []:=⟨dK.nil _ _,bj⟩
theorem vL(h:PH):jD h bW []:=⟨dK.nil _ _,bj⟩
theorem C0(h:PH):eH h eJ gT:=NJ (v:=gT) rfl
theorem Be{h:PH}{s:Sl}{v:QV}{q:Query}(r:dK h s 21 [QV.enc v])(c:eO h q v):ER h s [q]:=⟨⟨[v],r,rfl,λi x e=>by
 match i,e with
 |0,e=>simp at e;subst e;exact⟨v,rfl,c⟩
 |i+1,e=>simp at e⟩,bj⟩
theorem Bq(h:PH)(t:Int):eO h (.mk 1 t eJ [] [] [] [] 0 []) ⟨1,t,gT,bW,bW,bW,bW,0,bW⟩:=
 sN.rep ⟨rfl,rfl,C0 h,nJ h,sQ h,nJ h,vL h,rfl,bV.nil _ _ _ _⟩
theorem HE{v:PV}{s:Sl}{q:Query}(c:eH h p v)(d:ER h s [q]):eO h (.mk 2 0 p [] [] [] [] 0 [q]) ⟨2,0,v,bW,bW,bW,bW,0,s⟩:=
 sN.rep ⟨rfl,rfl,c,nJ h,sQ h,nJ h,vL h,rfl,d⟩
theorem Lw{h:PH}{c s:Sl}{cols:bt}{q:Query}(d:Ints h c cols)(e:ER h s [q]):eO h (.mk 3 0 eJ cols [] [] [] 0 [q]) ⟨3,0,gT,c,bW,bW,bW,0,s⟩:=
 sN.rep ⟨rfl,rfl,C0 h,d,sQ h,nJ h,vL h,rfl,e⟩
theorem nR:CB eJ:=⟨qX,qX,trivial⟩
theorem Nf{op:Int}{w:Pred}{on:bz}{q:Query}(d:CB w)(e:QW q):QW (.mk op ta w co on gr od li [q]):=J5.2 ⟨d,λa c=>by simp at c;subst c;exact e⟩
theorem F0(t:Int):QW (.mk 1 t eJ [] [] [] [] 0 []):=J5.2 ⟨nR,λa c=>by simp at c⟩
theorem X0{a:Int}{n:Nat}(c:0<=a)(d:0<n):0<=a.tmod (n:Int)/\a.tmod (n:Int)<(n:Int):=by
 rw[Int.tmod_eq_emod_of_nonneg c];exact⟨Int.emod_nonneg _ aD,Int.emod_lt_of_pos _ aD⟩
theorem Kk{k:bt}{op:Int}{w:Pred}{on:bz}{q:Query}(c:arity op=1)(h:aK s ps q=(k,0)):aK s ps (.mk op ta w co on gr od li [q])=dQ s ps (.mk op ta w co on gr od li [q]) k []:=by
 have e:dV s ps [q]=([k],0):=sG (by simp[h]);simp[aK,e,c]
theorem Zt{k c:bt}{op:Int}{w:Pred}{on:bz}{q p:Query}(d:arity op=2)(h:aK s ps q=(k,0))(h':aK s ps p=(c,0)):aK s ps (.mk op ta w co on gr od li [q,p])=dQ s ps (.mk op ta w co on gr od li [q,p]) k c:=by
 have e:dV s ps [q,p]=([k,c],0):=sG (by simp[h,h']);simp[aK,e,d]
theorem Jg(h:l.length<=12):kR l=(l,0):=if_pos h
theorem NK{s:iJ}{ps:bt}{t:Int}(c:0<=t)(d:t<s.tables.length)(e:(iA s t).length<=12):aK s ps (.mk 1 t eJ [] [] [] [] 0 [])=(iA s t,0):=by
 have f:aK s ps (.mk 1 t eJ [] [] [] [] 0 [])=dQ s ps (.mk 1 t eJ [] [] [] [] 0 []) [] []:=by simp[aK,dV,arity]
 rw[f];unfold dQ;rw[if_neg (by simp[arity,cO])];dsimp only;rw[if_pos rfl,if_pos ⟨c,d⟩,Jg e]
theorem kinds_filter{k:bt}{w:Pred}{q:Query}(h:aK s ps q=(k,0))(c:fR k ps w=0)(d:k.length<=12):aK s ps (.mk 2 0 w [] [] [] [] 0 [q])=(k,0):=by
 rw[Kk bk h];unfold dQ;rw[if_neg (by simp[arity,cO])];dsimp only;rw[if_neg bk,if_pos rfl,if_pos c,Jg d]
theorem O4{k:bt}{q:Query}(h:aK s ps q=(k,0))(d:co≠[])(e:∀c∈co,BM k c=true)(f:co.length<=12):aK s ps (.mk 3 0 eJ co [] [] [] 0 [q])=(co.map λc=>k.getD c.toNat 0,0):=by
 rw[Kk bk h];unfold dQ;rw[if_neg (by simp[arity,cO])];dsimp only;rw[if_neg bk,if_neg bk,if_pos rfl,if_pos ⟨d,λj x g=>e x (mem_of_getElem? g)⟩,Jg (bo f)]
structure HO(kt ks co:bt):Prop where
 in_:∀c∈co,BM kt c=true
 eq_:(co.map λc=>kt.getD c.toNat 0)=ks
theorem HO.kin{c ks:bt}{q:Query}(x:HO c ks co)(h:aK s ps q=(c,0))(d:ks≠[])(g:ks.length<=12):aK s ps (.mk 3 0 eJ co [] [] [] 0 [q])=(ks,0):=by
 have f:co.length=ks.length:=by rw[<-x.eq_,length_map]
 rw[O4 h (λe=>d (eq_nil_of_length_eq_zero (by rw[<-f,e];rfl))) x.in_ aD,x.eq_]
theorem HO.snoc{f ks:bt}{c x:Int}(p:HO f (ks.take i) co)(g:ks[i]? =some x)(j:BM f c=true)(e:f.getD c.toNat 0=x):HO f (ks.take (i+1)) (co++[c]):=
 ⟨λy d=>by
  rcases mem_append.1 d with d|d
  .exact p.in_ y d
  .simp at d;subst d;exact j,by rw[map_append,p.eq_,take_add_one,g,map_cons,map_nil,e];rfl⟩
theorem aaZ:br 33 YH:=by
 refine hJ func33 ?_;rintro d2 m h K ⟨cb,sc,p,k,v,s,ps,ks,q,rfl,hc,hs,h8,d3,hp,b3,hk,a4,hq,b4,hK⟩;refine⟨bhQ cb sc p k v,rfl,aE L3 (aE aa (aE PZ (aE Dc (aE GP aH)))),Uw cb sc p k v m h K,bi,?_⟩;have d4:=hs.tables.slen;have b5:=hk.slen;have hw:IntKind.i64.wrap ((sc.tables.len:Int)+1)=(sc.tables.len:Int)+1:=dT aD aD;dsimp only[Uw,push_cast];rw[hw];refine⟨cb,_,rfl,hc,λf X f0 f1 o1 c1=>?_⟩;refine⟨λ⟨f,n,E,o⟩=>0<=f/\f<=sc.tables.len/\n<=sc.tables.len/\PH.le h o/\bM m E cb/\bC E o cb,λ⟨_,n,_,_⟩=>sc.tables.len-n,⟨(f,0,X,h),⟨f0,by show f<=(sc.tables.len:Int);omega,aD,.refl _,o1,c1⟩,MT⟩,?_⟩;clear f0 f1 o1 c1 X hw;rintro⟨f,n,X,o⟩ ⟨f0,f1,hn,A,o1,c1⟩;dsimp only
 have C:∀(kk:Sl)(kl:bt)(E:MH)(o:PH)(Q:PV->Pred->MH->PH->Prop),Ints o kk kl->kl.length<=1000->PH.le h o->bC E o cb->(∀v p m' h',PH.le o h'->eH h' p v->xE kl ps 1 p->bM E m' cb->bC m' h' cb->Q v p m' h')->
  ∃(D:Nat)(s t:Sl)(cols u:bt)(I:Nat),[CV.val (.pointer (some ⟨cb,0,none⟩)),CV.val (.slice kk.a kk.len kk.cap),CV.val (.slice p.a p.len p.cap),CV.val (.int .i64 1)]=[CV.val (.pointer (some ⟨D,0,none⟩)),CV.val (.slice s.a s.len s.cap),CV.val (.slice t.a t.len t.cap),CV.val (.int .i64 I)]/\bC E o D/\Ints o s cols/\Ints o t u/\cols.length<=1000/\u.length<=1000/\I<=1000/\
   ∀(v:PV)(p:Pred)(m':MH)(h':PH),PH.le o h'->eH h' p v->xE cols u I p->bM E m' D->bC m' h' D->Q v p m' h':=λkk kl E o Q h1 h2 H h4 h5=>
  ⟨cb,kk,p,kl,ps,1,rfl,h4,h1,hp.mono H,h2,b3,aD,λv p m' h' q1 q2 Y q3 q4=>h5 v p m' h' q1 q2 Y q3 q4⟩
 refine aF (λd5=>?_) (λd6=>?_)
 rotate_left
 .have fin:∀(w:PV)(p:Pred)(m':MH)(h':PH),PH.le o h'->eH h' p w->xE ks ps 1 p->bM X m' cb->bC m' h' cb->∀(s:Sl)(c:PH),PH.le h' c->dK c s 21 [QV.enc v]->K (aQ ⟨2,0,w,bW,bW,bW,bW,0,s⟩) m' c:=λw p m' h' q1 q2 Y q3 q4 s h2 V q6=>
   hK _ _ m' h2 ((A.trans q1).trans V) (HE (q2.mono V) (Be q6 (hq.mono ((A.trans q1).trans V)))) ⟨Nf Y.vals b4,λd hf=>hf.filter,λ_ Z b6 _ J b7=>kinds_filter b7 (Y.valid bk b6 Z) J⟩ (o1.trans q3) (q4.mono V)
  exact⟨C k ks X o _ (hk.mono A) a4 A c1 fin,C k ks X o _ (hk.mono A) a4 A c1 fin⟩
 have b8:IntKind.i64.wrap (f+(n:Int))=f+(n:Int):=dT aD aD;rw[b8];refine⟨aD,sc,s,_,rfl,hs.mono A,h8,λz h2 a5 F=>?_⟩;have a':=F.slen;obtain⟨T,hT⟩:∃T,(f+(n:Int)).tmod (sc.tables.len:Int)=T:=⟨_,rfl⟩
 have a6:=X0 (a:=f+(n:Int)) (n:=sc.tables.len) aD aD;rw[hT]at F a' a6⊢
 have b9:(iA s T).length<=8:=by
  unfold iA;split
  .simp
  .split
   .simp
   .rename_i t ht;simpa using h8 t (mem_of_getElem? ht)
 obtain⟨U,a0⟩:∃U,iA s T=U:=⟨_,rfl⟩
 have L:aK s ps (.mk 1 T eJ [] [] [] [] 0 [])=(U,0):=by rw[NK a6.1 aD aD,a0]
 have a1:aTJ s->Lc U:=λx=>by rw[<-a0];exact x T
 rw[a0]at F a' b9;refine⟨λ⟨f',M,t,B,cols,i,E,o⟩=>f'=f/\M=n/\B=z/\t=T/\i<=ks.length/\cols.length<=i/\(cols.length=i->HO U (ks.take i) cols)/\PH.le h2 o/\bM m E cb/\bC E o cb,λ⟨_,_,_,_,_,i,_,_⟩=>ks.length-i,⟨(f,n,T,z,[],0,X,h2),⟨rfl,rfl,rfl,rfl,aD,bj,λ_=>⟨bj,bj⟩,.refl _,o1,c1.mono a5⟩,MT⟩,?_⟩;rintro⟨f',M,t,z,cols,i,m2,H⟩ ⟨rfl,rfl,rfl,rfl,hi,d7,a7,G,o2,c2⟩;dsimp only;have g:PH.le h H:=(A.trans a5).trans G;refine aF (λW=>?_) (λd'=>?_)
 .obtain⟨x,o⟩:=eF b5 W;obtain⟨b1,c',e1,r1⟩:=(hk.mono g).at o;refine⟨b1,c',e1,aD,W,x,.imm (bo r1),cb,_,rfl,c2,λfr m3 d8 d9 o3 c3=>?_⟩;refine⟨λ⟨f2,n2,t2,B,a2,i2,O,y,j,E,hy⟩=>f2=f'/\n2=M/\B=z/\t2=t/\a2=cols/\i2=i/\O=x/\E=m3/\hy=H/\j<=z.len/\y=fr,λ⟨_,_,_,_,_,_,_,_,j,_,_⟩=>z.len-j,⟨(f',M,t,z,cols,i,x,fr,0,m3,H),⟨rfl,rfl,rfl,rfl,rfl,rfl,rfl,rfl,rfl,aD,rfl⟩,MT⟩,?_⟩;rintro⟨f2,n2,t2,z,cols,i,O,y,j,m3,H⟩ ⟨rfl,rfl,rfl,rfl,rfl,rfl,rfl,rfl,rfl,hj,rfl⟩;dsimp only;refine aF (λd0=>?_) (λd1=>⟨(f2,n2,t2,_,_,_,_,_),⟨rfl,rfl,rfl,rfl,by show i+1<=ks.length;omega,by show cols.length<=i+1;omega,λe=>by have e:cols.length=i+1:=e;omega,G,o2.trans o3,c3⟩,by show ks.length-(i+1)<ks.length-i;omega,MT⟩);have c0:IntKind.i64.wrap (y+(j:Int))=y+(j:Int):=dT aD aD;rw[c0];have hm:=X0 (a:=y+(j:Int)) (n:=Sl.len _) aD (show 0<z.len by omega);obtain⟨b2,c5,e2,r2⟩:=(F.mono G).inb (n:=(y+(j:Int)).tmod (z.len:Int)) hm.1 (by rw[<-a'];exact hm.2);refine⟨aD,b2,c5,e2,hm.1,hm.2,_,.imm (bo r2),aC (λek=>⟨by simp;omega,by simp;omega,(f2,n2,t2,_,cols++[(y+(j:Int)).tmod (z.len:Int)],i+1,_,_),⟨rfl,rfl,rfl,rfl,by show i+1<=ks.length;omega,by simp;omega,λe=>?_,G,o2.trans o3,c3⟩,by show ks.length-(i+1)<ks.length-i;omega,?_⟩) (λ_=>⟨(f2,n2,t2,z,cols,i,O,y,j+1,m3,H),⟨rfl,rfl,rfl,rfl,rfl,rfl,rfl,rfl,rfl,by show j+1<=z.len;omega,rfl⟩,by show z.len-(j+1)<z.len-j;omega,MT⟩)⟩
  .have e:(cols++[(y+(j:Int)).tmod (z.len:Int)]).length=i+1:=e;rw[length_append]at e;exact(a7 (bo e)).snoc o (by simp only[BM,Bool.and_eq_true,decide_eq_true_eq];omega) (bo ek)
  .rw[map_append];exact MT
 .have a8:M+1<=sc.tables.len:=by omega
  have c6:i=ks.length:=by omega
  refine aC (λ_=>⟨(f',M+1,m2,H),⟨f0,f1,a8,g,o2,c2⟩,by show sc.tables.len-(M+1)<sc.tables.len-M;omega,MT⟩) (λ_=>aF (λ_=>⟨(f',M+1,m2,H),⟨f0,f1,a8,g,o2,c2⟩,by show sc.tables.len-(M+1)<sc.tables.len-M;omega,MT⟩) (λc7=>⟨t,rfl,cb,2,rfl,aD,aD,c2,λr m4 o4 c4=>?_⟩))
  have P:HO U ks cols:=by
   rw[length_map]at c7;have:=a7 aD
   rwa [c6,take_length]at this
  refine aC (λ_=>?_) (λ_ s1 h5 a9 r5 s2 h6 a3 r6=>?_)
  .have fin:∀(w:PV)(p:Pred)(m':MH)(h':PH),PH.le H h'->eH h' p w->xE U ps 1 p->bM m4 m' cb->bC m' h' cb->∀(s:Sl)(c:PH),PH.le h' c->dK c s 21 [QV.enc ⟨1,t,gT,bW,bW,bW,bW,0,bW⟩]->∀(b':Sl)(R:PH),PH.le c R->dK R b' 1 (cols.map eI)->∀(b0:Sl)(S:PH),PH.le R S->dK S b0 21 [QV.enc ⟨2,0,w,bW,bW,bW,bW,0,s⟩]->K (aQ ⟨3,0,gT,b',bW,bW,bW,0,b0⟩) m' S:=λw p m' h' q1 q2 Y q3 q4 s h5 V q6 s1 h6 q7 q8 s2 h7 q9 c8=>
    hK _ _ m' h7 ((((g.trans q1).trans V).trans q7).trans q9) (Lw (cols:=cols) ⟨q8.mono q9,aD⟩ (Be c8 (HE (q2.mono ((V.trans q7).trans q9)) (Be (q6.mono (q7.trans q9)) (Bq _ t))))) ⟨Nf nR (Nf Y.vals (F0 t)),λd _=>SK.three d (qV.one (qV.one qV.scan bk) bk),λc9 Z _ hn J _=>P.kin (kinds_filter L (Y.valid bk (a1 c9) Z) aD) hn J⟩ ((o2.trans o4).trans q3) (q4.mono ((V.trans q7).trans q9))
   exact⟨C z U m4 H _ (F.mono G) aD g c4 fin,C z U m4 H _ (F.mono G) aD g c4 fin⟩
  .exact hK _ _ m4 h6 ((g.trans a9).trans a3) (Lw (cols:=cols) ⟨r5.mono a3,aD⟩ (Be (v:=⟨1,t,gT,bW,bW,bW,bW,0,bW⟩) r6 (Bq _ t))) ⟨Nf nR (F0 t),λd _=>SK.three d (qV.mono (qV.one qV.scan bk) bk bk bk),λ_ _ _ hn J _=>P.kin L hn J⟩ (o2.trans o4) (c4.mono (a9.trans a3))
end Go.Ps
