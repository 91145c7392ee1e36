/- Own work. -/
import Derived.Test.YtjpjambjoceofaaGreatDoorRf
set_option linter.unusedVariables false
set_option linter.unusedSimpArgs false
namespace Go.Ps
open Go Go.Vc Go.Proofs List Tryz
variable{K:cr}{m:MH}{h:PH}{s:jB}{ps:cq}{ts:de}{cb:Nat}{sc:bW}{v:QV}{t:Step}{p:Pred}{l:cq}{i:Nat}{N:Nat}{m':MH}{h':PH}{co:cq}{gr:cq}{od:cv}{ta:Int}{li:Int}{xs:List cn}{sz:Nat}{ks:List cq}{rs:cq}{r:Sl}{a:cq}{b:Nat}
mutual
def jZ:PN->Nat
 |.mk _ args _ _ _=>1+qK args
def qK:eh->Nat
 |[]=>0
 |p::ps=>jZ p+qK ps
end
def Ht(p:PN):Prop:=
 match p with
 |.mk (.mk op _ _ co on gr od _ _) args _ _ c=>(args.length:Int)=arity op/\0<=c/\c<=500/\co.length<=1000/\on.length<=1000/\gr.length<=1000/\od.length<=1000/\∀a∈args,Ht a
 termination_by SizeOf.sizeOf p
def chZ(N:Nat):Vc.Spec:=λc m h K=>∃v p d e cb f ts rs,c=[cP cb,aPN v,cI d]/\nE h p v/\SizeOf.sizeOf p<N/\Ht p/\fN e m h cb f ts rs/\fU e/\ts.length+5*jZ p<=90000/\rs.length+jZ p<=90000/\
 ∀m' h',PH.le h h'->fN e m' h' cb f (fG p d ts rs).1 (fG p d ts rs).2->K (.tup []) m' h'
noncomputable def bxJ(N cb:Nat)(d:Int)(v:gC)(m:MH)(h:PH):Ctx:=
 tR [(85,chZ N),(142,Zg),(143,bmJ),(144,biQ),(145,bPJ),(146,bPQ),(147,aeX),(148,biX)] [(13,{A:=Nat×cu×gC×gC,st:=λ⟨i,l,a,b⟩=>bQ 236 239 [(0,pv cb),(2,iv d),(7,.at (.ptr 7 0)),(8,.at (.ptr 8 0)),(9,.at (.lst 82)),(70,iv b.width),(71,iv i)] [(7,.cells 136 (a.enc.map .val)),(8,.cells 136 (b.enc.map .val)),(82,.lst 101 2 (l.map kY))] m h})] [(11,{A:=gC×gC,st:=λ⟨a,b⟩=>bQ 236 239 [(0,pv cb),(2,iv d),(7,.at (.ptr 7 0)),(8,.at (.ptr 8 0))] [(7,.cells 136 (a.enc.map .val)),(8,.cells 136 (b.enc.map .val))] m h}),
  (18,{A:=gC×gC×MH×PH,st:=λ⟨a,b,m,h⟩=>bQ 236 239 [(0,pv cb),(2,iv d),(7,.at (.ptr 7 0)),(8,.at (.ptr 8 0))] [(7,.cells 136 (a.enc.map .val)),(8,.cells 136 (b.enc.map .val))] m h}),
  (21,{A:=gC×gC,st:=λ⟨a,b⟩=>bQ 236 239 [(0,pv cb),(2,iv d),(6,.at (.ptr 6 0)),(11,.at (.ptr 11 0)),(12,.at (.ptr 12 0))] [(6,.cells 38 (v.query.enc.map .val)),(11,.cells 136 (a.enc.map .val)),(12,.cells 136 (b.enc.map .val))] m h}),
  (22,{A:=gC×gC×MH×PH,st:=λ⟨a,b,m,h⟩=>bQ 236 239 [(0,pv cb),(2,iv d),(6,.at (.ptr 6 0)),(12,.at (.ptr 12 0))] [(6,.cells 38 (v.query.enc.map .val)),(12,.cells 136 (b.enc.map .val))] m h}),
  (25,{A:=MH×PH,st:=λ⟨m,h⟩=>bQ 236 239 [(0,pv cb),(2,iv d),(4,.at (.ptr 4 0))] [(4,.cells 136 (v.enc.map .val))] m h}),
  (29,{A:=gC×gC,st:=λ⟨a,b⟩=>bQ 236 239 [(0,pv cb),(2,iv d),(13,.at (.ptr 13 0)),(14,.at (.ptr 14 0))] [(13,.cells 136 (a.enc.map .val)),(14,.cells 136 (b.enc.map .val))] m h}),
  (30,{A:=gC×gC×MH×PH,st:=λ⟨a,b,m,h⟩=>bQ 236 239 [(0,pv cb),(2,iv d),(13,.at (.ptr 13 0)),(14,.at (.ptr 14 0))] [(13,.cells 136 (a.enc.map .val)),(14,.cells 136 (b.enc.map .val))] m h}),
  (35,{A:=MH×PH,st:=λ⟨m,h⟩=>bQ 236 239 [(0,pv cb),(2,iv d),(4,.at (.ptr 4 0)),(6,.at (.ptr 6 0))] [(4,.cells 136 (v.enc.map .val)),(6,.cells 38 (v.query.enc.map .val))] m h})] [] [1033] [] false
abbrev nF(a:gC)(b c:Int)(d:Nat->Nat->gC->Prop):Prop:=bI (λx e=>aA (bK a.args.a x e) (b<=c) (c<aH a.args/\∃(f:gC),d x e f))
noncomputable abbrev C9(a:Nat)(b:gC)(c:Int):dk:=dA a (bC (fM b.enc) c)
abbrev pP(a:dk)(b:gC)(c:PH)(d:Nat)(e:MH)(g:Nat)(i:PN->Int->MH->Nat->Nat->de->cq->Prop):Prop:=∃(x:PN)(u:Int)(f:MH),bI (λj y=>FI (λn o=>aA (a=C9 j b u) (nE c x b) (aA (SizeOf.sizeOf x<d) (Ht x) (aA (fN f e c j y n o) (fU f) (aA (n.length+g*jZ x<=90000) (o.length+jZ x<=90000) (i x u f j y n o))))))
noncomputable abbrev vW(a:cn)(b:Int):dk:=gZ (fM a) (CV.val (eN b))
abbrev kL(a b:gC):Prop:=mZ 136 a.enc=mZ 136 b.enc
abbrev Ja(a:Prop)(b:gC×gC×MH×PH->Prop)(c:(gC×gC×MH×PH)->Prop):Prop:=a/\∀(x:gC×gC×MH×PH),b x->c x
noncomputable abbrev Jv(a b:Int)(c:cq)(d:Int):Step:=Step.mk a b JP c [] [] [] b d b
noncomputable abbrev An(a:gC×gC×MH×PH):Nat->Nat->Option Value:=a.2.2.2
abbrev Nl(a:dk)(b:Nat->Option Obj)(c:Nat->Nat->Option Value)(d:Int->Int->MH->Nat->Nat->de->cq->Prop):Prop:=FN (λx j=>∃(e:MH),bI (λf n=>FI (λg o=>aA (a=dA f (bC (eV x) j)) (fN e b c f n g o) (aA (fU e) (g.length<=100000) (d x j e f n g o)))))
noncomputable abbrev zR(a b:Int):Step:=Step.mk 8 0 JP [] [] [] [] 0 a b
abbrev I9(a:Nat)(b c:Int)(d:Nat->Option Obj)(e:Nat->Nat->Option Value)(g:Int->Int->de->MH->PH->Prop):Prop:=Nl (dA a (bC (eV b) c)) d e (λx j u y z n A=>iB (λo f=>cZ e f (fN u o f y z (bT (zR x j) n).1 A) (g x j n o f)))
abbrev p9:Prop:=eP 13
attribute [push_cast] nF C9 pP vW kL Ja Jv An Nl zR I9 p9
def U8(N cb:Nat)(v:gC)(d:Int)(m:MH)(h:PH)(K:cr):Prop:=
  cX (xB v==1) (xO m h cb 1 (λy=>∃(x:List cn),oZ (dE m (gJ y) 3 1 x) x 8 (lE (λs D=>eF m D (gJ y) s 3 1 (fK x (bG d))->j9 (λc E=>aA (E8 D cb (kI c E 0)) (1<c.size) (∀(G:MH),dQ D G cb (xC c 1 (aY s)) E->xF K G h)))))) (xB v==2) (nF v 0 0 (λb o y=>aU m h b (o+0) y.enc/\∃(H:gC),pP (C9 cb y d) H h N m 5 (λp B D c G t r=>iB (λC e=>cZ h e (fN D C e c G (fG p B t r).1 (fG p B t r).2) (xF K C e))))) (cX (xB v==3) (nF v 0 0 (λb o y=>aU m h b (o+0) y.enc/\Eo v 0 (λA u j=>aA (aU m h A (u+0+23) (bG j)) (bM h b (o+0) y.enc) (bM h A (u+0+23) (bG j)/\B0 (λs c=>aA (fP (Dj v.query.columns) (Dj s)) (Ints h s c) (fO c/\
 jJ (λY e=>cZ h e (iD e Y (nZ c)) (bM e b (o+0) y.enc/\Gy cb j d Y e m (λl r o2 D M G t J=>iB (λC z=>cZ e z (fN D C z M G (bT (xL o2 l r) t).1 J) (bM z A (u+0+23) (bG j)/\∃(H:gC),pP (dA cb (vW y.enc (oX (xL o2 l r) t))) H z N C 5 (λp B L S R F T=>iB (λP O=>cZ z O (fN L P O S R (fG p B F T).1 (fG p B F T).2) (xF K P O)))))))))))))) (xB v==4) (∃(I:gC×gC->Prop),nF v 0 0 (λb o y=>aU m h b (o+0) y.enc/\nF v 0 1 (λA u j=>aA (aU m h A (u+25) j.enc) (aA (aU m h b (o+0) y.enc) (aU m h A (u+25) j.enc) (aA (aU m h b (o+0) y.enc) (aU m h A (u+25) j.enc) (bM h A (u+25) j.enc/\∃(x:gC×gC),aA (I x) (cR cb) (aA (gW d)
 (eP 7) (aA eX (kL y x.1) (aA (kL j x.2) (m=m) (bL h h))))))) (aA (aU m h b (o+0) y.enc) (aU m h A (u+25) j.enc) (aA (aU m h b (o+0) y.enc) (aU m h A (u+25) j.enc) (bM h A (u+25) j.enc/\∃(x:gC×gC),aA (I x) (cR cb) (aA (gW d) (eP 7) (aA eX (kL y x.1) (aA (kL j x.2) (m=m) (bL h h)))))))))/\∀(x:gC×gC),I x->∃(I1:Nat×cu×gC×gC->Prop)(D:Nat×cu×gC×gC->Nat),(∃(f:Nat×cu×gC×gC),aA (I1 f) (cR cb) (aA (gW d) (eP 7) (aA eX (eL 82) (aA (dR x.2.width f.2.2.2.width) (bB f.1) (aA (kL x.1 f.2.2.1) (kL x.2 f.2.2.2) (aA (qG 101 2 (A1 f.2.1)) (m=m) (bL h h)))))))/\∀(f:Nat×cu×gC×gC),I1 f->aX (↑f.1:Int) f.2.2.2.width (mV
 (A1 f.2.1) 16 (∃(Q:Nat×cu×gC×gC),aA (I1 Q) (D Q<D f) (aA (cR cb) (gW d) (aA (eP 7) eX (aA (eL 82) (dR f.2.2.2.width Q.2.2.2.width) (aA (bD (gG (bF f.1 1)) Q.1) (kL f.2.2.1 Q.2.2.1) (aA (kL f.2.2.2 Q.2.2.2) (Option.some (Own.lst 101 2 (fK (A1 f.2.1) (AV (fI (f.2.2.1.width+(↑f.1:Int))) (↑f.1:Int))))=Option.some (Own.lst 101 2 (A1 Q.2.1))) (bP (m=m) h h)))))))) (∃(I2:gC×gC×MH×PH->Prop),Ja (bU h 2 (A1 f.2.1) (λs e=>Gy cb d f.2.2.2.rows s e m (λl r o G c C t J=>iB (λL z=>cZ e z (fN G L z c C (bT (xL o l r) t).1 J) (FN (λa n=>aA (bC (eV 0) f.2.2.1.width=bC (eV a) n) (bV a) (aA (bV n) (a<=1000) (n<=1000/\jJ (λY O=>cZ z O (Ints O Y (gS a
 n)) (∃(W:Int),B0 (λM S=>JN (dA cb (fZ (CV.val (eN (oX (xL o l r) t))) Y)) (λc3=>dA c3 (fZ (eV W) M)) (Ints O M S) (fO S) L O (λR c3 P F T=>iB (λV h4=>cZ O h4 (fN R V h4 c3 P (bT (Jv 3 0 S W) F).1 T) (∃(H:gC),pP (dA cb (vW f.2.2.1.enc (oX (Jv 3 0 S W) F))) H h4 N V 5 (λp B m8 c4 m9 U Z=>iB (λa1 h5=>cZ h4 h5 (fN m8 a1 h5 c4 m9 (fG p B U Z).1 (fG p B U Z).2) (∃(Q:gC×gC×MH×PH),aA (I2 Q) (cR cb) (aA (gW d) (eP 7) (aA eX (kL f.2.2.1 Q.1) (aA (kL f.2.2.2 Q.2.1) (bH a1 Q.2.2) (bL h5 (An Q)))))))))))))))))))))) I2 (λQ=>FN (λa n=>aA (bC (eV Q.1.width) Q.2.1.width=bC (eV a) n) (bV a) (aA (bV n) (a<=1000) (n<=1000/\jJ (λs e
 =>cZ (An Q) e (Ints e s (gS a n)) (∃(l:Int),B0 (λc M=>JN (dA cb (fZ (eV d) s)) (λS=>dA S (fZ (eV l) c)) (Ints e c M) (fO M) Q.2.2.1 e (λG S C t r=>iB (λL z=>cZ e z (fN G L z S C (bT (Jv 3 0 M l) t).1 r) (∃(H:gC),pP (dA cb (vW Q.2.1.enc (oX (Jv 3 0 M l) t))) H z N L 5 (λp B R c3 P F J=>iB (λV O=>cZ z O (fN R V O c3 P (fG p B F J).1 (fG p B F J).2) (xF K V O))))))))))))))) (cX (xB v==5) (∃(I:gC×gC->Prop),nF v 0 0 (λb o y=>aU m h b (o+0) y.enc/\nF v 0 1 (λA u j=>aA (aU m h A (u+25) j.enc) (aA (aU m h b (o+0) y.enc) (aU m h A (u+25) j.enc) (aA (aU m h b (o+0) y.enc) (aU m h A (u+25) j.enc) (bM h A (u+25) j.enc/\∃(x
 :gC×gC),aA (I x) (cR cb) (aA (gW d) (eP 6) (aA (eP 11) (eP 12) (aA (eY v.query) (kL y x.1) (bO (kL j x.2) (m=m) (h=h)))))))) (aA (aU m h b (o+0) y.enc) (aU m h A (u+25) j.enc) (aA (aU m h b (o+0) y.enc) (aU m h A (u+25) j.enc) (bM h A (u+25) j.enc/\∃(x:gC×gC),aA (I x) (cR cb) (aA (gW d) (eP 6) (aA (eP 11) (eP 12) (aA (eY v.query) (kL y x.1) (bO (kL j x.2) (m=m) (h=h))))))))))/\∀(x:gC×gC),I x->∃(I1:gC×gC×MH×PH->Prop),Ja (Gy cb d x.2.rows v.query.on h m (λl r o D c G t J=>iB (λC e=>cZ h e (fN D C e c G (bT (xL o l r) t).1 J) (∃(H:gC),pP (dA cb (vW x.1.enc (oX (xL o l r) t))) H e N C 5 (λp B L M R F T=>iB (λP z=>cZ e z (fN L P z M R
 (fG p B F T).1 (fG p B F T).2) (∃(f:gC×gC×MH×PH),aA (I1 f) (cR cb) (aA (gW d) (eP 6) (aA (eP 12) (eY v.query) (aA (kL x.2 f.2.1) (bH P f.2.2) (bL z (An f)))))))))))) I1 (λf=>KS (λs o=>aA (fP (Dj v.query.on) (Dj s)) (iD (An f) s o) (lY o.length/\jJ (λY e=>cZ (An f) e (iD e Y (pW o)) (Gy cb f.2.1.env d Y e f.2.2.1 (λl r u D c G t J=>iB (λC z=>cZ e z (fN D C z c G (bT (xL u l r) t).1 J) (∃(H:gC),pP (dA cb (vW f.2.1.enc (oX (xL u l r) t))) H z N C 5 (λp B L M R F T=>iB (λP O=>cZ z O (fN L P O M R (fG p B F T).1 (fG p B F T).2) (xF K P O)))))))))))) (xB v==6) (∃(I:MH×PH->Prop),nF v 0 0 (λb o y=>aU m h b (o+0)
 y.enc/\Eo v 0 (λA u j=>aA (aU m h A (u+0+23) (bG j)) (bM h b (o+0) y.enc) (I9 cb j d m h (λl r t D e=>bM e A (u+0+23) (bG j)/\∃(H:gC),pP (dA cb (vW y.enc (oX (zR l r) t))) H e N D 5 (λp B G c C F J=>iB (λL z=>cZ e z (fN G L z c C (fG p B F J).1 (fG p B F J).2) (∃(x:MH×PH),aA (I x) (cR cb) (aA (gW d) iS (bO (eQ (mZ 136 v.enc)) (bH L x) (z=x.2))))))))))/\∀(x:MH×PH),I x->nF v 0 1 (λb o y=>aU x.1 x.2 b (o+25) y.enc/\Eo v 1 (λA u j=>aA (aU x.1 x.2 A (u+25+23) (bG j)) (bM x.2 b (o+25) y.enc) (I9 cb j d x.1 x.2 (λl r t D e=>bM e A (u+25+23) (bG j)/\∃(H:gC),pP (dA cb (vW y.enc (oX (zR l r) t))) H e
 N D 5 (λp B G c C F J=>iB (λL z=>cZ e z (fN G L z c C (fG p B F J).1 (fG p B F J).2) (xF K L z)))))))) (cX (xB v==7) (∃(I:gC×gC->Prop),nF v 0 0 (λb o y=>aU m h b (o+0) y.enc/\nF v 0 1 (λA u j=>aA (aU m h A (u+25) j.enc) (aA (aU m h b (o+0) y.enc) (aU m h A (u+25) j.enc) (aA (aU m h b (o+0) y.enc) (aU m h A (u+25) j.enc) (bM h A (u+25) j.enc/\∃(x:gC×gC),aA (I x) (cR cb) (aA (gW d) p9 (aA (eP 14) (kL y x.1) (aA (kL j x.2) (m=m) (bL h h))))))) (aA (aU m h b (o+0) y.enc) (aU m h A (u+25) j.enc) (aA (aU m h b (o+0) y.enc) (aU m h A (u+25) j.enc) (bM h A (u+25) j.enc/\∃(x:gC×gC),aA (I x) (cR cb) (aA (gW d) p9 (aA (eP 14) (kL y x.1) (aA (kL
 j x.2) (m=m) (bL h h)))))))))/\∀(x:gC×gC),I x->∃(I1:gC×gC×MH×PH->Prop),Ja (∃(H:gC),pP (C9 cb x.1 d) H h N m 5 (λp B D c G t r=>iB (λC e=>cZ h e (fN D C e c G (fG p B t r).1 (fG p B t r).2) (∃(f:gC×gC×MH×PH),aA (I1 f) (cR cb) (aA (gW d) p9 (aA (eP 14) (kL x.1 f.1) (aA (kL x.2 f.2.1) (bH C f.2.2) (bL e (An f))))))))) I1 (λf=>I9 cb f.2.1.env d f.2.2.1 (An f) (λl r t D e=>Nl (dA cb (bC (CV.val (eN (oX (zR l r) t))) f.1.rows)) D e (λW J G c C F T=>iB (λL z=>cZ e z (fN G L z c C (bT (zR W J) F).1 T) (∃(H:gC),pP (dA cb (vW f.2.1.enc (oX (zR W J) F))) H z N L 5 (λp B R M P U Z=>iB (λV O=>cZ z O
 (fN R V O M P (fG p B U Z).1 (fG p B U Z).2) (xF K V O))))))))) (xB v==8) (∃(I:gC×gC->Prop),nF v 0 0 (λb o y=>aU m h b (o+0) y.enc/\nF v 0 1 (λA u j=>aA (aU m h A (u+25) j.enc) (aA (aU m h b (o+0) y.enc) (aU m h A (u+25) j.enc) (aA (aU m h b (o+0) y.enc) (aU m h A (u+25) j.enc) (bM h A (u+25) j.enc/\∃(x:gC×gC),aA (I x) (cR cb) (aA (gW d) p9 (aA (eP 14) (kL y x.1) (aA (kL j x.2) (m=m) (bL h h))))))) (aA (aU m h b (o+0) y.enc) (aU m h A (u+25) j.enc) (aA (aU m h b (o+0) y.enc) (aU m h A (u+25) j.enc) (bM h A (u+25) j.enc/\∃(x:gC×gC),aA (I x) (cR cb) (aA (gW d) p9 (aA (eP 14) (kL y x.1) (aA (kL j x.2) (m=m) (bL h h)))))))))/\∀(x:gC×gC),I x->∃(I1
 :gC×gC×MH×PH->Prop),Ja (∃(H:gC),pP (C9 cb x.1 d) H h N m 5 (λp B D c G t r=>iB (λC e=>cZ h e (fN D C e c G (fG p B t r).1 (fG p B t r).2) (∃(f:gC×gC×MH×PH),aA (I1 f) (cR cb) (aA (gW d) p9 (aA (eP 14) (kL x.1 f.1) (aA (kL x.2 f.2.1) (bH C f.2.2) (bL e (An f))))))))) I1 (λf=>I9 cb f.2.1.env d f.2.2.1 (An f) (λl r t D e=>Nl (dA cb (bC (CV.val (eN (oX (zR l r) t))) f.1.rows)) D e (λW J G c C F T=>iB (λL z=>cZ e z (fN G L z c C (bT (zR W J) F).1 T) (∃(H:gC),pP (dA cb (vW f.2.1.enc (oX (zR W J) F))) H z N L 5 (λp B R M P U Z=>iB (λV O=>cZ z O (fN R V O M P (fG p B U Z).1 (fG p B U Z).2) (xF K V
 O))))))))) (cX (xB v==9) (nF v 0 0 (λb o y=>aU m h b (o+0) y.enc/\nF v 0 0 (λA u j=>aA (aU m h A (u+0) j.enc) (bM h b (o+0) y.enc) (∃(H:gC)(p:PN)(B:Int)(q:QV),CF (λo2 t w c o3 g X l a=>∃(D:MH),bI (λM G=>FI (λF r=>aA (dA cb (cE j.enc (gZ (eV d) (fM v.query.enc)))=dA M (cE H.enc (gZ (eV B) (fM q.enc)))) (nE h p H) (aA (cJ h (Query.mk o2 t w c o3 g X l a) q) (fO g) (aA (lY X.length) (fN D m h M G F r) (aA (fU D) (F.length<=99999) (iB (λC e=>cZ h e (fN D C e M G (AA p B g X l F).1 r) (bM e A (u+0) j.enc/\∃(v2:gC),pP (C9 cb y (↑(AA p B g X l F).2:Int)) v2 e N C 5 (λp1 d2 L S R U J=>iB (λP z=>cZ e z (fN L P z S R (fG p1 d2 U
 J).1 (fG p1 d2 U J).2) (xF K P z)))))))))))))))) (xB v==10) (∃(I:MH×PH->Prop),nF v 0 0 (λb o y=>aU m h b (o+0) y.enc/\∃(H:gC),pP (C9 cb y d) H h N m 5 (λp B D c G t r=>iB (λC e=>cZ h e (fN D C e c G (fG p B t r).1 (fG p B t r).2) (∃(x:MH×PH),aA (I x) (cR cb) (aA (gW d) iS (aA (eP 6) (eQ (mZ 136 v.enc)) (aA (eY v.query) (bH C x) (bL e x.2))))))))/\∀(x:MH×PH),I x->nF v 0 1 (λb o y=>aU x.1 x.2 b (o+25) y.enc/\nF v 0 1 (λA u j=>aA (aU x.1 x.2 A (u+25) j.enc) (bM x.2 b (o+25) y.enc) (∃(H:gC)(p:PN)(B:Int)(q:QV),CF (λo2 t w c o3 g X l a=>∃(D:MH),bI (λM G=>FI (λF r=>aA (dA cb (cE j.enc (gZ (eV d) (fM v.query.enc)))=dA M (cE H.enc (gZ
 (eV B) (fM q.enc)))) (nE x.2 p H) (aA (cJ x.2 (Query.mk o2 t w c o3 g X l a) q) (fO g) (aA (lY X.length) (fN D x.1 x.2 M G F r) (aA (fU D) (F.length<=99999) (iB (λC e=>cZ x.2 e (fN D C e M G (AA p B g X l F).1 r) (bM e A (u+25) j.enc/\∃(v2:gC),pP (C9 cb y (↑(AA p B g X l F).2:Int)) v2 e N C 5 (λp1 d2 L S R U J=>iB (λP z=>cZ e z (fN L P z S R (fG p1 d2 U J).1 (fG p1 d2 U J).2) (xF K P z)))))))))))))))) (xF K m h)))))
theorem Gp{α:Type}{l:List α}(h:(l.length:Int)=1):∃a,l=[a]:=by
 match l,h with
 |[a],_=>grind
 |[],h=>simp at h
 |_::_::_,h=>grind
theorem rJ{α:Type}{l:List α}(h:(l.length:Int)=2):∃a b,l=[a,b]:=by
 match l,h with
 |[a,b],_=>grind
 |[],h=>simp at h
 |[_],h=>simp at h
 |_::_::_::_,h=>grind
theorem Ht.w{p:PN}(x:Ht p):0<=p.width/\p.width<=500:=by
 obtain⟨⟨op,ta,w,co,on,gr,od,li,c⟩,args,rows,env,d⟩:=p;rw[Ht]at x;exact⟨x.2.1,x.2.2.1⟩
theorem BL(a:PN)(d:Int)(gr:cq)(od:cv)(li:Int)(ts:de):(AA a d gr od li ts).1.length<=ts.length+2:=by
 unfold AA;have c:=dM (dL a.env d (tA gr)) ts;have e:=dM (NW (bT (dL a.env d (tA gr)) ts).2 a.rows gr od li) (bT (dL a.env d (tA gr)) ts).1
 grind
theorem gL:∀(p:PN)(d:Int)(ts:de)(rs:cq),(fG p d ts rs).1.length<=ts.length+5*jZ p/\(fG p d ts rs).2.length<=rs.length+jZ p
 |.mk (.mk op ta w co on gr od li g) args rows env n,d,ts,rs=>by
  rw[fG.eq_def]
  match args with
  |[]=>dsimp only;split<;>simp[jZ,qK]<;>omega
  |[a]=>
   dsimp only;simp only[jZ,qK];split
   .have:=gL a d ts rs;omega
   .split
    .have c:=dM (dL a.env d (nZ co)) ts;have:=gL a (bT (dL a.env d (nZ co)) ts).2 (bT (dL a.env d (nZ co)) ts).1 rs;omega
    .split
     .have c:=BL a d gr od li ts;have:=gL a (AA a d gr od li ts).2 (AA a d gr od li ts).1 rs;omega
     grind
  |a::b::r=>
   dsimp only;simp only[jZ,qK];split
   .have c:=dM (dL d b.rows (AU a.width b.width)) ts;generalize bT (dL d b.rows (AU a.width b.width)) ts=x at*
    have o:=dM (mT x.2 (gS 0 a.width)) x.1;generalize bT (mT x.2 (gS 0 a.width)) x.1=y at*
    have e:=gL a y.2 y.1 rs;generalize fG a y.2 y.1 rs=z at*
    have j:=dM (mT d (gS a.width b.width)) z.1;generalize bT (mT d (gS a.width b.width)) z.1=u at*
    have f:=gL b u.2 u.1 z.2;omega
   .split
    .have c:=dM (dL d b.rows on) ts;generalize bT (dL d b.rows on) ts=x at*
     have e:=gL a x.2 x.1 rs;generalize fG a x.2 x.1 rs=z at*
     have j:=dM (dL b.env d (pW on)) z.1;generalize bT (dL b.env d (pW on)) z.1=u at*
     have f:=gL b u.2 u.1 z.2;omega
    .split
     .have c:=dM (bY a.env d) ts;generalize bT (bY a.env d) ts=x at*
      have e:=gL a x.2 x.1 rs;generalize fG a x.2 x.1 rs=z at*
      have j:=dM (bY b.env d) z.1;generalize bT (bY b.env d) z.1=u at*
      have f:=gL b u.2 u.1 z.2;omega
     .split
      .have e:=gL a d ts rs;generalize fG a d ts rs=z at*
       have c:=dM (bY b.env d) z.1;generalize bT (bY b.env d) z.1=x at*
       have j:=dM (bY x.2 a.rows) x.1;generalize bT (bY x.2 a.rows) x.1=u at*
       have f:=gL b u.2 u.1 z.2;omega
      .split
       .have e:=gL a d ts rs;generalize fG a d ts rs=z at*
        have c:=BL b d gr od li z.1;generalize AA b d gr od li z.1=x at*
        have f:=gL b x.2 x.1 z.2;omega
       grind
 termination_by p=>SizeOf.sizeOf p
theorem aiJ{m0:MH}{u:Nat}{d:Int}(c:fN m0 m h cb u ts rs)(hl:rs.length<=90000)(X:∀m',fN m0 m' h cb u ts (rs++[d])->K (.tup []) m' h):
 ∃y:Sl,aU m h cb 1 [hJ y]/\∃xs,dE m (Sl.mk y.a y.len y.cap) 3 1 xs/\(xs.length+1)*8<=140737488355328/\xs.length<140737488355328/\∀(S:Sl)(m':MH),eF m m' (Sl.mk y.a y.len y.cap) S 3 1 (xs++[[eN d]])->∃(cs:Array Value)(E:TypeId),E8 m' cb (Obj.cells cs E)/\1<cs.size/\∀(g:MH),iP m' g cb (Obj.cells (Array.mk (splice cs.toList 1 [hJ S])) E)->K (CV.tup []) g h:=by
 obtain⟨s,r,z,⟨Y,T,I⟩,f,J,Z⟩:=c.ex;obtain⟨es,cl,L,M⟩:=c.map_.ex;refine⟨r,.of_m z rfl,rs.map eI,f,bg,bg,λA m1 x=>?_⟩
 have O:∀i,r.a≠some ⟨cb,i,none⟩:=λi e=>by
  obtain⟨n,B⟩:=dE.blk f e
  grind
 have P:∀i,r.a≠some ⟨u,i,none⟩:=λi e=>by
  obtain⟨n,B⟩:=dE.blk f e
  grind
 have U:cb≠u:=λe=>bg
 have C:=x.other cb _ z O;have V:=x.other u _ L P;refine⟨_,_,⟨C⟩,ay,λQ D=>?_⟩;have D:iP m1 Q cb (.cells #[.slice s.a s.len s.cap,.slice A.a A.len A.cap,.map (some u)] 132 (0,0)):=D
 have F:∀b o,m b=some o->b≠cb->(∀i,r.a≠some ⟨b,i,none⟩)->Q b=some o:=λb o e n1 n3=>by
  rw[D.other b n1];exact x.other b o e n3
 have G:∀b i,A.a=some ⟨b,i,none⟩->b≠cb:=λb i e e2=>by
  obtain⟨n,B⟩:=dE.blk x.row e
  grind
 refine X Q ⟨λb o e=>F b o (c.sub b o e) (λH=>by rw[H,c.cb0]at e;cases e) (λi H=>bg),c.cb0,c.mb0,⟨es,cl,bg,M⟩,c.nodup,s,A,D.at_,⟨Y,?_,I⟩,?_,J,?_⟩
 .refine dE.keep T (λb i e=>?_);obtain⟨n,B⟩:=dE.blk T e;rw[B];refine F b _ B (λH=>?_) (λj H=>?_)
  .grind
  .obtain⟨W,h4⟩:=dE.blk f H
   grind
 .rw[bw];exact dE.keep x.row (λb i e=>by rw[D.other b (G b i e)])
 .intro b i e;rcases x.fresh b i e with R|⟨j,R⟩
  .cases e0:m0 b with
   |none=>rfl
   |some o=>rw[c.sub b o e0]at R;cases R
  grind
theorem nE.form{p:PN}{v:gC}(x:nE h p v):∃q s,v=⟨q,s,p.rows,p.env,p.width⟩:=by
 obtain⟨q,s,r,e,w⟩:=v;have c:=x.rows_;have d:=x.env_;have f:=x.width_
 grind
theorem ZT:∀N,cm 85 (chZ N)
 |0=>by
  refine eD (fn:=Tryz.f85) (c:=cA Tryz.f85) func85 rfl az ?_;rintro c0 m h K ⟨v,p,d,A,cb,B,ts,rs,rfl,_,hN,_⟩;omega
 |N+1=>by
  refine iH func85 ?_;rintro c0 m h K ⟨v,p,d,A,cb,B,ts,rs,rfl,hp,hN,ok,c,T,l1,l2,L⟩;refine⟨bxJ N cb d v m h,rfl,aE (ZT N) (aE O5 (aE Yv (aE Yu (aE Yt (aE Ys (aE Yr (aE Yq aG))))))),U8 N cb v d m h K,ax,?_⟩;dsimp only[U8,push_cast];obtain⟨⟨op,ta,w,co,on,gr,od,li,a3⟩,args,rows,env,wd⟩:=p;obtain⟨hq,_,_,_,d1,vs,hr,b4⟩:=hp;rw[Ht]at ok;obtain⟨oa,d2,d3,b5,b6,b7,b8,a6⟩:=ok;have x:=hq.parts;have d0:v.args.len=args.length:=by have:=hr.len;rw[length_map,b4.length]at this;exact this
  have at_:∀{hx:PH}(_:PH.le h hx)(i:Nat)(a:PN)(_:args[i]? =some a),∃b o q s,v.args.a=some ⟨b,o,none⟩/\bM hx b (o+i*25) (gC.enc ⟨q,s,a.rows,a.env,a.width⟩)/\nE hx a ⟨q,s,a.rows,a.env,a.width⟩:=λle i a ha=>by
   obtain⟨b,o,u,e,r,H⟩:=bNQ (hr.mono le) (kQ.mono le b4) ha;obtain⟨q,s,rfl⟩:=H.form
   grind
  have a7:∀a∈args,SizeOf.sizeOf a<N:=λa ha=>by
   have:=sizeOf_lt_of_mem ha
   grind
  have j:∀{mx:MH}{hx:PH}(a:PN)(u:gC)(dd:Int)(Y:de)(a0:cq){KK:MH->PH->Prop},a∈args->nE hx a u->fN A mx hx cb B Y a0->Y.length+5*jZ a<=90000->a0.length+jZ a<=90000->(∀m' h',PH.le hx h'->fN A m' h' cb B (fG a dd Y a0).1 (fG a dd Y a0).2->KK m' h')->
   ∃(v:gC)(p:PN),∃(a8:Int)(A:MH),∃(a4 B:Nat)(ts:de)(rs:cq),[cQp cb 0,fM (gC.enc u),eV dd]=[cQp a4 0,fM (gC.enc v),eV a8]/\nE hx p v/\SizeOf.sizeOf p<N/\Ht p/\fN A mx hx a4 B ts rs/\fU A/\ts.length+5*jZ p<=90000/\rs.length+jZ p<=90000/\∀(m':MH)(h':PH),hx.le h'->fN A m' h' a4 B (fG p a8 ts rs).1 (fG p a8 ts rs).2->KK m' h':=
   λa u dd Y a0 KK ha H M b1 b2 hk=>⟨u,a,dd,A,cb,B,Y,a0,rfl,H,a7 a ha,a6 a ha,M,T,b1,b2,hk⟩
  show branch (v.query.op==1) _ _;rw[x.op_];simp only[jZ]at l1 l2;refine aC (λe=>?_) (λn1=>aC (λe=>?_) (λn2=>aC (λe=>?_) (λn3=>aC (λe=>?_) (λn4=>aC (λe=>?_) (λn5=>aC (λe=>?_) (λn6=>aC (λe=>?_) (λn7=>aC (λe=>?_) (λn8=>aC (λe=>?_) (λn9=>aC (λe=>?_) (λc1=>?_))))))))))
  .have e:op=1:=bk e
   subst e;obtain rfl:args=[]:=eq_nil_of_length_eq_zero (by have:arity 1=0:=rfl;omega);rw[fG]at L;exact aiJ c aD (λm' c'=>L m' h (.refl _) bg)
  .have e:op=2:=bk e
   subst e;obtain⟨a,rfl⟩:=Gp (l:=args) (by rw[oa];rfl);simp only[qK]at l1 l2;simp only[fG,if_true]at L;obtain⟨b,o,P,Q,e,r,H⟩:=at_ (.refl _) 0 a rfl;exact⟨b,o,e,aD,bg,_,.imm r,j a _ d ts rs ay H c aD aD L⟩
  .have e:op=3:=bk e
   subst e;obtain⟨a,rfl⟩:=Gp (l:=args) (by rw[oa];rfl);simp only[qK]at l1 l2;simp only[fG,if_true,show((3:Int)=2)=False by simp,if_false]at L;obtain⟨b,o,P,Q,e,r,H⟩:=at_ (.refl _) 0 a rfl;have rc:=(MV r).2.2.1;have hx:=dM (dL a.env d (nZ co)) ts;refine⟨b,o,e,aD,bg,_,.imm r,b,o,e,aD,bg,_,.imm rc,r,rc,v.query.columns,co,rfl,x.columns_,b5,λs h1 R a9=>⟨r.mono R,a.env,d,s,nZ co,A,cb,B,ts,rs,rfl,a9,cj (OF co co.length) b5,c.mono R,T,aD,λm2 h2 C M=>⟨rc.mono (R.trans C),?_⟩⟩⟩;have M:fN A m2 h2 cb B (bT (dL a.env d (nZ co)) ts).1 rs:=M;exact j a _ _ _ _ ay (H.mono (R.trans C)) M aD aD (λJ I g E=>L J I ((R.trans C).trans g) E)
  .have e:op=4:=bk e
   subst e;obtain⟨a,f,rfl⟩:=rJ (l:=args) (by rw[oa];rfl);simp only[qK]at l1 l2;simp only[fG,if_true]at L;obtain⟨b,o,P,Q,e,r,H⟩:=at_ (.refl _) 0 a rfl;obtain⟨b',o',W,O,e',n,F⟩:=at_ (.refl _) 1 f rfl;have wa:=(a6 a ay).w;have wb:=(a6 f ay).w;have a1:=dM (dL d f.rows (AU a.width f.width)) ts;have c8:=dM (mT (bT (dL d f.rows (AU a.width f.width)) ts).2 (gS 0 a.width)) (bT (dL d f.rows (AU a.width f.width)) ts).1;have a2:=gL a (bT (mT (bT (dL d f.rows (AU a.width f.width)) ts).2 (gS 0 a.width)) (bT (dL d f.rows (AU a.width f.width)) ts).1).2 (bT (mT (bT (dL d f.rows (AU a.width f.width)) ts).2 (gS 0 a.width)) (bT (dL d f.rows (AU a.width f.width)) ts).1).1 rs;generalize hZ:fG a (bT (mT (bT (dL d f.rows (AU a.width f.width)) ts).2 (gS 0 a.width)) (bT (dL d f.rows (AU a.width f.width)) ts).1).2 (bT (mT (bT (dL d f.rows (AU a.width f.width)) ts).2 (gS 0 a.width)) (bT (dL d f.rows (AU a.width f.width)) ts).1).1 rs=Z at*
   have a5:=dM (mT d (gS a.width f.width)) Z.1;refine⟨λx=>x=(⟨P,Q,a.rows,a.env,a.width⟩,⟨W,O,f.rows,f.env,f.width⟩),⟨b,o,e,aD,bg,_,.imm r,b',o',e',aD,bg,_,.imm n,⟨.imm r,.imm n,.imm r,.imm n,n,_,rfl,MT⟩,.imm r,.imm n,.imm r,.imm n,n,_,rfl,MT⟩,?_⟩;rintro _ rfl;obtain⟨k,hk⟩:∃k:Nat,f.width=k:=⟨f.width.toNat,aD⟩
   refine⟨λx=>x.1<=k/\x.2.1=AU a.width (x.1:Nat)/\x.2.2=(⟨P,Q,a.rows,a.env,a.width⟩,⟨W,O,f.rows,f.env,f.width⟩),λx=>k-x.1,⟨(0,[],_,_),⟨aD,rfl,rfl⟩,MT⟩,?_⟩;rintro⟨i,l,yz⟩ ⟨hi,X,e2⟩;dsimp only at hi X e2⊢
   subst X e2;have d4:(AU a.width (i:Nat)).length=i:=by simp[AU]
   refine aF (λc9=>?_) (λd'=>?_)
   .have c9:(i:Int)<(k:Int):=bg
    refine⟨bg,bg,(i+1,AU a.width ((i+1:Nat):Int),_,_),⟨aD,rfl,rfl⟩,aD,?_⟩
    have e:AU a.width ((i+1:Nat):Int)=AU a.width (i:Nat)++[(IntKind.i64.wrap (a.width+(i:Int)),(i:Int))]:=by
     rw[dY aD aD];simp[AU,range_succ]
    rw[e,bw];exact MT
   .have d':¬(i:Int)<(k:Int):=bg
    obtain rfl:i=k:=by omega
    rw[hk]at a1 c8 a2 hZ;refine⟨λx=>x.2.1=⟨W,O,f.rows,f.env,f.width⟩/\x.1=⟨P,Q,a.rows,a.env,a.width⟩/\PH.le h x.2.2.2/\fN A x.2.2.1 x.2.2.2 cb B Z.1 Z.2,λs h1 R a9=>⟨d,f.rows,s,AU a.width (i:Nat),A,cb,B,ts,rs,rfl,⟨a9,aD⟩,aD,c.mono R,T,aD,λm2 h2 C M=>?_⟩,?_⟩
    .have M:fN A m2 h2 cb B (bT (dL d f.rows (AU a.width (i:Nat))) ts).1 rs:=M;refine⟨0,a.width,rfl,aD,aD,aD,aD,λO I g b0=>⟨_,O,gS 0 a.width,A,cb,B,(bT (dL d f.rows (AU a.width (i:Nat))) ts).1,rs,rfl,b0,?_,M.mono g,T,aD,λm4 h4 U c4=>?_⟩⟩
     .simp[gS];omega
     .have c4:fN A m4 h4 cb B (bT (mT (bT (dL d f.rows (AU a.width (i:Nat))) ts).2 (gS 0 a.width)) (bT (dL d f.rows (AU a.width (i:Nat))) ts).1).1 rs:=c4;have le:=((R.trans C).trans g).trans U;exact j a _ _ _ _ ay (H.mono le) c4 aD aD (λJ I g E=>⟨(_,_,J,I),⟨rfl,rfl,le.trans g,by rw[<-hZ];exact E⟩,MT⟩)
    .rintro⟨y,z,J,I⟩ ⟨X,e2,g,E⟩;dsimp only at X e2 g E⊢
     subst X e2;refine⟨a.width,f.width,rfl,aD,aD,aD,aD,λO h4 U b0=>⟨d,O,gS a.width f.width,A,cb,B,Z.1,Z.2,rfl,b0,by simp[gS];omega,E.mono U,T,aD,λm5 h5 D S=>?_⟩⟩;have S:fN A m5 h5 cb B (bT (mT d (gS a.width f.width)) Z.1).1 Z.2:=S;have le:=(g.trans U).trans D;exact j f _ _ _ _ ay (F.mono le) S aD aD (λm6 h6 G V=>L m6 h6 (le.trans G) V)
  .have e:op=5:=bk e
   subst e;obtain⟨a,f,rfl⟩:=rJ (l:=args) (by rw[oa];rfl);simp only[qK]at l1 l2;simp only[fG,if_true,show((5:Int)=4)=False by simp,if_false]at L;obtain⟨b,o,P,Q,e,r,H⟩:=at_ (.refl _) 0 a rfl;obtain⟨b',o',W,O,e',n,F⟩:=at_ (.refl _) 1 f rfl;have a1:=dM (dL d f.rows on) ts;have a2:=gL a (bT (dL d f.rows on) ts).2 (bT (dL d f.rows on) ts).1 rs;generalize hZ:fG a (bT (dL d f.rows on) ts).2 (bT (dL d f.rows on) ts).1 rs=Z at*
   have a5:=dM (dL f.env d (pW on)) Z.1;refine⟨λx=>x=(⟨P,Q,a.rows,a.env,a.width⟩,⟨W,O,f.rows,f.env,f.width⟩),⟨b,o,e,aD,bg,_,.imm r,b',o',e',aD,bg,_,.imm n,⟨.imm r,.imm n,.imm r,.imm n,n,_,rfl,MT⟩,.imm r,.imm n,.imm r,.imm n,n,_,rfl,MT⟩,?_⟩;rintro _ rfl;refine⟨λx=>x.2.1=⟨W,O,f.rows,f.env,f.width⟩/\PH.le h x.2.2.2/\fN A x.2.2.1 x.2.2.2 cb B Z.1 Z.2,⟨d,f.rows,v.query.on,on,A,cb,B,ts,rs,rfl,x.on_,b6,c,T,aD,λm2 h2 C M=>?_⟩,?_⟩
   .have M:fN A m2 h2 cb B (bT (dL d f.rows on) ts).1 rs:=M;exact j a _ _ _ _ ay (H.mono C) M aD aD (λJ I g E=>⟨(⟨P,Q,a.rows,a.env,a.width⟩,_,J,I),⟨rfl,C.trans g,by rw[<-hZ];exact E⟩,MT⟩)
   .rintro⟨y,z,J,I⟩ ⟨X,g,E⟩;dsimp only at X g E⊢
    subst X;refine⟨v.query.on,on,rfl,x.on_.mono g,b6,λs h4 U hs=>⟨f.env,d,s,pW on,A,cb,B,Z.1,Z.2,rfl,hs,by simp[pW];omega,E.mono U,T,aD,λm5 h5 D S=>?_⟩⟩;have S:fN A m5 h5 cb B (bT (dL f.env d (pW on)) Z.1).1 Z.2:=S;have le:=(g.trans U).trans D;exact j f _ _ _ _ ay (F.mono le) S aD aD (λm6 h6 G V=>L m6 h6 (le.trans G) V)
  .have e:op=6:=bk e
   subst e;obtain⟨a,f,rfl⟩:=rJ (l:=args) (by rw[oa];rfl);simp only[qK]at l1 l2;simp only[fG,if_true,show((6:Int)=4)=False by simp,show((6:Int)=5)=False by simp,if_false]at L;obtain⟨b,o,P,Q,e,r,H⟩:=at_ (.refl _) 0 a rfl;have rc:=(MV r).2.2.1;have a1:=dM (bY a.env d) ts;have a2:=gL a (bT (bY a.env d) ts).2 (bT (bY a.env d) ts).1 rs;generalize hZ:fG a (bT (bY a.env d) ts).2 (bT (bY a.env d) ts).1 rs=Z at*
   have a5:=dM (bY f.env d) Z.1;refine⟨λx=>PH.le h x.2/\fN A x.1 x.2 cb B Z.1 Z.2,⟨b,o,e,aD,bg,_,.imm r,b,o,e,aD,bg,_,.imm rc,r,a.env,d,A,cb,B,ts,rs,rfl,c,T,aD,λm2 h2 C M=>⟨rc.mono C,?_⟩⟩,?_⟩
   .have M:fN A m2 h2 cb B (bT (bY a.env d) ts).1 rs:=M;exact j a _ _ _ _ ay (H.mono C) M aD aD (λJ I g E=>⟨(J,I),⟨C.trans g,by rw[<-hZ];exact E⟩,MT⟩)
   .rintro⟨J,I⟩ ⟨g,E⟩;dsimp only at g E⊢
    obtain⟨b',o',W,O,e',n,F⟩:=at_ g 1 f rfl;have b9:=(MV n).2.2.1;refine⟨b',o',e',aD,bg,_,.imm n,b',o',e',aD,bg,_,.imm b9,n,f.env,d,A,cb,B,Z.1,Z.2,rfl,E,T,aD,λm5 h5 D S=>⟨b9.mono D,?_⟩⟩;have S:fN A m5 h5 cb B (bT (bY f.env d) Z.1).1 Z.2:=S;exact j f _ _ _ _ ay (F.mono D) S aD aD (λm6 h6 G V=>L m6 h6 ((g.trans D).trans G) V)
  .have e:op=7:=bk e
   subst e;obtain⟨a,f,rfl⟩:=rJ (l:=args) (by rw[oa];rfl);simp only[qK]at l1 l2;simp only[fG,if_true,show((7:Int)=4)=False by simp,show((7:Int)=5)=False by simp,show((7:Int)=6)=False by simp,if_false,true_or]at L;obtain⟨b,o,P,Q,e,r,H⟩:=at_ (.refl _) 0 a rfl;obtain⟨b',o',W,O,e',n,F⟩:=at_ (.refl _) 1 f rfl;have a2:=gL a d ts rs;generalize hZ:fG a d ts rs=Z at*
   have a1:=dM (bY f.env d) Z.1;have a5:=dM (bY (bT (bY f.env d) Z.1).2 a.rows) (bT (bY f.env d) Z.1).1;refine⟨λx=>x=(⟨P,Q,a.rows,a.env,a.width⟩,⟨W,O,f.rows,f.env,f.width⟩),⟨b,o,e,aD,bg,_,.imm r,b',o',e',aD,bg,_,.imm n,⟨.imm r,.imm n,.imm r,.imm n,n,_,rfl,MT⟩,.imm r,.imm n,.imm r,.imm n,n,_,rfl,MT⟩,?_⟩;rintro _ rfl;refine⟨λx=>x.1=⟨P,Q,a.rows,a.env,a.width⟩/\x.2.1=⟨W,O,f.rows,f.env,f.width⟩/\PH.le h x.2.2.2/\fN A x.2.2.1 x.2.2.2 cb B Z.1 Z.2,j a _ _ _ _ ay H c aD aD (λJ I g E=>⟨(_,_,J,I),⟨rfl,rfl,g,bg⟩,MT⟩),?_⟩;rintro⟨y,z,J,I⟩ ⟨X,e2,g,E⟩;dsimp only at X e2 g E⊢
   subst X e2;refine⟨f.env,d,A,cb,B,Z.1,Z.2,rfl,E,T,aD,λm5 h5 D S=>⟨_,a.rows,A,cb,B,(bT (bY f.env d) Z.1).1,Z.2,rfl,S,T,aD,λm6 h6 G V=>?_⟩⟩;have V:fN A m6 h6 cb B (bT (bY (bT (bY f.env d) Z.1).2 a.rows) (bT (bY f.env d) Z.1).1).1 Z.2:=V;have le:=(g.trans D).trans G;exact j f _ _ _ _ ay (F.mono le) V aD aD (λm7 h7 b3 c7=>L m7 h7 (le.trans b3) c7)
  .have e:op=8:=bk e
   subst e;obtain⟨a,f,rfl⟩:=rJ (l:=args) (by rw[oa];rfl);simp only[qK]at l1 l2;simp only[fG,if_true,show((8:Int)=4)=False by simp,show((8:Int)=5)=False by simp,show((8:Int)=6)=False by simp,if_false,or_true]at L;obtain⟨b,o,P,Q,e,r,H⟩:=at_ (.refl _) 0 a rfl;obtain⟨b',o',W,O,e',n,F⟩:=at_ (.refl _) 1 f rfl;have a2:=gL a d ts rs;generalize hZ:fG a d ts rs=Z at*
   have a1:=dM (bY f.env d) Z.1;have a5:=dM (bY (bT (bY f.env d) Z.1).2 a.rows) (bT (bY f.env d) Z.1).1;refine⟨λx=>x=(⟨P,Q,a.rows,a.env,a.width⟩,⟨W,O,f.rows,f.env,f.width⟩),⟨b,o,e,aD,bg,_,.imm r,b',o',e',aD,bg,_,.imm n,⟨.imm r,.imm n,.imm r,.imm n,n,_,rfl,MT⟩,.imm r,.imm n,.imm r,.imm n,n,_,rfl,MT⟩,?_⟩;rintro _ rfl;refine⟨λx=>x.1=⟨P,Q,a.rows,a.env,a.width⟩/\x.2.1=⟨W,O,f.rows,f.env,f.width⟩/\PH.le h x.2.2.2/\fN A x.2.2.1 x.2.2.2 cb B Z.1 Z.2,j a _ _ _ _ ay H c aD aD (λJ I g E=>⟨(_,_,J,I),⟨rfl,rfl,g,bg⟩,MT⟩),?_⟩;rintro⟨y,z,J,I⟩ ⟨X,e2,g,E⟩;dsimp only at X e2 g E⊢
   subst X e2;refine⟨f.env,d,A,cb,B,Z.1,Z.2,rfl,E,T,aD,λm5 h5 D S=>⟨_,a.rows,A,cb,B,(bT (bY f.env d) Z.1).1,Z.2,rfl,S,T,aD,λm6 h6 G V=>?_⟩⟩;have V:fN A m6 h6 cb B (bT (bY (bT (bY f.env d) Z.1).2 a.rows) (bT (bY f.env d) Z.1).1).1 Z.2:=V;have le:=(g.trans D).trans G;exact j f _ _ _ _ ay (F.mono le) V aD aD (λm7 h7 b3 c7=>L m7 h7 (le.trans b3) c7)
  .have e:op=9:=bk e
   subst e;obtain⟨a,rfl⟩:=Gp (l:=args) (by rw[oa];rfl);simp only[qK]at l1 l2;simp only[fG,if_true,show((9:Int)=2)=False by simp,show((9:Int)=3)=False by simp,if_false]at L;obtain⟨b,o,P,Q,e,r,H⟩:=at_ (.refl _) 0 a rfl;have hx:=BL a d gr od li ts;refine⟨b,o,e,aD,bg,_,.imm r,b,o,e,aD,bg,_,.imm r,r,_,a,d,v.query,9,ta,w,co,on,gr,od,li,a3,A,cb,B,ts,rs,rfl,H,hq,b7,b8,c,T,aD,λm2 h2 C M=>⟨r.mono C,j a _ _ _ _ ay (H.mono C) M aD aD (λJ I g E=>L J I (C.trans g) E)⟩⟩
  .have e:op=10:=bk e
   subst e;obtain⟨a,f,rfl⟩:=rJ (l:=args) (by rw[oa];rfl);simp only[qK]at l1 l2;simp only[fG,if_true,show((10:Int)=4)=False by simp,show((10:Int)=5)=False by simp,show((10:Int)=6)=False by simp,show((10:Int)=7)=False by simp,show((10:Int)=8)=False by simp,if_false,or_false]at L;obtain⟨b,o,P,Q,e,r,H⟩:=at_ (.refl _) 0 a rfl;have a2:=gL a d ts rs;generalize hZ:fG a d ts rs=Z at*
   have a1:=BL f d gr od li Z.1;refine⟨λx=>PH.le h x.2/\fN A x.1 x.2 cb B Z.1 Z.2,⟨b,o,e,aD,bg,_,.imm r,j a _ _ _ _ ay H c aD aD (λJ I g E=>⟨(J,I),⟨g,bg⟩,MT⟩)⟩,?_⟩;rintro⟨J,I⟩ ⟨g,E⟩;dsimp only at g E⊢
   obtain⟨b',o',W,O,e',n,F⟩:=at_ g 1 f rfl;exact⟨b',o',e',aD,bg,_,.imm n,b',o',e',aD,bg,_,.imm n,n,_,f,d,v.query,10,ta,w,co,on,gr,od,li,a3,A,cb,B,Z.1,Z.2,rfl,F,hq.mono g,b7,b8,E,T,aD,λm5 h5 D S=>⟨n.mono D,j f _ _ _ _ ay (F.mono D) S aD aD (λm6 h6 G V=>L m6 h6 ((g.trans D).trans G) V)⟩⟩
  .exfalso;have h0:0<=arity op:=by omega
   simp only[beq_eq_false_iff_ne]at n1 n2 n3 n4 n5 n6 n7 n8 n9 c1;unfold arity at h0
   grind
def chJ:Vc.Spec:=λc m h K=>∃v p d e cb f ts rs,c=[cP cb,aPN v,cI d]/\nE h p v/\Ht p/\fN e m h cb f ts rs/\fU e/\ts.length+5*jZ p<=90000/\rs.length+jZ p<=90000/\
 ∀m' h',PH.le h h'->fN e m' h' cb f (fG p d ts rs).1 (fG p d ts rs).2->K (.tup []) m' h'
theorem aqJ:cm 85 chJ:=iQ ZT λ_ _ _ _⟨v,p,d,c,cb,f,ts,rs,e,g,j,n,o,u,x,y⟩=>⟨SizeOf.sizeOf p+1,v,p,d,c,cb,f,ts,rs,e,g,aD,j,n,o,u,x,y⟩
def Pc(r:cw)(o:OV):VV:=if o.kind=3 then o.value else if o.kind=1/\0<=o.index/\o.index<r.length then r.getD o.index.toNat zeroV else zeroV
def aGX(d c:Int):Bool:=if d=1 then c==0 else if d=2 then c !=0 else if d=3 then decide (c<0)else if d=4 then decide (c<=0)else if d=5 then decide (c>0)else if d=6 then decide (c>=0)else false
def H3(c:Int)(a b:VV):Bool:=nK a&&nK b&&a.kind==b.kind&&aGX c (nD a b)
mutual
def nY(r:cw):Pred->Bool
 |.mk op c a b args=>if op=1 then true else if op=3 then H3 c (Pc r a) (Pc r b)else if op=4 then FZ r args else if op=5 then FY r args else if op=6 then UQ r args else false
def FZ(r:cw):dg->Bool
 |[]=>true
 |p::ps=>nY r p&&FZ r ps
def FY(r:cw):dg->Bool
 |[]=>false
 |p::ps=>nY r p||FY r ps
def UQ(r:cw):dg->Bool
 |[]=>false
 |p::_=> !nY r p
end
theorem Mv(r:cw):∀ps,FZ r ps=ps.all (nY r)
 |[]=>by simp[FZ]
 |p::ps=>by simp[FZ,Mv r ps]
theorem Mu(r:cw):∀ps,FY r ps=ps.any (nY r)
 |[]=>by simp[FY]
 |p::ps=>by simp[FY,Mu r ps]
def DenS:Vc.Spec:=λc m h K=>∃o s r,c=[aO o,cS s,jQ]/\cF h s r/\K (aV (Pc r o)) m h
def MO(p:Int->Bool):Vc.Spec:=λd m h K=>∃c,d=[cI c]/\K (cB (p c)) m h
def bTZ:Vc.Spec:=λc m h K=>∃op,c=[cI op]/\
 branch (op==1) (K (fv 246) m h) (branch (op==2) (K (fv 247) m h) (branch (op==3) (K (fv 248) m h) (branch (op==4) (K (fv 249) m h) (branch (op==5) (K (fv 250) m h) (branch (op==6) (K (fv 251) m h) (K (.val .nilFunc) m h))))))
def blZ(N:Nat):Vc.Spec:=λc m h K=>∃v s p r,c=[aP v,cS s,jQ]/\dO h p v/\cF h s r/\SizeOf.sizeOf p<N/\K (cB (nY r p)) m h
def blJ:Vc.Spec:=λc m h K=>∃v s p r,c=[aP v,cS s,jQ]/\dO h p v/\cF h s r/\K (cB (nY r p)) m h
noncomputable def baJ(N:Nat)(v:PV)(s:Sl)(m:MH)(h:PH):Ctx:=
 dD [(185,DenS),(186,Si),(187,bTZ),(108,Sv),(114,blZ N),(246,MO (λc=>c==0)),(247,MO (λc=>c !=0)),(248,MO (λc=>decide (c<0))),(249,MO (λc=>decide (c<=0))),(250,MO (λc=>decide (c>0))),(251,MO (λc=>decide (c>=0)))] [(12,{A:=Nat,st:=λi=>bQ 102 105 [(1,sv s),(2,vv lI),(60,sv v.args),(61,iv v.args.len),(62,iv i)] [] m h}),
  (20,{A:=Nat,st:=λi=>bQ 102 105 [(1,sv s),(2,vv lI),(75,sv v.args),(76,iv v.args.len),(77,iv i)] [] m h})] [(6,{A:=VV×VV,st:=λ⟨a,b⟩=>bQ 102 105 [(3,.at (.ptr 3 0)),(7,.at (.ptr 7 0)),(8,.at (.ptr 8 0))] [(3,.cells 32 (v.enc.map .val)),(7,.cells 27 (a.enc.map .val)),(8,.cells 27 (b.enc.map .val))] m h})] [] false
def Rn(o:OV)(s:Sl)(m:MH)(h:PH)(K:cr):Prop:=
  cX (o.kind==3) (K (fM o.value.enc) m h) (o.kind==2) (aX o.index 0 (K (fM Ab) m h) (gA o.index 0 (K (fM Ab) m h) (bI (λb c=>aA (bK Option.none b c) (0<=o.index) (o.index<0/\∃(y:VV),aU m h b (fT c o.index 3) y.enc/\K (fM y.enc) m h))))) (dW o.kind 1 (aX o.index 0 (K (fM Ab) m h) (gA o.index (aH s) (K (fM Ab) m h) (bI (λb c=>aA (bK s.a b c) (0<=o.index) (o.index<aH s/\∃(y:VV),aU m h b (fT c o.index 3) y.enc/\K (fM y.enc) m h))))) (K (fM Ab) m h))
def Lp(op:Int)(m:MH)(h:PH)(K:cr):Prop:=
  mH m h (λb e=>dQ m e b (aL Value.nilFunc Value.nilFunc (aL Value.nilFunc Value.nilFunc (aL Value.nilFunc Value.nilFunc (lD Value.nilFunc)))) 275) (λb e=>j9 (λc E=>aA (E8 e b (kI c E 0)) (7<=c.size) (∀(d:MH),dQ e d b (aL Value.nilFunc (oF 246) (aL (oF 247) (oF 248) (aL (oF 249) (oF 250) (kW (oF 251) 7 c.toList)))) E->aX op 0 (K (CV.val Value.nilFunc) d h) (gA op 7 (K (CV.val Value.nilFunc) d h) (aA (bV op) (op<7) (∃(y:Option Nat),aU d h b (fT 0 op 1) (lD (bcZ y))/\K (CV.val (bcZ y)) d h))))))
def awJ(c:Int)(m:MH)(h:PH)(K:cr):Prop:=
  K (AQ (c==0)) m h
def awZ(c:Int)(m:MH)(h:PH)(K:cr):Prop:=
  K (AQ (c !=0)) m h
def awX(c:Int)(m:MH)(h:PH)(K:cr):Prop:=
  K (AQ (decide (c<0))) m h
def awQ(c:Int)(m:MH)(h:PH)(K:cr):Prop:=
  K (AQ (decide (c<=0))) m h
def avJ(c:Int)(m:MH)(h:PH)(K:cr):Prop:=
  K (AQ (decide (c>0))) m h
def avZ(c:Int)(m:MH)(h:PH)(K:cr):Prop:=
  K (AQ (decide (c>=0))) m h
noncomputable abbrev yX(a:OV)(b:Sl):dk:=cE a.enc (jA b jQ)
abbrev lU(a:cw)(b:OV)(c:VV):Prop:=oQ 27 (cQ (At.val (eN (Pc a b).kind)) (At.val (eN (Pc a b).int)) (nL (At.val (Value.string (Pc a b).text))))=mZ 27 c.enc
abbrev xN(a:PV)(b:Sl)(c:PH)(d:OV->cw->(VV×VV)->Prop):Prop:=∃(x:OV),qO (λe f=>aA (cE (vA a) (jA b jQ)=yX x e) (cF c e f) (∃(g:VV×VV),d x f g))
abbrev D8(a:VV×VV)(b:Int->Prop):Prop:=∃(x c:VV),fW a.1.enc a.2.enc=fW x.enc c.enc/\∃(d:Int),kU (nD x c) d/\b d
noncomputable abbrev Bu(a:PV)(b:Sl):dk:=cE a.enc (jA b jQ)
attribute [push_cast] yX lU xN D8 Bu
def RX(N:Nat)(v:PV)(s:Sl)(m:MH)(h:PH)(K:cr):Prop:=
  cX (v.op==1) (gO K m h) (v.op==3) (∃(I:VV×VV->Prop),aA (∃(o:OV),qO (λd r=>aA (yX v.left s=yX o d) (cF h d r) (aA (∃(e:OV),qO (λu f=>aA (cE (vA v) (jA s jQ)=yX e u) (cF h u f) ((∃(x:VV×VV),aA (I x) cG (aA (eP 7) eX (aA (gM v) (lU r o x.1) (aA (lU f e x.2) (m=m) (bL h h)))))/\∃(x:VV×VV),aA (I x) cG (aA (eP 7) eX (aA (gM v) (lU r o x.1) (aA (lU f e x.2) (m=m) (bL h h))))))) (xN v s h (λe f x=>aA (I x) cG (aA (eP 7) eX (aA (gM v) (lU r o x.1) (aA (lU f e x.2) (m=m) (bL h h)))))/\xN v s h (λe f x=>aA (I x) cG (aA (eP 7) eX (aA (gM v) (lU r o x.1) (aA (lU f e x.2) (m=m) (bL h h)))))) (xN v s h (λe f x=>aA (I x)
 cG (aA (eP 7) eX (aA (gM v) (lU r o x.1) (aA (lU f e x.2) (m=m) (bL h h)))))/\xN v s h (λe f x=>aA (I x) cG (aA (eP 7) eX (aA (gM v) (lU r o x.1) (aA (lU f e x.2) (m=m) (bL h h))))))))) ((∃(o:OV),qO (λd r=>aA (yX v.left s=yX o d) (cF h d r) (xN v s h (λe f x=>aA (I x) cG (aA (eP 7) eX (aA (gM v) (lU r o x.1) (aA (lU f e x.2) (m=m) (bL h h)))))/\xN v s h (λe f x=>aA (I x) cG (aA (eP 7) eX (aA (gM v) (lU r o x.1) (aA (lU f e x.2) (m=m) (bL h h))))))))/\∃(o:OV),qO (λd r=>aA (yX v.left s=yX o d) (cF h d r) (xN v s h (λe f x=>aA (I x) cG (aA (eP 7) eX (aA (gM v) (lU r o x.1) (aA (lU f e x.2) (m=m) (bL h h))))))))
 ((∃(o:OV),qO (λd r=>aA (yX v.left s=yX o d) (cF h d r) (xN v s h (λe f x=>aA (I x) cG (aA (eP 7) eX (aA (gM v) (lU r o x.1) (aA (lU f e x.2) (m=m) (bL h h)))))/\xN v s h (λe f x=>aA (I x) cG (aA (eP 7) eX (aA (gM v) (lU r o x.1) (aA (lU f e x.2) (m=m) (bL h h))))))))/\∃(o:OV),qO (λd r=>aA (yX v.left s=yX o d) (cF h d r) (xN v s h (λe f x=>aA (I x) cG (aA (eP 7) eX (aA (gM v) (lU r o x.1) (aA (lU f e x.2) (m=m) (bL h h))))))))/\∀(x:VV×VV),I x->∃(g:VV),fH (CJ x.1 g) (!(nK g)) (K aZ m h) (∃(z:VV),CJ x.2 z/\cX (!(nK z)) (K aZ m h) (x.1.kind !=x.2.kind) (K aZ m h) (∃(o:Int),kU v.cmp o/\cX (o==1) (D8 x (λc=>K
 (AQ (c==0)) m h)) (o==2) (D8 x (λc=>K (AQ (c !=0)) m h)) (cX (o==3) (D8 x (λc=>K (AQ (decide (c<0))) m h)) (o==4) (D8 x (λc=>K (AQ (decide (c<=0))) m h)) (cX (o==5) (D8 x (λc=>K (AQ (decide (c>0))) m h)) (o==6) (D8 x (λc=>K (AQ (decide (c>=0))) m h)) (K aZ m h)))))) (cX (v.op==4) (nO (λI x=>aA (I x) (aI s) (aA (eQ sQn) (aI v.args) (aA (uY v) (bB x) (aA (m=m) (h=h) True)))) (λI n x=>I x->aX (↑x:Int) (aH v.args) (bI (λb o=>aA (bK v.args.a b o) (0<=(↑x:Int)) ((↑x:Int)<aH v.args/\∃(y:PV),aU m h b (bN o x 13) y.enc/\CN (λg d p r=>aA (Bu y s=Bu g d) (dO h p g) (aA (cF h d r) (pB p N) (tD (nY r p) (K aZ m h) (∃(j:Nat),aA (I j) (n j<n x) (aA (aI s) (eQ
 sQn) (aA (aI v.args) (bJ v.args) (aA (bD (gG (bF x 1)) j) (m=m) (bL h h))))))))))) (gO K m h))) (v.op==5) (nO (λI x=>aA (I x) (aI s) (aA (eQ sQn) (aI v.args) (aA (uY v) (bB x) (aA (m=m) (h=h) True)))) (λI n x=>I x->aX (↑x:Int) (aH v.args) (bI (λb o=>aA (bK v.args.a b o) (0<=(↑x:Int)) ((↑x:Int)<aH v.args/\∃(y:PV),aU m h b (bN o x 13) y.enc/\CN (λg d p r=>aA (Bu y s=Bu g d) (dO h p g) (aA (cF h d r) (pB p N) (branch (nY r p) (gO K m h) (∃(j:Nat),aA (I j) (n j<n x) (aA (aI s) (eQ sQn) (aA (aI v.args) (bJ v.args) (aA (bD (gG (bF x 1)) j) (m=m) (bL h h))))))))))) (K aZ m h))) (dW v.op 6 (eZ (mX v) 0 (bI (λb o=>aA (bK v.args.a b o) ((0:Int)<=0) (0<aH
 v.args/\∃(y:PV),aU m h b (o+0) y.enc/\CN (λg d p r=>aA (Bu y s=Bu g d) (dO h p g) (aA (cF h d r) (pB p N) (K (CV.val (Value.bool (!(nY r p)))) m h)))))) (K aZ m h)) (K aZ m h)))
theorem X3:cm 185 DenS:=by
 refine iH func185 ?_;rintro x m h K ⟨o,s,r,rfl,j,c⟩;refine⟨dD [] [] [] [] false,rfl,aG,Rn o s m h K,ax,?_⟩;dsimp only[Rn,push_cast];have y:=bZ.slen j;unfold Pc at c;refine aC (λd=>?_) (λd=>aC (λn=>?_) (λn=>aC (λf=>?_) (λf=>?_)))
 .rw[if_pos bg]at c;exact c
 .have n:o.kind=2:=bg
  rw[if_neg aD,if_neg aD]at c;exact aF (λ_=>c) (λu=>aF (λ_=>c) (λg=>absurd (show o.index>=((0:Nat):Int)by omega) g))
 .have d:o.kind≠3:=bg
  have f:o.kind=1:=bg
  rw[if_neg d]at c;refine aF (λu=>?_) (λu=>aF (λg=>?_) (λg=>?_))
  .rw[if_neg aD]at c;exact c
  .rw[if_neg aD]at c;exact c
  .rw[if_pos ⟨f,aD,aD⟩]at c
   have z:r[o.index.toNat]? =some (r.getD o.index.toNat zeroV):=by
    grind
   obtain⟨b,off,v,e,rd,rfl⟩:=bZ.at j z;exact⟨b,off,e,aD,aD,_,.imm rd,c⟩
 .have d:o.kind≠3:=bg
  have f:o.kind≠1:=bg
  rw[if_neg d,if_neg (λe=>f e.1)]at c;exact c
theorem X2:cm 187 bTZ:=by
 refine Fm func187 ?_;rintro o m h K ⟨op,rfl,f⟩;refine⟨tR [] [] [] [] [275] [] false,rfl,aG,Lp op m h (kX h K),ax,?_⟩;show Lp op m h (kX h K);dsimp only[Lp,push_cast];intro b F n g;refine⟨_,_,⟨g.at_⟩,az,λu j=>?_⟩;have c:Sub m u:=((Sub.refl m).upd n.m_ g.other).upd n.m_ j.other;have e:=j.at_
 have d:∀k,¬(1<=op/\op<=6)->op=k->K (.val .nilFunc) m h:=λk G _=>by
  have:(op==1)=false/\(op==2)=false/\(op==3)=false/\(op==4)=false/\(op==5)=false/\(op==6)=false:=by
   grind
  obtain⟨x,y,z,A,B,C⟩:=this;rw[x,y,z,A,B,C]at f;exact f
 refine aF (λD=>.sub c (d _ aD rfl)) (λD=>aF (λE=>.sub c (d _ aD rfl)) (λE=>⟨aD,aD,?_⟩));have:op=0\/op=1\/op=2\/op=3\/op=4\/op=5\/op=6:=by omega
 rcases this with rfl|rfl|rfl|rfl|rfl|rfl|rfl
 .exact⟨none,.lent _ _ _ e rfl,.sub c (d 0 aD rfl)⟩
 .exact⟨some 246,.lent _ _ _ e rfl,.sub c f⟩
 .exact⟨some 247,.lent _ _ _ e rfl,.sub c f⟩
 .exact⟨some 248,.lent _ _ _ e rfl,.sub c f⟩
 .exact⟨some 249,.lent _ _ _ e rfl,.sub c f⟩
 .exact⟨some 250,.lent _ _ _ e rfl,.sub c f⟩
 .exact⟨some 251,.lent _ _ _ e rfl,.sub c f⟩
theorem Xy:cm 246 (MO (λc=>c==0)):=by
 refine iH func246 ?_;rintro d m h K ⟨c,rfl,e⟩;refine⟨dD [] [] [] [] false,rfl,aG,awJ c m h K,ax,?_⟩;exact e
theorem Xx:cm 247 (MO (λc=>c !=0)):=by
 refine iH func247 ?_;rintro d m h K ⟨c,rfl,e⟩;refine⟨dD [] [] [] [] false,rfl,aG,awZ c m h K,ax,?_⟩;exact e
theorem Xw:cm 248 (MO (λc=>decide (c<0))):=by
 refine iH func248 ?_;rintro d m h K ⟨c,rfl,e⟩;refine⟨dD [] [] [] [] false,rfl,aG,awX c m h K,ax,?_⟩;exact e
theorem Xv:cm 249 (MO (λc=>decide (c<=0))):=by
 refine iH func249 ?_;rintro d m h K ⟨c,rfl,e⟩;refine⟨dD [] [] [] [] false,rfl,aG,awQ c m h K,ax,?_⟩;exact e
theorem Xu:cm 250 (MO (λc=>decide (c>0))):=by
 refine iH func250 ?_;rintro d m h K ⟨c,rfl,e⟩;refine⟨dD [] [] [] [] false,rfl,aG,avJ c m h K,ax,?_⟩;exact e
theorem Xt:cm 251 (MO (λc=>decide (c>=0))):=by
 refine iH func251 ?_;rintro d m h K ⟨c,rfl,e⟩;refine⟨dD [] [] [] [] false,rfl,aG,avZ c m h K,ax,?_⟩;exact e
theorem VM:∀N,cm 114 (blZ N)
 |0=>by
  refine eD (fn:=Tryz.f114) (c:=cA Tryz.f114) func114 rfl az ?_;rintro S m h K ⟨v,s,p,r,rfl,_,_,hN,_⟩;omega
 |N+1=>by
  refine iH func114 ?_;rintro S m h K ⟨v,s,p,r,rfl,hp,C,hN,d⟩;refine⟨baJ N v s m h,rfl,aE X3 (aE H7 (aE X2 (aE Ia (aE (VM N) (aE Xy (aE Xx (aE Xw (aE Xv (aE Xu (aE Xt aG)))))))))),RX N v s m h K,ax,?_⟩;dsimp only[RX,push_cast];have o:=@vZ p;obtain⟨op,a',l,q,ps⟩:=p;obtain⟨rfl,rfl,rfl,rfl,D⟩:=hp.parts;have T:=D.slen;have Y:=D.len;simp only[Pred.args]at o;simp only[nY]at d;refine aC (λZ=>?_) (λZ=>aC (λh3=>?_) (λh3=>aC (λh4=>?_) (λh4=>aC (λh5=>?_) (λh5=>aC (λh6=>?_) (λh6=>?_)))))
  .rw[if_pos bg]at d;exact d
  all_goals have n1:v.op≠1:=bk Z
  .rw[if_neg n1,if_pos bg]at d;refine⟨λx=>x=(Pc r v.left,Pc r v.right),?_,?_⟩
   .repeat' (first|exact⟨_,rfl,MT⟩|refine⟨v.left,s,r,rfl,C,?_⟩|refine⟨v.right,s,r,rfl,C,?_⟩|refine And.intro ?_ ?_)
   .rintro⟨a,b⟩ E;simp only[Prod.mk.injEq]at E;obtain⟨rfl,rfl⟩:=E;generalize Pc r v.left=a at d⊢
    generalize Pc r v.right=b at d⊢
    have U:H3 v.cmp a b=false->K (cB false) m h:=λe=>bg
    refine⟨a,rfl,aC (λn=>U ?_) (λn=>⟨b,rfl,aC (λF=>U ?_) (λF=>aC (λG=>U ?_) (λG=>⟨v.cmp,rfl,?_⟩))⟩)⟩
    .have n:nK a=false:=bg
     simp[H3,n]
    .have F:nK b=false:=bg
     simp[H3,F]
    .have G:a.kind≠b.kind:=bg
     simp[H3,G]
    .have n:nK a=true:=bg
     have F:nK b=true:=bg
     have G:a.kind=b.kind:=bg
     have e4:H3 v.cmp a b=aGX v.cmp (nD a b):=by simp[H3,n,F,G]
     rw[e4]at d;unfold aGX at d;refine aC (λz=>?_) (λz=>aC (λA=>?_) (λA=>aC (λB=>?_) (λB=>aC (λH=>?_) (λH=>aC (λQ=>?_) (λQ=>aC (λV=>?_) (λV=>?_))))))
     all_goals simp only[beq_iff_eq,beq_eq_false_iff_ne]at*
     .rw[if_pos z]at d;exact⟨a,b,rfl,_,rfl,d⟩
     .rw[if_neg z,if_pos A]at d;exact⟨a,b,rfl,_,rfl,d⟩
     .rw[if_neg z,if_neg A,if_pos B]at d;exact⟨a,b,rfl,_,rfl,d⟩
     .rw[if_neg z,if_neg A,if_neg B,if_pos H]at d;exact⟨a,b,rfl,_,rfl,d⟩
     .rw[if_neg z,if_neg A,if_neg B,if_neg H,if_pos Q]at d;exact⟨a,b,rfl,_,rfl,d⟩
     .rw[if_neg z,if_neg A,if_neg B,if_neg H,if_neg Q,if_pos V]at d;exact⟨a,b,rfl,_,rfl,d⟩
     .rw[if_neg z,if_neg A,if_neg B,if_neg H,if_neg Q,if_neg V]at d;exact d
  all_goals have n3:v.op≠3:=bk h3
  all_goals rw[if_neg n1,if_neg n3]at d
  .rw[if_pos bg,Mv]at d;refine⟨λi=>i<=ps.length/\∀j:Nat,j<i->∀x,ps[j]? =some x->nY r x=true,λi=>ps.length-i,⟨0,⟨aD,λj I=>by omega⟩,MT⟩,λi⟨hi,J⟩=>aF (λf=>?_) (λW=>?_)⟩
   .obtain⟨x,g⟩:=eU T f;obtain⟨L,M,u,n,R,O⟩:=D.at g;have:=o (br g);refine⟨L,M,n,aD,f,u,.imm R,u,s,x,r,rfl,O,C,aD,aC (λX=>?_) (λhe=>⟨i+1,⟨aD,λj I y P=>?_⟩,(show ps.length-(i+1)<ps.length-i by omega),MT⟩)⟩
    .have:ps.all (nY r)=false:=by
      grind
     rw[this]at d;exact d
    grind
   .have:ps.all (nY r)=true:=by
     rw[all_eq_true];intro y P;obtain⟨j,I⟩:=getElem?_of_mem P
     grind
    rw[this]at d;exact d
  all_goals have n4:v.op≠4:=bk h4
  all_goals rw[if_neg n4]at d
  .rw[if_pos bg,Mu]at d;refine⟨λi=>i<=ps.length/\∀j:Nat,j<i->∀x,ps[j]? =some x->nY r x=false,λi=>ps.length-i,⟨0,⟨aD,λj I=>by omega⟩,MT⟩,λi⟨hi,J⟩=>aF (λf=>?_) (λW=>?_)⟩
   .obtain⟨x,g⟩:=eU T f;obtain⟨L,M,u,n,R,O⟩:=D.at g;have:=o (br g);refine⟨L,M,n,aD,f,u,.imm R,u,s,x,r,rfl,O,C,aD,aC (λhe=>?_) (λX=>⟨i+1,⟨aD,λj I y P=>?_⟩,(show ps.length-(i+1)<ps.length-i by omega),MT⟩)⟩
    .have:ps.any (nY r)=true:=any_eq_true.2 ⟨x,br g,he⟩;rw[this]at d;exact d
    grind
   .have:ps.any (nY r)=false:=by
     rw[any_eq_false];intro y P;obtain⟨j,I⟩:=getElem?_of_mem P
     grind
    rw[this]at d;exact d
  all_goals have n5:v.op≠5:=bk h5
  all_goals rw[if_neg n5]at d
  .rw[if_pos bg]at d;refine aF (λh7=>?_) (λh7=>?_)
   .obtain⟨x,g⟩:=eU (i:=0) T aD;obtain⟨L,M,u,n,R,O⟩:=D.at g;have:=o (br g)
    have e7:UQ r ps= !nY r x:=by
     cases ps with
     |nil=>simp at g
     |cons y _=>simp at g;subst g;rfl
    rw[e7]at d;exact⟨L,M,n,aD,aD,u,.imm aD,u,s,x,r,rfl,O,C,aD,d⟩
   .have:ps=[]:=length_eq_zero_iff.1 aD;subst this;exact d
  .rw[if_neg bg]at d;exact d
theorem YO:cm 114 blJ:=iQ VM λ_ _ _ _⟨v,s,p,r,e,c,d,f⟩=>⟨SizeOf.sizeOf p+1,v,s,p,r,e,c,d,aD,f⟩
structure iJ(w:Nat)(l:ct):Prop where
 row:∀r∈l,TL r
 wid:∀r∈l,r.length=w
 srt:oR l
 len:l.length<=8000000
def TR(l:ct)(x:cw):Bool:=l.any λy=>fQ x y==0
theorem ZI{l:ct}{x:cw}:TR l x=true↔x∈l:=by
 simp only[TR,any_eq_true,beq_iff_eq,mR]
 grind
theorem iI.sub{c:PH}{r:CV}(sub:Sub m m')(le:PH.le h c)(d:K r m c):iI h K r m' c:=λ_=>⟨m,c,sub,le,λ_ _ _ e=>.inl e,d⟩
structure Dk(m:MH)(y:Nat)(ks:du):Prop where
 ex:∃kk:du,wV m y (kk.map λk=>(Value.string k,Value.bool true))/\∀k,k∈kk↔k∈ks
theorem Dk.new{y:Nat}(h:m y=some (.map #[] 0)):Dk m y []:=⟨[],⟨#[],0,h,rfl,ay,ay⟩,ay⟩
theorem Dk.get{y:Nat}{ks:du}{key:ByteArray}{K:Bool->Prop}(s:Dk m y ks)(g:∀t:Bool,(t=true↔key∈ks)->K t):
 ∃(d:List (Value×Bool))(Ok:Value->Prop),wS m y (d.map λp=>(p.1,Value.bool p.2))/\KeyLaw Tryz.prog 9 Ok/\Ok (.string key)/\(∀e,List.Mem e d->Ok e.1)/\((∀e,List.Mem e d->e.1=Value.string key->False)->K false)/\∀t,List.Mem (Value.string key,t) d->K t:=by
 obtain⟨j,⟨o,c,u,x,_,_⟩,z⟩:=s.ex;refine⟨j.map λk=>(Value.string k,true),_,⟨o,c,u,by rw[x];simp⟩,BS,⟨key,rfl⟩,λe A=>?_,λB=>g false ⟨λe=>(by cases e),λf=>?_⟩,λt n=>g t ⟨λ_=>?_,λ_=>?_⟩⟩
 .obtain⟨k,_,rfl⟩:=mem_map.1 (show e∈_ from A)
  grind
 .exact(B (Value.string key,true) (mem_map.2 (⟨key,(z key).2 f,rfl⟩:∃a,a∈j/\(Value.string a,true)=(Value.string key,true))) rfl).elim
 .obtain⟨k,f,e⟩:=mem_map.1 (show(Value.string key,t)∈_ from n)
  grind
 .obtain⟨k,f,e⟩:=mem_map.1 (show(Value.string key,t)∈_ from n)
  grind
theorem Ug(key:ByteArray):Instr.sameBits 10000 (Value.string key) (Value.string key)=true:=by
 show(key==key)=true;cases key with
 |mk d=>exact beq_self_eq_true d
theorem Dk.put{y:Nat}{ks:du}{key:ByteArray}{Q:MH->Prop}(s:Dk m y ks)(u:∀m':MH,qV m m' y->Dk m' y (key::ks)->Q m'):
 ∃(c:db)(Ok:Value->Prop),wV m y c/\KeyLaw Tryz.prog 9 Ok/\Ok (.string key)/\Instr.sameBits 10000 (Value.string key) (Value.string key)=true/\(∀e,List.Mem e c->Ok e.1)/\((∀e,List.Mem e c->e.1=Value.string key->False)->∀m':MH,qV m m' y->wV m' y (c++[(Value.string key,Value.bool true)])->Q m')/\
  ∀(g:db)(d:Value)(j:db),c=g++(Value.string key,d)::j->∀m':MH,qV m m' y->wV m' y (g++(Value.string key,Value.bool true)::j)->Q m':=by
 obtain⟨f,x,A⟩:=s.ex;refine⟨_,_,x,BS,⟨key,rfl⟩,Ug key,λe z=>?_,λB m' n o=>u m' n ⟨f++[key],bg,λk=>?_⟩,λg d j e m' n o=>u m' n ⟨f,?_,λk=>?_⟩⟩
 .obtain⟨k,_,rfl⟩:=mem_map.1 (show e∈_ from z)
  grind
 .grind
 .have:(Value.string key,d)∈f.map λk=>(Value.string k,Value.bool true):=by rw[e];simp
  grind
 .have:(Value.string key,d)∈f.map λk=>(Value.string k,Value.bool true):=by rw[e];simp
  grind
theorem AF{α:Type}{l:List α}{k:Nat}{x:α}(p:α->Bool)(c:l[k]? =some x):(l.take (k+1)).filter p=(l.take k).filter p++(if p x then[x]else[]):=by
 rw[cd,c,Option.toList_some,filter_append]
 grind
def bNX(n:Nat):Query->List ct->Prop:=λ_ c=>n<=c.length/\∀l∈c,∃w,iJ w l
def bvQ(q:Query)(ls:List ct):ct:=match q with|.mk _ _ w _ _ _ _ _ _=>(ls.getD 0 []).filter λr=>nY r w
theorem jC.app{us vs:da}{a b:ct}(x:jC h us a)(y:jC h vs b):jC h (us++vs) (a++b):=by
 refine⟨by simp[x.len,y.len],λj r c=>?_⟩;have g:=x.len;by_cases d:j<a.length
 .rw[getElem?_append_left d]at c;obtain⟨u,e,f⟩:=x.at_ j r c
  grind
 .rw[getElem?_append_right aD]at c;obtain⟨u,e,f⟩:=y.at_ _ r c
  grind
def bXQ(_:Query)(ls:List ct):ct:=DO (ls.getD 0 []++ls.getD 1 [])
def b9X(q:Query)(ls:List ct):ct:=match q with|.mk _ _ _ co _ _ _ _ _=>DO ((ls.getD 0 []).map λr=>pick r co)
def aMQ(q:Query)(ls:List ct):Prop:=match q with|.mk _ _ _ co _ _ _ _ _=>1<=ls.length/\co.length<=12/\∃w,iJ w (ls.getD 0 [])/\jP w co
theorem aJJ{r:cw}{y:VV}(d:(pick r co)[i]? =some y)(e:i<co.length):((pick r co).take i++replicate (co.length-i) zeroV).set i y=(pick r co).take (i+1)++replicate (co.length-(i+1)) zeroV:=by
 have c:(pick r co).length=co.length:=by simp[pick]
 rw[set_append,if_neg bf];rw[cd,d,Option.toList_some,append_assoc];congr 1;rw[show co.length-i=(co.length-(i+1))+1 by omega,replicate_succ];simp[c,Nat.min_eq_left (Nat.le_of_lt e)]
theorem ajZ{r:cw}(d:i<co.length):(((pick r co).take i++replicate (co.length-i) zeroV).map VV.enc)[i]? =some (VV.enc zeroV):=by
 have c:(pick r co).length=co.length:=by simp[pick]
 grind
theorem DX{m0:MH}{o:Obj}(c:Sub m0 m)(g:mL m h b)(j:iP m m' b o):Sub m0 m'/\m0 b=none:=by
 have d:m0 b=none:=by
  cases e:m0 b with
  |none=>rfl
  |some x=>have f:=c b x e;rw[g.m_]at f;cases f
 exact⟨c.upd d j.other,d⟩
def SU(_:Query)(ls:List ct):Prop:=2<=ls.length/\∃w,∀l∈ls,iJ w l
def b2Q(_:Query)(ls:List ct):ct:=(ls.getD 0 []).filter λx=>TR (ls.getD 1 []) x==false
def b2Z(_:Query)(ls:List ct):ct:=(ls.getD 0 []).filter λx=>TR (ls.getD 1 []) x==true
def mA:cv->cw->cw->Int
 |[],a,b=>fQ a b
 |(c,d)::r,a,b=>if 0<=c/\c<a.length/\c<b.length then(if nD (a.getD c.toNat zeroV) (b.getD c.toNat zeroV)≠0 then(if d then-nD (a.getD c.toNat zeroV) (b.getD c.toNat zeroV)else nD (a.getD c.toNat zeroV) (b.getD c.toNat zeroV))else mA r a b)else mA r a b
def PG:Vc.Spec:=λc m h K=>∃o s t od a b,c=[cS o,cS s,cS t]/\jO h o od/\cF h s a/\cF h t b/\K (cI (mA od a b)) m h
noncomputable def bAQ(o s t:Sl)(m:MH)(h:PH):Ctx:=
 dD [(108,Sv),(102,MG)] [(2,{A:=Nat,st:=λi=>bQ 55 58 [(1,sv s),(2,sv t),(10,sv o),(11,iv o.len),(12,iv i)] [] m h})] [] [] false
def Vh(o s t:Sl)(m:MH)(h:PH)(K:cr):Prop:=
  nO (λI x=>aA (I x) (aI s) (aA (aI t) (aI o) (aA (bJ o) (bB x) (aA (m=m) (h=h) True)))) (λI d x=>I x->aX (↑x:Int) (aH o) (bI (λb f=>aA (bK o.a b f) (0<=(↑x:Int)) ((↑x:Int)<aH o/\∃(y:Int×Bool),aU m h b (bN f x 2) (z7 y)/\aX y.1 0 (∃(c:Nat),aA (I c) (d c<d x) (aA (aI s) (aI t) (aA (aI o) (bJ o) (aA (bD (gG (bF x 1)) c) (m=m) (bL h h))))) (cX (decide (y.1>=aH s)) (∃(c:Nat),aA (I c) (d c<d x) (aA (aI s) (aI t) (aA (aI o) (bJ o) (aA (bD (gG (bF x 1)) c) (m=m) (bL h h))))) (decide (y.1>=aH t)) (∃(c:Nat),aA (I c) (d c<d x) (aA (aI s) (aI t) (aA (aI o) (bJ o) (aA (bD (gG (bF x 1)) c) (m=m) (bL h h))))) (bI (λg j=>aA (bK s.a g j) (0<=
 y.1) (y.1<aH s/\∃(n:VV),aU m h g (fT j y.1 3) n.enc/\bI (λu z=>aA (bK t.a u z) (0<=y.1) (y.1<aH t/\∃(A:VV),aU m h u (fT z y.1 3) A.enc/\∃(a e:VV),fW n.enc A.enc=fW a.enc e.enc/\cX (nD a e==0) (∃(c:Nat),aA (I c) (d c<d x) (aA (aI s) (aI t) (aA (aI o) (bJ o) (aA (bD (gG (bF x 1)) c) (m=m) (bL h h))))) y.2 (K (eV (fI (0-nD a e))) m h) (K (eV (nD a e)) m h)))))))))) (∃(B:Sl),qO (λC a=>∃(b:cw),aA (cV s t=cV B C) (cF h B a) (cF h C b/\K (eV (fQ a b)) m h))))
theorem Y2(a b:VV): -1<=nD a b/\nD a b<=1:=by
 have c:∀x y:Int, -1<=Ci x y/\Ci x y<=1:=λx y=>by unfold Ci;omega
 have d:=(Oo a.text.data.toList b.text.data.toList).2;have e: -1<=P4 a.text b.text/\P4 a.text b.text<=1:=by unfold P4;omega
 have f:=c a.kind b.kind;have g:=c a.int b.int;unfold nD;omega
theorem aCZ{c:Int}{d:Bool}{r:cv}{a b:cw}(h:¬(0<=c/\c<a.length/\c<b.length)):mA ((c,d)::r) a b=mA r a b:=by
 rw[mA,if_neg h]
theorem bKZ{c:Int}{d:Bool}{r:cv}{a b:cw}{x y:VV}(e:0<=c)(f:a[c.toNat]? =some x)(g:b[c.toNat]? =some y):mA ((c,d)::r) a b=if nD x y≠0 then(if d then-nD x y else nD x y)else mA r a b:=by
 have j:=(bm f);have n:=(bm g);rw[mA,if_pos ⟨e,aD,aD⟩]
 grind
theorem QL:cm 64 PG:=by
 refine iH func64 ?_;rintro L m h K ⟨o,s,t,od,a,b,rfl,C,D,E,g⟩;refine⟨bAQ o s t m h,rfl,aE Ia (aE B8 aG),Vh o s t m h K,ax,?_⟩;dsimp only[Vh,push_cast];have F:=C.slen;have M:=C.len;have O:=bZ.slen D;have P:=bZ.slen E;refine⟨λi=>i<=od.length/\mA od a b=mA (od.drop i) a b,λi=>od.length-i,⟨0,⟨aD,ay⟩,MT⟩,λi⟨hi,j⟩=>aF (λn=>?_) (λQ=>?_)⟩
 .obtain⟨⟨c,B⟩,G⟩:=eU F n;obtain⟨R,S,T,U⟩:=C.row.get (i:=i) (e:=sJ (c,B)) (by simp[G]);rw[drop_cons G]at j
  have skip:¬(0<=c/\c<a.length/\c<b.length)->∃d:Nat,(λi=>i<=od.length/\mA od a b=mA (od.drop i) a b) d/\(λi=>od.length-i) d<(λi=>od.length-i) i/\eQ (sQs s)/\eQ (sQs t)/\eQ (sQs o)/\eQ (gG ↑o.len)/\gG (IntKind.i64.wrap ((i:Int)+1))=gG ↑d/\m=m/\h=h/\True:=λV=>
   ⟨i+1,⟨aD,by rw[j,aCZ V]⟩,(show od.length-(i+1)<od.length-i by omega),MT⟩
  refine⟨R,S,T,aD,n,(c,B),.imm U,aF (λH=>skip (λe=>by omega)) (λH=>aF (λI=>skip (λe=>by omega)) (λI=>aF (λJ=>skip (λe=>by omega)) (λJ=>?_)))⟩;dsimp only at H I J⊢
  obtain⟨x,z⟩:∃x,a[c.toNat]? =some x:=⟨_,bo aD⟩
  obtain⟨y,A⟩:∃y,b[c.toNat]? =some y:=⟨_,bo aD⟩
  obtain⟨W,X,u,Y,Z,rfl⟩:=bZ.at D z;obtain⟨b3,o3,u,e3,r3,rfl⟩:=bZ.at E A;rw[bKZ aD z A]at j;have a':=Y2 x y;refine⟨W,X,Y,aD,aD,x,.imm Z,b3,o3,e3,aD,aD,y,.imm r3,x,y,rfl,aC (λh4=>⟨i+1,⟨aD,?_⟩,(show od.length-(i+1)<od.length-i by omega),MT⟩) (λh4=>aC (λf=>?_) (λf=>?_))⟩
  .grind
  .have f:B=true:=f;rw[j,if_pos bg,if_pos f]at g;rw[dY aD aD,Int.zero_sub];exact g
  .have f:B=false:=f;rw[j,if_pos bg,if_neg (by simp[f])]at g;exact g
 .rw[j,drop_eq_nil_of_le aD,mA]at g;exact⟨s,t,a,b,rfl,D,E,g⟩
def Kh(w:Nat):cv->cw->cw->Int
 |[],a,b=>fQ a b
 |(c,d)::r,a,b=>if 0<=c/\c<w then(if(if d then-nD (a.getD c.toNat zeroV) (b.getD c.toNat zeroV)else nD (a.getD c.toNat zeroV) (b.getD c.toNat zeroV))≠0 then(if d then-nD (a.getD c.toNat zeroV) (b.getD c.toNat zeroV)else nD (a.getD c.toNat zeroV) (b.getD c.toNat zeroV))else Kh w r a b)else Kh w r a b
theorem CX{w:Nat}:∀{od:cv}{a b:cw},a.length=w->b.length=w->mA od a b=Kh w od a b
 |[],_,_,_,_=>rfl
 |(c,f)::r,a,b,d,e=>by
  rw[mA,Kh,d,e,CX (od:=r) d e];omega
theorem Sw.neg{α:Type}{c:α->α->Int}(h:Sw c):Sw (λx y=> -c x y):=by
 refine⟨λx y=>by have:=h.anti x y;omega,λx y z d e=>?_⟩;have f:=h.anti x y;have g:=h.anti y z;have j:=h.anti x z;have:=h.trans z y x aD aD;omega
theorem Kg(w:Nat):∀od,Sw (Kh w od)
 |[]=>F7
 |(c,d)::r=>by
  have f:=Kg w r;have g:Sw (λa b:cw=>nD (a.getD c.toNat zeroV) (b.getD c.toNat zeroV)):=Ki.of λa:cw=>a.getD c.toNat zeroV;by_cases h:0<=c/\c<w
  .have e:Kh w ((c,d)::r)=λa b=>if(if d then-nD (a.getD c.toNat zeroV) (b.getD c.toNat zeroV)else nD (a.getD c.toNat zeroV) (b.getD c.toNat zeroV))≠0 then(if d then-nD (a.getD c.toNat zeroV) (b.getD c.toNat zeroV)else nD (a.getD c.toNat zeroV) (b.getD c.toNat zeroV))else Kh w r a b:=by
    funext a b;rw[Kh,if_pos h]
   rw[e];cases d
   .exact g.lex f
   .exact g.neg.lex f
  .have e:Kh w ((c,d)::r)=Kh w r:=by funext a b;rw[Kh,if_neg h]
   grind
theorem bdZ{w:Nat}(od:cv):Sort.SWO (Go.Proofs.ltOf (fun(x y:Gd h (λl=>l.length=w))=>mA od x.l y.l)):=by
 have e:(fun(x y:Gd h (λl=>l.length=w))=>mA od x.l y.l)=λx y=>Kh w od x.l y.l:=by
  funext x y;exact CX x.pr_ y.pr_
 rw[e];exact(Kg w od).swo
def bsZ(on:cu)(ls:List ct):Prop:=2<=ls.length/\∃w c,iJ w (ls.getD 0 [])/\iJ c (ls.getD 1 [])/\jP w (oK on)/\jP c (iX on)
def aLX(q:Query)(ls:List ct):Prop:=match q with|.mk _ _ _ _ on _ _ _ _=>bsZ on ls
def agree(on:cu)(x y:cw):Bool:=fQ (pick x (oK on)) (pick y (iX on))==0
def b8Z(q:Query)(ls:List ct):ct:=match q with|.mk _ _ _ _ on _ _ _ _=>(ls.getD 0 []).filter λx=>(ls.getD 1 []).any λy=>agree on x y
theorem aEQ{on:cu}{x y:cw}:agree on x y=true↔pick x (oK on)=pick y (iX on):=by
 simp only[agree,beq_iff_eq,mR]
theorem IM{r:cw}{cols:cq}(c:TL r)(d:jP r.length cols):∀v∈pick r cols,VOk v:=λv e=>c.val v (Uu d e)
theorem K3{κ:cw->ByteArray}(c:aFQ κ){on:cu}{x y:cw}(d:TL x)(e:TL y)(f:jP x.length (oK on))(g:jP y.length (iX on)):κ (pick x (oK on))=κ (pick y (iX on))↔agree on x y=true:=by
 rw[aEQ];exact c.inj (by simp[pick,oK,iX]) (IM d f) (IM e g)
structure rO(m0 m:MH)(y:Nat)(kk:dh)(us:ByteArray->da):Prop where
 map_:wV m y (kk.map λp=>(Value.string p.1,hJ p.2))
 nodup:(kk.map Prod.fst).Nodup
 row:∀p∈kk,dE m p.2 94 1 ((us p.1).map eS)
 fresh:∀p∈kk,∀x i,p.2.a=some ⟨x,i,none⟩->m0 x=none
 apart:∀p∈kk,∀q∈kk,p.1≠q.1->∀x i j,p.2.a=some ⟨x,i,none⟩->q.2.a≠some ⟨x,j,none⟩
 none_:∀k,k∉kk.map Prod.fst->us k=[]
 old:∀x o,m0 x=some o->x≠y->m x=some o
def Fk(kk:dh)(key:ByteArray)(s:Sl):Prop:=(s=⟨none,0,0⟩/\key∉kk.map Prod.fst)\/(key,s)∈kk
theorem rO.new{y:Nat}(h:m y=some (.map #[] 0)):rO m m y [] λ_=>[]:=⟨⟨#[],0,h,rfl,ay,ay⟩,ay,ay,ay,ay,λ_ _=>rfl,λ_ _ e _=>e⟩
theorem Fk.row{m0:MH}{y:Nat}{kk:dh}{us:ByteArray->da}{key:ByteArray}{s:Sl}(g:rO m0 m y kk us)(d:Fk kk key s):dE m s 94 1 ((us key).map eS)/\∀x i,s.a=some ⟨x,i,none⟩->m0 x=none:=by
 rcases d with⟨rfl,f⟩|c
 .rw[g.none_ key f];exact⟨⟨IF [],.inl ⟨rfl,rfl⟩⟩,λx i e=>by cases e⟩
 .exact⟨g.row _ c,g.fresh _ c⟩
def NC(us:ByteArray->da)(key:ByteArray)(e:Sl):ByteArray->da:=λk=>if k=key then us k++[e]else us k
theorem rO.core{m0 U:MH}{y:Nat}{kk A:dh}{us:ByteArray->da}{key:ByteArray}{s E e:Sl}(g:rO m0 m y kk us)(H:∃o,m0 y=some o)(I:Fk kk key s)(F:eF m U s E 94 1 ((us key).map eS++[[hJ e]]))
 (V:wV m' y (A.map λp=>(Value.string p.1,hJ p.2)))(u:qV U m' y)(J:(A.map Prod.fst).Nodup)(z:∀p∈A,p=(key,E)\/(p∈kk/\p.1≠key))(G:(key,E)∈A)(L:∀k,k∈kk.map Prod.fst->k∈A.map Prod.fst):rO m0 m' y A (NC us key e):=by
 obtain⟨oy,H⟩:=H;obtain⟨W,a'⟩:=I.row g;obtain⟨es,c,h1,_⟩:=g.map_;have a0:∀i,s.a≠some ⟨y,i,none⟩:=λi f=>bg
 have X:∀x,m x=none->m0 x=none:=λx M=>by
  cases O:m0 x with
  |none=>rfl
  |some o=>
   by_cases P:x=y
   .grind
   .rw[g.old x o O P]at M;cases M
 have Y:∀x i,E.a=some ⟨x,i,none⟩->m0 x=none:=λx i f=>by
  rcases F.fresh x i f with h|⟨j,h⟩
  .grind
  grind
 have D:∀p∈kk,∀x i,p.2.a=some ⟨x,i,none⟩->∃o,m x=some o:=λp B x i f=>by
  rcases(g.row p B).ex with⟨h,_⟩|⟨b,a1,a2,h,V,_⟩
  .grind
  grind
 have Q:∀p∈kk,p.1≠key->∀x i j,p.2.a=some ⟨x,i,none⟩->s.a≠some ⟨x,j,none⟩:=λp B d x i j f C=>by
  rcases I with⟨rfl,_⟩|I
  .cases C
  .exact g.apart p B _ I d x i j f C
 refine⟨V,J,λp B=>?_,λp B x i f=>?_,λp B q hq d x i j f C=>?_,λk Z=>?_,λx o O d=>?_⟩
 .rcases z p B with rfl|⟨n,d⟩
  .have R:(NC us key e key).map eS=(us key).map eS++[[hJ e]]:=by simp[NC,eS]
   rw[R];exact dE.keep F.row λb i f=>u.other b (λC=>bg)
  .have R:NC us key e p.1=us p.1:=if_neg d;rw[R];refine dE.keep (g.row p n) λb i f=>?_;obtain⟨o,ho⟩:=D p n b i f;rw[u.other b (λC=>by rw[C]at f;rw[g.fresh p n y i f]at H;cases H),ho];exact F.other b o ho (λj=>Q p n d b i j f)
 .rcases z p B with rfl|⟨n,_⟩
  .grind
  .exact g.fresh p n x i f
 .have M:∀p∈kk,p.1≠key->∀i j,p.2.a=some ⟨x,i,none⟩->E.a≠some ⟨x,j,none⟩:=λp B d i j f C=>by
   rcases F.fresh x j C with h|⟨j',h⟩
   .grind
   grind
  rcases z p B with rfl|⟨n,a3⟩<;>rcases z q hq with rfl|⟨S,a4⟩
  .exact d rfl
  .grind
  .grind
  .exact g.apart p n q S d x i j f C
 .have T:k≠key:=λf=>Z (mem_map.2 ⟨_,G,f.symm⟩);simp only[NC,if_neg T];exact g.none_ k λh=>Z (L k h)
 .rw[u.other x d];exact F.other x o (g.old x o O d) (λi f=>bg)
theorem rO.put{m0 A:MH}{y:Nat}{kk:dh}{us:ByteArray->da}{key:ByteArray}{s u e:Sl}{Q:MH->Prop}(g:rO m0 m y kk us)(B:∃o,m0 y=some o)(C:Fk kk key s)(D:eF m A s u 94 1 ((us key).map eS++[[hJ e]]))
 (J:∀m' E,rO m0 m' y E (NC us key e)->Q m'):
 ∃(j:db)(Ok:Value->Prop),wV A y j/\KeyLaw Tryz.prog 9 Ok/\Ok (.string key)/\Instr.sameBits 10000 (Value.string key) (Value.string key)=true/\(∀e,List.Mem e j->Ok e.1)/\((∀e,List.Mem e j->e.1=Value.string key->False)->∀m':MH,qV A m' y->wV m' y (j++[(Value.string key,hJ u)])->Q m')/\
  ∀(F:db)(L:Value)(G:db),j=F++(Value.string key,L)::G->∀m':MH,qV A m' y->wV m' y (F++(Value.string key,hJ u)::G)->Q m':=by
 have H:∀i,s.a≠some ⟨y,i,none⟩:=λi n=>by
  obtain⟨o,M⟩:=B;rw[(C.row g).2 y i n]at M;cases M
 obtain⟨R,c,S,T,U,V⟩:=g.map_;refine⟨kk.map λp=>(Value.string p.1,hJ p.2),_,⟨R,c,D.other _ _ S H,T,U,V⟩,BS,⟨key,rfl⟩,Ug key,λe W=>?_,λX m' d I=>?_,λF L G Y m' d I=>?_⟩
 .obtain⟨k,_,rfl⟩:=mem_map.1 (show e∈_ from W)
  grind
 .have Z:key∉kk.map Prod.fst:=λh=>by
   obtain⟨p,hp,n⟩:=mem_map.1 h;subst n;exact X _ (mem_map_of_mem (f:=λp:ByteArray×Sl=>(Value.string p.1,hJ p.2)) hp) rfl
  refine J m' (kk++[(key,u)]) (g.core B C D bg d ?_ ?_ ay (λk hk=>bg))
  .rw[bw,nodup_append];refine⟨g.nodup,ay,λa ha b hb n=>?_⟩
   grind
  grind
 .obtain⟨k1,a',e1,n,e3⟩:=map_eq_append_iff.1 Y;obtain⟨p,k2,e4,O,e6⟩:=map_eq_cons_iff.1 e3;subst e1 e4 n e6;simp only[Prod.mk.injEq,Value.string.injEq]at O;have x:=g.nodup;rw[bw,map_cons,O.1]at x;have z:=nodup_append.1 x;have P:=nodup_cons.1 z.2.1;refine J m' (k1++(key,u)::k2) (g.core B C D bg d bg ?_ ay (λk hk=>bg))
  grind
theorem rO.get2{m0:MH}{y:Nat}{kk:dh}{us:ByteArray->da}{key:ByteArray}{K0:Prop}{K:Sl->Prop}(g:rO m0 m y kk us)(n:Fk kk key ⟨none,0,0⟩->K0)(o:∀s,Fk kk key s->K s):
 ∃(d:dy)(Ok:Value->Prop),wS m y (d.map λp=>(p.1,hJ p.2))/\KeyLaw Tryz.prog 9 Ok/\Ok (.string key)/\(∀e,List.Mem e d->Ok e.1)/\((∀e,List.Mem e d->e.1=Value.string key->False)->K0)/\∀t,List.Mem (Value.string key,t) d->K t:=by
 obtain⟨u,c,x,z,_,_⟩:=g.map_;refine⟨kk.map λp=>(.string p.1,p.2),_,⟨u,c,x,by rw[z];simp⟩,BS,⟨key,rfl⟩,λe A=>?_,λB=>n (.inl ⟨rfl,λh=>?_⟩),λt C=>o t (.inr ?_)⟩
 .obtain⟨k,_,rfl⟩:=mem_map.1 (show e∈_ from A)
  grind
 .obtain⟨p,j,e⟩:=mem_map.1 h;subst e;exact B (.string p.1,p.2) (mem_map_of_mem (f:=λp:ByteArray×Sl=>(Value.string p.1,p.2)) j) rfl
 .obtain⟨p,j,e⟩:=mem_map.1 (show(Value.string key,t)∈_ from C)
  grind
structure Zk(m0 m:MH)(h:PH)(y:Nat)(f:ByteArray->ct):Prop where
 ex:∃kk us,rO m0 m y kk us/\∀k,jC h (us k) (f k)
theorem Zk.upd{m0:MH}{y:Nat}{kk:dh}{us:ByteArray->da}{f c:ByteArray->ct}{key:ByteArray}{e:Sl}{r:cw}(g:rO m0 m' y kk (NC us key e))(j:∀k,jC h (us k) (f k))(n:cF h e r)(o:c key=f key++[r])(u:∀k,k≠key->c k=f k):Zk m0 m' h y c:=by
 refine⟨kk,_,g,λk=>?_⟩;by_cases d:k=key
 .subst d;rw[o];have:NC us k e k=us k++[e]:=if_pos rfl;rw[this];exact(j k).snoc n
 .rw[u k d];have:NC us key e k=us k:=if_neg d
  grind
def DS(cols:cq)(r:cw):Bool:=(pick r cols).all nK
def pT(on:cu)(b:ct)(x:cw):ct:=
 if DS (oK on) x then(b.filter λy=>DS (iX on) y&&agree on x y).map (x++ ·)else[]
def caJ(q:Query)(ls:List ct):ct:=match q with|.mk _ _ _ _ on _ _ _ _=>(ls.getD 0 []).flatMap (pT on (ls.getD 1 []))
def aMJ(q:Query)(ls:List ct):Prop:=match q with|.mk _ _ _ _ on _ _ _ _=>bsZ on ls/\(ls.getD 0 []).length*(ls.getD 1 []).length<=8000000
theorem AE{α β:Type}{f:α->List β}{n:Nat}:∀{l:List α},(∀x∈l,(f x).length<=n)->(l.flatMap f).length<=l.length*n
 |[],_=>ay
 |a::l,h=>by
  have d:=h a (mem_cons_self ..);have e:=AE (l:=l) λx c=>h x (mem_cons_of_mem _ c);simp only[flatMap_cons,bt,ci,Nat.add_mul,Nat.one_mul];omega
theorem EU{α β:Type}{l:List α}{k:Nat}{x:α}(f:α->List β)(c:l[k]? =some x):(l.take (k+1)).flatMap f=(l.take k).flatMap f++f x:=by
 rw[take_add_one,c];simp
theorem CU{on:cu}{b:ct}{x:cw}:(pT on b x).length<=b.length:=by
 unfold pT;grind
def under(κ:cw->ByteArray)(cols:cq)(l:ct)(key:ByteArray):ct:=l.filter λz=>DS cols z&&decide (κ (pick z cols)=key)
theorem HH{κ:cw->ByteArray}{cols:cq}{l:ct}{k:Nat}{r:cw}(c:l[k]? =some r)(key:ByteArray):under κ cols (l.take (k+1)) key=under κ cols (l.take k) key++(if DS cols r&&decide (κ (pick r cols)=key)then[r]else[]):=AF _ c
def oM(κ:cw->ByteArray)(gr:cq)(l:ct)(k:ByteArray):ct:=l.filter λz=>decide (κ (pick z gr)=k)
def uT(od:cv)(l:ct):Prop:=l.Pairwise λa b=>¬mA od b a<0
structure wJ(κ:cw->ByteArray)(m:MH)(h:PH)(y:Nat)(gr:cq)(od:cv)(l:ct)(kk:dh)(g:ByteArray->ct):Prop where
 map_:wV m y (kk.map λp=>(Value.string p.1,hJ p.2))
 nodup:(kk.map Prod.fst).Nodup
 rows:∀p∈kk,Rows h p.2 (g p.1)
 none_:∀k,k∉kk.map Prod.fst->g k=[]
 perm:∀k,(g k).Perm (oM κ gr l k)
 sort:∀k,uT od (g k)
structure bMQ(m:MH)(h:PH)(od:cv)(p:ByteArray×Sl)(f:ByteArray->ct)(st:Prop):Prop where
 ex:∃ps:dq,dE m p.2 94 1 (ps.map λq=>eS q.1)/\(∀q∈ps,cF h q.1 q.2)/\(ps.map Prod.snd).Perm (f p.1)/\(st->uT od (ps.map Prod.snd))
noncomputable def leftOf(m:MH)(r:Nat):Nat:=match m r with
 |some (.mapIter (some b) _ c _)=>(match m b with|some (.map d _)=>(d.toList.filter λe=> !c.contains e.born).length|_=>0)
 |_=>0
theorem mQ.left_{r:Nat}{d left:db}(i:mQ m b r d left):leftOf m r=left.length:=by
 obtain⟨n,c,e,f,o,g,_,_,_,j,_,_,_,u⟩:=i.ex;simp only[leftOf,j,g]
 grind
theorem mQ.mem{r:Nat}{d left:db}(i:mQ m b r d left){x:Value×Value}(g:x∈left):x∈d:=by
 obtain⟨j,c,e,f,n,o,u,_,_,y,_,_,_,z⟩:=i.ex
 grind
theorem mQ.keep{r:Nat}{e left:db}(i:mQ m b r e left)(n:m' b=m b)(o:m' r=m r):mQ m' b r e left:=by
 obtain⟨g,c,d,f,j,u,x⟩:=i.ex;exact⟨g,c,d,f,j,bg,bg⟩
theorem mQ.nodup{r:Nat}{d left:db}(i:mQ m b r d left)(g:d.Nodup):left.Nodup:=by
 obtain⟨j,c,e,f,n,o,u,_,_,x,_,_,_,y⟩:=i.ex
 grind
theorem b8Q{us:da}{rs:ct}(c:jC h us rs):∃ps:dq,ps.map Prod.fst=us/\ps.map Prod.snd=rs/\∀q∈ps,cF h q.1 q.2:=by
 refine⟨us.zip rs,map_fst_zip (Nat.le_of_eq c.len),map_snd_zip (Nat.le_of_eq c.len.symm),λq e=>?_⟩;obtain⟨i,d⟩:=mem_iff_getElem?.1 e;rw[getElem?_zip_eq_some]at d;obtain⟨u,f,g⟩:=c.at_ i _ d.2
 grind
theorem dE.ice{s:Sl}{us:da}(n:dE m s 94 1 (us.map eS))(E:∀b c,s.a=some ⟨b,0,none⟩->m b=some (.cells c 94 (0,0))->∀i,h b i=c[i]?):cC h s 1 (us.map eS):=by
 rcases n.ex with⟨rfl,f⟩|⟨b,x,c,rfl,F,y,G,H,I⟩
 .rw[f];exact cC.nil _ _
 .refine⟨ay,?_,y⟩;by_cases z:us.map eS=[]
  .exact .inl z
  .refine .inr ⟨b,0,rfl,λi e d=>⟨λj v o=>?_⟩⟩;have A:=n.rows.len e (br d);have B:j=0:=bg
   subst B;have C:=(bm d)
   have J:((us.map eS).flatten)[i]? =some v:=by
    rw[getElem?_map]at d;cases g:us[i]? with
    |none=>grind
    |some u=>
     rw[g]at d;simp at d;subst d;simp[eS]at o;subst o
     have:∀l:da,(l.map eS).flatten=l.map λu=>Value.slice u.a u.len u.cap:=λl=>by
      induction l with
      |nil=>rfl
      |cons a l D=>simp only[map_cons,flatten_cons,D];rfl
     grind
   grind
theorem Ti{kk:dh}(d:(kk.map Prod.fst).Nodup){p q:ByteArray×Sl}(c:p∈kk)(f:q∈kk)(e:p.1=q.1):p=q:=by
 induction kk with
 |nil=>cases c
 |cons a kk g=>
  grind
theorem UT{κ:cw->ByteArray}{O T C:MH}{A:PH}{y r:Nat}{l:ct}{kk:dh}{uk:ByteArray->da}(U:Sub m O)(ny:m y=none)(m4y:O y=some (.map #[] 0))(g:rO O T y kk uk)(hg:∀k,jC A (uk k) (oM κ gr l k))(le:PH.le h A)(a1:l.length<=8000000)
 (V:∀b o,T b=some o->(∀p∈kk,∀i,p.2.a≠some ⟨b,i,none⟩)->C b=some o)(W:mQ C y r (kk.map λp=>(Value.string p.1,hJ p.2)) [])(n:∀p∈kk,bMQ C A od p (oM κ gr l) ((Value.string p.1,hJ p.2)∉([]:db)))
 (hK:∀y m2 d kk g,m y=none->(∀b,b≠y->m2 b=m b)->PH.le h d->wJ κ m2 d y gr od l kk g->K (.val (.map (some y))) m2 d):iI h K (.val (.map (some y))) C A:=by
 intro hd;have D:∀b o,O b=some o->∀p∈kk,∀i,p.2.a≠some ⟨b,i,none⟩:=λb o e p f i J=>by rw[g.fresh p f b i J]at e;cases e
 have L:Sub m T:=λz o J=>g.old z o (U z o J) (λe3=>bg)
 classical
 let B:Nat->Prop:=λb=>∃p∈kk,p.2.a=some ⟨b,0,none⟩
 have hB:∀b,B b->m b=none/\b≠y/\∀i,A b i=none:=by
  rintro b ⟨p,f,e⟩;obtain⟨ps,E,_⟩:=(n p f).ex;refine⟨?_,λJ=>?_,hd b _ (E.blk e).choose_spec⟩
  .cases J:m b with
   |none=>rfl
   |some o=>exact(D b o (U b o J) p f 0 e).elim
  grind
 let d:PH:=λb i=>if B b then(match C b with|some (.cells cs _ _)=>cs[i]? |_=>none)else A b i
 have I:PH.le A d:=⟨λb i v e=>by
  grind⟩
 have a2:∀p∈kk,∃G,Rows d p.2 G/\G.Perm (oM κ gr l p.1)/\uT od G:=λp f=>by
  obtain⟨ps,E,h3,h4,F⟩:=(n p f).ex;refine⟨ps.map Prod.snd,?_,h4,F ay⟩;have e5:(ps.map λq=>eS q.1)=(ps.map Prod.fst).map eS:=by rw[map_map];rfl
  rw[e5]at E
  have X:cC d p.2 1 ((ps.map Prod.fst).map eS):=dE.ice E λb M Y P i=>by
   show(if B b then _ else A b i)=_;rw[if_pos ⟨p,f,Y⟩,P]
  refine jC.rows (us:=ps.map Prod.fst) ⟨ay,λj x Q=>?_⟩ X ?_
  .rw[getElem?_map]at Q;cases R:ps[j]? with
   |none=>grind
   |some q=>
    rw[R]at Q;have Q:q.2=x:=bg
    exact⟨q.1,bg,Q▸cF.mono (h3 q (br R)) I⟩
  .have:=h4.length_eq;have h6:(oM κ gr l p.1).length<=l.length:=length_filter_le _ _;omega
 let G:ByteArray->ct:=λk=>if e:∃p G,p∈kk/\p.1=k/\Rows d p.2 G/\G.Perm (oM κ gr l p.1)/\uT od G then e.choose_spec.choose else[]
 have hG:∀p∈kk,Rows d p.2 (G p.1)/\(G p.1).Perm (oM κ gr l p.1)/\uT od (G p.1):=λp f=>by
  have Z:∃u G,u∈kk/\u.1=p.1/\Rows d u.2 G/\G.Perm (oM κ gr l u.1)/\uT od G:=by
   grind
  have R:G p.1=Z.choose_spec.choose:=dif_pos Z;rw[R];obtain⟨F,h6,h7⟩:=Z.choose_spec.choose_spec
  have tr:∀u G',u∈kk->u.1=p.1->(Rows d u.2 G'/\G'.Perm (oM κ gr l u.1)/\uT od G')->Rows d p.2 G'/\G'.Perm (oM κ gr l p.1)/\uT od G':=λu G' E d h3=>by
   have e7:=Ti g.nodup E f d
   grind
  exact tr _ _ F h6 h7
 have hN:∀k,k∉kk.map Prod.fst->G k=[]/\oM κ gr l k=[]:=λk H=>by
  refine⟨dif_neg ?_,?_⟩
  .grind
  .have F:=(hg k).len;rw[g.none_ k H]at F
   grind
 obtain⟨es,c,a',a0,c0,i1,i2,i3,i4,_⟩:=W.ex;refine⟨λb=>if b=y then C y else m b,d,λb o e=>?_,le.trans I,λb i v' e=>?_,hK y _ d kk G ny (λb S=>if_neg S) (le.trans I) ⟨⟨es,c,(if_pos rfl).trans i1,i2,i3,i4⟩,g.nodup,λp f=>(hG p f).1,λk H=>(hN k H).1,λk=>?_,λk=>?_⟩⟩
 .have e:(if b=y then C y else m b)=some o:=e;split at e
  .grind
  .exact V b o (L b o e) (D b o (U b o e))
 .have e:(if B b then _ else A b i)=some v':=e;split at e
  .rename_i S;have F:=hB b S;obtain⟨p,f,Y⟩:=S;obtain⟨ps,E,_⟩:=(n p f).ex;obtain⟨M,P⟩:=E.blk Y;rw[P]at e;refine .inr ⟨M,94,(0,0),P,e,?_⟩;show(if b=y then C y else m b)=none;rw[if_neg F.2.1];exact F.1
  grind
 .by_cases H:k∈kk.map Prod.fst
  .obtain⟨p,f,rfl⟩:=mem_map.1 H
   grind
  grind
 .by_cases H:k∈kk.map Prod.fst
  .obtain⟨p,f,rfl⟩:=mem_map.1 H
   grind
  .rw[(hN k H).1];exact List.Pairwise.nil
theorem US{κ:cw->ByteArray}{W L M O:MH}{Y:PH}{y r w:Nat}{gr:cq}{od:cv}{l:ct}{kk:dh}{uk:ByteArray->da}{left Z l2:db}{x:Value×Value}(m4y:W y=some (.map #[] 0))(g:rO W L y kk uk)(P:iJ w l)(a5:L r=none)
 (a6:∀b o,L b=some o->(∀p∈kk,∀i,p.2.a≠some ⟨b,i,none⟩)->M b=some o)(Q:mQ M y r (kk.map λp=>(Value.string p.1,hJ p.2)) left)(D:∀p∈kk,bMQ M Y od p (oM κ gr l) ((Value.string p.1,hJ p.2)∉left))(a':left=Z++x::l2)(C:qV M O r)(a0:E7 O y r (kk.map λp=>(Value.string p.1,hJ p.2)) (Z++l2) x):
 ∃(c:ByteArray×Sl)(ps:dq),x=(Value.string c.1,hJ c.2)/\(∀b o,W b=some o->b≠y->O b=some o/\∀i,c.2.a≠some ⟨b,i,none⟩)/\dE O c.2 94 1 (ps.map λp:Sl×cw=>eS p.1)/\(∀p∈ps,cF Y p.1 p.2)/\(∀p∈ps,p.2.length=w)/\ps.length<=l.length/\
  ∀(n:dq)(E:MH),n.Perm ps->n.Pairwise (λp q=>¬mA od q.2 p.2<0)->dE E c.2 94 1 (n.map λp=>eS p.1)->(∀b,(∀i,c.2.a≠some ⟨b,i,none⟩)->E b=O b)->
   (∀b o,L b=some o->(∀p∈kk,∀i,p.2.a≠some ⟨b,i,none⟩)->E b=some o)/\(∃left,mQ E y r (kk.map λp=>(Value.string p.1,hJ p.2)) left/\∀p∈kk,bMQ E Y od p (oM κ gr l) ((Value.string p.1,hJ p.2)∉left))/\leftOf E r<leftOf M r:=by
 have G:∀p∈kk,∀x i,p.2.a=some ⟨x,i,none⟩->∃o,L x=some o:=λp B x i X=>⟨_,((g.row p B).blk X).choose_spec⟩
 have H:∀{z o},L z=some o->z≠r:=fun{z o} X e3=>bg
 have a1:x∈left:=bg
 obtain⟨c,d,rfl⟩:=mem_map.1 (mQ.mem Q a1);obtain⟨ps,h1,h3,h4,h5⟩:=(D c d).ex;have F:∀b o,W b=some o->∀p∈kk,∀i,p.2.a≠some ⟨b,i,none⟩:=λb o e p B i X=>by rw[g.fresh p B b i X]at e;cases e
 have u:∀p∈kk,∀b i,p.2.a=some ⟨b,i,none⟩->b≠r:=λp B b i e=>H (G p B b i e).choose_spec;have R:=h4.length_eq;have a2:(oM κ gr l c.1).length<=l.length:=length_filter_le _ _;rw[length_map]at R;refine⟨c,ps,rfl,λb o e a3=>⟨?_,F b o e c d⟩,dE.keep h1 λb i e=>C.other b (u c d b i e),h3,λq hq=>?_,aD,λn E A I J f=>?_⟩
 .have mb:=g.old b o e a3;rw[C.other b (H mb)]
  grind
 .have:q.2∈oM κ gr l c.1:=h4.mem_iff.1 (mem_map_of_mem hq);exact P.wid _ (mem_filter.1 this).1
 .have S:∀i,c.2.a≠some ⟨y,i,none⟩:=F y _ m4y c d;have T:∀i,c.2.a≠some ⟨r,i,none⟩:=λi e=>u c d r i e rfl;have U:mQ E y r (kk.map λp=>(Value.string p.1,hJ p.2)) (Z++l2):=mQ.keep a0.it (f y S) (f r T);refine⟨λb o e hb=>?_,⟨_,U,λp B=>?_⟩,?_⟩
  .rw[f b (hb c d),C.other b (H e)]
   grind
  .by_cases V:p=c
   .subst V;refine⟨n,J,λq hq=>h3 q (A.mem_iff.1 hq),(A.map _).trans h4,λ_=>?_⟩;rw[uT,pairwise_map];exact I
   .have a4:p.1≠c.1:=λe=>V (Ti g.nodup B d e);obtain⟨qs,g1,g3,g4,g5⟩:=(D p B).ex;refine⟨qs,dE.keep g1 λb i e=>?_,g3,g4,λhn=>g5 λhl=>hn ?_⟩
    .rw[f b (λj=>g.apart p B c d a4 b i j e),C.other b (u p B b i e)]
    grind
  .rw[mQ.left_ U,mQ.left_ Q,a'];simp
theorem LI{w:Nat}:∀{od:cv}{a b:cw},Kh w od a b=0->a=b
 |[],_,_,h=>mR.1 h
 |(c,d)::r,a,b,h=>by
  rw[Kh]at h;generalize (if d then-nD (a.getD c.toNat zeroV) (b.getD c.toNat zeroV)else nD (a.getD c.toNat zeroV) (b.getD c.toNat zeroV))=x at h;split at h
  .split at h
   .omega
   .exact LI h
  .exact LI h
theorem DD{w:Nat}{od:cv}{a b:cw}(c:a.length=w)(d:b.length=w):mA od a b= -mA od b a:=by
 rw[CX c d,CX d c];exact(Kg w od).anti a b
theorem aCX{w:Nat}{a b:cw}(c:a.length=w)(d:b.length=w)(h:mA od a b=0):a=b:=by
 rw[CX c d]at h;exact LI h
theorem L2{w:Nat}{od:cv}{x:cw}:∀{G:ct}{n:Nat},uT od G->(∀r∈G,r.length=w)->G.Nodup->(x∈G.take n↔x∈G/\(G.countP λy=>decide (mA od y x<0))<n)
 |[],n,_,_,_=>ay
 |a::G,0,_,_,_=>ay
 |a::G,n+1,g,j,o=>by
  have g:=pairwise_cons.1 g;have o:=nodup_cons.1 o;have z:=L2 (x:=x) (G:=G) (n:=n) g.2 (λr A=>j r (mem_cons_of_mem _ A)) o.2;have c:=j a (mem_cons_self ..);rw[take_succ_cons,mem_cons,z,mem_cons,countP_cons];by_cases u:x=a
  .subst u;have B:¬mA od x x<0:=by have:=DD (od:=od) c c;omega
   have C:(G.countP λy=>decide (mA od y x<0))=0:=countP_eq_zero.2 λy D=>bg
   grind
  .by_cases d:x∈G
   .have f:=j x (mem_cons_of_mem _ d);have B:=g.1 x d;have C:=DD (od:=od) c f;have E:mA od a x≠0:=λe=>u (aCX c f e).symm
    grind
   grind
theorem PQ{l:ct}(h:oR l):l.Nodup:=by
 rw[nodup_iff_pairwise_ne];exact h.imp fun{a b} c e=>by subst e;have:=F7.anti a a;omega
def Mb(gr:cq)(x y:cw):Bool:=fQ (pick x gr) (pick y gr)==0
theorem aiZ{x y:cw}:Mb gr x y=true↔pick x gr=pick y gr:=by
 simp only[Mb,beq_iff_eq,mR]
def K5(gr:cq)(od:cv)(li:Int)(a b:ct):ct:=a.filter λx=>decide (((b.countP λy=>Mb gr x y&&decide (mA od y x<0):Nat):Int)<li)
def b9Q(q:Query)(ls:List ct):ct:=match q with|.mk _ _ _ _ _ gr od li _=>K5 gr od li (ls.getD 0 []) (ls.getD 0 [])
def aLZ(q:Query)(ls:List ct):Prop:=match q with|.mk _ _ _ _ _ gr _ li _=>1<=ls.length/\(∃w,iJ w (ls.getD 0 [])/\jP w gr)/\0<=li
theorem aQQ{κ:cw->ByteArray}(e:aFQ κ){w:Nat}{l:ct}(c:iJ w l)(f:jP w gr){x y:cw}(g:TL x)(j:x.length=w)(d:y∈l):κ (pick y gr)=κ (pick x gr)↔Mb gr x y=true:=by
 rw[aiZ];have:=e.inj (a:=pick y gr) (b:=pick x gr) (by simp[pick]) (IM (c.row y d) (by rw[c.wid y d];exact f)) (IM g bg)
 grind
theorem Ms{κ:cw->ByteArray}(c:aFQ κ){w:Nat}{l:ct}(d:iJ w l)(e:jP w gr){x:cw}(f:TL x)(g:x.length=w):
 ((oM κ gr l (κ (pick x gr))).countP λy=>decide (mA od y x<0))=l.countP λy=>Mb gr x y&&decide (mA od y x<0):=by
 rw[oM,countP_filter];refine countP_congr λy j=>?_;have n:=aQQ c d e f g j
 grind
theorem VU{α:Type}{p q:α->Bool}:∀{l:List α},(∀x∈l,¬(p x=true/\q x=true))->l.countP p+l.countP q=l.countP λx=>p x||q x
 |[],_=>rfl
 |a::l,h=>by
  have d:=VU (l:=l) λx c=>h x (mem_cons_of_mem _ c)
  grind
theorem aoZ{κ:cw->ByteArray}(z:aFQ κ){y w:Nat}{l:ct}{kk:dh}{g:ByteArray->ct}(e:wJ κ m h y gr od l kk g)(c:iJ w l)(d:jP w gr)(A:0<=li)(x:cw):
 x∈K5 gr od li l l↔∃p∈kk,x∈(g p.1).take li.toNat:=by
 have B:∀k r,r∈g k->r∈l/\κ (pick r gr)=k:=λk r n=>by
  have:=(e.perm k).mem_iff.1 n;simpa[oM]using this
 have C:∀k,(g k).Nodup:=λk=>(e.perm k).nodup_iff.2 ((PQ c.srt).sublist filter_sublist);have D:∀k,x∈(g k).take li.toNat↔x∈g k/\((g k).countP λy=>decide (mA od y x<0))<li.toNat:=λk=>L2 (e.sort k) (λr n=>c.wid r (B k r n).1) (C k)
 have E:x∈l->((g (κ (pick x gr))).countP λy=>decide (mA od y x<0))=l.countP λy=>Mb gr x y&&decide (mA od y x<0):=λj=>by
  rw[(e.perm _).countP_eq];exact Ms z c d (c.row x j) (c.wid x j)
 rw[K5,mem_filter];constructor
 .rintro⟨j,u⟩;have u:=of_decide_eq_true u;have f:x∈g (κ (pick x gr)):=(e.perm _).mem_iff.2 (by simp[oM,j])
  have o:κ (pick x gr)∈kk.map Prod.fst:=by
   by_cases o:κ (pick x gr)∈kk.map Prod.fst
   .exact o
   .rw[e.none_ _ o]at f;cases f
  grind
 grind
open Classical in
structure Gc(κ:cw->ByteArray)(gr:cq)(li:Int)(l:ct)(kk:dh)(g:ByteArray->ct)(left:db)(acc:ct):Prop where
 mem:∀x,x∈acc↔∃p∈kk,(Value.string p.1,hJ p.2)∉left/\x∈(g p.1).take li.toNat
 cnt:acc.length+(l.countP λz=>decide (Value.string (κ (pick z gr))∈left.map Prod.fst))<=l.length
open Classical in
theorem Gc.start{κ:cw->ByteArray}{gr:cq}{li:Int}{l:ct}{kk:dh}{g:ByteArray->ct}:Gc κ gr li l kk g (kk.map λp=>(Value.string p.1,hJ p.2)) []:=by
 refine⟨λx=>⟨λe=>(by cases e),?_⟩,?_⟩
 .grind
 grind
theorem amZ{kk:dh}(c:(kk.map Prod.fst).Nodup):(kk.map λp=>(Value.string p.1,hJ p.2)).Nodup:=by
 grind
open Classical in
theorem Gc.step{κ:cw->ByteArray}{m F:MH}{h:PH}{y G r:Nat}{gr:cq}{od:cv}{li:Int}{l f:ct}{kk:dh}{g:ByteArray->ct}{left d e:db}{c:ByteArray×Sl}(st:Gc κ gr li l kk g left f)(o:wJ κ m h y gr od l kk g)(j:mQ F G r (kk.map λp=>(Value.string p.1,hJ p.2)) left)(u:c∈kk)(A:left=d++(Value.string c.1,hJ c.2)::e):
 Gc κ gr li l kk g (d++e) (f++(g c.1).take li.toNat):=by
 have B:=mQ.nodup j (amZ o.nodup);rw[A]at B
 have E:(Value.string c.1,hJ c.2)∉d++e:=λh=>by
  grind
 have C:∀x∈d++e,x∈left:=λx h=>bg
 refine⟨λx=>?_,?_⟩
 .rw[mem_append,st.mem]
  grind
 .have H:Value.string c.1∉(d++e).map Prod.fst:=λh=>by
   obtain⟨z,D,n⟩:=mem_map.1 h;obtain⟨p,I,rfl⟩:=mem_map.1 (mQ.mem j (C _ D));simp only[Value.string.injEq]at n;have:=Ti o.nodup I u n
   grind
  have L:=VU (l:=l) (p:=λz=>decide (Value.string (κ (pick z gr))∈(d++e).map Prod.fst)) (q:=λz=>decide (κ (pick z gr)=c.1)) (λz _⟨M,O⟩=>by
   grind)
  have P:(l.countP λz=>decide (Value.string (κ (pick z gr))∈(d++e).map Prod.fst)||decide (κ (pick z gr)=c.1))=l.countP λz=>decide (Value.string (κ (pick z gr))∈left.map Prod.fst):=by
   grind
  have Q:(oM κ gr l c.1).length=l.countP λz=>decide (κ (pick z gr)=c.1):=by rw[oM,countP_eq_length_filter]
  have J:=(o.perm c.1).length_eq;have:=st.cnt;rw[bt,length_take];omega
theorem Gc.done{κ:cw->ByteArray}(j:aFQ κ){y w:Nat}{l e:ct}{kk:dh}{g:ByteArray->ct}(st:Gc κ gr li l kk g [] e)(n:wJ κ m h y gr od l kk g)(c:iJ w l)(d:jP w gr)(f:0<=li):K5 gr od li l l=DO e:=
 Zx (c.srt.sublist filter_sublist) λx=>by rw[aoZ j n c d f,st.mem];simp
theorem aIX{h:PH}{s:Sl}{l:ct}{li:Int}(f:Rows h s l)(g:0<=li):(0<=if(s.len:Int)<li then(s.len:Int)else li)/\(if(s.len:Int)<li then(s.len:Int)else li)<=s.cap/\∃us:da,cC h ⟨s.a,(if(s.len:Int)<li then(s.len:Int)else li).toNat,s.cap⟩ 1 (us.map eS)/\jC h us (l.take li.toNat)/\us.length<=l.length:=by
 obtain⟨⟨c,d,n,o⟩,_⟩:=f;have u:s.len=c.length:=by have:=d.len;grind
 have y:((if(s.len:Int)<li then(s.len:Int)else li).toNat)=min c.length li.toNat:=by omega
 have e:=d.cap;refine⟨aD,aD,c.take (min c.length li.toNat),?_,⟨bg,λj x z=>?_⟩,bf⟩
 .rw[y,map_take];exact cC.cut d _ bf
 grind
theorem JX{w:World}{q:Nat}{c:Array Obj}(d:b<w.heap.size):(Sort.grow (w.drewN q) c).heap[b]? =w.heap[b]? :=by
 show((w.drewN q).heap++c)[b]? =_;rw[Array.getElem?_append_left (show b<(w.drewN q).heap.size from d)];rfl
theorem V0{P:Program}{g:Nat}{cs:cn}{m:MH}{h:PH}{S:Vc.Spec}{r:CV}{u:Value}(J:Sound P g S)(L:S (cs.map .val) m h λr' m' h'=>r'=r/\m'=m/\h'=h)(M:∀w C,Gi w r C->C=u){w:World}
 (O:∀b o v,h b o=some v->w.cell? ⟨b,o,none⟩=some v)(V:∀b o,m b=some o->w.heap[b]? =some o)(Q:∀b o,m b=some o->∀i,h b i=none)(D:Nat)(E:Array Obj):
 Calls P g cs.toArray (Sort.grow (w.drewN D) E) λe w'=>e= .returned u/\∃q F,w'=Sort.grow ((Sort.grow (w.drewN D) E).drewN q) F:=by
 obtain⟨W,hW⟩:∃W,Sort.grow (w.drewN D) E=W:=⟨_,rfl⟩
 rw[hW];have G:∀b,b<w.heap.size->W.heap[b]? =w.heap[b]? :=λb f=>by rw[<-hW];exact JX f
 have x:∀(l:cn)(w:World),Dp w (l.map .val) l:=λl w=>by
  induction l with
  |nil=>trivial
  |cons a l R=>exact⟨rfl,R⟩
 have z:∀(l:cn)(i:Nat)(c:CV)(u:Value)(b:Nat),(l.map CV.val)[i]? =some c->iL c u=some b->False:=λl i c u b n f=>by
  rw[getElem?_map]at n;cases e:l[i]? with
  |none=>grind
  |some v=>rw[e]at n;simp at n;subst n;simp[iL]at f
 have A:BK W m h (cs.map .val) cs:=by
  refine⟨x _ _,?_,?_,Q,λi j c d u v b n _ _ _ f _=>(z _ i c u b n f).elim,λi c u b n _ f=>(z _ i c u b n f).elim⟩
  .intro b o v T;have B:=O b o v T;rw[World.cell?_of_block (w:=w) (w':=W) (a:=⟨b,o,none⟩) (G b (World.block_lt_of_cell? w ⟨b,o,none⟩ B))];exact B
  grind
 refine(J.2 _ _ m h W _ L A).mono ?_;rintro e w' ⟨r',C,m',h',rfl,⟨rfl,rfl,rfl⟩,H,y,_⟩;have U:=M _ _ H;subst U;refine⟨rfl,LV y.tape y.os y.output y.drawn y.size (λb f=>?_)⟩;cases I:m' b with
 |none=>
  refine y.frame b f ?_;rintro(B|⟨i,c,u,n,_,X⟩)
  .exact B I
  grind
 |some o=>rw[y.msat b o I];grind
theorem WB{g:Nat}{S R:Vc.Spec}(V:cm g S)(hR:∀B m h K,R B m h K->∃(n E F G H:Nat)(od:cv)(rs:ct)(r:cw),B=[cI n,.val (.func (.func g) #[] #[.pointer (some ⟨E,0,none⟩),.pointer (some ⟨F,0,none⟩),.pointer (some ⟨G,0,none⟩)])]/\rs.length<=502633886983/\rs.length=n/\uT od rs/\(∀x∈rs,x.length=H)/\r.length=H/\
 (∀(i:Nat) x,rs[i]? =some x->S ([.int .i64 i,.pointer (some ⟨E,0,none⟩),.pointer (some ⟨F,0,none⟩),.pointer (some ⟨G,0,none⟩)].map .val) m h λr' m' h'=>r'=cB (decide (mA od x r>=0))/\m'=m/\h'=h)/\K (cI ((rs.countP λy=>decide (mA od y r<0):Nat):Int)) m h):cm 126 R:=by
 refine⟨⟨Tryz.f126,func126,rfl,az⟩,?_⟩;intro B W m h w K h0 f;obtain⟨n,E,F,G,H,od,rs,r,rfl,X,rfl,J,Y,j,hS,hK⟩:=hR _ _ _ _ h0
 obtain⟨v1,I,rfl⟩:∃v I,W=[v,I]:=by
  have:=(rI f.args).1
  match W,this with
  |[v,I],_=>grind
 have C:v1= .int .i64 rs.length:=f.args.1;have h2:I= .func (.func g) #[] #[.pointer (some ⟨E,0,none⟩),.pointer (some ⟨F,0,none⟩),.pointer (some ⟨G,0,none⟩)]:=f.args.2.1;subst C h2
 have eg:∀args w,(callFunc g args).run Tryz.prog w= .ok (.enter g args) w:=λargs w=>by
  obtain⟨Z,L,d,hn⟩:=V.1;have M:¬Z.body=none:=bg
  have O:¬Z.name= "runtime.NumGoroutine" :=bg
  simp[callFunc,program,Sem.run,L,O,M]
 have D:=Any.sort_Search Tryz.searchO g #[.pointer (some ⟨E,0,none⟩),.pointer (some ⟨F,0,none⟩),.pointer (some ⟨G,0,none⟩)] rs.length (λi=>decide (mA od (rs.toArray[i]!) r>=0)) w eg aD
  (λmm P i hi=>V0 (cs:=[.int .i64 i,.pointer (some ⟨E,0,none⟩),.pointer (some ⟨F,0,none⟩),.pointer (some ⟨G,0,none⟩)]) V
   (hS i _ bg) (λw u' hu=>hu) f.hsat f.msat f.disj mm P)
  (λa b Q d c=>?_)
 .refine Calls.mono D ?_;rintro e w' ⟨rfl,q,P,rfl⟩
  have u:((List.range rs.length).countP λi=> !decide (mA od (rs.toArray[i]!) r>=0))=rs.countP λy=>decide (mA od y r<0):=by
   have:=Go.Lib.countP_range rs.toArray (λy=> !decide (mA od y r>=0))
   grind
  rw[u];refine⟨_,_,m,h,rfl,hK,rfl,⟨rfl,rfl,rfl,Nat.le_add_right _ _,?_,λb d _=>JX d,λb o v T=>?_,λb o d=>?_,f.disj,λ_ _ _ e=>e,λ_ _ _=>rfl,λb o d=>.inr (.inl bg)⟩,λb d=>by cases d⟩
  .show w.heap.size<=((w.drewN q).heap++P).size;rw[Array.size_append];exact Nat.le_add_right _ _
  .have C:=f.hsat b o v T;rw[World.cell?_of_block (w:=w) (a:=⟨b,o,none⟩) (JX (World.block_lt_of_cell? w ⟨b,o,none⟩ C))];exact C
  .have C:=f.msat b o d;rw[JX (Array.getElem?_eq_some_iff.1 C).1];exact C
 .have c:=of_decide_eq_true c;refine decide_eq_true ?_;rcases Nat.lt_or_eq_of_le Q with U|rfl
  .have ha:a<rs.length:=by omega
   rw[getElem!_pos _ a aD]at c;rw[getElem!_pos _ b aD];simp only[getElem_toArray]at c⊢
   have z:=Y _ (getElem_mem ha);have A:=Y _ (getElem_mem d);have h5:=(pairwise_iff_getElem.1 J) a b ha d U;have h6:=DD (od:=od) z A;have h7:=DD (od:=od) z j;have h8:=DD (od:=od) A j;rw[CX z A]at h6;have:=(Kg H od).trans r rs[a] rs[b] (by rw[<-CX j z];omega) aD;rw[<-CX j A]at this;omega
  .exact c
theorem wJ.get2{κ:cw->ByteArray}{y:Nat}{l:ct}{kk:dh}{G:ByteArray->ct}{key:ByteArray}{K0:Prop}{K:Sl->Prop}(g:wJ κ m h y gr od l kk G)(n:Fk kk key ⟨none,0,0⟩->K0)(o:∀s,Fk kk key s->K s):
 ∃(d:dy)(Ok:Value->Prop),wS m y (d.map λp=>(p.1,hJ p.2))/\KeyLaw Tryz.prog 9 Ok/\Ok (.string key)/\(∀e,List.Mem e d->Ok e.1)/\((∀e,List.Mem e d->e.1=Value.string key->False)->K0)/\∀t,List.Mem (Value.string key,t) d->K t:=by
 obtain⟨u,c,x,z,_,_⟩:=g.map_;refine⟨kk.map λp=>(.string p.1,p.2),_,⟨u,c,x,by rw[z];simp⟩,BS,⟨key,rfl⟩,λe A=>?_,λB=>n (.inl ⟨rfl,λh=>?_⟩),λt C=>o t (.inr ?_)⟩
 .obtain⟨k,_,rfl⟩:=mem_map.1 (show e∈_ from A)
  grind
 .obtain⟨p,j,e⟩:=mem_map.1 h;subst e;exact B (.string p.1,p.2) (mem_map_of_mem (f:=λp:ByteArray×Sl=>(Value.string p.1,p.2)) j) rfl
 .obtain⟨p,j,e⟩:=mem_map.1 (show(Value.string key,t)∈_ from C)
  grind
theorem wJ.keep{κ:cw->ByteArray}{y:Nat}{l:ct}{kk:dh}{G:ByteArray->ct}(g:wJ κ m h y gr od l kk G)(d:∀o,m y=some o->m' y=some o)(le:PH.le h h'):wJ κ m' h' y gr od l kk G:=by
 obtain⟨e,c,f,j,n,u⟩:=g.map_;exact⟨⟨e,c,d _ f,j,n,u⟩,g.nodup,λp x=>bZ.mono (g.rows p x) le (λr t z=>cF.mono z le),g.none_,g.perm,g.sort⟩
theorem wJ.at_{κ:cw->ByteArray}{y:Nat}{l:ct}{kk:dh}{G:ByteArray->ct}{key:ByteArray}{s:Sl}(g:wJ κ m h y gr od l kk G)(c:Fk kk key s):Rows h s (G key):=by
 rcases c with⟨rfl,d⟩|e
 .rw[g.none_ key d];exact(jC.nil h).rows (cC.nil _ _) ay
 .exact g.rows _ e
def brZ(q:Query)(ls:List ct):ct:=match q with|.mk _ _ _ _ _ gr od li _=>K5 gr od li (ls.getD 0 []) (ls.getD 1 [])
def UC(q:Query)(ls:List ct):Prop:=match q with|.mk _ _ _ _ _ gr _ _ _=>2<=ls.length/\∃w,iJ w (ls.getD 0 [])/\iJ w (ls.getD 1 [])/\jP w gr
def opF(op:Int)(q:Query)(ls:List ct):ct:=
 if op=2 then bvQ q ls else if op=3 then b9X q ls else if op=4 then caJ q ls else if op=5 then b8Z q ls else if op=6 then bXQ q ls else if op=7 then b2Q q ls else if op=8 then b2Z q ls else if op=9 then b9Q q ls else brZ q ls
def PS(op:Int)(q:Query)(ls:List ct):Prop:=
 if op=2 then bNX 1 q ls else if op=3 then aMQ q ls else if op=4 then aMJ q ls else if op=5 then aLX q ls else if op=6 then bNX 2 q ls else if op=7 then SU q ls else if op=8 then SU q ls else if op=9 then aLZ q ls else UC q ls
mutual
def Bb(ls:List ct):Query->Nat->ct×Nat
 |.mk op ta w co on gr od li args,k=>if op=1 then(ls.getD k [],k+1)else(opF op (.mk op ta w co on gr od li args) (yE ls args k).1,(yE ls args k).2)
def yE(ls:List ct):cz->Nat->List ct×Nat
 |[],k=>([],k)
 |q::qs,k=>((Bb ls q k).1::(yE ls qs (Bb ls q k).2).1,(yE ls qs (Bb ls q k).2).2)
end
mutual
def okQ(ls:List ct):Query->Nat->Prop
 |.mk op ta w co on gr od li args,k=>if op=1 then k<ls.length else PS op (.mk op ta w co on gr od li args) (yE ls args k).1/\aLJ ls args k
def aLJ(ls:List ct):cz->Nat->Prop
 |[],_=>True
 |q::qs,k=>okQ ls q k/\aLJ ls qs (Bb ls q k).2
end
def Leaves(h:PH)(s:Sl)(ls:List ct):Prop:=bZ h 1 eS (λl t=>Rows h t l) s ls
def TO:Vc.Spec:=λc m h K=>∃s r,c=[cS s]/\cF h s r/\r.length<=1000/\∀d h',PH.le h h'->cF h' d r->K (cS d) m h'
def Vd(a:Addr)(n c:Nat)(m:MH)(h:PH)(K:cr):Prop:=
  ∃(y:List cn),jI 3 y (cC h (Sl.mk (Option.some a) n c) 3 y) (Ep 0 y 32) (iM (0+y.length)) (bU h 3 (EN y) (λs d=>K (Dj s) m d))
theorem b4Z(a:Addr)(n c:Nat)(m:MH)(h:PH)(K:cr):Vd a n c m h K=(tQ (dD [] [] [] [] false) Tryz.f78 (cA Tryz.f78) (entry Tryz.f78.ntmps [.val (.slice (some a) n c)] m h) K):=ax
def QJ(n c:Nat)(m:MH)(h:PH)(K:cr):Prop:=
  K jQ m h
theorem byZ(n c:Nat)(m:MH)(h:PH)(K:cr):QJ n c m h K=(tQ (dD [] [] [] [] false) Tryz.f78 (cA Tryz.f78) (entry Tryz.f78.ntmps [.val (.slice none n c)] m h) K):=ax
theorem QK:cm 78 TO:=by
 refine eD (fn:=Tryz.f78) (c:=cA Tryz.f78) func78 rfl az ?_;rintro z m h K ⟨⟨a,n,c⟩,r,rfl,f,G,g⟩;refine⟨dD [] [] [] [] false,rfl,aG,?_⟩;cases a with
 |none=>
  show tQ _ Tryz.f78 (cA Tryz.f78) (entry Tryz.f78.ntmps [.val (.slice none n c)] m h) K;rw[<-byZ n c m h K];dsimp only[QJ,push_cast];refine g ⟨none,0,0⟩ h (.refl _) ?_;cases r with
  |nil=>exact⟨⟨[],cC.nil _ _,rfl,λi x A=>by simp at A⟩,ay⟩
  |cons x r=>
   obtain⟨b,o,v,e,_⟩:=bZ.at f (i:=0) (x:=x) rfl;cases e
 |some a=>
  show tQ _ Tryz.f78 (cA Tryz.f78) (entry Tryz.f78.ntmps [.val (.slice (some a) n c)] m h) K;rw[<-b4Z a n c m h K];dsimp only[Vd,push_cast];obtain⟨⟨j,B,C,D⟩,E⟩:=f;refine⟨j.map VV.enc,?_,B,bg,bg,λs h' le F=>g s h' le ⟨⟨j,bg,C,D⟩,E⟩⟩;constructor
  .intro e d;obtain⟨x,_,rfl⟩:=mem_map.1 d;rfl
  .intro e d u y;obtain⟨x,_,rfl⟩:=mem_map.1 d;simp[VV.enc]at y;rcases y with rfl|rfl|rfl<;>rfl
mutual
def pX:Query->cq
 |.mk op ta _ _ _ _ _ _ args=>(if op=1 then[ta]else[])++lJ args
def lJ:cz->cq
 |[]=>[]
 |q::qs=>pX q++lJ qs
end
structure Gg(s:jB)(c:Nat)(ls:List ct)(k:Nat)(ts:cq):Prop where
 at_:∀(j:Nat)(t:Int),ts[j]? =some t->∃l,ls[k+j]? =some l/\iJ (jL s t).length l/\l.length<=c
theorem Gg.left{c k:Nat}{ls:List ct}{b:cq}(x:Gg s c ls k (a++b)):Gg s c ls k a:=
 ⟨λj t h=>x.at_ j t bg⟩
theorem Gg.right{c k:Nat}{ls:List ct}{b:cq}(x:Gg s c ls k (a++b)):Gg s c ls (k+a.length) b:=
 ⟨λj t h=>by
  have:=x.at_ (a.length+j) t bg
  grind⟩
theorem wH{op:Int}{w:Pred}{on:cu}{args:cz}{ks:cq}(h:aJ s ps (.mk op ta w co on gr od li args)=(ks,0)):
 ∃c,eO s ps args=(c,0)/\(c.length:Int)=arity op/\dV s ps (.mk op ta w co on gr od li args) (c.getD 0 []) (c.getD 1 [])=(ks,0):=by
 rw[aJ]at h;generalize eO s ps args=r at h;obtain⟨c,e⟩:=r;dsimp only at h;split at h
 .rename_i d;subst d;split at h
  .grind
  .simp[dP]at h
 .rename_i d;simp only[dP,Prod.mk.injEq]at h;omega
theorem oL{q:Query}{e:cz}{d:List cq}(h:eO s ps (q::e)=(d,0)):∃k c,aJ s ps q=(k,0)/\eO s ps e=(c,0)/\d=k::c:=by
 rw[eO]at h
 grind
theorem vG{ks:cq}(h:lF l=(ks,0)):ks=l/\l.length<=12:=by
 unfold lF at h
 grind
theorem Pj{op:Int}(h:arity op=0):op=1:=by
 unfold arity at h
 grind
mutual
theorem V5{s:jB}{ps:cq}{c:Nat}(f:1<=c):∀{q:Query}{ks:cq},aJ s ps q=(ks,0)->1<=fE c q
 |.mk op ta w co on gr od li args,ks,h=>by
  obtain⟨j,d,g,o⟩:=wH h;have e:=Y7 f d;rw[fE];split
  .exact f
  .rename_i n;split
   .exact e.1
   .match args,d,e with
    |[],d,_=>rw[eO]at d;simp only[Prod.mk.injEq,and_true]at d;rw[<-d]at g;exact absurd (Pj g.symm) n
    |q::qs,d,e=>grind
theorem Y7{s:jB}{ps:cq}{c:Nat}(f:1<=c):∀{e:cz}{d:List cq},eO s ps e=(d,0)->1<=rU c e/\(e≠[]->1<=rK c e)
 |[],d,h=>by simp[rU]
 |q::e,d,h=>by
  obtain⟨k,g,j,n,x⟩:=oL h;have o:=V5 f j;have u:=Y7 f n;rw[rU,rK];exact⟨Nat.mul_pos o u.1,λ_=>by omega⟩
end
def Sy(c:Nat):cz->List cq->List ct->Prop
 |[],[],[]=>True
 |q::qs,k::ks,l::ls=>iJ k.length l/\l.length<=fE c q/\Sy c qs ks ls
 |_,_,_=>False
theorem S9{α:Type}:∀{l:List α},l.length=2->∃a b,l=[a,b]
 |[a,b],_=>⟨a,b,rfl⟩
theorem Sy.len{c:Nat}{d:cz}{ls:List ct}(h:Sy c d ks ls):d.length=ks.length/\ls.length=ks.length:=by
 induction d generalizing ks ls with
 |nil=>
  match ks,ls,h with
  |[],[],_=>omega
  |_::_,[],h=>exact h.elim
  |[],_::_,h=>exact h.elim
  |_::_,_::_,h=>exact h.elim
 |cons q d e=>
  match ks,ls,h with
  |[],[],h=>exact h.elim
  |_::_,[],h=>exact h.elim
  |[],_::_,h=>exact h.elim
  |k::ks,l::ls,h=>
   obtain⟨f,g⟩:=e h.2.2
   grind
theorem iJ.filter{w:Nat}{l:ct}(x:iJ w l)(p:cw->Bool):iJ w (l.filter p):=
 ⟨λr h=>x.row r (mem_filter.1 h).1,λr h=>x.wid r (mem_filter.1 h).1,x.srt.filter p,cj (length_filter_le _ _) x.len⟩
theorem UN(x:cw):∀l:ct,(K4 x l).length<=l.length+1
 |[]=>by simp[K4]
 |y::l=>by
  have:=UN x l;simp only[K4]
  grind
theorem ID:∀l:ct,(DO l).length<=l.length
 |[]=>by simp[DO]
 |x::l=>by
  have c:=ID l;have d:=UN x (DO l);show(K4 x (DO l)).length<=(x::l).length
  grind
theorem iJ.set{w:Nat}{l:ct}(c:∀r∈l,TL r)(d:∀r∈l,r.length=w)(e:l.length<=8000000):iJ w (DO l):=
 ⟨λr h=>c r (IC.1 h),λr h=>d r (IC.1 h),FB l,cj (ID l) e⟩
theorem Kj:∀{x y u v:cw},x.length=y.length->fQ (x++u) (y++v)=if fQ x y≠0 then fQ x y else fQ u v
 |[],[],u,v,_=>by simp[fQ]
 |a::x,b::y,u,v,h=>by
  simp only[ci,Nat.add_right_cancel_iff]at h;simp only[cons_append,fQ];by_cases e:nD a b=0
  .simp only[e,ne_eq,not_true_eq_false,if_false];exact Kj h
  .simp[e]
 |[],_::_,_,_,h=>by simp at h
 |_::_,[],_,_,h=>by simp at h
theorem CT{on:cu}{b:ct}{x z:cw}(h:z∈pT on b x):∃y∈b,z=x++y:=by
 unfold pT at h
 grind
theorem iJ.join{w w':Nat}{a b:ct}{on:cu}(d:iJ w a)(g:iJ w' b)(A:w+w'<=12)(j:a.length*b.length<=8000000):iJ (w+w') (a.flatMap (pT on b)):=by
 refine⟨λr h=>?_,λr h=>?_,?_,cj (AE λx _=>CU) j⟩
 .obtain⟨x,c,h⟩:=mem_flatMap.1 h;obtain⟨y,e,rfl⟩:=CT h;have B:=d.wid x c;have C:=g.wid y e;refine⟨bg,λv f=>?_⟩;rcases mem_append.1 f with f|f
  .exact(d.row x c).val v f
  .exact(g.row y e).val v f
 .obtain⟨x,c,h⟩:=mem_flatMap.1 h;obtain⟨y,e,rfl⟩:=CT h;rw[bt,d.wid x c,g.wid y e]
 .refine pairwise_flatMap.2 ⟨λx c=>?_,?_⟩
  .unfold pT;split
   .refine pairwise_map.2 ((g.srt.filter _).imp fun{y z} h=>?_);rw[Kj rfl,if_neg (by rw[mR.2 rfl];simp)];exact h
   .exact List.Pairwise.nil
  .refine d.srt.imp_of_mem fun{x y} c e h z n u o=>?_;obtain⟨D,_,rfl⟩:=CT n;obtain⟨E,_,rfl⟩:=CT o;rw[Kj (by rw[d.wid x c,d.wid y e]),if_pos aD];exact h
theorem Td{c:Int}(h:Cg a c=true):0<=c/\c<a.length:=by
 simp only[Cg,bz,ce]at h;exact h
theorem JY{α:Type}{T:List α->α->Prop}{l:List α}(h:Good T l){x:α}(d:x∈l):∃c,T c x:=by
 obtain⟨i,f,e⟩:=mem_iff_getElem.1 d;exact⟨_,h i x bg⟩
theorem IQ:∀(n:Nat)(l:cq),l.Nodup->(∀x∈l,0<=x/\x<n)->l.length<=n
 |0,[],_,_=>ay
 |0,x::l,_,h=>by have:=h x (mem_cons_self ..);omega
 |n+1,l,c,h=>by
  by_cases e:(n:Int)∈l
  .have f:=IQ n (l.erase n) (c.erase _) (λx d=>by
    grind)
   grind
  .have:=IQ n l c (λx d=>by
    grind)
   omega
theorem OC{α:Type}{T:List α->α->Prop}{l:List α}(f:α->Int)(d:∀c x,T c x->f x∉c.map f)(h:Good T l):(l.map f).Nodup:=by
 rw[nodup_iff_pairwise_ne,pairwise_map,pairwise_iff_getElem];intro i j o g n e;refine d _ _ (h j l[j] (bo g)) (mem_map.2 ⟨l[i],?_,e⟩);rw[mem_take_iff_getElem]
 grind
theorem OB(h:Good (E9 a) gr)(j:a.length<=12):jP a.length gr:=by
 have f:∀c∈gr,0<=c/\c<a.length:=λc g=>by obtain⟨_,d⟩:=JY h g;exact Td d.1
 have d:=OC id (λe x(h:E9 a e x)=>bk h.2) h;rw[map_id]at d;exact⟨f,by have:=IQ _ _ d f;omega⟩
theorem Qn{b:cq}{on:cu}(h:Good (lS a b) on)(B:a.length<=12)(C:b.length<=12):jP a.length (oK on)/\jP b.length (iX on):=by
 have n:∀c∈oK on,0<=c/\c<a.length:=λc f=>by
  obtain⟨p,g,rfl⟩:=mem_map.1 f;obtain⟨_,d⟩:=JY h g;exact Td d.1
 have d:∀c∈iX on,0<=c/\c<b.length:=λc f=>by
  obtain⟨p,g,rfl⟩:=mem_map.1 f;obtain⟨_,d⟩:=JY h g;exact Td d.2.1
 have o:(oK on).Nodup:=OC Prod.fst (λj x(h:lS a b j x) u=>by
  obtain⟨y,z,e⟩:=mem_map.1 u;exact(h.2.2.2 y z).1 e) h
 have A:=IQ _ _ o n;exact⟨⟨n,aD⟩,⟨d,by simp only[oK,iX,length_map]at A⊢;omega⟩⟩
theorem Ut{w:Nat}{r:cw}(c:TL r)(e:r.length=w)(f:jP w co)(d:co.length<=12):TL (pick r co)/\(pick r co).length=co.length:=
 ⟨⟨by simpa[pick]using d,IM c bg⟩,by simp[pick]⟩
theorem Ix{c:Nat}{q p:Query}:rK c [q,p]=fE c q+fE c p:=by simp[rK]
theorem SJ{c:Nat}{q:Query}:rK c [q]=fE c q:=by simp[rK]
theorem aIJ{c:Nat}{q p:Query}:rU c [q,p]=fE c q*fE c p:=by simp[rU]
theorem bsJ{c:Nat}{op:Int}{w:Pred}{on:cu}{args:cz}{ks:cq}{u:List cq}{L:List ct}(P:op≠1)
 (O:(u.length:Int)=arity op)(G:∀k∈u,k.length<=12)(f:dV s ps (.mk op ta w co on gr od li args) (u.getD 0 []) (u.getD 1 [])=(ks,0))(E:Sy c args u L)(n:fE c (.mk op ta w co on gr od li args)<=8000000):
 PS op (.mk op ta w co on gr od li args) L/\iJ ks.length (opF op (.mk op ta w co on gr od li args) L)/\(opF op (.mk op ta w co on gr od li args) L).length<=fE c (.mk op ta w co on gr od li args):=by
 rw[fE,if_neg P]at n⊢
 unfold dV at f;dsimp only at f;split at f
 .simp[dP]at f
 have one:arity op=1->∃q k l,args=[q]/\u=[k]/\L=[l]/\iJ k.length l/\l.length<=fE c q/\k.length<=12:=λe=>by
  obtain⟨Q,R⟩:=E.len;obtain⟨k,rfl⟩:=length_eq_one_iff.1 (show u.length=1 by omega);obtain⟨q,rfl⟩:=length_eq_one_iff.1 (show args.length=1 by omega);obtain⟨l,rfl⟩:=length_eq_one_iff.1 (show L.length=1 by omega);exact⟨q,k,l,rfl,rfl,rfl,E.1,E.2.1,G k ay⟩
 have two:arity op=2->∃q p k y l B,args=[q,p]/\u=[k,y]/\L=[l,B]/\iJ k.length l/\l.length<=fE c q/\iJ y.length B/\B.length<=fE c p/\k.length<=12/\y.length<=12:=λe=>by
  obtain⟨Q,R⟩:=E.len;obtain⟨k,y,rfl⟩:=S9 (show u.length=2 by omega);obtain⟨q,p,rfl⟩:=S9 (show args.length=2 by omega);obtain⟨l,B,rfl⟩:=S9 (show L.length=2 by omega);exact⟨q,p,k,y,l,B,rfl,rfl,rfl,E.1,E.2.1,E.2.2.1,E.2.2.2.1,G k ay,G y ay⟩
 have S:op=2\/op=3\/op=9\/op=4\/op=5\/op=6\/op=7\/op=8\/op=10:=by
  have:0<=arity op:=by omega
  unfold arity at this
  grind
 rcases S with rfl|rfl|rfl|rfl|rfl|rfl|rfl|rfl|rfl
 .obtain⟨q,k,l,rfl,rfl,rfl,j,F,C⟩:=one rfl;simp only[show((2:Int)=4)=False by decide,if_false,if_true]at f n⊢
  split at f
  .obtain⟨rfl,_⟩:=vG f;refine⟨⟨ay,λx z=>bg⟩,j.filter _,cj (length_filter_le _ _) ?_⟩;rw[SJ];exact F
  .rename_i e;simp only[dP,Prod.mk.injEq]at f;omega
 .obtain⟨q,k,l,rfl,rfl,rfl,j,F,C⟩:=one rfl;simp only[show((3:Int)=4)=False by decide,show((3:Int)=2)=False by decide,if_false,if_true]at f n⊢
  split at f
  .rename_i g;obtain⟨rfl,d⟩:=vG f;rw[length_map]at d⊢
   have A:jP k.length co:=⟨λc A=>by obtain⟨_,O⟩:=JY g.2 A;exact Td O,aD⟩
   rw[SJ]at n⊢
   refine⟨⟨ay,d,_,j,A⟩,iJ.set (λr h=>?_) (λr h=>?_) bg,cj (ID _) bg⟩
   .obtain⟨x,z,rfl⟩:=mem_map.1 h;exact(Ut (j.row x z) (j.wid x z) A d).1
   .obtain⟨x,z,rfl⟩:=mem_map.1 h;exact(Ut (j.row x z) (j.wid x z) A d).2
  .simp[dP]at f
 .obtain⟨q,k,l,rfl,rfl,rfl,j,F,C⟩:=one rfl;simp only[show((9:Int)=4)=False by decide,show((9:Int)=2)=False by decide,show((9:Int)=3)=False by decide,show((9:Int)=5)=False by decide,if_false,if_true]at f n⊢
  split at f
  .rename_i g;obtain⟨rfl,d⟩:=vG f;rw[SJ]at n⊢
   exact⟨⟨ay,⟨_,j,OB g.group_ C⟩,g.low⟩,j.filter _,cj (length_filter_le _ _) F⟩
  .simp[dP]at f
 .obtain⟨q,p,k,y,l,B,rfl,rfl,rfl,j,F,o,H,C,D⟩:=two rfl;simp only[show((4:Int)=2)=False by decide,show((4:Int)=3)=False by decide,if_false,if_true]at f n⊢
  split at f
  .rename_i g;obtain⟨rfl,d⟩:=vG f;rw[aIJ]at n⊢
   have A:=Qn g C D;have J:l.length*B.length<=fE c q*fE c p:=Nat.mul_le_mul F H;rw[bt]at d⊢
   exact⟨⟨⟨ay,_,_,j,o,A.1,A.2⟩,cj J n⟩,j.join o d (cj J n),cj (AE λx _=>CU) J⟩
  .simp[dP]at f
 .obtain⟨q,p,k,y,l,B,rfl,rfl,rfl,j,F,o,H,C,D⟩:=two rfl;simp only[show((5:Int)=2)=False by decide,show((5:Int)=3)=False by decide,show((5:Int)=4)=False by decide,if_false,if_true]at f n⊢
  split at f
  .rename_i g;obtain⟨rfl,d⟩:=vG f;rw[Ix]at n⊢
   have A:=Qn g C D;exact⟨⟨ay,_,_,j,o,A.1,A.2⟩,j.filter _,cj (length_filter_le _ _) bg⟩
  .simp[dP]at f
 all_goals
  obtain⟨q,p,k,y,l,B,rfl,rfl,rfl,j,F,o,H,C,D⟩:=two rfl
 .simp only[show((6:Int)=2)=False by decide,show((6:Int)=3)=False by decide,show((6:Int)=4)=False by decide,show((6:Int)=5)=False by decide,show((6:Int)=9)=False by decide,show((6:Int)=10)=False by decide,if_false,if_true]at f n⊢
  split at f
  .rename_i g;have g:k=y:=g;subst g;obtain⟨rfl,d⟩:=vG f;rw[Ix]at n⊢
   have I:(l++B).length<=fE c q+fE c p:=bg
   refine⟨⟨ay,λx z=>bg⟩,iJ.set (λr h=>?_) (λr h=>?_) (cj I n),cj (ID _) I⟩
   .rcases mem_append.1 h with h|h
    .exact j.row r h
    .exact o.row r h
   .rcases mem_append.1 h with h|h
    .exact j.wid r h
    .exact o.wid r h
  .simp[dP]at f
 .simp only[show((7:Int)=2)=False by decide,show((7:Int)=3)=False by decide,show((7:Int)=4)=False by decide,show((7:Int)=5)=False by decide,show((7:Int)=9)=False by decide,show((7:Int)=10)=False by decide,if_false,if_true]at f n⊢
  split at f
  .rename_i g;have g:k=y:=g;subst g;obtain⟨rfl,d⟩:=vG f;rw[Ix]at n⊢
   exact⟨⟨ay,_,λx z=>by simp at z;rcases z with rfl|rfl;exact j;exact o⟩,j.filter _,cj (length_filter_le _ _) bg⟩
  .simp[dP]at f
 .simp only[show((8:Int)=2)=False by decide,show((8:Int)=3)=False by decide,show((8:Int)=4)=False by decide,show((8:Int)=5)=False by decide,show((8:Int)=9)=False by decide,show((8:Int)=10)=False by decide,if_false,if_true]at f n⊢
  split at f
  .rename_i g;have g:k=y:=g;subst g;obtain⟨rfl,d⟩:=vG f;rw[Ix]at n⊢
   exact⟨⟨ay,_,λx z=>by simp at z;rcases z with rfl|rfl;exact j;exact o⟩,j.filter _,cj (length_filter_le _ _) bg⟩
  .simp[dP]at f
 .simp only[show((10:Int)=2)=False by decide,show((10:Int)=3)=False by decide,show((10:Int)=4)=False by decide,show((10:Int)=5)=False by decide,show((10:Int)=9)=False by decide,if_false,if_true]at f n⊢
  split at f
  .rename_i g;obtain⟨g,M⟩:=g;have g:k=y:=g;subst g;obtain⟨rfl,d⟩:=vG f;rw[Ix]at n⊢
   exact⟨⟨ay,_,j,o,OB M.group_ C⟩,j.filter _,cj (length_filter_le _ _) bg⟩
  .simp[dP]at f
theorem Kl{s:jB}{ps:cq}{c:Nat}(g:1<=c):∀{d:cz}{e:List cq},eO s ps d=(e,0)->∀q∈d,fE c q<=rK c d/\fE c q<=rU c d
 |[],_,_,q,f=>by simp at f
 |p::d,e,h,q,f=>by
  obtain⟨k,j,o,n,y⟩:=oL h;have u:=V5 g o;have x:=(Y7 g n).1;rw[rK,rU];rcases mem_cons.1 f with rfl|f
  .exact⟨aD,Nat.le_mul_of_pos_right _ x⟩
  .have:=Kl g n q f;exact⟨aD,cj this.2 (Nat.le_mul_of_pos_left _ u)⟩
theorem Ow{s:jB}{ps:cq}:∀{e:cz}{c:List cq},eO s ps e=(c,0)->∀k∈c,k.length<=12
 |[],c,h,k,d=>by rw[eO]at h;grind
 |q::e,c,h,k,d=>by
  obtain⟨j,f,n,g,rfl⟩:=oL h;rcases mem_cons.1 d with rfl|d
  .have:=kH s ps q;grind
  .exact Ow g k d
structure ckQ(c:Nat)(ls:List ct)(q:Query)(k:Nat)(ks:cq):Prop where
 ok:okQ ls q k
 rel:iJ ks.length (Bb ls q k).1
 bnd:(Bb ls q k).1.length<=fE c q
 nxt:(Bb ls q k).2=k+(pX q).length
mutual
theorem VO{s:jB}{ps:cq}{c:Nat}{ls:List ct}(o:1<=c):∀{q:Query}{ks:cq}{k:Nat},aJ s ps q=(ks,0)->Gg s c ls k (pX q)->fE c q<=8000000->ckQ c ls q k ks
 |.mk op ta w co on gr od li args,ks,k,h,f,u=>by
  obtain⟨A,g,x,d⟩:=wH h;by_cases e:op=1
  .subst e
   have B:args=[]:=by
    cases args with
    |nil=>rfl
    |cons q F=>obtain⟨_,_,_,_,rfl⟩:=oL g;simp[arity]at x;omega
   subst B;have j:pX (.mk 1 ta w co on gr od li [])=[ta]:=by simp[pX,lJ]
   unfold dV at d;dsimp only at d;split at d
   .simp[dP]at d
   try rw[if_pos rfl]at d
   split at d
   .obtain⟨rfl,_⟩:=vG d;rw[j]at f;obtain⟨l,y,G,C⟩:=f.at_ 0 ta rfl;rw[Nat.add_zero]at y;have z:(Bb ls (.mk 1 ta w co on gr od li []) k)=(l,k+1):=by rw[Bb,if_pos rfl,getD_eq_getElem?_getD,y];rfl
    refine⟨by rw[okQ,if_pos rfl];grind,bg,by rw[z,fE,if_pos rfl];exact C,bg⟩
   .simp[dP]at d
  .have j:pX (.mk op ta w co on gr od li args)=lJ args:=by simp[pX,e]
   rw[j]at f
   have n:∀q∈args,fE c q<=8000000:=λq D=>by
    have H:=Kl o g q D;rw[fE,if_neg e]at u
    grind
   obtain⟨I,E,J⟩:=R6 o g f n;obtain⟨L,M,O⟩:=bsJ e x (Ow g) d E u;have z:Bb ls (.mk op ta w co on gr od li args) k=(opF op (.mk op ta w co on gr od li args) (yE ls args k).1,(yE ls args k).2):=by rw[Bb,if_neg e]
   exact⟨by rw[okQ,if_neg e];grind,bg,bg,bg⟩
theorem R6{s:jB}{ps:cq}{c:Nat}{ls:List ct}(n:1<=c):∀{d:cz}{e:List cq}{k:Nat},eO s ps d=(e,0)->Gg s c ls k (lJ d)->(∀q∈d,fE c q<=8000000)->aLJ ls d k/\Sy c d e (yE ls d k).1/\(yE ls d k).2=k+(lJ d).length
 |[],e,k,h,_,_=>by
  rw[eO]at h;simp only[Prod.mk.injEq,and_true]at h;subst h;simp[aLJ,yE,Sy,lJ]
 |q::d,e,k,h,j,o=>by
  obtain⟨A,u,x,y,rfl⟩:=oL h;rw[lJ]at j;have f:=VO n x j.left (o q (mem_cons_self ..));have g:=R6 n y j.right (λp z=>o p (mem_cons_of_mem _ z));rw[<-f.nxt]at g;rw[aLJ,yE,lJ];refine⟨⟨f.ok,g.1⟩,⟨f.rel,f.bnd,g.2.1⟩,?_⟩;rw[g.2.2,f.nxt,bt];omega
end
structure A5(m:MH)(tb:Nat)(ws:List cL):Prop where
 ex:∃cur:Array Value,m tb=some (.cells cur 87 (0,0))/\cur.toList.take (ws.length*5)=(ws.map cL.enc).flatten
def adJ:Vc.Spec:=λd m h K=>∃e g n f j w c,∃t:Nat,d=[aS ⟨e,⟨some ⟨g,0,none⟩,n,f⟩⟩,cI t]/\t<n/\A5 m g j/\j[t]? =some w/\Fp h w.columns c/\c.length<=8/\
 ∀o h',PH.le h h'->Ints h' o (c.map qJ.kind)->K (cS o) m h'
noncomputable def bCQ(cb:Nat):Ctx:=
 tR [(12,Hu),(13,PJ),(92,afX),(46,adJ),(44,E5)] [] [(5,{A:=Int×Int×MH×PH,st:=λ⟨n,id,m,h⟩=>bQ 86 87 [(0,pv cb),(2,.at (.ptr 2 0)),(3,iv n),(4,iv id)] [(2,.cells 43 [.val (.int .i64 0),.val (.slice none 0 0)])] m h}),
  (9,{A:=Int×bW×MH×PH,st:=λ⟨n,s,m,h⟩=>bQ 86 87 [(0,pv cb),(2,.at (.ptr 2 0)),(3,iv n),(5,.at (.ptr 5 0))] [(2,.cells 43 [.val (.int .i64 0),.val (.slice none 0 0)]),(5,.cells 43 (s.enc.map .val))] m h}),
  (11,{A:=Int×bW×MH×PH,st:=λ⟨n,s,m,h⟩=>bQ 86 87 [(0,pv cb),(2,.at (.ptr 2 0)),(3,iv n),(5,.at (.ptr 5 0))] [(2,.cells 43 [.val (.int .i64 0),.val (.slice none 0 0)]),(5,.cells 43 (s.enc.map .val))] m h}),
  (13,{A:=bW×MH×PH,st:=λ⟨s,m,h⟩=>bQ 86 87 [(0,pv cb),(2,.at (.ptr 2 0)),(5,.at (.ptr 5 0))] [(2,.cells 43 [.val (.int .i64 0),.val (.slice none 0 0)]),(5,.cells 43 (s.enc.map .val))] m h}),
  (15,{A:=bW×MH×PH,st:=λ⟨s,m,h⟩=>bQ 86 87 [(2,.at (.ptr 2 0)),(5,.at (.ptr 5 0))] [(2,.cells 43 [.val (.int .i64 0),.val (.slice none 0 0)]),(5,.cells 43 (s.enc.map .val))] m h})] [] [41] [] false
def wM(id:Int):List C1:=
 [⟨⟨⟨[112,114,111,106,101,99,116,115]⟩⟩,[⟨⟨⟨[105,100]⟩⟩,4⟩,⟨⟨⟨[111,119,110,101,114]⟩⟩,4⟩],1,[],[]⟩,
  ⟨⟨⟨[116,97,115,107,115]⟩⟩,[⟨⟨⟨[105,100]⟩⟩,id⟩,⟨⟨⟨[112,114,111,106,101,99,116]⟩⟩,4⟩,⟨⟨⟨[116,105,116,108,101]⟩⟩,5⟩,⟨⟨⟨[100,111,110,101]⟩⟩,3⟩],1,[],[]⟩,
  ⟨⟨⟨[109,101,109,98,101,114,115]⟩⟩,[⟨⟨⟨[112,114,111,106,101,99,116]⟩⟩,4⟩,⟨⟨⟨[112,101,114,115,111,110]⟩⟩,4⟩],2,[],[]⟩,
  ⟨⟨⟨[97,114,99,104,105,118,101,100]⟩⟩,[⟨⟨⟨[116,97,115,107]⟩⟩,id⟩],1,[],[]⟩]
structure Ny(h:PH)(t:C1)(w:cL):Prop where
 name_:w.name=t.name
 key_:w.key=t.key
 cols_:Fp h w.columns t.columns
def Y9(h:PH)(id:Int)(ws:List cL):Prop:=ws.length=4/\∀(i:Nat) t,(wM id)[i]? =some t->∃w,ws[i]? =some w/\Ny h t w
structure C2(m0:MH)(h0:PH)(cb:Nat)(tb n:Nat)(id:Int)(ws:List cL)(s:bW)(m:MH)(h:PH):Prop where
 le_:PH.le h0 h
 ver0:0<=s.version
 ver1:s.version<=2
 case_:aR m h cb
 n2:2<=n
 n4:n<=4
 sl_:∃cap,s.tables=⟨some ⟨tb,0,none⟩,n,cap⟩/\n<=cap
 id_:id=4\/id=5
 new_:m0 tb=none
 ne_:tb≠cb
 row_:A5 m tb ws
 ws_:Y9 h id ws
 other_:∀b,b≠cb->b≠tb->m b=m0 b
def abQ:Vc.Spec:=λc m h K=>∃cb,c=[cP cb]/\aR m h cb/\∀d n id e s m' h',C2 m h cb d n id e s m' h'->K (aS s) m' h'
noncomputable def b3X:Ctx:=
 tR [(39,abQ)] [(3,{A:=Nat×bW×MH×PH,st:=λ⟨i,s,m,h⟩=>bQ 25 26 [(2,.at (.ptr 2 0)),(3,.at (.ptr 3 0)),(9,iv s.tables.len),(10,iv i)] [(2,.cells 43 [.val (.int .i64 0),.val (.slice none 0 0)]),(3,.cells 43 (s.enc.map .val))] m h})] [] [] [41] [] false
def La(v:bW)(t:Int)(m:MH)(h:PH)(K:cr):Prop:=
  aX t 0 (K jQ m h) (gA t (lW v) (K jQ m h) (Nb v t m h (λb=>b) (λo=>o) 1 (λy=>y) (λy I x=>aA (I x) (eL 32) (aA (bS y (nR x)) (cK y (nR x)) (aA (bB x.1) (sL (xA x)) (aA (m=m) (h=h) True)))) (λI d x=>Na (I x) x 0 (λb o y=>aU m h b (bN o x.1 2) (qD y.name y.kind)) 8 (λy c=>aA (I c) (d c<d x) (aA (eL 32) (bS (nR x) (nR c)) (aA (cK (nR x) (nR c)) (bD (gG (bF x.1 1)) c.1) (aA (sM (xA x) y.kind (xA c)) (m=m) (bL h h))))) (vP h (xA x) K m))))
theorem bAJ(v:bW)(t:Int)(m:MH)(h:PH)(K:cr):La v t m h K=(tQ (Tq m h) Tryz.f46 (cA Tryz.f46) (entry Tryz.f46.ntmps [aS v,cI t] m h) K):=by kernel_rfl
noncomputable abbrev C8:dj:=lL fD Fq
abbrev xU:Prop:=eQ (oQ 43 C8)
abbrev Bo(a:ByteArray)(b:Int)(c:ByteArray)(d:Int)(e:ByteArray->Int->Prop):Prop:=bC (kE a) b=bC (kE c) d/\∃(x:ByteArray)(f:Int),e x f
noncomputable abbrev JE:ByteArray:=ByteArray.mk (Array.mk (fF 105 (fF 100 [])))
noncomputable abbrev Jj:ByteArray:=ByteArray.mk (Array.mk (fF 112 (fF 114 (fF 111 (fF 106 (fF 101 (fF 99 (wE 116))))))))
noncomputable abbrev Nh(a:Nat)(b:di):ByteArray:=ByteArray.mk (Array.mk (fF 116 (fF a (fF 115 (fF 107 b)))))
noncomputable abbrev kT(a:bW×MH×PH):Nat->Nat->Option Value:=a.2.2
abbrev Gz(a:Int×bW×MH×PH->Prop)(b:Nat)(c:Int)(d:(Int×bW×MH×PH)->Prop)(e:Nat->Option Obj)(g:Nat->Nat->Option Value):Prop:=∃(x:Int×bW×MH×PH),aA (a x) (cR b) (aA eK (dR c x.1) (aA dN xU (aA (d x) (bH e x.2.2) (bL g (kT x.2)))))
noncomputable abbrev xD(a:Int×bW×MH×PH):bW:=a.2.1
abbrev uE(a b:bW):Prop:=oQ 43 (KT a)=oQ 43 (KT b)
attribute [push_cast] C8 xU Bo JE Jj Nh kT Gz xD uE
def Vn(cb:Nat)(m:MH)(h:PH)(K:cr):Prop:=
  iR cb 3 m h (λk R=>∃(I:Int×Int×MH×PH->Prop),oD cb 5 R h (λc=>c) (λc r=>∀(G:MH),bE R G c->aR G h c->branch r (∃(x:Int×Int×MH×PH),aA (I x) (cR cb) (aA eK (dR (fI (2+k)) x.1) (aA (dR 5 x.2.1) xU (aA (bH G x.2.2) (h=x.2.2.2) True)))) (∃(x:Int×Int×MH×PH),aA (I x) (cR cb) (aA eK (dR (fI (2+k)) x.1) (aA (dR 4 x.2.1) xU (aA (bH G x.2.2) (h=x.2.2.2) True)))))/\∀(x:Int×Int×MH×PH),I x->iR cb 3 x.2.2.1 x.2.2.2 (λS G=>∃(n:ByteArray)(T:Int),Bo JE 4 n T (λU V=>Bo (ByteArray.mk (Array.mk (fF 111 (fF 119 (fF 110 (fF 101 (wE 114))))))) 4 U V (λW X=>Bo JE x.2.1 W X (λY Z=>Bo Jj 4 Y Z (λn4 k6=>Bo (ByteArray.mk (Array.mk (fF 116
 (fF 105 (fF 116 (fF 108 (wE 101))))))) 5 n4 k6 (λn5 k7=>Bo (ByteArray.mk (Array.mk (fF 100 (fF 111 (fF 110 (fF 101 [])))))) 3 n5 k7 (λn6 k8=>Bo Jj 4 n6 k8 (λn7 k9=>Bo (ByteArray.mk (Array.mk (fF 112 (fF 101 (fF 114 (fF 115 (fF 111 (fF 110 [])))))))) 4 n7 k9 (λn8 a=>bC (kE (Nh 97 [])) x.2.1=bC (kE n8) a/\bU x.2.2.2 2 (jV (qD n T) (qD U V)) (λs h1=>bU h1 2 (qD W X::qD Y Z::jV (qD n4 k6) (qD n5 k7)) (λs1 h2=>bU h2 2 (jV (qD n6 k8) (qD n7 k9)) (λs2 h3=>bU h3 2 (kJ (qD n8 a)) (λs3 H=>lE (λF L=>qI G L H F 87 5 (aL (Value.string (ByteArray.mk (Array.mk (fF 112 (fF 114 (fF 111 (fF 106 (fF 101 (fF 99 (fF 116 (fF 115 []))))))))))) (hJ s) (aL (eN 1)
 lI iV)::aL (Value.string (Nh 97 (wE 115))) (hJ s1) (aL (eN 1) lI iV)::jV (aL (Value.string (ByteArray.mk (Array.mk (fF 109 (fF 101 (fF 109 (fF 98 (fF 101 (fF 114 (wE 115)))))))))) (hJ s2) (aL (eN 2) lI iV)) (aL (Value.string (ByteArray.mk (Array.mk (fF 97 (fF 114 (fF 99 (fF 104 (fF 105 (fF 118 (fF 101 (fF 100 []))))))))))) (hJ s3) (aL (eN 1) lI iV)))->aA (bV x.1) (x.1<=(↑F.cap:Int)) (∃(I1:Int×bW×MH×PH->Prop),oD cb 2 L H (λc=>c) (λc r=>∀(f:MH),bE L f c->aR f H c->branch r (bU H 1 (kJ (bG 1)) (λB A=>bI (λb o=>aA (bK F.a b o) ((0:Int)<=1) (1<(↑x.1.toNat:Int)/\bU A 2 (kJ (rL (hJ B) cW)) (λC D=>j9 (λy E=>aA (E8 f b (kI y E 0)) (o+5+3<y.size)
 (∀(z:MH),dQ f z b (xC y (o+5+3) (aY C)) E->Gz I1 cb x.1 (λg=>oQ 43 (lL (fV S) (At.val (Value.slice F.a x.1.toNat F.cap)))=oQ 43 (KT (xD g))) z D))))))) (Gz I1 cb x.1 (λg=>oQ 43 (lL (fV S) (At.val (Value.slice F.a x.1.toNat F.cap)))=oQ 43 (KT (xD g))) f H))/\∀(g:Int×bW×MH×PH),I1 g->∃(I2:Int×bW×MH×PH->Prop),eZ g.1 2 (oD cb 3 g.2.2.1 (kT g.2) (λc=>c) (λc r=>∀(f:MH),bE g.2.2.1 f c->aR f (kT g.2) c->branch r (bU (kT g.2) 1 (kJ (lD cW)) (λB A=>Gt (xD g) 2 (λb o=>bU A 2 (kJ (rL (hJ B) cW)) (λC D=>j9 (λy E=>aA (E8 f b (kI y E 0)) (o+10+3<y.size) (∀(z:MH),dQ f z b (xC y (o+10+3) (aY C)) E->Gz I2 cb g.1 (λj=>
 uE (xD g) (xD j)) z D)))))) (Gz I2 cb g.1 (λj=>uE (xD g) (xD j)) f (kT g.2)))) (Gz I2 cb g.1 (λj=>uE (xD g) (xD j)) g.2.2.1 (kT g.2))/\∀(j:Int×bW×MH×PH),I2 j->∃(I3:bW×MH×PH->Prop),eZ j.1 3 (oD cb 3 j.2.2.1 (kT j.2) (λc=>c) (λc r=>∀(f:MH),bE j.2.2.1 f c->aR f (kT j.2) c->branch r (bU (kT j.2) 1 (kJ (lD cW)) (λB A=>Gt (xD j) 3 (λb o=>bU A 2 (kJ (rL (hJ B) (eN 1))) (λC D=>j9 (λy E=>aA (E8 f b (kI y E 0)) (o+15+3<y.size) (∀(z:MH),dQ f z b (xC y (o+15+3) (aY C)) E->∃(e:bW×MH×PH),aA (I3 e) (cR cb) (aA eK dN (aA xU (uE (xD j) e.1) (aA (bH z e.2) (D=kT e)
 True))))))))) (∃(e:bW×MH×PH),aA (I3 e) (cR cb) (aA eK dN (aA xU (uE (xD j) e.1) (aA (bH f e.2) (kT j.2=kT e) True)))))) (∃(e:bW×MH×PH),aA (I3 e) (cR cb) (aA eK dN (aA xU (uE (xD j) e.1) (aA (bH j.2.2.1 e.2) (kT j.2=kT e) True))))/\∀(e:bW×MH×PH),I3 e->∃(I4:bW×MH×PH->Prop),oD cb 3 e.2.1 (kT e) (λc=>c) (λc r=>∀(f:MH),bE e.2.1 f c->aR f (kT e) c->branch r (∃(v:Int),bI (λt n9=>∃(y:Nat)(w:List cL)(w1:cL)(M:List qJ)(O:Nat),aA (bC (fM (cD e.1)) 1=bC (fM (rL (eN v) (Value.slice (Option.some (Addr.mk t 0 Option.none)) n9 y))) (↑O:Int)) (O<n9) (aA (A5 f t w) (w[O]? =Option.some w1) (aA (Fp (kT e) w1.columns M)
 (M.length<=8) (jJ (λB A=>cZ (kT e) A (Ints A B (List.map qJ.kind M)) (BB (λJ C t2 P p d=>aA (dA cb (dJ B (bC jQ 1))=dA J (dJ C (hX t2 (↑d:Int)))) (aR f A J) (aA (Ints A C P) (Ints A t2 p) (aA (fO P) (fO p) (lY d/\BA A (λv1 p1 z D=>A7 P p d p1->bE f z J->mK z D J (Gt e.1 1 (λb o=>bU D 13 (kJ v1.enc) (λs7 h7=>j9 (λQ E=>aA (E8 z b (kI Q E 0)) (o+5+4<Q.size) (∀(m6:MH),dQ z m6 b (xC Q (o+5+4) (aY s7)) E->∃(u:bW×MH×PH),aA (I4 u) eK (aA dN xU (bO (uE e.1 u.1) (bH m6 u.2) (h7=kT u)))))))))))))))))))) (∃(u:bW×MH×PH),aA (I4 u) eK (aA dN xU (bO (uE e.1 u.1) (bH f u.2) (kT e=kT u)))))
 /\∀(u:bW×MH×PH),I4 u->K (fM (cD u.1)) u.2.1 (kT u)))))))))))))))))
def Tn(cb:Nat)(m:MH)(h:PH)(K:cr):Prop:=
  Jp cb m h (λc=>∀(t n:Nat)(i:Int)(w:List cL)(s:bW),iB (λy z=>C2 m h c t n i w s y z->∃(I:Nat×bW×MH×PH->Prop)(A:Nat×bW×MH×PH->Nat),(∃(x:Nat×bW×MH×PH),aA (I x) eK (aA cG (cK s.tables x.2.1.tables) (aA (bB x.1) xU (aA (uE s x.2.1) (bH y x.2.2) (bL z (kT x.2))))))/\∀(x:Nat×bW×MH×PH),I x->aX (↑x.1:Int) (aH x.2.1.tables) (bI (λb o=>aA (bK (xJ x.2.1) b o) (0<=(↑x.1:Int)) ((↑x.1:Int)<aH x.2.1.tables/\j9 (λe E=>aA (E8 x.2.2.1 b (kI e E 0)) (bN o x.1 5+3<e.size) (∀(f:MH),dQ x.2.2.1 f b (xC e (bN o x.1 5+3) iV) E->bI (λg j=>aA (bK (xJ x.2.1) g j) (0<=(↑x.1:Int)) ((↑x.1:Int)<aH x.2.1.tables/\j9 (λu E1=>aA (E8 f g (kI
 u E1 0)) (bN j x.1 5+4<u.size) (∀(B:MH),dQ f B g (xC u (bN j x.1 5+4) iV) E1->∃(d:Nat×bW×MH×PH),aA (I d) (A d<A x) (aA eK cG (aA (cK x.2.1.tables d.2.1.tables) (bD (gG (bF x.1 1)) d.1) (aA xU (uE x.2.1 d.2.1) (bP (bH B d.2.2) (kT x.2) (kT d.2)))))))))))))) (K (fM (cD x.2.1)) x.2.2.1 (kT x.2))))
theorem NI{α:Type}(l:List α)(o:Nat)(x:α)(h:o<l.length):splice l o [x]=l.set o x:=by
 rw[set_eq_take_append_cons_drop,if_pos h];simp[splice]
theorem flatten_set:∀(ws:List cL){i k:Nat}{w w':cL}{x:Value},ws[i]? =some w->k<5->w'.enc=w.enc.set k x->((ws.map cL.enc).flatten).set (i*5+k) x=((ws.set i w').map cL.enc).flatten
 |[],i,k,w,w',x,h,_,_=>by simp at h
 |u::ws,0,k,w,w',x,h,c,e=>by
  simp at h;subst h;simp only[map_cons,flatten_cons,set_cons_zero,Nat.zero_mul,Nat.zero_add,e];rw[set_append_left _ _ (by simpa[cL.enc]using c)]
 |u::ws,i+1,k,w,w',x,h,c,e=>by
  simp only[map_cons,flatten_cons,set_cons_succ];have d:u.enc.length=5:=rfl;rw[set_append_right _ _ aD,d,show(i+1)*5+k-5=i*5+k by omega,flatten_set ws (bk h) c e]
theorem aRZ(ws:List cL):((ws.map cL.enc).flatten).length=ws.length*5:=by
 induction ws with
 |nil=>rfl
 |cons w ws c=>simp only[map_cons,flatten_cons,bt,c,ci];show 5+_=_;omega
theorem A5.big{d:Nat}{ws:List cL}{cs:Array Value}{E:TypeId}{e:Nat×Nat}(h:A5 m d ws)(c:m d=some (.cells cs E e)):ws.length*5<=cs.size:=by
 obtain⟨f,g,j⟩:=h.ex;rw[g]at c;simp only[bx,Obj.cells.injEq]at c;obtain⟨rfl,_,_⟩:=c;have:=congrArg List.length j;rw[aRZ]at this
 grind
theorem A5.store{c:Nat}{ws:List cL}{k:Nat}{w w':cL}{x:Value}(h:A5 m c ws)(f:ws[i]? =some w)(g:k<5)(e:w'.enc=w.enc.set k x){cs:Array Value}{E:TypeId}{j:Nat×Nat}(d:m c=some (.cells cs E j))
 (n:m' c=some (.cells (splice cs.toList (i*5+k) [x]).toArray E (0,0))):A5 m' c (ws.set i w'):=by
 have A:=h.big d;have o:=(bm f);obtain⟨u,y,z⟩:=h.ex;rw[y]at d;simp only[bx,Obj.cells.injEq]at d;obtain⟨rfl,rfl,_⟩:=d;refine⟨_,n,?_⟩;rw[NI _ _ _ bf,length_set,toList_toArray,take_set,z];exact flatten_set ws f g e
theorem A5.rd{d:Nat}{ws:List cL}(r:A5 m d ws){j:Nat}{w:cL}{x:Value}(f:ws[i]? =some w)(g:w.enc[j]? =some x):aU m h d (i*5+j) [x]:=by
 obtain⟨n,o,u⟩:=r.ex;refine .of_m o ?_;have c:=mO (xs:=ws.map cL.enc) (sz:=5) (λe y=>by obtain⟨x,_,rfl⟩:=mem_map.1 y;rfl) (by rw[getElem?_map,f];rfl) j x g;rw[<-u,getElem?_take]at c;split at c
 .rw[drop_cons c];rfl
 .cases c
theorem bBQ{g:Int}{j n u:Nat}{ws:List cL}{w:cL}{cols:List qJ}{t:Nat}(H:t<n)(B:A5 m j ws)(C:ws[t]? =some w)(z:Fp h w.columns cols)(I:cols.length<=8)
 (D:∀sl h',PH.le h h'->Ints h' sl (cols.map qJ.kind)->K (cS sl) m h'):La ⟨g,⟨some ⟨j,0,none⟩,n,u⟩⟩ t m h K:=by
 dsimp only[La,push_cast];have x:=bZ.slen z;refine aF (λE=>by omega) (λE=>aF (λF=>bg) (λF=>?_));refine⟨j,0,rfl,aD,aD,w.columns,?_,λ⟨i,sl,l⟩=>sl=w.columns/\i<=cols.length/\l=(cols.take i).map qJ.kind,λ⟨i,_,_⟩=>cols.length-i,⟨(0,w.columns,[]),⟨rfl,ay,ay⟩,MT⟩,?_⟩
 .rw[Nat.zero_add,Int.toNat_natCast];exact B.rd C rfl
 rintro⟨i,_,_⟩ ⟨rfl,J,rfl⟩;dsimp only;refine aF (λf=>?_) (λG sl h' y d=>?_)
 .obtain⟨c,A⟩:=eU x f;obtain⟨b,o,e,r⟩:=Fp.at z A;refine⟨b,o,e,aD,f,c,.imm r,?_,?_,(i+1,w.columns,(cols.take (i+1)).map qJ.kind),⟨rfl,aD,rfl⟩,aD,?_⟩
  .simp;omega
  .simp;omega
  .rw[iO A,bw];exact MT
 .rw[bu aD]at d;exact D sl h' y ⟨d,bf⟩
theorem Xa:cm 46 adJ:=by
 refine eD (fn:=Tryz.f46) (c:=cA Tryz.f46) func46 rfl az ?_;rintro e m h K ⟨f,A,n,g,B,w,d,t,rfl,j,o,u,x,y,z⟩;refine⟨Tq m h,rfl,aG,?_⟩;rw[<-bAJ];exact bBQ j o u x y z
theorem Ny.mono{t:C1}{w:cL}(x:Ny h t w)(le:PH.le h h'):Ny h' t w:=⟨x.name_,x.key_,bZ.mono x.cols_ le λ_ _ e=>e⟩
theorem Y9.mono{id:Int}{ws:List cL}(x:Y9 h id ws)(le:PH.le h h'):Y9 h' id ws:=⟨x.1,λi t e=>let⟨w,e1,e2⟩:=x.2 i t e;⟨w,e1,e2.mono le⟩⟩
theorem Y9.set{id:Int}{ws:List cL}{w w':cL}(x:Y9 h id ws)(f:ws[i]? =some w)(g:w'.name=w.name)(n:w'.key=w.key)(o:w'.columns=w.columns):Y9 h id (ws.set i w'):=by
 refine⟨by rw[length_set];exact x.1,λj t e=>?_⟩;obtain⟨u,d,c⟩:=x.2 j t e;by_cases y:i=j
 .subst y;rw[f]at d;cases d;exact⟨w',bg,⟨by rw[g];exact c.name_,by rw[n];exact c.key_,by rw[o];exact c.cols_⟩⟩
 grind
theorem C2.on{m0 c:MH}{g d:PH}{e n:Nat}{id:Int}{ws:List cL}{s:bW}(x:C2 m0 g cb e n id ws s m h)(le:PH.le h d)(j:bE m c cb)(u:aR c d cb):C2 m0 g cb e n id ws s c d:=by
 refine⟨x.le_.trans le,x.ver0,x.ver1,u,x.n2,x.n4,x.sl_,x.id_,x.new_,x.ne_,?_,x.ws_.mono le,λb o y=>by rw[j.other b o];exact x.other_ b o y⟩;obtain⟨f,z,A⟩:=x.row_.ex;exact⟨f,by rw[j.other e x.ne_];exact z,A⟩
theorem C2.store{m0:MH}{u:PH}{c n:Nat}{id:Int}{ws:List cL}{s:bW}(x:C2 m0 u cb c n id ws s m h){k o:Nat}{w w':cL}{y:Value}(d:ws[i]? =some w)(A:k<5)(B:o=i*5+k)(e:w'.enc=w.enc.set k y)(C:w'.name=w.name)(D:w'.key=w.key)(F:w'.columns=w.columns){Q:MH->Prop}
 (G:∀m2,C2 m0 u cb c n id (ws.set i w') s m2 h->Q m2):∃(cs:Array Value)(E:TypeId),E8 m c (.cells cs E (0,0))/\o<cs.size/\∀m2:MH,iP m m2 c (.cells (splice cs.toList o [y]).toArray E (0,0))->Q m2:=by
 obtain⟨f,g,M⟩:=x.row_.ex;have H:=(bm d);refine⟨f,87,⟨g⟩,by have:=x.row_.big g;omega,λm2 j=>G m2 ?_⟩;subst B;refine⟨x.le_,x.ver0,x.ver1,?_,x.n2,x.n4,x.sl_,x.id_,x.new_,x.ne_,x.row_.store d A e g j.at_,x.ws_.set d C D F,λb I z=>by rw[j.other b z];exact x.other_ b I z⟩;obtain⟨r,q,cs,k,J,L⟩:=x.case_;exact⟨r,q,cs,k,by rw[j.other cb x.ne_.symm];exact J,L⟩
theorem Hi{h:PH}{s:Sl}{l:List qJ}(r:cC h s 2 (l.map qJ.enc))(c:l.length<=8):Fp h s l:=⟨⟨l,r,rfl,λi x e=>⟨x,e,rfl⟩⟩,aD⟩
theorem qI.tabs{m m':MH}{h:PH}{s:Sl}{w:cL}{ws:List cL}(x:qI m m' h s 87 5 ((w::ws).map cL.enc)):∃f d,s=⟨some ⟨f,0,none⟩,ws.length+1,d⟩/\ws.length+1<=d/\A5 m' f (w::ws)/\mL m h f/\∀b,b≠f->m' b=m b:=by
 rcases x.row.ex with⟨_,e⟩|⟨b,d,g,e,j,n,_,o,u⟩
 .cases e
 .subst e;refine⟨b,d,ay,bg,⟨g,j,bg⟩,x.fresh b 0 rfl,λc y=>x.other c (λi e=>bg)⟩
theorem auQ:cm 39 abQ:=by
 refine iH func39 ?_;rintro a6 m h K ⟨cb,rfl,hc,hK⟩;refine⟨bCQ cb,rfl,aE H2 (aE BN (aE apJ (aE Xa (aE Lc aG)))),Vn cb m h K,ax,?_⟩;dsimp only[Vn,push_cast];refine⟨cb,3,rfl,hc,λk m1 k0 k1 R c1=>?_⟩;have a':IntKind.i64.wrap (2+k)=2+k:=dY aD aD;rw[a'];refine⟨λ⟨n,id,D,I⟩=>2<=n/\n<=4/\(id=4\/id=5)/\I=h/\bE m D cb/\aR D h cb,⟨cb,5,rfl,aD,aD,c1,λr m2 o2 c2=>aC (λ_=>⟨(2+k,5,m2,h),⟨aD,aD,.inr rfl,rfl,R.trans o2,c2⟩,MT⟩) (λ_=>⟨(2+k,4,m2,h),⟨aD,aD,.inl rfl,rfl,R.trans o2,c2⟩,MT⟩)⟩,?_⟩;clear R c1 m1 a' k0 k1 k;rintro⟨n,id,m1,I⟩ ⟨n2,n4,a3,rfl,R,c1⟩;dsimp only;refine⟨cb,3,rfl,c1,λk m2 k0 k1 o2 c2=>?_⟩;refine⟨_,_,rfl,_,_,rfl,_,_,rfl,_,_,rfl,_,_,rfl,_,_,rfl,_,_,rfl,_,_,rfl,_,_,rfl,λs1 h1 a0 r1 s2 h2 S r2 s3 h3 E r3 s4 h4 y r4 tl m3 J=>?_⟩;obtain⟨d,f,rfl,L,M,T,O⟩:=qI.tabs (w:=⟨_,s1,1,bR,bR⟩) (ws:=[⟨_,s2,1,bR,bR⟩,⟨_,s3,2,bR,bR⟩,⟨_,s4,1,bR,bR⟩]) J;simp only[ci,length_nil]at L;have U:PH.le I h4:=((a0.trans S).trans E).trans y
 have z:d≠cb:=λe=>by
  obtain⟨r,q,cs,j,q1,_⟩:=c2;have:=T.m_
  grind
 have a1:m d=none:=by rw[<-R.other d z, <-o2.other d z];exact T.m_
 have c3:aR m3 h4 cb:=by
  obtain⟨r,q,cs,j,q1,q2,q3⟩:=c2;exact⟨r,q,cs,j,bg,q2.mono U,q3⟩
 have S0:C2 m I cb d n.toNat id _ ⟨k,⟨some ⟨d,0,none⟩,n.toNat,f⟩⟩ m3 h4:=⟨U,k0,bg,c3,aD,aD,⟨f,rfl,aD⟩,a3,a1,z,M,⟨rfl,λi t e=>?_⟩,λb n1 n2=>by rw[O b n2,o2.other b n1,R.other b n1]⟩
 rotate_left
 .match i,e with
  |0,e=>cases e;exact⟨_,rfl,⟨rfl,rfl,Hi (l:=[⟨_,_⟩,⟨_,_⟩]) (r1.mono ((S.trans E).trans y)) az⟩⟩
  |1,e=>cases e;exact⟨_,rfl,⟨rfl,rfl,Hi (l:=[⟨_,_⟩,⟨_,_⟩,⟨_,_⟩,⟨_,_⟩]) (r2.mono (E.trans y)) ay⟩⟩
  |2,e=>cases e;exact⟨_,rfl,⟨rfl,rfl,Hi (l:=[⟨_,_⟩,⟨_,_⟩]) (r3.mono y) az⟩⟩
  |3,e=>cases e;exact⟨_,rfl,⟨rfl,rfl,Hi (l:=[⟨_,_⟩]) r4 ay⟩⟩
  |i+4,e=>simp[wM]at e
 generalize a4:(cL.mk _ s1 1 bR bR::_)=a7 at S0;clear a4 M J r1 r2 r3 r4;have A:∀{ws:List cL}{i:Nat},ws.length=4->i<4->∃w,ws[i]? =some w:=λhl hi=>⟨_,bo aD⟩
 refine⟨aD,bg,λ⟨V,s,D,W⟩=>V=n/\∃ws,C2 m I cb d n.toNat id ws s D W,⟨cb,2,rfl,aD,aD,c3,λr X o4 c4=>aC (λ_ s5 F a2 r5=>⟨d,0,rfl,aD,aD,λs6 h6 B r6=>?_⟩) (λ_=>⟨(n,⟨k,⟨some ⟨d,0,none⟩,n.toNat,f⟩⟩,X,h4),⟨rfl,_,S0.on (.refl _) o4 c4⟩,MT⟩)⟩,?_⟩
 .obtain⟨w,P⟩:=A (i:=1) S0.ws_.1 aD;exact(S0.on (a2.trans B) o4 (c4.mono (a2.trans B))).store (k:=3) (w':={w with references:=s6}) P aD rfl rfl rfl rfl rfl λx Y=>⟨(n,⟨k,⟨some ⟨d,0,none⟩,n.toNat,f⟩⟩,x,h6),⟨rfl,_,Y⟩,MT⟩
 clear S0 c3 O T a1 L U a0 S E y R o2 c1 c2;rintro⟨V,s,X,F⟩ ⟨rfl,ws,S0⟩;dsimp only;obtain⟨f,c,_⟩:=S0.sl_;have o:s.tables.a=some ⟨d,0,none⟩:=by rw[c]
 have G:s.tables.len=V.toNat:=by rw[c]
 refine⟨λ⟨n,s,D,W⟩=>n=V/\∃ws,C2 m I cb d n.toNat id ws s D W,aF (λhn=>⟨cb,3,rfl,aD,aD,S0.case_,λr x Q H=>aC (λ_ s7 h7 u r7=>⟨d,0,o,aD,aD,λs8 h8 g r8=>?_⟩) (λ_=>⟨(V,s,x,F),⟨rfl,_,S0.on (.refl _) Q H⟩,MT⟩)⟩) (λ_=>⟨(V,s,X,F),⟨rfl,_,S0⟩,MT⟩),?_⟩
 .obtain⟨w,P⟩:=A (i:=2) S0.ws_.1 aD;exact(S0.on (u.trans g) Q (H.mono (u.trans g))).store (k:=3) (w':={w with references:=s8}) P aD rfl rfl rfl rfl rfl λx Y=>⟨(V,s,x,h8),⟨rfl,_,Y⟩,MT⟩
 clear S0 o G c;rintro⟨C,s,X,F⟩ ⟨rfl,ws,S0⟩;dsimp only;obtain⟨f,c,_⟩:=S0.sl_;have o:s.tables.a=some ⟨d,0,none⟩:=by rw[c]
 have G:s.tables.len=C.toNat:=by rw[c]
 refine⟨λ⟨s,D,W⟩=>∃ws,C2 m I cb d C.toNat id ws s D W,aF (λhn=>⟨cb,3,rfl,aD,aD,S0.case_,λr x Q H=>aC (λ_ s7 h7 u r7=>⟨d,0,o,aD,aD,λs8 h8 g r8=>?_⟩) (λ_=>⟨(s,x,F),⟨_,S0.on (.refl _) Q H⟩,MT⟩)⟩) (λ_=>⟨(s,X,F),⟨_,S0⟩,MT⟩),?_⟩
 .obtain⟨w,P⟩:=A (i:=3) S0.ws_.1 aD;exact(S0.on (u.trans g) Q (H.mono (u.trans g))).store (k:=3) (w':={w with references:=s8}) P aD rfl rfl rfl rfl rfl λx Y=>⟨(s,x,h8),⟨_,Y⟩,MT⟩
 clear S0 o G c;rintro⟨s,X,F⟩ ⟨ws,S0⟩;dsimp only;obtain⟨f,c,_⟩:=S0.sl_;have o:s.tables.a=some ⟨d,0,none⟩:=by rw[c]
 have G:s.tables.len=C.toNat:=by rw[c]
 refine⟨λ⟨s,D,W⟩=>∃ws,C2 m I cb d C.toNat id ws s D W,⟨cb,3,rfl,aD,aD,S0.case_,λr x Q H=>aC (λ_=>?_) (λ_=>⟨(s,x,F),⟨_,S0.on (.refl _) Q H⟩,MT⟩)⟩,λ⟨s,X,F⟩⟨ws,S0⟩=>hK _ _ _ _ _ _ _ S0⟩;have S1:=S0.on (.refl _) Q H;obtain⟨w,P,Z⟩:=S1.ws_.2 1 _ rfl;refine⟨s.version,d,C.toNat,f,ws,w,_,1,by rw[c];rfl,aD,S1.row_,P,Z.cols_,ay,λsl h6 B a5=>?_⟩;refine⟨cb,sl,bR,_,[],1,rfl,H.mono B,a5,⟨cC.nil _ _,ay⟩,ay,ay,aD,λa8 p m6 h7 u hp a9 o6 c6=>⟨d,0,o,aD,aD,λs8 h8 g r8=>?_⟩⟩;exact(S1.on ((B.trans u).trans g) o6 (c6.mono g)).store (k:=4) (w':={w with checks:=s8}) P aD rfl rfl rfl rfl rfl λx Y=>⟨(s,x,h8),⟨_,Y⟩,MT⟩
structure Py(s:jB):Prop where
 ex:∃ver n id,0<=ver/\ver<=2/\2<=n/\n<=4/\(id=4\/id=5)/\s=⟨ver,(wM id).take n⟩
def biZ:Vc.Spec:=λc m h K=>∃cb,c=[cP cb]/\aR m h cb/\∀s v m' h',Py s->iA h' s v->PH.le h h'->bE m m' cb->aR m' h' cb->K (aS v) m' h'
theorem W8{f:FuncId}{fn:Func}(n:Tryz.prog.funcs[f]? =some fn){S:Vc.Spec}(j:∀c m h K,S c m h K->∃C:Ctx,C.P=Tryz.prog/\(∀g S,assoc C.specs g=some S->cm g S)/\∃N:Prop,N=tQ C fn (cA fn) (entry fn.ntmps c m h) (iI h K)/\N)(o:fn.body=some (cA fn):=by rfl)(d:(fn.name== "runtime.NumGoroutine")=false:=by decide):cm f S:=aoQ n o d λc m h K u=>let⟨C,hC,hs,N,e,hn⟩:=j c m h K u;⟨C,hC,hs,e▸hn⟩
theorem aSZ:cm 9 biZ:=by
 refine W8 func9 ?_;rintro W m h K ⟨cb,rfl,X,Y⟩;refine⟨b3X,rfl,aE auQ aG,Tn cb m h (iI h K),ax,?_⟩;show Tn cb m h (iI h K);dsimp only[Tn,push_cast];refine⟨cb,rfl,X,λd n id y s J L S1=>?_⟩;refine⟨λ⟨i,A,Z,B⟩=>A=s/\B=L/\i<=n/\∃y,C2 m h cb d n id y s Z L/\∀j w,j<i->y[j]? =some w->w.references=bR/\w.checks=bR,λ⟨i,_,_,_⟩=>n-i,⟨(0,s,J,L),⟨rfl,rfl,aD,y,S1,λj w M=>by omega⟩,MT⟩,?_⟩;clear S1 y J;rintro⟨i,A,J,B⟩ ⟨rfl,rfl,F,y,S1,G⟩;dsimp only;obtain⟨a',H,O⟩:=S1.sl_;have C:A.tables.a=some ⟨d,0,none⟩:=by rw[H]
 have a0:A.tables.len=n:=by rw[H]
 have P:=S1.n4;refine aF (λI=>⟨d,0,C,aD,I,?_⟩) (λa1 f=>?_)
 .obtain⟨w,U⟩:∃w,y[i]? =some w:=⟨_,bo (by have:=S1.ws_.1;omega)⟩
  refine S1.store (i:=i) (k:=3) (w':={w with references:=bR}) U aD aD rfl rfl rfl rfl λm2 S2=>⟨d,0,C,aD,I,?_⟩
  have Q:=(bm U);have R:(y.set i {w with references:=bR})[i]? =some {w with references:=bR}:=getElem?_set_self Q;refine S2.store (i:=i) (k:=4) (w':={w with references:=bR,checks:=bR}) R aD aD rfl rfl rfl rfl λm3 S3=>⟨(i+1,A,m3,B),⟨rfl,rfl,aD,_,S3,λj u M hu=>?_⟩,aD,MT⟩
  grind
 .have f:=f;obtain⟨D,z,S⟩:=S1.row_.ex;have a2:∀i,B d i=none:=f d _ z
  have c:PH.le B (λx i=>if x=d then D[i]? else B x i):=⟨λx i v e=>by
   grind⟩
  refine⟨λb=>if b=d then none else J b,λx i=>if x=d then D[i]? else B x i,λb o e=>?_,S1.le_.trans c,λx i v e=>?_,Y ⟨A.version,(wM id).take n⟩ A _ _ ⟨⟨_,_,_,S1.ver0,S1.ver1,S1.n2,S1.n4,S1.id_,rfl⟩⟩ ⟨rfl,?_⟩ (S1.le_.trans c) ⟨λb hb=>?_⟩ ?_⟩
  .grind
  .by_cases E:x=d
   .subst E;simp at e;exact .inr ⟨D,87,(0,0),z,e,ay⟩
   .simp[E]at e;exact .inl e
  .have V:=S1.ws_.1;have P:=S1.n4;refine⟨⟨y.take n,⟨bg,.inr ⟨d,0,C,λi e F=>⟨λj v M=>?_⟩⟩,bg⟩,by simp[wM];omega,λi t e=>?_⟩,bg⟩
   .rw[map_take,getElem?_take]at F;split at F
    .have L:=mO (xs:=y.map cL.enc) (sz:=5) (λe he=>by obtain⟨x,_,rfl⟩:=mem_map.1 he;rfl) F j v M
     grind
    .cases F
   .rw[getElem?_take]at e;split at e
    .rename_i a3;obtain⟨w,e1,e2⟩:=S1.ws_.2 i t e;obtain⟨z1,z2⟩:=G i w aD e1;have T:=e2.mono c
     have g:t.refs=[]/\t.checks=[]:=by
      match i,e with
      |0,e=>cases e;grind
      |1,e=>cases e;grind
      |2,e=>cases e;grind
      |3,e=>cases e;grind
      |i+4,e=>omega
     refine⟨w,bg,⟨T.name_,T.cols_,T.key_,by rw[z1,g.1];exact bZ.nil _ _ _ _,by rw[z2,g.2];exact bZ.nil _ _ _ _⟩⟩
    .cases e
  .by_cases E:b=d
   .subst E;simp[S1.new_]
   .simp[E];exact S1.other_ b hb E
  .obtain⟨r,q,cs,k,q1,q2,q3⟩:=S1.case_;exact⟨r,q,cs,k,bg,q2.mono c,q3⟩
def QW(q:Query):Prop:=
 match q with
 |.mk _ _ w _ _ _ _ _ args=>C3 w/\∀a∈args,QW a
 termination_by SizeOf.sizeOf q
theorem KJ{op:Int}{w:Pred}{on:cu}{args:cz}:
 QW (.mk op ta w co on gr od li args)↔C3 w/\∀a∈args,QW a:=by rw[QW.eq_def]
def cfQ(s:jB):Prop:=∀t,MP (jL s t)
structure bgZ(s:jB)(ps ks:cq)(q0 q:Query):Prop where
 qw:QW q
 siz:∀d,Dn d q0->TQ d q
 kin:cfQ s->MP ps->MP ks->ks≠[]->ks.length<=12->aJ s ps q0=(ks,0)->aJ s ps q=(ks,0)
def KQ(K:cr)(m:MH)(h:PH)(cb:Nat)(R:Query->Prop):Prop:=∀w q m' h',PH.le h h'->cJ h' q w->R q->bE m m' cb->aR m' h' cb->K (aQ w) m' h'
def aaJ:Vc.Spec:=λc m h K=>∃cb sc p k v s ps ks q,c=[cP cb,aS sc,cS p,cS k,aQ v]/\aR m h cb/\iA h s sc/\mC s/\s.tables.length<=1000/\Ints h p ps/\ps.length<=1000/\Ints h k ks/\ks.length<=1000/\cJ h q v/\QW q/\KQ K m h cb (bgZ s ps ks q)
noncomputable def bBZ(cb:Nat)(sc:bW)(p k:Sl)(v:QV):Ctx:=
 dD [(12,Hu),(46,yJ),(40,bhQ),(13,PJ),(44,E5)] [(3,{A:=Int×Nat×MH×PH,st:=λ⟨f,n,m,h⟩=>bQ 112 117 [(0,pv cb),(2,sv p),(3,sv k),(6,.at (.ptr 6 0)),(9,.at (.ptr 9 0)),(10,.at (.ptr 10 0)),(11,iv f),(12,iv n)] [(6,.cells 43 (sc.enc.map .val)),(9,.cells 38 (v.enc.map .val)),(10,.cells 38 (pU.enc.map .val))] m h}),
  (9,{A:=Int×Nat×Int×Sl×cq×Nat×MH×PH,st:=λ⟨f,n,t,c,d,i,m,h⟩=>bQ 112 117 [(0,pv cb),(2,sv p),(3,sv k),(6,.at (.ptr 6 0)),(9,.at (.ptr 9 0)),(10,.at (.ptr 10 0)),(11,iv f),(12,iv n),(13,iv t),(14,sv c),(15,.at (.lst 75)),(45,sv k),(46,iv k.len),(47,iv i)] [(6,.cells 43 (sc.enc.map .val)),(9,.cells 38 (v.enc.map .val)),(10,.cells 38 (pU.enc.map .val)),(75,.lst 3 1 (d.map eI))] m h}),
  (13,{A:=Int×Nat×Int×Sl×cq×Nat×Int×Int×Nat×MH×PH,st:=λ⟨f,n,t,c,d,i,e,g,j,m,h⟩=>bQ 112 117 [(0,pv cb),(2,sv p),(3,sv k),(6,.at (.ptr 6 0)),(9,.at (.ptr 9 0)),(10,.at (.ptr 10 0)),(11,iv f),(12,iv n),(13,iv t),(14,sv c),(15,.at (.lst 75)),(17,iv e),(18,iv g),(45,sv k),(46,iv k.len),(47,iv i),(56,iv c.len),(57,iv j)] [(6,.cells 43 (sc.enc.map .val)),(9,.cells 38 (v.enc.map .val)),(10,.cells 38 (pU.enc.map .val)),(75,.lst 3 1 (d.map eI))] m h})] [] [] false
abbrev sC:Prop:=eP 10
noncomputable abbrev uL(a:Int×Nat×MH×PH):Nat->Nat->Option Value:=a.2.2.2
noncomputable abbrev Bp(a:Int×Nat×Int×Sl×cq×Nat×MH×PH):Sl:=a.2.2.2.1
noncomputable abbrev xH(a:Int×Nat×Int×Sl×cq×Nat×MH×PH):Nat×MH×PH:=a.2.2.2.2.2
noncomputable abbrev GI(a:Int×Nat×Int×Sl×cq×Nat×MH×PH):List cn:=jK a.2.2.2.2.1
noncomputable abbrev qA(a:Int×Nat×Int×Sl×cq×Nat×MH×PH):Nat->Nat->Option Value:=(xH a).2.2
noncomputable abbrev EG(a:Int×Nat×Int×Sl×cq×Nat×MH×PH):Nat->Option Obj:=(xH a).2.1
noncomputable abbrev sU(a:Int×Nat×Int×Sl×cq×Nat×Int×Int×Nat×MH×PH):Sl:=a.2.2.2.1
noncomputable abbrev Jx(a:Int×Nat×Int×Sl×cq×Nat×Int×Int×Nat×MH×PH):Int:=a.2.2.2.2.2.2.1
noncomputable abbrev JL(a:Int×Nat×Int×Sl×cq×Nat×Int×Int×Nat×MH×PH):Int:=a.2.2.2.2.2.2.2.1
noncomputable abbrev GH(a:Int×Nat×Int×Sl×cq×Nat×Int×Int×Nat×MH×PH):Nat:=a.2.2.2.2.2.1
noncomputable abbrev rZ(a:Int×Nat×Int×Sl×cq×Nat×Int×Int×Nat×MH×PH):Nat×MH×PH:=a.2.2.2.2.2.2.2.2
noncomputable abbrev EF(a:Int×Nat×Int×Sl×cq×Nat×Int×Int×Nat×MH×PH):List cn:=jK a.2.2.2.2.1
noncomputable abbrev Jw(a:Int×Nat×Int×Sl×cq×Nat×Int×Int×Nat×MH×PH):Int:=Int.tmod (fI (JL a+(↑(rZ a).1:Int))) (aH (sU a))
abbrev GJ(a:Prop)(b c d:Nat)(e g:Sl)(i:Prop):Prop:=aA a (b<c) (aA (cR d) (aI e) (aA (aI g) (eP 6) (aA (eP 9) sC i)))
attribute [push_cast] sC uL Bp xH GI qA EG sU Jx JL GH rZ EF Jw GJ
def Vl(cb:Nat)(sc:bW)(p k:Sl)(v:QV)(m:MH)(h:PH)(K:cr):Prop:=
  iR cb (fI (lW sc+1)) m h (λV W=>∃(I:Int×Nat×MH×PH->Prop)(M:Int×Nat×MH×PH->Nat),(∃(x:Int×Nat×MH×PH),aA (I x) (cR cb) (aA (aI p) (aI k) (aA (eP 6) (eP 9) (aA sC (dR V x.1) (aA (bB x.2.1) (cM sc) (aA (eY v) eH (bP (bH W x.2.2) h (uL x))))))))/\∀(x:Int×Nat×MH×PH),I x->aX (↑x.2.1:Int) (aH sc.tables) (wB (lW sc=0)/\Cw (bC (fM (cD sc)) (Int.tmod (fI (x.1+(↑x.2.1:Int))) (lW sc))) (uL x) (λs E=>∃(I1:Int×Nat×Int×Sl×cq×Nat×MH×PH->Prop)(z:Int×Nat×Int×Sl×cq×Nat×MH×PH->Nat),(∃(f:Int×Nat×Int×Sl×cq×Nat×MH×PH),aA (I1 f) (cR cb) (aA (aI p) (aI k) (aA (eP 6) (eP 9) (aA sC (dR x.1 f.1) (aA (cO x.2.1 f.2.1) (dR
 (Int.tmod (fI (x.1+(↑x.2.1:Int))) (lW sc)) f.2.2.1) (aA (bS s (Bp f)) (eL 75) (aA (aI k) (bJ k) (aA (bB (xH f).1) (cM sc) (aA (eY v) eH (aA (sL (GI f)) (bH x.2.2.1 (xH f).2) (bL E (qA f))))))))))))/\∀(f:Int×Nat×Int×Sl×cq×Nat×MH×PH),I1 f->aX (↑(xH f).1:Int) (aH k) (bI (λb o=>aA (bK k.a b o) (0<=(↑(xH f).1:Int)) ((↑(xH f).1:Int)<aH k/\∃(y:Int),aU (EG f) (qA f) b (bN o (xH f).1 1) (bG y)/\iR cb (aH (Bp f)) (EG f) (qA f) (λX D=>∃(I2:Int×Nat×Int×Sl×cq×Nat×Int×Int×Nat×MH×PH->Prop)(C:Int×Nat×Int×Sl×cq×Nat×Int×Int×Nat×MH×PH->Nat),(∃(e:Int×Nat×Int×Sl×cq×Nat×Int×Int×Nat×MH×PH),aA
 (I2 e) (cR cb) (aA (aI p) (aI k) (aA (eP 6) (eP 9) (aA sC (dR f.1 e.1) (aA (cO f.2.1 e.2.1) (dR f.2.2.1 e.2.2.1) (aA (bS (Bp f) (sU e)) (eL 75) (aA (dR y (Jx e)) (dR X (JL e)) (aA (aI k) (bJ k) (aA (cO (xH f).1 (GH e)) (cK (Bp f) (sU e)) (aA (bB (rZ e).1) (cM sc) (aA (eY v) eH (aA (Be (GI f) (EF e)) (bH D (rZ e).2) (bL (qA f) (rZ e).2.2)))))))))))))/\∀(e:Int×Nat×Int×Sl×cq×Nat×Int×Int×Nat×MH×PH),I2 e->aX (↑(rZ e).1:Int) (aH (sU e)) (wB (aH (sU e)=0)/\bI (λS T=>aA (bK (sU e).a S T) (0<=Jw e) (Jw e<aH (sU e)/\∃(U:Int),aU (rZ e).2.1 (rZ e).2.2 S (fT T (Jw e)
 1) (bG U)/\dW U (Jx e) (mV (EF e) 8 (∃(j:Int×Nat×Int×Sl×cq×Nat×MH×PH),GJ (I1 j) (z j) (z f) cb p k (aA (dR e.1 j.1) (cO e.2.1 j.2.1) (aA (dR e.2.2.1 j.2.2.1) (bS (sU e) (Bp j)) (aA (eL 75) (aI k) (aA (bJ k) (bD (gG (bF (GH e) 1)) (xH j).1) (aA (cM sc) (eY v) (aA eH (sM (EF e) (Jw e) (GI j)) (bP (bH (rZ e).2.1 (xH j).2) (rZ e).2.2 (qA j)))))))))) (∃(j:Int×Nat×Int×Sl×cq×Nat×Int×Int×Nat×MH×PH),GJ (I2 j) (C j) (C e) cb p k (aA (dR e.1 j.1) (cO e.2.1 j.2.1) (aA (dR e.2.2.1 j.2.2.1) (bS (sU e) (sU j)) (aA (eL 75) (dR (Jx e) (Jx j)) (aA (dR (JL e) (JL j)) (aI k) (aA (bJ k) (cO
 (GH e) (GH j)) (aA (cK (sU e) (sU j)) (bD (gG (bF (rZ e).1 1)) (rZ j).1) (aA (cM sc) (eY v) (aA eH (Be (EF e) (EF j)) (bP (bH (rZ e).2.1 (rZ j).2) (rZ e).2.2 (rZ j).2.2))))))))))))) (∃(j:Int×Nat×Int×Sl×cq×Nat×MH×PH),GJ (I1 j) (z j) (z f) cb p k (aA (dR e.1 j.1) (cO e.2.1 j.2.1) (aA (dR e.2.2.1 j.2.2.1) (bS (sU e) (Bp j)) (aA (eL 75) (aI k) (aA (bJ k) (bD (gG (bF (GH e) 1)) (xH j).1) (aA (cM sc) (eY v) (aA eH (Be (EF e) (GI j)) (bP (bH (rZ e).2.1 (xH j).2) (rZ e).2.2 (qA j))))))))))))) (dW f.1 (lW sc) (∃(e:Int×Nat×MH×PH),GJ (I e) (M e) (M x) cb p k (aA (dR f.1 e.1) (bD (gG (bF
 f.2.1 1)) e.2.1) (aA (cM sc) (eY v) (bO eH (bH (EG f) e.2.2) (qA f=uL e))))) (aX (↑(GI f).length:Int) (aH k) (∃(e:Int×Nat×MH×PH),GJ (I e) (M e) (M x) cb p k (aA (dR f.1 e.1) (bD (gG (bF f.2.1 1)) e.2.1) (aA (cM sc) (eY v) (bO eH (bH (EG f) e.2.2) (qA f=uL e))))) (∃(t:Int),kU f.2.2.1 t/\oD cb 2 (EG f) (qA f) (λc=>c) (λc r=>∀(D:MH),bE (EG f) D c->aR D (qA f) c->branch r (BB (λn A H F u d=>aA (dA cb (dJ (Bp f) (hX p 1))=dA n (dJ A (hX H (↑d:Int)))) (aR D (qA f) n) (aA (Ints (qA f) A F) (Ints (qA f) H u) (aA (fO F) (fO u) (lY d/\BA (qA f) (λg G C B=>A7 F u d G->
 bE D C n->mK C B n (bU B 21 (kJ (Bh t)) (λJ L=>bU L 1 (jK f.2.2.2.2.1) (λO P=>bU P 21 (kJ (aL (eN 2) cW (aL (eN g.op) (eN g.cmp) (aL (tE g) (tF g) (aL (eN (A8 g.left)) (sA g) (aL (sB g) (sD g) (aL (tH g) (tI g) (aL (tJ g) (tK g) (aL (hJ g.args) lI (aL lI lI (aL lI cW (aY J)))))))))))) (λQ R=>K (fM (Jy 3 O (aY Q))) C R)))))))))/\BB (λn A H F u d=>aA (dA cb (dJ (Bp f) (hX p 1))=dA n (dJ A (hX H (↑d:Int)))) (aR D (qA f) n) (aA (Ints (qA f) A F) (Ints (qA f) H u) (aA (fO F) (fO u) (lY d/\BA (qA f) (λg G C B=>A7 F u d G->bE D C n->mK C B n (bU B 21 (kJ (Bh t)) (λJ
 L=>bU L 1 (jK f.2.2.2.2.1) (λO P=>bU P 21 (kJ (aL (eN 2) cW (aL (eN g.op) (eN g.cmp) (aL (tE g) (tF g) (aL (eN (A8 g.left)) (sA g) (aL (sB g) (sD g) (aL (tH g) (tI g) (aL (tJ g) (tK g) (aL (hJ g.args) lI (aL lI lI (aL lI cW (aY J)))))))))))) (λQ R=>K (fM (Jy 3 O (aY Q))) C R)))))))))) (bU (qA f) 1 (jK f.2.2.2.2.1) (λA B=>bU B 21 (kJ (Bh t)) (λJ L=>K (fM (Jy 3 A (aY J))) D L))))))))) (BB (λc s t n u d=>aA (dA cb (dJ k (hX p 1))=dA c (dJ s (hX t (↑d:Int)))) (aR x.2.2.1 (uL x) c) (aA (Ints (uL x) s n) (Ints (uL x) t u) (aA (fO n) (fO u) (lY d/\BA (uL x) (λg G z E=>A7 n u d G->bE x.2.2.1
 z c->mK z E c (bU E 21 (kJ v.enc) (λA B=>K (fM (aL (eN 2) cW (aL (eN g.op) (eN g.cmp) (aL (tE g) (tF g) (aL (eN (A8 g.left)) (sA g) (aL (sB g) (sD g) (aL (tH g) (tI g) (aL (tJ g) (tK g) (aL (hJ g.args) lI (aL lI lI (aL lI cW (aY A)))))))))))) z B)))))))/\BB (λc s t n u d=>aA (dA cb (dJ k (hX p 1))=dA c (dJ s (hX t (↑d:Int)))) (aR x.2.2.1 (uL x) c) (aA (Ints (uL x) s n) (Ints (uL x) t u) (aA (fO n) (fO u) (lY d/\BA (uL x) (λg G z E=>A7 n u d G->bE x.2.2.1 z c->mK z E c (bU E 21 (kJ v.enc) (λA B=>K (fM (aL (eN 2) cW (aL (eN g.op) (eN g.cmp) (aL (tE g) (tF g) (aL (eN (A8 g.left)) (sA g) (aL (sB
 g) (sD g) (aL (tH g) (tI g) (aL (tJ g) (tK g) (aL (hJ g.args) lI (aL lI lI (aL lI cW (aY A)))))))))))) z B)))))))))
theorem rM(h:PH):Ints h bR []:=⟨cC.nil _ _,ay⟩
theorem tY(h:PH):iD h bR []:=⟨cC.nil _ _,ay⟩
theorem tX(h:PH):jO h bR []:=⟨cC.nil _ _,ay⟩
theorem Dq(h:PH):dO h eJ fS:=Ou (v:=fS) rfl
theorem Dt{h:PH}{s:Sl}{v:QV}{q:Query}(r:cC h s 21 [QV.enc v])(c:cJ h q v):Fi h s [q]:=⟨⟨[v],r,rfl,λi x e=>by
 grind⟩,ay⟩
theorem Ay(h:PH)(t:Int):cJ h (.mk 1 t eJ [] [] [] [] 0 []) ⟨1,t,fS,bR,bR,bR,bR,0,bR⟩:=
 pJ.rep ⟨rfl,rfl,Dq h,rM h,tY h,rM h,tX h,rfl,bZ.nil _ _ _ _⟩
theorem OG{v:PV}{s:Sl}{q:Query}(c:dO h p v)(d:Fi h s [q]):cJ h (.mk 2 0 p [] [] [] [] 0 [q]) ⟨2,0,v,bR,bR,bR,bR,0,s⟩:=
 pJ.rep ⟨rfl,rfl,c,rM h,tY h,rM h,tX h,rfl,d⟩
theorem Mf{h:PH}{c s:Sl}{cols:cq}{q:Query}(d:Ints h c cols)(e:Fi h s [q]):cJ h (.mk 3 0 eJ cols [] [] [] 0 [q]) ⟨3,0,fS,c,bR,bR,bR,0,s⟩:=
 pJ.rep ⟨rfl,rfl,Dq h,d,tY h,rM h,tX h,rfl,e⟩
theorem oS:C3 eJ:=⟨rP,rP,trivial⟩
theorem SR{op:Int}{w:Pred}{on:cu}{q:Query}(c:C3 w)(d:QW q):QW (.mk op ta w co on gr od li [q]):=KJ.2 ⟨c,λa e=>bg⟩
theorem IK(t:Int):QW (.mk 1 t eJ [] [] [] [] 0 []):=KJ.2 ⟨oS,λa c=>by simp at c⟩
theorem Zt{a:Int}{n:Nat}(c:0<=a)(d:0<n):0<=a.tmod (n:Int)/\a.tmod (n:Int)<(n:Int):=by
 rw[Int.tmod_eq_emod_of_nonneg c];exact⟨Int.emod_nonneg _ aD,Int.emod_lt_of_pos _ aD⟩
theorem KX{k:cq}{op:Int}{w:Pred}{on:cu}{q:Query}(c:arity op=1)(h:aJ s ps q=(k,0)):aJ s ps (.mk op ta w co on gr od li [q])=dV s ps (.mk op ta w co on gr od li [q]) k []:=by
 have e:eO s ps [q]=([k],0):=tP (by simp[h]);simp[aJ,e,c]
theorem amJ{k c:cq}{op:Int}{w:Pred}{on:cu}{q p:Query}(d:arity op=2)(h:aJ s ps q=(k,0))(h':aJ s ps p=(c,0)):aJ s ps (.mk op ta w co on gr od li [q,p])=dV s ps (.mk op ta w co on gr od li [q,p]) k c:=by
 have e:eO s ps [q,p]=([k,c],0):=tP (by simp[h,h']);simp[aJ,e,d]
theorem JU(h:l.length<=12):lF l=(l,0):=if_pos h
theorem Ov{s:jB}{ps:cq}{t:Int}(c:0<=t)(d:t<s.tables.length)(e:(jL s t).length<=12):aJ s ps (.mk 1 t eJ [] [] [] [] 0 [])=(jL s t,0):=by
 have f:aJ s ps (.mk 1 t eJ [] [] [] [] 0 [])=dV s ps (.mk 1 t eJ [] [] [] [] 0 []) [] []:=by simp[aJ,eO,arity]
 rw[f];unfold dV;rw[if_neg (by simp[arity,cH])];dsimp only;rw[if_pos rfl,if_pos ⟨c,d⟩,JU e]
theorem kinds_filter{k:cq}{w:Pred}{q:Query}(h:aJ s ps q=(k,0))(c:fX k ps w=0)(d:k.length<=12):aJ s ps (.mk 2 0 w [] [] [] [] 0 [q])=(k,0):=by
 rw[KX az h];unfold dV;rw[if_neg (by simp[arity,cH])];dsimp only;rw[if_neg az,if_pos rfl,if_pos c,JU d]
theorem PX{k:cq}{q:Query}(h:aJ s ps q=(k,0))(d:co≠[])(e:∀c∈co,Cg k c=true)(g:co.length<=12):aJ s ps (.mk 3 0 eJ co [] [] [] 0 [q])=(co.map λc=>k.getD c.toNat 0,0):=by
 rw[KX az h];unfold dV;rw[if_neg (by simp[arity,cH])];dsimp only;rw[if_neg az,if_neg az,if_pos rfl,if_pos ⟨d,λj x f=>e x (br f)⟩,JU bg]
structure Ik(kt ks co:cq):Prop where
 in_:∀c∈co,Cg kt c=true
 eq_:(co.map λc=>kt.getD c.toNat 0)=ks
theorem Ik.kin{c ks:cq}{q:Query}(x:Ik c ks co)(h:aJ s ps q=(c,0))(d:ks≠[])(f:ks.length<=12):aJ s ps (.mk 3 0 eJ co [] [] [] 0 [q])=(ks,0):=by
 have g:co.length=ks.length:=by rw[<-x.eq_,length_map]
 rw[PX h (λe=>d (eq_nil_of_length_eq_zero bg)) x.in_ aD,x.eq_]
theorem Ik.snoc{d ks:cq}{c x:Int}(p:Ik d (ks.take i) co)(g:ks[i]? =some x)(j:Cg d c=true)(e:d.getD c.toNat 0=x):Ik d (ks.take (i+1)) (co++[c]):=
 ⟨λy f=>by
  rcases mem_append.1 f with f|f
  .exact p.in_ y f
  grind,by rw[bw,p.eq_,cd,g,map_cons,map_nil,e];rfl⟩
theorem atZ:cm 42 aaJ:=by
 refine iH func42 ?_;rintro d' m h K ⟨cb,sc,p,k,v,s,ps,ks,q,rfl,hc,hs,h8,d0,hp,b',hk,a2,hq,b0,hK⟩;refine⟨bBZ cb sc p k v,rfl,aE H2 (aE Lb (aE QP (aE BN (aE Lc aG)))),Vl cb sc p k v m h K,by kernel_rfl,?_⟩;have d1:=hs.tables.slen;have b3:=hk.slen;have hw:IntKind.i64.wrap ((sc.tables.len:Int)+1)=(sc.tables.len:Int)+1:=dY aD aD;dsimp only[Vl,push_cast];rw[hw];refine⟨cb,_,rfl,hc,λf W f0 f1 o1 c1=>?_⟩;refine⟨λ⟨f,n,E,o⟩=>0<=f/\f<=sc.tables.len/\n<=sc.tables.len/\PH.le h o/\bE m E cb/\aR E o cb,λ⟨_,n,_,_⟩=>sc.tables.len-n,⟨(f,0,W,h),⟨f0,aD,aD,.refl _,o1,c1⟩,MT⟩,?_⟩;clear f0 f1 o1 c1 W hw;rintro⟨f,n,W,o⟩ ⟨f0,f1,hn,z,o1,c1⟩;dsimp only
 have C:∀(kk:Sl)(kl:cq)(E:MH)(o:PH)(Q:PV->Pred->MH->PH->Prop),Ints o kk kl->kl.length<=1000->PH.le h o->aR E o cb->(∀v p m' h',PH.le o h'->dO h' p v->A7 kl ps 1 p->bE E m' cb->aR m' h' cb->Q v p m' h')->
  ∃(D:Nat)(s t:Sl)(cols u:cq)(I:Nat),[CV.val (.pointer (some ⟨cb,0,none⟩)),CV.val (.slice kk.a kk.len kk.cap),CV.val (.slice p.a p.len p.cap),CV.val (.int .i64 1)]=[CV.val (.pointer (some ⟨D,0,none⟩)),CV.val (.slice s.a s.len s.cap),CV.val (.slice t.a t.len t.cap),CV.val (.int .i64 I)]/\aR E o D/\Ints o s cols/\Ints o t u/\cols.length<=1000/\u.length<=1000/\I<=1000/\
   ∀(v:PV)(p:Pred)(m':MH)(h':PH),PH.le o h'->dO h' p v->A7 cols u I p->bE E m' D->aR m' h' D->Q v p m' h':=λkk kl E o Q h1 h2 H h4 h5=>
  ⟨cb,kk,p,kl,ps,1,rfl,h4,h1,hp.mono H,h2,b',aD,λv p m' h' q1 q2 X q3 q4=>h5 v p m' h' q1 q2 X q3 q4⟩
 refine aF (λd2=>?_) (λd3=>?_)
 rotate_left
 .have fin:∀(w:PV)(p:Pred)(m':MH)(h':PH),PH.le o h'->dO h' p w->A7 ks ps 1 p->bE W m' cb->aR m' h' cb->∀(s:Sl)(c:PH),PH.le h' c->cC c s 21 [QV.enc v]->K (aQ ⟨2,0,w,bR,bR,bR,bR,0,s⟩) m' c:=λw p m' h' q1 q2 X q3 q4 s h2 U q6=>
   hK _ _ m' h2 ((z.trans q1).trans U) (OG (q2.mono U) (Dt q6 (hq.mono ((z.trans q1).trans U)))) ⟨SR X.vals b0,λd hf=>hf.filter,λ_ Y b4 _ J b5=>kinds_filter b5 (X.valid (by decide) b4 Y) J⟩ (o1.trans q3) (q4.mono U)
  exact⟨C k ks W o _ (hk.mono z) a2 z c1 fin,C k ks W o _ (hk.mono z) a2 z c1 fin⟩
 have b6:IntKind.i64.wrap (f+(n:Int))=f+(n:Int):=dY aD aD;rw[b6];refine⟨aD,sc,s,_,rfl,hs.mono z,h8,λA h2 a3 F=>?_⟩;have a4:=F.slen;obtain⟨T,hT⟩:∃T,(f+(n:Int)).tmod (sc.tables.len:Int)=T:=⟨_,rfl⟩
 have a5:=Zt (a:=f+(n:Int)) (n:=sc.tables.len) aD aD;rw[hT]at F a4 a5⊢
 have b7:(jL s T).length<=8:=by
  unfold jL;split
  .simp
  .split
   .simp
   .rename_i t ht;simpa using h8 t (mem_of_getElem? ht)
 obtain⟨S,Z⟩:∃S,jL s T=S:=⟨_,rfl⟩
 have L:aJ s ps (.mk 1 T eJ [] [] [] [] 0 [])=(S,0):=by rw[Ov a5.1 aD aD,Z]
 have a':cfQ s->MP S:=λx=>by rw[<-Z];exact x T
 rw[Z]at F a4 b7;refine⟨λ⟨f',n',t,B,cols,i,E,o⟩=>f'=f/\n'=n/\B=A/\t=T/\i<=ks.length/\cols.length<=i/\(cols.length=i->Ik S (ks.take i) cols)/\PH.le h2 o/\bE m E cb/\aR E o cb,λ⟨_,_,_,_,_,i,_,_⟩=>ks.length-i,⟨(f,n,T,A,[],0,W,h2),⟨rfl,rfl,rfl,rfl,aD,by simp,λ_=>⟨by simp,by simp⟩,.refl _,o1,c1.mono a3⟩,MT⟩,?_⟩;rintro⟨f',n',t,A,cols,i,m2,H⟩ ⟨rfl,rfl,rfl,rfl,hi,d4,b8,G,o2,c2⟩;dsimp only;have g:PH.le h H:=(z.trans a3).trans G;refine aF (λV=>?_) (λc7=>?_)
 .obtain⟨x,o⟩:=eU b3 V;obtain⟨b1,b9,e1,r1⟩:=(hk.mono g).at o;refine⟨b1,b9,e1,aD,V,x,.imm (by grind),cb,_,rfl,c2,λfr m3 d5 d6 o3 c3=>?_⟩;refine⟨λ⟨f2,n2,t2,B,a0,i2,M,y,j,E,hy⟩=>f2=f'/\n2=n'/\B=A/\t2=t/\a0=cols/\i2=i/\M=x/\E=m3/\hy=H/\j<=A.len/\y=fr,λ⟨_,_,_,_,_,_,_,_,j,_,_⟩=>A.len-j,⟨(f',n',t,A,cols,i,x,fr,0,m3,H),⟨rfl,rfl,rfl,rfl,rfl,rfl,rfl,rfl,rfl,aD,rfl⟩,MT⟩,?_⟩;rintro⟨f2,n2,t2,A,cols,i,M,y,j,m3,H⟩ ⟨rfl,rfl,rfl,rfl,rfl,rfl,rfl,rfl,rfl,hj,rfl⟩;dsimp only;refine aF (λc8=>?_) (λc9=>⟨(f2,n2,t2,_,_,_,_,_),⟨rfl,rfl,rfl,rfl,by show i+1<=ks.length;omega,by show cols.length<=i+1;omega,λe=>by grind,G,o2.trans o3,c3⟩,by grind,MT⟩);have c':IntKind.i64.wrap (y+(j:Int))=y+(j:Int):=dY aD aD;rw[c'];have hm:=Zt (a:=y+(j:Int)) (n:=Sl.len _) aD (show 0<A.len by omega);obtain⟨b2,c0,e2,r2⟩:=(F.mono G).inb (n:=(y+(j:Int)).tmod (A.len:Int)) hm.1 aD;refine⟨aD,b2,c0,e2,hm.1,hm.2,_,.imm (by simpa using r2),aC (λek=>⟨by simp;omega,by simp;omega,(f2,n2,t2,_,cols++[(y+(j:Int)).tmod (A.len:Int)],i+1,_,_),⟨rfl,rfl,rfl,rfl,by grind,by simp;omega,λe=>?_,G,o2.trans o3,c3⟩,by grind,?_⟩) (λ_=>⟨(f2,n2,t2,A,cols,i,M,y,j+1,m3,H),⟨rfl,rfl,rfl,rfl,rfl,rfl,rfl,rfl,rfl,by grind,rfl⟩,by grind,MT⟩)⟩
  .have e:(cols++[(y+(j:Int)).tmod (A.len:Int)]).length=i+1:=e;rw[length_append]at e;exact(b8 (by simpa using e)).snoc o (by simp only[Cg,Bool.and_eq_true,decide_eq_true_eq];omega) (by grind)
  .rw[map_append];exact MT
 .have a6:n'+1<=sc.tables.len:=by omega
  have d7:i=ks.length:=by omega
  refine aC (λ_=>⟨(f',n'+1,m2,H),⟨f0,f1,a6,g,o2,c2⟩,by grind,MT⟩) (λ_=>aF (λ_=>⟨(f',n'+1,m2,H),⟨f0,f1,a6,g,o2,c2⟩,by grind,MT⟩) (λd8=>⟨t,rfl,cb,2,rfl,aD,aD,c2,λr m4 o4 c4=>?_⟩))
  have O:Ik S ks cols:=by
   grind
  refine aC (λ_=>?_) (λ_ s1 h5 a7 r5 s2 h6 a1 r6=>?_)
  .have fin:∀(w:PV)(p:Pred)(m':MH)(h':PH),PH.le H h'->dO h' p w->A7 S ps 1 p->bE m4 m' cb->aR m' h' cb->∀(s:Sl)(c:PH),PH.le h' c->cC c s 21 [QV.enc ⟨1,t,fS,bR,bR,bR,bR,0,bR⟩]->∀(a8:Sl)(P:PH),PH.le c P->cC P a8 1 (cols.map eI)->∀(a9:Sl)(R:PH),PH.le P R->cC R a9 21 [QV.enc ⟨2,0,w,bR,bR,bR,bR,0,s⟩]->K (aQ ⟨3,0,fS,a8,bR,bR,bR,0,a9⟩) m' R:=λw p m' h' q1 q2 X q3 q4 s h5 U q6 s1 h6 q7 q8 s2 h7 q9 c5=>
    hK _ _ m' h7 ((((g.trans q1).trans U).trans q7).trans q9) (Mf (cols:=cols) ⟨q8.mono q9,aD⟩ (Dt c5 (OG (q2.mono ((U.trans q7).trans q9)) (Dt (q6.mono (q7.trans q9)) (Ay _ t))))) ⟨SR oS (SR X.vals (IK t)),λd _=>TQ.three d (tB.one (tB.one tB.scan (by decide)) (by decide)),λc6 Y _ hn J _=>O.kin (kinds_filter L (X.valid (by decide) (a' c6) Y) aD) hn J⟩ ((o2.trans o4).trans q3) (q4.mono ((U.trans q7).trans q9))
   exact⟨C A S m4 H _ (F.mono G) aD g c4 fin,C A S m4 H _ (F.mono G) aD g c4 fin⟩
  .exact hK _ _ m4 h6 ((g.trans a7).trans a1) (Mf (cols:=cols) ⟨r5.mono a1,aD⟩ (Dt (v:=⟨1,t,fS,bR,bR,bR,bR,0,bR⟩) r6 (Ay _ t))) ⟨SR oS (IK t),λd _=>TQ.three d (tB.mono (tB.one tB.scan (by decide)) (by decide) (by decide) (by decide)),λ_ _ _ hn J _=>O.kin L hn J⟩ (o2.trans o4) (c4.mono (a7.trans a1))
end Go.Ps
