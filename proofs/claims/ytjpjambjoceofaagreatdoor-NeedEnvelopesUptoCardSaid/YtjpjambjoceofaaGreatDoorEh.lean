/- Own work. -/
import Derived.Test.YtjpjambjoceofaaGreatDoorEg
set_option linter.unusedVariables false
set_option linter.unusedSimpArgs false
namespace Go.Ps
open Go Go.Vc Go.Proofs List Tryz
variable{K:bz}{m:MH}{h:PH}{s:jE}{ps:ca}{ts:cq}{cb:Nat}{sc:cE}{v:QV}{t:Step}{p:Pred}{l:ca}{i:Nat}{N:Nat}{m':MH}{h':PH}{co:ca}{gr:ca}{od:cg}{ta:Int}{li:Int}{xs:List bx}{sz:Nat}{ks:List ca}{rs:ca}{r:Sl}{a:ca}{b:Nat}
def KQ2(K:bz)(m:MH)(h:PH)(cb:Nat)(s:jE)(ps:ca)(d:Nat):Prop:=∀w q m' h',PH.le h h'->bU h' q w->QW q->DM d q->(dZ s ps q).2=0->bF m m' cb->aL m' h' cb->K (aQ w) m' h'
def aeZ(N:Nat):Vc.Spec:=λc m h K=>∃cb sc p s ps deep,c=[cP cb,aS sc,cS p,cI deep]/\aL m h cb/\gZ h s sc/\dK s=0/\s.tables≠[]/\Ints h p ps/\ps.length<=1000/\ps.all dJ=true/\ -1<=deep/\deep<=1000/\(deep+1).toNat<N/\KQ2 K m h cb s ps deep.toNat
noncomputable def b7Z(N:Nat)(cb:Nat)(sc:cE)(p:Sl):Ctx:=
 sN [(12,Ic),(40,bCJ),(37,Ba),(41,bEJ),(42,avQ),(43,ceJ),(44,FC),(10,aeZ N)] [(11,{A:=QV×QV×Sl×Int×MH×PH,st:=λ⟨a,q,k,n,m,h⟩=>bQ 171 175 [(0,pv cb),(2,sv p),(5,.at (.ptr 5 0)),(8,.at (.ptr 8 0)),(10,.at (.ptr 10 0)),(11,sv k),(13,.at (.ptr 13 0)),(14,iv n)] [(5,.cells 43 (sc.enc.map .val)),(8,.cells 38 (lH.enc.map .val)),(10,.cells 38 (a.enc.map .val)),(13,.cells 38 (q.enc.map .val))] m h})] [(7,{A:=Int×Int×QV×QV×Sl×MH×PH,st:=λ⟨d,op,a,q,k,m,h⟩=>bQ 171 175 [(0,pv cb),(2,sv p),(3,iv d),(5,.at (.ptr 5 0)),(8,.at (.ptr 8 0)),(9,iv op),(10,.at (.ptr 10 0)),(11,sv k),(13,.at (.ptr 13 0))] [(5,.cells 43 (sc.enc.map .val)),(8,.cells 38 (lH.enc.map .val)),(10,.cells 38 (a.enc.map .val)),(13,.cells 38 (q.enc.map .val))] m h}),
  (16,{A:=Int×Int×QV×QV×Sl×Bool×MH×PH,st:=λ⟨d,op,a,q,k,t,m,h⟩=>bQ 171 175 [(0,pv cb),(2,sv p),(3,iv d),(5,.at (.ptr 5 0)),(8,.at (.ptr 8 0)),(9,iv op),(10,.at (.ptr 10 0)),(11,sv k),(13,.at (.ptr 13 0)),(59,iv op),(84,bv t)] [(5,.cells 43 (sc.enc.map .val)),(8,.cells 38 (lH.enc.map .val)),(10,.cells 38 (a.enc.map .val)),(13,.cells 38 (q.enc.map .val))] m h}),
  (24,{A:=Int×QV×QV×Sl×Bool×MH×PH,st:=λ⟨op,a,q,k,t,m,h⟩=>bQ 171 175 [(0,pv cb),(2,sv p),(5,.at (.ptr 5 0)),(8,.at (.ptr 8 0)),(10,.at (.ptr 10 0)),(11,sv k),(13,.at (.ptr 13 0)),(59,iv op),(122,bv t)] [(5,.cells 43 (sc.enc.map .val)),(8,.cells 38 (lH.enc.map .val)),(10,.cells 38 (a.enc.map .val)),(13,.cells 38 (q.enc.map .val))] m h}),
  (20,{A:=QV×QV×QV×Sl×Sl×MH×PH,st:=λ⟨a,b,q,k,l,m,h⟩=>bQ 171 175 [(0,pv cb),(2,sv p),(5,.at (.ptr 5 0)),(8,.at (.ptr 8 0)),(10,.at (.ptr 10 0)),(11,sv k),(13,.at (.ptr 13 0)),(15,.at (.ptr 15 0)),(16,sv l)] [(5,.cells 43 (sc.enc.map .val)),(8,.cells 38 (lH.enc.map .val)),(10,.cells 38 (a.enc.map .val)),(13,.cells 38 (q.enc.map .val)),(15,.cells 38 (b.enc.map .val))] m h}),
  (30,{A:=QV×QV×MH×PH,frz:=true,st:=λ⟨a,q,m,h⟩=>bQ 171 175 [(2,sv p),(5,.at (.ptr 5 0)),(8,.at (.ptr 8 0)),(10,.at (.ptr 10 0)),(13,.at (.ptr 13 0))] [(5,.cells 43 (sc.enc.map .val)),(8,.cells 38 (lH.enc.map .val)),(10,.cells 38 (a.enc.map .val)),(13,.cells 38 (q.enc.map .val))] m h})] [] [36,1036,1033] [] false
abbrev Hg(a:PH)(b:QV->Query->MH->PH->Prop):Prop:=∀(x:QV)(d:Query),gA (λe c=>cC a c (bU c d x) (b x d e c))
noncomputable abbrev yJ(a:jE)(b:ca)(c:Query):Int:=(dZ a b c).2
abbrev CS(a:cz)(b:PH)(c:jE->ca->Query->Prop):Prop:=Ev (λx d=>∃(e:QV),Ik (λf g=>∃(j:Query),aA (a=cJ x::fF d (cN e)) (gZ b f x) (aA (Ints b d g) (bU b j e) (c f g j))))
noncomputable abbrev tV(a:Int×Int×QV×QV×Sl×MH×PH):Sl×MH×PH:=a.2.2.2.2
abbrev gL(a b:QV):Prop:=nL 38 a.enc=nL 38 b.enc
abbrev oE(a:cw)(b:QV):Prop:=oQ 38 a=nL 38 b.enc
noncomputable abbrev Hs(a:Int)(b:cw):cw:=cO fD fD (cO (gC a) fD (cO aQz fD (cO (gC a) fD (cO fD aQz (cO FU FU (cO FU FU (cO FU fD b)))))))
abbrev CX(a:Prop)(b:Nat)(c d e:Sl)(g:Prop):Prop:=aA a (cR b) (aA (aI c) dR (aA eZ sY (aA (bS d e) qS g)))
noncomputable abbrev yY(a:QV×QV×Sl×Int×MH×PH):Int×MH×PH:=a.2.2.2
noncomputable abbrev tX(a:QV×QV×Sl×Int×MH×PH):QV:=a.2.1
noncomputable abbrev Ff(a:QV×QV×Sl×Int×MH×PH):Nat->Nat->Option Value:=(yY a).2.2
noncomputable abbrev jC(a:QV×MH×PH):Nat->Option Obj:=a.2.1
noncomputable abbrev dL(a:QV×MH×PH):Nat->Nat->Option Value:=a.2.2
noncomputable abbrev rQ(a:Int×QV×QV×Sl×Bool×MH×PH):Sl:=a.2.2.2.1
noncomputable abbrev CY(a:Int×QV×QV×Sl×Bool×MH×PH):Bool:=a.2.2.2.2.1
noncomputable abbrev uF(a:Int×QV×QV×Sl×Bool×MH×PH):QV:=a.2.1
noncomputable abbrev qW(a:Int×QV×QV×Sl×Bool×MH×PH):QV:=a.2.2.1
noncomputable abbrev uI(a:Int×QV×QV×Sl×Bool×MH×PH):MH×PH:=a.2.2.2.2.2
noncomputable abbrev kF(a:Int×QV×QV×Sl×Bool×MH×PH):Nat->Nat->Option Value:=(uI a).2
noncomputable abbrev mO(a:QV×QV×QV×Sl×Sl×MH×PH):Sl×MH×PH:=a.2.2.2.2
noncomputable abbrev oJ(a:QV×QV×QV×Sl×Sl×MH×PH):QV:=a.2.2.1
noncomputable abbrev vC(a:QV):Sl:=iA a.args.a a.args
abbrev HC(a:MH->Prop)(b:MH->MH)(c:PH)(d:MH->(QV×QV×MH×PH)->Prop):Prop:=∀(x:MH),a x->Bs (b x) c->∃(e:QV×QV×MH×PH),d x e
abbrev N6(a:Int×Int×QV×QV×Sl×Bool×MH×PH)(b:Int×QV×QV×Sl×Bool×MH×PH)(c:Prop)(d:cE):Prop:=aA (dW a.2.1 b.1) c (aA (cL d) eG (aA (gL (uF a.2) (uF b)) (gL (qW a.2) (qW b)) (aA (bH (uI a.2).1 (uI b)) (kF a.2=kF b) True)))
attribute [push_cast] Hg yJ CS tV gL oE Hs CX yY tX Ff jC dL rQ CY uF qW uI kF mO oJ vC HC N6
def W2(N:Nat)(cb:Nat)(sc:cE)(p:Sl)(deep:Int)(m:MH)(h:PH)(K:bz):Prop:=
  iZ cb 12 m h (λk Z=>aZ deep 1 (iZ cb (ite (mD sc>1) (mD sc) 1) Z h (λF V=>lA F (λt=>K (lS (BD t)) V h))) (cW (fH (1+k)==1) (iZ cb (ite (mD sc>1) (mD sc) 1) Z h (λF V=>lA F (λt=>K (lS (BD t)) V h))) (mD sc==0) (iZ cb (ite (mD sc>1) (mD sc) 1) Z h (λF V=>lA F (λt=>K (lS (BD t)) V h))) (∃(c:Nat),Ev (λs p1=>Ik (λs1 p2=>∃(d:Int),aA (cT cb (cJ sc::iO p (fH (deep-1)))=cT c (cJ s::iO p1 d)) (aL Z h c) (aA (gZ h s1 s) (dK s1=0) (aA (yF (s1.tables=[])) (Ints h p1 p2) (aA (fO p2) (fV (DC p2)) (aA (Int.negSucc 0<=d) (d<=1000) ((d+1).toNat<N/\Hg h (λw q V h1=>QW q->DM d.toNat q->yJ s1 p2 q=0->bF Z V c->aL V h1
 c->CS (cJ sc::fF p (cN w)) h1 (λs2 p3 q1=>iR (λs3 h2=>cC h1 h2 (Ints h2 s3 (dZ s2 p3 q1).1) (∃(I:Int×Int×QV×QV×Sl×MH×PH->Prop),lD (λB u=>rE V u h2 B 38 21 (kP w.enc)->∃(x:Int×Int×QV×QV×Sl×MH×PH),aA (I x) (cR cb) (aA (aI p) (dW deep x.1) (aA dR eZ (aA (dW (fH (1+k)) x.2.1) sY (aA (kE s3 (tV x)) qS (aA (cL sc) eG (aA (gL w x.2.2.1) (oE (cO (gC (fH (1+k))) fD (cO (gC 0) fD (Hs 0 (oD (vK B))))) x.2.2.2.1) (aA (bH u (tV x).2) (h2=fP (tV x)) True))))))))/\∀(x:Int×Int×QV×QV×Sl×MH×PH),I x->∃(I1:QV×QV×MH×PH->Prop),eO x.2.1 3 (iZ cb 3 (eU (tV x)) (fP (tV x)) (λF u=>∃(I2:QV×QV×Sl×Int×MH×PH->Prop)(z:QV
 ×QV×Sl×Int×MH×PH->Nat),(∃(f:QV×QV×Sl×Int×MH×PH),CX (I2 f) cb p (tV x).1 f.2.2.1 (aA (dW F (yY f).1) (cL sc) (aA eG (gL x.2.2.1 f.1) (bP (gL x.2.2.2.1 (tX f)) (bH u (yY f).2) (fP (tV x)=Ff f)))))/\∀(f:QV×QV×Sl×Int×MH×PH),I2 f->gM (yY f).1 0 (iZ cb (aH f.2.2.1) (yY f).2.1 (Ff f) (λP C=>∃(e:List bx),aA (dC C (Dd (tX f)) 3 1 e) (fC (iY e 1*8)) (jQ e/\lD (λB G=>eD C G (Dd (tX f)) B 3 1 (eN e (bG P))->∃(j:QV×QV×Sl×Int×MH×PH),aA (I2 j) (z j<z f) (aA (cR cb) (aI p) (aA dR eZ (aA sY (bS f.2.2.1 j.2.2.1) (aA qS (dW (fH ((yY f).1-1)) (yY j).1) (aA (cL sc) eG
 (aA (gL f.1 j.1) (oE (cO (gC (tX f).op) (pU (tX f)) (tG (tX f) (vK B) (tX f).on (xA (tX f)) (xB (tX f)) (lV (gC (tX f).limit) (Bj (tX f))))) (tX j)) (aA (bH G (yY j).2) (Ff f=Ff j) True))))))))))) (Bs (yY f).2.1 (Ff f)->∃(e:QV×QV×MH×PH),aA (I1 e) (aI p) (aA dR eZ (aA sY qS (aA (cL sc) eG (bP (gL f.1 e.1) (gL (tX f) e.2.1) (sP (yY f).2.1 (Ff f) (jC e.2) (dL e.2))))))))) (∃(I2:Int×Int×QV×QV×Sl×Bool×MH×PH->Prop),eO x.2.1 4 (∃(f:Int×Int×QV×QV×Sl×Bool×MH×PH),aA (I2 f) (cR cb) (aA (aI p) (dW x.1 f.1) (aA dR eZ (aA (dW x.2.1 f.2.1) sY (aA (bS (tV x).1 (rQ f.2)) qS (aA
 (dW x.2.1 f.2.1) (zT (CY f.2)) (aA (cL sc) eG (aA (gL x.2.2.1 (uF f.2)) (gL x.2.2.2.1 (qW f.2)) (aA (bH (eU (tV x)) (uI f.2)) (fP (tV x)=kF f.2) True))))))))) (∃(f:Int×Int×QV×QV×Sl×Bool×MH×PH),aA (I2 f) (cR cb) (aA (aI p) (dW x.1 f.1) (aA dR eZ (aA (dW x.2.1 f.2.1) sY (aA (bS (tV x).1 (rQ f.2)) qS (aA (dW x.2.1 f.2.1) (lC (x.2.1==5) (CY f.2)) (aA (cL sc) eG (aA (gL x.2.2.1 (uF f.2)) (gL x.2.2.2.1 (qW f.2)) (aA (bH (eU (tV x)) (uI f.2)) (fP (tV x)=kF f.2) True)))))))))/\∀(f:Int×Int×QV×QV×Sl×Bool×MH×PH),iU (I2 f) (CY f.2) (∃(A:Nat),Ev (λB J=>Ik (λH L=>∃(Q:Int),aA (cT cb (cJ sc::
 iO p (fH (f.1-2)))=cT A (cJ B::iO J Q)) (aL (uI f.2).1 (kF f.2) A) (aA (gZ (kF f.2) H B) (dK H=0) (aA (yF (H.tables=[])) (Ints (kF f.2) J L) (aA (fO L) (fV (DC L)) (aA (Int.negSucc 0<=Q) (Q<=1000) ((Q+1).toNat<N/\Hg (kF f.2) (λX M u n=>QW M->DM Q.toNat M->yJ H L M=0->bF (uI f.2).1 u A->aL u n A->CS (cJ sc::fF p (cN X)) n (λU p6 q3=>iR (λR S=>cC n S (Ints S R (dZ U p6 q3).1) (∃(I3:QV×QV×QV×Sl×Sl×MH×PH->Prop),eO f.2.1 4 (fA (fH (aH (rQ f.2)+aH R)) 8 (∃(e:QV×QV×QV×Sl×Sl×MH×PH),CX (I3 e) cb p (rQ f.2) e.2.2.2.1 (aA (eP 15) (kE R (mO e)) (aA (cL sc) eG (aA (gL (uF f.2) e.1)
 (oE (cO (gC 5) (pU (qW f.2)) (tG (qW f.2) (uH (qW f.2)) (qW f.2).on (xA (qW f.2)) (xB (qW f.2)) (lV (gC (qW f.2).limit) (Bj (qW f.2))))) (oJ e)) (aA (gL X e.2.1) (bH u (mO e).2) (bN S (fP (mO e)))))))) (∃(e:QV×QV×QV×Sl×Sl×MH×PH),CX (I3 e) cb p (rQ f.2) e.2.2.2.1 (aA (eP 15) (kE R (mO e)) (aA (cL sc) eG (aA (gL (uF f.2) e.1) (gL (qW f.2) (oJ e)) (aA (gL X e.2.1) (bH u (mO e).2) (bN S (fP (mO e))))))))) (∃(e:QV×QV×QV×Sl×Sl×MH×PH),CX (I3 e) cb p (rQ f.2) e.2.2.2.1 (aA (eP 15) (kE R (mO e)) (aA (cL sc) eG (aA (gL (uF f.2) e.1) (gL (qW f.2) (oJ e)) (aA (gL X e.2.1) (bH u (mO e).2)
 (bN S (fP (mO e))))))))/\∀(e:QV×QV×QV×Sl×Sl×MH×PH),I3 e->(∃(E:Nat)(W:Sl),rA (λt a b=>aA (iD cb::fF e.2.2.2.1 (fJ (mO e).1)=iD E::fF W (fJ t)) (aL (eU (mO e)) (fP (mO e)) E) (aA (Ints (fP (mO e)) W a) (Ints (fP (mO e)) t b) (aA (fO a) (fO b) (∀(o:Sl)(T:ce),gA (λz O=>cC (fP (mO e)) O (iF O o T) (T.length<=10->bF (eU (mO e)) z E->aL z O E->lD (λY C=>zU (rE z C O Y 38 21 (kP e.2.1.enc)) (λj=>Bm (dC C (vC (oJ e)) 38 21 j) (λy=>j6 21 y (mJ C O (iA Y.a Y) 21 y) (oL j y 280) (oF j y) (∀(a1:Sl),HC (λG=>eD C G (vC (oJ e)) a1 38 21 (j++y)) (λG=>G) O (λG D=>
 aA (I1 D) (aI p) (aA dR eZ (aA sY qS (aA (cL sc) eG (bP (gL e.1 D.1) (oE (cO (gC (oJ e).op) (pU (oJ e)) (tG (oJ e) (uH (oJ e)) o (xA (oJ e)) (xB (oJ e)) (lV (gC (oJ e).limit) (vK a1)))) D.2.1) (sP G O (jC D.2) (dL D.2))))))))))))))))))/\lD (λW z=>rE (eU (mO e)) z (fP (mO e)) W 38 21 (kP e.2.1.enc)->∃(E:Nat)(Y:Sl),rA (λt a b=>aA (iD cb::fF e.2.2.2.1 (fJ (mO e).1)=iD E::fF Y (fJ t)) (aL z (fP (mO e)) E) (aA (Ints (fP (mO e)) Y a) (Ints (fP (mO e)) t b) (aA (fO a) (fO b) (∀(o:Sl)(T:ce),gA (λC O=>cC (fP (mO e)) O (iF O o T) (T.length<=10->bF z C E->zU (aL C O
 E) (λj=>Bm (dC C (vC (oJ e)) 38 21 j) (λy=>j6 21 y (mJ C O (iA W.a W) 21 y) (oL j y 280) (oF j y) (∀(a1:Sl),HC (λG=>eD C G (vC (oJ e)) a1 38 21 (j++y)) (λG=>G) O (λG D=>aA (I1 D) (aI p) (aA dR eZ (aA sY qS (aA (cL sc) eG (bP (gL e.1 D.1) (oE (cO (gC (oJ e).op) (pU (oJ e)) (tG (oJ e) (uH (oJ e)) o (xA (oJ e)) (xB (oJ e)) (lV (gC (oJ e).limit) (vK a1)))) D.2.1) (sP G O (jC D.2) (dL D.2))))))))))))))))))))))))))))) (∃(I3:Int×QV×QV×Sl×Bool×MH×PH->Prop),cW (f.2.1==6) (∃(e:Int×QV×QV×Sl×Bool×MH×PH),CX (I3 e) cb p (rQ f.2) (rQ e) (N6 f e (zT (CY e)) sc)) (f.2.1==7) (∃(e:Int×QV×QV×Sl
 ×Bool×MH×PH),CX (I3 e) cb p (rQ f.2) (rQ e) (N6 f e (zT (CY e)) sc)) (∃(e:Int×QV×QV×Sl×Bool×MH×PH),CX (I3 e) cb p (rQ f.2) (rQ e) (N6 f e (lC (f.2.1==8) (CY e)) sc))/\∀(e:Int×QV×QV×Sl×Bool×MH×PH),I3 e->cW (CY e) (∃(A:Nat)(B:cE),pW (λJ F=>∃(v:QV),Ik (λH L=>∃(P:ca)(M:Query),aA (cT cb (cJ sc::fJ p::fF (rQ e) (cN (uF e)))=cT A (cJ B::fJ J::fF F (cN v))) (aL (uI e).1 (kF e) A) (aA (gZ (kF e) H B) (mM H) (aA (mG H.tables.length) (Ints (kF e) J L) (aA (fO L) (Ints (kF e) F P) (aA (fO P) (bU (kF e) M v) (QW M/\Hg (kF e) (λX q3 u n=>bCQ H L P M q3->bF (uI e).1
 u A->aL u n A->lD (λU z=>zU (rE u z n U 38 21 (kP X.enc)) (λj=>Bm (dC z (vC (qW e)) 38 21 j) (λy=>j6 21 y (mJ z n (iA U.a U) 21 y) (oL j y 280) (oF j y) (∀(R:Sl),HC (λC=>eD z C (vC (qW e)) R 38 21 (j++y)) (λC=>C) n (λC D=>aA (I1 D) (aI p) (aA dR eZ (aA sY qS (aA (cL sc) eG (bP (gL (uF e) D.1) (oE (qQ (qW e) (vK R)) D.2.1) (sP C n (jC D.2) (dL D.2)))))))))))))))))))) (e.1==9) (∃(A:Nat)(v:QV),CM (λB F=>aA (cT cb (cV (cN (qW e)) (fJ (rQ e)))=cT A (cV (wQ v v (aM (mX (jW v)) (kA (fB v)) (aM (qX (fB v)) (j7 (fB v)) (aM (rK (fB v)) (mX (fB v)) (aM (Cn v) (Cq v) (aM
 (fK v.on) lF (aM lF (Bh v) (bA v.args)))))))) (fJ B))) (aL (uI e).1 (kF e) A) (aA (Ints (kF e) B F) (fO F) (∀(g o:Sl)(P:Int)(g1:ca)(T:cg),gA (λu n=>cC (kF e) n (Ints n g g1) (jT n o T->g1.length<=F.length->T.length<=F.length->bZ P->P<=3->bF (uI e).1 u A->aL u n A->Bs u n->∃(j:QV×QV×MH×PH),aA (I1 j) (aI p) (aA dR eZ (aA sY qS (aA (cL sc) eG (bP (gL (uF e) j.1) (oE (cO (gC v.op) (pU v) (tG v (uH v) v.on (vK g) (vK o) (lV (gC P) (Bj v)))) j.2.1) (sP u n (jC j.2) (dL j.2)))))))))))) (eO e.1 10 (∃(A:Nat)(v:QV),CM (λB F=>aA (cT cb (cV (cN (qW e)) (fJ (rQ e)))=cT A (cV (wQ v v
 (aM (mX (jW v)) (kA (fB v)) (aM (qX (fB v)) (j7 (fB v)) (aM (rK (fB v)) (mX (fB v)) (aM (Cn v) (Cq v) (aM (fK v.on) lF (aM lF (Bh v) (bA v.args)))))))) (fJ B))) (aL (uI e).1 (kF e) A) (aA (Ints (kF e) B F) (fO F) (∀(g o:Sl)(P:Int)(g1:ca)(T:cg),gA (λu n=>cC (kF e) n (Ints n g g1) (jT n o T->g1.length<=F.length->T.length<=F.length->bZ P->P<=3->bF (uI e).1 u A->aL u n A->∃(E:Nat)(H:cE),pW (λJ k3=>∃(v1:QV),Ik (λU L=>∃(k4:ca)(M:Query),aA (cT cb (cJ sc::fJ p::fF (rQ e) (cN (uF e)))=cT E (cJ H::fJ J::fF k3 (cN v1))) (aL u n E) (aA (gZ n U H) (mM U) (aA (mG
 U.tables.length) (Ints n J L) (aA (fO L) (Ints n k3 k4) (aA (fO k4) (bU n M v1) (QW M/\Hg n (λX q3 z S=>bCQ U L k4 M q3->bF u z E->aL z S E->lD (λR C=>zU (rE z C S R 38 21 (kP X.enc)) (λj=>Bm (dC C (vC v) 38 21 j) (λy=>j6 21 y (mJ C S (iA R.a R) 21 y) (oL j y 280) (oF j y) (∀(W:Sl),HC (λG=>eD C G (vC v) W 38 21 (j++y)) (λG=>G) S (λG D=>aA (I1 D) (aI p) (aA dR eZ (aA sY qS (aA (cL sc) eG (bP (gL (uF e) D.1) (oE (cO (gC v.op) (pU v) (tG v (uH v) v.on (vK g) (vK o) (lV (gC P) (vK W)))) D.2.1) (sP G S (jC D.2) (dL D.2))))))))))))))))))))))))) (BZ (λA B t E J Q=>aA (cT cb (fJ (rQ e)::iO
 p 2)=cT A (fJ B::iO t (↑Q:Int))) (aL (uI e).1 (kF e) A) (aA (Ints (kF e) B E) (Ints (kF e) t J) (aA (fO E) (fO J) (mG Q/\BY (kF e) (λv L u n=>Br E J Q L->bF (uI e).1 u A->aL u n A->∀(H:Sl),HC (λz=>rE u z n H 38 21 (kP (uF e).enc)) (λz=>z) n (λz j=>aA (I1 j) (aI p) (aA dR eZ (aA sY qS (aA (cL sc) eG (bP (gL (uF e) j.1) (oE (cO (gC 2) fD (pQ v (cO FU FU (cO FU FU (lV fD (vK H)))))) j.2.1) (sP z n (jC j.2) (dL j.2))))))))))))/\lD (λB u=>rE (uI e).1 u (kF e) B 38 21 (kP (uF e).enc)->BZ (λA H t E J Q=>aA (cT cb (fJ (rQ e)::iO p 2)=cT A (fJ H::iO t (↑Q:
 Int))) (aL u (kF e) A) (aA (Ints (kF e) H E) (Ints (kF e) t J) (aA (fO E) (fO J) (mG Q/\BY (kF e) (λv L z n=>Br E J Q L->bF u z A->aL z n A->Bs z n->∃(j:QV×QV×MH×PH),aA (I1 j) (aI p) (aA dR eZ (aA sY qS (aA (cL sc) eG (bP (gL (uF e) j.1) (oE (cO (gC 2) fD (pQ v (cO FU FU (cO FU FU (lV fD (vK B)))))) j.2.1) (sP z n (jC j.2) (dL j.2))))))))))))))))/\∀(f:QV×QV×MH×PH),I1 f->CS (cJ sc::fF p (cN f.2.1)) (dL f.2) (λB J M=>iR (λH n=>cC (dL f.2) n (Ints n H (dZ B J M).1) (eC (yJ B J M) 0 (K (cN f.1) (jC f.2) n) (K (cN f.2.1) (jC f.2) n))))))))))))))))))
structure jJ(m0 m:MH)(s:Sl)(E:TypeId)(sz:Nat)(xs:List bx):Prop where
 row:dC m s E sz xs
 fresh:∀b i,s.a=some ⟨b,i,none⟩->m0 b=none
def Kept(m0 m:MH)(cb:Nat):Prop:=∀b o,m0 b=some o->b≠cb->m b=some o
theorem Kept.of{m0:MH}(h:bF m0 m cb):Kept m0 m cb:=λb o e n=>by rw[h.other b n];exact e
theorem Kept.on{m0:MH}(k:Kept m0 m cb)(h:bF m m' cb):Kept m0 m' cb:=λb o e n=>by rw[h.other b n];exact k b o e n
theorem aL.blk(c:aL m h cb):∃cs,m cb=some (.cells cs 83 (0,0)):=by
 obtain⟨r,q,cs,k,d,_⟩:=c
 grind
theorem aL.keep(c:aL m h cb)(e:m' cb=m cb)(le:PH.le h h'):aL m' h' cb:=by
 obtain⟨r,q,d,k,j,f,g⟩:=c;exact⟨r,q,d,k,bk,f.mono le,g⟩
theorem Kept.free{m0:MH}(k:Kept m0 m cb)(c:aL m h cb)(d:m b=none):m0 b=none:=by
 cases e:m0 b with
 |none=>rfl
 |some o=>
  by_cases f:b=cb
  .obtain⟨g,j⟩:=c.blk
   grind
  .rw[k b o e f]at d;cases d
theorem dC.nil(m:MH)(E:TypeId)(sz:Nat):dC m bR E sz []:=⟨⟨λ_ h=>by simp at h,λ_ h=>by simp at h⟩,.inl ⟨rfl,rfl⟩⟩
theorem jJ.nil(m0 m:MH)(E:TypeId)(sz:Nat):jJ m0 m bR E sz []:=⟨dC.nil m E sz,λb i e=>by cases e⟩
theorem jJ.on{m0:MH}{s:Sl}{E:TypeId}(r:jJ m0 m s E sz xs)(o:bF m m' cb)(c:aL m h cb)(f:E≠83):jJ m0 m' s E sz xs:=by
 refine⟨dC.keep r.row (λb i e=>o.other b (λg=>?_)),r.fresh⟩;obtain⟨d,j⟩:=dC.blk r.row e;obtain⟨n,u⟩:=c.blk
 grind
theorem jJ.new{m0:MH}{s t:Sl}{E E':TypeId}{c:Nat}{f:List bx}(r:jJ m0 m s E sz xs)(x:rE m m' h t E' c f):jJ m0 m' s E sz xs:=by
 refine⟨dC.keep r.row (λb i e=>x.other b (λj g=>?_)),r.fresh⟩;obtain⟨n,d⟩:=dC.blk r.row e;rw[(x.fresh b j g).m_]at d;cases d
theorem rE.frow{m0:MH}{s:Sl}{E:TypeId}(x:rE m m' h s E sz xs)(k:Kept m0 m cb)(c:aL m h cb):jJ m0 m' s E sz xs:=⟨x.row,λb i e=>k.free c (x.fresh b i e).m_⟩
theorem rE.at_cb{s:Sl}{E:TypeId}(x:rE m m' h s E sz xs)(c:aL m h cb):m' cb=m cb:=x.other cb (λi e=>by
 obtain⟨f,d⟩:=c.blk;rw[(x.fresh cb i e).m_]at d;cases d)
theorem Kept.new{m0:MH}{s:Sl}{E:TypeId}(k:Kept m0 m cb)(x:rE m m' h s E sz xs):Kept m0 m' cb:=λb o e n=>by
 rw[x.other b (λi c=>by have:=(x.fresh b i c).m_;rw[k b o e n]at this;cases this)];exact k b o e n
theorem jJ.grown{m0:MH}{s f:Sl}{E:TypeId}{g:List bx}(r:jJ m0 m s E sz xs)(x:eD m m' s f E sz g)(k:Kept m0 m cb)(c:aL m h cb):jJ m0 m' f E sz g:=
 ⟨x.row,λb i e=>by
  rcases x.fresh b i e with d|⟨j,d⟩
  .exact k.free c d
  .exact r.fresh b j d⟩
theorem jJ.apart{m0:MH}{s t g:Sl}{E E':TypeId}{c:Nat}{n o:List bx}(r:jJ m0 m s E sz xs)(q:jJ m0 m t E' c n)(x:eD m m' t g E' c o)(z:E≠E'):jJ m0 m' s E sz xs:=by
 refine⟨dC.keep r.row (λb i e=>?_),r.fresh⟩;obtain⟨u,d⟩:=dC.blk r.row e;rw[d];refine x.other b _ d (λj y=>?_);obtain⟨f,A⟩:=dC.blk q.row y
 grind
theorem Kept.grown{m0:MH}{s c:Sl}{E:TypeId}{d:List bx}(k:Kept m0 m cb)(r:jJ m0 m s E sz xs)(x:eD m m' s c E sz d):Kept m0 m' cb:=λb o e n=>x.other b o (k b o e n) (λi f=>by rw[r.fresh b i f]at e;cases e)
theorem eD.at_cb{m0:MH}{s d:Sl}{E:TypeId}{f:List bx}(x:eD m m' s d E sz f)(r:jJ m0 m s E sz xs)(c:aL m h cb)(n:E≠83):m' cb=m cb:=by
 obtain⟨o,e⟩:=c.blk;rw[e];refine x.other cb _ e (λi g=>?_);obtain⟨j,u⟩:=dC.blk r.row g
 grind
theorem a3X{sz:Nat}:∀{xs:List bx},(∀e∈xs,e.length=sz)->xs.flatten.length=xs.length*sz
 |[],_=>bf
 |x::xs,h=>by
  simp only[flatten_cons,length_append,length_cons];rw[a3X (λe c=>h e (by simp[c])),h x bf,Nat.add_mul];omega
theorem dC.src{s:Sl}{E:TypeId}{x:bx}(r:dC m s E sz (x::xs)):mJ m h s sz (x::xs):=by
 rcases r.ex with⟨_,e⟩|⟨b,d,c,rfl,f,_,_,_,g⟩
 .cases e
 .exact .lent b 0 c E (0,0) rfl rfl f bk
def kZ(m0 m:MH):MH:=λb=>match m0 b with|some _=>m b|none=>none
def oO(m0 m:MH)(h:PH):PH:=λb i=>match m0 b,m b with|none,some (.cells c _ _)=>c[i]? |_,_=>h b i
theorem zB{m0 m:MH}{h:PH}(d:Bs m h):PH.le h (oO m0 m h):=⟨λb i v e=>by
 unfold oO;split
 .rename_i f E g j c;rw[d.disj b _ c i]at e;cases e
 .exact e⟩
theorem aIZ{m0:MH}(d:Bs m h):sP m h (kZ m0 m) (oO m0 m h):=by
 refine⟨λb o e=>?_,zB d,λb i v e=>?_⟩
 .unfold kZ at e
  grind
 .unfold oO at e;split at e
  .rename_i c E f g j;exact .inr ⟨c,E,f,j,e,by unfold kZ;rw[g]⟩
  grind
theorem FT{p:Prop}(h:p:=by repeat' (first|with_reducible rfl|exact trivial|exact aIZ (by assumption)|refine⟨?_,?_⟩|rfl)):p:=h
theorem jJ.ice{m0 m:MH}{h:PH}{s:Sl}{E:TypeId}{sz:Nat}{xs:List bx}(r:jJ m0 m s E sz xs):cD (oO m0 m h) s sz xs:=by
 rcases r.row.ex with⟨rfl,rfl⟩|⟨b,f,g,rfl,x,c,_,_,n⟩
 .exact cD.nil _ _
 .have y:=r.fresh b 0 rfl;refine⟨rfl,.inr ⟨b,0,rfl,λi e o=>⟨λj v u=>?_⟩⟩,c⟩;have d:=mY r.row.rows.len o j v u;rw[<-n,getElem?_take]at d;split at d
  .unfold oO
   grind
  .cases d
theorem keep_other{m0:MH}(k:Kept m0 m cb):bF m0 (kZ m0 m) cb:=⟨λb c=>by
 unfold kZ;cases e:m0 b with
 |none=>rfl
 |some o=>exact k b o e c⟩
theorem RH{m0:MH}(c:aL m h cb)(e:m0 cb≠none)(d:Bs m h):aL (kZ m0 m) (oO m0 m h) cb:=c.keep (by
 unfold kZ
 grind) (zB d)
def QA(d:Nat)(q:Query):Prop:=QW q/\UW d q
structure QM(d:Nat)(m0 m:MH)(h:PH)(v:QV)(vs:db):Prop where
 wher:∃w,dD h w v.where_/\Dt w
 cols:∃co:ca,jJ m0 m v.columns 3 1 (co.map eI)/\co.length<=1000
 on_:∃l,iF h v.on l
 group_:∃l,Ints h v.group l
 order_:∃l,jT h v.order l
 args_:jJ m0 m v.args 38 21 (vs.map QV.enc)
 len_:vs.length<=2
 reps:∀v∈vs,∃q,bU h q v/\QA d q
theorem Vs{d:Nat}{h:PH}:∀{vs:db},(∀v∈vs,∃q,bU h q v/\QA d q)->∃c:ci,c.length=vs.length/\(∀q∈c,QA d q)/\∀(i:Nat) q,c[i]? =some q->∃v,vs[i]? =some v/\bU h q v
 |[],_=>⟨[],rfl,λq f=>by simp at f,λi q e=>by simp at e⟩
 |v::vs,g=>by
  obtain⟨q,f,j⟩:=g v bf;obtain⟨c,n,y,z⟩:=Vs (vs:=vs) (λu o=>g u (by simp[o]));refine⟨q::c,by simp[n],λx A=>bk,λi x e=>?_⟩
  grind
theorem QM.ice{n:Nat}{m0:MH}{vs:db}(x:QM n m0 m h v vs)(d:Bs m h):∃q,bU (oO m0 m h) q v/\QW q/\DM (n+1) q:=by
 obtain⟨w,o,c⟩:=x.wher;obtain⟨co,u,y⟩:=x.cols;obtain⟨on,z⟩:=x.on_;obtain⟨gr,A⟩:=x.group_;obtain⟨od,f⟩:=x.order_;obtain⟨D,B,j,C⟩:=Vs x.reps;have le:=zB (m0:=m0) d;have E:=x.len_;exact⟨_,kW.rep ⟨rfl,rfl,o.mono le,⟨u.ice,aD⟩,z.mono le,A.mono le,f.mono le,rfl,⟨⟨vs,x.args_.ice,B,λi q e=>let⟨v,k1,k2⟩:=C i q e;⟨v,k1,k2.mono le⟩⟩,aD⟩⟩,LD.2 ⟨c,λa g=>(j a g).1⟩,DM.node (λa g=>(j a g).2) aD⟩
theorem QM.on{n:Nat}{m0:MH}{vs:db}(x:QM n m0 m h v vs)(o:bF m m' cb)(c:aL m h cb)(le:PH.le h h'):QM n m0 m' h' v vs:=by
 obtain⟨w,j,d⟩:=x.wher;obtain⟨co,u,f⟩:=x.cols;obtain⟨on,y⟩:=x.on_;obtain⟨gr,z⟩:=x.group_;obtain⟨od,g⟩:=x.order_;exact⟨⟨w,j.mono le,d⟩,⟨co,u.on o c bg,f⟩,⟨on,y.mono le⟩,⟨gr,z.mono le⟩,⟨od,g.mono le⟩,x.args_.on o c bg,x.len_,λv A=>let⟨q,e,ew⟩:=x.reps v A;⟨q,e.mono le,ew⟩⟩
theorem QM.new{d:Nat}{m0:MH}{vs:db}{t:Sl}{E:TypeId}{j:List bx}(x:QM d m0 m h v vs)(n:rE m m' h' t E sz j)(le:PH.le h h'):QM d m0 m' h' v vs:=by
 obtain⟨w,o,c⟩:=x.wher;obtain⟨co,u,f⟩:=x.cols;obtain⟨on,y⟩:=x.on_;obtain⟨gr,z⟩:=x.group_;obtain⟨od,g⟩:=x.order_;exact⟨⟨w,o.mono le,c⟩,⟨co,u.new n,f⟩,⟨on,y.mono le⟩,⟨gr,z.mono le⟩,⟨od,g.mono le⟩,x.args_.new n,x.len_,λv A=>let⟨q,e,ew⟩:=x.reps v A;⟨q,e.mono le,ew⟩⟩
theorem QM.grow{d:Nat}{m0:MH}{e:QV}{vs:db}{j:Sl}{u:QV}(x:QM d m0 m h v vs)(g:eD m m' v.args j 38 21 (vs.map QV.enc++[u.enc]))(k:Kept m0 m cb)(c:aL m h cb)(F:∃q,bU h q u/\QA d q)(G:vs.length<=1)
 (o:e.where_=v.where_)(y:e.columns=v.columns)(z:∃l,iF h e.on l)(A:∃l,Ints h e.group l)(B:∃l,jT h e.order l)(C:e.args=j):QM d m0 m' h e (vs++[u]):=by
 obtain⟨co,D,f⟩:=x.cols;refine⟨by rw[o];exact x.wher,⟨co,by rw[y];exact D.apart x.args_ g bg,f⟩,z,A,B,by rw[C,map_append];exact x.args_.grown g k c,bj,λv E=>?_⟩;rcases mem_append.1 E with n|n
 .exact x.reps v n
 grind
theorem ajX(h:dK s=0):DK s:=Classical.byContradiction λc=>by rw[wZ c]at h;cases h
theorem Eg(h:dK s=0):mM s:=λt c=>by
 obtain⟨i,d⟩:=mem_iff_getElem?.1 c;have:=(ajX h).2 i t d;exact this.1
theorem XL(h:dK s=0):s.tables.length<=8:=(ajX h).1
theorem OU(s:jE)(ps:ca)(q:Query):(dZ s ps q).1.length<=12:=by
 unfold dZ;split
 .split
  .split
   .exact kN s ps q
   .simp[dV]
  .simp[dV]
 .simp[dV]
theorem ajZ{t:Int}(c:dK s=0)(d:ps.all dJ=true)(e:0<=t)(f:t<s.tables.length):(dZ s ps (.mk 1 t eW [] [] [] [] 0 [])).2=0:=by
 have g:=Eg c
 have u:(jR s t).length<=12:=by
  unfold jR;split
  .simp
  .split
   .simp
   .rename_i x j;have:=g x (mem_of_getElem? j);simp;omega
 have n:aJ s ps (.mk 1 t eW [] [] [] [] 0 [])=dY s ps (.mk 1 t eW [] [] [] [] 0 []) [] []:=by simp[aJ,eX,arity]
 have o:nC (.mk 1 t eW [] [] [] [] 0 [])=true:=by rfl
 unfold dZ;rw[if_pos c,if_pos d,if_pos o,n];unfold dY;rw[if_neg (by simp[arity,cH])];simp only[if_true];rw[if_pos ⟨e,f⟩];unfold lL
 grind
structure Mid(m0:MH)(h3:PH)(cb:Nat)(a q:QV)(mx:MH):Prop where
 case_:aL mx h3 cb
 kept:Kept m0 mx cb
 ex:∃o args,q=⟨o,0,fT,bR,bR,bR,bR,0,args⟩/\jJ m0 mx args 38 21 ([a].map QV.enc)
theorem Mid.qm{d:Nat}{m0 e:MH}{c:PH}{a q:QV}(x:Mid m0 c cb a q e)(j:∃f,bU c f a/\QA d f):QM d m0 e c q [a]:=by
 obtain⟨o,args,rfl,g⟩:=x.ex;exact⟨⟨_,DN c,pK⟩,⟨[],jJ.nil _ _ _ _,bf⟩,⟨_,uT _⟩,⟨_,pF _⟩,⟨_,uS _⟩,g,bf,λv n=>bk⟩
theorem asQ:∀N,bu 10 (aeZ N)
 |0=>by
  refine dU (fn:=Tryz.f10) (c:=bW Tryz.f10) func10 rfl bg ?_;rintro c0 m h K ⟨cb,sc,p,s,ps,deep,rfl,_,_,_,_,_,_,_,_,_,hN,_⟩;omega
 |N+1=>by
  refine hU func10 ?_;rintro c0 m h K ⟨cb,sc,p,s,ps,deep,rfl,hc,hs,he,b',hp,a0,a7,d0,d1,hN,hK⟩;refine⟨b7Z N cb sc p,rfl,aE IL (aE RZ (aE R0 (aE aOX (aE aOQ (aE aNJ (aE L5 (aE (asQ N) aG))))))),W2 N cb sc p deep m h K,bd,?_⟩;have f3:=hs.tables.slen;have h8:=Eg he;have f4:=XL he;have f5:0<s.tables.length:=length_pos_iff.2 b';have d':(if(sc.tables.len:Int)>1 then(sc.tables.len:Int)else 1)=(sc.tables.len:Int):=by omega
  have d2:m cb≠none:=by obtain⟨cs,e⟩:=hc.blk;rw[e];simp
  dsimp only[W2,push_cast];rw[d'];refine⟨cb,12,rfl,hc,λk m1 k0 k1 o1 c1=>?_⟩;refine aF (λhd=>?_) (λhd=>aC (λ_=>?_) (λ_=>aC (λ_=>?_) (λ_=>?_)))
  .exact⟨cb,_,rfl,c1,λG m2 b0 d3 o2 c2=>⟨G,rfl,hK _ _ m2 h (.refl _) (AS h G) (Jz G) (DM.mono (d:=0) uE.scan (Nat.zero_le _)) (ajZ he a7 b0 aD) (o1.trans o2) c2⟩⟩
  .exact⟨cb,_,rfl,c1,λG m2 b0 d3 o2 c2=>⟨G,rfl,hK _ _ m2 h (.refl _) (AS h G) (Jz G) (DM.mono (d:=0) uE.scan (Nat.zero_le _)) (ajZ he a7 b0 aD) (o1.trans o2) c2⟩⟩
  .grind
  have d4:IntKind.i64.wrap (deep-1)=deep-1:=eH aD aD;have d5:IntKind.i64.wrap (deep-2)=deep-2:=eH aD aD;rw[d4];refine⟨cb,sc,p,s,ps,deep-1,rfl,c1,hs,he,b',hp,a0,a7,aD,aD,aD,λa qa m2 h2 b1 ra b6 a3 d6 o2 c2=>⟨sc,p,a,s,ps,qa,rfl,hs.mono b1,hp.mono b1,ra,λkk h3 b3 ik=>?_⟩⟩;have d7:=OU s ps qa;obtain⟨T,d8⟩:∃T,(deep-1).toNat=T:=⟨_,rfl⟩
  have d9:deep.toNat=T+1:=by omega
  rw[d8]at a3;have U:QA T qa:=⟨b6,a3.arg⟩
  generalize e':(dZ s ps qa).fst=ks at ik d7;clear e';have A:PH.le h h3:=b1.trans b3;have V:bU h3 qa a:=ra.mono b3;refine⟨λ⟨d,op,D,q,H,mx,I⟩=>d=deep/\D=a/\H=kk/\I=h3/\Mid m h3 cb a q mx,λM m3 j=>⟨(deep,IntKind.i64.wrap (1+k),a,⟨IntKind.i64.wrap (1+k),0,fT,bR,bR,bR,bR,0,M⟩,kk,m3,h3),⟨rfl,rfl,rfl,rfl,?_⟩,MT⟩,?_⟩
  .have G:=(Kept.of o1).on o2;have c3:=c2.mono b3;exact⟨c3.keep (rE.at_cb j c3) (.refl _),G.new j,_,_,rfl,rE.frow j G c3⟩
  rintro⟨deep,op,D,q,H,mx,I⟩ ⟨rfl,rfl,rfl,rfl,y⟩;dsimp only;have E:∀(q:QV)(vs:db)(B:MH)(C:PH),PH.le I C->Kept m B cb->aL B C cb->QM T m B C q vs->Bs B C->PH.le I (oO m B C)/\bF m (kZ m B) cb/\aL (kZ m B) (oO m B C) cb/\∃qq,bU (oO m B C) qq q/\QW qq/\DM (T+1) qq:=λq vs B C l k c x d=>⟨l.trans (zB d),keep_other k,RH c d2 d,x.ice d⟩
  have join:∀(q:QV)(u:QV)(M:Sl)(B:MH)(C:PH)(Q:Sl->MH->Prop),PH.le I C->Kept m B cb->aL B C cb->QM T m B C q [D]->jJ m B M 38 21 [u.enc]->(∃qu,bU C qu u/\QA T qu)->
   (∀J m',(∀q':QV,q'.where_=q.where_->q'.columns=q.columns->(∃l,iF C q'.on l)->(∃l,Ints C q'.group l)->(∃l,jT C q'.order l)->q'.args=J->QM T m m' C q' [D,u])->Kept m m' cb->aL m' C cb->Q J m')->
   ∃xs,dC B ⟨q.args.a,q.args.len,q.args.cap⟩ 38 21 xs/\∃ys,jI 21 ys/\mJ B C ⟨M.a,M.len,M.cap⟩ 21 ys/\(xs.length+ys.length)*280<=140737488355328/\xs.length+ys.length<=140737488355328/\∀(J:Sl)(m':MH),eD B m' ⟨q.args.a,q.args.len,q.args.cap⟩ J 38 21 (xs++ys)->Q J m':=
   λq u M B C Q l k c x f hu hQ=>⟨_,x.args_.row,[u.enc],F7 [u],dC.src f.row,bf,bf,λJ m' g=>hQ J m' (λq' e1 e2 e3 e4 e5 e6=>x.grow g k c hu bf e1 e2 e3 e4 e5 e6) (k.grown x.args_ g) (c.keep (eD.at_cb g x.args_ c bg) (.refl _))⟩
  refine⟨λ⟨W,q,B,C⟩=>W=D/\PH.le I C/\bF m B cb/\aL B C cb/\∃qq,bU C qq q/\QW qq/\DM (T+1) qq,aC (λ_=>?_) (λ_=>?_),?_⟩
  ·
   refine⟨cb,3,rfl,y.case_,λn m3 n0 n1 o3 c3=>?_⟩;refine⟨λ⟨W,q,G,n,B,C⟩=>W=D/\G=H/\C=I/\ -1<=n/\n<=2/\aL B I cb/\Kept m B cb/\QM T m B I q [D]/\∃co:ca,jJ m B q.columns 3 1 (co.map eI)/\(co.length:Int)<=2-n,λ⟨_,_,_,n,_,_⟩=>(n+1).toNat,⟨(D,q,H,n,m3,I),⟨rfl,rfl,rfl,aD,aD,c3,y.kept.on o3,(y.qm ⟨qa,V,U⟩).on o3 y.case_ (.refl _),[],?_,bj⟩,MT⟩,?_⟩
   .obtain⟨o,args,rfl,hf⟩:=y.ex;exact jJ.nil _ _ _ _
   clear y q c3 o3 m3 n0 n1 n;rintro⟨W,q,G,n,B,C⟩ ⟨rfl,rfl,rfl,n0,n1,cy,ky,qm,co,b7,f2⟩;dsimp only;refine aF (λhn=>⟨cb,_,rfl,cy,λc m4 _ _ o4 c4=>⟨_,(b7.on o4 cy bg).row,bj,bj,λJ X g=>?_⟩⟩) (λhn d=>⟨(W,q,kZ m B,oO m B C),⟨rfl,E q _ B C (.refl _) ky cy qm d⟩,FT⟩);have O:=b7.on o4 cy bg;have q4:=qm.on o4 cy (.refl _);have k4:=ky.on o4;have a4:jJ m X J 3 1 ((co++[c]).map eI):=by rw[map_append];exact O.grown g k4 c4
   have e0:IntKind.i64.wrap (n-1)=n-1:=eH aD aD;rw[e0];refine⟨(W,{q with columns:=J},G,n-1,X,C),⟨rfl,rfl,rfl,bk,bk,c4.keep (eD.at_cb g O c4 bg) (.refl _),k4.grown O g,⟨q4.wher,⟨_,a4,bj⟩,q4.on_,q4.group_,q4.order_,q4.args_.apart O g bg,q4.len_,q4.reps⟩,_,a4,bj⟩,bk,MT⟩
  .refine⟨λ⟨d,op,W,q,G,t,B,C⟩=>d=deep/\W=D/\G=H/\C=I/\Mid m I cb D q B,aC (λ_=>⟨(deep,op,D,q,H,true,mx,I),⟨rfl,rfl,rfl,rfl,y⟩,MT⟩) (λ_=>⟨(deep,op,D,q,H,op==5,mx,I),⟨rfl,rfl,rfl,rfl,y⟩,MT⟩),?_⟩;clear y q mx;rintro⟨deep,op,D,q,H,t,mx,I⟩ ⟨rfl,rfl,rfl,rfl,y⟩;dsimp only;refine aC (λ_=>?_) (λ_=>?_)
   ·
    rw[d5];refine⟨cb,sc,p,s,ps,deep-2,rfl,y.case_,hs.mono A,he,b',hp.mono A,a0,a7,aD,aD,aD,λb qb X P z rb b8 e7 _ o5 Y=>⟨sc,p,b,s,ps,qb,rfl,hs.mono (A.trans z),hp.mono (A.trans z),rb,λl h6 L il=>?_⟩⟩;have b9:QA T qb:=⟨b8,(e7.mono aD).arg⟩
    have e8:=OU s ps qb;generalize f6:(dZ s ps qb).fst=ls at il e8;have R:QM T m X h6 q [D]:=(y.qm ⟨qa,V,U⟩).on o5 y.case_ (z.trans L);have k6:=y.kept.on o5;have S:=Y.mono L;refine⟨λ⟨W,b2,q,G,l2,B,C⟩=>W=D/\b2=b/\G=H/\l2=l/\C=h6/\aL B h6 cb/\Kept m B cb/\QM T m B h6 q [D],aC (λ_=>aF (λ_=>⟨(D,b,{q with op:=5},H,l,X,h6),⟨rfl,rfl,rfl,rfl,rfl,S,k6,⟨R.wher,R.cols,R.on_,R.group_,R.order_,R.args_,R.len_,R.reps⟩⟩,MT⟩) (λ_=>⟨(D,b,q,H,l,X,h6),⟨rfl,rfl,rfl,rfl,rfl,S,k6,R⟩,MT⟩)) (λ_=>⟨(D,b,q,H,l,X,h6),⟨rfl,rfl,rfl,rfl,rfl,S,k6,R⟩,MT⟩),?_⟩;have c':=rb.mono L;have a1:PH.le I h6:=z.trans L;clear R k6 S o5 Y rb z y q;rintro⟨W,b,q,G,l,B,h6⟩ ⟨rfl,rfl,rfl,rfl,rfl,S,k6,R⟩;dsimp only;refine⟨⟨cb,G,l,ks,ls,rfl,S,ik.mono a1,il,aD,aD,λo on m7 h7 F b4 _ o7 c7 M m8 j=>?_⟩,λM m7 j=>⟨cb,G,l,ks,ls,rfl,S.keep (rE.at_cb j S) (.refl _),ik.mono a1,il,aD,aD,λo on m8 h7 F b4 _ o8 c8=>?_⟩⟩
    .have k7:=k6.on o7;refine join q b M m8 h7 _ (a1.trans F) (k7.new j) (c7.keep (rE.at_cb j c7) (.refl _)) ((R.on o7 S F).new j (.refl _)) (rE.frow j k7 c7) ⟨qb,c'.mono F,b9⟩ (λJ m9 hq k9 c9 d=>?_);exact⟨(W,{q with on:=o,args:=J},kZ m m9,oO m m9 h7),⟨rfl,E _ _ m9 h7 (a1.trans F) k9 c9 (hq {q with on:=o,args:=J} rfl rfl ⟨on,b4⟩ (let⟨l,e⟩:=R.group_;⟨l,e.mono F⟩) (let⟨l,e⟩:=R.order_;⟨l,e.mono F⟩) rfl) d⟩,FT⟩
    .have k7:=k6.new j;have c7:aL m7 h6 cb:=S.keep (rE.at_cb j S) (.refl _);have k8:=k7.on o8;refine join q b M m8 h7 _ (a1.trans F) k8 c8 ((R.new j (.refl _)).on o8 c7 F) ((rE.frow j k6 S).on o8 c7 bg) ⟨qb,c'.mono F,b9⟩ (λJ m9 hq k9 c9 d=>?_);exact⟨(W,{q with on:=o,args:=J},kZ m m9,oO m m9 h7),⟨rfl,E _ _ m9 h7 (a1.trans F) k9 c9 (hq {q with on:=o,args:=J} rfl rfl ⟨on,b4⟩ (let⟨l,e⟩:=R.group_;⟨l,e.mono F⟩) (let⟨l,e⟩:=R.order_;⟨l,e.mono F⟩) rfl) d⟩,FT⟩
   .refine⟨λ⟨op,W,q,G,t,B,C⟩=>W=D/\G=H/\C=I/\Mid m I cb D q B,aC (λ_=>⟨(op,D,q,H,true,mx,I),⟨rfl,rfl,rfl,y⟩,MT⟩) (λ_=>aC (λ_=>⟨(op,D,q,H,true,mx,I),⟨rfl,rfl,rfl,y⟩,MT⟩) (λ_=>⟨(op,D,q,H,op==8,mx,I),⟨rfl,rfl,rfl,y⟩,MT⟩)),?_⟩;clear y q mx;rintro⟨op,D,q,H,t,mx,I⟩ ⟨rfl,rfl,rfl,y⟩;dsimp only;have q3:=y.qm ⟨qa,V,U⟩;refine aC (λ_=>?_) (λ_=>aC (λ_=>?_) (λ_=>aC (λ_=>?_) (λ_=>?_)))
    ·
     refine⟨cb,sc,p,H,D,s,ps,ks,qa,rfl,y.case_,hs.mono A,h8,aD,hp.mono A,a0,ik,aD,V,U.1,λw qw X P z e9 a5 o5 Y M m6 j=>?_⟩;have k5:=y.kept.on o5;refine join q w M m6 P _ z (k5.new j) (Y.keep (rE.at_cb j Y) (.refl _)) ((q3.on o5 y.case_ z).new j (.refl _)) (rE.frow j k5 Y) ⟨qw,e9,a5.qw,a5.siz T a3⟩ (λJ m9 hq k9 c9 d=>?_);have Z:=q3.on o5 y.case_ z;exact⟨(D,{q with args:=J},kZ m m9,oO m m9 P),⟨rfl,E _ _ m9 P z k9 c9 (hq {q with args:=J} rfl rfl Z.on_ Z.group_ Z.order_ rfl) d⟩,FT⟩
    ·
     obtain⟨o,args,rfl,hf⟩:=y.ex;refine⟨cb,⟨o,0,fT,bR,bR,bR,bR,0,args⟩,H,ks,rfl,y.case_,ik,aD,λg od kk gr a8 X P z hg a9 _ _ _ _ o5 Y d=>?_⟩;have Z:=q3.on o5 y.case_ z;exact⟨(D,⟨o,0,fT,bR,bR,g,od,kk,args⟩,kZ m X,oO m X P),⟨rfl,E _ [D] X P z (y.kept.on o5) Y ⟨Z.wher,Z.cols,Z.on_,⟨gr,hg⟩,⟨a8,a9⟩,Z.args_,Z.len_,Z.reps⟩ d⟩,FT⟩
    ·
     obtain⟨o,args,rfl,hf⟩:=y.ex;refine⟨cb,⟨o,0,fT,bR,bR,bR,bR,0,args⟩,H,ks,rfl,y.case_,ik,aD,λg od kk gr a8 X P z hg a9 _ _ _ _ o5 Y=>?_⟩;have Z:=q3.on o5 y.case_ z;have f':QM T m X P ⟨o,0,fT,bR,bR,g,od,kk,args⟩ [D]:=⟨Z.wher,Z.cols,Z.on_,⟨gr,hg⟩,⟨a8,a9⟩,Z.args_,Z.len_,Z.reps⟩
     refine⟨cb,sc,p,H,D,s,ps,ks,qa,rfl,Y,hs.mono (A.trans z),h8,aD,hp.mono (A.trans z),a0,ik.mono z,aD,V.mono z,U.1,λw qw m6 h6 L f0 a5 o6 S M m7 j=>?_⟩;have k6:=(y.kept.on o5).on o6;refine join ⟨o,0,fT,bR,bR,g,od,kk,args⟩ w M m7 h6 _ (z.trans L) (k6.new j) (S.keep (rE.at_cb j S) (.refl _)) ((f'.on o6 Y L).new j (.refl _)) (rE.frow j k6 S) ⟨qw,f0,a5.qw,a5.siz T a3⟩ (λJ m9 hq k9 c9 d=>?_);exact⟨(D,⟨o,0,fT,bR,bR,g,od,kk,J⟩,kZ m m9,oO m m9 h6),⟨rfl,E _ _ m9 h6 (z.trans L) k9 c9 (hq ⟨o,0,fT,bR,bR,g,od,kk,J⟩ rfl rfl ⟨_,uT _⟩ ⟨gr,hg.mono L⟩ ⟨a8,a9.mono L⟩ rfl) d⟩,FT⟩
    ·
     refine⟨⟨cb,H,p,ks,ps,2,rfl,y.case_,ik,hp.mono A,aD,a0,aD,λpv pp X P z rp b5 o5 Y M m6 j d=>?_⟩,λM X j=>⟨cb,H,p,ks,ps,2,rfl,y.case_.keep (rE.at_cb j y.case_) (.refl _),ik,hp.mono A,aD,a0,aD,λpv pp m6 P z rp b5 o6 S d=>?_⟩⟩
     .have k5:=y.kept.on o5;exact⟨(D,⟨2,0,pv,bR,bR,bR,bR,0,M⟩,kZ m m6,oO m m6 P),⟨rfl,E _ [D] m6 P z (k5.new j) (Y.keep (rE.at_cb j Y) (.refl _)) ⟨⟨pp,rp,b5.vals⟩,⟨[],jJ.nil _ _ _ _,bf⟩,⟨_,uT _⟩,⟨_,pF _⟩,⟨_,uS _⟩,rE.frow j k5 Y,bf,λv hv=>by simp at hv;subst hv;exact⟨qa,V.mono z,U⟩⟩ d⟩,FT⟩
     .have k5:=y.kept.new j;have Y:aL X I cb:=y.case_.keep (rE.at_cb j y.case_) (.refl _);exact⟨(D,⟨2,0,pv,bR,bR,bR,bR,0,M⟩,kZ m m6,oO m m6 P),⟨rfl,E _ [D] m6 P z (k5.on o6) S ⟨⟨pp,rp,b5.vals⟩,⟨[],jJ.nil _ _ _ _,bf⟩,⟨_,uT _⟩,⟨_,pF _⟩,⟨_,uS _⟩,(rE.frow j y.kept y.case_).on o6 Y bg,bf,λv hv=>by simp at hv;subst hv;exact⟨qa,V.mono z,U⟩⟩ d⟩,FT⟩
  .rintro⟨W,q,B,C⟩ ⟨rfl,a6,oy,cy,qq,rq,f1,f7⟩;dsimp only;refine⟨sc,p,q,s,ps,qq,rfl,hs.mono (A.trans a6),hp.mono (A.trans a6),rq,λsl P z _=>aC (λe=>?_) (λe=>?_)⟩
   .exact hK W qa B P ((A.trans a6).trans z) ((V.mono a6).mono z) U.1 (by rw[d9];exact a3.mono aD) d6 oy (cy.mono z)
   .exact hK q qq B P ((A.trans a6).trans z) (rq.mono z) f1 bk (bt e) oy (cy.mono z)
mutual
def vO(st:List cd):Query->cd
 |.mk op ta w co on gr od li args=>if op=1 then st.getD ta.toNat []else opF op (.mk op ta w co on gr od li args) (Js st args)
def Js(st:List cd):ci->List cd
 |[]=>[]
 |q::qs=>vO st q::Js st qs
end
structure GP(st ls:List cd)(k:Nat)(ts:ca):Prop where
 at_:∀(j:Nat)(t:Int),ts[j]? =some t->ls.getD (k+j) []=st.getD t.toNat []
theorem GP.left{st ls:List cd}{k:Nat}{b:ca}(x:GP st ls k (a++b)):GP st ls k a:=
 ⟨λj t h=>x.at_ j t bk⟩
theorem GP.right{st ls:List cd}{k:Nat}{b:ca}(x:GP st ls k (a++b)):GP st ls (k+a.length) b:=
 ⟨λj t h=>by
  have:=x.at_ (a.length+j) t bk
  grind⟩
theorem Ly{args:ci}{c:List ca}(d:eX s ps args=(c,0))(e:(c.length:Int)=arity 1):args=[]:=by
 cases args with
 |nil=>rfl
 |cons q f=>obtain⟨_,_,_,_,rfl⟩:=pE d;simp[arity]at e;omega
mutual
theorem Tm{s:jE}{ps:ca}{st ls:List cd}:∀{q:Query}{ks:ca}{k:Nat},aJ s ps q=(ks,0)->GP st ls k (qM q)->Bw ls q k=(vO st q,k+(qM q).length)
 |.mk op ta w co on gr od li args,ks,k,h,c=>by
  obtain⟨g,f,j,o⟩:=xJ h;by_cases e:op=1
  .subst e;have n:=Ly f j;subst n;have d:qM (.mk 1 ta w co on gr od li [])=[ta]:=by simp[qM,lT]
   rw[d]at c⊢
   have:=c.at_ 0 ta rfl;rw[Nat.add_zero]at this;rw[Bw,vO,if_pos rfl,if_pos rfl,this];rfl
  .have d:qM (.mk op ta w co on gr od li args)=lT args:=by simp[qM,e]
   rw[d]at c⊢
   rw[Bw,vO,if_neg e,if_neg e,IX f c]
theorem IX{s:jE}{ps:ca}{st ls:List cd}:∀{d:ci}{c:List ca}{k:Nat},eX s ps d=(c,0)->GP st ls k (lT d)->zD ls d k=(Js st d,k+(lT d).length)
 |[],c,k,h,_=>by simp[zD,Js,lT]
 |q::d,c,k,h,e=>by
  obtain⟨n,f,g,j,rfl⟩:=pE h;rw[lT]at e;rw[zD,Js,lT,Tm g e.left,IX j e.right,length_append,Nat.add_assoc]
end
mutual
theorem OQ{s:jE}{ps:ca}:∀{q:Query}{ks:ca},aJ s ps q=(ks,0)->∀t∈qM q,0<=t/\t<s.tables.length
 |.mk op ta w co on gr od li args,ks,h,t,f=>by
  obtain⟨g,j,n,c⟩:=xJ h;rw[qM]at f;rcases mem_append.1 f with d|d
  .split at d
   .rename_i e;subst e;simp only[mem_singleton]at d;subst d;unfold dY at c;dsimp only at c;split at c
    .simp[dV]at c
    try rw[if_pos rfl]at c
    split at c
    .omega
    .simp[dV]at c
   .simp at d
  .exact Rs j t d
theorem Rs{s:jE}{ps:ca}:∀{e:ci}{d:List ca},eX s ps e=(d,0)->∀t∈lT e,0<=t/\t<s.tables.length
 |[],d,h,t,c=>by rw[lT]at c;simp at c
 |q::e,d,h,t,c=>by
  obtain⟨n,f,g,j,rfl⟩:=pE h;rw[lT]at c;rcases mem_append.1 c with c|c
  .exact OQ g t c
  .exact Rs j t c
end
def IN(key:Int)(k:Int)(i:Nat)(v:VV):Bool:=mK v&&(v.kind==k||((v.kind==2||v.kind==1)&&decide (key<=(i:Int))))
def Gz(t:Dr)(r:cj):Bool:=decide (r.length=t.columns.length)&&(List.range r.length).all λi=>IN t.key (t.columns.getD i ⟨⟨#[]⟩,0⟩).kind i (r.getD i zeroV)
def Gr(t:Dr)(r:cj):cj:=r.take (max 0 (min t.key r.length)).toNat
def aiQ(t:Dr)(l:cd):Prop:=(∀r∈l,Gz t r=true)/\∀(i:Nat) r c,l[i]? =some r->l[i+1]? =some c->fQ (Gr t r) (Gr t c)<0
def XI(s:jE)(st:List cd):Prop:=∀(i:Nat) t l,s.tables[i]? =some t->st[i]? =some l->aiQ t l
open Classical in
noncomputable def mV(s:jE)(st:List cd):Int:=
 if dK s≠0 then dK s else if 512<(st.map λl=>(l.length:Int)).sum then 2 else if st.length≠s.tables.length then 80 else if XI s st then 0 else 80
def StV(st:List cd):Prop:=∀l∈st,∀r∈l,∀v∈r,vZ v.kind/\vZ v.int
def bLZ(t:Dr)(l:cd):Prop:=l.Pairwise λx y=>fQ (Gr t x) (Gr t y)<0
theorem UB{x y z:cj}(c:fQ x y<0)(d:fQ y z<0):fQ x z<0:=by
 have:=Cu x y z aD aD;rcases Int.lt_or_eq_of_le this with h|h
 .exact h
 .rw[nB]at h;subst h;have:=vI x y;omega
theorem Vg{st:List cd}(h:mV s st=0):dK s=0/\st.length=s.tables.length/\XI s st/\(st.map λl=>(l.length:Int)).sum<=512:=by
 unfold mV at h
 grind
theorem bbZ{t:Dr}{x y:cj}(h:x.length=y.length):(Gr t x).length=(Gr t y).length:=by simp[Gr,h]
theorem byZ{t:Dr}{x y:cj}(h:x.length=y.length)(c:fQ (Gr t x) (Gr t y)<0):fQ x y<0:=by
 have d:x=Gr t x++x.drop (max 0 (min t.key x.length)).toNat:=(take_append_drop _ _).symm;have e:y=Gr t y++y.drop (max 0 (min t.key y.length)).toNat:=(take_append_drop _ _).symm;rw[d,e,Lc (bbZ h),if_pos aD];exact c
theorem bLZ.of{t:Dr}:∀{l:cd},(∀(i:Nat) r r',l[i]? =some r->l[i+1]? =some r'->fQ (Gr t r) (Gr t r')<0)->bLZ t l
 |[],_=>List.Pairwise.nil
 |[_],_=>pairwise_singleton _ _
 |a::b::l,h=>by
  have d:bLZ t (b::l):=bLZ.of λi r r' f g=>h (i+1) r r' f g;refine pairwise_cons.2 ⟨λx c=>?_,d⟩;have e:=h 0 a b rfl rfl;rcases mem_cons.1 c with rfl|c
  .exact e
  .exact UB e ((pairwise_cons.1 d).1 x c)
theorem U8{t:ByteArray}(h:t.toList=(⟨#[]⟩:ByteArray).toList):t.size<=64:=by rw[Cd h];decide
theorem IE{t:ByteArray}(h:Gd t=true):t.size<=64:=U8 (by simp only[Gd,beq_iff_eq]at h;rw[h,ByteArray.toList_eq])
theorem MO{v:VV}(h:mK v=true):v.text.size<=64:=by
 unfold mK at h;split at h
 .simp only[Bool.and_eq_true]at h;exact IE h.2
 .split at h
  .simp only[Bool.and_eq_true]at h;exact IE h.2
  .split at h
   .exact IE h
   grind
theorem F8{q:Query}(h:(dZ s ps q).2=0):dK s=0/\ps.all dJ=true/\nC q=true/\(aJ s ps q).2=0:=by
 unfold dZ at h;split at h
 .rename_i c;split at h
  .rename_i d;split at h
   .grind
   .simp[dV]at h
  .simp[dV]at h
 .rename_i c;simp[dV]at h;omega
theorem U6{v:VV}(h:mK v=true):1<=v.kind/\v.kind<=5/\v.text.size<=64:=by
 refine⟨?_,?_,MO h⟩
 all_goals
  unfold mK at h;split at h
  .rename_i e;simp at e;omega
  .split at h
   .rename_i e;simp at e;omega
   .split at h
    .rename_i e;simp at e;omega
    .split at h
     .rename_i e;simp at e;omega
     .cases h
theorem anX{t:Dr}{r:cj}(h:Gz t r=true):r.length=t.columns.length/\∀v∈r,mK v=true:=by
 simp only[Gz,Bool.and_eq_true,decide_eq_true_eq,all_eq_true,mem_range]at h;refine⟨h.1,λv e=>?_⟩;obtain⟨i,c,rfl⟩:=mem_iff_getElem.1 e;have d:=h.2 i c;simp only[IN,Bool.and_eq_true,getD_eq_getElem?_getD,getElem?_eq_getElem c,Option.getD_some]at d;exact d.1
theorem bMX{t:Dr}{l:cd}(u:t.columns.length<=12)(c:aiQ t l)(g:∀r∈l,∀v∈r,vZ v.kind/\vZ v.int)(j:l.length<=8000000):iK t.columns.length l:=by
 have n:∀r∈l,r.length=t.columns.length:=λr d=>(anX (c.1 r d)).1;refine⟨λr d=>⟨bk,λv e=>?_⟩,n,?_,j⟩
 .have o:=(anX (c.1 r d)).2 v e;have f:=g r d v e;exact⟨f.1,f.2,(U6 o).2.2⟩
 .exact(bLZ.of c.2).imp_of_mem fun{x y} e z h=>byZ bk h
def B3(st:List cd)(q:Query):List cd:=(qM q).map λt=>st.getD t.toNat []
theorem clJ{st:List cd}{t:Int}(c:mV s st=0)(n:StV st)(o:0<=t)(D:t<s.tables.length):iK (jR s t).length (st.getD t.toNat [])/\st.getD t.toNat []∈st:=by
 obtain⟨u,E,y,F⟩:=Vg c;have f:t.toNat<s.tables.length:=by omega
 have g:t.toNat<st.length:=by omega
 have j:s.tables[t.toNat]? =some s.tables[t.toNat]:=getElem?_eq_getElem f;have z:st[t.toNat]? =some st[t.toNat]:=getElem?_eq_getElem g;have A:st.getD t.toNat []=st[t.toNat]:=bk
 have d:st[t.toNat]∈st:=getElem_mem g;have G:=Eg u _ (getElem_mem f);have B:(jR s t).length=s.tables[t.toNat].columns.length:=by rw[jR,if_neg aD,j];simp
 have e:∀{l:List cd}{x},x∈l->((x.length:Nat):Int)<=(l.map λl=>(l.length:Int)).sum:=fun{l x}=>by
  induction l with
  |nil=>grind
  |cons a l C=>
   intro h
   have o:∀l:List cd,0<=(l.map λl=>(l.length:Int)).sum:=λl=>by
    induction l with
    |nil=>simp
    |cons a l C=>grind
   grind
 have:=e d;rw[A,B];exact⟨bMX aD (y _ _ _ j z) (n _ d) aD,d⟩
theorem XJ{st:List cd}{q:Query}{ks:ca}{c:Nat}(d:mV s st=0)(o:StV st)(A:∀l∈st,l.length<=c)(u:1<=c)(e:aJ s ps q=(ks,0))(g:fS c q<=8000000):
 okQ (B3 st q) q 0/\(Bw (B3 st q) q 0).1=vO st q/\iK ks.length (vO st q)/\(vO st q).length<=8000000:=by
 have z:∀(j:Nat)(t:Int),(qM q)[j]? =some t->(B3 st q)[0+j]? =some (st.getD t.toNat []):=λj t h=>by rw[Nat.zero_add,B3,getElem?_map,h];rfl
 have x:=W3 u (ls:=B3 st q) (k:=0) e ⟨λj t h=>⟨_,z j t h,by
  have n:=OQ e t (mem_of_getElem? h);have:=clJ d o n.1 n.2
  grind⟩⟩ g
 have y:=Tm (st:=st) (ls:=B3 st q) (k:=0) e ⟨λj t h=>bk⟩;have f:(Bw (B3 st q) q 0).1=vO st q:=by rw[y]
 refine⟨x.ok,f,by rw[<-f];exact x.rel,?_⟩;rw[<-f];exact Nat.le_trans x.bnd g
def aPl(p r:Sl):CV:=.val (.agg ⟨[.slice p.a p.len p.cap,.slice r.a r.len r.cap]⟩)
theorem fY.keep{r:CV}(c:Sub m m')(le:PH.le h h')(d:K r m h):fY h K r m' h':=
 λ_=>⟨m,h,c,.refl _,λb i v e=>.inl (le.le b i v e),d⟩
def agJ(q:Query):Prop:=
 match q with
 |.mk op _ _ _ _ _ _ _ args=>(args.length:Int)=arity op/\∀a∈args,agJ a
 termination_by SizeOf.sizeOf q
theorem bzX{op:Int}{w:Pred}{on:ce}{args:ci}:
 agJ (.mk op ta w co on gr od li args)↔(args.length:Int)=arity op/\∀a∈args,agJ a:=by rw[agJ.eq_def]
theorem D5(op:Int):arity op<=2:=by
 unfold arity;omega
theorem OW{α:Type}{l c:List α}(h:l<+:c){x:α}(d:l[i]? =some x):c[i]? =some x:=by
 obtain⟨r,rfl⟩:=h
 grind
theorem LG:∀(n:Nat){l:cv},l.Nodup->(∀x∈l,x<n)->l.length<=n
 |0,l,_,h=>by
  cases l with
  |nil=>simp
  |cons x l=>have:=h x bf;omega
 |n+1,l,c,h=>by
  by_cases d:n∈l
  .have f:=length_erase_of_mem d
   have g:=LG n (c.erase n) (λx e=>by
    grind)
   omega
  .have:=LG n c (λx e=>by
    grind)
   omega
theorem KL{α:Type}{T:List α->α->Prop}{l:List α}{f:α->Int}{n:Nat}(h:Good T l)(e:∀c x,T c x->0<=f x/\f x<n)(o:∀c x,T c x->∀y∈c,f y≠f x):l.length<=n:=by
 have u:(l.map λx=>(f x).toNat).Nodup:=by
  rw[nodup_iff_pairwise_ne,pairwise_iff_getElem];intro i j d g z;simp only[length_map]at d g;simp only[getElem_map];have D:=h i l[i] (getElem?_eq_getElem d);have A:=h j l[j] (getElem?_eq_getElem g);have:=o _ _ A l[i] (mem_take_iff_getElem.2 ⟨i,aD,rfl⟩)
  grind
 have:=LG n u (λx B=>by
  obtain⟨y,C,rfl⟩:=mem_map.1 B;obtain⟨i,d⟩:=mem_iff_getElem?.1 C;have:=e _ _ (h i y d);omega)
 grind
mutual
def bAZ:Pred->Prop
 |.mk _ _ l r args=>l.value.text.size<=64/\r.value.text.size<=64/\UM args
def UM:cr->Prop
 |[]=>True
 |p::ps=>bAZ p/\UM ps
end
theorem VH(o:OV)(h:o.value.text.size<=64):(CA o).length<=200:=by
 have e:=gI [o.kind,o.index];have f:=gI [o.value.kind];have g:=gI [(o.value.text.size:Int)];have c:=gI [o.value.int];have d:hX [o.value.int]=nO o.value.int++[32]:=by unfold hX;grind
 rw[d]at c;have j:o.value.text.data.toList.length=o.value.text.size:=by rw[Array.length_toList];rfl
 simp only[CA,zG,length_append,length_cons,length_nil]at*
 omega
mutual
theorem LF:∀p:Pred,bAZ p->((nF p).length:Int)<=1000*Rn p
 |.mk op c l r args,h=>by
  obtain⟨d,e,f⟩:=h;have g:=VH l d;have j:=VH r e;have n:=O0 args f;have o:=gI [op,c];have u:=gI [(args.length:Int)];simp only[nF,Rn,length_append,length_cons,length_nil]at*
  omega
theorem O0:∀ps:cr,UM ps->((lJ ps).length:Int)<=1000*Cz ps
 |[],_=>by simp[lJ,Cz]
 |p::ps,h=>by
  have:=LF p h.1;have:=O0 ps h.2;simp only[lJ,Cz,length_append];omega
end
theorem W5{v:VV}(h:eqV v zeroV=true):v.text.size<=64:=by
 simp only[eqV,Bool.and_eq_true,beq_iff_eq]at h;exact U8 h.2.2.1
theorem KY{o:OV}(h:Z8 o dH=true):o.value.text.size<=64:=by
 simp only[Z8,Bool.and_eq_true,beq_iff_eq]at h;exact W5 h.2.2.1
theorem Nv{o:OV}(h:rC l o≠0):o.value.text.size<=64:=by
 unfold rC at h;split at h
 .omega
 .rename_i c;simp only[Bool.or_eq_true,not_or,Bool.not_eq_true',Bool.not_eq_false]at c;exact W5 c.2
theorem Nh{cols params:ca}{o:OV}(h:kindOf cols params o≠0):o.value.text.size<=64:=by
 unfold kindOf at h;split at h
 .split at h
  .omega
  .rename_i c;simp only[Bool.or_eq_true,not_or,Bool.not_eq_true',Bool.not_eq_false,oC,Bool.and_eq_true]at c;exact MO c.2.1
 .split at h
  .exact Nv h
  .split at h
   .exact Nv h
   omega
mutual
theorem MP{cols params:ca}:∀p:Pred,jP cols params p=true->bAZ p
 |.mk op c l r args,h=>by
  unfold jP at h;split at h
  .simp only[Bool.and_eq_true,F9,beq_iff_eq]at h;have:args=[]:=eq_nil_of_length_eq_zero h.2;subst this;exact⟨KY h.1.1.2,KY h.1.2,trivial⟩
  .split at h
   .simp only[Bool.and_eq_true,beq_iff_eq,bne_iff_ne,ne_eq,decide_eq_true_eq]at h;have:args=[]:=eq_nil_of_length_eq_zero h.1.1.1.1;subst this;exact⟨Nh h.1.2,Nh (cols:=cols) (params:=params) aD,trivial⟩
   .split at h
    .simp only[Bool.and_eq_true,F9]at h;exact⟨KY h.1.1.2,KY h.1.2,Jg args h.2⟩
    .cases h
theorem Jg{cols params:ca}:∀ps:cr,xY cols params ps=true->UM ps
 |[],_=>trivial
 |p::ps,h=>by
  simp only[xY,Bool.and_eq_true]at h;exact⟨MP p h.1,Jg ps h.2⟩
end
theorem a4Z{cols params:ca}(h:gH cols params p=0):(nF p).length<=1000000000:=by
 unfold gH at h;split at h
 .cases h
 .split at h
  .cases h
  .rename_i c;split at h
   .cases h
   .rename_i e;have d:jP cols params p=true:=bk
    have f:=LF p (MP p d);simp only[Bool.or_eq_true,not_or,decide_eq_true_eq]at c;have g:=GX p 0 aD;omega
theorem a0Z:(nF eW).length<=1000000000:=by
 have:=LF eW ⟨bg,bg,trivial⟩;have e:Rn eW=1:=rfl;omega
theorem Fl{s:jE}{ps:ca}:∀(c:ci),∀k∈(eX s ps c).1,k.length<=12
 |[],k,h=>by simp[eX]at h
 |q::c,k,h=>by
  simp only[eX]at h;split at h
  .split at h
   .simp only[mem_cons]at h;rcases h with rfl|h
    .exact kN s ps q
    .exact Fl c k h
   .simp at h
  .simp at h
theorem V6(h:∀k∈ks,k.length<=12)(j:Nat):(ks.getD j []).length<=12:=by
 grind
theorem Im{s:jE}{ps:ca}:∀{c:ci}{ks:List ca},eX s ps c=(ks,0)->ks.length=c.length/\∀q∈c,(aJ s ps q).2=0
 |[],ks,h=>by simp[eX]at h;subst h;simp
 |q::c,ks,h=>by
  simp only[eX]at h;split at h
  .rename_i f;split at h
   .rename_i d;have e:eX s ps c=((eX s ps c).1,0):=Prod.ext rfl d;obtain⟨g,j⟩:=Im e
    grind
   grind
  grind
theorem iJ{op:Int}{w:Pred}{on:ce}{args:ci}(h:(aJ s ps (.mk op ta w co on gr od li args)).2=0):
 (∀a∈args,(aJ s ps a).2=0)/\(args.length:Int)=arity op/\∃a b,a.length<=12/\b.length<=12/\(dY s ps (.mk op ta w co on gr od li args) a b).2=0:=by
 simp only[aJ]at h;split at h
 .rename_i c;have e:eX s ps args=((eX s ps args).1,0):=Prod.ext rfl c;obtain⟨f,d⟩:=Im e;split at h
  .rename_i g;refine⟨d,aD,_,_,?_,?_,h⟩
   .exact V6 (Fl args) 0
   .exact V6 (Fl args) 1
  .simp[dV]at h
 .rename_i c;simp[dV]at h;omega
theorem a8Z{op:Int}{w:Pred}{on:ce}{args:ci}{b:ca}(I:a.length<=12)(h:(dY s ps (.mk op ta w co on gr od li args) a b).2=0):
 NA ⟨op,ta,w,co,on,gr,od,li,0,0⟩:=by
 unfold dY at h;dsimp only at h;split at h
 .simp[dV]at h
 .rename_i j;rw[not_or]at j;have z:cH (.mk op ta w co on gr od li args):=Classical.not_not.1 j.2;obtain⟨_,A,B,C,D⟩:=z
  have E:∀l:ca,(lL l).2=0->l.length<=12:=λl e=>by
   unfold lL at e
   grind
  have F:(nF w).length<=1000000000:=by
   rcases A with rfl|rfl
   .simp only[show¬((2:Int)=1)by decide,if_false,if_true]at h;split at h
    .rename_i e;exact a4Z e
    .rename_i e;simp[dV]at h;omega
   .exact a0Z
  have G:co.length<=1000000000:=by
   rcases B with rfl|rfl
   .simp only[show¬((3:Int)=1)by decide,show¬((3:Int)=2)by decide,if_false,if_true]at h;split at h
    .grind
    .simp[dV]at h
   .simp
  have H:on.length<=1000000000:=by
   have d:Good (lX a b) on->on.length<=1000000000:=λg=>by
    have:=KL (f:=λp=>p.1) (n:=a.length) g (λc x t=>by have:=t.1;rw[eJ]at this;exact this) (λc x t y o=>(t.2.2.2 y o).1);omega
   rcases C with rfl|rfl|rfl
   .simp only[show¬((4:Int)=1)by decide,show¬((4:Int)=2)by decide,show¬((4:Int)=3)by decide,if_false,if_true]at h;split at h
    .grind
    .simp[dV]at h
   .simp only[show¬((5:Int)=1)by decide,show¬((5:Int)=2)by decide,show¬((5:Int)=3)by decide,show¬((5:Int)=4)by decide,if_false,if_true]at h;split at h
    .grind
    .simp[dV]at h
   .simp
  have u:gr.length<=1000000000/\od.length<=1000000000:=by
   have d:lR a gr od li->gr.length<=1000000000/\od.length<=1000000000:=λr=>by
    have:=KL (f:=λp=>p) (n:=a.length) r.group_ (λc x t=>by have:=t.1;rw[eJ]at this;exact this) (λc x t y o e=>t.2 bk);have:=r.len_;omega
   rcases D with rfl|rfl|⟨rfl,rfl,_⟩
   .simp only[show¬((9:Int)=1)by decide,show¬((9:Int)=2)by decide,show¬((9:Int)=3)by decide,show¬((9:Int)=4)by decide,show¬((9:Int)=5)by decide,if_false,if_true]at h;split at h
    .grind
    .simp[dV]at h
   .simp only[show¬((10:Int)=1)by decide,show¬((10:Int)=2)by decide,show¬((10:Int)=3)by decide,show¬((10:Int)=4)by decide,show¬((10:Int)=5)by decide,show¬((10:Int)=9)by decide,if_false,if_true]at h;split at h
    .grind
    .simp[dV]at h
   .simp
  exact⟨F,G,H,u.1,u.2⟩
theorem HI{s:jE}{ps:ca}:∀q:Query,(aJ s ps q).2=0->z8 q/\agJ q
 |.mk op ta w co on gr od li args,h=>by
  obtain⟨d,e,a,b,f,_,g⟩:=iJ h;rw[Vw,bzX];exact⟨⟨a8Z f g,λq c=>(HI q (d q c)).1⟩,e,λq c=>(HI q (d q c)).2⟩
theorem aDJ{q:Query}(h:(dZ s ps q).2=0):z8 q:=(HI q (F8 h).2.2.2).1
theorem Pt{n:Int}(h:vZ n){b:UInt8}(c:b∈nO n):b≠32:=by
 intro e;subst e;by_cases f:0<=n
 .rw[DV h f]at c;have:=Uy _ _ c;simp at this
 .rw[DW h aD]at c;rcases mem_cons.1 c with d|d
  .cases d
  .have:=Uy _ _ d;simp at this
theorem uV(n:Int)(l:ca):hX (n::l)=nO n++32::hX l:=by unfold hX;grind
theorem gV{m n:Int}{r r':cu}(d:vZ m)(e:vZ n)(h:nO m++32::r=nO n++32::r'):m=n/\r=r':=by
 obtain⟨f,g⟩:=Vh (λc=>Pt d c rfl) (λc=>Pt e c rfl) h;exact⟨aIX d e f,g⟩
theorem M7(p:Int×Int)(l:ce):vP (p::l)=nO p.1++32::(nO p.2++32::vP l):=by
 show hX [p.1,p.2]++vP l=_;rw[uV,uV,append_assoc,cons_append,append_assoc];rfl
theorem M0(p:Int×Bool)(l:cg):vN (p::l)=nO p.1++32::(nO (if p.2 then 1 else 0)++32::vN l):=by
 show hX [p.1,if p.2 then 1 else 0]++vN l=_;rw[uV,uV,append_assoc,cons_append,append_assoc];rfl
structure Xx(o:OV):Prop where
 kind_:vZ o.kind
 index_:vZ o.index
 vkind_:vZ o.value.kind
 int_:vZ o.value.int
 text_:o.value.text.size<=64
mutual
def Lk:Pred->Prop
 |.mk op c l r args=>vZ op/\vZ c/\Xx l/\Xx r/\args.length<=8000000/\QE args
def QE:cr->Prop
 |[]=>True
 |p::ps=>Lk p/\QE ps
end
theorem wW{n:Nat}(h:n<=8000000):vZ (n:Int):=⟨aD,aD⟩
theorem IB{o o':OV}{r r':cu}(d:Xx o)(e:Xx o')(h:CA o++r=CA o'++r'):o=o'/\r=r':=by
 have z:hX []=[]:=rfl;simp only[CA,zG,uV,z,append_assoc,cons_append,nil_append]at h;obtain⟨j,h⟩:=gV d.kind_ e.kind_ h;obtain⟨n,h⟩:=gV d.index_ e.index_ h;obtain⟨u,h⟩:=gV d.vkind_ e.vkind_ h;obtain⟨x,h⟩:=gV d.int_ e.int_ h;obtain⟨y,h⟩:=gV (wW (by have:=d.text_;omega)) (wW (by have:=e.text_;omega)) h;have y:o.value.text.size=o'.value.text.size:=by omega
 obtain⟨f,A⟩:=append_inj h (by rw[Array.length_toList,Array.length_toList];exact y);refine⟨?_,A⟩;obtain⟨k,i,⟨D,E,g⟩⟩:=o;obtain⟨F,G,⟨B,C,c⟩⟩:=o';obtain⟨g⟩:=g;obtain⟨c⟩:=c;simp only at j n u x f;have f:g=c:=Array.toList_inj.1 f;subst j n u x f;rfl
mutual
theorem M6:∀{p c:Pred}{r r':cu},Lk p->Lk c->nF p++r=nF c++r'->p=c/\r=r'
 |.mk op f l J args,.mk g e L j d,r,r',n,o,h=>by
  obtain⟨u,x,y,z,A,B⟩:=n;obtain⟨C,D,E,F,G,H⟩:=o;have I:hX []=[]:=rfl;simp only[nF,uV,I,append_assoc,cons_append,nil_append]at h;obtain⟨M,h⟩:=gV u C h;obtain⟨O,h⟩:=gV x D h;obtain⟨P,h⟩:=IB y E h;obtain⟨Q,h⟩:=IB z F h;obtain⟨R,h⟩:=gV (wW A) (wW G) h;obtain⟨S,T⟩:=JA B H aD h
  grind
theorem JA:∀{ps c:cr}{r r':cu},QE ps->QE c->ps.length=c.length->lJ ps++r=lJ c++r'->ps=c/\r=r'
 |[],[],r,r',_,_,_,h=>⟨rfl,by simpa[lJ]using h⟩
 |[],_::_,_,_,_,_,d,_=>by simp at d
 |_::_,[],_,_,_,_,d,_=>by simp at d
 |p::ps,g::c,r,r',e,f,d,h=>by
  simp only[lJ,append_assoc]at h;obtain⟨j,h⟩:=M6 e.1 f.1 h;obtain⟨n,o⟩:=JA e.2 f.2 bk h
  grind
end
structure bBZ(t:Step):Prop where
 wher:Lk t.wher
 cols:∀n∈t.columns,vZ n
 on_:∀p∈t.on,vZ p.1/\vZ p.2
 group_:∀n∈t.group,vZ n
 order_:∀p∈t.order,vZ p.1
theorem jN{n:Int}(c: -8000000<=n)(d:n<=8000000):vZ n:=⟨aD,aD⟩
theorem Gu:vZ 0:=⟨bg,bg⟩
theorem uU:Xx dH:=⟨Gu,Gu,Gu,Gu,bg⟩
theorem aWQ{v:VV}(h:eqV v zeroV=true):v=zeroV:=Uv.1 h
theorem Xk{o:OV}(h:rC l o≠0)(f:l.length<=8000000)(d:vZ o.kind):Xx o:=by
 unfold rC at h;split at h
 .omega
 .rename_i c;simp only[Bool.or_eq_true,not_or,Bool.not_eq_true',Bool.not_eq_false,decide_eq_true_eq]at c;have e:=aWQ c.2;refine⟨d,jN aD aD,?_,?_,?_⟩
  all_goals rw[e]
  .exact uU.vkind_
  .exact uU.int_
  .exact uU.text_
theorem VT{cols params:ca}{o:OV}(h:kindOf cols params o≠0)(j:cols.length<=8000000)(n:params.length<=8000000)(f:Re o.value):Xx o:=by
 unfold kindOf at h;split at h
 .rename_i d;have d:o.kind=3:=bk
  split at h
  .omega
  .rename_i g;simp only[Bool.or_eq_true,not_or,Bool.not_eq_true',Bool.not_eq_false,bne_iff_ne,ne_eq,Classical.not_not,oC,Bool.and_eq_true,decide_eq_true_eq]at g;refine⟨jN aD aD,jN aD aD,?_,f.int_,f.text_⟩;have c:=g.2.1;unfold mK at c;split at c
   .grind
   .split at c
    .rename_i e;simp at e;exact jN aD aD
    .split at c
     .rename_i e;simp at e;exact jN aD aD
     .split at c
      .rename_i e;simp at e;exact jN aD aD
      .cases c
 .split at h
  .rename_i d;simp at d;exact Xk h n (jN aD aD)
  .split at h
   .rename_i d;simp at d;exact Xk h j (jN aD aD)
   omega
theorem F3:∀ps:cr,(ps.length:Int)<=Cz ps
 |[]=>by simp[Cz]
 |p::ps=>by
  have:=F3 ps;have:1<=Rn p:=by cases p;rename_i a;have:=F3 a;simp only[Rn];omega
  simp only[Cz,length_cons];omega
theorem bMZ(p:Pred):1<=Rn p:=by cases p;rename_i a;have:=F3 a;simp only[Rn];omega
mutual
theorem U7{cols params:ca}(c:cols.length<=8000000)(d:params.length<=8000000):∀p:Pred,jP cols params p=true->Dt p->Rn p<=1000->Lk p
 |.mk op n l r args,h,w,o=>by
  have u:=F3 args;simp only[Rn]at o;unfold jP at h;split at h
  .rename_i e;simp only[Bool.and_eq_true,F9,beq_iff_eq]at h;have:args=[]:=eq_nil_of_length_eq_zero h.2;subst this;have f:=uA.1 h.1.1.2;have g:=uA.1 h.1.2;subst f g;have j:op=1\/op=2:=bt e
   exact⟨jN aD aD,by rw[h.1.1.1];exact Gu,uU,uU,bf,trivial⟩
  .split at h
   .rename_i e;simp only[Bool.and_eq_true,beq_iff_eq,bne_iff_ne,ne_eq,decide_eq_true_eq]at h;have:args=[]:=eq_nil_of_length_eq_zero h.1.1.1.1;subst this;have j:op=3:=bt e
    exact⟨jN aD aD,jN aD aD,VT h.1.2 c d w.1,VT (cols:=cols) (params:=params) aD c d w.2.1,bf,trivial⟩
   .split at h
    .rename_i e;simp only[Bool.and_eq_true,F9,beq_iff_eq]at h;have f:=uA.1 h.1.1.2;have g:=uA.1 h.1.2;subst f g
     have j:op=4\/op=5\/op=6:=by
      grind
     exact⟨jN aD aD,by rw[h.1.1.1];exact Gu,uU,uU,aD,Rm c d args h.2 w.2.2 aD⟩
    .cases h
theorem Rm{cols params:ca}(c:cols.length<=8000000)(d:params.length<=8000000):∀ps:cr,xY cols params ps=true->MG ps->Cz ps<=1000->QE ps
 |[],_,_,_=>trivial
 |p::ps,h,w,e=>by
  simp only[xY,Bool.and_eq_true]at h;have f:=bMZ p;have g:=F3 ps;simp only[Cz]at e;exact⟨U7 c d p h.1 w.1 aD,Rm c d ps h.2 w.2 aD⟩
end
theorem cnX{cols params:ca}(h:gH cols params p=0)(c:cols.length<=8000000)(d:params.length<=8000000)(w:Dt p):Lk p:=by
 unfold gH at h;split at h
 .cases h
 .split at h
  .cases h
  .rename_i e;split at h
   .cases h
   .rename_i g;have f:jP cols params p=true:=bk
    simp only[Bool.or_eq_true,not_or,decide_eq_true_eq]at e;have j:=GX p 0 aD
    have:Rn p<=24:=by
     omega
    exact U7 c d p f w aD
theorem ckJ:Lk eW:=⟨Gu,Gu,uU,uU,bg,trivial⟩
def bFX:Query->Prop
 |.mk _ _ w co on gr od _ _=>Lk w/\(∀n∈co,vZ n)/\(∀p∈on,vZ p.1/\vZ p.2)/\(∀n∈gr,vZ n)/\∀p∈od,vZ p.1
def QI(q:Query):Prop:=
 match q with
 |.mk op ta w co on gr od li args=>bFX (.mk op ta w co on gr od li [])/\∀a∈args,QI a
 termination_by SizeOf.sizeOf q
theorem Iz{op:Int}{w:Pred}{on:ce}{args:ci}:
 QI (.mk op ta w co on gr od li args)↔bFX (.mk op ta w co on gr od li [])/\∀a∈args,QI a:=by rw[QI.eq_def]
theorem Ca{α:Type}{T:List α->α->Prop}{l:List α}{P:α->Prop}(h:Good T l)(d:∀c x,T c x->P x):∀x∈l,P x:=λx e=>by
 obtain⟨j,f⟩:=mem_iff_getElem?.1 e;exact d _ _ (h j x f)
theorem V0{n:Int}(c:l.length<=1000)(h:B9 l n=true):vZ n:=by
 have:=eJ.1 h;exact jN aD aD
theorem X1{s:jE}{ps:ca}{op ta:Int}{w:Pred}{co:ca}{on:ce}{gr:ca}{od:cg}{li:Int}{args:ci}{a b:ca}(G:a.length<=12)(H:b.length<=12)(o:ps.length<=1000)(u:Dt w)(h:(dY s ps (.mk op ta w co on gr od li args) a b).2=0):
 bFX (.mk op ta w co on gr od li []):=by
 unfold dY at h;dsimp only at h;split at h
 .simp[dV]at h
 .rename_i f;rw[not_or]at f;have y:cH (.mk op ta w co on gr od li args):=Classical.not_not.1 f.2;obtain⟨_,z,A,B,C⟩:=y
  have D:Lk w:=by
   rcases z with rfl|rfl
   .simp only[show¬((2:Int)=1)by decide,if_false,if_true]at h;split at h
    .rename_i e;exact cnX e aD aD u
    .rename_i e;simp[dV]at h;omega
   .exact ckJ
  have E:∀n∈co,vZ n:=by
   rcases A with rfl|rfl
   .simp only[show¬((3:Int)=1)by decide,show¬((3:Int)=2)by decide,if_false,if_true]at h;split at h
    .rename_i e;exact Ca e.2 λc x t=>V0 aD t
    .simp[dV]at h
   grind
  have F:∀p∈on,vZ p.1/\vZ p.2:=by
   have d:Good (lX a b) on->∀p∈on,vZ p.1/\vZ p.2:=λg=>Ca g λc x t=>⟨V0 aD t.1,V0 aD t.2.1⟩
   rcases B with rfl|rfl|rfl
   .simp only[show¬((4:Int)=1)by decide,show¬((4:Int)=2)by decide,show¬((4:Int)=3)by decide,if_false,if_true]at h;split at h
    .grind
    .simp[dV]at h
   .simp only[show¬((5:Int)=1)by decide,show¬((5:Int)=2)by decide,show¬((5:Int)=3)by decide,show¬((5:Int)=4)by decide,if_false,if_true]at h;split at h
    .grind
    .simp[dV]at h
   grind
  have j:(∀n∈gr,vZ n)/\∀p∈od,vZ p.1:=by
   have d:lR a gr od li->(∀n∈gr,vZ n)/\∀p∈od,vZ p.1:=λr=>⟨Ca r.group_ λc x t=>V0 aD t.1,Ca r.order_ λc x t=>V0 aD t⟩
   rcases C with rfl|rfl|⟨rfl,rfl,_⟩
   .simp only[show¬((9:Int)=1)by decide,show¬((9:Int)=2)by decide,show¬((9:Int)=3)by decide,show¬((9:Int)=4)by decide,show¬((9:Int)=5)by decide,if_false,if_true]at h;split at h
    .grind
    .simp[dV]at h
   .simp only[show¬((10:Int)=1)by decide,show¬((10:Int)=2)by decide,show¬((10:Int)=3)by decide,show¬((10:Int)=4)by decide,show¬((10:Int)=5)by decide,show¬((10:Int)=9)by decide,if_false,if_true]at h;split at h
    .grind
    .simp[dV]at h
   grind
  exact⟨D,E,F,j.1,j.2⟩
theorem alZ{s:jE}{ps:ca}(c:ps.length<=1000):∀q:Query,(aJ s ps q).2=0->QW q->QI q
 |.mk op ta w co on gr od li args,h,d=>by
  obtain⟨f,o,a,b,g,j,n⟩:=iJ h;rw[LD]at d;rw[Iz];exact⟨X1 g j c d.1 n,λq e=>alZ c q (f q e) (d.2 q e)⟩
def DH(a:Int)(n:Bool)(e:Int):Bool:=if n=true then decide (0<=a)&&decide (a<e)else a==0
def bIZ:Vc.Spec:=λc m h K=>∃a n e,c=[cI a,cB n,cI e]/\K (cB (DH a n e)) m h
def bzJ:Vc.Spec:=λc m h K=>∃v p,c=[aP v]/\dD h p v/\∀r:Bool,(r=true↔p=eW)->K (cB r) m h
def Xs:Vc.Spec:=λc m h K=>∃v t,c=[aT v]/\uB h t v/\∀r:Bool,(r=true↔cH t.query)->K (cB r) m h
noncomputable def bpQ(v:vY)(m:MH)(h:PH):Ctx:=
 dA [(221,bzJ)] [] ([3,5,7,9].map λk=>(k,{A:=Unit,st:=λ_=>bQ 66 67 [(1,.at (.ptr 1 0))] [(1,.cells 123 (v.enc.map .val))] m h})) [] false
def SP(op:Int)(m:MH)(h:PH)(K:bz):Prop:=
  cW (op==1) (K (fX 0) m h) (op==2) (K (fX 1) m h) (cW (op==3) (K (fX 1) m h) (op==9) (K (fX 1) m h) (cW (op==4) (K (fX 2) m h) (op==5) (K (fX 2) m h) (cW (op==6) (K (fX 2) m h) (op==7) (K (fX 2) m h) (cW (op==8) (K (fX 2) m h) (op==10) (K (fX 2) m h) (K (fX (Int.negSucc 0)) m h)))))
def SO(a:Int)(n:Bool)(e:Int)(m:MH)(h:PH)(K:bz):Prop:=
  branch n (gM a 0 (K (Bc (decide (a<e))) m h) (K aX m h)) (K (Bc (a==0)) m h)
def Sg(v:PV)(m:MH)(h:PH)(K:bz):Prop:=
  eO v.op 0 (eO v.cmp 0 (nU 29 v.left.enc EY (λr=>branch r (nU 29 v.right.enc EY (λc=>branch c (K (Bc (nI v==0)) m h) (K aX m h))) (K aX m h))) (K aX m h)) (K aX m h)
def SN(v:vY)(m:MH)(h:PH)(K:bz):Prop:=
  ∃(I:Unit->Prop),eC v.op 1 (eC v.table 0 (K aX m h) (∃(x:Unit),aA (I x) eM (aA (mA v) (m=m) (bN h h)))) (∃(x:Unit),aA (I x) eM (aA (mA v) (m=m) (bN h h)))/\∀(x:Unit),I x->∃(I1:Unit->Prop),eC v.op 2 (pV (λf p=>aA (oB (cQ v.where_)=oB (cQ f)) (dD h p f) (∀(r:Bool),iU (fV r↔p=Df) (!r) (K aX m h) (∃(d:Unit),aA (I1 d) eM (aA (mA v) (m=m) (bN h h)))))) (∃(d:Unit),aA (I1 d) eM (aA (mA v) (m=m) (bN h h)))/\∀(d:Unit),I1 d->∃(I2:Unit->Prop),eC v.op 3 (fA (aH v.columns) 0 (K aX m h) (∃(e:Unit),aA (I2 e) eM (aA (mA v) (m=m) (bN h h)))) (∃(e:Unit),aA (I2 e) eM (aA (mA v) (m=m) (bN h h)))/\∀(e:Unit),I2 e->∃(I3:Unit->Prop),eC v.op 4
 (eC v.op 5 (fA (aH v.on) 0 (K aX m h) (∃(c:Unit),aA (I3 c) eM (aA (mA v) (m=m) (bN h h)))) (∃(c:Unit),aA (I3 c) eM (aA (mA v) (m=m) (bN h h)))) (∃(c:Unit),aA (I3 c) eM (aA (mA v) (m=m) (bN h h)))/\∀(c:Unit),iU (I3 c) (v.op !=9) (eC v.op 10 (eO (aH v.group) 0 (eO (aH v.order) 0 (K (Bc (v.limit==0)) m h) (K aX m h)) (K aX m h)) (gK K m h)) (gK K m h)
theorem Zx:bu 157 QY:=by
 refine hU func157 ?_;rintro d m h K ⟨op,rfl,c⟩;refine⟨dA [] [] [] [] false,rfl,aG,SP op m h K,bd,?_⟩;dsimp only[SP,push_cast]
 repeat' (first|(refine aC (λ_=>?_) (λ_=>?_))|(refine AU c ?_;simp only[arity];simp only[*,Bool.or_false,Bool.false_or,Bool.or_true,Bool.true_or,Bool.and_true,Bool.true_and,Bool.and_false,Bool.false_and,Bool.not_true,Bool.not_false,Bool.false_eq_true,if_true,if_false, ↓reduceIte];done)|(refine AU c ?_;simp only[arity];grind))
theorem Zw:bu 158 bIZ:=by
 refine hU func158 ?_;rintro f m h K ⟨a,n,e,rfl,c⟩;refine⟨dA [] [] [] [] false,rfl,aG,SO a n e m h K,bd,?_⟩;dsimp only[SO,push_cast];unfold DH at c;refine aC (λd=>?_) (λd=>?_)
 .rw[if_pos d]at c;refine aF (λg=>jM c ?_) (λg=>jM c ?_)
  .grind
  grind
 .rw[if_neg (by simp[d])]at c;exact jM c rfl
theorem YY:bu 221 bzJ:=by
 refine hU func221 ?_;rintro g m h K ⟨v,p,rfl,j,d⟩;refine⟨dA [] [] [] [] false,rfl,aG,Sg v m h K,bd,?_⟩;dsimp only[Sg,push_cast];obtain⟨op,n,l,r,args⟩:=p;obtain⟨rfl,rfl,rfl,rfl,o⟩:=j.parts;have u:=KG o.slen;have bad:¬(Pred.mk v.op v.cmp v.left v.right args=eW)->K (.val (.bool false)) m h:=λx=>d false ⟨λe=>(by cases e),λe=>(x e).elim⟩;simp only[eW,Pred.mk.injEq]at d bad;refine aC (λy=>aC (λz=>⟨_,AN v.left dH,aC (λc=>⟨_,AN v.right dH,aC (λf=>d _ ?_) (λf=>bad ?_)⟩) (λc=>bad ?_)⟩) (λz=>bad ?_)) (λy=>bad ?_)
 .rw[u];exact⟨λe=>⟨bk,bk,uA.1 c,uA.1 f,e⟩,λe=>e.2.2.2.2⟩
 .grind
 .intro e;rw[uA.2 e.2.2.1]at c;cases c
 .grind
 grind
theorem Zv:bu 159 Xs:=by
 refine hU func159 ?_;rintro J m h K ⟨v,t,rfl,x,g⟩;refine⟨bpQ v m h,rfl,aE YY aG,SN v m h K,bd,?_⟩;dsimp only[SN,push_cast];obtain⟨op,ta,w,co,on,gr,od,li,le,R⟩:=t;obtain⟨u,y,z,A,B,C,xs,D,_,_⟩:=x;simp only at u y z A B C xs D;have S:=KG A.slen;have T:=KG B.slen;have U:=KG C.slen;have V:=KG xs.slen;simp only[Step.query,cH]at g;subst u y D;have bad:∀{P:Prop},¬P->((v.op=1\/v.table=0)/\(v.op=2\/w=eW)/\(v.op=3\/co=[])/\(v.op=4\/v.op=5\/on=[])/\(v.op=9\/v.op=10\/(gr=[]/\od=[]/\v.limit=0))->P)->K (.val (.bool false)) m h:=λj L=>g false ⟨λe=>(by cases e),λe=>(j (L e)).elim⟩;have M:∀{n:Nat}{α:Type}{l:List α},n=l.length->((n:Int)>0↔l≠[]):=fun{n α l} e=>by rw[e,ne_eq, <-length_eq_zero_iff];omega
 refine⟨λ_=>v.op=1\/v.table=0,aC (λd=>aC (λc=>bad (P:=v.op=1\/v.table=0) ?_ λe=>e.1) (λc=>⟨(),.inr bk,MT⟩)) (λd=>⟨(),.inl bk,MT⟩),λ_ E=>?_⟩
 .grind
 refine⟨λ_=>v.op=2\/w=eW,aC (λd=>⟨v.where_,w,rfl,z,λr F=>aC (λc=>bad (P:=v.op=2\/w=eW) ?_ λe=>e.2.1) (λc=>⟨(),.inr (F.1 bk),MT⟩)⟩) (λd=>⟨(),.inl bk,MT⟩),λ_ G=>?_⟩
 .rw[not_or];refine⟨bk,λe=>?_⟩;rw[F.2 e]at c;cases c
 refine⟨λ_=>v.op=3\/co=[],aC (λd=>aF (λc=>bad (P:=v.op=3\/co=[]) ?_ λe=>e.2.2.1) (λc=>⟨(),.inr ?_,MT⟩)) (λd=>⟨(),.inl bk,MT⟩),λ_ H=>?_⟩
 .grind
 .grind
 refine⟨λ_=>v.op=4\/v.op=5\/on=[],aC (λd=>aC (λo=>aF (λc=>bad (P:=v.op=4\/v.op=5\/on=[]) ?_ λe=>e.2.2.2.1) (λc=>⟨(),.inr (.inr ?_),MT⟩)) (λo=>⟨(),.inr (.inl bk),MT⟩)) (λd=>⟨(),.inl bk,MT⟩),λ_ I=>?_⟩
 .grind
 .grind
 refine aC (λd=>aC (λc=>?_) (λc=>g true ⟨λ_=>⟨E,G,H,I,.inr (.inl bk)⟩,λ_=>rfl⟩)) (λd=>g true ⟨λ_=>⟨E,G,H,I,.inl bk⟩,λ_=>rfl⟩);have d:v.op≠9:=bk
 have c:v.op≠10:=bk
 have f:¬(gr=[]/\od=[]/\v.limit=0)->K (.val (.bool false)) m h:=λj=>bad j λe=>(e.2.2.2.2.resolve_left d).resolve_left c;refine aC (λO=>aC (λQ=>g _ ?_) (λQ=>f λe=>?_)) (λO=>f λe=>?_)
 .grind
 .grind
 .grind
open Classical in
noncomputable def Vx(a co:ca):ca×Int:=if co≠[]/\Good (λ_ c=>B9 a c=true) co then lL (co.map λc=>a.getD c.toNat 0)else dV 120
def cfQ:Vc.Spec:=λc m h K=>∃s t a co,c=[cS s,cS t]/\Ints h s a/\Ints h t co/\KR K m h (Vx a co)
def Ty:Vc.Spec:=λc m h K=>∃s t u a b on,c=[cS s,cS t,cS u]/\Ints h s a/\Ints h t b/\iF h u on/\a.length<=1000/\b.length<=1000/\∀r:Bool,(r=true↔Good (lX a b) on)->K (cB r) m h
def QJ:Vc.Spec:=λc m h K=>∃s v a t,c=[cS s,aT v]/\Ints h s a/\uB h t v/\a.length<=1000/\∀r:Bool,(r=true↔lR a t.group t.order t.limit)->K (cB r) m h
def eB(b:Bool):bx:=[.bool b]
noncomputable def boJ(s t:Sl)(m:MH)(h:PH):Ctx:=
 dA [] [(4,{A:=Nat,st:=λi=>bQ 51 53 [(0,sv s),(1,sv t),(14,sv t),(15,iv t.len),(16,iv i)] [] m h}),
  (13,{A:=Nat×ca,st:=λ⟨i,l⟩=>bQ 51 53 [(0,sv s),(8,.at (.lst 34)),(35,sv t),(36,iv t.len),(37,iv i)] [(34,.lst 3 1 (l.map eI))] m h})] [] [] false
noncomputable def boZ(s t u:Sl)(m:MH)(h:PH):Ctx:=
 dA [] [(4,{A:=Nat×da×da,st:=λ⟨i,x,y⟩=>bQ 75 78 [(0,sv s),(1,sv t),(7,.at (.lst 15)),(8,.at (.lst 18)),(19,sv u),(20,iv u.len),(21,iv i)] [(15,.lst 4 1 (x.map eB)),(18,.lst 4 1 (y.map eB))] m h})] [(9,{A:=Nat×da×da×Int×Int,st:=λ⟨i,x,y,a,b⟩=>bQ 75 78 [(0,sv s),(1,sv t),(7,.at (.lst 15)),(8,.at (.lst 18)),(11,iv a),(12,iv b),(19,sv u),(20,iv u.len),(21,iv i)] [(15,.lst 4 1 (x.map eB)),(18,.lst 4 1 (y.map eB))] m h})] [] false
noncomputable def boX(s:Sl)(v:vY)(m:MH)(h:PH):Ctx:=
 dA [] [(3,{A:=Nat×da,st:=λ⟨i,x⟩=>bQ 68 70 [(0,sv s),(3,.at (.ptr 3 0)),(5,.at (.lst 12)),(14,sv v.group),(15,iv v.group.len),(16,iv i)] [(3,.cells 123 (v.enc.map .val)),(12,.lst 4 1 (x.map eB))] m h}),
  (12,{A:=Nat,st:=λi=>bQ 68 70 [(0,sv s),(3,.at (.ptr 3 0)),(43,sv v.order),(44,iv v.order.len),(45,iv i)] [(3,.cells 123 (v.enc.map .val))] m h})] [] [] false
abbrev Az(a:Sl):Prop:=aH a<=aH a
abbrev C6(a:Nat)(b:Sl)(c:bx)(d:List bx):Prop:=Option.some (Own.lst a 1 (replicate (aH b).toNat c))=Option.some (Own.lst a 1 d)
attribute [push_cast] Az C6
def SM(s t:Sl)(m:MH)(h:PH)(K:bz):Prop:=
  eO (aH t) 0 (K (CV.tup (aW j8 120)) m h) (G9 (λI x=>aA (I x) (aI s) (aA (aI t) (aI t) (aA (bI t) (bB x) (aA (m=m) (h=h) True)))) t m h (λI d x y=>aZ y 0 (K (CV.tup (aW j8 120)) m h) (gM y (aH s) (K (CV.tup (aW j8 120)) m h) (∃(c:Nat),aA (I c) (d c<d x) (aA (aI s) (aI t) (aA (aI t) (bI t) (aA (bD (fZ (bE x 1)) c) (m=m) (bN h h))))))) (fA (aH t) 12 (K (CV.tup (aW j8 2)) m h) (aA (bZ (aH t)) (Az t) (aA (vA t 8) (vW (aH t)) (Kf (λI x=>aA (I x) (aI s) (aA (eL 34) (aI t) (aA (bI t) (bB x.1) (aA (C6 3 t BM (qG x)) (m=m) (bN h h))))) (λI d x=>I x->aZ (↑x.1:Int) (aH t) (bJ (λb o=>aA (bM t.a b o) (0<=(↑x.1:Int)) ((↑x.1:Int)<aH t/\∃(y:Int),aU m h
 b (bK o x.1 1) (bG y)/\bJ (λf g=>aA (bM s.a f g) (0<=y) (y<aH s/\∃(j:Int),E9 (aU m h f (fU g y 1) (bG j)) 0 (↑x.1:Int) (qG x) (λe=>aA (mQ (qG x) (↑x.1:Int) e) (0<e.length) (∃(c:Nat×ca),aA (I c) (d c<d x) (aA (aI s) (eL 34) (aA (aI t) (bI t) (aA (bD (fZ (bE x.1 1)) c.1) (jV (List.set (qG x) (yW x.1) (uK (eF j) 1 e)) c.2) (aA (m=m) (h=h) True))))))))))) (bO h 1 (cZ x.2) (λn u=>K (CV.tup (aW (fJ n) 0)) m u))))))))
noncomputable abbrev pN(a:da):List bx:=List.map eB a
noncomputable abbrev wU(a:Nat×da×da×Int×Int):Int:=a.2.2.2.1
noncomputable abbrev wV(a:Nat×da×da×Int×Int):Int:=a.2.2.2.2
noncomputable abbrev EZ(a:Nat×da×da×Int×Int):List bx:=pN a.2.2.1
attribute [push_cast] pN wU wV EZ
def SL(s t u:Sl)(m:MH)(h:PH)(K:bz):Prop:=
  aA (bZ (aH s)) (Az s) (aA (vA s 1) (vW (aH s)) (aA (bZ (aH t)) (Az t) (aA (vA t 1) (vW (aH t)) (∃(I:Nat×da×da->Prop)(j:Nat×da×da->Nat),(∃(x:Nat×da×da),aA (I x) (aI s) (aA (aI t) (eL 15) (aA (eL 18) (aI u) (aA (bI u) (bB x.1) (tI (C6 4 s (oK uJ) (pN x.2.1)) (C6 4 t (oK uJ) (pN x.2.2)) (m=m) h h)))))/\∀(x:Nat×da×da),I x->aZ (↑x.1:Int) (aH u) (bJ (λb o=>aA (bM u.a b o) (0<=(↑x.1:Int)) ((↑x.1:Int)<aH u/\∃(y:Int×Int),aA (aU m h b (bK o x.1 2) (pB y)) (bZ 0) (aA ((0:Int)<2) (bZ 1) ((1:Int)<2/\∃(I1:Nat×da×da×Int×Int->Prop),aZ y.1 0 (K aX m h) (gM y.1 (aH s) (K aX m h) (aZ
 y.2 0 (K aX m h) (gM y.2 (aH t) (K aX m h) (∃(c:Nat×da×da×Int×Int),aA (I1 c) (aI s) (aA (aI t) (eL 15) (aA (eL 18) (dW y.1 (wU c)) (aA (dW y.2 (wV c)) (aI u) (aA (bI u) (cM x.1 c.1) (aA (Option.some (Own.lst 4 1 (pN x.2.1))=Option.some (Own.lst 4 1 (pN c.2.1))) (Option.some (Own.lst 4 1 (pN x.2.2))=Option.some (Own.lst 4 1 (EZ c))) (aA (m=m) (h=h) True))))))))))/\∀(c:Nat×da×da×Int×Int),I1 c->bJ (λn z=>aA (bM s.a n z) (0<=wU c) (wU c<aH s/\∃(A:Int),aU m h n (fU z (wU c) 1) (bG A)/\bJ (λB C=>aA (bM t.a B C) (0<=wV c) (wV c<aH t/\∃(D:Int),aU m h B (fU C (wV c) 1) (bG D)/\eC A D (K aX m h) (nZ (wU c)
 (wU c<jH (pN c.2.1)) (λe=>mQ (pN c.2.1) (wU c) e/\∃(E:Bool),qB 1 e (vF E)/\branch E (K aX m h) (nZ (wV c) (wV c<jH (EZ c)) (λF=>mQ (EZ c) (wV c) F/\∃(G:Bool),qB 1 F (vF G)/\branch G (K aX m h) (nZ (wU c) (wU c<jH (pN c.2.1)) (λf=>aA (mQ (pN c.2.1) (wU c) f) (0<f.length) (aA (bZ (wV c)) (wV c<jH (EZ c)) (∃(g:bx),aA (mQ (EZ c) (wV c) g) (0<g.length) (∃(d:Nat×da×da),aA (I d) (j d<j x) (aA (aI s) (aI t) (aA (eL 15) (eL 18) (aA (aI u) (bI u) (aA (bD (fZ (bE c.1 1)) d.1) (Option.some (Own.lst 4 1 (List.set (pN c.2.1) (wU c).toNat (uK Bk 1 f)))=Option.some
 (Own.lst 4 1 (pN d.2.1))) (aA (Option.some (Own.lst 4 1 (List.set (EZ c) (wV c).toNat (uK Bk 1 g)))=Option.some (Own.lst 4 1 (pN d.2.2))) (m=m) (bN h h)))))))))))))))))))))))) (gK K m h)))))
def SK(s:Sl)(v:vY)(m:MH)(h:PH)(K:bz):Prop:=
  aA (bZ (aH s)) (Az s) (aA (vA s 1) (vW (aH s)) (∃(I:Nat×da->Prop)(g:Nat×da->Nat),(∃(x:Nat×da),aA (I x) (aI s) (aA bV (eL 12) (aA (aI v.group) (bI v.group) (aA (bB x.1) (mA v) (bP (C6 4 s (oK uJ) (pN x.2)) (m=m) (h=h))))))/\∀(x:Nat×da),I x->aZ (↑x.1:Int) (aH v.group) (bJ (λb o=>aA (bM v.group.a b o) (0<=(↑x.1:Int)) ((↑x.1:Int)<aH v.group/\∃(y:Int),aU m h b (bK o x.1 1) (bG y)/\aZ y 0 (K aX m h) (gM y (aH s) (K aX m h) (nZ y (y<jH (pN x.2)) (λe=>mQ (pN x.2) y e/\∃(j:Bool),qB 1 e (vF j)/\branch j (K aX m h) (nZ y (y<jH (pN x.2)) (λd=>aA (mQ (pN x.2) y d) (0<d.length) (∃(c:Nat×da),aA (I c)
 (g c<g x) (aA (aI s) bV (aA (eL 12) (aI v.group) (aA (bI v.group) (bD (fZ (bE x.1 1)) c.1) (tI (mA v) (Option.some (Own.lst 4 1 (List.set (pN x.2) y.toNat (uK Bk 1 d)))=Option.some (Own.lst 4 1 (pN c.2))) (m=m) h h))))))))))))) (fA (aH v.order) 12 (K aX m h) (sZ (λI1 c=>aA (I1 c) (aI s) (aA bV (aI v.order) (aA (bI v.order) (bB c) (aA (mA v) (m=m) (bN h h))))) (λI1 n c=>I1 c->aZ (↑c:Int) (aH v.order) (bJ (λb o=>aA (bM v.order.a b o) (0<=(↑c:Int)) ((↑c:Int)<aH v.order/\∃(y:Int×Bool),aU m h b (bK o c 2) (tS y)/\aZ y.1 0 (K aX m h) (gM y.1 (aH s) (K aX m h) (∃(f:Nat),aA (I1 f) (n f<n c) (aA (aI s) bV (aA (aI v.order) (bI v.order) (aA (bD (fZ (bE c 1)) f)
 (mA v) (aA (m=m) (h=h) True))))))))) (gM v.limit 0 (K (Bc (decide (v.limit<=100))) m h) (K aX m h)))))))
theorem KR.bad{r:ca×Int}{e:Int}(c:KR K m h r)(d:r=dV e):K (.tup [.val (.slice none 0 0),.val (.int .i64 e)]) m h:=c.err (.refl _) d
theorem Zu:bu 160 cfQ:=by
 refine hU func160 ?_;rintro I m h K ⟨s,t,a,co,rfl,E,x,n⟩;refine⟨boJ s t m h,rfl,aG,SM s t m h K,bd,?_⟩;dsimp only[SM,push_cast];have U:=E.slen;have y:=x.slen;have F:=x.len;unfold Vx at n;refine aC (λG=>n.bad (if_neg λe=>e.1 ((KG x.slen).1 G))) (λG=>?_);have z:co≠[]:=λe=>bk
 refine⟨λi=>i<=co.length/\fI (λ_ c=>B9 a c=true) co i,λi=>co.length-i,⟨0,⟨aD,.zero⟩,MT⟩,λi⟨V,H⟩=>aF (λd=>?_) (λA=>?_)⟩
 .obtain⟨c,j⟩:=eT y d;obtain⟨b,o,e,r⟩:=x.at' j;refine⟨b,o,e,aD,d,c,.imm r,aF (λB=>n.bad (if_neg λg=>?_)) (λB=>aF (λJ=>n.bad (if_neg λg=>?_)) (λJ=>⟨i+1,⟨aD,H.succ j (eJ.2 ⟨aD,aD⟩)⟩,bk,MT⟩))⟩
  .have:=eJ.1 (g.2 i c j);omega
  .have:=eJ.1 (g.2 i c j);omega
 have f:=H.all aD;rw[if_pos ⟨z,f⟩]at n;refine aF (λB=>n.big (.refl _) rfl bj) (λB=>⟨aD,aD,aD,aD,?_⟩);refine⟨λ⟨i,l⟩=>i<=co.length/\l=((co.take i).map λc=>a.getD c.toNat 0)++replicate (co.length-i) 0,λ⟨i,_⟩=>co.length-i,⟨(0,replicate co.length 0),⟨aD,bf⟩,?_⟩,?_⟩
 .have:List.map eI (replicate co.length (0:Int))=replicate (Int.toNat (t.len:Int)) [eF 0]:=by rw[map_replicate,Int.toNat_natCast,y];rfl
  grind
 rintro⟨i,l⟩ ⟨L,rfl⟩;dsimp only;refine aF (λd=>?_) (λA M h' C W=>n.ok C rfl bj ?_)
 .obtain⟨c,j⟩:=eT y d;obtain⟨b,o,e,r⟩:=x.at' j;have u:=eJ.1 (f i c j);obtain⟨O,P,Q,R⟩:=E.inb u.1 u.2;refine⟨b,o,e,aD,d,c,.imm r,O,P,Q,u.1,aD,a.getD c.toNat 0,.imm R,aD,bj,eI 0,?_,by simp[eI],(i+1,((co.take (i+1)).map λc=>a.getD c.toNat 0)++replicate (co.length-(i+1)) 0),⟨aD,rfl⟩,aD,?_⟩
  .grind
  .have S:co.length-i=(co.length-(i+1))+1:=by omega
   have T:(List.map eI (((co.take i).map λc=>a.getD c.toNat 0)++replicate (co.length-i) 0)).set (Int.toNat (i:Int)) (eF (a.getD c.toNat 0)::([]++List.drop 1 (eI 0)))=List.map eI (((co.take (i+1)).map λc=>a.getD c.toNat 0)++replicate (co.length-(i+1)) 0):=by
    have X:((co.take i).map λc=>a.getD c.toNat 0).length=i:=bj
    rw[S,replicate_succ,take_add_one,j,Int.toNat_natCast];simp only[map_append,map_cons];have D:(List.map eI ((co.take i).map λc=>a.getD c.toNat 0)).length=i:=bk
    rw[set_append_right _ _ aD,D,Nat.sub_self];simp[eI]
   rw[<-T];exact MT
 .have:i=co.length:=by omega
  subst this
  grind
structure Seen(n:Nat)(x:da)(l:ca):Prop where
 len:x.length=n
 iff:∀k:Nat,k<n->(x[k]? =some true↔(k:Int)∈l)
theorem Seen.zero(n:Nat):Seen n (replicate n false) []:=⟨bf,λk c=>bk⟩
theorem Seen.map0{n:Nat}{s:Sl}(h:s.len=n):List.map eB (replicate n false)=replicate (Int.toNat (s.len:Int)) [Value.bool false]:=by rw[map_replicate,Int.toNat_natCast,h];rfl
theorem Seen.look{n:Nat}{x:da}(h:Seen n x l){c:Int}(d:0<=c)(e:c<n):∃y,(List.map eB x)[c.toNat]? =some (eB y)/\(y=true↔c∈l):=by
 have f:=h.len;have g:c.toNat<x.length:=by omega
 refine⟨x[c.toNat],bk,?_⟩;have:=h.iff c.toNat aD
 grind
theorem Seen.set{n:Nat}{x:da}(h:Seen n x l){c:Int}(f:0<=c)(g:c<n):Seen n (x.set c.toNat true) (l++[c]):=by
 refine⟨bt h.len,λk d=>?_⟩;have j:=h.len;rw[getElem?_set,mem_append,mem_singleton];by_cases e:c.toNat=k
 .grind
 .rw[if_neg e,h.iff k d]
  grind
theorem Seen.cells(x:da)(k:Nat)(y:Bool):(List.map eB x).set k (Value.bool true::([]++List.drop 1 (eB y)))=List.map eB (x.set k true):=by rw[map_set];rfl
theorem Zt:bu 161 Ty:=by
 refine hU func161 ?_;rintro T m h K ⟨s,t,u,a,b,on,rfl,I,J,F,al,bl,L⟩;refine⟨boZ s t u m h,rfl,aG,SL s t u m h K,bd,?_⟩;dsimp only[SL,push_cast];have U:=I.slen;have V:=J.slen;have W:=F.slen;have G:=F.len;refine⟨aD,aD,aD,aD,aD,aD,aD,aD,?_⟩;refine⟨λ⟨i,x,y⟩=>i<=on.length/\fI (lX a b) on i/\Seen a.length x ((on.take i).map λp=>p.1)/\Seen b.length y ((on.take i).map λp=>p.2),λ⟨i,_,_⟩=>on.length-i,⟨(0,replicate a.length false,replicate b.length false),⟨aD,.zero,.zero _,.zero _⟩,?_⟩,?_⟩
 .rw[Seen.map0 U,Seen.map0 V];exact MT
 rintro⟨i,x,y⟩ ⟨X,H,A,B⟩;dsimp only at X H A B⊢
 refine aF (λn=>?_) (λY=>L true ⟨λ_=>H.all aD,λ_=>rfl⟩);obtain⟨p,o⟩:=eT W n;obtain⟨Z,o1,e1,r1⟩:=F.at o;have bad:¬lX a b (on.take i) p->K (.val (.bool false)) m h:=λhn=>L false ⟨λe=>(by cases e),λe=>(Good.not o hn e).elim⟩;refine⟨Z,o1,e1,aD,n,p,.imm r1,aD,aD,aD,aD,λ⟨i',x',y',c,d⟩=>i'=i/\x'=x/\y'=y/\c=p.1/\d=p.2/\B9 a p.1=true/\B9 b p.2=true,?_,?_⟩
 .refine aF (λz=>bad λg=>?_) (λz=>aF (λC=>bad λg=>?_) (λC=>aF (λD=>bad λg=>?_) (λD=>aF (λh4=>bad λg=>?_) (λh4=>⟨(i,x,y,p.1,p.2),⟨rfl,rfl,rfl,rfl,rfl,eJ.2 ⟨aD,aD⟩,eJ.2 ⟨aD,aD⟩⟩,MT⟩))))
  .have:=eJ.1 g.1;omega
  .have:=eJ.1 g.1;omega
  .have:=eJ.1 g.2.1;omega
  .have:=eJ.1 g.2.1;omega
 rintro⟨i,x,y,c,d⟩ ⟨rfl,rfl,rfl,rfl,rfl,M,O⟩;dsimp only;have f:=eJ.1 M;have j:=eJ.1 O;obtain⟨b2,o2,e2,r2⟩:=I.inb f.1 f.2;obtain⟨b3,o3,e3,r3⟩:=J.inb j.1 j.2;obtain⟨P,Q,q1⟩:=A.look f.1 f.2;obtain⟨R,S,q2⟩:=B.look j.1 j.2;have lx:=A.len;have ly:=B.len;refine⟨b2,o2,e2,f.1,aD,_,.imm r2,b3,o3,e3,j.1,aD,_,.imm r3,aC (λz=>bad λg=>?_) (λz=>⟨f.1,bj,_,Q,P,rfl,aC (λC=>bad λg=>?_) (λC=>⟨j.1,bj,_,S,R,rfl,aC (λD=>bad λg=>?_) (λD=>?_)⟩)⟩)⟩
 .rw[g.2.2.1]at z;simp at z
 .obtain⟨q,E,e⟩:=mem_map.1 (q1.1 C);exact(g.2.2.2 q E).1 e
 .obtain⟨q,E,e⟩:=mem_map.1 (q2.1 D);exact(g.2.2.2 q E).2 e
 refine⟨f.1,bj,_,Q,by simp[eB],j.1,bj,_,S,by simp[eB],(i+1,x.set p.1.toNat true,y.set p.2.toNat true),⟨aD,H.succ o ⟨M,O,bk,λq E=>⟨λe=>?_,λe=>?_⟩⟩,?_,?_⟩,aD,?_⟩
 .grind
 .grind
 .rw[take_add_one,o,map_append];exact A.set f.1 f.2
 .rw[take_add_one,o,map_append];exact B.set j.1 j.2
 .rw[<-Seen.cells x p.1.toNat P, <-Seen.cells y p.2.toNat R];exact MT
theorem Zs:bu 163 QJ:=by
 refine hU func163 ?_;rintro S m h K ⟨s,v,a,t,rfl,T,x,al,O⟩;refine⟨boX s v m h,rfl,aG,SK s v m h K,bd,?_⟩;dsimp only[SK,push_cast];have U:=T.slen;have V:=x.group_.slen;have W:=x.order_.slen;have P:=x.group_.len;have Q:=x.order_.len;have X:=x.limit_;have bad:¬lR a t.group t.order t.limit->K (.val (.bool false)) m h:=λA=>O false ⟨λe=>(by cases e),λe=>(A e).elim⟩;refine⟨aD,aD,aD,aD,?_⟩;refine⟨λ⟨i,u⟩=>i<=t.group.length/\fI (FE a) t.group i/\Seen a.length u (t.group.take i),λ⟨i,_⟩=>t.group.length-i,⟨(0,replicate a.length false),⟨aD,.zero,.zero _⟩,?_⟩,?_⟩
 .rw[Seen.map0 U];exact MT
 rintro⟨i,u⟩ ⟨G,E,B⟩;dsimp only at G E B⊢
 have Y:=B.len;refine aF (λd=>?_) (λC=>?_)
 .obtain⟨c,j⟩:=eT V d;obtain⟨H,I,J,L⟩:=x.group_.at' j;have f:¬FE a (t.group.take i) c->K (.val (.bool false)) m h:=λA=>bad λo=>Good.not j A o.group_;refine⟨H,I,J,aD,d,c,.imm L,aF (λM=>f λg=>?_) (λM=>aF (λz=>f λg=>?_) (λz=>?_))⟩
  .have:=eJ.1 g.1;omega
  .have:=eJ.1 g.1;omega
  obtain⟨y,R,Z⟩:=B.look (c:=c) aD aD;refine⟨aD,bj,_,R,y,rfl,aC (λF=>f λg=>g.2 (Z.1 F)) (λF=>⟨aD,bj,_,R,by simp[eB],(i+1,u.set c.toNat true),⟨aD,E.succ j ⟨eJ.2 ⟨aD,aD⟩,λe=>?_⟩,?_⟩,aD,?_⟩)⟩
  .grind
  .rw[take_add_one,j];exact B.set aD aD
  .rw[<-Seen.cells u c.toNat y];exact MT
 have gg:=E.all aD;clear G E C B Y;refine aF (λM=>bad λo=>by have:=o.len_;omega) (λM=>?_);refine⟨λi=>i<=t.order.length/\fI (I9 a) t.order i,λi=>t.order.length-i,⟨0,⟨aD,.zero⟩,MT⟩,λi⟨G,D⟩=>aF (λd=>?_) (λC=>?_)⟩
 .obtain⟨c,j⟩:=eT W d;obtain⟨H,I,J,L⟩:=x.order_.at j;have n:¬I9 a (t.order.take i) c->K (.val (.bool false)) m h:=λA=>bad λo=>Good.not j A o.order_;refine⟨H,I,J,aD,d,c,.imm L,aF (λz=>n λg=>?_) (λz=>aF (λF=>n λg=>?_) (λF=>⟨i+1,⟨aD,D.succ j (eJ.2 ⟨aD,aD⟩)⟩,bk,MT⟩))⟩
  .have:=eJ.1 (show B9 a c.1=true from g);omega
  .have:=eJ.1 (show B9 a c.1=true from g);omega
 have oo:=D.all aD;rw[X];refine aF (λz=>O _ ⟨λe=>⟨gg,oo,aD,z,bt e⟩,λe=>decide_eq_true e.high⟩) (λz=>bad λo=>by have:=o.low;omega)
def CD(ks:List ca)(a:Int)(n:Bool):ca:=if n=true then ks.getD a.toNat []else[]
noncomputable def CI(s:jE)(ks:List ca)(t:Step):ca×Int:=
 if arity t.op<0\/DH t.left (decide (arity t.op>0)) ks.length=false\/DH t.right (decide (arity t.op>1)) ks.length=false then dV 120
 else if(dY s [] t.query (CD ks t.left (decide (arity t.op>0))) (CD ks t.right (decide (arity t.op>1)))).2=100 then dV 120
 else dY s [] t.query (CD ks t.left (decide (arity t.op>0))) (CD ks t.right (decide (arity t.op>1)))
def QU:Vc.Spec:=λc m h K=>∃sc d v s e ks t,c=[aS sc,cS d,aT v]/\gZ h s sc/\mM s/\uB h t v/\dC m d 33 1 (e.map eS)/\Slices h e ks/\(∀k∈ks,k.length<=12)/\∀r,fin r=CI s ks t->KR K m h r
noncomputable def bTQ(sc:cE)(kk:Sl)(v:vY)(m:MH)(h:PH):Ctx:=
 dA [(157,QY),(158,bIZ),(159,Xs),(139,zI),(156,uR),(160,cfQ),(161,Ty),(162,A8),(163,QJ),(164,Ll),(136,Oz)] [] [(4,{A:=Int,st:=λn=>bQ 132 135 [(1,sv kk),(3,.at (.ptr 3 0)),(5,.at (.ptr 5 0)),(8,iv n)] [(3,.cells 43 (sc.enc.map .val)),(5,.cells 123 (v.enc.map .val))] m h}),
  (9,{A:=Int×Sl,st:=λ⟨n,l⟩=>bQ 132 135 [(1,sv kk),(3,.at (.ptr 3 0)),(5,.at (.ptr 5 0)),(8,iv n),(9,sv l),(10,.at (.val (.slice none 0 0)))] [(3,.cells 43 (sc.enc.map .val)),(5,.cells 123 (v.enc.map .val))] m h}),
  (11,{A:=Sl×Sl,st:=λ⟨l,r⟩=>bQ 132 135 [(3,.at (.ptr 3 0)),(5,.at (.ptr 5 0)),(9,sv l),(10,sv r)] [(3,.cells 43 (sc.enc.map .val)),(5,.cells 123 (v.enc.map .val))] m h}),
  (34,{A:=Sl×Sl×Bool,st:=λ⟨l,r,b⟩=>bQ 132 135 [(5,.at (.ptr 5 0)),(9,sv l),(10,sv r),(11,bv b)] [(5,.cells 123 (v.enc.map .val))] m h})] [] false
abbrev CR(a:Bool)(b:Prop)(c:Sl×Sl×Bool->Prop)(d:Sl×Sl)(e:vY)(g:MH)(i:PH):Prop:=(fV a↔b)->∃(x:Sl×Sl×Bool),aA (c x) dR (aA (bS d.1 x.1) (bS d.2 x.2.1) (aA (lC a x.2.2) (mA e) (aA (g=g) (i=i) True)))
attribute [push_cast] CR
def PE(sc:cE)(kk:Sl)(v:vY)(m:MH)(h:PH)(K:bz):Prop:=
  lA v.op (λo=>∃(I:Int->Prop),aZ (arity o) 0 (K (CV.tup (aW j8 120)) m h) (∃(a:Int)(n:Bool)(e:Int),fX v.left::aW (Bc (decide (arity o>0))) (aH kk)=fX a::aW (Bc n) e/\iM (DH a n e) (K (CV.tup (aW j8 120)) m h) (∃(D:Int)(H:Bool)(J:Int),fX v.right::aW (Bc (decide (arity o>1))) (aH kk)=fX D::aW (Bc H) J/\iM (DH D H J) (K (CV.tup (aW j8 120)) m h) (∃(x:Int),aA (I x) (aI kk) (aA bV dR (aA (dW (arity o) x) (cL sc) (aA (mA v) (m=m) (bN h h)))))))/\∀(x:Int),I x->Ph (λL t=>aA (oB (oH v)=oB (oH L)) (uB h t L) (∀(r:Bool),iU (fV r↔cH (Query.mk t.op t.table t.wher t.columns t.on t.group t.order t.limit [])) (!r) (K (CV.tup (aW j8 120)) m h) (∃(I1:Int×Sl->Prop),fA x 0 (eK
 kk.a v.left kk (λb B y=>aU m h b (fU B v.left 1) (bA y)/\∃(z:Int×Sl),aA (I1 z) (aI kk) (aA bV dR (aA (dW x z.1) (bS y z.2) (aA (eQ sQn) (cL sc) (bP (mA v) (m=m) (h=h))))))) (∃(z:Int×Sl),aA (I1 z) (aI kk) (aA bV dR (aA (dW x z.1) (sQn=sQs z.2) (aA (eQ sQn) (cL sc) (bP (mA v) (m=m) (h=h))))))/\∀(z:Int×Sl),I1 z->∃(I2:Sl×Sl->Prop),fA z.1 1 (eK kk.a v.right kk (λb B y=>aU m h b (fU B v.right 1) (bA y)/\∃(d:Sl×Sl),aA (I2 d) bV (aA dR (bS z.2 d.1) (aA (bS y d.2) (cL sc) (aA (mA v) (m=m) (bN h h)))))) (∃(d:Sl×Sl),aA (I2 d) bV (aA dR (bS z.2 d.1) (aA (sQn=sQs d.2) (cL sc) (aA (mA v) (m=m) (bN h h)))))/\∀(d:Sl×Sl),I2 d->∃(I3:Sl×
 Sl×Bool->Prop),cW (v.op==1) (aZ v.table 0 (K (CV.tup (aW j8 120)) m h) (gM v.table (mD sc) (K (CV.tup (aW j8 120)) m h) (CQ (aW (cJ sc) v.table) h (λs A=>K (CV.tup (aW (fJ s) 0)) m A)))) (v.op==2) (ED (fJ d.1::cV j8 (cQ v.where_)) h (λc p M=>eC (gH c p M) 0 (K (CV.tup (aW j8 (gH c p M))) m h) (∃(g:Sl×Sl×Bool),aA (I3 g) dR (aA (bS d.1 g.1) (bS d.2 g.2.1) (aA (zT g.2.2) (mA v) (aA (m=m) (h=h) True)))))) (cW (v.op==3) (∃(s:Sl),rA (λf a c=>aA (dT d.1 v.columns=dT s f) (Ints h s a) (Ints h f c/\iR (λC A=>cC h A (Ints A C (Vx a c).1) (K (CV.tup (fF C (CV.val (eF (Vx a c).2)))) m A))))) (v.op==4) (pW (λs f=>rA (λu a b=>∃(B:ce),aA (fJ d.1::fF d.2
 (fJ v.on)=fJ s::fF f (fJ u)) (Ints h s a) (aA (Ints h f b) (iF h u B) (aA (fO a) (fO b) (∀(j:Bool),CR j (Good (lX a b) B) I3 d v m h)))))) (cW (v.op==5) (pW (λs f=>rA (λu a b=>∃(B:ce),aA (fJ d.1::fF d.2 (fJ v.on)=fJ s::fF f (fJ u)) (Ints h s a) (aA (Ints h f b) (iF h u B) (aA (fO a) (fO b) (∀(j:Bool),CR j (Good (lX a b) B) I3 d v m h)))))) (v.op==6) (∃(s:Sl),rA (λf a b=>mC (dT d.1 d.2) (dT s f) (Ints h s a) (Ints h f b) (λj=>CR j (a=b) I3 d v m h))) (cW (v.op==7) (∃(s:Sl),rA (λf a b=>mC (dT d.1 d.2) (dT s f) (Ints h s a) (Ints h f b) (λj=>CR j (a=b) I3 d v m h))) (v.op==8) (∃(s:Sl),rA (λf a b=>mC (dT d.1 d.2) (dT s f) (Ints
 h s a) (Ints h f b) (λj=>CR j (a=b) I3 d v m h))) (cW (v.op==9) (∃(s:Sl)(E:vY)(a:ca)(f:Step),aA (fF d.1 (oH v)=fF s (oH E)) (Ints h s a) (aA (uB h f E) (fO a) (∀(j:Bool),CR j (lR a f.group f.order f.limit) I3 d v m h))) (v.op==10) (∃(s:Sl),rA (λf a b=>mC (dT d.1 d.2) (dT s f) (Ints h s a) (Ints h f b) (λj=>iU (fV j↔a=b) j (∃(C:Sl)(E:vY)(D:ca)(F:Step),aA (fF d.1 (oH v)=fF C (oH E)) (Ints h C D) (aA (uB h F E) (fO D) (∀(Q:Bool),CR Q (lR D F.group F.order F.limit) I3 d v m h))) (∃(g:Sl×Sl×Bool),aA (I3 g) dR (aA (bS d.1 g.1) (bS d.2 g.2.1) (aA (DA g.2.2) (mA v) (aA (m=m) (h=h) True))))))) (∃(g:Sl×Sl×Bool),aA (I3 g)
 dR (aA (bS d.1 g.1) (bS d.2 g.2.1) (aA (zT g.2.2) (mA v) (aA (m=m) (h=h) True))))))))/\∀(g:Sl×Sl×Bool),I3 g->cW (!g.2.2) (K (CV.tup (aW j8 120)) m h) (v.op==4) (bO h 1 (j4 (bA g.1) (bA g.2.1)) (λs A=>∃(C:Sl)(k:List ca),aA (iT s=iT C) (cvJ A C k) (aA (k.length<=10) (∀(O:ca),List.Mem O k->O.length<=12) (iR (λP G=>cC A G (Ints G P k.flatten) (K (CV.tup (aW (fJ P) 0)) m G)))))) (wR g.1 h (λl=>iR (λs A=>cC h A (Ints A s l) (K (CV.tup (aW (fJ s) 0)) m A))))))))
theorem dC.rdAt{m:MH}{h:PH}{s:Sl}{E sz:Nat}{xs:List bx}(r:dC m s E sz xs){i:Nat}{e:bx}(d:xs[i]? =some e):∃b o,s.a=some ⟨b,o,none⟩/\aU m h b (o+i*sz) e:=by
 rcases r.ex with⟨_,rfl⟩|⟨b,g,c,rfl,n,_,_,_,u⟩
 .simp at d
 .refine⟨b,0,rfl,.lent c E (0,0) n ?_⟩;apply ext_getElem?;intro j;rw[getElem?_take];by_cases f:j<e.length
  .rw[if_pos f,getElem?_drop,Nat.zero_add];have x:=mY r.rows.len d j e[j] (getElem?_eq_getElem f)
   grind
  grind
theorem alJ{kk:Sl}{c:ck}(r:dC m kk 33 1 (c.map eS))(g:Slices h c ks){a:Int}(j:0<=a)(n:a<ks.length):∃b o sl,kk.a=some ⟨b,o,none⟩/\aU m h b (o+a.toNat*1) [.slice sl.a sl.len sl.cap]/\Ints h sl (ks.getD a.toNat []):=by
 have d:a.toNat<ks.length:=by omega
 have f:a.toNat<c.length:=by rw[g.1];exact d
 obtain⟨b,o,e,rd⟩:=dC.rdAt (h:=h) r (i:=a.toNat) (e:=eS c[a.toNat]) bk;refine⟨b,o,c[a.toNat],e,rd,?_⟩;rw[getD_eq_getElem?_getD,getElem?_eq_getElem d];exact g.2 a.toNat _ _ (getElem?_eq_getElem f) (getElem?_eq_getElem d)
theorem Xl(h:∀k∈ks,k.length<=12)(a:Int)(n:Bool):(CD ks a n).length<=12:=by
 unfold CD
 grind
open Classical in
theorem crJ{sc:cE}{kk:Sl}{v:vY}{s:jE}{ss:ck}{ks:List ca}{t:Step}{m:MH}{h:PH}{K:bz}(hs:gZ h s sc)(h8:mM s)(x:uB h t v)(hr:dC m kk 33 1 (ss.map eS))(U:Slices h ss ks)(Y:∀k∈ks,k.length<=12)
 (Z:∀r,fin r=CI s ks t->KR K m h r):PE sc kk v m h K:=by
 dsimp only[PE,push_cast];have F:Tst K m h (CI s ks t):=⟨Z⟩
 clear Z
 have kl:kk.len=ks.length:=by
  have:=dC.slen hr;rw[length_map]at this;rw[this,U.1]
 have ex:=x;have a9:=hs.tables.slen;obtain⟨op,ta,w,co,on,gr,od,li,le,ri⟩:=t;obtain⟨e0,e1,xw,xc,xo,xg,xs,e2,e3,e4⟩:=x;simp only at e0 e1 xw xc xo xg xs e2 e3 e4;subst e0 e1 e2 e3 e4;have a':=Xl Y v.left (decide (arity v.op>0));have a5:=Xl Y v.right (decide (arity v.op>1))
 have d:CI s ks ⟨v.op,v.table,w,co,on,gr,od,v.limit,v.left,v.right⟩=if arity v.op<0\/DH v.left (decide (arity v.op>0)) ks.length=false\/DH v.right (decide (arity v.op>1)) ks.length=false then dV 120
  else if(dY s [] (.mk v.op v.table w co on gr od v.limit []) (CD ks v.left (decide (arity v.op>0))) (CD ks v.right (decide (arity v.op>1)))).2=100 then dV 120
  else dY s [] (.mk v.op v.table w co on gr od v.limit []) (CD ks v.left (decide (arity v.op>0))) (CD ks v.right (decide (arity v.op>1))):=rfl
 generalize hA:CD ks v.left (decide (arity v.op>0))=A at d a';generalize hB:CD ks v.right (decide (arity v.op>1))=B at d a5;generalize CI s ks ⟨v.op,v.table,w,co,on,gr,od,v.limit,v.left,v.right⟩=R at F d;refine⟨v.op,rfl,λn=>n=arity v.op/\¬(arity v.op<0\/DH v.left (decide (arity v.op>0)) ks.length=false\/DH v.right (decide (arity v.op>1)) ks.length=false),aF (λC=>F.err bk bg (.refl _)) (λC=>⟨v.left,_,(kk.len:Int),rfl,aC (λh2=>?_) (λh2=>⟨v.right,_,(kk.len:Int),rfl,aC (λh3=>?_) (λh3=>⟨arity v.op,⟨rfl,?_⟩,MT⟩)⟩)⟩),?_⟩
 .rw[kl]at h2;exact F.err bk bg (.refl _)
 .rw[kl]at h3;exact F.err bk bg (.refl _)
 .grind
 rintro n ⟨rfl,a0⟩;rw[if_neg a0]at d;have P:¬arity v.op<0:=λe=>a0 (.inl e);refine⟨v,_,rfl,ex,λr a1=>aC (λC=>F.err ?_ (e:=120) bg (.refl _)) (λC=>?_)⟩
 .have hn:¬cH (.mk v.op v.table w co on gr od v.limit []):=λe=>bk
  have e:dY s [] (.mk v.op v.table w co on gr od v.limit []) A B=dV 100:=by
   unfold dY;exact if_pos (.inr hn)
  rw[d,e];rfl
 have hu:cH (.mk v.op v.table w co on gr od v.limit []):=a1.1 bk;clear a1 C r
 have J:dY s [] (.mk v.op v.table w co on gr od v.limit []) A B=if v.op=1 then(if 0<=v.table/\v.table<s.tables.length then lL (jR s v.table)else dV 100)
  else if v.op=2 then(if gH A [] w=0 then lL A else dV (gH A [] w))
  else if v.op=3 then(if co≠[]/\Good (λ_ c=>B9 A c=true) co then lL (co.map λc=>A.getD c.toNat 0)else dV 100)
  else if v.op=4 then(if Good (lX A B) on then lL (A++B)else dV 100)
  else if v.op=5 then(if Good (lX A B) on then lL A else dV 100)
  else if v.op=9 then(if lR A gr od v.limit then lL A else dV 100)
  else if v.op=10 then(if A=B/\lR A gr od v.limit then lL A else dV 100)
  else(if A=B then lL A else dV 100):=by
  unfold dY;exact if_neg (λe=>e.elim P λe=>e hu)
 have a8:∀l,(lL l).2≠100:=λl=>by unfold lL;grind
 have L:∀{l},dY s [] (.mk v.op v.table w co on gr od v.limit []) A B=lL l->R=lL l:=fun{l} e=>bk
 have D:dY s [] (.mk v.op v.table w co on gr od v.limit []) A B=dV 100->R=dV 120:=λe=>by rw[d,e];rfl
 have a2:∀{e},e≠100->dY s [] (.mk v.op v.table w co on gr od v.limit []) A B=dV e->R=dV e:=fun{e} h0 e1=>by rw[d,e1,if_neg (by simpa[dV]using h0)]
 clear d;refine⟨λ⟨n,l⟩=>n=arity v.op/\Ints h l A,aF (λC=>?_) (λC=>⟨(arity v.op,⟨none,0,0⟩),⟨rfl,?_⟩,MT⟩),?_⟩
 .have G:DH v.left (decide (arity v.op>0)) ks.length=true:=by
   grind
  unfold DH at G;rw[if_pos (decide_eq_true C)]at G;simp only[Bool.and_eq_true,decide_eq_true_eq]at G;obtain⟨b,o,Q,e,rd,S⟩:=alJ hr U G.1 G.2;refine⟨b,o,e,G.1,aD,Q,rd,(arity v.op,Q),⟨rfl,?_⟩,MT⟩;rw[<-hA,CD,if_pos (decide_eq_true C)];exact S
 .rw[<-hA,CD,if_neg bk];exact⟨.nil _ _,bf⟩
 rintro⟨n,l⟩ ⟨rfl,u⟩;dsimp only;refine⟨λ⟨l,r⟩=>Ints h l A/\Ints h r B,aF (λC=>?_) (λC=>⟨(l,⟨none,0,0⟩),⟨u,?_⟩,MT⟩),?_⟩
 .have G:DH v.right (decide (arity v.op>1)) ks.length=true:=by
   grind
  unfold DH at G;rw[if_pos (decide_eq_true C)]at G;simp only[Bool.and_eq_true,decide_eq_true_eq]at G;obtain⟨b,o,Q,e,rd,S⟩:=alJ hr U G.1 G.2;refine⟨b,o,e,G.1,aD,Q,rd,(l,Q),⟨u,?_⟩,MT⟩;rw[<-hB,CD,if_pos (decide_eq_true C)];exact S
 .rw[<-hB,CD,if_neg bk];exact⟨.nil _ _,bf⟩
 clear u l;rintro⟨l,r⟩ ⟨u,j⟩;dsimp only;have T:∀b:Bool,(b=true->R=lL (if v.op=4 then A++B else A))->(b=false->R=dV 120)->∃x:Sl×Sl×Bool,((λ⟨l,r,b⟩=>Ints h l A/\Ints h r B/\(b=true->R=lL (if v.op=4 then A++B else A))/\(b=false->R=dV 120):Sl×Sl×Bool->Prop)) x/\(l,r,b)=x:=λb g1 g2=>⟨_,⟨u,j,g1,g2⟩,rfl⟩
 refine⟨λ⟨l,r,b⟩=>Ints h l A/\Ints h r B/\(b=true->R=lL (if v.op=4 then A++B else A))/\(b=false->R=dV 120),?_,?_⟩
 .refine aC (λM=>?_) (λM=>aC (λV=>?_) (λV=>aC (λc3=>?_) (λc3=>?_)))
  .have M:v.op=1:=bk
   rw[if_pos M]at J;refine aF (λC=>F.err (D bk) bg (.refl _)) (λC=>aF (λh2=>F.err (D bk) bg (.refl _)) (λh2=>⟨sc,s,v.table,rfl,hs,h8,λQ h' E S=>F.ok (L bk) E S⟩))
  .have M:¬v.op=1:=bk
   have V:v.op=2:=bk
   rw[if_neg M,if_pos V]at J;have a6:gH A [] w≠100:=by unfold gH;omega
   refine⟨l,⟨none,0,0⟩,v.where_,A,[],w,rfl,u,⟨.nil _ _,bf⟩,xw,aC (λC=>?_) (λC=>⟨(l,r,true),⟨u,j,λ_=>?_,λe=>(by cases e)⟩,MT⟩)⟩
   .have C:gH A [] w≠0:=bk
    exact F.err (a2 a6 bk) C (.refl _)
   grind
  .have M:¬v.op=1:=bk
   have V:¬v.op=2:=bk
   have c3:v.op=3:=bk
   rw[if_neg M,if_neg V,if_pos c3]at J;refine⟨l,v.columns,A,co,rfl,u,xc,?_⟩;unfold Vx;split
   .rename_i e;have hR:R=lL (co.map λc=>A.getD c.toNat 0):=L bk;refine F.all _ ?_;rw[hR];unfold lL;split
    .rename_i C;show fin (_,0)=_;rw[anJ,lL,if_pos C]
    .exact Uo (e:=2) bg
   .rename_i e;refine F.all _ ?_;rw[D bk];exact Uo bg
  have M:¬v.op=1:=bk
  have V:¬v.op=2:=bk
  have c3:¬v.op=3:=bk
  rw[if_neg M,if_neg V,if_neg c3]at J;refine aC (λH=>?_) (λH=>aC (λc5=>?_) (λc5=>?_))
  .have H:v.op=4:=bk
   rw[if_pos H]at J;refine⟨l,r,v.on,A,B,on,rfl,u,j,xo,aD,aD,λz I=>⟨(l,r,z),⟨u,j,λe=>?_,λe=>?_⟩,MT⟩⟩
   .grind
   grind
  .have H:¬v.op=4:=bk
   have c5:v.op=5:=bk
   rw[if_neg H,if_pos c5]at J;refine⟨l,r,v.on,A,B,on,rfl,u,j,xo,aD,aD,λz I=>⟨(l,r,z),⟨u,j,λe=>?_,λe=>?_⟩,MT⟩⟩
   .grind
   grind
  have H:¬v.op=4:=bk
  have c5:¬v.op=5:=bk
  rw[if_neg H,if_neg c5]at J;simp only[if_neg H]
  have f:¬v.op=9->¬v.op=10->∀z:Bool,(z=true↔A=B)->∃x:Sl×Sl×Bool,(Ints h x.1 A/\Ints h x.2.1 B/\(x.2.2=true->R=lL A)/\(x.2.2=false->R=dV 120))/\x=(l,r,z):=λn9 a3 z I=>by
   grind
  have W:¬v.op=9->¬v.op=10->∃(s:Sl)(t:Sl)(a:ca)(b:ca),[fJ l,fJ r]=[fJ s,fJ t]/\Ints h s a/\Ints h t b/\∀z:Bool,(z=true↔a=b)->∃x:Sl×Sl×Bool,(Ints h x.1 A/\Ints h x.2.1 B/\(x.2.2=true->R=lL A)/\(x.2.2=false->R=dV 120))/\x=(l,r,z):=λn9 a3=>⟨l,r,A,B,rfl,u,j,f n9 a3⟩
  refine aC (λc6=>?_) (λc6=>aC (λc7=>?_) (λc7=>aC (λc8=>?_) (λc8=>?_)))
  .have c6:v.op=6:=bk
   refine⟨l,r,A,B,rfl,u,j,λz I=>?_⟩;obtain⟨_,g,rfl⟩:=f aD aD z I;exact⟨(l,r,z),g,MT⟩
  .have c7:v.op=7:=bk
   refine⟨l,r,A,B,rfl,u,j,λz I=>?_⟩;obtain⟨_,g,rfl⟩:=f aD aD z I;exact⟨(l,r,z),g,MT⟩
  .have c8:v.op=8:=bk
   refine⟨l,r,A,B,rfl,u,j,λz I=>?_⟩;obtain⟨_,g,rfl⟩:=f aD aD z I;exact⟨(l,r,z),g,MT⟩
  clear f W T;refine aC (λX=>?_) (λX=>aC (λO=>?_) (λO=>?_))
  .have X:v.op=9:=bk
   rw[if_pos X]at J;refine⟨l,v,A,_,rfl,u,ex,aD,λz I=>⟨(l,r,z),⟨u,j,λe=>L bk,λe=>D bk⟩,MT⟩⟩
  .have X:¬v.op=9:=bk
   have O:v.op=10:=bk
   rw[if_neg X,if_pos O]at J;refine⟨l,r,A,B,rfl,u,j,λy hy=>aC (λy1=>⟨l,v,A,_,rfl,u,ex,aD,λz I=>⟨(l,r,z),⟨u,j,λe=>L bk,λe=>D bk⟩,MT⟩⟩) (λy1=>⟨(l,r,false),⟨u,j,(λe=>(by cases e)),λe=>D bk⟩,MT⟩)⟩
  .exfalso;have c6:¬v.op=6:=bk
   have c7:¬v.op=7:=bk
   have c8:¬v.op=8:=bk
   have X:¬v.op=9:=bk
   have O:¬v.op=10:=bk
   refine P ?_;unfold arity
   grind
 clear T u j l r;rintro⟨l,r,b⟩ ⟨u,j,g1,g2⟩;dsimp only at g1 g2⊢
 refine aC (λC=>F.err (g2 bk) bg (.refl _)) (λC=>?_);have g:=g1 bk;refine aC (λH=>λQ h' E a4=>?_) (λH=>⟨l,A,rfl,u,λs' h' E S=>?_⟩)
 .rw[if_pos bk]at g;refine⟨Q,[A,B],rfl,⟨⟨[l,r],a4,rfl,λi k e=>?_⟩,bf⟩,bf,λk hk=>?_,λb' h2 a7 S=>F.ok g (E.trans a7) bk⟩
  .match i,e with
   |0,e=>simp at e;subst e;exact⟨l,rfl,u.mono E⟩
   |1,e=>simp at e;subst e;exact⟨r,rfl,j.mono E⟩
   |i+2,e=>simp at e
  .rcases mem_cons.1 hk with rfl|hk
   .exact a'
   grind
 .rw[if_neg bk]at g;exact F.ok g E S
theorem aLQ:bu 91 QU:=by
 refine hU func91 ?_;rintro f m h K ⟨sc,e,v,s,u,ks,t,rfl,g,j,x,n,c,d,o⟩;refine⟨bTQ sc e v m h,rfl,aE Zx (aE Zw (aE Zv (aE Fw (aE IT (aE Zu (aE Zt (aE Fv (aE Zs (aE P7 (aE IU aG)))))))))),PE sc e v m h K,bd,?_⟩;exact crJ g j x n c d o
noncomputable def Cg(s:jE):List ca->cq->List ca×Int
 |ks,[]=>(ks,0)
 |ks,t::ts=>if(CI s ks t).2=0 then Cg s (ks++[(CI s ks t).1]) ts else(ks,(CI s ks t).2)
noncomputable def iC(s:jE)(ts:cq)(rs:ca):Int:=
 if dK s≠0 then dK s else if 1024<ts.length\/32<rs.length then 2 else if(Cg s [] ts).2≠0 then(Cg s [] ts).2 else if rs.all (λr=>decide (0<=r)&&decide (r<ts.length))=true then 0 else 120
structure qJ(h:PH)(p r:Sl)(ts:cq)(rs:ca):Prop where
 steps:∃vs,cD h p 22 (vs.map vY.enc)/\Steps h vs ts
 roots:Ints h r rs
 len:ts.length<=1000000000
def QF:Vc.Spec:=λc m h K=>∃sc p r s ts rs,c=[aS sc,aPl p r]/\gZ h s sc/\qJ h p r ts rs/\∀d,K (.tup [cS d,cI (iC s ts rs)]) m h
noncomputable def bZX(sc:cE)(p r:Sl):Ctx:=
 sN [(90,z6),(91,QU)] [(8,{A:=Nat×Sl×MH×PH,st:=λ⟨i,c,m,h⟩=>bQ 76 78 [(2,.at (.ptr 2 0)),(3,.at (.ptr 3 0)),(7,sv c),(34,sv p),(35,iv p.len),(36,iv i)] [(2,.cells 43 (sc.enc.map .val)),(3,.cells 62 [.val (.slice p.a p.len p.cap),.val (.slice r.a r.len r.cap)])] m h}),
  (18,{A:=Nat×Sl×MH×PH,st:=λ⟨i,c,m,h⟩=>bQ 76 78 [(3,.at (.ptr 3 0)),(7,sv c),(59,sv r),(60,iv r.len),(61,iv i)] [(3,.cells 62 [.val (.slice p.a p.len p.cap),.val (.slice r.a r.len r.cap)])] m h})] [] [] [1079,2079] [] false
noncomputable abbrev qE(a:Nat×Sl×MH×PH):Nat->Nat->Option Value:=fP a.2
attribute [push_cast] qE
def PO(sc:cE)(p r:Sl)(m:MH)(h:PH)(K:bz):Prop:=
  xG (λv s=>aA (oB (cJ sc)=oB (cJ v)) (gZ h s v) (nK (dK s !=0) (K (CV.tup (aW j8 (dK s))) m h) (aH p) 1024 (K (CV.tup (aW j8 2)) m h) (fA (aH r) 32 (K (CV.tup (aW j8 2)) m h) (aA (bZ 0) (bZ (aH p)) (aA (vA p 24) (vW (aH p)) (lD (λz A=>rE m A h z 33 1 []->∃(I:Nat×Sl×MH×PH->Prop)(B:Nat×Sl×MH×PH->Nat),(∃(x:Nat×Sl×MH×PH),aA (I x) dQ (aA bV (kE z x.2) (aA (aI p) (bI p) (aA (bB x.1) (cL sc) (bP (eQ (oQ 62 (lV (vK p) (vK r)))) (bH A x.2.2) (h=qE x))))))/\∀(x:Nat×Sl×MH×PH),I x->aZ (↑x.1:Int) (aH p) (bJ (λb o=>aA (bM p.a b o) (0<=(↑x.1:Int)) ((↑x.1:Int)<aH p/\∃(y:vY),aU (eU x.2) (qE x) b (bK o x.1 22) y.enc/\Ev (λC k=>∃(D:
 vY)(j:jE)(E:ck)(n:List ca)(t:Step),aA (cJ sc::fF x.2.1 (oH y)=cJ C::fF k (oH D)) (gZ (qE x) j C) (aA (mM j) (uB (qE x) t D) (aA (dC (eU x.2) k 33 1 (nN E)) (Slices (qE x) E n) ((∀(F:ca),List.Mem F n->F.length<=12)/\∀(g:ca×Int),fin g=CI j n t->iR (λu e=>cC (qE x) e (Ints e u g.1) (nK (g.2 !=0) (K (CV.tup (aW j8 g.2)) (eU x.2) e) (aH u) 12 (K (CV.tup (aW j8 2)) (eU x.2) e) (∃(c:List bx),aA (dC (eU x.2) (iA x.2.1.a x.2.1) 33 1 c) (fC (iY c 1*24)) (jQ c/\lD (λG f=>eD (eU x.2) f (iA x.2.1.a x.2.1) G 33 1 (eN c (bA u))->∃(d:Nat×Sl×MH×PH),aA (I d) (B d<B x) (aA dQ bV (aA (kE G d.2)
 (aI p) (aA (bI p) (bD (fZ (bE x.1 1)) d.1) (tI (cL sc) (eQ (oQ 62 (lV (vK p) (vK r)))) (bH f d.2.2) e (qE d))))))))))))))))) (∃(I1:Nat×Sl×MH×PH->Prop)(f:Nat×Sl×MH×PH->Nat),(∃(c:Nat×Sl×MH×PH),aA (I1 c) bV (aA (kE x.2.1 c.2) (aI r) (aA (bI r) (bB c.1) (aA (eQ (oQ 62 (lV (vK p) (vK r)))) (bH (eU x.2) c.2.2) (bN (qE x) (qE c))))))/\∀(c:Nat×Sl×MH×PH),I1 c->aZ (↑c.1:Int) (aH r) (bJ (λb o=>aA (bM r.a b o) (0<=(↑c.1:Int)) ((↑c.1:Int)<aH r/\∃(y:Int),aU (eU c.2) (qE c) b (bK o c.1 1) (bG y)/\aZ y 0 (K (CV.tup (aW j8 120)) (eU c.2) (qE c)) (gM y (aH p) (K (CV.tup (aW j8 120)) (eU c.2) (qE c)) (∃(d:Nat×Sl×MH×PH),aA (I1 d) (f d<f c)
 (aA bV (kE c.2.1 d.2) (aA (aI r) (bI r) (aA (bD (fZ (bE c.1 1)) d.1) (eQ (oQ 62 (lV (vK p) (vK r)))) (aA (bH (eU c.2) d.2.2) (qE c=qE d) True))))))))) (K (CV.tup (aW (fJ c.2.1) 0)) (eU c.2) (qE c))))))))))
theorem cxZ(h:dK s=0):mM s:=λt c=>by
 obtain⟨i,d⟩:=mem_iff_getElem?.1 c;have e:DK s:=Classical.byContradiction λf=>by rw[wZ f]at h;cases h
 exact(e.2 i t d).1
structure a0Q(m0 m:MH)(h:PH)(kk:Sl)(ks:List ca):Prop where
 sub:Sub m0 m
 fresh:∀b i,kk.a=some ⟨b,i,none⟩->m0 b=none
 ex:∃ss,dC m kk 33 1 (ss.map eS)/\Slices h ss ks
 le12:∀k∈ks,k.length<=12
theorem a0Q.new{s:Sl}(x:rE m m' h s 33 1 []):a0Q m m' h s []:=by
 refine⟨λb o e=>?_,λb i e=>(x.fresh b i e).m_,⟨[],x.row,rfl,λj s k e=>by simp at e⟩,λk c=>by simp at c⟩;rw[x.other b (λi d=>by have:=(x.fresh b i d).m_;grind)];exact e
theorem a0Q.grown{m0:MH}{kk sl:Sl}{k:ca}(r:a0Q m0 m h kk ks)(le:PH.le h h')(u:Ints h' sl k)(C:k.length<=12):
 ∃xs,dC m ⟨kk.a,kk.len,kk.cap⟩ 33 1 xs/\xs.length=ks.length/\∀d m',eD m m' ⟨kk.a,kk.len,kk.cap⟩ d 33 1 (xs++[[.slice sl.a sl.len sl.cap]])->a0Q m0 m' h' d (ks++[k]):=by
 obtain⟨y,z,f⟩:=r.ex;refine⟨_,z,by rw[length_map,f.1],λd m' g=>⟨λb o e=>g.other b o (r.sub b o e) (λi c=>?_),λb i e=>?_,⟨y++[sl],?_,(f.mono le).snoc u⟩,λx A=>?_⟩⟩
 .rw[r.fresh b i c]at e;cases e
 .rcases g.fresh b i e with c|⟨j,c⟩
  .cases B:m0 b with
   |none=>rfl
   |some o=>rw[r.sub b o B]at c;cases c
  .exact r.fresh b j c
 .rw[map_append];exact g.row
 .rcases mem_append.1 A with n|n
  .exact r.le12 x n
  grind
theorem Steps.at'{p:Sl}{vs:List vY}(r:cD h p 22 (vs.map vY.enc))(s:Steps h vs ts)(c:ts[i]? =some t):∃b o v,p.a=some ⟨b,o,none⟩/\bL h b (o+i*22) (vY.enc v)/\uB h t v:=by
 obtain⟨v,d,f⟩:=s.2 i t c;obtain⟨b,o,e,k⟩:=r.get (i:=i) (e:=vY.enc v) (by simp[d])
 grind
theorem Steps.slen'{p:Sl}{vs:List vY}(r:cD h p 22 (vs.map vY.enc))(s:Steps h vs ts):p.len=ts.length:=by
 have:=r.len;simp at this;rw[this,s.1]
theorem qJ.at{p:Sl}(x:qJ h p r ts rs)(c:ts[i]? =some t):∃b o v,p.a=some ⟨b,o,none⟩/\bL h b (o+i*22) (vY.enc v)/\uB h t v:=by
 obtain⟨f,d,e⟩:=x.steps;exact Steps.at' d e c
theorem qJ.slen{p:Sl}(x:qJ h p r ts rs):p.len=ts.length/\p.len<=p.cap:=by
 obtain⟨e,c,d⟩:=x.steps;exact⟨Steps.slen' c d,c.cap⟩
theorem qJ.mono{p:Sl}(x:qJ h p r ts rs)(le:PH.le h h'):qJ h' p r ts rs:=by
 obtain⟨c,d,f,g⟩:=x.steps;exact⟨⟨c,d.mono le,f,λi t e=>let⟨v,e1,e2⟩:=g i t e;⟨v,e1,e2.mono le⟩⟩,x.roots.mono le,x.len⟩
theorem aKQ(r:ca×Int):(r.2≠0/\fin r=dV r.2)\/(r.2=0/\12<r.1.length/\fin r=dV 2)\/(r.2=0/\r.1.length<=12/\fin r=(r.1,0)):=by
 unfold fin;by_cases h:r.2=0
 .rw[if_pos h];unfold lL;by_cases c:r.1.length<=12
  .grind
  .rw[if_neg c];exact .inr (.inl ⟨h,aD,rfl⟩)
 grind
theorem Ih{s:jE}{ts:cq}{rs:ca}(c:dK s=0)(d:¬(1024<ts.length\/32<rs.length)):iC s ts rs=if(Cg s [] ts).2≠0 then(Cg s [] ts).2 else if rs.all (λr=>decide (0<=r)&&decide (r<ts.length))=true then 0 else 120:=by
 unfold iC;omega
theorem MV(d:ts[i]? =some t):Cg s ks (ts.drop i)=if(CI s ks t).2=0 then Cg s (ks++[(CI s ks t).1]) (ts.drop (i+1))else(ks,(CI s ks t).2):=by
 have c:=(List.getElem?_eq_some_iff.1 d)
 obtain⟨c,e⟩:=c;rw[drop_eq_getElem_cons c,e];rfl
theorem aOJ:bu 38 QF:=by
 refine FR func38 ?_;rintro Y m h K ⟨sc,p,r,s,ts,rs,rfl,R,x,hK⟩;refine⟨bZX sc p r,rfl,aE HK (aE aLQ aG),PO sc p r m h (lE h K),bd,?_⟩;show PO sc p r m h (lE h K);dsimp only[PO,push_cast];have Z:=x.slen.1;have rl:=x.roots.slen;have S:=x.len;have T:=x.roots.len;have done:∀{y:MH}{n:PH}{e:Int}{kk:Sl},Sub m y->PH.le h n->iC s ts rs=e->lE h K (.tup [cS kk,cI e]) y n:=fun{y n e kk} C J U=>.out C J bk;refine⟨sc,s,rfl,R,aC (λC=>?_) (λC=>?_)⟩
 .have C:dK s≠0:=bk
  exact done (kk:=⟨none,0,0⟩) (Sub.refl m) (.refl _) (by unfold iC;omega)
 have C:dK s=0:=bk
 refine aF (λJ=>?_) (λJ=>aF (λU=>?_) (λU=>⟨aD,aD,aD,aD,λk0 m1 L=>?_⟩))
 .exact done (kk:=⟨none,0,0⟩) (Sub.refl m) (.refl _) (by unfold iC;omega)
 .exact done (kk:=⟨none,0,0⟩) (Sub.refl m) (.refl _) (by unfold iC;omega)
 have z:=Ih (s:=s) (ts:=ts) (rs:=rs) C aD;refine⟨λ⟨i,kk,y,n⟩=>i<=ts.length/\PH.le h n/\∃ks,a0Q m y n kk ks/\ks.length=i/\Cg s ks (ts.drop i)=Cg s [] ts,λ⟨i,_⟩=>ts.length-i,⟨(0,k0,m1,h),⟨aD,.refl _,[],.new L,rfl,rfl⟩,MT⟩,?_⟩;rintro⟨i,kk,y,n⟩ ⟨hi,d,ks,f,M,c⟩;dsimp only;refine aF (λu=>?_) (λO=>?_)
 .obtain⟨t,V⟩:=eT Z u;obtain⟨b,o,v,e,rd,rv⟩:=(x.mono d).at V;obtain⟨ss,hm,P⟩:=f.ex;rw[MV V]at c;refine⟨b,o,e,aD,u,v,.imm rd,sc,kk,v,s,ss,ks,t,rfl,R.mono d,cxZ C,rv,hm,P,f.le12,λq D sl h' A G=>?_⟩;have a':=G.slen;rcases aKQ q with⟨E,H⟩|⟨E,H,I⟩|⟨E,H,I⟩
  .rw[D]at H;rw[H,if_neg (by simpa[dV]using E)]at c;refine aC (λ_=>done (kk:=⟨none,0,0⟩) f.sub (d.trans A) ?_) (λF=>?_)
   .rw[z, <-c,if_pos (by simpa[dV]using E)];rfl
   grind
  .rw[D]at I;rw[I,if_neg (by simp[dV])]at c;refine aC (λF=>absurd E bk) (λ_=>aF (λ_=>done (kk:=⟨none,0,0⟩) f.sub (d.trans A) ?_) (λF=>by omega));rw[z, <-c,if_pos (by simp[dV])];rfl
  .rw[D]at I;rw[I,if_pos rfl]at c;refine aC (λF=>absurd E bk) (λ_=>aF (λF=>by omega) (λ_=>?_));obtain⟨xs,Q,a0,hg⟩:=f.grown A G H;exact⟨xs,Q,aD,aD,λW m' g=>⟨(i+1,W,m',h'),⟨aD,d.trans A,ks++[q.1],hg W m' g,by simp[M],c⟩,aD,MT⟩⟩
 have X:ts.drop i=[]:=drop_of_length_le aD;rw[X]at c;have h0:(Cg s [] ts).2=0:=by rw[<-c];rfl
 rw[h0,if_neg bg]at z;clear c X;refine⟨λ⟨j,k',m',h'⟩=>j<=rs.length/\k'=kk/\m'=y/\h'=n/\(rs.take j).all (λr=>decide (0<=r)&&decide (r<ts.length))=true,λ⟨j,_⟩=>rs.length-j,⟨(0,kk,y,n),⟨aD,rfl,rfl,rfl,bf⟩,MT⟩,?_⟩;rintro⟨j,kk,y,n⟩ ⟨hj,rfl,rfl,rfl,B⟩;dsimp only;refine aF (λu=>?_) (λO=>?_)
 .obtain⟨q,D⟩:=eT rl u;obtain⟨b,o,e,rd⟩:=(x.roots.mono d).at' D
  have bad:¬(0<=q/\q<ts.length)->iC s ts rs=120:=λhn=>by
   rw[z,if_neg];intro e2;have:=all_eq_true.1 e2 q (mem_of_getElem? D)
   grind
  refine⟨b,o,e,aD,u,q,.imm rd,aF (λF=>done (kk:=⟨none,0,0⟩) f.sub d (bad aD)) (λF=>aF (λh5=>done (kk:=⟨none,0,0⟩) f.sub d (bad aD)) (λh5=>⟨(j+1,kk,y,n),⟨aD,rfl,rfl,rfl,?_⟩,aD,MT⟩))⟩;rw[zH D,B,Bool.true_and,Bool.and_eq_true]
  grind
 .rw[take_of_length_le aD]at B;exact done f.sub d bk
def A7(t:Step):ca:=[t.left,t.right].take (arity t.op).toNat
def ahX:Query:=.mk 0 0 eW [] [] [] [] 0 []
def B5:Nat->cq->Nat->Query
 |0,_,_=>ahX
 |n+1,ts,i=>match ts[i]? with
  |none=>ahX
  |some t=>.mk t.op t.table t.wher t.columns t.on t.group t.order t.limit ((A7 t).map λa=>B5 n ts a.toNat)
def aR(ts:cq)(i:Nat):Query:=B5 (i+1) ts i
def B7(ts:cq):Prop:=∀(i:Nat) t,ts[i]? =some t->0<=arity t.op/\∀a∈A7 t,0<=a/\a<i
theorem KV{ts:cq}(ok:B7 ts):∀(n c i:Nat),i<n->i<c->B5 n ts i=B5 c ts i
 |0,_,_,h,_=>by omega
 |_+1,0,_,_,h=>by omega
 |n+1,c+1,i,f,g=>by
  simp only[B5];cases e:ts[i]? with
  |none=>rfl
  |some t=>
   have:(A7 t).map (λa=>B5 n ts a.toNat)=(A7 t).map (λa=>B5 c ts a.toNat):=map_congr_left λa d=>by
    have:=(ok i t e).2 a d;exact KV ok n c a.toNat aD aD
   grind
def Cw(ts:cq)(t:Step):ci:=(A7 t).map λa=>aR ts a.toNat
theorem pY(ok:B7 ts)(c:ts[i]? =some t):aR ts i= .mk t.op t.table t.wher t.columns t.on t.group t.order t.limit (Cw ts t):=by
 unfold aR;simp only[B5,c]
 have:(A7 t).map (λa=>B5 i ts a.toNat)=Cw ts t:=map_congr_left λa d=>by
  have:=(ok i t c).2 a d;exact KV ok _ _ _ aD aD
 rw[this]
theorem b9Q{op:Int}{w:Pred}{on:ce}{args:ci}(j:(aJ s [] (.mk op ta w co on gr od li args)).2=0)(f:fS 4 (.mk op ta w co on gr od li args)<=8000000){a:Query}(d:a∈args):fS 4 a<=8000000:=by
 obtain⟨n,g,o,_⟩:=xJ (Prod.ext rfl j);have u:=Lf (c:=4) aD g a d;rw[fS]at f;split at f
 .rename_i e;subst e;rw[Ly g o]at d;cases d
 grind
def oT(i:Nat)(t:Step):Prop:=DH t.left (decide (arity t.op>0)) i=true/\DH t.right (decide (arity t.op>1)) i=true
theorem KM(g:0<=arity t.op)(h:oT i t):∀a∈A7 t,0<=a/\a<i:=by
 intro a c;have j:=D5 t.op;obtain⟨e,f⟩:=h;unfold A7 at c;obtain⟨n,d⟩:∃n:Nat,arity t.op=n:=⟨(arity t.op).toNat,aD⟩
 rw[d,Int.toNat_natCast]at c;unfold DH at e f
 match n,d,c with
 |0,_,c=>simp at c
 |1,d,c=>
  grind
 |2,d,c=>
  grind
 |n+3,d,_=>omega
theorem eV{c:cq}(g:ts<+:c)(ok:B7 c):∀i,i<ts.length->aR c i=aR ts i:=by
 have d:B7 ts:=λi t e=>ok i t (OW g e);intro i
 induction i using Nat.strongRecOn with
 |_ i o=>
  intro j;have f:ts[i]? =some ts[i]:=getElem?_eq_getElem j;rw[pY d f,pY ok (OW g f)]
  have:Cw c ts[i]=Cw ts ts[i]:=map_congr_left λa n=>by
   have:=(d i _ f).2 a n
   grind
  rw[this]
theorem bdX(h:oT i t):(arity t.op=0->t.left=0)/\(arity t.op<=1->t.right=0):=by
 obtain⟨c,d⟩:=h;unfold DH at c d
 grind
theorem ID(s:jE)(ps:ca)(op ta:Int)(w:Pred)(co:ca)(on:ce)(gr:ca)(od:cg)(li:Int)(args:ci)(a b:ca):dY s ps (.mk op ta w co on gr od li args) a b=dY s ps (.mk op ta w co on gr od li []) a b:=by
 unfold dY;rfl
theorem Gq{op:Int}{w:Pred}{on:ce}{args:ci}(h:(aJ s [] (.mk op ta w co on gr od li args)).2=0):
 aJ s [] (.mk op ta w co on gr od li args)=dY s [] (.mk op ta w co on gr od li []) ((args.map λq=>(aJ s [] q).1).getD 0 []) ((args.map λq=>(aJ s [] q).1).getD 1 []):=by
 obtain⟨c,f,_⟩:=iJ h
 have e:eX s [] args=(args.map (λq=>(aJ s [] q).1),0):=uL (by
  rw[map_map];exact map_congr_left λq d=>Prod.ext rfl (c q d))
 simp only[aJ,e,if_true];rw[if_pos bk,ID]
theorem Qq{n:Nat}{a:Int}(c:0<=a)(d:a<n):CD ((List.range n).map λj=>(aJ s [] (aR ts j)).1) a true=(aJ s [] (aR ts a.toNat)).1:=by
 unfold CD
 grind
def cBJ(c d cb:Nat):Value:=.func (.func 80) #[] #[.pointer (some ⟨c,0,none⟩),.pointer (some ⟨d,0,none⟩),.pointer (some ⟨cb,0,none⟩)]
structure b9X(m0:MH)(h:PH)(s:jE)(vb sb cb:Nat):Prop where
 v_:m0 vb=some (.cells #[cBJ vb sb cb] 133 (0,0))
 s_:∃sc,gZ h s sc/\m0 sb=some (.cells ⟨sc.enc⟩ 43 (0,0))
 tab:gJ m0
 small:mM s
def bFJ(N:Nat):Vc.Spec:=λc m h K=>∃v q s e f cb g d ts rs,c=[aQ v,cP e,cP f,cP cb]/\bU h q v/\SizeOf.sizeOf q<N/\(aJ s [] q).2=0/\z8 q/\b9X d h s e f cb/\fN d m h cb g ts rs/\ts.length+2*sG q<=90000/\
 ∀j m' h',PH.le h h'->nR h' (eY s q ts).1 j->fN d m' h' cb g (eY s q ts).2 rs->K (aPN j) m' h'
noncomputable def bUJ(N:Nat)(v:QV)(c d cb:Nat):Ctx:=
 sN [(80,bFJ N),(81,bAQ),(82,TK),(83,axX),(84,bDQ)] [(4,{A:=Nat×List gO×ca×ca×MH×PH,st:=λ⟨i,e,rs,f,m,h⟩=>bQ 63 67 [(1,pv c),(2,pv d),(3,pv cb),(4,.at (.ptr 4 0)),(5,.at (.ptr 5 0)),(6,.at (.ptr 6 0)),(7,.at (.lst 34)),(8,.at (.lst 39)),(15,sv v.args),(16,iv v.args.len),(17,iv i)] [(4,.cells 38 (v.enc.map .val)),(5,.cells 136 (zQ++[FU,gC 0,gC 0,gC 0])),(6,.cells 136 (v.enc.map .val++[.lst 28,gC 0,gC 0,gC 0])),(28,.lst 136 25 (e.map gO.enc)),(34,.lst 3 1 (rs.map eI)),(39,.lst 3 1 (f.map eI))] m h})] [] [] [510136,0] [] false
noncomputable abbrev E0(a:Nat×List gO×ca×ca×MH×PH):List bx:=List.map gO.enc a.2.1
noncomputable abbrev C8(a:Nat×List gO×ca×ca×MH×PH):ca:=a.2.2.2.1
noncomputable abbrev CZ(a:Nat×List gO×ca×ca×MH×PH):Nat->Nat->Option Value:=a.2.2.2.2.2
noncomputable abbrev Hk(a:Nat×List gO×ca×ca×MH×PH):Nat->Option Obj:=a.2.2.2.2.1
noncomputable abbrev Hn(a b c:Nat):Array Value:=Array.mk (aM (vQp a 0) (vQp b 0) (oK (vQp c 0)))
abbrev BT(a b:Nat)(c:cz)(d:MH)(e:PH)(g:bx->MH->PH->Prop):Prop:=FAt Proofs.Tryz.prog a b c d e (fun(x:bx)=>fun(f:MH)=>fun(j:PH)=>g x f j)
abbrev JS(a:MH)(b:PH)(c:Nat)(d:cE->Prop):Prop:=∃(x:cE),aU a b c 0 (jK (wF x) (wE x))/\d x
attribute [push_cast] E0 C8 CZ Hk Hn BT JS
def PJ(N:Nat)(v:QV)(D E cb:Nat)(m:MH)(h:PH)(K:bz):Prop:=
  ∃(I:Nat×List gO×ca×ca×MH×PH->Prop)(H:Nat×List gO×ca×ca×MH×PH->Nat),(∃(x:Nat×List gO×ca×ca×MH×PH),aA (I x) (cR D) (aA (cR E) (cR cb) (aA i6 dR (aA (eP 6) (eL 34) (aA (eL 39) (aI v.args) (aA (qV v) (bB x.1) (aA (dM v) (eQ (oQ 136 (cO fD fD (cO (gC 0) fD (Hs 0 (cO FU FU (cO (gC 0) fD (oD fD)))))))) (aA (eQ (oQ 136 (cO (gC v.op) (pU v) (tG v (uH v) v.on (xA v) (xB v) (cO (gC v.limit) (Bj v) (cO (At.lst 28) fD (lV fD fD))))))) (qZ 136 25 (E0 x)) (tI (tL (cZ x.2.2.1)) (tL (cZ (C8 x))) (bH m x.2.2.2.2) h (CZ x))))))))))/\∀(x:Nat×List gO×ca×ca×MH×PH),I x->aZ (↑x.1:Int) (aH v.args) (bJ (fun
 b o=>aA (bM v.args.a b o) (0<=(↑x.1:Int)) ((↑x.1:Int)<aH v.args/\∃(y:QV),aU (Hk x) (CZ x) b (bK o x.1 21) y.enc/\∃(f:Nat×Nat×Nat),aU (Hk x) (CZ x) D 0 (oK (Value.func (Fn.func 80) wG (Hn f.1 f.2.1 f.2.2)))/\∃(R:gO->MH->PH->Prop),BT 80 136 (cN y::cT f.1 (cV (iD f.2.1) (iD f.2.2))) (Hk x) (CZ x) (λl n d=>∃(u:gO),l=u.enc/\R u n d)/\∀(u:gO),gA (λn d=>R u n d->aA (fC (iY (E0 x) 1*328)) (jQ (E0 x)) (aA (fC (iY (cZ x.2.2.1) 1*8)) (jQ (cZ x.2.2.1)) (nG (cZ (C8 x)) 8 (∃(j:Nat×List gO×ca×ca×MH×PH),aA (I j) (H j<H x) (aA (cR D) (cR E) (aA (cR cb) i6 (aA dR (eP 6) (aA (eL 34) (eL 39) (aA (aI v.args) (qV v)
 (aA (bD (fZ (bE x.1 1)) j.1) (dM v) (aA (eQ (oQ 136 (cO fD fD (cO (gC 0) fD (Hs 0 (cO FU FU (cO (gC 0) fD (oD fD)))))))) (eQ (oQ 136 (cO (gC v.op) (pU v) (tG v (uH v) v.on (xA v) (xB v) (cO (gC v.limit) (Bj v) (cO (At.lst 28) fD (lV fD fD))))))) (aA (Option.some (Own.lst 136 25 (eN (E0 x) u.enc))=Option.some (Own.lst 136 25 (E0 j))) (jV (eN (cZ x.2.2.1) (bG u.rows)) j.2.2.1) (aA (jV (eN (cZ (C8 x)) (bG u.env)) (C8 j)) (bH n j.2.2.2.2) (bN d (CZ j)))))))))))))))))) (JS (Hk x) (CZ x) E (λy=>bO (CZ x) 25 (E0 x) (λs d=>∃(J:cE)(F:gO)(A:jE),C1 (λo t w c o1 g o2 l a=>∃(p:du)(L:List gO),aA (cV (cJ y) (wQ v v (aM
 (mX (jW v)) (kA (fB v)) (aM (qX (fB v)) (j7 (fB v)) (aM (rK (fB v)) (mX (fB v)) (aM (Cn v) (Cq v) (aM (fK v.on) (Co v) (aM (Cp v) (Bh v) (aM (fK v.args) (fK s) (aM dE dE BM)))))))))=cV (cJ J) (mR F)) (gZ d A J) (aA (mM A) (bU d (Query.mk o t w c o1 g o2 l a) F.query) (aA (cD d F.args 25 (List.map gO.enc L)) (kV d p L) (aA ((↑p.length:Int)=arity o) (bZ (arity o)) ((∀(G:PN),List.Mem G p->bZ G.width/\G.width<=1000)/\bO d 1 (cZ x.2.2.1) (λs3 B=>∃(M:QV)(O:Sl),C1 (λP Q S T U V W X a1=>∃(k:cv),aA (cV (cN v) (fJ s3)=cV (cN M) (fJ O)) (bU B (Query.mk P Q S T U V W X a1) M) (Ints B O (List.map (fun(z:Nat)=>(↑z:Int)) k)/\∀(Y:vY),uB B
 (Step.mk P Q S T U V W X (↑(List.getD k 0 0):Int) (↑(List.getD k 1 0):Int)) Y->EE (cV (iD cb) (oH Y)) B (Hk x) (λZ t3 n h3=>lA v.op (λo6=>branch (Bt o6) (nZ 0 (0<jH (cZ (C8 x))) (λe=>(cZ (C8 x))[0]? =Option.some e/\∃(f:Int),qB 1 e (bG f)/\K (wQ v v (aM (mX (jW v)) (kA (fB v)) (aM (qX (fB v)) (j7 (fB v)) (aM (rK (fB v)) (mX (fB v)) (aM (Cn v) (Cq v) (aM (fK v.on) (Co v) (aM (Cp v) (eF v.limit) (aM (fK v.args) (fK s) (aM (eF (C0 Z t3)) (eF f) (bG (Ea A o t c p))))))))))) n h3)) (bO h3 1 (cZ (C8 x)) (λs5 C=>∃(v5:QV)(s6:Sl),C1 (λo7 t4 w2 c2 o8 g2 o9 l2 a2=>∃(z:cv),aA (cV (cN v) (fJ s5)=cV (cN v5) (fJ s6)) (bU C (Query.mk o7
 t4 w2 c2 o8 g2 o9 l2 a2) v5) (Ints C s6 (List.map (fun(k2:Nat)=>(↑k2:Int)) z)/\∀(v6:vY),uB C (Step.mk o7 t4 w2 c2 o8 g2 o9 l2 (↑(List.getD z 0 0):Int) (↑(List.getD z 1 0):Int)) v6->EE (cV (iD cb) (oH v6)) C n (λt5 t6 m3 h5=>K (wQ v v (aM (mX (jW v)) (kA (fB v)) (aM (qX (fB v)) (j7 (fB v)) (aM (rK (fB v)) (mX (fB v)) (aM (Cn v) (Cq v) (aM (fK v.on) (Co v) (aM (Cp v) (eF v.limit) (aM (fK v.args) (fK s) (aM (eF (C0 Z t3)) (tO t5 t6) (bG (Ea A o t c p))))))))))) m3 h5))))))))))))))))))
theorem GQ(s:jE)(op ta:Int)(w:Pred)(co:ca)(on:ce)(gr:ca)(od:cg)(li:Int)(args:ci)(ts:cq):
 eY s (.mk op ta w co on gr od li args) ts=Z9 s op ta w co on gr od li args (dX s args ts).1 (dX s args ts).2:=by rw[eY]
theorem Je(s:jE)(q:Query):∀(l:ci)(ts:cq),dX s (l++[q]) ts=((dX s l ts).1++[(eY s q (dX s l ts).2).1],(eY s q (dX s l ts).2).2)
 |[],ts=>by simp[dX]
 |p::l,ts=>by
  rw[cons_append,dX,Je s q l,dX];rfl
theorem ML(s:jE):∀(l:ci)(ts:cq),(dX s l ts).1.length=l.length
 |[],ts=>by simp[dX]
 |p::l,ts=>by rw[dX,length_cons,length_cons,ML s l]
theorem bxX(s:jE)(op ta:Int)(w:Pred)(co:ca)(on:ce)(gr:ca)(od:cg)(li:Int)(args:ci)(ps:du)(ts:cq):(Z9 s op ta w co on gr od li args ps ts).2.length<=ts.length+2:=by
 unfold Z9;have c:=dP (zK op ta w co on gr od li (ps.map PN.rows)) ts;have d:=dP (zK op ta w co on gr od li (ps.map PN.env)) (bT (zK op ta w co on gr od li (ps.map PN.rows)) ts).1
 grind
mutual
theorem CF(s:jE):∀(q:Query)(ts:cq),(eY s q ts).2.length<=ts.length+2*sG q
 |.mk op ta w co on gr od li args,ts=>by
  rw[GQ];have c:=bxX s op ta w co on gr od li args (dX s args ts).1 (dX s args ts).2;have d:=xX s args ts;simp only[sG];omega
theorem xX(s:jE):∀(l:ci)(ts:cq),(dX s l ts).2.length<=ts.length+2*lN l
 |[],ts=>by simp[dX]
 |q::l,ts=>by
  rw[dX];have c:=CF s q ts;have d:=xX s l (eY s q ts).2;simp only[lN];omega
end
theorem sF(h:(lL l).2=0):(lL l).1=l:=by
 unfold lL at h⊢
 grind
theorem XY{op:Int}{w:Pred}{on:ce}{args:ci}{b:ca}{ps:du}(h:(dY s [] (.mk op ta w co on gr od li args) a b).2=0)(o:op≠1->(ps.map PN.width).getD 0 0=(a.length:Int))(u:op=4->(ps.map PN.width).getD 1 0=(b.length:Int)):
 Ea s op ta co ps=((dY s [] (.mk op ta w co on gr od li args) a b).1.length:Int):=by
 unfold Ea;unfold dY at h⊢
 by_cases g:arity op<0\/¬cH (.mk op ta w co on gr od li args)
 .rw[if_pos g]at h;simp[dV]at h
 .rw[if_neg g]at h⊢
  dsimp only at h⊢
  by_cases d:op=1
  .simp only[if_pos d]at h⊢
   split
   .rename_i c;rw[if_pos c]at h;rw[sF h]
   .rename_i c;rw[if_neg c]at h;simp[dV]at h
  .have e:=o d;simp only[if_neg d]at h⊢
   by_cases j:op=2
   .subst j;simp only[if_true,show((2:Int)=3)=False by simp,show((2:Int)=4)=False by simp,if_false]at h⊢
    split
    .rename_i c;rw[if_pos c]at h;rw[sF h,e]
    .rename_i c;rw[if_neg c]at h;simp only[dV]at h;omega
   .simp only[if_neg j]at h⊢
    by_cases n:op=3
    .simp only[if_pos n]at h⊢
     split
     .rename_i c;rw[if_pos c]at h;rw[sF h];simp
     .rename_i c;rw[if_neg c]at h;simp[dV]at h
    .simp only[if_neg n]at h⊢
     by_cases f:op=4
     .simp only[if_pos f]at h⊢
      split
      .rename_i c;rw[if_pos c]at h;rw[sF h,e,u f];simp
      .rename_i c;rw[if_neg c]at h;simp[dV]at h
     .simp only[if_neg f]at h⊢
      rw[e]
      suffices x:∀R:ca×Int,(R=lL a\/R=dV 100)->R.2=0->(a.length:Int)=(R.1.length:Int)by
       grind
      rintro R (rfl|rfl) h
      .rw[sF h]
      .simp[dV]at h
mutual
theorem MN{s:jE}:∀(q:Query)(ts:cq),(aJ s [] q).2=0->(eY s q ts).1.width=((aJ s [] q).1.length:Int)
 |.mk op ta w co on gr od li args,ts,h=>by
  have c:=iJ h;have f:=Eb args ts c.1
  have e:(eY s (.mk op ta w co on gr od li args) ts).1.width=Ea s op ta co (dX s args ts).1:=by
   rw[GQ,Z9];dsimp only;split<;>rfl
  rw[e];have d:=Gq h;rw[d]at h⊢
  refine XY h (λg=>?_) (λj=>?_)
  .grind
  grind
theorem Eb{s:jE}:∀(l:ci)(ts:cq),(∀q∈l,(aJ s [] q).2=0)->(dX s l ts).1.map PN.width=l.map λq=>((aJ s [] q).1.length:Int)
 |[],ts,_=>by simp[dX]
 |q::l,ts,h=>by
  rw[dX,map_cons,map_cons,MN q ts (h q bf),Eb l _ (λp c=>h p (by simp[c]))]
end
theorem csQ{q:Query}{S U D:Nat}{m0:MH}(V:bu 80 (bFJ N))(O:bU h q v)(hN:SizeOf.sizeOf q<N+1)(hk:(aJ s [] q).2=0)(E:z8 q)(F:b9X m0 h s S U cb)(c:fN m0 m h cb D ts rs)(hl:ts.length+2*sG q<=90000)
 (Q:∀B m' h',PH.le h h'->nR h' (eY s q ts).1 B->fN m0 m' h' cb D (eY s q ts).2 rs->K (aPN B) m' h'):PJ N v S U cb m h K:=by
 dsimp only[PJ,push_cast];have G:=@sL q;obtain⟨op,ta,w,co,on,gr,od,li,args⟩:=q;simp only[Query.args]at G;have x:=O.parts;have a2:=x.args_.slen;obtain⟨W,b4,_⟩:=iJ hk;rw[Vw]at E;obtain⟨o,a3⟩:=E;have b3:=D5 op;rw[GQ]at Q;simp only[sG]at hl
 have a4:∀i,lN (args.take i)<=lN args:=λi=>by
  have key:∀(l:ci)(i:Nat),lN (l.take i)<=lN l:=by
   intro l
   induction l with
   |nil=>intro i;simp
   |cons a l ih=>
    intro i;cases i with
    |zero=>simp[lN]
    |succ i=>have:=ih i;simp only[take_succ_cons,lN];omega
  grind
 obtain⟨sc,X,Y⟩:=F.s_;refine⟨λ⟨i,H,rr,es,mx,Z⟩=>i<=args.length/\PH.le h Z/\kV Z (dX s (args.take i) ts).1 H/\rr=(dX s (args.take i) ts).1.map (λp=>(p.rows:Int))/\es=(dX s (args.take i) ts).1.map (λp=>(p.env:Int))/\fN m0 mx Z cb D (dX s (args.take i) ts).2 rs,λ⟨i,_,_,_,_,_⟩=>args.length-i,⟨(0,[],[],[],m,h),⟨aD,.refl _,by simp only[take_zero,dX];rfl,rfl,rfl,by simpa[dX]using c⟩,MT⟩,?_⟩;rintro⟨i,H,rr,es,mx,Z⟩ ⟨hi,g,n,rfl,rfl,cx⟩;dsimp only;have a5:=ML s (args.take i) ts;have b5:(args.take i).length=i:=bj
 have b6:=n.length;refine aF (λa'=>?_) (λb7=>?_)
 .obtain⟨q,I⟩:=eT a2 a';have J:=mem_of_getElem? I;obtain⟨b1,o1,u,e1,r1,a6⟩:=(x.args_.mono g).at I;have tk:args.take (i+1)=args.take i++[q]:=by rw[take_add_one,I];rfl
  have vs:=Je s q (args.take i) ts;have b8:=a4 (i+1)
  have b9:lN (args.take (i+1))=lN (args.take i)+sG q:=by
   rw[tk]
   have key:∀l:ci,lN (l++[q])=lN l+sG q:=by
    intro l
    induction l with
    |nil=>simp[lN]
    |cons a l ih=>simp only[cons_append,lN,ih];omega
   exact key _
  have a7:=xX s (args.take i) ts;have c0:=sizeOf_lt_of_mem J;have a8:SizeOf.sizeOf q<N:=bk
  refine⟨b1,o1,e1,aD,a',u,.imm r1,(S,U,cb),.of_m (cx.sub _ _ F.v_) rfl,λy my R=>PH.le Z R/\nR R (eY s q (dX s (args.take i) ts).2).1 y/\fN m0 my R cb D (eY s q (dX s (args.take i) ts).2).2 rs,?_,λy my R⟨d,ry,cy⟩=>⟨bk,bk,bk,bk,bk,bk,(i+1,H++[y],(dX s (args.take (i+1)) ts).1.map (λp=>(p.rows:Int)),(dX s (args.take (i+1)) ts).1.map (λp=>(p.env:Int)),my,R),⟨aD,g.trans d,?_,rfl,rfl,?_⟩,aD,?_⟩⟩
  .have a0:zY Tryz.prog 136=true:=bd
   refine Sound.fat (vs:=[.agg ⟨QV.enc u⟩,.pointer (some ⟨S,0,none⟩),.pointer (some ⟨U,0,none⟩),.pointer (some ⟨cb,0,none⟩)]) V ⟨u,q,s,S,U,cb,D,m0,_,rs,rfl,a6,a8,W q J,a3 q J,⟨F.v_,⟨sc,X.mono g,Y⟩,F.tab,F.small⟩,cx,aD,λB m' h' C rp c'=>⟨gO.enc B,?_,B,rfl,C,rp,c'⟩⟩;have e:Vc.valOf Tryz.prog 136 (gO.enc B)= .agg ⟨gO.enc B⟩:=by unfold Vc.valOf;rw[a0]
   rw[e];rfl
  .show kV R (dX s (args.take (i+1)) ts).1 (H++[y]);rw[tk,vs];exact kV.snoc ry (kV.mono d n)
  .grind
  .have e1:=ry.rows_;have e2:=ry.env_;rw[tk,vs,e1,e2];simp only[map_append,map_cons,map_nil];exact MT
 .have a9:args.take i=args:=take_of_length_le aD;rw[a9]at n cx a5⊢
  have a7:=xX s args ts;have b':=Eb args ts W;generalize hP:(dX s args ts).1=P at*
  generalize hT:(dX s args ts).2=T at*
  have eR:((P.map PN.rows).map fun(k:Nat)=>(k:Int)).map eI=(P.map λp=>(p.rows:Int)).map eI:=by simp[map_map,Function.comp_def]
  have eE:((P.map PN.env).map fun(k:Nat)=>(k:Int)).map eI=(P.map λp=>(p.env:Int)).map eI:=by simp[map_map,Function.comp_def]
  have kt:∀l r:Int,NA ⟨op,ta,w,co,on,gr,od,li,l,r⟩:=λl r=>⟨o.wher,o.columns,o.on,o.group,o.order⟩
  refine⟨sc,.of_m (cx.sub _ _ Y) rfl,λs1 h1 d L=>⟨sc,⟨v,s1,0,0,0⟩,s,op,ta,w,co,on,gr,od,li,args,P,H,rfl,X.mono (g.trans d),F.small,O.mono (g.trans d),L,kV.mono d n,aD,aD,?_,λs2 h2 j c1=>⟨v,s2,op,ta,w,co,on,gr,od,li,args,P.map PN.rows,rfl,O.mono ((g.trans d).trans j),⟨bk,bj⟩,λB b0=>⟨B,_,m0,cb,D,T,rs,rfl,b0,kt _ _,cx.mono (d.trans j),F.tab,aD,λm3 h3 z c3=>⟨op,by rw[x.op_],?_⟩⟩⟩⟩⟩
  .intro p hp;have:p.width∈P.map PN.width:=mem_map.2 ⟨p,hp,rfl⟩;rw[b']at this;obtain⟨q,_,e⟩:=mem_map.1 this;have:=kN s [] q;omega
  .have ha:=dP (zK op ta w co on gr od li (P.map PN.rows)) T;have c3:fN m0 m3 h3 cb D (bT (zK op ta w co on gr od li (P.map PN.rows)) T).1 rs:=c3;have le:=((g.trans d).trans j).trans z;unfold Z9 at Q;refine aC (λf=>?_) (λf s4 h4 A c2=>⟨v,s4,op,ta,w,co,on,gr,od,li,args,P.map PN.env,rfl,O.mono (le.trans A),⟨bk,bj⟩,λv2 b2=>⟨v2,_,m0,cb,D,_,rs,rfl,b2,kt _ _,c3.mono A,F.tab,aD,λm5 h5 M c5=>?_⟩⟩)
   .rw[if_pos f]at Q
    have a1:0<P.length:=by
     have:1<=arity op:=by
      unfold Bt at f;simp only[Bool.or_eq_true,beq_iff_eq]at f;rcases f with(rfl|rfl)|rfl<;>decide
     omega
    refine⟨aD,bk,eI (P[0].env:Int),by simp[a1],(P[0].env:Int),rfl,?_⟩;refine Q ⟨v,s1,_,_,_⟩ m3 h3 le ⟨O.mono le,rfl,?_,rfl,aD,H,L.mono (j.trans z),kV.mono ((d.trans j).trans z) n⟩ c3;simp[a1]
   .rw[if_neg (by simp[f])]at Q;have C:=(le.trans A).trans M;exact Q ⟨v,s1,_,_,_⟩ m5 h5 C ⟨O.mono C,rfl,rfl,rfl,aD,H,L.mono (((j.trans z).trans A).trans M),kV.mono ((((d.trans j).trans z).trans A).trans M) n⟩ c5
theorem Us:∀N,bu 80 (bFJ N)
 |0=>by
  refine dU (fn:=Tryz.f80) (c:=bW Tryz.f80) func80 rfl bg ?_;rintro e m h K ⟨v,q,s,f,g,cb,n,o,ts,rs,rfl,_,j,_⟩;omega
 |N+1=>by
  refine hU func80 ?_;rintro e m h K ⟨v,q,s,f,g,cb,n,o,ts,rs,rfl,u,j,x,d,y,c,z,A⟩;refine⟨bUJ N v f g cb,rfl,aE (Us N) (aE aMX (aE DZ (aE aMQ (aE RR aG)))),PJ N v f g cb m h K,bd,?_⟩;exact csQ (Us N) u j x d y c z A
def cfZ:Vc.Spec:=λc m h K=>∃v q s e f cb g d ts rs,c=[aQ v,cP e,cP f,cP cb]/\bU h q v/\(aJ s [] q).2=0/\z8 q/\b9X d h s e f cb/\fN d m h cb g ts rs/\ts.length+2*sG q<=90000/\
 ∀j m' h',PH.le h h'->nR h' (eY s q ts).1 j->fN d m' h' cb g (eY s q ts).2 rs->K (aPN j) m' h'
theorem RS:bu 80 cfZ:=gW Us λ_ _ _ _⟨v,q,s,c,d,cb,f,g,ts,rs,e,j,n,o,u,x,y,z⟩=>⟨SizeOf.sizeOf q+1,v,q,s,c,d,cb,f,g,ts,rs,e,j,aD,n,o,u,x,y,z⟩
def GL:Vc.Spec:=λc m h K=>∃sc p v s ps q,c=[aS sc,cS p,aQ v]/\gZ h s sc/\Ints h p ps/\bU h q v/\nC q=true/\KR K m h (dZ s ps q)
noncomputable def f57q_ctx(p:Sl)(N:Nat):Ctx:={sN [(90,z6),(97,auQ),(98,AQ N)] [(5,{A:=Nat×Nat×Nat×Nat×Nat×MH×PH,st:=λ⟨i,a,b,c,d,m,h⟩=>bQ 53 56 [(1,sv p),(3,vv (.pointer (some ⟨a,0,none⟩))),(5,vv (.pointer (some ⟨b,0,none⟩))),(6,vv (.pointer (some ⟨c,0,none⟩))),(7,vv (.pointer (some ⟨d,0,none⟩))),(18,sv p),(19,iv p.len),(20,iv i)] [] m h})] [] [] [200003,200005,200006,200007,200011,0] [] false with elemT:=[3,38]}
noncomputable abbrev kK(a:Nat×Nat×Nat×Nat×Nat×MH×PH):Nat×Nat×Nat×MH×PH:=a.2.2
noncomputable abbrev jG(a:Nat×Nat×Nat×MH×PH):Nat:=a.2.1
noncomputable abbrev tY(a:Nat×Nat×Nat×Nat×Nat×MH×PH):Nat:=jG (kK a)
noncomputable abbrev kI(a:Nat×Nat×Nat×MH×PH):Nat:=a.2.2.1
noncomputable abbrev tZ(a:Nat×Nat×Nat×Nat×Nat×MH×PH):Nat:=kI (kK a)
noncomputable abbrev rT(a:Nat×Nat×Nat×MH×PH):MH×PH:=a.2.2.2
noncomputable abbrev fW(a:Nat×Nat×Nat×MH×PH):Nat->Nat->Option Value:=iW a.2.2
noncomputable abbrev nH(a:Nat×Nat×Nat×MH×PH):Nat->Option Obj:=mT a.2.2
abbrev N7(a:Sl)(b c:Nat×Nat×Nat×Nat×Nat×MH×PH):Prop:=tI (bI a) (bD (fZ (bE b.1 1)) c.1) (bH (nH (kK b)) (rT (kK c))) (fW (kK b)) (fW (kK c))
attribute [push_cast] kK jG tY kI tZ rT fW nH N7
def ab(sc:cE)(p:Sl)(v:QV)(N:Nat)(m:MH)(h:PH)(K:bz):Prop:=
  jY m h (λb H=>eA m H b (jK (wF sc) (wE sc)) 43) (λb H=>jY H h (λM J=>eA H J M v.enc 38) (λM J=>jY J h (λE L=>eA J L E iS 33) (λE L=>jY L h (λF G=>eA L G F BM 54) (λF G=>JS G h b (λy=>JY y h (λs=>kC G E lF (λn=>kC n F (eF (dK s)) (λf=>tM f h E 0 (λg=>tN f h F 0 (λz=>K (CV.tup (aW (fJ g) z)) f h))))) (∃(I:Nat×Nat×Nat×Nat×Nat×MH×PH->Prop)(n:Nat×Nat×Nat×Nat×Nat×MH×PH->Nat),(∃(x:Nat×Nat×Nat×Nat×Nat×MH×PH),aA (I x) (aI p) (aA (dG b x.2.1) (dG M (kK x).1) (aA (dG E (tY x)) (dG F (tZ x)) (aA (aI p) (bI p) (bP (bB x.1) (bH G (rT (kK x))) (h=fW (kK x)))))))/\∀(x:
 Nat×Nat×Nat×Nat×Nat×MH×PH),I x->aZ (↑x.1:Int) (aH p) (bJ (λj o=>aA (bM p.a j o) (0<=(↑x.1:Int)) ((↑x.1:Int)<aH p/\∃(g:Int),aU (nH (kK x)) (fW (kK x)) j (bK o x.1 1) (bG g)/\eC g 3 (eC g 4 (eC g 5 (kC (nH (kK x)) (tY x) lF (λf=>kC f (tZ x) (eF 1) (λA=>tM A (fW (kK x)) (tY x) 0 (λz=>tN A (fW (kK x)) (tZ x) 0 (λB=>K (CV.tup (aW (fJ z) B)) A (fW (kK x))))))) (∃(c:Nat×Nat×Nat×Nat×Nat×MH×PH),aA (I c) (n c<n x) (aA (aI p) (dG x.2.1 c.2.1) (aA (dG (kK x).1 (kK c).1) (dG (tY x) (tY c)) (aA (dG (tZ x) (tZ c)) (aI p) (N7 p x c)))))) (∃(c:Nat×Nat×Nat×Nat×Nat×MH×PH),aA (I c) (n c<n
 x) (aA (aI p) (dG x.2.1 c.2.1) (aA (dG (kK x).1 (kK c).1) (dG (tY x) (tY c)) (aA (dG (tZ x) (tZ c)) (aI p) (N7 p x c)))))) (∃(c:Nat×Nat×Nat×Nat×Nat×MH×PH),aA (I c) (n c<n x) (aA (aI p) (dG x.2.1 c.2.1) (aA (dG (kK x).1 (kK c).1) (dG (tY x) (tY c)) (aA (dG (tZ x) (tZ c)) (aI p) (N7 p x c)))))))) (jY (nH (kK x)) (fW (kK x)) (λj f=>eA (nH (kK x)) f j BM 3) (λj f=>kC f j dE (λA=>∃(g:QV),aU A (fW (kK x)) (kK x).1 0 g.enc/\∃(P:QV),p7 (kG g=kG P) (λQ=>∀(C:PH),cC (fW (kK x)) C (bL C Q 0 P.enc) (∃(S:PH->bx->List bx->Prop)(c:List (Int×QV))(I1:Nat->MH->PH->Prop),aA
 (QN Proofs.Tryz.prog 172 S) (S C (Aw Q) (List.map (fun(R:Int×QV)=>jK (eF R.1) (Value.agg (Array.mk R.2.enc))) c)) (aA (I1 0 A C) (∀(k:Nat)(e:Int)(T:QV),gA (λu d=>c[k]? =Option.some (e,T)->PH.le C d->I1 k u d->tN u d j 0 (λz=>kC u j (eF (fH (z+1))) (λD=>tN D d j 0 (λB=>nK (decide (B>24)) (kC D (tY x) lF (λa=>kC a (tZ x) (eF 2) (λ_=>False))) e 8 (kC D (tY x) lF (λa=>kC a (tZ x) (eF 2) (λ_=>False))) (I1 (k+1) D d)))))) (gA (λu d=>cC C d (I1 c.length u d) (JS u d x.2.1 (λz=>∃(B:QV),aU u d (kK x).1 0 B.enc/\Ha z p B d N (λs U q V O=>kC u (tY x) (fK V) (λD=>kC D (tZ x) (eF (aJ s U q).2) (λa=>tM a O
 (tY x) 0 (λW=>tN a O (tZ x) 0 (λX=>K (CV.tup (aW (fJ W) X)) a O)))))))))))))))))))))
mutual
theorem Qi:∀(p:Query)(n:Nat),pI p n=false->Qg p<=n
 |.mk _ _ _ _ _ _ _ _ args,0,h=>by simp[pI]at h
 |.mk _ _ _ _ _ _ _ _ args,n+1,h=>by
  simp only[pI]at h;have:=Nt args n h;simp only[Qg];omega
theorem Nt:∀(ps:ci)(n:Nat),wM ps n=false->GC ps<=n
 |[],_,_=>by simp[GC]
 |p::ps,n,h=>by
  simp only[wM,Bool.or_eq_false_iff]at h;have c:=Qi p n h.1;have d:=Nt ps n h.2;simp only[GC];omega
end
mutual
theorem B6.deep{h:PH}:∀{q:Query}{v:QV}{d:Nat}{es:dj},B6 h q v d es->∀e∈es,e.1<d+Qg q
 |.mk op ta _ _ _ _ _ _ args,v,d,es,w,e,c=>by
  rw[B6]at w;obtain⟨j,f,n,g,rfl⟩:=w;simp only[Qg];rcases mem_cons.1 c with rfl|c
  .omega
  .have:=lO.deep g e c;omega
theorem lO.deep{h:PH}:∀{f:ci}{vs:db}{d:Nat}{es:dj},lO h f vs d es->∀e∈es,e.1<d+GC f
 |[],vs,d,es,w,e,c=>by rw[lO]at w;grind
 |q::f,vs,d,es,w,e,c=>by
  rw[lO]at w;obtain⟨v,g,o,u,x,y,j,n,rfl⟩:=w;simp only[GC];rcases mem_append.1 c with c|c
  .have:=B6.deep j e c;omega
  .have:=lO.deep n e c;omega
end
theorem a3J{m g:MH}{h f:PH}{c d:Nat}{A B:Value}{sl:Sl}{e:Int}{K:bz}(j:c≠d)(H:m c=none)(I:m d=none)(C:g c=some (.cells #[A] 33 (0,0)))(D:g d=some (.cells #[B] 54 (0,0)))(s:Sub m g)(le:PH.le h f)(F:K (.tup [cS sl,cI e]) m f):
 ∃(cs:Array Value)(E:TypeId),Ib g c (.cells cs E (0,0))/\0<cs.size/\∀m':MH,iL g m' c (.cells (Array.mk (fK sl::cs.toList.drop 1)) E (0,0))->∃(cs:Array Value)(E:TypeId),Ib m' d (.cells cs E (0,0))/\0<cs.size/\∀m2:MH,iL m' m2 d (.cells (Array.mk (eF e::cs.toList.drop 1)) E (0,0))->∃y:Sl,aU m2 f c 0 [fK y]/\∃z:Int,aU m2 f d 0 [eF z]/\fY h K (.tup [cS y,cI z]) m2 f:=by
 refine⟨_,_,⟨C⟩,bf,λJ n=>⟨_,_,⟨by rw[n.other d (Ne.symm j)];exact D⟩,bf,λm2 u=>⟨sl,.of_m (by rw[u.other c j];exact n.at_) rfl,e,.of_m u.at_ rfl,λ_=>⟨m,f,λb o x=>?_,le,λb i v x=>.inl x,F⟩⟩⟩⟩;rw[u.other b (λG=>bk),n.other b (λG=>bk)];exact s b o x
theorem cAZ{f:FuncId}{fn:Func}(n:Tryz.prog.funcs[f]? =some fn){S:Vc.Spec}(j:∀c m h K,S c m h K->∃C:Ctx,C.P=Tryz.prog/\(∀g S,assoc C.specs g=some S->bu g S)/\∃N:Prop,N=bcJ C fn (bW fn) (entry fn.ntmps c m h) (fY h K)/\N)(o:fn.body=some (bW fn):=by rfl)(d:(fn.name== "runtime.NumGoroutine")=false:=by decide):bu f S:=Yh n o d λc m h K u=>let⟨C,hC,hs,N,e,hn⟩:=j c m h K u;⟨C,hC,hs,e▸hn⟩
theorem ah:bu 57 GL:=by
 refine cAZ func57 ?_;rintro a8 m h K ⟨sc,p,v,s,ps,q,rfl,hs,W,hq,n,y⟩;refine⟨f57q_ctx p (SizeOf.sizeOf q+1),rfl,aE HK (aE Yi (aE (RP _) aG)),ab sc p v (SizeOf.sizeOf q+1) m h (fY h K),bd,?_⟩;show ab sc p v (SizeOf.sizeOf q+1) m h (fY h K);dsimp only[ab,push_cast];have hl:=W.slen;have a4:=W.len;have a9:=aCZ n;have b':Qg q<=8:=Qi q 8 (by simp only[nC,Bool.and_eq_true,Bool.not_eq_true']at n;exact n.2);unfold dZ at y;rw[if_pos n]at y;intro E m1 u1 w1 F m2 u2 w2 C m3 u3 X D A Y O;obtain⟨s1,n3⟩:=wP (Sub.refl m) u1 w1;obtain⟨s2,n5⟩:=wP s1 u2 w2;obtain⟨s3,n6⟩:=wP s2 u3 X;obtain⟨s4,n7⟩:=wP s3 Y O;have up:∀{Z mb:MH}{b:Nat}{o:Obj}{hh:PH},mH Z hh b->iL Z mb b o->∀{x g},Z x=some g->mb x=some g:=fun{Z mb b o hh} u w{x g} e=>by rw[w.other x (λL=>by rw[L,u.m_]at e;cases e)];exact e
 have a3:=up Y O (up u3 X (up u2 w2 w1.at_));have a5:=up Y O (up u3 X w2.at_);have a6:=up Y O X.at_;have a7:=O.at_;have G:C≠D:=λe=>bk
 refine⟨sc,.of_m a3 rfl,sc,s,rfl,hs,aC (λh1=>?_) (λh1=>?_)⟩
 .rw[if_neg bk]at y;exact a3J (sl:=bR) G n6 n7 a6 a7 s4 (.refl _) (y bR h (.refl _) (pF h))
 have h1:dK s=0:=bk
 rw[if_pos h1]at y;refine⟨λz=>z.2=(E,F,C,D,A,h)/\z.1<=ps.length/\(ps.take z.1).all dJ=true,λz=>ps.length-z.1,⟨(0,E,F,C,D,A,h),⟨rfl,bf,bf⟩,MT⟩,?_⟩;rintro⟨i,z⟩ ⟨ez,hi,c⟩;dsimp only at ez hi c;subst ez;dsimp only;refine aF (λP=>?_) (λb0=>?_)
 .obtain⟨x,M⟩:=eT hl P;obtain⟨b,o,e,r⟩:=W.at' M;have Q:dJ x=true->(ps.take (i+1)).all dJ=true:=λhc=>by rw[zH M,c,hc];rfl
  have R:IntKind.i64.wrap ((i:Int)+1)=((i+1:Nat):Int):=jO aD;have go:dJ x=true->((i+1,E,F,C,D,A,h):Nat×Nat×Nat×Nat×Nat×MH×PH).2=(E,F,C,D,A,h)/\i+1<=ps.length/\(ps.take (i+1)).all dJ=true:=λhc=>⟨rfl,aD,Q hc⟩
  rw[R];refine⟨b,o,e,aD,P,x,.imm r,aC (λc1=>aC (λc2=>aC (λc3=>?_) (λc3=>⟨(i+1,E,F,C,D,A,h),go ?_,aD,MT⟩)) (λc2=>⟨(i+1,E,F,C,D,A,h),go ?_,aD,MT⟩)) (λc1=>⟨(i+1,E,F,C,D,A,h),go ?_,aD,MT⟩)⟩
  .have:dJ x=false:=by simp_all [dJ]
   rw[if_neg (λe=>bk)]at y;exact a3J (sl:=bR) G n6 n7 a6 a7 s4 (.refl _) (y bR h (.refl _) (pF h))
  .simp_all [dJ]
  .simp_all [dJ]
  .simp_all [dJ]
 rw[take_of_length_le aD]at c;rw[if_pos c]at y;intro B m5 u5 w5;refine⟨_,_,⟨w5.at_⟩,bf,λm6 w6=>?_⟩
 have k6:∀{x g},A x=some g->m6 x=some g/\x≠B:=fun{x g} e=>by
  have:x≠B:=λL=>by rw[L,u5.m_]at e;cases e
  exact⟨by rw[w6.other x this];exact up u5 w5 e,this⟩
 refine⟨v,.of_m (k6 a5).1 rfl,v,rfl,λbw a' f a0=>?_⟩;obtain⟨es,R⟩:=B6.of (hq.mono f) 1;have b1:=R.small;have H:=R.deep;refine⟨UI,es.map λe=>((e.1:Int),e.2),λk S M=>M=a'/\cHJ m6 S B/\S B=some (.cells #[eF (k:Nat)] 3 (0,0)),bQZ,⟨bw,v,q,es,rfl,a0,R,aD,by rw[map_map];rfl⟩,⟨rfl,λx o e _=>e,w6.at_⟩,?_,?_⟩
 .rintro k d e' S M hk-⟨rfl,I,j⟩
  rw[getElem?_map]at hk;cases J:es[k]? with
  |none=>grind
  |some e=>
   rw[J]at hk;simp only[Option.map_some,Option.some.injEq,Prod.mk.injEq]at hk;obtain⟨rfl,rfl⟩:=hk;have b2:=(List.getElem?_eq_some_iff.1 J).1;have b4:=H e (mem_of_getElem? J);have T:IntKind.i64.wrap ((k:Int)+1)=((k+1:Nat):Int):=jO aD;refine⟨k,.of_m j rfl,_,_,⟨j⟩,bf,λm7 w7=>⟨((k+1:Nat):Int),?_,aF (λa1=>by omega) (λ_=>aF (λa1=>by omega) (λ_=>⟨rfl,λx o e1 L=>by rw[w7.other x L];exact I x o e1 L,?_⟩))⟩⟩
   .rw[<-T];exact .of_m w7.at_ rfl
   .rw[<-T];exact w7.at_
 .rintro S M-⟨rfl,I,j⟩
  have U:∀{x g},A x=some g->S x=some g:=fun{x g} e=>I x g (k6 e).1 (k6 e).2;refine⟨sc,.of_m (U a3) rfl,v,.of_m (U a5) rfl,sc,p,v,s,ps,q,rfl,hs.mono f,Eg h1,W.mono f,hq.mono f,aD,λsl h7 V a2=>?_⟩;exact a3J G n6 n7 (U a6) (U a7) (λx o e=>U (s4 x o e)) (f.trans V) (y sl h7 (f.trans V) a2)
noncomputable def kO(s:jE)(q:Query):cq×ca:=fG (eY s q []).1 ((eY s q []).1.env:Int) (eY s q []).2 []
def aZJ:Vc.Spec:=λc m h K=>∃sc v s q,c=[aS sc,aQ v]/\gZ h s sc/\bU h q v/\nC q=true/\gJ m/\((dZ s [] q).2=0->z8 q/\Ia (eY s q []).1/\j9 (eY s q []).1<=100/\sG q<=100)/\
 ((dZ s [] q).2≠0->K (.tup [aPl bR bR,cI (dZ s [] q).2]) m h)/\((dZ s [] q).2=0->∀p r h',PH.le h h'->qJ h' p r (kO s q).1 (kO s q).2->K (.tup [aPl p r,cI 0]) m h')
noncomputable def bZZ:Ctx:=sN [(57,GL),(80,cfZ),(85,cFJ)] [] [] [] [132,133,200002,510136] [] false
def PQ(sc:cE)(v:QV)(m:MH)(h:PH)(K:bz):Prop:=
  jY m h (λb o=>eA m o b (jK (wF sc) (wE sc)) 43) (λb o=>JS o h b (λy=>CS (cJ y::cV j8 (cN v)) h (λs p q=>fV (nC q)/\iR (λP e=>cC h e (Ints e P (dZ s p q).1) (eC (yJ s p q) 0 (K (CV.tup (cV (lS (jK lF lF)) (CV.val (eF (yJ s p q))))) o e) (CO o e (λQ H=>jY H e (λf A=>eA H A f (aM lF lF (oK (Value.map Option.none))) 132) (λf A=>wD (λc E=>aA (Ib A f (oU c E 0)) (3<=c.size) (∀(C:MH),eA A C f (aM lF lF (uK (Value.map (Option.some Q)) 3 c.toList)) E->jY C e (λu D=>eA C D u (oK Value.nilFunc) 133) (λu D=>kC D u (Value.func (Fn.func 80) wG (Hn u b f)) (λI=>∃(g:Nat×Nat×Nat),aU I e u 0 (oK (Value.func (Fn.func 80) wG (Hn
 g.1 g.2.1 g.2.2)))/\∃(R:gO->MH->PH->Prop),BT 80 136 (cN v::cT g.1 (cV (iD g.2.1) (iD g.2.2))) I e (λl B j=>∃(x:gO),l=x.enc/\R x B j)/\∀(x:gO),gA (λB j=>R x B j->∃(J:gO)(n:PN)(d:Int)(F:MH),IJ (λG L t r=>aA (cT f (aW (mR x) x.env)=cT G (aW (mR J) d)) (nR j n J) (aA (Ia n) (fN F B j G L t r) (aA (gJ F) (t.length+5*j9 n<=90000) (r.length+j9 n<=90000/\gA (λa z=>cC j z (fN F a z G L (fG n d t r).1 (fG n d t r).2) (∃(M:Sl),aU a z f 0 (bA M)/\∃(O:Sl),aU a z f 1 (bA O)/\K (CV.tup (aW (lS (jK (fK M) (fK O))) 0)) a z)))))))))))))))))))
theorem CJ{q:Query}(h:(dZ s ps q).2=0):(aJ s ps q).2=0/\dK s=0:=by
 unfold dZ at h;split at h
 .rename_i e;refine⟨?_,e⟩;split at h
  .split at h
   .exact h
   .simp[dV]at h
  .simp[dV]at h
 .rename_i c;simp[dV]at h;omega
theorem alQ(m:MH)(E sz:Nat):dC m bR E sz []:=⟨⟨λ_ h=>by simp at h,λ_ h=>by simp at h⟩,.inl ⟨rfl,rfl⟩⟩
theorem aPQ:bu 36 aZJ:=by
 refine V7 func36 ?_;rintro b8 m h K ⟨sc,v,s,q,rfl,hs,hq,a6,ht,hv,hE,hK⟩;refine⟨bZZ,rfl,aE ah (aE RS (aE aLJ aG)),PQ sc v m h (fY h K),bd,?_⟩;show PQ sc v m h (fY h K);dsimp only[PQ,push_cast];intro f m1 a7 z
 have H:Sub m m1:=λx o e=>by
  rw[z.other x (λL=>by rw[L,a7.m_]at e;cases e)];exact e
 refine⟨sc,.of_m z.at_ rfl,sc,bR,v,s,[],q,rfl,hs,Pv h,hq,a6,λsl h1 E _=>aC (λM=>?_) (λM=>?_)⟩
 .have M:(dZ s [] q).2≠0:=bk
  exact fY.keep H E (hE M)
 have M:(dZ s [] q).2=0:=bk
 obtain⟨S,a8,b9,b6⟩:=hv M;obtain⟨T,U⟩:=CJ M;have hK:=hK M;intro c m2 V g cb m3 O C;refine⟨_,_,⟨C.at_⟩,bf,λm4 d B m5 F P=>⟨_,_,⟨P.at_⟩,bf,λD A=>?_⟩⟩;have d:iL m3 m4 cb (.cells #[.slice none 0 0,.slice none 0 0,.map (some c)] 132 (0,0)):=d;have A:iL m5 D B (.cells #[cBJ B f cb] 133 (0,0)):=A;have n1:c≠f:=λe=>by have:=V.m_;rw[e,z.at_]at this;cases this
 have n2:cb≠c:=λe=>by have:=O.m_;rw[e,g.at_]at this;cases this
 have n3:cb≠f:=λe=>by have:=O.m_;rw[e,g.other f (Ne.symm n1),z.at_]at this;cases this
 have n4:B≠cb:=λe=>by have:=F.m_;rw[e,d.at_]at this;cases this
 have n5:B≠c:=λe=>by have:=F.m_;rw[e,d.other c (Ne.symm n2),C.other c (Ne.symm n2),g.at_]at this;cases this
 have n6:B≠f:=λe=>by have:=F.m_;rw[e,d.other f (Ne.symm n3),C.other f (Ne.symm n3),g.other f (Ne.symm n1),z.at_]at this;cases this
 have h6:∀x,x≠B->x≠cb->D x=m2 x:=λx Q G=>by rw[A.other x Q,P.other x Q,d.other x G,C.other x G]
 have W:D cb=some (.cells #[.slice none 0 0,.slice none 0 0,.map (some c)] 132 (0,0)):=by rw[A.other cb (Ne.symm n4),P.other cb (Ne.symm n4)];exact d.at_
 have X:D c=some (.map #[] 0):=by rw[h6 c (Ne.symm n5) (Ne.symm n2)];exact g.at_
 have b7:D f=some (.cells ⟨sc.enc⟩ 43 (0,0)):=by rw[h6 f (Ne.symm n6) (Ne.symm n3),g.other f (Ne.symm n1)];exact z.at_
 obtain⟨n,c1⟩:∃n:MH,n=λx=>if x=cb\/x=c then none else D x:=⟨_,rfl⟩
 have a9:∀x,x≠cb->x≠c->n x=D x:=λx Q G=>bk
 have Y:n cb=none:=bk
 have Z:n c=none:=bk
 have R:Sub n D:=λx o e=>by
  grind
 have j:Sub m n:=λx o e=>by
  have Q:=H x o e;have a1:x≠c:=λL=>by rw[L,V.m_]at Q;cases Q
  have G:m2 x=some o:=by rw[g.other x a1];exact Q
  have a2:x≠cb:=λL=>by rw[L,O.m_]at G;cases G
  have e3:m4 x=some o:=by rw[d.other x a2,C.other x a2];exact G
  have a3:x≠B:=λL=>by rw[L,F.m_]at e3;cases e3
  grind
 have c0:fN n D h1 cb c [] []:=⟨R,Y,Z,⟨#[],0,X,rfl⟩,bf,bR,bR,W,⟨[],alQ D _ _,rfl,λi t e=>by simp at e⟩,alQ D _ _,λb i e=>by simp[bR]at e,λb i e=>by simp[bR]at e⟩
 have I:b9X n h1 s B f cb:=⟨by rw[a9 B n4 n5];exact A.at_,⟨sc,hs.mono E,bk⟩,ht.sub j,cxZ U⟩
 have b':=CF s q [];simp only[length_nil,Nat.zero_add]at b';refine⟨(B,f,cb),.of_m A.at_ rfl,λy my hy=>PH.le h1 hy/\nR hy (eY s q []).1 y/\fN n my hy cb c (eY s q []).2 [],?_,λy m7 h7⟨b0,ry,c7⟩=>?_⟩
 .have a':zY Tryz.prog 136=true:=bd
  refine Sound.fat (vs:=[.agg ⟨QV.enc v⟩,.pointer (some ⟨B,0,none⟩),.pointer (some ⟨f,0,none⟩),.pointer (some ⟨cb,0,none⟩)]) RS ⟨v,q,s,B,f,cb,c,n,[],[],rfl,hq.mono E,T,S,I,c0,bj,λv' m' h' b1 rp c'=>⟨gO.enc v',?_,v',rfl,b1,rp,c'⟩⟩;have e:Vc.valOf Tryz.prog 136 (gO.enc v')= .agg ⟨gO.enc v'⟩:=by unfold Vc.valOf;rw[a']
  rw[e];rfl
 .refine⟨y,(eY s q []).1,y.env,n,cb,c,(eY s q []).2,[],rfl,ry,a8,c7,I.tab,aD,bj,λm8 h8 b2 c8=>?_⟩;rw[ry.env_]at c8;have c8:fN n m8 h8 cb c (kO s q).1 (kO s q).2:=c8;obtain⟨p,r,a0,⟨vs,hr,a4⟩,b3,b4,b5⟩:=c8.ex;refine⟨p,.of_m a0 rfl,r,.of_m a0 rfl,λa5=>?_⟩;have hd:Bs m8 h8:=⟨a5⟩
  have le:=(E.trans b0).trans b2
  have fr:∀b,n b=none->m b=none:=λb e=>by
   cases G:m b with
   |none=>rfl
   |some o=>rw[j b o G]at e;cases e
  have J:=gQ (eY s q []).1 ((eY s q []).1.env:Int) (eY s q []).2 [];have J:(kO s q).1.length<=(eY s q []).2.length+5*j9 (eY s q []).1/\(kO s q).2.length<=0+j9 (eY s q []).1:=J;refine⟨m,oO m m8 h8,λb o e=>c8.sub b o (j b o e),le.trans (zB hd),λb i w e=>?_,hK p r _ (le.trans (zB hd)) ⟨⟨vs,jJ.ice ⟨hr,λb i e=>fr b (b4 b i e)⟩,a4.1,λi t e=>let⟨u,k1,k2⟩:=a4.2 i t e;⟨u,k1,k2.mono (zB hd)⟩⟩,⟨jJ.ice ⟨b3,λb i e=>fr b (b5 b i e)⟩,aD⟩,aD⟩⟩;unfold oO at e
  grind
theorem IC:∀{l c:ca}{r r':cu},(∀n∈l,vZ n)->(∀n∈c,vZ n)->l.length=c.length->hX l++r=hX c++r'->l=c/\r=r'
 |[],[],_,_,_,_,_,h=>⟨rfl,h⟩
 |[],_::_,_,_,_,_,d,_=>by simp at d
 |_::_,[],_,_,_,_,d,_=>by simp at d
 |m::l,n::c,r,r',f,g,d,h=>by
  rw[uV,uV,append_assoc,append_assoc,cons_append,cons_append]at h;obtain⟨a,h⟩:=gV (f m bf) (g n bf) h;obtain⟨b,h⟩:=IC (λx e=>f x (by simp[e])) (λx e=>g x (by simp[e])) bk h
  grind
theorem JC:∀{l c:ce}{r r':cu},(∀p∈l,vZ p.1/\vZ p.2)->(∀p∈c,vZ p.1/\vZ p.2)->l.length=c.length->vP l++r=vP c++r'->l=c/\r=r'
 |[],[],_,_,_,_,_,h=>⟨rfl,h⟩
 |[],_::_,_,_,_,_,d,_=>by simp at d
 |_::_,[],_,_,_,_,d,_=>by simp at d
 |m::l,n::c,r,r',e,f,d,h=>by
  rw[M7,M7]at h;simp only[append_assoc,cons_append]at h;obtain⟨a,h⟩:=gV (e m bf).1 (f n bf).1 h;obtain⟨j,h⟩:=gV (e m bf).2 (f n bf).2 h;obtain⟨b,h⟩:=JC (λx g=>e x (by simp[g])) (λx g=>f x (by simp[g])) bk h
  grind
theorem Jp:∀{l c:cg}{r r':cu},(∀p∈l,vZ p.1)->(∀p∈c,vZ p.1)->l.length=c.length->vN l++r=vN c++r'->l=c/\r=r'
 |[],[],_,_,_,_,_,h=>⟨rfl,h⟩
 |[],_::_,_,_,_,_,d,_=>by simp at d
 |_::_,[],_,_,_,_,d,_=>by simp at d
 |m::l,n::c,r,r',f,g,d,h=>by
  rw[M0,M0]at h;simp only[append_assoc,cons_append]at h;have j:∀b:Bool,vZ (if b then 1 else 0):=λb=>by cases b<;>exact⟨bg,bg⟩
  obtain⟨a,h⟩:=gV (f m bf) (g n bf) h;obtain⟨o,h⟩:=gV (j m.2) (j n.2) h;obtain⟨b,h⟩:=Jp (λx e=>f x (by simp[e])) (λx e=>g x (by simp[e])) bk h
  grind
structure bBX(t:Step):Prop where
 op_:vZ t.op
 table_:vZ t.table
 limit_:vZ t.limit
 left_:vZ t.left
 right_:vZ t.right
 cols:t.columns.length<=8000000
 on_:t.on.length<=8000000
 group_:t.group.length<=8000000
 order_:t.order.length<=8000000
theorem aCQ{x:Step}(e:bBZ x)(f:bBZ t)(c:bBX x)(d:bBX t)(h:stepB x=stepB t):x=t:=by
 obtain⟨op,ta,w,co,on,gr,od,li,le,T⟩:=x;obtain⟨D,E,U,F,G,H,I,J,L,M⟩:=t;have O:hX []=[]:=rfl;simp only[stepB,uV,O,append_assoc,cons_append,nil_append]at h;obtain⟨j,h⟩:=gV c.op_ d.op_ h;obtain⟨n,h⟩:=gV c.table_ d.table_ h;obtain⟨o,h⟩:=gV c.limit_ d.limit_ h;obtain⟨u,h⟩:=gV c.left_ d.left_ h;obtain⟨y,h⟩:=gV c.right_ d.right_ h;obtain⟨z,h⟩:=M6 e.wher f.wher h;obtain⟨P,h⟩:=gV (wW c.cols) (wW d.cols) h;obtain⟨A,h⟩:=IC e.cols f.cols (by simp only at P⊢;omega) h;obtain⟨Q,h⟩:=gV (wW c.on_) (wW d.on_) h;obtain⟨B,h⟩:=JC e.on_ f.on_ (by simp only at Q⊢;omega) h;obtain⟨R,h⟩:=gV (wW c.group_) (wW d.group_) h;obtain⟨C,h⟩:=IC e.group_ f.group_ (by simp only at R⊢;omega) h;obtain⟨S,h⟩:=gV (wW c.order_) (wW d.order_) h;obtain⟨g,_⟩:=Jp (r:=[]) (r':=[]) e.order_ f.order_ (by simp only at S⊢;omega) (bt h);simp only at j n o u y z A B C g;subst j n o u y z A B C g;rfl
structure iB(s:jE)(q:Query):Prop where
 kinds:(aJ s [] q).2=0
 ints:QI q
 bnd:fS 4 q<=8000000
theorem iB.arg{op:Int}{w:Pred}{on:ce}{args:ci}(g:iB s (.mk op ta w co on gr od li args)){a:Query}(c:a∈args):iB s a:=
 ⟨(iJ g.kinds).1 a c,(Iz.1 g.ints).2 a c,b9Q g.kinds g.bnd c⟩
theorem XZ{op:Int}{w:Pred}{on:ce}{args:ci}(u:s.tables.length<=1000)(h:(aJ s [] (.mk op ta w co on gr od li args)).2=0):vZ op/\vZ ta/\vZ li:=by
 obtain⟨_,g,a,b,_,_,c⟩:=iJ h;unfold dY at c;by_cases d:arity op<0\/¬cH (.mk op ta w co on gr od li args)
 .rw[if_pos d]at c;simp[dV]at c
 .rw[if_neg d]at c;rw[not_or]at d;obtain⟨j,_,_,_,n⟩:cH (.mk op ta w co on gr od li args):=Classical.not_not.1 d.2
  have o:1<=op/\op<=10:=by
   have f:=d.1;unfold arity at f;simp only[beq_iff_eq,Bool.or_eq_true]at f;omega
  refine⟨jN aD aD,?_,?_⟩
  .rcases j with rfl|rfl
   .dsimp only at c;simp only[if_true]at c;split at c
    .rename_i e;exact jN aD aD
    .simp[dV]at c
   .exact Gu
  .rcases n with rfl|rfl|⟨_,_,rfl⟩
   .dsimp only at c;simp only[show¬((9:Int)=1)by decide,show¬((9:Int)=2)by decide,show¬((9:Int)=3)by decide,show¬((9:Int)=4)by decide,show¬((9:Int)=5)by decide,if_false,if_true]at c;split at c
    .rename_i e;exact jN (by have:=e.low;omega) (by have:=e.high;omega)
    .simp[dV]at c
   .dsimp only at c;simp only[show¬((10:Int)=1)by decide,show¬((10:Int)=2)by decide,show¬((10:Int)=3)by decide,show¬((10:Int)=4)by decide,show¬((10:Int)=5)by decide,show¬((10:Int)=9)by decide,if_false,if_true]at c;split at c
    .rename_i e;exact jN (by have:=e.2.low;omega) (by have:=e.2.high;omega)
    .simp[dV]at c
   .exact Gu
structure DL(s:jE)(ts:cq):Prop where
 ar:∀(i:Nat) t,ts[i]? =some t->0<=arity t.op
 fit:∀(i:Nat) t,ts[i]? =some t->oT i t
 nodup:(ts.map stepB).Nodup
 good:∀i,i<ts.length->iB s (aR ts i)
 short:∀t∈ts,t.columns.length<=1000/\t.on.length<=1000/\t.group.length<=1000/\t.order.length<=1000
theorem DL.ok(v:DL s ts):B7 ts:=λi t e=>⟨v.ar i t e,KM (v.ar i t e) (v.fit i t e)⟩
theorem DL.nil(s:jE):DL s []:=⟨λi t e=>by simp at e,λi t e=>by simp at e,bf,λi c=>by simp at c,λt d=>by simp at d⟩
theorem PA{a:Int}{u:Bool}(h:DH a u i=true)(c:i<=8000000):vZ a:=by
 unfold DH at h;split at h
 .simp only[Bool.and_eq_true,decide_eq_true_eq]at h;exact jN aD aD
 .have:a=0:=bt h
  rw[this];exact Gu
theorem OG{q:Query}{args:ci}(j:s.tables.length<=1000)(g:iB s q)(n:q= .mk t.op t.table t.wher t.columns t.on t.group t.order t.limit args)(d:oT i t)(e:i<=8000000)(D:t.columns.length<=1000/\t.on.length<=1000/\t.group.length<=1000/\t.order.length<=1000):bBZ t/\bBX t:=by
 have c:=g.ints;have f:=g.kinds;rw[n]at c f;rw[Iz]at c;obtain⟨o,u,x,y,z⟩:=c.1;obtain⟨A,B,C⟩:=XZ j f;exact⟨⟨o,u,x,y,z⟩,⟨A,B,C,PA d.1 e,PA d.2 e,aD,aD,aD,aD⟩⟩
theorem bbJ{s:jE}{ts:cq}{t:Step}{q:Query}(H:s.tables.length<=1000)(v:DL s ts)(I:ts.length<=100000)(J:0<=arity t.op)(D:oT ts.length t)(g:iB s q)(E:q= .mk t.op t.table t.wher t.columns t.on t.group t.order t.limit (Cw ts t))(M:t.columns.length<=1000/\t.on.length<=1000/\t.group.length<=1000/\t.order.length<=1000):
 DL s (bT t ts).1/\ts<+:(bT t ts).1/\(bT t ts).2<(bT t ts).1.length/\aR (bT t ts).1 (bT t ts).2=q:=by
 obtain⟨O,P⟩:=OG H g E D aD M;by_cases y:∀x∈ts,stepB x≠stepB t
 .rw[Xr y];dsimp only
  have c:∀(i:Nat) u,(ts++[t])[i]? =some u->ts[i]? =some u\/(i=ts.length/\u=t):=λi u e=>by
   grind
  have f:∀(i:Nat) u,(ts++[t])[i]? =some u->0<=arity u.op:=λi u e=>by
   rcases c i u e with e|⟨_,rfl⟩
   .exact v.ar i u e
   .exact J
  have d:∀(i:Nat) u,(ts++[t])[i]? =some u->oT i u:=λi u e=>by
   rcases c i u e with e|⟨rfl,rfl⟩
   .exact v.fit i u e
   .exact D
  have j:B7 (ts++[t]):=λi u e=>⟨f i u e,KM (f i u e) (d i u e)⟩
  have F:ts<+:ts++[t]:=prefix_append _ _
  have n:aR (ts++[t]) ts.length=q:=by
   rw[pY j (t:=t) bf,E]
   have:Cw (ts++[t]) t=Cw ts t:=map_congr_left λa L=>by
    have:=KM J D a L;exact eV F j a.toNat aD
   rw[this]
  refine⟨⟨f,d,?_,λi o=>?_,λu B=>?_⟩,F,bf,n⟩
  .rw[map_append,nodup_append];refine⟨v.nodup,bf,λa L b T=>?_⟩
   grind
  .by_cases z:i<ts.length
   .rw[eV F j i z];exact v.good i z
   grind
  .rcases mem_append.1 B with B|B
   .exact v.short u B
   grind
 .have:∃x∈ts,stepB x=stepB t:=Classical.byContradiction λQ=>y λx C e=>Q ⟨x,C,e⟩;obtain⟨x,C,e⟩:=this;obtain⟨i,o⟩:=mem_iff_getElem?.1 C;have A:=(List.getElem?_eq_some_iff.1 o).1;obtain⟨R,S⟩:=OG H (v.good i A) (pY v.ok o) (v.fit i x o) aD (v.short x C);have G:x=t:=aCQ R O S P e;subst G;rw[Xq v.nodup o rfl];exact⟨v,prefix_refl _,A,by rw[pY v.ok o,E]⟩
theorem Vd(v:DL s ts)(d:ts[i]? =some t):CI s ((List.range i).map λj=>(aJ s [] (aR ts j)).1) t=((aJ s [] (aR ts i)).1,0):=by
 have A:=(List.getElem?_eq_some_iff.1 d).1;have g:=(v.good i A).kinds;have B:=pY v.ok d;rw[B]at g⊢
 have C:=Gq g;have E:=v.ar i t d;have F:=D5 t.op;have x:=v.fit i t d;have c:=(v.ok i t d).2;have D:((List.range i).map λj=>(aJ s [] (aR ts j)).1).length=i:=bf
 have y:CD ((List.range i).map λj=>(aJ s [] (aR ts j)).1) t.left (decide (arity t.op>0))=((Cw ts t).map λq=>(aJ s [] q).1).getD 0 []/\CD ((List.range i).map λj=>(aJ s [] (aR ts j)).1) t.right (decide (arity t.op>1))=((Cw ts t).map λq=>(aJ s [] q).1).getD 1 []:=by
  obtain⟨n,f⟩:∃n:Nat,arity t.op=n:=⟨(arity t.op).toNat,aD⟩
  unfold Cw;unfold A7 at c⊢
  rw[f,Int.toNat_natCast]at c⊢
  match n,f,c with
  |0,_,_=>exact⟨rfl,rfl⟩
  |1,f,c=>
   have o:=c t.left bf;exact⟨Qq o.1 o.2,rfl⟩
  |2,f,c=>
   have o:=c t.left bf;have z:=c t.right bf;exact⟨Qq o.1 o.2,Qq z.1 z.2⟩
  |n+3,f,_=>omega
 have u:dY s [] t.query (CD ((List.range i).map λj=>(aJ s [] (aR ts j)).1) t.left (decide (arity t.op>0))) (CD ((List.range i).map λj=>(aJ s [] (aR ts j)).1) t.right (decide (arity t.op>1)))=aJ s [] (.mk t.op t.table t.wher t.columns t.on t.group t.order t.limit (Cw ts t)):=by
  rw[C,y.1,y.2];rfl
 unfold CI;rw[u,D,if_neg,if_neg aD]
 .grind
 .rintro(e|e|e)
  .omega
  .rw[x.1]at e;cases e
  .rw[x.2]at e;cases e
theorem Jn{s:jE}{ts:cq}(v:DL s ts):∀(n i:Nat),i+n=ts.length->(Cg s ((List.range i).map λj=>(aJ s [] (aR ts j)).1) (ts.drop i)).2=0
 |0,i,d=>by
  rw[drop_of_length_le aD];rfl
 |n+1,i,d=>by
  have c:ts[i]? =some ts[i]:=getElem?_eq_getElem aD;rw[MV c,Vd v c,if_pos rfl];have:=Jn v n (i+1) aD
  rwa [range_succ,map_append]at this
theorem Vz(v:DL s ts)(c:dK s=0)(d:ts.length<=1024)(e:rs.length<=32)(f:∀r∈rs,0<=r/\r<ts.length):iC s ts rs=0:=by
 rw[Ih c aD,if_neg,if_pos]
 .grind
 .have:=Jn v ts.length 0 aD
  grind
mutual
def fL:Query->Query
 |.mk op ta w co on gr od li args=>if Bt op=true then(FK args).getD 0 ahX else .mk op ta w co on gr od li (FK args)
def FK:ci->ci
 |[]=>[]
 |q::qs=>fL q::FK qs
end
theorem D1:∀l:ci,FK l=l.map fL
 |[]=>by simp[FK]
 |q::l=>by rw[FK,D1 l];rfl
def lI(a b:Query)(on:ce):Query:=.mk 5 0 eW [] on [] [] 0 [a,b]
def jS(a b:Query):Query:=.mk 8 0 eW [] [] [] [] 0 [a,b]
def Ig(a:Query)(co:ca):Query:=.mk 3 0 eW co [] [] [] 0 [a]
def FI(a b:Query)(gr:ca)(od:cg)(li:Int):Query:=.mk 10 0 eW [] [] gr od li [a,b]
def pZ(c:Query->Int)(q D:Query):ci:=
 match q with
 |.mk op _ _ co on gr od li args=>
  match args with
  |[]=>if op=1 then[D]else[]
  |[a]=>
   if op=2 then pZ c a D
   else if op=3 then pZ c a (lI (fL a) D (oR co))
   else if op=9 then pZ c a (FI (lI (fL a) D (uD gr)) a gr od li)
   else[]
  |a::b::_=>
   if op=4 then pZ c a (Ig (lI D b (Bg (c a) (c b))) (gU 0 (c a)))++pZ c b (Ig D (gU (c a) (c b)))
   else if op=5 then pZ c a (lI D b on)++pZ c b (lI (fL b) D (qL on))
   else if op=6 then pZ c a (jS (fL a) D)++pZ c b (jS (fL b) D)
   else if op=7\/op=8 then pZ c a D++pZ c b (jS (jS (fL b) D) a)
   else if op=10 then pZ c a D++pZ c b (FI (lI (fL b) D (uD gr)) b gr od li)
   else[]
 termination_by SizeOf.sizeOf q
noncomputable def xT(s:jE)(q:Query):Int:=((aJ s [] q).1.length:Int)
def bOX(s:jE)(op ta:Int)(co a b:ca):ca:=if op=1 then jR s ta else if op=3 then co.map (λc=>a.getD c.toNat 0)else if op=4 then a++b else a
structure bFQ(s:jE)(op ta:Int)(co:ca)(on:ce)(gr:ca)(od:cg)(li:Int)(a b:ca)(r:ca):Prop where
 out:r=bOX s op ta co a b
 len:r.length<=12
 tab:op=1->0<=ta/\ta<s.tables.length
 proj:op=3->co≠[]/\Good (λ_ c=>B9 a c=true) co
 pair:op=4\/op=5->Good (lX a b) on
 rank:op=9\/op=10->lR a gr od li
 same:op=6\/op=7\/op=8\/op=10->a=b
theorem sR(h:(lL l).2=0):l.length<=12:=by
 unfold lL at h
 grind
theorem VN{op:Int}{w:Pred}{on:ce}{args:ci}{b:ca}(h:(dY s [] (.mk op ta w co on gr od li args) a b).2=0):
 bFQ s op ta co on gr od li a b (dY s [] (.mk op ta w co on gr od li args) a b).1/\1<=op/\op<=10:=by
 unfold dY at h⊢
 by_cases d:arity op<0\/¬cH (.mk op ta w co on gr od li args)
 .rw[if_pos d]at h;simp[dV]at h
 rw[if_neg d]at h⊢
 rw[not_or]at d;have f:=d.1
 have e:op=1\/op=2\/op=3\/op=9\/op=4\/op=5\/op=6\/op=7\/op=8\/op=10:=by
  unfold arity at f
  grind
 refine⟨?_,aD,aD⟩;dsimp only at h⊢
 rcases e with rfl|rfl|rfl|rfl|rfl|rfl|rfl|rfl|rfl|rfl
 .simp only[if_true]at h⊢
  split at h
  .rename_i c;rw[if_pos c];rw[sF h];exact⟨rfl,sR h,λ_=>c,bf,bf,bf,bf⟩
  .simp[dV]at h
 .simp only[show¬((2:Int)=1)by decide,if_true,if_false]at h⊢
  split at h
  .rename_i c;rw[if_pos c];rw[sF h];exact⟨rfl,sR h,bf,bf,bf,bf,bf⟩
  .rename_i c;simp[dV]at h;omega
 .simp only[show¬((3:Int)=1)by decide,show¬((3:Int)=2)by decide,if_true,if_false]at h⊢
  split at h
  .rename_i c;rw[if_pos c];rw[sF h];exact⟨rfl,sR h,bf,λ_=>c,bf,bf,bf⟩
  .simp[dV]at h
 .simp only[show¬((9:Int)=1)by decide,show¬((9:Int)=2)by decide,show¬((9:Int)=3)by decide,show¬((9:Int)=4)by decide,show¬((9:Int)=5)by decide,if_true,if_false]at h⊢
  split at h
  .rename_i c;rw[if_pos c];rw[sF h];exact⟨rfl,sR h,bf,bf,bf,λ_=>c,bf⟩
  .simp[dV]at h
 .simp only[show¬((4:Int)=1)by decide,show¬((4:Int)=2)by decide,show¬((4:Int)=3)by decide,if_true,if_false]at h⊢
  split at h
  .rename_i c;rw[if_pos c];rw[sF h];exact⟨rfl,sR h,bf,bf,λ_=>c,bf,bf⟩
  .simp[dV]at h
 .simp only[show¬((5:Int)=1)by decide,show¬((5:Int)=2)by decide,show¬((5:Int)=3)by decide,show¬((5:Int)=4)by decide,if_true,if_false]at h⊢
  split at h
  .rename_i c;rw[if_pos c];rw[sF h];exact⟨rfl,sR h,bf,bf,λ_=>c,bf,bf⟩
  .simp[dV]at h
 .simp only[show¬((6:Int)=1)by decide,show¬((6:Int)=2)by decide,show¬((6:Int)=3)by decide,show¬((6:Int)=4)by decide,show¬((6:Int)=5)by decide,show¬((6:Int)=9)by decide,show¬((6:Int)=10)by decide,if_true,if_false]at h⊢
  split at h
  .rename_i c;rw[if_pos c];rw[sF h];exact⟨rfl,sR h,bf,bf,bf,bf,λ_=>c⟩
  .simp[dV]at h
 .simp only[show¬((7:Int)=1)by decide,show¬((7:Int)=2)by decide,show¬((7:Int)=3)by decide,show¬((7:Int)=4)by decide,show¬((7:Int)=5)by decide,show¬((7:Int)=9)by decide,show¬((7:Int)=10)by decide,if_true,if_false]at h⊢
  split at h
  .rename_i c;rw[if_pos c];rw[sF h];exact⟨rfl,sR h,bf,bf,bf,bf,λ_=>c⟩
  .simp[dV]at h
 .simp only[show¬((8:Int)=1)by decide,show¬((8:Int)=2)by decide,show¬((8:Int)=3)by decide,show¬((8:Int)=4)by decide,show¬((8:Int)=5)by decide,show¬((8:Int)=9)by decide,show¬((8:Int)=10)by decide,if_true,if_false]at h⊢
  split at h
  .rename_i c;rw[if_pos c];rw[sF h];exact⟨rfl,sR h,bf,bf,bf,bf,λ_=>c⟩
  .simp[dV]at h
 .simp only[show¬((10:Int)=1)by decide,show¬((10:Int)=2)by decide,show¬((10:Int)=3)by decide,show¬((10:Int)=4)by decide,show¬((10:Int)=5)by decide,show¬((10:Int)=9)by decide,if_true,if_false]at h⊢
  split at h
  .rename_i c;rw[if_pos c];rw[sF h];exact⟨rfl,sR h,bf,bf,bf,λ_=>c.2,λ_=>c.1⟩
  .simp[dV]at h
theorem KE(h:l.length<=12):lL l=(l,0):=by unfold lL;rw[if_pos h]
theorem aFZ{on:ce}{args:ci}{b:ca}(h:a.length<=12)(c:Good (lX a b) on):dY s [] (.mk 5 0 eW [] on [] [] 0 args) a b=(a,0):=by
 unfold dY;rw[if_neg (by simp[cH,arity])];simp only[show¬((5:Int)=1)by decide,show¬((5:Int)=2)by decide,show¬((5:Int)=3)by decide,show¬((5:Int)=4)by decide,if_true,if_false,if_pos c,KE h]
theorem X0{args:ci}(h:a.length<=12):dY s [] (.mk 8 0 eW [] [] [] [] 0 args) a a=(a,0):=by
 unfold dY;rw[if_neg (by simp[cH,arity])];simp only[show¬((8:Int)=1)by decide,show¬((8:Int)=2)by decide,show¬((8:Int)=3)by decide,show¬((8:Int)=4)by decide,show¬((8:Int)=5)by decide,show¬((8:Int)=9)by decide,show¬((8:Int)=10)by decide,if_true,if_false,KE h]
theorem aFJ{args:ci}{b:ca}(d:co≠[])(e:Good (λ_ c=>B9 a c=true) co)(h:co.length<=12):dY s [] (.mk 3 0 eW co [] [] [] 0 args) a b=(co.map (λc=>a.getD c.toNat 0),0):=by
 unfold dY;rw[if_neg (by simp[cH,arity])];simp only[show¬((3:Int)=1)by decide,show¬((3:Int)=2)by decide,if_true,if_false];rw[if_pos ⟨d,e⟩,KE (bt h)]
theorem aGQ{args:ci}(h:a.length<=12)(c:lR a gr od li):dY s [] (.mk 10 0 eW [] [] gr od li args) a a=(a,0):=by
 unfold dY;rw[if_neg (by simp[cH,arity])];simp only[show¬((10:Int)=1)by decide,show¬((10:Int)=2)by decide,show¬((10:Int)=3)by decide,show¬((10:Int)=4)by decide,show¬((10:Int)=5)by decide,show¬((10:Int)=9)by decide,if_true,if_false];rw[if_pos ⟨rfl,c⟩,KE h]
theorem iB.k{q:Query}(g:iB s q):aJ s [] q=((aJ s [] q).1,0):=Prod.ext rfl g.kinds
theorem iB.two{op:Int}{w:Pred}{on:ce}{a b:Query}{K:ca}(c:iB s a)(d:iB s b)(g:arity op=2)(j:dY s [] (.mk op ta w co on gr od li [a,b]) (aJ s [] a).1 (aJ s [] b).1=(K,0))(n:Dt w)(o:fS 4 (.mk op ta w co on gr od li [a,b])<=8000000):
 iB s (.mk op ta w co on gr od li [a,b])/\(aJ s [] (.mk op ta w co on gr od li [a,b])).1=K:=by
 have e:aJ s [] (.mk op ta w co on gr od li [a,b])=(K,0):=by
  rw[aJ,uL (ks:=[(aJ s [] a).1,(aJ s [] b).1]) (by show[aJ s [] a,aJ s [] b]=[((aJ s [] a).1,0),((aJ s [] b).1,0)];rw[<-c.k, <-d.k])]
  grind
 refine⟨⟨by rw[e],Iz.2 ⟨X1 (s:=s) (ps:=[]) (a:=(aJ s [] a).1) (b:=(aJ s [] b).1) (kN ..) (kN ..) bf n (by rw[j]),λq f=>?_⟩,o⟩,by rw[e]⟩;simp at f;rcases f with rfl|rfl
 .exact c.ints
 .exact d.ints
theorem iB.one{op:Int}{w:Pred}{on:ce}{a:Query}{K:ca}(c:iB s a)(f:arity op=1)(g:dY s [] (.mk op ta w co on gr od li [a]) (aJ s [] a).1 []=(K,0))(j:Dt w)(n:fS 4 (.mk op ta w co on gr od li [a])<=8000000):
 iB s (.mk op ta w co on gr od li [a])/\(aJ s [] (.mk op ta w co on gr od li [a])).1=K:=by
 have d:aJ s [] (.mk op ta w co on gr od li [a])=(K,0):=by
  rw[aJ,uL (ks:=[(aJ s [] a).1]) (by show[aJ s [] a]=[((aJ s [] a).1,0)];rw[<-c.k])]
  grind
 refine⟨⟨by rw[d],Iz.2 ⟨X1 (s:=s) (ps:=[]) (a:=(aJ s [] a).1) (b:=[]) (kN ..) bf bf j (by rw[g]),λq e=>?_⟩,n⟩,by rw[d]⟩;simp at e;subst e;exact c.ints
theorem DQ{s:jE}{a b:Query}{on:ce}(c:iB s a)(d:iB s b)(e:Good (lX (aJ s [] a).1 (aJ s [] b).1) on)(f:fS 4 a+fS 4 b<=8000000):iB s (lI a b on)/\(aJ s [] (lI a b on)).1=(aJ s [] a).1:=
 iB.two c d rfl (aFZ (kN ..) e) pK (by simpa[fS,vM]using f)
theorem zZ{a b:Query}(c:iB s a)(d:iB s b)(e:(aJ s [] a).1=(aJ s [] b).1)(f:fS 4 a+fS 4 b<=8000000):iB s (jS a b)/\(aJ s [] (jS a b)).1=(aJ s [] a).1:=
 iB.two c d rfl (by rw[<-e];exact X0 (kN ..)) pK (by simpa[fS,vM]using f)
theorem Rv{s:jE}{a:Query}{co:ca}(d:iB s a)(e:co≠[])(f:Good (λ_ c=>B9 (aJ s [] a).1 c=true) co)(g:co.length<=12)(j:fS 4 a<=8000000):iB s (Ig a co)/\(aJ s [] (Ig a co)).1=co.map (λc=>(aJ s [] a).1.getD c.toNat 0):=
 iB.one d rfl (aFJ e f g) pK (by simpa[fS,vM]using j)
theorem aEQ{s:jE}{a b:Query}{gr:ca}{od:cg}{li:Int}(c:iB s a)(d:iB s b)(e:(aJ s [] a).1=(aJ s [] b).1)(f:lR (aJ s [] a).1 gr od li)(g:fS 4 a+fS 4 b<=8000000):iB s (FI a b gr od li)/\(aJ s [] (FI a b gr od li)).1=(aJ s [] a).1:=
 iB.two c d rfl (by rw[<-e];exact aGQ (kN ..) f) pK (by simpa[fS,vM]using g)
theorem iB.node{op:Int}{w:Pred}{on:ce}{args:ci}(g:iB s (.mk op ta w co on gr od li args)):
 bFQ s op ta co on gr od li ((args.map λq=>(aJ s [] q).1).getD 0 []) ((args.map λq=>(aJ s [] q).1).getD 1 []) (aJ s [] (.mk op ta w co on gr od li args)).1/\(1<=op/\op<=10)/\(args.length:Int)=arity op/\∀a∈args,iB s a:=by
 have c:=Gq g.kinds;have h:=g.kinds;rw[c]at h;have:=VN h;rw[<-c]at this;exact⟨this.1,this.2,(iJ g.kinds).2.1,λa d=>g.arg d⟩
theorem ccZ{op:Int}{on:ce}{args:ci}{w:Pred}(g:iB s (.mk op ta w co on gr od li args)):co.length<=12/\on.length<=12/\gr.length<=12/\od.length<=12:=by
 obtain⟨_,_,a,b,D,_,h⟩:=iJ g.kinds;have n:=(VN h).1
 have u:cH (.mk op ta w co on gr od li args):=by
  unfold dY at h;by_cases z:arity op<0\/¬cH (.mk op ta w co on gr od li args)
  .rw[if_pos z]at h;simp[dV]at h
  grind
 obtain⟨_,_,A,B,C⟩:=u
 have d:Good (lX a b) on->on.length<=12:=λg=>by
  have:=KL (f:=λp=>p.1) (n:=a.length) g (λc x t=>by have:=t.1;rw[eJ]at this;exact this) (λc x t y o=>(t.2.2.2 y o).1);omega
 have j:lR a gr od li->gr.length<=12/\od.length<=12:=λr=>by
  have:=KL (f:=λp=>p) (n:=a.length) r.group_ (λc x t=>by have:=t.1;rw[eJ]at this;exact this) (λc x t y o e=>t.2 bk);exact⟨aD,r.len_⟩
 refine⟨?_,?_,?_⟩
 .rcases A with rfl|rfl
  .have:=n.len;rw[n.out]at this;simpa[bOX]using this
  .simp
 .rcases B with rfl|rfl|rfl
  .exact d (n.pair (.inl rfl))
  .exact d (n.pair (.inr rfl))
  .simp
 .rcases C with rfl|rfl|⟨rfl,rfl,_⟩
  .exact j (n.rank (.inl rfl))
  .exact j (n.rank (.inr rfl))
  .simp
theorem Io{s:jE}:∀{l c:ci},l.map (aJ s [])=c.map (aJ s [])->eX s [] l=eX s [] c
 |[],[],_=>rfl
 |[],_::_,h=>by simp at h
 |_::_,[],h=>by simp at h
 |q::l,d::c,h=>by
  simp only[map_cons,List.cons.injEq]at h;rw[eX,eX,h.1,Io h.2]
theorem Ya{op:Int}{w:Pred}{on:ce}{args c:ci}(h:c.map (aJ s [])=args.map (aJ s [])):aJ s [] (.mk op ta w co on gr od li c)=aJ s [] (.mk op ta w co on gr od li args):=by
 rw[aJ,aJ,Io h];split;rename_i ks e _;rw[ID s [] op ta w co on gr od li c,ID s [] op ta w co on gr od li args]
theorem a2Q{f:Query->Query}:∀{l:ci},(∀a∈l,fS 4 (f a)<=fS 4 a)->vM 4 (l.map f)<=vM 4 l/\w8 4 (l.map f)<=w8 4 l
 |[],_=>⟨Nat.le_refl _,Nat.le_refl _⟩
 |q::l,h=>by
  have c:=h q bf;have d:=a2Q (l:=l) λa e=>h a (by simp[e]);simp only[map_cons,vM,w8];exact⟨aD,Nat.mul_le_mul c d.2⟩
theorem atJ{op:Int}{w:Pred}{on:ce}{args:ci}(g:iB s (.mk op ta w co on gr od li args)){a:Query}(d:a∈args):fS 4 a<=fS 4 (.mk op ta w co on gr od li args):=by
 obtain⟨j,f,n,_⟩:=xJ g.k;have o:=Lf (c:=4) aD f a d;rw[fS];split
 .rename_i e;subst e;rw[Ly f n]at d;cases d
 grind
theorem T1{op:Int}(h:Bt op=true):op=7\/op=9\/op=10:=by
 unfold Bt at h
 grind
theorem D0{s:jE}:∀q:Query,iB s q->iB s (fL q)/\(aJ s [] (fL q)).1=(aJ s [] q).1/\fS 4 (fL q)<=fS 4 q
 |.mk op ta w co on gr od li args,g=>by
  obtain⟨n,z,A,u⟩:=g.node;have j:∀a∈args,iB s (fL a)/\(aJ s [] (fL a)).1=(aJ s [] a).1/\fS 4 (fL a)<=fS 4 a:=λa d=>D0 a (u a d);rw[fL];split
  .rename_i B;have C:=T1 B
   obtain⟨a,c,rfl⟩:∃a c,args=a::c:=by
    cases args with
    |nil=>
     exfalso;have:(1:Int)<=arity op:=by rcases C with rfl|rfl|rfl<;>decide
     grind
    |cons a c=>grind
   have o:=j a bf;have e:(FK (a::c)).getD 0 ahX=fL a:=by rw[FK];rfl
   rw[e];refine⟨o.1,?_,Nat.le_trans o.2.2 (atJ g bf)⟩;rw[o.2.1,n.out];unfold bOX
   grind
  .rw[D1]
   have x:aJ s [] (.mk op ta w co on gr od li (args.map fL))=aJ s [] (.mk op ta w co on gr od li args):=Ya (by
    rw[map_map];refine map_congr_left λa d=>?_;show aJ s [] (fL a)=aJ s [] a;rw[(j a d).1.k,(u a d).k,(j a d).2.1])
   have y:fS 4 (.mk op ta w co on gr od li (args.map fL))<=fS 4 (.mk op ta w co on gr od li args):=by
    have:=a2Q (l:=args) (f:=fL) λa d=>(j a d).2.2;simp only[fS]
    grind
   refine⟨⟨by rw[x];exact g.kinds,Iz.2 ⟨(Iz.1 g.ints).1,λq D=>?_⟩,Nat.le_trans y g.bnd⟩,by rw[x],y⟩;obtain⟨a,d,rfl⟩:=mem_map.1 D;exact(j a d).1.ints
 termination_by q=>SizeOf.sizeOf q
theorem a3Q(h:dK s=0){t:Int}(e:0<=t)(f:t<s.tables.length):0<(jR s t).length:=by
 have c:Lj s:=by
  unfold dK at h
  grind
 unfold jR;rw[if_neg aD];have d:t.toNat<s.tables.length:=by omega
 rw[getElem?_eq_getElem d];have:=c.2.2.1 t.toNat _ (getElem?_eq_getElem d);have g:=this.2.1;have j:=this.2.2.1
 grind
theorem Vl(h:dK s=0):s.tables.length<=1000:=by
 unfold dK at h;split at h
 .rename_i e;have:=e.1;omega
 .cases h
theorem LM{s:jE}(f:dK s=0):∀q:Query,iB s q->0<(aJ s [] q).1.length
 |.mk op ta w co on gr od li args,g=>by
  obtain⟨n,j,d,o⟩:=g.node;rw[n.out]
  have u:op≠1->∃a c,args=a::c:=λz=>by
   cases args with
   |nil=>
    exfalso;simp only[length_nil]at d;unfold arity at d
    grind
   |cons a c=>grind
  unfold bOX;split
  .rename_i e;exact a3Q f (n.tab e).1 (n.tab e).2
  .rename_i x;obtain⟨a,c,rfl⟩:=u x;have A:=LM f a (o a bf);split
   .rename_i y;have:=(n.proj y).1
    grind
   grind
 termination_by q=>SizeOf.sizeOf q
theorem abJ{op:Int}{w:Pred}{on:ce}{ks:cv}(h:(ks.length:Int)=arity op):Cw ts (zK op ta w co on gr od li ks)=ks.map (aR ts):=by
 have c:=D5 op;unfold Cw A7 zK;dsimp only;rw[<-h,Int.toNat_natCast]
 match ks,h with
 |[],_=>rfl
 |[a],_=>simp
 |[a,b],_=>simp
 |_::_::_::_,h=>grind
theorem bdZ{n:Nat}{op:Int}{w:Pred}{on:ce}{ks:cv}(h:(ks.length:Int)=arity op)(c:∀k∈ks,k<n):oT n (zK op ta w co on gr od li ks):=by
 have d:=D5 op;unfold oT zK DH;dsimp only;rw[<-h]
 match ks,h,c with
 |[],_,_=>simp
 |[a],_,c=>have:=c a bf;simp;omega
 |[a,b],_,c=>have:=c a bf;have:=c b bf;simp;omega
 |_::_::_::_,h,_=>grind
structure Bb(s:jE)(ts ts':cq)(k:Nat)(q:Query):Prop where
 inv:DL s ts'
 pre:ts<+:ts'
 lt:k<ts'.length
 is:aR ts' k=q
theorem Lh{s:jE}{ts:cq}{op ta:Int}{w:Pred}{co:ca}{on:ce}{gr:ca}{od:cg}{li:Int}{ks:cv}{args:ci}(d:s.tables.length<=1000)(v:DL s ts)(e:ts.length<=100000)(c:(ks.length:Int)=arity op)(f:∀k∈ks,k<ts.length)(j:ks.map (aR ts)=args)(g:iB s (.mk op ta w co on gr od li args)):
 Bb s ts (bT (zK op ta w co on gr od li ks) ts).1 (bT (zK op ta w co on gr od li ks) ts).2 (.mk op ta w co on gr od li args):=by
 obtain⟨y,z,A,B⟩:=ccZ g;obtain⟨n,o,u,x⟩:=bbJ (t:=zK op ta w co on gr od li ks) d v e (by show 0<=arity op;omega) (bdZ c f) g (by rw[abJ c,j];rfl) ⟨by show co.length<=1000;omega,by show on.length<=1000;omega,by show gr.length<=1000;omega,by show od.length<=1000;omega⟩;exact⟨n,o,u,x⟩
def GN(s:jE)(ts:cq)(p:PN):Prop:=
 match p with
 |.mk q args r e c=>r<ts.length/\e<ts.length/\aR ts r=q/\aR ts e=fL q/\c=xT s q/\iB s q/\q.args=args.map PN.q/\∀a∈args,GN s ts a
 termination_by SizeOf.sizeOf p
theorem GN.mono{s:jE}{ts c:cq}(d:ts<+:c)(ok:B7 c):∀p:PN,GN s ts p->GN s c p
 |.mk q args r e A,h=>by
  rw[GN]at h⊢
  obtain⟨f,g,j,n,o,u,x,y⟩:=h;have B:=d.length_le;exact⟨aD,aD,by rw[eV d ok r f];exact j,by rw[eV d ok e g];exact n,o,u,x,λa z=>GN.mono d ok a (y a z)⟩
 termination_by p=>SizeOf.sizeOf p
theorem GN.get{p:PN}(h:GN s ts p):p.rows<ts.length/\p.env<ts.length/\aR ts p.rows=p.q/\aR ts p.env=fL p.q/\p.width=xT s p.q/\iB s p.q/\p.q.args=p.args.map PN.q/\∀a∈p.args,GN s ts a:=by
 cases p;rw[GN]at h;exact h
theorem a4J{s:jE}{ts:cq}:∀p:PN,GN s ts p->Ia p/\j9 p=sG p.q
 |.mk (.mk op ta w co on gr od li c) args r e y,h=>by
  rw[GN]at h;obtain⟨_,_,_,_,j,f,d,n⟩:=h;have d:c=args.map PN.q:=d;obtain⟨z,A,B,C⟩:=ccZ f;obtain⟨_,_,o,_⟩:=f.node;have g:∀a∈args,Ia a/\j9 a=sG a.q:=λa u=>a4J a (n a u);have D:=kN s [] (.mk op ta w co on gr od li c);unfold xT at j;refine⟨?_,?_⟩
  .rw[Ia]
   grind
  .have key:∀l:du,(∀a∈l,j9 a=sG a.q)->rG l=lN (l.map PN.q):=by
    intro l
    induction l with
    |nil=>intro _;simp[rG,lN]
    |cons a l g=>intro h;simp only[rG,map_cons,lN,h a (by simp),g λb x=>h b (by simp[x])]
   simp only[j9,PN.q,sG,d]
   grind
 termination_by p=>SizeOf.sizeOf p
mutual
theorem U3{s:jE}(u:s.tables.length<=1000):∀(q:Query)(ts:cq),iB s q->DL s ts->ts.length+2*sG q<=100000->DL s (eY s q ts).2/\ts<+:(eY s q ts).2/\GN s (eY s q ts).2 (eY s q ts).1/\(eY s q ts).1.q=q
 |.mk op ta w co on gr od li args,ts,g,v,E=>by
  obtain⟨n,F,G,H⟩:=g.node;simp only[sG]at E;have f:=MN (.mk op ta w co on gr od li args) ts g.kinds;obtain⟨I,z,x,j⟩:=Ri u args ts H v aD;have Q:=xX s args ts;rw[GQ]at f⊢
  generalize R:(dX s args ts).1=P at*
  generalize S:(dX s args ts).2=T at*
  have B:P.length=args.length:=bk
  have J:(P.map PN.rows).map (aR T)=args:=by
   rw[map_map, <-j];exact map_congr_left λp d=>(x p d).get.2.2.1
  have A:=Lh u I aD bk (λk y=>by obtain⟨p,d,rfl⟩:=mem_map.1 y;exact(x p d).get.1) J g;have o:∀p∈P,GN s (bT (zK op ta w co on gr od li (P.map PN.rows)) T).1 p:=λp d=>GN.mono A.pre A.inv.ok p (x p d);have L:=dP (zK op ta w co on gr od li (P.map PN.rows)) T;unfold Z9 at f⊢
  dsimp only at f⊢
  split at f
  .rename_i c;rw[if_pos c];have M:=T1 c
   obtain⟨p,e,rfl⟩:∃a e,P=a::e:=by
    cases P with
    |nil=>
     exfalso;have:(1:Int)<=arity op:=by rcases M with rfl|rfl|rfl<;>decide
     grind
    |cons a e=>grind
   have C:=(o p bf).get;refine⟨A.inv,z.trans A.pre,?_,rfl⟩;rw[GN];refine⟨A.lt,C.2.1,A.is,?_,f,g,j.symm,o⟩;show aR _ p.env=_;rw[C.2.2.2.1,fL,if_pos c, <-j,map_cons,FK];rfl
  .rename_i c;rw[if_neg c]
   have O:(P.map PN.env).map (aR (bT (zK op ta w co on gr od li (P.map PN.rows)) T).1)=FK args:=by
    rw[map_map,D1, <-j,map_map];exact map_congr_left λp d=>(o p d).get.2.2.2.1
   have D:=(D0 _ g).1;rw[fL,if_neg c]at D;have A2:=Lh u A.inv aD bk (λk y=>by obtain⟨p,d,rfl⟩:=mem_map.1 y;exact(o p d).get.2.1) O D;refine⟨A2.inv,(z.trans A.pre).trans A2.pre,?_,rfl⟩;rw[GN];refine⟨Nat.lt_of_lt_of_le A.lt A2.pre.length_le,A2.lt,by rw[eV A2.pre A2.inv.ok _ A.lt];exact A.is,by rw[A2.is,fL,if_neg c],f,g,j.symm,λp d=>GN.mono A2.pre A2.inv.ok p (o p d)⟩
theorem Ri{s:jE}(c:s.tables.length<=1000):∀(l:ci)(ts:cq),(∀q∈l,iB s q)->DL s ts->ts.length+2*lN l<=100000->DL s (dX s l ts).2/\ts<+:(dX s l ts).2/\(∀p∈(dX s l ts).1,GN s (dX s l ts).2 p)/\(dX s l ts).1.map PN.q=l
 |[],ts,_,v,_=>by simp only[dX];grind
 |q::l,ts,h,v,g=>by
  simp only[lN]at g;obtain⟨j,n,o,x⟩:=U3 c q ts (h q bf) v aD;have y:=CF s q ts;obtain⟨d,e,z,A⟩:=Ri c l (eY s q ts).2 (λa u=>h a (by simp[u])) j aD;rw[dX];refine⟨d,n.trans e,λp f=>?_,bk⟩;rcases mem_cons.1 f with rfl|f
  .exact GN.mono e d.ok _ o
  grind
end
end Go.Ps
