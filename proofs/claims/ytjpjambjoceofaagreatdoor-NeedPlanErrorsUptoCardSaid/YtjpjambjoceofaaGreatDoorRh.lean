/- Own work. -/
import Derived.Test.YtjpjambjoceofaaGreatDoorRg
set_option linter.unusedVariables false
set_option linter.unusedSimpArgs false
namespace Go.Ps
open Go Go.Vc Go.Proofs List Tryz
variable{K:cr}{m:MH}{h:PH}{s:jB}{ps:cq}{ts:de}{cb:Nat}{sc:bW}{v:QV}{t:Step}{p:Pred}{l:cq}{i:Nat}{N:Nat}{m':MH}{h':PH}{co:cq}{gr:cq}{od:cv}{ta:Int}{li:Int}{xs:List cn}{sz:Nat}{ks:List cq}{rs:cq}{r:Sl}{a:cq}{b:Nat}
def KQ2(K:cr)(m:MH)(h:PH)(cb:Nat)(s:jB)(ps:cq)(d:Nat):Prop:=∀w q m' h',PH.le h h'->cJ h' q w->QW q->Dn d q->(dU s ps q).2=0->bE m m' cb->aR m' h' cb->K (aQ w) m' h'
def Zh(N:Nat):Vc.Spec:=λd m h K=>∃cb sc p s ps c,d=[cP cb,aS sc,cS p,cI c]/\aR m h cb/\iA h s sc/\dH s=0/\s.tables≠[]/\Ints h p ps/\ps.length<=1000/\ps.all eT=true/\ -1<=c/\c<=1000/\(c+1).toNat<N/\KQ2 K m h cb s ps c.toNat
noncomputable def bKQ(N:Nat)(cb:Nat)(sc:bW)(p:Sl):Ctx:=
 tR [(12,Hu),(40,bhQ),(37,wR),(41,bjQ),(42,aaJ),(43,bQZ),(44,E5),(10,Zh N)] [(11,{A:=QV×QV×Sl×Int×MH×PH,st:=λ⟨a,q,k,n,m,h⟩=>bQ 171 175 [(0,pv cb),(2,sv p),(5,.at (.ptr 5 0)),(8,.at (.ptr 8 0)),(10,.at (.ptr 10 0)),(11,sv k),(13,.at (.ptr 13 0)),(14,iv n)] [(5,.cells 43 (sc.enc.map .val)),(8,.cells 38 (pU.enc.map .val)),(10,.cells 38 (a.enc.map .val)),(13,.cells 38 (q.enc.map .val))] m h})] [(7,{A:=Int×Int×QV×QV×Sl×MH×PH,st:=λ⟨d,op,a,q,k,m,h⟩=>bQ 171 175 [(0,pv cb),(2,sv p),(3,iv d),(5,.at (.ptr 5 0)),(8,.at (.ptr 8 0)),(9,iv op),(10,.at (.ptr 10 0)),(11,sv k),(13,.at (.ptr 13 0))] [(5,.cells 43 (sc.enc.map .val)),(8,.cells 38 (pU.enc.map .val)),(10,.cells 38 (a.enc.map .val)),(13,.cells 38 (q.enc.map .val))] m h}),
  (16,{A:=Int×Int×QV×QV×Sl×Bool×MH×PH,st:=λ⟨d,op,a,q,k,t,m,h⟩=>bQ 171 175 [(0,pv cb),(2,sv p),(3,iv d),(5,.at (.ptr 5 0)),(8,.at (.ptr 8 0)),(9,iv op),(10,.at (.ptr 10 0)),(11,sv k),(13,.at (.ptr 13 0)),(59,iv op),(84,bv t)] [(5,.cells 43 (sc.enc.map .val)),(8,.cells 38 (pU.enc.map .val)),(10,.cells 38 (a.enc.map .val)),(13,.cells 38 (q.enc.map .val))] m h}),
  (24,{A:=Int×QV×QV×Sl×Bool×MH×PH,st:=λ⟨op,a,q,k,t,m,h⟩=>bQ 171 175 [(0,pv cb),(2,sv p),(5,.at (.ptr 5 0)),(8,.at (.ptr 8 0)),(10,.at (.ptr 10 0)),(11,sv k),(13,.at (.ptr 13 0)),(59,iv op),(122,bv t)] [(5,.cells 43 (sc.enc.map .val)),(8,.cells 38 (pU.enc.map .val)),(10,.cells 38 (a.enc.map .val)),(13,.cells 38 (q.enc.map .val))] m h}),
  (20,{A:=QV×QV×QV×Sl×Sl×MH×PH,st:=λ⟨a,b,q,k,l,m,h⟩=>bQ 171 175 [(0,pv cb),(2,sv p),(5,.at (.ptr 5 0)),(8,.at (.ptr 8 0)),(10,.at (.ptr 10 0)),(11,sv k),(13,.at (.ptr 13 0)),(15,.at (.ptr 15 0)),(16,sv l)] [(5,.cells 43 (sc.enc.map .val)),(8,.cells 38 (pU.enc.map .val)),(10,.cells 38 (a.enc.map .val)),(13,.cells 38 (q.enc.map .val)),(15,.cells 38 (b.enc.map .val))] m h}),
  (30,{A:=QV×QV×MH×PH,frz:=true,st:=λ⟨a,q,m,h⟩=>bQ 171 175 [(2,sv p),(5,.at (.ptr 5 0)),(8,.at (.ptr 8 0)),(10,.at (.ptr 10 0)),(13,.at (.ptr 13 0))] [(5,.cells 43 (sc.enc.map .val)),(8,.cells 38 (pU.enc.map .val)),(10,.cells 38 (a.enc.map .val)),(13,.cells 38 (q.enc.map .val))] m h})] [] [36,1036,1033] [] false
abbrev GF(a:PH)(b:QV->Query->MH->PH->Prop):Prop:=∀(x:QV)(d:Query),iB (λe c=>cZ a c (cJ c d x) (b x d e c))
abbrev Ec(a:dk)(b:PH)(c:jB->cq->Query->Sl->PH->Prop):Prop:=D2 (λx j=>∃(n:QV),HB (λd e=>∃(f:Query),aA (a=cE (cD x) (jA j (eC n))) (iA b d x) (aA (Ints b j e) (cJ b f n) (jJ (λo g=>cZ b g (Ints g o (dU d e f).1) (c d e f o g))))))
noncomputable abbrev sT(a:Int×Int×QV×QV×Sl×MH×PH):Sl×MH×PH:=a.2.2.2.2
abbrev gU(a b:QV):Prop:=mZ 38 a.enc=mZ 38 b.enc
abbrev nN(a:dj)(b:QV):Prop:=oQ 38 a=mZ 38 b.enc
noncomputable abbrev GU(a:Int)(b:dj):dj:=cQ fD fD (cQ (fV a) fD (cQ aQz fD (cQ (fV a) fD (cQ fD aQz (cQ Fq Fq (cQ Fq Fq (cQ Fq fD b)))))))
abbrev CC(a:Prop)(b:Nat)(c d e:Sl)(g:Prop):Prop:=aA a (cR b) (aA (aI c) dN (aA eX sC (aA (bS d e) p9 g)))
noncomputable abbrev xZ(a:QV×QV×Sl×Int×MH×PH):Int×MH×PH:=a.2.2.2
noncomputable abbrev sV(a:QV×QV×Sl×Int×MH×PH):QV:=a.2.1
noncomputable abbrev EH(a:QV×QV×Sl×Int×MH×PH):Nat->Nat->Option Value:=(xZ a).2.2
noncomputable abbrev kP(a:QV×MH×PH):Nat->Option Obj:=a.2.1
noncomputable abbrev dX(a:QV×MH×PH):Nat->Nat->Option Value:=a.2.2
noncomputable abbrev qZ(a:Int×QV×QV×Sl×Bool×MH×PH):Sl:=a.2.2.2.1
noncomputable abbrev CD(a:Int×QV×QV×Sl×Bool×MH×PH):Bool:=a.2.2.2.2.1
noncomputable abbrev tG(a:Int×QV×QV×Sl×Bool×MH×PH):QV:=a.2.1
noncomputable abbrev qB(a:Int×QV×QV×Sl×Bool×MH×PH):QV:=a.2.2.1
noncomputable abbrev tN(a:Int×QV×QV×Sl×Bool×MH×PH):MH×PH:=a.2.2.2.2.2
noncomputable abbrev j8(a:Int×QV×QV×Sl×Bool×MH×PH):Nat->Nat->Option Value:=(tN a).2
noncomputable abbrev mF(a:QV×QV×QV×Sl×Sl×MH×PH):Sl×MH×PH:=a.2.2.2.2
noncomputable abbrev nT(a:QV×QV×QV×Sl×Sl×MH×PH):QV:=a.2.2.1
noncomputable abbrev uP(a:QV):Sl:=gJ a.args
abbrev G0(a:MH->Prop)(b:MH->MH)(c:PH)(d:MH->(QV×QV×MH×PH)->Prop):Prop:=∀(x:MH),a x->yK (b x) c->∃(e:QV×QV×MH×PH),d x e
abbrev Nc(a:Int×Int×QV×QV×Sl×Bool×MH×PH)(b:Int×QV×QV×Sl×Bool×MH×PH)(c:Prop)(d:bW):Prop:=aA (dR a.2.1 b.1) c (aA (cM d) eH (aA (gU (tG a.2) (tG b)) (gU (qB a.2) (qB b)) (aA (bH (tN a.2).1 (tN b)) (j8 a.2=j8 b) True)))
attribute [push_cast] GF Ec sT gU nN GU CC xZ sV EH kP dX qZ CD tG qB tN j8 mF nT uP G0 Nc
def VN(N:Nat)(cb:Nat)(sc:bW)(p:Sl)(S:Int)(m:MH)(h:PH)(K:cr):Prop:=
  iR cb 12 m h (λk Z=>aX S 1 (iR cb (ite (lW sc>1) (lW sc) 1) Z h (λF V=>∃(t:Int),kU F t/\K (fM (Bh t)) V h)) (cX (fI (1+k)==1) (iR cb (ite (lW sc>1) (lW sc) 1) Z h (λF V=>∃(t:Int),kU F t/\K (fM (Bh t)) V h)) (lW sc==0) (iR cb (ite (lW sc>1) (lW sc) 1) Z h (λF V=>∃(t:Int),kU F t/\K (fM (Bh t)) V h)) (∃(c:Nat),D2 (λs p1=>HB (λs1 p2=>∃(d:Int),aA (dA cb (cE (cD sc) (hX p (fI (S-1))))=dA c (cE (cD s) (hX p1 d))) (aR Z h c) (aA (iA h s1 s) (dH s1=0) (aA (wB (s1.tables=[])) (Ints h p1 p2) (aA (fO p2) (gI (Dc p2)) (aA (Int.negSucc 0<=d) (d<=1000) ((d+1).toNat<N/\GF h (λw q V h1=>QW q->Dn d.toNat q->(dU s1 p2
 q).2=0->bE Z V c->mK V h1 c (Ec (cE (cD sc) (jA p (eC w))) h1 (λ_ _ _ s2 h2=>∃(I:Int×Int×QV×QV×Sl×MH×PH->Prop),lE (λB u=>qI V u h2 B 38 21 (kJ w.enc)->∃(x:Int×Int×QV×QV×Sl×MH×PH),aA (I x) (cR cb) (aA (aI p) (dR S x.1) (aA dN eX (aA (dR (fI (1+k)) x.2.1) sC (aA (j7 s2 (sT x)) p9 (aA (cM sc) eH (aA (gU w x.2.2.1) (nN (cQ (fV (fI (1+k))) fD (cQ (fV 0) fD (GU 0 (nL (vD B))))) x.2.2.2.1) (aA (bH u (sT x).2) (h2=gX (sT x)) True))))))))/\∀(x:Int×Int×QV×QV×Sl×MH×PH),I x->∃(I1:QV×QV×MH×PH->Prop),dW x.2.1 3 (iR cb 3 (fB (sT x)) (gX (sT x)) (λF u=>∃(I2:QV×QV×Sl×Int×MH×PH->Prop)(z:QV×QV×Sl×
 Int×MH×PH->Nat),(∃(f:QV×QV×Sl×Int×MH×PH),CC (I2 f) cb p (sT x).1 f.2.2.1 (aA (dR F (xZ f).1) (cM sc) (aA eH (gU x.2.2.1 f.1) (bO (gU x.2.2.2.1 (sV f)) (bH u (xZ f).2) (gX (sT x)=EH f)))))/\∀(f:QV×QV×Sl×Int×MH×PH),I2 f->gA (xZ f).1 0 (iR cb (aH f.2.2.1) (xZ f).2.1 (EH f) (λO C=>∃(e:List cn),oZ (dE C (EL (sV f)) 3 1 e) e 8 (lE (λB G=>eF C G (EL (sV f)) B 3 1 (fK e (bG O))->∃(j:QV×QV×Sl×Int×MH×PH),aA (I2 j) (z j<z f) (aA (cR cb) (aI p) (aA dN eX (aA sC (bS f.2.2.1 j.2.2.1) (aA p9 (dR (fI ((xZ f).1-1)) (xZ j).1) (aA (cM sc) eH (aA (gU f.1 j.1) (nN (cQ (fV
 (sV f).op) (pD (sV f)) (sG (sV f) (vD B) (sV f).on (wC (sV f)) (wD (sV f)) (lL (fV (sV f).limit) (AW (sV f))))) (sV j)) (aA (bH G (xZ j).2) (EH f=EH j) True))))))))))) (yK (xZ f).2.1 (EH f)->∃(e:QV×QV×MH×PH),aA (I1 e) (aI p) (aA dN eX (aA sC p9 (aA (cM sc) eH (bO (gU f.1 e.1) (gU (sV f) e.2.1) (sZ (xZ f).2.1 (EH f) (kP e.2) (dX e.2))))))))) (∃(I2:Int×Int×QV×QV×Sl×Bool×MH×PH->Prop),dW x.2.1 4 (∃(f:Int×Int×QV×QV×Sl×Bool×MH×PH),aA (I2 f) (cR cb) (aA (aI p) (dR x.1 f.1) (aA dN eX (aA (dR x.2.1 f.2.1) sC (aA (bS (sT x).1 (qZ f.2)) p9 (aA (dR x.2.1 f.2.1) (yY (CD
 f.2)) (aA (cM sc) eH (aA (gU x.2.2.1 (tG f.2)) (gU x.2.2.2.1 (qB f.2)) (bP (bH (fB (sT x)) (tN f.2)) (gX (sT x)) (j8 f.2)))))))))) (∃(f:Int×Int×QV×QV×Sl×Bool×MH×PH),aA (I2 f) (cR cb) (aA (aI p) (dR x.1 f.1) (aA dN eX (aA (dR x.2.1 f.2.1) sC (aA (bS (sT x).1 (qZ f.2)) p9 (aA (dR x.2.1 f.2.1) (kV (x.2.1==5) (CD f.2)) (aA (cM sc) eH (aA (gU x.2.2.1 (tG f.2)) (gU x.2.2.2.1 (qB f.2)) (bP (bH (fB (sT x)) (tN f.2)) (gX (sT x)) (j8 f.2))))))))))/\∀(f:Int×Int×QV×QV×Sl×Bool×MH×PH),gQ (I2 f) (CD f.2) (∃(A:Nat),D2 (λB H=>HB (λJ L=>∃(P:Int),aA (dA cb (cE (cD sc) (hX p (fI (f.1-2))))=dA
 A (cE (cD B) (hX H P))) (aR (tN f.2).1 (j8 f.2) A) (aA (iA (j8 f.2) J B) (dH J=0) (aA (wB (J.tables=[])) (Ints (j8 f.2) H L) (aA (fO L) (gI (Dc L)) (aA (Int.negSucc 0<=P) (P<=1000) ((P+1).toNat<N/\GF (j8 f.2) (λX Q u n=>QW Q->Dn P.toNat Q->(dU J L Q).2=0->bE (tN f.2).1 u A->mK u n A (Ec (cE (cD sc) (jA p (eC X))) n (λ_ _ _ R W=>∃(I3:QV×QV×QV×Sl×Sl×MH×PH->Prop),dW f.2.1 4 (eZ (fI (aH (qZ f.2)+aH R)) 8 (∃(e:QV×QV×QV×Sl×Sl×MH×PH),CC (I3 e) cb p (qZ f.2) e.2.2.2.1 (aA (eP 15) (j7 R (mF e)) (aA (cM sc) eH (aA (gU (tG f.2) e.1) (nN (cQ (fV 5) (pD (qB f.2)) (sG (qB f.2) (tM (qB
 f.2)) (qB f.2).on (wC (qB f.2)) (wD (qB f.2)) (lL (fV (qB f.2).limit) (AW (qB f.2))))) (nT e)) (aA (gU X e.2.1) (bH u (mF e).2) (bL W (gX (mF e)))))))) (∃(e:QV×QV×QV×Sl×Sl×MH×PH),CC (I3 e) cb p (qZ f.2) e.2.2.2.1 (aA (eP 15) (j7 R (mF e)) (aA (cM sc) eH (aA (gU (tG f.2) e.1) (gU (qB f.2) (nT e)) (aA (gU X e.2.1) (bH u (mF e).2) (bL W (gX (mF e))))))))) (∃(e:QV×QV×QV×Sl×Sl×MH×PH),CC (I3 e) cb p (qZ f.2) e.2.2.2.1 (aA (eP 15) (j7 R (mF e)) (aA (cM sc) eH (aA (gU (tG f.2) e.1) (gU (qB f.2) (nT e)) (aA (gU X e.2.1) (bH u (mF e).2) (bL W (gX (mF e))))))))/\∀(e:QV×QV×QV×Sl×Sl×MH×PH),I3
 e->(∃(E:Nat)(T:Sl),y9 (λt a b=>aA (dA cb (cV e.2.2.2.1 (mF e).1)=dA E (cV T t)) (aR (fB (mF e)) (gX (mF e)) E) (aA (Ints (gX (mF e)) T a) (Ints (gX (mF e)) t b) (aA (fO a) (fO b) (∀(o:Sl)(U:cu),iB (λz M=>cZ (gX (mF e)) M (iD M o U) (U.length<=10->bE (fB (mF e)) z E->mK z M E (lE (λY C=>yZ (qI z C M Y 38 21 (kJ e.2.1.enc)) (λj=>AZ (dE C (uP (nT e)) 38 21 j) (λy=>jI 21 y (oP C M (gJ Y) 21 y) (nU j y 280) (nP j y) (∀(s8:Sl),G0 (λG=>eF C G (uP (nT e)) s8 38 21 (j++y)) (λG=>G) M (λG D=>aA (I1 D) (aI p) (aA dN eX (aA sC p9 (aA (cM sc) eH (bO (gU
 e.1 D.1) (nN (cQ (fV (nT e).op) (pD (nT e)) (sG (nT e) (tM (nT e)) o (wC (nT e)) (wD (nT e)) (lL (fV (nT e).limit) (vD s8)))) D.2.1) (sZ G M (kP D.2) (dX D.2)))))))))))))))))))/\lE (λT z=>qI (fB (mF e)) z (gX (mF e)) T 38 21 (kJ e.2.1.enc)->∃(E:Nat)(Y:Sl),y9 (λt a b=>aA (dA cb (cV e.2.2.2.1 (mF e).1)=dA E (cV Y t)) (aR z (gX (mF e)) E) (aA (Ints (gX (mF e)) Y a) (Ints (gX (mF e)) t b) (aA (fO a) (fO b) (∀(o:Sl)(U:cu),iB (λC M=>cZ (gX (mF e)) M (iD M o U) (U.length<=10->bE z C E->yZ (aR C M E) (λj=>AZ (dE C (uP (nT e)) 38 21 j) (λy=>jI 21 y (oP C M (gJ T) 21
 y) (nU j y 280) (nP j y) (∀(s8:Sl),G0 (λG=>eF C G (uP (nT e)) s8 38 21 (j++y)) (λG=>G) M (λG D=>aA (I1 D) (aI p) (aA dN eX (aA sC p9 (aA (cM sc) eH (bO (gU e.1 D.1) (nN (cQ (fV (nT e).op) (pD (nT e)) (sG (nT e) (tM (nT e)) o (wC (nT e)) (wD (nT e)) (lL (fV (nT e).limit) (vD s8)))) D.2.1) (sZ G M (kP D.2) (dX D.2)))))))))))))))))))))))))))) (∃(I3:Int×QV×QV×Sl×Bool×MH×PH->Prop),cX (f.2.1==6) (∃(e:Int×QV×QV×Sl×Bool×MH×PH),CC (I3 e) cb p (qZ f.2) (qZ e) (Nc f e (yY (CD e)) sc)) (f.2.1==7) (∃(e:Int×QV×QV×Sl×Bool×MH×PH),CC (I3 e) cb p (qZ f.2) (qZ e) (Nc f e (yY (CD e)) sc)) (∃(e:
 Int×QV×QV×Sl×Bool×MH×PH),CC (I3 e) cb p (qZ f.2) (qZ e) (Nc f e (kV (f.2.1==8) (CD e)) sc))/\∀(e:Int×QV×QV×Sl×Bool×MH×PH),I3 e->cX (CD e) (∃(A:Nat)(B:bW),nA (λH F=>∃(v:QV),HB (λJ L=>∃(O:cq)(Q:Query),aA (dA cb (cE (cD sc) (dJ p (jA (qZ e) (eC (tG e)))))=dA A (cE (cD B) (dJ H (jA F (eC v))))) (aR (tN e).1 (j8 e) A) (aA (iA (j8 e) J B) (mC J) (aA (lY J.tables.length) (Ints (j8 e) H L) (aA (fO L) (Ints (j8 e) F O) (aA (fO O) (cJ (j8 e) Q v) (QW Q/\GF (j8 e) (λX q2 u n=>bgZ J L O Q q2->bE (tN e).1 u A->mK u n A (lE (λR z=>yZ (qI u z n R 38 21 (kJ X.enc))
 (λj=>AZ (dE z (uP (qB e)) 38 21 j) (λy=>jI 21 y (oP z n (gJ R) 21 y) (nU j y 280) (nP j y) (∀(T:Sl),G0 (λC=>eF z C (uP (qB e)) T 38 21 (j++y)) (λC=>C) n (λC D=>aA (I1 D) (aI p) (aA dN eX (aA sC p9 (aA (cM sc) eH (bO (gU (tG e) D.1) (nN (qQ (qB e) (vD T)) D.2.1) (sZ C n (kP D.2) (dX D.2))))))))))))))))))))) (e.1==9) (∃(A:Nat)(v:QV),B0 (λB F=>aA (dA cb (fZ (eC (qB e)) (qZ e))=dA A (fZ (fM (vO v v (aL (mN (jR v)) (j4 (fC v)) (aL (qC (fC v)) (jY (fC v)) (aL (qP (fC v)) (mN (fC v)) (aL (B3 v) (B6 v) (aL (hJ v.on) lI (aL lI (BX v) (aY v.args))))))))) B)) (aR (tN e).1 (j8 e)
 A) (aA (Ints (j8 e) B F) (fO F) (∀(g o:Sl)(O:Int)(g1:cq)(U:cv),iB (λu n=>cZ (j8 e) n (Ints n g g1) (jO n o U->g1.length<=F.length->U.length<=F.length->bV O->O<=3->bE (tN e).1 u A->aR u n A->yK u n->∃(j:QV×QV×MH×PH),aA (I1 j) (aI p) (aA dN eX (aA sC p9 (aA (cM sc) eH (bO (gU (tG e) j.1) (nN (cQ (fV v.op) (pD v) (sG v (tM v) v.on (vD g) (vD o) (lL (fV O) (AW v)))) j.2.1) (sZ u n (kP j.2) (dX j.2)))))))))))) (dW e.1 10 (∃(A:Nat)(v:QV),B0 (λB F=>aA (dA cb (fZ (eC (qB e)) (qZ e))=dA A (fZ (fM (vO v v (aL (mN (jR v)) (j4 (fC v)) (aL (qC (fC v)) (jY (fC v)) (aL (qP
 (fC v)) (mN (fC v)) (aL (B3 v) (B6 v) (aL (hJ v.on) lI (aL lI (BX v) (aY v.args))))))))) B)) (aR (tN e).1 (j8 e) A) (aA (Ints (j8 e) B F) (fO F) (∀(g o:Sl)(O:Int)(g1:cq)(U:cv),iB (λu n=>cZ (j8 e) n (Ints n g g1) (jO n o U->g1.length<=F.length->U.length<=F.length->bV O->O<=3->bE (tN e).1 u A->mK u n A (∃(E:Nat)(J:bW),nA (λH k3=>∃(v1:QV),HB (λR L=>∃(k4:cq)(Q:Query),aA (dA cb (cE (cD sc) (dJ p (jA (qZ e) (eC (tG e)))))=dA E (cE (cD J) (dJ H (jA k3 (eC v1))))) (aR u n E) (aA (iA n R J) (mC R) (aA (lY R.tables.length) (Ints n H L) (aA (fO L) (Ints n k3 k4) (aA (fO k4) (cJ
 n Q v1) (QW Q/\GF n (λX q2 z W=>bgZ R L k4 Q q2->bE u z E->mK z W E (lE (λT C=>yZ (qI z C W T 38 21 (kJ X.enc)) (λj=>AZ (dE C (uP v) 38 21 j) (λy=>jI 21 y (oP C W (gJ T) 21 y) (nU j y 280) (nP j y) (∀(Y:Sl),G0 (λG=>eF C G (uP v) Y 38 21 (j++y)) (λG=>G) W (λG D=>aA (I1 D) (aI p) (aA dN eX (aA sC p9 (aA (cM sc) eH (bO (gU (tG e) D.1) (nN (cQ (fV v.op) (pD v) (sG v (tM v) v.on (vD g) (vD o) (lL (fV O) (vD Y)))) D.2.1) (sZ G W (kP D.2) (dX D.2))))))))))))))))))))))))))) (BB (λA B t E H P=>aA (dA cb (dJ (qZ e) (hX p 2))=dA A (dJ B (hX t (↑P:Int)))) (aR (tN e).1 (j8 e) A)
 (aA (Ints (j8 e) B E) (Ints (j8 e) t H) (aA (fO E) (fO H) (lY P/\BA (j8 e) (λv L u n=>A7 E H P L->bE (tN e).1 u A->mK u n A (∀(J:Sl),G0 (λz=>qI u z n J 38 21 (kJ (tG e).enc)) (λz=>z) n (λz j=>aA (I1 j) (aI p) (aA dN eX (aA sC p9 (aA (cM sc) eH (bO (gU (tG e) j.1) (nN (cQ (fV 2) fD (pQ v (cQ Fq Fq (cQ Fq Fq (lL fD (vD J)))))) j.2.1) (sZ z n (kP j.2) (dX j.2)))))))))))))/\lE (λB u=>qI (tN e).1 u (j8 e) B 38 21 (kJ (tG e).enc)->BB (λA J t E H P=>aA (dA cb (dJ (qZ e) (hX p 2))=dA A (dJ J (hX t (↑P:Int)))) (aR u (j8 e) A) (aA (Ints (j8 e) J E) (Ints (j8 e) t H)
 (aA (fO E) (fO H) (lY P/\BA (j8 e) (λv L z n=>A7 E H P L->bE u z A->aR z n A->yK z n->∃(j:QV×QV×MH×PH),aA (I1 j) (aI p) (aA dN eX (aA sC p9 (aA (cM sc) eH (bO (gU (tG e) j.1) (nN (cQ (fV 2) fD (pQ v (cQ Fq Fq (cQ Fq Fq (lL fD (vD B)))))) j.2.1) (sZ z n (kP j.2) (dX j.2))))))))))))))))/\∀(f:QV×QV×MH×PH),I1 f->Ec (cE (cD sc) (jA p (eC f.2.1))) (dX f.2) (λB H Q _ n=>dC (dU B H Q).2 0 (K (eC f.1) (kP f.2) n) (K (eC f.2.1) (kP f.2) n)))))))))))))))
structure jE(m0 m:MH)(s:Sl)(E:TypeId)(sz:Nat)(xs:List cn):Prop where
 row:dE m s E sz xs
 fresh:∀b i,s.a=some ⟨b,i,none⟩->m0 b=none
def Kept(m0 m:MH)(cb:Nat):Prop:=∀b o,m0 b=some o->b≠cb->m b=some o
theorem Kept.of{m0:MH}(h:bE m0 m cb):Kept m0 m cb:=λb o e n=>by rw[h.other b n];exact e
theorem Kept.on{m0:MH}(k:Kept m0 m cb)(h:bE m m' cb):Kept m0 m' cb:=λb o e n=>by rw[h.other b n];exact k b o e n
theorem aR.blk(c:aR m h cb):∃cs,m cb=some (.cells cs 83 (0,0)):=by
 obtain⟨r,q,cs,k,d,_⟩:=c
 grind
theorem aR.keep(c:aR m h cb)(e:m' cb=m cb)(le:PH.le h h'):aR m' h' cb:=by
 obtain⟨r,q,d,k,j,f,g⟩:=c;exact⟨r,q,d,k,bg,f.mono le,g⟩
theorem Kept.free{m0:MH}(k:Kept m0 m cb)(c:aR m h cb)(d:m b=none):m0 b=none:=by
 cases e:m0 b with
 |none=>rfl
 |some o=>
  by_cases f:b=cb
  .obtain⟨g,j⟩:=c.blk
   grind
  .rw[k b o e f]at d;cases d
theorem dE.nil(m:MH)(E:TypeId)(sz:Nat):dE m bR E sz []:=⟨⟨λ_ h=>by simp at h,λ_ h=>by simp at h⟩,.inl ⟨rfl,rfl⟩⟩
theorem jE.nil(m0 m:MH)(E:TypeId)(sz:Nat):jE m0 m bR E sz []:=⟨dE.nil m E sz,λb i e=>by cases e⟩
theorem jE.on{m0:MH}{s:Sl}{E:TypeId}(r:jE m0 m s E sz xs)(o:bE m m' cb)(c:aR m h cb)(f:E≠83):jE m0 m' s E sz xs:=by
 refine⟨dE.keep r.row (λb i e=>o.other b (λg=>?_)),r.fresh⟩;obtain⟨d,j⟩:=dE.blk r.row e;obtain⟨n,u⟩:=c.blk
 grind
theorem jE.new{m0:MH}{s t:Sl}{E E':TypeId}{c:Nat}{f:List cn}(r:jE m0 m s E sz xs)(x:qI m m' h t E' c f):jE m0 m' s E sz xs:=by
 refine⟨dE.keep r.row (λb i e=>x.other b (λj g=>?_)),r.fresh⟩;obtain⟨n,d⟩:=dE.blk r.row e;rw[(x.fresh b j g).m_]at d;cases d
theorem qI.frow{m0:MH}{s:Sl}{E:TypeId}(x:qI m m' h s E sz xs)(k:Kept m0 m cb)(c:aR m h cb):jE m0 m' s E sz xs:=⟨x.row,λb i e=>k.free c (x.fresh b i e).m_⟩
theorem qI.at_cb{s:Sl}{E:TypeId}(x:qI m m' h s E sz xs)(c:aR m h cb):m' cb=m cb:=x.other cb (λi e=>by
 obtain⟨f,d⟩:=c.blk;rw[(x.fresh cb i e).m_]at d;cases d)
theorem Kept.new{m0:MH}{s:Sl}{E:TypeId}(k:Kept m0 m cb)(x:qI m m' h s E sz xs):Kept m0 m' cb:=λb o e n=>by
 rw[x.other b (λi c=>by have:=(x.fresh b i c).m_;rw[k b o e n]at this;cases this)];exact k b o e n
theorem jE.grown{m0:MH}{s f:Sl}{E:TypeId}{g:List cn}(r:jE m0 m s E sz xs)(x:eF m m' s f E sz g)(k:Kept m0 m cb)(c:aR m h cb):jE m0 m' f E sz g:=
 ⟨x.row,λb i e=>by
  rcases x.fresh b i e with d|⟨j,d⟩
  .exact k.free c d
  .exact r.fresh b j d⟩
theorem jE.apart{m0:MH}{s t g:Sl}{E E':TypeId}{c:Nat}{n o:List cn}(r:jE m0 m s E sz xs)(q:jE m0 m t E' c n)(x:eF m m' t g E' c o)(z:E≠E'):jE m0 m' s E sz xs:=by
 refine⟨dE.keep r.row (λb i e=>?_),r.fresh⟩;obtain⟨u,d⟩:=dE.blk r.row e;rw[d];refine x.other b _ d (λj y=>?_);obtain⟨f,A⟩:=dE.blk q.row y
 grind
theorem Kept.grown{m0:MH}{s c:Sl}{E:TypeId}{d:List cn}(k:Kept m0 m cb)(r:jE m0 m s E sz xs)(x:eF m m' s c E sz d):Kept m0 m' cb:=λb o e n=>x.other b o (k b o e n) (λi f=>by rw[r.fresh b i f]at e;cases e)
theorem eF.at_cb{m0:MH}{s d:Sl}{E:TypeId}{f:List cn}(x:eF m m' s d E sz f)(r:jE m0 m s E sz xs)(c:aR m h cb)(n:E≠83):m' cb=m cb:=by
 obtain⟨o,e⟩:=c.blk;rw[e];refine x.other cb _ e (λi g=>?_);obtain⟨j,u⟩:=dE.blk r.row g
 grind
theorem aIQ{sz:Nat}:∀{xs:List cn},(∀e∈xs,e.length=sz)->xs.flatten.length=xs.length*sz
 |[],_=>ay
 |x::xs,h=>by
  simp only[flatten_cons,bt,ci];rw[aIQ (λe c=>h e (by simp[c])),h x ay,Nat.add_mul];omega
theorem dE.src{s:Sl}{E:TypeId}{x:cn}(r:dE m s E sz (x::xs)):oP m h s sz (x::xs):=by
 rcases r.ex with⟨_,e⟩|⟨b,d,c,rfl,f,_,_,_,g⟩
 .cases e
 .exact .lent b 0 c E (0,0) rfl rfl f bg
def lN(m0 m:MH):MH:=λb=>match m0 b with|some _=>m b|none=>none
def oN(m0 m:MH)(h:PH):PH:=λb i=>match m0 b,m b with|none,some (.cells c _ _)=>c[i]? |_,_=>h b i
theorem zE{m0 m:MH}{h:PH}(d:yK m h):PH.le h (oN m0 m h):=⟨λb i v e=>by
 unfold oN;split
 .rename_i f E g j c;rw[d.disj b _ c i]at e;cases e
 .exact e⟩
theorem anZ{m0:MH}(d:yK m h):sZ m h (lN m0 m) (oN m0 m h):=by
 refine⟨λb o e=>?_,zE d,λb i v e=>?_⟩
 .unfold lN at e
  grind
 .unfold oN at e;split at e
  .rename_i c E f g j;exact .inr ⟨c,E,f,j,e,by unfold lN;rw[g]⟩
  grind
theorem FT{p:Prop}(h:p:=by repeat' (first|with_reducible rfl|exact trivial|exact anZ (by assumption)|refine⟨?_,?_⟩|rfl)):p:=h
theorem jE.ice{m0 m:MH}{h:PH}{s:Sl}{E:TypeId}{sz:Nat}{xs:List cn}(r:jE m0 m s E sz xs):cC (oN m0 m h) s sz xs:=by
 rcases r.row.ex with⟨rfl,rfl⟩|⟨b,f,g,rfl,x,c,_,_,n⟩
 .exact cC.nil _ _
 .have y:=r.fresh b 0 rfl;refine⟨rfl,.inr ⟨b,0,rfl,λi e o=>⟨λj v u=>?_⟩⟩,c⟩;have d:=mO r.row.rows.len o j v u;rw[<-n,getElem?_take]at d;split at d
  .unfold oN
   grind
  .cases d
theorem keep_other{m0:MH}(k:Kept m0 m cb):bE m0 (lN m0 m) cb:=⟨λb c=>by
 unfold lN;cases e:m0 b with
 |none=>rfl
 |some o=>exact k b o e c⟩
theorem Qx{m0:MH}(c:aR m h cb)(e:m0 cb≠none)(d:yK m h):aR (lN m0 m) (oN m0 m h) cb:=c.keep (by
 unfold lN
 grind) (zE d)
def QA(d:Nat)(q:Query):Prop:=QW q/\TQ d q
structure QM(d:Nat)(m0 m:MH)(h:PH)(v:QV)(vs:dn):Prop where
 wher:∃w,dO h w v.where_/\C3 w
 cols:∃co:cq,jE m0 m v.columns 3 1 (co.map eI)/\co.length<=1000
 on_:∃l,iD h v.on l
 group_:∃l,Ints h v.group l
 order_:∃l,jO h v.order l
 args_:jE m0 m v.args 38 21 (vs.map QV.enc)
 len_:vs.length<=2
 reps:∀v∈vs,∃q,cJ h q v/\QA d q
theorem Ul{d:Nat}{h:PH}:∀{vs:dn},(∀v∈vs,∃q,cJ h q v/\QA d q)->∃c:cz,c.length=vs.length/\(∀q∈c,QA d q)/\∀(i:Nat) q,c[i]? =some q->∃v,vs[i]? =some v/\cJ h q v
 |[],_=>⟨[],rfl,λq f=>by simp at f,λi q e=>by simp at e⟩
 |v::vs,g=>by
  obtain⟨q,f,j⟩:=g v ay;obtain⟨c,n,y,z⟩:=Ul (vs:=vs) (λu o=>g u (by simp[o]));refine⟨q::c,by simp[n],λx A=>bg,λi x e=>?_⟩
  grind
theorem QM.ice{n:Nat}{m0:MH}{vs:dn}(x:QM n m0 m h v vs)(d:yK m h):∃q,cJ (oN m0 m h) q v/\QW q/\Dn (n+1) q:=by
 obtain⟨w,o,c⟩:=x.wher;obtain⟨co,u,y⟩:=x.cols;obtain⟨on,z⟩:=x.on_;obtain⟨gr,A⟩:=x.group_;obtain⟨od,f⟩:=x.order_;obtain⟨D,B,j,C⟩:=Ul x.reps;have le:=zE (m0:=m0) d;have E:=x.len_;exact⟨_,pJ.rep ⟨rfl,rfl,o.mono le,⟨u.ice,aD⟩,z.mono le,A.mono le,f.mono le,rfl,⟨⟨vs,x.args_.ice,B,λi q e=>let⟨v,k1,k2⟩:=C i q e;⟨v,k1,k2.mono le⟩⟩,aD⟩⟩,KJ.2 ⟨c,λa g=>(j a g).1⟩,Dn.node (λa g=>(j a g).2) aD⟩
theorem QM.on{n:Nat}{m0:MH}{vs:dn}(x:QM n m0 m h v vs)(o:bE m m' cb)(c:aR m h cb)(le:PH.le h h'):QM n m0 m' h' v vs:=by
 obtain⟨w,j,d⟩:=x.wher;obtain⟨co,u,f⟩:=x.cols;obtain⟨on,y⟩:=x.on_;obtain⟨gr,z⟩:=x.group_;obtain⟨od,g⟩:=x.order_;exact⟨⟨w,j.mono le,d⟩,⟨co,u.on o c az,f⟩,⟨on,y.mono le⟩,⟨gr,z.mono le⟩,⟨od,g.mono le⟩,x.args_.on o c az,x.len_,λv A=>let⟨q,e,ew⟩:=x.reps v A;⟨q,e.mono le,ew⟩⟩
theorem QM.new{d:Nat}{m0:MH}{vs:dn}{t:Sl}{E:TypeId}{j:List cn}(x:QM d m0 m h v vs)(n:qI m m' h' t E sz j)(le:PH.le h h'):QM d m0 m' h' v vs:=by
 obtain⟨w,o,c⟩:=x.wher;obtain⟨co,u,f⟩:=x.cols;obtain⟨on,y⟩:=x.on_;obtain⟨gr,z⟩:=x.group_;obtain⟨od,g⟩:=x.order_;exact⟨⟨w,o.mono le,c⟩,⟨co,u.new n,f⟩,⟨on,y.mono le⟩,⟨gr,z.mono le⟩,⟨od,g.mono le⟩,x.args_.new n,x.len_,λv A=>let⟨q,e,ew⟩:=x.reps v A;⟨q,e.mono le,ew⟩⟩
theorem QM.grow{d:Nat}{m0:MH}{e:QV}{vs:dn}{j:Sl}{u:QV}(x:QM d m0 m h v vs)(g:eF m m' v.args j 38 21 (vs.map QV.enc++[u.enc]))(k:Kept m0 m cb)(c:aR m h cb)(F:∃q,cJ h q u/\QA d q)(G:vs.length<=1)
 (o:e.where_=v.where_)(y:e.columns=v.columns)(z:∃l,iD h e.on l)(A:∃l,Ints h e.group l)(B:∃l,jO h e.order l)(C:e.args=j):QM d m0 m' h e (vs++[u]):=by
 obtain⟨co,D,f⟩:=x.cols;refine⟨by rw[o];exact x.wher,⟨co,by rw[y];exact D.apart x.args_ g az,f⟩,z,A,B,by rw[C,bw];exact x.args_.grown g k c,bf,λv E=>?_⟩;rcases mem_append.1 E with n|n
 .exact x.reps v n
 grind
theorem Zz(h:dH s=0):Dl s:=Classical.byContradiction λc=>by rw[v8 c]at h;cases h
theorem HM(h:dH s=0):mC s:=λt c=>by
 obtain⟨i,d⟩:=mem_iff_getElem?.1 c;have:=(Zz h).2 i t d;exact this.1
theorem WC(h:dH s=0):s.tables.length<=8:=(Zz h).1
theorem NT(s:jB)(ps:cq)(q:Query):(dU s ps q).1.length<=12:=by
 unfold dU;split
 .split
  .split
   .exact kH s ps q
   .simp[dP]
  .simp[dP]
 .simp[dP]
theorem ZA{t:Int}(c:dH s=0)(d:ps.all eT=true)(e:0<=t)(f:t<s.tables.length):(dU s ps (.mk 1 t eJ [] [] [] [] 0 [])).2=0:=by
 have g:=HM c
 have u:(jL s t).length<=12:=by
  unfold jL;split
  .simp
  .split
   .simp
   .rename_i x j;have:=g x (br j);simp;omega
 have n:aJ s ps (.mk 1 t eJ [] [] [] [] 0 [])=dV s ps (.mk 1 t eJ [] [] [] [] 0 []) [] []:=by simp[aJ,eO,arity]
 have o:yU (.mk 1 t eJ [] [] [] [] 0 [])=true:=by rfl
 unfold dU;rw[if_pos c,if_pos d,if_pos o,n];unfold dV;rw[if_neg (by simp[arity,cH])];simp only[if_true];rw[if_pos ⟨e,f⟩];unfold lF
 grind
structure Mid(m0:MH)(h3:PH)(cb:Nat)(a q:QV)(mx:MH):Prop where
 case_:aR mx h3 cb
 kept:Kept m0 mx cb
 ex:∃o args,q=⟨o,0,fS,bR,bR,bR,bR,0,args⟩/\jE m0 mx args 38 21 ([a].map QV.enc)
theorem Mid.qm{d:Nat}{m0 e:MH}{c:PH}{a q:QV}(x:Mid m0 c cb a q e)(j:∃f,cJ c f a/\QA d f):QM d m0 e c q [a]:=by
 obtain⟨o,args,rfl,g⟩:=x.ex;exact⟨⟨_,Dq c,oS⟩,⟨[],jE.nil _ _ _ _,ay⟩,⟨_,tY _⟩,⟨_,rM _⟩,⟨_,tX _⟩,g,ay,λv n=>bg⟩
theorem Z2:∀N,cm 10 (Zh N)
 |0=>by
  refine eD (fn:=Tryz.f10) (c:=cA Tryz.f10) func10 rfl az ?_;rintro c0 m h K ⟨cb,sc,p,s,ps,A,rfl,_,_,_,_,_,_,_,_,_,hN,_⟩;omega
 |N+1=>by
  refine iH func10 ?_;rintro c0 m h K ⟨cb,sc,p,s,ps,A,rfl,hc,hs,he,b',hp,a0,a7,d0,d1,hN,hK⟩;refine⟨bKQ N cb sc p,rfl,aE H2 (aE QP (aE QR (aE atJ (aE atZ (aE atX (aE Lc (aE (Z2 N) aG))))))),VN N cb sc p A m h K,ax,?_⟩;have f3:=hs.tables.slen;have h8:=HM he;have f4:=WC he;have f5:0<s.tables.length:=length_pos_iff.2 b';have d':(if(sc.tables.len:Int)>1 then(sc.tables.len:Int)else 1)=(sc.tables.len:Int):=by omega
  have d2:m cb≠none:=by obtain⟨cs,e⟩:=hc.blk;rw[e];simp
  dsimp only[VN,push_cast];rw[d'];refine⟨cb,12,rfl,hc,λk m1 k0 k1 o1 c1=>?_⟩;refine aF (λhd=>?_) (λhd=>aC (λ_=>?_) (λ_=>aC (λ_=>?_) (λ_=>?_)))
  .exact⟨cb,_,rfl,c1,λH m2 b0 d3 o2 c2=>⟨H,rfl,hK _ _ m2 h (.refl _) (Ay h H) (IK H) (Dn.mono (d:=0) tB.scan (Nat.zero_le _)) (ZA he a7 b0 aD) (o1.trans o2) c2⟩⟩
  .exact⟨cb,_,rfl,c1,λH m2 b0 d3 o2 c2=>⟨H,rfl,hK _ _ m2 h (.refl _) (Ay h H) (IK H) (Dn.mono (d:=0) tB.scan (Nat.zero_le _)) (ZA he a7 b0 aD) (o1.trans o2) c2⟩⟩
  .grind
  have d4:IntKind.i64.wrap (A-1)=A-1:=dY aD aD;have d5:IntKind.i64.wrap (A-2)=A-2:=dY aD aD;rw[d4];refine⟨cb,sc,p,s,ps,A-1,rfl,c1,hs,he,b',hp,a0,a7,aD,aD,aD,λa qa m2 h2 b1 ra b6 a3 d6 o2 c2=>⟨sc,p,a,s,ps,qa,rfl,hs.mono b1,hp.mono b1,ra,λkk h3 b3 ik=>?_⟩⟩;have d7:=NT s ps qa;obtain⟨U,d8⟩:∃U,(A-1).toNat=U:=⟨_,rfl⟩
  have d9:A.toNat=U+1:=by omega
  rw[d8]at a3;have V:QA U qa:=⟨b6,a3.arg⟩
  generalize e':(dU s ps qa).fst=ks at ik d7;clear e';have B:PH.le h h3:=b1.trans b3;have W:cJ h3 qa a:=ra.mono b3;refine⟨λ⟨d,op,E,q,I,mx,J⟩=>d=A/\E=a/\I=kk/\J=h3/\Mid m h3 cb a q mx,λO m3 j=>⟨(A,IntKind.i64.wrap (1+k),a,⟨IntKind.i64.wrap (1+k),0,fS,bR,bR,bR,bR,0,O⟩,kk,m3,h3),⟨rfl,rfl,rfl,rfl,?_⟩,MT⟩,?_⟩
  .have H:=(Kept.of o1).on o2;have c3:=c2.mono b3;exact⟨c3.keep (qI.at_cb j c3) (.refl _),H.new j,_,_,rfl,qI.frow j H c3⟩
  rintro⟨A,op,E,q,I,mx,J⟩ ⟨rfl,rfl,rfl,rfl,y⟩;dsimp only;have F:∀(q:QV)(vs:dn)(C:MH)(D:PH),PH.le J D->Kept m C cb->aR C D cb->QM U m C D q vs->yK C D->PH.le J (oN m C D)/\bE m (lN m C) cb/\aR (lN m C) (oN m C D) cb/\∃qq,cJ (oN m C D) qq q/\QW qq/\Dn (U+1) qq:=λq vs C D l k c x d=>⟨l.trans (zE d),keep_other k,Qx c d2 d,x.ice d⟩
  have join:∀(q:QV)(u:QV)(O:Sl)(C:MH)(D:PH)(Q:Sl->MH->Prop),PH.le J D->Kept m C cb->aR C D cb->QM U m C D q [E]->jE m C O 38 21 [u.enc]->(∃qu,cJ D qu u/\QA U qu)->
   (∀L m',(∀q':QV,q'.where_=q.where_->q'.columns=q.columns->(∃l,iD D q'.on l)->(∃l,Ints D q'.group l)->(∃l,jO D q'.order l)->q'.args=L->QM U m m' D q' [E,u])->Kept m m' cb->aR m' D cb->Q L m')->
   ∃xs,dE C ⟨q.args.a,q.args.len,q.args.cap⟩ 38 21 xs/\∃ys,i6 21 ys/\oP C D ⟨O.a,O.len,O.cap⟩ 21 ys/\(xs.length+ys.length)*280<=140737488355328/\xs.length+ys.length<=140737488355328/\∀(L:Sl)(m':MH),eF C m' ⟨q.args.a,q.args.len,q.args.cap⟩ L 38 21 (xs++ys)->Q L m':=
   λq u O C D Q l k c x f hu hQ=>⟨_,x.args_.row,[u.enc],NR [u],dE.src f.row,ay,ay,λL m' g=>hQ L m' (λq' e1 e2 e3 e4 e5 e6=>x.grow g k c hu ay e1 e2 e3 e4 e5 e6) (k.grown x.args_ g) (c.keep (eF.at_cb g x.args_ c az) (.refl _))⟩
  refine⟨λ⟨X,q,C,D⟩=>X=E/\PH.le J D/\bE m C cb/\aR C D cb/\∃qq,cJ D qq q/\QW qq/\Dn (U+1) qq,aC (λ_=>?_) (λ_=>?_),?_⟩
  ·
   refine⟨cb,3,rfl,y.case_,λn m3 n0 n1 o3 c3=>?_⟩;refine⟨λ⟨X,q,H,n,C,D⟩=>X=E/\H=I/\D=J/\ -1<=n/\n<=2/\aR C J cb/\Kept m C cb/\QM U m C J q [E]/\∃co:cq,jE m C q.columns 3 1 (co.map eI)/\(co.length:Int)<=2-n,λ⟨_,_,_,n,_,_⟩=>(n+1).toNat,⟨(E,q,I,n,m3,J),⟨rfl,rfl,rfl,aD,aD,c3,y.kept.on o3,(y.qm ⟨qa,W,V⟩).on o3 y.case_ (.refl _),[],?_,bf⟩,MT⟩,?_⟩
   .obtain⟨o,args,rfl,hf⟩:=y.ex;exact jE.nil _ _ _ _
   clear y q c3 o3 m3 n0 n1 n;rintro⟨X,q,H,n,C,D⟩ ⟨rfl,rfl,rfl,n0,n1,cy,ky,qm,co,b7,f2⟩;dsimp only;refine aF (λhn=>⟨cb,_,rfl,cy,λc m4 _ _ o4 c4=>⟨_,(b7.on o4 cy az).row,bf,bf,λL Y g=>?_⟩⟩) (λhn d=>⟨(X,q,lN m C,oN m C D),⟨rfl,F q _ C D (.refl _) ky cy qm d⟩,FT⟩);have P:=b7.on o4 cy az;have q4:=qm.on o4 cy (.refl _);have k4:=ky.on o4;have a4:jE m Y L 3 1 ((co++[c]).map eI):=by rw[bw];exact P.grown g k4 c4
   have e0:IntKind.i64.wrap (n-1)=n-1:=dY aD aD;rw[e0];refine⟨(X,{q with columns:=L},H,n-1,Y,D),⟨rfl,rfl,rfl,bg,bg,c4.keep (eF.at_cb g P c4 az) (.refl _),k4.grown P g,⟨q4.wher,⟨_,a4,bf⟩,q4.on_,q4.group_,q4.order_,q4.args_.apart P g az,q4.len_,q4.reps⟩,_,a4,bf⟩,bg,MT⟩
  .refine⟨λ⟨d,op,X,q,H,t,C,D⟩=>d=A/\X=E/\H=I/\D=J/\Mid m J cb E q C,aC (λ_=>⟨(A,op,E,q,I,true,mx,J),⟨rfl,rfl,rfl,rfl,y⟩,MT⟩) (λ_=>⟨(A,op,E,q,I,op==5,mx,J),⟨rfl,rfl,rfl,rfl,y⟩,MT⟩),?_⟩;clear y q mx;rintro⟨A,op,E,q,I,t,mx,J⟩ ⟨rfl,rfl,rfl,rfl,y⟩;dsimp only;refine aC (λ_=>?_) (λ_=>?_)
   ·
    rw[d5];refine⟨cb,sc,p,s,ps,A-2,rfl,y.case_,hs.mono B,he,b',hp.mono B,a0,a7,aD,aD,aD,λb qb Y R z rb b8 e7 _ o5 Z=>⟨sc,p,b,s,ps,qb,rfl,hs.mono (B.trans z),hp.mono (B.trans z),rb,λl h6 M il=>?_⟩⟩;have b9:QA U qb:=⟨b8,(e7.mono aD).arg⟩
    have e8:=NT s ps qb;generalize f6:(dU s ps qb).fst=ls at il e8;have S:QM U m Y h6 q [E]:=(y.qm ⟨qa,W,V⟩).on o5 y.case_ (z.trans M);have k6:=y.kept.on o5;have T:=Z.mono M;refine⟨λ⟨X,b2,q,H,l2,C,D⟩=>X=E/\b2=b/\H=I/\l2=l/\D=h6/\aR C h6 cb/\Kept m C cb/\QM U m C h6 q [E],aC (λ_=>aF (λ_=>⟨(E,b,{q with op:=5},I,l,Y,h6),⟨rfl,rfl,rfl,rfl,rfl,T,k6,⟨S.wher,S.cols,S.on_,S.group_,S.order_,S.args_,S.len_,S.reps⟩⟩,MT⟩) (λ_=>⟨(E,b,q,I,l,Y,h6),⟨rfl,rfl,rfl,rfl,rfl,T,k6,S⟩,MT⟩)) (λ_=>⟨(E,b,q,I,l,Y,h6),⟨rfl,rfl,rfl,rfl,rfl,T,k6,S⟩,MT⟩),?_⟩;have c':=rb.mono M;have a1:PH.le J h6:=z.trans M;clear S k6 T o5 Z rb z y q;rintro⟨X,b,q,H,l,C,h6⟩ ⟨rfl,rfl,rfl,rfl,rfl,T,k6,S⟩;dsimp only;refine⟨⟨cb,H,l,ks,ls,rfl,T,ik.mono a1,il,aD,aD,λo on m7 h7 G b4 _ o7 c7 O m8 j=>?_⟩,λO m7 j=>⟨cb,H,l,ks,ls,rfl,T.keep (qI.at_cb j T) (.refl _),ik.mono a1,il,aD,aD,λo on m8 h7 G b4 _ o8 c8=>?_⟩⟩
    .have k7:=k6.on o7;refine join q b O m8 h7 _ (a1.trans G) (k7.new j) (c7.keep (qI.at_cb j c7) (.refl _)) ((S.on o7 T G).new j (.refl _)) (qI.frow j k7 c7) ⟨qb,c'.mono G,b9⟩ (λL m9 hq k9 c9 d=>?_);exact⟨(X,{q with on:=o,args:=L},lN m m9,oN m m9 h7),⟨rfl,F _ _ m9 h7 (a1.trans G) k9 c9 (hq {q with on:=o,args:=L} rfl rfl ⟨on,b4⟩ (let⟨l,e⟩:=S.group_;⟨l,e.mono G⟩) (let⟨l,e⟩:=S.order_;⟨l,e.mono G⟩) rfl) d⟩,FT⟩
    .have k7:=k6.new j;have c7:aR m7 h6 cb:=T.keep (qI.at_cb j T) (.refl _);have k8:=k7.on o8;refine join q b O m8 h7 _ (a1.trans G) k8 c8 ((S.new j (.refl _)).on o8 c7 G) ((qI.frow j k6 T).on o8 c7 az) ⟨qb,c'.mono G,b9⟩ (λL m9 hq k9 c9 d=>?_);exact⟨(X,{q with on:=o,args:=L},lN m m9,oN m m9 h7),⟨rfl,F _ _ m9 h7 (a1.trans G) k9 c9 (hq {q with on:=o,args:=L} rfl rfl ⟨on,b4⟩ (let⟨l,e⟩:=S.group_;⟨l,e.mono G⟩) (let⟨l,e⟩:=S.order_;⟨l,e.mono G⟩) rfl) d⟩,FT⟩
   .refine⟨λ⟨op,X,q,H,t,C,D⟩=>X=E/\H=I/\D=J/\Mid m J cb E q C,aC (λ_=>⟨(op,E,q,I,true,mx,J),⟨rfl,rfl,rfl,y⟩,MT⟩) (λ_=>aC (λ_=>⟨(op,E,q,I,true,mx,J),⟨rfl,rfl,rfl,y⟩,MT⟩) (λ_=>⟨(op,E,q,I,op==8,mx,J),⟨rfl,rfl,rfl,y⟩,MT⟩)),?_⟩;clear y q mx;rintro⟨op,E,q,I,t,mx,J⟩ ⟨rfl,rfl,rfl,y⟩;dsimp only;have q3:=y.qm ⟨qa,W,V⟩;refine aC (λ_=>?_) (λ_=>aC (λ_=>?_) (λ_=>aC (λ_=>?_) (λ_=>?_)))
    ·
     refine⟨cb,sc,p,I,E,s,ps,ks,qa,rfl,y.case_,hs.mono B,h8,aD,hp.mono B,a0,ik,aD,W,V.1,λw qw Y R z e9 a5 o5 Z O m6 j=>?_⟩;have k5:=y.kept.on o5;refine join q w O m6 R _ z (k5.new j) (Z.keep (qI.at_cb j Z) (.refl _)) ((q3.on o5 y.case_ z).new j (.refl _)) (qI.frow j k5 Z) ⟨qw,e9,a5.qw,a5.siz U a3⟩ (λL m9 hq k9 c9 d=>?_);have q5:=q3.on o5 y.case_ z;exact⟨(E,{q with args:=L},lN m m9,oN m m9 R),⟨rfl,F _ _ m9 R z k9 c9 (hq {q with args:=L} rfl rfl q5.on_ q5.group_ q5.order_ rfl) d⟩,FT⟩
    ·
     obtain⟨o,args,rfl,hf⟩:=y.ex;refine⟨cb,⟨o,0,fS,bR,bR,bR,bR,0,args⟩,I,ks,rfl,y.case_,ik,aD,λg od kk gr a8 Y R z hg a9 _ _ _ _ o5 Z d=>?_⟩;have q5:=q3.on o5 y.case_ z;exact⟨(E,⟨o,0,fS,bR,bR,g,od,kk,args⟩,lN m Y,oN m Y R),⟨rfl,F _ [E] Y R z (y.kept.on o5) Z ⟨q5.wher,q5.cols,q5.on_,⟨gr,hg⟩,⟨a8,a9⟩,q5.args_,q5.len_,q5.reps⟩ d⟩,FT⟩
    ·
     obtain⟨o,args,rfl,hf⟩:=y.ex;refine⟨cb,⟨o,0,fS,bR,bR,bR,bR,0,args⟩,I,ks,rfl,y.case_,ik,aD,λg od kk gr a8 Y R z hg a9 _ _ _ _ o5 Z=>?_⟩;have q5:=q3.on o5 y.case_ z;have f':QM U m Y R ⟨o,0,fS,bR,bR,g,od,kk,args⟩ [E]:=⟨q5.wher,q5.cols,q5.on_,⟨gr,hg⟩,⟨a8,a9⟩,q5.args_,q5.len_,q5.reps⟩
     refine⟨cb,sc,p,I,E,s,ps,ks,qa,rfl,Z,hs.mono (B.trans z),h8,aD,hp.mono (B.trans z),a0,ik.mono z,aD,W.mono z,V.1,λw qw m6 h6 M f0 a5 o6 T O m7 j=>?_⟩;have k6:=(y.kept.on o5).on o6;refine join ⟨o,0,fS,bR,bR,g,od,kk,args⟩ w O m7 h6 _ (z.trans M) (k6.new j) (T.keep (qI.at_cb j T) (.refl _)) ((f'.on o6 Z M).new j (.refl _)) (qI.frow j k6 T) ⟨qw,f0,a5.qw,a5.siz U a3⟩ (λL m9 hq k9 c9 d=>?_);exact⟨(E,⟨o,0,fS,bR,bR,g,od,kk,L⟩,lN m m9,oN m m9 h6),⟨rfl,F _ _ m9 h6 (z.trans M) k9 c9 (hq ⟨o,0,fS,bR,bR,g,od,kk,L⟩ rfl rfl ⟨_,tY _⟩ ⟨gr,hg.mono M⟩ ⟨a8,a9.mono M⟩ rfl) d⟩,FT⟩
    ·
     refine⟨⟨cb,I,p,ks,ps,2,rfl,y.case_,ik,hp.mono B,aD,a0,aD,λpv pp Y R z rp b5 o5 Z O m6 j d=>?_⟩,λO Y j=>⟨cb,I,p,ks,ps,2,rfl,y.case_.keep (qI.at_cb j y.case_) (.refl _),ik,hp.mono B,aD,a0,aD,λpv pp m6 R z rp b5 o6 T d=>?_⟩⟩
     .have k5:=y.kept.on o5;exact⟨(E,⟨2,0,pv,bR,bR,bR,bR,0,O⟩,lN m m6,oN m m6 R),⟨rfl,F _ [E] m6 R z (k5.new j) (Z.keep (qI.at_cb j Z) (.refl _)) ⟨⟨pp,rp,b5.vals⟩,⟨[],jE.nil _ _ _ _,ay⟩,⟨_,tY _⟩,⟨_,rM _⟩,⟨_,tX _⟩,qI.frow j k5 Z,ay,λv hv=>by simp at hv;subst hv;exact⟨qa,W.mono z,V⟩⟩ d⟩,FT⟩
     .have k5:=y.kept.new j;have Z:aR Y J cb:=y.case_.keep (qI.at_cb j y.case_) (.refl _);exact⟨(E,⟨2,0,pv,bR,bR,bR,bR,0,O⟩,lN m m6,oN m m6 R),⟨rfl,F _ [E] m6 R z (k5.on o6) T ⟨⟨pp,rp,b5.vals⟩,⟨[],jE.nil _ _ _ _,ay⟩,⟨_,tY _⟩,⟨_,rM _⟩,⟨_,tX _⟩,(qI.frow j y.kept y.case_).on o6 Z az,ay,λv hv=>by simp at hv;subst hv;exact⟨qa,W.mono z,V⟩⟩ d⟩,FT⟩
  .rintro⟨X,q,C,D⟩ ⟨rfl,a6,oy,cy,qq,rq,f1,f7⟩;dsimp only;refine⟨sc,p,q,s,ps,qq,rfl,hs.mono (B.trans a6),hp.mono (B.trans a6),rq,λsl R z _=>aC (λe=>?_) (λe=>?_)⟩
   .exact hK X qa C R ((B.trans a6).trans z) ((W.mono a6).mono z) V.1 (by rw[d9];exact a3.mono aD) d6 oy (cy.mono z)
   .exact hK q qq C R ((B.trans a6).trans z) (rq.mono z) f1 bg (bk e) oy (cy.mono z)
mutual
def uW(st:List ct):Query->ct
 |.mk op ta w co on gr od li args=>if op=1 then st.getD ta.toNat []else opF op (.mk op ta w co on gr od li args) (IE st args)
def IE(st:List ct):cz->List ct
 |[]=>[]
 |q::qs=>uW st q::IE st qs
end
structure Gh(st ls:List ct)(k:Nat)(ts:cq):Prop where
 at_:∀(j:Nat)(t:Int),ts[j]? =some t->ls.getD (k+j) []=st.getD t.toNat []
theorem Gh.left{st ls:List ct}{k:Nat}{b:cq}(x:Gh st ls k (a++b)):Gh st ls k a:=
 ⟨λj t h=>x.at_ j t bg⟩
theorem Gh.right{st ls:List ct}{k:Nat}{b:cq}(x:Gh st ls k (a++b)):Gh st ls (k+a.length) b:=
 ⟨λj t h=>by
  have:=x.at_ (a.length+j) t bg
  grind⟩
theorem KD{args:cz}{c:List cq}(d:eO s ps args=(c,0))(e:(c.length:Int)=arity 1):args=[]:=by
 cases args with
 |nil=>rfl
 |cons q f=>obtain⟨_,_,_,_,rfl⟩:=oL d;simp[arity]at e;omega
mutual
theorem R7{s:jB}{ps:cq}{st ls:List ct}:∀{q:Query}{ks:cq}{k:Nat},aJ s ps q=(ks,0)->Gh st ls k (pX q)->Bb ls q k=(uW st q,k+(pX q).length)
 |.mk op ta w co on gr od li args,ks,k,h,c=>by
  obtain⟨g,f,j,o⟩:=wH h;by_cases e:op=1
  .subst e;have n:=KD f j;subst n;have d:pX (.mk 1 ta w co on gr od li [])=[ta]:=by simp[pX,lJ]
   rw[d]at c⊢
   have:=c.at_ 0 ta rfl;rw[Nat.add_zero]at this;rw[Bb,uW,if_pos rfl,if_pos rfl,this];rfl
  .have d:pX (.mk op ta w co on gr od li args)=lJ args:=by simp[pX,e]
   rw[d]at c⊢
   rw[Bb,uW,if_neg e,if_neg e,Ic f c]
theorem Ic{s:jB}{ps:cq}{st ls:List ct}:∀{d:cz}{c:List cq}{k:Nat},eO s ps d=(c,0)->Gh st ls k (lJ d)->yE ls d k=(IE st d,k+(lJ d).length)
 |[],c,k,h,_=>by simp[yE,IE,lJ]
 |q::d,c,k,h,e=>by
  obtain⟨n,f,g,j,rfl⟩:=oL h;rw[lJ]at e;rw[yE,IE,lJ,R7 g e.left,Ic j e.right,bt,Nat.add_assoc]
end
mutual
theorem NQ{s:jB}{ps:cq}:∀{q:Query}{ks:cq},aJ s ps q=(ks,0)->∀t∈pX q,0<=t/\t<s.tables.length
 |.mk op ta w co on gr od li args,ks,h,t,f=>by
  obtain⟨g,j,n,c⟩:=wH h;rw[pX]at f;rcases mem_append.1 f with d|d
  .split at d
   .rename_i e;subst e;simp only[mem_singleton]at d;subst d;unfold dV at c;dsimp only at c;split at c
    .simp[dP]at c
    try rw[if_pos rfl]at c
    split at c
    .omega
    .simp[dP]at c
   .simp at d
  .exact Qi j t d
theorem Qi{s:jB}{ps:cq}:∀{e:cz}{d:List cq},eO s ps e=(d,0)->∀t∈lJ e,0<=t/\t<s.tables.length
 |[],d,h,t,c=>by rw[lJ]at c;simp at c
 |q::e,d,h,t,c=>by
  obtain⟨n,f,g,j,rfl⟩:=oL h;rw[lJ]at c;rcases mem_append.1 c with c|c
  .exact NQ g t c
  .exact Qi j t c
end
def H4(key:Int)(k:Int)(i:Nat)(v:VV):Bool:=lA v&&(v.kind==k||((v.kind==2||v.kind==1)&&decide (key<=(i:Int))))
def F2(t:C1)(r:cw):Bool:=decide (r.length=t.columns.length)&&(List.range r.length).all λi=>H4 t.key (t.columns.getD i ⟨⟨#[]⟩,0⟩).kind i (r.getD i zeroV)
def FW(t:C1)(r:cw):cw:=r.take (max 0 (min t.key r.length)).toNat
def Zu(t:C1)(l:ct):Prop:=(∀r∈l,F2 t r=true)/\∀(i:Nat) r c,l[i]? =some r->l[i+1]? =some c->fQ (FW t r) (FW t c)<0
def Wz(s:jB)(st:List ct):Prop:=∀(i:Nat) t l,s.tables[i]? =some t->st[i]? =some l->Zu t l
open Classical in
noncomputable def mM(s:jB)(st:List ct):Int:=
 if dH s≠0 then dH s else if 512<(st.map λl=>(l.length:Int)).sum then 2 else if st.length≠s.tables.length then 80 else if Wz s st then 0 else 80
def StV(st:List ct):Prop:=∀l∈st,∀r∈l,∀v∈r,rN v.kind/\rN v.int
def bpZ(t:C1)(l:ct):Prop:=l.Pairwise λx y=>fQ (FW t x) (FW t y)<0
theorem Ty{x y z:cw}(c:fQ x y<0)(d:fQ y z<0):fQ x z<0:=by
 have:=B9 x y z aD aD;rcases Int.lt_or_eq_of_le this with h|h
 .exact h
 .rw[mR]at h;subst h;have:=uS x y;omega
theorem Ua{st:List ct}(h:mM s st=0):dH s=0/\st.length=s.tables.length/\Wz s st/\(st.map λl=>(l.length:Int)).sum<=512:=by
 unfold mM at h
 grind
theorem aQX{t:C1}{x y:cw}(h:x.length=y.length):(FW t x).length=(FW t y).length:=by simp[FW,h]
theorem bdX{t:C1}{x y:cw}(h:x.length=y.length)(c:fQ (FW t x) (FW t y)<0):fQ x y<0:=by
 have d:x=FW t x++x.drop (max 0 (min t.key x.length)).toNat:=(take_append_drop _ _).symm;have e:y=FW t y++y.drop (max 0 (min t.key y.length)).toNat:=(take_append_drop _ _).symm;rw[d,e,Kj (aQX h),if_pos aD];exact c
theorem bpZ.of{t:C1}:∀{l:ct},(∀(i:Nat) r r',l[i]? =some r->l[i+1]? =some r'->fQ (FW t r) (FW t r')<0)->bpZ t l
 |[],_=>List.Pairwise.nil
 |[_],_=>pairwise_singleton _ _
 |a::b::l,h=>by
  have d:bpZ t (b::l):=bpZ.of λi r r' f g=>h (i+1) r r' f g;refine pairwise_cons.2 ⟨λx c=>?_,d⟩;have e:=h 0 a b rfl rfl;rcases mem_cons.1 c with rfl|c
  .exact e
  .exact Ty e ((pairwise_cons.1 d).1 x c)
theorem T2{t:ByteArray}(h:t.toList=(⟨#[]⟩:ByteArray).toList):t.size<=64:=by rw[zF h];decide
theorem HV{t:ByteArray}(h:C6 t=true):t.size<=64:=T2 (by simp only[C6,beq_iff_eq]at h;rw[h,ByteArray.toList_eq])
theorem LY{v:VV}(h:lA v=true):v.text.size<=64:=by
 unfold lA at h;split at h
 .simp only[bz]at h;exact HV h.2
 .split at h
  .simp only[bz]at h;exact HV h.2
  .split at h
   .exact HV h
   grind
theorem FD{q:Query}(h:(dU s ps q).2=0):dH s=0/\ps.all eT=true/\yU q=true/\(aJ s ps q).2=0:=by
 unfold dU at h;split at h
 .rename_i c;split at h
  .rename_i d;split at h
   .grind
   .simp[dP]at h
  .simp[dP]at h
 .rename_i c;simp[dP]at h;omega
theorem T0{v:VV}(h:lA v=true):1<=v.kind/\v.kind<=5/\v.text.size<=64:=by
 refine⟨?_,?_,LY h⟩
 all_goals
  unfold lA at h;split at h
  .rename_i e;simp at e;omega
  .split at h
   .rename_i e;simp at e;omega
   .split at h
    .rename_i e;simp at e;omega
    .split at h
     .rename_i e;simp at e;omega
     .cases h
theorem ZL{t:C1}{r:cw}(h:F2 t r=true):r.length=t.columns.length/\∀v∈r,lA v=true:=by
 simp only[F2,bz,ce,all_eq_true,mem_range]at h;refine⟨h.1,λv e=>?_⟩;obtain⟨i,c,rfl⟩:=mem_iff_getElem.1 e;have d:=h.2 i c;simp only[H4,bz,getD_eq_getElem?_getD,bo c,Option.getD_some]at d;exact d.1
theorem bqX{t:C1}{l:ct}(u:t.columns.length<=12)(c:Zu t l)(g:∀r∈l,∀v∈r,rN v.kind/\rN v.int)(j:l.length<=8000000):iJ t.columns.length l:=by
 have n:∀r∈l,r.length=t.columns.length:=λr d=>(ZL (c.1 r d)).1;refine⟨λr d=>⟨bg,λv e=>?_⟩,n,?_,j⟩
 .have o:=(ZL (c.1 r d)).2 v e;have f:=g r d v e;exact⟨f.1,f.2,(T0 o).2.2⟩
 .exact(bpZ.of c.2).imp_of_mem fun{x y} e z h=>bdX bg h
def BF(st:List ct)(q:Query):List ct:=(pX q).map λt=>st.getD t.toNat []
theorem bXX{st:List ct}{t:Int}(c:mM s st=0)(n:StV st)(o:0<=t)(D:t<s.tables.length):iJ (jL s t).length (st.getD t.toNat [])/\st.getD t.toNat []∈st:=by
 obtain⟨u,E,y,F⟩:=Ua c;have f:t.toNat<s.tables.length:=by omega
 have g:t.toNat<st.length:=by omega
 have j:s.tables[t.toNat]? =some s.tables[t.toNat]:=bo f;have z:st[t.toNat]? =some st[t.toNat]:=bo g;have A:st.getD t.toNat []=st[t.toNat]:=bg
 have d:st[t.toNat]∈st:=getElem_mem g;have G:=HM u _ (getElem_mem f);have B:(jL s t).length=s.tables[t.toNat].columns.length:=by rw[jL,if_neg aD,j];simp
 have e:∀{l:List ct}{x},x∈l->((x.length:Nat):Int)<=(l.map λl=>(l.length:Int)).sum:=fun{l x}=>by
  induction l with
  |nil=>grind
  |cons a l C=>
   intro h
   have o:∀l:List ct,0<=(l.map λl=>(l.length:Int)).sum:=λl=>by
    induction l with
    |nil=>simp
    |cons a l C=>grind
   grind
 have:=e d;rw[A,B];exact⟨bqX aD (y _ _ _ j z) (n _ d) aD,d⟩
theorem WA{st:List ct}{q:Query}{ks:cq}{c:Nat}(d:mM s st=0)(o:StV st)(A:∀l∈st,l.length<=c)(u:1<=c)(e:aJ s ps q=(ks,0))(g:fE c q<=8000000):
 okQ (BF st q) q 0/\(Bb (BF st q) q 0).1=uW st q/\iJ ks.length (uW st q)/\(uW st q).length<=8000000:=by
 have z:∀(j:Nat)(t:Int),(pX q)[j]? =some t->(BF st q)[0+j]? =some (st.getD t.toNat []):=λj t h=>by rw[Nat.zero_add,BF,getElem?_map,h];rfl
 have x:=VO u (ls:=BF st q) (k:=0) e ⟨λj t h=>⟨_,z j t h,by
  have n:=NQ e t (br h);have:=bXX d o n.1 n.2
  grind⟩⟩ g
 have y:=R7 (st:=st) (ls:=BF st q) (k:=0) e ⟨λj t h=>bg⟩;have f:(Bb (BF st q) q 0).1=uW st q:=by rw[y]
 refine⟨x.ok,f,by rw[<-f];exact x.rel,?_⟩;rw[<-f];exact cj x.bnd g
def aPl(p r:Sl):CV:=.val (.agg ⟨[.slice p.a p.len p.cap,.slice r.a r.len r.cap]⟩)
theorem iI.keep{r:CV}(c:Sub m m')(le:PH.le h h')(d:K r m h):iI h K r m' h':=
 λ_=>⟨m,h,c,.refl _,λb i v e=>.inl (le.le b i v e),d⟩
def Wr(q:Query):Prop:=
 match q with
 |.mk op _ _ _ _ _ _ _ args=>(args.length:Int)=arity op/\∀a∈args,Wr a
 termination_by SizeOf.sizeOf q
theorem V8{op:Int}{w:Pred}{on:cu}{args:cz}:
 Wr (.mk op ta w co on gr od li args)↔(args.length:Int)=arity op/\∀a∈args,Wr a:=by rw[Wr.eq_def]
theorem DF(op:Int):arity op<=2:=by
 unfold arity;omega
theorem NU{α:Type}{l c:List α}(h:l<+:c){x:α}(d:l[i]? =some x):c[i]? =some x:=by
 obtain⟨r,rfl⟩:=h
 grind
theorem KM:∀(n:Nat){l:dl},l.Nodup->(∀x∈l,x<n)->l.length<=n
 |0,l,_,h=>by
  cases l with
  |nil=>simp
  |cons x l=>have:=h x ay;omega
 |n+1,l,c,h=>by
  by_cases d:n∈l
  .have f:=length_erase_of_mem d
   have g:=KM n (c.erase n) (λx e=>by
    grind)
   omega
  .have:=KM n c (λx e=>by
    grind)
   omega
theorem JZ{α:Type}{T:List α->α->Prop}{l:List α}{f:α->Int}{n:Nat}(h:Good T l)(e:∀c x,T c x->0<=f x/\f x<n)(o:∀c x,T c x->∀y∈c,f y≠f x):l.length<=n:=by
 have u:(l.map λx=>(f x).toNat).Nodup:=by
  rw[nodup_iff_pairwise_ne,pairwise_iff_getElem];intro i j d g z;simp only[length_map]at d g;simp only[getElem_map];have D:=h i l[i] (bo d);have A:=h j l[j] (bo g);have:=o _ _ A l[i] (mem_take_iff_getElem.2 ⟨i,aD,rfl⟩)
  grind
 have:=KM n u (λx B=>by
  obtain⟨y,C,rfl⟩:=mem_map.1 B;obtain⟨i,d⟩:=mem_iff_getElem?.1 C;have:=e _ _ (h i y d);omega)
 grind
mutual
def bfQ:Pred->Prop
 |.mk _ _ l r args=>l.value.text.size<=64/\r.value.text.size<=64/\TI args
def TI:dg->Prop
 |[]=>True
 |p::ps=>bfQ p/\TI ps
end
theorem Uy(o:OV)(h:o.value.text.size<=64):(Cf o).length<=200:=by
 have e:=fY [o.kind,o.index];have f:=fY [o.value.kind];have g:=fY [(o.value.text.size:Int)];have c:=fY [o.value.int];have d:hU [o.value.int]=lO o.value.int++[32]:=by unfold hU;grind
 rw[d]at c;have j:o.value.text.data.toList.length=o.value.text.size:=by rw[Array.length_toList];rfl
 simp only[Cf,yH,bt,ci,length_nil]at*
 omega
mutual
theorem KL:∀p:Pred,bfQ p->((mU p).length:Int)<=1000*Qc p
 |.mk op c l r args,h=>by
  obtain⟨d,e,f⟩:=h;have g:=Uy l d;have j:=Uy r e;have n:=NZ args f;have o:=fY [op,c];have u:=fY [(args.length:Int)];simp only[mU,Qc,bt,ci,length_nil]at*
  omega
theorem NZ:∀ps:dg,TI ps->((lC ps).length:Int)<=1000*Ce ps
 |[],_=>by simp[lC,Ce]
 |p::ps,h=>by
  have:=KL p h.1;have:=NZ ps h.2;simp only[lC,Ce,bt];omega
end
theorem VQ{v:VV}(h:Z4 v zeroV=true):v.text.size<=64:=by
 simp only[Z4,bz,beq_iff_eq]at h;exact T2 h.2.2.1
theorem J7{o:OV}(h:YX o dG=true):o.value.text.size<=64:=by
 simp only[YX,bz,beq_iff_eq]at h;exact VQ h.2.2.1
theorem MB{o:OV}(h:qH l o≠0):o.value.text.size<=64:=by
 unfold qH at h;split at h
 .omega
 .rename_i c;simp only[Bool.or_eq_true,not_or,Bool.not_eq_true',Bool.not_eq_false]at c;exact VQ c.2
theorem Mq{cols params:cq}{o:OV}(h:kindOf cols params o≠0):o.value.text.size<=64:=by
 unfold kindOf at h;split at h
 .split at h
  .omega
  .rename_i c;simp only[Bool.or_eq_true,not_or,Bool.not_eq_true',Bool.not_eq_false,nK,bz]at c;exact LY c.2.1
 .split at h
  .exact MB h
  .split at h
   .exact MB h
   omega
mutual
theorem LZ{cols params:cq}:∀p:Pred,jG cols params p=true->bfQ p
 |.mk op c l r args,h=>by
  unfold jG at h;split at h
  .simp only[bz,FE,beq_iff_eq]at h;have:args=[]:=eq_nil_of_length_eq_zero h.2;subst this;exact⟨J7 h.1.1.2,J7 h.1.2,trivial⟩
  .split at h
   .simp only[bz,beq_iff_eq,bne_iff_ne,ne_eq,ce]at h;have:args=[]:=eq_nil_of_length_eq_zero h.1.1.1.1;subst this;exact⟨Mq h.1.2,Mq (cols:=cols) (params:=params) aD,trivial⟩
   .split at h
    .simp only[bz,FE]at h;exact⟨J7 h.1.1.2,J7 h.1.2,Is args h.2⟩
    .cases h
theorem Is{cols params:cq}:∀ps:dg,wX cols params ps=true->TI ps
 |[],_=>trivial
 |p::ps,h=>by
  simp only[wX,bz]at h;exact⟨LZ p h.1,Is ps h.2⟩
end
theorem aJQ{cols params:cq}(h:fX cols params p=0):(mU p).length<=1000000000:=by
 unfold fX at h;split at h
 .cases h
 .split at h
  .cases h
  .rename_i c;split at h
   .cases h
   .rename_i e;have d:jG cols params p=true:=bg
    have f:=KL p (LZ p d);simp only[Bool.or_eq_true,not_or,ce]at c;have g:=Gq p 0 aD;omega
theorem aFX:(mU eJ).length<=1000000000:=by
 have:=KL eJ ⟨az,az,trivial⟩;have e:Qc eJ=1:=rfl;omega
theorem EP{s:jB}{ps:cq}:∀(c:cz),∀k∈(eO s ps c).1,k.length<=12
 |[],k,h=>by simp[eO]at h
 |q::c,k,h=>by
  simp only[eO]at h;split at h
  .split at h
   .simp only[mem_cons]at h;rcases h with rfl|h
    .exact kH s ps q
    .exact EP c k h
   .simp at h
  .simp at h
theorem UW(h:∀k∈ks,k.length<=12)(j:Nat):(ks.getD j []).length<=12:=by
 grind
theorem HD{s:jB}{ps:cq}:∀{c:cz}{ks:List cq},eO s ps c=(ks,0)->ks.length=c.length/\∀q∈c,(aJ s ps q).2=0
 |[],ks,h=>by simp[eO]at h;subst h;simp
 |q::c,ks,h=>by
  simp only[eO]at h;split at h
  .rename_i f;split at h
   .rename_i d;have e:eO s ps c=((eO s ps c).1,0):=Prod.ext rfl d;obtain⟨g,j⟩:=HD e
    grind
   grind
  grind
theorem kG{op:Int}{w:Pred}{on:cu}{args:cz}(h:(aJ s ps (.mk op ta w co on gr od li args)).2=0):
 (∀a∈args,(aJ s ps a).2=0)/\(args.length:Int)=arity op/\∃a b,a.length<=12/\b.length<=12/\(dV s ps (.mk op ta w co on gr od li args) a b).2=0:=by
 simp only[aJ]at h;split at h
 .rename_i c;have e:eO s ps args=((eO s ps args).1,0):=Prod.ext rfl c;obtain⟨f,d⟩:=HD e;split at h
  .rename_i g;refine⟨d,aD,_,_,?_,?_,h⟩
   .exact UW (EP args) 0
   .exact UW (EP args) 1
  .simp[dP]at h
 .rename_i c;simp[dP]at h;omega
theorem aNQ{op:Int}{w:Pred}{on:cu}{args:cz}{b:cq}(I:a.length<=12)(h:(dV s ps (.mk op ta w co on gr od li args) a b).2=0):
 MF ⟨op,ta,w,co,on,gr,od,li,0,0⟩:=by
 unfold dV at h;dsimp only at h;split at h
 .simp[dP]at h
 .rename_i j;rw[not_or]at j;have z:cH (.mk op ta w co on gr od li args):=Classical.not_not.1 j.2;obtain⟨_,A,B,C,D⟩:=z
  have E:∀l:cq,(lF l).2=0->l.length<=12:=λl e=>by
   unfold lF at e
   grind
  have F:(mU w).length<=1000000000:=by
   rcases A with rfl|rfl
   .simp only[show¬((2:Int)=1)by decide,if_false,if_true]at h;split at h
    .rename_i e;exact aJQ e
    .rename_i e;simp[dP]at h;omega
   .exact aFX
  have G:co.length<=1000000000:=by
   rcases B with rfl|rfl
   .simp only[show¬((3:Int)=1)by decide,show¬((3:Int)=2)by decide,if_false,if_true]at h;split at h
    .grind
    .simp[dP]at h
   .simp
  have H:on.length<=1000000000:=by
   have d:Good (lS a b) on->on.length<=1000000000:=λg=>by
    have:=JZ (f:=λp=>p.1) (n:=a.length) g (λc x t=>by have:=t.1;rw[dZ]at this;exact this) (λc x t y o=>(t.2.2.2 y o).1);omega
   rcases C with rfl|rfl|rfl
   .simp only[show¬((4:Int)=1)by decide,show¬((4:Int)=2)by decide,show¬((4:Int)=3)by decide,if_false,if_true]at h;split at h
    .grind
    .simp[dP]at h
   .simp only[show¬((5:Int)=1)by decide,show¬((5:Int)=2)by decide,show¬((5:Int)=3)by decide,show¬((5:Int)=4)by decide,if_false,if_true]at h;split at h
    .grind
    .simp[dP]at h
   .simp
  have u:gr.length<=1000000000/\od.length<=1000000000:=by
   have d:lH a gr od li->gr.length<=1000000000/\od.length<=1000000000:=λr=>by
    have:=JZ (f:=λp=>p) (n:=a.length) r.group_ (λc x t=>by have:=t.1;rw[dZ]at this;exact this) (λc x t y o e=>t.2 bg);have:=r.len_;omega
   rcases D with rfl|rfl|⟨rfl,rfl,_⟩
   .simp only[show¬((9:Int)=1)by decide,show¬((9:Int)=2)by decide,show¬((9:Int)=3)by decide,show¬((9:Int)=4)by decide,show¬((9:Int)=5)by decide,if_false,if_true]at h;split at h
    .grind
    .simp[dP]at h
   .simp only[show¬((10:Int)=1)by decide,show¬((10:Int)=2)by decide,show¬((10:Int)=3)by decide,show¬((10:Int)=4)by decide,show¬((10:Int)=5)by decide,show¬((10:Int)=9)by decide,if_false,if_true]at h;split at h
    .grind
    .simp[dP]at h
   .simp
  exact⟨F,G,H,u.1,u.2⟩
theorem Dw{s:jB}{ps:cq}:∀q:Query,(aJ s ps q).2=0->zH q/\Wr q
 |.mk op ta w co on gr od li args,h=>by
  obtain⟨d,e,a,b,f,_,g⟩:=kG h;rw[Up,V8];exact⟨⟨aNQ f g,λq c=>(Dw q (d q c)).1⟩,e,λq c=>(Dw q (d q c)).2⟩
theorem Ql{q:Query}(h:(dU s ps q).2=0):zH q:=(Dw q (FD h).2.2.2).1
theorem Ox{n:Int}(h:rN n){b:UInt8}(c:b∈lO n):b≠32:=by
 intro e;subst e;by_cases f:0<=n
 .rw[Dx h f]at c;have:=Tu _ _ c;simp at this
 .rw[Dy h aD]at c;rcases mem_cons.1 c with d|d
  .cases d
  .have:=Tu _ _ d;simp at this
theorem uA(n:Int)(l:cq):hU (n::l)=lO n++32::hU l:=by unfold hU;grind
theorem gT{m n:Int}{r r':di}(d:rN m)(e:rN n)(h:lO m++32::r=lO n++32::r'):m=n/\r=r':=by
 obtain⟨f,g⟩:=Ub (λc=>Ox d c rfl) (λc=>Ox e c rfl) h;exact⟨anX d e f,g⟩
theorem Mj(p:Int×Int)(l:cu):uX (p::l)=lO p.1++32::(lO p.2++32::uX l):=by
 show hU [p.1,p.2]++uX l=_;rw[uA,uA,append_assoc,cons_append,append_assoc];rfl
theorem Ma(p:Int×Bool)(l:cv):uV (p::l)=lO p.1++32::(lO (if p.2 then 1 else 0)++32::uV l):=by
 show hU [p.1,if p.2 then 1 else 0]++uV l=_;rw[uA,uA,append_assoc,cons_append,append_assoc];rfl
structure Wl(o:OV):Prop where
 kind_:rN o.kind
 index_:rN o.index
 vkind_:rN o.value.kind
 int_:rN o.value.int
 text_:o.value.text.size<=64
mutual
def Ks:Pred->Prop
 |.mk op c l r args=>rN op/\rN c/\Wl l/\Wl r/\args.length<=8000000/\Px args
def Px:dg->Prop
 |[]=>True
 |p::ps=>Ks p/\Px ps
end
theorem vY{n:Nat}(h:n<=8000000):rN (n:Int):=⟨aD,aD⟩
theorem HS{o o':OV}{r r':di}(d:Wl o)(e:Wl o')(h:Cf o++r=Cf o'++r'):o=o'/\r=r':=by
 have z:hU []=[]:=rfl;simp only[Cf,yH,uA,z,append_assoc,cons_append,nil_append]at h;obtain⟨j,h⟩:=gT d.kind_ e.kind_ h;obtain⟨n,h⟩:=gT d.index_ e.index_ h;obtain⟨u,h⟩:=gT d.vkind_ e.vkind_ h;obtain⟨x,h⟩:=gT d.int_ e.int_ h;obtain⟨y,h⟩:=gT (vY (by have:=d.text_;omega)) (vY (by have:=e.text_;omega)) h;have y:o.value.text.size=o'.value.text.size:=by omega
 obtain⟨f,A⟩:=append_inj h (by rw[Array.length_toList,Array.length_toList];exact y);refine⟨?_,A⟩;obtain⟨k,i,⟨D,E,g⟩⟩:=o;obtain⟨F,G,⟨B,C,c⟩⟩:=o';obtain⟨g⟩:=g;obtain⟨c⟩:=c;simp only at j n u x f;have f:g=c:=Array.toList_inj.1 f;subst j n u x f;rfl
mutual
theorem Mh:∀{p c:Pred}{r r':di},Ks p->Ks c->mU p++r=mU c++r'->p=c/\r=r'
 |.mk op f l J args,.mk g e L j d,r,r',n,o,h=>by
  obtain⟨u,x,y,z,A,B⟩:=n;obtain⟨C,D,E,F,G,H⟩:=o;have I:hU []=[]:=rfl;simp only[mU,uA,I,append_assoc,cons_append,nil_append]at h;obtain⟨M,h⟩:=gT u C h;obtain⟨O,h⟩:=gT x D h;obtain⟨P,h⟩:=HS y E h;obtain⟨Q,h⟩:=HS z F h;obtain⟨R,h⟩:=gT (vY A) (vY G) h;obtain⟨S,T⟩:=IL B H aD h
  grind
theorem IL:∀{ps c:dg}{r r':di},Px ps->Px c->ps.length=c.length->lC ps++r=lC c++r'->ps=c/\r=r'
 |[],[],r,r',_,_,_,h=>⟨rfl,by simpa[lC]using h⟩
 |[],_::_,_,_,_,_,d,_=>by simp at d
 |_::_,[],_,_,_,_,d,_=>by simp at d
 |p::ps,g::c,r,r',e,f,d,h=>by
  simp only[lC,append_assoc]at h;obtain⟨j,h⟩:=Mh e.1 f.1 h;obtain⟨n,o⟩:=IL e.2 f.2 bg h
  grind
end
structure bgQ(t:Step):Prop where
 wher:Ks t.wher
 cols:∀n∈t.columns,rN n
 on_:∀p∈t.on,rN p.1/\rN p.2
 group_:∀n∈t.group,rN n
 order_:∀p∈t.order,rN p.1
theorem jF{n:Int}(c: -8000000<=n)(d:n<=8000000):rN n:=⟨aD,aD⟩
theorem wP:rN 0:=⟨az,az⟩
theorem tZ:Wl dG:=⟨wP,wP,wP,wP,az⟩
theorem aAX{v:VV}(h:Z4 v zeroV=true):v=zeroV:=Ts.1 h
theorem V6{o:OV}(h:qH l o≠0)(f:l.length<=8000000)(d:rN o.kind):Wl o:=by
 unfold qH at h;split at h
 .omega
 .rename_i c;simp only[Bool.or_eq_true,not_or,Bool.not_eq_true',Bool.not_eq_false,ce]at c;have e:=aAX c.2;refine⟨d,jF aD aD,?_,?_,?_⟩
  all_goals rw[e]
  .exact tZ.vkind_
  .exact tZ.int_
  .exact tZ.text_
theorem agZ{t:ByteArray}(h:t.toList=(⟨#[]⟩:ByteArray).toList):t.size<=64:=by rw[zF h];decide
theorem N8{t:ByteArray}(h:C6 t=true):t.size<=64:=agZ (by simp only[C6,beq_iff_eq]at h;rw[h,ByteArray.toList_eq])
theorem Wx{v:VV}(h:lA v=true):v.text.size<=64:=by
 unfold lA at h;split at h
 .simp only[bz]at h;exact N8 h.2
 .split at h
  .simp only[bz]at h;exact N8 h.2
  .split at h
   .exact N8 h
   .split at h
    .simp at h;omega
    .cases h
theorem UJ{cols params:cq}{o:OV}(h:kindOf cols params o≠0)(g:cols.length<=8000000)(j:params.length<=8000000)(n:rN o.value.int):Wl o:=by
 unfold kindOf at h;split at h
 .rename_i d;have d:o.kind=3:=bg
  split at h
  .omega
  .rename_i f;simp only[Bool.or_eq_true,not_or,Bool.not_eq_true',Bool.not_eq_false,bne_iff_ne,ne_eq,Classical.not_not,nK,bz,ce]at f;refine⟨jF aD aD,jF aD aD,?_,n,Wx f.2.1⟩;have c:=f.2.1;unfold lA at c;split at c
   .grind
   .split at c
    .rename_i e;simp at e;exact jF aD aD
    .split at c
     .rename_i e;simp at e;exact jF aD aD
     .split at c
      .rename_i e;simp at e;exact jF aD aD
      .cases c
 .split at h
  .rename_i d;simp at d;exact V6 h j (jF aD aD)
  .split at h
   .rename_i d;simp at d;exact V6 h g (jF aD aD)
   omega
theorem Fy:∀ps:dg,(ps.length:Int)<=Ce ps
 |[]=>by simp[Ce]
 |p::ps=>by
  have:=Fy ps;have:1<=Qc p:=by cases p;rename_i a;have:=Fy a;simp only[Qc];omega
  simp only[Ce,ci];omega
theorem bqZ(p:Pred):1<=Qc p:=by cases p;rename_i a;have:=Fy a;simp only[Qc];omega
mutual
def uU:Pred->Prop
 |.mk _ _ l r args=>rN l.value.int/\rN r.value.int/\Ii args
def Ii:dg->Prop
 |[]=>True
 |p::ps=>uU p/\Ii ps
end
theorem qW:∀{l:dg},Ii l↔∀p∈l,uU p
 |[]=>by simp[Ii]
 |p::ps=>by simp[Ii,qW (l:=ps)]
def QN(q:Query):Prop:=
 match q with
 |.mk _ _ w _ _ _ _ _ args=>uU w/\∀a∈args,QN a
 termination_by SizeOf.sizeOf q
theorem HP{op:Int}{w:Pred}{on:cu}{args:cz}:
 QN (.mk op ta w co on gr od li args)↔uU w/\∀a∈args,QN a:=by rw[QN.eq_def]
mutual
theorem C3.num:∀{p:Pred},C3 p->uU p
 |.mk ..,h=>⟨h.1.int_,h.2.1.int_,E6.num h.2.2⟩
theorem E6.num:∀{l:dg},E6 l->Ii l
 |[],_=>trivial
 |_::_,h=>⟨C3.num h.1,E6.num h.2⟩
end
theorem QW.num:∀{q:Query},QW q->QN q
 |.mk op ta w co on gr od li args,h=>by
  rw[KJ]at h;rw[HP];exact⟨h.1.num,λa c=>QW.num (h.2 a c)⟩
 termination_by q=>SizeOf.sizeOf q
 decreasing_by
  have:=sizeOf_lt_of_mem c;simp only[Query.mk.sizeOf_spec];omega
mutual
theorem T1{cols params:cq}(c:cols.length<=8000000)(d:params.length<=8000000):∀p:Pred,jG cols params p=true->uU p->Qc p<=1000->Ks p
 |.mk op n l r args,h,w,o=>by
  have u:=Fy args;simp only[Qc]at o;unfold jG at h;split at h
  .rename_i e;simp only[bz,FE,beq_iff_eq]at h;have:args=[]:=eq_nil_of_length_eq_zero h.2;subst this;have f:=sW.1 h.1.1.2;have g:=sW.1 h.1.2;subst f g;have j:op=1\/op=2:=bk e
   exact⟨jF aD aD,by rw[h.1.1.1];exact wP,tZ,tZ,ay,trivial⟩
  .split at h
   .rename_i e;simp only[bz,beq_iff_eq,bne_iff_ne,ne_eq,ce]at h;have:args=[]:=eq_nil_of_length_eq_zero h.1.1.1.1;subst this;have j:op=3:=bk e
    exact⟨jF aD aD,jF aD aD,UJ h.1.2 c d w.1,UJ (cols:=cols) (params:=params) aD c d w.2.1,ay,trivial⟩
   .split at h
    .rename_i e;simp only[bz,FE,beq_iff_eq]at h;have f:=sW.1 h.1.1.2;have g:=sW.1 h.1.2;subst f g
     have j:op=4\/op=5\/op=6:=by
      grind
     exact⟨jF aD aD,by rw[h.1.1.1];exact wP,tZ,tZ,aD,Qb c d args h.2 w.2.2 aD⟩
    .cases h
theorem Qb{cols params:cq}(c:cols.length<=8000000)(d:params.length<=8000000):∀ps:dg,wX cols params ps=true->Ii ps->Ce ps<=1000->Px ps
 |[],_,_,_=>trivial
 |p::ps,h,w,e=>by
  simp only[wX,bz]at h;have f:=bqZ p;have g:=Fy ps;simp only[Ce]at e;exact⟨T1 c d p h.1 w.1 aD,Qb c d ps h.2 w.2 aD⟩
end
theorem bZQ{cols params:cq}(h:fX cols params p=0)(c:cols.length<=8000000)(d:params.length<=8000000)(w:uU p):Ks p:=by
 unfold fX at h;split at h
 .cases h
 .split at h
  .cases h
  .rename_i e;split at h
   .cases h
   .rename_i g;have f:jG cols params p=true:=bg
    simp only[Bool.or_eq_true,not_or,ce]at e;have j:=Gq p 0 aD
    have:Qc p<=24:=by
     omega
    exact T1 c d p f w aD
theorem bWX:Ks eJ:=⟨wP,wP,tZ,tZ,az,trivial⟩
def bjZ:Query->Prop
 |.mk _ _ w co on gr od _ _=>Ks w/\(∀n∈co,rN n)/\(∀p∈on,rN p.1/\rN p.2)/\(∀n∈gr,rN n)/\∀p∈od,rN p.1
def QI(q:Query):Prop:=
 match q with
 |.mk op ta w co on gr od li args=>bjZ (.mk op ta w co on gr od li [])/\∀a∈args,QI a
 termination_by SizeOf.sizeOf q
theorem HQ{op:Int}{w:Pred}{on:cu}{args:cz}:
 QI (.mk op ta w co on gr od li args)↔bjZ (.mk op ta w co on gr od li [])/\∀a∈args,QI a:=by rw[QI.eq_def]
theorem BM{α:Type}{T:List α->α->Prop}{l:List α}{P:α->Prop}(h:Good T l)(d:∀c x,T c x->P x):∀x∈l,P x:=λx e=>by
 obtain⟨j,f⟩:=mem_iff_getElem?.1 e;exact d _ _ (h j x f)
theorem UP{n:Int}(c:l.length<=1000)(h:Cg l n=true):rN n:=by
 have:=dZ.1 h;exact jF aD aD
theorem WU{s:jB}{ps:cq}{op ta:Int}{w:Pred}{co:cq}{on:cu}{gr:cq}{od:cv}{li:Int}{args:cz}{a b:cq}(G:a.length<=12)(H:b.length<=12)(o:ps.length<=1000)(u:uU w)(h:(dV s ps (.mk op ta w co on gr od li args) a b).2=0):
 bjZ (.mk op ta w co on gr od li []):=by
 unfold dV at h;dsimp only at h;split at h
 .simp[dP]at h
 .rename_i f;rw[not_or]at f;have y:cH (.mk op ta w co on gr od li args):=Classical.not_not.1 f.2;obtain⟨_,z,A,B,C⟩:=y
  have D:Ks w:=by
   rcases z with rfl|rfl
   .simp only[show¬((2:Int)=1)by decide,if_false,if_true]at h;split at h
    .rename_i e;exact bZQ e aD aD u
    .rename_i e;simp[dP]at h;omega
   .exact bWX
  have E:∀n∈co,rN n:=by
   rcases A with rfl|rfl
   .simp only[show¬((3:Int)=1)by decide,show¬((3:Int)=2)by decide,if_false,if_true]at h;split at h
    .rename_i e;exact BM e.2 λc x t=>UP aD t
    .simp[dP]at h
   grind
  have F:∀p∈on,rN p.1/\rN p.2:=by
   have d:Good (lS a b) on->∀p∈on,rN p.1/\rN p.2:=λg=>BM g λc x t=>⟨UP aD t.1,UP aD t.2.1⟩
   rcases B with rfl|rfl|rfl
   .simp only[show¬((4:Int)=1)by decide,show¬((4:Int)=2)by decide,show¬((4:Int)=3)by decide,if_false,if_true]at h;split at h
    .grind
    .simp[dP]at h
   .simp only[show¬((5:Int)=1)by decide,show¬((5:Int)=2)by decide,show¬((5:Int)=3)by decide,show¬((5:Int)=4)by decide,if_false,if_true]at h;split at h
    .grind
    .simp[dP]at h
   grind
  have j:(∀n∈gr,rN n)/\∀p∈od,rN p.1:=by
   have d:lH a gr od li->(∀n∈gr,rN n)/\∀p∈od,rN p.1:=λr=>⟨BM r.group_ λc x t=>UP aD t.1,BM r.order_ λc x t=>UP aD t⟩
   rcases C with rfl|rfl|⟨rfl,rfl,_⟩
   .simp only[show¬((9:Int)=1)by decide,show¬((9:Int)=2)by decide,show¬((9:Int)=3)by decide,show¬((9:Int)=4)by decide,show¬((9:Int)=5)by decide,if_false,if_true]at h;split at h
    .grind
    .simp[dP]at h
   .simp only[show¬((10:Int)=1)by decide,show¬((10:Int)=2)by decide,show¬((10:Int)=3)by decide,show¬((10:Int)=4)by decide,show¬((10:Int)=5)by decide,show¬((10:Int)=9)by decide,if_false,if_true]at h;split at h
    .grind
    .simp[dP]at h
   grind
  exact⟨D,E,F,j.1,j.2⟩
theorem Ta{s:jB}{ps:cq}(c:ps.length<=1000):∀q:Query,(aJ s ps q).2=0->QN q->QI q
 |.mk op ta w co on gr od li args,h,d=>by
  obtain⟨f,o,a,b,g,j,n⟩:=kG h;rw[HP]at d;rw[HQ];exact⟨WU g j c d.1 n,λq e=>Ta c q (f q e) (d.2 q e)⟩
theorem buQ{s:jB}{ps:cq}(c:ps.length<=1000):∀q:Query,(aJ s ps q).2=0->QW q->QI q
 |q,h,d=>Ta c q h d.num
def Dh(a:Int)(n:Bool)(e:Int):Bool:=if n=true then decide (0<=a)&&decide (a<e)else a==0
def bmZ:Vc.Spec:=λc m h K=>∃a n e,c=[cI a,cB n,cI e]/\K (cB (Dh a n e)) m h
def beX:Vc.Spec:=λc m h K=>∃v p,c=[aP v]/\dO h p v/\∀r:Bool,(r=true↔p=eJ)->K (cB r) m h
def Wg:Vc.Spec:=λc m h K=>∃v t,c=[aT v]/\sY h t v/\∀r:Bool,(r=true↔cH t.query)->K (cB r) m h
noncomputable def a3J(v:vE)(m:MH)(h:PH):Ctx:=
 dD [(221,beX)] [] ([3,5,7,9].map λk=>(k,{A:=Unit,st:=λ_=>bQ 66 67 [(1,.at (.ptr 1 0))] [(1,.cells 123 (v.enc.map .val))] m h})) [] false
def RE(op:Int)(m:MH)(h:PH)(K:cr):Prop:=
  cX (op==1) (K (eV 0) m h) (op==2) (K (eV 1) m h) (cX (op==3) (K (eV 1) m h) (op==9) (K (eV 1) m h) (cX (op==4) (K (eV 2) m h) (op==5) (K (eV 2) m h) (cX (op==6) (K (eV 2) m h) (op==7) (K (eV 2) m h) (cX (op==8) (K (eV 2) m h) (op==10) (K (eV 2) m h) (K (eV (Int.negSucc 0)) m h)))))
def RD(a:Int)(n:Bool)(e:Int)(m:MH)(h:PH)(K:cr):Prop:=
  branch n (gA a 0 (K (AQ (decide (a<e))) m h) (K aZ m h)) (K (AQ (a==0)) m h)
def Q8(v:PV)(m:MH)(h:PH)(K:cr):Prop:=
  dW v.op 0 (dW v.cmp 0 (∃(r:Bool),fH (Er (uN v) r) r (∃(c:Bool),fH (Er (vA v) c) c (K (AQ (mX v==0)) m h) (K aZ m h)) (K aZ m h)) (K aZ m h)) (K aZ m h)
def RC(v:vE)(m:MH)(h:PH)(K:cr):Prop:=
  ∃(I:Unit->Prop),dC v.op 1 (dC v.table 0 (K aZ m h) (∃(x:Unit),aA (I x) eG (aA (lV v) (m=m) (bL h h)))) (∃(x:Unit),aA (I x) eG (aA (lV v) (m=m) (bL h h)))/\∀(x:Unit),I x->∃(I1:Unit->Prop),dC v.op 2 (pE (λf p=>aA (fP (jU v.where_) (jU f)) (dO h p f) (∀(r:Bool),gQ (gI r↔p=JP) (!r) (K aZ m h) (∃(d:Unit),aA (I1 d) eG (aA (lV v) (m=m) (bL h h)))))) (∃(d:Unit),aA (I1 d) eG (aA (lV v) (m=m) (bL h h)))/\∀(d:Unit),I1 d->∃(I2:Unit->Prop),dC v.op 3 (eZ (aH v.columns) 0 (K aZ m h) (∃(e:Unit),aA (I2 e) eG (aA (lV v) (m=m) (bL h h)))) (∃(e:Unit),aA (I2 e) eG (aA (lV v) (m=m) (bL h h)))/\∀(e:Unit),I2 e->∃(I3:Unit->Prop),dC v.op 4 (dC
 v.op 5 (eZ (aH v.on) 0 (K aZ m h) (∃(c:Unit),aA (I3 c) eG (aA (lV v) (m=m) (bL h h)))) (∃(c:Unit),aA (I3 c) eG (aA (lV v) (m=m) (bL h h)))) (∃(c:Unit),aA (I3 c) eG (aA (lV v) (m=m) (bL h h)))/\∀(c:Unit),I3 c->dC v.op 9 (dC v.op 10 (dW (aH v.group) 0 (dW (aH v.order) 0 (K (AQ (v.limit==0)) m h) (K aZ m h)) (K aZ m h)) (gO K m h)) (gO K m h)
theorem Yl:cm 157 PK:=by
 refine iH func157 ?_;rintro d m h K ⟨op,rfl,c⟩;refine⟨dD [] [] [] [] false,rfl,aG,RE op m h K,ax,?_⟩;dsimp only[RE,push_cast]
 repeat' (first|(refine aC (λ_=>?_) (λ_=>?_))|(refine Az c ?_;simp only[arity];simp only[*,Bool.or_false,Bool.false_or,Bool.or_true,Bool.true_or,Bool.and_true,Bool.true_and,Bool.and_false,Bool.false_and,Bool.not_true,Bool.not_false,Bool.false_eq_true,if_true,if_false, ↓reduceIte];done)|(refine Az c ?_;simp only[arity];grind))
theorem Yk:cm 158 bmZ:=by
 refine iH func158 ?_;rintro f m h K ⟨a,n,e,rfl,c⟩;refine⟨dD [] [] [] [] false,rfl,aG,RD a n e m h K,ax,?_⟩;dsimp only[RD,push_cast];unfold Dh at c;refine aC (λd=>?_) (λd=>?_)
 .rw[if_pos d]at c;refine aF (λg=>jD c ?_) (λg=>jD c ?_)
  .grind
  grind
 .rw[if_neg (by simp[d])]at c;exact jD c rfl
theorem XM:cm 221 beX:=by
 refine iH func221 ?_;rintro g m h K ⟨v,p,rfl,j,d⟩;refine⟨dD [] [] [] [] false,rfl,aG,Q8 v m h K,ax,?_⟩;dsimp only[Q8,push_cast];obtain⟨op,n,l,r,args⟩:=p;obtain⟨rfl,rfl,rfl,rfl,o⟩:=j.parts;have u:=JV o.slen;have bad:¬(Pred.mk v.op v.cmp v.left v.right args=eJ)->K (.val (.bool false)) m h:=λx=>d false ⟨λe=>(by cases e),λe=>(x e).elim⟩;simp only[eJ,Pred.mk.injEq]at d bad;refine aC (λy=>aC (λz=>⟨_,Av v.left dG,aC (λc=>⟨_,Av v.right dG,aC (λf=>d _ ?_) (λf=>bad ?_)⟩) (λc=>bad ?_)⟩) (λz=>bad ?_)) (λy=>bad ?_)
 .rw[u];exact⟨λe=>⟨bg,bg,sW.1 c,sW.1 f,e⟩,λe=>e.2.2.2.2⟩
 .grind
 .intro e;rw[sW.2 e.2.2.1]at c;cases c
 .grind
 grind
theorem Yj:cm 159 Wg:=by
 refine iH func159 ?_;rintro J m h K ⟨v,t,rfl,x,g⟩;refine⟨a3J v m h,rfl,aE XM aG,RC v m h K,ax,?_⟩;dsimp only[RC,push_cast];obtain⟨op,ta,w,co,on,gr,od,li,le,R⟩:=t;obtain⟨u,y,z,A,B,C,xs,D,_,_⟩:=x;simp only at u y z A B C xs D;have S:=JV A.slen;have T:=JV B.slen;have U:=JV C.slen;have V:=JV xs.slen;simp only[Step.query,cH]at g;subst u y D;have bad:∀{P:Prop},¬P->((v.op=1\/v.table=0)/\(v.op=2\/w=eJ)/\(v.op=3\/co=[])/\(v.op=4\/v.op=5\/on=[])/\(v.op=9\/v.op=10\/(gr=[]/\od=[]/\v.limit=0))->P)->K (.val (.bool false)) m h:=λj L=>g false ⟨λe=>(by cases e),λe=>(j (L e)).elim⟩;have M:∀{n:Nat}{α:Type}{l:List α},n=l.length->((n:Int)>0↔l≠[]):=fun{n α l} e=>by rw[e,ne_eq, <-length_eq_zero_iff];omega
 refine⟨λ_=>v.op=1\/v.table=0,aC (λd=>aC (λc=>bad (P:=v.op=1\/v.table=0) ?_ λe=>e.1) (λc=>⟨(),.inr bg,MT⟩)) (λd=>⟨(),.inl bg,MT⟩),λ_ E=>?_⟩
 .grind
 refine⟨λ_=>v.op=2\/w=eJ,aC (λd=>⟨v.where_,w,rfl,z,λr F=>aC (λc=>bad (P:=v.op=2\/w=eJ) ?_ λe=>e.2.1) (λc=>⟨(),.inr (F.1 bg),MT⟩)⟩) (λd=>⟨(),.inl bg,MT⟩),λ_ G=>?_⟩
 .rw[not_or];refine⟨bg,λe=>?_⟩;rw[F.2 e]at c;cases c
 refine⟨λ_=>v.op=3\/co=[],aC (λd=>aF (λc=>bad (P:=v.op=3\/co=[]) ?_ λe=>e.2.2.1) (λc=>⟨(),.inr ?_,MT⟩)) (λd=>⟨(),.inl bg,MT⟩),λ_ H=>?_⟩
 .grind
 .grind
 refine⟨λ_=>v.op=4\/v.op=5\/on=[],aC (λd=>aC (λo=>aF (λc=>bad (P:=v.op=4\/v.op=5\/on=[]) ?_ λe=>e.2.2.2.1) (λc=>⟨(),.inr (.inr ?_),MT⟩)) (λo=>⟨(),.inr (.inl bg),MT⟩)) (λd=>⟨(),.inl bg,MT⟩),λ_ I=>?_⟩
 .grind
 .grind
 refine aC (λd=>aC (λc=>?_) (λc=>g true ⟨λ_=>⟨E,G,H,I,.inr (.inl bg)⟩,λ_=>rfl⟩)) (λd=>g true ⟨λ_=>⟨E,G,H,I,.inl bg⟩,λ_=>rfl⟩);have d:v.op≠9:=bg
 have c:v.op≠10:=bg
 have f:¬(gr=[]/\od=[]/\v.limit=0)->K (.val (.bool false)) m h:=λj=>bad j λe=>(e.2.2.2.2.resolve_left d).resolve_left c;refine aC (λO=>aC (λQ=>g _ ?_) (λQ=>f λe=>?_)) (λO=>f λe=>?_)
 .grind
 .grind
 .grind
open Classical in
noncomputable def Uq(a co:cq):cq×Int:=if co≠[]/\Good (λ_ c=>Cg a c=true) co then lF (co.map λc=>a.getD c.toNat 0)else dP 120
def bQJ:Vc.Spec:=λc m h K=>∃s t a co,c=[cS s,cS t]/\Ints h s a/\Ints h t co/\KR K m h (Uq a co)
def Sj:Vc.Spec:=λc m h K=>∃s t u a b on,c=[cS s,cS t,cS u]/\Ints h s a/\Ints h t b/\iD h u on/\a.length<=1000/\b.length<=1000/\∀r:Bool,(r=true↔Good (lS a b) on)->K (cB r) m h
def PA:Vc.Spec:=λc m h K=>∃s v a t,c=[cS s,aT v]/\Ints h s a/\sY h t v/\a.length<=1000/\∀r:Bool,(r=true↔lH a t.group t.order t.limit)->K (cB r) m h
def eB(b:Bool):cn:=[.bool b]
noncomputable def a3Z(s t:Sl)(m:MH)(h:PH):Ctx:=
 dD [] [(4,{A:=Nat,st:=λi=>bQ 51 53 [(0,sv s),(1,sv t),(14,sv t),(15,iv t.len),(16,iv i)] [] m h}),
  (13,{A:=Nat×cq,st:=λ⟨i,l⟩=>bQ 51 53 [(0,sv s),(8,.at (.lst 34)),(35,sv t),(36,iv t.len),(37,iv i)] [(34,.lst 3 1 (l.map eI))] m h})] [] [] false
noncomputable def a3X(s t u:Sl)(m:MH)(h:PH):Ctx:=
 dD [] [(4,{A:=Nat×dm×dm,st:=λ⟨i,x,y⟩=>bQ 75 78 [(0,sv s),(1,sv t),(7,.at (.lst 15)),(8,.at (.lst 18)),(19,sv u),(20,iv u.len),(21,iv i)] [(15,.lst 4 1 (x.map eB)),(18,.lst 4 1 (y.map eB))] m h})] [(9,{A:=Nat×dm×dm×Int×Int,st:=λ⟨i,x,y,a,b⟩=>bQ 75 78 [(0,sv s),(1,sv t),(7,.at (.lst 15)),(8,.at (.lst 18)),(11,iv a),(12,iv b),(19,sv u),(20,iv u.len),(21,iv i)] [(15,.lst 4 1 (x.map eB)),(18,.lst 4 1 (y.map eB))] m h})] [] false
noncomputable def a3Q(s:Sl)(v:vE)(m:MH)(h:PH):Ctx:=
 dD [] [(3,{A:=Nat×dm,st:=λ⟨i,x⟩=>bQ 68 70 [(0,sv s),(3,.at (.ptr 3 0)),(5,.at (.lst 12)),(14,sv v.group),(15,iv v.group.len),(16,iv i)] [(3,.cells 123 (v.enc.map .val)),(12,.lst 4 1 (x.map eB))] m h}),
  (12,{A:=Nat,st:=λi=>bQ 68 70 [(0,sv s),(3,.at (.ptr 3 0)),(43,sv v.order),(44,iv v.order.len),(45,iv i)] [(3,.cells 123 (v.enc.map .val))] m h})] [] [] false
abbrev Ah(a:Sl):Prop:=aH a<=aH a
abbrev CL(a:Nat)(b:Sl)(c:cn)(d:List cn):Prop:=Option.some (Own.lst a 1 (replicate (aH b).toNat c))=Option.some (Own.lst a 1 d)
attribute [push_cast] Ah CL
def RB(s t:Sl)(m:MH)(h:PH)(K:cr):Prop:=
  dW (aH t) 0 (K (CV.tup (bC jQ 120)) m h) (nO (λI x=>aA (I x) (aI s) (aA (aI t) (aI t) (aA (bJ t) (bB x) (aA (m=m) (h=h) True)))) (λI f x=>I x->aX (↑x:Int) (aH t) (bI (λb o=>aA (bK t.a b o) (0<=(↑x:Int)) ((↑x:Int)<aH t/\∃(y:Int),aU m h b (bN o x 1) (bG y)/\aX y 0 (K (CV.tup (bC jQ 120)) m h) (gA y (aH s) (K (CV.tup (bC jQ 120)) m h) (∃(c:Nat),aA (I c) (f c<f x) (aA (aI s) (aI t) (aA (aI t) (bJ t) (aA (bD (gG (bF x 1)) c) (m=m) (bL h h))))))))) (eZ (aH t) 12 (K (CV.tup (bC jQ 2)) m h) (aA (bV (aH t)) (Ah t) (aA (uI t 8) (vB (aH t)) (Jz (λI1 c=>aA (I1 c) (aI s) (aA (eL 34) (aI t) (aA (bJ t) (bB c.1) (aA (CL 3 t (lD cW) (mW c)) (m=m)
 (bL h h))))) (λI1 g c=>I1 c->aX (↑c.1:Int) (aH t) (bI (λb o=>aA (bK t.a b o) (0<=(↑c.1:Int)) ((↑c.1:Int)<aH t/\∃(y:Int),aU m h b (bN o c.1 1) (bG y)/\bI (λj n=>aA (bK s.a j n) (0<=y) (y<aH s/\∃(u:Int),EA (aU m h j (fT n y 1) (bG u)) 0 (↑c.1:Int) (mW c) (λe=>aA (mI (mW c) (↑c.1:Int) e) (0<e.length) (∃(d:Nat×cq),aA (I1 d) (g d<g c) (aA (aI s) (eL 34) (aA (aI t) (bJ t) (aA (bD (gG (bF c.1 1)) d.1) (Option.some (Own.lst 3 1 (List.set (mW c) (↑c.1:Int).toNat (kW (eN u) 1 e)))=Option.some (Own.lst 3 1 (mW d))) (bP (m=m) h h))))))))))) (sN h (mW c) K m))))))))
noncomputable abbrev oV(a:dm):List cn:=List.map eB a
noncomputable abbrev vU(a:Nat×dm×dm×Int×Int):Int:=a.2.2.2.1
noncomputable abbrev vV(a:Nat×dm×dm×Int×Int):Int:=a.2.2.2.2
noncomputable abbrev Es(a:Nat×dm×dm×Int×Int):List cn:=oV a.2.2.1
attribute [push_cast] oV vU vV Es
def RA(s t u:Sl)(m:MH)(h:PH)(K:cr):Prop:=
  aA (bV (aH s)) (Ah s) (aA (uI s 1) (vB (aH s)) (aA (bV (aH t)) (Ah t) (aA (uI t 1) (vB (aH t)) (∃(I:Nat×dm×dm->Prop)(j:Nat×dm×dm->Nat),(∃(x:Nat×dm×dm),aA (I x) (aI s) (aA (aI t) (eL 15) (aA (eL 18) (aI u) (aA (bJ u) (bB x.1) (uZ (CL 4 s (lD tO) (oV x.2.1)) (CL 4 t (lD tO) (oV x.2.2)) (m=m) h h)))))/\∀(x:Nat×dm×dm),I x->aX (↑x.1:Int) (aH u) (bI (λb o=>aA (bK u.a b o) (0<=(↑x.1:Int)) ((↑x.1:Int)<aH u/\∃(y:Int×Int),aA (aU m h b (bN o x.1 2) (uH y)) (bV 0) (aA Bf (bV 1) (Bg/\∃(I1:Nat×dm×dm×Int×Int->Prop),aX y.1 0 (K aZ m h) (gA y.1 (aH s) (K aZ m h) (aX y.2 0 (K
 aZ m h) (gA y.2 (aH t) (K aZ m h) (∃(c:Nat×dm×dm×Int×Int),aA (I1 c) (aI s) (aA (aI t) (eL 15) (aA (eL 18) (dR y.1 (vU c)) (aA (dR y.2 (vV c)) (aI u) (aA (bJ u) (cO x.1 c.1) (aA (Option.some (Own.lst 4 1 (oV x.2.1))=Option.some (Own.lst 4 1 (oV c.2.1))) (Option.some (Own.lst 4 1 (oV x.2.2))=Option.some (Own.lst 4 1 (Es c))) (bP (m=m) h h))))))))))/\∀(c:Nat×dm×dm×Int×Int),I1 c->bI (λn z=>aA (bK s.a n z) (0<=vU c) (vU c<aH s/\∃(A:Int),aU m h n (fT z (vU c) 1) (bG A)/\bI (λB C=>aA (bK t.a B C) (0<=vV c) (vV c<aH t/\∃(D:Int),aU m h B (fT C (vV c) 1) (bG D)/\dC A D (K aZ m h) (rW (vU c) (vU c<
 iZ (oV c.2.1)) (λe=>mI (oV c.2.1) (vU c) e/\∃(E:Bool),fH (pN 1 e (uO E)) E (K aZ m h) (rW (vV c) (vV c<iZ (Es c)) (λF=>mI (Es c) (vV c) F/\∃(G:Bool),fH (pN 1 F (uO G)) G (K aZ m h) (rW (vU c) (vU c<iZ (oV c.2.1)) (λf=>aA (mI (oV c.2.1) (vU c) f) (0<f.length) (aA (bV (vV c)) (vV c<iZ (Es c)) (∃(g:cn),aA (mI (Es c) (vV c) g) (0<g.length) (∃(d:Nat×dm×dm),aA (I d) (j d<j x) (aA (aI s) (aI t) (aA (eL 15) (eL 18) (aA (aI u) (bJ u) (aA (bD (gG (bF c.1 1)) d.1) (Option.some (Own.lst 4 1 (List.set (oV c.2.1) (vU c).toNat (kW AX 1 f)))=Option.some (Own.lst 4 1 (oV
 d.2.1))) (aA (Option.some (Own.lst 4 1 (List.set (Es c) (vV c).toNat (kW AX 1 g)))=Option.some (Own.lst 4 1 (oV d.2.2))) (m=m) (bL h h)))))))))))))))))))))))) (gO K m h)))))
def Rz(s:Sl)(v:vE)(m:MH)(h:PH)(K:cr):Prop:=
  aA (bV (aH s)) (Ah s) (aA (uI s 1) (vB (aH s)) (∃(I:Nat×dm->Prop)(g:Nat×dm->Nat),(∃(x:Nat×dm),aA (I x) (aI s) (aA cG (eL 12) (aA (aI v.group) (bJ v.group) (aA (bB x.1) (lV v) (bO (CL 4 s (lD tO) (oV x.2)) (m=m) (h=h))))))/\∀(x:Nat×dm),I x->aX (↑x.1:Int) (aH v.group) (bI (λb o=>aA (bK v.group.a b o) (0<=(↑x.1:Int)) ((↑x.1:Int)<aH v.group/\∃(y:Int),aU m h b (bN o x.1 1) (bG y)/\aX y 0 (K aZ m h) (gA y (aH s) (K aZ m h) (rW y (y<iZ (oV x.2)) (λe=>mI (oV x.2) y e/\∃(j:Bool),fH (pN 1 e (uO j)) j (K aZ m h) (rW y (y<iZ (oV x.2)) (λd=>aA (mI (oV x.2) y d) (0<d.length) (∃(c:Nat×dm),aA (I c)
 (g c<g x) (aA (aI s) cG (aA (eL 12) (aI v.group) (aA (bJ v.group) (bD (gG (bF x.1 1)) c.1) (uZ (lV v) (Option.some (Own.lst 4 1 (List.set (oV x.2) y.toNat (kW AX 1 d)))=Option.some (Own.lst 4 1 (oV c.2))) (m=m) h h))))))))))))) (eZ (aH v.order) 12 (K aZ m h) (nO (λI1 c=>aA (I1 c) (aI s) (aA cG (aI v.order) (aA (bJ v.order) (bB c) (aA (lV v) (m=m) (bL h h))))) (λI1 n c=>I1 c->aX (↑c:Int) (aH v.order) (bI (λb o=>aA (bK v.order.a b o) (0<=(↑c:Int)) ((↑c:Int)<aH v.order/\∃(y:Int×Bool),aU m h b (bN o c 2) (z7 y)/\aX y.1 0 (K aZ m h) (gA y.1 (aH s) (K aZ m h) (∃(f:Nat),aA (I1 f) (n f<n c) (aA (aI s) cG (aA (aI v.order) (bJ v.order) (aA (bD (gG (bF c 1)) f)
 (lV v) (bP (m=m) h h))))))))) (gA v.limit 0 (K (AQ (decide (v.limit<=100))) m h) (K aZ m h)))))))
theorem KR.bad{r:cq×Int}{e:Int}(c:KR K m h r)(d:r=dP e):K (.tup [.val (.slice none 0 0),.val (.int .i64 e)]) m h:=c.err (.refl _) d
theorem Yi:cm 160 bQJ:=by
 refine iH func160 ?_;rintro I m h K ⟨s,t,a,co,rfl,E,x,n⟩;refine⟨a3Z s t m h,rfl,aG,RB s t m h K,ax,?_⟩;dsimp only[RB,push_cast];have U:=E.slen;have y:=x.slen;have F:=x.len;unfold Uq at n;refine aC (λG=>n.bad (if_neg λe=>e.1 ((JV x.slen).1 G))) (λG=>?_);have z:co≠[]:=λe=>bg
 refine⟨λi=>i<=co.length/\fJ (λ_ c=>Cg a c=true) co i,λi=>co.length-i,⟨0,⟨aD,.zero⟩,MT⟩,λi⟨V,H⟩=>aF (λd=>?_) (λA=>?_)⟩
 .obtain⟨c,j⟩:=eU y d;obtain⟨b,o,e,r⟩:=x.at' j;refine⟨b,o,e,aD,d,c,.imm r,aF (λB=>n.bad (if_neg λg=>?_)) (λB=>aF (λJ=>n.bad (if_neg λg=>?_)) (λJ=>⟨i+1,⟨aD,H.succ j (dZ.2 ⟨aD,aD⟩)⟩,bg,MT⟩))⟩
  .have:=dZ.1 (g.2 i c j);omega
  .have:=dZ.1 (g.2 i c j);omega
 have f:=H.all aD;rw[if_pos ⟨z,f⟩]at n;refine aF (λB=>n.big (.refl _) rfl bf) (λB=>⟨aD,aD,aD,aD,?_⟩);refine⟨λ⟨i,l⟩=>i<=co.length/\l=((co.take i).map λc=>a.getD c.toNat 0)++replicate (co.length-i) 0,λ⟨i,_⟩=>co.length-i,⟨(0,replicate co.length 0),⟨aD,ay⟩,?_⟩,?_⟩
 .have:List.map eI (replicate co.length (0:Int))=replicate (Int.toNat (t.len:Int)) [eN 0]:=by rw[map_replicate,Int.toNat_natCast,y];rfl
  grind
 rintro⟨i,l⟩ ⟨L,rfl⟩;dsimp only;refine aF (λd=>?_) (λA M h' C W=>n.ok C rfl bf ?_)
 .obtain⟨c,j⟩:=eU y d;obtain⟨b,o,e,r⟩:=x.at' j;have u:=dZ.1 (f i c j);obtain⟨O,P,Q,R⟩:=E.inb u.1 u.2;refine⟨b,o,e,aD,d,c,.imm r,O,P,Q,u.1,aD,a.getD c.toNat 0,.imm R,aD,bf,eI 0,?_,by simp[eI],(i+1,((co.take (i+1)).map λc=>a.getD c.toNat 0)++replicate (co.length-(i+1)) 0),⟨aD,rfl⟩,aD,?_⟩
  .grind
  .have S:co.length-i=(co.length-(i+1))+1:=by omega
   have T:(List.map eI (((co.take i).map λc=>a.getD c.toNat 0)++replicate (co.length-i) 0)).set (Int.toNat (i:Int)) (eN (a.getD c.toNat 0)::([]++List.drop 1 (eI 0)))=List.map eI (((co.take (i+1)).map λc=>a.getD c.toNat 0)++replicate (co.length-(i+1)) 0):=by
    have X:((co.take i).map λc=>a.getD c.toNat 0).length=i:=bf
    rw[S,replicate_succ,cd,j,Int.toNat_natCast];simp only[bw,map_cons];have D:(List.map eI ((co.take i).map λc=>a.getD c.toNat 0)).length=i:=bg
    rw[set_append_right _ _ aD,D,Nat.sub_self];simp[eI]
   rw[<-T];exact MT
 .have:i=co.length:=by omega
  subst this
  grind
structure Seen(n:Nat)(x:dm)(l:cq):Prop where
 len:x.length=n
 iff:∀k:Nat,k<n->(x[k]? =some true↔(k:Int)∈l)
theorem Seen.zero(n:Nat):Seen n (replicate n false) []:=⟨ay,λk c=>bg⟩
theorem Seen.map0{n:Nat}{s:Sl}(h:s.len=n):List.map eB (replicate n false)=replicate (Int.toNat (s.len:Int)) [Value.bool false]:=by rw[map_replicate,Int.toNat_natCast,h];rfl
theorem Seen.look{n:Nat}{x:dm}(h:Seen n x l){c:Int}(d:0<=c)(e:c<n):∃y,(List.map eB x)[c.toNat]? =some (eB y)/\(y=true↔c∈l):=by
 have f:=h.len;have g:c.toNat<x.length:=by omega
 refine⟨x[c.toNat],bg,?_⟩;have:=h.iff c.toNat aD
 grind
theorem Seen.set{n:Nat}{x:dm}(h:Seen n x l){c:Int}(f:0<=c)(g:c<n):Seen n (x.set c.toNat true) (l++[c]):=by
 refine⟨bk h.len,λk d=>?_⟩;have j:=h.len;rw[getElem?_set,mem_append,mem_singleton];by_cases e:c.toNat=k
 .grind
 .rw[if_neg e,h.iff k d]
  grind
theorem Seen.cells(x:dm)(k:Nat)(y:Bool):(List.map eB x).set k (Value.bool true::([]++List.drop 1 (eB y)))=List.map eB (x.set k true):=by rw[map_set];rfl
theorem Yh:cm 161 Sj:=by
 refine iH func161 ?_;rintro T m h K ⟨s,t,u,a,b,on,rfl,I,J,F,al,bl,L⟩;refine⟨a3X s t u m h,rfl,aG,RA s t u m h K,ax,?_⟩;dsimp only[RA,push_cast];have U:=I.slen;have V:=J.slen;have W:=F.slen;have G:=F.len;refine⟨aD,aD,aD,aD,aD,aD,aD,aD,?_⟩;refine⟨λ⟨i,x,y⟩=>i<=on.length/\fJ (lS a b) on i/\Seen a.length x ((on.take i).map λp=>p.1)/\Seen b.length y ((on.take i).map λp=>p.2),λ⟨i,_,_⟩=>on.length-i,⟨(0,replicate a.length false,replicate b.length false),⟨aD,.zero,.zero _,.zero _⟩,?_⟩,?_⟩
 .rw[Seen.map0 U,Seen.map0 V];exact MT
 rintro⟨i,x,y⟩ ⟨X,H,A,B⟩;dsimp only at X H A B⊢
 refine aF (λn=>?_) (λY=>L true ⟨λ_=>H.all aD,λ_=>rfl⟩);obtain⟨p,o⟩:=eU W n;obtain⟨Z,o1,e1,r1⟩:=F.at o;have bad:¬lS a b (on.take i) p->K (.val (.bool false)) m h:=λhn=>L false ⟨λe=>(by cases e),λe=>(Good.not o hn e).elim⟩;refine⟨Z,o1,e1,aD,n,p,.imm r1,aD,aD,aD,aD,λ⟨i',x',y',c,d⟩=>i'=i/\x'=x/\y'=y/\c=p.1/\d=p.2/\Cg a p.1=true/\Cg b p.2=true,?_,?_⟩
 .refine aF (λz=>bad λg=>?_) (λz=>aF (λC=>bad λg=>?_) (λC=>aF (λD=>bad λg=>?_) (λD=>aF (λh4=>bad λg=>?_) (λh4=>⟨(i,x,y,p.1,p.2),⟨rfl,rfl,rfl,rfl,rfl,dZ.2 ⟨aD,aD⟩,dZ.2 ⟨aD,aD⟩⟩,MT⟩))))
  .have:=dZ.1 g.1;omega
  .have:=dZ.1 g.1;omega
  .have:=dZ.1 g.2.1;omega
  .have:=dZ.1 g.2.1;omega
 rintro⟨i,x,y,c,d⟩ ⟨rfl,rfl,rfl,rfl,rfl,M,O⟩;dsimp only;have f:=dZ.1 M;have j:=dZ.1 O;obtain⟨b2,o2,e2,r2⟩:=I.inb f.1 f.2;obtain⟨b3,o3,e3,r3⟩:=J.inb j.1 j.2;obtain⟨P,Q,q1⟩:=A.look f.1 f.2;obtain⟨R,S,q2⟩:=B.look j.1 j.2;have lx:=A.len;have ly:=B.len;refine⟨b2,o2,e2,f.1,aD,_,.imm r2,b3,o3,e3,j.1,aD,_,.imm r3,aC (λz=>bad λg=>?_) (λz=>⟨f.1,bf,_,Q,P,rfl,aC (λC=>bad λg=>?_) (λC=>⟨j.1,bf,_,S,R,rfl,aC (λD=>bad λg=>?_) (λD=>?_)⟩)⟩)⟩
 .rw[g.2.2.1]at z;simp at z
 .obtain⟨q,E,e⟩:=mem_map.1 (q1.1 C);exact(g.2.2.2 q E).1 e
 .obtain⟨q,E,e⟩:=mem_map.1 (q2.1 D);exact(g.2.2.2 q E).2 e
 refine⟨f.1,bf,_,Q,by simp[eB],j.1,bf,_,S,by simp[eB],(i+1,x.set p.1.toNat true,y.set p.2.toNat true),⟨aD,H.succ o ⟨M,O,bg,λq E=>⟨λe=>?_,λe=>?_⟩⟩,?_,?_⟩,aD,?_⟩
 .grind
 .grind
 .rw[cd,o,bw];exact A.set f.1 f.2
 .rw[cd,o,bw];exact B.set j.1 j.2
 .rw[<-Seen.cells x p.1.toNat P, <-Seen.cells y p.2.toNat R];exact MT
theorem Yg:cm 163 PA:=by
 refine iH func163 ?_;rintro S m h K ⟨s,v,a,t,rfl,T,x,al,O⟩;refine⟨a3Q s v m h,rfl,aG,Rz s v m h K,ax,?_⟩;dsimp only[Rz,push_cast];have U:=T.slen;have V:=x.group_.slen;have W:=x.order_.slen;have P:=x.group_.len;have Q:=x.order_.len;have X:=x.limit_;have bad:¬lH a t.group t.order t.limit->K (.val (.bool false)) m h:=λA=>O false ⟨λe=>(by cases e),λe=>(A e).elim⟩;refine⟨aD,aD,aD,aD,?_⟩;refine⟨λ⟨i,u⟩=>i<=t.group.length/\fJ (E9 a) t.group i/\Seen a.length u (t.group.take i),λ⟨i,_⟩=>t.group.length-i,⟨(0,replicate a.length false),⟨aD,.zero,.zero _⟩,?_⟩,?_⟩
 .rw[Seen.map0 U];exact MT
 rintro⟨i,u⟩ ⟨G,E,B⟩;dsimp only at G E B⊢
 have Y:=B.len;refine aF (λd=>?_) (λC=>?_)
 .obtain⟨c,j⟩:=eU V d;obtain⟨H,I,J,L⟩:=x.group_.at' j;have f:¬E9 a (t.group.take i) c->K (.val (.bool false)) m h:=λA=>bad λo=>Good.not j A o.group_;refine⟨H,I,J,aD,d,c,.imm L,aF (λM=>f λg=>?_) (λM=>aF (λz=>f λg=>?_) (λz=>?_))⟩
  .have:=dZ.1 g.1;omega
  .have:=dZ.1 g.1;omega
  obtain⟨y,R,Z⟩:=B.look (c:=c) aD aD;refine⟨aD,bf,_,R,y,rfl,aC (λF=>f λg=>g.2 (Z.1 F)) (λF=>⟨aD,bf,_,R,by simp[eB],(i+1,u.set c.toNat true),⟨aD,E.succ j ⟨dZ.2 ⟨aD,aD⟩,λe=>?_⟩,?_⟩,aD,?_⟩)⟩
  .grind
  .rw[cd,j];exact B.set aD aD
  .rw[<-Seen.cells u c.toNat y];exact MT
 have gg:=E.all aD;clear G E C B Y;refine aF (λM=>bad λo=>by have:=o.len_;omega) (λM=>?_);refine⟨λi=>i<=t.order.length/\fJ (Il a) t.order i,λi=>t.order.length-i,⟨0,⟨aD,.zero⟩,MT⟩,λi⟨G,D⟩=>aF (λd=>?_) (λC=>?_)⟩
 .obtain⟨c,j⟩:=eU W d;obtain⟨H,I,J,L⟩:=x.order_.at j;have n:¬Il a (t.order.take i) c->K (.val (.bool false)) m h:=λA=>bad λo=>Good.not j A o.order_;refine⟨H,I,J,aD,d,c,.imm L,aF (λz=>n λg=>?_) (λz=>aF (λF=>n λg=>?_) (λF=>⟨i+1,⟨aD,D.succ j (dZ.2 ⟨aD,aD⟩)⟩,bg,MT⟩))⟩
  .have:=dZ.1 (show Cg a c.1=true from g);omega
  .have:=dZ.1 (show Cg a c.1=true from g);omega
 have oo:=D.all aD;rw[X];refine aF (λz=>O _ ⟨λe=>⟨gg,oo,aD,z,bk e⟩,λe=>decide_eq_true e.high⟩) (λz=>bad λo=>by have:=o.low;omega)
def Cj(ks:List cq)(a:Int)(n:Bool):cq:=if n=true then ks.getD a.toNat []else[]
noncomputable def Co(s:jB)(ks:List cq)(t:Step):cq×Int:=
 if arity t.op<0\/Dh t.left (decide (arity t.op>0)) ks.length=false\/Dh t.right (decide (arity t.op>1)) ks.length=false then dP 120
 else if(dV s [] t.query (Cj ks t.left (decide (arity t.op>0))) (Cj ks t.right (decide (arity t.op>1)))).2=100 then dP 120
 else dV s [] t.query (Cj ks t.left (decide (arity t.op>0))) (Cj ks t.right (decide (arity t.op>1)))
def PI:Vc.Spec:=λc m h K=>∃sc d v s e ks t,c=[aS sc,cS d,aT v]/\iA h s sc/\mC s/\sY h t v/\dE m d 33 1 (e.map eS)/\Slices h e ks/\(∀k∈ks,k.length<=12)/\∀r,fin r=Co s ks t->KR K m h r
noncomputable def bwZ(sc:bW)(kk:Sl)(v:vE)(m:MH)(h:PH):Ctx:=
 dD [(157,PK),(158,bmZ),(159,Wg),(139,yJ),(156,tV),(160,bQJ),(161,Sj),(162,Cd),(163,PA),(164,Kt),(136,NA)] [] [(4,{A:=Int,st:=λn=>bQ 132 135 [(1,sv kk),(3,.at (.ptr 3 0)),(5,.at (.ptr 5 0)),(8,iv n)] [(3,.cells 43 (sc.enc.map .val)),(5,.cells 123 (v.enc.map .val))] m h}),
  (9,{A:=Int×Sl,st:=λ⟨n,l⟩=>bQ 132 135 [(1,sv kk),(3,.at (.ptr 3 0)),(5,.at (.ptr 5 0)),(8,iv n),(9,sv l),(10,.at (.val (.slice none 0 0)))] [(3,.cells 43 (sc.enc.map .val)),(5,.cells 123 (v.enc.map .val))] m h}),
  (11,{A:=Sl×Sl,st:=λ⟨l,r⟩=>bQ 132 135 [(3,.at (.ptr 3 0)),(5,.at (.ptr 5 0)),(9,sv l),(10,sv r)] [(3,.cells 43 (sc.enc.map .val)),(5,.cells 123 (v.enc.map .val))] m h}),
  (34,{A:=Sl×Sl×Bool,st:=λ⟨l,r,b⟩=>bQ 132 135 [(5,.at (.ptr 5 0)),(9,sv l),(10,sv r),(11,bv b)] [(5,.cells 123 (v.enc.map .val))] m h})] [] false
abbrev Cx(a:Bool)(b:Prop)(c:Sl×Sl×Bool->Prop)(d:Sl×Sl)(e:vE)(g:MH)(i:PH):Prop:=(gI a↔b)->∃(x:Sl×Sl×Bool),aA (c x) dN (aA (bS d.1 x.1) (bS d.2 x.2.1) (aA (kV a x.2.2) (lV e) (aA (g=g) (i=i) True)))
attribute [push_cast] Cx
def OH(sc:bW)(kk:Sl)(v:vE)(m:MH)(h:PH)(K:cr):Prop:=
  ∃(o:Int),kU v.op o/\∃(I:Int->Prop),aX (arity o) 0 (K (CV.tup (bC jQ 120)) m h) (∃(a:Int)(n:Bool)(e:Int),fH (eV v.left::bC (AQ (decide (arity o>0))) (aH kk)=eV a::bC (AQ n) e) (!(Dh a n e)) (K (CV.tup (bC jQ 120)) m h) (∃(C:Int)(G:Bool)(H:Int),fH (eV v.right::bC (AQ (decide (arity o>1))) (aH kk)=eV C::bC (AQ G) H) (!(Dh C G H)) (K (CV.tup (bC jQ 120)) m h) (∃(x:Int),aA (I x) (aI kk) (aA cG dN (aA (dR (arity o) x) (cM sc) (aA (lV v) (m=m) (bL h h)))))))/\∀(x:Int),I x->Oh (λJ t=>aA (fP (fM v.enc) (fM J.enc)) (sY h t J) (∀(r:Bool),gQ (gI r↔cH (Query.mk t.op t.table t.wher t.columns t.on t.group t.order t.limit [])) (!r) (K (CV.tup (bC jQ 120)) m h) (∃(I1:Int×Sl->Prop),eZ x 0
 (eA kk.a v.left kk (λb B y=>aU m h b (fT B v.left 1) (aY y)/\∃(z:Int×Sl),aA (I1 z) (aI kk) (aA cG dN (aA (dR x z.1) (bS y z.2) (aA (eQ sQn) (cM sc) (bO (lV v) (m=m) (h=h))))))) (∃(z:Int×Sl),aA (I1 z) (aI kk) (aA cG dN (aA (dR x z.1) (sQn=sQs z.2) (aA (eQ sQn) (cM sc) (bO (lV v) (m=m) (h=h))))))/\∀(z:Int×Sl),I1 z->∃(I2:Sl×Sl->Prop),eZ z.1 1 (eA kk.a v.right kk (λb B y=>aU m h b (fT B v.right 1) (aY y)/\∃(d:Sl×Sl),aA (I2 d) cG (aA dN (bS z.2 d.1) (aA (bS y d.2) (cM sc) (aA (lV v) (m=m) (bL h h)))))) (∃(d:Sl×Sl),aA (I2 d) cG (aA dN (bS z.2 d.1) (aA (sQn=sQs d.2) (cM sc) (aA (lV v) (m=m) (bL h h)))))/\∀(d:Sl×Sl),I2 d->∃(I3
 :Sl×Sl×Bool->Prop),cX (v.op==1) (aX v.table 0 (K (CV.tup (bC jQ 120)) m h) (gA v.table (lW sc) (K (CV.tup (bC jQ 120)) m h) (Cw (bC (fM (cD sc)) v.table) h (λs A=>mD K s m A)))) (v.op==2) (D9 (dJ d.1 (gZ jQ (fM v.where_.enc))) h (λc p L=>dC (fX c p L) 0 (K (CV.tup (bC jQ (fX c p L))) m h) (∃(f:Sl×Sl×Bool),aA (I3 f) dN (aA (bS d.1 f.1) (bS d.2 f.2.1) (aA (yY f.2.2) (lV v) (aA (m=m) (h=h) True)))))) (cX (v.op==3) (∃(s:Sl),y9 (λg a c=>aA (cV d.1 v.columns=cV s g) (Ints h s a) (Ints h g c/\jJ (λD A=>cZ h A (Ints A D (Uq a c).1) (K (CV.tup (jA D (CV.val (eN (Uq a c).2)))) m A))))) (v.op==4) (nA (λs g=>y9 (λu a b=>∃(B:cu),aA (dJ d.1 (cV d.2
 v.on)=dJ s (cV g u)) (Ints h s a) (aA (Ints h g b) (iD h u B) (aA (fO a) (fO b) (∀(j:Bool),Cx j (Good (lS a b) B) I3 d v m h)))))) (cX (v.op==5) (nA (λs g=>y9 (λu a b=>∃(B:cu),aA (dJ d.1 (cV d.2 v.on)=dJ s (cV g u)) (Ints h s a) (aA (Ints h g b) (iD h u B) (aA (fO a) (fO b) (∀(j:Bool),Cx j (Good (lS a b) B) I3 d v m h)))))) (v.op==6) (zS d.1 d.2 h (λa b j=>Cx j (a=b) I3 d v m h)) (cX (v.op==7) (zS d.1 d.2 h (λa b j=>Cx j (a=b) I3 d v m h)) (v.op==8) (zS d.1 d.2 h (λa b j=>Cx j (a=b) I3 d v m h)) (cX (v.op==9) (∃(s:Sl)(E:vE)(a:cq)(g:Step),aA (jA d.1 (fM v.enc)=jA s (fM E.enc)) (Ints h s a) (aA (sY h g E) (fO a) (∀(j:
 Bool),Cx j (lH a g.group g.order g.limit) I3 d v m h))) (v.op==10) (zS d.1 d.2 h (λa b j=>gQ (gI j↔a=b) j (∃(s:Sl)(E:vE)(C:cq)(g:Step),aA (jA d.1 (fM v.enc)=jA s (fM E.enc)) (Ints h s C) (aA (sY h g E) (fO C) (∀(P:Bool),Cx P (lH C g.group g.order g.limit) I3 d v m h))) (∃(f:Sl×Sl×Bool),aA (I3 f) dN (aA (bS d.1 f.1) (bS d.2 f.2.1) (aA (Da f.2.2) (lV v) (aA (m=m) (h=h) True)))))) (∃(f:Sl×Sl×Bool),aA (I3 f) dN (aA (bS d.1 f.1) (bS d.2 f.2.1) (aA (yY f.2.2) (lV v) (aA (m=m) (h=h) True))))))))/\∀(f:Sl×Sl×Bool),I3 f->cX (!f.2.2) (K (CV.tup (bC jQ 120)) m h) (v.op==4) (bU h 1 (jV (aY f.1) (aY f.2.1)) (λs A=>∃(D:Sl)(k:List cq),aA
 (rB s=rB D) (b7X A D k) (aA (k.length<=10) (∀(M:cq),List.Mem M k->M.length<=12) (jJ (λO F=>cZ A F (Ints F O k.flatten) (mD K O m F)))))) (vR f.1 h (λl=>jJ (λs A=>cZ h A (Ints A s l) (mD K s m A)))))))
theorem dE.rdAt{m:MH}{h:PH}{s:Sl}{E sz:Nat}{xs:List cn}(r:dE m s E sz xs){i:Nat}{e:cn}(d:xs[i]? =some e):∃b o,s.a=some ⟨b,o,none⟩/\aU m h b (o+i*sz) e:=by
 rcases r.ex with⟨_,rfl⟩|⟨b,g,c,rfl,n,_,_,_,u⟩
 .simp at d
 .refine⟨b,0,rfl,.lent c E (0,0) n ?_⟩;apply ext_getElem?;intro j;rw[getElem?_take];by_cases f:j<e.length
  .rw[if_pos f,getElem?_drop,Nat.zero_add];have x:=mO r.rows.len d j e[j] (bo f)
   grind
  grind
theorem ZG{kk:Sl}{c:da}(r:dE m kk 33 1 (c.map eS))(g:Slices h c ks){a:Int}(j:0<=a)(n:a<ks.length):∃b o sl,kk.a=some ⟨b,o,none⟩/\aU m h b (o+a.toNat*1) [.slice sl.a sl.len sl.cap]/\Ints h sl (ks.getD a.toNat []):=by
 have d:a.toNat<ks.length:=by omega
 have f:a.toNat<c.length:=by rw[g.1];exact d
 obtain⟨b,o,e,rd⟩:=dE.rdAt (h:=h) r (i:=a.toNat) (e:=eS c[a.toNat]) bg;refine⟨b,o,c[a.toNat],e,rd,?_⟩;rw[getD_eq_getElem?_getD,bo d];exact g.2 a.toNat _ _ (bo f) (bo d)
theorem V7(h:∀k∈ks,k.length<=12)(a:Int)(n:Bool):(Cj ks a n).length<=12:=by
 unfold Cj
 grind
open Classical in
theorem b3J{sc:bW}{kk:Sl}{v:vE}{s:jB}{ss:da}{ks:List cq}{t:Step}{m:MH}{h:PH}{K:cr}(hs:iA h s sc)(h8:mC s)(x:sY h t v)(hr:dE m kk 33 1 (ss.map eS))(U:Slices h ss ks)(Y:∀k∈ks,k.length<=12)
 (Z:∀r,fin r=Co s ks t->KR K m h r):OH sc kk v m h K:=by
 dsimp only[OH,push_cast];have F:Tst K m h (Co s ks t):=⟨Z⟩
 clear Z
 have kl:kk.len=ks.length:=by
  have:=dE.slen hr;rw[length_map]at this;rw[this,U.1]
 have ex:=x;have a9:=hs.tables.slen;obtain⟨op,ta,w,co,on,gr,od,li,le,ri⟩:=t;obtain⟨e0,e1,xw,xc,xo,xg,xs,e2,e3,e4⟩:=x;simp only at e0 e1 xw xc xo xg xs e2 e3 e4;subst e0 e1 e2 e3 e4;have a':=V7 Y v.left (decide (arity v.op>0));have a5:=V7 Y v.right (decide (arity v.op>1))
 have d:Co s ks ⟨v.op,v.table,w,co,on,gr,od,v.limit,v.left,v.right⟩=if arity v.op<0\/Dh v.left (decide (arity v.op>0)) ks.length=false\/Dh v.right (decide (arity v.op>1)) ks.length=false then dP 120
  else if(dV s [] (.mk v.op v.table w co on gr od v.limit []) (Cj ks v.left (decide (arity v.op>0))) (Cj ks v.right (decide (arity v.op>1)))).2=100 then dP 120
  else dV s [] (.mk v.op v.table w co on gr od v.limit []) (Cj ks v.left (decide (arity v.op>0))) (Cj ks v.right (decide (arity v.op>1))):=rfl
 generalize hA:Cj ks v.left (decide (arity v.op>0))=A at d a';generalize hB:Cj ks v.right (decide (arity v.op>1))=B at d a5;generalize Co s ks ⟨v.op,v.table,w,co,on,gr,od,v.limit,v.left,v.right⟩=R at F d;refine⟨v.op,rfl,λn=>n=arity v.op/\¬(arity v.op<0\/Dh v.left (decide (arity v.op>0)) ks.length=false\/Dh v.right (decide (arity v.op>1)) ks.length=false),aF (λC=>F.err bg az (.refl _)) (λC=>⟨v.left,_,(kk.len:Int),rfl,aC (λh2=>?_) (λh2=>⟨v.right,_,(kk.len:Int),rfl,aC (λh3=>?_) (λh3=>⟨arity v.op,⟨rfl,?_⟩,MT⟩)⟩)⟩),?_⟩
 .rw[kl]at h2;exact F.err bg az (.refl _)
 .rw[kl]at h3;exact F.err bg az (.refl _)
 .grind
 rintro n ⟨rfl,a0⟩;rw[if_neg a0]at d;have P:¬arity v.op<0:=λe=>a0 (.inl e);refine⟨v,_,rfl,ex,λr a1=>aC (λC=>F.err ?_ (e:=120) az (.refl _)) (λC=>?_)⟩
 .have hn:¬cH (.mk v.op v.table w co on gr od v.limit []):=λe=>bg
  have e:dV s [] (.mk v.op v.table w co on gr od v.limit []) A B=dP 100:=by
   unfold dV;exact if_pos (.inr hn)
  rw[d,e];rfl
 have hu:cH (.mk v.op v.table w co on gr od v.limit []):=a1.1 bg;clear a1 C r
 have J:dV s [] (.mk v.op v.table w co on gr od v.limit []) A B=if v.op=1 then(if 0<=v.table/\v.table<s.tables.length then lF (jL s v.table)else dP 100)
  else if v.op=2 then(if fX A [] w=0 then lF A else dP (fX A [] w))
  else if v.op=3 then(if co≠[]/\Good (λ_ c=>Cg A c=true) co then lF (co.map λc=>A.getD c.toNat 0)else dP 100)
  else if v.op=4 then(if Good (lS A B) on then lF (A++B)else dP 100)
  else if v.op=5 then(if Good (lS A B) on then lF A else dP 100)
  else if v.op=9 then(if lH A gr od v.limit then lF A else dP 100)
  else if v.op=10 then(if A=B/\lH A gr od v.limit then lF A else dP 100)
  else(if A=B then lF A else dP 100):=by
  unfold dV;exact if_neg (λe=>e.elim P λe=>e hu)
 have a8:∀l,(lF l).2≠100:=λl=>by unfold lF;grind
 have L:∀{l},dV s [] (.mk v.op v.table w co on gr od v.limit []) A B=lF l->R=lF l:=fun{l} e=>bg
 have D:dV s [] (.mk v.op v.table w co on gr od v.limit []) A B=dP 100->R=dP 120:=λe=>by rw[d,e];rfl
 have a2:∀{e},e≠100->dV s [] (.mk v.op v.table w co on gr od v.limit []) A B=dP e->R=dP e:=fun{e} h0 e1=>by rw[d,e1,if_neg (by simpa[dP]using h0)]
 clear d;refine⟨λ⟨n,l⟩=>n=arity v.op/\Ints h l A,aF (λC=>?_) (λC=>⟨(arity v.op,⟨none,0,0⟩),⟨rfl,?_⟩,MT⟩),?_⟩
 .have G:Dh v.left (decide (arity v.op>0)) ks.length=true:=by
   grind
  unfold Dh at G;rw[if_pos (decide_eq_true C)]at G;simp only[bz,ce]at G;obtain⟨b,o,Q,e,rd,S⟩:=ZG hr U G.1 G.2;refine⟨b,o,e,G.1,aD,Q,rd,(arity v.op,Q),⟨rfl,?_⟩,MT⟩;rw[<-hA,Cj,if_pos (decide_eq_true C)];exact S
 .rw[<-hA,Cj,if_neg bg];exact⟨.nil _ _,ay⟩
 rintro⟨n,l⟩ ⟨rfl,u⟩;dsimp only;refine⟨λ⟨l,r⟩=>Ints h l A/\Ints h r B,aF (λC=>?_) (λC=>⟨(l,⟨none,0,0⟩),⟨u,?_⟩,MT⟩),?_⟩
 .have G:Dh v.right (decide (arity v.op>1)) ks.length=true:=by
   grind
  unfold Dh at G;rw[if_pos (decide_eq_true C)]at G;simp only[bz,ce]at G;obtain⟨b,o,Q,e,rd,S⟩:=ZG hr U G.1 G.2;refine⟨b,o,e,G.1,aD,Q,rd,(l,Q),⟨u,?_⟩,MT⟩;rw[<-hB,Cj,if_pos (decide_eq_true C)];exact S
 .rw[<-hB,Cj,if_neg bg];exact⟨.nil _ _,ay⟩
 clear u l;rintro⟨l,r⟩ ⟨u,j⟩;dsimp only;have T:∀b:Bool,(b=true->R=lF (if v.op=4 then A++B else A))->(b=false->R=dP 120)->∃x:Sl×Sl×Bool,((λ⟨l,r,b⟩=>Ints h l A/\Ints h r B/\(b=true->R=lF (if v.op=4 then A++B else A))/\(b=false->R=dP 120):Sl×Sl×Bool->Prop)) x/\(l,r,b)=x:=λb g1 g2=>⟨_,⟨u,j,g1,g2⟩,rfl⟩
 refine⟨λ⟨l,r,b⟩=>Ints h l A/\Ints h r B/\(b=true->R=lF (if v.op=4 then A++B else A))/\(b=false->R=dP 120),?_,?_⟩
 .refine aC (λM=>?_) (λM=>aC (λV=>?_) (λV=>aC (λc3=>?_) (λc3=>?_)))
  .have M:v.op=1:=bg
   rw[if_pos M]at J;refine aF (λC=>F.err (D bg) az (.refl _)) (λC=>aF (λh2=>F.err (D bg) az (.refl _)) (λh2=>⟨sc,s,v.table,rfl,hs,h8,λQ h' E S=>F.ok (L bg) E S⟩))
  .have M:¬v.op=1:=bg
   have V:v.op=2:=bg
   rw[if_neg M,if_pos V]at J;have a6:fX A [] w≠100:=by unfold fX;omega
   refine⟨l,⟨none,0,0⟩,v.where_,A,[],w,rfl,u,⟨.nil _ _,ay⟩,xw,aC (λC=>?_) (λC=>⟨(l,r,true),⟨u,j,λ_=>?_,λe=>(by cases e)⟩,MT⟩)⟩
   .have C:fX A [] w≠0:=bg
    exact F.err (a2 a6 bg) C (.refl _)
   grind
  .have M:¬v.op=1:=bg
   have V:¬v.op=2:=bg
   have c3:v.op=3:=bg
   rw[if_neg M,if_neg V,if_pos c3]at J;refine⟨l,v.columns,A,co,rfl,u,xc,?_⟩;unfold Uq;split
   .rename_i e;have hR:R=lF (co.map λc=>A.getD c.toNat 0):=L bg;refine F.all _ ?_;rw[hR];unfold lF;split
    .rename_i C;show fin (_,0)=_;rw[ZN,lF,if_pos C]
    .exact Tk (e:=2) az
   .rename_i e;refine F.all _ ?_;rw[D bg];exact Tk az
  have M:¬v.op=1:=bg
  have V:¬v.op=2:=bg
  have c3:¬v.op=3:=bg
  rw[if_neg M,if_neg V,if_neg c3]at J;refine aC (λH=>?_) (λH=>aC (λc5=>?_) (λc5=>?_))
  .have H:v.op=4:=bg
   rw[if_pos H]at J;refine⟨l,r,v.on,A,B,on,rfl,u,j,xo,aD,aD,λz I=>⟨(l,r,z),⟨u,j,λe=>?_,λe=>?_⟩,MT⟩⟩
   .grind
   grind
  .have H:¬v.op=4:=bg
   have c5:v.op=5:=bg
   rw[if_neg H,if_pos c5]at J;refine⟨l,r,v.on,A,B,on,rfl,u,j,xo,aD,aD,λz I=>⟨(l,r,z),⟨u,j,λe=>?_,λe=>?_⟩,MT⟩⟩
   .grind
   grind
  have H:¬v.op=4:=bg
  have c5:¬v.op=5:=bg
  rw[if_neg H,if_neg c5]at J;simp only[if_neg H]
  have f:¬v.op=9->¬v.op=10->∀z:Bool,(z=true↔A=B)->∃x:Sl×Sl×Bool,(Ints h x.1 A/\Ints h x.2.1 B/\(x.2.2=true->R=lF A)/\(x.2.2=false->R=dP 120))/\x=(l,r,z):=λn9 a3 z I=>by
   grind
  have W:¬v.op=9->¬v.op=10->∃(s:Sl)(t:Sl)(a:cq)(b:cq),[Dj l,Dj r]=[Dj s,Dj t]/\Ints h s a/\Ints h t b/\∀z:Bool,(z=true↔a=b)->∃x:Sl×Sl×Bool,(Ints h x.1 A/\Ints h x.2.1 B/\(x.2.2=true->R=lF A)/\(x.2.2=false->R=dP 120))/\x=(l,r,z):=λn9 a3=>⟨l,r,A,B,rfl,u,j,f n9 a3⟩
  refine aC (λc6=>?_) (λc6=>aC (λc7=>?_) (λc7=>aC (λc8=>?_) (λc8=>?_)))
  .have c6:v.op=6:=bg
   refine⟨l,r,A,B,rfl,u,j,λz I=>?_⟩;obtain⟨_,g,rfl⟩:=f aD aD z I;exact⟨(l,r,z),g,MT⟩
  .have c7:v.op=7:=bg
   refine⟨l,r,A,B,rfl,u,j,λz I=>?_⟩;obtain⟨_,g,rfl⟩:=f aD aD z I;exact⟨(l,r,z),g,MT⟩
  .have c8:v.op=8:=bg
   refine⟨l,r,A,B,rfl,u,j,λz I=>?_⟩;obtain⟨_,g,rfl⟩:=f aD aD z I;exact⟨(l,r,z),g,MT⟩
  clear f W T;refine aC (λX=>?_) (λX=>aC (λO=>?_) (λO=>?_))
  .have X:v.op=9:=bg
   rw[if_pos X]at J;refine⟨l,v,A,_,rfl,u,ex,aD,λz I=>⟨(l,r,z),⟨u,j,λe=>L bg,λe=>D bg⟩,MT⟩⟩
  .have X:¬v.op=9:=bg
   have O:v.op=10:=bg
   rw[if_neg X,if_pos O]at J;refine⟨l,r,A,B,rfl,u,j,λy hy=>aC (λy1=>⟨l,v,A,_,rfl,u,ex,aD,λz I=>⟨(l,r,z),⟨u,j,λe=>L bg,λe=>D bg⟩,MT⟩⟩) (λy1=>⟨(l,r,false),⟨u,j,(λe=>(by cases e)),λe=>D bg⟩,MT⟩)⟩
  .exfalso;have c6:¬v.op=6:=bg
   have c7:¬v.op=7:=bg
   have c8:¬v.op=8:=bg
   have X:¬v.op=9:=bg
   have O:¬v.op=10:=bg
   refine P ?_;unfold arity
   grind
 clear T u j l r;rintro⟨l,r,b⟩ ⟨u,j,g1,g2⟩;dsimp only at g1 g2⊢
 refine aC (λC=>F.err (g2 bg) az (.refl _)) (λC=>?_);have g:=g1 bg;refine aC (λH=>λQ h' E a4=>?_) (λH=>⟨l,A,rfl,u,λs' h' E S=>?_⟩)
 .rw[if_pos bg]at g;refine⟨Q,[A,B],rfl,⟨⟨[l,r],a4,rfl,λi k e=>?_⟩,ay⟩,ay,λk hk=>?_,λb' h2 a7 S=>F.ok g (E.trans a7) bg⟩
  .match i,e with
   |0,e=>simp at e;subst e;exact⟨l,rfl,u.mono E⟩
   |1,e=>simp at e;subst e;exact⟨r,rfl,j.mono E⟩
   |i+2,e=>simp at e
  .rcases mem_cons.1 hk with rfl|hk
   .exact a'
   grind
 .rw[if_neg bg]at g;exact F.ok g E S
theorem aqQ:cm 91 PI:=by
 refine iH func91 ?_;rintro f m h K ⟨sc,e,v,s,u,ks,t,rfl,g,j,x,n,c,d,o⟩;refine⟨bwZ sc e v m h,rfl,aE Yl (aE Yk (aE Yj (aE EZ (aE H8 (aE Yi (aE Yh (aE EY (aE Yg (aE O3 (aE H9 aG)))))))))),OH sc e v m h K,ax,?_⟩;exact b3J g j x n c d o
noncomputable def BT(s:jB):List cq->de->List cq×Int
 |ks,[]=>(ks,0)
 |ks,t::ts=>if(Co s ks t).2=0 then BT s (ks++[(Co s ks t).1]) ts else(ks,(Co s ks t).2)
noncomputable def gH(s:jB)(ts:de)(rs:cq):Int:=
 if dH s≠0 then dH s else if 1024<ts.length\/32<rs.length then 2 else if(BT s [] ts).2≠0 then(BT s [] ts).2 else if rs.all (λr=>decide (0<=r)&&decide (r<ts.length))=true then 0 else 120
structure lR(h:PH)(p r:Sl)(ts:de)(rs:cq):Prop where
 steps:∃vs,cC h p 22 (vs.map vE.enc)/\Steps h vs ts
 roots:Ints h r rs
 len:ts.length<=1000000000
def Ij:Vc.Spec:=λc m h K=>∃sc p r s ts rs,c=[aS sc,aPl p r]/\iA h s sc/\lR h p r ts rs/\∀d,K (.tup [cS d,cI (gH s ts rs)]) m h
noncomputable def bCX(sc:bW)(p r:Sl):Ctx:=
 tR [(90,BQ),(91,PI)] [(8,{A:=Nat×Sl×MH×PH,st:=λ⟨i,c,m,h⟩=>bQ 76 78 [(2,.at (.ptr 2 0)),(3,.at (.ptr 3 0)),(7,sv c),(34,sv p),(35,iv p.len),(36,iv i)] [(2,.cells 43 (sc.enc.map .val)),(3,.cells 62 [.val (.slice p.a p.len p.cap),.val (.slice r.a r.len r.cap)])] m h}),
  (18,{A:=Nat×Sl×MH×PH,st:=λ⟨i,c,m,h⟩=>bQ 76 78 [(3,.at (.ptr 3 0)),(7,sv c),(59,sv r),(60,iv r.len),(61,iv i)] [(3,.cells 62 [.val (.slice p.a p.len p.cap),.val (.slice r.a r.len r.cap)])] m h})] [] [] [1079,2079] [] false
noncomputable abbrev pR(a:Nat×Sl×MH×PH):Nat->Nat->Option Value:=gX a.2
attribute [push_cast] pR
def OP(sc:bW)(p r:Sl)(m:MH)(h:PH)(K:cr):Prop:=
  Jg sc h (λs=>nX (dH s !=0) (K (CV.tup (bC jQ (dH s))) m h) (aH p) 1024 (K (CV.tup (bC jQ 2)) m h) (eZ (aH r) 32 (K (CV.tup (bC jQ 2)) m h) (aA (bV 0) (bV (aH p)) (aA (uI p 24) (vB (aH p)) (lE (λz A=>qI m A h z 33 1 []->∃(I:Nat×Sl×MH×PH->Prop)(B:Nat×Sl×MH×PH->Nat),(∃(x:Nat×Sl×MH×PH),aA (I x) eK (aA cG (j7 z x.2) (aA (aI p) (bJ p) (aA (bB x.1) (cM sc) (bO (eQ (oQ 62 (lL (vD p) (vD r)))) (bH A x.2.2) (h=pR x))))))/\∀(x:Nat×Sl×MH×PH),I x->aX (↑x.1:Int) (aH p) (bI (λb o=>aA (bK p.a b o) (0<=(↑x.1:Int)) ((↑x.1:Int)<aH p/\∃(y:vE),aU (fB x.2) (pR x) b (bN o x.1 22) y.enc/\D2 (λC k=>∃(v:vE)(j:jB)(D:da)(n:List cq)
 (t:Step),aA (cE (cD sc) (jA x.2.1 (fM y.enc))=cE (cD C) (jA k (fM v.enc))) (iA (pR x) j C) (aA (mC j) (sY (pR x) t v) (aA (dE (fB x.2) k 33 1 (nB D)) (Slices (pR x) D n) ((∀(E:cq),List.Mem E n->E.length<=12)/\∀(g:cq×Int),fin g=Co j n t->jJ (λu e=>cZ (pR x) e (Ints e u g.1) (nX (g.2 !=0) (K (CV.tup (bC jQ g.2)) (fB x.2) e) (aH u) 12 (K (CV.tup (bC jQ 2)) (fB x.2) e) (∃(c:List cn),oZ (dE (fB x.2) (gJ x.2.1) 33 1 c) c 24 (lE (λF f=>eF (fB x.2) f (gJ x.2.1) F 33 1 (fK c (aY u))->∃(d:Nat×Sl×MH×PH),aA (I d) (B d<B x) (aA eK cG (aA (j7 F d.2) (aI p) (aA (bJ p) (bD (gG (bF x.1 1)) d.1) (uZ (cM sc) (eQ
 (oQ 62 (lL (vD p) (vD r)))) (bH f d.2.2) e (pR d))))))))))))))))) (∃(I1:Nat×Sl×MH×PH->Prop)(f:Nat×Sl×MH×PH->Nat),(∃(c:Nat×Sl×MH×PH),aA (I1 c) cG (aA (j7 x.2.1 c.2) (aI r) (aA (bJ r) (bB c.1) (aA (eQ (oQ 62 (lL (vD p) (vD r)))) (bH (fB x.2) c.2.2) (bL (pR x) (pR c))))))/\∀(c:Nat×Sl×MH×PH),I1 c->aX (↑c.1:Int) (aH r) (bI (λb o=>aA (bK r.a b o) (0<=(↑c.1:Int)) ((↑c.1:Int)<aH r/\∃(y:Int),aU (fB c.2) (pR c) b (bN o c.1 1) (bG y)/\aX y 0 (K (CV.tup (bC jQ 120)) (fB c.2) (pR c)) (gA y (aH p) (K (CV.tup (bC jQ 120)) (fB c.2) (pR c)) (∃(d:Nat×Sl×MH×PH),aA (I1 d) (f d<f c) (aA cG (j7 c.2.1 d.2) (aA (aI r) (bJ r) (aA (bD (gG
 (bF c.1 1)) d.1) (eQ (oQ 62 (lL (vD p) (vD r)))) (bP (bH (fB c.2) d.2.2) (pR c) (pR d)))))))))) (mD K c.2.1 (fB c.2) (pR c)))))))))
theorem b8J(h:dH s=0):mC s:=λt c=>by
 obtain⟨i,d⟩:=mem_iff_getElem?.1 c;have e:Dl s:=Classical.byContradiction λf=>by rw[v8 f]at h;cases h
 exact(e.2 i t d).1
structure aEJ(m0 m:MH)(h:PH)(kk:Sl)(ks:List cq):Prop where
 sub:Sub m0 m
 fresh:∀b i,kk.a=some ⟨b,i,none⟩->m0 b=none
 ex:∃ss,dE m kk 33 1 (ss.map eS)/\Slices h ss ks
 le12:∀k∈ks,k.length<=12
theorem aEJ.new{s:Sl}(x:qI m m' h s 33 1 []):aEJ m m' h s []:=by
 refine⟨λb o e=>?_,λb i e=>(x.fresh b i e).m_,⟨[],x.row,rfl,λj s k e=>by simp at e⟩,λk c=>by simp at c⟩;rw[x.other b (λi d=>by have:=(x.fresh b i d).m_;grind)];exact e
theorem aEJ.grown{m0:MH}{kk sl:Sl}{k:cq}(r:aEJ m0 m h kk ks)(le:PH.le h h')(u:Ints h' sl k)(C:k.length<=12):
 ∃xs,dE m ⟨kk.a,kk.len,kk.cap⟩ 33 1 xs/\xs.length=ks.length/\∀d m',eF m m' ⟨kk.a,kk.len,kk.cap⟩ d 33 1 (xs++[[.slice sl.a sl.len sl.cap]])->aEJ m0 m' h' d (ks++[k]):=by
 obtain⟨y,z,f⟩:=r.ex;refine⟨_,z,by rw[length_map,f.1],λd m' g=>⟨λb o e=>g.other b o (r.sub b o e) (λi c=>?_),λb i e=>?_,⟨y++[sl],?_,(f.mono le).snoc u⟩,λx A=>?_⟩⟩
 .rw[r.fresh b i c]at e;cases e
 .rcases g.fresh b i e with c|⟨j,c⟩
  .cases B:m0 b with
   |none=>rfl
   |some o=>rw[r.sub b o B]at c;cases c
  .exact r.fresh b j c
 .rw[bw];exact g.row
 .rcases mem_append.1 A with n|n
  .exact r.le12 x n
  grind
theorem Steps.at'{p:Sl}{vs:List vE}(r:cC h p 22 (vs.map vE.enc))(s:Steps h vs ts)(c:ts[i]? =some t):∃b o v,p.a=some ⟨b,o,none⟩/\bM h b (o+i*22) (vE.enc v)/\sY h t v:=by
 obtain⟨v,d,f⟩:=s.2 i t c;obtain⟨b,o,e,k⟩:=r.get (i:=i) (e:=vE.enc v) (by simp[d])
 grind
theorem Steps.slen'{p:Sl}{vs:List vE}(r:cC h p 22 (vs.map vE.enc))(s:Steps h vs ts):p.len=ts.length:=by
 have:=r.len;simp at this;rw[this,s.1]
theorem lR.at{p:Sl}(x:lR h p r ts rs)(c:ts[i]? =some t):∃b o v,p.a=some ⟨b,o,none⟩/\bM h b (o+i*22) (vE.enc v)/\sY h t v:=by
 obtain⟨f,d,e⟩:=x.steps;exact Steps.at' d e c
theorem lR.slen{p:Sl}(x:lR h p r ts rs):p.len=ts.length/\p.len<=p.cap:=by
 obtain⟨e,c,d⟩:=x.steps;exact⟨Steps.slen' c d,c.cap⟩
theorem lR.mono{p:Sl}(x:lR h p r ts rs)(le:PH.le h h'):lR h' p r ts rs:=by
 obtain⟨c,d,f,g⟩:=x.steps;exact⟨⟨c,d.mono le,f,λi t e=>let⟨v,e1,e2⟩:=g i t e;⟨v,e1,e2.mono le⟩⟩,x.roots.mono le,x.len⟩
theorem aoJ(r:cq×Int):(r.2≠0/\fin r=dP r.2)\/(r.2=0/\12<r.1.length/\fin r=dP 2)\/(r.2=0/\r.1.length<=12/\fin r=(r.1,0)):=by
 unfold fin;by_cases h:r.2=0
 .rw[if_pos h];unfold lF;by_cases c:r.1.length<=12
  .grind
  .rw[if_neg c];exact .inr (.inl ⟨h,aD,rfl⟩)
 grind
theorem Hy{s:jB}{ts:de}{rs:cq}(c:dH s=0)(d:¬(1024<ts.length\/32<rs.length)):gH s ts rs=if(BT s [] ts).2≠0 then(BT s [] ts).2 else if rs.all (λr=>decide (0<=r)&&decide (r<ts.length))=true then 0 else 120:=by
 unfold gH;omega
theorem L5(d:ts[i]? =some t):BT s ks (ts.drop i)=if(Co s ks t).2=0 then BT s (ks++[(Co s ks t).1]) (ts.drop (i+1))else(ks,(Co s ks t).2):=by
 have c:=(List.getElem?_eq_some_iff.1 d)
 obtain⟨c,e⟩:=c;rw[drop_eq_getElem_cons c,e];rfl
theorem QQ:cm 38 Ij:=by
 refine Fm func38 ?_;rintro Y m h K ⟨sc,p,r,s,ts,rs,rfl,R,x,hK⟩;refine⟨bCX sc p r,rfl,aE K8 (aE aqQ aG),OP sc p r m h (kX h K),ax,?_⟩;show OP sc p r m h (kX h K);dsimp only[OP,push_cast];have Z:=x.slen.1;have rl:=x.roots.slen;have S:=x.len;have T:=x.roots.len;have done:∀{y:MH}{n:PH}{e:Int}{kk:Sl},Sub m y->PH.le h n->gH s ts rs=e->kX h K (.tup [cS kk,cI e]) y n:=fun{y n e kk} C J U=>.out C J bg;refine⟨sc,s,rfl,R,aC (λC=>?_) (λC=>?_)⟩
 .have C:dH s≠0:=bg
  exact done (kk:=⟨none,0,0⟩) (Sub.refl m) (.refl _) (by unfold gH;omega)
 have C:dH s=0:=bg
 refine aF (λJ=>?_) (λJ=>aF (λU=>?_) (λU=>⟨aD,aD,aD,aD,λk0 m1 L=>?_⟩))
 .exact done (kk:=⟨none,0,0⟩) (Sub.refl m) (.refl _) (by unfold gH;omega)
 .exact done (kk:=⟨none,0,0⟩) (Sub.refl m) (.refl _) (by unfold gH;omega)
 have z:=Hy (s:=s) (ts:=ts) (rs:=rs) C aD;refine⟨λ⟨i,kk,y,n⟩=>i<=ts.length/\PH.le h n/\∃ks,aEJ m y n kk ks/\ks.length=i/\BT s ks (ts.drop i)=BT s [] ts,λ⟨i,_⟩=>ts.length-i,⟨(0,k0,m1,h),⟨aD,.refl _,[],.new L,rfl,rfl⟩,MT⟩,?_⟩;rintro⟨i,kk,y,n⟩ ⟨hi,d,ks,f,M,c⟩;dsimp only;refine aF (λu=>?_) (λO=>?_)
 .obtain⟨t,V⟩:=eU Z u;obtain⟨b,o,v,e,rd,rv⟩:=(x.mono d).at V;obtain⟨ss,hm,P⟩:=f.ex;rw[L5 V]at c;refine⟨b,o,e,aD,u,v,.imm rd,sc,kk,v,s,ss,ks,t,rfl,R.mono d,b8J C,rv,hm,P,f.le12,λq D sl h' A G=>?_⟩;have a':=G.slen;rcases aoJ q with⟨E,H⟩|⟨E,H,I⟩|⟨E,H,I⟩
  .rw[D]at H;rw[H,if_neg (by simpa[dP]using E)]at c;refine aC (λ_=>done (kk:=⟨none,0,0⟩) f.sub (d.trans A) ?_) (λF=>?_)
   .rw[z, <-c,if_pos (by simpa[dP]using E)];rfl
   grind
  .rw[D]at I;rw[I,if_neg (by simp[dP])]at c;refine aC (λF=>absurd E bg) (λ_=>aF (λ_=>done (kk:=⟨none,0,0⟩) f.sub (d.trans A) ?_) (λF=>by omega));rw[z, <-c,if_pos (by simp[dP])];rfl
  .rw[D]at I;rw[I,if_pos rfl]at c;refine aC (λF=>absurd E bg) (λ_=>aF (λF=>by omega) (λ_=>?_));obtain⟨xs,Q,a0,hg⟩:=f.grown A G H;exact⟨xs,Q,aD,aD,λW m' g=>⟨(i+1,W,m',h'),⟨aD,d.trans A,ks++[q.1],hg W m' g,by simp[M],c⟩,aD,MT⟩⟩
 have X:ts.drop i=[]:=drop_of_length_le aD;rw[X]at c;have h0:(BT s [] ts).2=0:=by rw[<-c];rfl
 rw[h0,if_neg az]at z;clear c X;refine⟨λ⟨j,k',m',h'⟩=>j<=rs.length/\k'=kk/\m'=y/\h'=n/\(rs.take j).all (λr=>decide (0<=r)&&decide (r<ts.length))=true,λ⟨j,_⟩=>rs.length-j,⟨(0,kk,y,n),⟨aD,rfl,rfl,rfl,ay⟩,MT⟩,?_⟩;rintro⟨j,kk,y,n⟩ ⟨hj,rfl,rfl,rfl,B⟩;dsimp only;refine aF (λu=>?_) (λO=>?_)
 .obtain⟨q,D⟩:=eU rl u;obtain⟨b,o,e,rd⟩:=(x.roots.mono d).at' D
  have bad:¬(0<=q/\q<ts.length)->gH s ts rs=120:=λhn=>by
   rw[z,if_neg];intro e2;have:=all_eq_true.1 e2 q (br D)
   grind
  refine⟨b,o,e,aD,u,q,.imm rd,aF (λF=>done (kk:=⟨none,0,0⟩) f.sub d (bad aD)) (λF=>aF (λh5=>done (kk:=⟨none,0,0⟩) f.sub d (bad aD)) (λh5=>⟨(j+1,kk,y,n),⟨aD,rfl,rfl,rfl,?_⟩,aD,MT⟩))⟩;rw[AN D,B,Bool.true_and,bz]
  grind
 .rw[bu aD]at B;exact done f.sub d bg
def AM(t:Step):cq:=[t.left,t.right].take (arity t.op).toNat
def Zr:Query:=.mk 0 0 eJ [] [] [] [] 0 []
def BH:Nat->de->Nat->Query
 |0,_,_=>Zr
 |n+1,ts,i=>match ts[i]? with
  |none=>Zr
  |some t=>.mk t.op t.table t.wher t.columns t.on t.group t.order t.limit ((AM t).map λa=>BH n ts a.toNat)
def aM(ts:de)(i:Nat):Query:=BH (i+1) ts i
def BI(ts:de):Prop:=∀(i:Nat) t,ts[i]? =some t->0<=arity t.op/\∀a∈AM t,0<=a/\a<i
theorem J6{ts:de}(ok:BI ts):∀(n c i:Nat),i<n->i<c->BH n ts i=BH c ts i
 |0,_,_,h,_=>by omega
 |_+1,0,_,_,h=>by omega
 |n+1,c+1,i,f,g=>by
  simp only[BH];cases e:ts[i]? with
  |none=>rfl
  |some t=>
   have:(AM t).map (λa=>BH n ts a.toNat)=(AM t).map (λa=>BH c ts a.toNat):=map_congr_left λa d=>by
    have:=(ok i t e).2 a d;exact J6 ok n c a.toNat aD aD
   grind
def Cb(ts:de)(t:Step):cz:=(AM t).map λa=>aM ts a.toNat
theorem pH(ok:BI ts)(c:ts[i]? =some t):aM ts i= .mk t.op t.table t.wher t.columns t.on t.group t.order t.limit (Cb ts t):=by
 unfold aM;simp only[BH,c]
 have:(AM t).map (λa=>BH i ts a.toNat)=Cb ts t:=map_congr_left λa d=>by
  have:=(ok i t c).2 a d;exact J6 ok _ _ _ aD aD
 rw[this]
theorem bKJ{d:Nat}{op:Int}{w:Pred}{on:cu}{args:cz}(n:(aJ s [] (.mk op ta w co on gr od li args)).2=0)(g:fE (d+1) (.mk op ta w co on gr od li args)<=8000000){a:Query}(f:a∈args):fE (d+1) a<=8000000:=by
 obtain⟨o,j,u,_⟩:=wH (Prod.ext rfl n);have x:=Kl (c:=d+1) aD j a f;rw[fE]at g;split at g
 .rename_i e;subst e;rw[KD j u]at f;cases f
 grind
def oB(i:Nat)(t:Step):Prop:=Dh t.left (decide (arity t.op>0)) i=true/\Dh t.right (decide (arity t.op>1)) i=true
theorem J0(g:0<=arity t.op)(h:oB i t):∀a∈AM t,0<=a/\a<i:=by
 intro a c;have j:=DF t.op;obtain⟨e,f⟩:=h;unfold AM at c;obtain⟨n,d⟩:∃n:Nat,arity t.op=n:=⟨(arity t.op).toNat,aD⟩
 rw[d,Int.toNat_natCast]at c;unfold Dh at e f
 match n,d,c with
 |0,_,c=>simp at c
 |1,d,c=>
  grind
 |2,d,c=>
  grind
 |n+3,d,_=>omega
theorem eM{c:de}(g:ts<+:c)(ok:BI c):∀i,i<ts.length->aM c i=aM ts i:=by
 have d:BI ts:=λi t e=>ok i t (NU g e);intro i
 induction i using Nat.strongRecOn with
 |_ i o=>
  intro j;have f:ts[i]? =some ts[i]:=bo j;rw[pH d f,pH ok (NU g f)]
  have:Cb c ts[i]=Cb ts ts[i]:=map_congr_left λa n=>by
   have:=(d i _ f).2 a n
   grind
  rw[this]
theorem aRJ(h:oB i t):(arity t.op=0->t.left=0)/\(arity t.op<=1->t.right=0):=by
 obtain⟨c,d⟩:=h;unfold Dh at c d
 grind
theorem HU(s:jB)(ps:cq)(op ta:Int)(w:Pred)(co:cq)(on:cu)(gr:cq)(od:cv)(li:Int)(args:cz)(a b:cq):dV s ps (.mk op ta w co on gr od li args) a b=dV s ps (.mk op ta w co on gr od li []) a b:=by
 unfold dV;rfl
theorem FV{op:Int}{w:Pred}{on:cu}{args:cz}(h:(aJ s [] (.mk op ta w co on gr od li args)).2=0):
 aJ s [] (.mk op ta w co on gr od li args)=dV s [] (.mk op ta w co on gr od li []) ((args.map λq=>(aJ s [] q).1).getD 0 []) ((args.map λq=>(aJ s [] q).1).getD 1 []):=by
 obtain⟨c,f,_⟩:=kG h
 have e:eO s [] args=(args.map (λq=>(aJ s [] q).1),0):=tP (by
  rw[map_map];exact map_congr_left λq d=>Prod.ext rfl (c q d))
 simp only[aJ,e,if_true];rw[if_pos bg,HU]
theorem Pk{n:Nat}{a:Int}(c:0<=a)(d:a<n):Cj ((List.range n).map λj=>(aJ s [] (aM ts j)).1) a true=(aJ s [] (aM ts a.toNat)).1:=by
 unfold Cj
 grind
def cdQ(c d cb:Nat):Value:=.func (.func 80) #[] #[.pointer (some ⟨c,0,none⟩),.pointer (some ⟨d,0,none⟩),.pointer (some ⟨cb,0,none⟩)]
structure bLX(m0:MH)(h:PH)(s:jB)(vb sb cb:Nat):Prop where
 v_:m0 vb=some (.cells #[cdQ vb sb cb] 133 (0,0))
 s_:∃sc,iA h s sc/\m0 sb=some (.cells ⟨sc.enc⟩ 43 (0,0))
 tab:fU m0
 small:mC s
def bkQ(N:Nat):Vc.Spec:=λc m h K=>∃v q s e f cb g d ts rs,c=[aQ v,cP e,cP f,cP cb]/\cJ h q v/\SizeOf.sizeOf q<N/\(aJ s [] q).2=0/\zH q/\bLX d h s e f cb/\fN d m h cb g ts rs/\ts.length+2*lZ q<=90000/\
 ∀j m' h',PH.le h h'->nE h' (eW s q ts).1 j->fN d m' h' cb g (eW s q ts).2 rs->K (aPN j) m' h'
noncomputable def byX(N:Nat)(v:QV)(c d cb:Nat):Ctx:=
 tR [(80,bkQ N),(81,beZ),(82,Sz),(83,adQ),(84,bhX)] [(4,{A:=Nat×List gC×cq×cq×MH×PH,st:=λ⟨i,e,rs,f,m,h⟩=>bQ 63 67 [(1,pv c),(2,pv d),(3,pv cb),(4,.at (.ptr 4 0)),(5,.at (.ptr 5 0)),(6,.at (.ptr 6 0)),(7,.at (.lst 34)),(8,.at (.lst 39)),(15,sv v.args),(16,iv v.args.len),(17,iv i)] [(4,.cells 38 (v.enc.map .val)),(5,.cells 136 (zQ++[Fq,fV 0,fV 0,fV 0])),(6,.cells 136 (v.enc.map .val++[.lst 28,fV 0,fV 0,fV 0])),(28,.lst 136 25 (e.map gC.enc)),(34,.lst 3 1 (rs.map eI)),(39,.lst 3 1 (f.map eI))] m h})] [] [] [510136,0] [] false
noncomputable abbrev Et(a:Nat×List gC×cq×cq×MH×PH):List cn:=List.map gC.enc a.2.1
noncomputable abbrev GK(a:Nat×List gC×cq×cq×MH×PH):List cn:=jK a.2.2.1
noncomputable abbrev EI(a:Nat×List gC×cq×cq×MH×PH):List cn:=jK a.2.2.2.1
noncomputable abbrev CE(a:Nat×List gC×cq×cq×MH×PH):Nat->Nat->Option Value:=a.2.2.2.2.2
noncomputable abbrev GL(a:Nat×List gC×cq×cq×MH×PH):Nat->Option Obj:=a.2.2.2.2.1
noncomputable abbrev GO(a b c:Nat):Array Value:=Array.mk (aL (vQp a 0) (vQp b 0) (lD (vQp c 0)))
abbrev BD(a b:Nat)(c:dk)(d:MH)(e:PH)(g:cn->MH->PH->Prop):Prop:=FAt Proofs.Tryz.prog a b c d e (fun(x:cn)=>fun(f:MH)=>fun(j:PH)=>g x f j)
attribute [push_cast] Et GK EI CE GL GO BD
def OL(N:Nat)(v:QV)(D E cb:Nat)(m:MH)(h:PH)(K:cr):Prop:=
  ∃(I:Nat×List gC×cq×cq×MH×PH->Prop)(H:Nat×List gC×cq×cq×MH×PH->Nat),(∃(x:Nat×List gC×cq×cq×MH×PH),aA (I x) (cR D) (aA (cR E) (cR cb) (aA iS dN (aA (eP 6) (eL 34) (aA (eL 39) (aI v.args) (aA (wA v) (bB x.1) (aA (eY v) (eQ (oQ 136 (cQ fD fD (cQ (fV 0) fD (GU 0 (cQ Fq Fq (cQ (fV 0) fD (nL fD)))))))) (aA (eQ (oQ 136 (cQ (fV v.op) (pD v) (sG v (tM v) v.on (wC v) (wD v) (cQ (fV v.limit) (AW v) (cQ (At.lst 28) fD (lL fD fD))))))) (qG 136 25 (Et x)) (uZ (sL (GK x)) (sL (EI x)) (bH m x.2.2.2.2) h (CE x))))))))))/\∀(x:Nat×List gC×cq×cq×MH×PH),I x->aX (↑x.1:Int) (aH v.args) (bI (λb o=>aA
 (bK v.args.a b o) (0<=(↑x.1:Int)) ((↑x.1:Int)<aH v.args/\∃(y:QV),aU (GL x) (CE x) b (bN o x.1 21) y.enc/\∃(f:Nat×Nat×Nat),aU (GL x) (CE x) D 0 (lD (Value.func (Fn.func 80) yQ (GO f.1 f.2.1 f.2.2)))/\∃(R:gC->MH->PH->Prop),BD 80 136 (cE y.enc (dA f.1 (gZ (kB f.2.1) (kB f.2.2)))) (GL x) (CE x) (λl n d=>∃(u:gC),l=u.enc/\R u n d)/\∀(u:gC),iB (λn d=>R u n d->aA (iM (qR (Et x) 1*328)) (A0 (Et x)) (aA (iM (qR (GK x) 1*8)) (A0 (GK x)) (mV (EI x) 8 (∃(j:Nat×List gC×cq×cq×MH×PH),aA (I j) (H j<H x) (aA (cR D) (cR E) (aA (cR cb) iS (aA dN (eP 6) (aA (eL 34) (eL 39) (aA (aI v.args) (wA v) (aA (bD (gG (bF
 x.1 1)) j.1) (eY v) (aA (eQ (oQ 136 (cQ fD fD (cQ (fV 0) fD (GU 0 (cQ Fq Fq (cQ (fV 0) fD (nL fD)))))))) (eQ (oQ 136 (cQ (fV v.op) (pD v) (sG v (tM v) v.on (wC v) (wD v) (cQ (fV v.limit) (AW v) (cQ (At.lst 28) fD (lL fD fD))))))) (aA (Option.some (Own.lst 136 25 (fK (Et x) u.enc))=Option.some (Own.lst 136 25 (Et j))) (sM (GK x) u.rows (GK j)) (aA (sM (EI x) u.env (EI j)) (bH n j.2.2.2.2) (bL d (CE j)))))))))))))))))) (∃(y:bW),aU (GL x) (CE x) E 0 (cD y)/\bU (CE x) 25 (Et x) (λs d=>∃(J:bW)(F:gC)(A:jB),CF (λo t w c o1 g o2 l a=>∃(p:eh)(L:List gC),aA (fW (cD y) (vO v v (aL (mN (jR v)) (j4 (fC v)) (aL (qC
 (fC v)) (jY (fC v)) (aL (qP (fC v)) (mN (fC v)) (aL (B3 v) (B6 v) (aL (hJ v.on) (B4 v) (aL (B5 v) (BX v) (aL (hJ v.args) (hJ s) (aL cW cW (lD cW))))))))))=fW (cD J) F.enc) (iA d A J) (aA (mC A) (cJ d (Query.mk o t w c o1 g o2 l a) F.query) (aA (cC d F.args 25 (List.map gC.enc L)) (kQ d p L) (aA ((↑p.length:Int)=arity o) (bV (arity o)) ((∀(G:PN),List.Mem G p->bV G.width/\G.width<=1000)/\bU d 1 (jK x.2.2.1) (λs3 B=>∃(M:QV)(O:Sl),CF (λP Q S T U V W X a1=>∃(k:dl),aA (fZ (eC v) s3=fZ (eC M) O) (cJ B (Query.mk P Q S T U V W X a1) M) (Ints B O (List.map (fun(z:Nat)=>(↑z:Int)) k)/\∀(Y:vE),sY B (Step.mk P Q S T U V W X (↑(List.getD k 0 0):
 Int) (↑(List.getD k 1 0):Int)) Y->Ea (gZ (kB cb) (fM Y.enc)) B (GL x) (λZ t3 n h3=>∃(o6:Int),fH (kU v.op o6) (Hw o6) (rW 0 (0<iZ (EI x)) (λe=>(EI x)[0]? =Option.some e/\∃(f:Int),pN 1 e (bG f)/\K (fM (vO v v (aL (mN (jR v)) (j4 (fC v)) (aL (qC (fC v)) (jY (fC v)) (aL (qP (fC v)) (mN (fC v)) (aL (B3 v) (B6 v) (aL (hJ v.on) (B4 v) (aL (B5 v) (eN v.limit) (aL (hJ v.args) (hJ s) (aL (eN (oX Z t3)) (eN f) (bG (DJ A o t c p)))))))))))) n h3)) (bU h3 1 (jK x.2.2.2.1) (λs5 C=>∃(v5:QV)(s6:Sl),CF (λo7 t4 w2 c2 o8 g2 o9 l2 a2=>∃(z:dl),aA (fZ (eC v) s5=fZ (eC v5) s6) (cJ C (Query.mk o7 t4 w2 c2 o8 g2 o9 l2 a2) v5) (Ints C s6 (List.map (fun(k2:Nat)
 =>(↑k2:Int)) z)/\∀(v6:vE),sY C (Step.mk o7 t4 w2 c2 o8 g2 o9 l2 (↑(List.getD z 0 0):Int) (↑(List.getD z 1 0):Int)) v6->Ea (gZ (kB cb) (fM v6.enc)) C n (λt5 t6 m3 h5=>K (fM (vO v v (aL (mN (jR v)) (j4 (fC v)) (aL (qC (fC v)) (jY (fC v)) (aL (qP (fC v)) (mN (fC v)) (aL (B3 v) (B6 v) (aL (hJ v.on) (B4 v) (aL (B5 v) (eN v.limit) (aL (hJ v.args) (hJ s) (aL (eN (oX Z t3)) (eN (oX t5 t6)) (bG (DJ A o t c p)))))))))))) m3 h5))))))))))))))))
theorem Gj(s:jB)(op ta:Int)(w:Pred)(co:cq)(on:cu)(gr:cq)(od:cv)(li:Int)(args:cz)(ts:de):
 eW s (.mk op ta w co on gr od li args) ts=YY s op ta w co on gr od li args (dT s args ts).1 (dT s args ts).2:=by rw[eW]
theorem Ir(s:jB)(q:Query):∀(l:cz)(ts:de),dT s (l++[q]) ts=((dT s l ts).1++[(eW s q (dT s l ts).2).1],(eW s q (dT s l ts).2).2)
 |[],ts=>by simp[dT]
 |p::l,ts=>by
  rw[cons_append,dT,Ir s q l,dT];rfl
theorem LW(s:jB):∀(l:cz)(ts:de),(dT s l ts).1.length=l.length
 |[],ts=>by simp[dT]
 |p::l,ts=>by rw[dT,ci,ci,LW s l]
theorem bcX(s:jB)(op ta:Int)(w:Pred)(co:cq)(on:cu)(gr:cq)(od:cv)(li:Int)(args:cz)(ps:eh)(ts:de):(YY s op ta w co on gr od li args ps ts).2.length<=ts.length+2:=by
 unfold YY;have c:=dM (yM op ta w co on gr od li (ps.map PN.rows)) ts;have d:=dM (yM op ta w co on gr od li (ps.map PN.env)) (bT (yM op ta w co on gr od li (ps.map PN.rows)) ts).1
 grind
mutual
theorem Ck(s:jB):∀(q:Query)(ts:de),(eW s q ts).2.length<=ts.length+2*lZ q
 |.mk op ta w co on gr od li args,ts=>by
  rw[Gj];have c:=bcX s op ta w co on gr od li args (dT s args ts).1 (dT s args ts).2;have d:=wW s args ts;simp only[lZ];omega
theorem wW(s:jB):∀(l:cz)(ts:de),(dT s l ts).2.length<=ts.length+2*nC l
 |[],ts=>by simp[dT]
 |q::l,ts=>by
  rw[dT];have c:=Ck s q ts;have d:=wW s l (eW s q ts).2;simp only[nC];omega
end
theorem rG(h:(lF l).2=0):(lF l).1=l:=by
 unfold lF at h⊢
 grind
theorem WR{op:Int}{w:Pred}{on:cu}{args:cz}{b:cq}{ps:eh}(h:(dV s [] (.mk op ta w co on gr od li args) a b).2=0)(o:op≠1->(ps.map PN.width).getD 0 0=(a.length:Int))(u:op=4->(ps.map PN.width).getD 1 0=(b.length:Int)):
 DJ s op ta co ps=((dV s [] (.mk op ta w co on gr od li args) a b).1.length:Int):=by
 unfold DJ;unfold dV at h⊢
 by_cases g:arity op<0\/¬cH (.mk op ta w co on gr od li args)
 .rw[if_pos g]at h;simp[dP]at h
 .rw[if_neg g]at h⊢
  dsimp only at h⊢
  by_cases d:op=1
  .simp only[if_pos d]at h⊢
   split
   .rename_i c;rw[if_pos c]at h;rw[rG h]
   .rename_i c;rw[if_neg c]at h;simp[dP]at h
  .have e:=o d;simp only[if_neg d]at h⊢
   by_cases j:op=2
   .subst j;simp only[if_true,show((2:Int)=3)=False by simp,show((2:Int)=4)=False by simp,if_false]at h⊢
    split
    .rename_i c;rw[if_pos c]at h;rw[rG h,e]
    .rename_i c;rw[if_neg c]at h;simp only[dP]at h;omega
   .simp only[if_neg j]at h⊢
    by_cases n:op=3
    .simp only[if_pos n]at h⊢
     split
     .rename_i c;rw[if_pos c]at h;rw[rG h];simp
     .rename_i c;rw[if_neg c]at h;simp[dP]at h
    .simp only[if_neg n]at h⊢
     by_cases f:op=4
     .simp only[if_pos f]at h⊢
      split
      .rename_i c;rw[if_pos c]at h;rw[rG h,e,u f];simp
      .rename_i c;rw[if_neg c]at h;simp[dP]at h
     .simp only[if_neg f]at h⊢
      rw[e]
      suffices x:∀R:cq×Int,(R=lF a\/R=dP 100)->R.2=0->(a.length:Int)=(R.1.length:Int)by
       grind
      rintro R (rfl|rfl) h
      .rw[rG h]
      .simp[dP]at h
mutual
theorem LX{s:jB}:∀(q:Query)(ts:de),(aJ s [] q).2=0->(eW s q ts).1.width=((aJ s [] q).1.length:Int)
 |.mk op ta w co on gr od li args,ts,h=>by
  have c:=kG h;have f:=DK args ts c.1
  have e:(eW s (.mk op ta w co on gr od li args) ts).1.width=DJ s op ta co (dT s args ts).1:=by
   rw[Gj,YY];dsimp only;split<;>rfl
  rw[e];have d:=FV h;rw[d]at h⊢
  refine WR h (λg=>?_) (λj=>?_)
  .grind
  grind
theorem DK{s:jB}:∀(l:cz)(ts:de),(∀q∈l,(aJ s [] q).2=0)->(dT s l ts).1.map PN.width=l.map λq=>((aJ s [] q).1.length:Int)
 |[],ts,_=>by simp[dT]
 |q::l,ts,h=>by
  rw[dT,map_cons,map_cons,LX q ts (h q ay),DK l _ (λp c=>h p (by simp[c]))]
end
theorem b4Q{q:Query}{S U D:Nat}{m0:MH}(V:cm 80 (bkQ N))(O:cJ h q v)(hN:SizeOf.sizeOf q<N+1)(hk:(aJ s [] q).2=0)(E:zH q)(F:bLX m0 h s S U cb)(c:fN m0 m h cb D ts rs)(hl:ts.length+2*lZ q<=90000)
 (Q:∀B m' h',PH.le h h'->nE h' (eW s q ts).1 B->fN m0 m' h' cb D (eW s q ts).2 rs->K (aPN B) m' h'):OL N v S U cb m h K:=by
 dsimp only[OL,push_cast];have G:=@vF q;obtain⟨op,ta,w,co,on,gr,od,li,args⟩:=q;simp only[Query.args]at G;have x:=O.parts;have a2:=x.args_.slen;obtain⟨W,b4,_⟩:=kG hk;rw[Up]at E;obtain⟨o,a3⟩:=E;have b3:=DF op;rw[Gj]at Q;simp only[lZ]at hl
 have a4:∀i,nC (args.take i)<=nC args:=λi=>by
  have key:∀(l:cz)(i:Nat),nC (l.take i)<=nC l:=by
   intro l
   induction l with
   |nil=>intro i;simp
   |cons a l ih=>
    intro i;cases i with
    |zero=>simp[nC]
    |succ i=>have:=ih i;simp only[take_succ_cons,nC];omega
  grind
 obtain⟨sc,X,Y⟩:=F.s_;refine⟨λ⟨i,H,rr,es,mx,Z⟩=>i<=args.length/\PH.le h Z/\kQ Z (dT s (args.take i) ts).1 H/\rr=(dT s (args.take i) ts).1.map (λp=>(p.rows:Int))/\es=(dT s (args.take i) ts).1.map (λp=>(p.env:Int))/\fN m0 mx Z cb D (dT s (args.take i) ts).2 rs,λ⟨i,_,_,_,_,_⟩=>args.length-i,⟨(0,[],[],[],m,h),⟨aD,.refl _,by simp only[take_zero,dT];rfl,rfl,rfl,by simpa[dT]using c⟩,MT⟩,?_⟩;rintro⟨i,H,rr,es,mx,Z⟩ ⟨hi,g,n,rfl,rfl,cx⟩;dsimp only;have a5:=LW s (args.take i) ts;have b5:(args.take i).length=i:=bf
 have b6:=n.length;refine aF (λa'=>?_) (λb7=>?_)
 .obtain⟨q,I⟩:=eU a2 a';have J:=br I;obtain⟨b1,o1,u,e1,r1,a6⟩:=(x.args_.mono g).at I;have tk:args.take (i+1)=args.take i++[q]:=by rw[cd,I];rfl
  have vs:=Ir s q (args.take i) ts;have b8:=a4 (i+1)
  have b9:nC (args.take (i+1))=nC (args.take i)+lZ q:=by
   rw[tk]
   have key:∀l:cz,nC (l++[q])=nC l+lZ q:=by
    intro l
    induction l with
    |nil=>simp[nC]
    |cons a l ih=>simp only[cons_append,nC,ih];omega
   exact key _
  have a7:=wW s (args.take i) ts;have c0:=sizeOf_lt_of_mem J;have a8:SizeOf.sizeOf q<N:=bg
  refine⟨b1,o1,e1,aD,a',u,.imm r1,(S,U,cb),.of_m (cx.sub _ _ F.v_) rfl,λy my R=>PH.le Z R/\nE R (eW s q (dT s (args.take i) ts).2).1 y/\fN m0 my R cb D (eW s q (dT s (args.take i) ts).2).2 rs,?_,λy my R⟨d,ry,cy⟩=>⟨bg,bg,bg,bg,bg,bg,(i+1,H++[y],(dT s (args.take (i+1)) ts).1.map (λp=>(p.rows:Int)),(dT s (args.take (i+1)) ts).1.map (λp=>(p.env:Int)),my,R),⟨aD,g.trans d,?_,rfl,rfl,?_⟩,aD,?_⟩⟩
  .have a0:zC Tryz.prog 136=true:=ax
   refine Sound.fat (vs:=[.agg ⟨QV.enc u⟩,.pointer (some ⟨S,0,none⟩),.pointer (some ⟨U,0,none⟩),.pointer (some ⟨cb,0,none⟩)]) V ⟨u,q,s,S,U,cb,D,m0,_,rs,rfl,a6,a8,W q J,a3 q J,⟨F.v_,⟨sc,X.mono g,Y⟩,F.tab,F.small⟩,cx,aD,λB m' h' C rp c'=>⟨gC.enc B,?_,B,rfl,C,rp,c'⟩⟩;have e:Vc.valOf Tryz.prog 136 (gC.enc B)= .agg ⟨gC.enc B⟩:=by unfold Vc.valOf;rw[a0]
   rw[e];rfl
  .show kQ R (dT s (args.take (i+1)) ts).1 (H++[y]);rw[tk,vs];exact kQ.snoc ry (kQ.mono d n)
  .grind
  .have e1:=ry.rows_;have e2:=ry.env_;rw[tk,vs,e1,e2];simp only[bw,map_cons,map_nil];exact MT
 .have a9:args.take i=args:=bu aD;rw[a9]at n cx a5⊢
  have a7:=wW s args ts;have b':=DK args ts W;generalize hP:(dT s args ts).1=P at*
  generalize hT:(dT s args ts).2=T at*
  have eR:((P.map PN.rows).map fun(k:Nat)=>(k:Int)).map eI=(P.map λp=>(p.rows:Int)).map eI:=by simp[map_map,Function.comp_def]
  have eE:((P.map PN.env).map fun(k:Nat)=>(k:Int)).map eI=(P.map λp=>(p.env:Int)).map eI:=by simp[map_map,Function.comp_def]
  have kt:∀l r:Int,MF ⟨op,ta,w,co,on,gr,od,li,l,r⟩:=λl r=>⟨o.wher,o.columns,o.on,o.group,o.order⟩
  refine⟨sc,.of_m (cx.sub _ _ Y) rfl,λs1 h1 d L=>⟨sc,⟨v,s1,0,0,0⟩,s,op,ta,w,co,on,gr,od,li,args,P,H,rfl,X.mono (g.trans d),F.small,O.mono (g.trans d),L,kQ.mono d n,aD,aD,?_,λs2 h2 j c1=>⟨v,s2,op,ta,w,co,on,gr,od,li,args,P.map PN.rows,rfl,O.mono ((g.trans d).trans j),⟨bg,bf⟩,λB b0=>⟨B,_,m0,cb,D,T,rs,rfl,b0,kt _ _,cx.mono (d.trans j),F.tab,aD,λm3 h3 z c3=>⟨op,by rw[x.op_],?_⟩⟩⟩⟩⟩
  .intro p hp;have:p.width∈P.map PN.width:=mem_map.2 ⟨p,hp,rfl⟩;rw[b']at this;obtain⟨q,_,e⟩:=mem_map.1 this;have:=kH s [] q;omega
  .have ha:=dM (yM op ta w co on gr od li (P.map PN.rows)) T;have c3:fN m0 m3 h3 cb D (bT (yM op ta w co on gr od li (P.map PN.rows)) T).1 rs:=c3;have le:=((g.trans d).trans j).trans z;unfold YY at Q;refine aC (λf=>?_) (λf s4 h4 A c2=>⟨v,s4,op,ta,w,co,on,gr,od,li,args,P.map PN.env,rfl,O.mono (le.trans A),⟨bg,bf⟩,λv2 b2=>⟨v2,_,m0,cb,D,_,rs,rfl,b2,kt _ _,c3.mono A,F.tab,aD,λm5 h5 M c5=>?_⟩⟩)
   .rw[if_pos f]at Q
    have a1:0<P.length:=by
     have:1<=arity op:=by
      unfold Hw at f;simp only[Bool.or_eq_true,beq_iff_eq]at f;rcases f with(rfl|rfl)|rfl<;>decide
     omega
    refine⟨aD,bg,eI (P[0].env:Int),by simp[a1],(P[0].env:Int),rfl,?_⟩;refine Q ⟨v,s1,_,_,_⟩ m3 h3 le ⟨O.mono le,rfl,?_,rfl,aD,H,L.mono (j.trans z),kQ.mono ((d.trans j).trans z) n⟩ c3;simp[a1]
   .rw[if_neg (by simp[f])]at Q;have C:=(le.trans A).trans M;exact Q ⟨v,s1,_,_,_⟩ m5 h5 C ⟨O.mono C,rfl,rfl,rfl,aD,H,L.mono (((j.trans z).trans A).trans M),kQ.mono ((((d.trans j).trans z).trans A).trans M) n⟩ c5
theorem To:∀N,cm 80 (bkQ N)
 |0=>by
  refine eD (fn:=Tryz.f80) (c:=cA Tryz.f80) func80 rfl az ?_;rintro e m h K ⟨v,q,s,f,g,cb,n,o,ts,rs,rfl,_,j,_⟩;omega
 |N+1=>by
  refine iH func80 ?_;rintro e m h K ⟨v,q,s,f,g,cb,n,o,ts,rs,rfl,u,j,x,d,y,c,z,A⟩;refine⟨byX N v f g cb,rfl,aE (To N) (aE arX (aE DB (aE arQ (aE QG aG)))),OL N v f g cb m h K,ax,?_⟩;exact b4Q (To N) u j x d y c z A
def bRX:Vc.Spec:=λc m h K=>∃v q s e f cb g d ts rs,c=[aQ v,cP e,cP f,cP cb]/\cJ h q v/\(aJ s [] q).2=0/\zH q/\bLX d h s e f cb/\fN d m h cb g ts rs/\ts.length+2*lZ q<=90000/\
 ∀j m' h',PH.le h h'->nE h' (eW s q ts).1 j->fN d m' h' cb g (eW s q ts).2 rs->K (aPN j) m' h'
theorem QH:cm 80 bRX:=iQ To λ_ _ _ _⟨v,q,s,c,d,cb,f,g,ts,rs,e,j,n,o,u,x,y,z⟩=>⟨SizeOf.sizeOf q+1,v,q,s,c,d,cb,f,g,ts,rs,e,j,aD,n,o,u,x,y,z⟩
noncomputable def i7(s:jB)(q:Query):de×cq:=fG (eW s q []).1 ((eW s q []).1.env:Int) (eW s q []).2 []
def aEZ:Vc.Spec:=λc m h K=>∃sc v s q,c=[aS sc,aQ v]/\iA h s sc/\cJ h q v/\fU m/\((dU s [] q).2=0->zH q/\Ht (eW s q []).1/\jZ (eW s q []).1<=100/\lZ q<=100)/\
 ((dU s [] q).2≠0->K (.tup [aPl bR bR,cI (dU s [] q).2]) m h)/\((dU s [] q).2=0->∀p r h',PH.le h h'->lR h' p r (i7 s q).1 (i7 s q).2->K (.tup [aPl p r,cI 0]) m h')
noncomputable def bCZ:Ctx:=tR [(57,wR),(80,bRX),(85,chJ)] [] [] [] [132,133,200002,510136] [] false
def OQ(sc:bW)(v:QV)(m:MH)(h:PH)(K:cr):Prop:=
  mH m h (λb u=>dQ m u b (cD sc) 43) (λb u=>∃(y:bW),aU u h b 0 (cD y)/\Ec (cE (cD y) (gZ jQ (fM v.enc))) h (λs p q _ f=>dC (dU s p q).2 0 (K (CV.tup (vW (rL lI lI) (dU s p q).2)) u f) (Ct u f (λQ J=>mH J f (λe A=>dQ J A e (aL lI lI (lD (Value.map Option.none))) 132) (λe A=>j9 (λc E=>aA (E8 A e (kI c E 0)) (3<=c.size) (∀(D:MH),dQ A D e (aL lI lI (kW (Value.map (Option.some Q)) 3 c.toList)) E->mH D f (λg B=>dQ D B g (lD Value.nilFunc) 133) (λg B=>j9 (λF E1=>aA (E8 B g (kI F E1 0)) (0<F.size) (∀(G:MH),dQ B G g (kW (Value.func (Fn.func 80) yQ (GO g b e)) 1 F.toList) E1->∃(j:Nat×Nat×Nat),aU G f g 0 (lD (Value.func (Fn.func 80)
 yQ (GO j.1 j.2.1 j.2.2)))/\∃(R:gC->MH->PH->Prop),BD 80 136 (cE v.enc (dA j.1 (gZ (kB j.2.1) (kB j.2.2)))) G f (λl C n=>∃(x:gC),l=x.enc/\R x C n)/\∀(x:gC),iB (λC n=>R x C n->∃(L:gC)(o:PN)(d:Int)(H:MH),bI (λI M=>FI (λt r=>aA (C9 e x x.env=C9 I L d) (nE n o L) (aA (Ht o) (fN H C n I M t r) (aA (fU H) (t.length+5*jZ o<=90000) (r.length+jZ o<=90000/\iB (λa z=>cZ n z (fN H a z I M (fG o d t r).1 (fG o d t r).2) (∃(O:Sl),aU a z e 0 (aY O)/\∃(P:Sl),aU a z e 1 (aY P)/\K (CV.tup (bC (fM (rV O P)) 0)) a z))))))))))))))))))
theorem Md{q:Query}(h:(dU s ps q).2=0):(aJ s ps q).2=0/\dH s=0:=by
 unfold dU at h;split at h
 .rename_i e;refine⟨?_,e⟩;split at h
  .split at h
   .exact h
   .simp[dP]at h
  .simp[dP]at h
 .rename_i c;simp[dP]at h;omega
theorem ZF(m:MH)(E sz:Nat):dE m bR E sz []:=⟨⟨λ_ h=>by simp at h,λ_ h=>by simp at h⟩,.inl ⟨rfl,rfl⟩⟩
theorem QS:cm 36 aEZ:=by
 refine W8 func36 ?_;rintro b7 m h K ⟨sc,v,s,q,rfl,hs,hq,ht,hv,hE,hK⟩;refine⟨bCZ,rfl,aE af (aE QH (aE aqJ aG)),OQ sc v m h (iI h K),ax,?_⟩;show OQ sc v m h (iI h K);dsimp only[OQ,push_cast];intro f m1 a6 z
 have H:Sub m m1:=λx o e=>by
  rw[z.other x (λL=>by rw[L,a6.m_]at e;cases e)];exact e
 refine⟨sc,.of_m z.at_ rfl,sc,bR,v,s,[],q,rfl,hs,PY h,hq,λsl h1 E _=>aC (λM=>?_) (λM=>?_)⟩
 .have M:(dU s [] q).2≠0:=bg
  exact iI.keep H E (hE M)
 have M:(dU s [] q).2=0:=bg
 obtain⟨S,a7,b8,b5⟩:=hv M;obtain⟨T,U⟩:=Md M;have hK:=hK M;intro c m2 V g cb m3 O C;refine⟨_,_,⟨C.at_⟩,ay,λm4 d B m5 F P=>⟨_,_,⟨P.at_⟩,ay,λD A=>?_⟩⟩;have d:iP m3 m4 cb (.cells #[.slice none 0 0,.slice none 0 0,.map (some c)] 132 (0,0)):=d;have A:iP m5 D B (.cells #[cdQ B f cb] 133 (0,0)):=A;have n1:c≠f:=λe=>by have:=V.m_;rw[e,z.at_]at this;cases this
 have n2:cb≠c:=λe=>by have:=O.m_;rw[e,g.at_]at this;cases this
 have n3:cb≠f:=λe=>by have:=O.m_;rw[e,g.other f (Ne.symm n1),z.at_]at this;cases this
 have n4:B≠cb:=λe=>by have:=F.m_;rw[e,d.at_]at this;cases this
 have n5:B≠c:=λe=>by have:=F.m_;rw[e,d.other c (Ne.symm n2),C.other c (Ne.symm n2),g.at_]at this;cases this
 have n6:B≠f:=λe=>by have:=F.m_;rw[e,d.other f (Ne.symm n3),C.other f (Ne.symm n3),g.other f (Ne.symm n1),z.at_]at this;cases this
 have h6:∀x,x≠B->x≠cb->D x=m2 x:=λx Q G=>by rw[A.other x Q,P.other x Q,d.other x G,C.other x G]
 have W:D cb=some (.cells #[.slice none 0 0,.slice none 0 0,.map (some c)] 132 (0,0)):=by rw[A.other cb (Ne.symm n4),P.other cb (Ne.symm n4)];exact d.at_
 have X:D c=some (.map #[] 0):=by rw[h6 c (Ne.symm n5) (Ne.symm n2)];exact g.at_
 have b6:D f=some (.cells ⟨sc.enc⟩ 43 (0,0)):=by rw[h6 f (Ne.symm n6) (Ne.symm n3),g.other f (Ne.symm n1)];exact z.at_
 obtain⟨n,b9⟩:∃n:MH,n=λx=>if x=cb\/x=c then none else D x:=⟨_,rfl⟩
 have a8:∀x,x≠cb->x≠c->n x=D x:=λx Q G=>bg
 have Y:n cb=none:=bg
 have Z:n c=none:=bg
 have R:Sub n D:=λx o e=>by
  grind
 have j:Sub m n:=λx o e=>by
  have Q:=H x o e;have a1:x≠c:=λL=>by rw[L,V.m_]at Q;cases Q
  have G:m2 x=some o:=by rw[g.other x a1];exact Q
  have a2:x≠cb:=λL=>by rw[L,O.m_]at G;cases G
  have e3:m4 x=some o:=by rw[d.other x a2,C.other x a2];exact G
  have a3:x≠B:=λL=>by rw[L,F.m_]at e3;cases e3
  grind
 have c0:fN n D h1 cb c [] []:=⟨R,Y,Z,⟨#[],0,X,rfl⟩,ay,bR,bR,W,⟨[],ZF D _ _,rfl,λi t e=>by simp at e⟩,ZF D _ _,λb i e=>by simp[bR]at e,λb i e=>by simp[bR]at e⟩
 have I:bLX n h1 s B f cb:=⟨by rw[a8 B n4 n5];exact A.at_,⟨sc,hs.mono E,bg⟩,ht.sub j,b8J U⟩
 have a9:=Ck s q [];simp only[length_nil,Nat.zero_add]at a9;refine⟨(B,f,cb),.of_m A.at_ rfl,λy my hy=>PH.le h1 hy/\nE hy (eW s q []).1 y/\fN n my hy cb c (eW s q []).2 [],?_,λy m7 h7⟨b',ry,c7⟩=>?_⟩
 .have a':zC Tryz.prog 136=true:=ax
  refine Sound.fat (vs:=[.agg ⟨QV.enc v⟩,.pointer (some ⟨B,0,none⟩),.pointer (some ⟨f,0,none⟩),.pointer (some ⟨cb,0,none⟩)]) QH ⟨v,q,s,B,f,cb,c,n,[],[],rfl,hq.mono E,T,S,I,c0,bf,λv' m' h' b0 rp c'=>⟨gC.enc v',?_,v',rfl,b0,rp,c'⟩⟩;have e:Vc.valOf Tryz.prog 136 (gC.enc v')= .agg ⟨gC.enc v'⟩:=by unfold Vc.valOf;rw[a']
  rw[e];rfl
 .refine⟨y,(eW s q []).1,y.env,n,cb,c,(eW s q []).2,[],rfl,ry,a7,c7,I.tab,aD,bf,λm8 h8 b1 c8=>?_⟩;rw[ry.env_]at c8;have c8:fN n m8 h8 cb c (i7 s q).1 (i7 s q).2:=c8;obtain⟨p,r,a0,⟨vs,hr,a4⟩,b2,b3,b4⟩:=c8.ex;refine⟨p,.of_m a0 rfl,r,.of_m a0 rfl,λa5=>?_⟩;have hd:yK m8 h8:=⟨a5⟩
  have le:=(E.trans b').trans b1
  have fr:∀b,n b=none->m b=none:=λb e=>by
   cases G:m b with
   |none=>rfl
   |some o=>rw[j b o G]at e;cases e
  have J:=gL (eW s q []).1 ((eW s q []).1.env:Int) (eW s q []).2 [];have J:(i7 s q).1.length<=(eW s q []).2.length+5*jZ (eW s q []).1/\(i7 s q).2.length<=0+jZ (eW s q []).1:=J;refine⟨m,oN m m8 h8,λb o e=>c8.sub b o (j b o e),le.trans (zE hd),λb i w e=>?_,hK p r _ (le.trans (zE hd)) ⟨⟨vs,jE.ice ⟨hr,λb i e=>fr b (b3 b i e)⟩,a4.1,λi t e=>let⟨u,k1,k2⟩:=a4.2 i t e;⟨u,k1,k2.mono (zE hd)⟩⟩,⟨jE.ice ⟨b2,λb i e=>fr b (b4 b i e)⟩,aD⟩,aD⟩⟩;unfold oN at e
  grind
variable{cN:Nat}
theorem HT:∀{l c:cq}{r r':di},(∀n∈l,rN n)->(∀n∈c,rN n)->l.length=c.length->hU l++r=hU c++r'->l=c/\r=r'
 |[],[],_,_,_,_,_,h=>⟨rfl,h⟩
 |[],_::_,_,_,_,_,d,_=>by simp at d
 |_::_,[],_,_,_,_,d,_=>by simp at d
 |m::l,n::c,r,r',f,g,d,h=>by
  rw[uA,uA,append_assoc,append_assoc,cons_append,cons_append]at h;obtain⟨a,h⟩:=gT (f m ay) (g n ay) h;obtain⟨b,h⟩:=HT (λx e=>f x (by simp[e])) (λx e=>g x (by simp[e])) bg h
  grind
theorem IN:∀{l c:cu}{r r':di},(∀p∈l,rN p.1/\rN p.2)->(∀p∈c,rN p.1/\rN p.2)->l.length=c.length->uX l++r=uX c++r'->l=c/\r=r'
 |[],[],_,_,_,_,_,h=>⟨rfl,h⟩
 |[],_::_,_,_,_,_,d,_=>by simp at d
 |_::_,[],_,_,_,_,d,_=>by simp at d
 |m::l,n::c,r,r',e,f,d,h=>by
  rw[Mj,Mj]at h;simp only[append_assoc,cons_append]at h;obtain⟨a,h⟩:=gT (e m ay).1 (f n ay).1 h;obtain⟨j,h⟩:=gT (e m ay).2 (f n ay).2 h;obtain⟨b,h⟩:=IN (λx g=>e x (by simp[g])) (λx g=>f x (by simp[g])) bg h
  grind
theorem IB:∀{l c:cv}{r r':di},(∀p∈l,rN p.1)->(∀p∈c,rN p.1)->l.length=c.length->uV l++r=uV c++r'->l=c/\r=r'
 |[],[],_,_,_,_,_,h=>⟨rfl,h⟩
 |[],_::_,_,_,_,_,d,_=>by simp at d
 |_::_,[],_,_,_,_,d,_=>by simp at d
 |m::l,n::c,r,r',f,g,d,h=>by
  rw[Ma,Ma]at h;simp only[append_assoc,cons_append]at h;have j:∀b:Bool,rN (if b then 1 else 0):=λb=>by cases b<;>exact⟨az,az⟩
  obtain⟨a,h⟩:=gT (f m ay) (g n ay) h;obtain⟨o,h⟩:=gT (j m.2) (j n.2) h;obtain⟨b,h⟩:=IB (λx e=>f x (by simp[e])) (λx e=>g x (by simp[e])) bg h
  grind
structure bfJ(t:Step):Prop where
 op_:rN t.op
 table_:rN t.table
 limit_:rN t.limit
 left_:rN t.left
 right_:rN t.right
 cols:t.columns.length<=8000000
 on_:t.on.length<=8000000
 group_:t.group.length<=8000000
 order_:t.order.length<=8000000
theorem ahZ{x:Step}(e:bgQ x)(f:bgQ t)(c:bfJ x)(d:bfJ t)(h:stepB x=stepB t):x=t:=by
 obtain⟨op,ta,w,co,on,gr,od,li,le,T⟩:=x;obtain⟨D,E,U,F,G,H,I,J,L,M⟩:=t;have O:hU []=[]:=rfl;simp only[stepB,uA,O,append_assoc,cons_append,nil_append]at h;obtain⟨j,h⟩:=gT c.op_ d.op_ h;obtain⟨n,h⟩:=gT c.table_ d.table_ h;obtain⟨o,h⟩:=gT c.limit_ d.limit_ h;obtain⟨u,h⟩:=gT c.left_ d.left_ h;obtain⟨y,h⟩:=gT c.right_ d.right_ h;obtain⟨z,h⟩:=Mh e.wher f.wher h;obtain⟨P,h⟩:=gT (vY c.cols) (vY d.cols) h;obtain⟨A,h⟩:=HT e.cols f.cols (by simp only at P⊢;omega) h;obtain⟨Q,h⟩:=gT (vY c.on_) (vY d.on_) h;obtain⟨B,h⟩:=IN e.on_ f.on_ (by simp only at Q⊢;omega) h;obtain⟨R,h⟩:=gT (vY c.group_) (vY d.group_) h;obtain⟨C,h⟩:=HT e.group_ f.group_ (by simp only at R⊢;omega) h;obtain⟨S,h⟩:=gT (vY c.order_) (vY d.order_) h;obtain⟨g,_⟩:=IB (r:=[]) (r':=[]) e.order_ f.order_ (by simp only at S⊢;omega) (bk h);simp only at j n o u y z A B C g;subst j n o u y z A B C g;rfl
structure gY(cN:Nat)(s:jB)(q:Query):Prop where
 kinds:(aJ s [] q).2=0
 ints:QI q
 bnd:fE (cN+1) q<=8000000
theorem gY.arg{op:Int}{w:Pred}{on:cu}{args:cz}(g:gY cN s (.mk op ta w co on gr od li args)){a:Query}(c:a∈args):gY cN s a:=
 ⟨(kG g.kinds).1 a c,(HQ.1 g.ints).2 a c,bKJ g.kinds g.bnd c⟩
theorem WS{op:Int}{w:Pred}{on:cu}{args:cz}(u:s.tables.length<=1000)(h:(aJ s [] (.mk op ta w co on gr od li args)).2=0):rN op/\rN ta/\rN li:=by
 obtain⟨_,g,a,b,_,_,c⟩:=kG h;unfold dV at c;by_cases d:arity op<0\/¬cH (.mk op ta w co on gr od li args)
 .rw[if_pos d]at c;simp[dP]at c
 .rw[if_neg d]at c;rw[not_or]at d;obtain⟨j,_,_,_,n⟩:cH (.mk op ta w co on gr od li args):=Classical.not_not.1 d.2
  have o:1<=op/\op<=10:=by
   have f:=d.1;unfold arity at f;simp only[beq_iff_eq,Bool.or_eq_true]at f;omega
  refine⟨jF aD aD,?_,?_⟩
  .rcases j with rfl|rfl
   .dsimp only at c;simp only[if_true]at c;split at c
    .rename_i e;exact jF aD aD
    .simp[dP]at c
   .exact wP
  .rcases n with rfl|rfl|⟨_,_,rfl⟩
   .dsimp only at c;simp only[show¬((9:Int)=1)by decide,show¬((9:Int)=2)by decide,show¬((9:Int)=3)by decide,show¬((9:Int)=4)by decide,show¬((9:Int)=5)by decide,if_false,if_true]at c;split at c
    .rename_i e;exact jF (by have:=e.low;omega) (by have:=e.high;omega)
    .simp[dP]at c
   .dsimp only at c;simp only[show¬((10:Int)=1)by decide,show¬((10:Int)=2)by decide,show¬((10:Int)=3)by decide,show¬((10:Int)=4)by decide,show¬((10:Int)=5)by decide,show¬((10:Int)=9)by decide,if_false,if_true]at c;split at c
    .rename_i e;exact jF (by have:=e.2.low;omega) (by have:=e.2.high;omega)
    .simp[dP]at c
   .exact wP
structure Dm(cN:Nat)(s:jB)(ts:de):Prop where
 ar:∀(i:Nat) t,ts[i]? =some t->0<=arity t.op
 fit:∀(i:Nat) t,ts[i]? =some t->oB i t
 nodup:(ts.map stepB).Nodup
 good:∀i,i<ts.length->gY cN s (aM ts i)
 short:∀t∈ts,t.columns.length<=1000/\t.on.length<=1000/\t.group.length<=1000/\t.order.length<=1000
theorem Dm.ok(v:Dm cN s ts):BI ts:=λi t e=>⟨v.ar i t e,J0 (v.ar i t e) (v.fit i t e)⟩
theorem Dm.nil(s:jB):Dm cN s []:=⟨λi t e=>by simp at e,λi t e=>by simp at e,ay,λi c=>by simp at c,λt d=>by simp at d⟩
theorem OE{a:Int}{u:Bool}(h:Dh a u i=true)(c:i<=8000000):rN a:=by
 unfold Dh at h;split at h
 .simp only[bz,ce]at h;exact jF aD aD
 .have:a=0:=bk h
  rw[this];exact wP
theorem NG{q:Query}{args:cz}(j:s.tables.length<=1000)(g:gY cN s q)(n:q= .mk t.op t.table t.wher t.columns t.on t.group t.order t.limit args)(d:oB i t)(e:i<=8000000)(D:t.columns.length<=1000/\t.on.length<=1000/\t.group.length<=1000/\t.order.length<=1000):bgQ t/\bfJ t:=by
 have c:=g.ints;have f:=g.kinds;rw[n]at c f;rw[HQ]at c;obtain⟨o,u,x,y,z⟩:=c.1;obtain⟨A,B,C⟩:=WS j f;exact⟨⟨o,u,x,y,z⟩,⟨A,B,C,OE d.1 e,OE d.2 e,aD,aD,aD,aD⟩⟩
theorem aQZ{s:jB}{ts:de}{t:Step}{q:Query}(H:s.tables.length<=1000)(v:Dm cN s ts)(I:ts.length<=100000)(J:0<=arity t.op)(D:oB ts.length t)(g:gY cN s q)(E:q= .mk t.op t.table t.wher t.columns t.on t.group t.order t.limit (Cb ts t))(M:t.columns.length<=1000/\t.on.length<=1000/\t.group.length<=1000/\t.order.length<=1000):
 Dm cN s (bT t ts).1/\ts<+:(bT t ts).1/\(bT t ts).2<(bT t ts).1.length/\aM (bT t ts).1 (bT t ts).2=q:=by
 obtain⟨O,P⟩:=NG H g E D aD M;by_cases y:∀x∈ts,stepB x≠stepB t
 .rw[Wf y];dsimp only
  have c:∀(i:Nat) u,(ts++[t])[i]? =some u->ts[i]? =some u\/(i=ts.length/\u=t):=λi u e=>by
   grind
  have f:∀(i:Nat) u,(ts++[t])[i]? =some u->0<=arity u.op:=λi u e=>by
   rcases c i u e with e|⟨_,rfl⟩
   .exact v.ar i u e
   .exact J
  have d:∀(i:Nat) u,(ts++[t])[i]? =some u->oB i u:=λi u e=>by
   rcases c i u e with e|⟨rfl,rfl⟩
   .exact v.fit i u e
   .exact D
  have j:BI (ts++[t]):=λi u e=>⟨f i u e,J0 (f i u e) (d i u e)⟩
  have F:ts<+:ts++[t]:=prefix_append _ _
  have n:aM (ts++[t]) ts.length=q:=by
   rw[pH j (t:=t) ay,E]
   have:Cb (ts++[t]) t=Cb ts t:=map_congr_left λa L=>by
    have:=J0 J D a L;exact eM F j a.toNat aD
   rw[this]
  refine⟨⟨f,d,?_,λi o=>?_,λu B=>?_⟩,F,ay,n⟩
  .rw[bw,nodup_append];refine⟨v.nodup,ay,λa L b T=>?_⟩
   grind
  .by_cases z:i<ts.length
   .rw[eM F j i z];exact v.good i z
   grind
  .rcases mem_append.1 B with B|B
   .exact v.short u B
   grind
 .have:∃x∈ts,stepB x=stepB t:=Classical.byContradiction λQ=>y λx C e=>Q ⟨x,C,e⟩;obtain⟨x,C,e⟩:=this;obtain⟨i,o⟩:=mem_iff_getElem?.1 C;have A:=(bm o);obtain⟨R,S⟩:=NG H (v.good i A) (pH v.ok o) (v.fit i x o) aD (v.short x C);have G:x=t:=ahZ R O S P e;subst G;rw[We v.nodup o rfl];exact⟨v,prefix_refl _,A,by rw[pH v.ok o,E]⟩
theorem T6(v:Dm cN s ts)(d:ts[i]? =some t):Co s ((List.range i).map λj=>(aJ s [] (aM ts j)).1) t=((aJ s [] (aM ts i)).1,0):=by
 have A:=(bm d);have g:=(v.good i A).kinds;have B:=pH v.ok d;rw[B]at g⊢
 have C:=FV g;have E:=v.ar i t d;have F:=DF t.op;have x:=v.fit i t d;have c:=(v.ok i t d).2;have D:((List.range i).map λj=>(aJ s [] (aM ts j)).1).length=i:=ay
 have y:Cj ((List.range i).map λj=>(aJ s [] (aM ts j)).1) t.left (decide (arity t.op>0))=((Cb ts t).map λq=>(aJ s [] q).1).getD 0 []/\Cj ((List.range i).map λj=>(aJ s [] (aM ts j)).1) t.right (decide (arity t.op>1))=((Cb ts t).map λq=>(aJ s [] q).1).getD 1 []:=by
  obtain⟨n,f⟩:∃n:Nat,arity t.op=n:=⟨(arity t.op).toNat,aD⟩
  unfold Cb;unfold AM at c⊢
  rw[f,Int.toNat_natCast]at c⊢
  match n,f,c with
  |0,_,_=>exact⟨rfl,rfl⟩
  |1,f,c=>
   have o:=c t.left ay;exact⟨Pk o.1 o.2,rfl⟩
  |2,f,c=>
   have o:=c t.left ay;have z:=c t.right ay;exact⟨Pk o.1 o.2,Pk z.1 z.2⟩
  |n+3,f,_=>omega
 have u:dV s [] t.query (Cj ((List.range i).map λj=>(aJ s [] (aM ts j)).1) t.left (decide (arity t.op>0))) (Cj ((List.range i).map λj=>(aJ s [] (aM ts j)).1) t.right (decide (arity t.op>1)))=aJ s [] (.mk t.op t.table t.wher t.columns t.on t.group t.order t.limit (Cb ts t)):=by
  rw[C,y.1,y.2];rfl
 unfold Co;rw[u,D,if_neg,if_neg aD]
 .grind
 .rintro(e|e|e)
  .omega
  .rw[x.1]at e;cases e
  .rw[x.2]at e;cases e
theorem Iz{s:jB}{ts:de}(v:Dm cN s ts):∀(n i:Nat),i+n=ts.length->(BT s ((List.range i).map λj=>(aJ s [] (aM ts j)).1) (ts.drop i)).2=0
 |0,i,d=>by
  rw[drop_of_length_le aD];rfl
 |n+1,i,d=>by
  have c:ts[i]? =some ts[i]:=bo aD;rw[L5 c,T6 v c,if_pos rfl];have:=Iz v n (i+1) aD
  rwa [range_succ,bw]at this
theorem Mi(v:Dm cN s ts)(c:dH s=0)(d:ts.length<=1024)(e:rs.length<=32)(f:∀r∈rs,0<=r/\r<ts.length):gH s ts rs=0:=by
 rw[Hy c aD,if_neg,if_pos]
 .grind
 .have:=Iz v ts.length 0 aD
  grind
variable{cN:Nat}
mutual
def gR:Query->Query
 |.mk op ta w co on gr od li args=>if Hw op=true then(F4 args).getD 0 Zr else .mk op ta w co on gr od li (F4 args)
def F4:cz->cz
 |[]=>[]
 |q::qs=>gR q::F4 qs
end
theorem Hf:∀l:cz,F4 l=l.map gR
 |[]=>by simp[F4]
 |q::l=>by rw[F4,Hf l];rfl
def lB(a b:Query)(on:cu):Query:=.mk 5 0 eJ [] on [] [] 0 [a,b]
def jM(a b:Query):Query:=.mk 8 0 eJ [] [] [] [] 0 [a,b]
def Hx(a:Query)(co:cq):Query:=.mk 3 0 eJ co [] [] [] 0 [a]
def Fe(a b:Query)(gr:cq)(od:cv)(li:Int):Query:=.mk 10 0 eJ [] [] gr od li [a,b]
def pI(c:Query->Int)(q D:Query):cz:=
 match q with
 |.mk op _ _ co on gr od li args=>
  match args with
  |[]=>if op=1 then[D]else[]
  |[a]=>
   if op=2 then pI c a D
   else if op=3 then pI c a (lB (gR a) D (nZ co))
   else if op=9 then pI c a (Fe (lB (gR a) D (tA gr)) a gr od li)
   else[]
  |a::b::_=>
   if op=4 then pI c a (Hx (lB D b (AU (c a) (c b))) (gS 0 (c a)))++pI c b (Hx D (gS (c a) (c b)))
   else if op=5 then pI c a (lB D b on)++pI c b (lB (gR b) D (pW on))
   else if op=6 then pI c a (jM (gR a) D)++pI c b (jM (gR b) D)
   else if op=7\/op=8 then pI c a D++pI c b (jM (jM (gR b) D) a)
   else if op=10 then pI c a D++pI c b (Fe (lB (gR b) D (tA gr)) b gr od li)
   else[]
 termination_by SizeOf.sizeOf q
noncomputable def wT(s:jB)(q:Query):Int:=((aJ s [] q).1.length:Int)
def bsQ(s:jB)(op ta:Int)(co a b:cq):cq:=if op=1 then jL s ta else if op=3 then co.map (λc=>a.getD c.toNat 0)else if op=4 then a++b else a
structure bjX(s:jB)(op ta:Int)(co:cq)(on:cu)(gr:cq)(od:cv)(li:Int)(a b:cq)(r:cq):Prop where
 out:r=bsQ s op ta co a b
 len:r.length<=12
 tab:op=1->0<=ta/\ta<s.tables.length
 proj:op=3->co≠[]/\Good (λ_ c=>Cg a c=true) co
 pair:op=4\/op=5->Good (lS a b) on
 rank:op=9\/op=10->lH a gr od li
 same:op=6\/op=7\/op=8\/op=10->a=b
theorem rQ(h:(lF l).2=0):l.length<=12:=by
 unfold lF at h
 grind
theorem UE{op:Int}{w:Pred}{on:cu}{args:cz}{b:cq}(h:(dV s [] (.mk op ta w co on gr od li args) a b).2=0):
 bjX s op ta co on gr od li a b (dV s [] (.mk op ta w co on gr od li args) a b).1/\1<=op/\op<=10:=by
 unfold dV at h⊢
 by_cases d:arity op<0\/¬cH (.mk op ta w co on gr od li args)
 .rw[if_pos d]at h;simp[dP]at h
 rw[if_neg d]at h⊢
 rw[not_or]at d;have f:=d.1
 have e:op=1\/op=2\/op=3\/op=9\/op=4\/op=5\/op=6\/op=7\/op=8\/op=10:=by
  unfold arity at f
  grind
 refine⟨?_,aD,aD⟩;dsimp only at h⊢
 rcases e with rfl|rfl|rfl|rfl|rfl|rfl|rfl|rfl|rfl|rfl
 .simp only[if_true]at h⊢
  split at h
  .rename_i c;rw[if_pos c];rw[rG h];exact⟨rfl,rQ h,λ_=>c,ay,ay,ay,ay⟩
  .simp[dP]at h
 .simp only[show¬((2:Int)=1)by decide,if_true,if_false]at h⊢
  split at h
  .rename_i c;rw[if_pos c];rw[rG h];exact⟨rfl,rQ h,ay,ay,ay,ay,ay⟩
  .rename_i c;simp[dP]at h;omega
 .simp only[show¬((3:Int)=1)by decide,show¬((3:Int)=2)by decide,if_true,if_false]at h⊢
  split at h
  .rename_i c;rw[if_pos c];rw[rG h];exact⟨rfl,rQ h,ay,λ_=>c,ay,ay,ay⟩
  .simp[dP]at h
 .simp only[show¬((9:Int)=1)by decide,show¬((9:Int)=2)by decide,show¬((9:Int)=3)by decide,show¬((9:Int)=4)by decide,show¬((9:Int)=5)by decide,if_true,if_false]at h⊢
  split at h
  .rename_i c;rw[if_pos c];rw[rG h];exact⟨rfl,rQ h,ay,ay,ay,λ_=>c,ay⟩
  .simp[dP]at h
 .simp only[show¬((4:Int)=1)by decide,show¬((4:Int)=2)by decide,show¬((4:Int)=3)by decide,if_true,if_false]at h⊢
  split at h
  .rename_i c;rw[if_pos c];rw[rG h];exact⟨rfl,rQ h,ay,ay,λ_=>c,ay,ay⟩
  .simp[dP]at h
 .simp only[show¬((5:Int)=1)by decide,show¬((5:Int)=2)by decide,show¬((5:Int)=3)by decide,show¬((5:Int)=4)by decide,if_true,if_false]at h⊢
  split at h
  .rename_i c;rw[if_pos c];rw[rG h];exact⟨rfl,rQ h,ay,ay,λ_=>c,ay,ay⟩
  .simp[dP]at h
 .simp only[show¬((6:Int)=1)by decide,show¬((6:Int)=2)by decide,show¬((6:Int)=3)by decide,show¬((6:Int)=4)by decide,show¬((6:Int)=5)by decide,show¬((6:Int)=9)by decide,show¬((6:Int)=10)by decide,if_true,if_false]at h⊢
  split at h
  .rename_i c;rw[if_pos c];rw[rG h];exact⟨rfl,rQ h,ay,ay,ay,ay,λ_=>c⟩
  .simp[dP]at h
 .simp only[show¬((7:Int)=1)by decide,show¬((7:Int)=2)by decide,show¬((7:Int)=3)by decide,show¬((7:Int)=4)by decide,show¬((7:Int)=5)by decide,show¬((7:Int)=9)by decide,show¬((7:Int)=10)by decide,if_true,if_false]at h⊢
  split at h
  .rename_i c;rw[if_pos c];rw[rG h];exact⟨rfl,rQ h,ay,ay,ay,ay,λ_=>c⟩
  .simp[dP]at h
 .simp only[show¬((8:Int)=1)by decide,show¬((8:Int)=2)by decide,show¬((8:Int)=3)by decide,show¬((8:Int)=4)by decide,show¬((8:Int)=5)by decide,show¬((8:Int)=9)by decide,show¬((8:Int)=10)by decide,if_true,if_false]at h⊢
  split at h
  .rename_i c;rw[if_pos c];rw[rG h];exact⟨rfl,rQ h,ay,ay,ay,ay,λ_=>c⟩
  .simp[dP]at h
 .simp only[show¬((10:Int)=1)by decide,show¬((10:Int)=2)by decide,show¬((10:Int)=3)by decide,show¬((10:Int)=4)by decide,show¬((10:Int)=5)by decide,show¬((10:Int)=9)by decide,if_true,if_false]at h⊢
  split at h
  .rename_i c;rw[if_pos c];rw[rG h];exact⟨rfl,rQ h,ay,ay,ay,λ_=>c.2,λ_=>c.1⟩
  .simp[dP]at h
theorem JT(h:l.length<=12):lF l=(l,0):=by unfold lF;rw[if_pos h]
theorem akJ{on:cu}{args:cz}{b:cq}(h:a.length<=12)(c:Good (lS a b) on):dV s [] (.mk 5 0 eJ [] on [] [] 0 args) a b=(a,0):=by
 unfold dV;rw[if_neg (by simp[cH,arity])];simp only[show¬((5:Int)=1)by decide,show¬((5:Int)=2)by decide,show¬((5:Int)=3)by decide,show¬((5:Int)=4)by decide,if_true,if_false,if_pos c,JT h]
theorem WT{args:cz}(h:a.length<=12):dV s [] (.mk 8 0 eJ [] [] [] [] 0 args) a a=(a,0):=by
 unfold dV;rw[if_neg (by simp[cH,arity])];simp only[show¬((8:Int)=1)by decide,show¬((8:Int)=2)by decide,show¬((8:Int)=3)by decide,show¬((8:Int)=4)by decide,show¬((8:Int)=5)by decide,show¬((8:Int)=9)by decide,show¬((8:Int)=10)by decide,if_true,if_false,JT h]
theorem alQ{args:cz}{b:cq}(d:co≠[])(e:Good (λ_ c=>Cg a c=true) co)(h:co.length<=12):dV s [] (.mk 3 0 eJ co [] [] [] 0 args) a b=(co.map (λc=>a.getD c.toNat 0),0):=by
 unfold dV;rw[if_neg (by simp[cH,arity])];simp only[show¬((3:Int)=1)by decide,show¬((3:Int)=2)by decide,if_true,if_false];rw[if_pos ⟨d,e⟩,JT (bk h)]
theorem alX{args:cz}(h:a.length<=12)(c:lH a gr od li):dV s [] (.mk 10 0 eJ [] [] gr od li args) a a=(a,0):=by
 unfold dV;rw[if_neg (by simp[cH,arity])];simp only[show¬((10:Int)=1)by decide,show¬((10:Int)=2)by decide,show¬((10:Int)=3)by decide,show¬((10:Int)=4)by decide,show¬((10:Int)=5)by decide,show¬((10:Int)=9)by decide,if_true,if_false];rw[if_pos ⟨rfl,c⟩,JT h]
theorem gY.k{q:Query}(g:gY cN s q):aJ s [] q=((aJ s [] q).1,0):=Prod.ext rfl g.kinds
theorem gY.two{op:Int}{w:Pred}{on:cu}{a b:Query}{K:cq}(c:gY cN s a)(d:gY cN s b)(g:arity op=2)(j:dV s [] (.mk op ta w co on gr od li [a,b]) (aJ s [] a).1 (aJ s [] b).1=(K,0))(n:C3 w)(o:fE (cN+1) (.mk op ta w co on gr od li [a,b])<=8000000):
 gY cN s (.mk op ta w co on gr od li [a,b])/\(aJ s [] (.mk op ta w co on gr od li [a,b])).1=K:=by
 have e:aJ s [] (.mk op ta w co on gr od li [a,b])=(K,0):=by
  rw[aJ,tP (ks:=[(aJ s [] a).1,(aJ s [] b).1]) (by show[aJ s [] a,aJ s [] b]=[((aJ s [] a).1,0),((aJ s [] b).1,0)];rw[<-c.k, <-d.k])]
  grind
 refine⟨⟨by rw[e],HQ.2 ⟨WU (s:=s) (ps:=[]) (a:=(aJ s [] a).1) (b:=(aJ s [] b).1) (kH ..) (kH ..) (by simp) n.num (by rw[j]),λq f=>?_⟩,o⟩,by rw[e]⟩;simp at f;rcases f with rfl|rfl
 .exact c.ints
 .exact d.ints
theorem gY.one{op:Int}{w:Pred}{on:cu}{a:Query}{K:cq}(c:gY cN s a)(f:arity op=1)(g:dV s [] (.mk op ta w co on gr od li [a]) (aJ s [] a).1 []=(K,0))(j:C3 w)(n:fE (cN+1) (.mk op ta w co on gr od li [a])<=8000000):
 gY cN s (.mk op ta w co on gr od li [a])/\(aJ s [] (.mk op ta w co on gr od li [a])).1=K:=by
 have d:aJ s [] (.mk op ta w co on gr od li [a])=(K,0):=by
  rw[aJ,tP (ks:=[(aJ s [] a).1]) (by show[aJ s [] a]=[((aJ s [] a).1,0)];rw[<-c.k])]
  grind
 refine⟨⟨by rw[d],HQ.2 ⟨WU (s:=s) (ps:=[]) (a:=(aJ s [] a).1) (b:=[]) (kH ..) (by simp) (by simp) j.num (by rw[g]),λq e=>?_⟩,n⟩,by rw[d]⟩;simp at e;subst e;exact c.ints
theorem Ds{s:jB}{a b:Query}{on:cu}(c:gY cN s a)(d:gY cN s b)(e:Good (lS (aJ s [] a).1 (aJ s [] b).1) on)(f:fE (cN+1) a+fE (cN+1) b<=8000000):gY cN s (lB a b on)/\(aJ s [] (lB a b on)).1=(aJ s [] a).1:=
 gY.two c d rfl (akJ (kH ..) e) oS (by simpa[fE,rK]using f)
theorem zD{a b:Query}(c:gY cN s a)(d:gY cN s b)(e:(aJ s [] a).1=(aJ s [] b).1)(f:fE (cN+1) a+fE (cN+1) b<=8000000):gY cN s (jM a b)/\(aJ s [] (jM a b)).1=(aJ s [] a).1:=
 gY.two c d rfl (by rw[<-e];exact WT (kH ..)) oS (by simpa[fE,rK]using f)
theorem Qm{s:jB}{a:Query}{co:cq}(d:gY cN s a)(e:co≠[])(f:Good (λ_ c=>Cg (aJ s [] a).1 c=true) co)(g:co.length<=12)(j:fE (cN+1) a<=8000000):gY cN s (Hx a co)/\(aJ s [] (Hx a co)).1=co.map (λc=>(aJ s [] a).1.getD c.toNat 0):=
 gY.one d rfl (alQ e f g) oS (by simpa[fE,rK]using j)
theorem ajX{s:jB}{a b:Query}{gr:cq}{od:cv}{li:Int}(c:gY cN s a)(d:gY cN s b)(e:(aJ s [] a).1=(aJ s [] b).1)(f:lH (aJ s [] a).1 gr od li)(g:fE (cN+1) a+fE (cN+1) b<=8000000):gY cN s (Fe a b gr od li)/\(aJ s [] (Fe a b gr od li)).1=(aJ s [] a).1:=
 gY.two c d rfl (by rw[<-e];exact alX (kH ..) f) oS (by simpa[fE,rK]using g)
theorem gY.node{op:Int}{w:Pred}{on:cu}{args:cz}(g:gY cN s (.mk op ta w co on gr od li args)):
 bjX s op ta co on gr od li ((args.map λq=>(aJ s [] q).1).getD 0 []) ((args.map λq=>(aJ s [] q).1).getD 1 []) (aJ s [] (.mk op ta w co on gr od li args)).1/\(1<=op/\op<=10)/\(args.length:Int)=arity op/\∀a∈args,gY cN s a:=by
 have c:=FV g.kinds;have h:=g.kinds;rw[c]at h;have:=UE h;rw[<-c]at this;exact⟨this.1,this.2,(kG g.kinds).2.1,λa d=>g.arg d⟩
theorem bOQ{op:Int}{on:cu}{args:cz}{w:Pred}(g:gY cN s (.mk op ta w co on gr od li args)):co.length<=12/\on.length<=12/\gr.length<=12/\od.length<=12:=by
 obtain⟨_,_,a,b,D,_,h⟩:=kG g.kinds;have n:=(UE h).1
 have u:cH (.mk op ta w co on gr od li args):=by
  unfold dV at h;by_cases z:arity op<0\/¬cH (.mk op ta w co on gr od li args)
  .rw[if_pos z]at h;simp[dP]at h
  grind
 obtain⟨_,_,A,B,C⟩:=u
 have d:Good (lS a b) on->on.length<=12:=λg=>by
  have:=JZ (f:=λp=>p.1) (n:=a.length) g (λc x t=>by have:=t.1;rw[dZ]at this;exact this) (λc x t y o=>(t.2.2.2 y o).1);omega
 have j:lH a gr od li->gr.length<=12/\od.length<=12:=λr=>by
  have:=JZ (f:=λp=>p) (n:=a.length) r.group_ (λc x t=>by have:=t.1;rw[dZ]at this;exact this) (λc x t y o e=>t.2 bg);exact⟨aD,r.len_⟩
 refine⟨?_,?_,?_⟩
 .rcases A with rfl|rfl
  .have:=n.len;rw[n.out]at this;simpa[bsQ]using this
  .simp
 .rcases B with rfl|rfl|rfl
  .exact d (n.pair (.inl rfl))
  .exact d (n.pair (.inr rfl))
  .simp
 .rcases C with rfl|rfl|⟨rfl,rfl,_⟩
  .exact j (n.rank (.inl rfl))
  .exact j (n.rank (.inr rfl))
  .simp
variable{cN:Nat}
theorem HE{s:jB}:∀{l c:cz},l.map (aJ s [])=c.map (aJ s [])->eO s [] l=eO s [] c
 |[],[],_=>rfl
 |[],_::_,h=>by simp at h
 |_::_,[],h=>by simp at h
 |q::l,d::c,h=>by
  simp only[map_cons,List.cons.injEq]at h;rw[eO,eO,h.1,HE h.2]
theorem W4{op:Int}{w:Pred}{on:cu}{args c:cz}(h:c.map (aJ s [])=args.map (aJ s [])):aJ s [] (.mk op ta w co on gr od li c)=aJ s [] (.mk op ta w co on gr od li args):=by
 rw[aJ,aJ,HE h];split;rename_i ks e _;rw[HU s [] op ta w co on gr od li c,HU s [] op ta w co on gr od li args]
theorem aGJ{f:Query->Query}:∀{l:cz},(∀a∈l,fE (cN+1) (f a)<=fE (cN+1) a)->rK (cN+1) (l.map f)<=rK (cN+1) l/\rU (cN+1) (l.map f)<=rU (cN+1) l
 |[],_=>⟨Nat.le_refl _,Nat.le_refl _⟩
 |q::l,h=>by
  have c:=h q ay;have d:=aGJ (l:=l) λa e=>h a (by simp[e]);simp only[map_cons,rK,rU];exact⟨aD,Nat.mul_le_mul c d.2⟩
theorem Z9{op:Int}{w:Pred}{on:cu}{args:cz}(g:gY cN s (.mk op ta w co on gr od li args)){a:Query}(d:a∈args):fE (cN+1) a<=fE (cN+1) (.mk op ta w co on gr od li args):=by
 obtain⟨j,f,n,_⟩:=wH g.k;have o:=Kl (c:=cN+1) aD f a d;rw[fE];split
 .rename_i e;subst e;rw[KD f n]at d;cases d
 grind
theorem SP{op:Int}(h:Hw op=true):op=7\/op=9\/op=10:=by
 unfold Hw at h
 grind
theorem DC{s:jB}:∀q:Query,gY cN s q->gY cN s (gR q)/\(aJ s [] (gR q)).1=(aJ s [] q).1/\fE (cN+1) (gR q)<=fE (cN+1) q
 |.mk op ta w co on gr od li args,g=>by
  obtain⟨n,z,A,u⟩:=g.node;have j:∀a∈args,gY cN s (gR a)/\(aJ s [] (gR a)).1=(aJ s [] a).1/\fE (cN+1) (gR a)<=fE (cN+1) a:=λa d=>DC a (u a d);rw[gR];split
  .rename_i B;have C:=SP B
   obtain⟨a,c,rfl⟩:∃a c,args=a::c:=by
    cases args with
    |nil=>
     exfalso;have:(1:Int)<=arity op:=by rcases C with rfl|rfl|rfl<;>decide
     grind
    |cons a c=>grind
   have o:=j a ay;have e:(F4 (a::c)).getD 0 Zr=gR a:=by rw[F4];rfl
   rw[e];refine⟨o.1,?_,cj o.2.2 (Z9 g ay)⟩;rw[o.2.1,n.out];unfold bsQ
   grind
  .rw[Hf]
   have x:aJ s [] (.mk op ta w co on gr od li (args.map gR))=aJ s [] (.mk op ta w co on gr od li args):=W4 (by
    rw[map_map];refine map_congr_left λa d=>?_;show aJ s [] (gR a)=aJ s [] a;rw[(j a d).1.k,(u a d).k,(j a d).2.1])
   have y:fE (cN+1) (.mk op ta w co on gr od li (args.map gR))<=fE (cN+1) (.mk op ta w co on gr od li args):=by
    have:=aGJ (l:=args) (f:=gR) λa d=>(j a d).2.2;simp only[fE]
    grind
   refine⟨⟨by rw[x];exact g.kinds,HQ.2 ⟨(HQ.1 g.ints).1,λq D=>?_⟩,cj y g.bnd⟩,by rw[x],y⟩;obtain⟨a,d,rfl⟩:=mem_map.1 D;exact(j a d).1.ints
 termination_by q=>SizeOf.sizeOf q
theorem aHZ(h:dH s=0){t:Int}(e:0<=t)(f:t<s.tables.length):0<(jL s t).length:=by
 have c:Kq s:=by
  unfold dH at h
  grind
 unfold jL;rw[if_neg aD];have d:t.toNat<s.tables.length:=by omega
 rw[bo d];have:=c.2.2.1 t.toNat _ (bo d);have g:=this.2.1;have j:=this.2.2.1
 grind
theorem Uf(h:dH s=0):s.tables.length<=1000:=by
 unfold dH at h;split at h
 .rename_i e;have:=e.1;omega
 .cases h
theorem KW{s:jB}(f:dH s=0):∀q:Query,gY cN s q->0<(aJ s [] q).1.length
 |.mk op ta w co on gr od li args,g=>by
  obtain⟨n,j,d,o⟩:=g.node;rw[n.out]
  have u:op≠1->∃a c,args=a::c:=λz=>by
   cases args with
   |nil=>
    exfalso;simp only[length_nil]at d;unfold arity at d
    grind
   |cons a c=>grind
  unfold bsQ;split
  .rename_i e;exact aHZ f (n.tab e).1 (n.tab e).2
  .rename_i x;obtain⟨a,c,rfl⟩:=u x;have A:=KW f a (o a ay);split
   .rename_i y;have:=(n.proj y).1
    grind
   grind
 termination_by q=>SizeOf.sizeOf q
theorem Y6{op:Int}{w:Pred}{on:cu}{ks:dl}(h:(ks.length:Int)=arity op):Cb ts (yM op ta w co on gr od li ks)=ks.map (aM ts):=by
 have c:=DF op;unfold Cb AM yM;dsimp only;rw[<-h,Int.toNat_natCast]
 match ks,h with
 |[],_=>rfl
 |[a],_=>simp
 |[a,b],_=>simp
 |_::_::_::_,h=>grind
theorem aSQ{n:Nat}{op:Int}{w:Pred}{on:cu}{ks:dl}(h:(ks.length:Int)=arity op)(c:∀k∈ks,k<n):oB n (yM op ta w co on gr od li ks):=by
 have d:=DF op;unfold oB yM Dh;dsimp only;rw[<-h]
 match ks,h,c with
 |[],_,_=>simp
 |[a],_,c=>have:=c a ay;simp;omega
 |[a,b],_,c=>have:=c a ay;have:=c b ay;simp;omega
 |_::_::_::_,h,_=>grind
structure AP(cN:Nat)(s:jB)(ts ts':de)(k:Nat)(q:Query):Prop where
 inv:Dm cN s ts'
 pre:ts<+:ts'
 lt:k<ts'.length
 is:aM ts' k=q
theorem Kn{s:jB}{ts:de}{op ta:Int}{w:Pred}{co:cq}{on:cu}{gr:cq}{od:cv}{li:Int}{ks:dl}{args:cz}(d:s.tables.length<=1000)(v:Dm cN s ts)(e:ts.length<=100000)(c:(ks.length:Int)=arity op)(f:∀k∈ks,k<ts.length)(j:ks.map (aM ts)=args)(g:gY cN s (.mk op ta w co on gr od li args)):
 AP cN s ts (bT (yM op ta w co on gr od li ks) ts).1 (bT (yM op ta w co on gr od li ks) ts).2 (.mk op ta w co on gr od li args):=by
 obtain⟨y,z,A,B⟩:=bOQ g;obtain⟨n,o,u,x⟩:=aQZ (t:=yM op ta w co on gr od li ks) d v e (by show 0<=arity op;omega) (aSQ c f) g (by rw[Y6 c,j];rfl) ⟨by show co.length<=1000;omega,by show on.length<=1000;omega,by show gr.length<=1000;omega,by show od.length<=1000;omega⟩;exact⟨n,o,u,x⟩
def Ge(cN:Nat)(s:jB)(ts:de)(p:PN):Prop:=
 match p with
 |.mk q args r e c=>r<ts.length/\e<ts.length/\aM ts r=q/\aM ts e=gR q/\c=wT s q/\gY cN s q/\q.args=args.map PN.q/\∀a∈args,Ge cN s ts a
 termination_by SizeOf.sizeOf p
theorem Ge.mono{s:jB}{ts c:de}(d:ts<+:c)(ok:BI c):∀p:PN,Ge cN s ts p->Ge cN s c p
 |.mk q args r e A,h=>by
  rw[Ge]at h⊢
  obtain⟨f,g,j,n,o,u,x,y⟩:=h;have B:=d.length_le;exact⟨aD,aD,by rw[eM d ok r f];exact j,by rw[eM d ok e g];exact n,o,u,x,λa z=>Ge.mono d ok a (y a z)⟩
 termination_by p=>SizeOf.sizeOf p
theorem Ge.get{p:PN}(h:Ge cN s ts p):p.rows<ts.length/\p.env<ts.length/\aM ts p.rows=p.q/\aM ts p.env=gR p.q/\p.width=wT s p.q/\gY cN s p.q/\p.q.args=p.args.map PN.q/\∀a∈p.args,Ge cN s ts a:=by
 cases p;rw[Ge]at h;exact h
theorem aJX{s:jB}{ts:de}:∀p:PN,Ge cN s ts p->Ht p/\jZ p=lZ p.q
 |.mk (.mk op ta w co on gr od li c) args r e y,h=>by
  rw[Ge]at h;obtain⟨_,_,_,_,j,f,d,n⟩:=h;have d:c=args.map PN.q:=d;obtain⟨z,A,B,C⟩:=bOQ f;obtain⟨_,_,o,_⟩:=f.node;have g:∀a∈args,Ht a/\jZ a=lZ a.q:=λa u=>aJX a (n a u);have D:=kH s [] (.mk op ta w co on gr od li c);unfold wT at j;refine⟨?_,?_⟩
  .rw[Ht]
   grind
  .have key:∀l:eh,(∀a∈l,jZ a=lZ a.q)->qK l=nC (l.map PN.q):=by
    intro l
    induction l with
    |nil=>intro _;simp[qK,nC]
    |cons a l g=>intro h;simp only[qK,map_cons,nC,h a ay,g λb x=>h b (by simp[x])]
   simp only[jZ,PN.q,lZ,d]
   grind
 termination_by p=>SizeOf.sizeOf p
mutual
theorem TX{s:jB}(u:s.tables.length<=1000):∀(q:Query)(ts:de),gY cN s q->Dm cN s ts->ts.length+2*lZ q<=100000->Dm cN s (eW s q ts).2/\ts<+:(eW s q ts).2/\Ge cN s (eW s q ts).2 (eW s q ts).1/\(eW s q ts).1.q=q
 |.mk op ta w co on gr od li args,ts,g,v,E=>by
  obtain⟨n,F,G,H⟩:=g.node;simp only[lZ]at E;have f:=LX (.mk op ta w co on gr od li args) ts g.kinds;obtain⟨I,z,x,j⟩:=P8 u args ts H v aD;have Q:=wW s args ts;rw[Gj]at f⊢
  generalize R:(dT s args ts).1=P at*
  generalize S:(dT s args ts).2=T at*
  have B:P.length=args.length:=bg
  have J:(P.map PN.rows).map (aM T)=args:=by
   rw[map_map, <-j];exact map_congr_left λp d=>(x p d).get.2.2.1
  have A:=Kn u I aD bg (λk y=>by obtain⟨p,d,rfl⟩:=mem_map.1 y;exact(x p d).get.1) J g;have o:∀p∈P,Ge cN s (bT (yM op ta w co on gr od li (P.map PN.rows)) T).1 p:=λp d=>Ge.mono A.pre A.inv.ok p (x p d);have L:=dM (yM op ta w co on gr od li (P.map PN.rows)) T;unfold YY at f⊢
  dsimp only at f⊢
  split at f
  .rename_i c;rw[if_pos c];have M:=SP c
   obtain⟨p,e,rfl⟩:∃a e,P=a::e:=by
    cases P with
    |nil=>
     exfalso;have:(1:Int)<=arity op:=by rcases M with rfl|rfl|rfl<;>decide
     grind
    |cons a e=>grind
   have C:=(o p ay).get;refine⟨A.inv,z.trans A.pre,?_,rfl⟩;rw[Ge];refine⟨A.lt,C.2.1,A.is,?_,f,g,j.symm,o⟩;show aM _ p.env=_;rw[C.2.2.2.1,gR,if_pos c, <-j,map_cons,F4];rfl
  .rename_i c;rw[if_neg c]
   have O:(P.map PN.env).map (aM (bT (yM op ta w co on gr od li (P.map PN.rows)) T).1)=F4 args:=by
    rw[map_map,Hf, <-j,map_map];exact map_congr_left λp d=>(o p d).get.2.2.2.1
   have D:=(DC _ g).1;rw[gR,if_neg c]at D;have A2:=Kn u A.inv aD bg (λk y=>by obtain⟨p,d,rfl⟩:=mem_map.1 y;exact(o p d).get.2.1) O D;refine⟨A2.inv,(z.trans A.pre).trans A2.pre,?_,rfl⟩;rw[Ge];refine⟨ck A.lt A2.pre.length_le,A2.lt,by rw[eM A2.pre A2.inv.ok _ A.lt];exact A.is,by rw[A2.is,gR,if_neg c],f,g,j.symm,λp d=>Ge.mono A2.pre A2.inv.ok p (o p d)⟩
theorem P8{s:jB}(c:s.tables.length<=1000):∀(l:cz)(ts:de),(∀q∈l,gY cN s q)->Dm cN s ts->ts.length+2*nC l<=100000->Dm cN s (dT s l ts).2/\ts<+:(dT s l ts).2/\(∀p∈(dT s l ts).1,Ge cN s (dT s l ts).2 p)/\(dT s l ts).1.map PN.q=l
 |[],ts,_,v,_=>by simp only[dT];grind
 |q::l,ts,h,v,g=>by
  simp only[nC]at g;obtain⟨j,n,o,x⟩:=TX c q ts (h q ay) v aD;have y:=Ck s q ts;obtain⟨d,e,z,A⟩:=P8 c l (eW s q ts).2 (λa u=>h a (by simp[u])) j aD;rw[dT];refine⟨d,n.trans e,λp f=>?_,bg⟩;rcases mem_cons.1 f with rfl|f
  .exact Ge.mono e d.ok _ o
  grind
end
end Go.Ps
