/-
  Part 8 of a proof that a law of the given program returns true: a condition generator that is proved sound, and contracts of functions. No condition of its own. Own work, joined by a program (pack2.py).
-/
import Derived.Test.YtmecdlibgejboaaGreatDoorNg
set_option linter.unusedVariables false
set_option linter.unusedSimpArgs false
namespace Go.Ps
open Go Go.Vc Go.Proofs List Tryz
variable{K:bu}{m:MH}{h:PH}{s:iJ}{ps:bt}{ts:ck}{cb:Nat}{sc:cN}{v:QV}{t:Step}{p:Pred}{l:bt}{i:Nat}{N:Nat}{m':MH}{h':PH}{co:bt}{gr:bt}{od:ca}{ta:Int}{li:Int}{xs:List bw}{sz:Nat}{ks:List bt}{rs:bt}{r:Sl}{a:bt}{b:Nat}
def KQ2(K:bu)(m:MH)(h:PH)(cb:Nat)(s:iJ)(ps:bt)(d:Nat):Prop:=∀w q m' h',PH.le h h'->eO h' q w->QW q->BP d q->(dU s ps q).2=0->bM m m' cb->bC m' h' cb->K (aQ w) m' h'
def XN(N:Nat):Vc.Spec:=λd m h K=>∃cb sc p s ps c,d=[cP cb,aS sc,cS p,cI c]/\bC m h cb/\gA h s sc/\cX s=0/\s.tables≠[]/\Ints h p ps/\ps.length<=1000/\ps.all eD=true/\ -1<=c/\c<=1000/\(c+1).toNat<N/\KQ2 K m h cb s ps c.toNat
noncomputable def bFZ(N:Nat)(cb:Nat)(sc:cN)(p:Sl):Ctx:=
 uC [(30,Lb),(31,aUQ),(16,vQ),(32,aWQ),(33,YH),(34,buX),(18,BJ),(9,XN N)] [(11,{A:=QV×QV×Sl×Int×MH×PH,st:=λ⟨a,q,k,n,m,h⟩=>bY 171 175 [(0,pv cb),(2,sv p),(5,.at (.ptr 5 0)),(8,.at (.ptr 8 0)),(10,.at (.ptr 10 0)),(11,sv k),(13,.at (.ptr 13 0)),(14,iv n)] [(5,.cells 40 (sc.enc.map .val)),(8,.cells 35 (CD.enc.map .val)),(10,.cells 35 (a.enc.map .val)),(13,.cells 35 (q.enc.map .val))] m h})] [(7,{A:=Int×Int×QV×QV×Sl×MH×PH,st:=λ⟨d,op,a,q,k,m,h⟩=>bY 171 175 [(0,pv cb),(2,sv p),(3,iv d),(5,.at (.ptr 5 0)),(8,.at (.ptr 8 0)),(9,iv op),(10,.at (.ptr 10 0)),(11,sv k),(13,.at (.ptr 13 0))] [(5,.cells 40 (sc.enc.map .val)),(8,.cells 35 (CD.enc.map .val)),(10,.cells 35 (a.enc.map .val)),(13,.cells 35 (q.enc.map .val))] m h}),
  (16,{A:=Int×Int×QV×QV×Sl×Bool×MH×PH,st:=λ⟨d,op,a,q,k,t,m,h⟩=>bY 171 175 [(0,pv cb),(2,sv p),(3,iv d),(5,.at (.ptr 5 0)),(8,.at (.ptr 8 0)),(9,iv op),(10,.at (.ptr 10 0)),(11,sv k),(13,.at (.ptr 13 0)),(59,iv op),(84,bv t)] [(5,.cells 40 (sc.enc.map .val)),(8,.cells 35 (CD.enc.map .val)),(10,.cells 35 (a.enc.map .val)),(13,.cells 35 (q.enc.map .val))] m h}),
  (24,{A:=Int×QV×QV×Sl×Bool×MH×PH,st:=λ⟨op,a,q,k,t,m,h⟩=>bY 171 175 [(0,pv cb),(2,sv p),(5,.at (.ptr 5 0)),(8,.at (.ptr 8 0)),(10,.at (.ptr 10 0)),(11,sv k),(13,.at (.ptr 13 0)),(59,iv op),(122,bv t)] [(5,.cells 40 (sc.enc.map .val)),(8,.cells 35 (CD.enc.map .val)),(10,.cells 35 (a.enc.map .val)),(13,.cells 35 (q.enc.map .val))] m h}),
  (20,{A:=QV×QV×QV×Sl×Sl×MH×PH,st:=λ⟨a,b,q,k,l,m,h⟩=>bY 171 175 [(0,pv cb),(2,sv p),(5,.at (.ptr 5 0)),(8,.at (.ptr 8 0)),(10,.at (.ptr 10 0)),(11,sv k),(13,.at (.ptr 13 0)),(15,.at (.ptr 15 0)),(16,sv l)] [(5,.cells 40 (sc.enc.map .val)),(8,.cells 35 (CD.enc.map .val)),(10,.cells 35 (a.enc.map .val)),(13,.cells 35 (q.enc.map .val)),(15,.cells 35 (b.enc.map .val))] m h}),
  (30,{A:=QV×QV×MH×PH,frz:=true,st:=λ⟨a,q,m,h⟩=>bY 171 175 [(2,sv p),(5,.at (.ptr 5 0)),(8,.at (.ptr 8 0)),(10,.at (.ptr 10 0)),(13,.at (.ptr 13 0))] [(5,.cells 40 (sc.enc.map .val)),(8,.cells 35 (CD.enc.map .val)),(10,.cells 35 (a.enc.map .val)),(13,.cells 35 (q.enc.map .val))] m h})] [] [33,1033,1030] [] false
abbrev GF(a:QV->Query->Prop):Prop:=∀(x:QV)(c:Query),a x c
abbrev DW(a:ct)(b:PH)(c:iJ->bt->Query->Sl->PH->Prop):Prop:=Em (λx j=>∃(n:QV),Hb (λd e=>∃(f:Query),aA (a=bQ x::bK (dN j) (cC n)) (gA b d x) (aA (Ints b j e) (eO b f n) (∀(o:Sl)(g:PH),cD b g (Ints g o (dU d e f).1) (c d e f o g)))))
noncomputable abbrev rV(a:Int×Int×QV×QV×Sl×MH×PH):Sl×MH×PH:=a.2.2.2.2
abbrev j5(a b:QV):Prop:=mZ 35 a.enc=mZ 35 b.enc
abbrev wN(a:cr)(b:QV):Prop:=oQ 35 a=mZ 35 b.enc
noncomputable abbrev Mu(a:At)(b:cr):cr:=I8 a (I8 jA (I8 aQz (fF jA aQz (fF FM FM (fF FM FM (fF FM jA b))))))
abbrev Cd(a:Prop)(b:Nat)(c d e:Sl)(g:Prop):Prop:=aA a (cQ b) (aA (aJ c) dL (aA eN lN (aA (bH d e) pE g)))
noncomputable abbrev Eo(a:QV×QV×Sl×Int×MH×PH):Nat->Nat->Option Value:=a.2.2.2.2.2
noncomputable abbrev MB(a:QV×QV×Sl×Int×MH×PH):Nat->Option Obj:=a.2.2.2.2.1
noncomputable abbrev D7(a:QV×QV×Sl×Int×MH×PH):Sl:=a.2.1.columns
noncomputable abbrev wR(a:QV×QV×MH×PH):Nat->Option Obj:=a.2.2.1
noncomputable abbrev zH(a:QV×QV×MH×PH):Nat->Nat->Option Value:=a.2.2.2
noncomputable abbrev p7(a:Int×QV×QV×Sl×Bool×MH×PH):Sl:=a.2.2.2.1
noncomputable abbrev Ce(a:Int×QV×QV×Sl×Bool×MH×PH):Bool:=a.2.2.2.2.1
noncomputable abbrev sC(a:Int×QV×QV×Sl×Bool×MH×PH):QV:=a.2.1
noncomputable abbrev qC(a:Int×QV×QV×Sl×Bool×MH×PH):QV:=a.2.2.1
noncomputable abbrev kQ(a:Int×QV×QV×Sl×Bool×MH×PH):Nat->Nat->Option Value:=a.2.2.2.2.2.2
noncomputable abbrev uR(a:Int×QV×QV×Sl×Bool×MH×PH):Nat->Option Obj:=a.2.2.2.2.2.1
noncomputable abbrev rC(a:QV×QV×QV×Sl×Sl×MH×PH):Sl×Sl×MH×PH:=a.2.2.2
noncomputable abbrev pH(a:QV×QV×QV×Sl×Sl×MH×PH):QV:=a.2.2.1
noncomputable abbrev pU(a:Sl×Sl×MH×PH):MH×PH:=a.2.2
noncomputable abbrev tB(a:QV×QV×QV×Sl×Sl×MH×PH):Nat->Nat->Option Value:=(pU (rC a)).2
noncomputable abbrev AT(a:QV):Sl:=Sl.mk a.args.a a.args.len a.args.cap
abbrev Mt(a:Int×Int×QV×QV×Sl×Bool×MH×PH)(b:Int×QV×QV×Sl×Bool×MH×PH)(c:Prop)(d:cN):Prop:=aA (dA a.2.1 b.1) c (aA (cE d) jF (aA (j5 (sC a.2) (sC b)) (j5 (qC a.2) (qC b)) (aA (fO a.2.2.2.2.2.2 b.2.2.2.2.2) (kQ a.2=kQ b) True)))
noncomputable abbrev qN(a:PV)(b c d:At):cr:=pQ a (fF b c (fF FM FM (mN jA d)))
attribute [push_cast] GF DW rV j5 wN Mu Cd Eo MB D7 wR zH p7 Ce sC qC kQ uR rC pH pU tB AT Mt qN
def Yl(N:Nat)(cb:Nat)(sc:cN)(p:Sl)(S:Int)(m:MH)(h:PH)(K:bu):Prop:=
  kO cb 12 m h (λk Z=>bA S 1 (kO cb (ite (i6 sc>1) (i6 sc) 1) Z h (λE X=>∃(t:Int),kH E t/\K (lG (AI t)) X h)) (dJ (iE (1+k)==1) (kO cb (ite (i6 sc>1) (i6 sc) 1) Z h (λE X=>∃(t:Int),kH E t/\K (lG (AI t)) X h)) (i6 sc==0) (kO cb (ite (i6 sc>1) (i6 sc) 1) Z h (λE X=>∃(t:Int),kH E t/\K (lG (AI t)) X h)) (∃(c:Nat),Em (λs p1=>Hb (λs1 p2=>∃(d:Int),aA (gP cb (bQ sc::bT (dN p) (iE (S-1)))=gP c (bQ s::bT (dN p1) d)) (bC Z h c) (aA (gA h s1 s) (cX s1=0) (aA (zK (s1.tables=[])) (Ints h p1 p2) (aA (iO p2) (C4 (CM p2)) (aI (Int.negSucc 0<=d) (d<=1000) ((d+1).toNat<N) (GF (λw q=>eX (λX h1=>cD h h1 (eO h1 q w) (QW q->
 BP d.toNat q->(dU s1 p2 q).2=0->bM Z X c->jN X h1 c (DW (bQ sc::bK (dN p) (cC w)) h1 (λ_ _ _ s2 h2=>∃(I:Int×Int×QV×QV×Sl×MH×PH->Prop),oD (λA u=>pM X u h2 A 35 21 (iZ w.enc)->∃(x:Int×Int×QV×QV×Sl×MH×PH),aA (I x) (cQ cb) (aA (aJ p) (dA S x.1) (aA dL eN (aA (dA (iE (1+k)) x.2.1) lN (aA (bH s2 (rV x).1) pE (aA (cE sc) jF (aA (j5 w x.2.2.1) (wN (Mu (iI (iE (1+k))) (rI (oM A))) x.2.2.2.1) (aA (cV u (rV x).2) (h2=(rV x).2.2) True))))))))/\∀(x:Int×Int×QV×QV×Sl×MH×PH),I x->∃(I1:QV×QV×MH×PH->Prop),dZ x.2.1 3 (kO cb 3 (rV x).2.1 (rV x).2.2 (λE u=>∃(I2:QV×QV×Sl×Int×MH×PH->Prop)(z:QV×QV×Sl×Int×MH×PH->Nat),
 (∃(f:QV×QV×Sl×Int×MH×PH),Cd (I2 f) cb p (rV x).1 f.2.2.1 (aA (dA E f.2.2.2.1) (cE sc) (aA jF (j5 x.2.2.1 f.1) (aI (j5 x.2.2.2.1 f.2.1) (cV u f.2.2.2.2) ((rV x).2.2=Eo f) True))))/\∀(f:QV×QV×Sl×Int×MH×PH),I2 f->fQ f.2.2.2.1 0 (kO cb (aG f.2.2.1) (MB f) (Eo f) (λQ D=>∃(e:List bw),aI (eC D (Sl.mk (D7 f).a (D7 f).len (D7 f).cap) 3 1 e) (iF (jJ e 1) 8) (lO e) (oD (λA J=>jP D J (Sl.mk (D7 f).a (D7 f).len (D7 f).cap) A 3 1 (fK e (bJ Q))->∃(j:QV×QV×Sl×Int×MH×PH),aA (I2 j) (z j<z f) (aA (cQ cb) (aJ p) (aA dL eN (aA lN (bH f.2.2.1 j.2.2.1) (aA pE (dA (iE (f.2.2.2.1-1)) j.2.2.2.1) (aA (cE sc)
 jF (aA (j5 f.1 j.1) (wN (fF (iI f.2.1.op) (lC f.2.1) (pQ f.2.1.where_ (fF (oM A) (oM f.2.1.on) (fF (CH f.2.1) (CI f.2.1) (mN (iI f.2.1.limit) (oM f.2.1.args)))))) j.2.1) (aA (cV J j.2.2.2.2) (Eo f=Eo j) True))))))))))) (EZ (MB f) (Eo f)->∃(e:QV×QV×MH×PH),aA (I1 e) (aJ p) (aA dL eN (aA lN pE (aA (cE sc) jF (aI (j5 f.1 e.1) (j5 f.2.1 e.2.1) (FV (MB f) (Eo f) (wR e) (zH e)) True))))))) (∃(I2:Int×Int×QV×QV×Sl×Bool×MH×PH->Prop),dZ x.2.1 4 (∃(f:Int×Int×QV×QV×Sl×Bool×MH×PH),aA (I2 f) (cQ cb) (aA (aJ p) (dA x.1 f.1) (aA dL eN (aA (dA x.2.1 f.2.1) lN (aA (bH (rV x).1 (p7 f.2)) pE (aA (dA x.2.1 f.2.1) (wF
 (Ce f.2)) (aA (cE sc) jF (aA (j5 x.2.2.1 (sC f.2)) (j5 x.2.2.2.1 (qC f.2)) (bS (fO (rV x).2 f.2.2.2.2.2.2) (rV x).2.2 (kQ f.2)))))))))) (∃(f:Int×Int×QV×QV×Sl×Bool×MH×PH),aA (I2 f) (cQ cb) (aA (aJ p) (dA x.1 f.1) (aA dL eN (aA (dA x.2.1 f.2.1) lN (aA (bH (rV x).1 (p7 f.2)) pE (aA (dA x.2.1 f.2.1) (i7 (x.2.1==5) (Ce f.2)) (aA (cE sc) jF (aA (j5 x.2.2.1 (sC f.2)) (j5 x.2.2.2.1 (qC f.2)) (bS (fO (rV x).2 f.2.2.2.2.2.2) (rV x).2.2 (kQ f.2))))))))))/\∀(f:Int×Int×QV×QV×Sl×Bool×MH×PH),gL (I2 f) (Ce f.2) (∃(B:Nat),Em (λA L=>Hb (λR F=>∃(Y:Int),aA (gP cb (bQ sc::bT (dN p) (iE (f.1-2)))=gP B (bQ A::
 bT (dN L) Y)) (bC (uR f.2) (kQ f.2) B) (aA (gA (kQ f.2) R A) (cX R=0) (aA (zK (R.tables=[])) (Ints (kQ f.2) L F) (aA (iO F) (C4 (CM F)) (aI (Int.negSucc 0<=Y) (Y<=1000) ((Y+1).toNat<N) (GF (λT M=>eX (λu n=>cD (kQ f.2) n (eO n M T) (QW M->BP Y.toNat M->(dU R F M).2=0->bM (uR f.2) u B->jN u n B (DW (bQ sc::bK (dN p) (cC T)) n (λ_ _ _ O U=>∃(I3:QV×QV×QV×Sl×Sl×MH×PH->Prop),dZ f.2.1 4 (gM (iE (aG (p7 f.2)+aG O)) 8 (∃(e:QV×QV×QV×Sl×Sl×MH×PH),Cd (I3 e) cb p (p7 f.2) (rC e).1 (aA (eP 15) (bH O (rC e).2.1) (aA (cE sc) jF (aA (j5 (sC f.2) e.1) (wN (fF (iI 5) (lC (qC f.2)) (An (qC
 f.2) (qC f.2).on (CH (qC f.2)) (CI (qC f.2)) (mN (iI (qC f.2).limit) (oM (qC f.2).args)))) (pH e)) (aA (j5 T e.2.1) (cV u (pU (rC e))) (bD U (tB e))))))) (∃(e:QV×QV×QV×Sl×Sl×MH×PH),Cd (I3 e) cb p (p7 f.2) (rC e).1 (aA (eP 15) (bH O (rC e).2.1) (aA (cE sc) jF (aA (j5 (sC f.2) e.1) (j5 (qC f.2) (pH e)) (aA (j5 T e.2.1) (cV u (pU (rC e))) (bD U (tB e)))))))) (∃(e:QV×QV×QV×Sl×Sl×MH×PH),Cd (I3 e) cb p (p7 f.2) (rC e).1 (aA (eP 15) (bH O (rC e).2.1) (aA (cE sc) jF (aA (j5 (sC f.2) e.1) (j5 (qC f.2) (pH e)) (aA (j5 T e.2.1) (cV u (pU (rC e))) (bD U (tB e)))))))/\∀(e:QV×QV×QV×Sl×Sl×MH
 ×PH),I3 e->Kd (λG H=>B4 (λt a b=>aA (cT cb::bK (dN (rC e).1) (dN (rC e).2.1)=cT G::bK (dN H) (dN t)) (bC (pU (rC e)).1 (tB e) G) (aA (Ints (tB e) H a) (Ints (tB e) t b) (aA (iO a) (iO b) (∀(o:Sl)(V:bz),eX (λz P=>cD (tB e) P (iD P o V) (V.length<=10->bM (pU (rC e)).1 z G->jN z P G (oD (λW D=>DE (pM z D P W 35 21 (iZ e.2.1.enc)) (λj=>eC D (AT (pH e)) 35 21 j/\∃(y:List bw),aA (eW 21 y) (sM D P (Sl.mk W.a W.len W.cap) 21 y) (aA (tS j y 280) (oS j y) (∀(s8:Sl)(J:MH),jP D J (AT (pH e)) s8 35 21 (j++y)->EZ J P->∃(C:QV×QV×MH×PH),aA (I1 C) (aJ p) (aA dL eN (aA lN
 pE (aA (cE sc) jF (aI (j5 e.1 C.1) (wN (fF (iI (pH e).op) (lC (pH e)) (An (pH e) o (CH (pH e)) (CI (pH e)) (mN (iI (pH e).limit) (oM s8)))) C.2.1) (FV J P (wR C) (zH C)) True))))))))))))))))/\oD (λH z=>pM (pU (rC e)).1 z (tB e) H 35 21 (iZ e.2.1.enc)->Kd (λG W=>B4 (λt a b=>aA (cT cb::bK (dN (rC e).1) (dN (rC e).2.1)=cT G::bK (dN W) (dN t)) (bC z (tB e) G) (aA (Ints (tB e) W a) (Ints (tB e) t b) (aA (iO a) (iO b) (∀(o:Sl)(V:bz),eX (λD P=>cD (tB e) P (iD P o V) (V.length<=10->bM z D G->jN D P G (∃(j:List bw),eC D (AT (pH e)) 35 21 j/\∃(y:List bw),aA
 (eW 21 y) (sM D P (Sl.mk H.a H.len H.cap) 21 y) (aA (tS j y 280) (oS j y) (∀(s8:Sl)(J:MH),jP D J (AT (pH e)) s8 35 21 (j++y)->EZ J P->∃(C:QV×QV×MH×PH),aA (I1 C) (aJ p) (aA dL eN (aA lN pE (aA (cE sc) jF (aI (j5 e.1 C.1) (wN (fF (iI (pH e).op) (lC (pH e)) (An (pH e) o (CH (pH e)) (CI (pH e)) (mN (iI (pH e).limit) (oM s8)))) C.2.1) (FV J P (wR C) (zH C)) True)))))))))))))))))))))))))))) (∃(I3:Int×QV×QV×Sl×Bool×MH×PH->Prop),dJ (f.2.1==6) (∃(e:Int×QV×QV×Sl×Bool×MH×PH),Cd (I3 e) cb p (p7 f.2) (p7 e) (Mt f e (wF (Ce e)) sc)) (f.2.1==7) (∃(e:Int×QV×QV×Sl×Bool×MH×PH),Cd (I3 e) cb p (p7 f.2) (p7 e)
 (Mt f e (wF (Ce e)) sc)) (∃(e:Int×QV×QV×Sl×Bool×MH×PH),Cd (I3 e) cb p (p7 f.2) (p7 e) (Mt f e (i7 (f.2.1==8) (Ce e)) sc))/\∀(e:Int×QV×QV×Sl×Bool×MH×PH),I3 e->dJ (Ce e) (∃(B:Nat)(A:cN),lE (λL E=>∃(v:QV),Hb (λR F=>∃(Q:bt)(M:Query),aA (gP cb (bQ sc::dN p::bK (dN (p7 e)) (cC (sC e)))=gP B (bQ A::dN L::bK (dN E) (cC v))) (bC (uR e) (kQ e) B) (aA (gA (kQ e) R A) (lK R) (aA (lR R.tables.length) (Ints (kQ e) L F) (aA (iO F) (Ints (kQ e) E Q) (aI (iO Q) (eO (kQ e) M v) (QW M) (GF (λT q2=>eX (λu n=>cD (kQ e) n (eO n q2 T) (aTX R F Q M q2->bM (uR e) u B->jN
 u n B (oD (λO z=>DE (pM u z n O 35 21 (iZ T.enc)) (λj=>eC z (AT (qC e)) 35 21 j/\∃(y:List bw),aA (eW 21 y) (sM z n (Sl.mk O.a O.len O.cap) 21 y) (aA (tS j y 280) (oS j y) (∀(H:Sl)(D:MH),jP z D (AT (qC e)) H 35 21 (j++y)->EZ D n->∃(C:QV×QV×MH×PH),aA (I1 C) (aJ p) (aA dL eN (aA lN pE (aA (cE sc) jF (aI (j5 (sC e) C.1) (wN (qQ (qC e) (oM H)) C.2.1) (FV D n (wR C) (zH C)) True)))))))))))))))))))) (e.1==9) (∃(B:Nat)(v:QV),Bx (λA E=>aA (cT cb::bK (cC (qC e)) (dN (p7 e))=cT B::bK (uN v v (aR (jW (pJ v)) (kC (gG v)) (aR (kD (gG v)) (Co v) (aR (kJ (gG v)) (jW (gG v)) (aR (pI
 v) (pK v) (aR (gU v.on) pO (aR pO (dY v.limit) (aY v.args)))))))) (dN A)) (bC (uR e) (kQ e) B) (aA (Ints (kQ e) A E) (iO E) (∀(g o:Sl)(Q:Int)(g1:bt)(V:ca),eX (λu n=>cD (kQ e) n (Ints n g g1) (jD n o V->g1.length<=E.length->V.length<=E.length->bZ Q->Q<=3->bM (uR e) u B->bC u n B->EZ u n->∃(j:QV×QV×MH×PH),aA (I1 j) (aJ p) (aA dL eN (aA lN pE (aA (cE sc) jF (aI (j5 (sC e) j.1) (wN (fF (iI v.op) (lC v) (An v v.on (oM g) (oM o) (mN (iI Q) (oM v.args)))) j.2.1) (FV u n (wR j) (zH j)) True)))))))))) (dZ e.1 10 (∃(B:Nat)(v:QV),Bx (λA E=>aA (cT cb::bK (cC (qC e)) (dN (p7 e))=cT B::
 bK (uN v v (aR (jW (pJ v)) (kC (gG v)) (aR (kD (gG v)) (Co v) (aR (kJ (gG v)) (jW (gG v)) (aR (pI v) (pK v) (aR (gU v.on) pO (aR pO (dY v.limit) (aY v.args)))))))) (dN A)) (bC (uR e) (kQ e) B) (aA (Ints (kQ e) A E) (iO E) (∀(g o:Sl)(Q:Int)(g1:bt)(V:ca),eX (λu n=>cD (kQ e) n (Ints n g g1) (jD n o V->g1.length<=E.length->V.length<=E.length->bZ Q->Q<=3->bM (uR e) u B->jN u n B (∃(G:Nat)(R:cN),lE (λL k3=>∃(v1:QV),Hb (λO F=>∃(k4:bt)(M:Query),aA (gP cb (bQ sc::dN p::bK (dN (p7 e)) (cC (sC e)))=gP G (bQ R::dN L::bK (dN k3) (cC v1))) (bC u n G) (aA (gA n O R) (lK O)
 (aA (lR O.tables.length) (Ints n L F) (aA (iO F) (Ints n k3 k4) (aI (iO k4) (eO n M v1) (QW M) (GF (λT q2=>eX (λz U=>cD n U (eO U q2 T) (aTX O F k4 M q2->bM u z G->jN z U G (oD (λH D=>DE (pM z D U H 35 21 (iZ T.enc)) (λj=>eC D (AT v) 35 21 j/\∃(y:List bw),aA (eW 21 y) (sM D U (Sl.mk H.a H.len H.cap) 21 y) (aA (tS j y 280) (oS j y) (∀(W:Sl)(J:MH),jP D J (AT v) W 35 21 (j++y)->EZ J U->∃(C:QV×QV×MH×PH),aA (I1 C) (aJ p) (aA dL eN (aA lN pE (aA (cE sc) jF (aI (j5 (sC e) C.1) (wN (fF (iI v.op) (lC v) (An v v.on (oM g) (oM o) (mN (iI Q) (oM W)))) C.2.1) (FV J U (wR C) (zH C))
 True)))))))))))))))))))))))))) (zC (gP cb (dN (p7 e)::bT (dN p) 2)) (uR e) (kQ e) (λB G L Y=>Bw (λv F=>eX (λu n=>cD (kQ e) n (eH n F v) (xE G L Y F->bM (uR e) u B->jN u n B (∀(A:Sl)(z:MH),pM u z n A 35 21 (iZ (sC e).enc)->EZ z n->∃(j:QV×QV×MH×PH),aA (I1 j) (aJ p) (aA dL eN (aA lN pE (aA (cE sc) jF (aI (j5 (sC e) j.1) (wN (fF (iI 2) jA (qN v FM FM (oM A))) j.2.1) (FV z n (wR j) (zH j)) True)))))))))/\oD (λA u=>pM (uR e) u (kQ e) A 35 21 (iZ (sC e).enc)->zC (gP cb (dN (p7 e)::bT (dN p) 2)) u (kQ e) (λB G L Y=>Bw (λv F=>eX (λz n=>cD (kQ e) n (eH n F v)
 (xE G L Y F->bM u z B->bC z n B->EZ z n->∃(j:QV×QV×MH×PH),aA (I1 j) (aJ p) (aA dL eN (aA lN pE (aA (cE sc) jF (aI (j5 (sC e) j.1) (wN (fF (iI 2) jA (qN v FM FM (oM A))) j.2.1) (FV z n (wR j) (zH j)) True)))))))))))))/\∀(f:QV×QV×MH×PH),I1 f->DW (bQ sc::bK (dN p) (cC f.2.1)) (zH f) (λA L M _ n=>dC (dU A L M).2 0 (K (cC f.1) (wR f) n) (K (cC f.2.1) (wR f) n)))))))))))))))))
structure tO(m0 m:MH)(s:Sl)(E:TypeId)(sz:Nat)(xs:List bw):Prop where
 row:eC m s E sz xs
 fresh:∀b i,s.a=some ⟨b,i,none⟩->m0 b=none
def Kept(m0 m:MH)(cb:Nat):Prop:=∀b o,m0 b=some o->b≠cb->m b=some o
theorem Kept.of{m0:MH}(h:bM m0 m cb):Kept m0 m cb:=λb o e n=>by rw[h.other b n];exact e
theorem Kept.on{m0:MH}(k:Kept m0 m cb)(h:bM m m' cb):Kept m0 m' cb:=λb o e n=>by rw[h.other b n];exact k b o e n
theorem bC.blk(c:bC m h cb):∃cs,m cb=some (.cells cs 78 (0,0)):=by
 obtain⟨r,q,cs,k,d,_⟩:=c;exact⟨_,d⟩
theorem bC.keep(c:bC m h cb)(e:m' cb=m cb)(le:PH.le h h'):bC m' h' cb:=by
 obtain⟨r,q,d,k,f,g,j⟩:=c;exact⟨r,q,d,k,by rw[e];exact f,g.mono le,j⟩
theorem Kept.free{m0:MH}(k:Kept m0 m cb)(c:bC m h cb)(d:m b=none):m0 b=none:=by
 cases e:m0 b with
 |none=>rfl
 |some o=>
  by_cases f:b=cb
  .obtain⟨j,g⟩:=c.blk;rw[f,g]at d;cases d
  .rw[k b o e f]at d;cases d
theorem eC.nil(m:MH)(E:TypeId)(sz:Nat):eC m bW E sz []:=⟨⟨λ_ h=>by simp at h,λ_ h=>by simp at h⟩,.inl ⟨rfl,rfl⟩⟩
theorem tO.nil(m0 m:MH)(E:TypeId)(sz:Nat):tO m0 m bW E sz []:=⟨eC.nil m E sz,λb i e=>by cases e⟩
theorem tO.on{m0:MH}{s:Sl}{E:TypeId}(r:tO m0 m s E sz xs)(o:bM m m' cb)(c:bC m h cb)(f:E≠78):tO m0 m' s E sz xs:=by
 refine⟨eC.keep r.row (λb i e=>o.other b (λg=>?_)),r.fresh⟩;obtain⟨j,d⟩:=eC.blk r.row e;obtain⟨u,n⟩:=c.blk;rw[g,n]at d;simp only[Option.some.injEq,Obj.cells.injEq]at d;exact f d.2.1.symm
theorem tO.new{m0:MH}{s t:Sl}{E E':TypeId}{c:Nat}{f:List bw}(r:tO m0 m s E sz xs)(x:pM m m' h t E' c f):tO m0 m' s E sz xs:=by
 refine⟨eC.keep r.row (λb i e=>x.other b (λj g=>?_)),r.fresh⟩;obtain⟨n,d⟩:=eC.blk r.row e;rw[(x.fresh b j g).m_]at d;cases d
theorem pM.frow{m0:MH}{s:Sl}{E:TypeId}(x:pM m m' h s E sz xs)(k:Kept m0 m cb)(c:bC m h cb):tO m0 m' s E sz xs:=⟨x.row,λb i e=>k.free c (x.fresh b i e).m_⟩
theorem pM.at_cb{s:Sl}{E:TypeId}(x:pM m m' h s E sz xs)(c:bC m h cb):m' cb=m cb:=x.other cb (λi e=>by
 obtain⟨f,d⟩:=c.blk;rw[(x.fresh cb i e).m_]at d;cases d)
theorem Kept.new{m0:MH}{s:Sl}{E:TypeId}(k:Kept m0 m cb)(x:pM m m' h s E sz xs):Kept m0 m' cb:=λb o e n=>by
 rw[x.other b (λi c=>by have:=(x.fresh b i c).m_;rw[k b o e n]at this;cases this)];exact k b o e n
theorem tO.grown{m0:MH}{s f:Sl}{E:TypeId}{g:List bw}(r:tO m0 m s E sz xs)(x:jP m m' s f E sz g)(k:Kept m0 m cb)(c:bC m h cb):tO m0 m' f E sz g:=
 ⟨x.row,λb i e=>by
  rcases x.fresh b i e with d|⟨j,d⟩
  .exact k.free c d
  .exact r.fresh b j d⟩
theorem tO.apart{m0:MH}{s t n:Sl}{E E':TypeId}{c:Nat}{o u:List bw}(r:tO m0 m s E sz xs)(q:tO m0 m t E' c o)(x:jP m m' t n E' c u)(y:E≠E'):tO m0 m' s E sz xs:=by
 refine⟨eC.keep r.row (λb i e=>?_),r.fresh⟩;obtain⟨z,d⟩:=eC.blk r.row e;rw[d];refine x.other b _ d (λj A=>?_);obtain⟨g,f⟩:=eC.blk q.row A;rw[d]at f;simp only[Option.some.injEq,Obj.cells.injEq]at f;exact y f.2.1
theorem Kept.grown{m0:MH}{s c:Sl}{E:TypeId}{d:List bw}(k:Kept m0 m cb)(r:tO m0 m s E sz xs)(x:jP m m' s c E sz d):Kept m0 m' cb:=λb o e n=>x.other b o (k b o e n) (λi f=>by rw[r.fresh b i f]at e;cases e)
theorem jP.at_cb{m0:MH}{s f:Sl}{E:TypeId}{g:List bw}(x:jP m m' s f E sz g)(r:tO m0 m s E sz xs)(c:bC m h cb)(j:E≠78):m' cb=m cb:=by
 obtain⟨u,e⟩:=c.blk;rw[e];refine x.other cb _ e (λi n=>?_);obtain⟨o,d⟩:=eC.blk r.row n;rw[e]at d;simp only[Option.some.injEq,Obj.cells.injEq]at d;exact j d.2.1.symm
theorem Tl{sz:Nat}:∀{xs:List bw},(∀e∈xs,e.length=sz)->xs.flatten.length=xs.length*sz
 |[],_=>bj
 |x::xs,h=>by
  simp only[flatten_cons,length_append,length_cons];rw[Tl (λe c=>h e (by simp[c])),h x bj,Nat.add_mul];omega
theorem eC.src{s:Sl}{E:TypeId}{x:bw}(r:eC m s E sz (x::xs)):sM m h s sz (x::xs):=by
 rcases r.ex with⟨_,e⟩|⟨b,d,c,rfl,f,_,_,_,g⟩
 .cases e
 .exact .lent b 0 c E (0,0) rfl rfl f (by rw[drop_zero,Tl r.rows.len];exact g)
def z8(m0 m:MH):MH:=λb=>match m0 b with|some _=>m b|none=>none
def A8(m0 m:MH)(h:PH):PH:=λb i=>match m0 b,m b with|none,some (.cells c _ _)=>c[i]? |_,_=>h b i
theorem CR{m0 m:MH}{h:PH}(d:EZ m h):PH.le h (A8 m0 m h):=⟨λb i v e=>by
 unfold A8;split
 .rename_i f E g j c;rw[d.disj b _ c i]at e;cases e
 .exact e⟩
theorem Zx{m0:MH}(d:EZ m h):FV m h (z8 m0 m) (A8 m0 m h):=by
 refine⟨λb o e=>?_,CR d,λb i v e=>?_⟩
 .unfold z8 at e;split at e
  .exact e
  .cases e
 .unfold A8 at e;split at e
  .rename_i c E f g j;exact .inr ⟨c,E,f,j,e,by unfold z8;rw[g]⟩
  .exact .inl e
theorem FT{p:Prop}(h:p:=by repeat' (first|with_reducible rfl|exact trivial|exact Zx (by assumption)|refine⟨?_,?_⟩|rfl)):p:=h
theorem tO.ice{m0:MH}{s:Sl}{E:TypeId}(r:tO m0 m s E sz xs):dK (A8 m0 m h) s sz xs:=by
 rcases r.row.ex with⟨rfl,rfl⟩|⟨b,f,g,rfl,n,d,_,_,o⟩
 .exact dK.nil _ _
 .have u:=r.fresh b 0 rfl;refine⟨rfl,.inr ⟨b,0,rfl,λi e x=>⟨λj v y=>?_⟩⟩,d⟩;have c:=lT r.row.rows.len x j v y;rw[<-o,getElem?_take]at c;split at c
  .unfold A8;rw[u,n];simp only[Nat.zero_add];rw[<-Array.getElem?_toList];exact c
  .cases c
theorem keep_other{m0:MH}(k:Kept m0 m cb):bM m0 (z8 m0 m) cb:=⟨λb c=>by
 unfold z8;cases e:m0 b with
 |none=>rfl
 |some o=>exact k b o e c⟩
theorem Zv{m0:MH}(c:bC m h cb)(f:m0 cb≠none)(d:EZ m h):bC (z8 m0 m) (A8 m0 m h) cb:=c.keep (by
 unfold z8;cases e:m0 cb with
 |none=>exact(f e).elim
 |some o=>rfl) (CR d)
def QA(d:Nat)(q:Query):Prop:=QW q/\SK d q
structure QM(d:Nat)(m0 m:MH)(h:PH)(v:QV)(vs:de):Prop where
 wher:∃w,eH h w v.where_/\CB w
 cols:∃co:bt,tO m0 m v.columns 3 1 (co.map eI)/\co.length<=1000
 on_:∃l,iD h v.on l
 group_:∃l,Ints h v.group l
 order_:∃l,jD h v.order l
 args_:tO m0 m v.args 35 21 (vs.map QV.enc)
 len_:vs.length<=2
 reps:∀v∈vs,∃q,eO h q v/\QA d q
theorem Tn{d:Nat}{h:PH}:∀{vs:de},(∀v∈vs,∃q,eO h q v/\QA d q)->∃c:cg,c.length=vs.length/\(∀q∈c,QA d q)/\∀(i:Nat) q,c[i]? =some q->∃v,vs[i]? =some v/\eO h q v
 |[],_=>⟨[],rfl,λq f=>by simp at f,λi q e=>by simp at e⟩
 |v::vs,n=>by
  obtain⟨q,f,g⟩:=n v bj;obtain⟨c,o,y,z⟩:=Tn (vs:=vs) (λu A=>n u (by simp[A]));refine⟨q::c,by simp[o],λx j=>by rcases mem_cons.1 j with rfl|j;exact g;exact y x j,λi x e=>?_⟩;cases i with
  |zero=>simp at e;subst e;exact⟨v,rfl,f⟩
  |succ i=>simpa using z i x (bo e)
theorem QM.ice{n:Nat}{m0:MH}{vs:de}(x:QM n m0 m h v vs)(d:EZ m h):∃q,eO (A8 m0 m h) q v/\QW q/\BP (n+1) q:=by
 obtain⟨w,o,c⟩:=x.wher;obtain⟨co,u,y⟩:=x.cols;obtain⟨on,z⟩:=x.on_;obtain⟨gr,A⟩:=x.group_;obtain⟨od,f⟩:=x.order_;obtain⟨D,B,j,C⟩:=Tn x.reps;have le:=CR (m0:=m0) d;have E:=x.len_;exact⟨_,sN.rep ⟨rfl,rfl,o.mono le,⟨u.ice,aD⟩,z.mono le,A.mono le,f.mono le,rfl,⟨⟨vs,x.args_.ice,B,λi q e=>let⟨v,k1,k2⟩:=C i q e;⟨v,k1,k2.mono le⟩⟩,aD⟩⟩,J5.2 ⟨c,λa g=>(j a g).1⟩,BP.node (λa g=>(j a g).2) aD⟩
theorem QM.on{n:Nat}{m0:MH}{vs:de}(x:QM n m0 m h v vs)(o:bM m m' cb)(c:bC m h cb)(le:PH.le h h'):QM n m0 m' h' v vs:=by
 obtain⟨w,j,d⟩:=x.wher;obtain⟨co,u,f⟩:=x.cols;obtain⟨on,y⟩:=x.on_;obtain⟨gr,z⟩:=x.group_;obtain⟨od,g⟩:=x.order_;exact⟨⟨w,j.mono le,d⟩,⟨co,u.on o c bk,f⟩,⟨on,y.mono le⟩,⟨gr,z.mono le⟩,⟨od,g.mono le⟩,x.args_.on o c bk,x.len_,λv A=>let⟨q,e,ew⟩:=x.reps v A;⟨q,e.mono le,ew⟩⟩
theorem QM.new{d:Nat}{m0:MH}{vs:de}{t:Sl}{E:TypeId}{j:List bw}(x:QM d m0 m h v vs)(n:pM m m' h' t E sz j)(le:PH.le h h'):QM d m0 m' h' v vs:=by
 obtain⟨w,o,c⟩:=x.wher;obtain⟨co,u,f⟩:=x.cols;obtain⟨on,y⟩:=x.on_;obtain⟨gr,z⟩:=x.group_;obtain⟨od,g⟩:=x.order_;exact⟨⟨w,o.mono le,c⟩,⟨co,u.new n,f⟩,⟨on,y.mono le⟩,⟨gr,z.mono le⟩,⟨od,g.mono le⟩,x.args_.new n,x.len_,λv A=>let⟨q,e,ew⟩:=x.reps v A;⟨q,e.mono le,ew⟩⟩
theorem QM.grow{d:Nat}{m0:MH}{e:QV}{vs:de}{n:Sl}{u:QV}(x:QM d m0 m h v vs)(g:jP m m' v.args n 35 21 (vs.map QV.enc++[u.enc]))(k:Kept m0 m cb)(c:bC m h cb)(o:∃q,eO h q u/\QA d q)(G:vs.length<=1)
 (y:e.where_=v.where_)(z:e.columns=v.columns)(A:∃l,iD h e.on l)(B:∃l,Ints h e.group l)(C:∃l,jD h e.order l)(D:e.args=n):QM d m0 m' h e (vs++[u]):=by
 obtain⟨co,E,j⟩:=x.cols;refine⟨by rw[y];exact x.wher,⟨co,by rw[z];exact E.apart x.args_ g bk,j⟩,A,B,C,by rw[D,map_append];exact x.args_.grown g k c,by simp;omega,λv F=>?_⟩;rcases mem_append.1 F with f|f
 .exact x.reps v f
 .simp at f;subst f;exact o
theorem X6(h:cX s=0):CW s:=Classical.byContradiction λc=>by rw[uZ c]at h;cases h
theorem Dr(h:cX s=0):lK s:=λt c=>by
 obtain⟨i,d⟩:=mem_iff_getElem?.1 c;have:=(X6 h).2 i t d;exact this.1
theorem Hn(h:cX s=0):s.tables.length<=8:=(X6 h).1
theorem Ng(s:iJ)(ps:bt)(q:Query):(dU s ps q).1.length<=12:=by
 unfold dU;split
 .split
  .split
   .exact jH s ps q
   .simp[dG]
  .simp[dG]
 .simp[dG]
theorem RM{t:Int}(c:cX s=0)(d:ps.all eD=true)(e:0<=t)(f:t<s.tables.length):(dU s ps (.mk 1 t eJ [] [] [] [] 0 [])).2=0:=by
 have g:=Dr c
 have j:(iA s t).length<=12:=by
  unfold iA;split
  .simp
  .split
   .simp
   .rename_i x n;have:=g x (mem_of_getElem? n);simp;omega
 have o:aK s ps (.mk 1 t eJ [] [] [] [] 0 [])=dQ s ps (.mk 1 t eJ [] [] [] [] 0 []) [] []:=by simp[aK,dV,arity]
 have u:uY (.mk 1 t eJ [] [] [] [] 0 [])=true:=by rfl
 unfold dU;rw[if_pos c,if_pos d,if_pos u,o];unfold dQ;rw[if_neg (by simp[arity,cO])];simp only[if_true];rw[if_pos ⟨e,f⟩];unfold kR;rw[if_pos j]
structure Mid(m0:MH)(h3:PH)(cb:Nat)(a q:QV)(mx:MH):Prop where
 case_:bC mx h3 cb
 kept:Kept m0 mx cb
 ex:∃o args,q=⟨o,0,gT,bW,bW,bW,bW,0,args⟩/\tO m0 mx args 35 21 ([a].map QV.enc)
theorem Mid.qm{d:Nat}{m0 e:MH}{c:PH}{a q:QV}(x:Mid m0 c cb a q e)(j:∃f,eO c f a/\QA d f):QM d m0 e c q [a]:=by
 obtain⟨o,args,rfl,n⟩:=x.ex;exact⟨⟨_,C0 c,nR⟩,⟨[],tO.nil _ _ _ _,bj⟩,⟨_,sQ _⟩,⟨_,nJ _⟩,⟨_,vL _⟩,n,bj,λv g=>by simp at g;subst g;exact j⟩
theorem aAX:∀N,br 9 (XN N)
 |0=>by
  refine eV (fn:=Tryz.f9) (c:=cL Tryz.f9) func9 rfl bk ?_;rintro d' m h K ⟨cb,sc,p,s,ps,A,rfl,_,_,_,_,_,_,_,_,_,hN,_⟩;omega
 |N+1=>by
  refine hJ func9 ?_;rintro d' m h K ⟨cb,sc,p,s,ps,A,rfl,hc,hs,he,b',hp,a0,a3,d0,d1,hN,hK⟩;refine⟨bFZ N cb sc p,rfl,aE L3 (aE PZ (aE Qf (aE aaJ (aE aaZ (aE aaX (aE GP (aE (aAX N) aH))))))),Yl N cb sc p A m h K,bi,?_⟩;have f3:=hs.tables.slen;have h8:=Dr he;have f6:=Hn he;have f7:0<s.tables.length:=length_pos_iff.2 b';have d2:(if(sc.tables.len:Int)>1 then(sc.tables.len:Int)else 1)=(sc.tables.len:Int):=by split<;>omega
  have d3:m cb≠none:=by obtain⟨cs,e⟩:=hc.blk;rw[e];simp
  dsimp only[Yl,push_cast];rw[d2];refine⟨cb,12,rfl,hc,λk m1 k0 k1 o1 c1=>?_⟩;refine aF (λhd=>?_) (λhd=>aC (λ_=>?_) (λ_=>aC (λ_=>?_) (λ_=>?_)))
  .exact⟨cb,_,rfl,c1,λG m2 a4 b5 o2 c2=>⟨G,rfl,hK _ _ m2 h (.refl _) (Bq h G) (F0 G) (BP.mono (d:=0) qV.scan (Nat.zero_le _)) (RM he a3 a4 aD) (o1.trans o2) c2⟩⟩
  .exact⟨cb,_,rfl,c1,λG m2 a4 b5 o2 c2=>⟨G,rfl,hK _ _ m2 h (.refl _) (Bq h G) (F0 G) (BP.mono (d:=0) qV.scan (Nat.zero_le _)) (RM he a3 a4 aD) (o1.trans o2) c2⟩⟩
  .exact⟨cb,_,rfl,c1,λG m2 a4 b5 o2 c2=>⟨G,rfl,hK _ _ m2 h (.refl _) (Bq h G) (F0 G) (BP.mono (d:=0) qV.scan (Nat.zero_le _)) (RM he a3 a4 aD) (o1.trans o2) c2⟩⟩
  have d4:IntKind.i64.wrap (A-1)=A-1:=dT aD aD;have d5:IntKind.i64.wrap (A-2)=A-2:=dT aD aD;rw[d4];refine⟨cb,sc,p,s,ps,A-1,rfl,c1,hs,he,b',hp,a0,a3,aD,aD,aD,λa qa m2 h2 b0 ra b6 a5 d6 o2 c2=>⟨sc,p,a,s,ps,qa,rfl,hs.mono b0,hp.mono b0,ra,λkk h3 b1 ik=>?_⟩⟩;have d7:=Ng s ps qa;obtain⟨T,d8⟩:∃T,(A-1).toNat=T:=⟨_,rfl⟩
  have b7:A.toNat=T+1:=by omega
  rw[d8]at a5;have U:QA T qa:=⟨b6,a5.arg⟩
  generalize d9:(dU s ps qa).fst=ks at ik d7;clear d9;have B:PH.le h h3:=b0.trans b1;have V:eO h3 qa a:=ra.mono b1;refine⟨λ⟨d,op,E,q,I,mx,J⟩=>d=A/\E=a/\I=kk/\J=h3/\Mid m h3 cb a q mx,λO m3 j=>⟨(A,IntKind.i64.wrap (1+k),a,⟨IntKind.i64.wrap (1+k),0,gT,bW,bW,bW,bW,0,O⟩,kk,m3,h3),⟨rfl,rfl,rfl,rfl,?_⟩,MT⟩,?_⟩
  .have G:=(Kept.of o1).on o2;have c3:=c2.mono b1;exact⟨c3.keep (pM.at_cb j c3) (.refl _),G.new j,_,_,rfl,pM.frow j G c3⟩
  rintro⟨A,op,E,q,I,mx,J⟩ ⟨rfl,rfl,rfl,rfl,y⟩;dsimp only;have F:∀(q:QV)(vs:de)(C:MH)(D:PH),PH.le J D->Kept m C cb->bC C D cb->QM T m C D q vs->EZ C D->PH.le J (A8 m C D)/\bM m (z8 m C) cb/\bC (z8 m C) (A8 m C D) cb/\∃qq,eO (A8 m C D) qq q/\QW qq/\BP (T+1) qq:=λq vs C D l k c x d=>⟨l.trans (CR d),keep_other k,Zv c d3 d,x.ice d⟩
  have join:∀(q:QV)(u:QV)(O:Sl)(C:MH)(D:PH)(Q:Sl->MH->Prop),PH.le J D->Kept m C cb->bC C D cb->QM T m C D q [E]->tO m C O 35 21 [u.enc]->(∃qu,eO D qu u/\QA T qu)->
   (∀L m',(∀q':QV,q'.where_=q.where_->q'.columns=q.columns->(∃l,iD D q'.on l)->(∃l,Ints D q'.group l)->(∃l,jD D q'.order l)->q'.args=L->QM T m m' D q' [E,u])->Kept m m' cb->bC m' D cb->Q L m')->
   ∃xs,eC C ⟨q.args.a,q.args.len,q.args.cap⟩ 35 21 xs/\∃ys,eW 21 ys/\sM C D ⟨O.a,O.len,O.cap⟩ 21 ys/\(xs.length+ys.length)*280<=140737488355328/\xs.length+ys.length<=140737488355328/\∀(L:Sl)(m':MH),jP C m' ⟨q.args.a,q.args.len,q.args.cap⟩ L 35 21 (xs++ys)->Q L m':=
   λq u O C D Q l k c x f hu hQ=>⟨_,x.args_.row,[u.enc],apJ [u],eC.src f.row,bj,bj,λL m' g=>hQ L m' (λq' e1 e2 e3 e4 e5 e6=>x.grow g k c hu bj e1 e2 e3 e4 e5 e6) (k.grown x.args_ g) (c.keep (jP.at_cb g x.args_ c bk) (.refl _))⟩
  refine⟨λ⟨W,q,C,D⟩=>W=E/\PH.le J D/\bM m C cb/\bC C D cb/\∃qq,eO D qq q/\QW qq/\BP (T+1) qq,aC (λ_=>?_) (λ_=>?_),?_⟩
  ·
   refine⟨cb,3,rfl,y.case_,λn m3 n0 n1 o3 c3=>?_⟩;refine⟨λ⟨W,q,G,n,C,D⟩=>W=E/\G=I/\D=J/\ -1<=n/\n<=2/\bC C J cb/\Kept m C cb/\QM T m C J q [E]/\∃co:bt,tO m C q.columns 3 1 (co.map eI)/\(co.length:Int)<=2-n,λ⟨_,_,_,n,_,_⟩=>(n+1).toNat,⟨(E,q,I,n,m3,J),⟨rfl,rfl,rfl,by show-1<=n;omega,by show n<=2;omega,c3,y.kept.on o3,(y.qm ⟨qa,V,U⟩).on o3 y.case_ (.refl _),[],?_,by simp;omega⟩,MT⟩,?_⟩
   .obtain⟨o,args,rfl,hf⟩:=y.ex;exact tO.nil _ _ _ _
   clear y q c3 o3 m3 n0 n1 n;rintro⟨W,q,G,n,C,D⟩ ⟨rfl,rfl,rfl,n0,n1,cy,ky,qm,co,b8,f2⟩;dsimp only;refine aF (λhn=>⟨cb,_,rfl,cy,λc m4 _ _ o4 c4=>⟨_,(b8.on o4 cy bk).row,by simp;omega,by simp;omega,λL X g=>?_⟩⟩) (λhn d=>⟨(W,q,z8 m C,A8 m C D),⟨rfl,F q _ C D (.refl _) ky cy qm d⟩,FT⟩);have f4:=b8.on o4 cy bk;have q4:=qm.on o4 cy (.refl _);have k4:=ky.on o4;have f5:tO m X L 3 1 ((co++[c]).map eI):=by rw[map_append];exact f4.grown g k4 c4
   have e':IntKind.i64.wrap (n-1)=n-1:=dT aD aD;rw[e'];refine⟨(W,{q with columns:=L},G,n-1,X,D),⟨rfl,rfl,rfl,by show-1<=n-1;omega,by show n-1<=2;omega,c4.keep (jP.at_cb g f4 c4 bk) (.refl _),k4.grown f4 g,⟨q4.wher,⟨_,f5,by simp;omega⟩,q4.on_,q4.group_,q4.order_,q4.args_.apart f4 g bk,q4.len_,q4.reps⟩,_,f5,by simp;omega⟩,by show(n-1+1).toNat<(n+1).toNat;omega,MT⟩
  .refine⟨λ⟨d,op,W,q,G,t,C,D⟩=>d=A/\W=E/\G=I/\D=J/\Mid m J cb E q C,aC (λ_=>⟨(A,op,E,q,I,true,mx,J),⟨rfl,rfl,rfl,rfl,y⟩,MT⟩) (λ_=>⟨(A,op,E,q,I,op==5,mx,J),⟨rfl,rfl,rfl,rfl,y⟩,MT⟩),?_⟩;clear y q mx;rintro⟨A,op,E,q,I,t,mx,J⟩ ⟨rfl,rfl,rfl,rfl,y⟩;dsimp only;refine aC (λ_=>?_) (λ_=>?_)
   ·
    rw[d5];refine⟨cb,sc,p,s,ps,A-2,rfl,y.case_,hs.mono B,he,b',hp.mono B,a0,a3,by show-1<=A-2;omega,aD,aD,λb qb X P z rb b9 e0 _ o5 Y=>⟨sc,p,b,s,ps,qb,rfl,hs.mono (B.trans z),hp.mono (B.trans z),rb,λl h6 M il=>?_⟩⟩;have c':QA T qb:=⟨b9,(e0.mono aD).arg⟩
    have e7:=Ng s ps qb;generalize f8:(dU s ps qb).fst=ls at il e7;have R:QM T m X h6 q [E]:=(y.qm ⟨qa,V,U⟩).on o5 y.case_ (z.trans M);have k6:=y.kept.on o5;have S:=Y.mono M;refine⟨λ⟨W,b2,q,G,l2,C,D⟩=>W=E/\b2=b/\G=I/\l2=l/\D=h6/\bC C h6 cb/\Kept m C cb/\QM T m C h6 q [E],aC (λ_=>aF (λ_=>⟨(E,b,{q with op:=5},I,l,X,h6),⟨rfl,rfl,rfl,rfl,rfl,S,k6,⟨R.wher,R.cols,R.on_,R.group_,R.order_,R.args_,R.len_,R.reps⟩⟩,MT⟩) (λ_=>⟨(E,b,q,I,l,X,h6),⟨rfl,rfl,rfl,rfl,rfl,S,k6,R⟩,MT⟩)) (λ_=>⟨(E,b,q,I,l,X,h6),⟨rfl,rfl,rfl,rfl,rfl,S,k6,R⟩,MT⟩),?_⟩;have c0:=rb.mono M;have a1:PH.le J h6:=z.trans M;clear R k6 S o5 Y rb z y q;rintro⟨W,b,q,G,l,C,h6⟩ ⟨rfl,rfl,rfl,rfl,rfl,S,k6,R⟩;dsimp only;refine⟨⟨cb,G,l,ks,ls,rfl,S,ik.mono a1,il,aD,aD,λo on m7 h7 H b3 _ o7 c7 O m8 j=>?_⟩,λO m7 j=>⟨cb,G,l,ks,ls,rfl,S.keep (pM.at_cb j S) (.refl _),ik.mono a1,il,aD,aD,λo on m8 h7 H b3 _ o8 c8=>?_⟩⟩
    .have k7:=k6.on o7;refine join q b O m8 h7 _ (a1.trans H) (k7.new j) (c7.keep (pM.at_cb j c7) (.refl _)) ((R.on o7 S H).new j (.refl _)) (pM.frow j k7 c7) ⟨qb,c0.mono H,c'⟩ (λL m9 hq k9 c9 d=>?_);exact⟨(W,{q with on:=o,args:=L},z8 m m9,A8 m m9 h7),⟨rfl,F _ _ m9 h7 (a1.trans H) k9 c9 (hq {q with on:=o,args:=L} rfl rfl ⟨on,b3⟩ (let⟨l,e⟩:=R.group_;⟨l,e.mono H⟩) (let⟨l,e⟩:=R.order_;⟨l,e.mono H⟩) rfl) d⟩,FT⟩
    .have k7:=k6.new j;have c7:bC m7 h6 cb:=S.keep (pM.at_cb j S) (.refl _);have k8:=k7.on o8;refine join q b O m8 h7 _ (a1.trans H) k8 c8 ((R.new j (.refl _)).on o8 c7 H) ((pM.frow j k6 S).on o8 c7 bk) ⟨qb,c0.mono H,c'⟩ (λL m9 hq k9 c9 d=>?_);exact⟨(W,{q with on:=o,args:=L},z8 m m9,A8 m m9 h7),⟨rfl,F _ _ m9 h7 (a1.trans H) k9 c9 (hq {q with on:=o,args:=L} rfl rfl ⟨on,b3⟩ (let⟨l,e⟩:=R.group_;⟨l,e.mono H⟩) (let⟨l,e⟩:=R.order_;⟨l,e.mono H⟩) rfl) d⟩,FT⟩
   .refine⟨λ⟨op,W,q,G,t,C,D⟩=>W=E/\G=I/\D=J/\Mid m J cb E q C,aC (λ_=>⟨(op,E,q,I,true,mx,J),⟨rfl,rfl,rfl,y⟩,MT⟩) (λ_=>aC (λ_=>⟨(op,E,q,I,true,mx,J),⟨rfl,rfl,rfl,y⟩,MT⟩) (λ_=>⟨(op,E,q,I,op==8,mx,J),⟨rfl,rfl,rfl,y⟩,MT⟩)),?_⟩;clear y q mx;rintro⟨op,E,q,I,t,mx,J⟩ ⟨rfl,rfl,rfl,y⟩;dsimp only;have q3:=y.qm ⟨qa,V,U⟩;refine aC (λ_=>?_) (λ_=>aC (λ_=>?_) (λ_=>aC (λ_=>?_) (λ_=>?_)))
    ·
     refine⟨cb,sc,p,I,E,s,ps,ks,qa,rfl,y.case_,hs.mono B,h8,aD,hp.mono B,a0,ik,aD,V,U.1,λw qw X P z e8 a6 o5 Y O m6 j=>?_⟩;have k5:=y.kept.on o5;refine join q w O m6 P _ z (k5.new j) (Y.keep (pM.at_cb j Y) (.refl _)) ((q3.on o5 y.case_ z).new j (.refl _)) (pM.frow j k5 Y) ⟨qw,e8,a6.qw,a6.siz T a5⟩ (λL m9 hq k9 c9 d=>?_);have Z:=q3.on o5 y.case_ z;exact⟨(E,{q with args:=L},z8 m m9,A8 m m9 P),⟨rfl,F _ _ m9 P z k9 c9 (hq {q with args:=L} rfl rfl Z.on_ Z.group_ Z.order_ rfl) d⟩,FT⟩
    ·
     obtain⟨o,args,rfl,hf⟩:=y.ex;refine⟨cb,⟨o,0,gT,bW,bW,bW,bW,0,args⟩,I,ks,rfl,y.case_,ik,aD,λg od kk gr a8 X P z hg a9 _ _ _ _ o5 Y d=>?_⟩;have Z:=q3.on o5 y.case_ z;exact⟨(E,⟨o,0,gT,bW,bW,g,od,kk,args⟩,z8 m X,A8 m X P),⟨rfl,F _ [E] X P z (y.kept.on o5) Y ⟨Z.wher,Z.cols,Z.on_,⟨gr,hg⟩,⟨a8,a9⟩,Z.args_,Z.len_,Z.reps⟩ d⟩,FT⟩
    ·
     obtain⟨o,args,rfl,hf⟩:=y.ex;refine⟨cb,⟨o,0,gT,bW,bW,bW,bW,0,args⟩,I,ks,rfl,y.case_,ik,aD,λg od kk gr a8 X P z hg a9 _ _ _ _ o5 Y=>?_⟩;have Z:=q3.on o5 y.case_ z;have e9:QM T m X P ⟨o,0,gT,bW,bW,g,od,kk,args⟩ [E]:=⟨Z.wher,Z.cols,Z.on_,⟨gr,hg⟩,⟨a8,a9⟩,Z.args_,Z.len_,Z.reps⟩
     refine⟨cb,sc,p,I,E,s,ps,ks,qa,rfl,Y,hs.mono (B.trans z),h8,aD,hp.mono (B.trans z),a0,ik.mono z,aD,V.mono z,U.1,λw qw m6 h6 M f' a6 o6 S O m7 j=>?_⟩;have k6:=(y.kept.on o5).on o6;refine join ⟨o,0,gT,bW,bW,g,od,kk,args⟩ w O m7 h6 _ (z.trans M) (k6.new j) (S.keep (pM.at_cb j S) (.refl _)) ((e9.on o6 Y M).new j (.refl _)) (pM.frow j k6 S) ⟨qw,f',a6.qw,a6.siz T a5⟩ (λL m9 hq k9 c9 d=>?_);exact⟨(E,⟨o,0,gT,bW,bW,g,od,kk,L⟩,z8 m m9,A8 m m9 h6),⟨rfl,F _ _ m9 h6 (z.trans M) k9 c9 (hq ⟨o,0,gT,bW,bW,g,od,kk,L⟩ rfl rfl ⟨_,sQ _⟩ ⟨gr,hg.mono M⟩ ⟨a8,a9.mono M⟩ rfl) d⟩,FT⟩
    ·
     refine⟨⟨cb,I,p,ks,ps,2,rfl,y.case_,ik,hp.mono B,aD,a0,aD,λpv pp X P z rp b4 o5 Y O m6 j d=>?_⟩,λO X j=>⟨cb,I,p,ks,ps,2,rfl,y.case_.keep (pM.at_cb j y.case_) (.refl _),ik,hp.mono B,aD,a0,aD,λpv pp m6 P z rp b4 o6 S d=>?_⟩⟩
     .have k5:=y.kept.on o5;exact⟨(E,⟨2,0,pv,bW,bW,bW,bW,0,O⟩,z8 m m6,A8 m m6 P),⟨rfl,F _ [E] m6 P z (k5.new j) (Y.keep (pM.at_cb j Y) (.refl _)) ⟨⟨pp,rp,b4.vals⟩,⟨[],tO.nil _ _ _ _,bj⟩,⟨_,sQ _⟩,⟨_,nJ _⟩,⟨_,vL _⟩,pM.frow j k5 Y,bj,λv hv=>by simp at hv;subst hv;exact⟨qa,V.mono z,U⟩⟩ d⟩,FT⟩
     .have k5:=y.kept.new j;have Y:bC X J cb:=y.case_.keep (pM.at_cb j y.case_) (.refl _);exact⟨(E,⟨2,0,pv,bW,bW,bW,bW,0,O⟩,z8 m m6,A8 m m6 P),⟨rfl,F _ [E] m6 P z (k5.on o6) S ⟨⟨pp,rp,b4.vals⟩,⟨[],tO.nil _ _ _ _,bj⟩,⟨_,sQ _⟩,⟨_,nJ _⟩,⟨_,vL _⟩,(pM.frow j y.kept y.case_).on o6 Y bk,bj,λv hv=>by simp at hv;subst hv;exact⟨qa,V.mono z,U⟩⟩ d⟩,FT⟩
  .rintro⟨W,q,C,D⟩ ⟨rfl,a7,oy,cy,qq,rq,f0,f1⟩;dsimp only;refine⟨sc,p,q,s,ps,qq,rfl,hs.mono (B.trans a7),hp.mono (B.trans a7),rq,λsl P z _=>aC (λe=>?_) (λe=>?_)⟩
   .exact hK W qa C P ((B.trans a7).trans z) ((V.mono a7).mono z) U.1 (by rw[b7];exact a5.mono aD) d6 oy (cy.mono z)
   .exact hK q qq C P ((B.trans a7).trans z) (rq.mono z) f0 (by rw[b7];exact f1) (bo e) oy (cy.mono z)
mutual
def jS(st:List bx):Query->bx
 |.mk op ta w co on gr od li args=>if op=1 then st.getD ta.toNat []else SL op (.mk op ta w co on gr od li args) (BV st args)
def BV(st:List bx):cg->List bx
 |[]=>[]
 |q::qs=>jS st q::BV st qs
end
structure FU(st ls:List bx)(k:Nat)(ts:bt):Prop where
 at_:∀(j:Nat)(t:Int),ts[j]? =some t->ls.getD (k+j) []=st.getD t.toNat []
theorem FU.left{st ls:List bx}{k:Nat}{b:bt}(x:FU st ls k (a++b)):FU st ls k a:=
 ⟨λj t h=>x.at_ j t (by rw[getElem?_append_left (List.getElem?_eq_some_iff.1 h).1];exact h)⟩
theorem FU.right{st ls:List bx}{k:Nat}{b:bt}(x:FU st ls k (a++b)):FU st ls (k+a.length) b:=
 ⟨λj t h=>by
  have:=x.at_ (a.length+j) t (by rw[getElem?_append_right aD,Nat.add_sub_cancel_left];exact h)
  rwa [show k+a.length+j=k+(a.length+j)by omega]⟩
theorem J0{args:cg}{c:List bt}(d:dV s ps args=(c,0))(e:(c.length:Int)=arity 1):args=[]:=by
 cases args with
 |nil=>rfl
 |cons q f=>obtain⟨_,_,_,_,rfl⟩:=lS d;simp[arity]at e;omega
mutual
theorem Q6{s:iJ}{ps:bt}{st ls:List bx}:∀{q:Query}{ks:bt}{k:Nat},aK s ps q=(ks,0)->FU st ls k (pA q)->Ay ls q k=(jS st q,k+(pA q).length)
 |.mk op ta w co on gr od li args,ks,k,h,c=>by
  obtain⟨g,f,j,o⟩:=sH h;by_cases e:op=1
  .subst e;have n:=J0 f j;subst n;have d:pA (.mk 1 ta w co on gr od li [])=[ta]:=by simp[pA,kU]
   rw[d]at c⊢
   have:=c.at_ 0 ta rfl;rw[Nat.add_zero]at this;rw[Ay,jS,if_pos rfl,if_pos rfl,this];rfl
  .have d:pA (.mk op ta w co on gr od li args)=kU args:=by simp[pA,e]
   rw[d]at c⊢
   rw[Ay,jS,if_neg e,if_neg e,HL f c]
theorem HL{s:iJ}{ps:bt}{st ls:List bx}:∀{d:cg}{c:List bt}{k:Nat},dV s ps d=(c,0)->FU st ls k (kU d)->xA ls d k=(BV st d,k+(kU d).length)
 |[],c,k,h,_=>by simp[xA,BV,kU]
 |q::d,c,k,h,e=>by
  obtain⟨n,f,g,j,rfl⟩:=lS h;rw[kU]at e;rw[xA,BV,kU,Q6 g e.left,HL j e.right,length_append,Nat.add_assoc]
end
mutual
theorem Nb{s:iJ}{ps:bt}:∀{q:Query}{ks:bt},aK s ps q=(ks,0)->∀t∈pA q,0<=t/\t<s.tables.length
 |.mk op ta w co on gr od li args,ks,h,t,f=>by
  obtain⟨g,j,o,c⟩:=sH h;rw[pA]at f;rcases mem_append.1 f with d|d
  .split at d
   .rename_i e;subst e;simp only[mem_singleton]at d;subst d;unfold dQ at c;dsimp only at c;split at c
    .simp[dG]at c
    try rw[if_pos rfl]at c
    split at c
    .rename_i n;exact n
    .simp[dG]at c
   .simp at d
  .exact Pm j t d
theorem Pm{s:iJ}{ps:bt}:∀{e:cg}{d:List bt},dV s ps e=(d,0)->∀t∈kU e,0<=t/\t<s.tables.length
 |[],d,h,t,c=>by rw[kU]at c;simp at c
 |q::e,d,h,t,c=>by
  obtain⟨n,f,g,j,rfl⟩:=lS h;rw[kU]at c;rcases mem_append.1 c with c|c
  .exact Nb g t c
  .exact Pm j t c
end
def A9(key:Int)(k:Int)(i:Nat)(v:VV):Bool:=kY v&&(v.kind==k||((v.kind==2||v.kind==1)&&decide (key<=(i:Int))))
def EV(t:yB)(r:cd):Bool:=decide (r.length=t.columns.length)&&(List.range r.length).all λi=>A9 t.key (t.columns.getD i ⟨⟨#[]⟩,0⟩).kind i (r.getD i zeroV)
def lH(t:yB)(r:cd):cd:=r.take (max 0 (min t.key r.length)).toNat
def X1(t:yB)(l:bx):Prop:=(∀r∈l,EV t r=true)/\∀(i:Nat) r c,l[i]? =some r->l[i+1]? =some c->dP (lH t r) (lH t c)<0
def MZ(s:iJ)(st:List bx):Prop:=∀(i:Nat) t l,s.tables[i]? =some t->st[i]? =some l->X1 t l
open Classical in
noncomputable def kN(s:iJ)(st:List bx):Int:=
 if cX s≠0 then cX s else if 512<(st.map λl=>(l.length:Int)).sum then 2 else if st.length≠s.tables.length then 80 else if MZ s st then 0 else 80
def StV(st:List bx):Prop:=∀l∈st,∀r∈l,∀v∈r,tN v.kind/\tN v.int
def Br(t:yB)(key row:cd):Bool->bx->bx
 |d,[]=>if d then[]else[row]
 |d,r::l=>(if 0<=dP (lH t r) key/\d=false then[row]else[])++((if dP (lH t r) key≠0 then[r]else[])++Br t key row (d||decide (0<=dP (lH t r) key)) l)
def O9(t:yB)(l:bx):Prop:=l.Pairwise λx y=>dP (lH t x) (lH t y)<0
theorem EF{x y z:cd}(c:dP x y<0)(d:dP y z<0):dP x z<0:=by
 have:=BD x y z aD aD;rcases Int.lt_or_eq_of_le this with h|h
 .exact h
 .rw[jM]at h;subst h;have:=mX x y;omega
theorem Nh{t:yB}{key row:cd}:∀{l:bx},(∀r∈l,0<dP (lH t r) key)->Br t key row true l=l
 |[],_=>rfl
 |r::l,h=>by
  have d:=h r (mem_cons_self ..);rw[Br,if_neg bj,if_pos aD,Bool.true_or,Nh λx c=>h x (mem_cons_of_mem _ c)];rfl
theorem Mb{t:yB}{key row z:cd}:∀{l:bx}{d:Bool},z∈Br t key row d l->z=row\/z∈l
 |[],d,h=>by
  rw[Br]at h;split at h
  .simp at h
  .simp at h;exact .inl h
 |r::l,d,h=>by
  rw[Br]at h;rcases mem_append.1 h with h|h
  .split at h
   .simp at h;exact .inl h
   .simp at h
  .rcases mem_append.1 h with h|h
   .split at h
    .simp at h;exact .inr (by simp[h])
    .simp at h
   .exact(Mb h).imp id λh=>mem_cons_of_mem _ h
theorem Mc{t:yB}{key row:cd}:∀{l:bx}{d:Bool},(Br t key row d l).length<=l.length+(if d then 0 else 1)
 |[],d=>by rw[Br];cases d<;>simp
 |r::l,d=>by
  have:=Mc (t:=t) (key:=key) (row:=row) (l:=l) (d:=d||decide (0<=dP (lH t r) key));rw[Br];simp only[length_append,length_cons];by_cases h:0<=dP (lH t r) key
  .cases d<;>by_cases c:dP (lH t r) key=0<;>simp[h,c]at this⊢ <;>omega
  .cases d<;>by_cases c:dP (lH t r) key=0<;>simp[h,c]at this⊢ <;>omega
theorem Ni{t:yB}{row:cd}:∀{l:bx},O9 t l->O9 t (Br t (lH t row) row false l)
 |[],_=>by rw[Br];exact pairwise_singleton _ _
 |r::l,h=>by
  obtain⟨d,n⟩:=pairwise_cons.1 h;rw[Br];by_cases g:0<=dP (lH t r) (lH t row)
  .rw[if_pos ⟨g,rfl⟩,show(false||decide (0<=dP (lH t r) (lH t row)))=true by simp[g]];by_cases j:dP (lH t r) (lH t row)=0
   .rw[if_neg (by simp[j])];have e:=jM.1 j
    rw[Nh λx c=>by
     have f:=d x c;rw[e]at f;have:=mX (lH t x) (lH t row);omega]
    exact pairwise_cons.2 ⟨λx c=>by rw[<-e];exact d x c,n⟩
   .rw[if_pos j];have f:dP (lH t row) (lH t r)<0:=by have:=mX (lH t row) (lH t r);omega
    rw[Nh λx c=>by
     have o:=EF f (d x c);have:=mX (lH t x) (lH t row);omega]
    refine pairwise_cons.2 ⟨λx c=>?_,h⟩;rcases mem_cons.1 c with rfl|c
    .exact f
    .exact EF f (d x c)
  .rw[if_neg (by simp[g]),if_pos aD,show(false||decide (0<=dP (lH t r) (lH t row)))=false by simp[g]];refine pairwise_cons.2 ⟨λx c=>?_,Ni n⟩;rcases Mb c with rfl|c
   .omega
   .exact d x c
theorem Tc{st:List bx}(h:kN s st=0):cX s=0/\st.length=s.tables.length/\MZ s st/\(st.map λl=>(l.length:Int)).sum<=512:=by
 unfold kN at h;split at h
 .rename_i c;exact absurd h c
 .rename_i c;split at h
  .simp at h
  .rename_i f;split at h
   .simp at h
   .rename_i d;split at h
    .rename_i e;exact⟨Classical.not_not.1 c,Classical.not_not.1 d,e,aD⟩
    .simp at h
theorem axQ{t:yB}{x y:cd}(h:x.length=y.length):(lH t x).length=(lH t y).length:=by simp[lH,h]
theorem aQQ{t:yB}{x y:cd}(h:x.length=y.length)(c:dP (lH t x) (lH t y)<0):dP x y<0:=by
 have d:x=lH t x++x.drop (max 0 (min t.key x.length)).toNat:=(take_append_drop _ _).symm;have e:y=lH t y++y.drop (max 0 (min t.key y.length)).toNat:=(take_append_drop _ _).symm;rw[d,e,JD (axQ h),if_pos aD];exact c
theorem O9.of{t:yB}:∀{l:bx},(∀(i:Nat) r r',l[i]? =some r->l[i+1]? =some r'->dP (lH t r) (lH t r')<0)->O9 t l
 |[],_=>List.Pairwise.nil
 |[_],_=>pairwise_singleton _ _
 |a::b::l,h=>by
  have d:O9 t (b::l):=O9.of λi r r' f g=>h (i+1) r r' f g;refine pairwise_cons.2 ⟨λx c=>?_,d⟩;have e:=h 0 a b rfl rfl;rcases mem_cons.1 c with rfl|c
  .exact e
  .exact EF e ((pairwise_cons.1 d).1 x c)
theorem O9.adj{t:yB}{l:bx}(h:O9 t l)(i:Nat)(r r':cd)(c:l[i]? =some r)(d:l[i+1]? =some r'):dP (lH t r) (lH t r')<0:=by
 obtain⟨e,rfl⟩:=List.getElem?_eq_some_iff.1 c;obtain⟨f,rfl⟩:=List.getElem?_eq_some_iff.1 d;exact pairwise_iff_getElem.1 h i (i+1) e f aD
theorem SY{t:ByteArray}(h:t.toList=(⟨#[]⟩:ByteArray).toList):t.size<=64:=by rw[Bi h];decide
theorem Hw{t:ByteArray}(h:Fl t=true):t.size<=64:=SY (by simp only[Fl,beq_iff_eq]at h;rw[h,ByteArray.toList_eq])
theorem Lg{v:VV}(h:kY v=true):v.text.size<=64:=by
 unfold kY at h;split at h
 .simp only[Bool.and_eq_true]at h;exact Hw h.2
 .split at h
  .simp only[Bool.and_eq_true]at h;exact Hw h.2
  .split at h
   .exact Hw h
   .split at h
    .simp at h;omega
    .cases h
theorem BY{q:Query}(h:(dU s ps q).2=0):cX s=0/\ps.all eD=true/\uY q=true/\(aK s ps q).2=0:=by
 unfold dU at h;split at h
 .rename_i c;split at h
  .rename_i d;split at h
   .rename_i e;exact⟨c,d,e,h⟩
   .simp[dG]at h
  .simp[dG]at h
 .rename_i c;simp[dG]at h;exact(c h).elim
theorem Lh{v:VV}(h:kY v=true):1<=v.kind/\v.kind<=5/\v.text.size<=64:=by
 refine⟨?_,?_,Lg h⟩
 all_goals
  unfold kY at h;split at h
  .rename_i e;simp at e;omega
  .split at h
   .rename_i e;simp at e;omega
   .split at h
    .rename_i e;simp at e;omega
    .split at h
     .rename_i e;simp at e;omega
     .cases h
theorem Sb{t:yB}{r:cd}(h:EV t r=true):r.length=t.columns.length/\∀v∈r,kY v=true:=by
 simp only[EV,Bool.and_eq_true,decide_eq_true_eq,all_eq_true,mem_range]at h;refine⟨h.1,λv e=>?_⟩;obtain⟨i,c,rfl⟩:=mem_iff_getElem.1 e;have d:=h.2 i c;simp only[A9,Bool.and_eq_true,getD_eq_getElem?_getD,getElem?_eq_getElem c,Option.getD_some]at d;exact d.1
theorem a2Z{t:yB}{l:bx}(j:t.columns.length<=12)(c:X1 t l)(n:∀r∈l,∀v∈r,tN v.kind/\tN v.int)(o:l.length<=1000000):hU t.columns.length l:=by
 have e:∀r∈l,r.length=t.columns.length:=λr d=>(Sb (c.1 r d)).1;refine⟨λr d=>⟨by rw[e r d];exact j,λv f=>?_⟩,e,?_,o⟩
 .have u:=(Sb (c.1 r d)).2 v f;have g:=n r d v f;exact⟨g.1,g.2,(Lh u).2.2⟩
 .exact(O9.of c.2).imp_of_mem fun{x y} f z h=>aQQ (by rw[e x f,e y z]) h
def A6(st:List bx)(q:Query):List bx:=(pA q).map λt=>st.getD t.toNat []
theorem bAJ{st:List bx}{t:Int}(c:kN s st=0)(y:StV st)(f:0<=t)(D:t<s.tables.length):hU (iA s t).length (st.getD t.toNat [])/\st.getD t.toNat []∈st:=by
 obtain⟨z,E,A,F⟩:=Tc c;have g:t.toNat<s.tables.length:=by omega
 have j:t.toNat<st.length:=by omega
 have n:s.tables[t.toNat]? =some s.tables[t.toNat]:=getElem?_eq_getElem g;have o:st[t.toNat]? =some st[t.toNat]:=getElem?_eq_getElem j;have B:st.getD t.toNat []=st[t.toNat]:=by rw[getD_eq_getElem?_getD,o];rfl
 have d:st[t.toNat]∈st:=getElem_mem j;have G:=Dr z _ (getElem_mem g);have C:(iA s t).length=s.tables[t.toNat].columns.length:=by rw[iA,if_neg aD,n];simp
 have e:∀{l:List bx}{x},x∈l->((x.length:Nat):Int)<=(l.map λl=>(l.length:Int)).sum:=fun{l x}=>by
  induction l with
  |nil=>intro h;simp at h
  |cons a l u=>
   intro h
   have f:∀l:List bx,0<=(l.map λl=>(l.length:Int)).sum:=λl=>by
    induction l with
    |nil=>simp
    |cons a l u=>simp only[map_cons,sum_cons];omega
   simp only[map_cons,sum_cons];rcases mem_cons.1 h with rfl|h
   .have:=f l;omega
   .have:=u h;omega
 have:=e d;rw[B,C];exact⟨a2Z aD (A _ _ _ n o) (y _ d) aD,d⟩
theorem RL{st:List bx}{q:Query}{ks:bt}{c:Nat}(d:kN s st=0)(u:StV st)(z:∀l∈st,l.length<=c)(A:1<=c)(e:aK s ps q=(ks,0))(g:fE c q<=1000000):
 okQ (A6 st q) q 0/\(Ay (A6 st q) q 0).1=jS st q/\hU ks.length (jS st q)/\(jS st q).length<=1000000:=by
 have n:∀(j:Nat)(t:Int),(pA q)[j]? =some t->(A6 st q)[0+j]? =some (st.getD t.toNat []):=λj t h=>by rw[Nat.zero_add,A6,getElem?_map,h];rfl
 have x:=UW A (ls:=A6 st q) (k:=0) e ⟨λj t h=>⟨_,n j t h,by
  have o:=Nb e t (mem_of_getElem? h);have:=bAJ d u o.1 o.2;exact⟨this.1,z _ this.2⟩⟩⟩ g
 have y:=Q6 (st:=st) (ls:=A6 st q) (k:=0) e ⟨λj t h=>by rw[getD_eq_getElem?_getD,n j t h];rfl⟩;have f:(Ay (A6 st q) q 0).1=jS st q:=by rw[y]
 refine⟨x.ok,f,by rw[<-f];exact x.rel,?_⟩;rw[<-f];exact Nat.le_trans x.bnd g
def aPl(p r:Sl):CV:=.val (.agg ⟨[.slice p.a p.len p.cap,.slice r.a r.len r.cap]⟩)
theorem fW.keep{r:CV}(c:Sub m m')(le:PH.le h h')(d:K r m h):fW h K r m' h':=
 λ_=>⟨m,h,c,.refl _,λb i v e=>.inl (le.le b i v e),d⟩
def a1J(q:Query):Prop:=
 match q with
 |.mk op _ _ _ _ _ _ _ args=>(args.length:Int)=arity op/\∀a∈args,a1J a
 termination_by SizeOf.sizeOf q
theorem aQZ{op:Int}{w:Pred}{on:bz}{args:cg}:
 a1J (.mk op ta w co on gr od li args)↔(args.length:Int)=arity op/\∀a∈args,a1J a:=by rw[a1J.eq_def]
theorem Dg(op:Int):arity op<=2:=by
 unfold arity
 repeat' split
 all_goals omega
theorem Nj{α:Type}{l c:List α}(h:l<+:c){x:α}(d:l[i]? =some x):c[i]? =some x:=by
 obtain⟨r,rfl⟩:=h;rw[getElem?_append_left (List.getElem?_eq_some_iff.1 d).1];exact d
theorem J8:∀(n:Nat){l:cu},l.Nodup->(∀x∈l,x<n)->l.length<=n
 |0,l,_,h=>by
  cases l with
  |nil=>simp
  |cons x l=>have:=h x bj;omega
 |n+1,l,d,h=>by
  by_cases f:n∈l
  .have j:=length_erase_of_mem f
   have o:=J8 n (d.erase n) (λx c=>by
    have g:=(d.mem_erase_iff).1 c;have:=h x g.2;have:=g.1;omega)
   have:=length_pos_of_mem f;omega
  .have:=J8 n d (λx c=>by
    have j:=h x c;have:x≠n:=λe=>f (by rw[<-e];exact c);omega)
   omega
theorem Jk{α:Type}{T:List α->α->Prop}{l:List α}{f:α->Int}{n:Nat}(h:Good T l)(d:∀c x,T c x->0<=f x/\f x<n)(u:∀c x,T c x->∀y∈c,f y≠f x):l.length<=n:=by
 have z:(l.map λx=>(f x).toNat).Nodup:=by
  rw[nodup_iff_pairwise_ne,pairwise_iff_getElem];intro i j e g A;simp only[length_map]at e g;simp only[getElem_map];have B:=h i l[i] (getElem?_eq_getElem e);have o:=h j l[j] (getElem?_eq_getElem g);have:=u _ _ o l[i] (mem_take_iff_getElem.2 ⟨i,aD,rfl⟩);have:=d _ _ B;have:=d _ _ o;omega
 have:=J8 n z (λx C=>by
  obtain⟨y,D,rfl⟩:=mem_map.1 C;obtain⟨i,e⟩:=mem_iff_getElem?.1 D;have:=d _ _ (h i y e);omega)
 simpa using this
mutual
def aRJ:Pred->Prop
 |.mk _ _ l r args=>l.value.text.size<=64/\r.value.text.size<=64/\Sy args
def Sy:cq->Prop
 |[]=>True
 |p::ps=>aRJ p/\Sy ps
end
theorem TA(o:OV)(h:o.value.text.size<=64):(BL o).length<=200:=by
 have e:=fS [o.kind,o.index];have f:=fS [o.value.kind];have g:=fS [(o.value.text.size:Int)];have c:=fS [o.value.int];have d:gV [o.value.int]=jQ o.value.int++[32]:=by unfold gV;rw[flatMap_cons,flatMap_nil,append_nil]
 rw[d]at c;have j:o.value.text.data.toList.length=o.value.text.size:=by rw[Array.length_toList];rfl
 simp only[BL,xD,length_append,length_cons,length_nil]at*
 omega
mutual
theorem J6:∀p:Pred,aRJ p->((pS p).length:Int)<=1000*LZ p
 |.mk op c l r args,h=>by
  obtain⟨d,e,f⟩:=h;have g:=TA l d;have j:=TA r e;have n:=Nl args f;have o:=fS [op,c];have u:=fS [(args.length:Int)];simp only[pS,LZ,length_append,length_cons,length_nil]at*
  omega
theorem Nl:∀ps:cq,Sy ps->((mO ps).length:Int)<=1000*BK ps
 |[],_=>by simp[mO,BK]
 |p::ps,h=>by
  have:=J6 p h.1;have:=Nl ps h.2;simp only[mO,BK,length_append];omega
end
theorem UY{v:VV}(h:Yy v zeroV=true):v.text.size<=64:=by
 simp only[Yy,Bool.and_eq_true,beq_iff_eq]at h;exact SY h.2.2.1
theorem Jr{o:OV}(h:Xu o eT=true):o.value.text.size<=64:=by
 simp only[Xu,Bool.and_eq_true,beq_iff_eq]at h;exact UY h.2.2.1
theorem LU{o:OV}(h:pL l o≠0):o.value.text.size<=64:=by
 unfold pL at h;split at h
 .exact(h rfl).elim
 .rename_i c;simp only[Bool.or_eq_true,not_or,Bool.not_eq_true',Bool.not_eq_false]at c;exact UY c.2
theorem LH{cols params:bt}{o:OV}(h:kindOf cols params o≠0):o.value.text.size<=64:=by
 unfold kindOf at h;split at h
 .split at h
  .exact(h rfl).elim
  .rename_i c;simp only[Bool.or_eq_true,not_or,Bool.not_eq_true',Bool.not_eq_false,lY,Bool.and_eq_true]at c;exact Lg c.2.1
 .split at h
  .exact LU h
  .split at h
   .exact LU h
   .exact(h rfl).elim
mutual
theorem Li{cols params:bt}:∀p:Pred,iX cols params p=true->aRJ p
 |.mk op c l r args,h=>by
  unfold iX at h;split at h
  .simp only[Bool.and_eq_true,Fi,beq_iff_eq]at h;have:args=[]:=eq_nil_of_length_eq_zero h.2;subst this;exact⟨Jr h.1.1.2,Jr h.1.2,trivial⟩
  .split at h
   .simp only[Bool.and_eq_true,beq_iff_eq,bne_iff_ne,ne_eq,decide_eq_true_eq]at h;have:args=[]:=eq_nil_of_length_eq_zero h.1.1.1.1;subst this;exact⟨LH h.1.2,LH (cols:=cols) (params:=params) (by rw[<-h.2];exact h.1.2),trivial⟩
   .split at h
    .simp only[Bool.and_eq_true,Fi]at h;exact⟨Jr h.1.1.2,Jr h.1.2,HU args h.2⟩
    .cases h
theorem HU{cols params:bt}:∀ps:cq,vV cols params ps=true->Sy ps
 |[],_=>trivial
 |p::ps,h=>by
  simp only[vV,Bool.and_eq_true]at h;exact⟨Li p h.1,HU ps h.2⟩
end
theorem aqZ{cols params:bt}(h:fR cols params p=0):(pS p).length<=1000000000:=by
 unfold fR at h;split at h
 .cases h
 .split at h
  .cases h
  .rename_i c;split at h
   .cases h
   .rename_i d;have e:iX cols params p=true:=bo d
    have g:=J6 p (Li p e);simp only[Bool.or_eq_true,not_or,decide_eq_true_eq]at c;have f:=F3 p 0 aD
    have:LZ p<=24:=by
     by_cases j:(0:Int)+LZ p<=24
     .omega
     .have:=f.2 aD;omega
    omega
theorem amJ:(pS eJ).length<=1000000000:=by
 have:=J6 eJ ⟨bk,bk,trivial⟩;have e:LZ eJ=1:=rfl;omega
theorem Ew{s:iJ}{ps:bt}:∀(c:cg),∀k∈(dV s ps c).1,k.length<=12
 |[],k,h=>by simp[dV]at h
 |q::c,k,h=>by
  simp only[dV]at h;split at h
  .split at h
   .simp only[mem_cons]at h;rcases h with rfl|h
    .exact jH s ps q
    .exact Ew c k h
   .simp at h
  .simp at h
theorem TY(h:∀k∈ks,k.length<=12)(j:Nat):(ks.getD j []).length<=12:=by
 rw[getD_eq_getElem?_getD];cases e:ks[j]? with
 |none=>simp
 |some k=>exact h k (mem_of_getElem? e)
theorem Hd{s:iJ}{ps:bt}:∀{c:cg}{ks:List bt},dV s ps c=(ks,0)->ks.length=c.length/\∀q∈c,(aK s ps q).2=0
 |[],ks,h=>by simp[dV]at h;subst h;simp
 |q::c,ks,h=>by
  simp only[dV]at h;split at h
  .rename_i d;split at h
   .rename_i f;have e:dV s ps c=((dV s ps c).1,0):=Prod.ext rfl f;obtain⟨j,n⟩:=Hd e;simp only[Prod.mk.injEq]at h;rw[<-h.1];refine⟨by simp[j],λx g=>?_⟩;rcases mem_cons.1 g with rfl|g
    .exact d
    .exact n x g
   .rename_i f;simp at h;exact(f h.2).elim
  .rename_i d;simp at h;exact(d h.2).elim
theorem kM{op:Int}{w:Pred}{on:bz}{args:cg}(h:(aK s ps (.mk op ta w co on gr od li args)).2=0):
 (∀a∈args,(aK s ps a).2=0)/\(args.length:Int)=arity op/\∃a b,a.length<=12/\b.length<=12/\(dQ s ps (.mk op ta w co on gr od li args) a b).2=0:=by
 simp only[aK]at h;split at h
 .rename_i c;have e:dV s ps args=((dV s ps args).1,0):=Prod.ext rfl c;obtain⟨d,f⟩:=Hd e;split at h
  .rename_i g;refine⟨f,by rw[<-d];exact g,_,_,?_,?_,h⟩
   .exact TY (Ew args) 0
   .exact TY (Ew args) 1
  .simp[dG]at h
 .rename_i c;simp[dG]at h;exact(c h).elim
theorem auQ{op:Int}{w:Pred}{on:bz}{args:cg}{b:bt}(I:a.length<=12)(h:(dQ s ps (.mk op ta w co on gr od li args) a b).2=0):
 LY ⟨op,ta,w,co,on,gr,od,li,0,0⟩:=by
 unfold dQ at h;dsimp only at h;split at h
 .simp[dG]at h
 .rename_i u;rw[not_or]at u;have A:cO (.mk op ta w co on gr od li args):=Classical.not_not.1 u.2;obtain⟨_,B,C,D,E⟩:=A
  have j:∀l:bt,(kR l).2=0->l.length<=12:=λl e=>by
   unfold kR at e;split at e
   .assumption
   .cases e
  have F:(pS w).length<=1000000000:=by
   rcases B with rfl|rfl
   .simp only[show¬((2:Int)=1)by decide,if_false,if_true]at h;split at h
    .rename_i e;exact aqZ e
    .rename_i e;simp[dG]at h;exact(e h).elim
   .exact amJ
  have G:co.length<=1000000000:=by
   rcases C with rfl|rfl
   .simp only[show¬((3:Int)=1)by decide,show¬((3:Int)=2)by decide,if_false,if_true]at h;split at h
    .have:=j _ h;simp at this;omega
    .simp[dG]at h
   .simp
  have H:on.length<=1000000000:=by
   have c:Good (kX a b) on->on.length<=1000000000:=λg=>by
    have:=Jk (f:=λp=>p.1) (n:=a.length) g (λd x t=>by have:=t.1;rw[dW]at this;exact this) (λd x t y o=>(t.2.2.2 y o).1);omega
   rcases D with rfl|rfl|rfl
   .simp only[show¬((4:Int)=1)by decide,show¬((4:Int)=2)by decide,show¬((4:Int)=3)by decide,if_false,if_true]at h;split at h
    .rename_i e;exact c e
    .simp[dG]at h
   .simp only[show¬((5:Int)=1)by decide,show¬((5:Int)=2)by decide,show¬((5:Int)=3)by decide,show¬((5:Int)=4)by decide,if_false,if_true]at h;split at h
    .rename_i e;exact c e
    .simp[dG]at h
   .simp
  have z:gr.length<=1000000000/\od.length<=1000000000:=by
   have c:kT a gr od li->gr.length<=1000000000/\od.length<=1000000000:=λr=>by
    have:=Jk (f:=λp=>p) (n:=a.length) r.group_ (λd x t=>by have:=t.1;rw[dW]at this;exact this) (λd x t y o e=>t.2 (by rw[<-e];exact o));have:=r.len_;omega
   rcases E with rfl|rfl|⟨rfl,rfl,_⟩
   .simp only[show¬((9:Int)=1)by decide,show¬((9:Int)=2)by decide,show¬((9:Int)=3)by decide,show¬((9:Int)=4)by decide,show¬((9:Int)=5)by decide,if_false,if_true]at h;split at h
    .rename_i e;exact c e
    .simp[dG]at h
   .simp only[show¬((10:Int)=1)by decide,show¬((10:Int)=2)by decide,show¬((10:Int)=3)by decide,show¬((10:Int)=4)by decide,show¬((10:Int)=5)by decide,show¬((10:Int)=9)by decide,if_false,if_true]at h;split at h
    .rename_i e;exact c e.2
    .simp[dG]at h
   .simp
  exact⟨F,G,H,z.1,z.2⟩
theorem Km{s:iJ}{ps:bt}:∀q:Query,(aK s ps q).2=0->BI q/\a1J q
 |.mk op ta w co on gr od li args,h=>by
  obtain⟨d,e,a,b,f,_,g⟩:=kM h;rw[Tq,aQZ];exact⟨⟨auQ f g,λq c=>(Km q (d q c)).1⟩,e,λq c=>(Km q (d q c)).2⟩
theorem Ze{q:Query}(h:(dU s ps q).2=0):BI q:=(Km q (BY h).2.2.2).1
theorem NM{n:Int}(h:tN n){b:UInt8}(c:b∈jQ n):b≠32:=by
 intro e;subst e;by_cases f:0<=n
 .rw[C7 h f]at c;have:=Sk _ _ c;simp at this
 .rw[C8 h aD]at c;rcases mem_cons.1 c with d|d
  .cases d
  .have:=Sk _ _ d;simp at this
theorem sS(n:Int)(l:bt):gV (n::l)=jQ n++32::gV l:=by unfold gV;rw[flatMap_cons,append_assoc];rfl
theorem gJ{m n:Int}{r r':cn}(d:tN m)(e:tN n)(h:jQ m++32::r=jQ n++32::r'):m=n/\r=r':=by
 obtain⟨f,g⟩:=Td (λc=>NM d c rfl) (λc=>NM e c rfl) h;exact⟨Zw d e f,g⟩
theorem Lz(p:Int×Int)(l:bz):tQ (p::l)=jQ p.1++32::(jQ p.2++32::tQ l):=by
 show gV [p.1,p.2]++tQ l=_;rw[sS,sS,append_assoc,cons_append,append_assoc];rfl
theorem Ls(p:Int×Bool)(l:ca):tP (p::l)=jQ p.1++32::(jQ (if p.2 then 1 else 0)++32::tP l):=by
 show gV [p.1,if p.2 then 1 else 0]++tP l=_;rw[sS,sS,append_assoc,cons_append,append_assoc];rfl
structure Vp(o:OV):Prop where
 kind_:tN o.kind
 index_:tN o.index
 vkind_:tN o.value.kind
 int_:tN o.value.int
 text_:o.value.text.size<=64
mutual
def JM:Pred->Prop
 |.mk op c l r args=>tN op/\tN c/\Vp l/\Vp r/\args.length<=1000000/\OI args
def OI:cq->Prop
 |[]=>True
 |p::ps=>JM p/\OI ps
end
theorem uV{n:Nat}(h:n<=1000000):tN (n:Int):=⟨aD,aD⟩
theorem Hs{o o':OV}{r r':cn}(d:Vp o)(e:Vp o')(h:BL o++r=BL o'++r'):o=o'/\r=r':=by
 have z:gV []=[]:=rfl;simp only[BL,xD,sS,z,append_assoc,cons_append,nil_append]at h;obtain⟨j,h⟩:=gJ d.kind_ e.kind_ h;obtain⟨n,h⟩:=gJ d.index_ e.index_ h;obtain⟨u,h⟩:=gJ d.vkind_ e.vkind_ h;obtain⟨x,h⟩:=gJ d.int_ e.int_ h;obtain⟨y,h⟩:=gJ (uV (by have:=d.text_;omega)) (uV (by have:=e.text_;omega)) h;have y:o.value.text.size=o'.value.text.size:=by omega
 obtain⟨f,A⟩:=append_inj h (by rw[Array.length_toList,Array.length_toList];exact y);refine⟨?_,A⟩;obtain⟨k,i,⟨D,E,g⟩⟩:=o;obtain⟨F,G,⟨B,C,c⟩⟩:=o';obtain⟨g⟩:=g;obtain⟨c⟩:=c;simp only at j n u x f;have f:g=c:=Array.toList_inj.1 f;subst j n u x f;rfl
mutual
theorem Ly:∀{p c:Pred}{r r':cn},JM p->JM c->pS p++r=pS c++r'->p=c/\r=r'
 |.mk op f l R args,.mk g e S j d,r,r',n,o,h=>by
  obtain⟨u,x,y,z,A,B⟩:=n;obtain⟨C,D,E,F,G,H⟩:=o;have I:gV []=[]:=rfl;simp only[pS,sS,I,append_assoc,cons_append,nil_append]at h;obtain⟨J,h⟩:=gJ u C h;obtain⟨L,h⟩:=gJ x D h;obtain⟨M,h⟩:=Hs y E h;obtain⟨O,h⟩:=Hs z F h;obtain⟨T,h⟩:=gJ (uV A) (uV G) h;obtain⟨P,Q⟩:=Ic B H aD h;subst J L M O P;exact⟨rfl,Q⟩
theorem Ic:∀{ps c:cq}{r r':cn},OI ps->OI c->ps.length=c.length->mO ps++r=mO c++r'->ps=c/\r=r'
 |[],[],r,r',_,_,_,h=>⟨rfl,by simpa[mO]using h⟩
 |[],_::_,_,_,_,_,d,_=>by simp at d
 |_::_,[],_,_,_,_,d,_=>by simp at d
 |p::ps,o::c,r,r',e,f,d,h=>by
  simp only[mO,append_assoc]at h;obtain⟨g,h⟩:=Ly e.1 f.1 h;obtain⟨j,n⟩:=Ic e.2 f.2 (bo d) h;subst g j;exact⟨rfl,n⟩
end
structure aSJ(t:Step):Prop where
 wher:JM t.wher
 cols:∀n∈t.columns,tN n
 on_:∀p∈t.on,tN p.1/\tN p.2
 group_:∀n∈t.group,tN n
 order_:∀p∈t.order,tN p.1
theorem iP{n:Int}(c: -1000000<=n)(d:n<=1000000):tN n:=⟨aD,aD⟩
theorem Fy:tN 0:=⟨bk,bk⟩
theorem sR:Vp eT:=⟨Fy,Fy,Fy,Fy,bk⟩
theorem ahJ{v:VV}(h:Yy v zeroV=true):v=zeroV:=Si.1 h
theorem Vb{o:OV}(h:pL l o≠0)(f:l.length<=1000000)(d:tN o.kind):Vp o:=by
 unfold pL at h;split at h
 .exact(h rfl).elim
 .rename_i c;simp only[Bool.or_eq_true,not_or,Bool.not_eq_true',Bool.not_eq_false,decide_eq_true_eq]at c;have e:=ahJ c.2;refine⟨d,iP aD aD,?_,?_,?_⟩
  all_goals rw[e]
  .exact sR.vkind_
  .exact sR.int_
  .exact sR.text_
theorem TL{cols params:bt}{o:OV}(h:kindOf cols params o≠0)(j:cols.length<=1000000)(n:params.length<=1000000)(f:K7 o.value):Vp o:=by
 unfold kindOf at h;split at h
 .rename_i c;have c:o.kind=3:=bo c
  split at h
  .exact(h rfl).elim
  .rename_i g;simp only[Bool.or_eq_true,not_or,Bool.not_eq_true',Bool.not_eq_false,bne_iff_ne,ne_eq,Classical.not_not,lY,Bool.and_eq_true,decide_eq_true_eq]at g;refine⟨iP aD aD,iP aD aD,?_,f.int_,f.text_⟩;have d:=g.2.1;unfold kY at d;split at d
   .rename_i e;simp at e;exact iP aD aD
   .split at d
    .rename_i e;simp at e;exact iP aD aD
    .split at d
     .rename_i e;simp at e;exact iP aD aD
     .split at d
      .rename_i e;simp at e;exact iP aD aD
      .cases d
 .split at h
  .rename_i c;simp at c;exact Vb h n (iP aD aD)
  .split at h
   .rename_i c;simp at c;exact Vb h j (iP aD aD)
   .exact(h rfl).elim
theorem Fb:∀ps:cq,(ps.length:Int)<=BK ps
 |[]=>by simp[BK]
 |p::ps=>by
  have:=Fb ps;have:1<=LZ p:=by cases p;rename_i a;have:=Fb a;simp only[LZ];omega
  simp only[BK,length_cons];omega
theorem a2J(p:Pred):1<=LZ p:=by cases p;rename_i a;have:=Fb a;simp only[LZ];omega
mutual
theorem SX{cols params:bt}(c:cols.length<=1000000)(d:params.length<=1000000):∀p:Pred,iX cols params p=true->CB p->LZ p<=1000->JM p
 |.mk op n l r args,h,w,o=>by
  have u:=Fb args;simp only[LZ]at o;unfold iX at h;split at h
  .rename_i e;simp only[Bool.and_eq_true,Fi,beq_iff_eq]at h;have:args=[]:=eq_nil_of_length_eq_zero h.2;subst this;have f:=qP.1 h.1.1.2;have g:=qP.1 h.1.2;subst f g;have j:op=1\/op=2:=bo e
   exact⟨iP aD aD,by rw[h.1.1.1];exact Fy,sR,sR,bj,trivial⟩
  .split at h
   .rename_i e;simp only[Bool.and_eq_true,beq_iff_eq,bne_iff_ne,ne_eq,decide_eq_true_eq]at h;have:args=[]:=eq_nil_of_length_eq_zero h.1.1.1.1;subst this;have j:op=3:=bo e
    exact⟨iP aD aD,iP aD aD,TL h.1.2 c d w.1,TL (cols:=cols) (params:=params) (by rw[<-h.2];exact h.1.2) c d w.2.1,bj,trivial⟩
   .split at h
    .rename_i e;simp only[Bool.and_eq_true,Fi,beq_iff_eq]at h;have f:=qP.1 h.1.1.2;have g:=qP.1 h.1.2;subst f g
     have j:op=4\/op=5\/op=6:=by
      simp only[Bool.or_eq_true,Bool.and_eq_true,beq_iff_eq]at e;omega
     exact⟨iP aD aD,by rw[h.1.1.1];exact Fy,sR,sR,aD,Pg c d args h.2 w.2.2 aD⟩
    .cases h
theorem Pg{cols params:bt}(c:cols.length<=1000000)(d:params.length<=1000000):∀ps:cq,vV cols params ps=true->K8 ps->BK ps<=1000->OI ps
 |[],_,_,_=>trivial
 |p::ps,h,w,e=>by
  simp only[vV,Bool.and_eq_true]at h;have f:=a2J p;have g:=Fb ps;simp only[BK]at e;exact⟨SX c d p h.1 w.1 aD,Pg c d ps h.2 w.2 aD⟩
end
theorem bCZ{cols params:bt}(h:fR cols params p=0)(c:cols.length<=1000000)(d:params.length<=1000000)(w:CB p):JM p:=by
 unfold fR at h;split at h
 .cases h
 .split at h
  .cases h
  .rename_i e;split at h
   .cases h
   .rename_i f;have g:iX cols params p=true:=bo f
    simp only[Bool.or_eq_true,not_or,decide_eq_true_eq]at e;have j:=F3 p 0 aD
    have:LZ p<=24:=by
     by_cases n:(0:Int)+LZ p<=24
     .omega
     .have:=j.2 aD;omega
    exact SX c d p g w aD
theorem bzJ:JM eJ:=⟨Fy,Fy,sR,sR,bk,trivial⟩
def aWZ:Query->Prop
 |.mk _ _ w co on gr od _ _=>JM w/\(∀n∈co,tN n)/\(∀p∈on,tN p.1/\tN p.2)/\(∀n∈gr,tN n)/\∀p∈od,tN p.1
def QI(q:Query):Prop:=
 match q with
 |.mk op ta w co on gr od li args=>aWZ (.mk op ta w co on gr od li [])/\∀a∈args,QI a
 termination_by SizeOf.sizeOf q
theorem Hq{op:Int}{w:Pred}{on:bz}{args:cg}:
 QI (.mk op ta w co on gr od li args)↔aWZ (.mk op ta w co on gr od li [])/\∀a∈args,QI a:=by rw[QI.eq_def]
theorem Bg{α:Type}{T:List α->α->Prop}{l:List α}{P:α->Prop}(h:Good T l)(d:∀c x,T c x->P x):∀x∈l,P x:=λx e=>by
 obtain⟨j,f⟩:=mem_iff_getElem?.1 e;exact d _ _ (h j x f)
theorem TR{n:Int}(c:l.length<=1000)(h:BM l n=true):tN n:=by
 have:=dW.1 h;exact iP aD aD
theorem VN{s:iJ}{ps:bt}{op ta:Int}{w:Pred}{co:bt}{on:bz}{gr:bt}{od:ca}{li:Int}{args:cg}{a b:bt}(H:a.length<=12)(I:b.length<=12)(u:ps.length<=1000)(y:CB w)(h:(dQ s ps (.mk op ta w co on gr od li args) a b).2=0):
 aWZ (.mk op ta w co on gr od li []):=by
 unfold dQ at h;dsimp only at h;split at h
 .simp[dG]at h
 .rename_i j;rw[not_or]at j;have z:cO (.mk op ta w co on gr od li args):=Classical.not_not.1 j.2;obtain⟨_,A,B,C,D⟩:=z
  have E:JM w:=by
   rcases A with rfl|rfl
   .simp only[show¬((2:Int)=1)by decide,if_false,if_true]at h;split at h
    .rename_i e;exact bCZ e aD aD y
    .rename_i e;simp[dG]at h;exact(e h).elim
   .exact bzJ
  have F:∀n∈co,tN n:=by
   rcases B with rfl|rfl
   .simp only[show¬((3:Int)=1)by decide,show¬((3:Int)=2)by decide,if_false,if_true]at h;split at h
    .rename_i e;exact Bg e.2 λd x t=>TR aD t
    .simp[dG]at h
   .intro n f;cases f
  have G:∀p∈on,tN p.1/\tN p.2:=by
   have c:Good (kX a b) on->∀p∈on,tN p.1/\tN p.2:=λg=>Bg g λd x t=>⟨TR aD t.1,TR aD t.2.1⟩
   rcases C with rfl|rfl|rfl
   .simp only[show¬((4:Int)=1)by decide,show¬((4:Int)=2)by decide,show¬((4:Int)=3)by decide,if_false,if_true]at h;split at h
    .rename_i e;exact c e
    .simp[dG]at h
   .simp only[show¬((5:Int)=1)by decide,show¬((5:Int)=2)by decide,show¬((5:Int)=3)by decide,show¬((5:Int)=4)by decide,if_false,if_true]at h;split at h
    .rename_i e;exact c e
    .simp[dG]at h
   .intro n f;cases f
  have o:(∀n∈gr,tN n)/\∀p∈od,tN p.1:=by
   have c:kT a gr od li->(∀n∈gr,tN n)/\∀p∈od,tN p.1:=λr=>⟨Bg r.group_ λd x t=>TR aD t.1,Bg r.order_ λd x t=>TR aD t⟩
   rcases D with rfl|rfl|⟨rfl,rfl,_⟩
   .simp only[show¬((9:Int)=1)by decide,show¬((9:Int)=2)by decide,show¬((9:Int)=3)by decide,show¬((9:Int)=4)by decide,show¬((9:Int)=5)by decide,if_false,if_true]at h;split at h
    .rename_i e;exact c e
    .simp[dG]at h
   .simp only[show¬((10:Int)=1)by decide,show¬((10:Int)=2)by decide,show¬((10:Int)=3)by decide,show¬((10:Int)=4)by decide,show¬((10:Int)=5)by decide,show¬((10:Int)=9)by decide,if_false,if_true]at h;split at h
    .rename_i e;exact c e.2
    .simp[dG]at h
   .exact⟨λn f=>(by cases f),λn f=>(by cases f)⟩
  exact⟨E,F,G,o.1,o.2⟩
theorem MI{s:iJ}{ps:bt}(c:ps.length<=1000):∀q:Query,(aK s ps q).2=0->QW q->QI q
 |.mk op ta w co on gr od li args,h,d=>by
  obtain⟨f,o,a,b,g,j,n⟩:=kM h;rw[J5]at d;rw[Hq];exact⟨VN g j c d.1 n,λq e=>MI c q (f q e) (d.2 q e)⟩
def BA(a:Int)(n:Bool)(e:Int):Bool:=if n=true then decide (0<=a)&&decide (a<e)else a==0
def aZJ:Vc.Spec:=λc m h K=>∃a n e,c=[cI a,cB n,cI e]/\K (cB (BA a n e)) m h
def aRQ:Vc.Spec:=λc m h K=>∃v p,c=[aP v]/\eH h p v/\∀r:Bool,(r=true↔p=eJ)->K (cB r) m h
def Vk:Vc.Spec:=λc m h K=>∃v t,c=[aT v]/\sA h t v/\∀r:Bool,(r=true↔cO t.query)->K (cB r) m h
noncomputable def aOX(v:uD)(m:MH)(h:PH):Ctx:=
 cW [(156,aRQ)] [] ([3,5,7,9].map λk=>(k,{A:=Unit,st:=λ_=>bY 66 67 [(1,.at (.ptr 1 0))] [(1,.cells 111 (v.enc.map .val))] m h})) [] false
def T2(op:Int)(m:MH)(h:PH)(K:bu):Prop:=
  dJ (op==1) (K (eG 0) m h) (op==2) (K (eG 1) m h) (dJ (op==3) (K (eG 1) m h) (op==9) (K (eG 1) m h) (dJ (op==4) (K (eG 2) m h) (op==5) (K (eG 2) m h) (dJ (op==6) (K (eG 2) m h) (op==7) (K (eG 2) m h) (dJ (op==8) (K (eG 2) m h) (op==10) (K (eG 2) m h) (K (eG (Int.negSucc 0)) m h)))))
def Q4(a:Int)(n:Bool)(e:Int)(m:MH)(h:PH)(K:bu):Prop:=
  branch n (fQ a 0 (K (xZ (decide (a<e))) m h) (K bB m h)) (K (xZ (a==0)) m h)
def Qp(v:PV)(m:MH)(h:PH)(K:bu):Prop:=
  dZ v.op 0 (dZ v.cmp 0 (∃(r:Bool),fB (D8 v.left.enc r) r (∃(c:Bool),fB (D8 v.right.enc c) c (K (xZ (rX v==0)) m h) (K bB m h)) (K bB m h)) (K bB m h)) (K bB m h)
def Q3(v:uD)(m:MH)(h:PH)(K:bu):Prop:=
  ∃(I:Unit->Prop),dC v.op 1 (dC v.table 0 (K bB m h) (∃(x:Unit),aA (I x) eM (aA (lB v) (m=m) (bD h h)))) (∃(x:Unit),aA (I x) eM (aA (lB v) (m=m) (bD h h)))/\∀(x:Unit),I x->∃(I1:Unit->Prop),dC v.op 2 (qG (λf p=>oB (cZ v.where_) (cZ f) (eH h p f) (∀(r:Bool),gL (fV r (p=Jb)) (!r) (K bB m h) (∃(d:Unit),aA (I1 d) eM (aA (lB v) (m=m) (bD h h)))))) (∃(d:Unit),aA (I1 d) eM (aA (lB v) (m=m) (bD h h)))/\∀(d:Unit),I1 d->∃(I2:Unit->Prop),dC v.op 3 (gM (aG v.columns) 0 (K bB m h) (∃(e:Unit),aA (I2 e) eM (aA (lB v) (m=m) (bD h h)))) (∃(e:Unit),aA (I2 e) eM (aA (lB v) (m=m) (bD h h)))/\∀(e:Unit),I2 e->∃(I3:Unit->Prop),dC v.op 4 (dC v.op
 5 (gM (aG v.on) 0 (K bB m h) (∃(c:Unit),aA (I3 c) eM (aA (lB v) (m=m) (bD h h)))) (∃(c:Unit),aA (I3 c) eM (aA (lB v) (m=m) (bD h h)))) (∃(c:Unit),aA (I3 c) eM (aA (lB v) (m=m) (bD h h)))/\∀(c:Unit),I3 c->dC v.op 9 (dC v.op 10 (dZ (aG v.group) 0 (dZ (aG v.order) 0 (K (xZ (v.limit==0)) m h) (K bB m h)) (K bB m h)) (fJ K m h)) (fJ K m h)
theorem ZD:br 99 OT:=by
 refine hJ func99 ?_;rintro d m h K ⟨op,rfl,c⟩;refine⟨cW [] [] [] [] false,rfl,aH,T2 op m h K,bi,?_⟩;dsimp only[T2,push_cast]
 repeat' (first|(refine aC (λ_=>?_) (λ_=>?_))|(refine zY c ?_;simp only[arity];simp only[*,Bool.or_false,Bool.false_or,Bool.or_true,Bool.true_or,Bool.and_true,Bool.true_and,Bool.and_false,Bool.false_and,Bool.not_true,Bool.not_false,Bool.false_eq_true,if_true,if_false, ↓reduceIte];done)|(refine zY c ?_;simp only[arity];simp only[*,Bool.or_false,Bool.false_or,Bool.or_true,Bool.true_or,Bool.and_true,Bool.true_and,Bool.and_false,Bool.false_and,Bool.not_true,Bool.not_false,Bool.false_eq_true,if_true,if_false, ↓reduceIte];rfl))
theorem Xs:br 100 aZJ:=by
 refine hJ func100 ?_;rintro g m h K ⟨a,n,e,rfl,c⟩;refine⟨cW [] [] [] [] false,rfl,aH,Q4 a n e m h K,bi,?_⟩;dsimp only[Q4,push_cast];unfold BA at c;refine aC (λd=>?_) (λd=>?_)
 .rw[if_pos d]at c;refine aF (λf=>iW c ?_) (λf=>iW c ?_)
  .rw[decide_eq_true f];rfl
  .rw[decide_eq_false f];rfl
 .rw[if_neg (by simp[d])]at c;exact iW c rfl
theorem WU:br 156 aRQ:=by
 refine hJ func156 ?_;rintro n m h K ⟨v,p,rfl,o,j⟩;refine⟨cW [] [] [] [] false,rfl,aH,Qp v m h K,bi,?_⟩;dsimp only[Qp,push_cast];obtain⟨op,u,l,r,args⟩:=p;obtain⟨rfl,rfl,rfl,rfl,x⟩:=o.parts;have y:=Bz x.slen;have bad:¬(Pred.mk v.op v.cmp v.left v.right args=eJ)->K (.val (.bool false)) m h:=λz=>j false ⟨λe=>(by cases e),λe=>(z e).elim⟩;simp only[eJ,Pred.mk.injEq]at j bad;refine aC (λc=>aC (λd=>⟨_,zT v.left eT,aC (λf=>⟨_,zT v.right eT,aC (λg=>j _ ?_) (λg=>bad ?_)⟩) (λf=>bad ?_)⟩) (λd=>bad ?_)) (λc=>bad ?_)
 .rw[y];exact⟨λe=>⟨bo c,bo d,qP.1 f,qP.1 g,e⟩,λe=>e.2.2.2.2⟩
 .intro e;rw[qP.2 e.2.2.2.1]at g;cases g
 .intro e;rw[qP.2 e.2.2.1]at f;cases f
 .intro e;rw[e.2.1]at d;cases d
 .intro e;rw[e.1]at c;cases c
theorem Xr:br 101 Vk:=by
 refine hJ func101 ?_;rintro R m h K ⟨v,t,rfl,x,o⟩;refine⟨aOX v m h,rfl,aE WU aH,Q3 v m h K,bi,?_⟩;dsimp only[Q3,push_cast];obtain⟨op,ta,w,co,on,gr,od,li,le,T⟩:=t;obtain⟨G,H,I,u,y,J,xs,L,_,_⟩:=x;simp only at G H I u y J xs L;have U:=Bz u.slen;have V:=Bz y.slen;have M:=Bz J.slen;have O:=Bz xs.slen;simp only[Step.query,cO]at o;subst G H L;have bad:∀{P:Prop},¬P->((v.op=1\/v.table=0)/\(v.op=2\/w=eJ)/\(v.op=3\/co=[])/\(v.op=4\/v.op=5\/on=[])/\(v.op=9\/v.op=10\/(gr=[]/\od=[]/\v.limit=0))->P)->K (.val (.bool false)) m h:=λB S=>o false ⟨λe=>(by cases e),λe=>(B (S e)).elim⟩;have f:∀{n:Nat}{α:Type}{l:List α},n=l.length->((n:Int)>0↔l≠[]):=fun{n α l} e=>by rw[e,ne_eq, <-length_eq_zero_iff];omega
 refine⟨λ_=>v.op=1\/v.table=0,aC (λd=>aC (λc=>bad (P:=v.op=1\/v.table=0) ?_ λe=>e.1) (λc=>⟨(),.inr (bo c),MT⟩)) (λd=>⟨(),.inl (bo d),MT⟩),λ_ C=>?_⟩
 .rw[not_or];exact⟨bo d,bo c⟩
 refine⟨λ_=>v.op=2\/w=eJ,aC (λd=>⟨v.where_,w,rfl,I,λr Q=>aC (λc=>bad (P:=v.op=2\/w=eJ) ?_ λe=>e.2.1) (λc=>⟨(),.inr (Q.1 (bo c)),MT⟩)⟩) (λd=>⟨(),.inl (bo d),MT⟩),λ_ D=>?_⟩
 .rw[not_or];refine⟨bo d,λe=>?_⟩;rw[Q.2 e]at c;cases c
 refine⟨λ_=>v.op=3\/co=[],aC (λd=>aF (λc=>bad (P:=v.op=3\/co=[]) ?_ λe=>e.2.2.1) (λc=>⟨(),.inr ?_,MT⟩)) (λd=>⟨(),.inl (bo d),MT⟩),λ_ E=>?_⟩
 .rw[not_or];exact⟨bo d,(f u.slen).1 c⟩
 .exact Classical.byContradiction λe=>c ((f u.slen).2 e)
 refine⟨λ_=>v.op=4\/v.op=5\/on=[],aC (λd=>aC (λj=>aF (λc=>bad (P:=v.op=4\/v.op=5\/on=[]) ?_ λe=>e.2.2.2.1) (λc=>⟨(),.inr (.inr ?_),MT⟩)) (λj=>⟨(),.inr (.inl (bo j)),MT⟩)) (λd=>⟨(),.inl (bo d),MT⟩),λ_ F=>?_⟩
 .rw[not_or,not_or];exact⟨bo d,bo j,(f y.slen).1 c⟩
 .exact Classical.byContradiction λe=>c ((f y.slen).2 e)
 refine aC (λd=>aC (λc=>?_) (λc=>o true ⟨λ_=>⟨C,D,E,F,.inr (.inl (bo c))⟩,λ_=>rfl⟩)) (λd=>o true ⟨λ_=>⟨C,D,E,F,.inl (bo d)⟩,λ_=>rfl⟩);have d:v.op≠9:=bo d
 have c:v.op≠10:=bo c
 have g:¬(gr=[]/\od=[]/\v.limit=0)->K (.val (.bool false)) m h:=λB=>bad B λe=>(e.2.2.2.2.resolve_left d).resolve_left c;refine aC (λz=>aC (λA=>o _ ?_) (λA=>g λe=>?_)) (λz=>g λe=>?_)
 .rw[beq_iff_eq];exact⟨λe=>⟨C,D,E,F,.inr (.inr ⟨M.1 z,O.1 A,e⟩)⟩,λe=>((e.2.2.2.2.resolve_left d).resolve_left c).2.2⟩
 .rw[O.2 e.2.1]at A;cases A
 .rw[M.2 e.1]at z;cases z
open Classical in
noncomputable def Tr(a co:bt):bt×Int:=if co≠[]/\Good (λ_ c=>BM a c=true) co then kR (co.map λc=>a.getD c.toNat 0)else dG 120
def buZ:Vc.Spec:=λc m h K=>∃s t a co,c=[cS s,cS t]/\Ints h s a/\Ints h t co/\KR K m h (Tr a co)
def Rj:Vc.Spec:=λc m h K=>∃s t u a b on,c=[cS s,cS t,cS u]/\Ints h s a/\Ints h t b/\iD h u on/\a.length<=1000/\b.length<=1000/\∀r:Bool,(r=true↔Good (kX a b) on)->K (cB r) m h
def OL:Vc.Spec:=λc m h K=>∃s v a t,c=[cS s,aT v]/\Ints h s a/\sA h t v/\a.length<=1000/\∀r:Bool,(r=true↔kT a t.group t.order t.limit)->K (cB r) m h
def eB(b:Bool):bw:=[.bool b]
noncomputable def aOQ(s t:Sl)(m:MH)(h:PH):Ctx:=
 cW [] [(4,{A:=Nat,st:=λi=>bY 51 53 [(0,sv s),(1,sv t),(14,sv t),(15,iv t.len),(16,iv i)] [] m h}),
  (13,{A:=Nat×bt,st:=λ⟨i,l⟩=>bY 51 53 [(0,sv s),(8,.at (.lst 34)),(35,sv t),(36,iv t.len),(37,iv i)] [(34,.lst 3 1 (l.map eI))] m h})] [] [] false
noncomputable def aNJ(s t u:Sl)(m:MH)(h:PH):Ctx:=
 cW [] [(4,{A:=Nat×cv×cv,st:=λ⟨i,x,y⟩=>bY 75 78 [(0,sv s),(1,sv t),(7,.at (.lst 15)),(8,.at (.lst 18)),(19,sv u),(20,iv u.len),(21,iv i)] [(15,.lst 4 1 (x.map eB)),(18,.lst 4 1 (y.map eB))] m h})] [(9,{A:=Nat×cv×cv×Int×Int,st:=λ⟨i,x,y,a,b⟩=>bY 75 78 [(0,sv s),(1,sv t),(7,.at (.lst 15)),(8,.at (.lst 18)),(11,iv a),(12,iv b),(19,sv u),(20,iv u.len),(21,iv i)] [(15,.lst 4 1 (x.map eB)),(18,.lst 4 1 (y.map eB))] m h})] [] false
noncomputable def aNZ(s:Sl)(v:uD)(m:MH)(h:PH):Ctx:=
 cW [] [(3,{A:=Nat×cv,st:=λ⟨i,x⟩=>bY 68 70 [(0,sv s),(3,.at (.ptr 3 0)),(5,.at (.lst 12)),(14,sv v.group),(15,iv v.group.len),(16,iv i)] [(3,.cells 111 (v.enc.map .val)),(12,.lst 4 1 (x.map eB))] m h}),
  (12,{A:=Nat,st:=λi=>bY 68 70 [(0,sv s),(3,.at (.ptr 3 0)),(43,sv v.order),(44,iv v.order.len),(45,iv i)] [(3,.cells 111 (v.enc.map .val))] m h})] [] [] false
abbrev y7(a:Sl):Prop:=aG a<=aG a
attribute [push_cast] y7
def Q1(s t:Sl)(m:MH)(h:PH)(K:bu):Prop:=
  dZ (aG t) 0 (bU K 120 m h) (mP (λI x=>aA (I x) (aJ s) (aA (aJ t) (aJ t) (aA (bI t) (bF x) (aA (m=m) (h=h) True)))) (λI f x=>I x->bA (↑x:Int) (aG t) (aW (λb o=>aI (aX t.a b o) (0<=(↑x:Int)) ((↑x:Int)<aG t) (∃(y:Int),aU m h b (bN o x 1) (bJ y)/\bA y 0 (bU K 120 m h) (fQ y (aG s) (bU K 120 m h) (∃(c:Nat),aA (I c) (f c<f x) (aA (aJ s) (aJ t) (aA (aJ t) (bI t) (aA (fU (bG x 1)=bP c) (m=m) (bD h h))))))))) (gM (aG t) 12 (bU K 2 m h) (aA (bZ (aG t)) (y7 t) (aA (tF t 8) (rF (aG t)) (IT (λI1 c=>aA (I1 c) (aJ s) (aA (eL 34) (aJ t) (aA (bI t) (bF c.1) (aA (AD (wC (aG t) (kL bL)) (lM c)) (m=m) (bD h h))))) (λI1 g c=>I1 c->
 bA (↑c.1:Int) (aG t) (aW (λb o=>aI (aX t.a b o) (0<=(↑c.1:Int)) ((↑c.1:Int)<aG t) (∃(y:Int),aU m h b (bN o c.1 1) (bJ y)/\aW (λj n=>aI (aX s.a j n) (0<=y) (y<aG s) (∃(u:Int),Eg (aU m h j (gC n y 1) (bJ u)) 0 (↑c.1:Int) (lM c) (λe=>aA (oA (lM c) (↑c.1:Int) e) (0<e.length) (∃(d:Nat×bt),aA (I1 d) (g d<g c) (aA (aJ s) (eL 34) (aA (aJ t) (bI t) (aA (fU (bG c.1 1)=bP d.1) (AD (List.set (lM c) (↑c.1:Int).toNat (tZ (dY u) 1 e)) (lM d)) (bS (m=m) h h))))))))))) (rN h (lM c) K m))))))))
noncomputable abbrev qA(a:cv):List bw:=List.map eB a
abbrev AG(a:List bw)(b:cv):Prop:=cH 4 1 a=cH 4 1 (qA b)
noncomputable abbrev zG(a:Nat×cv×cv×Int×Int):Int:=a.2.2.2.1
noncomputable abbrev wW(a:Nat×cv×cv×Int×Int):Int:=a.2.2.2.2
attribute [push_cast] qA AG zG wW
def Q0(s t u:Sl)(m:MH)(h:PH)(K:bu):Prop:=
  aA (bZ (aG s)) (y7 s) (aA (tF s 1) (rF (aG s)) (aA (bZ (aG t)) (y7 t) (aA (tF t 1) (rF (aG t)) (∃(I:Nat×cv×cv->Prop)(j:Nat×cv×cv->Nat),(∃(x:Nat×cv×cv),aA (I x) (aJ s) (aA (aJ t) (eL 15) (aA (eL 18) (aJ u) (aA (bI u) (bF x.1) (mA (AG (wC (aG s) (kL uA)) x.2.1) (AG (wC (aG t) (kL uA)) x.2.2) (m=m) h h)))))/\∀(x:Nat×cv×cv),I x->bA (↑x.1:Int) (aG u) (aW (λb o=>aI (aX u.a b o) (0<=(↑x.1:Int)) ((↑x.1:Int)<aG u) (∃(y:Int×Int),aA (aU m h b (bN o x.1 2) (tC y)) (bZ 0) (aA AE (bZ 1) (AF/\∃(I1:Nat×cv×cv×Int×Int->Prop),bA y.1 0 (K bB m h) (fQ y.1 (aG s) (K bB m h) (bA
 y.2 0 (K bB m h) (fQ y.2 (aG t) (K bB m h) (∃(c:Nat×cv×cv×Int×Int),aA (I1 c) (aJ s) (aA (aJ t) (eL 15) (aA (eL 18) (dA y.1 (zG c)) (aA (dA y.2 (wW c)) (aJ u) (aA (bI u) (cJ x.1 c.1) (aA (AG (qA x.2.1) c.2.1) (AG (qA x.2.2) c.2.2.1) (bS (m=m) h h))))))))))/\∀(c:Nat×cv×cv×Int×Int),I1 c->aW (λn z=>aI (aX s.a n z) (0<=zG c) (zG c<aG s) (∃(A:Int),aU m h n (gC z (zG c) 1) (bJ A)/\aW (λB C=>aI (aX t.a B C) (0<=wW c) (wW c<aG t) (∃(D:Int),aU m h B (gC C (wW c) 1) (bJ D)/\dC A D (K bB m h) (qK (zG c) (qA c.2.1) (λe=>oA (qA c.2.1) (zG c) e/\∃(E:Bool),fB (rL 1 e (tK
 E)) E (K bB m h) (qK (wW c) (qA c.2.2.1) (λF=>oA (qA c.2.2.1) (wW c) F/\∃(G:Bool),fB (rL 1 F (tK G)) G (K bB m h) (qK (zG c) (qA c.2.1) (λf=>aA (oA (qA c.2.1) (zG c) f) (0<f.length) (aA (bZ (wW c)) (wW c<qF (qA c.2.2.1)) (∃(g:bw),aA (oA (qA c.2.2.1) (wW c) g) (0<g.length) (∃(d:Nat×cv×cv),aA (I d) (j d<j x) (aA (aJ s) (aJ t) (aA (eL 15) (eL 18) (aA (aJ u) (bI u) (aA (fU (bG c.1 1)=bP d.1) (AG (List.set (qA c.2.1) (zG c).toNat (tZ Ap 1 f)) d.2.1) (aA (AG (List.set (qA c.2.2.1) (wW c).toNat (tZ Ap 1 g)) d.2.2) (m=m) (bD h h)))))))))))))))))))))))) (fJ K m h)))))
def QZ(s:Sl)(v:uD)(m:MH)(h:PH)(K:bu):Prop:=
  aA (bZ (aG s)) (y7 s) (aA (tF s 1) (rF (aG s)) (∃(I:Nat×cv->Prop)(g:Nat×cv->Nat),(∃(x:Nat×cv),aA (I x) (aJ s) (aA dR (eL 12) (aA (aJ v.group) (bI v.group) (aA (bF x.1) (lB v) (aI (AG (wC (aG s) (kL uA)) x.2) (m=m) (h=h) True)))))/\∀(x:Nat×cv),I x->bA (↑x.1:Int) (aG v.group) (aW (λb o=>aI (aX v.group.a b o) (0<=(↑x.1:Int)) ((↑x.1:Int)<aG v.group) (∃(y:Int),aU m h b (bN o x.1 1) (bJ y)/\bA y 0 (K bB m h) (fQ y (aG s) (K bB m h) (qK y (qA x.2) (λe=>oA (qA x.2) y e/\∃(j:Bool),fB (rL 1 e (tK j)) j (K bB m h) (qK y (qA x.2) (λd=>aA (oA (qA x.2) y d) (0<d.length) (∃(c:Nat×cv),aA (I c) (g c<g x)
 (aA (aJ s) dR (aA (eL 12) (aJ v.group) (aA (bI v.group) (fU (bG x.1 1)=bP c.1) (mA (lB v) (AG (List.set (qA x.2) y.toNat (tZ Ap 1 d)) c.2) (m=m) h h))))))))))))) (gM (aG v.order) 12 (K bB m h) (mP (λI1 c=>aA (I1 c) (aJ s) (aA dR (aJ v.order) (aA (bI v.order) (bF c) (aA (lB v) (m=m) (bD h h))))) (λI1 n c=>I1 c->bA (↑c:Int) (aG v.order) (aW (λb o=>aI (aX v.order.a b o) (0<=(↑c:Int)) ((↑c:Int)<aG v.order) (∃(y:Int×Bool),aU m h b (bN o c 2) (yR y)/\bA y.1 0 (K bB m h) (fQ y.1 (aG s) (K bB m h) (∃(f:Nat),aA (I1 f) (n f<n c) (aA (aJ s) dR (aA (aJ v.order) (bI v.order) (aA (fU (bG c 1)=bP f) (lB v) (bS (m=m) h h))))))))) (fQ v.limit 0 (K (xZ
 (decide (v.limit<=100))) m h) (K bB m h)))))))
theorem KR.bad{r:bt×Int}{e:Int}(c:KR K m h r)(d:r=dG e):K (.tup [.val (.slice none 0 0),.val (.int .i64 e)]) m h:=c.err (.refl _) d
theorem Xq:br 102 buZ:=by
 refine hJ func102 ?_;rintro I m h K ⟨s,t,a,co,rfl,F,x,n⟩;refine⟨aOQ s t m h,rfl,aH,Q1 s t m h K,bi,?_⟩;dsimp only[Q1,push_cast];have W:=F.slen;have z:=x.slen;have G:=x.len;unfold Tr at n;refine aC (λy=>n.bad (if_neg λe=>e.1 ((Bz x.slen).1 y))) (λy=>?_);have A:co≠[]:=λe=>by rw[(Bz x.slen).2 e]at y;cases y
 refine⟨λi=>i<=co.length/\fD (λ_ c=>BM a c=true) co i,λi=>co.length-i,⟨0,⟨aD,.zero⟩,MT⟩,λi⟨X,H⟩=>aF (λd=>?_) (λB=>?_)⟩
 .obtain⟨c,j⟩:=eF z d;obtain⟨b,o,e,r⟩:=x.at' j;refine⟨b,o,e,aD,d,c,.imm r,aF (λC=>n.bad (if_neg λg=>?_)) (λC=>aF (λJ=>n.bad (if_neg λg=>?_)) (λJ=>⟨i+1,⟨aD,H.succ j (dW.2 ⟨aD,aD⟩)⟩,by show co.length-(i+1)<co.length-i;omega,MT⟩))⟩
  .have:=dW.1 (g.2 i c j);omega
  .have:=dW.1 (g.2 i c j);omega
 have f:=H.all aD;rw[if_pos ⟨A,f⟩]at n;refine aF (λC=>n.big (.refl _) rfl (by simp;omega)) (λC=>⟨aD,aD,aD,aD,?_⟩);refine⟨λ⟨i,l⟩=>i<=co.length/\l=((co.take i).map λc=>a.getD c.toNat 0)++replicate (co.length-i) 0,λ⟨i,_⟩=>co.length-i,⟨(0,replicate co.length 0),⟨aD,bj⟩,?_⟩,?_⟩
 .have:List.map eI (replicate co.length (0:Int))=replicate (Int.toNat (t.len:Int)) [dY 0]:=by rw[map_replicate,Int.toNat_natCast,z];rfl
  rw[this];exact MT
 rintro⟨i,l⟩ ⟨L,rfl⟩;dsimp only;refine aF (λd=>?_) (λB M h' D O=>n.ok D rfl (by simp;omega) ?_)
 .obtain⟨c,j⟩:=eF z d;obtain⟨b,o,e,r⟩:=x.at' j;have u:=dW.1 (f i c j);obtain⟨P,Q,R,S⟩:=F.inb u.1 u.2;refine⟨b,o,e,aD,d,c,.imm r,P,Q,R,u.1,aD,a.getD c.toNat 0,.imm S,aD,by simp;omega,eI 0,?_,by simp[eI],(i+1,((co.take (i+1)).map λc=>a.getD c.toNat 0)++replicate (co.length-(i+1)) 0),⟨by show i+1<=co.length;omega,rfl⟩,by show co.length-(i+1)<co.length-i;omega,?_⟩
  .rw[getElem?_map,Int.toNat_natCast,getElem?_append_right (by simp;omega),getElem?_replicate,if_pos (by simp;omega)];rfl
  .have T:co.length-i=(co.length-(i+1))+1:=by omega
   have U:(List.map eI (((co.take i).map λc=>a.getD c.toNat 0)++replicate (co.length-i) 0)).set (Int.toNat (i:Int)) (dY (a.getD c.toNat 0)::([]++List.drop 1 (eI 0)))=List.map eI (((co.take (i+1)).map λc=>a.getD c.toNat 0)++replicate (co.length-(i+1)) 0):=by
    have V:((co.take i).map λc=>a.getD c.toNat 0).length=i:=by simp;omega
    rw[T,replicate_succ,take_add_one,j,Int.toNat_natCast];simp only[map_append,map_cons];have E:(List.map eI ((co.take i).map λc=>a.getD c.toNat 0)).length=i:=by rw[length_map];exact V
    rw[set_append_right _ _ aD,E,Nat.sub_self];simp[eI]
   rw[<-U];exact MT
 .have:i=co.length:=by omega
  subst this;simpa using O
structure Seen(n:Nat)(x:cv)(l:bt):Prop where
 len:x.length=n
 iff:∀k:Nat,k<n->(x[k]? =some true↔(k:Int)∈l)
theorem Seen.zero(n:Nat):Seen n (replicate n false) []:=⟨bj,λk c=>by rw[getElem?_replicate];simp[c]⟩
theorem Seen.map0{n:Nat}{s:Sl}(h:s.len=n):List.map eB (replicate n false)=replicate (Int.toNat (s.len:Int)) [Value.bool false]:=by rw[map_replicate,Int.toNat_natCast,h];rfl
theorem Seen.look{n:Nat}{x:cv}(h:Seen n x l){c:Int}(e:0<=c)(f:c<n):∃y,(List.map eB x)[c.toNat]? =some (eB y)/\(y=true↔c∈l):=by
 have g:=h.len;have d:c.toNat<x.length:=by omega
 refine⟨x[c.toNat],by rw[getElem?_map,getElem?_eq_getElem d];rfl,?_⟩;have:=h.iff c.toNat aD;rw[getElem?_eq_getElem d,show((c.toNat:Nat):Int)=c by omega]at this;simpa using this
theorem Seen.set{n:Nat}{x:cv}(h:Seen n x l){c:Int}(f:0<=c)(g:c<n):Seen n (x.set c.toNat true) (l++[c]):=by
 refine⟨bo h.len,λk d=>?_⟩;have j:=h.len;rw[getElem?_set,mem_append,mem_singleton];by_cases e:c.toNat=k
 .subst e;rw[if_pos rfl,if_pos aD];exact⟨λ_=>.inr aD,λ_=>rfl⟩
 .rw[if_neg e,h.iff k d];exact⟨.inl,λh=>h.elim id λe=>by omega⟩
theorem Seen.cells(x:cv)(k:Nat)(y:Bool):(List.map eB x).set k (Value.bool true::([]++List.drop 1 (eB y)))=List.map eB (x.set k true):=by rw[map_set];rfl
theorem Xp:br 103 Rj:=by
 refine hJ func103 ?_;rintro V m h K ⟨s,t,u,a,b,on,rfl,I,J,F,al,bl,L⟩;refine⟨aNJ s t u m h,rfl,aH,Q0 s t u m h K,bi,?_⟩;dsimp only[Q0,push_cast];have W:=I.slen;have X:=J.slen;have Y:=F.slen;have G:=F.len;refine⟨aD,aD,aD,aD,aD,aD,aD,aD,?_⟩;refine⟨λ⟨i,x,y⟩=>i<=on.length/\fD (kX a b) on i/\Seen a.length x ((on.take i).map λp=>p.1)/\Seen b.length y ((on.take i).map λp=>p.2),λ⟨i,_,_⟩=>on.length-i,⟨(0,replicate a.length false,replicate b.length false),⟨aD,.zero,.zero _,.zero _⟩,?_⟩,?_⟩
 .rw[Seen.map0 W,Seen.map0 X];exact MT
 rintro⟨i,x,y⟩ ⟨Z,H,D,E⟩;dsimp only at Z H D E⊢
 refine aF (λB=>?_) (λa'=>L true ⟨λ_=>H.all aD,λ_=>rfl⟩);obtain⟨p,C⟩:=eF Y B;obtain⟨b1,o1,e1,r1⟩:=F.at C;have bad:¬kX a b (on.take i) p->K (.val (.bool false)) m h:=λhn=>L false ⟨λe=>(by cases e),λe=>(Good.not C hn e).elim⟩;refine⟨b1,o1,e1,aD,B,p,.imm r1,aD,aD,aD,aD,λ⟨i',x',y',c,d⟩=>i'=i/\x'=x/\y'=y/\c=p.1/\d=p.2/\BM a p.1=true/\BM b p.2=true,?_,?_⟩
 .refine aF (λn=>bad λg=>?_) (λn=>aF (λo=>bad λg=>?_) (λo=>aF (λz=>bad λg=>?_) (λz=>aF (λh4=>bad λg=>?_) (λh4=>⟨(i,x,y,p.1,p.2),⟨rfl,rfl,rfl,rfl,rfl,dW.2 ⟨aD,aD⟩,dW.2 ⟨aD,aD⟩⟩,MT⟩))))
  .have:=dW.1 g.1;omega
  .have:=dW.1 g.1;omega
  .have:=dW.1 g.2.1;omega
  .have:=dW.1 g.2.1;omega
 rintro⟨i,x,y,c,d⟩ ⟨rfl,rfl,rfl,rfl,rfl,M,O⟩;dsimp only;have f:=dW.1 M;have j:=dW.1 O;obtain⟨b2,o2,e2,r2⟩:=I.inb f.1 f.2;obtain⟨b3,o3,e3,r3⟩:=J.inb j.1 j.2;obtain⟨P,Q,R⟩:=D.look f.1 f.2;obtain⟨S,T,U⟩:=E.look j.1 j.2;have lx:=D.len;have ly:=E.len;refine⟨b2,o2,e2,f.1,aD,_,.imm r2,b3,o3,e3,j.1,aD,_,.imm r3,aC (λn=>bad λg=>?_) (λn=>⟨f.1,by simp;omega,_,Q,P,rfl,aC (λo=>bad λg=>?_) (λo=>⟨j.1,by simp;omega,_,T,S,rfl,aC (λz=>bad λg=>?_) (λz=>?_)⟩)⟩)⟩
 .rw[g.2.2.1]at n;simp at n
 .obtain⟨q,A,e⟩:=mem_map.1 (R.1 o);exact(g.2.2.2 q A).1 e
 .obtain⟨q,A,e⟩:=mem_map.1 (U.1 z);exact(g.2.2.2 q A).2 e
 refine⟨f.1,by simp;omega,_,Q,by simp[eB],j.1,by simp;omega,_,T,by simp[eB],(i+1,x.set p.1.toNat true,y.set p.2.toNat true),⟨by show i+1<=on.length;omega,H.succ C ⟨M,O,bo n,λq A=>⟨λe=>?_,λe=>?_⟩⟩,?_,?_⟩,by show on.length-(i+1)<on.length-i;omega,?_⟩
 .rw[R.2 (mem_map.2 ⟨q,A,e⟩)]at o;cases o
 .rw[U.2 (mem_map.2 ⟨q,A,e⟩)]at z;cases z
 .rw[take_add_one,C,map_append];exact D.set f.1 f.2
 .rw[take_add_one,C,map_append];exact E.set j.1 j.2
 .rw[<-Seen.cells x p.1.toNat P, <-Seen.cells y p.2.toNat S];exact MT
theorem Xo:br 105 OL:=by
 refine hJ func105 ?_;rintro T m h K ⟨s,v,a,t,rfl,U,x,al,O⟩;refine⟨aNZ s v m h,rfl,aH,QZ s v m h K,bi,?_⟩;dsimp only[QZ,push_cast];have V:=U.slen;have W:=x.group_.slen;have X:=x.order_.slen;have P:=x.group_.len;have Q:=x.order_.len;have Y:=x.limit_;have bad:¬kT a t.group t.order t.limit->K (.val (.bool false)) m h:=λB=>O false ⟨λe=>(by cases e),λe=>(B e).elim⟩;refine⟨aD,aD,aD,aD,?_⟩;refine⟨λ⟨i,u⟩=>i<=t.group.length/\fD (EI a) t.group i/\Seen a.length u (t.group.take i),λ⟨i,_⟩=>t.group.length-i,⟨(0,replicate a.length false),⟨aD,.zero,.zero _⟩,?_⟩,?_⟩
 .rw[Seen.map0 V];exact MT
 rintro⟨i,u⟩ ⟨G,F,C⟩;dsimp only at G F C⊢
 have Z:=C.len;refine aF (λd=>?_) (λD=>?_)
 .obtain⟨c,j⟩:=eF W d;obtain⟨H,I,J,L⟩:=x.group_.at' j;have f:¬EI a (t.group.take i) c->K (.val (.bool false)) m h:=λB=>bad λo=>Good.not j B o.group_;refine⟨H,I,J,aD,d,c,.imm L,aF (λM=>f λg=>?_) (λM=>aF (λz=>f λg=>?_) (λz=>?_))⟩
  .have:=dW.1 g.1;omega
  .have:=dW.1 g.1;omega
  obtain⟨y,R,S⟩:=C.look (c:=c) aD aD;refine⟨aD,by simp;omega,_,R,y,rfl,aC (λA=>f λg=>g.2 (S.1 A)) (λA=>⟨aD,by simp;omega,_,R,by simp[eB],(i+1,u.set c.toNat true),⟨by show i+1<=t.group.length;omega,F.succ j ⟨dW.2 ⟨aD,aD⟩,λe=>?_⟩,?_⟩,by show t.group.length-(i+1)<t.group.length-i;omega,?_⟩)⟩
  .rw[S.2 e]at A;cases A
  .rw[take_add_one,j];exact C.set aD aD
  .rw[<-Seen.cells u c.toNat y];exact MT
 have gg:=F.all aD;clear G F D C Z;refine aF (λM=>bad λo=>by have:=o.len_;omega) (λM=>?_);refine⟨λi=>i<=t.order.length/\fD (HP a) t.order i,λi=>t.order.length-i,⟨0,⟨aD,.zero⟩,MT⟩,λi⟨G,E⟩=>aF (λd=>?_) (λD=>?_)⟩
 .obtain⟨c,j⟩:=eF X d;obtain⟨H,I,J,L⟩:=x.order_.at j;have n:¬HP a (t.order.take i) c->K (.val (.bool false)) m h:=λB=>bad λo=>Good.not j B o.order_;refine⟨H,I,J,aD,d,c,.imm L,aF (λz=>n λg=>?_) (λz=>aF (λA=>n λg=>?_) (λA=>⟨i+1,⟨aD,E.succ j (dW.2 ⟨aD,aD⟩)⟩,by show t.order.length-(i+1)<t.order.length-i;omega,MT⟩))⟩
  .have:=dW.1 (show BM a c.1=true from g);omega
  .have:=dW.1 (show BM a c.1=true from g);omega
 have oo:=E.all aD;rw[Y];refine aF (λz=>O _ ⟨λe=>⟨gg,oo,aD,z,bo e⟩,λe=>decide_eq_true e.high⟩) (λz=>bad λo=>by have:=o.low;omega)
def BO(ks:List bt)(a:Int)(n:Bool):bt:=if n=true then ks.getD a.toNat []else[]
noncomputable def BT(s:iJ)(ks:List bt)(t:Step):bt×Int:=
 if arity t.op<0\/BA t.left (decide (arity t.op>0)) ks.length=false\/BA t.right (decide (arity t.op>1)) ks.length=false then dG 120
 else if(dQ s [] t.query (BO ks t.left (decide (arity t.op>0))) (BO ks t.right (decide (arity t.op>1)))).2=100 then dG 120
 else dQ s [] t.query (BO ks t.left (decide (arity t.op>0))) (BO ks t.right (decide (arity t.op>1)))
def OS:Vc.Spec:=λc m h K=>∃sc d v s e ks t,c=[aS sc,cS d,aT v]/\gA h s sc/\lK s/\sA h t v/\eC m d 30 1 (e.map eS)/\Slices h e ks/\(∀k∈ks,k.length<=12)/\∀r,fin r=BT s ks t->KR K m h r
noncomputable def f55_ctx(sc:cN)(kk:Sl)(v:uD)(m:MH)(h:PH):Ctx:=
 cW [(99,OT),(100,aZJ),(101,Vk),(81,uK),(98,sO),(102,buZ),(103,Rj),(104,BH),(105,OL),(106,JO),(79,MU)] [] [(4,{A:=Int,st:=λn=>bY 132 135 [(1,sv kk),(3,.at (.ptr 3 0)),(5,.at (.ptr 5 0)),(8,iv n)] [(3,.cells 40 (sc.enc.map .val)),(5,.cells 111 (v.enc.map .val))] m h}),
  (9,{A:=Int×Sl,st:=λ⟨n,l⟩=>bY 132 135 [(1,sv kk),(3,.at (.ptr 3 0)),(5,.at (.ptr 5 0)),(8,iv n),(9,sv l),(10,.at (.val (.slice none 0 0)))] [(3,.cells 40 (sc.enc.map .val)),(5,.cells 111 (v.enc.map .val))] m h}),
  (11,{A:=Sl×Sl,st:=λ⟨l,r⟩=>bY 132 135 [(3,.at (.ptr 3 0)),(5,.at (.ptr 5 0)),(9,sv l),(10,sv r)] [(3,.cells 40 (sc.enc.map .val)),(5,.cells 111 (v.enc.map .val))] m h}),
  (34,{A:=Sl×Sl×Bool,st:=λ⟨l,r,b⟩=>bY 132 135 [(5,.at (.ptr 5 0)),(9,sv l),(10,sv r),(11,bv b)] [(5,.cells 111 (v.enc.map .val))] m h})] [] false
abbrev B9(a:Bool)(b:Prop)(c:Sl×Sl×Bool->Prop)(d:Sl×Sl)(e:uD)(g:MH)(i:PH):Prop:=fV a b->∃(x:Sl×Sl×Bool),aA (c x) dL (aA (bH d.1 x.1) (bH d.2 x.2.1) (aA (i7 a x.2.2) (lB e) (aA (g=g) (i=i) True)))
attribute [push_cast] B9
def ai(sc:cN)(kk:Sl)(v:uD)(m:MH)(h:PH)(K:bu):Prop:=
  ∃(o:Int),kH v.op o/\∃(I:Int->Prop),bA (arity o) 0 (bU K 120 m h) (∃(a:Int)(n:Bool)(e:Int),fB (eG v.left::bT (xZ (decide (arity o>0))) (aG kk)=eG a::bT (xZ n) e) (!(BA a n e)) (bU K 120 m h) (∃(C:Int)(G:Bool)(H:Int),fB (eG v.right::bT (xZ (decide (arity o>1))) (aG kk)=eG C::bT (xZ G) H) (!(BA C G H)) (bU K 120 m h) (∃(x:Int),aA (I x) (aJ kk) (aA dR dL (aA (dA (arity o) x) (cE sc) (aA (lB v) (m=m) (bD h h)))))))/\∀(x:Int),I x->NB (λJ t=>oB (mQ v) (mQ J) (sA h t J) (∀(r:Bool),gL (fV r (cO (Query.mk t.op t.table t.wher t.columns t.on t.group t.order t.limit []))) (!r) (bU K 120 m h) (∃(I1:Int×Sl->Prop),gM x 0 (aW (λb B=>aI (aX kk.a b B) (0<=v.left) (v.left
 <aG kk) (∃(y:Sl),aU m h b (gC B v.left 1) (aY y)/\∃(z:Int×Sl),aA (I1 z) (aJ kk) (aA dR dL (aA (dA x z.1) (bH y z.2) (aA (eQ sQn) (cE sc) (aI (lB v) (m=m) (h=h) True))))))) (∃(z:Int×Sl),aA (I1 z) (aJ kk) (aA dR dL (aA (dA x z.1) (sQn=sQs z.2) (aA (eQ sQn) (cE sc) (aI (lB v) (m=m) (h=h) True)))))/\∀(z:Int×Sl),I1 z->∃(I2:Sl×Sl->Prop),gM z.1 1 (aW (λb B=>aI (aX kk.a b B) (0<=v.right) (v.right<aG kk) (∃(y:Sl),aU m h b (gC B v.right 1) (aY y)/\∃(d:Sl×Sl),aA (I2 d) dR (aA dL (bH z.2 d.1) (aA (bH y d.2) (cE sc) (aA (lB v) (m=m) (bD h h))))))) (∃(d:Sl×Sl),aA (I2 d) dR (aA dL (bH z.2 d.1) (aA (sQn=sQs d.2) (cE sc) (aA (lB v) (m=m)
 (bD h h)))))/\∀(d:Sl×Sl),I2 d->∃(I3:Sl×Sl×Bool->Prop),dJ (v.op==1) (bA v.table 0 (bU K 120 m h) (fQ v.table (i6 sc) (bU K 120 m h) (AK (bT (bQ sc) v.table) h (λs A=>lL K s m A)))) (v.op==2) (DQ (dN d.1::bK CZ (cZ v.where_)) h (λc p L=>dC (fR c p L) 0 (bU K (fR c p L) m h) (∃(f:Sl×Sl×Bool),aA (I3 f) dL (aA (bH d.1 f.1) (bH d.2 f.2.1) (aA (wF f.2.2) (lB v) (aA (m=m) (h=h) True)))))) (dJ (v.op==3) (∃(s:Sl),B4 (λg a c=>aI (dX d.1 v.columns=dX s g) (Ints h s a) (Ints h g c) (∀(D:Sl)(A:PH),cD h A (Ints A D (Tr a c).1) (K (CV.tup (bK (dN D) (CV.val (dY (Tr a c).2)))) m A)))) (v.op==4) (lE (λs g=>B4 (λu a b=>∃(B:bz),aA (dN d.1::bK
 (dN d.2) (dN v.on)=dN s::bK (dN g) (dN u)) (Ints h s a) (aA (Ints h g b) (iD h u B) (aA (iO a) (iO b) (∀(j:Bool),B9 j (Good (kX a b) B) I3 d v m h)))))) (dJ (v.op==5) (lE (λs g=>B4 (λu a b=>∃(B:bz),aA (dN d.1::bK (dN d.2) (dN v.on)=dN s::bK (dN g) (dN u)) (Ints h s a) (aA (Ints h g b) (iD h u B) (aA (iO a) (iO b) (∀(j:Bool),B9 j (Good (kX a b) B) I3 d v m h)))))) (v.op==6) (yJ d.1 d.2 h (λa b j=>B9 j (a=b) I3 d v m h)) (dJ (v.op==7) (yJ d.1 d.2 h (λa b j=>B9 j (a=b) I3 d v m h)) (v.op==8) (yJ d.1 d.2 h (λa b j=>B9 j (a=b) I3 d v m h)) (dJ (v.op==9) (∃(s:Sl)(E:uD)(a:bt)(g:Step),aA (bK (dN d.1) (mQ v)=bK (dN s) (mQ E)) (Ints h s
 a) (aA (sA h g E) (iO a) (∀(j:Bool),B9 j (kT a g.group g.order g.limit) I3 d v m h))) (v.op==10) (yJ d.1 d.2 h (λa b j=>gL (fV j (a=b)) j (∃(s:Sl)(E:uD)(C:bt)(g:Step),aA (bK (dN d.1) (mQ v)=bK (dN s) (mQ E)) (Ints h s C) (aA (sA h g E) (iO C) (∀(P:Bool),B9 P (kT C g.group g.order g.limit) I3 d v m h))) (∃(f:Sl×Sl×Bool),aA (I3 f) dL (aA (bH d.1 f.1) (bH d.2 f.2.1) (aA (CK f.2.2) (lB v) (aA (m=m) (h=h) True)))))) (∃(f:Sl×Sl×Bool),aA (I3 f) dL (aA (bH d.1 f.1) (bH d.2 f.2.1) (aA (wF f.2.2) (lB v) (aA (m=m) (h=h) True))))))))/\∀(f:Sl×Sl×Bool),I3 f->dJ (!f.2.2) (bU K 120 m h) (v.op==4) (cG h 1 (zB f.1 f.2.1) (λs A=>∃(D:Sl)(k:
 List bt),aA (iN s=iN D) (bKX A D k) (aA (k.length<=10) (∀(M:bt),List.Mem M k->Gf M) (∀(O:Sl)(F:PH),cD A F (Ints F O k.flatten) (lL K O m F))))) (uO f.1 h (λl=>∀(s:Sl)(A:PH),cD h A (Ints A s l) (lL K s m A))))))
theorem eC.rdAt{m:MH}{h:PH}{s:Sl}{E sz:Nat}{xs:List bw}(r:eC m s E sz xs){i:Nat}{e:bw}(g:xs[i]? =some e):∃b o,s.a=some ⟨b,o,none⟩/\aU m h b (o+i*sz) e:=by
 rcases r.ex with⟨_,rfl⟩|⟨b,n,f,rfl,u,_,_,_,x⟩
 .simp at g
 .refine⟨b,0,rfl,.lent f E (0,0) u ?_⟩;apply ext_getElem?;intro j;rw[getElem?_take];by_cases c:j<e.length
  .rw[if_pos c,getElem?_drop,Nat.zero_add];have d:=lT r.rows.len g j e[j] (getElem?_eq_getElem c);rw[<-x,getElem?_take]at d;split at d
   .rw[d,getElem?_eq_getElem c]
   .cases d
  .rw[if_neg c,getElem?_eq_none aD]
theorem Ye{kk:Sl}{c:ce}(r:eC m kk 30 1 (c.map eS))(g:Slices h c ks){a:Int}(j:0<=a)(n:a<ks.length):∃b o sl,kk.a=some ⟨b,o,none⟩/\aU m h b (o+a.toNat*1) [.slice sl.a sl.len sl.cap]/\Ints h sl (ks.getD a.toNat []):=by
 have f:a.toNat<ks.length:=by omega
 have d:a.toNat<c.length:=by rw[g.1];exact f
 obtain⟨b,o,e,rd⟩:=eC.rdAt (h:=h) r (i:=a.toNat) (e:=eS c[a.toNat]) (by rw[getElem?_map,getElem?_eq_getElem d];rfl);refine⟨b,o,c[a.toNat],e,rd,?_⟩;rw[getD_eq_getElem?_getD,getElem?_eq_getElem f];exact g.2 a.toNat _ _ (getElem?_eq_getElem d) (getElem?_eq_getElem f)
theorem Vd(h:∀k∈ks,k.length<=12)(a:Int)(n:Bool):(BO ks a n).length<=12:=by
 unfold BO;split
 .rw[getD_eq_getElem?_getD];cases e:ks[a.toNat]? with
  |none=>simp
  |some k=>exact h k (mem_of_getElem? e)
 .simp
open Classical in
theorem bd{sc:cN}{kk:Sl}{v:uD}{s:iJ}{ss:ce}{ks:List bt}{t:Step}{m:MH}{h:PH}{K:bu}(hs:gA h s sc)(h8:lK s)(x:sA h t v)(hr:eC m kk 30 1 (ss.map eS))(Z:Slices h ss ks)(a2:∀k∈ks,k.length<=12)
 (a3:∀r,fin r=BT s ks t->KR K m h r):ai sc kk v m h K:=by
 dsimp only[ai,push_cast];have L:Tst K m h (BT s ks t):=⟨a3⟩
 clear a3
 have kl:kk.len=ks.length:=by
  have:=eC.slen hr;rw[length_map]at this;rw[this,Z.1]
 have ex:=x;have b0:=hs.tables.slen;obtain⟨op,ta,w,co,on,gr,od,li,le,ri⟩:=t;obtain⟨e0,e1,xw,xc,xo,xg,xs,e2,e3,e4⟩:=x;simp only at e0 e1 xw xc xo xg xs e2 e3 e4;subst e0 e1 e2 e3 e4;have a4:=Vd a2 v.left (decide (arity v.op>0));have a5:=Vd a2 v.right (decide (arity v.op>1))
 have d:BT s ks ⟨v.op,v.table,w,co,on,gr,od,v.limit,v.left,v.right⟩=if arity v.op<0\/BA v.left (decide (arity v.op>0)) ks.length=false\/BA v.right (decide (arity v.op>1)) ks.length=false then dG 120
  else if(dQ s [] (.mk v.op v.table w co on gr od v.limit []) (BO ks v.left (decide (arity v.op>0))) (BO ks v.right (decide (arity v.op>1)))).2=100 then dG 120
  else dQ s [] (.mk v.op v.table w co on gr od v.limit []) (BO ks v.left (decide (arity v.op>0))) (BO ks v.right (decide (arity v.op>1))):=rfl
 generalize hA:BO ks v.left (decide (arity v.op>0))=A at d a4;generalize hB:BO ks v.right (decide (arity v.op>1))=B at d a5;generalize BT s ks ⟨v.op,v.table,w,co,on,gr,od,v.limit,v.left,v.right⟩=R at L d;refine⟨v.op,rfl,λn=>n=arity v.op/\¬(arity v.op<0\/BA v.left (decide (arity v.op>0)) ks.length=false\/BA v.right (decide (arity v.op>1)) ks.length=false),aF (λu=>L.err (by rw[d,if_pos (.inl u)]) bk (.refl _)) (λu=>⟨v.left,_,(kk.len:Int),rfl,aC (λS=>?_) (λS=>⟨v.right,_,(kk.len:Int),rfl,aC (λh3=>?_) (λh3=>⟨arity v.op,⟨rfl,?_⟩,MT⟩)⟩)⟩),?_⟩
 .rw[kl]at S;exact L.err (by rw[d,if_pos (.inr (.inl (bo S)))]) bk (.refl _)
 .rw[kl]at h3;exact L.err (by rw[d,if_pos (.inr (.inr (bo h3)))]) bk (.refl _)
 .rw[kl]at S h3;rintro(e|e|e)
  .exact u e
  .rw[e]at S;cases S
  .rw[e]at h3;cases h3
 rintro n ⟨rfl,T⟩;rw[if_neg T]at d;have V:¬arity v.op<0:=λe=>T (.inl e);refine⟨v,_,rfl,ex,λr a'=>aC (λu=>L.err ?_ (e:=120) bk (.refl _)) (λu=>?_)⟩
 .have hn:¬cO (.mk v.op v.table w co on gr od v.limit []):=λe=>by rw[a'.2 e]at u;cases u
  have e:dQ s [] (.mk v.op v.table w co on gr od v.limit []) A B=dG 100:=by
   unfold dQ;exact if_pos (.inr hn)
  rw[d,e];rfl
 have hu:cO (.mk v.op v.table w co on gr od v.limit []):=a'.1 (bo u);clear a' u r
 have D:dQ s [] (.mk v.op v.table w co on gr od v.limit []) A B=if v.op=1 then(if 0<=v.table/\v.table<s.tables.length then kR (iA s v.table)else dG 100)
  else if v.op=2 then(if fR A [] w=0 then kR A else dG (fR A [] w))
  else if v.op=3 then(if co≠[]/\Good (λ_ c=>BM A c=true) co then kR (co.map λc=>A.getD c.toNat 0)else dG 100)
  else if v.op=4 then(if Good (kX A B) on then kR (A++B)else dG 100)
  else if v.op=5 then(if Good (kX A B) on then kR A else dG 100)
  else if v.op=9 then(if kT A gr od v.limit then kR A else dG 100)
  else if v.op=10 then(if A=B/\kT A gr od v.limit then kR A else dG 100)
  else(if A=B then kR A else dG 100):=by
  unfold dQ;exact if_neg (λe=>e.elim V λe=>e hu)
 have a6:∀l,(kR l).2≠100:=λl=>by unfold kR;split<;>simp
 have H:∀{l},dQ s [] (.mk v.op v.table w co on gr od v.limit []) A B=kR l->R=kR l:=fun{l} e=>by rw[d,e,if_neg (a6 l)]
 have C:dQ s [] (.mk v.op v.table w co on gr od v.limit []) A B=dG 100->R=dG 120:=λe=>by rw[d,e];rfl
 have a7:∀{e},e≠100->dQ s [] (.mk v.op v.table w co on gr od v.limit []) A B=dG e->R=dG e:=fun{e} h0 e1=>by rw[d,e1,if_neg (by simpa[dG]using h0)]
 clear d;refine⟨λ⟨n,l⟩=>n=arity v.op/\Ints h l A,aF (λu=>?_) (λu=>⟨(arity v.op,⟨none,0,0⟩),⟨rfl,?_⟩,MT⟩),?_⟩
 .have O:BA v.left (decide (arity v.op>0)) ks.length=true:=by
   cases e:BA v.left (decide (arity v.op>0)) ks.length with
   |true=>rfl
   |false=>exact(T (.inr (.inl e))).elim
  unfold BA at O;rw[if_pos (decide_eq_true u)]at O;simp only[Bool.and_eq_true,decide_eq_true_eq]at O;obtain⟨b,o,W,e,rd,U⟩:=Ye hr Z O.1 O.2;refine⟨b,o,e,O.1,aD,W,rd,(arity v.op,W),⟨rfl,?_⟩,MT⟩;rw[<-hA,BO,if_pos (decide_eq_true u)];exact U
 .rw[<-hA,BO,if_neg (bo u)];exact⟨.nil _ _,bj⟩
 rintro⟨n,l⟩ ⟨rfl,E⟩;dsimp only;refine⟨λ⟨l,r⟩=>Ints h l A/\Ints h r B,aF (λu=>?_) (λu=>⟨(l,⟨none,0,0⟩),⟨E,?_⟩,MT⟩),?_⟩
 .have O:BA v.right (decide (arity v.op>1)) ks.length=true:=by
   cases e:BA v.right (decide (arity v.op>1)) ks.length with
   |true=>rfl
   |false=>exact(T (.inr (.inr e))).elim
  unfold BA at O;rw[if_pos (decide_eq_true u)]at O;simp only[Bool.and_eq_true,decide_eq_true_eq]at O;obtain⟨b,o,W,e,rd,U⟩:=Ye hr Z O.1 O.2;refine⟨b,o,e,O.1,aD,W,rd,(l,W),⟨E,?_⟩,MT⟩;rw[<-hB,BO,if_pos (decide_eq_true u)];exact U
 .rw[<-hB,BO,if_neg (bo u)];exact⟨.nil _ _,bj⟩
 clear E l;rintro⟨l,r⟩ ⟨E,j⟩;dsimp only;have good:∀b:Bool,(b=true->R=kR (if v.op=4 then A++B else A))->(b=false->R=dG 120)->∃x:Sl×Sl×Bool,((λ⟨l,r,b⟩=>Ints h l A/\Ints h r B/\(b=true->R=kR (if v.op=4 then A++B else A))/\(b=false->R=dG 120):Sl×Sl×Bool->Prop)) x/\(l,r,b)=x:=λb g1 g2=>⟨_,⟨E,j,g1,g2⟩,rfl⟩
 refine⟨λ⟨l,r,b⟩=>Ints h l A/\Ints h r B/\(b=true->R=kR (if v.op=4 then A++B else A))/\(b=false->R=dG 120),?_,?_⟩
 .refine aC (λM=>?_) (λM=>aC (λP=>?_) (λP=>aC (λX=>?_) (λX=>?_)))
  .have M:v.op=1:=bo M
   rw[if_pos M]at D;refine aF (λu=>L.err (C (by rw[D,if_neg aD])) bk (.refl _)) (λu=>aF (λS=>L.err (C (by rw[D,if_neg aD])) bk (.refl _)) (λS=>⟨sc,s,v.table,rfl,hs,h8,λW h' I U=>L.ok (H (by rw[D,if_pos aD])) I U⟩))
  .have M:¬v.op=1:=bo M
   have P:v.op=2:=bo P
   rw[if_neg M,if_pos P]at D
   have a9:fR A [] w≠100:=by unfold fR;repeat' split
                             all_goals decide
   refine⟨l,⟨none,0,0⟩,v.where_,A,[],w,rfl,E,⟨.nil _ _,bj⟩,xw,aC (λu=>?_) (λu=>⟨(l,r,true),⟨E,j,λ_=>?_,λe=>(by cases e)⟩,MT⟩)⟩
   .have u:fR A [] w≠0:=bo u
    exact L.err (a7 a9 (by rw[D,if_neg u])) u (.refl _)
   .rw[if_neg aD];exact H (by rw[D,if_pos (bo u)])
  .have M:¬v.op=1:=bo M
   have P:¬v.op=2:=bo P
   have X:v.op=3:=bo X
   rw[if_neg M,if_neg P,if_pos X]at D;refine⟨l,v.columns,A,co,rfl,E,xc,?_⟩;unfold Tr;split
   .rename_i e;have hR:R=kR (co.map λc=>A.getD c.toNat 0):=H (by rw[D,if_pos e]);refine L.all _ ?_;rw[hR];unfold kR;split
    .rename_i u;show fin (_,0)=_;rw[Yj,kR,if_pos u]
    .exact Sc (e:=2) bk
   .rename_i e;refine L.all _ ?_;rw[C (by rw[D,if_neg e])];exact Sc bk
  have M:¬v.op=1:=bo M
  have P:¬v.op=2:=bo P
  have X:¬v.op=3:=bo X
  rw[if_neg M,if_neg P,if_neg X]at D;refine aC (λG=>?_) (λG=>aC (λY=>?_) (λY=>?_))
  .have G:v.op=4:=bo G
   rw[if_pos G]at D;refine⟨l,r,v.on,A,B,on,rfl,E,j,xo,aD,aD,λz F=>⟨(l,r,z),⟨E,j,λe=>?_,λe=>?_⟩,MT⟩⟩
   .rw[if_pos G];exact H (by rw[D,if_pos (F.1 e)])
   .exact C (by rw[D,if_neg (λg=>by rw[F.2 g]at e;cases e)])
  .have G:¬v.op=4:=bo G
   have Y:v.op=5:=bo Y
   rw[if_neg G,if_pos Y]at D;refine⟨l,r,v.on,A,B,on,rfl,E,j,xo,aD,aD,λz F=>⟨(l,r,z),⟨E,j,λe=>?_,λe=>?_⟩,MT⟩⟩
   .rw[if_neg G];exact H (by rw[D,if_pos (F.1 e)])
   .exact C (by rw[D,if_neg (λg=>by rw[F.2 g]at e;cases e)])
  have G:¬v.op=4:=bo G
  have Y:¬v.op=5:=bo Y
  rw[if_neg G,if_neg Y]at D;simp only[if_neg G]
  have f:¬v.op=9->¬v.op=10->∀z:Bool,(z=true↔A=B)->∃x:Sl×Sl×Bool,(Ints h x.1 A/\Ints h x.2.1 B/\(x.2.2=true->R=kR A)/\(x.2.2=false->R=dG 120))/\x=(l,r,z):=λn9 a0 z F=>by
   rw[if_neg n9,if_neg a0]at D;exact⟨(l,r,z),⟨E,j,λe=>H (by rw[D,if_pos (F.1 e)]),λe=>C (by rw[D,if_neg (λg=>by rw[F.2 g]at e;cases e)])⟩,rfl⟩
  have a1:¬v.op=9->¬v.op=10->∃(s:Sl)(t:Sl)(a:bt)(b:bt),[dN l,dN r]=[dN s,dN t]/\Ints h s a/\Ints h t b/\∀z:Bool,(z=true↔a=b)->∃x:Sl×Sl×Bool,(Ints h x.1 A/\Ints h x.2.1 B/\(x.2.2=true->R=kR A)/\(x.2.2=false->R=dG 120))/\x=(l,r,z):=λn9 a0=>⟨l,r,A,B,rfl,E,j,f n9 a0⟩
  refine aC (λc6=>?_) (λc6=>aC (λc7=>?_) (λc7=>aC (λc8=>?_) (λc8=>?_)))
  .have c6:v.op=6:=bo c6
   refine⟨l,r,A,B,rfl,E,j,λz F=>?_⟩;obtain⟨_,g,rfl⟩:=f aD aD z F;exact⟨(l,r,z),g,MT⟩
  .have c7:v.op=7:=bo c7
   refine⟨l,r,A,B,rfl,E,j,λz F=>?_⟩;obtain⟨_,g,rfl⟩:=f aD aD z F;exact⟨(l,r,z),g,MT⟩
  .have c8:v.op=8:=bo c8
   refine⟨l,r,A,B,rfl,E,j,λz F=>?_⟩;obtain⟨_,g,rfl⟩:=f aD aD z F;exact⟨(l,r,z),g,MT⟩
  clear f a1 good;refine aC (λQ=>?_) (λQ=>aC (λJ=>?_) (λJ=>?_))
  .have Q:v.op=9:=bo Q
   rw[if_pos Q]at D;refine⟨l,v,A,_,rfl,E,ex,aD,λz F=>⟨(l,r,z),⟨E,j,λe=>H (by rw[D,if_pos (F.1 e)]),λe=>C (by rw[D,if_neg (λg=>by rw[F.2 g]at e;cases e)])⟩,MT⟩⟩
  .have Q:¬v.op=9:=bo Q
   have J:v.op=10:=bo J
   rw[if_neg Q,if_pos J]at D;refine⟨l,r,A,B,rfl,E,j,λy hy=>aC (λy1=>⟨l,v,A,_,rfl,E,ex,aD,λz F=>⟨(l,r,z),⟨E,j,λe=>H (by rw[D,if_pos ⟨hy.1 y1,F.1 e⟩]),λe=>C (by rw[D,if_neg (λg=>by rw[F.2 g.2]at e;cases e)])⟩,MT⟩⟩) (λy1=>⟨(l,r,false),⟨E,j,(λe=>(by cases e)),λe=>C (by rw[D,if_neg (λg=>by rw[hy.2 g.1]at y1;cases y1)])⟩,MT⟩)⟩
  .exfalso;have c6:¬v.op=6:=bo c6
   have c7:¬v.op=7:=bo c7
   have c8:¬v.op=8:=bo c8
   have Q:¬v.op=9:=bo Q
   have J:¬v.op=10:=bo J
   refine V ?_;unfold arity;simp[M,P,X,G,Y,c6,c7,c8,Q,J]
 clear good E j l r;rintro⟨l,r,b⟩ ⟨E,j,g1,g2⟩;dsimp only at g1 g2⊢
 refine aC (λu=>L.err (g2 (bo u)) bk (.refl _)) (λu=>?_);have g:=g1 (bo u);refine aC (λG=>λW h' I a8=>?_) (λG=>⟨l,A,rfl,E,λs' h' I U=>?_⟩)
 .rw[if_pos (bo G)]at g;refine⟨W,[A,B],rfl,⟨⟨[l,r],a8,rfl,λi k e=>?_⟩,bj⟩,bj,λk hk=>?_,λb1 S b' U=>L.ok g (I.trans b') (bo U)⟩
  .match i,e with
   |0,e=>simp at e;subst e;exact⟨l,rfl,E.mono I⟩
   |1,e=>simp at e;subst e;exact⟨r,rfl,j.mono I⟩
   |i+2,e=>simp at e
  .rcases mem_cons.1 hk with rfl|hk
   .exact a4
   .simp at hk;subst hk;exact a5
 .rw[if_neg (bo G)]at g;exact L.ok g I U
theorem bf:br 55 OS:=by
 refine hJ func55 ?_;rintro f m h K ⟨sc,e,v,s,u,ks,t,rfl,g,j,x,n,c,d,o⟩;refine⟨f55_ctx sc e v m h,rfl,aE ZD (aE Xs (aE Xr (aE GL (aE Kr (aE Xq (aE Xp (aE EE (aE Xo (aE Oo (aE Ks aH)))))))))),ai sc e v m h K,bi,?_⟩;exact bd g j x n c d o
noncomputable def Bn(s:iJ):List bt->ck->List bt×Int
 |ks,[]=>(ks,0)
 |ks,t::ts=>if(BT s ks t).2=0 then Bn s (ks++[(BT s ks t).1]) ts else(ks,(BT s ks t).2)
noncomputable def gR(s:iJ)(ts:ck)(rs:bt):Int:=
 if cX s≠0 then cX s else if 1024<ts.length\/32<rs.length then 2 else if(Bn s [] ts).2≠0 then(Bn s [] ts).2 else if rs.all (λr=>decide (0<=r)&&decide (r<ts.length))=true then 0 else 120
structure oY(h:PH)(p r:Sl)(ts:ck)(rs:bt):Prop where
 steps:∃vs,dK h p 22 (vs.map uD.enc)/\Steps h vs ts
 roots:Ints h r rs
 len:ts.length<=1000000000
def OJ:Vc.Spec:=λc m h K=>∃sc p r s ts rs,c=[aS sc,aPl p r]/\gA h s sc/\oY h p r ts rs/\∀d,K (.tup [cS d,cI (gR s ts rs)]) m h
noncomputable def bmX(sc:cN)(p r:Sl):Ctx:=
 uC [(54,Bk),(55,OS)] [(8,{A:=Nat×Sl×MH×PH,st:=λ⟨i,c,m,h⟩=>bY 76 78 [(2,.at (.ptr 2 0)),(3,.at (.ptr 3 0)),(7,sv c),(34,sv p),(35,iv p.len),(36,iv i)] [(2,.cells 40 (sc.enc.map .val)),(3,.cells 52 [.val (.slice p.a p.len p.cap),.val (.slice r.a r.len r.cap)])] m h}),
  (18,{A:=Nat×Sl×MH×PH,st:=λ⟨i,c,m,h⟩=>bY 76 78 [(3,.at (.ptr 3 0)),(7,sv c),(59,sv r),(60,iv r.len),(61,iv i)] [(3,.cells 52 [.val (.slice p.a p.len p.cap),.val (.slice r.a r.len r.cap)])] m h})] [] [] [1057,2057] [] false
abbrev Mx(a:(Nat×Sl×MH×PH->Prop)->(Nat×Sl×MH×PH)->Prop)(b:(Nat×Sl×MH×PH->Prop)->(Nat×Sl×MH×PH->Nat)->(Nat×Sl×MH×PH)->Prop):Prop:=∃(x:Nat×Sl×MH×PH->Prop)(d:Nat×Sl×MH×PH->Nat),(∃(c:Nat×Sl×MH×PH),a x c)/\∀(c:Nat×Sl×MH×PH),b x d c
noncomputable abbrev p9(a:Nat×Sl×MH×PH):Sl:=a.2.1
noncomputable abbrev nY(a:Nat×Sl×MH×PH):Nat->Nat->Option Value:=a.2.2.2
noncomputable abbrev tI(a:Nat×Sl×MH×PH):Nat->Option Obj:=a.2.2.1
attribute [push_cast] Mx p9 nY tI
def Oc(sc:cN)(p r:Sl)(m:MH)(h:PH)(K:bu):Prop:=
  oG (λv s=>oB (bQ sc) (bQ v) (gA h s v) (mS (j8 (cX s)) (bU K (cX s) m h) (aG p) 1024 (bU K 2 m h) (gM (aG r) 32 (bU K 2 m h) (aA (bZ 0) (bZ (aG p)) (aA (tF p 24) (rF (aG p)) (oD (λz A=>pM m A h z 30 1 []->Mx (λI x=>aA (I x) fG (aA dR (bH z (p9 x)) (aA (aJ p) (bI p) (aA (bF x.1) (cE sc) (aI (eQ (oQ 52 (mN (oM p) (oM r)))) (cV A x.2.2) (h=nY x) True))))) (λI B x=>I x->bA (↑x.1:Int) (aG p) (aW (λb o=>aI (aX p.a b o) (0<=(↑x.1:Int)) ((↑x.1:Int)<aG p) (∃(y:uD),aU (tI x) (nY x) b (bN o x.1 22) y.enc/\Em (λC k=>∃(D:uD)(j:iJ)(E:ce)(n:List bt)(t:Step),aA (bQ sc::bK (dN (p9 x)) (mQ y)=bQ C::bK
 (dN k) (mQ D)) (gA (nY x) j C) (aA (lK j) (sA (nY x) t D) (aI (eC (tI x) k 30 1 (fP E)) (Slices (nY x) E n) (∀(F:bt),List.Mem F n->Gf F) (∀(g:bt×Int),fin g=BT j n t->∀(u:Sl)(e:PH),cD (nY x) e (Ints e u g.1) (mS (j8 g.2) (bU K g.2 (tI x) e) (aG u) 12 (bU K 2 (tI x) e) (∃(c:List bw),aI (eC (tI x) (Sl.mk (p9 x).a (p9 x).len (p9 x).cap) 30 1 c) (iF (jJ c 1) 24) (lO c) (oD (λG f=>jP (tI x) f (Sl.mk (p9 x).a (p9 x).len (p9 x).cap) G 30 1 (fK c (aY u))->∃(d:Nat×Sl×MH×PH),aA (I d) (B d<B x) (aA fG dR (aA (bH G (p9 d)) (aJ p) (aA (bI p) (fU (bG x.1 1)=bP d.1) (mA (cE sc) (eQ (oQ 52 (mN
 (oM p) (oM r)))) (cV f d.2.2) e (nY d)))))))))))))))) (Mx (λI1 c=>aA (I1 c) dR (aA (bH (p9 x) (p9 c)) (aJ r) (aA (bI r) (bF c.1) (aA (eQ (oQ 52 (mN (oM p) (oM r)))) (fO x.2.2 c.2.2) (bD (nY x) (nY c)))))) (λI1 f c=>I1 c->bA (↑c.1:Int) (aG r) (aW (λb o=>aI (aX r.a b o) (0<=(↑c.1:Int)) ((↑c.1:Int)<aG r) (∃(y:Int),aU (tI c) (nY c) b (bN o c.1 1) (bJ y)/\bA y 0 (bU K 120 (tI c) (nY c)) (fQ y (aG p) (bU K 120 (tI c) (nY c)) (∃(d:Nat×Sl×MH×PH),aA (I1 d) (f d<f c) (aA dR (bH (p9 c) (p9 d)) (aA (aJ r) (bI r) (aA (fU (bG c.1 1)=bP d.1) (eQ (oQ 52 (mN (oM p) (oM r)))) (bS (fO c.2.2 d.2.2) (nY c) (nY d)))))))))) (lL K
 (p9 c) (tI c) (nY c))))))))))))
theorem bLZ(h:cX s=0):lK s:=λt c=>by
 obtain⟨i,d⟩:=mem_iff_getElem?.1 c;have e:CW s:=Classical.byContradiction λf=>by rw[uZ f]at h;cases h
 exact(e.2 i t d).1
structure amX(m0 m:MH)(h:PH)(kk:Sl)(ks:List bt):Prop where
 sub:Sub m0 m
 fresh:∀b i,kk.a=some ⟨b,i,none⟩->m0 b=none
 ex:∃ss,eC m kk 30 1 (ss.map eS)/\Slices h ss ks
 le12:∀k∈ks,k.length<=12
theorem amX.new{s:Sl}(x:pM m m' h s 30 1 []):amX m m' h s []:=by
 refine⟨λb o e=>?_,λb i e=>(x.fresh b i e).m_,⟨[],x.row,rfl,λj s k e=>by simp at e⟩,λk c=>by simp at c⟩;rw[x.other b (λi d=>by have:=(x.fresh b i d).m_;rw[e]at this;cases this)];exact e
theorem amX.grown{m0:MH}{kk sl:Sl}{k:bt}(r:amX m0 m h kk ks)(le:PH.le h h')(u:Ints h' sl k)(y:k.length<=12):
 ∃xs,eC m ⟨kk.a,kk.len,kk.cap⟩ 30 1 xs/\xs.length=ks.length/\∀f m',jP m m' ⟨kk.a,kk.len,kk.cap⟩ f 30 1 (xs++[[.slice sl.a sl.len sl.cap]])->amX m0 m' h' f (ks++[k]):=by
 obtain⟨z,A,n⟩:=r.ex;refine⟨_,A,by rw[length_map,n.1],λf m' g=>⟨λb o e=>g.other b o (r.sub b o e) (λi c=>?_),λb i e=>?_,⟨z++[sl],?_,(n.mono le).snoc u⟩,λx B=>?_⟩⟩
 .rw[r.fresh b i c]at e;cases e
 .rcases g.fresh b i e with c|⟨j,c⟩
  .cases C:m0 b with
   |none=>rfl
   |some o=>rw[r.sub b o C]at c;cases c
  .exact r.fresh b j c
 .rw[map_append];exact g.row
 .rcases mem_append.1 B with d|d
  .exact r.le12 x d
  .simp at d;subst d;exact y
theorem Steps.at'{p:Sl}{vs:List uD}(r:dK h p 22 (vs.map uD.enc))(s:Steps h vs ts)(c:ts[i]? =some t):∃b o v,p.a=some ⟨b,o,none⟩/\bO h b (o+i*22) (uD.enc v)/\sA h t v:=by
 obtain⟨v,d,f⟩:=s.2 i t c;obtain⟨b,o,e,k⟩:=r.get (i:=i) (e:=uD.enc v) (by simp[d]);exact⟨b,o,v,e,k,f⟩
theorem Steps.slen'{p:Sl}{vs:List uD}(r:dK h p 22 (vs.map uD.enc))(s:Steps h vs ts):p.len=ts.length:=by
 have:=r.len;simp at this;rw[this,s.1]
theorem oY.at{p:Sl}(x:oY h p r ts rs)(c:ts[i]? =some t):∃b o v,p.a=some ⟨b,o,none⟩/\bO h b (o+i*22) (uD.enc v)/\sA h t v:=by
 obtain⟨f,d,e⟩:=x.steps;exact Steps.at' d e c
theorem oY.slen{p:Sl}(x:oY h p r ts rs):p.len=ts.length/\p.len<=p.cap:=by
 obtain⟨e,c,d⟩:=x.steps;exact⟨Steps.slen' c d,c.cap⟩
theorem oY.mono{p:Sl}(x:oY h p r ts rs)(le:PH.le h h'):oY h' p r ts rs:=by
 obtain⟨c,d,f,g⟩:=x.steps;exact⟨⟨c,d.mono le,f,λi t e=>let⟨v,e1,e2⟩:=g i t e;⟨v,e1,e2.mono le⟩⟩,x.roots.mono le,x.len⟩
theorem ZC(r:bt×Int):(r.2≠0/\fin r=dG r.2)\/(r.2=0/\12<r.1.length/\fin r=dG 2)\/(r.2=0/\r.1.length<=12/\fin r=(r.1,0)):=by
 unfold fin;by_cases h:r.2=0
 .rw[if_pos h];unfold kR;by_cases c:r.1.length<=12
  .rw[if_pos c];exact .inr (.inr ⟨h,c,rfl⟩)
  .rw[if_neg c];exact .inr (.inl ⟨h,aD,rfl⟩)
 .rw[if_neg h];exact .inl ⟨h,rfl⟩
theorem G8{s:iJ}{ts:ck}{rs:bt}(c:cX s=0)(d:¬(1024<ts.length\/32<rs.length)):gR s ts rs=if(Bn s [] ts).2≠0 then(Bn s [] ts).2 else if rs.all (λr=>decide (0<=r)&&decide (r<ts.length))=true then 0 else 120:=by
 unfold gR;rw[if_neg (bo c),if_neg d]
theorem Ln(d:ts[i]? =some t):Bn s ks (ts.drop i)=if(BT s ks t).2=0 then Bn s (ks++[(BT s ks t).1]) (ts.drop (i+1))else(ks,(BT s ks t).2):=by
 have c:=(List.getElem?_eq_some_iff.1 d)
 obtain⟨c,e⟩:=c;rw[drop_eq_getElem_cons c,e];rfl
theorem aeJ:br 17 OJ:=by
 refine EU func17 ?_;rintro Y m h K ⟨sc,p,r,s,ts,rs,rfl,S,x,Z⟩;refine⟨bmX sc p r,rfl,aE ag (aE bf aH),Oc sc p r m h (kE h K),bi,?_⟩;show Oc sc p r m h (kE h K);dsimp only[Oc,push_cast];have pl:=x.slen.1;have rl:=x.roots.slen;have T:=x.len;have U:=x.roots.len;have done:∀{B:MH}{u:PH}{e:Int}{kk:Sl},Sub m B->PH.le h u->gR s ts rs=e->kE h K (.tup [cS kk,cI e]) B u:=fun{B u e kk} n J L=>.out n J (by rw[<-L];exact Z kk);refine⟨sc,s,rfl,S,aC (λn=>?_) (λn=>?_)⟩
 .have n:cX s≠0:=bo n
  exact done (kk:=⟨none,0,0⟩) (Sub.refl m) (.refl _) (by unfold gR;rw[if_pos n])
 have n:cX s=0:=bo n
 refine aF (λJ=>?_) (λJ=>aF (λL=>?_) (λL=>⟨aD,aD,aD,aD,λk0 m1 M=>?_⟩))
 .exact done (kk:=⟨none,0,0⟩) (Sub.refl m) (.refl _) (by unfold gR;rw[if_neg (bo n),if_pos aD])
 .exact done (kk:=⟨none,0,0⟩) (Sub.refl m) (.refl _) (by unfold gR;rw[if_neg (bo n),if_pos aD])
 have y:=G8 (s:=s) (ts:=ts) (rs:=rs) n aD;refine⟨λ⟨i,kk,B,u⟩=>i<=ts.length/\PH.le h u/\∃ks,amX m B u kk ks/\ks.length=i/\Bn s ks (ts.drop i)=Bn s [] ts,λ⟨i,_⟩=>ts.length-i,⟨(0,k0,m1,h),⟨aD,.refl _,[],.new M,rfl,rfl⟩,MT⟩,?_⟩;rintro⟨i,kk,B,u⟩ ⟨hi,d,ks,f,O,c⟩;dsimp only;refine aF (λz=>?_) (λP=>?_)
 .obtain⟨t,V⟩:=eF pl z;obtain⟨b,o,v,e,rd,rv⟩:=(x.mono d).at V;obtain⟨ss,hm,Q⟩:=f.ex;rw[Ln V]at c;refine⟨b,o,e,aD,z,v,.imm rd,sc,kk,v,s,ss,ks,t,rfl,S.mono d,bLZ n,rv,hm,Q,f.le12,λq E sl h' C G=>?_⟩;have a':=G.slen;rcases ZC q with⟨F,H⟩|⟨F,H,I⟩|⟨F,H,I⟩
  .rw[E]at H;rw[H,if_neg (by simpa[dG]using F)]at c;refine aC (λ_=>done (kk:=⟨none,0,0⟩) f.sub (d.trans C) ?_) (λD=>?_)
   .rw[y, <-c,if_pos (by simpa[dG]using F)];rfl
   .exact absurd (bo D) F
  .rw[E]at I;rw[I,if_neg (by simp[dG])]at c;refine aC (λD=>absurd F (bo D)) (λ_=>aF (λ_=>done (kk:=⟨none,0,0⟩) f.sub (d.trans C) ?_) (λD=>by omega));rw[y, <-c,if_pos (by simp[dG])];rfl
  .rw[E]at I;rw[I,if_pos rfl]at c;refine aC (λD=>absurd F (bo D)) (λ_=>aF (λD=>by omega) (λ_=>?_));obtain⟨xs,R,a0,hg⟩:=f.grown C G H;exact⟨xs,R,aD,aD,λW m' g=>⟨(i+1,W,m',h'),⟨by show i+1<=ts.length;omega,d.trans C,ks++[q.1],hg W m' g,by simp[O],c⟩,by show ts.length-(i+1)<ts.length-i;omega,MT⟩⟩
 have X:ts.drop i=[]:=drop_of_length_le aD;rw[X]at c;have h0:(Bn s [] ts).2=0:=by rw[<-c];rfl
 rw[h0,if_neg bk]at y;clear c X;refine⟨λ⟨j,k',m',h'⟩=>j<=rs.length/\k'=kk/\m'=B/\h'=u/\(rs.take j).all (λr=>decide (0<=r)&&decide (r<ts.length))=true,λ⟨j,_⟩=>rs.length-j,⟨(0,kk,B,u),⟨aD,rfl,rfl,rfl,bj⟩,MT⟩,?_⟩;rintro⟨j,kk,B,u⟩ ⟨hj,rfl,rfl,rfl,A⟩;dsimp only;refine aF (λz=>?_) (λP=>?_)
 .obtain⟨q,E⟩:=eF rl z;obtain⟨b,o,e,rd⟩:=(x.roots.mono d).at' E
  have bad:¬(0<=q/\q<ts.length)->gR s ts rs=120:=λhn=>by
   rw[y,if_neg];intro e2;have:=all_eq_true.1 e2 q (mem_of_getElem? E);simp only[Bool.and_eq_true,decide_eq_true_eq]at this;exact hn this
  refine⟨b,o,e,aD,z,q,.imm rd,aF (λD=>done (kk:=⟨none,0,0⟩) f.sub d (bad aD)) (λD=>aF (λh5=>done (kk:=⟨none,0,0⟩) f.sub d (bad aD)) (λh5=>⟨(j+1,kk,B,u),⟨by show j+1<=rs.length;omega,rfl,rfl,rfl,?_⟩,by show rs.length-(j+1)<rs.length-j;omega,MT⟩))⟩;rw[Ah E,A,Bool.true_and,Bool.and_eq_true];exact⟨decide_eq_true aD,decide_eq_true aD⟩
 .rw[take_of_length_le aD]at A;exact done f.sub d (by rw[y,if_pos A])
def Ag(t:Step):bt:=[t.left,t.right].take (arity t.op).toNat
def XZ:Query:=.mk 0 0 eJ [] [] [] [] 0 []
def Ba:Nat->ck->Nat->Query
 |0,_,_=>XZ
 |n+1,ts,i=>match ts[i]? with
  |none=>XZ
  |some t=>.mk t.op t.table t.wher t.columns t.on t.group t.order t.limit ((Ag t).map λa=>Ba n ts a.toNat)
def aM(ts:ck)(i:Nat):Query:=Ba (i+1) ts i
def Bb(ts:ck):Prop:=∀(i:Nat) t,ts[i]? =some t->0<=arity t.op/\∀a∈Ag t,0<=a/\a<i
theorem Jq{ts:ck}(ok:Bb ts):∀(n c i:Nat),i<n->i<c->Ba n ts i=Ba c ts i
 |0,_,_,h,_=>by omega
 |_+1,0,_,_,h=>by omega
 |n+1,c+1,i,f,g=>by
  simp only[Ba];cases e:ts[i]? with
  |none=>rfl
  |some t=>
   have:(Ag t).map (λa=>Ba n ts a.toNat)=(Ag t).map (λa=>Ba c ts a.toNat):=map_congr_left λa d=>by
    have:=(ok i t e).2 a d;exact Jq ok n c a.toNat aD aD
   simp only[this]
def BF(ts:ck)(t:Step):cg:=(Ag t).map λa=>aM ts a.toNat
theorem oI(ok:Bb ts)(c:ts[i]? =some t):aM ts i= .mk t.op t.table t.wher t.columns t.on t.group t.order t.limit (BF ts t):=by
 unfold aM;simp only[Ba,c]
 have:(Ag t).map (λa=>Ba i ts a.toNat)=BF ts t:=map_congr_left λa d=>by
  have:=(ok i t c).2 a d;exact Jq ok _ _ _ aD aD
 rw[this]
theorem boZ{op:Int}{w:Pred}{on:bz}{args:cg}(j:(aK s [] (.mk op ta w co on gr od li args)).2=0)(d:fE 4 (.mk op ta w co on gr od li args)<=1000000){a:Query}(f:a∈args):fE 4 a<=1000000:=by
 obtain⟨n,g,o,_⟩:=sH (Prod.ext rfl j);have u:=JF (c:=4) aD g a f;rw[fE]at d;split at d
 .rename_i e;subst e;rw[J0 g o]at f;cases f
 .split at d<;>omega
def mY(i:Nat)(t:Step):Prop:=BA t.left (decide (arity t.op>0)) i=true/\BA t.right (decide (arity t.op>1)) i=true
theorem Jl(g:0<=arity t.op)(h:mY i t):∀a∈Ag t,0<=a/\a<i:=by
 intro a c;have j:=Dg t.op;obtain⟨d,f⟩:=h;unfold Ag at c;obtain⟨n,e⟩:∃n:Nat,arity t.op=n:=⟨(arity t.op).toNat,aD⟩
 rw[e,Int.toNat_natCast]at c;unfold BA at d f
 match n,e,c with
 |0,_,c=>simp at c
 |1,e,c=>
  simp at c;subst c;rw[if_pos (decide_eq_true aD)]at d;simpa using d
 |2,e,c=>
  simp at c;rw[if_pos (decide_eq_true aD)]at d f;rcases c with rfl|rfl
  .simpa using d
  .simpa using f
 |n+3,e,_=>omega
theorem eA{c:ck}(g:ts<+:c)(ok:Bb c):∀i,i<ts.length->aM c i=aM ts i:=by
 have d:Bb ts:=λi t e=>ok i t (Nj g e);intro i
 induction i using Nat.strongRecOn with
 |_ i j=>
  intro n;have f:ts[i]? =some ts[i]:=getElem?_eq_getElem n;rw[oI d f,oI ok (Nj g f)]
  have:BF c ts[i]=BF ts ts[i]:=map_congr_left λa o=>by
   have:=(d i _ f).2 a o;exact j a.toNat aD aD
  rw[this]
theorem azQ(h:mY i t):(arity t.op=0->t.left=0)/\(arity t.op<=1->t.right=0):=by
 obtain⟨c,d⟩:=h;unfold BA at c d;refine⟨λe=>?_,λe=>?_⟩
 .rw[if_neg (by simp;omega)]at c;simpa using c
 .rw[if_neg (by simp;omega)]at d;simpa using d
theorem Hu(s:iJ)(ps:bt)(op ta:Int)(w:Pred)(co:bt)(on:bz)(gr:bt)(od:ca)(li:Int)(args:cg)(a b:bt):dQ s ps (.mk op ta w co on gr od li args) a b=dQ s ps (.mk op ta w co on gr od li []) a b:=by
 unfold dQ;rfl
theorem Fw{op:Int}{w:Pred}{on:bz}{args:cg}(h:(aK s [] (.mk op ta w co on gr od li args)).2=0):
 aK s [] (.mk op ta w co on gr od li args)=dQ s [] (.mk op ta w co on gr od li []) ((args.map λq=>(aK s [] q).1).getD 0 []) ((args.map λq=>(aK s [] q).1).getD 1 []):=by
 obtain⟨c,d,_⟩:=kM h
 have e:dV s [] args=(args.map (λq=>(aK s [] q).1),0):=sG (by
  rw[map_map];exact map_congr_left λq f=>Prod.ext rfl (c q f))
 simp only[aK,e,if_true];rw[if_pos (by rw[length_map];exact d),Hu]
theorem Ox{n:Nat}{a:Int}(c:0<=a)(d:a<n):BO ((List.range n).map λj=>(aK s [] (aM ts j)).1) a true=(aK s [] (aM ts a.toNat)).1:=by
 unfold BO;rw[if_pos rfl,getD_eq_getElem?_getD,getElem?_map,getElem?_range aD];rfl
def bOJ(c d cb:Nat):Value:=.func (.func 45) #[] #[.pointer (some ⟨c,0,none⟩),.pointer (some ⟨d,0,none⟩),.pointer (some ⟨cb,0,none⟩)]
structure boJ(m0:MH)(h:PH)(s:iJ)(vb sb cb:Nat):Prop where
 v_:m0 vb=some (.cells #[bOJ vb sb cb] 104 (0,0))
 s_:∃sc,gA h s sc/\m0 sb=some (.cells ⟨sc.enc⟩ 40 (0,0))
 tab:fM m0
 small:lK s
def aXQ(N:Nat):Vc.Spec:=λc m h K=>∃v q s e f cb g d ts rs,c=[aQ v,cP e,cP f,cP cb]/\eO h q v/\SizeOf.sizeOf q<N/\(aK s [] q).2=0/\BI q/\boJ d h s e f cb/\fH d m h cb g ts rs/\ts.length+2*vS q<=90000/\
 ∀j m' h',PH.le h h'->mF h' (eK s q ts).1 j->fH d m' h' cb g (eK s q ts).2 rs->K (aPN j) m' h'
noncomputable def bfQ(N:Nat)(v:QV)(c d cb:Nat):Ctx:=
 uC [(45,aXQ N),(46,aRX),(47,Rv),(48,YP),(49,aUX)]
 [(4,{A:=Nat×List fT×bt×bt×MH×PH,st:=λ⟨i,e,rs,f,m,h⟩=>bY 63 67 [(1,pv c),(2,pv d),(3,pv cb),(4,.at (.ptr 4 0)),(5,.at (.ptr 5 0)),(6,.at (.ptr 6 0)),(7,.at (.lst 34)),(8,.at (.lst 39)),(15,sv v.args),(16,iv v.args.len),(17,iv i)] [(4,.cells 35 (v.enc.map .val)),(5,.cells 107 (zQ++[FM,iI 0,iI 0,iI 0])),(6,.cells 107 (v.enc.map .val++[.lst 28,iI 0,iI 0,iI 0])),(28,.lst 107 25 (e.map fT.enc)),(34,.lst 3 1 (rs.map eI)),(39,.lst 3 1 (f.map eI))] m h})] [] [] [510107,0] [] false
noncomputable abbrev D9(a:Nat×List fT×bt×bt×MH×PH):List bw:=List.map fT.enc a.2.1
noncomputable abbrev Ea(a:Nat×List fT×bt×bt×MH×PH):List bw:=oE a.2.2.1
noncomputable abbrev Cm(a:Nat×List fT×bt×bt×MH×PH):List bw:=oE a.2.2.2.1
noncomputable abbrev Cf(a:Nat×List fT×bt×bt×MH×PH):Nat->Nat->Option Value:=a.2.2.2.2.2
noncomputable abbrev Gs(a:Nat×List fT×bt×bt×MH×PH):Nat->Option Obj:=a.2.2.2.2.1
noncomputable abbrev Gt(a b c:Nat):Array Value:=Array.mk (aR (vQp a 0) (vQp b 0) (kL (vQp c 0)))
abbrev A4(a b:Nat)(c:ct)(d:MH)(e:PH)(g:bw->MH->PH->Prop):Prop:=FAt Proofs.Tryz.prog a b c d e (fun(x:bw)=>fun(f:MH)=>fun(j:PH)=>g x f j)
attribute [push_cast] D9 Ea Cm Cf Gs Gt A4
def N4(N:Nat)(v:QV)(D E cb:Nat)(m:MH)(h:PH)(K:bu):Prop:=
  ∃(I:Nat×List fT×bt×bt×MH×PH->Prop)(H:Nat×List fT×bt×bt×MH×PH->Nat),(∃(x:Nat×List fT×bt×bt×MH×PH),aA (I x) (cQ D) (aA (cQ E) (cQ cb) (aA (eP 4) dL (aA (eP 6) (eL 34) (aA (eL 39) (aJ v.args) (aA (bI v.args) (bF x.1) (aA (fA v) (eQ (oQ 107 (Mu jA (fF FM FM (fF (iI 0) jA (rI jA)))))) (aA (eQ (oQ 107 (fF (iI v.op) (lC v) (An v v.on (CH v) (CI v) (fF (iI v.limit) (oM v.args) (fF (At.lst 28) jA (mN jA jA))))))) (tY 107 25 (D9 x)) (mA (rJ (Ea x)) (rJ (Cm x)) (cV m x.2.2.2.2) h (Cf x))))))))))/\∀(x:Nat×List fT×bt×bt×MH×PH),I x->bA (↑x.1:Int) (aG v.args) (aW (λb o=>aI (aX v.args.a b o) (0<=(↑x.1:Int))
 ((↑x.1:Int)<aG v.args) (∃(y:QV),aU (Gs x) (Cf x) b (bN o x.1 21) y.enc/\∃(f:Nat×Nat×Nat),aU (Gs x) (Cf x) D 0 (kL (Value.func (Fn.func 45) xL (Gt f.1 f.2.1 f.2.2)))/\∃(R:fT->MH->PH->Prop),A4 45 107 (cC y::cT f.1::bK (cT f.2.1) (cT f.2.2)) (Gs x) (Cf x) (λl n d=>∃(u:fT),l=u.enc/\R u n d)/\∀(u:fT),eX (λn d=>R u n d->aA (iF (jJ (D9 x) 1) 328) (lO (D9 x)) (aA (iF (jJ (Ea x) 1) 8) (lO (Ea x)) (jZ (Cm x) 8 (∃(j:Nat×List fT×bt×bt×MH×PH),aA (I j) (H j<H x) (aA (cQ D) (cQ E) (aA (cQ cb) (eP 4) (aA dL (eP 6) (aA (eL 34) (eL 39) (aA (aJ v.args) (bI v.args) (aA (fU (bG x.1 1)=bP j.1) (fA v) (aA (eQ (oQ 107
 (Mu jA (fF FM FM (fF (iI 0) jA (rI jA)))))) (eQ (oQ 107 (fF (iI v.op) (lC v) (An v v.on (CH v) (CI v) (fF (iI v.limit) (oM v.args) (fF (At.lst 28) jA (mN jA jA))))))) (aA (cH 107 25 (fK (D9 x) u.enc)=cH 107 25 (D9 j)) (rK (Ea x) u.rows (Ea j)) (aA (rK (Cm x) u.env (Cm j)) (cV n j.2.2.2.2) (bD d (Cf j)))))))))))))))))) (∃(y:cN),aU (Gs x) (Cf x) E 0 (nA (dY y.version) (gU y.tables))/\cG (Cf x) 25 (D9 x) (λs d=>∃(J:cN)(F:fT)(A:iJ),Cg (λo t w c o1 g o2 l a=>∃(p:dn)(L:List fT),aA (bK (bQ y) (uN v v (aR (jW (pJ v)) (kC (gG v)) (aR (kD (gG v)) (Co v) (aR (kJ (gG v)) (jW (gG v)) (aR (pI v) (pK v) (aR
 (gU v.on) (sE v) (aR (sF v) (dY v.limit) (aR (vF v) (gU s) (aR bL bL (kL bL))))))))))=bK (bQ J) (u9 F)) (gA d A J) (aA (lK A) (eO d (Query.mk o t w c o1 g o2 l a) F.query) (aA (dK d F.args 25 (List.map fT.enc L)) (j7 d p L) (aA ((↑p.length:Int)=arity o) (bZ (arity o)) ((∀(G:PN),List.Mem G p->bZ G.width/\G.width<=1000)/\cG d 1 (Ea x) (λs3 B=>∃(M:QV)(O:Sl),Cg (λP Q S T U V W X a1=>∃(k:cu),aI (bK (cC v) (dN s3)=bK (cC M) (dN O)) (eO B (Query.mk P Q S T U V W X a1) M) (Ints B O (List.map (fun(z:Nat)=>(↑z:Int)) k)) (∀(Y:uD),sA B (Step.mk P Q S T U V W X (↑(List.getD k 0 0):Int) (↑(List.getD k 1 0):Int)) Y->DR (bK (cT cb) (mQ Y)) B (Gs x) (λZ
 t3 n h3=>∃(o6:Int),fB (kH v.op o6) (Fh o6) (qK 0 (Cm x) (λe=>(Cm x)[0]? =Option.some e/\∃(f:Int),rL 1 e (bJ f)/\K (uN v v (aR (jW (pJ v)) (kC (gG v)) (aR (kD (gG v)) (Co v) (aR (kJ (gG v)) (jW (gG v)) (aR (pI v) (pK v) (aR (gU v.on) (sE v) (aR (sF v) (dY v.limit) (aR (vF v) (gU s) (aR (dY (↑(bR Z t3).2:Int)) (dY f) (bJ (Dk A o t c p))))))))))) n h3)) (cG h3 1 (Cm x) (λs5 C=>∃(v5:QV)(s6:Sl),Cg (λo7 t4 w2 c2 o8 g2 o9 l2 a2=>∃(z:cu),aI (bK (cC v) (dN s5)=bK (cC v5) (dN s6)) (eO C (Query.mk o7 t4 w2 c2 o8 g2 o9 l2 a2) v5) (Ints C s6 (List.map (fun(k2:Nat)=>(↑k2:Int)) z)) (∀(v6:uD),sA C (Step.mk o7 t4 w2 c2 o8 g2 o9 l2 (↑(List.getD z 0 0):Int) (↑(List.getD
 z 1 0):Int)) v6->DR (bK (cT cb) (mQ v6)) C n (λt5 t6 m3 h5=>K (uN v v (aR (jW (pJ v)) (kC (gG v)) (aR (kD (gG v)) (Co v) (aR (kJ (gG v)) (jW (gG v)) (aR (pI v) (pK v) (aR (gU v.on) (sE v) (aR (sF v) (dY v.limit) (aR (vF v) (gU s) (aR (dY (↑(bR Z t3).2:Int)) (dY (↑(bR t5 t6).2:Int)) (bJ (Dk A o t c p))))))))))) m3 h5))))))))))))))))
theorem FX(s:iJ)(op ta:Int)(w:Pred)(co:bt)(on:bz)(gr:bt)(od:ca)(li:Int)(args:cg)(ts:ck):
 eK s (.mk op ta w co on gr od li args) ts=Xv s op ta w co on gr od li args (dM s args ts).1 (dM s args ts).2:=by rw[eK]
theorem HT(s:iJ)(q:Query):∀(l:cg)(ts:ck),dM s (l++[q]) ts=((dM s l ts).1++[(eK s q (dM s l ts).2).1],(eK s q (dM s l ts).2).2)
 |[],ts=>by simp[dM]
 |p::l,ts=>by
  rw[cons_append,dM,HT s q l,dM];rfl
theorem E4(s:iJ):∀(l:cg)(ts:ck),(dM s l ts).1.length=l.length
 |[],ts=>by simp[dM]
 |p::l,ts=>by rw[dM,length_cons,length_cons,E4 s l]
theorem aPQ(s:iJ)(op ta:Int)(w:Pred)(co:bt)(on:bz)(gr:bt)(od:ca)(li:Int)(args:cg)(ps:dn)(ts:ck):(Xv s op ta w co on gr od li args ps ts).2.length<=ts.length+2:=by
 unfold Xv;have c:=dH (xJ op ta w co on gr od li (ps.map PN.rows)) ts;have d:=dH (xJ op ta w co on gr od li (ps.map PN.env)) (bR (xJ op ta w co on gr od li (ps.map PN.rows)) ts).1;dsimp only;split<;>dsimp only<;>omega
mutual
theorem BQ(s:iJ):∀(q:Query)(ts:ck),(eK s q ts).2.length<=ts.length+2*vS q
 |.mk op ta w co on gr od li args,ts=>by
  rw[FX];have c:=aPQ s op ta w co on gr od li args (dM s args ts).1 (dM s args ts).2;have d:=vU s args ts;simp only[vS];omega
theorem vU(s:iJ):∀(l:cg)(ts:ck),(dM s l ts).2.length<=ts.length+2*nO l
 |[],ts=>by simp[dM]
 |q::l,ts=>by
  rw[dM];have c:=BQ s q ts;have d:=vU s l (eK s q ts).2;simp only[nO];omega
end
theorem qO(h:(kR l).2=0):(kR l).1=l:=by
 unfold kR at h⊢
 split
 .rfl
 .rename_i e;rw[if_neg e]at h;simp[dG]at h
theorem VK{op:Int}{w:Pred}{on:bz}{args:cg}{b:bt}{ps:dn}(h:(dQ s [] (.mk op ta w co on gr od li args) a b).2=0)(o:op≠1->(ps.map PN.width).getD 0 0=(a.length:Int))(u:op=4->(ps.map PN.width).getD 1 0=(b.length:Int)):
 Dk s op ta co ps=((dQ s [] (.mk op ta w co on gr od li args) a b).1.length:Int):=by
 unfold Dk;unfold dQ at h⊢
 by_cases g:arity op<0\/¬cO (.mk op ta w co on gr od li args)
 .rw[if_pos g]at h;simp[dG]at h
 .rw[if_neg g]at h⊢
  dsimp only at h⊢
  by_cases d:op=1
  .simp only[if_pos d]at h⊢
   split
   .rename_i c;rw[if_pos c]at h;rw[qO h]
   .rename_i c;rw[if_neg c]at h;simp[dG]at h
  .have e:=o d;simp only[if_neg d]at h⊢
   by_cases j:op=2
   .subst j;simp only[if_true,show((2:Int)=3)=False by simp,show((2:Int)=4)=False by simp,if_false]at h⊢
    split
    .rename_i c;rw[if_pos c]at h;rw[qO h,e]
    .rename_i c;rw[if_neg c]at h;simp only[dG]at h;exact(c h).elim
   .simp only[if_neg j]at h⊢
    by_cases n:op=3
    .simp only[if_pos n]at h⊢
     split
     .rename_i c;rw[if_pos c]at h;rw[qO h];simp
     .rename_i c;rw[if_neg c]at h;simp[dG]at h
    .simp only[if_neg n]at h⊢
     by_cases f:op=4
     .simp only[if_pos f]at h⊢
      split
      .rename_i c;rw[if_pos c]at h;rw[qO h,e,u f];simp
      .rename_i c;rw[if_neg c]at h;simp[dG]at h
     .simp only[if_neg f]at h⊢
      rw[e]
      suffices x:∀R:bt×Int,(R=kR a\/R=dG 100)->R.2=0->(a.length:Int)=(R.1.length:Int)by
       refine x _ ?_ h
       repeat' split
       all_goals first|exact .inl rfl|exact .inr rfl
      rintro R (rfl|rfl) h
      .rw[qO h]
      .simp[dG]at h
mutual
theorem Lf{s:iJ}:∀(q:Query)(ts:ck),(aK s [] q).2=0->(eK s q ts).1.width=((aK s [] q).1.length:Int)
 |.mk op ta w co on gr od li args,ts,h=>by
  have d:=kM h;have c:=Dl args ts d.1
  have e:(eK s (.mk op ta w co on gr od li args) ts).1.width=Dk s op ta co (dM s args ts).1:=by
   rw[FX,Xv];dsimp only;split<;>rfl
  rw[e];have f:=Fw h;rw[f]at h⊢
  refine VK h (λj=>?_) (λn=>?_)
  .rw[c,getD_eq_getElem?_getD,getElem?_map,getD_eq_getElem?_getD,getElem?_map];cases g:args[0]? with
   |some a=>rfl
   |none=>rfl
  .rw[c,getD_eq_getElem?_getD,getElem?_map,getD_eq_getElem?_getD,getElem?_map];cases g:args[1]? with
   |some a=>rfl
   |none=>rfl
theorem Dl{s:iJ}:∀(l:cg)(ts:ck),(∀q∈l,(aK s [] q).2=0)->(dM s l ts).1.map PN.width=l.map λq=>((aK s [] q).1.length:Int)
 |[],ts,_=>by simp[dM]
 |q::l,ts,h=>by
  rw[dM,map_cons,map_cons,Lf q ts (h q bj),Dl l _ (λp c=>h p (by simp[c]))]
end
theorem bIQ{q:Query}{S U C:Nat}{m0:MH}(V:br 45 (aXQ N))(Q:eO h q v)(hN:SizeOf.sizeOf q<N+1)(hk:(aK s [] q).2=0)(G:BI q)(H:boJ m0 h s S U cb)(c:fH m0 m h cb C ts rs)(hl:ts.length+2*vS q<=90000)
 (R:∀D m' h',PH.le h h'->mF h' (eK s q ts).1 D->fH m0 m' h' cb C (eK s q ts).2 rs->K (aPN D) m' h'):N4 N v S U cb m h K:=by
 dsimp only[N4,push_cast];have o:=@zZ q;obtain⟨op,ta,w,co,on,gr,od,li,args⟩:=q;simp only[Query.args]at o;have x:=Q.parts;have a3:=x.args_.slen;obtain⟨W,a4,_⟩:=kM hk;rw[Tq]at G;obtain⟨z,a5⟩:=G;have b6:=Dg op;rw[FX]at R;simp only[vS]at hl
 have a6:∀i,nO (args.take i)<=nO args:=λi=>by
  have key:∀(l:cg)(i:Nat),nO (l.take i)<=nO l:=by
   intro l
   induction l with
   |nil=>intro i;simp
   |cons a l ih=>
    intro i;cases i with
    |zero=>simp[nO]
    |succ i=>have:=ih i;simp only[take_succ_cons,nO];omega
  exact key args i
 obtain⟨sc,X,Y⟩:=H.s_;refine⟨λ⟨i,I,rr,es,mx,Z⟩=>i<=args.length/\PH.le h Z/\j7 Z (dM s (args.take i) ts).1 I/\rr=(dM s (args.take i) ts).1.map (λp=>(p.rows:Int))/\es=(dM s (args.take i) ts).1.map (λp=>(p.env:Int))/\fH m0 mx Z cb C (dM s (args.take i) ts).2 rs,λ⟨i,_,_,_,_,_⟩=>args.length-i,⟨(0,[],[],[],m,h),⟨aD,.refl _,by simp only[take_zero,dM];rfl,rfl,rfl,by simpa[dM]using c⟩,MT⟩,?_⟩;rintro⟨i,I,rr,es,mx,Z⟩ ⟨hi,g,n,rfl,rfl,cx⟩;dsimp only;have a':=E4 s (args.take i) ts;have b7:(args.take i).length=i:=by simp;omega
 have b8:=n.length;refine aF (λa0=>?_) (λb9=>?_)
 .obtain⟨q,J⟩:=eF a3 a0;have E:=mem_of_getElem? J;obtain⟨b1,o1,u,e1,r1,a7⟩:=(x.args_.mono g).at J;have tk:args.take (i+1)=args.take i++[q]:=by rw[take_add_one,J];rfl
  have vs:=HT s q (args.take i) ts;have c0:=a6 (i+1)
  have c1:nO (args.take (i+1))=nO (args.take i)+vS q:=by
   rw[tk]
   have key:∀l:cg,nO (l++[q])=nO l+vS q:=by
    intro l
    induction l with
    |nil=>simp[nO]
    |cons a l ih=>simp only[cons_append,nO,ih];omega
   exact key _
  have a8:=vU s (args.take i) ts;have c2:=sizeOf_lt_of_mem E;have a9:SizeOf.sizeOf q<N:=by have:=o E;omega
  refine⟨b1,o1,e1,aD,a0,u,.imm r1,(S,U,cb),.of_m (cx.sub _ _ H.v_) rfl,λy my L=>PH.le Z L/\mF L (eK s q (dM s (args.take i) ts).2).1 y/\fH m0 my L cb C (eK s q (dM s (args.take i) ts).2).2 rs,?_,λy my L⟨d,ry,cy⟩=>⟨by rw[length_map];omega,by rw[length_map];omega,by simp only[length_map];omega,by simp only[length_map];omega,by simp only[length_map];omega,by simp only[length_map];omega,(i+1,I++[y],(dM s (args.take (i+1)) ts).1.map (λp=>(p.rows:Int)),(dM s (args.take (i+1)) ts).1.map (λp=>(p.env:Int)),my,L),⟨by show i+1<=args.length;omega,g.trans d,?_,rfl,rfl,?_⟩,by show args.length-(i+1)<args.length-i;omega,?_⟩⟩
  .have a1:xW Tryz.prog 107=true:=bi
   refine Sound.fat (vs:=[.agg ⟨QV.enc u⟩,.pointer (some ⟨S,0,none⟩),.pointer (some ⟨U,0,none⟩),.pointer (some ⟨cb,0,none⟩)]) V ⟨u,q,s,S,U,cb,C,m0,_,rs,rfl,a7,a9,W q E,a5 q E,⟨H.v_,⟨sc,X.mono g,Y⟩,H.tab,H.small⟩,cx,aD,λD m' h' F rp c'=>⟨fT.enc D,?_,D,rfl,F,rp,c'⟩⟩;have e:Vc.valOf Tryz.prog 107 (fT.enc D)= .agg ⟨fT.enc D⟩:=by unfold Vc.valOf;rw[a1]
   rw[e];rfl
  .show j7 L (dM s (args.take (i+1)) ts).1 (I++[y]);rw[tk,vs];exact j7.snoc ry (j7.mono d n)
  .show fH m0 my L cb C (dM s (args.take (i+1)) ts).2 rs;rw[tk,vs];exact cy
  .have e1:=ry.rows_;have e2:=ry.env_;rw[tk,vs,e1,e2];simp only[map_append,map_cons,map_nil];exact MT
 .have b':args.take i=args:=take_of_length_le aD;rw[b']at n cx a'⊢
  have a8:=vU s args ts;have b0:=Dl args ts W;generalize hP:(dM s args ts).1=P at*
  generalize hT:(dM s args ts).2=T at*
  have eR:((P.map PN.rows).map fun(k:Nat)=>(k:Int)).map eI=(P.map λp=>(p.rows:Int)).map eI:=by simp[map_map,Function.comp_def]
  have eE:((P.map PN.env).map fun(k:Nat)=>(k:Int)).map eI=(P.map λp=>(p.env:Int)).map eI:=by simp[map_map,Function.comp_def]
  have kt:∀l r:Int,LY ⟨op,ta,w,co,on,gr,od,li,l,r⟩:=λl r=>⟨z.wher,z.columns,z.on,z.group,z.order⟩
  refine⟨sc,.of_m (cx.sub _ _ Y) rfl,λs1 h1 d M=>⟨sc,⟨v,s1,0,0,0⟩,s,op,ta,w,co,on,gr,od,li,args,P,I,rfl,X.mono (g.trans d),H.small,Q.mono (g.trans d),M,j7.mono d n,by rw[a'];exact a4,aD,?_,λs2 h2 j b2=>⟨v,s2,op,ta,w,co,on,gr,od,li,args,P.map PN.rows,rfl,Q.mono ((g.trans d).trans j),⟨by rw[eR];exact b2,by simp;omega⟩,λD b3=>⟨D,_,m0,cb,C,T,rs,rfl,b3,kt _ _,cx.mono (d.trans j),H.tab,aD,λm3 h3 A c3=>⟨op,by rw[x.op_],?_⟩⟩⟩⟩⟩
  .intro p hp;have:p.width∈P.map PN.width:=mem_map.2 ⟨p,hp,rfl⟩;rw[b0]at this;obtain⟨q,_,e⟩:=mem_map.1 this;have:=jH s [] q;omega
  .have ha:=dH (xJ op ta w co on gr od li (P.map PN.rows)) T;have c3:fH m0 m3 h3 cb C (bR (xJ op ta w co on gr od li (P.map PN.rows)) T).1 rs:=c3;have le:=((g.trans d).trans j).trans A;unfold Xv at R;refine aC (λf=>?_) (λf s4 h4 B b4=>⟨v,s4,op,ta,w,co,on,gr,od,li,args,P.map PN.env,rfl,Q.mono (le.trans B),⟨by rw[eE];exact b4,by simp;omega⟩,λv2 b5=>⟨v2,_,m0,cb,C,_,rs,rfl,b5,kt _ _,c3.mono B,H.tab,aD,λm5 h5 O c5=>?_⟩⟩)
   .rw[if_pos f]at R
    have a2:0<P.length:=by
     have:1<=arity op:=by
      unfold Fh at f;simp only[Bool.or_eq_true,beq_iff_eq]at f;rcases f with(rfl|rfl)|rfl<;>decide
     omega
    refine⟨aD,by simp only[length_map];omega,eI (P[0].env:Int),by simp[a2],(P[0].env:Int),rfl,?_⟩;refine R ⟨v,s1,_,_,_⟩ m3 h3 le ⟨Q.mono le,rfl,?_,rfl,aD,I,M.mono (j.trans A),j7.mono ((d.trans j).trans A) n⟩ c3;simp[a2]
   .rw[if_neg (by simp[f])]at R;have F:=(le.trans B).trans O;exact R ⟨v,s1,_,_,_⟩ m5 h5 F ⟨Q.mono F,rfl,rfl,rfl,aD,I,M.mono (((j.trans A).trans B).trans O),j7.mono ((((d.trans j).trans A).trans B).trans O) n⟩ c5
theorem Sg:∀N,br 45 (aXQ N)
 |0=>by
  refine eV (fn:=Tryz.f45) (c:=cL Tryz.f45) func45 rfl bk ?_;rintro e m h K ⟨v,q,s,f,g,cb,n,o,ts,rs,rfl,_,j,_⟩;omega
 |N+1=>by
  refine hJ func45 ?_;rintro e m h K ⟨v,q,s,f,g,cb,n,o,ts,rs,rfl,u,j,x,d,y,c,z,A⟩;refine⟨bfQ N v f g cb,rfl,aE (Sg N) (aE Z6 (aE Db (aE Z5 (aE PR aH)))),N4 N v f g cb m h K,bi,?_⟩;exact bIQ (Sg N) u j x d y c z A
def bvQ:Vc.Spec:=λc m h K=>∃v q s e f cb g d ts rs,c=[aQ v,cP e,cP f,cP cb]/\eO h q v/\(aK s [] q).2=0/\BI q/\boJ d h s e f cb/\fH d m h cb g ts rs/\ts.length+2*vS q<=90000/\
 ∀j m' h',PH.le h h'->mF h' (eK s q ts).1 j->fH d m' h' cb g (eK s q ts).2 rs->K (aPN j) m' h'
theorem PS:br 45 bvQ:=lI Sg λ_ _ _ _⟨v,q,s,c,d,cb,f,g,ts,rs,e,j,n,o,u,x,y,z⟩=>⟨SizeOf.sizeOf q+1,v,q,s,c,d,cb,f,g,ts,rs,e,j,aD,n,o,u,x,y,z⟩
noncomputable def jV(s:iJ)(q:Query):ck×bt:=eZ (eK s q []).1 ((eK s q []).1.env:Int) (eK s q []).2 []
def amQ:Vc.Spec:=λc m h K=>∃sc v s q,c=[aS sc,aQ v]/\gA h s sc/\eO h q v/\fM m/\((dU s [] q).2=0->BI q/\G7 (eK s q []).1/\jI (eK s q []).1<=100/\vS q<=100)/\
 ((dU s [] q).2≠0->K (.tup [aPl bW bW,cI (dU s [] q).2]) m h)/\((dU s [] q).2=0->∀p r h',PH.le h h'->oY h' p r (jV s q).1 (jV s q).2->K (.tup [aPl p r,cI 0]) m h')
noncomputable def bmJ:Ctx:=uC [(39,vQ),(45,bvQ),(50,bSJ)] [] [] [] [103,104,200002,510107] [] false
def Og(sc:cN)(v:QV)(m:MH)(h:PH)(K:bu):Prop:=
  ∀(b:Nat)(z:MH),fC m h b->gO m z b (nA (dY sc.version) (gU sc.tables)) 40->∃(y:cN),aU z h b 0 (nA (dY y.version) (gU y.tables))/\DW (bQ y::bK CZ (cC v)) h (λs p q _ f=>dC (dU s p q).2 0 (K (CV.tup (bK (lG (nA pO pO)) (CV.val (dY (dU s p q).2)))) z f) (B7 z f (λP G=>∀(e:Nat)(B:MH),fC G f e->gO G B e (aR pO pO (kL (Value.map Option.none))) 103->Kf (λc E=>aA (MAt B e (B5 c E 0)) (3<=c.size) (∀(C:MH),gO B C e (aR pO pO (tZ (Value.map (Option.some P)) 3 c.toList)) E->∀(o:Nat)(H:MH),fC C f o->gO C H o (kL Value.nilFunc) 104->uM H o (Value.func (Fn.func 45) xL (Gt o b e)) (λI=>∃(g:Nat×Nat×Nat),aU I f o 0 (kL (Value.func (Fn.func 45) xL (Gt g.1
 g.2.1 g.2.2)))/\∃(R:fT->MH->PH->Prop),A4 45 107 (cC v::cT g.1::bK (cT g.2.1) (cT g.2.2)) I f (λl A j=>∃(x:fT),l=x.enc/\R x A j)/\∀(x:fT),eX (λA j=>R x A j->∃(J:fT)(n:PN)(d:Int)(D:MH),Nw (λF L t r=>aA (cT e::bT (u9 x) x.env=cT F::bT (u9 J) d) (mF j n J) (aA (G7 n) (fH D A j F L t r) (aI (fM D) (t.length+5*jI n<=90000) (r.length+jI n<=90000) (eX (λa u=>cD j u (fH D a u F L (eZ n d t r).1 (eZ n d t r).2) (∃(M:Sl),aU a u e 0 (aY M)/\∃(O:Sl),aU a u e 1 (aY O)/\K (CV.tup (bT (rT M O) 0)) a u)))))))))))))
theorem Lu{q:Query}(h:(dU s ps q).2=0):(aK s ps q).2=0/\cX s=0:=by
 unfold dU at h;split at h
 .rename_i e;refine⟨?_,e⟩;split at h
  .split at h
   .exact h
   .simp[dG]at h
  .simp[dG]at h
 .rename_i c;simp[dG]at h;exact(c h).elim
theorem Yc(m:MH)(E sz:Nat):eC m bW E sz []:=⟨⟨λ_ h=>by simp at h,λ_ h=>by simp at h⟩,.inl ⟨rfl,rfl⟩⟩
theorem afX:br 15 amQ:=by
 refine TZ func15 ?_;rintro b9 m h K ⟨sc,v,s,q,rfl,hs,hq,ht,hv,hE,hK⟩;refine⟨bmJ,rfl,aE PX (aE PS (aE ax aH)),Og sc v m h (fW h K),bi,?_⟩;show Og sc v m h (fW h K);dsimp only[Og,push_cast];intro f m1 b' A
 have M:Sub m m1:=λx o e=>by
  rw[A.other x (λS=>by rw[S,b'.m_]at e;cases e)];exact e
 refine⟨sc,.of_m A.at_ rfl,sc,bW,v,s,[],q,rfl,hs,TP h,hq,λsl h1 H _=>aC (λI=>?_) (λI=>?_)⟩
 .have I:(dU s [] q).2≠0:=bo I
  exact fW.keep M H (hE I)
 have I:(dU s [] q).2=0:=bo I
 obtain⟨X,b0,c1,b8⟩:=hv I;obtain⟨Y,Z⟩:=Lu I;have hK:=hK I;intro c m2 a' g cb m3 T D;refine⟨_,_,⟨D.at_⟩,bj,λm4 d C m5 J U=>⟨_,_,⟨U.at_⟩,bj,λF B=>?_⟩⟩;have d:iV m3 m4 cb (.cells #[.slice none 0 0,.slice none 0 0,.map (some c)] 103 (0,0)):=d;have B:iV m5 F C (.cells #[bOJ C f cb] 104 (0,0)):=B;have n1:c≠f:=λe=>by have:=a'.m_;rw[e,A.at_]at this;cases this
 have n2:cb≠c:=λe=>by have:=T.m_;rw[e,g.at_]at this;cases this
 have n3:cb≠f:=λe=>by have:=T.m_;rw[e,g.other f (Ne.symm n1),A.at_]at this;cases this
 have n4:C≠cb:=λe=>by have:=J.m_;rw[e,d.at_]at this;cases this
 have n5:C≠c:=λe=>by have:=J.m_;rw[e,d.other c (Ne.symm n2),D.other c (Ne.symm n2),g.at_]at this;cases this
 have n6:C≠f:=λe=>by have:=J.m_;rw[e,d.other f (Ne.symm n3),D.other f (Ne.symm n3),g.other f (Ne.symm n1),A.at_]at this;cases this
 have h6:∀x,x≠C->x≠cb->F x=m2 x:=λx G n=>by rw[B.other x G,U.other x G,d.other x n,D.other x n]
 have a0:F cb=some (.cells #[.slice none 0 0,.slice none 0 0,.map (some c)] 103 (0,0)):=by rw[B.other cb (Ne.symm n4),U.other cb (Ne.symm n4)];exact d.at_
 have a4:F c=some (.map #[] 0):=by rw[h6 c (Ne.symm n5) (Ne.symm n2)];exact g.at_
 have a5:F f=some (.cells ⟨sc.enc⟩ 40 (0,0)):=by rw[h6 f (Ne.symm n6) (Ne.symm n3),g.other f (Ne.symm n1)];exact A.at_
 obtain⟨z,V⟩:∃z:MH,z=λx=>if x=cb\/x=c then none else F x:=⟨_,rfl⟩
 have L:∀x,x≠cb->x≠c->z x=F x:=λx G n=>by rw[V];simp[G,n]
 have O:z cb=none:=by rw[V];simp
 have P:z c=none:=by rw[V];simp
 have W:Sub z F:=λx o e=>by
  by_cases G:x=cb
  .rw[G,O]at e;cases e
  .by_cases n:x=c
   .rw[n,P]at e;cases e
   .rw[<-L x G n];exact e
 have j:Sub m z:=λx o e=>by
  have G:=M x o e;have a1:x≠c:=λS=>by rw[S,a'.m_]at G;cases G
  have n:m2 x=some o:=by rw[g.other x a1];exact G
  have a2:x≠cb:=λS=>by rw[S,T.m_]at n;cases n
  have e3:m4 x=some o:=by rw[d.other x a2,D.other x a2];exact n
  have a3:x≠C:=λS=>by rw[S,J.m_]at e3;cases e3
  rw[L x a2 a1,h6 x a3 a2];exact n
 have c0:fH z F h1 cb c [] []:=⟨W,O,P,⟨#[],0,a4,rfl⟩,bj,bW,bW,a0,⟨[],Yc F _ _,rfl,λi t e=>by simp at e⟩,Yc F _ _,λb i e=>by simp[bW]at e,λb i e=>by simp[bW]at e⟩
 have Q:boJ z h1 s C f cb:=⟨by rw[L C n4 n5];exact B.at_,⟨sc,hs.mono H,by rw[L f (Ne.symm n3) (Ne.symm n1)];exact a5⟩,ht.sub j,bLZ Z⟩
 have b1:=BQ s q [];simp only[length_nil,Nat.zero_add]at b1;refine⟨(C,f,cb),.of_m B.at_ rfl,λy my hy=>PH.le h1 hy/\mF hy (eK s q []).1 y/\fH z my hy cb c (eK s q []).2 [],?_,λy m7 h7⟨b2,ry,c7⟩=>?_⟩
 .have a6:xW Tryz.prog 107=true:=bi
  refine Sound.fat (vs:=[.agg ⟨QV.enc v⟩,.pointer (some ⟨C,0,none⟩),.pointer (some ⟨f,0,none⟩),.pointer (some ⟨cb,0,none⟩)]) PS ⟨v,q,s,C,f,cb,c,z,[],[],rfl,hq.mono H,Y,X,Q,c0,by simp;omega,λv' m' h' b3 rp c'=>⟨fT.enc v',?_,v',rfl,b3,rp,c'⟩⟩;have e:Vc.valOf Tryz.prog 107 (fT.enc v')= .agg ⟨fT.enc v'⟩:=by unfold Vc.valOf;rw[a6]
  rw[e];rfl
 .refine⟨y,(eK s q []).1,y.env,z,cb,c,(eK s q []).2,[],rfl,ry,b0,c7,Q.tab,aD,by simp;omega,λm8 h8 b4 c8=>?_⟩;rw[ry.env_]at c8;have c8:fH z m8 h8 cb c (jV s q).1 (jV s q).2:=c8;obtain⟨p,r,a7,⟨vs,hr,a8⟩,b5,b6,b7⟩:=c8.ex;refine⟨p,.of_m a7 rfl,r,.of_m a7 rfl,λa9=>?_⟩;have hd:EZ m8 h8:=⟨a9⟩
  have le:=(H.trans b2).trans b4
  have fr:∀b,z b=none->m b=none:=λb e=>by
   cases n:m b with
   |none=>rfl
   |some o=>rw[j b o n]at e;cases e
  have R:=fZ (eK s q []).1 ((eK s q []).1.env:Int) (eK s q []).2 [];have R:(jV s q).1.length<=(eK s q []).2.length+5*jI (eK s q []).1/\(jV s q).2.length<=0+jI (eK s q []).1:=R;refine⟨m,A8 m m8 h8,λb o e=>c8.sub b o (j b o e),le.trans (CR hd),λb i w e=>?_,hK p r _ (le.trans (CR hd)) ⟨⟨vs,tO.ice ⟨hr,λb i e=>fr b (b6 b i e)⟩,a8.1,λi t e=>let⟨u,k1,k2⟩:=a8.2 i t e;⟨u,k1,k2.mono (CR hd)⟩⟩,⟨tO.ice ⟨b5,λb i e=>fr b (b7 b i e)⟩,aD⟩,aD⟩⟩;unfold A8 at e;split at e
  .rename_i cs E fz g1 g2;exact .inr ⟨cs,E,fz,g2,e,g1⟩
  .exact .inl e
theorem Ht:∀{l c:bt}{r r':cn},(∀n∈l,tN n)->(∀n∈c,tN n)->l.length=c.length->gV l++r=gV c++r'->l=c/\r=r'
 |[],[],_,_,_,_,_,h=>⟨rfl,h⟩
 |[],_::_,_,_,_,_,d,_=>by simp at d
 |_::_,[],_,_,_,_,d,_=>by simp at d
 |m::l,n::c,r,r',f,g,d,h=>by
  rw[sS,sS,append_assoc,append_assoc,cons_append,cons_append]at h;obtain⟨a,h⟩:=gJ (f m bj) (g n bj) h;obtain⟨b,h⟩:=Ht (λx e=>f x (by simp[e])) (λx e=>g x (by simp[e])) (bo d) h;exact⟨by rw[a,b],h⟩
theorem Ig:∀{l c:bz}{r r':cn},(∀p∈l,tN p.1/\tN p.2)->(∀p∈c,tN p.1/\tN p.2)->l.length=c.length->tQ l++r=tQ c++r'->l=c/\r=r'
 |[],[],_,_,_,_,_,h=>⟨rfl,h⟩
 |[],_::_,_,_,_,_,d,_=>by simp at d
 |_::_,[],_,_,_,_,d,_=>by simp at d
 |m::l,n::c,r,r',e,f,d,h=>by
  rw[Lz,Lz]at h;simp only[append_assoc,cons_append]at h;obtain⟨a,h⟩:=gJ (e m bj).1 (f n bj).1 h;obtain⟨j,h⟩:=gJ (e m bj).2 (f n bj).2 h;obtain⟨b,h⟩:=Ig (λx g=>e x (by simp[g])) (λx g=>f x (by simp[g])) (bo d) h;exact⟨by rw[Prod.ext a j,b],h⟩
theorem H4:∀{l c:ca}{r r':cn},(∀p∈l,tN p.1)->(∀p∈c,tN p.1)->l.length=c.length->tP l++r=tP c++r'->l=c/\r=r'
 |[],[],_,_,_,_,_,h=>⟨rfl,h⟩
 |[],_::_,_,_,_,_,d,_=>by simp at d
 |_::_,[],_,_,_,_,d,_=>by simp at d
 |m::l,n::c,r,r',f,g,d,h=>by
  rw[Ls,Ls]at h;simp only[append_assoc,cons_append]at h;have j:∀b:Bool,tN (if b then 1 else 0):=λb=>by cases b<;>exact⟨bk,bk⟩
  obtain⟨a,h⟩:=gJ (f m bj) (g n bj) h;obtain⟨z,h⟩:=gJ (j m.2) (j n.2) h;obtain⟨b,h⟩:=H4 (λx e=>f x (by simp[e])) (λx e=>g x (by simp[e])) (bo d) h
  have o:m.2=n.2:=by
   obtain⟨A,u⟩:=m;obtain⟨B,y⟩:=n;cases u<;>cases y<;>simp_all
  exact⟨by rw[Prod.ext a o,b],h⟩
structure aSZ(t:Step):Prop where
 op_:tN t.op
 table_:tN t.table
 limit_:tN t.limit
 left_:tN t.left
 right_:tN t.right
 cols:t.columns.length<=1000000
 on_:t.on.length<=1000000
 group_:t.group.length<=1000000
 order_:t.order.length<=1000000
theorem Y8{x:Step}(e:aSJ x)(f:aSJ t)(c:aSZ x)(d:aSZ t)(h:stepB x=stepB t):x=t:=by
 obtain⟨op,ta,w,co,on,gr,od,li,le,T⟩:=x;obtain⟨D,E,U,F,G,H,I,J,L,M⟩:=t;have O:gV []=[]:=rfl;simp only[stepB,sS,O,append_assoc,cons_append,nil_append]at h;obtain⟨j,h⟩:=gJ c.op_ d.op_ h;obtain⟨n,h⟩:=gJ c.table_ d.table_ h;obtain⟨o,h⟩:=gJ c.limit_ d.limit_ h;obtain⟨u,h⟩:=gJ c.left_ d.left_ h;obtain⟨y,h⟩:=gJ c.right_ d.right_ h;obtain⟨z,h⟩:=Ly e.wher f.wher h;obtain⟨P,h⟩:=gJ (uV c.cols) (uV d.cols) h;obtain⟨A,h⟩:=Ht e.cols f.cols (by simp only at P⊢;omega) h;obtain⟨Q,h⟩:=gJ (uV c.on_) (uV d.on_) h;obtain⟨B,h⟩:=Ig e.on_ f.on_ (by simp only at Q⊢;omega) h;obtain⟨R,h⟩:=gJ (uV c.group_) (uV d.group_) h;obtain⟨C,h⟩:=Ht e.group_ f.group_ (by simp only at R⊢;omega) h;obtain⟨S,h⟩:=gJ (uV c.order_) (uV d.order_) h;obtain⟨g,_⟩:=H4 (r:=[]) (r':=[]) e.order_ f.order_ (by simp only at S⊢;omega) (bo h);simp only at j n o u y z A B C g;subst j n o u y z A B C g;rfl
structure fN(s:iJ)(q:Query):Prop where
 kinds:(aK s [] q).2=0
 ints:QI q
 bnd:fE 4 q<=1000000
theorem fN.arg{op:Int}{w:Pred}{on:bz}{args:cg}(g:fN s (.mk op ta w co on gr od li args)){a:Query}(c:a∈args):fN s a:=
 ⟨(kM g.kinds).1 a c,(Hq.1 g.ints).2 a c,boZ g.kinds g.bnd c⟩
theorem VL{op:Int}{w:Pred}{on:bz}{args:cg}(u:s.tables.length<=1000)(h:(aK s [] (.mk op ta w co on gr od li args)).2=0):tN op/\tN ta/\tN li:=by
 obtain⟨_,g,a,b,_,_,c⟩:=kM h;unfold dQ at c;by_cases f:arity op<0\/¬cO (.mk op ta w co on gr od li args)
 .rw[if_pos f]at c;simp[dG]at c
 .rw[if_neg f]at c;rw[not_or]at f;obtain⟨j,_,_,_,n⟩:cO (.mk op ta w co on gr od li args):=Classical.not_not.1 f.2
  have o:1<=op/\op<=10:=by
   have d:=f.1;unfold arity at d;simp only[beq_iff_eq,Bool.or_eq_true]at d;refine⟨?_,?_⟩<;>
   .by_cases e:op=1
    .omega
    .rw[if_neg e]at d;split at d
     .omega
     .split at d
      .omega
      .simp at d
  refine⟨iP aD aD,?_,?_⟩
  .rcases j with rfl|rfl
   .dsimp only at c;simp only[if_true]at c;split at c
    .rename_i e;exact iP aD aD
    .simp[dG]at c
   .exact Fy
  .rcases n with rfl|rfl|⟨_,_,rfl⟩
   .dsimp only at c;simp only[show¬((9:Int)=1)by decide,show¬((9:Int)=2)by decide,show¬((9:Int)=3)by decide,show¬((9:Int)=4)by decide,show¬((9:Int)=5)by decide,if_false,if_true]at c;split at c
    .rename_i e;exact iP (by have:=e.low;omega) (by have:=e.high;omega)
    .simp[dG]at c
   .dsimp only at c;simp only[show¬((10:Int)=1)by decide,show¬((10:Int)=2)by decide,show¬((10:Int)=3)by decide,show¬((10:Int)=4)by decide,show¬((10:Int)=5)by decide,show¬((10:Int)=9)by decide,if_false,if_true]at c;split at c
    .rename_i e;exact iP (by have:=e.2.low;omega) (by have:=e.2.high;omega)
    .simp[dG]at c
   .exact Fy
structure CX(s:iJ)(ts:ck):Prop where
 ar:∀(i:Nat) t,ts[i]? =some t->0<=arity t.op
 fit:∀(i:Nat) t,ts[i]? =some t->mY i t
 nodup:(ts.map stepB).Nodup
 good:∀i,i<ts.length->fN s (aM ts i)
 short:∀t∈ts,t.columns.length<=1000/\t.on.length<=1000/\t.group.length<=1000/\t.order.length<=1000
theorem CX.ok(v:CX s ts):Bb ts:=λi t e=>⟨v.ar i t e,Jl (v.ar i t e) (v.fit i t e)⟩
theorem CX.nil(s:iJ):CX s []:=⟨λi t e=>by simp at e,λi t e=>by simp at e,bj,λi c=>by simp at c,λt d=>by simp at d⟩
theorem NT{a:Int}{u:Bool}(h:BA a u i=true)(c:i<=1000000):tN a:=by
 unfold BA at h;split at h
 .simp only[Bool.and_eq_true,decide_eq_true_eq]at h;exact iP aD aD
 .have:a=0:=bo h
  rw[this];exact Fy
theorem M0{q:Query}{args:cg}(j:s.tables.length<=1000)(g:fN s q)(n:q= .mk t.op t.table t.wher t.columns t.on t.group t.order t.limit args)(d:mY i t)(e:i<=1000000)(D:t.columns.length<=1000/\t.on.length<=1000/\t.group.length<=1000/\t.order.length<=1000):aSJ t/\aSZ t:=by
 have c:=g.ints;have f:=g.kinds;rw[n]at c f;rw[Hq]at c;obtain⟨o,u,x,y,z⟩:=c.1;obtain⟨A,B,C⟩:=VL j f;exact⟨⟨o,u,x,y,z⟩,⟨A,B,C,NT d.1 e,NT d.2 e,aD,aD,aD,aD⟩⟩
theorem axX{s:iJ}{ts:ck}{t:Step}{q:Query}(I:s.tables.length<=1000)(v:CX s ts)(J:ts.length<=100000)(L:0<=arity t.op)(D:mY ts.length t)(g:fN s q)(E:q= .mk t.op t.table t.wher t.columns t.on t.group t.order t.limit (BF ts t))(M:t.columns.length<=1000/\t.on.length<=1000/\t.group.length<=1000/\t.order.length<=1000):
 CX s (bR t ts).1/\ts<+:(bR t ts).1/\(bR t ts).2<(bR t ts).1.length/\aM (bR t ts).1 (bR t ts).2=q:=by
 obtain⟨P,Q⟩:=M0 I g E D aD M;by_cases o:∀x∈ts,stepB x≠stepB t
 .rw[Vj o];dsimp only
  have c:∀(i:Nat) u,(ts++[t])[i]? =some u->ts[i]? =some u\/(i=ts.length/\u=t):=λi u e=>by
   by_cases f:i<ts.length
   .rw[getElem?_append_left f]at e;exact .inl e
   .rw[getElem?_append_right aD]at e;have j:=(List.getElem?_eq_some_iff.1 e).1;simp at j;have:i=ts.length:=by omega
    subst this;simp at e;exact .inr ⟨rfl,e.symm⟩
  have y:∀(i:Nat) u,(ts++[t])[i]? =some u->0<=arity u.op:=λi u e=>by
   rcases c i u e with e|⟨_,rfl⟩
   .exact v.ar i u e
   .exact L
  have n:∀(i:Nat) u,(ts++[t])[i]? =some u->mY i u:=λi u e=>by
   rcases c i u e with e|⟨rfl,rfl⟩
   .exact v.fit i u e
   .exact D
  have z:Bb (ts++[t]):=λi u e=>⟨y i u e,Jl (y i u e) (n i u e)⟩
  have F:ts<+:ts++[t]:=prefix_append _ _
  have d:aM (ts++[t]) ts.length=q:=by
   rw[oI z (t:=t) bj,E]
   have:BF (ts++[t]) t=BF ts t:=map_congr_left λa G=>by
    have:=Jl L D a G;exact eA F z a.toNat aD
   rw[this]
  refine⟨⟨y,n,?_,λi f=>?_,λu A=>?_⟩,F,bj,d⟩
  .rw[map_append,nodup_append];refine⟨v.nodup,bj,λa G b O=>?_⟩;obtain⟨x,B,rfl⟩:=mem_map.1 G;simp at O;rw[O];exact o x B
  .by_cases C:i<ts.length
   .rw[eA F z i C];exact v.good i C
   .have:i=ts.length:=by simp at f;omega
    rw[this,d];exact g
  .rcases mem_append.1 A with A|A
   .exact v.short u A
   .simp at A;subst A;exact M
 .have:∃x∈ts,stepB x=stepB t:=Classical.byContradiction λR=>o λx B e=>R ⟨x,B,e⟩;obtain⟨x,B,e⟩:=this;obtain⟨i,f⟩:=mem_iff_getElem?.1 B;have j:=(List.getElem?_eq_some_iff.1 f).1;obtain⟨S,T⟩:=M0 I (v.good i j) (oI v.ok f) (v.fit i x f) aD (v.short x B);have H:x=t:=Y8 S P T Q e;subst H;rw[Vi v.nodup f rfl];exact⟨v,prefix_refl _,j,by rw[oI v.ok f,E]⟩
theorem S9(v:CX s ts)(d:ts[i]? =some t):BT s ((List.range i).map λj=>(aK s [] (aM ts j)).1) t=((aK s [] (aM ts i)).1,0):=by
 have A:=(List.getElem?_eq_some_iff.1 d).1;have g:=(v.good i A).kinds;have B:=oI v.ok d;rw[B]at g⊢
 have C:=Fw g;have E:=v.ar i t d;have F:=Dg t.op;have x:=v.fit i t d;have c:=(v.ok i t d).2;have D:((List.range i).map λj=>(aK s [] (aM ts j)).1).length=i:=bj
 have y:BO ((List.range i).map λj=>(aK s [] (aM ts j)).1) t.left (decide (arity t.op>0))=((BF ts t).map λq=>(aK s [] q).1).getD 0 []/\BO ((List.range i).map λj=>(aK s [] (aM ts j)).1) t.right (decide (arity t.op>1))=((BF ts t).map λq=>(aK s [] q).1).getD 1 []:=by
  obtain⟨n,f⟩:∃n:Nat,arity t.op=n:=⟨(arity t.op).toNat,aD⟩
  unfold BF;unfold Ag at c⊢
  rw[f,Int.toNat_natCast]at c⊢
  match n,f,c with
  |0,_,_=>exact⟨rfl,rfl⟩
  |1,f,c=>
   have o:=c t.left bj;exact⟨Ox o.1 o.2,rfl⟩
  |2,f,c=>
   have o:=c t.left bj;have z:=c t.right bj;exact⟨Ox o.1 o.2,Ox z.1 z.2⟩
  |n+3,f,_=>omega
 have u:dQ s [] t.query (BO ((List.range i).map λj=>(aK s [] (aM ts j)).1) t.left (decide (arity t.op>0))) (BO ((List.range i).map λj=>(aK s [] (aM ts j)).1) t.right (decide (arity t.op>1)))=aK s [] (.mk t.op t.table t.wher t.columns t.on t.group t.order t.limit (BF ts t)):=by
  rw[C,y.1,y.2];rfl
 unfold BT;rw[u,D,if_neg,if_neg (by rw[g];decide)]
 .exact Prod.ext rfl g
 .rintro(e|e|e)
  .omega
  .rw[x.1]at e;cases e
  .rw[x.2]at e;cases e
theorem H2{s:iJ}{ts:ck}(v:CX s ts):∀(n i:Nat),i+n=ts.length->(Bn s ((List.range i).map λj=>(aK s [] (aM ts j)).1) (ts.drop i)).2=0
 |0,i,d=>by
  rw[drop_of_length_le aD];rfl
 |n+1,i,d=>by
  have c:ts[i]? =some ts[i]:=getElem?_eq_getElem aD;rw[Ln c,S9 v c,if_pos rfl];have:=H2 v n (i+1) aD
  rwa [range_succ,map_append]at this
theorem Tt(v:CX s ts)(c:cX s=0)(f:ts.length<=1024)(g:rs.length<=32)(d:∀r∈rs,0<=r/\r<ts.length):gR s ts rs=0:=by
 rw[G8 c aD,if_neg,if_pos]
 .rw[all_eq_true];intro r e;have:=d r e;simp;omega
 .have:=H2 v ts.length 0 aD;simpa using this
mutual
def gI:Query->Query
 |.mk op ta w co on gr od li args=>if Fh op=true then(EO args).getD 0 XZ else .mk op ta w co on gr od li (EO args)
def EO:cg->cg
 |[]=>[]
 |q::qs=>gI q::EO qs
end
theorem KT:∀l:cg,EO l=l.map gI
 |[]=>by simp[EO]
 |q::l=>by rw[EO,KT l];rfl
def jR(a b:Query)(on:bz):Query:=.mk 5 0 eJ [] on [] [] 0 [a,b]
def iB(a b:Query):Query:=.mk 8 0 eJ [] [] [] [] 0 [a,b]
def BZ(a:Query)(co:bt):Query:=.mk 3 0 eJ co [] [] [] 0 [a]
def Aw(a b:Query)(gr:bt)(od:ca)(li:Int):Query:=.mk 10 0 eJ [] [] gr od li [a,b]
def j6(c:Query->Int)(q D:Query):cg:=
 match q with
 |.mk op _ _ co on gr od li args=>
  match args with
  |[]=>if op=1 then[D]else[]
  |[a]=>
   if op=2 then j6 c a D
   else if op=3 then j6 c a (jR (gI a) D (mU co))
   else if op=9 then j6 c a (Aw (jR (gI a) D (rG gr)) a gr od li)
   else[]
  |a::b::_=>
   if op=4 then j6 c a (BZ (jR D b (Am (c a) (c b))) (gH 0 (c a)))++j6 c b (BZ D (gH (c a) (c b)))
   else if op=5 then j6 c a (jR D b on)++j6 c b (jR (gI b) D (oJ on))
   else if op=6 then j6 c a (iB (gI a) D)++j6 c b (iB (gI b) D)
   else if op=7\/op=8 then j6 c a D++j6 c b (iB (iB (gI b) D) a)
   else if op=10 then j6 c a D++j6 c b (Aw (jR (gI b) D (rG gr)) b gr od li)
   else[]
 termination_by SizeOf.sizeOf q
noncomputable def pN(s:iJ)(q:Query):Int:=((aK s [] q).1.length:Int)
def a4Q(s:iJ)(op ta:Int)(co a b:bt):bt:=if op=1 then iA s ta else if op=3 then co.map (λc=>a.getD c.toNat 0)else if op=4 then a++b else a
structure aWX(s:iJ)(op ta:Int)(co:bt)(on:bz)(gr:bt)(od:ca)(li:Int)(a b:bt)(r:bt):Prop where
 out:r=a4Q s op ta co a b
 len:r.length<=12
 tab:op=1->0<=ta/\ta<s.tables.length
 proj:op=3->co≠[]/\Good (λ_ c=>BM a c=true) co
 pair:op=4\/op=5->Good (kX a b) on
 rank:op=9\/op=10->kT a gr od li
 same:op=6\/op=7\/op=8\/op=10->a=b
theorem qY(h:(kR l).2=0):l.length<=12:=by
 unfold kR at h;split at h
 .assumption
 .cases h
theorem TG{op:Int}{w:Pred}{on:bz}{args:cg}{b:bt}(h:(dQ s [] (.mk op ta w co on gr od li args) a b).2=0):
 aWX s op ta co on gr od li a b (dQ s [] (.mk op ta w co on gr od li args) a b).1/\1<=op/\op<=10:=by
 unfold dQ at h⊢
 by_cases f:arity op<0\/¬cO (.mk op ta w co on gr od li args)
 .rw[if_pos f]at h;simp[dG]at h
 rw[if_neg f]at h⊢
 rw[not_or]at f;have d:=f.1
 have g:op=1\/op=2\/op=3\/op=9\/op=4\/op=5\/op=6\/op=7\/op=8\/op=10:=by
  unfold arity at d;simp only[beq_iff_eq,Bool.or_eq_true]at d;by_cases e:op=1
  .exact .inl e
  .rw[if_neg e]at d;split at d
   .rename_i e;rcases e with(e|e)|e<;>simp[e]
   .split at d
    .rename_i e;rcases e with((((e|e)|e)|e)|e)|e<;>simp[e]
    .simp at d
 refine⟨?_,aD,aD⟩;dsimp only at h⊢
 rcases g with rfl|rfl|rfl|rfl|rfl|rfl|rfl|rfl|rfl|rfl
 .simp only[if_true]at h⊢
  split at h
  .rename_i c;rw[if_pos c];rw[qO h];exact⟨rfl,qY h,λ_=>c,bj,bj,bj,bj⟩
  .simp[dG]at h
 .simp only[show¬((2:Int)=1)by decide,if_true,if_false]at h⊢
  split at h
  .rename_i c;rw[if_pos c];rw[qO h];exact⟨rfl,qY h,bj,bj,bj,bj,bj⟩
  .rename_i c;simp[dG]at h;exact(c h).elim
 .simp only[show¬((3:Int)=1)by decide,show¬((3:Int)=2)by decide,if_true,if_false]at h⊢
  split at h
  .rename_i c;rw[if_pos c];rw[qO h];exact⟨rfl,qY h,bj,λ_=>c,bj,bj,bj⟩
  .simp[dG]at h
 .simp only[show¬((9:Int)=1)by decide,show¬((9:Int)=2)by decide,show¬((9:Int)=3)by decide,show¬((9:Int)=4)by decide,show¬((9:Int)=5)by decide,if_true,if_false]at h⊢
  split at h
  .rename_i c;rw[if_pos c];rw[qO h];exact⟨rfl,qY h,bj,bj,bj,λ_=>c,bj⟩
  .simp[dG]at h
 .simp only[show¬((4:Int)=1)by decide,show¬((4:Int)=2)by decide,show¬((4:Int)=3)by decide,if_true,if_false]at h⊢
  split at h
  .rename_i c;rw[if_pos c];rw[qO h];exact⟨rfl,qY h,bj,bj,λ_=>c,bj,bj⟩
  .simp[dG]at h
 .simp only[show¬((5:Int)=1)by decide,show¬((5:Int)=2)by decide,show¬((5:Int)=3)by decide,show¬((5:Int)=4)by decide,if_true,if_false]at h⊢
  split at h
  .rename_i c;rw[if_pos c];rw[qO h];exact⟨rfl,qY h,bj,bj,λ_=>c,bj,bj⟩
  .simp[dG]at h
 .simp only[show¬((6:Int)=1)by decide,show¬((6:Int)=2)by decide,show¬((6:Int)=3)by decide,show¬((6:Int)=4)by decide,show¬((6:Int)=5)by decide,show¬((6:Int)=9)by decide,show¬((6:Int)=10)by decide,if_true,if_false]at h⊢
  split at h
  .rename_i c;rw[if_pos c];rw[qO h];exact⟨rfl,qY h,bj,bj,bj,bj,λ_=>c⟩
  .simp[dG]at h
 .simp only[show¬((7:Int)=1)by decide,show¬((7:Int)=2)by decide,show¬((7:Int)=3)by decide,show¬((7:Int)=4)by decide,show¬((7:Int)=5)by decide,show¬((7:Int)=9)by decide,show¬((7:Int)=10)by decide,if_true,if_false]at h⊢
  split at h
  .rename_i c;rw[if_pos c];rw[qO h];exact⟨rfl,qY h,bj,bj,bj,bj,λ_=>c⟩
  .simp[dG]at h
 .simp only[show¬((8:Int)=1)by decide,show¬((8:Int)=2)by decide,show¬((8:Int)=3)by decide,show¬((8:Int)=4)by decide,show¬((8:Int)=5)by decide,show¬((8:Int)=9)by decide,show¬((8:Int)=10)by decide,if_true,if_false]at h⊢
  split at h
  .rename_i c;rw[if_pos c];rw[qO h];exact⟨rfl,qY h,bj,bj,bj,bj,λ_=>c⟩
  .simp[dG]at h
 .simp only[show¬((10:Int)=1)by decide,show¬((10:Int)=2)by decide,show¬((10:Int)=3)by decide,show¬((10:Int)=4)by decide,show¬((10:Int)=5)by decide,show¬((10:Int)=9)by decide,if_true,if_false]at h⊢
  split at h
  .rename_i c;rw[if_pos c];rw[qO h];exact⟨rfl,qY h,bj,bj,bj,λ_=>c.2,λ_=>c.1⟩
  .simp[dG]at h
theorem Jf(h:l.length<=12):kR l=(l,0):=by unfold kR;rw[if_pos h]
theorem Zl{on:bz}{args:cg}{b:bt}(h:a.length<=12)(c:Good (kX a b) on):dQ s [] (.mk 5 0 eJ [] on [] [] 0 args) a b=(a,0):=by
 unfold dQ;rw[if_neg (by simp[cO,arity])];simp only[show¬((5:Int)=1)by decide,show¬((5:Int)=2)by decide,show¬((5:Int)=3)by decide,show¬((5:Int)=4)by decide,if_true,if_false,if_pos c,Jf h]
theorem VM{args:cg}(h:a.length<=12):dQ s [] (.mk 8 0 eJ [] [] [] [] 0 args) a a=(a,0):=by
 unfold dQ;rw[if_neg (by simp[cO,arity])];simp only[show¬((8:Int)=1)by decide,show¬((8:Int)=2)by decide,show¬((8:Int)=3)by decide,show¬((8:Int)=4)by decide,show¬((8:Int)=5)by decide,show¬((8:Int)=9)by decide,show¬((8:Int)=10)by decide,if_true,if_false,Jf h]
theorem Zm{args:cg}{b:bt}(d:co≠[])(e:Good (λ_ c=>BM a c=true) co)(h:co.length<=12):dQ s [] (.mk 3 0 eJ co [] [] [] 0 args) a b=(co.map (λc=>a.getD c.toNat 0),0):=by
 unfold dQ;rw[if_neg (by simp[cO,arity])];simp only[show¬((3:Int)=1)by decide,show¬((3:Int)=2)by decide,if_true,if_false];rw[if_pos ⟨d,e⟩,Jf (bo h)]
theorem Zn{args:cg}(h:a.length<=12)(c:kT a gr od li):dQ s [] (.mk 10 0 eJ [] [] gr od li args) a a=(a,0):=by
 unfold dQ;rw[if_neg (by simp[cO,arity])];simp only[show¬((10:Int)=1)by decide,show¬((10:Int)=2)by decide,show¬((10:Int)=3)by decide,show¬((10:Int)=4)by decide,show¬((10:Int)=5)by decide,show¬((10:Int)=9)by decide,if_true,if_false];rw[if_pos ⟨rfl,c⟩,Jf h]
theorem fN.k{q:Query}(g:fN s q):aK s [] q=((aK s [] q).1,0):=Prod.ext rfl g.kinds
theorem fN.two{op:Int}{w:Pred}{on:bz}{a b:Query}{K:bt}(d:fN s a)(e:fN s b)(c:arity op=2)(f:dQ s [] (.mk op ta w co on gr od li [a,b]) (aK s [] a).1 (aK s [] b).1=(K,0))(n:CB w)(o:fE 4 (.mk op ta w co on gr od li [a,b])<=1000000):
 fN s (.mk op ta w co on gr od li [a,b])/\(aK s [] (.mk op ta w co on gr od li [a,b])).1=K:=by
 have g:aK s [] (.mk op ta w co on gr od li [a,b])=(K,0):=by
  rw[aK,sG (ks:=[(aK s [] a).1,(aK s [] b).1]) (by show[aK s [] a,aK s [] b]=[((aK s [] a).1,0),((aK s [] b).1,0)];rw[<-d.k, <-e.k])];dsimp only;rw[if_pos rfl,if_pos (by rw[c];rfl)];exact f
 refine⟨⟨by rw[g],Hq.2 ⟨VN (s:=s) (ps:=[]) (a:=(aK s [] a).1) (b:=(aK s [] b).1) (jH ..) (jH ..) bj n (by rw[f]),λq j=>?_⟩,o⟩,by rw[g]⟩;simp at j;rcases j with rfl|rfl
 .exact d.ints
 .exact e.ints
theorem fN.one{op:Int}{w:Pred}{on:bz}{a:Query}{K:bt}(d:fN s a)(c:arity op=1)(e:dQ s [] (.mk op ta w co on gr od li [a]) (aK s [] a).1 []=(K,0))(j:CB w)(n:fE 4 (.mk op ta w co on gr od li [a])<=1000000):
 fN s (.mk op ta w co on gr od li [a])/\(aK s [] (.mk op ta w co on gr od li [a])).1=K:=by
 have f:aK s [] (.mk op ta w co on gr od li [a])=(K,0):=by
  rw[aK,sG (ks:=[(aK s [] a).1]) (by show[aK s [] a]=[((aK s [] a).1,0)];rw[<-d.k])];dsimp only;rw[if_pos rfl,if_pos (by rw[c];rfl)];exact e
 refine⟨⟨by rw[f],Hq.2 ⟨VN (s:=s) (ps:=[]) (a:=(aK s [] a).1) (b:=[]) (jH ..) bj bj j (by rw[e]),λq g=>?_⟩,n⟩,by rw[f]⟩;simp at g;subst g;exact d.ints
theorem C2{s:iJ}{a b:Query}{on:bz}(c:fN s a)(d:fN s b)(e:Good (kX (aK s [] a).1 (aK s [] b).1) on)(f:fE 4 a+fE 4 b<=1000000):fN s (jR a b on)/\(aK s [] (jR a b on)).1=(aK s [] a).1:=
 fN.two c d rfl (Zl (jH ..) e) nR (by simpa[fE,sB]using f)
theorem xX{a b:Query}(c:fN s a)(d:fN s b)(e:(aK s [] a).1=(aK s [] b).1)(f:fE 4 a+fE 4 b<=1000000):fN s (iB a b)/\(aK s [] (iB a b)).1=(aK s [] a).1:=
 fN.two c d rfl (by rw[<-e];exact VM (jH ..)) nR (by simpa[fE,sB]using f)
theorem Po{s:iJ}{a:Query}{co:bt}(d:fN s a)(e:co≠[])(f:Good (λ_ c=>BM (aK s [] a).1 c=true) co)(g:co.length<=12)(j:fE 4 a<=1000000):fN s (BZ a co)/\(aK s [] (BZ a co)).1=co.map (λc=>(aK s [] a).1.getD c.toNat 0):=
 fN.one d rfl (Zm e f g) nR (by simpa[fE,sB]using j)
theorem Zf{s:iJ}{a b:Query}{gr:bt}{od:ca}{li:Int}(c:fN s a)(d:fN s b)(e:(aK s [] a).1=(aK s [] b).1)(f:kT (aK s [] a).1 gr od li)(g:fE 4 a+fE 4 b<=1000000):fN s (Aw a b gr od li)/\(aK s [] (Aw a b gr od li)).1=(aK s [] a).1:=
 fN.two c d rfl (by rw[<-e];exact Zn (jH ..) f) nR (by simpa[fE,sB]using g)
theorem fN.node{op:Int}{w:Pred}{on:bz}{args:cg}(g:fN s (.mk op ta w co on gr od li args)):
 aWX s op ta co on gr od li ((args.map λq=>(aK s [] q).1).getD 0 []) ((args.map λq=>(aK s [] q).1).getD 1 []) (aK s [] (.mk op ta w co on gr od li args)).1/\(1<=op/\op<=10)/\(args.length:Int)=arity op/\∀a∈args,fN s a:=by
 have c:=Fw g.kinds;have h:=g.kinds;rw[c]at h;have:=TG h;rw[<-c]at this;exact⟨this.1,this.2,(kM g.kinds).2.1,λa d=>g.arg d⟩
theorem brZ{op:Int}{on:bz}{args:cg}{w:Pred}(g:fN s (.mk op ta w co on gr od li args)):co.length<=12/\on.length<=12/\gr.length<=12/\od.length<=12:=by
 obtain⟨_,_,a,b,D,_,h⟩:=kM g.kinds;have n:=(TG h).1
 have z:cO (.mk op ta w co on gr od li args):=by
  unfold dQ at h;by_cases o:arity op<0\/¬cO (.mk op ta w co on gr od li args)
  .rw[if_pos o]at h;simp[dG]at h
  .rw[not_or]at o;exact Classical.not_not.1 o.2
 obtain⟨_,_,A,B,C⟩:=z
 have d:Good (kX a b) on->on.length<=12:=λg=>by
  have:=Jk (f:=λp=>p.1) (n:=a.length) g (λc x t=>by have:=t.1;rw[dW]at this;exact this) (λc x t y u=>(t.2.2.2 y u).1);omega
 have j:kT a gr od li->gr.length<=12/\od.length<=12:=λr=>by
  have:=Jk (f:=λp=>p) (n:=a.length) r.group_ (λc x t=>by have:=t.1;rw[dW]at this;exact this) (λc x t y u e=>t.2 (by rw[<-e];exact u));exact⟨aD,r.len_⟩
 refine⟨?_,?_,?_⟩
 .rcases A with rfl|rfl
  .have:=n.len;rw[n.out]at this;simpa[a4Q]using this
  .simp
 .rcases B with rfl|rfl|rfl
  .exact d (n.pair (.inl rfl))
  .exact d (n.pair (.inr rfl))
  .simp
 .rcases C with rfl|rfl|⟨rfl,rfl,_⟩
  .exact j (n.rank (.inl rfl))
  .exact j (n.rank (.inr rfl))
  .simp
theorem He{s:iJ}:∀{l c:cg},l.map (aK s [])=c.map (aK s [])->dV s [] l=dV s [] c
 |[],[],_=>rfl
 |[],_::_,h=>by simp at h
 |_::_,[],h=>by simp at h
 |q::l,d::c,h=>by
  simp only[map_cons,List.cons.injEq]at h;rw[dV,dV,h.1,He h.2]
theorem VY{op:Int}{w:Pred}{on:bz}{args c:cg}(h:c.map (aK s [])=args.map (aK s [])):aK s [] (.mk op ta w co on gr od li c)=aK s [] (.mk op ta w co on gr od li args):=by
 rw[aK,aK,He h];split;rename_i ks e _;rw[Hu s [] op ta w co on gr od li c,Hu s [] op ta w co on gr od li args]
theorem aoZ{f:Query->Query}:∀{l:cg},(∀a∈l,fE 4 (f a)<=fE 4 a)->sB 4 (l.map f)<=sB 4 l/\u0 4 (l.map f)<=u0 4 l
 |[],_=>⟨Nat.le_refl _,Nat.le_refl _⟩
 |q::l,h=>by
  have c:=h q bj;have d:=aoZ (l:=l) λa e=>h a (by simp[e]);simp only[map_cons,sB,u0];exact⟨aD,Nat.mul_le_mul c d.2⟩
theorem YD{op:Int}{w:Pred}{on:bz}{args:cg}(g:fN s (.mk op ta w co on gr od li args)){a:Query}(d:a∈args):fE 4 a<=fE 4 (.mk op ta w co on gr od li args):=by
 obtain⟨j,f,n,_⟩:=sH g.k;have o:=JF (c:=4) aD f a d;rw[fE];split
 .rename_i e;subst e;rw[J0 f n]at d;cases d
 .split<;>omega
theorem RQ{op:Int}(h:Fh op=true):op=7\/op=9\/op=10:=by
 unfold Fh at h;simp only[Bool.or_eq_true,beq_iff_eq]at h;omega
theorem Dd{s:iJ}:∀q:Query,fN s q->fN s (gI q)/\(aK s [] (gI q)).1=(aK s [] q).1/\fE 4 (gI q)<=fE 4 q
 |.mk op ta w co on gr od li args,g=>by
  obtain⟨n,A,o,x⟩:=g.node;have j:∀a∈args,fN s (gI a)/\(aK s [] (gI a)).1=(aK s [] a).1/\fE 4 (gI a)<=fE 4 a:=λa d=>Dd a (x a d);rw[gI];split
  .rename_i B;have C:=RQ B
   obtain⟨a,c,rfl⟩:∃a c,args=a::c:=by
    cases args with
    |nil=>
     exfalso;have:(1:Int)<=arity op:=by rcases C with rfl|rfl|rfl<;>decide
     simp only[length_nil]at o;omega
    |cons a c=>exact⟨a,c,rfl⟩
   have u:=j a bj;have e:(EO (a::c)).getD 0 XZ=gI a:=by rw[EO];rfl
   rw[e];refine⟨u.1,?_,Nat.le_trans u.2.2 (YD g bj)⟩;rw[u.2.1,n.out];unfold a4Q;rw[if_neg aD,if_neg aD,if_neg aD];rfl
  .rw[KT]
   have y:aK s [] (.mk op ta w co on gr od li (args.map gI))=aK s [] (.mk op ta w co on gr od li args):=VY (by
    rw[map_map];refine map_congr_left λa d=>?_;show aK s [] (gI a)=aK s [] a;rw[(j a d).1.k,(x a d).k,(j a d).2.1])
   have z:fE 4 (.mk op ta w co on gr od li (args.map gI))<=fE 4 (.mk op ta w co on gr od li args):=by
    have:=aoZ (l:=args) (f:=gI) λa d=>(j a d).2.2;simp only[fE];split
    .exact Nat.le_refl _
    .split
     .exact this.2
     .exact this.1
   refine⟨⟨by rw[y];exact g.kinds,Hq.2 ⟨(Hq.1 g.ints).1,λq D=>?_⟩,Nat.le_trans z g.bnd⟩,by rw[y],z⟩;obtain⟨a,d,rfl⟩:=mem_map.1 D;exact(j a d).1.ints
 termination_by q=>SizeOf.sizeOf q
theorem apX(h:cX s=0){t:Int}(e:0<=t)(f:t<s.tables.length):0<(iA s t).length:=by
 have c:JK s:=by
  unfold cX at h;split at h
  .split at h
   .assumption
   .cases h
  .cases h
 unfold iA;rw[if_neg aD];have d:t.toNat<s.tables.length:=by omega
 rw[getElem?_eq_getElem d];have:=c.2.2.1 t.toNat _ (getElem?_eq_getElem d);have g:=this.2.1;have j:=this.2.2.1;simp only[length_map];omega
theorem Th(h:cX s=0):s.tables.length<=1000:=by
 unfold cX at h;split at h
 .rename_i e;have:=e.1;omega
 .cases h
theorem Kj{s:iJ}(j:cX s=0):∀q:Query,fN s q->0<(aK s [] q).1.length
 |.mk op ta w co on gr od li args,g=>by
  obtain⟨n,o,f,u⟩:=g.node;rw[n.out]
  have x:op≠1->∃a d,args=a::d:=λy=>by
   cases args with
   |nil=>
    exfalso;simp only[length_nil]at f;unfold arity at f;simp only[beq_iff_eq,Bool.or_eq_true,if_neg y]at f;split at f
    .omega
    .split at f
     .omega
     .omega
   |cons a d=>exact⟨a,d,rfl⟩
  unfold a4Q;split
  .rename_i e;exact apX j (n.tab e).1 (n.tab e).2
  .rename_i z;obtain⟨a,d,rfl⟩:=x z;have A:=Kj j a (u a bj);split
   .rename_i B;have:=(n.proj B).1;rw[length_map];cases co with
    |nil=>exact(this rfl).elim
    |cons c r=>simp
   .split
    .simp only[length_append];have:((List.map (λq=>(aK s [] q).1) (a::d)).getD 0 []).length=(aK s [] a).1.length:=rfl;omega
    .exact A
 termination_by q=>SizeOf.sizeOf q
theorem XD{op:Int}{w:Pred}{on:bz}{ks:cu}(h:(ks.length:Int)=arity op):BF ts (xJ op ta w co on gr od li ks)=ks.map (aM ts):=by
 have c:=Dg op;unfold BF Ag xJ;dsimp only;rw[<-h,Int.toNat_natCast]
 match ks,h with
 |[],_=>rfl
 |[a],_=>simp
 |[a,b],_=>simp
 |_::_::_::_,h=>simp at h;omega
theorem azX{n:Nat}{op:Int}{w:Pred}{on:bz}{ks:cu}(h:(ks.length:Int)=arity op)(c:∀k∈ks,k<n):mY n (xJ op ta w co on gr od li ks):=by
 have d:=Dg op;unfold mY xJ BA;dsimp only;rw[<-h]
 match ks,h,c with
 |[],_,_=>simp
 |[a],_,c=>have:=c a bj;simp;omega
 |[a,b],_,c=>have:=c a bj;have:=c b bj;simp;omega
 |_::_::_::_,h,_=>simp at h;omega
structure Aj(s:iJ)(ts ts':ck)(k:Nat)(q:Query):Prop where
 inv:CX s ts'
 pre:ts<+:ts'
 lt:k<ts'.length
 is:aM ts' k=q
theorem JH{s:iJ}{ts:ck}{op ta:Int}{w:Pred}{co:bt}{on:bz}{gr:bt}{od:ca}{li:Int}{ks:cu}{args:cg}(d:s.tables.length<=1000)(v:CX s ts)(e:ts.length<=100000)(c:(ks.length:Int)=arity op)(f:∀k∈ks,k<ts.length)(j:ks.map (aM ts)=args)(g:fN s (.mk op ta w co on gr od li args)):
 Aj s ts (bR (xJ op ta w co on gr od li ks) ts).1 (bR (xJ op ta w co on gr od li ks) ts).2 (.mk op ta w co on gr od li args):=by
 obtain⟨y,z,A,B⟩:=brZ g;obtain⟨n,o,u,x⟩:=axX (t:=xJ op ta w co on gr od li ks) d v e (by show 0<=arity op;omega) (azX c f) g (by rw[XD c,j];rfl) ⟨by show co.length<=1000;omega,by show on.length<=1000;omega,by show gr.length<=1000;omega,by show od.length<=1000;omega⟩;exact⟨n,o,u,x⟩
def FQ(s:iJ)(ts:ck)(p:PN):Prop:=
 match p with
 |.mk q args r e c=>r<ts.length/\e<ts.length/\aM ts r=q/\aM ts e=gI q/\c=pN s q/\fN s q/\q.args=args.map PN.q/\∀a∈args,FQ s ts a
 termination_by SizeOf.sizeOf p
theorem FQ.mono{s:iJ}{ts c:ck}(d:ts<+:c)(ok:Bb c):∀p:PN,FQ s ts p->FQ s c p
 |.mk q args r e A,h=>by
  rw[FQ]at h⊢
  obtain⟨f,g,j,n,o,u,x,y⟩:=h;have B:=d.length_le;exact⟨aD,aD,by rw[eA d ok r f];exact j,by rw[eA d ok e g];exact n,o,u,x,λa z=>FQ.mono d ok a (y a z)⟩
 termination_by p=>SizeOf.sizeOf p
theorem FQ.get{p:PN}(h:FQ s ts p):p.rows<ts.length/\p.env<ts.length/\aM ts p.rows=p.q/\aM ts p.env=gI p.q/\p.width=pN s p.q/\fN s p.q/\p.q.args=p.args.map PN.q/\∀a∈p.args,FQ s ts a:=by
 cases p;rw[FQ]at h;exact h
theorem aqJ{s:iJ}{ts:ck}:∀p:PN,FQ s ts p->G7 p/\jI p=vS p.q
 |.mk (.mk op ta w co on gr od li c) args r e y,h=>by
  rw[FQ]at h;obtain⟨_,_,_,_,o,n,f,u⟩:=h;have f:c=args.map PN.q:=f;obtain⟨z,A,B,C⟩:=brZ n;obtain⟨_,_,j,_⟩:=n.node;have g:∀a∈args,G7 a/\jI a=vS a.q:=λa d=>aqJ a (u a d);have D:=jH s [] (.mk op ta w co on gr od li c);unfold pN at o;refine⟨?_,?_⟩
  .rw[G7];exact⟨by rw[<-j,f,length_map],aD,aD,aD,aD,aD,aD,λa d=>(g a d).1⟩
  .have key:∀l:dn,(∀a∈l,jI a=vS a.q)->pP l=nO (l.map PN.q):=by
    intro l
    induction l with
    |nil=>intro _;simp[pP,nO]
    |cons a l g=>intro h;simp only[pP,map_cons,nO,h a bj,g λb x=>h b (by simp[x])]
   simp only[jI,PN.q,vS,f];rw[key args λa d=>(g a d).2]
 termination_by p=>SizeOf.sizeOf p
mutual
theorem SR{s:iJ}(y:s.tables.length<=1000):∀(q:Query)(ts:ck),fN s q->CX s ts->ts.length+2*vS q<=100000->CX s (eK s q ts).2/\ts<+:(eK s q ts).2/\FQ s (eK s q ts).2 (eK s q ts).1/\(eK s q ts).1.q=q
 |.mk op ta w co on gr od li args,ts,g,v,F=>by
  obtain⟨n,G,o,H⟩:=g.node;simp only[vS]at F;have j:=Lf (.mk op ta w co on gr od li args) ts g.kinds;obtain⟨I,C,z,u⟩:=Pd y args ts H v aD;have R:=vU s args ts;rw[FX]at j⊢
  generalize J:(dM s args ts).1=P at*
  generalize S:(dM s args ts).2=T at*
  have e:P.length=args.length:=by rw[<-J];exact E4 s args ts
  have L:(P.map PN.rows).map (aM T)=args:=by
   rw[map_map, <-u];exact map_congr_left λp f=>(z p f).get.2.2.1
  have A:=JH y I aD (by rw[length_map,e];exact o) (λk B=>by obtain⟨p,f,rfl⟩:=mem_map.1 B;exact(z p f).get.1) L g;have x:∀p∈P,FQ s (bR (xJ op ta w co on gr od li (P.map PN.rows)) T).1 p:=λp f=>FQ.mono A.pre A.inv.ok p (z p f);have M:=dH (xJ op ta w co on gr od li (P.map PN.rows)) T;unfold Xv at j⊢
  dsimp only at j⊢
  split at j
  .rename_i c;rw[if_pos c];have O:=RQ c
   obtain⟨p,d,rfl⟩:∃a d,P=a::d:=by
    cases P with
    |nil=>
     exfalso;have:(1:Int)<=arity op:=by rcases O with rfl|rfl|rfl<;>decide
     simp only[length_nil]at e;omega
    |cons a d=>exact⟨a,d,rfl⟩
   have D:=(x p bj).get;refine⟨A.inv,C.trans A.pre,?_,rfl⟩;rw[FQ];refine⟨A.lt,D.2.1,A.is,?_,j,g,u.symm,x⟩;show aM _ p.env=_;rw[D.2.2.2.1,gI,if_pos c, <-u,map_cons,EO];rfl
  .rename_i c;rw[if_neg c]
   have Q:(P.map PN.env).map (aM (bR (xJ op ta w co on gr od li (P.map PN.rows)) T).1)=EO args:=by
    rw[map_map,KT, <-u,map_map];exact map_congr_left λp f=>(x p f).get.2.2.2.1
   have E:=(Dd _ g).1;rw[gI,if_neg c]at E;have A2:=JH y A.inv aD (by rw[length_map,e];exact o) (λk B=>by obtain⟨p,f,rfl⟩:=mem_map.1 B;exact(x p f).get.2.1) Q E;refine⟨A2.inv,(C.trans A.pre).trans A2.pre,?_,rfl⟩;rw[FQ];refine⟨Nat.lt_of_lt_of_le A.lt A2.pre.length_le,A2.lt,by rw[eA A2.pre A2.inv.ok _ A.lt];exact A.is,by rw[A2.is,gI,if_neg c],j,g,u.symm,λp f=>FQ.mono A2.pre A2.inv.ok p (x p f)⟩
theorem Pd{s:iJ}(d:s.tables.length<=1000):∀(l:cg)(ts:ck),(∀q∈l,fN s q)->CX s ts->ts.length+2*nO l<=100000->CX s (dM s l ts).2/\ts<+:(dM s l ts).2/\(∀p∈(dM s l ts).1,FQ s (dM s l ts).2 p)/\(dM s l ts).1.map PN.q=l
 |[],ts,_,v,_=>by simp only[dM];exact⟨v,prefix_refl _,λp c=>by simp at c,rfl⟩
 |q::l,ts,h,v,g=>by
  simp only[nO]at g;obtain⟨j,n,o,u⟩:=SR d q ts (h q bj) v aD;have A:=BQ s q ts;obtain⟨e,f,x,y⟩:=Pd d l (eK s q ts).2 (λa z=>h a (by simp[z])) j aD;rw[dM];refine⟨e,n.trans f,λp c=>?_,by rw[map_cons,u,y]⟩;rcases mem_cons.1 c with rfl|c
  .exact FQ.mono f e.ok _ o
  .exact x p c
end
end Go.Ps
