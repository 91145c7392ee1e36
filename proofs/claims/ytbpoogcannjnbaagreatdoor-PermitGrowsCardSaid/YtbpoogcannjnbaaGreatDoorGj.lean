/- Own work. -/
import Derived.Test.YtbpoogcannjnbaaGreatDoorGi
set_option linter.unusedVariables false
set_option linter.unusedSimpArgs false
namespace Go.Ps
open Go Go.Vc Go.Proofs List Tryz
variable{K:dc}{m:MH}{h:PH}{s:j4}{ps:dd}{cb:Nat}{sc:bJ}{v:QV}{q:Query}{p:Pred}{l:dd}{i:Nat}{N:Nat}{m':MH}{h':PH}{co:dd}{gr:dd}{od:dg}{w:Pred}{ta:Int}{li:Int}{xs:List cv}{sz:Nat}{k:Nat}{ks:List dd}{rs:dd}{r:Sl}{a:dd}{b:Nat}
structure bsJ(s:j4)(t:Int)(q:Query):Prop where
 siz:F0 2 q
 kin:cJ s [4] q=(jL s t,0)
def b2Q:Vc.Spec:=λc m h K=>∃cb sc p s,∃t:Nat,c=[cP cb,aS sc,cS p,cI t]/\aL m h cb/\dM h s sc/\mN s/\Ints h p [4]/\t<s.tables.length/\KQ K m h cb (bsJ s t)
structure Ik(s:j4)(rs:List lR):Prop where
 few:rs.length<=5
 ok:∀r∈rs,jC s [4] r=0
 siz:∀r∈rs,F0 2 r.query
def aoZ:Vc.Spec:=λc m h K=>∃cb sc s,c=[cP cb,aS sc]/\aL m h cb/\dM h s sc/\mN s/\∀p r rs m' h',PH.le h h'->iH h' p r [4] rs->Ik s rs->aT m m' cb->aL m' h' cb->K (bnJ p r) m' h'
def bAZ(sc:bJ)(x:QV):List (Nat×Go.Vc.Own):=[(5,.cells 29 (sc.enc.map .val)),(8,.cells 68 (wI.enc.map .val)),(10,.cells 68 (x.enc.map .val))]
noncomputable def bNQ(cb:Nat)(sc:bJ)(p:Sl)(t:Nat):Ctx:=rT [(29,tW),(53,anZ),(13,FY),(54,Z3 1000),(27,tV),(55,brZ),(52,Cx),(20,Il),(57,S5),(56,Ur)]
 [(12,{A:=Nat×Sl×dd×MH×PH,st:=λ⟨i,a,l,m,h⟩=>bU 83 87 [(0,pv cb),(2,sv p),(3,iv t),(5,.at (.ptr 5 0)),(8,.at (.ptr 8 0)),(14,.at (.ptr 14 0)),(15,iv i)] [(5,.cells 29 (sc.enc.map .val)),(8,.cells 68 (wI.enc.map .val)),(14,.cells 68 (.val (.int .i64 3):: .val (.int .i64 0)::(gU.enc.map .val++[.lst 70,.val bT.val,.val bT.val,.val bT.val,.val (.int .i64 0),.val a.val]))),(70,.lst 3 1 (l.map eI))] m h})]
 [(10,{A:=QV×MH×PH,st:=λ⟨x,m,h⟩=>bU 83 87 [(0,pv cb),(2,sv p),(3,iv t),(5,.at (.ptr 5 0)),(8,.at (.ptr 8 0)),(10,.at (.ptr 10 0))] (bAZ sc x) m h})] [] [100028,100051,100054] [] false
noncomputable def caQ(cb:Nat)(sc:bJ):Ctx:=rT [(13,FY),(20,Il),(26,b2Q),(27,tV)]
 [(3,{A:=Int×Sl×List bM×MH×PH,st:=λ⟨n,p,l,m,h⟩=>bU 89 91 [(0,pv cb),(3,.at (.ptr 3 0)),(4,.at (.ptr 4 0)),(5,.at (.ptr 5 0)),(6,iv n)] [(3,.cells 29 (sc.enc.map .val)),(4,.cells 34 [.val bT.val,.val bT.val]),(5,.cells 34 [.val p.val,.lst 86]),(86,.lst 70 24 (l.map bM.enc))] m h}),
  (9,{A:=Int×Int×Nat×Int×dd×Sl×List bM×MH×PH,st:=λ⟨j,k,t,n,c,p,l,m,h⟩=>bU 89 91 [(0,pv cb),(3,.at (.ptr 3 0)),(4,.at (.ptr 4 0)),(5,.at (.ptr 5 0)),(6,iv n),(7,.at (.ptr 7 0)),(8,iv j)] [(3,.cells 29 (sc.enc.map .val)),(4,.cells 34 [.val bT.val,.val bT.val]),(5,.cells 34 [.val p.val,.lst 86]),(7,.cells 70 (.val (.int .i64 k):: .val (.int .i64 t):: .lst 61::wI.enc.map .val)),(61,.lst 3 1 (c.map eI)),(86,.lst 70 24 (l.map bM.enc))] m h})]
 [(8,{A:=Int×Nat×Int×Sl×List bM×MH×PH,st:=λ⟨k,t,n,p,l,m,h⟩=>bU 89 91 [(0,pv cb),(3,.at (.ptr 3 0)),(4,.at (.ptr 4 0)),(5,.at (.ptr 5 0)),(6,iv n),(7,.at (.ptr 7 0))] [(3,.cells 29 (sc.enc.map .val)),(4,.cells 34 [.val bT.val,.val bT.val]),(5,.cells 34 [.val p.val,.lst 86]),(7,.cells 70 (.val (.int .i64 k):: .val (.int .i64 t):: .val bT.val::wI.enc.map .val)),(86,.lst 70 24 (l.map bM.enc))] m h})] [] [100011] [] false
abbrev Ha(a:QV×MH×PH->Prop)(b:Nat)(c:Sl)(d:Nat)(e:bJ)(g:dt)(i:MH)(j:PH):Prop:=∃(x:QV×MH×PH),aA (a x) (bZ b) (aA (aH c) (nM d) (aA bS dC (aA l8 (aU e) (nO iY (BP g x) (iD i x.2) (fI j x.2)))))
noncomputable abbrev Ki(a:Nat×Sl×dd×MH×PH):List cv:=gI a.2.2.1
noncomputable abbrev rC(a:Nat×Sl×dd×MH×PH):MH×PH:=a.2.2.2
attribute [push_cast] Ha Ki rC
def Wx(cb:Nat)(sc:bJ)(p:Sl)(t:Nat)(m:MH)(h:PH)(K:dc):Prop:=
  Am (cO (gL sc) (↑t:Int)) h (λs C=>∃(M:Int),eN (↑t:Int) M/\∃(I:QV×MH×PH->Prop),fU cb 4 m C (λk F=>bK k 0 (Ha I cb p t sc (cG (iN 1) (iN M) (cG dA dA (cG dA dA (cG dA dA (BJ BV BV (rN BV)))))) F C) (bK k 1 (∃(c:Nat),DG (λG B=>DT (λj z=>∃(d:Int),aA (cZ cb (cE (dX sc) (eJ p 1))=cZ c (cE (dX G) (eJ B d))) (aL F C c) (aA (dM C j G) (dK j=0) (aA (jS (j.tables=[])) (Ints C B z) (aA (gJ z) (gO (DE z)) (aI (Int.negSucc 0<=d) (d<=1000) ((d+1).toNat<1000) (Gg (λw q=>eZ (λf n=>cR C n (dR n q w) (aR (QW q) (DO d.toNat q) (aR ((eG j z q).2=0) (aT F f c) (iS f n c (EL sc p w n (λ_ _ _ O u=>(∃(g:Nat),
 JO cb s O g f u (λa b o J=>eZ (λD A=>cR u A (lF A o J) (aR (J.length<=10) (Good (zA a b) J) (aR (aT f D g) (aL D A g) (bQ A 21 (vZ M::fV w.enc) (λP E=>Ha I cb p t sc (cG (iN 5) dA (cG dA dA (cG dA dA (cG dA dA (BJ BV (fY o) (qB P)))))) D E)))))))/\bQ u 21 (vZ M::fV w.enc) (λP A=>∃(g:Nat),JO cb s O g f A (λa b o J=>eZ (λD E=>cR A E (lF E o J) (aR (J.length<=10) (Good (zA a b) J) (aR (aT f D g) (aL D E g) (Ha I cb p t sc (cG (iN 5) dA (cG dA dA (cG dA dA (cG dA dA (BJ BV (fY o) (qB P)))))) D E))))))))))))))))))))) ((∃(c:Nat),yH (λG H g B d=>aA (cZ cb (cQ s (eJ p 1))=cZ c (cQ G
 (eJ H (↑d:Int)))) (aL F C c) (aA (Ints C G g) (Ints C H B) (aI (gJ g) (gJ B) (jV d) (Cd (λv z=>eZ (λf n=>cR C n (eX n z v) (aR (wX g B d z) (aT F f c) (iS f n c (bQ n 21 (fV (vZ M)) (λj u=>Ha I cb p t sc (Kd 2 v j) f u)))))))))))/\bQ C 21 (fV (vZ M)) (λG n=>∃(c:Nat),yH (λj H g B d=>aA (cZ cb (cQ s (eJ p 1))=cZ c (cQ j (eJ H (↑d:Int)))) (aL F n c) (aA (Ints n j g) (Ints n H B) (aI (gJ g) (gJ B) (jV d) (Cd (λv z=>eZ (λf u=>cR n u (eX u z v) (aR (wX g B d z) (aT F f c) (iS f u c (Ha I cb p t sc (Kd 2 v G) f u)))))))))))))/\∀(x:QV×MH×PH),I x->bQ x.2.2 21 (fV x.1.enc) (λG n=>∃(I1
 :Nat×Sl×dd×MH×PH->Prop)(F:Nat×Sl×dd×MH×PH->Nat),(∃(e:Nat×Sl×dd×MH×PH),aA (I1 e) (bZ cb) (aA (aH p) (nM t) (aA bS dC (aA (eP 14) (bE e.1) (aA (aU sc) iY (aA (oQ 68 (cG (iN 3) dA (cG dA dA (cG dA dA (cG dA dA (BJ (At.lst 70) BV (qB G))))))=oQ 68 (cG (iN 3) dA (cG dA dA (cG dA dA (cG dA dA (BJ (At.lst 70) BV (qB e.2.1))))))) (uE (Ki e)) (fM x.2.1 (rC e) n)))))))/\∀(e:Nat×Sl×dd×MH×PH),I1 e->bD (λb o=>aI (bF (mD sc) b o) (0<=(↑t:Int)) ((↑t:Int)<aG sc.tables) (∃(y:Int),aJ (rC e).1 (rC e).2 b (bB o t 5+2) (bG y)/\aY (↑e.1:Int) y (kX (Ki e) 8 (∃(L:Nat×Sl×dd×MH×PH),aA (I1 L) (F
 L<F e) (aA (bZ cb) (aH p) (aA (nM t) bS (aA dC (eP 14) (aA (fJ (aW e.1 1)=bY L.1) (aU sc) (aA iY (oQ 68 (cG (iN 3) dA (cG dA dA (cG dA dA (cG dA dA (BJ (At.lst 70) BV (qB e.2.1))))))=oQ 68 (cG (iN 3) dA (cG dA dA (cG dA dA (cG dA dA (BJ (At.lst 70) BV (qB L.2.1))))))) (aI (uF (Ki e) (↑e.1:Int) (Ki L)) (iD (rC e).1 (rC L)) (fI (rC e).2 (rC L)) True)))))))) (kT cb 6 (rC e).1 (rC e).2 (λc r=>∀(f:MH),aR (aT (rC e).1 f c) (aL f (rC e).2 c) (branch r (Bi (λv j=>∃(H:Nat)(S:sZ),aA (cO (gL sc) (↑t:Int)=cO (gL v) (↑H:Int)) (dM (rC e).2 j v) (aA (mQ j) (C7 j H S) (jS (S.columns=[])/\lE
 (λO u=>cR (rC e).2 u (Ints u O (jL j (↑H:Int))) (bQ u 1 (gI e.2.2.1) (λP A=>∃(g:Nat)(T:bJ),jE (λB k=>∃(U:QV),DT (λQ z=>∃(R:dd)(q:Query),aA (cZ cb (cE (dX sc) (cQ p (fP O (nS (bH (cV 3) (cV 0) (bH (cV 0) (cV 0) (lI (bH Cz (cV 0) (bH (cV 0) (cV 0) (bH (cV 0) Cz (bH tE (eF P) (BQ (zM (aM e.2.1))))))))))))))=cZ g (cE (dX T) (cQ B (fP k (eH U))))) (aL f A g) (aA (dM A Q T) (mQ Q) (aA (jV Q.tables.length) (Ints A B z) (aA (gJ z) (Ints A k R) (aI (gJ R) (dR A q U) (QW q) (Gg (λw V=>eZ (λD E=>cR A E (dR E V w) (aR (amJ Q z R q V) (aT f D g) (iS D E g (K (eH w) D E))))))))))))))))))) (bQ (rC e).2 1
 (gI e.2.2.1) (λj u=>K (nS (bH (cV 3) (cV 0) (bH (cV 0) (cV 0) (lI (bH Cz (cV 0) (bH (cV 0) (cV 0) (bH (cV 0) Cz (bH tE (eF j) (BQ (zM (aM e.2.1))))))))))) f u)))))))))
abbrev Bv:Prop:=eQ (oQ 34 (fZ BV BV))
noncomputable abbrev O6(a:List bM):List cv:=List.map bM.enc a
noncomputable abbrev yD(a:Int×Sl×List bM×MH×PH):List cv:=O6 a.2.2.1
noncomputable abbrev nJ(a:Int×Sl×List bM×MH×PH):MH×PH:=a.2.2.2
noncomputable abbrev pU(a:Int×Nat×Int×Sl×List bM×MH×PH):Int×Sl×List bM×MH×PH:=a.2.2
noncomputable abbrev Fl(a b:Int)(c:At):dt:=cG (iN a) (iN b) (cG c dA (cG dA dA (cG dA dA (cG dA dA (cG dA aQz (cG dA dA (cG dA dA (cG aQz BV (cG BV BV (cG BV BV (fZ dA BV)))))))))))
abbrev pM(a b:List cv):Prop:=Option.some (Own.lst 70 24 a)=Option.some (Own.lst 70 24 b)
noncomputable abbrev C5(a:Int×Int×Nat×Int×dd×Sl×List bM×MH×PH):Int:=a.2.2.2.1
noncomputable abbrev Ax(a:Int×Int×Nat×Int×dd×Sl×List bM×MH×PH):Sl:=a.2.2.2.2.2.1
noncomputable abbrev Hb(a:Int×Int×Nat×Int×dd×Sl×List bM×MH×PH):dt:=Fl a.2.1 (↑a.2.2.1:Int) (At.lst 61)
noncomputable abbrev Ff(a:Int×Int×Nat×Int×dd×Sl×List bM×MH×PH):List cv:=gI a.2.2.2.2.1
noncomputable abbrev BO(a:Int×Int×Nat×Int×dd×Sl×List bM×MH×PH):List cv:=O6 a.2.2.2.2.2.2.1
noncomputable abbrev pA(a:Int×Int×Nat×Int×dd×Sl×List bM×MH×PH):MH×PH:=a.2.2.2.2.2.2.2
noncomputable abbrev Ex(a:Int):dd:=[a]
attribute [push_cast] Bv O6 yD nJ pU Fl pM C5 Ax Hb Ff BO pA Ex
def agX(cb:Nat)(sc:bJ)(m:MH)(h:PH)(K:dc):Prop:=
  bQ h 1 (fV (bG 4)) (λs B=>fU cb 5 m B (λk G=>∃(I:Int×Sl×List bM×MH×PH->Prop)(z:Int×Sl×List bM×MH×PH->Nat),(∃(x:Int×Sl×List bM×MH×PH),aA (I x) (bZ cb) (aA (eP 3) iC (aA bS (bV (eE (1+k)) x.1) (aA (aU sc) Bv (nO (oQ 34 (fZ (fY s) (At.lst 86))=oQ 34 (fZ (fY x.2.1) (At.lst 86))) (pE 70 24 (yD x)) (iD G (nJ x)) (fI B (nJ x)))))))/\∀(x:Int×Sl×List bM×MH×PH),I x->kK x.1 0 (kK (gY sc) 0 (fU cb (gY sc) (nJ x).1 (nJ x).2 (λC D=>∃(I1:Int×Nat×Int×Sl×List bM×MH×PH->Prop),kT cb 3 D (nJ x).2 (λc r=>∀(g:MH),aR (aT D g c) (aL g (nJ x).2 c) (branch r (∃(f:Int×Nat×Int×Sl×List bM×MH×PH),aA (I1 f) (bZ cb) (aA (eP 3)
 iC (aA bS (bV x.1 (pU f).1) (aA hX (aU sc) (aA Bv (oQ 34 (fZ (fY x.2.1) (At.lst 86))=oQ 34 (fZ (fY (pU f).2.1) (At.lst 86))) (aA (EK (Fl 2 C BV) (Fl f.1 (↑f.2.1:Int) BV)) (pM (yD x) (yD (pU f))) (fM g (nJ (pU f)) (nJ x).2))))))) (∃(f:Int×Nat×Int×Sl×List bM×MH×PH),aA (I1 f) (bZ cb) (aA (eP 3) iC (aA bS (bV x.1 (pU f).1) (aA hX (aU sc) (aA Bv (oQ 34 (fZ (fY x.2.1) (At.lst 86))=oQ 34 (fZ (fY (pU f).2.1) (At.lst 86))) (aA (EK (Fl 1 C BV) (Fl f.1 (↑f.2.1:Int) BV)) (pM (yD x) (yD (pU f))) (fM g (nJ (pU f)) (nJ x).2)))))))))/\∀(f:Int×Nat×Int×Sl×List bM×MH×PH),I1 f->bD (λb o=>aI (bF (mD sc) b o)
 (0<=(↑f.2.1:Int)) ((↑f.2.1:Int)<aG sc.tables) (∃(y:Int),aJ (nJ (pU f)).1 (nJ (pU f)).2 b (bB o f.2.1 5+2) (bG y)/\∃(I2:Int×Int×Nat×Int×dd×Sl×List bM×MH×PH->Prop)(g:Int×Int×Nat×Int×dd×Sl×List bM×MH×PH->Nat),(∃(d:Int×Int×Nat×Int×dd×Sl×List bM×MH×PH),aA (I2 d) (bZ cb) (aA (eP 3) iC (aA bS (bV (pU f).1 (C5 d)) (aA hX (bV y d.1) (aA (aU sc) Bv (aA (oQ 34 (fZ (fY (pU f).2.1) (At.lst 86))=oQ 34 (fZ (fY (Ax d)) (At.lst 86))) (EK (Fl f.1 (↑f.2.1:Int) (At.lst 61)) (Hb d)) (aA (uE (Ff d)) (pM (yD (pU f)) (BO d)) (aA (iD (nJ (pU f)).1 (pA d)) (fI (nJ (pU f)).2 (pA d)) True))))))))/\∀(d:
 Int×Int×Nat×Int×dd×Sl×List bM×MH×PH),I2 d->dN (mD sc) (↑d.2.2.1:Int) sc.tables (λH J E=>aJ (pA d).1 (pA d).2 H (bB J d.2.2.1 5+1) (aM E)/\aY d.1 (aG E) (kT cb 3 (pA d).1 (pA d).2 (λc r=>∀(j:MH),aR (aT (pA d).1 j c) (aL j (pA d).2 c) (branch (!r) (kX (Ff d) 8 (∃(e:Int×Int×Nat×Int×dd×Sl×List bM×MH×PH),aA (I2 e) (g e<g d) (aA (bZ cb) fW (aA iC bS (aA (bV (C5 d) (C5 e)) hX (aA (bV (eE (d.1+1)) e.1) (aU sc) (aA Bv (oQ 34 (fZ (fY (Ax d)) (At.lst 86))=oQ 34 (fZ (fY (Ax e)) (At.lst 86))) (aA (EK (Hb d) (Hb e)) (uF (Ff d) d.1 (Ff e)) (aA (pM (BO d) (BO e)) (iD j (pA e))
 (eA (pA d).2 (pA e))))))))))) (∃(e:Int×Int×Nat×Int×dd×Sl×List bM×MH×PH),aA (I2 e) (g e<g d) (aA (bZ cb) fW (aA iC bS (aA (bV (C5 d) (C5 e)) hX (aA (bV (eE (d.1+1)) e.1) (aU sc) (aA Bv (oQ 34 (fZ (fY (Ax d)) (At.lst 86))=oQ 34 (fZ (fY (Ax e)) (At.lst 86))) (aA (EK (Hb d) (Hb e)) (CO (Ff d) (Ff e)) (aA (pM (BO d) (BO e)) (iD j (pA e)) (eA (pA d).2 (pA e))))))))))))) (∃(c:Nat),DG (λu p=>∃(A:j4)(t:Nat),aA (cZ cb (cE (dX sc) (eJ (Ax d) (↑d.2.2.1:Int)))=cZ c (cE (dX u) (eJ p (↑t:Int)))) (aL (pA d).1 (pA d).2 c) (aA (dM (pA d).2 A u) (mN A) (aA (Ints (pA d).2 p (Ex 4)) (t
 <A.tables.length) (Gg (λw q=>eZ (λj n=>cR (pA d).2 n (dR n q w) (aR (bsJ A (↑t:Int) q) (aT (pA d).1 j c) (iS j n c (EL sc (Ax d) w n (λL M O _ F=>bK (eG L M O).2 0 (bQ F 1 (gI d.2.2.2.2.1) (λP Q=>kX (BO d) 320 (∃(e:Int×Sl×List bM×MH×PH),aA (I e) (z e<z x) (aA (bZ cb) fW (aA iC bS (aA (bV (eE (C5 d-1)) e.1) (aU sc) (aA Bv (oQ 34 (fZ (fY (Ax d)) (At.lst 86))=oQ 34 (fZ (fY e.2.1) (At.lst 86))) (aA (Option.some (Own.lst 70 24 (eK (BO d) (bH (cV d.2.1) (cV (↑d.2.2.1:Int)) (bH (eF P) (cV w.op) (wF w (xP (vQ w) w w.on (zE w.limit (eF w.args))))))))=Option.some (Own.lst 70 24 (yD e))) (iD j (nJ e)) (eA Q (nJ e)))))))))) (∃(e
 :Int×Sl×List bM×MH×PH),aA (I e) (z e<z x) (aA (bZ cb) fW (aA iC bS (aA (bV (eE (C5 d-1)) e.1) (aU sc) (aA Bv (oQ 34 (fZ (fY (Ax d)) (At.lst 86))=oQ 34 (fZ (fY e.2.1) (At.lst 86))) (aA (pM (BO d) (yD e)) (iD j (nJ e)) (eA F (nJ e)))))))))))))))))))))))) (bQ (nJ x).2 24 (yD x) (λu n=>K (nS (xR x.2.1 u)) (nJ x).1 n))) (bQ (nJ x).2 24 (yD x) (λu n=>K (nS (xR x.2.1 u)) (nJ x).1 n))))
theorem VD{b:dd}{p:Query}{on:di}(h:cJ s ps q=(a,0))(h':cJ s ps p=(b,0))(c:Good (zA a b) on)(d:a.length<=12):cJ s ps (.mk 5 0 iO [] on [] [] 0 [q,p])=(a,0):=by
 rw[azX bg h h'];unfold kB;rw[if_neg (by simp[arity,eT])];dsimp only;rw[if_neg bg,if_neg bg,if_neg bg,if_neg bg,if_pos rfl,if_pos c,Ob d]
theorem XL{k:dd}{n:Nat}(h:n<=k.length):(((List.range n).map λj:Nat=>(j:Int)).map λc=>k.getD c.toNat 0)=k.take n:=by
 refine ext_getElem bj λi d e=>?_
 grind
theorem GN{t:Nat}{c:sZ}(e:mN s)(d:s.tables[t]? =some c):1<=c.key/\c.key<=c.columns.length/\c.columns.length<=4/\dT s (t:Int)=c.columns.map lD.kind/\jL s (t:Int)=(dT s (t:Int)).take c.key.toNat:=by
 obtain⟨f,y,j,z⟩:=BY e (bx d);have g:=(U4 (Ca e).1).2.2.1 t c d;have n:t<s.tables.length:=(bt d);have o:dT s (t:Int)=c.columns.map lD.kind:=by rw[dT,if_neg aC,Int.toNat_natCast,d]
 have u:i7 s (t:Int)=true:=by simp[i7];exact n
 refine⟨f,g.2.2.1,j,o,?_⟩;simp only[jL,u,if_true,Int.toNat_natCast,d]
 grind
theorem aKQ:cu 26 b2Q:=by
 refine iB func26 ?_;rintro b2 m h K ⟨cb,sc,p,s,t,rfl,hc,T,hp,Z,ht,hK⟩;refine⟨bNQ cb sc p t,rfl,aD xA (aD af (aD FU (aD (f54_all 1000) (aD LS (aD az (aD aa (aD uU (aD ay (aD am aF))))))))),Wx cb sc p t m h K,be,?_⟩;dsimp only[Wx,push_cast];have b3:=T.tables.slen;obtain⟨L,a3⟩:=Ca hp;have h8:=zH L;have b4:=wL L;have C:s.tables[t]? =some s.tables[t]:=bu ht;generalize s.tables[t]=u at C;obtain⟨k1,k2,k3,k4,k5⟩:=GN hp C;have b5:(dT s (t:Int)).length=u.columns.length:=bk
 have a':=XO hp;have P:Le (dT s (t:Int)):=a' _;have a0:Le [4]:=λk hk=>by simp at hk;subst hk;exact .inr (.inl rfl)
 have B:cJ s [4] (.mk 1 t iO [] [] [] [] 0 [])=(dT s (t:Int),0):=IE aC aC aC;refine⟨sc,s,t,rfl,T,h8,λsl Y A M=>⟨t,rfl,λz=>∃q,dR z.2.2 q z.1/\PH.le Y z.2.2/\aT m z.2.1 cb/\aL z.2.1 z.2.2 cb/\QW q/\cJ s [4] q=(dT s (t:Int),0)/\nT 9 5 64 q,⟨cb,4,rfl,hc.mono A,λk m1 _ _ o1 c1=>aB (λ_=>?_) (λ_=>aB (λ_=>?_) (λ_=>?_))⟩,?_⟩⟩
 .exact⟨(⟨1,t,gU,bT,bT,bT,bT,0,bT⟩,m1,Y),⟨_,AN Y t,.refl _,o1,c1,El t,B,nT.scan.mono aC aC aC⟩,MT⟩
 .refine⟨cb,sc,p,s,[4],1,rfl,c1,T.mono A,L,a3,Z.mono A,bf,bg,aC,aC,bg,λw q Q h2 g rq qw fq hq U V=>?_⟩;obtain⟨W,D⟩:∃W,eG s [4] q=(W,0):=⟨_,Prod.ext rfl hq⟩
  have a1:cJ s [4] q=(W,0):=by
   unfold eG at D;rw[if_pos L,if_pos bg]at D;split at D
   .exact D
   .simp[kV]at D
  have b0:W.length<=12:=by have:=Fo s [4] q;grind
  have sz:nT 7 4 16 q:=fq;refine⟨sc,p,w,s,[4],q,rfl,T.mono (A.trans g),Z.mono (A.trans g),rq,λs1 H d X=>?_⟩;rw[D]at X
  have fin:∀(on:di)(o a:Sl)(J:MH)(n:PH),PH.le H n->lF n o on->Good (zA (dT s (t:Int)) W) on->bX n a 21 [QV.enc ⟨1,t,gU,bT,bT,bT,bT,0,bT⟩,w.enc]->aT Q J cb->aL J n cb->∃q,dR n q ⟨5,0,gU,bT,o,bT,bT,0,a⟩/\PH.le Y n/\aT m J cb/\aL J n cb/\QW q/\cJ s [4] q=(dT s (t:Int),0)/\nT 9 5 64 q:=λon o a J n lex I hg E ox cx=>by
   refine⟨.mk 5 0 iO [] on [] [] 0 [.mk 1 t iO [] [] [] [] 0 [],q],sL.rep ⟨rfl,rfl,DP _,qD _,I,qD _,wZ _,rfl,byZ E (AN _ t) (rq.mono (d.trans lex))⟩,g.trans (d.trans lex),(o1.trans U).trans ox,cx,Ty.2 ⟨zK,λx n=>?_⟩,VD B a1 hg aC,?_⟩
   .simp at n;rcases n with rfl|rfl
    .exact El _
    .exact qw
   .exact(nT.two nT.scan sz aC aC).mono aC aC aC
  constructor
  .refine⟨cb,sl,s1,dT s (t:Int),W,rfl,V.mono d,M.mono (g.trans d),X,aC,aC,λo on m4 h4 F I _ hg o4 c4 a O f E=>⟨(⟨5,0,gU,bT,o,bT,bT,0,a⟩,m4,O),fin on o a m4 O (F.trans f) (I.mono f) hg E o4 (c4.mono f),MT⟩⟩
  .refineλa h4 F E=>⟨cb,sl,s1,dT s (t:Int),W,rfl,V.mono (d.trans F),M.mono (g.trans (d.trans F)),X.mono F,aC,aC,λo on m5 O f I _ hg o5 c5=>⟨(⟨5,0,gU,bT,o,bT,bT,0,a⟩,m5,O),fin on o a m5 O (F.trans f) I hg (E.mono f) o5 c5,MT⟩⟩
 .have fin:∀(v:PV)(R:Pred)(a:Sl)(J:MH)(n:PH),PH.le Y n->eX n R v->wX (dT s (t:Int)) [4] 1 R->bX n a 21 [QV.enc ⟨1,t,gU,bT,bT,bT,bT,0,bT⟩]->aT m1 J cb->aL J n cb->∃q,dR n q ⟨2,0,v,bT,bT,bT,bT,0,a⟩/\PH.le Y n/\aT m J cb/\aL J n cb/\QW q/\cJ s [4] q=(dT s (t:Int),0)/\nT 9 5 64 q:=λv R a J n lex rp I E ox cx=>
   ⟨.mk 2 0 R [] [] [] [] 0 [.mk 1 t iO [] [] [] [] 0 []],IH rp (zI E (AN _ t)),lex,o1.trans ox,cx,Lw I.vals (El t),kinds_filter B (I.valid aC P a0) aC,(nT.one nT.scan aC).mono aC aC aC⟩
  constructor
  .refine⟨cb,sl,p,dT s (t:Int),[4],1,rfl,c1,M,Z.mono A,aC,bf,aC,λv R Q h2 g rp I U V a H d E=>⟨(⟨2,0,v,bT,bT,bT,bT,0,a⟩,Q,H),fin v R a Q H (g.trans d) (rp.mono d) I E U (V.mono d),MT⟩⟩
  .refineλa h2 g E=>⟨cb,sl,p,dT s (t:Int),[4],1,rfl,c1.mono g,M.mono g,Z.mono (A.trans g),aC,bf,aC,λv R m3 H d rp I o3 c3=>⟨(⟨2,0,v,bT,bT,bT,bT,0,a⟩,m3,H),fin v R a m3 H (g.trans d) rp I (E.mono d) o3 c3,MT⟩⟩
 rintro⟨x,Q,h2⟩ ⟨q,rq,g,U,V,qw,kq,sz⟩;dsimp only at rq g U V⊢
 intro a H d E;have L3:=A.trans (g.trans d);refine⟨λz=>z.1<=u.key.toNat/\z.2=(a,(List.range z.1).map (λj:Nat=>(j:Int)),Q,H),λz=>u.key.toNat-z.1,⟨(0,a,[],Q,H),⟨aC,rfl⟩,MT⟩,?_⟩;rintro⟨i,z⟩ ⟨a4,e⟩;dsimp only at a4 e;subst e;dsimp only;obtain⟨b,o,y,ea,rd,hy⟩:=bC.at (T.mono L3).tables C;have b1:=hy.key;have b6:(((List.range i).map λj:Nat=>(j:Int)).map eI).length=i:=bf
 refine⟨b,o,ea,aC,aC,y.key,.imm (bA.part rd 2 1),aE (λb7=>?_) (λb8=>?_)⟩
 .refine⟨aC,aC,(i+1,a,(List.range (i+1)).map (λj:Nat=>(j:Int)),Q,H),⟨aC,rfl⟩,aC,?_⟩;rw[jG aC,range_succ,cd,cd];exact MT
 .have a5:i=u.key.toNat:=by omega
  subst a5;have c3:=V.mono d
  have kin:cJ s [4] (.mk 3 0 iO ((List.range u.key.toNat).map λj:Nat=>(j:Int)) [] [] [] 0 [q])=(jL s (t:Int),0):=by
   rw[DM kq,XL aC,k5]
   .grind
   .intro c a6;obtain⟨j,hj,rfl⟩:=mem_map.1 a6;rw[mem_range]at hj;simp[Gt];omega
   grind
  have a2:nT 10 6 64 (.mk 3 0 iO ((List.range u.key.toNat).map λj:Nat=>(j:Int)) [] [] [] 0 [q]):=sz.one aC;have a7:QW (.mk 3 0 iO ((List.range u.key.toNat).map λj:Nat=>(j:Int)) [] [] [] 0 [q]):=Lw zK qw;have S:∀(c:Sl)(n:PH),PH.le H n->bX n c 1 (((List.range u.key.toNat).map λj:Nat=>(j:Int)).map eI)->dR n (.mk 3 0 iO ((List.range u.key.toNat).map λj:Nat=>(j:Int)) [] [] [] 0 [q]) ⟨3,0,gU,c,bT,bT,bT,0,a⟩:=λc n lex rc=>F9 ⟨rc,bj⟩ (zI (E.mono lex) (rq.mono (d.trans lex)));refine⟨cb,6,rfl,aC,aC,c3,λr m4 o4 c4=>aB (λ_=>?_) (λ_ c O f rc=>?_)⟩
  .refine⟨sc,s,t,u,rfl,T.mono L3,h8,C,λe=>bk,λk O f a8 c h6 G rc=>⟨cb,sc,p,k,⟨3,0,gU,c,bT,bT,bT,0,a⟩,s,[4],jL s (t:Int),_,rfl,c4.mono (f.trans G),T.mono (L3.trans (f.trans G)),h8,aC,Z.mono (L3.trans (f.trans G)),bf,a8.mono G,bk,S c h6 (f.trans G) rc,a7,λw q1 m7 h7 a9 b' x o7 c7=>?_⟩⟩;refine hK w q1 m7 h7 (L3.trans (f.trans (G.trans a9))) b' ⟨x.siz 2 (a2.mono bg bg bg),x.kin a' a0 (λk hk=>P k (mem_of_mem_take (by rw[<-k5];exact hk))) ?_ ?_ kin⟩ ((U.trans o4).trans o7) c7
   .intro e;have:=congrArg List.length e
    grind
   grind
  .exact hK _ _ m4 O (L3.trans f) (S c O f rc) ⟨a2.mono bg bg bg,kin⟩ (U.trans o4) (c4.mono f)
structure qI(h:PH)(l:List bM)(rs:List lR):Prop where
 len:l.length=rs.length
 rep:∀(i:Nat)(r:lR),rs[i]? =some r->∃v,l[i]? =some v/\Nx h r v
theorem qI.nil(h:PH):qI h [] []:=⟨rfl,λi r e=>by simp at e⟩
theorem qI.mono{l:List bM}{rs:List lR}(x:qI h l rs)(le:PH.le h h'):qI h' l rs:=⟨x.len,λi c e=>(x.rep i c e).imp λ_ y=>⟨y.1,y.2.mono le⟩⟩
theorem qI.cs{l:List bM}{rs:List lR}{s:Sl}(x:qI h l rs)(r:bX h s 24 (l.map bM.enc))(c:rs.length<=1000):bC h 24 bM.enc (Nx h) s rs:=⟨⟨l,r,x.len.symm,x.rep⟩,aC⟩
theorem qI.snoc{l:List bM}{rs:List lR}{c:lR}{v:bM}(x:qI h l rs)(y:Nx h c v):qI h (l++[v]) (rs++[c]):=⟨by simp[x.len],λi d e=>by
 rcases Nat.lt_trichotomy i rs.length with f|f|f
 .rw[getElem?_append_left f]at e;obtain⟨w,g,j⟩:=x.rep i d e
  grind
 .subst f;simp at e;subst e;exact⟨v,by rw[<-x.len];simp,y⟩
 grind⟩
theorem Fu{n j:Int}:∀{c:dd}{l:Int},lS n l c=true->(∀x∈c,x<j)->l<j->j<n->lS n l (c++[j])=true
 |[],l,_,_,e,d=>by simp[lS,e,d]
 |x::c,l,h,f,e,d=>by
  simp only[lS,cg]at h;simp only[cons_append,lS,cg];exact⟨h.1,Fu h.2 (λy g=>f y (mem_cons_of_mem _ g)) (f x (mem_cons_self ..)) d⟩
theorem a4Z:cu 9 aoZ:=by
 refine iB func9 ?_;rintro a7 m h K ⟨cb,sc,s,rfl,hc,X,Z,hK⟩;refine⟨caQ cb sc,rfl,aD FU (aD uU (aD aKQ (aD LS aF))),agX cb sc m h K,be,?_⟩;dsimp only[agX,push_cast];have a8:=X.tables.slen;obtain⟨Q,a'⟩:=Ca Z;have a9:=wL Q;have b':0<s.tables.length:=length_pos_iff.2 a';intro p h1 C rp;have J:Ints h1 p [4]:=⟨rp,bk⟩
 refine⟨cb,5,rfl,hc.mono C,λk R k0 kn L O=>⟨λz=>0<=z.1/\z.1<=5/\z.2.1=p/\PH.le h1 z.2.2.2.2/\aT m z.2.2.2.1 cb/\aL z.2.2.2.1 z.2.2.2.2 cb/\∃rs,qI z.2.2.2.2 z.2.2.1 rs/\(rs.length:Int)<=5-z.1/\(∀r∈rs,jC s [4] r=0)/\∀r∈rs,F0 2 r.query,λz=>z.1.toNat,⟨(1+k,p,[],R,h1),⟨aC,aC,rfl,.refl _,L,O,[],.nil _,bk,λr d=>(by cases d),λr d=>by cases d⟩,by rw[dO aC aC];exact MT⟩,?_⟩⟩;clear L O kn k0 k R;rintro⟨n,u,l,R,B⟩ ⟨n0,n5,e1,lex,L,O,rs,S,a0,T,U⟩;dsimp only at n0 n5 e1 lex L O S a0⊢
 subst e1;have b0:=S.len;have out:∀(Y:Sl)(h':PH),PH.le B h'->bX h' Y 24 (l.map bM.enc)->K (bnJ u Y) R h':=λY h' F rr=>hK u Y rs R h' (C.trans (lex.trans F)) ⟨J.mono (lex.trans F),(S.mono F).cs rr aC⟩ ⟨aC,T,U⟩ L (O.mono F);refine aE (λhn=>aE (λ_=>?_) (λ_=>out)) (λ_=>out);refine⟨cb,sc.tables.len,rfl,O,λt P t0 tn D I=>?_⟩;obtain⟨t,rfl⟩:=Int.eq_ofNat_of_zero_le t0;have ht:t<s.tables.length:=by omega
 have E:s.tables[t]? =some s.tables[t]:=bu ht;generalize s.tables[t]=f at E;obtain⟨q1,q2,q3,q4,q5⟩:=GN Z E;refine⟨λz=>∃k M,z=(k,t,n,u,l,M,B)/\(k=1\/k=2)/\aT m M cb/\aL M B cb,⟨cb,3,rfl,aC,aC,I,λr G V W=>aB (λ_=>⟨(2,t,n,u,l,G,B),⟨_,G,rfl,.inr rfl,(L.trans D).trans V,W⟩,MT⟩) (λ_=>⟨(1,t,n,u,l,G,B),⟨_,G,rfl,.inl rfl,(L.trans D).trans V,W⟩,MT⟩)⟩,?_⟩;clear D I P;rintro _ ⟨k,P,rfl,hk,D,I⟩;dsimp only;obtain⟨b,o,y,ea,rd,hy⟩:=bC.at (X.mono (C.trans lex)).tables E;have a6:=hy.key;have b1:y.columns.len=f.columns.length:=bC.slen hy.columns;refine⟨b,o,ea,aC,aC,y.key,.imm (bA.part rd 2 1),λz=>∃j c M,z=(j,k,t,n,c,u,l,M,B)/\f.key<=j/\j<=f.columns.length/\lS f.columns.length (f.key-1) c=true/\(∀x∈c,x<j)/\(c.length:Int)<=j-f.key/\aT m M cb/\aL M B cb,λz=>(f.columns.length-z.1).toNat,⟨(y.key,k,t,n,[],u,l,P,B),⟨_,[],P,rfl,aC,aC,rfl,λx B=>(by cases B),bk,D,I⟩,MT⟩,?_⟩;clear D I P;rintro _ ⟨j,c,P,rfl,j0,j1,hf,a1,a2,D,I⟩;dsimp only;have b2:(c.map eI).length=c.length:=length_map ..;refine⟨b,o,ea,aC,aC,y.columns,.imm (bA.part rd 1 1),aE (λa3=>?_) (λa3=>?_)⟩
 .rw[dO (n:=j+1) aC aC];refine⟨cb,3,rfl,aC,aC,I,λr G V W=>aB (λ_=>⟨aC,aC,(j+1,k,t,n,c++[j],u,l,G,B),⟨_,_,G,rfl,aC,aC,Fu hf a1 aC aC,λx a4=>?_,bk,D.trans V,W⟩,aC,by rw[cd];exact MT⟩) (λ_=>⟨(j+1,k,t,n,c,u,l,G,B),⟨_,_,G,rfl,aC,aC,hf,λx a4=>bk,aC,D.trans V,W⟩,aC,MT⟩)⟩
  grind
 .rw[dO (n:=n-1) aC aC];refine⟨cb,sc,u,s,t,rfl,I,X.mono (C.trans lex),Z,J.mono lex,ht,λw q m4 h4 A rq kq o4 c4=>⟨sc,u,w,s,[4],q,rfl,X.mono (C.trans (lex.trans A)),J.mono (lex.trans A),rq,λsl h5 g _=>aB (λe=>?_) (λ_=>?_)⟩⟩
  .intro cs h6 H rc
   have hq:eG s [4] q=(jL s (t:Int),0):=by
    have e:(eG s [4] q).2=0:=br e
    unfold eG at e⊢
    rw[if_pos Q,if_pos bg]at e⊢
    split at e
    .rename_i h9;rw[if_pos h9];exact kq.kin
    .simp[kV]at e
   have a5:rI s ⟨k,t,c,q⟩=true:=by
    have hh:i7 s (t:Int)=true:=by simp[i7];exact ht
    unfold rI
    grind
   refine⟨bk,bk,(n-1,u,l++[⟨k,t,cs,w⟩],m4,h6),⟨aC,aC,rfl,lex.trans (A.trans (g.trans H)),D.trans o4,c4.mono (g.trans H),rs++[⟨k,t,c,q⟩],(S.mono (A.trans (g.trans H))).snoc ⟨rfl,rfl,⟨rc,bk⟩,rq.mono (g.trans H)⟩,bk,λr d=>?_,λr d=>?_⟩,aC,by rw[cd];exact MT⟩
   .rcases mem_append.1 d with d|d
    .grind
    .rw[mem_singleton]at d;subst d;exact AP.2 ⟨a5,hq⟩
   .rcases mem_append.1 d with d|d
    .grind
    .rw[mem_singleton]at d;subst d;exact kq.siz
  .exact⟨(n-1,u,l,m4,h5),⟨aC,aC,rfl,lex.trans (A.trans g),D.trans o4,c4.mono g,rs,S.mono (A.trans g),aC,T,U⟩,aC,MT⟩
def Bl(ks:dd)(r:de):Prop:=∀(i:Nat) v k,r[i]? =some v->ks[i]? =some k->v.kind=k
theorem Bl.snoc{ks:dd}{l:de}{k:Int}{v:VV}(x:Bl (ks.take i) l)(f:l.length=i)(g:ks[i]? =some k)(n:v.kind=k):Bl (ks.take (i+1)) (l++[v]):=λj u e d c=>by
 rw[getElem?_take]at c;split at c
 .rename_i o;rcases Nat.lt_or_ge j l.length with h|h
  .rw[getElem?_append_left h]at d;exact x j u e d bk
  grind
 .cases c
def Np(s:j4)(st:List cw):Prop:=∀(i:Nat) t l,s.tables[i]? =some t->st[i]? =some l->∀r∈l,Bl (t.columns.map lD.kind) r
def ciJ:Vc.Spec:=λc m h K=>∃cb s key ks d,c=[cP cb,cS s,cI key,cI d]/\aL m h cb/\Ints h s ks/\ks.length<=1000/\(∀k∈ks,k=3\/k=4\/k=5)/\∀e r m' h',PH.le h h'->bO h' e r->H8 key ks r->(d=1->Bl ks r)->aT m m' cb->aL m' h' cb->K (cS e) m' h'
def StateM:Vc.Spec:=λc m h K=>∃cb v s e,c=[cP cb,aS v,cI e]/\aL m h cb/\dM h s v/\mN s/\∀d f m' h',PH.le h h'->tS h' f d->Up s d->(e=1->Np s d)->aT m m' cb->aL m' h' cb->K (QO f) m' h'
noncomputable def a5J(cb:Nat)(key c:Int)(s:Sl):Ctx:=dD [(20,Il),(62,Qf)] [(3,{A:=Nat×de×MH×PH,st:=λ⟨i,l,m,h⟩=>bU 59 63 [(0,pv cb),(2,iv key),(3,iv c),(9,.at (.lst 24)),(12,sv s),(13,iv s.len),(14,iv i)] [(24,.lst 58 3 (l.map VV.enc))] m h})] [(7,{A:=Nat×Int×de×Bool×MH×PH,st:=λ⟨i,k,l,b,m,h⟩=>bU 59 63 [(0,pv cb),(2,iv key),(3,iv c),(9,.at (.lst 24)),(10,iv i),(11,iv k),(12,sv s),(13,iv s.len),(14,iv i),(25,bv b)] [(24,.lst 58 3 (l.map VV.enc))] m h}),
 (9,{A:=Nat×Int×de×Bool×MH×PH,st:=λ⟨i,k,l,b,m,h⟩=>bU 59 63 [(0,pv cb),(2,iv key),(3,iv c),(9,.at (.lst 24)),(10,iv i),(11,iv k),(12,sv s),(13,iv s.len),(14,iv i),(41,bv b)] [(24,.lst 58 3 (l.map VV.enc))] m h})] [] false
noncomputable def biJ(cb:Nat)(c:Int)(v:bJ):Ctx:=rT [(13,FY),(29,tW),(28,ciJ),(24,Xs),(30,cdX)] [(3,{A:=Nat×Sl×MH×PH,st:=λ⟨i,s,m,h⟩=>bU 51 54 [(0,pv cb),(2,iv c),(4,.at (.ptr 4 0)),(6,.at (.ptr 6 0)),(7,.at (.ptr 7 0)),(18,iv v.tables.len),(19,iv i)] [(4,.cells 29 (v.enc.map .val)),(6,.cells 38 [.val bT.val]),(7,.cells 38 [.val (.slice s.a s.len s.cap)])] m h}),
 (6,{A:=Nat×Int×Sl×MH×PH,st:=λ⟨i,n,s,m,h⟩=>bU 51 54 [(0,pv cb),(2,iv c),(4,.at (.ptr 4 0)),(6,.at (.ptr 6 0)),(7,.at (.ptr 7 0)),(8,iv i),(9,iv n),(18,iv v.tables.len),(19,iv i)] [(4,.cells 29 (v.enc.map .val)),(6,.cells 38 [.val bT.val]),(7,.cells 38 [.val (.slice s.a s.len s.cap)])] m h})] [] [] [2036] [] false
noncomputable abbrev BL(a:Nat×de×MH×PH):List cv:=DH a.2.1
noncomputable abbrev nY(a:Nat×de×MH×PH):MH×PH:=a.2.2
abbrev EN(a:Nat×Int×de×Bool×MH×PH->Prop)(b:Nat)(c d:Int)(e:Nat)(g:Int)(i:Sl)(j:(Nat×Int×de×Bool×MH×PH)->Prop):Prop:=∃(x:Nat×Int×de×Bool×MH×PH),aA (a x) (bZ b) (aA (bL c) (bL d) (aA (eL 24) (bP e x.1) (aA (bV g x.2.1) (aH i) (j x))))
noncomputable abbrev BK(a:Nat×Int×de×Bool×MH×PH):Bool:=a.2.2.2.1
noncomputable abbrev yM(a:Nat×Int×de×Bool×MH×PH):List cv:=DH a.2.2.1
abbrev EM(a:List cv)(b:Nat×Int×de×Bool×MH×PH):Prop:=Option.some (Own.lst 58 3 a)=Option.some (Own.lst 58 3 (yM b))
noncomputable abbrev l7(a:Nat×Int×de×Bool×MH×PH):MH×PH:=a.2.2.2.2
attribute [push_cast] BL nY EN BK yM EM l7
def LQ(cb:Nat)(s:Sl)(key g:Int)(m:MH)(h:PH)(K:dc):Prop:=
  ∃(I:Nat×de×MH×PH->Prop)(n:Nat×de×MH×PH->Nat),(∃(x:Nat×de×MH×PH),aA (I x) (bZ cb) (aA (bL key) (bL g) (aA (eL 24) (aH s) (aA (bI s) (bE x.1) (aI (pE 58 3 (BL x)) (iD m (nY x)) (fI h (nY x)) True)))))/\∀(x:Nat×de×MH×PH),I x->aY (↑x.1:Int) (aG s) (bD (λb o=>aI (bF s.a b o) (0<=(↑x.1:Int)) ((↑x.1:Int)<aG s) (∃(y:Int),aJ (nY x).1 (nY x).2 b (bB o x.1 1) (bG y)/\∃(I1:Nat×Int×de×Bool×MH×PH->Prop),A7 (↑x.1:Int) key (nK g 1 (kT cb 5 (nY x).1 (nY x).2 (λc r=>∀(j:MH),aR (aT (nY x).1 j c) (aL j (nY x).2 c) (EN I1 cb key g x.1 y s (λd=>aA (bI s) (bP x.1 d.1) (aA (fS r (BK d)) (EM (BL x) d) (fM j
 (l7 d) (nY x).2)))))) (EN I1 cb key g x.1 y s (λd=>aA (bI s) (bP x.1 d.1) (aA (tK (BK d)) (EM (BL x) d) (fM (nY x).1 (l7 d) (nY x).2))))) (EN I1 cb key g x.1 y s (λd=>aA (bI s) (bP x.1 d.1) (aA (tK (BK d)) (EM (BL x) d) (fM (nY x).1 (l7 d) (nY x).2))))/\∀(d:Nat×Int×de×Bool×MH×PH),lA (I1 d) (BK d) (kX (yM d) 32 (∃(e:Nat×de×MH×PH),aA (I e) (n e<n x) (aA (bZ cb) (bL key) (aA (bL g) (eL 24) (aA (aH s) (bI s) (nO (fJ (aW d.1 1)=bY e.1) (Option.some (Own.lst 58 3 (eK (yM d) (Ci 2 0)))=Option.some (Own.lst 58 3 (BL e))) (iD (l7 d).1 (nY e)) (fI (l7 d).2 (nY e)))))))) (∃(I2:Nat×Int×de×Bool×MH×PH
 ->Prop),A7 (↑d.1:Int) key (bK g 3 (kT cb 5 (l7 d).1 (l7 d).2 (λc r=>∀(j:MH),aR (aT (l7 d).1 j c) (aL j (l7 d).2 c) (EN I2 cb key g d.1 d.2.1 s (λe=>aA (bI s) (bP d.1 e.1) (aA (fS r (BK e)) (EM (yM d) e) (fM j (l7 e) (l7 d).2)))))) (EN I2 cb key g d.1 d.2.1 s (λe=>aA (bI s) (bP d.1 e.1) (aA (tK (BK e)) (EM (yM d) e) (fM (l7 d).1 (l7 e) (l7 d).2))))) (EN I2 cb key g d.1 d.2.1 s (λe=>aA (bI s) (bP d.1 e.1) (aA (tK (BK e)) (EM (yM d) e) (fM (l7 d).1 (l7 e) (l7 d).2))))/\∀(e:Nat×Int×de×Bool×MH×PH),lA (I2 e) (BK e) (kX (yM e) 32 (∃(f:Nat×de×MH×PH),aA (I f) (n f<n x) (aA
 (bZ cb) (bL key) (aA (bL g) (eL 24) (aA (aH s) (bI s) (nO (fJ (aW e.1 1)=bY f.1) (Option.some (Own.lst 58 3 (eK (yM e) (Ci 1 0)))=Option.some (Own.lst 58 3 (BL f))) (iD (l7 e).1 (nY f)) (fI (l7 e).2 (nY f)))))))) (Kj cb e.2.1 (l7 e).1 (l7 e).2 (λc k v=>∀(j:MH),aR (GD v) (Lb k v) (aR (aT (l7 e).1 j c) (aL j (l7 e).2 c) (kX (yM e) 32 (∃(f:Nat×de×MH×PH),aA (I f) (n f<n x) (aA (bZ cb) (bL key) (aA (bL g) (eL 24) (aA (aH s) (bI s) (nO (fJ (aW e.1 1)=bY f.1) (Option.some (Own.lst 58 3 (eK (yM e) v.enc))=Option.some (Own.lst 58 3 (BL f))) (iD j (nY f)) (fI (l7 e).2 (nY f))))))))))))))) (bQ (nY x).2 3 (BL x) (λt u=>K (mL t)
 (nY x).1 u))
def Mi(cb:Nat)(g:Int)(v:bJ)(m:MH)(h:PH)(K:dc):Prop:=
  aA (dG (gY v)) (gY v<=gY v) (aA (Cg (gY v*24)) (Cg (gY v)) (Cc (λs L=>rK m L h s 95 1 (replicate (gY v).toNat iT)->∃(I:Nat×Sl×MH×PH->Prop)(M:Nat×Sl×MH×PH->Nat),(∃(x:Nat×Sl×MH×PH),aA (I x) (bZ cb) (aA (bL g) iC (aA jH hX (aA (i6 v) (bE x.1) (aA (aU v) jO (aA (gG s x.2.1) (j8 L x.2) (eA h x.2.2)))))))/\∀(x:Nat×Sl×MH×PH),I x->aY (↑x.1:Int) (aG v.tables) (fU cb 5 (fG x.2) (eV x.2) (λk m3=>∃(I1:Nat×Int×Sl×MH×PH->Prop)(O:Nat×Int×Sl×MH×PH->Nat),(∃(d:Nat×Int×Sl×MH×PH),aA (I1 d) (bZ cb) (aA (bL g) iC (aA jH hX (aA (bP x.1 d.1) (bV k d.2.1) (aA (i6 v) (bP x.1 d.1) (aA (aU v) jO (aI (gG x.2.1
 (rA d)) (j8 m3 d.2.2) (fI (eV x.2) d.2.2.2) True)))))))/\∀(d:Nat×Int×Sl×MH×PH),I1 d->kK d.2.1 0 (bD (λb o=>aI (bF (mD v) b o) (0<=(↑d.1:Int)) ((↑d.1:Int)<aG v.tables) (∃(y:Int),aA (aJ (uP d) (pS d) b (bB o d.1 5+2) (bG y)) (bA (pS d) b (bB o d.1 5+2) (bG y)) (Am (cO (gL v) (↑d.1:Int)) (pS d) (λs1 F=>∃(c:Nat),Kf (λP Q j=>∃(R:Int),aA (cZ cb (cQ s1 (cO (jA y) g))=cZ c (cQ P (cO (jA Q) R))) (aL (uP d) F c) (aA (Ints F P j) (gJ j) ((∀(f:Int),List.Mem f j->f=3\/f=4\/f=5)/\∀(G:Sl)(r:de),eZ (λA B=>cR F B (bO B G r) (aR (H8 Q j r) (R=1->Bl j r) (aR (aT (uP d) A c) (aL A B c) (EO v
 (↑d.1:Int) G B (λs4 z=>Ke (λS T t n U u V C W D X f=>tH (λY E=>aA (cE (dX v) (cE (aM (rA d)) (nH (↑d.1:Int) (gK s4 G)))=cE (dX S) (cE (E6 t n U) (nH (↑C:Int) (gK X Y)))) (dM z T S) (aA (C7 T C W) (GF A t u) (aA (n=u.length) (HD u C V) (aA (Rows z V D) (jV D.length) (aA (Al D (λr3=>jT r3)) (bO z X f) (aA (bO z Y E) (jT E) (∀(Z:Sl),eZ (λH J=>cR z J (Rows J Z (qO W f E (decide (E.length=0)) D)) (aR (GF H t (List.set u C Z)) (aT A H t) (∃(e:Nat×Int×Sl×MH×PH),aA (I1 e) (O e<O d) (aA (bZ cb) (bL g) (aA iC jH (aA hX (bP d.1 e.1) (aA (bV (eE (d.2.1-1)) e.2.1) (i6 v) (aA (bP d.1 e.1) (aU v) (aA
 jO (oQ 38 (rN (At.val (Value.slice (sT t) n U)))=oQ 38 (qB (rA e))) (aA (j8 H e.2.2) (fI J e.2.2.2) True))))))))))))))))))))))))))))))) (∃(e:Nat×Sl×MH×PH),aA (I e) (M e<M x) (aA (bZ cb) (bL g) (aA iC jH (aA hX (i6 v) (aA (fJ (aW d.1 1)=bY e.1) (aU v) (aA jO (gG (rA d) e.2.1) (fM (uP d) e.2.2 (pS d)))))))))) (K (nS (aM x.2.1)) (fG x.2) (eV x.2)))))
theorem bMJ{s:Sl}{key g:Int}{ks:dd}(hc:aL m h cb)(Z:Ints h s ks)(hl:ks.length<=1000)(hk:∀k∈ks,k=3\/k=4\/k=5)(hK:∀s' r m' h',PH.le h h'->bO h' s' r->H8 key ks r->(g=1->Bl ks r)->aT m m' cb->aL m' h' cb->K (cS s') m' h'):LQ cb s key g m h K:=by
 dsimp only[LQ,push_cast];have Q:=Z.slen;refine⟨λz=>z.2.2.2=h/\z.1<=ks.length/\H8 key (ks.take z.1) z.2.1/\(g=1->Bl (ks.take z.1) z.2.1)/\aT m z.2.2.1 cb/\aL z.2.2.1 h cb,λz=>ks.length-z.1,⟨(0,[],m,h),⟨rfl,bf,⟨bf,bf,λj u k h=>by simp at h⟩,λ_ j u k h=>by simp at h,.refl _ _,hc⟩,MT⟩,?_⟩;rintro⟨i,l,y,h'⟩ ⟨A,hi,d,f,R,F⟩;dsimp only at A hi d f R F⊢
 subst A;have S:l.length=i:=by rw[d.1,length_take];omega
 refine aE (λT=>?_) (λa' s' h2 G U=>?_)
 .obtain⟨k,B⟩:=eO Q T;obtain⟨b,o,ea,rd⟩:=Z.at' B;have H:=hk k (bx B);have V:∀(u:VV)(m':MH),GD u->zW key k i u=true->(g=1->u.kind=k)->aT y m' cb->aL m' h' cb->h'=h'/\i+1<=ks.length/\H8 key (ks.take (i+1)) (l++[u])/\(g=1->Bl (ks.take (i+1)) (l++[u]))/\aT m m' cb/\aL m' h' cb:=λu m' W hf hr o c=>⟨rfl,aC,d.snoc B W hf,λe=>(f e).snoc S B (hr e),R.trans o,c⟩
  have n:ks.length-(i+1)<ks.length-i:=by omega
  have X:IntKind.i64.wrap ((i:Int)+1)=((i+1:Nat):Int):=jG aC;refine⟨b,o,ea,aC,aC,k,.imm rd,λz=>∃b m',z=(i,k,l,b,m',h')/\(b=true->key<=(i:Int)/\g≠1)/\aT y m' cb/\aL m' h' cb,aE (λt=>aB (λY=>⟨cb,5,rfl,aC,aC,F,λr C D E=>⟨_,⟨r,C,rfl,λ_=>⟨t,λe=>bk⟩,D,E⟩,MT⟩⟩) (λ_=>⟨_,⟨false,y,rfl,(λe=>by cases e),.refl _ _,F⟩,MT⟩)) (λ_=>⟨_,⟨false,y,rfl,(λe=>by cases e),.refl _ _,F⟩,MT⟩),?_⟩;rintro _ ⟨b1,C,rfl,I,D,E⟩;dsimp only;refine aB (λe=>⟨bk,bk,(i+1,l++[⟨2,0,⟨#[]⟩⟩],C,h'),V _ C (UN 2) (VR (.inr rfl) (I e).1) (λA=>absurd A (I e).2) D E,n,by rw[X,cd];exact MT⟩) (λ_=>?_);refine⟨λz=>∃b m',z=(i,k,l,b,m',h')/\(b=true->key<=(i:Int)/\g≠1)/\aT y m' cb/\aL m' h' cb,aE (λt=>aB (λY=>⟨cb,5,rfl,aC,aC,E,λr M O P=>⟨_,⟨r,M,rfl,λ_=>⟨t,λe=>bk⟩,D.trans O,P⟩,MT⟩⟩) (λ_=>⟨_,⟨false,C,rfl,(λe=>by cases e),D,E⟩,MT⟩)) (λ_=>⟨_,⟨false,C,rfl,(λe=>by cases e),D,E⟩,MT⟩),?_⟩;rintro _ ⟨b2,M,rfl,J,O,P⟩;dsimp only;refine aB (λe=>⟨bk,bk,(i+1,l++[⟨1,0,⟨#[]⟩⟩],M,h'),V _ M (UN 1) (VR (.inl rfl) (J e).1) (λA=>absurd A (J e).2) O P,n,by rw[X,cd];exact MT⟩) (λ_=>⟨cb,k,rfl,P,λu m4 W L o4 c4=>?_⟩);refine⟨bk,bk,(i+1,l++[u],m4,h'),V _ m4 W (Rq H L) (λ_=>(L H).2) (O.trans o4) c4,n,?_⟩;rw[X,cd];exact MT
 .rw[ca aC]at d f;exact hK s' l y h2 G ⟨⟨l,U,rfl,λi x B=>⟨x,B,rfl⟩⟩,aC⟩ d f R (F.mono G)
theorem Yc:cu 28 ciJ:=by
 refine iB func28 ?_;rintro d m h K ⟨cb,s,key,ks,c,rfl,e,f,g,j,n⟩;refine⟨a5J cb key c s,rfl,aD uU (aD HL aF),LQ cb s key c m h K,be,?_⟩;exact bMJ e f g j n
theorem aYZ{st:List cw}{n:Nat}{t:sZ}{l d:cw}(h:Np s st)(o:s.tables[n]? =some t)(u:st[n]? =some l)(z:∀r∈d,Bl (t.columns.map lD.kind) r):Np s (st.set n d):=λj g y c f=>by
 by_cases e:n=j
 .grind
 .rw[getElem?_set_ne e]at f;exact h j g y c f
theorem bTJ{mo:Int}{v:bJ}(hc:aL m h cb)(hs:dM h s v)(hp:mN s)(hK:∀st sl m' h',PH.le h h'->tS h' sl st->Up s st->(mo=1->Np s st)->aT m m' cb->aL m' h' cb->K (QO sl) m' h'):Mi cb mo v m h (dE h K):=by
 dsimp only[Mi,push_cast];have b3:=hs.tables.slen;obtain⟨a6,b4⟩:=Ca hp;have h8:=wL a6;have b5:=zH a6;have d':0<s.tables.length:=length_pos_iff.2 b4;refine⟨aC,aC,aC,aC,λsl m1 I=>?_⟩;rw[show((v.tables.len:Int)).toNat=s.tables.length by omega]at I
 obtain⟨J,G,D,S,L,_,_,a7,a1⟩:∃b G D,sl=⟨some ⟨b,0,none⟩,s.tables.length,G⟩/\m1 b=some (.cells D 95 (0,0))/\s.tables.length<=G/\G<=maxLen/\D.size=G*1/\D.toList.take (s.tables.length*1)=(replicate s.tables.length [tE]).flatten:=by
  rcases I.row.ex with⟨_,e⟩|⟨b,G,D,W,T,e3,e4,e5,e6⟩
  .have:=congrArg List.length e;grind
  grind
 have b6:s.tables.length<=G:=by assumption
 have X:dL m h J:=I.fresh J 0 (by rw[S])
 have M:J≠cb:=λe=>by
  obtain⟨cs,T⟩:=hc.blk;rw[<-e,X.m_]at T;cases T
 have Y:∀b,b≠J->m1 b=m b:=λb hb=>I.other b λi e=>by
  grind
 have a8:aL m1 h cb:=hc.keep (Y cb (Ne.symm M)) (.refl _)
 have a9:TSt h s m1 J (replicate s.tables.length ⟨none,0,0⟩) (replicate s.tables.length []):=by
  refine⟨⟨D,L,bk,?_⟩,bf,bf,λj u l R E=>?_,λj t l ht E=>?_,λl E=>?_,λl E=>?_⟩
  .rw[length_replicate, <-Nat.mul_one s.tables.length,a1,Nat.mul_one,map_replicate];generalize s.tables.length=k
   induction k with
   |zero=>rfl
   |succ k ih=>rw[replicate_succ,flatten_cons,ih,replicate_succ];rfl
  .have R:=bx R;have E:=bx E;rw[eq_of_mem_replicate R,eq_of_mem_replicate E];exact bC.nil _ _ _ _
  .rw[eq_of_mem_replicate (bx E)];exact⟨λr hr=>by simp at hr,λi r r' e=>by simp at e⟩
  .grind
  grind
 clear a1 a7 L D;refine⟨λz=>z.1<=s.tables.length/\z.2.1=sl/\PH.le h z.2.2.2/\aL z.2.2.1 z.2.2.2 cb/\(∀b,b≠J->b≠cb->z.2.2.1 b=m b)/\∃H st,TSt z.2.2.2 s z.2.2.1 J H st/\(mo=1->Np s st)/\∀j l,z.1<=j->st[j]? =some l->l=[],λz=>s.tables.length-z.1,⟨(0,sl,m1,h),⟨bf,rfl,.refl _,a8,λb h1 _=>Y b h1,_,_,a9,(λ_ i t l _ e r hr=>bk),λj l _ e=>eq_of_mem_replicate (bx e)⟩,MT⟩,?_⟩;clear a9 a8;rintro⟨i,a2,m2,h2⟩ ⟨hi,W,U,c2,o2,H,st,g,F,C⟩;dsimp only at hi W U c2 o2 g F C⊢
 rw[W];clear W a2;refine aE (λb7=>?_) (λd0=>?_)
 .obtain⟨B,f⟩:=eO b3 b7;have a3:=bx f;obtain⟨tk,tc,d1,b8⟩:=BY hp a3;have b':=(bt f)
  have O:st[i]? =some []:=by
   have:=getElem?_eq_getElem (l:=st) (i:=i) (by rw[g.slen];exact b')
   grind
  refine⟨cb,5,rfl,c2,λk m3 k0 k1 o3 c3=>?_⟩;refine⟨λz=>z.1=i/\z.2.2.1=sl/\z.2.1<=4/\PH.le h z.2.2.2.2/\aL z.2.2.2.1 z.2.2.2.2 cb/\(∀b,b≠J->b≠cb->z.2.2.2.1 b=m b)/\∃H st l,TSt z.2.2.2.2 s z.2.2.2.1 J H st/\(mo=1->Np s st)/\st[i]? =some l/\((l.length:Int)<=4-z.2.1)/\0<=z.2.1/\∀j l,i+1<=j->st[j]? =some l->l=[],λz=>z.2.1.toNat,⟨(i,k,sl,m3,h2),⟨rfl,rfl,bk,U,c3,λb h1 h2=>by show m3 b=m b;rw[o3.other b h2];grind,H,st,[],g.mono (.refl _) (o3.other J M),F,O,bj,k0,λj l hj=>C j l aC⟩,MT⟩,?_⟩;clear o3 c3 m3 k0 k1 g F C O H st k o2 c2 m2;rintro⟨i',n,a2,m3,h3⟩ ⟨W,T,b9,A,c3,o3,H,st,l,g,F,E,c',b0,C⟩;dsimp only at W T b9 A c3 o3 g F E c' b0 C⊢
  rw[W,T];clear W T i' a2;refine aE (λhn=>?_) (λhn=>?_)
  .obtain⟨b,o,y,ea,rd,hy⟩:=bC.at (hs.mono A).tables f;have c0:dT s (i:Int)=B.columns.map lD.kind:=by rw[dT,if_neg aC,Int.toNat_natCast,f]
   refine⟨b,o,ea,aC,aC,B.key,.imm (by rw[<-hy.key];exact bA.part rd 2 1),by rw[<-hy.key];exact bA.part rd 2 1,v,s,i,rfl,hs.mono A,b5,λks h4 P b1=>?_⟩;rw[c0]at b1;refine⟨cb,ks,B.key,_,mo,rfl,c3.mono P,b1,bk,λk hk=>?_,λsr row m5 h5 V Z a' c1 o5 c5=>?_⟩
   .obtain⟨c,hc,rfl⟩:=mem_map.1 hk;exact b8 c hc
   have d2:row.length=B.columns.length:=by rw[a'.1,length_map]
   refine⟨v,s,i,sr,row,rfl,hs.mono ((A.trans P).trans V),Z,aC,λsk h6 Q a0=>?_⟩;rw[rG f]at a0;have a4:=g.mono ((P.trans V).trans Q) (o5.other J M);obtain⟨u,R⟩:∃u,H[i]? =some u:=⟨_,bu (by rw[g.ulen];exact b')⟩
   have d3:=bx E;refine⟨v,s,J,s.tables.length,G,H,u,i,B,l,sk,dU B row,sr,row,by rw[S],hs.mono (((A.trans P).trans V).trans Q),f,a4.tbl,g.ulen.symm,R,a4.rows i u l R E,aC,λr hr=>?_,a0,bO.mono Z Q,aC,λu' m7 h7 a5 b2 c4 o7=>?_⟩
   .have:=(T0 ((g.ok i B l f E).1 r hr)).1;omega
   rw[decide_eq_false (by omega:¬row.length=0)]at b2;have hw:IntKind.i64.wrap (n-1)=n-1:=dO aC aC;have c6:=NA (t:=B) (key:=dU B row) (row:=row) (l:=l) (d:=false);simp at c6;refine⟨(i,n-1,sl,m7,h7),⟨rfl,rfl,bk,(((A.trans P).trans V).trans Q).trans a5,(c5.mono (Q.trans a5)).keep (o7.other cb (Ne.symm M)) (.refl _),λb h1 h2=>by show m7 b=m b;rw[o7.other b h1,o5.other b h2];grind,H.set i u',st.set i _,_,a4.put a5 f E c4 b2 a' aC,(λe=>aYZ (F e) f E λr hr=>(CK hr).elim (λT=>T▸c1 e) (F e i B l f E r)),getElem?_set_self (bt E),bk,bk,λj l' hj e=>?_⟩,bk,?_⟩
   .grind
   .grind
  .refine⟨(i+1,sl,m3,h3),⟨aC,rfl,A,c3,o3,H,st,g,F,C⟩,aC,?_⟩;rw[jG aC];exact MT
 .obtain⟨D,L,a7,a1⟩:=g.tbl;refine dE.iceB L U λh3 A c9=>hK st sl _ h3 (U.trans A) ⟨⟨⟨H,⟨by rw[S,length_map];exact g.ulen.symm,.inr ⟨J,0,by rw[S],λj e hj=>⟨λn x hx=>?_⟩⟩,bk⟩,by rw[g.slen,g.ulen],λj l E=>?_⟩,by rw[g.slen];omega⟩,by rw[g.slen];omega,g.val⟩ ⟨g.slen,g.few,g.ok,g.val⟩ F ⟨λb hb=>?_⟩ ?_
  .rw[getElem?_map,Option.map_eq_some_iff]at hj;obtain⟨u,R,rfl⟩:=hj;have hn:n=0:=by have:=(bt hx);simp[eS]at this;omega
   subst hn
   have hx:u.val=x:=by
    simp[eS]at hx;exact hx
   subst hx;have e:(D.toList.take H.length)[j]? =some u.val:=bk
   grind
  .have c7:=(bt E);have c8:j<H.length:=by rw[g.ulen, <-g.slen];exact c7
   have R:H[j]? =some H[j]:=bu c8;exact⟨_,R,bC.mono (g.rows j _ l R E) A λr t hv=>bO.mono hv A⟩
  .by_cases e:b=J
   .subst e;simp[X.m_]
   grind
  .refine aL.keep c2 ?_ A
   grind
theorem Zz:cu 10 StateM:=by
 refine X7 func10 ?_;rintro d m h K ⟨cb,v,s,c,rfl,e,f,g,j⟩;refine⟨biJ cb c v,rfl,aD FU (aD xA (aD Yc (aD HN (aD Pu aF)))),Mi cb c v m h (dE h K),be,?_⟩;exact bTJ e f g j
theorem b8Z{st:List cw}(g:Up s st)(r:Np s st):Uq 4 s st:=⟨g.len,g.few,λi t l c d=>⟨λx e=>by
 obtain⟨f,n⟩:=AU.1 ((g.ok i t l c d).1 x e);refine jF.2 ⟨f,λj o=>?_⟩;have u:=n j o;have y:x[j]? =some (x.getD j zeroV):=bk
 have z:(t.columns.map lD.kind)[j]? =some (t.columns.getD j ⟨⟨#[]⟩,0⟩).kind:=by
  grind
 have A:=r i t l c d x e j _ _ y z;simp only[zW,cg]at u;unfold AT
 grind,(g.ok i t l c d).2⟩,g.val⟩
structure FN(h:PH)(us:dk)(ls:List cw):Prop where
 len:us.length=ls.length
 at_:∀(j:Nat) l,ls[j]? =some l->∃u,us[j]? =some u/\Rows h u l
theorem FN.mono{us:dk}{ls:List cw}(x:FN h us ls)(le:PH.le h h'):FN h' us ls:=⟨x.len,λj l d=>(x.at_ j l d).imp λ_ c=>⟨c.1,bC.mono c.2 le λr t e=>bO.mono e le⟩⟩
theorem FN.nil(h:PH):FN h [] []:=⟨rfl,λj x c=>by simp at c⟩
theorem FN.snoc{us:dk}{ls:List cw}(x:FN h us ls){u:Sl}{l:cw}(d:Rows h u l):FN h (us++[u]) (ls++[l]):=by
 refine⟨by simp[x.len],λj r c=>?_⟩;by_cases e:j<ls.length
 .rw[getElem?_append_left e]at c;obtain⟨f,g,n⟩:=x.at_ j r c
  grind
 .rw[getElem?_append_right aC]at c;have:j-ls.length=0:=bk
  rw[this]at c;simp at c;subst c;exact⟨u,by rw[getElem?_append_right (by rw[x.len];omega),x.len,this];rfl,d⟩
structure Xp(m:MH)(s:Sl)(us:dk)(m':MH):Prop where
 row:cT m' s 95 1 (us.map eS)
 fresh:∀b i,s.a=some ⟨b,i,none⟩->m b=none
 keep:∀b o,m b=some o->m' b=some o
def arZ:Vc.Spec:=λd m h K=>∃s c,d=[QO s]/\tS h s c/\c.length<=1000/\(∀l∈c,l.length<=1000)/\(∀l∈c,∀r∈l,r.length<=1000)/\∀e f m' h',PH.le h h'->Xp m e f m'->FN h' f c->K (QO e) m' h'
noncomputable def bLJ:Ctx:=
 rT [(37,Qx)] [(3,{A:=Nat×Sl×Sl×MH×PH,st:=λ⟨i,s,t,m,h⟩=>bU 36 37 [(2,.at (.ptr 2 0)),(3,.at (.ptr 3 0)),(10,sv s),(11,iv s.len),(12,iv i)] [(2,.cells 38 [.val (.slice none 0 0)]),(3,.cells 38 [.val (.slice t.a t.len t.cap)])] m h}),
  (7,{A:=Nat×Sl×dk×Nat×Sl×Sl×MH×PH,st:=λ⟨j,u,rs,i,s,t,m,h⟩=>bU 36 37 [(2,.at (.ptr 2 0)),(3,.at (.ptr 3 0)),(6,.at (.lst 26)),(10,sv s),(11,iv s.len),(12,iv i),(16,sv u),(17,iv u.len),(18,iv j)] [(2,.cells 38 [.val (.slice none 0 0)]),(3,.cells 38 [.val (.slice t.a t.len t.cap)]),(26,.lst 75 1 (rs.map eS))] m h})] [] [] [1036] [] false
noncomputable abbrev BM(a:Nat×Sl×dk×Nat×Sl×Sl×MH×PH):Sl:=a.2.2.2.2.1
noncomputable abbrev tG(a:Nat×Sl×dk×Nat×Sl×Sl×MH×PH):Sl×MH×PH:=vG a.2.2.2
noncomputable abbrev Hv(a:Nat×Sl×dk×Nat×Sl×Sl×MH×PH):List cv:=vD a.2.2.1
attribute [push_cast] BM tG Hv
def Wt(s:Sl)(m:MH)(h:PH)(K:dc):Prop:=
  ∃(I:Nat×Sl×Sl×MH×PH->Prop)(j:Nat×Sl×Sl×MH×PH->Nat),(∃(x:Nat×Sl×Sl×MH×PH),aA (I x) gV (aA (eP 3) (aX s x.2.1) (aA (cD s x.2.1) (bE x.1) (aA jO (oQ 38 (rN BV)=oQ 38 (qB (vG x).1)) (fM m (vG x).2 h)))))/\∀(x:Nat×Sl×Sl×MH×PH),I x->aY (↑x.1:Int) (aG x.2.1) (dN x.2.1.a (↑x.1:Int) x.2.1 (λb o y=>aJ (fG (vG x)) (eV (vG x)) b (bB o x.1 1) (aM y)/\∃(I1:Nat×Sl×dk×Nat×Sl×Sl×MH×PH->Prop)(n:Nat×Sl×dk×Nat×Sl×Sl×MH×PH->Nat),(∃(c:Nat×Sl×dk×Nat×Sl×Sl×MH×PH),aA (I1 c) gV (aA (eP 3) (eL 26) (aA (aX x.2.1 (BM c)) (cD x.2.1 (BM c)) (aA (bP x.1 c.2.2.2.1) (aX y c.2.1) (aA (cD y c.2.1) (bE c.1) (aA jO (gG (vG x).1 (tG c).1)
 (aI (pE 75 1 (Hv c)) (j8 (fG (vG x)) (tG c)) (fI (eV (vG x)) (tG c).2) True)))))))/\∀(c:Nat×Sl×dk×Nat×Sl×Sl×MH×PH),I1 c->aY (↑c.1:Int) (aG c.2.1) (dN c.2.1.a (↑c.1:Int) c.2.1 (λA B t=>aJ (fG (tG c)) (eV (tG c)) A (bB B c.1 1) (aM t)/\Bw t (eV (tG c)) (λf g=>kX (Hv c) 24 (∃(d:Nat×Sl×dk×Nat×Sl×Sl×MH×PH),aA (I1 d) (n d<n c) (aA gV fW (aA (eL 26) (aX (BM c) (BM d)) (aA (cD (BM c) (BM d)) (bP c.2.2.2.1 d.2.2.2.1) (aA (aX c.2.1 d.2.1) (cD c.2.1 d.2.1) (aA (fJ (aW c.1 1)=bY d.1) jO (aA (gG (tG c).1 (tG d).1) (ED (Hv c) f (Hv d)) (aA (j8 (fG (tG c)) (tG d)) (fI g
 (tG d).2) True))))))))))) (bQ (eV (tG c)) 1 (Hv c) (λf g=>∃(d:List cv),aI (cT (fG (tG c)) (cH (tG c).1) 95 1 d) (cW (iA d 1*24)) (fN d) (∀(u:Sl)(z:MH),dV (fG (tG c)) z (cH (tG c).1) u 95 1 (eK d (aM f))->∃(e:Nat×Sl×Sl×MH×PH),aA (I e) (j e<j x) (aA gV fW (aA (aX (BM c) e.2.1) (cD (BM c) e.2.1) (aA (fJ (aW c.2.2.2.1 1)=bY e.1) jO (aI (gG u (vG e).1) (j8 z (vG e)) (fI g (vG e).2) True))))))))) (K (nS (aM (vG x).1)) (fG (vG x)) (eV (vG x)))
theorem aJJ:cu 31 arZ:=by
 refine iB func31 ?_;rintro a0 m h K ⟨s,A,rfl,hs,L,h2,h3,hK⟩;refine⟨bLJ,rfl,aD HM aF,Wt s m h K,be,?_⟩;dsimp only[Wt,push_cast];have E:=bC.slen hs.lea;refine⟨λz=>z.1<=A.length/\∃t y L B,z.2=(s,t,y,L)/\PH.le h L/\Xp m t B y/\FN L B (A.take z.1),λz=>A.length-z.1,⟨(0,s,bT,m,h),⟨bf,bT,m,h,[],rfl,.refl _,⟨cT.nil _ _ _,λb i e=>(by cases e),λb o e=>e⟩,by rw[take_zero];exact FN.nil h⟩,MT⟩,?_⟩;rintro⟨i,z⟩ ⟨hi,t,y,F,B,e,d,C,G⟩;dsimp only at hi e G;subst e;dsimp only;have P:=G.len;rw[length_take]at P;refine aE (λQ=>?_) (λa1=>?_)
 .obtain⟨l,R⟩:=eO E Q;have hm:=bx R;have a2:=h2 l hm;have S:A.take (i+1)=A.take i++[l]:=by rw[cj,R];rfl
  obtain⟨b,o,u,ea,rd,hr⟩:=bC.at hs.lea R;have H:=bC.slen hr;have a3:i<A.length:=by omega
  refine⟨b,o,ea,aC,aC,u,.imm (rd.mono d),λz=>z.1<=l.length/\∃rs M,z.2=(u,rs,i,s,t,y,M)/\PH.le F M/\fQ M rs (l.take z.1),λz=>l.length-z.1,⟨(0,u,[],i,s,t,y,F),⟨bf,[],F,rfl,.refl _,by rw[take_zero];exact fQ.nil F⟩,MT⟩,?_⟩;rintro⟨j,z⟩ ⟨hj,rs,M,e,f,g⟩;dsimp only at hj e g;subst e;dsimp only;have T:=g.len;rw[length_take]at T;refine aE (λI=>?_) (λa'=>?_)
  .obtain⟨r,n⟩:=eO H I;have a4:=(bt n);obtain⟨b2,o2,ur,U,V,hv⟩:=bC.at hr n;have J:l.take (j+1)=l.take j++[r]:=by rw[cj,n];rfl
   refine⟨b2,o2,U,aC,aC,ur,.imm (V.mono (d.trans f)),ur,r,rfl,bO.mono hv (d.trans f),h3 l hm r (bx n),λs2 D c W=>?_⟩;rw[jG aC];refine⟨bk,bk,(j+1,u,rs++[s2],i,s,t,y,D),⟨aC,rs++[s2],D,rfl,f.trans c,by dsimp only;rw[J];exact(g.mono c).snoc W⟩,aC,by rw[cd];exact MT⟩
  .rw[ca aC]at g;intro sp D c X;have Y:Rows D sp l:=(g.mono c).rows X aC;rw[jG aC];refine⟨B.map eS,C.row,bk,bk,λt2 m2 Z=>⟨(i+1,s,t2,m2,D),⟨aC,t2,m2,D,B++[sp],rfl,d.trans (f.trans c),⟨by rw[cd];exact Z.row,λb i e=>?_,λb o e=>Z.other b o (C.keep b o e) λi e2=>by rw[C.fresh b i e2]at e;cases e⟩,by dsimp only;rw[S];exact(G.mono (f.trans c)).snoc Y⟩,aC,MT⟩⟩;rcases Z.fresh b i e with O|⟨j2,O⟩
   .cases e3:m b with
    |none=>rfl
    |some o=>rw[C.keep b o e3]at O;cases O
   .exact C.fresh b j2 O
 .rw[ca aC]at G;exact hK t B y F d C G
structure Mz(m m':MH)(cb:Nat)(s:Sl)(r:de):Prop where
 row:cT m' s 58 3 (r.map VV.enc)
 fresh:∀b i,s.a=some ⟨b,i,none⟩->m b=none
 keep:∀b o,b≠cb->m b=some o->m' b=some o
def b0X:Vc.Spec:=λc m h K=>∃cb s key ks,c=[cP cb,cS s,cI key,cI 1]/\aL m h cb/\Ints h s ks/\ks.length<=1000/\(∀k∈ks,k=3\/k=4\/k=5)/\∀d r m',Mz m m' cb d r->H8 key ks r->Bl ks r->aL m' h cb->K (cS d) m' h
noncomputable def a6Q(cb:Nat)(key:Int)(s:Sl)(h:PH):Ctx:=rT [(20,Il),(62,Qf)] [(3,{A:=Nat×Sl×MH,st:=λ⟨i,w,m⟩=>bU 59 63 [(0,pv cb),(2,iv key),(3,iv 1),(9,sv w),(12,sv s),(13,iv s.len),(14,iv i)] [] m h})] [] [] [1075] [] false
noncomputable abbrev A6(a:Nat×Sl×MH):Sl:=a.2.1
abbrev JQ(a:Nat)(b:Int)(c:Nat×Sl×MH)(d:PH)(e:VV->MH->(List cv)->Prop):Prop:=Kj a b c.2.2 d (λx j f=>∀(g:MH),aR (GD f) (Lb j f) (aR (aT c.2.2 g x) (aL g d x) (∃(n:List cv),e f g n)))
abbrev JP(a b:MH)(c:Nat×Sl×MH)(d:Sl)(e:Nat)(g:List cv)(i:VV)(j:(Nat×Sl×MH)->Prop):Prop:=dV a b (cH (A6 c)) d 58 e (eK g i.enc)->∃(x:Nat×Sl×MH),j x
attribute [push_cast] A6 JQ JP
def RA(cb:Nat)(s:Sl)(key:Int)(m:MH)(h:PH)(K:dc):Prop:=
  ∃(I:Nat×Sl×MH->Prop)(j:Nat×Sl×MH->Nat),(∃(x:Nat×Sl×MH),aA (I x) (bZ cb) (aA (bL key) (bL 1) (aA (sQn=sQs (A6 x)) (aH s) (aA (bI s) (bE x.1) (dP m x.2.2 h h)))))/\∀(x:Nat×Sl×MH),I x->aY (↑x.1:Int) (aG s) (bD (λb o=>aI (bF s.a b o) (0<=(↑x.1:Int)) ((↑x.1:Int)<aG s) (∃(y:Int),aJ x.2.2 h b (bB o x.1 1) (bG y)/\A7 (↑x.1:Int) key (A7 (↑x.1:Int) key (JQ cb y x h (λv e d=>aI (cT e (cH (A6 x)) 58 3 d) (cW (iA d 1*32)) (fN d) (∀(f:Sl)(g:MH),JP e g x f 3 d v (λc=>aA (I c) (j c<j x) (aA (bZ cb) (bL key) (aA (bL 1) (aX f (A6 c)) (aA (aH s) (bI s) (cF (fJ (aW x.1 1)=bY c.1) g c.2.2 h h)))))))) (JQ cb y x h (λv e d=>aI (cT e
 (cH (A6 x)) 58 3 d) (cW (iA d 1*32)) (fN d) (∀(f:Sl)(g:MH),JP e g x f 3 d v (λc=>aA (I c) (j c<j x) (aA (bZ cb) (bL key) (aA (bL 1) (aX f (A6 c)) (aA (aH s) (bI s) (cF (fJ (aW x.1 1)=bY c.1) g c.2.2 h h))))))))) (A7 (↑x.1:Int) key (JQ cb y x h (λv e d=>aI (cT e (cH (A6 x)) 58 3 d) (cW (iA d 1*32)) (fN d) (∀(f:Sl)(g:MH),JP e g x f 3 d v (λc=>aA (I c) (j c<j x) (aA (bZ cb) (bL key) (aA (bL 1) (aX f (A6 c)) (aA (aH s) (bI s) (cF (fJ (aW x.1 1)=bY c.1) g c.2.2 h h)))))))) (JQ cb y x h (λv e d=>aI (cT e (cH (A6 x)) 58 3 d) (cW (iA d 1*32)) (fN d) (∀(f:Sl)(g:MH),JP e g x f 3 d v (λc=>aA (I c) (j c<
 j x) (aA (bZ cb) (bL key) (aA (bL 1) (aX f (A6 c)) (aA (aH s) (bI s) (cF (fJ (aW x.1 1)=bY c.1) g c.2.2 h h)))))))))))) (K (mL (A6 x)) x.2.2 h)
theorem Mz.nil(m:MH)(cb:Nat):Mz m m cb bT []:=⟨cT.nil _ _ _,λb i e=>(by cases e),λb o _ e=>e⟩
theorem Mz.other{f m2:MH}{s:Sl}{r:de}(x:Mz m f cb s r)(n:aL m h cb)(o:aT f m2 cb):Mz m m2 cb s r:=by
 refine⟨⟨x.row.rows,?_⟩,x.fresh,λb t g e=>by rw[o.other b g];exact x.keep b t g e⟩;rcases x.row.ex with e|⟨b,c,d,e,u,y⟩
 .exact .inl e
 .refine .inr ⟨b,c,d,e,?_,y⟩;rw[o.other b λz=>?_]
  .exact u
  .obtain⟨cs,j⟩:=n.blk;rw[<-z,x.fresh b 0 (by rw[e])]at j;cases j
theorem Mz.app{n m2:MH}{y:PH}{s s':Sl}{r:de}{v:VV}(x:Mz m n cb s r)(A:aL m h cb)(t:aL n y cb)(g:dV n m2 s s' 58 3 (r.map VV.enc++[v.enc])):Mz m m2 cb s' (r++[v])/\aL m2 y cb:=by
 refine⟨⟨by rw[cd];exact g.row,λb i e=>?_,λb o d e=>g.other b o (x.keep b o d e) λi u=>by rw[x.fresh b i u]at e;cases e⟩,t.keep ?_ (.refl _)⟩
 .rcases g.fresh b i e with f|⟨j,f⟩
  .by_cases d:b=cb
   .subst d;obtain⟨cs,c⟩:=t.blk
    grind
   .cases c:m b with
    |none=>rfl
    |some o=>rw[x.keep b o d c]at f;cases f
  .exact x.fresh b j f
 .obtain⟨cs,c⟩:=t.blk;obtain⟨B,z⟩:=A.blk;rw[c];exact g.other cb _ c λi u=>by rw[x.fresh cb i u]at z;cases z
theorem Ye:cu 28 b0X:=by
 refine iB func28 ?_;rintro S m h K ⟨cb,s,key,ks,rfl,G,P,hl,T,U⟩;refine⟨a6Q cb key s h,rfl,aD uU (aD HL aF),RA cb s key m h K,be,?_⟩;dsimp only[RA,push_cast];have J:=P.slen;refine⟨λz=>z.1<=ks.length/\∃l,Mz m z.2.2 cb z.2.1 l/\H8 key (ks.take z.1) l/\Bl (ks.take z.1) l/\aL z.2.2 h cb,λz=>ks.length-z.1,⟨(0,bT,m),⟨bf,[],.nil m cb,⟨bf,bf,λj u k h=>by simp at h⟩,λj u k h=>by simp at h,G⟩,MT⟩,?_⟩;rintro⟨i,w,C⟩ ⟨V,l,H,f,A,L⟩;dsimp only at V H f A L⊢
 have M:l.length=i:=by rw[f.1,length_take];omega
 refine aE (λO=>?_) (λW=>?_)
 .obtain⟨k,I⟩:=eO J O;obtain⟨b,o,X,rd⟩:=P.at' I;have D:=T k (bx I)
  have E:∃(c:Nat)(n:Int),[F1 cb 0,jA k]=[F1 c 0,jA n]/\aL C h c/\∀(v:VV)(m':MH),GD v->Lb n v->aT C m' c->aL m' h c->∃xs,cT m' ⟨w.a,w.len,w.cap⟩ 58 3 xs/\(xs.length+1)*32<=140737488355328/\xs.length<140737488355328/\∀(t:Sl)(d:MH),dV m' d ⟨w.a,w.len,w.cap⟩ t 58 3 (xs++[v.enc])->Mz m d cb t (l++[v])/\H8 key (ks.take (i+1)) (l++[v])/\Bl (ks.take (i+1)) (l++[v])/\aL d h cb:=by
   refine⟨cb,k,rfl,L,λv m' Y F R Z=>⟨l.map VV.enc,(H.other G R).row,bk,bk,λt d g=>?_⟩⟩;obtain⟨n2,c3⟩:=(H.other G R).app G Z g;exact⟨n2,f.snoc I Y (Rq D F),A.snoc M I (F D).2,c3⟩
  have y:∀{Q:Nat×Sl×MH->Sl->MH->Prop},(∀t d,Q (i+1,t,d) t d)->∃(c:Nat)(n:Int),[F1 cb 0,jA k]=[F1 c 0,jA n]/\aL C h c/\∀(v:VV)(m':MH),GD v->Lb n v->aT C m' c->aL m' h c->∃xs,cT m' ⟨w.a,w.len,w.cap⟩ 58 3 xs/\(xs.length+1)*32<=140737488355328/\xs.length<140737488355328/\∀(t:Sl)(d:MH),dV m' d ⟨w.a,w.len,w.cap⟩ t 58 3 (xs++[v.enc])->∃B:Nat×Sl×MH,(B.1<=ks.length/\∃l,Mz m B.2.2 cb B.2.1 l/\H8 key (ks.take B.1) l/\Bl (ks.take B.1) l/\aL B.2.2 h cb)/\ks.length-B.1<ks.length-i/\Q B t d:=fun{Q} hQ=>by
   obtain⟨c',k',e,h1,h2⟩:=E;refine⟨c',k',e,h1,λv m' a1 a2 a3 a4=>?_⟩;obtain⟨xs,b1,b2,b3,b4⟩:=h2 v m' a1 a2 a3 a4;refine⟨xs,b1,b2,b3,λt d g=>?_⟩;exact⟨(i+1,t,d),⟨aC,_,b4 t d g⟩,aC,hQ t d⟩
  rw[show IntKind.i64.wrap ((i:Int)+1)=((i+1:Nat):Int)from jG aC];refine⟨b,o,X,aC,aC,k,.imm rd,aE (λ_=>aE (λ_=>y λt d=>MT) (λ_=>y λt d=>MT)) (λ_=>aE (λ_=>y λt d=>MT) (λ_=>y λt d=>MT))⟩
 .rw[ca aC]at f A;exact U w l C H f A L
structure QQ(h:PH)(l:List fO)(cs:List tD):Prop where
 len:l.length=cs.length
 rep:∀(i:Nat)(c:tD),cs[i]? =some c->∃v,l[i]? =some v/\Bh h c v
theorem QQ.mono{l:List fO}{cs:List tD}(x:QQ h l cs)(le:PH.le h h'):QQ h' l cs:=⟨x.len,λi c e=>(x.rep i c e).imp λ_ y=>⟨y.1,y.2.mono le⟩⟩
theorem QQ.cs{l:List fO}{cs:List tD}{s:Sl}(x:QQ h l cs)(r:bX h s 3 (l.map fO.enc))(c:cs.length<=1000):pH h s cs:=⟨⟨l,r,x.len.symm,x.rep⟩,aC⟩
theorem QQ.snoc{l:List fO}{cs:List tD}{c:tD}{v:fO}(x:QQ h l cs)(y:Bh h c v):QQ h (l++[v]) (cs++[c]):=⟨by simp[x.len],λi d e=>by
 rcases Nat.lt_trichotomy i cs.length with f|f|f
 .rw[getElem?_append_left f]at e;obtain⟨w,g,j⟩:=x.rep i d e
  grind
 .subst f;simp at e;subst e;exact⟨v,by rw[<-x.len];simp,y⟩
 grind⟩
def Xz:Vc.Spec:=λe m h K=>∃cb v s g f,∃c:Nat,e=[cP cb,aS v,cI 1,QO g,cI c]/\aL m h cb/\dM h s v/\mN s/\tS h g f/\Uq 4 s f/\c<=5/\
 ∀j w cs d m' h',PH.le h h'->pH h' j cs->La s f cs d->Uq (4+c) s d->cs.length<=c->Kept m m' cb->aL m' h' cb->K (.tup [cS j,QO w]) m' h'
def ZM(v:bJ)(w:Sl)(l:List fO):List (Nat×Go.Vc.Own):=[(6,.cells 29 (v.enc.map .val)),(8,.cells 38 [.val w.val]),(11,.cells 38 [.val bT.val]),(111,.lst 84 3 (l.map fO.enc))]
noncomputable def bSX(cb:Nat)(v:bJ):Ctx:=rT [(13,FY),(20,Il),(24,Xs),(28,b0X),(29,tW),(30,cdX),(31,arZ),(32,cjZ)]
 [(4,{A:=Int×Sl×List fO×MH×PH,st:=λ⟨n,w,l,m,h⟩=>bU 122 127 [(0,pv cb),(2,iv 1),(6,.at (.ptr 6 0)),(8,.at (.ptr 8 0)),(11,.at (.ptr 11 0)),(12,.at (.lst 111)),(13,iv n)] (ZM v w l) m h})]
 [(12,{A:=Int×Sl×Int×Sl×List fO×MH×PH,frz:=true,st:=λ⟨t,r,n,w,l,m,h⟩=>bU 122 127 [(0,pv cb),(2,iv 1),(6,.at (.ptr 6 0)),(8,.at (.ptr 8 0)),(11,.at (.ptr 11 0)),(12,.at (.lst 111)),(13,iv n),(14,.at (.ptr 14 0)),(15,sv r)] ((14,.cells 84 [.val (.int .i64 t),.val bT.val,.val bT.val])::ZM v w l) m h}),
  (16,{A:=fO×Sl×Int×Sl×List fO×MH×PH,st:=λ⟨x,k,n,w,l,m,h⟩=>bU 122 127 [(0,pv cb),(2,iv 1),(6,.at (.ptr 6 0)),(8,.at (.ptr 8 0)),(11,.at (.ptr 11 0)),(12,.at (.lst 111)),(13,iv n),(14,.at (.ptr 14 0)),(18,sv k)] ((14,.cells 84 (x.enc.map .val))::ZM v w l) m h})] [] [1000] [] false
noncomputable abbrev pB(a:Int×Sl×List fO×MH×PH):Sl:=a.2.1
noncomputable abbrev yN(a:Int×Sl×List fO×MH×PH):List cv:=List.map fO.enc a.2.2.1
noncomputable abbrev nN(a:Int×Sl×List fO×MH×PH):MH×PH:=a.2.2.2
noncomputable abbrev pX(a:Int×Sl×List fO×MH×PH):Nat->Nat->Option Value:=(nN a).2
noncomputable abbrev kZ(a:Int×Sl×Int×Sl×List fO×MH×PH):Int×Sl×List fO×MH×PH:=a.2.2
abbrev NZ(a:Int)(b:Int×Sl×Int×Sl×List fO×MH×PH):Prop:=oQ 84 (cG (iN a) BV (rN BV))=oQ 84 (cG (iN b.1) BV (rN BV))
abbrev N0(a:Int×Sl×List fO×MH×PH)(b:Int×Sl×Int×Sl×List fO×MH×PH):Prop:=Option.some (Own.lst 84 3 (yN a))=Option.some (Own.lst 84 3 (yN (kZ b)))
noncomputable abbrev lZ(a:fO×Sl×Int×Sl×List fO×MH×PH):Int×Sl×List fO×MH×PH:=a.2.2
abbrev N1(a:Int×Sl×Int×Sl×List fO×MH×PH)(b:fO×Sl×Int×Sl×List fO×MH×PH):Prop:=Option.some (Own.lst 84 3 (yN (kZ a)))=Option.some (Own.lst 84 3 (yN (lZ b)))
attribute [push_cast] pB yN nN pX kZ NZ N0 lZ N1
def WT(cb:Nat)(v:bJ)(sl:Sl)(M:Nat)(m:MH)(h:PH)(K:dc):Prop:=
  Ch (λs l=>aA (LA (nS (aM sl))=LA (nS (aM s))) (tS h s l) (aA (jV l.length) (JR l (λl1=>jV l1.length)) (JR l (λl1=>Al l1 (λr=>jT r))/\∀(s1:Sl)(u:dk),eZ (λm1 U=>cR h U (Xp m s1 u m1) (FN U u l->fU cb (aW M 1) m1 U (λk m2=>∃(I:Int×Sl×List fO×MH×PH->Prop)(m3:Int×Sl×List fO×MH×PH->Nat),(∃(x:Int×Sl×List fO×MH×PH),aA (I x) (bZ cb) (aA (bL 1) jH (aA dC gW (aA (eL 111) (bV k x.1) (aA (aU v) (gG s1 (pB x)) (aA jO (pE 84 3 (yN x)) (fM m2 (nN x) U)))))))/\∀(x:Int×Sl×List fO×MH×PH),I x->kK x.1 0 (kK (gY v) 0 (fU cb (gY v) (nN x).1 (pX x) (λj m4=>Ai v j (λb o y=>aA (aJ m4 (pX x) b (eM o j 5
 +2) (bG y)) (bA (pX x) b (eM o j 5+2) (bG y)) (Am (cO (gL v) j) (pX x) (λO f=>∃(c:Nat),Kf (λs3 k2 P=>aA (cZ cb (cQ O (cO (jA y) 1))=cZ c (cQ s3 (cO (jA k2) 1))) (aL m4 f c) (aA (Ints f s3 P) (gJ P) ((∀(z:Int),List.Mem z P->z=3\/z=4\/z=5)/\∀(H:Sl)(r:de)(D:MH),aR (Mz m4 D c H r) (H8 k2 P r) (aR (Bl P r) (aL D f c) (∃(I1:Int×Sl×Int×Sl×List fO×MH×PH->Prop),dN (pB x).a j (pB x) (λb1 o1 Q=>aJ D f b1 (eM o1 j 1) (aM Q)/\kK (aG Q) 0 (kT cb 2 D f (λV J=>∀(g:MH),aR (aT D g V) (aL g f V) (branch J (fU cb (aG Q) g f (λz W=>dN Q.a z Q (λb2 o2 y2=>aJ W f b2 (eM o2 z 1) (aM y2)/\EO v j y2 f
 (λL B=>bD (λb3 o3=>zR (bF H.a b3 o3) (λR=>aI (dQ 3 R) (oW W B (cH L) 3 R) (R.length<=H.len) (mH (λA E=>aA (CA W b3 (jI A E 0)) (o3+R.length*3<=A.size) (∀(m8:MH),aR (cL W m8 b3 (splice A.toList o3 R.flatten) E) (zB m8 B) (∃(d:Int×Sl×Int×Sl×List fO×MH×PH),aA (I1 d) (bZ cb) (aA (bL 1) jH (aA dC gW (aA (eL 111) (bV x.1 (kZ d).1) (aA (eP 14) (aX H d.2.1) (aA (aU v) (gG (pB x) (pB (kZ d))) (aA jO (NZ j d) (aA (N0 x d) (vX m8 B (nN (kZ d)).1 (pX (kZ d))) True))))))))))))))))) (zB g f->∃(d:Int×Sl×Int×Sl×List fO×MH×PH),aA (I1 d) (bZ cb) (aA (bL 1) jH (aA dC gW (aA (eL 111) (bV x.1 (kZ d).1) (aA (eP 14) (aX H
 d.2.1) (aA (aU v) (gG (pB x) (pB (kZ d))) (aA jO (NZ j d) (aA (N0 x d) (vX g f (nN (kZ d)).1 (pX (kZ d))) True))))))))))) (zB D f->∃(d:Int×Sl×Int×Sl×List fO×MH×PH),aA (I1 d) (bZ cb) (aA (bL 1) jH (aA dC gW (aA (eL 111) (bV x.1 (kZ d).1) (aA (eP 14) (aX H d.2.1) (aA (aU v) (gG (pB x) (pB (kZ d))) (aA jO (NZ j d) (aA (N0 x d) (vX D f (nN (kZ d)).1 (pX (kZ d))) True)))))))))/\∀(d:Int×Sl×Int×Sl×List fO×MH×PH),I1 d->EO v d.1 d.2.1 (pX (kZ d)) (λL B=>Ke (λv1 s6 t n V u1 u2 t1 t2 J s7 z=>aA (cE (dX v) (cE (aM (pB (kZ d))) (fT d.1 (mL L)))=cE (dX v1) (cE (E6 t n V) (fT (↑t1:Int)
 (mL s7)))) (dM B s6 v1) (aA (C7 s6 t1 t2) (GF (nN (kZ d)).1 t u1) (aA (n=u1.length) (HD u1 t1 u2) (aA (Rows B u2 J) (jV J.length) (aA (Al J (λC=>jT C)) (bO B s7 z) (∀(S:Sl),∀(_:Bool),∀(F:PH),cR B F (bO F S (rP t2 z J)) (∃(I2:fO×Sl×Int×Sl×List fO×MH×PH->Prop),bK (aG S) 0 (∃(e:fO×Sl×Int×Sl×List fO×MH×PH),aA (I2 e) (bZ cb) (aA (bL 1) jH (aA dC gW (aA (eL 111) (bV (kZ d).1 (lZ e).1) (aA (eP 14) (aX L e.2.1) (aA (aU v) (gG (pB (kZ d)) (pB (lZ e))) (aA jO (oQ 84 (cG (iN d.1) (fY S) (qB d.2.1))=oQ 84 (cG (iN e.1.table) (fY e.1.old) (qB e.1.new))) (aA (N1 d e) (iD (nN (kZ d)).1 (nN (lZ e))) (eA F (nN (lZ
 e))))))))))) (kT cb 3 (nN (kZ d)).1 F (λA C=>∀(g:MH),aR (aT (nN (kZ d)).1 g A) (aL g F A) (branch (!C) (∃(e:fO×Sl×Int×Sl×List fO×MH×PH),aA (I2 e) (bZ cb) (aA (bL 1) jH (aA dC gW (aA (eL 111) (bV (kZ d).1 (lZ e).1) (aA (eP 14) (aX L e.2.1) (aA (aU v) (gG (pB (kZ d)) (pB (lZ e))) (aA jO (oQ 84 (cG (iN d.1) (fY S) (qB d.2.1))=oQ 84 (cG (iN e.1.table) (fY e.1.old) (qB e.1.new))) (aA (N1 d e) (iD g (nN (lZ e))) (eA F (nN (lZ e))))))))))) (∃(e:fO×Sl×Int×Sl×List fO×MH×PH),aA (I2 e) (bZ cb) (aA (bL 1) jH (aA dC gW (aA (eL 111) (bV (kZ d).1 (lZ e).1) (aA (eP 14) (aX L e.2.1) (aA (aU v) (gG (pB
 (kZ d)) (pB (lZ e))) (aA jO (oQ 84 (cG (iN d.1) (fY S) (rN BV))=oQ 84 (cG (iN e.1.table) (fY e.1.old) (qB e.1.new))) (aA (N1 d e) (iD g (nN (lZ e))) (eA F (nN (lZ e))))))))))))))/\∀(e:fO×Sl×Int×Sl×List fO×MH×PH),I2 e->kX (yN (lZ e)) 56 (Ke (λv2 s9 T n1 A X u4 Y t5 C a k5=>tH (λa1 Z=>aA (cE (dX v) (cE (aM (pB (lZ e))) (nH e.1.table (gK e.2.1 e.1.new)))=cE (dX v2) (cE (E6 T n1 A) (nH (↑Y:Int) (gK a a1)))) (dM (pX (lZ e)) s9 v2) (aA (C7 s9 Y t5) (GF (nN (lZ e)).1 T X) (aA (n1=X.length) (HD X Y u4) (aA (Rows (pX (lZ e)) u4 C) (jV C.length) (aA (Al C (λr4=>jT r4)) (bO (pX (lZ e)) a k5) (aA (bO
 (pX (lZ e)) a1 Z) (jT Z) (∀(u5:Sl),eZ (λg h5=>cR (pX (lZ e)) h5 (Rows h5 u5 (qO t5 k5 Z (decide (Z.length=0)) C)) (aR (GF g T (List.set X Y u5)) (aT (nN (lZ e)).1 g T) (∃(G:Int×Sl×List fO×MH×PH),aA (I G) (m3 G<m3 x) (aA (bZ cb) (bL 1) (aA jH dC (aA gW (eL 111) (aA (bV (eE ((lZ e).1-1)) G.1) (aU v) (aA (oQ 38 (rN (At.val (Value.slice (sT T) n1 A)))=oQ 38 (qB (pB G))) jO (aI (Option.some (Own.lst 84 3 (eK (yN (lZ e)) (jQ e.1)))=Option.some (Own.lst 84 3 (yN G))) (iD g (nN G)) (fI h5 (nN G)) True)))))))))))))))))))))))))))))))))))) (bQ (pX x) 3 (yN x) (λO f=>K (CV.tup (fP O (pR (pB x)))) (nN x).1 f))) (bQ (pX x) 3 (yN x) (λO
 f=>K (CV.tup (fP O (pR (pB x)))) (nN x).1 f))))))))
theorem KD{sz:Nat}:∀{xs:List cv},(∀e∈xs,e.length=sz)->∀n,xs.flatten.drop (n*sz)=(xs.drop n).flatten
 |[],_,n=>bf
 |x::xs,h,0=>bf
 |x::xs,h,n+1=>by
  have c:=h x (mem_cons_self ..);have d:=KD (λe f=>h e (mem_cons_of_mem _ f)) n;rw[flatten_cons,drop_succ_cons, <-d,Nat.succ_mul,Nat.add_comm, <-drop_drop, <-c,drop_left]
theorem kS.copy{m0:MH}{s:Sl}{E:TypeId}{d:List cv}(r:kS m0 m s E sz xs)(n:dQ sz d)(C:d.length<=xs.length){c:Array Value}(e:s.a=some ⟨b,0,none⟩)(D:m b=some (.cells c E (0,0)))(F:gR m m' b (.cells (splice c.toList 0 d.flatten).toArray E (0,0))):kS m0 m' s E sz (d++xs.drop d.length):=by
 refine⟨⟨⟨λe o=>?_,λe o u z=>?_⟩,?_⟩,r.fresh⟩
 .rcases mem_append.1 o with h|h
  .exact n.len e h
  .exact r.row.rows.len e (mem_of_mem_drop h)
 .rcases mem_append.1 o with h|h
  .exact n.one e h u z
  .exact r.row.rows.one e (mem_of_mem_drop h) u z
 .rcases r.row.ex with⟨rfl,_⟩|⟨G,g,A,rfl,j,H,I,P,J⟩
  .cases e
  .simp only[ce,Addr.mk.injEq]at e;obtain⟨rfl, -, -⟩:=e;rw[D]at j;simp only[ce,Obj.cells.injEq]at j;obtain⟨rfl, -, -⟩:=j;have f:(d++xs.drop d.length).length=xs.length:=bj
   have t:=cM n.len;have L:=cM r.row.rows.len;have M:d.length*sz<=xs.length*sz:=Nat.mul_le_mul_right _ C;have y:c.toList.length=g*sz:=by omega
   have B:xs.length*sz<=g*sz:=Nat.mul_le_mul_right _ H;refine .inr ⟨G,g,_,by rw[f],F.at_,aC,I,?_,?_⟩
   .simp only[size_toArray];rw[Dx _ _ _ aC];exact y
   .rw[f,flatten_append, <-KD r.row.rows.len, <-J, <-t];have O:splice c.toList 0 d.flatten=d.flatten++c.toList.drop d.flatten.length:=by simp[splice]
    show(splice c.toList 0 d.flatten).take (xs.length*sz)=_;rw[O,take_append,ca aC,drop_take]
theorem Kept.upd{m0:MH}{o:Obj}(k:Kept m0 m cb)(d:gR m m' b o)(g:m0 b=none):Kept m0 m' cb:=λc f e n=>by
 rw[d.other c λj=>by grind];exact k c f e n
structure TG(h:PH)(s:j4)(m:MH)(tb:Nat)(us:dk)(st:List cw):Prop where
 tbl:GF m tb us
 ulen:us.length=s.tables.length
 slen:st.length=s.tables.length
 rows:∀(j:Nat) u l,us[j]? =some u->st[j]? =some l->Rows h u l
theorem TG.mono{tb:Nat}{us:dk}{st:List cw}(x:TG h s m tb us st)(le:PH.le h h')(e:m' tb=m tb):TG h' s m' tb us st:=by
 obtain⟨c,n,d,f⟩:=x.tbl;exact⟨⟨c,bk,d,f⟩,x.ulen,x.slen,λj u l a b=>bC.mono (x.rows j u l a b) le λr t g=>bO.mono g le⟩
theorem TG.set{tb t:Nat}{us:dk}{st:List cw}{c:Sl}{d:cw}(x:TG h s m tb us st)(le:PH.le h h')(y:t<st.length)(n:GF m' tb (us.set t c))(z:Rows h' c d):TG h' s m' tb (us.set t c) (st.set t d):=by
 refine⟨n,by rw[length_set];exact x.ulen,by rw[length_set];exact x.slen,λj u l f g=>?_⟩;by_cases e:t=j
 .grind
 .rw[getElem?_set_ne e]at f g;exact bC.mono (x.rows j u l f g) le λr t o=>bO.mono o le
theorem Xp.tbl{s:Sl}{us:dk}(x:Xp m s us m')(f:us≠[]):∃tb cap,s=⟨some ⟨tb,0,none⟩,us.length,cap⟩/\GF m' tb us/\m tb=none:=by
 rcases x.row.ex with⟨_,e⟩|⟨b,cap,c,e,g,j,n,o,d⟩
 .exact absurd (map_eq_nil_iff.1 e) f
 .rw[length_map]at e j d;refine⟨b,cap,e,⟨c,g,aC,?_⟩,x.fresh b 0 (by rw[e])⟩;rw[Nat.mul_one,TZ]at d;exact d
theorem bAJ{t:sZ}{row old:de}(g:1<=t.key)(j:t.key<=t.columns.length)(d:qM 1 t row=true)(f:qM 1 t old=true):(dU t old).length=t.key.toNat/\qM 1 t (dU t old++row.drop t.key.toNat)=true:=by
 obtain⟨n,o⟩:=jF.1 d;obtain⟨u,y⟩:=jF.1 f;have e:dU t old=old.take t.key.toNat:=by unfold dU;grind
 have c:(dU t old).length=t.key.toNat:=by grind
 refine⟨c,jF.2 ⟨by grind,λi z=>?_⟩⟩
 grind
theorem b9J{t:sZ}{r:de}(h:H8 t.key (t.columns.map lD.kind) r)(e:Bl (t.columns.map lD.kind) r):qM 1 t r=true/\∀v∈r,H7 v.kind/\H7 v.int:=by
 obtain⟨f,g⟩:=AU.1 (afJ h);refine⟨jF.2 ⟨f,λj n=>?_⟩,λv d=>?_⟩
 .have o:=g j n;have u:r[j]? =some (r.getD j zeroV):=bk
  have y:(t.columns.map lD.kind)[j]? =some (t.columns.getD j ⟨⟨#[]⟩,0⟩).kind:=by
   grind
  have A:=e j _ _ u y;simp only[zW,cg]at o;unfold AT
  grind
 .obtain⟨i,z,rfl⟩:=mem_iff_getElem.1 d;have c:i<(t.columns.map lD.kind).length:=bk
  exact VS (h.2.2 i _ _ (bu z) (bu c)) (h.2.1 _ d)
theorem aPJ:cu 12 Xz:=by
 refine iB func12 ?_;rintro l' m h K ⟨cb,v,s,sl,st,C,rfl,hc,hs,hp,e',hg,l0,hK⟩;refine⟨bSX cb v,rfl,aD FU (aD uU (aD HN (aD Ye (aD xA (aD Pu (aD aJJ (aD aJZ aF))))))),WT cb v sl C m h K,be,?_⟩;dsimp only[WT,push_cast];have l1:=hs.tables.slen;obtain⟨e0,g5⟩:=Ca hp;have h8:=zH e0;have g6:=wL e0;have l2:0<s.tables.length:=length_pos_iff.2 g5
 have b1:∀{c:Nat}{x:List cw},Uq c s x->∀l∈x,∀r∈l,r.length<=1000:=fun{c x} g l hl r hr=>by
  obtain⟨j,hj⟩:=mem_iff_getElem?.1 hl;have l3:=(bt hj);have k2:=g.len;have e3:s.tables[j]? =some s.tables[j]:=bu aC;have e1:=(jF.1 ((g.ok j _ l e3 hj).1 r hr)).1;have:=(BY hp (bx e3)).2.2.1;omega
 refine⟨sl,st,rfl,e',e'.len,λl hl=>by have:=hg.few l hl;omega,b1 hg,λw D m1 h1 c9 a0 e4=>?_⟩;have Z:D.length=s.tables.length:=by rw[e4.len,hg.len]
 obtain⟨M,Q,rfl,e6,k3⟩:=a0.tbl λe=>bk
 obtain⟨l4,e7⟩:=hc.blk;have L:cb≠M:=λe=>bk
 have c1:aL m1 h1 cb:=hc.keep ((a0.keep cb _ e7).trans e7.symm) c9;have k1:Kept m m1 cb:=λb o e _=>a0.keep b o e
 have g1:TG h1 s m1 M D st:=⟨e6,Z,hg.len,λj u l hu hl=>by
  obtain⟨u',e1,e2⟩:=e4.at_ j l hl
  grind⟩
 have g7:IntKind.i64.wrap ((C:Int)+1)=(C:Int)+1:=dO aC aC;rw[g7];refine⟨cb,(C:Int)+1,rfl,c1,λk m2 a7 e8 o2 c2=>⟨λz=>0<=z.1/\z.1<=C/\z.2.1=⟨some ⟨M,0,none⟩,D.length,Q⟩/\PH.le h1 z.2.2.2.2/\Kept m z.2.2.2.1 cb/\aL z.2.2.2.1 z.2.2.2.2 cb/\∃us cs G,TG z.2.2.2.2 s z.2.2.2.1 M us G/\QQ z.2.2.2.2 z.2.2.1 cs/\La s st cs G/\Uq (4+cs.length) s G/\(cs.length:Int)<=C-z.1,λz=>z.1.toNat,⟨(k,⟨some ⟨M,0,none⟩,D.length,Q⟩,[],m2,h1),⟨a7,aC,rfl,.refl _,k1.on o2,c2,D,[],st,g1.mono (.refl _) (o2.other M (Ne.symm L)),⟨rfl,λi c e=>by simp at e⟩,rfl,hg,bk⟩,MT⟩,?_⟩⟩;clear c2 o2 a7 e8 k m2 g1 c1 k1 e6;rintro⟨n,w,l,m2,hx⟩ ⟨n0,n1,e1,lex,kp,c2,us,cs,G,hT,hA,hL,hG,g8⟩;dsimp only at n0 n1 e1 lex kp c2 hT hA g8⊢
 subst e1;have l5:=hA.len;have out:∀(s2:Sl)(h':PH),PH.le hx h'->bX h' s2 3 (l.map fO.enc)->K (.tup [cS s2,QO ⟨some ⟨M,0,none⟩,D.length,Q⟩]) m2 h':=λs2 h' d' rr=>hK s2 _ cs G m2 h' (c9.trans (lex.trans d')) ((hA.mono d').cs rr aC) hL ⟨hG.len,λx g9=>by have:=hG.few x g9;omega,hG.ok,hG.val⟩ aC kp (c2.mono d');refine aE (λhn=>aE (λ_=>?_) (λ_=>out)) (λ_=>out);refine⟨cb,v.tables.len,rfl,c2,λt E t0 tn o3 c3=>?_⟩;obtain⟨t,rfl⟩:=Int.eq_ofNat_of_zero_le t0;have ht:t<s.tables.length:=by omega
 have A:s.tables[t]? =some s.tables[t]:=bu ht;generalize s.tables[t]=f at A;obtain⟨q1,q2,q3,q4,q5⟩:=GN hp A;have f':=(BY hp (bx A)).2.2.2;have a8:=hs.mono (c9.trans lex);obtain⟨b,o,y,ea,rd,hy⟩:=bC.at a8.tables A;have f0:=hy.key;have h0:=kp.on o3;have a1:=hT.mono (.refl _) (o3.other M (Ne.symm L));have b3:t<G.length:=by rw[hG.len];exact ht
 obtain⟨u,hu⟩:∃u,us[t]? =some u:=⟨_,bu (by rw[hT.ulen];exact ht)⟩
 obtain⟨F,R⟩:∃x,G[t]? =some x:=⟨_,bu b3⟩
 have d0:=bx R;have h2:=hG.few F d0;have O:=b1 hG F d0;have f3:=hG.ok t f F A R;refine⟨b,o,ea,aC,aC,y.key,.imm (bA.part rd 2 1),bA.part rd 2 1,v,s,t,rfl,a8,h8,λsk h4 S h3=>?_⟩;refine⟨cb,sk,y.key,dT s (t:Int),rfl,c3.mono S,h3,bk,λk hk=>?_,λsr row m4 a9 a2 U c4=>?_⟩
 .rw[q4]at hk;obtain⟨c,i',rfl⟩:=mem_map.1 hk;exact f' c i'
 rw[f0,q4]at a2;rw[q4]at U;obtain⟨H,V⟩:=b9J a2 U;have b':row.length=f.columns.length:=(jF.1 H).1;have b0:kS E m4 sr 58 3 (row.map VV.enc):=⟨a9.row,a9.fresh⟩
 have a3:Kept E m4 cb:=λb o e n=>a9.keep b o n e;obtain⟨l6,k4⟩:=c3.blk;have i0:E cb≠none:=bk
 have m0:∃x,E M=some x:=by obtain⟨a4,e,_⟩:=a1.tbl;grind
 have cut:∀(P:MH)(hq:PH)(B:de),PH.le h4 hq->zB P hq->kS E P sr 58 3 (B.map VV.enc)->Kept E P cb->aL P hq cb->qM 1 f B=true->(∀v∈B,H7 v.kind/\H7 v.int)->bO (tC E P hq) sr B/\aT E (mK E P) cb/\aL (mK E P) (tC E P hq) cb/\PH.le h4 (tC E P hq):=λP hq B i1 d fr kk cc f1 f2=>by
  have hl:=(jF.1 f1).1;exact⟨⟨⟨B,fr.ice,rfl,λi x hx=>⟨x,hx,rfl⟩⟩,aC⟩,keep_other kk,Rj cc i0 d,i1.trans (yU d)⟩
 have f4:∀P:MH,Kept E P cb->∃a4:Array Value,P M=some (.cells a4 95 (0,0))/\(a4.toList.drop (0+t*1)).take [eF u].length=[eF u]:=λP k=>by
  obtain⟨a4,e1,e2⟩:=a1.tbl.rd hu;exact⟨a4,k M _ e1 (Ne.symm L),e2⟩
 obtain⟨b4,a5,b7⟩:=f4 m4 a3;have m9:=bC.slen (a1.rows t u F hu R);have k5:D.length=s.tables.length:=Z;refine⟨λz=>∃B mz hz,z=((t:Int),sr,n,(⟨some ⟨M,0,none⟩,D.length,Q⟩:Sl),l,mz,hz)/\qM 1 f B=true/\(∀v∈B,H7 v.kind/\H7 v.int)/\bO hz sr B/\aT E mz cb/\aL mz hz cb/\PH.le h4 hz,⟨M,0,rfl,aC,bk,u,.lent b4 95 (0,0) a5 b7,aE (λk6=>?_) (λ_ d=>?_)⟩,?_⟩
 .refine⟨cb,2,rfl,aC,aC,c4,λr m5 o5 c5=>aB (λ_=>?_) (λ_ d=>?_)⟩
  .refine⟨cb,u.len,rfl,c5,λk m6 a7 e8 o6 c6=>?_⟩;obtain⟨k,rfl⟩:=Int.eq_ofNat_of_zero_le a7;obtain⟨I,b8⟩:∃x,F[k]? =some x:=⟨_,bu aC⟩
   have X:=bx b8;have i2:=f3.1 I X;obtain⟨b2,o2,wo,i3,i4,i5⟩:=bC.at (bC.mono (a1.rows t u F hu R) S λr t hv=>bO.mono hv S) b8;have d1:=O I X;obtain⟨i8,f5⟩:=bAJ q1 q2 H i2;refine⟨b2,o2,i3,aC,aC,wo,.imm i4,v,s,t,wo,I,rfl,a8.mono S,i5,d1,λY h7 f6 a'=>?_⟩;rw[rG A]at a';obtain⟨vs,d2,n',n5⟩:=a'.ex
   have d2:vs=dU f I:=by
    refine ext_getElem? λi=>?_
    grind
   subst d2;have d3:kS E m6 sr 58 3 (row.map VV.enc):=(b0.on o5 c4 bg).on o6 c5 bg;have i9:Kept E m6 cb:=(a3.on o5).on o6;rcases d3.row.ex with⟨_,e⟩|⟨b5,k7,c',e5,f7,g1,g2,g3,g4⟩
   .rw[map_eq_nil_iff]at e;rw[e]at b';simp at b';omega
   have j':((dU f I).map VV.enc).length<=(row.map VV.enc).length:=bk
   have j0:((dU f I).map VV.enc).length*3<=c'.size:=by omega
   refine⟨b5,0,by rw[e5],(dU f I).map VV.enc,B8 _,.imm d2,bk,c',58,⟨f7⟩,aC,λm7 up d=>?_⟩;have f8:=d3.copy (B8 (dU f I)) j' (by rw[e5]) f7 up;rw[<-map_drop,length_map,i8, <-cd]at f8;have j1:E b5=none:=d3.fresh b5 0 (by rw[e5]);have f9:cb≠b5:=λe=>bk
   have c7:aL m7 h7 cb:=(c6.mono f6).keep (up.other cb f9) (.refl _)
   have f2:∀v∈dU f I++row.drop f.key.toNat,H7 v.kind/\H7 v.int:=λv hv=>by
    rcases mem_append.1 hv with h9|h9
    .exact hG.val F d0 I X v (mem_of_mem_take h9)
    grind
   obtain⟨r1,r2,r3,r4⟩:=cut m7 h7 _ f6 d f8 (i9.upd up j1) c7 f5 f2;exact⟨(t,sr,n,_,l,mK E m7,tC E m7 h7),⟨_,_,_,rfl,f5,f2,r1,r2,r3,r4⟩,FT⟩
  .obtain⟨r1,r2,r3,r4⟩:=cut m5 h4 row (.refl _) d (b0.on o5 c4 bg) (a3.on o5) c5 H V;exact⟨(t,sr,n,_,l,mK E m5,tC E m5 h4),⟨_,_,_,rfl,H,V,r1,r2,r3,r4⟩,FT⟩
 .obtain⟨r1,r2,r3,r4⟩:=cut m4 h4 row (.refl _) d b0 a3 c4 H V;exact⟨(t,sr,n,_,l,mK E m4,tC E m4 h4),⟨_,_,_,rfl,H,V,r1,r2,r3,r4⟩,FT⟩
 clear cut f4 b7 a5 b4 H V b' a2 U c4 a9 b0 a3 m4 row;rintro _ ⟨row,mz,hz,rfl,H,V,d4,oz,cz,d5⟩;dsimp only;have b':row.length=f.columns.length:=(jF.1 H).1;have d6:=a1.mono (S.trans d5) (oz.other M (Ne.symm L));have d7:=a8.mono (S.trans d5);have j2:=h0.on oz;refine⟨v,s,t,sr,row,rfl,d7,d4,aC,λY h5 J a'=>?_⟩;rw[rG A]at a';refine⟨v,s,M,D.length,Q,us,u,t,f,F,Y,dU f row,rfl,d7.mono J,A,d6.tbl,by rw[hT.ulen];exact Z,hu,bC.mono (d6.rows t u F hu R) J λr t hv=>bO.mono hv J,aC,O,a',λso b6 h6 T g'=>?_⟩;have k8:so.len=(rP f (dU f row) F).length:=bC.slen g';refine⟨λz=>∃ns new P,z=((⟨(t:Int),so,ns⟩:fO),Y,n,(⟨some ⟨M,0,none⟩,D.length,Q⟩:Sl),l,P,h6)/\bO h6 ns new/\(new=row\/(new=[]/\rP f (dU f row) F≠[]))/\aT mz P cb/\aL P h6 cb,aB (λ_=>?_) (λc0=>?_),?_⟩
 .exact⟨(⟨t,so,sr⟩,Y,n,_,l,mz,h6),⟨sr,row,mz,rfl,bO.mono d4 (J.trans T),.inl rfl,.refl _ _,cz.mono (J.trans T)⟩,MT⟩
 .have c0:rP f (dU f row) F≠[]:=λe=>bk
  exact⟨cb,3,rfl,aC,aC,cz.mono (J.trans T),λr m7 o7 c7=>aB (λ_=>⟨(⟨t,so,sr⟩,Y,n,_,l,m7,h6),⟨sr,row,m7,rfl,bO.mono d4 (J.trans T),.inl rfl,o7,c7⟩,MT⟩) (λ_=>⟨(⟨t,so,bT⟩,Y,n,_,l,m7,h6),⟨bT,[],m7,rfl,bC.nil _ _ _ _,.inr ⟨rfl,c0⟩,o7,c7⟩,MT⟩)⟩
 rintro _ ⟨ns,new,m7,rfl,g0,d8,o7,c7⟩;dsimp only;have d9:=d6.mono (J.trans T) (o7.other M (Ne.symm L))
 have j3:new.length<=1000:=by
  grind
 obtain⟨w1,w2,w3⟩:=hG.step A R aC H V d8;have k9:=w3.count g6;refine⟨bk,bk,v,s,M,D.length,Q,us,u,t,f,F,Y,dU f row,ns,new,rfl,d7.mono (J.trans T),A,d9.tbl,by rw[hT.ulen];exact Z,hu,d9.rows t u F hu R,aC,O,bO.mono a' T,g0,j3,λu' m8 h8 a6 k' k0 o8=>?_⟩;rw[dO (n:=n-1) aC aC];have c8:=(d5.trans (J.trans T)).trans a6
 have W:Uq (4+(cs++[(⟨t,rP f (dU f row) F,new⟩:tD)]).length) s (G.set t (qO f (dU f row) new (decide (new.length=0)) F)):=by
  grind
 have LL:La s st (cs++[⟨t,rP f (dU f row) F,new⟩]) (G.set t (qO f (dU f row) new (decide (new.length=0)) F)):=hL.snoc hg.len rfl R w1 w2 aC;have AA:QQ h8 (l++[⟨t,so,ns⟩]) (cs++[⟨t,rP f (dU f row) F,new⟩]):=(hA.mono (S.trans c8)).snoc ⟨rfl,bO.mono g' a6,bO.mono g0 a6⟩
 have KK:Kept m m8 cb:=λb9 o9 e9 n9=>by
  rw[o8.other b9 λe=>by grind];exact(j2.on o7) b9 o9 e9 n9
 have CC:aL m8 h8 cb:=(c7.mono a6).keep (o8.other cb L) (.refl _);have TT:=d9.set a6 b3 k0 k';have NN:(((cs++[(⟨t,rP f (dU f row) F,new⟩:tD)]).length:Nat):Int)<=C-(n-1):=bk
 have HH:PH.le h1 h8:=lex.trans (S.trans c8);have n2:0<=n-1:=by omega
 have n3:n-1<=C:=by omega
 have n4:(n-1).toNat<n.toNat:=by omega
 exact⟨(n-1,⟨some ⟨M,0,none⟩,D.length,Q⟩,l++[⟨t,so,ns⟩],m8,h8),⟨n2,n3,rfl,HH,KK,CC,us.set t u',cs++[⟨t,rP f (dU f row) F,new⟩],G.set t (qO f (dU f row) new (decide (new.length=0)) F),TT,AA,LL,W,NN⟩,n4,by rw[cd];exact MT⟩
structure CB where
 sc:bJ
 p:Sl
 r:Sl
 st:Sl
 v:Sl
 ch:Sl
def aeX(g:CB)(l:List bM):List (Nat×Go.Vc.Own):=[(4,.cells 29 (g.sc.enc.map .val)),(5,.cells 34 [.val g.p.val,.val g.r.val]),(7,.cells 38 [.val g.st.val]),(11,.cells 34 [.val g.p.val,.lst 53]),(53,.lst 70 24 (l.map bM.enc))]
def bBJ(g:CB):eo:=[(4,.at (.ptr 4 0)),(5,.at (.ptr 5 0)),(7,.at (.ptr 7 0)),(8,sv g.v),(9,sv g.ch),(11,.at (.ptr 11 0))]
noncomputable def f5_ctx:Ctx:=rT [(7,cjX),(8,bqJ),(9,aoZ),(10,StateM),(11,aoJ),(12,Xz),(13,FY),(16,Lc),(19,bqQ),(18,bwJ)]
 [(13,{A:=Int×Int×Int×CB×List bM×MH×PH,st:=λ⟨n,i,t,g,l,m,h⟩=>bU 203 204 (bBJ g++[(12,iv i),(13,iv t),(14,iv n)]) (aeX g l) m h}),
  (18,{A:=Nat×List bM×CB×List bM×MH×PH,st:=λ⟨j,k,g,l,m,h⟩=>bU 203 204 (bBJ g++[(15,.at (.ptr 15 0)),(113,.at (.lst 53)),(114,iv l.length),(115,iv j)]) (aeX g l++[(15,.cells 34 [.val g.p.val,.lst 126]),(126,.lst 70 24 (k.map bM.enc))]) m h}),
  (30,{A:=Nat×Nat×Sl×Sl×MH×PH,st:=λ⟨k,n,a,b,m,h⟩=>bU 203 204 [(18,sv a),(24,iv n),(172,sv b),(173,iv b.len),(174,iv k)] [] m h}),
  (32,{A:=zC×Nat×Nat×Sl×Sl×MH×PH,st:=λ⟨d,k,n,a,b,m,h⟩=>bU 203 204 [(18,sv a),(24,iv n),(26,.at (.ptr 26 0)),(172,sv b),(173,iv b.len),(174,iv k)] [(26,.cells 77 (d.enc.map .val))] m h})]
 [(4,{A:=Nat×bJ×Sl×Sl×Sl×Sl×MH×PH,st:=λ⟨cb,sc,p,r,q,s,m,h⟩=>bU 203 204 [(3,pv cb),(4,.at (.ptr 4 0)),(5,.at (.ptr 5 0)),(6,.at (.ptr 6 0))] [(4,.cells 29 (sc.enc.map .val)),(5,.cells 34 [.val p.val,.val r.val]),(6,.cells 34 [.val q.val,.val s.val])] m h}),
  (8,{A:=Nat×CB×List bM×MH×PH,st:=λ⟨cb,g,l,m,h⟩=>bU 203 204 ((3,pv cb)::bBJ g) (aeX g l) m h}),
  (16,{A:=CB×List bM×MH×PH,frz:=true,st:=λ⟨g,l,m,h⟩=>bU 203 204 (bBJ g) (aeX g l) m h})] [] [1031] [] false
set_option maxRecDepth 100000 in
abbrev oI(a:Nat)(b:bJ)(c:Nat)(d:MH)(e:PH)(g:j4->Sl->Sl->(List lR)->Prop):Prop:=Bi (λx f=>aA (qS (F1 a 0) (gL b)=qS (F1 c 0) (gL x)) (aL d e c) (aA (dM e f x) (mN f) (∀(j n:Sl)(o:List lR),g f j n o)))
noncomputable abbrev Df(a:Nat×bJ×Sl×Sl×Sl×Sl×MH×PH):Sl:=a.2.2.1
noncomputable abbrev IA(a:Nat×bJ×Sl×Sl×Sl×Sl×MH×PH):Sl:=a.2.2.2.1
abbrev uG(a:Nat×bJ×Sl×Sl×Sl×Sl×MH×PH->Prop)(b:Nat×bJ×Sl×Sl×Sl×Sl×MH×PH)(c:Nat)(d:bJ)(e g:Sl)(i j:Prop):Prop:=aA (a b) (eU c b.1) (aA (eP 4) bS (aA jH (iP d=iP b.2.1) (aA (oQ 34 (fZ (fY e) (fY g))=oQ 34 (fZ (fY (Df b)) (fY (IA b)))) i j)))
noncomputable abbrev EC(a:Nat×bJ×Sl×Sl×Sl×Sl×MH×PH):Sl×MH×PH:=a.2.2.2.2.2
abbrev uL(a b:Sl)(c:Nat×bJ×Sl×Sl×Sl×Sl×MH×PH):Prop:=oQ 34 (fZ (fY a) (fY b))=oQ 34 (fZ (fY c.2.2.2.2.1) (fY (EC c).1))
abbrev uM(a:MH)(b:Nat×bJ×Sl×Sl×Sl×Sl×MH×PH)(c:PH):Prop:=fM a (EC b).2 c
abbrev xQ(a:PH)(b c:Sl)(d:List lR)(e:j4)(g:MH)(i:Nat)(j:MH->PH->(Nat×bJ×Sl×Sl×Sl×Sl×MH×PH)->Prop):Prop:=eZ (λx f=>cR a f (iH f b c (Ex 4) d) (aR (Ik e d) (aT g x i) (aL x f i->∃(n:Nat×bJ×Sl×Sl×Sl×Sl×MH×PH),j x f n)))
abbrev N2(a:Nat)(b:List cv)(c:MH)(d:PH)(e:Nat×bJ×Sl×Sl×Sl×Sl×MH×PH)(g:List cv)(i:(Nat×CB×List bM×MH×PH)->Prop):Prop:=aA (dQ a b) (oW c d (cH (EC e).1) a b) (aA (u6 g b 320) (cW (u7 g b)) (∃(x:Nat×CB×List bM×MH×PH),i x))
noncomputable abbrev iF(a:Nat×CB×List bM×MH×PH):CB:=a.2.1
abbrev xW(a b:Sl):Prop:=oQ 34 (fZ (fY a) (At.lst 53))=oQ 34 (fZ (fY b) (At.lst 53))
noncomputable abbrev sF(a:CB×List bM×MH×PH):List cv:=O6 a.2.1
noncomputable abbrev rD(a:Nat×CB×List bM×MH×PH):MH×PH:=a.2.2.2
noncomputable abbrev jR(a:Int×Int×Int×CB×List bM×MH×PH):CB:=a.2.2.2.1
noncomputable abbrev Ay(a:Int×Int×Int×CB×List bM×MH×PH):List cv:=sF a.2.2.2
noncomputable abbrev uQ(a:Int×Int×Int×CB×List bM×MH×PH):MH×PH:=a.2.2.2.2.2
noncomputable abbrev dY(a:Nat×List bM×CB×List bM×MH×PH):CB:=a.2.2.1
noncomputable abbrev Fa(a:Nat×List bM×CB×List bM×MH×PH):Nat:=a.2.2.2.1.length
abbrev N3(a:Sl)(b:Nat×List bM×CB×List bM×MH×PH):Prop:=oQ 34 (fZ (fY a) (At.lst 126))=oQ 34 (fZ (fY (dY b).p) (At.lst 126))
noncomputable abbrev BN(a:Nat×List bM×CB×List bM×MH×PH):List cv:=sF a.2.2
noncomputable abbrev C6(a:Nat×List bM×CB×List bM×MH×PH):List cv:=O6 a.2.1
noncomputable abbrev nZ(a:Nat×List bM×CB×List bM×MH×PH):MH×PH:=a.2.2.2.2
noncomputable abbrev N4(a:zC)(b:Value)(c:Sl):cv:=bH (cV a.change) b (bH (cV a.table) (eF c) (bG a.column))
noncomputable abbrev sB(a:zC×Nat×Nat×Sl×Sl×MH×PH):Sl:=vB a.2
noncomputable abbrev mR(a:zC×Nat×Nat×Sl×Sl×MH×PH):Nat:=kR a.2
noncomputable abbrev mZ(a:zC×Nat×Nat×Sl×Sl×MH×PH):Sl:=iR a.2
noncomputable abbrev Hq(a:zC×Nat×Nat×Sl×Sl×MH×PH):dt:=cG (iN a.1.change) (At.val (Value.bool a.1.after)) (cG (iN a.1.table) (fY a.1.key) (rN (iN a.1.column)))
abbrev Kg(a:zC×Nat×Nat×Sl×Sl×MH×PH)(b:dc)(c:Nat->Nat->Option Value)(d:er->Prop):Prop:=branch ((↑(mR a):Int)==aG (sB a)) (b aZ (j7 a.2) c) (∃(x:Nat×Nat×Sl×Sl×MH×PH),d x)
attribute [push_cast] oI Df IA uG EC uL uM xQ N2 iF xW sF rD jR Ay uQ dY Fa N3 BN C6 nZ N4 sB mR mZ Hq Kg
def ag(s:Sl)(m:MH)(h:PH)(K:dc):Prop:=
  ∃(s1:Sl)(c:dp)(m1:Nat),aA (eJ s 300=eJ s1 (↑m1:Int)) (bX h s1 1 (cC c)) (aA (s1.len<=s1.cap) (jV m1) (∀(G:Nat),eZ (λm2 h1=>cR h h1 (Fb m G) (aR (aT m m2 G) (aL m2 h1 G) (∃(c2:Nat),aA (eW (F1 G 0) (F1 c2 0)) (aL m2 h1 c2) (∀(s2:j4)(v:bJ),eZ (λU T=>aR (mN s2) (dM T s2 v) (cR h1 T (aT m2 U c2) (iS U T c2 (∃(I:Nat×bJ×Sl×Sl×Sl×Sl×MH×PH->Prop),aI (∃(O:Nat),oI G v O U T (λR p r P=>eZ (λA u=>cR T u (iH u p r (Ex 4) P) (aR (Ik R P) (aT U A O) (iS A u O (aI (∃(B:Nat),oI G v B A u (λL C D J=>eZ (λH F=>cR u F (iH F C D (Ex 4) J) (aR (Ik L J) (aT A H B) (iS H F B ((∃(x:Nat×bJ×Sl×
 Sl×Sl×Sl×MH×PH),uG I x G v p r (uL C D x) (uM H x F))/\∃(x:Nat×bJ×Sl×Sl×Sl×Sl×MH×PH),uG I x G v p r (uL C D x) (uM H x F))))))) ((∃(B:Nat),oI G v B A u (λL C D J=>xQ u C D J L A B (λH F x=>uG I x G v p r (uL C D x) (uM H x F))))/\∃(B:Nat),oI G v B A u (λL C D J=>xQ u C D J L A B (λH F x=>uG I x G v p r (uL C D x) (uM H x F)))) (∃(B:Nat),oI G v B A u (λL C D J=>xQ u C D J L A B (λH F x=>uG I x G v p r (uL C D x) (uM H x F)))) (∃(B:Nat),oI G v B A u (λL C D J=>xQ u C D J L A B (λH F x=>uG I x G v p r (uL C D x) (uM H x F)))))))))) ((∃(O:Nat),oI G v O U T (fun
 R p r P=>eZ (λA u=>cR T u (iH u p r (Ex 4) P) (aR (Ik R P) (aT U A O) (iS A u O ((∃(B:Nat),oI G v B A u (λL C D J=>xQ u C D J L A B (λH F x=>uG I x G v p r (uL C D x) (uM H x F))))/\∃(B:Nat),oI G v B A u (λL C D J=>xQ u C D J L A B (λH F x=>uG I x G v p r (uL C D x) (uM H x F)))))))))/\∃(O:Nat),oI G v O U T (λR p r P=>eZ (λA u=>cR T u (iH u p r (Ex 4) P) (aR (Ik R P) (aT U A O) (iS A u O (∃(B:Nat),oI G v B A u (λL C D J=>xQ u C D J L A B (λH F x=>uG I x G v p r (uL C D x) (uM H x F))))))))) (∃(O:Nat),oI G v O U T (λR p r P=>eZ (λA u=>cR T u (iH
 u p r (Ex 4) P) (aR (Ik R P) (aT U A O) (iS A u O ((∃(B:Nat),oI G v B A u (λL C D J=>xQ u C D J L A B (λH F x=>uG I x G v p r (uL C D x) (uM H x F))))/\∃(B:Nat),oI G v B A u (λL C D J=>xQ u C D J L A B (λH F x=>uG I x G v p r (uL C D x) (uM H x F))))))))) (∃(O:Nat),oI G v O U T (λR p r P=>eZ (λA u=>cR T u (iH u p r (Ex 4) P) (aR (Ik R P) (aT U A O) (iS A u O (∃(B:Nat),oI G v B A u (λL C D J=>xQ u C D J L A B (λH F x=>uG I x G v p r (uL C D x) (uM H x F)))))))))/\∀(x:Nat×bJ×Sl×Sl×Sl×Sl×MH×PH),I x->∃(O:Nat),zS (λv1 R A=>aA (cZ x.1 (cO (gL x.2.1) 1)=cZ
 O (cO (gL v1) A)) (aL (fG (EC x)) (eV (EC x)) O) (aA (dM (eV (EC x)) R v1) (mN R) (∀(L:List cw)(s5:Sl),eZ (λH u=>cR (eV (EC x)) u (tS u s5 L) (aR (Up R L) (A=1->Np R L) (aR (aT (fG (EC x)) H O) (aL H u O) (∃(B:Nat),aA (eW (F1 x.1 0) (F1 B 0)) (aL H u B) (∀(s6:Sl)(k:Int),eZ (λm6 F=>aR (dG k) (k<4) (cR u F (bO F s6 [VV.mk 4 k (ByteArray.mk (Array.mk []))]) (aR (aT H m6 B) (aL m6 F B) (∃(c5:Nat),Bi (λv2 s7=>Ch (λs8 s9=>∃(m7:Nat),aA (cZ x.1 (cE (dX x.2.1) (nH 1 (cO (pR s5) 5)))=cZ c5 (cE (dX v2) (nH 1 (cO (pR s8) (↑m7:Int))))) (aL m6 F c5) (aA (dM F s7 v2) (mN s7) (aI (tS F s8 s9) (Uq 4 s7
 s9) (m7<=5) (∀(c6:Sl),∀(_:Sl),∀(c7:List tD)(a:List cw),eZ (λY W=>cR F W (pH W c6 c7) (aR (La s7 s9 c7 a) (Uq (4+m7) s7 a) (aR (c7.length<=m7) (Kept m6 Y c5) (iS Y W c5 (∃(I1:Nat×CB×List bM×MH×PH->Prop),zR (∃(y:List cv),aA (dQ 24 y) (oW Y W (cH (IA x)) 24 y) (aA (cW (y.length*320)) (cW y.length) (zR (∃(S:List cv),N2 24 S Y W x y (λn=>aA (I1 n) (eU x.1 n.1) (aA (eP 4) bS (aA hX (aX s6 (iF n).v) (aA (aX c6 (iF n).ch) gW (aA (iP x.2.1=iP (iF n).sc) (oQ 34 (fZ (fY (Df x)) (fY (IA x)))=oQ 34 (fZ (fY (iF n).p) (fY (iF n).r))) (aA (gG s5 (iF n).st) (xW (Df x) (iF n).p) (aI (pM (y++S) (sF n.2)) (iD Y
 (rD n)) (fI W (rD n)) True)))))))) (λS=>N2 24 S Y W x y (λn=>aA (I1 n) (eU x.1 n.1) (aA (eP 4) bS (aA hX (aX s6 (iF n).v) (aA (aX c6 (iF n).ch) gW (aA (iP x.2.1=iP (iF n).sc) (oQ 34 (fZ (fY (Df x)) (fY (IA x)))=oQ 34 (fZ (fY (iF n).p) (fY (iF n).r))) (aA (gG s5 (iF n).st) (xW (Df x) (iF n).p) (aI (pM (y++S) (sF n.2)) (iD Y (rD n)) (fI W (rD n)) True))))))))))) (λy=>aA (dQ 24 y) (oW Y W (cH (IA x)) 24 y) (aA (cW (y.length*320)) (cW y.length) (∃(S:List cv),N2 24 S Y W x y (λn=>aA (I1 n) (eU x.1 n.1) (aA (eP 4) bS (aA hX (aX s6 (iF n).v) (aA (aX c6 (iF n).ch) gW (aA (iP x.2.1=iP (iF n).sc)
 (oQ 34 (fZ (fY (Df x)) (fY (IA x)))=oQ 34 (fZ (fY (iF n).p) (fY (iF n).r))) (aA (gG s5 (iF n).st) (xW (Df x) (iF n).p) (aI (pM (y++S) (sF n.2)) (iD Y (rD n)) (fI W (rD n)) True))))))))))/\∀(n:Nat×CB×List bM×MH×PH),I1 n->∃(I2:CB×List bM×MH×PH->Prop),kK (oE (sF n.2)) 0 (fU n.1 (oE (sF n.2)) (rD n).1 (rD n).2 (λk1 m9=>aA (dG k1) (k1<oE (sF n.2)) (∃(e:cv),pW (sF n.2) k1.toNat e/\∃(y:Int),aI (DA 1 1 e (bG y)) (0<=k1) (k1<oE (sF n.2)) (∃(Q:cv),aA (pW (sF n.2) k1.toNat Q) (2<Q.length) (Ai (iF n).sc y (λb o S=>aJ m9 (rD n).2 b (eM o y 5+2) (bG S)/\∃(I3:Int×Int×Int×CB×List bM×MH
 ×PH->Prop)(a1:Int×Int×Int×CB×List bM×MH×PH->Nat),(∃(g:Int×Int×Int×CB×List bM×MH×PH),aA (I3 g) iC (aA (eP 5) hX (aA (aX (iF n).v (jR g).v) (aX (iF n).ch (jR g).ch) (aA gW (bV k1 g.2.1) (aA (bV y g.2.2.1) (bV S g.1) (aA (iP (iF n).sc=iP (jR g).sc) (oQ 34 (fZ (fY (iF n).p) (fY (iF n).r))=oQ 34 (fZ (fY (jR g).p) (fY (jR g).r))) (aA (gG (iF n).st (jR g).st) (xW (iF n).p (jR g).p) (aA (Option.some (Own.lst 70 24 (List.set (sF n.2) k1.toNat (splice Q 2 iT)))=Option.some (Own.lst 70 24 (Ay g))) (iD m9 (uQ g)) (eA (rD n).2 (uQ g))))))))))/\∀(g:Int×Int×Int×CB×List bM×MH×PH),I3 g->dN (mD (jR g).sc) g.2.2.1 (jR g).sc.tables
 (λb1 o1 X=>aJ (uQ g).1 (uQ g).2 b1 (eM o1 g.2.2.1 5+1) (aM X)/\aY g.1 (aG X) (aA (dG g.2.1) (g.2.1<oE (Ay g)) (∃(e2:cv),pW (Ay g) g.2.1.toNat e2/\∃(Z:Sl),vE (DA 1 2 e2 (aM Z)) (∃(V:cv),pW (Ay g) g.2.1.toNat V/\DA 1 2 V (aM Z)) (λf=>aI (cT (uQ g).1 (cH Z) 3 1 f) (cW (iA f 1*8)) (fN f) (∀(a2:Sl)(a3:MH),dV (uQ g).1 a3 (cH Z) a2 3 1 (eK f (bG g.1))->aA (dG g.2.1) (g.2.1<oE (Ay g)) (∃(V:cv),aA (pW (Ay g) g.2.1.toNat V) (2<V.length) (∃(t:Int×Int×Int×CB×List bM×MH×PH),aA (I3 t) (a1 t<a1 g) (aA iC bS (aA hX (aX (jR g).v (jR t).v) (aA (aX (jR g).ch (jR t).ch) gW
 (aA (bV g.2.1 t.2.1) (bV g.2.2.1 t.2.2.1) (aA (bV (eE (g.1+1)) t.1) (iP (jR g).sc=iP (jR t).sc) (aA (oQ 34 (fZ (fY (jR g).p) (fY (jR g).r))=oQ 34 (fZ (fY (jR t).p) (fY (jR t).r))) (gG (jR g).st (jR t).st) (aA (xW (jR g).p (jR t).p) (Option.some (Own.lst 70 24 (List.set (Ay g) g.2.1.toNat (splice V 2 (aM a2))))=Option.some (Own.lst 70 24 (Ay t))) (fM a3 (uQ t) (uQ g).2)))))))))))))) (zB (uQ g).1 (uQ g).2->∃(f:CB×List bM×MH×PH),aA (I2 f) iC (aA (eP 5) hX (aA (aX (jR g).v f.1.v) (aX (jR g).ch f.1.ch) (aA gW (iP (jR g).sc=iP f.1.sc) (aA (oQ 34 (fZ (fY (jR g).p) (fY (jR g).r))=oQ 34 (fZ (fY f.1.p) (fY f.1.r))) (gG (jR g).st f.1.st)
 (aA (xW (jR g).p f.1.p) (pM (Ay g) (sF f)) (vX (uQ g).1 (uQ g).2 f.2.2.1 f.2.2.2/\True)))))))))))))) (zB (rD n).1 (rD n).2->∃(g:CB×List bM×MH×PH),aA (I2 g) iC (aA (eP 5) hX (aA (aX (iF n).v g.1.v) (aX (iF n).ch g.1.ch) (aA gW (iP (iF n).sc=iP g.1.sc) (aA (oQ 34 (fZ (fY (iF n).p) (fY (iF n).r))=oQ 34 (fZ (fY g.1.p) (fY g.1.r))) (gG (iF n).st g.1.st) (aA (xW (iF n).p g.1.p) (pM (sF n.2) (sF g)) (vX (rD n).1 (rD n).2 g.2.2.1 g.2.2.2/\True)))))))/\∀(g:CB×List bM×MH×PH),I2 g->∃(I3:Nat×List bM×CB×List bM×MH×PH->Prop)(m9:Nat×List bM×CB×List bM×MH×PH->Nat),(∃(f:Nat×List bM×CB×List bM×MH×PH),aA (I3
 f) iC (aA (eP 5) hX (aA (aX g.1.v (dY f).v) (aX g.1.ch (dY f).ch) (aA gW (eP 15) (aA (eL 53) (bP (sF g).length (Fa f)) (aA (bE f.1) (iP g.1.sc=iP (dY f).sc) (aA (oQ 34 (fZ (fY g.1.p) (fY g.1.r))=oQ 34 (fZ (fY (dY f).p) (fY (dY f).r))) (gG g.1.st (dY f).st) (aA (xW g.1.p (dY f).p) (N3 g.1.p f) (nO (pM (sF g) (BN f)) (pE 70 24 (C6 f)) (iD g.2.2.1 (nZ f)) (fI g.2.2.2 (nZ f)))))))))))/\∀(f:Nat×List bM×CB×List bM×MH×PH),I3 f->aY (↑f.1:Int) (↑(Fa f):Int) (aA (sC f.1) ((↑f.1:Int)<oE (BN f)) (∃(e:cv),pW (BN f) (nL f.1) e/\∃(y:bM),DA 24 0 e (E9 y (E8 y (E7 y)))/\bK y.kind 2 (kX (C6 f) 320
 (∃(t:Nat×List bM×CB×List bM×MH×PH),aA (I3 t) (m9 t<m9 f) (aA iC bS (aA hX (aX (dY f).v (dY t).v) (aA (aX (dY f).ch (dY t).ch) gW (aA (eP 15) (eL 53) (aA (bP (Fa f) (Fa t)) (fJ (aW f.1 1)=bY t.1) (aA (iP (dY f).sc=iP (dY t).sc) (oQ 34 (fZ (fY (dY f).p) (fY (dY f).r))=oQ 34 (fZ (fY (dY t).p) (fY (dY t).r))) (aA (gG (dY f).st (dY t).st) (xW (dY f).p (dY t).p) (aA (N3 (dY f).p t) (pM (BN f) (BN t)) (aA (Option.some (Own.lst 70 24 (eK (C6 f) (E9 y (E8 y (E7 y)))))=Option.some (Own.lst 70 24 (C6 t))) (iD (nZ f).1 (nZ t)) (eA (nZ f).2 (nZ t))))))))))))) (∃(t:Nat×List bM×CB×List bM×MH×PH),aA (I3
 t) (m9 t<m9 f) (aA iC bS (aA hX (aX (dY f).v (dY t).v) (aA (aX (dY f).ch (dY t).ch) gW (aA (eP 15) (eL 53) (aA (bP (Fa f) (Fa t)) (fJ (aW f.1 1)=bY t.1) (aA (iP (dY f).sc=iP (dY t).sc) (oQ 34 (fZ (fY (dY f).p) (fY (dY f).r))=oQ 34 (fZ (fY (dY t).p) (fY (dY t).r))) (aA (gG (dY f).st (dY t).st) (xW (dY f).p (dY t).p) (aA (N3 (dY f).p t) (pM (BN f) (BN t)) (aA (pM (C6 f) (C6 t)) (iD (nZ f).1 (nZ t)) (eA (nZ f).2 (nZ t)))))))))))))) (∃(a1:bJ),jE (λp r=>qV (λC a2 c8=>vC (λa3 p2 P=>∃(p3:de)(a4 a5:List cw)(c9:List tD),aA (mX (dY f).sc (dY f).p (dY f).r (dY f).v (dY
 f).st (dY f).ch=mX a1 p r C a2 c8) (dM (nZ f).2 a3 a1) (aA (iH (nZ f).2 p r p2 P) (bO (nZ f).2 C p3) (aA (tS (nZ f).2 a2 a4) (pH (nZ f).2 c8 c9) (aA (iL (nZ f).1) (tX a3 p2 P p3 a4 a5 c9) (lE (λt h6=>cR (nZ f).2 h6 (tU h6 t (vH a3 (pI a3 p3 a4 a5 c9 P) c9 0)) (bQ h6 24 (BN f) (λa6 h7=>∃(a7:bJ),jE (λp4 D=>qV (λp5 a8 a9=>vC (λb p6 J=>∃(p7:de)(b1 b2:List cw)(b3:List tD),aA (mX (dY f).sc (dY f).p a6 (dY f).v (dY f).st (dY f).ch=mX a7 p4 D p5 a8 a9) (dM h7 b a7) (aA (iH h7 p4 D p6 J) (bO h7 p5 p7) (aA (tS h7 a8 b1) (pH h7 a9 b3) (aA (iL (nZ f).1) (tX b p6 J p7 b1 b2 b3) (lE (λx5 h8=>cR h7 h8 (tU h8 x5 (vH b (pI b p7 b1 b2 b3 J) b3
 0)) (bQ h8 24 (C6 f) (λb4 h9=>∃(b5:bJ),jE (λp8 r4=>qV (λp9 b6 b7=>vC (λb8 b9 r5=>∃(d:de)(d1 d2:List cw)(d3:List tD),aA (mX (dY f).sc (dY f).p b4 (dY f).v (dY f).st (dY f).ch=mX b5 p8 r4 p9 b6 b7) (dM h9 b8 b5) (aA (iH h9 p8 r4 b9 r5) (bO h9 p9 d) (aA (tS h9 b6 d1) (pH h9 b7 d3) (aA (iL (nZ f).1) (tX b8 b9 r5 d d1 d2 d3) (lE (λx6 d4=>cR h9 d4 (tU d4 x6 (vH b8 (pI b8 d d1 d2 d3 r5) d3 0)) (jE (λx7 y=>∃(x8 S:fe),aI (gK x5 x6=gK x7 y) (tU d4 x7 x8) (tU d4 y S) (∀(r6:Bool),(gO r6↔x8=S)->branch (!r6) (K aZ (nZ f).1 d4) (N5 (λI4 E=>I4 E) (λE=>aX t (vB E)) (λE=>bE (kR E)) (λE=>aX x5 (iR E)) (λE=>cD x5 (iR
 E)) (λE=>E) (nZ f).1 d4 (λI4 d5 E=>I4 E->aY (↑E.1:Int) (aG (iR E)) (bD (λd6 o=>aI (bF (iR E).a d6 o) (0<=(↑E.1:Int)) ((↑E.1:Int)<aG (iR E)) (∃(X:zC),aJ (j7 E) (oA E) d6 (bB o E.1 5) (N4 X (Value.bool X.after) X.key)/\∃(I5:zC×Nat×Nat×Sl×Sl×MH×PH->Prop)(d7:zC×Nat×Nat×Sl×Sl×MH×PH->Nat),(∃(j:zC×Nat×Nat×Sl×Sl×MH×PH),aA (I5 j) (aX (vB E) (sB j)) (aA (bP (kR E) (mR j)) (eP 26) (aA (aX (iR E) (mZ j)) (cD (iR E) (mZ j)) (aA (bP E.1 j.2.1) (oQ 77 (cG (iN X.change) (At.val (Value.bool X.after)) (cG (iN X.table) (fY X.key) (rN (iN X.column))))=oQ 77 (Hq j)) (fM (j7 E) (nP j.2).2 (oA E))))))/\∀(j:zC×Nat×Nat×Sl×Sl
 ×MH×PH),I5 j->aY (↑(mR j):Int) (aG (sB j)) (aA (aI (sC (mR j)) ((↑(mR j):Int)<=aW (mR j) 1) (uN (aW (mR j) 1) (sB j)) (∀(M:Sl),Dw 5 (Sl.mk (sB j).a (aW (mR j) 1).toNat (sB j).cap) (nL (mR j)) M->bQ (oA j.2) 5 (fV (N4 j.1 (Value.bool j.1.after) j.1.key)) (λe Q=>jE (λe2 Z=>∃(V y4:fe),aI (gK M e=gK e2 Z) (tU Q e2 V) (tU Q Z y4) (∀(r7:Bool),lA (gO r7↔V=y4) (!r7) (∃(z:zC×Nat×Nat×Sl×Sl×MH×PH),aA (I5 z) (d7 z<d7 j) (aA (aX (sB j) (sB z)) (fJ (aW (mR j) 1)=bY (mR z)) (aA (eP 26) (aX (mZ j) (mZ z)) (aA (cD (mZ j) (mZ z)) (bP j.2.1 z.2.1) (aI (oQ 77 (Hq j)=oQ 77 (Hq z)) (j8 (j7
 j.2) (nP z.2)) (fI Q (nP z.2).2) True))))) (Kg j K Q (λz=>aA (I4 z) (d5 z<d5 E) (aA (aX (sB j) (vB z)) (fJ (aW (mR j) 1)=bY (kR z)) (aA (aX (mZ j) (iR z)) (cD (mZ j) (iR z)) (aA (fJ (aW j.2.1 1)=bY z.1) (j8 (j7 j.2) (nP z)) (eA Q (nP z).2))))))))))) (sC (mR j)) (aA ((↑(mR j):Int)<=aW (mR j) 1) (uN (aW (mR j) 1) (sB j)) (∀(M:Sl),Dw 5 (Sl.mk (sB j).a (aW (mR j) 1).toNat (sB j).cap) (nL (mR j)) M->bQ (oA j.2) 5 (fV (N4 j.1 (Value.bool j.1.after) j.1.key)) (λe Q=>jE (λe2 Z=>∃(V y4:fe),aI (gK M e=gK e2 Z) (tU Q e2 V) (tU Q Z y4) (∀(r7:Bool),lA (gO r7↔V=y4) (!r7) (∃(z:zC×Nat×Nat×Sl
 ×Sl×MH×PH),aA (I5 z) (d7 z<d7 j) (aA (aX (sB j) (sB z)) (fJ (aW (mR j) 1)=bY (mR z)) (aA (eP 26) (aX (mZ j) (mZ z)) (aA (cD (mZ j) (mZ z)) (bP j.2.1 z.2.1) (aI (oQ 77 (Hq j)=oQ 77 (Hq z)) (j8 (j7 j.2) (nP z.2)) (fI Q (nP z.2).2) True))))) (Kg j K Q (λz=>aA (I4 z) (d5 z<d5 E) (aA (aX (sB j) (vB z)) (fJ (aW (mR j) 1)=bY (kR z)) (aA (aX (mZ j) (iR z)) (cD (mZ j) (iR z)) (aA (fJ (aW j.2.1 1)=bY z.1) (j8 (j7 j.2) (nP z)) (eA Q (nP z).2)))))))))))) (Kg j K (oA j.2) (λM=>aA (I4 M) (d5 M<d5 E) (aA (aX (sB j) (vB M)) (fJ (aW (mR j) 1)=bY (kR M)) (aA (aX (mZ j) (iR M)) (cD
 (mZ j) (iR M)) (aA (fJ (aW j.2.1 1)=bY M.1) (j8 (j7 j.2) (nP M)) (eA (oA j.2) (nP M).2)))))/\Kg j K (oA j.2) (λM=>aA (I4 M) (d5 M<d5 E) (aA (aX (sB j) (vB M)) (fJ (aW (mR j) 1)=bY (kR M)) (aA (aX (mZ j) (iR M)) (cD (mZ j) (iR M)) (aA (fJ (aW j.2.1 1)=bY M.1) (j8 (j7 j.2) (nP M)) (eA (oA j.2) (nP M).2))))))))) (aA (([]:du)=[]) (iL (j7 E)) (K fB (j7 E) (oA E)))))))))))))))))))))))))))))))))))))))))))))))))))))))))))))))))))))
theorem VB{f:Int}{s:j4}{st2:List cw}:∀{cs:List tD}{st:List cw}{n:Int},qH f s st n cs=(st2,0)->∀c∈cs,AY f s c=true
 |[],_,_,_,c,e=>by cases e
 |d::cs,st,n,h,c,e=>by
  rw[qH]at h;split at h
  .cases h
  rename_i j;cases g:lO s (st.getD d.tab.toNat []) d with
  |none=>grind
  |some l=>
   rw[g]at h;dsimp only at h;split at h
   .cases h
   rcases mem_cons.1 e with rfl|e
   .grind
   .exact VB h c e
theorem alX(h:F0 2 q):rW 9 q<=8000000:=by
 have f:4^Pb q<=4^4:=h.b
 have e:Pb q<=4:=by
  rcases Nat.lt_or_ge 4 (Pb q)with d|d
  .have:=Nat.pow_lt_pow_right (by decide:1<4) d;omega
  .exact d
 have d:=bnX (c:=9) aC q;have g:9^Pb q<=9^4:=Nat.pow_le_pow_right aC e;omega
theorem ZH{rs:List lR}{k:Int}{st st2:List cw}{cs:List tD}(A:mN s)(h:∀r∈rs,jC s [4] r=0)(n:rs.length<=16)(B:∀r∈rs,F0 2 r.query)(j:Uq 4 s st)(d:Uq 9 s st2)(C:La s st cs st2)(F:cs.length<=5):tX s [4] rs [B0 k] st st2 cs:=by
 obtain⟨e,E⟩:=Ca A;have o:=wL e;have f:=ceX k;refine⟨XN.2 ⟨e,n,bg,bg,h⟩,f,?_,λr g _=>?_,λr g _=>?_,d.val,by rw[d.len];omega,λc t=>?_,aC,aC⟩
 .unfold yZ;rw[if_neg (by rw[j.errM e o aC];simp)];exact C
 .exact U8 f (AP.1 (h r g)).2 (j.err e o aC) j.val (c:=9) (λl n=>by have:=j.few l n;omega) aC (alX (B r g))
 .exact U8 f (AP.1 (h r g)).2 (d.err e o aC) d.val (c:=9) d.few aC (alX (B r g))
 .have ok:=VB C c t;simp only[AY,cg,Bool.or_eq_true,beq_iff_eq]at ok;obtain⟨⟨⟨⟨D,_⟩,G⟩,H⟩,_⟩:=ok;have u:c.tab.toNat<s.tables.length:=by simp[i7]at D;omega
  have y:s.tables[c.tab.toNat]? =some s.tables[c.tab.toNat]:=bu u;generalize s.tables[c.tab.toNat]=z at y;have I:=(BY A (bx y)).2.2.1
  have J:∀r,rR 1 s c.tab r=true->r.length=z.columns.length:=λr g=>by
   rw[zX y D]at g;exact(jF.1 g).1
  grind
theorem Na{n:Int}:∀{cs:dd}{l:Int},lS n l cs=true->∀x∈cs,l<x/\x<n
 |[],_,_,x,d=>by cases d
 |c::cs,l,h,x,d=>by
  simp only[lS,cg,cm]at h;rcases mem_cons.1 d with rfl|d
  .exact h.1
  .have:=Na h.2 x d;omega
theorem OG{r:lR}(h:jC s [4] r=0):∃(t:Nat)(d:sZ),r.table=t/\s.tables[t]? =some d/\lS d.columns.length (d.key-1) r.cols=true/\∀c,lS d.columns.length (d.key-1) c=true->jC s [4] {r with cols:=c}=0:=by
 obtain⟨e,n⟩:=AP.1 h;have u:=e;simp only[rI,cg]at e;obtain⟨⟨y,o⟩,j⟩:=e;have f:=o;simp only[i7,cg,cm]at f;have g:s.tables[r.table.toNat]? =some s.tables[r.table.toNat]:=bu aC;generalize s.tables[r.table.toNat]=d at g;rw[g]at j;refine⟨r.table.toNat,d,aC,g,j,λc z=>AP.2 ⟨?_,n⟩⟩;simp only[rI,cg]
 grind
theorem auZ{d f:List lR}{r:lR}{t:Nat}{g:sZ}{c:dd}(o:(d++f)[k]? =some r)(h:∀r∈d++f,jC s [4] r=0)(H:r.table=t)(n:s.tables[t]? =some g)(I:∀x:Int,g.key<=x->x<g.columns.length->x∈c):alZ d ((d++f).set k {r with cols:=c}):=by
 have u:=(bt o);intro x C;obtain⟨i,D⟩:=mem_iff_getElem?.1 C;have E:=(bt D);have j:(d++f)[i]? =some x:=bk
 by_cases e:k=i
 .subst e;rw[o]at j;cases j;refine⟨{r with cols:=c},bx (getElem?_set_self u),rfl,rfl,rfl,λy z=>?_⟩;obtain⟨F,A,J,B,G,_⟩:=OG (h r (bx o));have:F=t:=by omega
  subst this;rw[n]at B;cases B;have:=Na G y z
  grind
 .exact⟨x,bx (by rw[getElem?_set_ne e];exact j),rfl,rfl,rfl,λ_ z=>z⟩
theorem axQ{rs:List lR}{r:lR}{t:Nat}{d:sZ}{c:dd}(n:rs[k]? =some r)(h:∀r∈rs,jC s [4] r=0)(o:∀r∈rs,F0 2 r.query)(u:r.table=t)(g:s.tables[t]? =some d)(y:lS d.columns.length (d.key-1) c=true):(∀x∈rs.set k {r with cols:=c},jC s [4] x=0)/\∀x∈rs.set k {r with cols:=c},F0 2 x.query:=by
 have f:=bx n;refine⟨λx e=>?_,λx e=>?_⟩
 .rcases mem_or_eq_of_mem_set e with e|rfl
  .exact h x e
  .obtain⟨z,j,A,B,_,C⟩:=OG (h r f)
   grind
 grind
theorem qI.app{l g:List bM}{rs d:List lR}(x:qI h l rs)(y:qI h g d):qI h (l++g) (rs++d):=⟨by simp[x.len,y.len],λi c e=>by
 have o:=x.len;rcases Nat.lt_or_ge i rs.length with f|f
 .rw[getElem?_append_left f]at e;obtain⟨w,j,n⟩:=x.rep i c e
  grind
 .rw[getElem?_append_right f]at e;obtain⟨w,j,n⟩:=y.rep _ c e
  grind⟩
theorem qI.set{l:List bM}{rs:List lR}{r:lR}{v:bM}(x:qI h l rs)(y:Nx h r v):qI h (l.set k v) (rs.set k r):=⟨by simp[x.len],λj d e=>by
 by_cases c:k=j
 .subst c
  have f:k<rs.length:=by
   grind
  rw[getElem?_set_self f]at e;cases e;exact⟨v,getElem?_set_self (by rw[x.len];exact f),y⟩
 .rw[getElem?_set_ne c]at e;obtain⟨w,g,n⟩:=x.rep j d e
  grind⟩
theorem qI.of{s:Sl}{rs:List lR}(x:bC h 24 bM.enc (Nx h) s rs):∃l,bX h s 24 (l.map bM.enc)/\qI h l rs:=by
 obtain⟨c,d,e,f⟩:=x.ex;exact⟨c,d,e.symm,f⟩
theorem Vb(l:List bM):dQ 24 (l.map bM.enc):=by
 constructor
 .intro e d;obtain⟨x,_,rfl⟩:=mem_map.1 d;rfl
 .intro e d u c;obtain⟨x,_,rfl⟩:=mem_map.1 d;simp only[bM.enc,QV.enc,PV.enc,OV.enc,VV.enc,mem_cons,mem_append,not_mem_nil,or_false,cons_append,nil_append]at c
  repeat' (rcases c with rfl|c<;>first|rfl|skip)
  all_goals first|rfl|(subst c;rfl)|cases c
theorem XG{rs:List lR}{j:Nat}{r:lR}(h:rs[j]? =some r):(rs.take (j+1)).filter (λr=>r.kind==2)=(rs.take j).filter (λr=>r.kind==2)++if(r.kind==2)=true then[r]else[]:=by
 rw[cj,h,filter_append]
 grind
theorem SH{α:Type}{l:List α}{d:α}(h:l[k]? =some d):l.drop k=d::l.drop (k+1):=by
 rw[drop_eq_getElem_cons (bt h),(List.getElem?_eq_some_iff.1 h).2]
def cmJ:Vc.Spec:=λc m h K=>∃s cs,c=[cS s]/\bX h s 1 (cC cs)/\s.len<=s.cap/\iL m/\∀m' h',Sub m m'->K (cB true) m' h'
structure GrE(h:PH)(s:j4)(g:CB)(rs:List lR)(k:Int)(st:List cw)(cs:List tD):Prop where
 sc_:dM h s g.sc
 pol_:iH h g.p g.r [4] rs
 st_:tS h g.st st
 v_:bO h g.v [B0 k]
 ch_:pH h g.ch cs
theorem GrE.mono{g:CB}{rs:List lR}{k:Int}{st:List cw}{cs:List tD}(x:GrE h s g rs k st cs)(le:PH.le h h'):GrE h' s g rs k st cs:=⟨x.sc_.mono le,x.pol_.mono le,x.st_.mono le,bO.mono x.v_ le,bC.mono x.ch_ le λ_ _ y=>y.mono le⟩
theorem kS.app{m0 c m2:MH}{s s':Sl}{E:TypeId}{f:List cv}(r:kS m0 c s E sz xs)(sub:Sub m0 c)(g:dV c m2 s s' E sz f):kS m0 m2 s' E sz f/\Sub m0 m2:=by
 refine⟨⟨g.row,λb i e=>?_⟩,λb o e=>g.other b o (sub b o e) λi d=>by rw[r.fresh b i d]at e;cases e⟩;rcases g.fresh b i e with h|⟨j,h⟩
 .cases d:m0 b with
  |none=>rfl
  |some o=>rw[sub b o d]at h;cases h
 .exact r.fresh b j h
theorem a2Q{m0:MH}(s:Sub m0 m):Sub m0 (mK m0 m):=λb o e=>by
 unfold mK;rw[e];exact s b o e
theorem bzJ{a:Sl}{e:cv}{n:Nat}{s:Sl}(r:bX h a sz xs)(c:xs[n]? =some e)(d:Dw sz ⟨a.a,n+1,a.cap⟩ n s):bX h s sz [e]:=by
 have f:=(bt c);have g:=bX.low (bX.cut r (n+1) f) (s':=s) (i:=n) d bk;rw[cj,c,drop_append,drop_of_length_le bk]at g;have j:n-(xs.take n).length=0:=bk
 grind
theorem bAQ{a:Sl}{ds:fe}{d:Den}{n:Nat}{s:Sl}(r:tU h a ds)(c:ds[n]? =some d)(e:Dw 5 ⟨a.a,n+1,a.cap⟩ n s):tU h s [d]:=by
 obtain⟨o,f,t,g⟩:=r.ex;obtain⟨v,u,j⟩:=g n d c;exact Eg (bzJ f bk e) j
theorem ba{s:Sl}{d4:dp}(hr:bX h s 1 (cC d4))(d5:s.len<=s.cap)(ht:iL m)(hK:∀m' h',Sub m m'->K (cB true) m' h'):ag s m h K:=by
 dsimp only[ag,push_cast];refine⟨s,d4,300,rfl,hr,d5,aC,λcb m1 h1 k8 k9 o1 c1=>⟨cb,rfl,c1,λsc v m2 h2 hp rS l' o2 c2=>?_⟩⟩;obtain⟨g0,d6⟩:=Ca hp;have l0:=wL g0;have sub:∀{U},Kept m U cb->Sub m U:=fun{U} om b o e=>om b o e λe2=>by grind
 have k2:Kept m m2 cb:=(Kept.of o1).on o2;refine⟨λz=>∃p r q u U D A C,z=(cb,v,p,r,q,u,U,D)/\iH D p r [4] A/\Ik sc A/\iH D q u [4] C/\Ik sc C/\aT m2 U cb/\aL U D cb/\PH.le h2 D,?_,?_⟩
 .repeat' (first|refine And.intro ?_ ?_ |(refine⟨cb,v,sc,rfl,c2,rS,hp,?_⟩;intro p r rs m3 h3 L d7 d8 o3 c3)|fail)
  all_goals repeat' (first|refine And.intro ?_ ?_ |(refine⟨cb,v,sc,rfl,c3,rS.mono L,hp,?_⟩;intro p1 r1 A m4 h4 M d9 e' o4 c4)|fail)
  all_goals first
   |exact⟨(cb,v,p,r,p1,r1,m4,h4),⟨p,r,p1,r1,m4,h4,rs,A,rfl,d7.mono M,d8,d9,e',o3.trans o4,c4,L.trans M⟩,MT⟩
   |exact⟨(cb,v,p1,r1,p,r,m4,h4),⟨p1,r1,p,r,m4,h4,A,rs,rfl,d9,e',d7.mono M,d8,o3.trans o4,c4,L.trans M⟩,MT⟩
 rintro _ ⟨p,r,q,u,m3,h3,A,C,rfl,V,W,X,b7,o3,c3,L⟩;dsimp only;refine⟨cb,v,sc,1,rfl,c3,rS.mono L,hp,λst w m4 h4 M b8 Y Z o4 c4=>⟨cb,rfl,c4,λpv k m5 h5 _ _ a8 hv o5 c5=>?_⟩⟩;have hg:=b8Z Y (Z rfl);refine⟨cb,v,sc,w,st,5,rfl,c5,rS.mono (L.trans (M.trans a8)),hp,b8.mono a8,hg,aC,λF wx cs st2 m6 P b9 e0 hL hG c' k6 c6=>?_⟩;have a':=M.trans (a8.trans b9);have a9:GrE P sc ⟨v,p,r,w,pv,F⟩ A k st cs:=⟨rS.mono (L.trans a'),V.mono a',b8.mono (a8.trans b9),bO.mono hv b9,e0⟩
 have c0:Kept m m6 cb:=λb o e n=>k6 b o ((((k2.on o3).on o4).on o5) b o e n) n;obtain⟨l1,e4,c8⟩:=qI.of a9.pol_.rules;obtain⟨l2,a0,c9⟩:=qI.of (X.mono a').rules;have g6:=c8.len;have g7:=c9.len;have f1:=W.few;have f2:=b7.few;have G:∀r∈A++C,jC sc [4] r=0:=λr hr=>(mem_append.1 hr).elim (W.ok r) (b7.ok r);have S:∀r∈A++C,F0 2 r.query:=λr hr=>(mem_append.1 hr).elim (W.siz r) (b7.siz r);refine⟨λz=>∃l,z=(cb,⟨v,p,r,w,pv,F⟩,l,m6,P)/\qI P l (A++C),?_,?_⟩
 .have one:∃x:Nat×CB×List bM×MH×PH,(∃l,x=(cb,⟨v,p,r,w,pv,F⟩,l,m6,P)/\qI P l (A++C))/\x=(cb,⟨v,p,r,w,pv,F⟩,l1++l2,m6,P):=⟨_,⟨_,rfl,c8.app c9⟩,rfl⟩
  have a1:∃ys:List cv,ys=l1.map bM.enc:=⟨_,rfl⟩
  repeat' (first|refine And.intro ?_ ?_ |refine⟨l1.map bM.enc,Vb l1,.imm e4,by rw[length_map];omega,by rw[length_map];omega,?_⟩|refine⟨l2.map bM.enc,Vb l2,.imm a0,by rw[length_map,length_map];omega,by rw[length_map,length_map];omega,?_⟩|fail)
  all_goals
   obtain⟨_,k1,rfl⟩:=one;exact⟨_,k1,by rw[map_append];exact MT⟩
 clear c8 c9 e4 a0 g6 g7 V X b8 hv e0 c3 c4 c5 o3 o4 o5 Y Z k2 k6;rintro _ ⟨l,rfl,hR⟩;dsimp only;have e5:=hR.len;have e6:(A++C).length<=10:=by grind
 refine⟨λz=>∃l Q hz f,z=((⟨v,p,r,w,pv,F⟩:CB),l,Q,hz)/\qI hz l f/\(∀r∈f,jC sc [4] r=0)/\(∀r∈f,F0 2 r.query)/\f.length<=10/\alZ A f/\PH.le P hz/\Sub m Q,aE (λe7=>?_) (λh0 _=>?_),?_⟩
 .rw[length_map]at e7⊢
  refine⟨cb,(l.length:Int),rfl,c6,λi m7 i0 i1 o7 c7=>?_⟩;obtain⟨i,rfl⟩:=Int.eq_ofNat_of_zero_le i0;have l3:i<l.length:=by omega
  obtain⟨ri,b'⟩:∃x,(A++C)[i]? =some x:=⟨_,getElem?_eq_getElem aC⟩
  obtain⟨R,l4,B⟩:=hR.rep i ri b';obtain⟨t,H,et,I,_,_⟩:=OG (G ri (mem_of_getElem? b'));obtain⟨q1,q2,q3,q4,q5⟩:=GN hp I;have e8:R.table=(t:Int):=B.table_.trans et;have l5:=a9.sc_.tables.slen;have k3:=(List.getElem?_eq_some_iff.1 I).1;obtain⟨b,o,y,ea,rd,hy⟩:=bC.at a9.sc_.tables I;have k4:=hy.key;have k5:y.columns.len=H.columns.length:=bC.slen hy.columns;have e9:(l.map bM.enc)[i]? =some R.enc:=by grind
  have f':Sub m m7:=sub (c0.on o7);rw[Int.toNat_natCast];refine⟨aC,aC,_,e9,R.table,rfl,aC,aC,_,e9,by show 2<24;omega,b,o,ea,aC,by grind,y.key,?_,?_⟩
  .rw[e8];exact .imm (bA.part rd 2 1)
  refine⟨λz=>∃j wc c U,z=(j,(i:Int),R.table,(⟨v,p,r,w,pv,F⟩:CB),l.set i {R with columns:=wc},U,P)/\H.key<=j/\j<=H.columns.length/\kS m7 U wc 3 1 (c.map eI)/\Sub m7 U/\lS H.columns.length (H.key-1) c=true/\(∀x∈c,x<j)/\(∀x,H.key<=x->x<j->x∈c)/\(c.length:Int)<=j-H.key,λz=>(H.columns.length-z.1).toNat,⟨(y.key,(i:Int),R.table,⟨v,p,r,w,pv,F⟩,l.set i {R with columns:=bT},m7,P),⟨_,bT,[],m7,rfl,aC,aC,kS.nil _ _ _ _,λ_ _ e=>e,rfl,λx D=>(by cases D),λx h1 h2=>by omega,by grind⟩,by rw[map_set];exact MT⟩,?_⟩;rintro _ ⟨j,wc,c,m8,rfl,j0,j1,d',J,f0,b0,f3,g8⟩;dsimp only;refine⟨b,o,ea,aC,by grind,y.columns,by rw[e8];exact .imm (bA.part rd 1 1),aE (λg9=>?_) (λg9 d=>?_)⟩
  .have d0:((l.set i {R with columns:=wc}).map bM.enc)[i]? =some (bM.enc {R with columns:=wc}):=by grind
   have h7:((l.set i {R with columns:=wc}).map bM.enc).length=l.length:=by grind
   rw[Int.toNat_natCast,h7,dO (n:=j+1) aC aC];refine⟨aC,aC,_,d0,wc,rfl,⟨_,d0,rfl⟩,c.map eI,d'.row,by grind,by grind,λw2 m9 g=>?_⟩;obtain⟨h9,f4⟩:=d'.app J g;refine⟨aC,aC,_,d0,by show 2<24;omega,(j+1,(i:Int),R.table,⟨v,p,r,w,pv,F⟩,l.set i {R with columns:=w2},m9,P),⟨_,w2,c++[j],m9,rfl,aC,aC,by rw[map_append];exact h9,f4,Fu f0 b0 aC aC,λx D=>?_,λx h1 h2=>?_,by grind⟩,aC,?_⟩
   .grind
   .grind
   .rw[map_set,map_set,set_set];exact MT
  .have i':Nx (tC m7 m8 P) {ri with cols:=c} {R with columns:=wc}:=⟨B.kind_,B.table_,⟨d'.ice,by grind⟩,B.query_.mono (yU d)⟩
   obtain⟨s1,s2⟩:=axQ b' G S et I f0;exact⟨(⟨v,p,r,w,pv,F⟩,l.set i {R with columns:=wc},mK m7 m8,tC m7 m8 P),⟨_,_,_,(A++C).set i {ri with cols:=c},rfl,(hR.mono (yU d)).set i',s1,s2,by grind,auZ b' G et I (λx h1 h2=>f3 x h1 aC),yU d,λb o e=>a2Q J b o (f' b o e)⟩,FT⟩
 .have fz:=IG m6 P;have h0:(A++C).length=0:=by grind
  have e1:A=[]:=(append_eq_nil_iff.1 (length_eq_zero_iff.1 h0)).1;exact⟨(⟨v,p,r,w,pv,F⟩,l,m6,P),⟨_,_,_,_,rfl,hR,G,S,e6,λx D=>(by grind),.refl _,sub c0⟩,AC⟩
 clear hR e5 e6 G S l c0 c6;rintro _ ⟨l,Q,hz,f,rfl,hM,G,S,l6,f5,i2,b6⟩;dsimp only;have e5:=hM.len;rw[length_map];refine⟨λz=>∃j kk,z=(j,kk,(⟨v,p,r,w,pv,F⟩:CB),l,Q,hz)/\j<=l.length/\qI hz kk ((f.take j).filter λr=>r.kind==2),λz=>l.length-z.1,⟨(0,[],⟨v,p,r,w,pv,F⟩,l,Q,hz),⟨0,[],rfl,aC,qI.nil _⟩,MT⟩,?_⟩;rintro _ ⟨j,kk,rfl,hj,b1⟩;dsimp only
 have m0:kk.length<=10:=by
  have h1:=b1.len
  grind
 refine aE (λb0=>?_) (λn0=>?_)
 .obtain⟨rj,f6⟩:∃x,f[j]? =some x:=⟨_,getElem?_eq_getElem aC⟩
  obtain⟨vj,n1,B⟩:=hM.rep j rj f6;have i3:(l.map bM.enc)[j]? =some vj.enc:=by grind
  have d1:=XG f6;refine⟨aC,by grind,_,by rw[Int.toNat_natCast];exact i3,vj,rfl,?_⟩;rw[jG aC];refine aB (λe=>?_) (λe=>?_)
  .rw[B.kind_]at e;rw[if_pos e]at d1;exact⟨by grind,by grind,(j+1,kk++[vj],⟨v,p,r,w,pv,F⟩,l,Q,hz),⟨j+1,_,rfl,aC,by rw[d1];exact b1.snoc B⟩,aC,by rw[map_append];exact MT⟩
  .rw[B.kind_]at e;rw[if_neg (by grind),append_nil]at d1;exact⟨(j+1,kk,⟨v,p,r,w,pv,F⟩,l,Q,hz),⟨j+1,_,rfl,aC,by grind⟩,aC,MT⟩
 rw[take_of_length_le aC]at b1;have E:=a9.mono i2;have b3:=ht.sub b6;have f7:∀x∈f.filter (λr=>r.kind==2),x∈f:=λx D=>(mem_filter.1 D).1;have D1:tX sc [4] A [B0 k] st st2 cs:=ZH hp W.ok aC W.siz hg hG hL c';have D2:tX sc [4] f [B0 k] st st2 cs:=ZH hp G aC S hg hG hL c';have n2:=length_filter_le (λr:lR=>r.kind==2) f;have D3:tX sc [4] (f.filter λr=>r.kind==2) [B0 k] st st2 cs:=ZH hp (λx D=>G x (f7 x D)) aC (λx D=>S x (f7 x D)) hg hG hL c';refine⟨v,p,r,pv,w,F,sc,[4],A,[B0 k],st,st2,cs,rfl,E.sc_,E.pol_,E.v_,E.st_,E.ch_,b3,D1,λa g1 d3 ha s2 g2 a2 a0=>?_⟩;have E2:=E.mono (d3.trans a2);refine⟨v,p,s2,pv,w,F,sc,[4],f,[B0 k],st,st2,cs,rfl,E2.sc_,⟨E2.pol_.params,(hM.mono (d3.trans a2)).cs a0 aC⟩,E2.v_,E2.st_,E2.ch_,b3,D2,λb g3 b4 hb s3 g4 T f8=>?_⟩;have E4:=E2.mono (b4.trans T);refine⟨v,p,s3,pv,w,F,sc,[4],f.filter λr=>r.kind==2,[B0 k],st,st2,cs,rfl,E4.sc_,⟨E4.pol_.params,(b1.mono ((d3.trans a2).trans (b4.trans T))).cs f8 aC⟩,E4.v_,E4.st_,E4.ch_,b3,D3,λx g5 b5 D=>?_⟩;rw[XD]at D;have J:=auX (s:=sc) (ps:=[B0 k]) (st:=st) (st2:=st2) (cs:=cs) f5;have a3:tU g5 a (vH sc (pI sc [B0 k] st st2 cs A) cs 0):=bC.mono ha (a2.trans (b4.trans (T.trans b5))) λ_ _ y=>y.mono (a2.trans (b4.trans (T.trans b5)));have a4:tU g5 b (vH sc (pI sc [B0 k] st st2 cs f) cs 0):=bC.mono hb (T.trans b5) λ_ _ y=>y.mono (T.trans b5);refine⟨b,x,_,_,rfl,a4,D,λr0 i4=>aB (λe=>by grind) (λ_=>?_)⟩;clear D ha hb D1 D2 D3 E E2 E4 a0 f8 i4;generalize vH sc (pI sc [B0 k] st st2 cs A) cs 0=da at a3 J;generalize vH sc (pI sc [B0 k] st st2 cs f) cs 0=db at a4 J;have n3:a.len=da.length:=bC.slen a3;have i5:b.len=db.length:=bC.slen a4;have k7:=a3.len;have i8:=a4.len;have i9:a.len<=a.cap:=by obtain⟨vs,h1,_⟩:=a3.ex;exact h1.cap
 refine⟨λz=>∃q n hw,z=(q,n,a,b,Q,hw)/\q<=db.length/\n<=da.length/\(db.drop q).Sublist (da.drop n)/\PH.le g5 hw,λz=>db.length-z.1,⟨(0,0,a,b,Q,g5),⟨0,0,g5,rfl,aC,aC,by grind,.refl _⟩,MT⟩,?_⟩;rintro _ ⟨q,n,hw,rfl,hq,hn,O,a5⟩;dsimp only;refine aE (λb0=>?_) (λ_=>⟨rfl,b3,hK Q hw b6⟩);obtain⟨d,hd⟩:=eO i5 b0;have j':tU hw b db:=bC.mono a4 a5 λ_ _ y=>y.mono a5;obtain⟨b2,o2,dv,j2,j3,kd⟩:=bC.at j' hd;rw[SH hd]at O;refine⟨b2,o2,j2,aC,aC,dv,.imm j3,λz=>∃n' hv,z=(dv,q,n',a,b,Q,hv)/\n'<=da.length/\(d::db.drop (q+1)).Sublist (da.drop n')/\PH.le hw hv,λz=>da.length-z.2.2.1,⟨(dv,q,n,a,b,Q,hw),⟨n,hw,rfl,hn,O,.refl _⟩,MT⟩,?_⟩;clear O hn n;rintro _ ⟨n,hv,rfl,hn,O,a6⟩;dsimp only;have k':tU hv a da:=bC.mono a3 (a5.trans a6) λ_ _ y=>y.mono (a5.trans a6)
 have k0:n<da.length:=by
  grind
 obtain⟨d2,f9⟩:∃x,da[n]? =some x:=⟨_,getElem?_eq_getElem k0⟩
 rw[SH f9]at O;rw[jG (i:=n) aC,jG (i:=q) aC,Int.toNat_natCast,Int.toNat_natCast];refine aE (λ_=>⟨⟨aC,aC,aC,?_⟩,aC,aC,aC,?_⟩) (λh=>(h aC).elim)
 all_goals
  intro s6 lo s7 h8 a7 r8;refine⟨s6,s7,[d2],[d],rfl,bC.mono (bAQ k' f9 lo) a7 λ_ _ y=>y.mono a7,Eg (v:=dv) r8 (kd.mono (a6.trans a7)),λr1 g'=>aB (λe=>?_) (λe=>aB (λe2=>?_) (λ_=>?_))⟩
  .have d6:d2≠d:=λe3=>by rw[g'.2 (by rw[e3])]at e;cases e
   exact⟨(dv,q,n+1,a,b,Q,h8),⟨n+1,h8,rfl,aC,aWJ O d6,a6.trans a7⟩,by show da.length-(n+1)<da.length-n;omega,MT⟩
  .rw[beq_iff_eq]at e2;omega
  .have h1:r1=true:=by simpa using e
   have e3:=g'.1 h1;injection e3 with e3;subst e3;exact⟨(q+1,n+1,a,b,Q,h8),⟨q+1,n+1,h8,rfl,aC,aC,aWZ O,a5.trans (a6.trans a7)⟩,by show db.length-(q+1)<db.length-q;omega,MT⟩
theorem bd:cu 5 cmJ:=by
 refine iB func5 ?_;rintro d m h K ⟨s,cs,rfl,e,c,f,g⟩;refine⟨f5_ctx,rfl,aD a5X (aD a5Q (aD a4Z (aD Zz (aD aQQ (aD aPJ (aD FU (aD Mb (aD aNX (aD aOQ aF))))))))),ag s m h K,be,?_⟩;exact ba e c f g
end Go.Ps
