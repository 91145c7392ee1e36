/- Own work. -/
import Derived.Test.YtbpoogcannjnbaaGreatDoorTg
set_option linter.unusedVariables false
set_option linter.unusedSimpArgs false
namespace Go.Ps
open Go Go.Vc Go.Proofs
variable{K:CV->MH->PH->Prop}{m:MH}{h:PH}{s:jR}{ps:List Int}{cb:Nat}{sc:bN}{v:QV}{q:Query}{p:Pred}{l:List Int}{i:Nat}{N:Nat}{m':MH}{h':PH}{co:List Int}{gr:List Int}{on:List (Int×Int)}{od:List (Int×Bool)}{w:Pred}{ta:Int}{li:Int}{xs:List (List Value)}{sz:Nat}{k:Nat}{ks:List (List Int)}{rs:List Int}{r:Sl}{a:List Int}{b:Nat}
def jG(cs:List sC)(t:Int):Bool:=cs.any λc=>c.tab==t
noncomputable def kJ(s:jR)(ps:List VV)(st st2:List (List (List VV)))(cs:List sC)(rs:List vW)(t:Int):List Wr:=
 (rs.filter λr=>r.kind==2&&jG cs r.table&&r.table==t).map λr=>⟨r.cols,(gV s st (dW ps r.query)).1,(gV s st2 (dW ps r.query)).1⟩
def pG(s:jR)(wr:Int->List Wr):List sC->Nat->List Den
 |[],_=>[]
 |c::cs,i=>Km s (wr c.tab) i c++pG s wr cs (i+1)
structure qQ(s:jR)(pk:List Int)(rs:List vW)(ps:List VV)(st st2:List (List (List VV)))(cs:List sC):Prop where
 pol:sN s pk rs=0
 par:wC pk ps=true
 app:qL 1 s st cs=(st2,0)
 q1:∀r∈rs,r.kind=2->(gV s st (dW ps r.query)).2=0/\gP (gV s st (dW ps r.query)).1/\(gV s st (dW ps r.query)).1.length<=8000000/\B8 st (dW ps r.query)
 q2:∀r∈rs,r.kind=2->(gV s st2 (dW ps r.query)).2=0/\gP (gV s st2 (dW ps r.query)).1/\(gV s st2 (dW ps r.query)).1.length<=8000000/\B8 st2 (dW ps r.query)
 v2:YU st2
 n2:st2.length<=1000
 wid:∀c∈cs,c.old.length<=1000/\c.new.length<=1000/\(c.old≠[]->c.new≠[]->c.old.length=c.new.length)
 few:cs.length<=400/\rs.length<=1000
def yG(h:PH)(s:Sl)(ds:List Den):Prop:=aR h 5 FI.enc (Se h) s ds
def FH:Vc.Spec:=λcvs m h K=>∃sc p r pv sl ch s pk rs ps st st2 cs,cvs=[aS sc,ZJ p r,cS pv,Xq sl,cS ch]/\dV h s sc/\jZ h p r pk rs/\bB h pv ps/\vV h sl st/\oJ h ch cs/\gG m/\qQ s pk rs ps st st2 cs/\
 ∀x h',PH.le h h'->yG h' x (pG s (kJ s ps st st2 cs rs) cs 0)->K (.tup [cS x,cI 0]) m h'
def ZK(y:Nat):SV:=vv (.map (some y))
noncomputable def Yk(sc:bN)(p r vs sl ch:Sl):Ctx:=sY [(38,Mi),(39,Tc),(40,Xm),(41,Xk),(42,YY),(43,Tm)]
 [(11,{A:=Nat×Sl×Nat×MH×PH,st:=λ⟨i,w,y,m,h⟩=>cM 132 137 [(2,sv vs),(4,sv ch),(5,.at (.ptr 5 0)),(6,.at (.ptr 6 0)),(8,.at (.ptr 8 0)),(13,.at (.ptr 13 0)),(15,ZK y),(47,sv ch),(48,iv ch.len),(49,iv i)] [(5,.cells 29 (sc.enc.map .val)),(6,.cells 34 [.val (.slice p.a p.len p.cap),.val (.slice r.a r.len r.cap)]),(8,.cells 38 [.val (.slice sl.a sl.len sl.cap)]),(13,.cells 38 [.val (.slice w.a w.len w.cap)])] m h}),
  (17,{A:=Nat×Sl×Nat×Nat×MH×PH,st:=λ⟨i,w,y,b,m,h⟩=>cM 132 137 [(2,sv vs),(4,sv ch),(5,.at (.ptr 5 0)),(8,.at (.ptr 8 0)),(13,.at (.ptr 13 0)),(15,ZK y),(18,pv b),(61,sv r),(62,iv r.len),(63,iv i)] [(5,.cells 29 (sc.enc.map .val)),(8,.cells 38 [.val (.slice sl.a sl.len sl.cap)]),(13,.cells 38 [.val (.slice w.a w.len w.cap)])] m h}),
  (31,{A:=Nat×Nat×MH×PH,frz:=true,st:=λ⟨i,b,m,h⟩=>cM 132 137 [(18,pv b),(119,sv ch),(120,iv ch.len),(121,iv i)] [] m h})]
 [(20,{A:=Nat×Sl×Nat×Nat×iO×MH×PH,st:=λ⟨i,w,y,b,u,m,h⟩=>cM 132 137 [(2,sv vs),(4,sv ch),(5,.at (.ptr 5 0)),(8,.at (.ptr 8 0)),(13,.at (.ptr 13 0)),(15,ZK y),(18,pv b),(20,.at (.ptr 20 0)),(61,sv r),(62,iv r.len),(63,iv i)] [(5,.cells 29 (sc.enc.map .val)),(8,.cells 38 [.val (.slice sl.a sl.len sl.cap)]),(13,.cells 38 [.val (.slice w.a w.len w.cap)]),(20,.cells 70 (u.enc.map .val))] m h})] [] [200018,1117,400000,0] [] false
noncomputable def Yb:Ctx:=dL [(16,FH)] [] [] [] false
def Xn:Vc.Spec:=λcvs m h K=>∃sc p r pv sl ch s pk rs ps st st2 cs,cvs=[aS sc,ZJ p r,cS pv,Xq sl,cS ch]/\dV h s sc/\jZ h p r pk rs/\bB h pv ps/\vV h sl st/\oJ h ch cs/\gG m/\qQ s pk rs ps st st2 cs/\
 ∀h',PH.le h h'->K (cI (if(pG s (kJ s ps st st2 cs rs) cs 0).length=0 then 0 else 170)) m h'
abbrev u0(a:jR->(List Int)->(List vW)->Prop):Prop:=∃(x:jR)(x1:List Int)(x2:List vW),a x x1 x2
abbrev kE:Prop:=eP 13
noncomputable abbrev kO(a:Nat×Sl×Nat×Nat×MH×PH):Nat->Option Obj:=cC a.2.2.2
noncomputable abbrev lD(a:Nat×Sl×Nat×Nat×MH×PH):Nat->Nat->Option Value:=cE a.2.2.2
noncomputable abbrev tT(a:Nat×Sl×Nat×Nat×iO×MH×PH):Nat:=a.2.2.1
noncomputable abbrev fD(a:Nat×Sl×Nat×Nat×iO×MH×PH):Nat:=a.2.2.2.1
noncomputable abbrev wI(a:Nat×Sl×Nat×Nat×iO×MH×PH):iO:=a.2.2.2.2.1
noncomputable abbrev fL(a:Nat×Sl×Nat×Nat×iO×MH×PH):Nat->Option Obj:=a.2.2.2.2.2.1
noncomputable abbrev E0(a:Nat×Sl×Nat×Nat×iO×MH×PH):Nat->Nat->Option Value:=a.2.2.2.2.2.2
noncomputable abbrev jB(a:Nat×Sl×Nat×Nat×iO×MH×PH):Value:=cJ (wI a).table
noncomputable abbrev E3(a:Nat×Sl×Nat×Nat×iO×MH×PH)(b c:Sl):List Value:=aJ (bV (wI a).columns) (bV b) (aM c)
abbrev vR(a b:MH)(c:Nat)(d:List (Value×Value))(e:(Nat×Sl×Nat×Nat×MH×PH)->Prop):Prop:=fK a b c->jF b c d->∃(x:Nat×Sl×Nat×Nat×MH×PH),e x
abbrev vO(a:Nat×Sl×Nat×Nat×iO×MH×PH)(b:Nat×Sl×Nat×Nat×MH×PH):Prop:=kR a.2.1 b.2.1
attribute [push_cast] u0 kE kO lD tT fD wI fL E0 jB E3 vR vO
def JA(sc:bN)(p r vs sl ch:Sl)(m:MH)(h:PH)(K:CV->MH->PH->Prop):Prop:=
  ∃(s:bN),fR (λp1 r1=>u0 (λs1 p2 r2=>aA (aK (bJ sc) (fJ (bV p) r)=aK (bJ s) (fJ (bV p1) r1)) (dV h s1 s) (jZ h p1 r1 p2 r2/\∀(h1:PH),PH.le h h1->branch (sN s1 p2 r2 !=0) (K (wH (sN s1 p2 r2)) m h1) (fR (λk v=>∃(k1:List Int)(v1:List VV),aA (iG p vs=iG k v) (Ints h1 k k1) (bB h1 v v1/\branch (!(wC k1 v1)) (K (wH 1) m h1) (∃(s2:bN)(m1:Int),fR (λs3 c=>∃(s4:jR)(s5:List (List (List VV)))(c1:List sC),aA (bJ sc::dY 1::aK (eU sl) (dG ch)=bJ s2::dY m1::aK (eU s3) (dG c)) (dV h1 s4 s2) (aA (Leaves h1 s3 s5) (oJ h1 c c1) (aA (1<=m1) (m1<=3) (AL s5/\gT (λw h2=>dZ h1 h2 (Leaves h2 w (qL m1 s4 s5 c1).1) (branch ((qL m1 s4 s5 c1).2 !=0) (K (xP (CV.val (cJ (qL m1 s4 s5
 c1).2))) m h2) (Aq m h2 (λb m2=>∃(I:Nat×Sl×Nat×MH×PH->Prop)(m3:Nat×Sl×Nat×MH×PH->Nat),(∃(x:Nat×Sl×Nat×MH×PH),aA (I x) (aL vs) (aA (aL ch) dJ (aA (eP 6) (eP 8) (aA kE (iF b (nD x)) (aA (aL ch) (aX ch) (aA (bI x.1) (bO sc) (aA (eQ (oQ 34 (yY p::jX r))) (lW sl) (aA (kR w x.2.1) (m2=qB x) (bP h2 (oK x))))))))))/\∀(x:Nat×Sl×Nat×MH×PH),I x->bE (↑x.1:Int) (aH ch) (bK (λb1 o=>aA (bL ch.a b1 o) (0<=(↑x.1:Int)) ((↑x.1:Int)<aH ch/\∃(y:dH),aI (qB x) (oK x) b1 (o+aZ x.1 3) (iA y)/\k9 (qB x) (nD x) (λO=>j6 3 O) (λO=>O (Ae y)) (Ae y) (λk2 m4=>fK (qB x) m4 (nD x)->jF m4 (nD x) (dO k2 (Ae y) sV [])->∃(x1:Nat×Sl×Nat×MH×
 PH),aA (I x1) (m3 x1<m3 x) (aA (aL vs) (aL ch) (aA dJ (eP 6) (aA (eP 8) kE (aA (iF (nD x) (nD x1)) (aL ch) (aA (aX ch) (bD (gI (bC x.1 1)) x1.1) (aA (bO sc) (eQ (oQ 34 (yY p::jX r))) (aA (lW sl) (kR x.2.1 x1.2.1) (bZ m4 (qB x1) (oK x) (oK x1)))))))))) (λl v2 l1=>dO l (Ae y) v2 l1) (λl l1 m4=>fK (qB x) m4 (nD x)->jF m4 (nD x) (dO l (Ae y) sV l1)->∃(x1:Nat×Sl×Nat×MH×PH),aA (I x1) (m3 x1<m3 x) (aA (aL vs) (aL ch) (aA dJ (eP 6) (aA (eP 8) kE (aA (iF (nD x) (nD x1)) (aL ch) (aA (aX ch) (bD (gI (bC x.1 1)) x1.1) (aA (bO sc) (eQ (oQ 34 (yY p::jX r))) (aA (lW sl) (kR x.2.1 x1.2.1) (bZ m4 (qB x1) (oK x) (oK x1))))))))))))) (Aq (qB x) (oK x)
 (λb1 m4=>Co m4 (oK x) (aJ cK nV (aJ IU nV [])) 111 4 (λc2=>aJ (eE sc) (eD sc) (aJ (Value.map (Option.some b1)) nV (List.drop 4 c2.toList))) (λb2 m5=>∃(I1:Nat×Sl×Nat×Nat×MH×PH->Prop)(m6:Nat×Sl×Nat×Nat×MH×PH->Nat),(∃(x1:Nat×Sl×Nat×Nat×MH×PH),aA (I1 x1) (aL vs) (aA (aL ch) dJ (aA (eP 8) kE (aA (iF (nD x) (gK x1.2)) (cN b2 x1.2.2.2.1) (aA (aL r) (aX r) (aA (bI x1.1) (bO sc) (aA (lW sl) (kR x.2.1 x1.2.1) (aA (m5=kO x1) (oK x=lD x1) True))))))))/\∀(x1:Nat×Sl×Nat×Nat×MH×PH),I1 x1->bE (↑x1.1:Int) (aH r) (bK (λb3 o=>aA (bL r.a b3 o) (0<=(↑x1.1:Int)) ((↑x1.1:Int)<aH r/\∃(y:iO),aI (kO x1) (lD x1) b3 (o+aZ x1.1 24) (EZ y (DL (F2 y) (F3
 y) (EY y)))/\∃(I2:Nat×Sl×Nat×Nat×iO×MH×PH->Prop),nG y.kind 2 (∃(x2:Nat×Sl×Nat×Nat×MH×PH),aA (I1 x2) (m6 x2<m6 x1) (aA (aL vs) (aL ch) (aA dJ (eP 8) (aA kE (iF (gK x1.2) (gK x2.2)) (aA (cN x1.2.2.2.1 x2.2.2.2.1) (aL r) (aA (aX r) (bD (gI (bC x1.1 1)) x2.1) (aA (bO sc) (lW sl) (aA (kR x1.2.1 x2.2.1) (kO x1=kO x2) (bP (lD x1) (lD x2)))))))))) (∃(k2:List (Value×Bool))(O:Value->Prop),aA (nU (kO x1) (gK x1.2) (List.map (fun(p3:Value×Bool)=>(p3.1,Value.bool p3.2)) k2)) (j6 3 O) (aA (O (cJ y.table)) (∀(e:Value×Bool),List.Mem e k2->O e.1) (((∀(e:Value×Bool),List.Mem e k2->e.1=cJ y.table->False)->∃(x2:Nat×Sl×Nat×Nat×MH×PH),aA (I1 x2) (m6 x2<m6 x1) (aA (aL vs) (aL ch) (aA
 dJ (eP 8) (aA kE (iF (gK x1.2) (gK x2.2)) (aA (cN x1.2.2.2.1 x2.2.2.2.1) (aL r) (aA (aX r) (bD (gI (bC x1.1 1)) x2.1) (aA (bO sc) (lW sl) (aA (kR x1.2.1 x2.2.1) (kO x1=kO x2) (bP (lD x1) (lD x2))))))))))/\∀(y1:Bool),List.Mem (cJ y.table,y1) k2->branch (!y1) (∃(x2:Nat×Sl×Nat×Nat×MH×PH),aA (I1 x2) (m6 x2<m6 x1) (aA (aL vs) (aL ch) (aA dJ (eP 8) (aA kE (iF (gK x1.2) (gK x2.2)) (aA (cN x1.2.2.2.1 x2.2.2.2.1) (aL r) (aA (aX r) (bD (gI (bC x1.1 1)) x2.1) (aA (bO sc) (lW sl) (aA (kR x1.2.1 x2.2.1) (kO x1=kO x2) (bP (lD x1) (lD x2)))))))))) (∃(x2:Nat×Sl×Nat×Nat×iO×MH×PH),aA (I2 x2) (aL vs) (aA (aL ch) dJ (aA (eP 8) kE (aA (iF (gK x1.2) (tT
 x2)) (cN x1.2.2.2.1 (fD x2)) (aA (eP 20) (aL r) (aA (aX r) (cF x1.1 x2.1) (aA (bO sc) (lW sl) (aA (kR x1.2.1 x2.2.1) (gO 70 (CO y (Ac y.columns y.query.op y.query y.query.on (sS y.query::jX y.query.args))) (CO (wI x2) (Ac (wI x2).columns (wI x2).query.op (wI x2).query (wI x2).query.on (sS (wI x2).query::jX (wI x2).query.args)))) (bZ (kO x1) (fL x2) (lD x1) (E0 x2)))))))))))))/\∀(x2:Nat×Sl×Nat×Nat×iO×MH×PH),I2 x2->∃(v2:QV)(s6:Sl)(q:Query)(p3:List VV),aA (aK (cW (wI x2).query) (dG vs)=aK (cW v2) (dG s6)) (fF (E0 x2) q v2) (bB (E0 x2) s6 p3/\∀(v3:QV)(h3:PH),dZ (E0 x2) h3 (fF h3 (dW p3 q) v3) (kB (λv4 s7=>Aj (λs8 s9=>uY (λw1 q1=>aA (bJ sc
 ::aK (eU sl) (cW v3)=bJ v4::aK (eU s8) (cW w1)) (dV h3 s7 v4) (aA (vV h3 s8 s9) (fF h3 q1 w1) (aA (gG (fL x2)) ((fC s7 [] q1).2=0->sF s7 s9=0->B8 s9 q1) (lT h3 (gV s7 s9 q1).1 (λa h4=>branch ((gV s7 s9 q1).2 !=0) (K (xP (CV.val (cJ (gV s7 s9 q1).2))) (fL x2) h4) (kB (λv5 a1=>Aj (λa2 a3=>uY (λw2 q2=>aA (bJ sc::aK (eU x2.2.1) (cW v3)=bJ v5::aK (eU a2) (cW w2)) (dV h4 a1 v5) (aA (vV h4 a2 a3) (fF h4 q2 w2) (aA (gG (fL x2)) ((fC a1 [] q2).2=0->sF a1 a3=0->B8 a3 q2) (lT h4 (gV a1 a3 q2).1 (λa4 h5=>branch ((gV a1 a3 q2).2 !=0) (K (xP (CV.val (cJ (gV a1 a3 q2).2))) (fL x2) h5) (∃(y1:Nat),aI (fL x2) h5 (fD x2) 2 (aU y1)/\∃(y2:Nat),aA (aI (fL x2) h5
 (fD x2) 2 (aU y2)) (aI (fL x2) h5 (fD x2) 2 (aU y1)/\pL (fL x2) y2 (λO=>j6 3 O) (λO=>O (jB x2)) (jB x2) (BF (aI (fL x2) h5 (fD x2) 2 (aU y1)) (aI (fL x2) h5 (fD x2) 2 (aU y2)) (aI (fL x2) h5 (fD x2) 2 (aU y1)) (aI (fL x2) h5 (fD x2) 2 (aU y2)) (λx3=>aA (cD (fL x2) n0 114 3 x3) (dD (x3.length+1) 72) (eF x3/\fP (λa5 m7=>eX (fL x2) m7 n0 a5 114 3 (eR x3 (E3 x2 a a4))->aA (aI m7 h5 (fD x2) 2 (aU y1)) (aI m7 h5 (fD x2) 2 (aU y2)) (k9 m7 y1 (λO=>j6 3 O) (λO=>O (jB x2)) (jB x2) (λk2 m8=>vR m7 m8 y1 (dO k2 (jB x2) (bV a5) []) (λx4=>aA (I1 x4) (m6 x4<m6 x1) (aA (aL vs) (aL ch) (aA dJ (eP 8) (aA kE (iF (tT x2) (gK
 x4.2)) (aA (cN (fD x2) x4.2.2.2.1) (aL r) (aA (aX r) (bD (gI (bC x2.1 1)) x4.1) (aA (bO sc) (lW sl) (aA (vO x2 x4) (m8=kO x4) (bP h5 (lD x4))))))))))) (λl v6 l1=>dO l (jB x2) v6 l1) (λl l1 m8=>vR m7 m8 y1 (dO l (jB x2) (bV a5) l1) (λx4=>aA (I1 x4) (m6 x4<m6 x1) (aA (aL vs) (aL ch) (aA dJ (eP 8) (aA kE (iF (tT x2) (gK x4.2)) (aA (cN (fD x2) x4.2.2.2.1) (aL r) (aA (aX r) (bD (gI (bC x2.1 1)) x4.1) (aA (bO sc) (lW sl) (aA (vO x2 x4) (m8=kO x4) (bP h5 (lD x4)))))))))))))))) (λy3=>BF (aI (fL x2) h5 (fD x2) 2 (aU y1)) (aI (fL x2) h5 (fD x2) 2 (aU y2)) (aI (fL x2) h5 (fD x2) 2 (aU y1)) (aI (fL x2) h5 (fD x2) 2 (aU y2)) (λx3=>aA (cD
 (fL x2) (cV y3) 114 3 x3) (dD (x3.length+1) 72) (eF x3/\fP (λa5 m7=>eX (fL x2) m7 (cV y3) a5 114 3 (eR x3 (E3 x2 a a4))->aA (aI m7 h5 (fD x2) 2 (aU y1)) (aI m7 h5 (fD x2) 2 (aU y2)) (k9 m7 y1 (λO=>j6 3 O) (λO=>O (jB x2)) (jB x2) (λk2 m8=>vR m7 m8 y1 (dO k2 (jB x2) (bV a5) []) (λx4=>aA (I1 x4) (m6 x4<m6 x1) (aA (aL vs) (aL ch) (aA dJ (eP 8) (aA kE (iF (tT x2) (gK x4.2)) (aA (cN (fD x2) x4.2.2.2.1) (aL r) (aA (aX r) (bD (gI (bC x2.1 1)) x4.1) (aA (bO sc) (lW sl) (aA (vO x2 x4) (m8=kO x4) (bP h5 (lD x4))))))))))) (λl v6 l1=>dO l (jB x2) v6 l1) (λl l1 m8=>vR m7 m8 y1 (dO l (jB x2) (bV a5) l1) (λx4=>aA (I1 x4) (m6 x4<m6 x1) (aA (aL
 vs) (aL ch) (aA dJ (eP 8) (aA kE (iF (tT x2) (gK x4.2)) (aA (cN (fD x2) x4.2.2.2.1) (aL r) (aA (aX r) (bD (gI (bC x2.1 1)) x4.1) (aA (bO sc) (lW sl) (aA (vO x2 x4) (m8=kO x4) (bP h5 (lD x4))))))))))))))))) (aA (aI (fL x2) h5 (fD x2) 2 (aU y1)) (aI (fL x2) h5 (fD x2) 2 (aU y2)) (aI (fL x2) h5 (fD x2) 2 (aU y1)/\pL (fL x2) y2 (λO=>j6 3 O) (λO=>O (jB x2)) (jB x2) (rK (aI (fL x2) h5 (fD x2) 2 (aU y1)) (aI (fL x2) h5 (fD x2) 2 (aU y2)) (λx3=>aA (cD (fL x2) n0 114 3 x3) (dD (x3.length+1) 72) (eF x3/\fP (λa5 m7=>eX (fL x2) m7 n0 a5 114 3 (eR x3 (E3 x2 a a4))->aA (aI m7 h5 (fD x2) 2 (aU y1)) (aI m7 h5 (fD x2) 2 (aU y2))
 (k9 m7 y1 (λO=>j6 3 O) (λO=>O (jB x2)) (jB x2) (λk2 m8=>vR m7 m8 y1 (dO k2 (jB x2) (bV a5) []) (λx4=>aA (I1 x4) (m6 x4<m6 x1) (aA (aL vs) (aL ch) (aA dJ (eP 8) (aA kE (iF (tT x2) (gK x4.2)) (aA (cN (fD x2) x4.2.2.2.1) (aL r) (aA (aX r) (bD (gI (bC x2.1 1)) x4.1) (aA (bO sc) (lW sl) (aA (vO x2 x4) (m8=kO x4) (bP h5 (lD x4))))))))))) (λl v6 l1=>dO l (jB x2) v6 l1) (λl l1 m8=>vR m7 m8 y1 (dO l (jB x2) (bV a5) l1) (λx4=>aA (I1 x4) (m6 x4<m6 x1) (aA (aL vs) (aL ch) (aA dJ (eP 8) (aA kE (iF (tT x2) (gK x4.2)) (aA (cN (fD x2) x4.2.2.2.1) (aL r) (aA (aX r) (bD (gI (bC x2.1 1)) x4.1) (aA (bO sc) (lW sl) (aA (vO x2 x4) (m8=kO x4)
 (bP h5 (lD x4)))))))))))))))) (λy3=>rK (aI (fL x2) h5 (fD x2) 2 (aU y1)) (aI (fL x2) h5 (fD x2) 2 (aU y2)) (λx3=>aA (cD (fL x2) (cV y3) 114 3 x3) (dD (x3.length+1) 72) (eF x3/\fP (λa5 m7=>eX (fL x2) m7 (cV y3) a5 114 3 (eR x3 (E3 x2 a a4))->aA (aI m7 h5 (fD x2) 2 (aU y1)) (aI m7 h5 (fD x2) 2 (aU y2)) (k9 m7 y1 (λO=>j6 3 O) (λO=>O (jB x2)) (jB x2) (λk2 m8=>vR m7 m8 y1 (dO k2 (jB x2) (bV a5) []) (λx4=>aA (I1 x4) (m6 x4<m6 x1) (aA (aL vs) (aL ch) (aA dJ (eP 8) (aA kE (iF (tT x2) (gK x4.2)) (aA (cN (fD x2) x4.2.2.2.1) (aL r) (aA (aX r) (bD (gI (bC x2.1 1)) x4.1) (aA (bO sc) (lW sl) (aA (vO x2 x4) (m8=kO x4) (bP h5 (lD
 x4))))))))))) (λl v6 l1=>dO l (jB x2) v6 l1) (λl l1 m8=>vR m7 m8 y1 (dO l (jB x2) (bV a5) l1) (λx4=>aA (I1 x4) (m6 x4<m6 x1) (aA (aL vs) (aL ch) (aA dJ (eP 8) (aA kE (iF (tT x2) (gK x4.2)) (aA (cN (fD x2) x4.2.2.2.1) (aL r) (aA (aX r) (bD (gI (bC x2.1 1)) x4.1) (aA (bO sc) (lW sl) (aA (vO x2 x4) (m8=kO x4) (bP h5 (lD x4))))))))))))))))))))))))))))))))))))))) (∃(I2:Nat×Nat×MH×PH->Prop)(m7:Nat×Nat×MH×PH->Nat),(HB (kO x1) (lD x1)->∃(x2:Nat×Nat×MH×PH),aA (I2 x2) (cN x1.2.2.2.1 x2.2.1) (aA (aL ch) (aX ch) (aA (bI x2.1) (Hq (kO x1) (lD x1) (cC x2.2) (cE x2.2)) True)))/\∀(x2:Nat×Nat×MH×PH),I2 x2->bE (↑x2.1:Int) (aH ch) (bK (λb3 o=>aA (bL ch.a b3 o) (0
 <=(↑x2.1:Int)) ((↑x2.1:Int)<aH ch/\∃(y:dH),aI (cC x2.2) (cE x2.2) b3 (o+aZ x2.1 3) (iA y)/\yO (λm8 b4=>∃(i:Int),yN (λv2 c2=>yP (λs6 w1 d=>aA (NP x2.2.1 0::aK (dY (↑x2.1:Int)) (fB (iA y))=NP b4 0::aK (dY i) (fB (iA v2))) (fG m8 (cC x2.2) (cE x2.2) b4 s6 w1 d) (aA (sD (cE x2.2) c2 v2) (jA c2.old) (aA (jA c2.new) (jJ (c2.old=[])->jJ (c2.new=[])->c2.old.length=c2.new.length) (d.length<=900000/\oS (λm9 h3=>dZ (cE x2.2) h3 (fG m8 m9 h3 b4 s6 w1 (d++Km s6 (w1 c2.tab) i c2)) (HB m9 h3->∃(x3:Nat×Nat×MH×PH),aA (I2 x3) (m7 x3<m7 x2) (aA (cN x2.2.1 x3.2.1) (aL ch) (aA (aX ch) (bD (gI (bC x2.1 1)) x3.1) (Hq m9 h3 (cC x3.2) (cE x3.2)/\True)))))))))))))) (gX (cC x2.2) (cE
 x2.2) x2.2.1 3 (λy=>pU K y (cC x2.2) (cE x2.2))))))))))))))))))))))
def Jn(sc:bN)(p r vs sl ch:Sl)(m:MH)(h:PH)(K:CV->MH->PH->Prop):Prop:=
  ∃(s:bN),fR (λp1 r1=>fR (λp2 s1=>∃(c:Sl),u0 (λs2 p3 r2=>∃(p4:List VV)(s3 s4:List (List (List VV)))(c1:List sC),aA (bJ sc::fJ (bV p) r::dG vs::aK (eU sl) (dG ch)=bJ s::fJ (bV p1) r1::dG p2::aK (eU s1) (dG c)) (dV h s2 s) (aA (jZ h p1 r1 p3 r2) (bB h p2 p4) (aA (vV h s1 s3) (oJ h c c1) (aA (gG m) (qQ s2 p3 r2 p4 s3 s4 c1) (gT (λx h1=>dZ h h1 (yG h1 x (pG s2 (kJ s2 p4 s3 s4 c1 r2) c1 0)) (branch (decide (aH x>0)) (K (dY 170) m h1) (K (dY 0) m h1))))))))))
structure kI(m:MH)(y:Nat)(f:Int->Option Value):Prop where
 ex:∃kvs:List (Int×Value),jF m y (kvs.map λp=>(Value.int .i64 p.1,p.2))/\(kvs.map Prod.fst).Nodup/\∀t u,(t,u)∈kvs↔f t=some u
def Ts(f:Int->Option Value)(t:Int)(u:Value):Int->Option Value:=λx=>if x=t then some u else f x
theorem kI.new{y:Nat}(up:eW m m' y (.map #[] 0)):kI m' y λ_=>none:=⟨[],⟨#[],0,up.at_,rfl,by simp,by simp⟩,by simp,by simp⟩
theorem kI.keep{y:Nat}{f:Int->Option Value}(x:kI m y f)(e:m' y=m y):kI m' y f:=by
 obtain⟨kvs,⟨es,c,h1,h2⟩,h3⟩:=x.ex;exact⟨kvs,⟨es,c,by rw[e];exact h1,h2⟩,h3⟩
theorem kI.obj{y:Nat}{f:Int->Option Value}(x:kI m y f):∃es c,m y=some (.map es c):=by
 obtain⟨kvs,⟨es,c,h1,_⟩,_⟩:=x.ex;exact⟨es,c,h1⟩
theorem kI.congr{y:Nat}{f g:Int->Option Value}(x:kI m y f)(h:∀t,f t=g t):kI m y g:=by rwa [<-show f=g from funext h]
theorem kI.put{m:MH}{y:Nat}{f:Int->Option Value}{t:Int}{u:Value}{Q:MH->Prop}(x:kI m y f)(hQ:∀m',fK m m' y->kI m' y (Ts f t u)->Q m'):
 ∃(kvs:List (Value×Value))(Ok:Value->Prop),jF m y kvs/\KeyLaw Tryz.prog 3 Ok/\Ok (.int .i64 t)/\Instr.sameBits 10000 (Value.int .i64 t) (Value.int .i64 t)=true/\(∀e,List.Mem e kvs->Ok e.1)/\
  ((∀e,List.Mem e kvs->e.1=Value.int .i64 t->False)->∀m':MH,fK m m' y->jF m' y (kvs++[(Value.int .i64 t,u)])->Q m')/\∀(l1:List (Value×Value))(v0:Value)(l2:List (Value×Value)),kvs=l1++(Value.int .i64 t,v0)::l2->∀m':MH,fK m m' y->jF m' y (l1++(Value.int .i64 t,u)::l2)->Q m':=by
 obtain⟨kvs,h1,h2,h3⟩:=x.ex;refine⟨_,_,h1,Qt,⟨t,rfl⟩,by simp[Instr.sameBits],λe he=>?_,λhn m' hs hm=>hQ m' hs ⟨kvs++[(t,u)],by rw[List.map_append];exact hm,?_,λt' u'=>?_⟩,λl1 v0 l2 e m' hs hm=>?_⟩
 .obtain⟨k,_,rfl⟩:=List.mem_map.1 (show e∈_ from he);exact⟨k.1,rfl⟩
 .rw[List.map_append,List.nodup_append];refine⟨h2,by simp,λa ha b hb e=>?_⟩;simp at hb;subst hb;subst e;obtain⟨p,hp,e2⟩:=List.mem_map.1 ha;exact hn (Value.int .i64 p.1,p.2) (List.mem_map_of_mem (f:=λp:Int×Value=>(Value.int .i64 p.1,p.2)) hp) (by rw[e2])
 .have hf:f t=none:=by
   cases e:f t with
   |none=>rfl
   |some w=>exact(hn (Value.int .i64 t,w) (List.mem_map_of_mem (f:=λp:Int×Value=>(Value.int .i64 p.1,p.2)) ((h3 t w).2 e)) rfl).elim
  rw[List.mem_append,List.mem_singleton,Prod.mk.injEq,h3,Ts];by_cases e:t'=t
  .subst e;rw[if_pos rfl,hf];simp[eq_comm]
  .rw[if_neg e];simp[e]
 .obtain⟨a1,b1,e1,e2,e3⟩:=List.map_eq_append_iff.1 e;obtain⟨p,c1,e4,e5,e6⟩:=List.map_eq_cons_iff.1 e3;subst e1 e4 e2 e6;simp only[Prod.mk.injEq,Value.int.injEq,true_and]at e5;obtain⟨e5,e7⟩:=e5;obtain⟨pt,pv⟩:=p;dsimp only at e5 e7;subst e5 e7;rw[List.map_append,List.map_cons,List.nodup_append,List.nodup_cons]at h2;obtain⟨n1,⟨n2,n3⟩,n4⟩:=h2;refine hQ m' hs ⟨a1++(pt,u)::c1,by rw[List.map_append,List.map_cons];exact hm,?_,λt' u'=>?_⟩
  .rw[List.map_append,List.map_cons,List.nodup_append,List.nodup_cons];exact⟨n1,⟨n2,n3⟩,n4⟩
  .have h3:=h3 t' u';rw[List.mem_append,List.mem_cons,Prod.mk.injEq]at h3⊢
   rw[Ts];by_cases e:t'=pt
   .subst e;rw[if_pos rfl];have q1:(t',u')∉a1:=λhh=>n4 t' (List.mem_map.2 ⟨_,hh,rfl⟩) t' (List.mem_cons_self ..) rfl;have q2:(t',u')∉c1:=λhh=>n2 (List.mem_map.2 ⟨_,hh,rfl⟩);simp[q1,q2,eq_comm]
   .rw[if_neg e, <-h3];simp[e]
theorem kI.get{α:Type}{y:Nat}{f:Int->Option α}{enc:α->Value}{t:Int}{P0:Prop}{P:α->Prop}(x:kI m y λt=>(f t).map enc)(hi:∀a b,enc a=enc b->a=b)(h0:f t=none->P0)(h1:∀u,f t=some u->P u):
 ∃(kvs:List (Value×α))(Ok:Value->Prop),nU m y (kvs.map λp=>(p.1,enc p.2))/\KeyLaw Tryz.prog 3 Ok/\Ok (.int .i64 t)/\(∀e,List.Mem e kvs->Ok e.1)/\((∀e,List.Mem e kvs->e.1=Value.int .i64 t->False)->P0)/\∀u,List.Mem (Value.int .i64 t,u) kvs->P u:=by
 obtain⟨kvs,⟨es,c,k1,k2,_⟩,h2,h3⟩:=x.ex
 have hl:∃l:List (Int×α),kvs=l.map λp=>(p.1,enc p.2):=by
  have:∀l':List (Int×Value),(∀p∈l',p∈kvs)->∃l:List (Int×α),l'=l.map λp=>(p.1,enc p.2):=by
   intro l'
   induction l' with
   |nil=>exactλ_=>⟨[],rfl⟩
   |cons p l' ih=>
    intro hs;obtain⟨l,hl⟩:=ih λq hq=>hs q (List.mem_cons_of_mem _ hq);have:=(h3 p.1 p.2).1 (hs p (List.mem_cons_self ..));obtain⟨a,e1,e2⟩:=Option.map_eq_some_iff.1 this;exact⟨(p.1,a)::l,by rw[List.map_cons, <-hl,e2]⟩
  exact this kvs λ_ h=>h
 obtain⟨l,rfl⟩:=hl
 have hmem:∀t u,(t,u)∈l↔f t=some u:=λt u=>by
  have:=h3 t (enc u);constructor
  .intro hm;have h5:=this.1 (List.mem_map.2 ⟨_,hm,rfl⟩);obtain⟨a,e1,e2⟩:=Option.map_eq_some_iff.1 h5;rw[e1,hi _ _ e2]
  .intro hm;obtain⟨p,hp,e⟩:=List.mem_map.1 (this.2 (by rw[hm];rfl));simp only[Prod.mk.injEq]at e;obtain⟨e1,e2⟩:=e;rw[<-e1, <-hi _ _ e2];exact hp
 refine⟨l.map λp=>(Value.int .i64 p.1,p.2),_,⟨es,c,k1,by rw[k2,List.map_map,List.map_map];rfl⟩,Qt,⟨t,rfl⟩,λe he=>?_,λhn=>h0 ?_,λu hu=>h1 u ?_⟩
 .obtain⟨k,_,rfl⟩:=List.mem_map.1 (show e∈_ from he);exact⟨k.1,rfl⟩
 .cases e:f t with
  |none=>rfl
  |some w=>exact(hn (Value.int .i64 t,w) (List.mem_map_of_mem (f:=λp:Int×α=>(Value.int .i64 p.1,p.2)) ((hmem t w).2 e)) rfl).elim
 .obtain⟨p,hp,e⟩:=List.mem_map.1 (show(Value.int .i64 t,u)∈_ from hu);simp only[Prod.mk.injEq,Value.int.injEq,true_and]at e;obtain⟨e1,e2⟩:=e;rw[<-e1, <-e2];exact(hmem _ _).1 hp
theorem kI.list{α:Type}{y:Nat}{f:Int->Option α}{enc:α->Value}(x:kI m y λt=>(f t).map enc)(hi:∀a b,enc a=enc b->a=b):∃l:List (Int×α),nU m y (l.map λp=>(Value.int .i64 p.1,enc p.2))/\∀t u,(t,u)∈l↔f t=some u:=by
 obtain⟨kvs,⟨es,c,k1,k2,_⟩,h2,h3⟩:=x.ex
 have hl:∃l:List (Int×α),kvs=l.map λp=>(p.1,enc p.2):=by
  have:∀l':List (Int×Value),(∀p∈l',p∈kvs)->∃l:List (Int×α),l'=l.map λp=>(p.1,enc p.2):=by
   intro l'
   induction l' with
   |nil=>exactλ_=>⟨[],rfl⟩
   |cons p l' ih=>
    intro hs;obtain⟨l,hl⟩:=ih λq hq=>hs q (List.mem_cons_of_mem _ hq);have:=(h3 p.1 p.2).1 (hs p (List.mem_cons_self ..));obtain⟨a,e1,e2⟩:=Option.map_eq_some_iff.1 this;exact⟨(p.1,a)::l,by rw[List.map_cons, <-hl,e2]⟩
  exact this kvs λ_ h=>h
 obtain⟨l,rfl⟩:=hl;refine⟨l,⟨es,c,k1,by rw[k2,List.map_map];rfl⟩,λt u=>?_⟩;have:=h3 t (enc u);constructor
 .intro hm;have h5:=this.1 (List.mem_map.2 ⟨_,hm,rfl⟩);obtain⟨a,e1,e2⟩:=Option.map_eq_some_iff.1 h5;rw[e1,hi _ _ e2]
 .intro hm;obtain⟨p,hp,e⟩:=List.mem_map.1 (this.2 (by rw[hm];rfl));simp only[Prod.mk.injEq]at e;obtain⟨e1,e2⟩:=e;rw[<-e1, <-hi _ _ e2];exact hp
theorem FQ:∀a b:Sl,Sl.val a=Sl.val b->a=b:=λ⟨a1,a2,a3⟩⟨b1,b2,b3⟩ e=>by
 simp only[Sl.val,Value.slice.injEq]at e;obtain⟨rfl,rfl,rfl⟩:=e;rfl
structure Bc(mJ m:MH)(h:PH)(y:Nat)(g:Int->Option Sl)(W:Int->List Wr):Prop where
 map:kI m y λt=>(g t).map Sl.val
 rows:∀t u,g t=some u->∃wvs:List GN,zT mJ m u 114 3 (wvs.map GN.enc)/\(W t).length=wvs.length/\∀(i:Nat) x,(W t)[i]? =some x->∃v,wvs[i]? =some v/\Hz h x v
 none_:∀t,g t=none->W t=[]
 apart:∀t t' u u',t≠t'->g t=some u->g t'=some u'->∀x i j,u.a=some ⟨x,i,none⟩->u'.a≠some ⟨x,j,none⟩
 key:∀x,mJ x≠none->m x≠none
 old:∀x o,x≠y->mJ x=some o->m x=some o
 mY:∃es c,mJ y=some (.map es c)
theorem Bc.mono{mJ:MH}{y:Nat}{g:Int->Option Sl}{W:Int->List Wr}(x:Bc mJ m h y g W)(le:PH.le h h'):Bc mJ m h' y g W:=
 {x with rows:=λt u e=>by obtain⟨wvs,h1,h2,h3⟩:=x.rows t u e;exact⟨wvs,h1,h2,λi z e=>by obtain⟨v,q1,q2⟩:=h3 i z e;exact⟨v,q1,q2.mono le⟩⟩}
theorem Bc.push{mJ:MH}{y:Nat}{g:Int->Option Sl}{W W':Int->List Wr}{t:Int}{u:Sl}{w:Wr}{nw:GN}{cs:Array Value}{Q:MH->Prop}(x:Bc mJ m h y g W)(hu:g t=some u\/(g t=none/\u=⟨none,0,0⟩))(hw:Hz h w nw)(hl:∀t,(W t).length<=100000)(hW:∀t',W' t'=if t'=t then W t++[w]else W t')
 (hb:mJ b=some (.cells cs 111 (0,0)))(hrd:(cs.toList.drop 2).take 1=[Value.map (some y)])(hQ:∀m2 g2,Bc mJ m2 h y g2 W'->Q m2):
 ∃xs:List (List Value),cD m u 114 3 xs/\(xs.length+1)*72<=140737488355328/\xs.length<140737488355328/\∀(s':Sl)(m':MH),eX m m' u s' 114 3 (xs++[nw.enc])->aI m' h b 2 [Value.map (some y)]/\aI m' h b 2 [Value.map (some y)]/\
  ∃(kvs:List (Value×Value))(Ok:Value->Prop),jF m' y kvs/\KeyLaw Tryz.prog 3 Ok/\Ok (.int .i64 t)/\Instr.sameBits 10000 (Value.int .i64 t) (Value.int .i64 t)=true/\(∀e,List.Mem e kvs->Ok e.1)/\
  ((∀e,List.Mem e kvs->e.1=Value.int .i64 t->False)->∀m2:MH,fK m' m2 y->jF m2 y (kvs++[(Value.int .i64 t,Sl.val s')])->Q m2)/\∀(l1:List (Value×Value))(v0:Value)(l2:List (Value×Value)),kvs=l1++(Value.int .i64 t,v0)::l2->∀m2:MH,fK m' m2 y->jF m2 y (l1++(Value.int .i64 t,Sl.val s')::l2)->Q m2:=by
 obtain⟨wvs,fu,e1,e2⟩:∃wvs:List GN,zT mJ m u 114 3 (wvs.map GN.enc)/\(W t).length=wvs.length/\∀(i:Nat) x,(W t)[i]? =some x->∃v,wvs[i]? =some v/\Hz h x v:=by
  rcases hu with e|⟨e,rfl⟩
  .exact x.rows t u e
  .exact⟨[],zT.nil mJ m 114 3,by rw[x.none_ t e];rfl,λi z e3=>by rw[x.none_ t e]at e3;simp at e3⟩
 have hap:∀t' u',t'≠t->g t'=some u'->∀a i j,u'.a=some ⟨a,i,none⟩->u.a≠some ⟨a,j,none⟩:=λt' u' hne e a i j ea=>by
  rcases hu with e3|⟨_,rfl⟩
  .exact x.apart t' t u' u hne e e3 a i j ea
  .intro e4;cases e4
 have hlen:=hl t
 have yb:b≠y:=λe=>by
  obtain⟨es,c,hy⟩:=x.mY;rw[<-e,hb]at hy;cases hy
 have mY:mJ y≠none:=by
  obtain⟨es,c,hy⟩:=x.mY;rw[hy];simp
 have hmb:=x.old b _ yb hb;refine⟨wvs.map GN.enc,fu.row,by rw[List.length_map];omega,by rw[List.length_map];omega,λs' m' gr=>?_⟩;have nu:∀a o,mJ a≠none->m a=some o->m' a=some o:=λa o ha e=>gr.other a o e λi e3=>ha (fu.fresh a i e3);have hb':m' b=some (.cells cs 111 (0,0)):=nu b _ (by rw[hb];simp) hmb;obtain⟨es,c,hy⟩:=x.map.obj;have hy':m' y=m y:=by rw[hy];exact nu y _ mY hy
 have frs:∀a i,s'.a=some ⟨a,i,none⟩->mJ a=none:=λa i e=>by
  rcases gr.fresh a i e with k|⟨j,k⟩
  .cases e3:mJ a with
   |none=>rfl
   |some o=>exact absurd k (x.key a (by rw[e3];simp))
  .exact fu.fresh a j k
 refine⟨.of_m hb' hrd,.of_m hb' hrd,kI.put (x.map.keep hy') λm2 hs hm=>hQ m2 (λt'=>if t'=t then some s' else g t') ?_⟩;have keep2:∀a,mJ a=none->m2 a=m' a:=λa ha=>hs.other a λe=>mY (e▸ha);refine⟨hm.congr λt'=>?_,λt' u' e=>?_,λt' e=>?_,λt1 t2 u1 u2 hne e3 e4 a i j ea=>?_,λa ha=>?_,λa o ha e=>?_,x.mY⟩
 .unfold Ts;by_cases e:t'=t
  .rw[if_pos e,if_pos e];rfl
  .rw[if_neg e,if_neg e]
 .rw[hW];by_cases e3:t'=t
  .rw[if_pos e3]at e⊢
   cases e;refine⟨wvs++[nw],⟨cD.keep (by rw[List.map_append];exact gr.row) λa i e4=>keep2 a (frs a i e4),frs⟩,by simp[e1],λi z e4=>?_⟩;rw[List.getElem?_append]at e4⊢
   rw[e1]at e4;split at e4
   .rename_i hi;rw[if_pos hi];exact e2 i z e4
   .rename_i hi;rw[if_neg hi];cases e5:i-wvs.length with
    |zero=>rw[e5]at e4;simp at e4;subst e4;exact⟨nw,rfl,hw⟩
    |succ n=>rw[e5]at e4;simp at e4
  .rw[if_neg e3]at e⊢
   obtain⟨wv2,f2,q1,q2⟩:=x.rows t' u' e;refine⟨wv2,⟨cD.keep f2.row λa i e4=>?_,f2.fresh⟩,q1,q2⟩;rw[keep2 a (f2.fresh a i e4)];obtain⟨cur,e5⟩:=cD.blk f2.row e4;rw[e5];exact gr.other a _ e5 λj=>hap t' u' e3 e a i j e4
 .rw[hW];by_cases e3:t'=t
  .rw[if_pos e3]at e;cases e
  .rw[if_neg e3]at e⊢
   exact x.none_ t' e
 .by_cases h1:t1=t
  .rw[if_pos h1]at e3;cases e3;have h2:t2≠t:=λe=>hne (h1.trans e.symm);rw[if_neg h2]at e4;intro e5;obtain⟨wv2,f2,_⟩:=x.rows t2 u2 e4;rcases gr.fresh a i ea with k|⟨i2,k⟩
   .obtain⟨cur,e6⟩:=cD.blk f2.row e5;rw[k]at e6;cases e6
   .exact hap t2 u2 h2 e4 a j i2 e5 k
  .rw[if_neg h1]at e3;by_cases h2:t2=t
   .rw[if_pos h2]at e4;cases e4;intro e5;obtain⟨wv2,f2,_⟩:=x.rows t1 u1 e3;rcases gr.fresh a j e5 with k|⟨i2,k⟩
    .obtain⟨cur,e6⟩:=cD.blk f2.row ea;rw[k]at e6;cases e6
    .exact hap t1 u1 h1 e3 a i i2 ea k
   .rw[if_neg h2]at e4;exact x.apart t1 t2 u1 u2 hne e3 e4 a i j ea
 .by_cases e:a=y
  .subst e;obtain⟨es2,c2,e2⟩:=hm.obj;rw[e2];simp
  .rw[hs.other a e];cases e3:m a with
   |none=>exact absurd e3 (x.key a ha)
   |some o=>rw[nu a o ha e3];simp
 .rw[hs.other a ha];exact nu a o (by rw[e];simp) (x.old a o ha e)
theorem Bc.judge{m0 mJ:MH}{y:Nat}{g:Int->Option Sl}{W:Int->List Wr}(x:Bc mJ m h y g W)(sub:Sub m0 mJ)(hb0:m0 b=none)(hy0:m0 y=none)(hb:mJ b=some (.cells ⟨bN.enc sc++[.map (some y),Sl.val eC]⟩ 111 (0,0)))(hs:dV h s sc)(d:HB m h)(hl:∀t,(W t).length<=100000):fG m0 (BL mJ m) (DQ mJ m h) b s W []:=by
 have hk:∀b,mJ b≠none->BL mJ m b=m b:=λb hb=>by
  unfold BL;cases e:mJ b with
  |none=>exact absurd e hb
  |some o=>rfl
 have le1:=DP (m0:=mJ) d;obtain⟨es,c,hy⟩:=x.mY;have yb:b≠y:=λe=>by rw[<-e,hb]at hy;cases hy
 have hby:=x.old b _ yb hb;obtain⟨l,h1,h2⟩:=kI.list (x.map.keep (hk y (by rw[hy];simp))) FQ;refine⟨λa o e=>?_,hb0,sc,y,eC,l,[],by rw[hk b (by rw[hb];simp)];exact hby,hs.mono le1,h1,λt u e=>?_,λt e=>x.none_ t ?_,zT.nil m0 _ 77 5,rfl,λi z e=>by simp at e⟩
 .have e1:=sub a o e;rw[hk a (by rw[e1];simp)];exact x.old a o (λe2=>by rw[e2,hy0]at e;cases e) e1
 .obtain⟨wvs,f,q1,q2⟩:=x.rows t u ((h2 t u).1 e);have:=hl t;exact⟨⟨wvs,zT.ice f,q1,λi z e=>by obtain⟨v,k1,k2⟩:=q2 i z e;exact⟨v,k1,k2.mono le1⟩⟩,aC⟩
 .cases e3:g t with
  |none=>rfl
  |some u=>exact absurd ((h2 t u).2 e3) (e u)
theorem Tq{s:jR}{ps:List VV}{st st2:List (List (List VV))}{cs:List sC}{rs:List vW}{i:Nat}{r:vW}(hr:rs[i]? =some r)(t:Int):kJ s ps st st2 cs (rs.take (i+1)) t=kJ s ps st st2 cs (rs.take i) t++(if(r.kind==2&&jG cs r.table&&r.table==t)=true then[⟨r.cols,(gV s st (dW ps r.query)).1,(gV s st2 (dW ps r.query)).1⟩]else[]):=by
 unfold kJ;rw[List.take_add_one,hr,List.filter_append,List.map_append];congr 1;simp only[Option.toList_some,List.filter_cons,List.filter_nil];split<;>simp
theorem NU{s:jR}{ps:List VV}{st st2:List (List (List VV))}{cs:List sC}{rs:List vW}(t:Int):(kJ s ps st st2 cs rs t).length<=rs.length:=by
 unfold kJ;rw[List.length_map];exact List.length_filter_le _ _
theorem MA{cs:List sC}{c:sC}(hc:cs[i]? =some c)(t:Int):jG (cs.take (i+1)) t=(jG (cs.take i) t||c.tab==t):=by
 unfold jG;rw[List.take_add_one,hc,List.any_append];simp
theorem JM{s:jR}{wr:Int->List Wr}:∀{cs:List sC}{i:Nat},(∀c∈cs,c.old.length<=1000)->(pG s wr cs i).length<=cs.length*2001
 |[],i,_=>by simp[pG]
 |c::cs,i,h=>by
  have h1:=JM (wr:=wr) (s:=s) (cs:=cs) (i:=i+1) λx hx=>h x (List.mem_cons_of_mem _ hx);have h2:=h c (List.mem_cons_self ..)
  have h3:(Km s (wr c.tab) i c).length<=2001:=by
   unfold Km;split
   .split<;>simp
   split
   .split<;>simp
   .have:=F9 (D:=λj:Nat=>if P6 (c.old.getD j zeroV) (c.new.getD j zeroV)=true then[]else([false,true].filter λa=> !gW (wr c.tab) (qR s c) a j).map λa=>(⟨i,a,c.tab,qR s c,j⟩:Den)) (λk=>by
     split
     .simp
     .rw[List.length_map];exact List.length_filter_le _ _) c.old.length
    omega
  rw[pG,List.length_append,List.length_cons];omega
theorem L5{s:jR}{wr:Int->List Wr}:∀{cs:List sC}{i k:Nat}{c:sC},cs[k]? =some c->pG s wr (cs.take (k+1)) i=pG s wr (cs.take k) i++Km s (wr c.tab) ((i+k:Nat):Int) c
 |[],i,k,c,h=>by simp at h
 |a::cs,i,0,c,h=>by simp at h;subst h;simp[pG]
 |a::cs,i,k+1,c,h=>by
  rw[List.take_succ_cons,List.take_succ_cons,pG,pG,L5 (cs:=cs) (i:=i+1) (k:=k) (by simpa using h),List.append_assoc,show i+1+k=i+(k+1)by omega]
theorem ZG{p vs sl ch:Sl}{pk:List Int}{rs:List vW}{ps:List VV}{st st2:List (List (List VV))}{cs:List sC}(hs:dV h s sc)(hp:jZ h p r pk rs)(hv:bB h vs ps)(hst:vV h sl st)(hc:oJ h ch cs)(hT:gG m)(ok:qQ s pk rs ps st st2 cs)
 (hK:∀x h',PH.le h h'->yG h' x (pG s (kJ s ps st st2 cs rs) cs 0)->K (.tup [cS x,cI 0]) m h'):JA sc p r vs sl ch m h (cH h K):=by
 dsimp only[JA,push_cast];have hcl:=aR.slen hc;have hrl:=hp.rules.slen;have few:=ok.few;refine⟨sc,p,r,s,pk,rs,rfl,hs,hp,λh1 le1=>aB (λe=>by rw[ok.pol]at e;cases e) (λ_=>⟨p,vs,pk,ps,rfl,hp.params.mono le1,hv.mono le1,aB (λe=>by rw[ok.par]at e;cases e) (λ_=>⟨sc,1,sl,ch,s,st,cs,rfl,hs.mono le1,(hst.mono le1).lea,aR.mono hc le1 (λ_ _ x=>x.mono le1),by decide,by decide,hst.len,λw h2 le2 hw=>aB (λe=>by rw[ok.app]at e;cases e) (λ_=>λy1 m1 n1 up1=>?_)⟩)⟩)⟩;rw[ok.app]at hw;have L2:=le1.trans le2;have hc2:oJ h2 ch cs:=aR.mono hc L2 λ_ _ x=>x.mono L2;have sub1:Sub m m1:=λa o e=>by rw[up1.other a λe2=>by rw[e2,n1.m_]at e;cases e];exact e
 refine⟨λz=>w=z.2.1/\y1=z.2.2.1/\h2=z.2.2.2.2/\z.1<=cs.length/\Sub m z.2.2.2.1/\kI z.2.2.2.1 y1 λt=>(if jG (cs.take z.1) t=true then some true else none).map Value.bool,λz=>cs.length-z.1,⟨(0,w,y1,m1,h2),⟨rfl,rfl,rfl,Nat.zero_le _,sub1,(kI.new up1).congr λt=>by simp[jG]⟩,MT⟩,?_⟩;rintro⟨i,_,_,mz,_⟩ ⟨rfl,rfl,rfl,hi,sub,hM⟩;dsimp only at hi sub hM⊢
 refine aE (λhlt=>?_) (λhge=>?_)
 .obtain⟨c,hx⟩:=fS hcl hlt;obtain⟨b,o,v,ea,rd,hcv⟩:=aR.at hc2 hx;refine⟨b,o,ea,aC,hlt,v,.imm rd,kI.put (Q:=λm'=>∃x_1:Nat×Sl×Nat×MH×PH,_) hM λm' hs' hm'=>⟨(i+1,w,y1,m',h2),⟨rfl,rfl,rfl,by show i+1<=cs.length;omega,λa o e=>?_,hm'.congr λt=>?_⟩,by show cs.length-(i+1)<cs.length-i;omega,MT⟩⟩
  .show m' a=some o;rw[hs'.other a λe2=>by rw[e2,n1.m_]at e;cases e];exact sub a o e
  .show Ts _ _ _ t=(if jG (cs.take (i+1)) t=true then some true else none).map Value.bool;rw[MA hx,Ts,hcv.tab_];by_cases e:t=c.tab
   .rw[if_pos e,e,beq_self_eq_true,Bool.or_true];rfl
   .rw[if_neg e,show(c.tab==t)=false from beq_eq_false_iff_ne.2 λe2=>e e2.symm,Bool.or_false]
 have hic:i=cs.length:=by omega
 subst hic;rw[List.take_length]at hM;intro y2 m2 n2 up2 b m3 n3 up3;refine⟨_,111,⟨up3.at_⟩,by simp,λmJ upJ=>?_⟩;have hbJ:mJ b=some (.cells ⟨bN.enc sc++[.map (some y2),Sl.val eC]⟩ 111 (0,0)):=upJ.at_;have y2b:y2≠b:=λe=>by have:=n3.m_;rw[<-e,up2.at_]at this;cases this
 have hyJ:mJ y2=some (.map #[] 0):=by rw[upJ.other y2 y2b,up3.other y2 y2b];exact up2.at_
 have oldJ:Sub mz mJ:=λa o e=>by
  have ha:a≠y2:=λe2=>by rw[e2,n2.m_]at e;cases e
  have e3:m2 a=some o:=by rw[up2.other a ha];exact e
  have hb:a≠b:=λe2=>by rw[e2,n3.m_]at e3;cases e3
  rw[upJ.other a hb,up3.other a hb];exact e3
 have subJ:Sub m mJ:=sub.trans oldJ;have hy0:m y2=none:=sub.free n2.m_
 have hb0:m b=none:=by
  cases e:m b with
  |none=>rfl
  |some o=>
   have e1:=sub b o e;have:m2 b=some o:=by rw[up2.other b λe2=>by rw[e2,n2.m_]at e1;cases e1];exact e1
   rw[n3.m_]at this;cases this
 obtain⟨es1,c1,hy1⟩:=hM.obj;have y12:y1≠y2:=λe=>by rw[e,n2.m_]at hy1;cases hy1
 have hMJ:kI mJ y1 λt=>(if jG cs t=true then some true else none).map Value.bool:=hM.keep (by rw[hy1,oldJ y1 _ hy1]);have hwl:∀i t,(kJ s ps st st2 cs (rs.take i) t).length<=100000:=λi t=>by have:=NU (s:=s) (ps:=ps) (st:=st) (st2:=st2) (cs:=cs) (rs:=rs.take i) t;rw[List.length_take]at this;omega
 refine⟨λz=>w=z.2.1/\y1=z.2.2.1/\b=z.2.2.2.1/\PH.le h2 z.2.2.2.2.2/\z.1<=rs.length/\∃g,Bc mJ z.2.2.2.2.1 z.2.2.2.2.2 y2 g (kJ s ps st st2 cs (rs.take z.1)),λz=>rs.length-z.1,⟨(0,w,y1,b,mJ,h2),⟨rfl,rfl,rfl,.refl _,Nat.zero_le _,λ_=>none,⟨(kI.new ⟨hyJ,λ_ _=>rfl⟩).congr λt=>rfl,λt u e=>(by cases e),λt _=>rfl,λt t' u u' _ e=>(by cases e),λ_ e=>e,λ_ _ _ e=>e,_,_,hyJ⟩⟩,MT⟩,?_⟩;clear hi sub hM up1 n1 sub1 hge;rintro⟨i,_,_,_,mz2,hz⟩ ⟨rfl,rfl,rfl,le,hi,g,W⟩;dsimp only at le hi W⊢
 refine aE (λhlt=>?_) (λhge=>?_)
 .obtain⟨x,hx⟩:=fS hrl hlt;obtain⟨b1,o1,v,ea,rd,hxv⟩:=aR.at hp.rules hx;have hx2:=hxv.mono (L2.trans le);have snoc:=Tq (s:=s) (ps:=ps) (st:=st) (st2:=st2) (cs:=cs) hx
  have hM1:kI mz2 y1 λt=>(if jG cs t=true then some true else none).map Value.bool:=hMJ.keep (by
   obtain⟨es,c,e⟩:=hMJ.obj;rw[e,W.old y1 _ y12 e])
  have skip:¬(x.kind=2/\jG cs x.table=true)->kJ s ps st st2 cs (rs.take (i+1))=kJ s ps st st2 cs (rs.take i):=λhn=>funext λt=>by
   rw[snoc,if_neg,List.append_nil];intro e;simp only[Bool.and_eq_true,beq_iff_eq]at e;exact hn e.1
  have nx:¬(x.kind=2/\jG cs x.table=true)->(w=w/\y1=y1/\b=b/\PH.le h2 hz/\i+1<=rs.length/\∃g,Bc mJ mz2 hz y2 g (kJ s ps st st2 cs (rs.take (i+1)))):=λhn=>⟨rfl,rfl,rfl,le,aC,g,by rw[skip hn];exact W⟩
  have subZ:Sub m mz2:=λa o e=>W.old a o (λe2=>by rw[e2,hy0]at e;cases e) (subJ a o e);refine⟨b1,o1,ea,aC,hlt,v,.imm (rd.mono (L2.trans le)),λz=>z=(i,w,y1,b,v,mz2,hz)/\x.kind=2/\jG cs x.table=true,aB (λa1=>⟨(i+1,w,y1,b,mz2,hz),nx ?_,by show rs.length-(i+1)<rs.length-i;omega,MT⟩) (λa1=>kI.get hM1 (λa b e=>by injection e) (λe=>⟨(i+1,w,y1,b,mz2,hz),nx ?_,by show rs.length-(i+1)<rs.length-i;omega,MT⟩) (λq e=>aB (λa2=>⟨(i+1,w,y1,b,mz2,hz),nx ?_,by show rs.length-(i+1)<rs.length-i;omega,MT⟩) (λa2=>⟨(i,w,y1,b,v,mz2,hz),⟨rfl,?_,?_⟩,MT⟩))),?_⟩
  .simp only[bne_iff_ne,hxv.kind_]at a1;exactλe=>a1 e.1
  .rw[hxv.table_]at e;intro e2;rw[if_pos e2.2]at e;cases e
  .rw[hxv.table_]at e;split at e
   .cases e;cases a2
   .cases e
  .simp only[bne_eq_false_iff_eq,hxv.kind_]at a1;exact a1
  .rw[hxv.table_]at e;split at e
   .assumption
   .cases e
  rintro _ ⟨rfl,hk2,htt⟩;dsimp only;obtain⟨q1a,q1b,q1c,q1d⟩:=ok.q1 x (List.mem_of_getElem? hx) hk2;obtain⟨q2a,q2b,q2c,q2d⟩:=ok.q2 x (List.mem_of_getElem? hx) hk2;have hT2:gG mz2:=hT.sub subZ;have la:=L2.trans le;refine⟨v.query,vs,x.query,ps,rfl,hx2.query_,hv.mono la,λv' h3 le3 hq=>⟨sc,s,sl,st,v',_,rfl,hs.mono (la.trans le3),hst.mono (la.trans le3),hq,hT2,λ_ _=>q1d,λs1 h4 le4 hr1=>aB (λe=>by rw[q1a]at e;cases e) (λ_=>⟨sc,s,w,st2,v',_,rfl,hs.mono (la.trans (le3.trans le4)),⟨aR.mono hw (le.trans (le3.trans le4)) λ_ _ x=>x.mono (le.trans (le3.trans le4)),ok.n2,ok.v2⟩,hq.mono le4,hT2,λ_ _=>q2d,λs2 h5 le5 hr2=>aB (λe=>by rw[q2a]at e;cases e) (λ_=>?_)⟩)⟩⟩;have lb:=le3.trans (le4.trans le5);have hbz:mz2 b=some (.cells ⟨bN.enc sc++[.map (some y2),Sl.val eC]⟩ 111 (0,0)):=W.old b _ (λe=>y2b e.symm) hbJ;have rdb:aI mz2 h5 b 2 [Value.map (some y2)]:=.of_m hbz rfl;have W5:=W.mono lb;have hrw:Hz h5 ⟨x.cols,(gV s st (dW ps x.query)).1,(gV s st2 (dW ps x.query)).1⟩ ⟨v.columns,s1,s2⟩:=⟨hx2.cols_.mono lb,hr1.mono le5,hr2,q1b,q2b,q1c,q2c⟩
  have hWt:∀t',kJ s ps st st2 cs (rs.take (i+1)) t'=if t'=v.table then kJ s ps st st2 cs (rs.take i) v.table++[⟨x.cols,(gV s st (dW ps x.query)).1,(gV s st2 (dW ps x.query)).1⟩]else kJ s ps st st2 cs (rs.take i) t':=λt'=>by
   rw[snoc,hk2,htt,hxv.table_];by_cases e:t'=x.table
   .rw[if_pos e,e,if_pos (by simp)]
   .rw[if_neg e,if_neg,List.append_nil];simp only[Bool.and_eq_true,beq_iff_eq]
    exactλe2=>e e2.2.symm
  have fin:∀m5 g2,Bc mJ m5 h5 y2 g2 (kJ s ps st st2 cs (rs.take (i+1)))->(w=w/\y1=y1/\b=b/\PH.le h2 h5/\i+1<=rs.length/\∃g,Bc mJ m5 h5 y2 g (kJ s ps st st2 cs (rs.take (i+1)))):=λm5 g2 hw2=>⟨rfl,rfl,rfl,le.trans lb,aC,g2,hw2⟩
  refine⟨y2,rdb,y2,rdb,⟨rdb,kI.get W5.map FQ (λe=>⟨rdb,rdb,rdb,rdb,W5.push (.inr ⟨e,rfl⟩) hrw (hwl i) hWt hbJ rfl λm5 g2 hw2=>⟨(i+1,w,y1,b,m5,h5),fin m5 g2 hw2,by show rs.length-(i+1)<rs.length-i;omega,MT⟩⟩) (λu e=>⟨rdb,rdb,rdb,rdb,W5.push (.inl e) hrw (hwl i) hWt hbJ rfl λm5 g2 hw2=>⟨(i+1,w,y1,b,m5,h5),fin m5 g2 hw2,by show rs.length-(i+1)<rs.length-i;omega,MT⟩⟩)⟩,?_⟩;exact⟨rdb,rdb,rdb,kI.get W5.map FQ (λe=>⟨rdb,rdb,W5.push (.inr ⟨e,rfl⟩) hrw (hwl i) hWt hbJ rfl λm5 g2 hw2=>⟨(i+1,w,y1,b,m5,h5),fin m5 g2 hw2,by show rs.length-(i+1)<rs.length-i;omega,MT⟩⟩) (λu e=>⟨rdb,rdb,W5.push (.inl e) hrw (hwl i) hWt hbJ rfl λm5 g2 hw2=>⟨(i+1,w,y1,b,m5,h5),fin m5 g2 hw2,by show rs.length-(i+1)<rs.length-i;omega,MT⟩⟩)⟩
 have hir:i=rs.length:=by omega
 subst hir;rw[List.take_length]at W;have hwl2:∀t,(kJ s ps st st2 cs rs t).length<=100000:=λt=>Nat.le_trans (NU t) aC;generalize kJ s ps st st2 cs rs=Wf at W hwl2 hK;have la:=L2.trans le;have hc3:oJ hz ch cs:=aR.mono hc la λ_ _ x=>x.mono la;refine⟨λz=>b=z.2.1/\z.1<=cs.length/\PH.le hz z.2.2.2/\fG m z.2.2.1 z.2.2.2 b s Wf (pG s Wf (cs.take z.1) 0),λz=>cs.length-z.1,λD=>⟨(0,b,BL mJ mz2,DQ mJ mz2 hz),⟨rfl,Nat.zero_le _,DP D,W.judge subJ hb0 hy0 hbJ (hs.mono la) D hwl2⟩,?_⟩,?_⟩
 .have fz:=KZ (m0:=mJ) D;exact AC
 clear W hwl hge hi;rintro⟨i,_,m6,h6⟩ ⟨rfl,hi,le6,J⟩;dsimp only at hi le6 J⊢
 refine aE (λhlt=>?_) (λhge=>?_)
 .obtain⟨c,hx⟩:=fS hcl hlt;obtain⟨b1,o1,v,ea,rd,hcv⟩:=aR.at hc3 hx;have hmem:=List.mem_of_getElem? hx;obtain⟨w1,w2,w3⟩:=ok.wid c hmem;have hdl:=JM (wr:=Wf) (s:=s) (cs:=cs.take i) (i:=0) λc hc=>(ok.wid c (List.mem_of_mem_take hc)).1;rw[List.length_take]at hdl;refine⟨b1,o1,ea,aC,hlt,v,.imm (rd.mono le6),m,b,i,v,c,s,Wf,_,rfl,J,hcv.mono le6,w1,w2,w3,aC,λm7 h7 le7 J2 D=>⟨(i+1,b,m7,h7),⟨rfl,by show i+1<=cs.length;omega,le6.trans le7,?_⟩,by show cs.length-(i+1)<cs.length-i;omega,?_⟩⟩
  .have e:=L5 (s:=s) (wr:=Wf) (i:=0) hx;rw[Nat.zero_add]at e;show fG m m7 h7 b s Wf (pG s Wf (cs.take (i+1)) 0);rw[e];exact J2
  .have fz:=Jh m7 h7;exact AC
 .have hic:i=cs.length:=by omega
  subst hic;rw[List.take_length]at J;obtain⟨sc2,y,d,kvs,dvs,k1,k2,k3,k4,k5,fd,k6,k7⟩:=J.ex;refine⟨d,.of_m k1 rfl,cH.ice J.sub (la.trans le6) λD le7=>hK d _ le7 ?_⟩;have hdl:=JM (wr:=Wf) (s:=s) (cs:=cs) (i:=0) λc hc=>(ok.wid c hc).1;have le8:=DP (m0:=m) D;exact⟨⟨dvs,zT.ice fd,k6,λi x e=>by obtain⟨v,q1,q2⟩:=k7 i x e;exact⟨v,q1,q2.mono le8⟩⟩,aC⟩
theorem ZF{p vs sl ch:Sl}{pk:List Int}{rs:List vW}{ps:List VV}{st st2:List (List (List VV))}{cs:List sC}(hs:dV h s sc)(hp:jZ h p r pk rs)(hv:bB h vs ps)(hst:vV h sl st)(hc:oJ h ch cs)(hT:gG m)(ok:qQ s pk rs ps st st2 cs)
 (hK:∀h',PH.le h h'->K (cI (if(pG s (kJ s ps st st2 cs rs) cs 0).length=0 then 0 else 170)) m h'):Jn sc p r vs sl ch m h K:=by
 dsimp only[Jn,push_cast];refine⟨sc,p,r,vs,sl,ch,s,pk,rs,ps,st,st2,cs,rfl,hs,hp,hv,hst,hc,hT,ok,λx h' le hx=>?_⟩;have hl:=aR.slen hx;have:=hK h' le;exact aE (λe=>by rw[if_neg aC]at this;exact this) (λe=>by rw[if_pos aC]at this;exact this)
theorem Gs:Sound Tryz.prog 16 FH:=by
 refine VP Tryz.func16 ?_;rintro cvs m h K ⟨sc,p,r,pv,sl,ch,s,pk,rs,ps,st,st2,cs,rfl,hs,hp,hv,hst,hc,hT,ok,hK⟩;refine⟨Yk sc p r pv sl ch,rfl,aD Uk (aD Uj (aD Ui (aD Uh (aD Ug (aD Uf aF))))),JA sc p r pv sl ch m h (cH h K),by kernel_rfl,?_⟩;exact ZG hs hp hv hst hc hT ok hK
theorem Uu:Sound Tryz.prog 22 Xn:=by
 refine jK Tryz.func22 ?_;rintro cvs m h K ⟨sc,p,r,pv,sl,ch,s,pk,rs,ps,st,st2,cs,rfl,hs,hp,hv,hst,hc,hT,ok,hK⟩;refine⟨Yb,rfl,aD Gs aF,Jn sc p r pv sl ch m h K,by kernel_rfl,?_⟩;exact ZF hs hp hv hst hc hT ok hK
def Xf:Vc.Spec:=λcvs m h K=>∃s r,cvs=[cS s]/\bB h s r/\r.length<=1000/\∀s' h',PH.le h h'->bB h' s' r->K (cS s') m h'
def Y4:Vc.Spec:=λcvs m h K=>∃v s t sl r,cvs=[aS v,cI t,cS sl]/\dV h s v/\bB h sl r/\r.length<=1000/\∀s' h',PH.le h h'->bB h' s' (dK s t r)->K (cS s') m h'
def Pl(s:Sl)(m:MH)(h:PH)(K:CV->MH->PH->Prop):Prop:=
  ∃(y:List (List Value)),aA (dU 3 y) (bH h (cV s) 3 y) (aA (dD y.length 32) (w7 y.length) (aY h 3 y (λs1 h1=>K (dG s1) m h1)))
def Pn(v:bN)(t:Int)(s:Sl)(m:MH)(h:PH)(K:CV->MH->PH->Prop):Prop:=
  bE t 0 (K uO m h) (iH t (yL v) K uO m h (Ak v t (λb o y=>aA (aI m h b (o+eM t 5+2) (bR y)) (0<=ite (j9 s y>0) (j9 s y) 0) (rS (ite (j9 s y>0) (j9 s y) 0) s/\pA (λs1 r=>aA (eV (CV.val (Value.slice s.a (ite (j9 s y>0) (j9 s y) 0).toNat s.cap)) (dG s1)) (bB h s1 r) (jA r/\gT (λs2 h1=>dZ h h1 (bB h1 s2 r) (K (dG s2) m h1))))))))
theorem Ul:Sound Tryz.prog 37 Xf:=by
 refine jK Tryz.func37 ?_;rintro cvs m h K ⟨s,r,rfl,hs,hl,hK⟩;refine⟨dL [] [] [] [] false,rfl,aF,Pl s m h K,by kernel_rfl,?_⟩;dsimp only[Pl,push_cast];obtain⟨⟨vs,h1,h2,h3⟩,h4⟩:=hs;exact⟨vs.map VV.enc,Bo vs,h1,by rw[List.length_map];omega,by rw[List.length_map];omega,λs' h' le hri=>hK s' h' le ⟨⟨vs,hri,h2,h3⟩,h4⟩⟩
theorem Um:Sound Tryz.prog 24 Y4:=by
 refine jK Tryz.func24 ?_;rintro cvs m h K ⟨v,s,t,sl,r,rfl,hs,hv,hl,hK⟩;refine⟨dL [(37,Xf)] [] [] [] false,rfl,aD Ul aF,Pn v t sl m h K,by kernel_rfl,?_⟩;dsimp only[Pn,push_cast];have htl:=hs.tables.slen;have hrl:=aR.slen hv;have none_:gY s t=false->K uO m h:=λe=>hK ⟨none,0,0⟩ h (.refl _) (by simp only[dK,e];exact aR.nil _ _ _ _);refine aE (λh1=>none_ (by simp[gY];omega)) (λh1=>aE (λh2=>none_ (by simp[gY];omega)) (λh2=>?_));have e:gY s t=true:=by simp[gY];omega
 obtain⟨tb,htb⟩:∃tb,s.tables[t.toNat]? =some tb:=⟨_,List.getElem?_eq_getElem aC⟩
 obtain⟨b,o,y,ea,rd,hy⟩:=aR.at hs.tables htb;have hk:=hy.key;obtain⟨a,len,cap⟩:=sl;have hcap:len<=cap:=by obtain⟨vs,h5,_⟩:=hv.ex;exact h5.cap
 have hrl:len=r.length:=hrl
 have hmm:(if(if(len:Int)<y.key then(len:Int)else y.key)>0 then(if(len:Int)<y.key then(len:Int)else y.key)else 0)=max 0 (min tb.key r.length):=by
  rw[<-hk];split<;>split<;>omega
 refine⟨b,o,ea,aC,aC,y.key,.imm (bF.part rd 2 1),?_⟩;dsimp only;rw[hmm];have e2:dK s t r=r.take (max 0 (min tb.key r.length)).toNat:=by simp only[dK,e,if_true,htb];rfl
 rw[e2]at hK;exact⟨aC,aC,⟨a,(max 0 (min tb.key r.length)).toNat,cap⟩,_,rfl,hv.cut aC,by rw[List.length_take];omega,hK⟩
def J8{α:Type}(T:List α->α->Prop):List α->List α->Prop
 |_,[]=>True
 |pre,x::r=>T pre x/\J8 T (pre++[x]) r
theorem OX{α:Type}{T:List α->α->Prop}:∀{l pre:List α},J8 T pre l->∀(j:Nat) x,l[j]? =some x->T (pre++l.take j) x
 |[],_,_,j,x,e=>by simp at e
 |y::r,pre,h,0,x,e=>by simp at e;subst e;simpa using h.1
 |y::r,pre,h,j+1,x,e=>by
  have:=OX h.2 j x (by simpa using e);simpa using this
theorem CT{α:Type}{T:List α->α->Prop}{l:List α}(h:J8 T [] l):Good T l:=λj x e=>by simpa using OX h j x e
theorem Vh(h8:s.tables.length<=8)(hl:∀t∈s.tables,t.columns.length<=8/\t.refs=[]/\t.checks=[])(v0:0<=s.version)(v1:s.version<=1000)(hg:Good Hy s.tables):cZ s=0:=by
 have lim:A3 s:=⟨h8,λj t e=>by
  obtain⟨h1,h2,h3⟩:=hl t (List.mem_of_getElem? e);exact⟨h1,by simp[h2],by simp[h3]⟩⟩
 have ok:JZ s:=⟨v0,v1,hg,λj t e=>by
  obtain⟨h1,h2,h3⟩:=hl t (List.mem_of_getElem? e);unfold J1;rw[h2];intro i x e2;simp at e2⟩
 rw[KB lim ok];refine yU _ λe he=>?_;obtain⟨i,_,he⟩:=List.mem_flatMap.1 he;unfold vA at he;split at he
 .rename_i t ht;obtain⟨h1,h2,h3⟩:=hl t (List.mem_of_getElem? ht);rw[h3]at he;simp at he
 .simp at he
def Xl:Vc.Spec:=λcvs m h K=>cvs=[]/\gG m/\K (cB true) m h
noncomputable abbrev uZ(a:Int):List Value:=aJ (cJ 4) (cJ a) (l9 Xo)
attribute [push_cast] uZ
def VT(n:Int)(m:MH)(h:PH)(K:CV->MH->PH->Prop):Prop:=
  K (fB (uZ n)) m h
theorem Le:Sound Tryz.prog 23 NG:=by
 refine jK Tryz.func23 ?_;rintro cvs m h K ⟨n,rfl,hK⟩;refine⟨dL [] [] [] [] false,rfl,aF,VT n m h K,by kernel_rfl,?_⟩;exact hK
theorem Iz{k:List Int}(hs:cZ s=0)(h:zZ q=true)(hk:cR s [] q=(k,0)):fC s [] q=(k,0):=by
 unfold fC;rw[if_pos hs,if_pos (by rfl),if_pos h,hk]
def jO(n:Int):VV:=⟨4,n,⟨#[]⟩⟩
theorem Ni(a b:Int):P6 (jO a) (jO b)=(a==b):=by simp[P6,jO]
theorem pV(key:Int)(i:Nat)(n mo:Int):Fi key 4 i (jO n)=true/\zH mo key 4 i (jO n)=true:=by simp[Fi,zH,jO,Mt]
def gS:jR:=⟨0,[⟨⟨⟨[116,97,115,107,115]⟩⟩,[⟨⟨⟨[105,100]⟩⟩,4⟩,⟨⟨⟨[116,105,116,108,101]⟩⟩,4⟩,⟨⟨⟨[115,97,108,97,114,121]⟩⟩,4⟩],1,[],[]⟩]⟩
def YP:Query:=.mk 1 0 jS [] [] [] [] 0 []
def gQ:Query:=.mk 3 0 jS [0] [] [] [] 0 [YP]
def wL:vW:=⟨2,0,[1],gQ⟩
def kU(x y:Int):List VV:=[jO 1,jO x,jO y]
theorem SI:cZ gS=0:=Vh (by decide) (λt ht=>by simp[gS]at ht;subst ht;exact⟨by simp,rfl,rfl⟩) (by decide) (by decide) (by
 refine CT ⟨⟨?_,?_,?_,?_,CT ⟨⟨?_,?_,?_⟩,⟨?_,?_,?_⟩,⟨?_,?_,?_⟩,trivial⟩⟩,trivial⟩
 all_goals first|rfl|(simp;done)|decide)
theorem VK:cR gS [] gQ=([4],0):=by
 have e:iB gS 0=[4,4,4]:=rfl
 have h:cR gS [] YP=([4,4,4],0):=by
  have:=DO (s:=gS) (ps:=[]) (t:=0) (by decide) (by decide) (by rw[e];decide);rw[e]at this;exact this
 exact yT h (by decide) (by decide) (by decide)
theorem YQ:fC gS [] gQ=([4],0):=Iz SI (by rfl) VK
theorem SJ:dW [] gQ=gQ:=by rfl
theorem Zz(x y:Int):sF gS [[kU x y]]=0:=by
 unfold sF;rw[if_neg (by simp[SI]),if_neg (by simp),if_neg (by simp[gS]),if_pos];intro i t l ht hl
 match i,ht,hl with
 |0,ht,hl=>
  simp[gS]at ht;simp at hl;subst ht hl;refine⟨λr hr=>?_,λi r r' e1 e2=>by simp at e2⟩;simp at hr;subst hr;refine BS.2 ⟨rfl,λi hi=>?_⟩
  match i,hi with
  |0,_=>exact(pV 1 0 1 1).1
  |1,_=>exact(pV 1 1 x 1).1
  |2,_=>exact(pV 1 2 y 1).1
  |i+3,hi=>simp[kU]at hi;omega
 |i+1,ht,hl=>simp[gS]at ht
theorem OZ(x y:Int):mW 1 gS 0 (kU x y)=true:=by
 rw[vY (tb:=gS.tables.getD 0 ⟨⟨#[]⟩,[],0,[],[]⟩) rfl (by decide)];refine qP.2 ⟨rfl,λi hi=>?_⟩
 match i,hi with
 |0,_=>exact(pV 1 0 1 1).2
 |1,_=>exact(pV 1 1 x 1).2
 |2,_=>exact(pV 1 2 y 1).2
 |i+3,hi=>simp[kU]at hi;omega
theorem XH(x y:Int):p8 1 gS [[kU x y]]=0:=by
 unfold p8;rw[if_neg (by simp[SI]),if_neg (by simp),if_neg (by simp[gS]),if_pos];intro i t l ht hl
 match i,ht,hl with
 |0,ht,hl=>
  simp[gS]at ht;simp at hl;subst ht hl;refine⟨λr hr=>?_,λi r r' e1 e2=>by simp at e2⟩;simp at hr;subst hr;have:=OZ x y;rw[vY (tb:=gS.tables.getD 0 ⟨⟨#[]⟩,[],0,[],[]⟩) rfl (by decide)]at this;exact this
 |i+1,ht,hl=>simp[gS]at ht
theorem Z0(x y:Int):nX [[kU x y]] gQ=[[jO 1]]:=by rfl
theorem He(x y:Int):gV gS [[kU x y]] (dW [] gQ)=([[jO 1]],0):=by
 unfold gV;rw[SJ,YQ,if_neg (by simp),if_neg (by simp[Zz]),Z0]
def gC(x y:Int):sC:=⟨0,kU 2 3,kU x y⟩
theorem Z2(x y:Int):yW 1 gS (gC x y)=true:=by
 simp only[yW,gC,OZ,Bool.or_true,Bool.and_true];rfl
theorem ZB(x y:Int):qL 1 gS [[kU 2 3]] [gC x y]=([[kU x y]],0):=by
 unfold qL;rw[if_neg (by simp[XH]),wR,if_neg (by rw[Z2];decide)];rw[show lJ gS ([[kU 2 3]].getD (gC x y).tab.toNat []) (gC x y)=some [kU x y]from rfl];rfl
theorem Z1:sN gS [] [wL]=0:=by
 have h1:pX gS wL=true:=by decide
 have h2:jI gS [] wL=0:=by
  unfold jI;rw[if_neg (by rw[h1];decide),show wL.query=gQ from rfl,YQ,if_neg (by simp)];exact if_pos rfl
 unfold sN;rw[if_neg (by simp[SI]),if_neg (by simp),if_neg (by simp)];show jE [jI gS [] wL]=0;rw[h2];rfl
theorem OY{x y:Int}(hx:Dl x)(hy:Dl y):YU [[kU x y]]:=λl hl r hr v hv=>by
 simp at hl;subst hl;simp at hr;subst hr;simp[kU]at hv;rcases hv with rfl|rfl|rfl
 .exact⟨by constructor<;>decide,by constructor<;>decide⟩
 .exact⟨⟨by show _<=(4:Int);decide,by show(4:Int)<=_;decide⟩,hx⟩
 .exact⟨⟨by show _<=(4:Int);decide,by show(4:Int)<=_;decide⟩,hy⟩
theorem YO(x y:Int):B8 [[kU x y]] (dW [] gQ):=⟨1,by decide,λl hl=>by simp at hl;subst hl;simp,by rw[SJ];decide⟩
theorem YN{x y:Int}(hx:Dl x)(hy:Dl y):qQ gS [] [wL] [] [[kU 2 3]] [[kU x y]] [gC x y]:=by
 have hso:gP [[jO 1]]:=List.pairwise_singleton _ _;refine⟨Z1,by rfl,ZB x y,λr hr _=>?_,λr hr _=>?_,OY hx hy,by simp,λc hc=>?_,by simp⟩
 .simp at hr;subst hr;show(gV gS [[kU 2 3]] (dW [] gQ)).2=0/\_;refine⟨by rw[He],?_,?_,YO 2 3⟩
  .show gP (gV gS [[kU 2 3]] (dW [] gQ)).1;rw[He];exact hso
  .show(gV gS [[kU 2 3]] (dW [] gQ)).1.length<=_;rw[He];simp
 .simp at hr;subst hr;show(gV gS [[kU x y]] (dW [] gQ)).2=0/\_;refine⟨by rw[He],?_,?_,YO x y⟩
  .show gP (gV gS [[kU x y]] (dW [] gQ)).1;rw[He];exact hso
  .show(gV gS [[kU x y]] (dW [] gQ)).1.length<=_;rw[He];simp
 .simp at hc;subst hc;exact⟨by simp[gC,kU],by simp[gC,kU],λ_ _=>by simp[gC,kU]⟩
theorem acJ(x y:Int):kJ gS [] [[kU 2 3]] [[kU x y]] [gC x y] [wL] 0=[⟨[1],[[jO 1]],[[jO 1]]⟩]:=by
 unfold kJ;rw[show[wL].filter (λr=>r.kind==2&&jG [gC x y] r.table&&r.table==0)=[wL]from rfl];show[(⟨[1],(gV gS [[kU 2 3]] (dW [] gQ)).1,(gV gS [[kU x y]] (dW [] gQ)).1⟩:Wr)]=_;rw[He,He]
theorem VJ(x y:Int):pG gS (kJ gS [] [[kU 2 3]] [[kU x y]] [gC x y] [wL]) [gC x y] 0=if y=3 then[]else[⟨0,false,0,[jO 1],2⟩,⟨0,true,0,[jO 1],2⟩]:=by
 rw[pG,pG,List.append_nil,show(gC x y).tab=0 from rfl,acJ];have hk:qR gS (gC x y)=[jO 1]:=rfl;unfold Km;rw[if_neg (by simp[gC,kU]),if_neg (by simp[gC,kU]),hk];have n1:∀a,gW [⟨[1],[[jO 1]],[[jO 1]]⟩] [jO 1] a 1=true:=λa=>by cases a<;>rfl
 have n2:∀a,gW [⟨[1],[[jO 1]],[[jO 1]]⟩] [jO 1] a 2=false:=λa=>by cases a<;>rfl
 show(List.range 3).flatMap _=_;rw[show List.range 3=[0,1,2]from rfl];simp only[List.flatMap_cons,List.flatMap_nil,List.append_nil];rw[show(gC x y).old.getD 0 zeroV=jO 1 from rfl,show(gC x y).new.getD 0 zeroV=jO 1 from rfl,show(gC x y).old.getD 1 zeroV=jO 2 from rfl,show(gC x y).new.getD 1 zeroV=jO x from rfl,show(gC x y).old.getD 2 zeroV=jO 3 from rfl,show(gC x y).new.getD 2 zeroV=jO y from rfl,Ni,Ni,Ni]
 have hA:∀(p:Prop)[Decidable p](A:List Den),A=[]->(if p then[]else A)=[]:=λp _ A h=>by
  split
  .rfl
  .exact h
 rw[if_pos (by simp),List.nil_append,hA _ _ (by rfl),List.nil_append];by_cases h3:y=3
 .rw[if_pos (by simp[h3]),if_pos h3]
 .rw[if_neg (by simp;exactλe=>h3 e.symm),if_neg h3];rfl
noncomputable def Yi:Ctx:=dL [(23,NG),(16,FH),(22,Xn)] []
 [(7,{A:=bN×Sl×Sl×Sl×Int×MH×PH,st:=λ⟨sc,r,w,x,e,m,h⟩=>cM 105 105 [(2,.at (.ptr 2 0)),(4,.at (.ptr 4 0)),(5,.at (.ptr 5 0)),(6,sv x),(7,iv e)] [(2,.cells 29 (sc.enc.map .val)),(4,.cells 34 [.val (.slice none 0 0),.val (.slice r.a r.len r.cap)]),(5,.cells 38 [.val (.slice w.a w.len w.cap)])] m h}),
  (8,{A:=Sl×Int×Int×MH×PH,st:=λ⟨x,e,a,m,h⟩=>cM 105 105 [(6,sv x),(7,iv e),(8,iv a)] [] m h})] [] false
noncomputable abbrev xA(a:ByteArray):List Value:=lP (Value.string a) (cJ 4)
noncomputable abbrev eT(a:Nat)(b:List UInt8):List UInt8:=OfNat.ofNat a::b
noncomputable abbrev HT:ByteArray:=ByteArray.mk (Array.mk (eT 105 (eT 100 [])))
noncomputable abbrev rF(a b c:Int):List (List Value):=uZ a::mA (uZ b) (uZ c)
noncomputable abbrev IZ(a:ByteArray)(b:Sl)(c:Int):List Value:=aJ (Value.string a) (bV b) (aJ (cJ c) nV fE)
noncomputable abbrev Ap(a:Sl)(b:Int):List Value:=IZ (ByteArray.mk (Array.mk (eT 116 (eT 97 (eT 115 (eT 107 (eT 115 []))))))) a b
noncomputable abbrev MV(a b:Sl):List Value:=Bv cK cK cK Xo (aJ Xo nV (aJ (bV a) nV (aJ nV nV (aJ cK (bV b) []))))
noncomputable abbrev BD(a:Value)(b c:Sl):List Value:=Bv (cJ 2) cK a (cJ 3) (MV b c)
abbrev Cp(a:PH)(b c d:Sl)(e:Sl->Sl->PH->bN->Prop):Prop:=aY a 1 (hX (aM b)) (λx x1=>aY x1 3 (hX (aJ cK (bV c) (aM d))) (λx2 x3=>∃(x4:bN),e x x2 x3 x4))
noncomputable abbrev CK(a b c d:Sl):List CV:=fJ cK a::fJ nV b::uO::aK (eU c) (dG d)
abbrev E5(a:Sl)(b:bN):Prop:=gO 29 (iQ 0::jX a) (iQ b.version::jX b.tables)
abbrev CA(a:bN×Sl×Sl×Sl×Int×MH×PH->Prop)(b:bN×Sl×Sl×Sl×Int×MH×PH)(c d e:Sl)(g:Prop):Prop:=aA (a b) (eP 2) (aA (eP 4) dJ (aA (bA c b.2.2.2.1) (nI 0 b.2.2.2.2.1) (aA (E5 d b.1) (gO 34 (WR::jX e) (WR::jX b.2.1)) g)))
noncomputable abbrev By(a:bN×Sl×Sl×Sl×Int×MH×PH):Nat->Option Obj:=a.2.2.2.2.2.1
noncomputable abbrev AP(a:bN×Sl×Sl×Sl×Int×MH×PH):Nat->Nat->Option Value:=a.2.2.2.2.2.2
abbrev Cr(a:bN×Sl×Sl×Sl×Int×MH×PH)(b c d e g i:Int)(j:Sl->PH->bN->Prop):Prop:=aY (AP a) 3 (rF b c d) (λx x1=>aY x1 3 (rF e g i) (λx2 x3=>aY x3 3 (hX (aJ cK (bV x) (aM x2))) (λx4 x5=>∃(x6:bN),j x4 x5 x6)))
abbrev CC(a:List CV)(b:Sl->Sl->Sl->Sl->Sl->List CV)(c:PH)(d:bN)(e:bN×Sl×Sl×Sl×Int×MH×PH)(g:jR->(List Int)->(List vW)->(List VV)->(List (List (List VV)))->(List (List (List VV)))->(List sC)->Prop)(i:jR->(List vW)->(List VV)->(List (List (List VV)))->(List (List (List VV)))->(List sC)->PH->Prop):Prop:=fR (λx x1=>fR (λx2 x3=>∃(x4:Sl),u0 (λx5 x6 x7=>∃(x8:List VV)(x9 a1:List (List (List VV)))(a2:List sC),aA (a=b x x1 x2 x3 x4) (dV c x5 d) (aA (jZ c x x1 x6 x7) (bB c x2 x8) (aA (vV c x3 x9) (oJ c x4 a2) (aA (gG (By e)) (g x5 x6 x7 x8 x9 a1 a2) (∀(a3:PH),i x5 x7 x8 x9 a1 a2 a3)))))))
noncomputable abbrev CL(a:bN×Sl×Sl×Sl×Int×MH×PH)(b:Sl):List CV:=bJ a.1::fJ nV a.2.1::uO::aK (eU a.2.2.1) (dG b)
noncomputable abbrev sP(a:Sl×Int×Int×MH×PH):Nat->Option Obj:=a.2.2.2.1
noncomputable abbrev sQ(a:Sl×Int×Int×MH×PH):Nat->Nat->Option Value:=a.2.2.2.2
abbrev CB(a b:PH)(c:Sl×Int×Int×MH×PH->Prop)(d:bN×Sl×Sl×Sl×Int×MH×PH)(e:(Sl×Int×Int×MH×PH)->Prop):Prop:=PH.le a b->∃(x:Sl×Int×Int×MH×PH),aA (c x) (bA d.2.2.2.1 x.1) (aA (nI d.2.2.2.2.1 x.2.1) (e x) (bZ (By d) (sP x) b (sQ x)))
abbrev Cq(a:jR)(b:List VV)(c d:List (List (List VV)))(e:List sC)(g:List vW)(i:Sl×Int×Int×MH×PH):Prop:=nI (ite ((pG a (kJ a b c d e g) e 0).length=0) 0 170) i.2.2.1
attribute [push_cast] xA eT HT rF IZ Ap MV BD Cp CK E5 CA By AP Cr CC CL sP sQ CB Cq
def Jz(m:MH)(h:PH)(K:CV->MH->PH->Prop):Prop:=
  aY h 2 (xA HT::mA (xA (ByteArray.mk (Array.mk (eT 116 (eT 105 (eT 116 (eT 108 (eT 101 [])))))))) (xA (ByteArray.mk (Array.mk (eT 115 (eT 97 (eT 108 (eT 97 (eT 114 (eT 121 [])))))))))) (λs h1=>aY h1 1 (hX (bR 1)) (λs1 h2=>aY h2 1 (hX (l9 cK)) (λs2 h3=>aY h3 21 (hX (Bv (cJ 1) cK cK cK E4)) (λs3 h4=>∃(n:Int),oT (fA 1 n) (λn1=>oT (fA 2 n1) (λn2=>fA 3 n2/\aY h4 3 (rF n n1 n2) (λs4 h5=>aY h5 1 (hX (aM s4)) (λs5 h6=>∃(I:bN×Sl×Sl×Sl×Int×MH×PH->Prop),(∃(n3:Int),oT (fA 1 n3) (λn4=>oT (fA 2 n4) (λn5=>aA (fA 3 n5) (∃(n6:Int),oT (fA 1 n6) (λn7=>oT (fA 5 n7) (λn8=>fA 6 n8/\aY h6 3 (rF n3 n4 n5) (fun
 s6 h7=>aY h7 3 (rF n6 n7 n8) (λs7 h8=>aY h8 5 (hX (Ap s 1)) (λs8 h9=>aY h9 24 (hX (BD (bV s1) s2 s3)) (λs9 a=>Cp a s5 s6 s7 (λa1 a2 a3 a4=>fR (λp r=>fR (λp1 a5=>∃(c:Sl),u0 (λa6 p2 r1=>∃(p3:List VV)(a7 a8:List (List (List VV)))(c1:List sC),aA (CK s8 s9 a1 a2=bJ a4::fJ (bV p) r::dG p1::aK (eU a5) (dG c)) (dV a3 a6 a4) (aA (jZ a3 p r p2 r1) (bB a3 p1 p3) (aA (vV a3 a5 a7) (oJ a3 c c1) (aA (gG m) (qQ a6 p2 r1 p3 a7 a8 c1) (gT (λx a9=>dZ a3 a9 (yG a9 x (pG a6 (kJ a6 p3 a7 a8 c1 r1) c1 0)) (∃(x1:bN×Sl×Sl×Sl×Int×MH×PH),CA I x1 x s8 s9 (bT (kR a1 x1.2.2.1) m (By x1) a9 (AP x1))))))))))))))))))) (∃(n6:Int),aA (fA 1 n6) (∃(n7:Int),oT (fA 5 n7) (λn8=>fA 6 n8
 /\aY h6 3 (rF n3 n4 n5) (λs6 h7=>aY h7 3 (rF n6 n7 n8) (λs7 h8=>aY h8 5 (hX (Ap s 1)) (λs8 h9=>aY h9 24 (hX (BD (bV s1) s2 s3)) (λs9 a=>Cp a s5 s6 s7 (λa1 a2 a3 a4=>fR (λp r=>fR (λp1 a5=>∃(c:Sl),u0 (λa6 p2 r1=>∃(p3:List VV)(a7 a8:List (List (List VV)))(c1:List sC),aA (CK s8 s9 a1 a2=bJ a4::fJ (bV p) r::dG p1::aK (eU a5) (dG c)) (dV a3 a6 a4) (aA (jZ a3 p r p2 r1) (bB a3 p1 p3) (aA (vV a3 a5 a7) (oJ a3 c c1) (aA (gG m) (qQ a6 p2 r1 p3 a7 a8 c1) (gT (λx a9=>dZ a3 a9 (yG a9 x (pG a6 (kJ a6 p3 a7 a8 c1 r1) c1 0)) (∃(x1:bN×Sl×Sl×Sl×Int×MH×PH),CA I x1 x s8 s9 (bT (kR a1 x1.2.2.1) m (By x1) a9 (AP x1)))))))))))))))))) (∃(n7:Int),aA (fA 5 n7) (∃(n8:Int),fA
 6 n8/\aY h6 3 (rF n3 n4 n5) (λs6 h7=>aY h7 3 (rF n6 n7 n8) (λs7 h8=>aY h8 5 (hX (Ap s 1)) (λs8 h9=>aY h9 24 (hX (BD (bV s1) s2 s3)) (λs9 a=>Cp a s5 s6 s7 (λa1 a2 a3 a4=>fR (λp r=>fR (λp1 a5=>∃(c:Sl),u0 (λa6 p2 r1=>∃(p3:List VV)(a7 a8:List (List (List VV)))(c1:List sC),aA (CK s8 s9 a1 a2=bJ a4::fJ (bV p) r::dG p1::aK (eU a5) (dG c)) (dV a3 a6 a4) (aA (jZ a3 p r p2 r1) (bB a3 p1 p3) (aA (vV a3 a5 a7) (oJ a3 c c1) (aA (gG m) (qQ a6 p2 r1 p3 a7 a8 c1) (gT (λx a9=>dZ a3 a9 (yG a9 x (pG a6 (kJ a6 p3 a7 a8 c1 r1) c1 0)) (∃(x1:bN×Sl×Sl×Sl×Int×MH×PH),CA I x1 x s8 s9 (bT (kR a1 x1.2.2.1) m (By x1) a9 (AP x1))))))))))))))))) (∃(n8:Int),aA (fA 6 n8) (aY h6 3
 (rF n3 n4 n5) (λs6 h7=>aY h7 3 (rF n6 n7 n8) (λs7 h8=>aY h8 5 (hX (Ap s 1)) (λs8 h9=>aY h9 24 (hX (BD (bV s1) s2 s3)) (λs9 a=>Cp a s5 s6 s7 (λa1 a2 a3 a4=>fR (λp r=>fR (λp1 a5=>∃(c:Sl),u0 (λa6 p2 r1=>∃(p3:List VV)(a7 a8:List (List (List VV)))(c1:List sC),aA (CK s8 s9 a1 a2=bJ a4::fJ (bV p) r::dG p1::aK (eU a5) (dG c)) (dV a3 a6 a4) (aA (jZ a3 p r p2 r1) (bB a3 p1 p3) (aA (vV a3 a5 a7) (oJ a3 c c1) (aA (gG m) (qQ a6 p2 r1 p3 a7 a8 c1) (gT (λx a9=>dZ a3 a9 (yG a9 x (pG a6 (kJ a6 p3 a7 a8 c1 r1) c1 0)) (∃(x1:bN×Sl×Sl×Sl×Int×MH×PH),CA I x1 x s8 s9 (bT (kR a1 x1.2.2.1) m (By x1) a9 (AP x1))))))))))))))))) (aY h6 3 (rF n3 n4 n5) (λs6 h7=>aY h7 3 (rF n6 n7
 n8) (λs7 h8=>aY h8 5 (hX (Ap s 1)) (λs8 h9=>aY h9 24 (hX (BD (bV s1) s2 s3)) (λs9 a=>Cp a s5 s6 s7 (λa1 a2 a3 a4=>fR (λp r=>fR (λp1 a5=>∃(c:Sl),u0 (λa6 p2 r1=>∃(p3:List VV)(a7 a8:List (List (List VV)))(c1:List sC),aA (CK s8 s9 a1 a2=bJ a4::fJ (bV p) r::dG p1::aK (eU a5) (dG c)) (dV a3 a6 a4) (aA (jZ a3 p r p2 r1) (bB a3 p1 p3) (aA (vV a3 a5 a7) (oJ a3 c c1) (aA (gG m) (qQ a6 p2 r1 p3 a7 a8 c1) (gT (λx a9=>dZ a3 a9 (yG a9 x (pG a6 (kJ a6 p3 a7 a8 c1 r1) c1 0)) (∃(x1:bN×Sl×Sl×Sl×Int×MH×PH),CA I x1 x s8 s9 (bT (kR a1 x1.2.2.1) m (By x1) a9 (AP x1)))))))))))))))))))))))/\∀(x:bN×Sl×Sl×Sl×Int×MH×PH),I x->∃(I1:Sl×Int×Int×MH×PH->Prop),(∃(n3:Int),oT
 (fA 1 n3) (λn4=>oT (fA 2 n4) (λn5=>aA (fA 3 n5) (∃(n6:Int),oT (fA 1 n6) (λn7=>oT (fA 5 n7) (λn8=>fA 3 n8/\Cr x n3 n4 n5 n6 n7 n8 (λs6 h7 s7=>CC (CL x s6) (λp r p1 s8 c=>bJ s7::fJ (bV p) r::dG p1::aK (eU s8) (dG c)) h7 s7 x (λs8 p r p1 s9 a c=>qQ s8 p r p1 s9 a c) (λs8 r p s9 a c h8=>CB h7 h8 I1 x (λx1=>Cq s8 p s9 a c r x1)))))) (∃(n6:Int),aA (fA 1 n6) (∃(n7:Int),oT (fA 5 n7) (λn8=>fA 3 n8/\Cr x n3 n4 n5 n6 n7 n8 (λs6 h7 s7=>CC (CL x s6) (λp r p1 s8 c=>bJ s7::fJ (bV p) r::dG p1::aK (eU s8) (dG c)) h7 s7 x (λs8 p r p1 s9 a c=>qQ s8 p r p1 s9 a c) (λs8 r p s9 a c h8=>CB h7 h8 I1 x (λx1=>Cq s8 p s9 a c r x1))))) (∃(n7:Int),aA (fA 5 n7)
 (∃(n8:Int),fA 3 n8/\Cr x n3 n4 n5 n6 n7 n8 (λs6 h7 s7=>CC (CL x s6) (λp r p1 s8 c=>bJ s7::fJ (bV p) r::dG p1::aK (eU s8) (dG c)) h7 s7 x (λs8 p r p1 s9 a c=>qQ s8 p r p1 s9 a c) (λs8 r p s9 a c h8=>CB h7 h8 I1 x (λx1=>Cq s8 p s9 a c r x1)))) (∃(n8:Int),aA (fA 3 n8) (Cr x n3 n4 n5 n6 n7 n8 (λs6 h7 s7=>CC (CL x s6) (λp r p1 s8 c=>bJ s7::fJ (bV p) r::dG p1::aK (eU s8) (dG c)) h7 s7 x (λs8 p r p1 s9 a c=>qQ s8 p r p1 s9 a c) (λs8 r p s9 a c h8=>CB h7 h8 I1 x (λx1=>Cq s8 p s9 a c r x1)))) (Cr x n3 n4 n5 n6 n7 n8 (λs6 h7 s7=>CC (CL x s6) (λp r p1 s8 c=>bJ s7::fJ (bV p) r::dG p1::aK (eU s8) (dG c)) h7 s7 x (λs8 p r p1 s9 a c=>qQ s8 p r p1 s9 a c) (λs8 r p s9 a c h8
 =>CB h7 h8 I1 x (λx1=>Cq s8 p s9 a c r x1))))))))))/\∀(x1:Sl×Int×Int×MH×PH),I1 x1->bQ x1.2.1 0 (bQ x1.2.2.1 0 (bQ (aH x1.1) 2 (bK (λb o=>aA (bL x1.1.a b o) ((0:Int)<=0) (0<aH x1.1/\∃(y:Int),aI (sP x1) (sQ x1) b (o+0+4) (bR y)/\bQ y 2 (bK (λb1 o1=>aA (bL x1.1.a b1 o1) ((0:Int)<=0) (0<aH x1.1/\∃(y1:Bool),aI (sP x1) (sQ x1) b1 (o1+0+1) (rD y1)/\branch (!y1) (bK (λb2 o2=>aA (bL x1.1.a b2 o2) ((0:Int)<=1) (1<aH x1.1/\∃(y2:Bool),aI (sP x1) (sQ x1) b2 (o2+5+1) (rD y2)/\branch y2 (dA x1.1 0 (λb3 o3 y3=>aI (sP x1) (sQ x1) b3 (o3+0+3) (aM y3)/\K (yX (aH y3==1)) (sP x1) (sQ x1))) (K aT (sP x1) (sQ x1))))) (K aT (sP x1) (sQ x1))))) (K aT
 (sP x1) (sQ x1))))) (K aT (sP x1) (sQ x1))) (K aT (sP x1) (sQ x1))) (K aT (sP x1) (sQ x1))))))))))
theorem Ej{h:PH}{s:Sl}{l:List VV}(r:bH h s 3 (l.map VV.enc))(hl:l.length<=1000):bB h s l:=⟨⟨l,r,rfl,λi x hx=>⟨x,hx,rfl⟩⟩,aC⟩
theorem Em{α β:Type}{enc:β->List Value}{R:α->β->Prop}{s:Sl}{x:α}{v:β}(r:bH h s sz [enc v])(hx:R x v):aR h sz enc R s [x]:=⟨⟨[v],r,rfl,λi y e=>by
 match i,e with
 |0,e=>simp at e;subst e;exact⟨v,rfl,hx⟩
 |i+1,e=>simp at e⟩,by simp⟩
theorem ZA{c t:Sl}(rc:bH h c 2 (([⟨⟨#[105,100]⟩,4⟩,⟨⟨#[116,105,116,108,101]⟩,4⟩,⟨⟨#[115,97,108,97,114,121]⟩,4⟩]:List sE).map sE.enc))(rt:bH h t 5 [bS.enc ⟨⟨#[116,97,115,107,115]⟩,c,1,eC,eC⟩]):dV h gS ⟨0,t⟩:=
 ⟨rfl,Em rt ⟨rfl,Nq rc (by simp),rfl,aR.nil _ _ _ _,aR.nil _ _ _ _⟩⟩
theorem VL{k p a:Sl}(rk:bH h k 1 [[.int .i64 1]])(rp:bH h p 1 [[.int .i64 0]])(ra:bH h a 21 [QV.enc ⟨1,0,qT,eC,eC,eC,eC,0,eC⟩])(rr:bH h r 24 [iO.enc ⟨2,0,k,⟨3,0,qT,p,eC,eC,eC,0,a⟩⟩]):jZ h eC r [] [wL]:=
 ⟨mI h,Em rr ⟨rfl,rfl,⟨rk,by show(1:Nat)<=17592186044416;omega⟩,nR.rep ⟨rfl,rfl,Ca h,⟨rp,by show(1:Nat)<=17592186044416;omega⟩,Ci h,mI h,y0 h,rfl,Cf ra (Iv h 0)⟩⟩⟩
theorem XG{u l w:Sl}(ru:bH h u 3 ((kU 2 3).map VV.enc))(rl:bH h l 1 [eS u])(rw_:bH h w 1 [eS l]):vV h w [[kU 2 3]]:=
 ⟨Em rw_ (Em rl (Ej ru (by show(3:Nat)<=1000;decide))),by simp,OY (by constructor<;>decide) (by constructor<;>decide)⟩
theorem VM{o n ch:Sl}{x y:Int}(ro:bH h o 3 ((kU 2 3).map VV.enc))(rn:bH h n 3 ((kU x y).map VV.enc))(rc:bH h ch 3 [dH.enc ⟨0,o,n⟩]):oJ h ch [gC x y]:=
 Em rc ⟨rfl,Ej ro (by show(3:Nat)<=1000;decide),Ej rn (by show(3:Nat)<=1000;decide)⟩
theorem Uz:Sound Tryz.prog 18 Xl:=by
 refine Fh Tryz.func18 ?_;rintro cvs m h K ⟨rfl,ht,hK⟩;refine⟨Yi,rfl,aD Le (aD Gs (aD Uu aF)),Jz m h (kY h K),by kernel_rfl,?_⟩;show Jz m h (kY h K);dsimp only[Jz,push_cast];intro c h1 le1 rc k h2 le2 rk p h3 le3 rp a h4 le4 ra;refine⟨1,rfl,2,rfl,3,rfl,?_⟩;intro u h5 le5 ru l h6 le6 rl;have l6:=le6;have l5:=le5.trans l6;have l4:=le4.trans l5;have l3:=le3.trans l4;have l2:=le2.trans l3;have L:=le1.trans l2;refine⟨λz=>∃t r w x hz,z=(⟨0,t⟩,r,w,x,0,m,hz)/\PH.le h hz/\dV hz gS ⟨0,t⟩/\jZ hz eC r [] [wL]/\vV hz w [[kU 2 3]]/\yG hz x [⟨0,false,0,[jO 1],2⟩,⟨0,true,0,[jO 1],2⟩],?_,?_⟩
 .have leaf:∀(o:Sl)(h7:PH),PH.le h6 h7->bH h7 o 3 ((kU 2 3).map VV.enc)->∀(n:Sl)(h8:PH),PH.le h7 h8->bH h8 n 3 ((kU 5 6).map VV.enc)->∀(t:Sl)(h9:PH),PH.le h8 h9->bH h9 t 5 [bS.enc ⟨⟨#[116,97,115,107,115]⟩,c,1,eC,eC⟩]->∀(r:Sl)(ha:PH),PH.le h9 ha->bH ha r 24 [iO.enc ⟨2,0,k,⟨3,0,qT,p,eC,eC,eC,0,a⟩⟩]->∀(w:Sl)(hb:PH),PH.le ha hb->bH hb w 1 [eS l]->∀(ch:Sl)(hc:PH),PH.le hb hc->bH hc ch 3 [dH.enc ⟨0,o,n⟩]->
   dV hc gS ⟨0,t⟩/\jZ hc eC r [] [wL]/\vV hc w [[kU 2 3]]/\oJ hc ch [gC 5 6]/\PH.le h hc:=by
   intro o h7 le7 ro n h8 le8 rn t h9 le9 rt r ha lea rr w hb leb rw_ ch hc lec rch;have q:=leb.trans lec;have q9:=lea.trans q;have q8:=le9.trans q9;have q7:=le8.trans q8;have q6:=le7.trans q7;exact⟨ZA (rc.mono (l2.trans q6)) (rt.mono q9),VL (rk.mono (l3.trans q6)) (rp.mono (l4.trans q6)) (ra.mono (l5.trans q6)) (rr.mono q),XG (ru.mono (l6.trans q6)) (rl.mono q6) (rw_.mono lec),VM (ro.mono q7) (rn.mono q8) rch,L.trans q6⟩
  have dn:=YN (x:=5) (y:=6) (by constructor<;>decide) (by constructor<;>decide);have ds:=VJ 5 6;rw[if_neg (by decide)]at ds;refine⟨1,rfl,2,rfl,3,rfl,?_⟩
  repeat' (first|refine And.intro ?_ ?_ |refine⟨_,rfl,?_⟩|fail)
  all_goals
   intro o h7 le7 ro n h8 le8 rn t h9 le9 rt r ha lea rr w hb leb rw_ ch hc lec rch;obtain⟨q1,q2,q3,q4,q5⟩:=leaf o h7 le7 ro n h8 le8 rn t h9 le9 rt r ha lea rr w hb leb rw_ ch hc lec rch;exact⟨⟨0,t⟩,eC,r,eC,w,ch,gS,[],[wL],[],_,_,[gC 5 6],rfl,q1,q2,aR.nil _ _ _ _,q3,q4,ht,dn,λx hd led hx=>⟨(⟨0,t⟩,r,w,x,0,m,hd),⟨t,r,w,x,hd,rfl,q5.trans led,q1.mono led,q2.mono led,q3.mono led,by rw[ds]at hx;exact hx⟩,MT⟩⟩
 rintro _ ⟨t,r,w,x,hz,rfl,lz,q1,q2,q3,hx⟩;dsimp only;have dn:=YN (x:=5) (y:=3) (by constructor<;>decide) (by constructor<;>decide);have ds:=VJ 5 3;rw[if_pos rfl]at ds;refine⟨λz=>∃hy,z=(x,0,0,m,hy)/\PH.le h hy/\yG hy x [⟨0,false,0,[jO 1],2⟩,⟨0,true,0,[jO 1],2⟩],?_,?_⟩
 .repeat' (first|refine And.intro ?_ ?_ |refine⟨_,rfl,?_⟩|fail)
  all_goals
   intro o h7 le7 ro n h8 le8 rn ch h9 le9 rch;refine⟨⟨0,t⟩,eC,r,eC,w,ch,gS,[],[wL],[],_,_,[gC 5 3],rfl,q1.mono (le7.trans (le8.trans le9)),q2.mono (le7.trans (le8.trans le9)),aR.nil _ _ _ _,q3.mono (le7.trans (le8.trans le9)),VM (ro.mono (le8.trans le9)) (rn.mono le9) rch,ht,dn,λhd led=>⟨(x,0,0,m,hd),⟨hd,rfl,lz.trans (le7.trans (le8.trans (le9.trans led))),aR.mono hx (le7.trans (le8.trans (le9.trans led))) λ_ _ y=>y.mono (le7.trans (le8.trans (le9.trans led)))⟩,?_⟩⟩;rw[ds];exact MT
 rintro _ ⟨hy,rfl,ly,hx2⟩;dsimp only;have hl:x.len=2:=aR.slen hx2;obtain⟨b1,o1,d1,e1,r1,k1⟩:=aR.at hx2 (i:=0) rfl;obtain⟨b2,o2,d2,e2,r2,k2⟩:=aR.at hx2 (i:=1) rfl;have hk:d1.key.len=1:=aR.slen k1.key_;refine aB (λ_=>aB (λ_=>aB (λ_=>⟨b1,o1,e1,by decide,aC,d1.column,.imm (bF.part r1 4 1),aB (λ_=>⟨b1,o1,e1,by decide,aC,d1.after,.imm (bF.part r1 1 1),aB (λ_=>⟨b2,o2,e2,by decide,aC,d2.after,.imm (bF.part r2 1 1),aB (λ_=>⟨b1,o1,e1,by decide,aC,d1.key,.imm (bF.part r1 3 1),?_⟩) (λe=>?_)⟩) (λe=>?_)⟩) (λe=>?_)⟩) (λe=>?_)) (λe=>?_)) (λe=>?_)
 .rw[hk];exact .out (Sub.refl m) ly hK
 .rw[k2.aft_]at e;cases e
 .rw[k1.aft_]at e;cases e
 .rw[k1.col_]at e;cases e
 .rw[hl]at e;cases e
 .cases e
 .cases e
def pS:jR:=⟨0,[⟨⟨⟨[112,114,111,106,101,99,116,115]⟩⟩,[⟨⟨⟨[105,100]⟩⟩,4⟩,⟨⟨⟨[111,119,110,101,114]⟩⟩,4⟩],1,[],[]⟩,⟨⟨⟨[116,97,115,107,115]⟩⟩,[⟨⟨⟨[105,100]⟩⟩,4⟩,⟨⟨⟨[112,114,111,106,101,99,116]⟩⟩,4⟩],1,[],[]⟩]⟩
theorem ID:cZ pS=0:=Vh (by decide) (λt ht=>by
 simp[pS]at ht;rcases ht with rfl|rfl<;>exact⟨by simp,rfl,rfl⟩) (by decide) (by decide) (by
 refine CT ⟨⟨?_,?_,?_,?_,CT ⟨⟨?_,?_,?_⟩,⟨?_,?_,?_⟩,trivial⟩⟩,⟨?_,?_,?_,?_,CT ⟨⟨?_,?_,?_⟩,⟨?_,?_,?_⟩,trivial⟩⟩,trivial⟩
 all_goals first|rfl|(simp;done)|decide)
def oC(i:Int):OV:=⟨1,i,zeroV⟩
def oP(i:Int):OV:=⟨2,i,zeroV⟩
def pW:Pred:=.mk 3 1 (oC 1) (oP 0) []
def Oy(w:Pred):Query:=.mk 2 0 w [] [] [] [] 0 [.mk 1 0 jS [] [] [] [] 0 []]
def FK(w:Pred):Query:=.mk 3 0 jS [0] [] [] [] 0 [Oy w]
def KJ(w:Pred):Query:=.mk 5 0 jS [] [(1,0)] [] [] 0 [.mk 1 1 jS [] [] [] [] 0 [],Oy w]
def FJ(w:Pred):Query:=.mk 3 0 jS [0] [] [] [] 0 [KJ w]
def KL:vW:=⟨2,0,[],FK pW⟩
def KK:vW:=⟨2,1,[],FJ pW⟩
def bW(c:Int):Pred:=.mk 3 1 (oC 1) ⟨3,0,jO c⟩ []
theorem WO(c:Int):dW [jO c] (FK pW)=FK (bW c):=by rfl
theorem WN(c:Int):dW [jO c] (FJ pW)=FJ (bW c):=by rfl
theorem kT0:iB pS 0=[4,4]:=rfl
theorem kT1:iB pS 1=[4,4]:=rfl
theorem KT(hw:gZ [4,4] ps w=0):cR pS ps (Oy w)=([4,4],0):=by
 have:=DO (s:=pS) (ps:=ps) (t:=0) (by decide) (by decide) (by rw[kT0];decide);rw[kT0]at this;exact kinds_filter this hw (by decide)
theorem I8(hw:gZ [4,4] ps w=0):cR pS ps (FK w)=([4],0):=yT (KT hw) (by decide) (by decide) (by decide)
theorem Qq(hw:gZ [4,4] ps w=0):cR pS ps (KJ w)=([4,4],0):=by
 have h1:=DO (s:=pS) (ps:=ps) (t:=1) (by decide) (by decide) (by rw[kT1];decide);rw[kT1]at h1;unfold KJ;rw[TK (by decide) h1 (KT hw)];unfold kW;rw[if_neg (by simp[arity,eN])];dsimp only;rw[if_neg (by decide),if_neg (by decide),if_neg (by decide),if_neg (by decide),if_pos rfl,if_pos,HY (by decide)];exact CT ⟨⟨by decide,by decide,rfl,by simp⟩,trivial⟩
theorem I7(hw:gZ [4,4] ps w=0):cR pS ps (FJ w)=([4],0):=yT (Qq hw) (by decide) (by decide) (by decide)
theorem Z9:oX [4,4] ⟨1,1,zeroV⟩=4:=by simp[oX,P6,zeroV]
theorem adJ:oX [4] ⟨2,0,zeroV⟩=4:=by simp[oX,P6,zeroV]
theorem Vp:gZ [4,4] [4] pW=0:=by
 have h1:qY pW 0<=24:=by decide
 have h2:uA pW 8=false:=by decide
 have h3:lQ [4,4] [4] pW=true:=by simp[lQ,pW,oC,oP,kindOf,Z9,adJ]
 unfold gZ;rw[if_neg (by decide),if_neg (by rw[h2];simp;omega),if_neg (by rw[h3];decide)]
theorem Nt(c:Int):gZ [4,4] [] (bW c)=0:=by
 have h1:qY (bW c) 0=qY pW 0:=by rfl
 have h2:uA (bW c) 8=uA pW 8:=by rfl
 have h3:lQ [4,4] [] (bW c)=true:=by simp[lQ,bW,oC,kindOf,jO,jD,Mt,Z9]
 have h4:qY pW 0<=24:=by decide
 have h5:uA pW 8=false:=by decide
 unfold gZ;rw[if_neg (by decide),if_neg (by rw[h1,h2,h5];simp;omega),if_neg (by rw[h3];decide)]
theorem ZS:fC pS [4] (FK pW)=([4],0):=by
 unfold fC;rw[if_pos ID,if_pos (by rfl),if_pos (by rfl),I8 Vp]
theorem ZR:fC pS [4] (FJ pW)=([4],0):=by
 unfold fC;rw[if_pos ID,if_pos (by rfl),if_pos (by rfl),I7 Vp]
theorem YT(c:Int):fC pS [] (FK (bW c))=([4],0):=Iz ID (by rfl) (I8 (Nt c))
theorem YR(c:Int):fC pS [] (FJ (bW c))=([4],0):=Iz ID (by rfl) (I7 (Nt c))
theorem ZT:sN pS [4] [KL,KK]=0:=by
 have f1:pX pS KL=true:=by decide
 have f2:pX pS KK=true:=by decide
 have r1:jI pS [4] KL=0:=by
  unfold jI;rw[if_neg (by rw[f1];decide),show KL.query=FK pW from rfl,ZS,if_neg (by simp)];exact if_pos rfl
 have r2:jI pS [4] KK=0:=by
  unfold jI;rw[if_neg (by rw[f2];decide),show KK.query=FJ pW from rfl,ZR,if_neg (by simp)];exact if_pos rfl
 unfold sN;rw[if_neg (by simp[ID]),if_neg (by simp),if_neg (by decide)];show jE [jI pS [4] KL,jI pS [4] KK]=0;rw[r1,r2];rfl
theorem ZU(c:Int):wC [4] [jO c]=true:=by
 simp[wC,jO,jD,Mt,List.range_succ]
def sX(x y:Int):List VV:=[jO x,jO y]
def lH(z:Int×Int×Int):sC:=⟨z.1,[],sX z.2.1 z.2.2⟩
theorem SD{t:Int}(ht:t=0\/t=1)(x y:Int):dK pS t (sX x y)=[jO x]:=by rcases ht with rfl|rfl<;>rfl
theorem TP{t:Int}(ht:t=0\/t=1)(x y:Int):mW 1 pS t (sX x y)=true:=by
 have e:∃tb,pS.tables[t.toNat]? =some tb/\gY pS t=true/\tb.columns.length=2/\∀i,i<2->(tb.columns.getD i ⟨⟨#[]⟩,0⟩).kind=4:=by
  rcases ht with rfl|rfl
  .exact⟨_,rfl,by decide,rfl,λi hi=>by
    match i,hi with
    |0,_=>rfl
    |1,_=>rfl⟩
  .exact⟨_,rfl,by decide,rfl,λi hi=>by
    match i,hi with
    |0,_=>rfl
    |1,_=>rfl⟩
 obtain⟨tb,e1,e2,e3,e4⟩:=e;rw[vY e1 e2];refine qP.2 ⟨e3.symm,λi hi=>?_⟩;have hi:i<2:=hi;rw[e4 i hi]
 match i,hi with
 |0,_=>exact(pV _ 0 x 1).2
 |1,_=>exact(pV _ 1 y 1).2
theorem Zy(z:Int×Int×Int)(ht:z.1=0\/z.1=1):yW 1 pS (lH z)=true:=by
 have h1:gY pS z.1=true:=by rcases ht with e|e<;>rw[e]<;>decide
 have h2:=TP ht z.2.1 z.2.2;simp only[yW,lH,h1,h2,Bool.or_true,Bool.and_true,Bool.true_and];rfl
structure NB(st:List (List (List VV))):Prop where
 len:st.length=2
 up:∀(j:Nat) l,st[j]? =some l->P7 (dK pS j) l
 row:∀l∈st,∀r∈l,∃x y,r=sX x y
theorem Fq{a b:Int}(h:jO a=jO b):a=b:=by injection h
theorem L9:∀(zs:List (Int×Int×Int))(st:List (List (List VV))),NB st->(∀z∈zs,z.1=0\/z.1=1)->zs.Pairwise (λz w=>z.1≠w.1\/z.2.1≠w.2.1)->(∀z∈zs,∀x y,sX x y∈st.getD z.1.toNat []->x≠z.2.1)->cT st+(zs.length:Int)<=512->
 ∃st2,wR 1 pS st (cT st) (zs.map lH)=(st2,0)/\NB st2/\cT st2=cT st+(zs.length:Int)/\∀(j:Nat),j<2->∀r,r∈st2.getD j []↔r∈st.getD j []\/∃z∈zs,z.1=j/\sX z.2.1 z.2.2=r
 |[],st,h,_,_,_,_=>⟨st,rfl,h,by simp,λj _ r=>by simp⟩
 |z::zs,st,h,h1,h2,h3,h4=>by
  have hz:=h1 z (List.mem_cons_self ..);have htn:((z.1.toNat:Nat):Int)=z.1:=Int.toNat_of_nonneg aC;have hlt:z.1.toNat<st.length:=by rw[h.len];omega
  obtain⟨l,hl⟩:∃l,st[z.1.toNat]? =some l:=⟨_,List.getElem?_eq_getElem hlt⟩
  have hg:st.getD z.1.toNat []=l:=by rw[List.getD_eq_getElem?_getD,hl];rfl
  have hu:=h.up _ _ hl;rw[htn]at hu
  have hf:∀r∈l,dK pS (lH z).tab r≠dK pS (lH z).tab (lH z).new:=λr hr e=>by
   obtain⟨x,y,rfl⟩:=h.row l (List.mem_of_getElem? hl) r hr;have e:dK pS z.1 (sX x y)=dK pS z.1 (sX z.2.1 z.2.2):=e;rw[SD hz,SD hz]at e;simp only[List.cons.injEq,and_true]at e;exact h3 z (List.mem_cons_self ..) x y (by rw[hg];exact hr) (Fq e)
  obtain⟨l',e1,e2,e3,e4⟩:=TO (s:=pS) (c:=lH z) rfl (by show(0:Nat)<2;decide) hu hf;have hcnt:=count_set (l':=l') hl;rw[List.length_cons]at h4
  have hT:NB (st.set z.1.toNat l'):=by
   refine⟨by rw[List.length_set];exact h.len,λj y hy=>?_,λy hy r hr=>?_⟩
   .rw[List.getElem?_set]at hy;split at hy
    .rename_i hj;subst hj
     first
      |(cases hy;rw[htn];exact e2)
      |(rw[if_pos hlt]at hy;cases hy;rw[htn];exact e2)
    .exact h.up j y hy
   .rcases List.mem_or_eq_of_mem_set hy with hy|rfl
    .exact h.row y hy r hr
    .rcases(e3 r).1 hr with rfl|hr
     .exact⟨_,_,rfl⟩
     .exact h.row l (List.mem_of_getElem? hl) r hr
  have hgd:∀j,j<2->(st.set z.1.toNat l').getD j []=if z.1.toNat=j then l' else st.getD j []:=λj hj=>by
   rw[List.getD_eq_getElem?_getD,List.getElem?_set];by_cases e:z.1.toNat=j
   .rw[if_pos e,if_pos e,if_pos hlt];rfl
   .rw[if_neg e,if_neg e, <-List.getD_eq_getElem?_getD]
  have hpw:=List.pairwise_cons.1 h2
  obtain⟨st2,g1,g2,g3,g4⟩:=L9 zs (st.set z.1.toNat l') hT (λw hw=>h1 w (List.mem_cons_of_mem _ hw)) hpw.2 (λw hw x y hr=>by
   have hw1:=h1 w (List.mem_cons_of_mem _ hw);rw[hgd w.1.toNat aC]at hr;split at hr
   .rename_i he;rcases(e3 _).1 hr with e|hr
    .have e:sX x y=sX z.2.1 z.2.2:=e;simp only[sX,List.cons.injEq,and_true]at e;have hx:=Fq e.1;rcases hpw.1 w hw with hn|hn
     .exact absurd (by omega:z.1=w.1) hn
     .rw[hx];exact hn
    .exact h3 w (List.mem_cons_of_mem _ hw) x y (by rw[<-he,hg];exact hr)
   .exact h3 w (List.mem_cons_of_mem _ hw) x y hr) (by rw[hcnt,e4];push_cast;omega)
  rw[hcnt,e4]at g1 g3;refine⟨st2,?_,g2,by rw[g3,List.length_cons];push_cast;omega,λj hj r=>?_⟩
  .rw[List.map_cons,wR,if_neg (by rw[Zy z hz];decide)];rw[show st.getD (lH z).tab.toNat []=l from hg,e1];dsimp only;rw[if_neg (by rw[e4];push_cast;omega),e4];exact g1
  .rw[g4 j hj,hgd j hj];split
   .rename_i he;rw[e3, <-he,hg];constructor
    .rintro((e|e)|⟨w,hw,k1,k2⟩)
     .exact .inr ⟨z,List.mem_cons_self ..,aC,e.symm⟩
     .exact .inl e
     .exact .inr ⟨w,List.mem_cons_of_mem _ hw,k1,k2⟩
    .rintro(e|⟨w,hw,k1,k2⟩)
     .exact .inl (.inr e)
     .rcases List.mem_cons.1 hw with rfl|hw
      .exact .inl (.inl k2.symm)
      .exact .inr ⟨w,hw,k1,k2⟩
   .rename_i he;constructor
    .rintro(e|⟨w,hw,k1,k2⟩)
     .exact .inl e
     .exact .inr ⟨w,List.mem_cons_of_mem _ hw,k1,k2⟩
    .rintro(e|⟨w,hw,k1,k2⟩)
     .exact .inl e
     .rcases List.mem_cons.1 hw with rfl|hw
      .exact absurd aC he
      .exact .inr ⟨w,hw,k1,k2⟩
theorem SA{st:List (List (List VV))}{x:List VV}:x∈nX st (Oy w)↔x∈st.getD 0 []/\iC x w=true:=by
 simp only[Oy,nX,Ei,Vv,show((2:Int)=1)=False by simp,if_false,if_true,CX];exact List.mem_filter
theorem Zw{st:List (List (List VV))}{x:List VV}:x∈nX st (FK w)↔∃r,(r∈st.getD 0 []/\iC r w=true)/\pick r [0]=x:=by
 have e:nX st (FK w)=yI ((nX st (Oy w)).map λr=>pick r [0]):=by
  simp only[FK,nX,Ei,Vv,show((3:Int)=1)=False by simp,show((3:Int)=2)=False by simp,if_false,if_true,IA];rfl
 rw[e,y9,List.mem_map];simp only[SA]
theorem Zv{st:List (List (List VV))}{x:List VV}:x∈nX st (FJ w)↔∃r,(r∈st.getD 1 []/\∃p,(p∈st.getD 0 []/\iC p w=true)/\agree [(1,0)] r p=true)/\pick r [0]=x:=by
 have e1:∀r,r∈nX st (KJ w)↔r∈st.getD 1 []/\((nX st (Oy w)).any λy=>agree [(1,0)] r y)=true:=λr=>by
  simp only[KJ,nX,Ei,Vv,show((5:Int)=1)=False by simp,show((5:Int)=2)=False by simp,show((5:Int)=3)=False by simp,show((5:Int)=4)=False by simp,if_false,if_true,KA];exact List.mem_filter
 have e:nX st (FJ w)=yI ((nX st (KJ w)).map λr=>pick r [0]):=by
  simp only[FJ,nX,Ei,Vv,show((3:Int)=1)=False by simp,show((3:Int)=2)=False by simp,if_false,if_true,IA];rfl
 rw[e,y9,List.mem_map];simp only[e1,List.any_eq_true,SA]
theorem H0(x y c:Int):iC (sX x y) (bW c)=(y==c):=by
 have e1:GD (sX x y) (oC 1)=jO y:=rfl;have e2:GD (sX x y) ⟨3,0,jO c⟩=jO c:=rfl;have e3:∀n,jD (jO n)=true:=λn=>by simp[jD,jO,Mt]
 simp only[iC,bW];rw[if_neg (by decide),if_pos trivial,e1,e2];unfold BN;rw[e3,e3];show(j4 (jO y) (jO c)==0)=(y==c)
 rw[Bool.eq_iff_iff,beq_iff_eq,Dc,beq_iff_eq];exact⟨Fq,λh=>by rw[h]⟩
theorem YF(x y z w:Int):agree [(1,0)] (sX x y) (sX z w)=(y==z):=by
 rw[Bool.eq_iff_iff,Mc];show[jO y]=[jO z]↔_;simp[jO]
theorem MQ(x y:Int):pick (sX x y) [0]=[jO x]:=rfl
structure Me(st:List (List (List VV)))(a b:Int)(ts:List Int):Prop where
 t0:∀r,r∈st.getD 0 []↔r=sX a b
 t1:∀r,r∈st.getD 1 []↔∃t∈ts,r=sX t a
theorem Zm{st:List (List (List VV))}{a b c:Int}{ts:List Int}(h:Me st a b ts)(x:Int):[jO x]∈nX st (FK (bW c))↔x=a/\b=c:=by
 rw[Zw];constructor
 .rintro⟨r,⟨h1,h2⟩,h3⟩;obtain rfl:=(h.t0 r).1 h1;rw[H0]at h2;rw[MQ]at h3;simp only[List.cons.injEq,and_true]at h3;exact⟨(Fq h3).symm,by simpa using h2⟩
 .rintro⟨rfl,rfl⟩;exact⟨sX x b,⟨(h.t0 _).2 rfl,by rw[H0];simp⟩,MQ x b⟩
theorem Zl{st:List (List (List VV))}{a b c:Int}{ts:List Int}(h:Me st a b ts)(x:Int):[jO x]∈nX st (FJ (bW c))↔x∈ts/\b=c:=by
 rw[Zv];constructor
 .rintro⟨r,⟨h1,p,⟨h2,h3⟩,h4⟩,h5⟩;obtain⟨t,ht,rfl⟩:=(h.t1 r).1 h1;obtain rfl:=(h.t0 p).1 h2;rw[H0]at h3;rw[MQ]at h5;simp only[List.cons.injEq,and_true]at h5;exact⟨by rw[<-Fq h5];exact ht,by simpa using h3⟩
 .rintro⟨hx,rfl⟩;exact⟨sX x a,⟨(h.t1 _).2 ⟨x,hx,rfl⟩,sX a b,⟨(h.t0 _).2 rfl,by rw[H0];simp⟩,by rw[YF];simp⟩,MQ x a⟩
theorem Vq{t:zN}(h:pS.tables[i]? =some t):i<2/\t.key=1/\t.columns.length=2/\∀j,j<2->(t.columns.getD j ⟨⟨#[]⟩,0⟩).kind=4:=by
 match i,h with
 |0,h=>
  simp[pS]at h;subst h
  exact⟨by decide,rfl,rfl,λj hj=>by
   match j,hj with
   |0,_=>rfl
   |1,_=>rfl⟩
 |1,h=>
  simp[pS]at h;subst h
  exact⟨by decide,rfl,rfl,λj hj=>by
   match j,hj with
   |0,_=>rfl
   |1,_=>rfl⟩
 |i+2,h=>simp[pS]at h
theorem Sj{st:List (List (List VV))}(h:NB st)(hc:cT st<=512):sF pS st=0:=by
 unfold sF;rw[if_neg (by simp[ID]),if_neg (by unfold cT at hc;omega),if_neg (by rw[h.len];decide),if_pos];intro i t l ht hl;obtain⟨_,_,k2,k3⟩:=Vq ht;refine⟨λr hr=>?_,λj r r' e1 e2=>?_⟩
 .obtain⟨x,y,rfl⟩:=h.row l (List.mem_of_getElem? hl) r hr;refine BS.2 ⟨k2.symm,λj hj=>?_⟩;have hj:j<2:=hj;rw[k3 j hj]
  match j,hj with
  |0,_=>exact(pV _ 0 x 1).1
  |1,_=>exact(pV _ 1 y 1).1
 .have:=Mv (h.up i l hl) (Nat.lt_succ_self j) e1 e2;rw[oF ht,oF ht]at this;exact this
theorem U9{st:List (List (List VV))}(h:NB st)(hc:cT st<=512):p8 1 pS st=0:=by
 unfold p8;rw[if_neg (by simp[ID]),if_neg (by unfold cT at hc;omega),if_neg (by rw[h.len];decide),if_pos];intro i t l ht hl;obtain⟨_,_,k2,k3⟩:=Vq ht;refine⟨λr hr=>?_,λj r r' e1 e2=>?_⟩
 .obtain⟨x,y,rfl⟩:=h.row l (List.mem_of_getElem? hl) r hr;refine qP.2 ⟨k2.symm,λj hj=>?_⟩;have hj:j<2:=hj;rw[k3 j hj]
  match j,hj with
  |0,_=>exact(pV _ 0 x 1).2
  |1,_=>exact(pV _ 1 y 1).2
 .have:=Mv (h.up i l hl) (Nat.lt_succ_self j) e1 e2;rw[oF ht,oF ht]at this;exact this
theorem HC{st:List (List (List VV))}{ks:List Int}(h:NB st)(hc:cT st<=512)(hv:YU st)(hq:fC pS [] q=(ks,0))(hk:cR pS [] q=(ks,0))(hl:∀l∈st,l.length<=8)(hb:qK 8 q<=8000000):
 gV pS st q=(nX st q,0)/\gP (nX st q)/\(nX st q).length<=8000000/\B8 st q:=by
 obtain⟨_,_,rel,len⟩:=Vg (Sj h hc) hv hl (by decide) hk hb;refine⟨?_,rel.srt,len,8,by decide,hl,hb⟩;unfold gV;rw[hq,if_neg (by simp),if_neg (by rw[Sj h hc];decide)]
structure Dk(a b:Int)(ts:List Int)(zs:List (Int×Int×Int)):Prop where
 mem:∀z,z∈zs↔z=(0,a,b)\/∃t∈ts,z=(1,t,a)
 pw:zs.Pairwise λz w=>z.1≠w.1\/z.2.1≠w.2.1
 len:zs.length<=5
 ia:Dl a
 ib:Dl b
 it:∀t∈ts,Dl t
theorem Dk.tab{a b:Int}{ts:List Int}{zs:List (Int×Int×Int)}(h:Dk a b ts zs):∀z∈zs,z.1=0\/z.1=1:=λz hz=>by
 rcases(h.mem z).1 hz with rfl|⟨t,_,rfl⟩
 .exact .inl rfl
 .exact .inr rfl
theorem TI{st:List (List (List VV))}{l:List (List VV)}(hl:l∈st):(l.length:Int)<=cT st:=by
 obtain⟨j,hj⟩:=List.mem_iff_getElem?.1 hl;exact Fu hj
theorem Tu{a b:Int}{ts:List Int}{zs:List (Int×Int×Int)}(h:Dk a b ts zs):∃st,qL 1 pS [[],[]] (zs.map lH)=(st,0)/\NB st/\Me st a b ts/\cT st<=5/\YU st:=by
 have h0:NB [[],[]]:=⟨rfl,λj l hl=>by
  match j,hl with
  |0,hl=>simp at hl;subst hl;exact List.Pairwise.nil
  |1,hl=>simp at hl;subst hl;exact List.Pairwise.nil
  |j+2,hl=>simp at hl,λl hl r hr=>by simp at hl;subst hl;simp at hr⟩
 have hg:∀j,(([[],[]]:List (List (List VV))).getD j [])=[]:=λj=>by
  match j with
  |0=>rfl
  |1=>rfl
  |j+2=>rfl
 have hlen:=h.len;have hc0:cT [[],[]]=0:=rfl;obtain⟨st,e1,e2,e3,e4⟩:=L9 zs [[],[]] h0 h.tab h.pw (λz _ x y hr=>by rw[hg]at hr;simp at hr) (by rw[hc0];omega)
 have m0:∀j<2,∀r,r∈st.getD j []↔∃z∈zs,z.1=j/\sX z.2.1 z.2.2=r:=λj hj r=>by
  rw[e4 j hj,hg];simp
 have T:Me st a b ts:=⟨λr=>by
  rw[m0 0 (by decide)];constructor
  .rintro⟨z,hz,k1,k2⟩;rcases(h.mem z).1 hz with rfl|⟨t,_,rfl⟩
   .exact k2.symm
   .cases k1
  .rintro rfl;exact⟨(0,a,b),(h.mem _).2 (.inl rfl),rfl,rfl⟩,λr=>by
  rw[m0 1 (by decide)];constructor
  .rintro⟨z,hz,k1,k2⟩;rcases(h.mem z).1 hz with rfl|⟨t,ht,rfl⟩
   .cases k1
   .exact⟨t,ht,k2.symm⟩
  .rintro⟨t,ht,rfl⟩;exact⟨(1,t,a),(h.mem _).2 (.inr ⟨t,ht,rfl⟩),rfl,rfl⟩⟩
 have i4:Dl 4:=by constructor<;>decide
 have iN:∀n,Dl n->Dl (jO n).kind/\Dl (jO n).int:=λn hn=>⟨i4,hn⟩
 refine⟨st,?_,e2,T,by rw[e3,hc0];omega,λl hl r hr v hv=>?_⟩
 .unfold qL;rw[if_neg (by rw[U9 h0 (by rw[hc0];decide)];decide)];exact e1
 .obtain⟨j,hj⟩:=List.mem_iff_getElem?.1 hl;have hj2:j<2:=by have:=(List.getElem?_eq_some_iff.1 hj).1;have:=e2.len;omega
  have hrd:r∈st.getD j []:=by rw[List.getD_eq_getElem?_getD,hj];exact hr
  obtain⟨z,hz,_,rfl⟩:=(m0 j hj2 r).1 hrd;simp[sX]at hv;rcases(h.mem z).1 hz with rfl|⟨t,ht,rfl⟩
  .rcases hv with rfl|rfl
   .exact iN _ h.ia
   .exact iN _ h.ib
  .rcases hv with rfl|rfl
   .exact iN _ (h.it t ht)
   .exact iN _ h.ia
theorem L3:NB [[],[]]:=⟨rfl,λj l hl=>by
 match j,hl with
 |0,hl=>simp at hl;subst hl;exact List.Pairwise.nil
 |1,hl=>simp at hl;subst hl;exact List.Pairwise.nil
 |j+2,hl=>simp at hl,λl hl r hr=>by simp at hl;subst hl;simp at hr⟩
theorem Xr{a b c:Int}{ts:List Int}{zs:List (Int×Int×Int)}(h:Dk a b ts zs):∃st,qQ pS [4] [KL,KK] [jO c] [[],[]] st (zs.map lH)/\Me st a b ts/\gV pS st (FK (bW c))=(nX st (FK (bW c)),0)/\gV pS st (FJ (bW c))=(nX st (FJ (bW c)),0):=by
 obtain⟨st,e1,e2,T,e3,e4⟩:=Tu h;have k1:=I8 (Nt c);have k2:=I7 (Nt c);have l2:∀l∈st,l.length<=8:=λl hl=>by have:=TI hl;omega
 have v0:YU [[],[]]:=λl hl r hr=>by simp at hl;subst hl;simp at hr
 have l0:∀l∈([[],[]]:List (List (List VV))),l.length<=8:=λl hl=>by simp at hl;subst hl;simp
 have a1:=HC L3 (by decide) v0 (YT c) k1 l0 (Nat.le_of_ble_eq_true rfl);have a2:=HC L3 (by decide) v0 (YR c) k2 l0 (Nat.le_of_ble_eq_true rfl);have b1:=HC e2 aC e4 (YT c) k1 l2 (Nat.le_of_ble_eq_true rfl);have b2:=HC e2 aC e4 (YR c) k2 l2 (Nat.le_of_ble_eq_true rfl);have hlen:=h.len;refine⟨st,⟨ZT,ZU c,e1,λr hr _=>?_,λr hr _=>?_,e4,by rw[e2.len];decide,λx hx=>?_,by rw[List.length_map];omega,by decide⟩,T,b1.1,b2.1⟩
 .simp at hr;rcases hr with rfl|rfl
  .show(gV pS [[],[]] (dW [jO c] (FK pW))).2=0/\gP (gV pS [[],[]] (dW [jO c] (FK pW))).1/\(gV pS [[],[]] (dW [jO c] (FK pW))).1.length<=8000000/\B8 [[],[]] (dW [jO c] (FK pW));rw[WO,a1.1];exact⟨rfl,a1.2⟩
  .show(gV pS [[],[]] (dW [jO c] (FJ pW))).2=0/\gP (gV pS [[],[]] (dW [jO c] (FJ pW))).1/\(gV pS [[],[]] (dW [jO c] (FJ pW))).1.length<=8000000/\B8 [[],[]] (dW [jO c] (FJ pW));rw[WN,a2.1];exact⟨rfl,a2.2⟩
 .simp at hr;rcases hr with rfl|rfl
  .show(gV pS st (dW [jO c] (FK pW))).2=0/\gP (gV pS st (dW [jO c] (FK pW))).1/\(gV pS st (dW [jO c] (FK pW))).1.length<=8000000/\B8 st (dW [jO c] (FK pW));rw[WO,b1.1];exact⟨rfl,b1.2⟩
  .show(gV pS st (dW [jO c] (FJ pW))).2=0/\gP (gV pS st (dW [jO c] (FJ pW))).1/\(gV pS st (dW [jO c] (FJ pW))).1.length<=8000000/\B8 st (dW [jO c] (FJ pW));rw[WN,b2.1];exact⟨rfl,b2.2⟩
 .obtain⟨z,_,rfl⟩:=List.mem_map.1 hx;exact⟨by simp[lH],by show 2<=1000;decide,λhn=>absurd rfl hn⟩
theorem N2{zs:List (Int×Int×Int)}{z:Int×Int×Int}(hz:z∈zs):jG (zs.map lH) z.1=true:=List.any_eq_true.2 ⟨lH z,List.mem_map_of_mem hz,by simp[lH]⟩
theorem Tt{a b c:Int}{ts:List Int}{zs:List (Int×Int×Int)}{st:List (List (List VV))}(h:Dk a b ts zs)(T:Me st a b ts)(e1:gV pS st (FK (bW c))=(nX st (FK (bW c)),0))(e2:gV pS st (FJ (bW c))=(nX st (FJ (bW c)),0)){z:Int×Int×Int}(hz:z∈zs):gW (kJ pS [jO c] [[],[]] st (zs.map lH) [KL,KK] z.1) [jO z.2.1] true (-1)=(b==c):=by
 have ht:=N2 hz;rcases(h.mem z).1 hz with rfl|⟨t,hts,rfl⟩
 .have e:kJ pS [jO c] [[],[]] st (zs.map lH) [KL,KK] 0=[⟨[],(gV pS [[],[]] (FK (bW c))).1,nX st (FK (bW c))⟩]:=by
   have ht:jG (zs.map lH) 0=true:=ht;unfold kJ;rw[show[KL,KK].filter (λr=>r.kind==2&&jG (zs.map lH) r.table&&r.table==0)=[KL]by simp[KL,KK,ht]];show[(⟨[],(gV pS [[],[]] (dW [jO c] (FK pW))).1,(gV pS st (dW [jO c] (FK pW))).1⟩:Wr)]=_;rw[WO,e1]
  show gW (kJ pS [jO c] [[],[]] st (zs.map lH) [KL,KK] 0) [jO a] true (-1)=_;rw[e,Bool.eq_iff_iff];simp only[gW,List.any_cons,List.any_nil,Bool.or_false,Bool.and_eq_true,if_true,CS,Zm T,beq_iff_eq];simp
 .have e:kJ pS [jO c] [[],[]] st (zs.map lH) [KL,KK] 1=[⟨[],(gV pS [[],[]] (FJ (bW c))).1,nX st (FJ (bW c))⟩]:=by
   have ht:jG (zs.map lH) 1=true:=ht;unfold kJ;rw[show[KL,KK].filter (λr=>r.kind==2&&jG (zs.map lH) r.table&&r.table==1)=[KK]by simp[KL,KK,ht]];show[(⟨[],(gV pS [[],[]] (dW [jO c] (FJ pW))).1,(gV pS st (dW [jO c] (FJ pW))).1⟩:Wr)]=_;rw[WN,e2]
  show gW (kJ pS [jO c] [[],[]] st (zs.map lH) [KL,KK] 1) [jO t] true (-1)=_;rw[e,Bool.eq_iff_iff];simp only[gW,List.any_cons,List.any_nil,Bool.or_false,Bool.and_eq_true,if_true,CS,Zl T,beq_iff_eq];simp[hts]
theorem VG{z:Int×Int×Int}(hz:z.1=0\/z.1=1):qR pS (lH z)=[jO z.2.1]:=by
 show dK pS z.1 (sX z.2.1 z.2.2)=_;exact SD hz _ _
theorem N3{wr:Int->List Wr}{d:Bool}:∀{zs:List (Int×Int×Int)}{i:Nat},(∀z∈zs,(z.1=0\/z.1=1)/\gW (wr z.1) [jO z.2.1] true (-1)=d)->pG pS wr (zs.map lH) i=if d=true then[]else(zs.zipIdx i).map λp=>⟨p.2,true,p.1.1,[jO p.1.2.1], -1⟩
 |[],i,_=>by simp[pG]
 |z::zs,i,h=>by
  obtain⟨h1,h2⟩:=h z (List.mem_cons_self ..);have ih:=N3 (wr:=wr) (d:=d) (zs:=zs) (i:=i+1) λw hw=>h w (List.mem_cons_of_mem _ hw);rw[List.map_cons,pG,ih]
  have e:Km pS (wr (lH z).tab) i (lH z)=if d=true then[]else[⟨i,true,z.1,[jO z.2.1], -1⟩]:=by
   unfold Km;rw[if_pos (show(lH z).old.length=0 from rfl),VG h1];show(if gW (wr z.1) [jO z.2.1] true (-1)=true then _ else _)=_;rw[h2];rfl
  rw[e];cases d<;>simp
structure iD where
 cols1:Sl
 cols2:Sl
 p1:Sl
 a1:Sl
 p2:Sl
 a2:Sl
def Xy(p a:Sl):QV:=⟨3,0,qT,p,⟨none,0,0⟩,⟨none,0,0⟩,⟨none,0,0⟩,0,a⟩
def nP:ByteArray:=⟨#[112,114,111,106,101,99,116,115]⟩
def nT:ByteArray:=⟨#[116,97,115,107,115]⟩
def Sk(t:iD):List (List Value):=[bS.enc ⟨nP,t.cols1,1,⟨none,0,0⟩,⟨none,0,0⟩⟩,bS.enc ⟨nT,t.cols2,1,⟨none,0,0⟩,⟨none,0,0⟩⟩]
def N4(t:iD):List (List Value):=[iO.enc ⟨2,0,⟨none,0,0⟩,Xy t.p1 t.a1⟩,iO.enc ⟨2,1,⟨none,0,0⟩,Xy t.p2 t.a2⟩]
def Ih(t:iD)(l:List dH):List (Nat×Go.Vc.Own):=[(12,.cells 29 [.val (.int .i64 0),.lst 35]),(14,.cells 34 [.lst 44,.lst 60]),(35,.lst 74 5 (Sk t)),(44,.lst 3 1 [[.int .i64 4]]),(60,.lst 70 24 (N4 t)),(68,.lst 84 3 (l.map dH.enc))]
noncomputable def ZD(a b c:Int)(sl:Sl)(z:Bool):Ctx:=dL [(23,NG),(16,FH),(18,Xl),(24,Y4)]
 [(7,{A:=Nat×Sl×iD×List dH×MH×PH,st:=λ⟨i,u,t,l,m,h⟩=>cM 184 189 [(0,iv a),(1,iv b),(2,iv c),(3,sv sl),(4,bv z),(12,.at (.ptr 12 0)),(14,.at (.ptr 14 0)),(15,.at (.lst 68)),(73,sv u),(74,iv u.len),(75,iv i)] (Ih t l) m h}),
  (11,{A:=Nat×Sl×Int×Bool×Nat×Sl×iD×List dH×MH×PH,st:=λ⟨j,w,x,d,i,u,t,l,m,h⟩=>cM 184 189 [(0,iv a),(1,iv b),(2,iv c),(3,sv sl),(4,bv z),(12,.at (.ptr 12 0)),(14,.at (.ptr 14 0)),(15,.at (.lst 68)),(17,iv x),(18,bv d),(73,sv u),(74,iv u.len),(75,iv i),(82,sv w),(83,iv w.len),(84,iv j)] (Ih t l) m h})]
 [(14,{A:=Nat×Sl×Int×Bool×Nat×Sl×iD×List dH×MH×PH,st:=λ⟨j,w,x,d,i,u,t,l,m,h⟩=>cM 184 189 [(0,iv a),(1,iv b),(2,iv c),(3,sv sl),(4,bv z),(12,.at (.ptr 12 0)),(14,.at (.ptr 14 0)),(15,.at (.lst 68)),(17,iv x),(18,bv d),(73,sv u),(74,iv u.len),(75,iv i),(82,sv w),(83,iv w.len),(84,iv j)] (Ih t l) m h}),
  (17,{A:=Nat×Sl×iD×List dH×MH×PH,st:=λ⟨i,u,t,l,m,h⟩=>cM 184 189 [(0,iv a),(1,iv b),(2,iv c),(3,sv sl),(4,bv z),(12,.at (.ptr 12 0)),(14,.at (.ptr 14 0)),(15,.at (.lst 68)),(73,sv u),(74,iv u.len),(75,iv i)] (Ih t l) m h}),
  (20,{A:=iD×List dH×MH×PH,st:=λ⟨t,l,m,h⟩=>cM 184 189 [(1,iv b),(2,iv c),(12,.at (.ptr 12 0)),(14,.at (.ptr 14 0)),(15,.at (.lst 68))] (Ih t l) m h}),
  (21,{A:=bN×Sl×Sl×Int×MH×PH,st:=λ⟨sc,ch,x,e,m,h⟩=>cM 184 189 [(1,iv b),(2,iv c),(12,.at (.ptr 12 0)),(15,sv ch),(21,sv x),(22,iv e)] [(12,.cells 29 (sc.enc.map .val))] m h})] [] false
noncomputable abbrev nJ(a:Nat×Sl×iD×List dH×MH×PH):Sl:=a.2.1
abbrev pM:Prop:=eQ (oQ 29 (iQ 0::Be (At.lst 35)))
abbrev pN:Prop:=eQ (oQ 34 (At.lst 44::Be (At.lst 60)))
noncomputable abbrev iX(a:iD):List (List Value):=mA (IZ nP a.cols1 1) (IZ nT a.cols2 1)
noncomputable abbrev lG(a:Nat×Sl×iD×List dH×MH×PH):iD:=a.2.2.1
abbrev pJ:Prop:=eQ (Option.some (Own.lst 3 1 (hX (bR 4))))
noncomputable abbrev iY(a:iD):List (List Value):=mA (BD nV a.p1 a.a1) (Bv (cJ 2) (cJ 1) nV (cJ 3) (MV a.p2 a.a2))
abbrev tI(a b:List (List Value)):Prop:=Option.some (Own.lst 84 3 a)=Option.some (Own.lst 84 3 b)
noncomputable abbrev BG(a:List dH×MH×PH):List (List Value):=List.map dH.enc a.1
noncomputable abbrev fW(a:Nat×Sl×iD×List dH×MH×PH):List (List Value):=BG a.2.2.2
noncomputable abbrev kP(a:Nat×Sl×iD×List dH×MH×PH):Nat->Option Obj:=a.2.2.2.2.1
noncomputable abbrev kQ(a:Nat×Sl×iD×List dH×MH×PH):Nat->Nat->Option Value:=a.2.2.2.2.2
noncomputable abbrev tU(a:Nat×Sl×Int×Bool×Nat×Sl×iD×List dH×MH×PH):Int:=a.2.2.1
noncomputable abbrev xQ(a:Nat×Sl×Int×Bool×Nat×Sl×iD×List dH×MH×PH):Bool:=a.2.2.2.1
noncomputable abbrev dX(a:Nat×Sl×Int×Bool×Nat×Sl×iD×List dH×MH×PH):Nat×Sl×iD×List dH×MH×PH:=a.2.2.2.2
noncomputable abbrev lX(a:Nat×Sl×Int×Bool×Nat×Sl×iD×List dH×MH×PH):Sl:=nJ (dX a)
noncomputable abbrev mR(a:Nat×Sl×Int×Bool×Nat×Sl×iD×List dH×MH×PH):Sl:=a.2.1
noncomputable abbrev l8(a:Nat×Sl×Int×Bool×Nat×Sl×iD×List dH×MH×PH):iD:=lG (dX a)
noncomputable abbrev xB(a:Nat×Sl×iD×List dH×MH×PH):Int:=qD (fW a).length 1
noncomputable abbrev tV(a:iD×List dH×MH×PH):Nat->Option Obj:=a.2.2.1
noncomputable abbrev AI(a:bN×Sl×Sl×Int×MH×PH):Sl:=a.2.2.1
noncomputable abbrev CM(a:bN×Sl×Sl×Int×MH×PH):Int:=a.2.2.2.1
noncomputable abbrev rC(a:bN×Sl×Sl×Int×MH×PH):Nat->Option Obj:=a.2.2.2.2.1
noncomputable abbrev qA(a:bN×Sl×Sl×Int×MH×PH):Nat->Nat->Option Value:=a.2.2.2.2.2
attribute [push_cast] nJ pM pN iX lG pJ iY tI BG fW kP kQ tU xQ dX lX mR l8 xB tV AI CM rC qA
def Nh(a b c:Int)(sl:Sl)(z:Bool)(m:MH)(h:PH)(K:CV->MH->PH->Prop):Prop:=
  aY h 2 (mA (xA HT) (xA (ByteArray.mk (Array.mk (eT 111 (eT 119 (eT 110 (eT 101 (eT 114 []))))))))) (λs h1=>aY h1 2 (mA (xA HT) (xA (ByteArray.mk (Array.mk (eT 112 (eT 114 (eT 111 (eT 106 (eT 101 (eT 99 (eT 116 []))))))))))) (λs1 h2=>aY h2 21 (hX (Bv (cJ 1) cK cK cK E4)) (λs2 h3=>aY h3 2 (hX (lP (cJ 1) cK)) (λs3 h4=>aY h4 21 (mA (Bv (cJ 1) (cJ 1) cK cK E4) (aJ (cJ 2) cK (aJ (cJ 3) (cJ 1) (aJ (cJ 1) (cJ 1) (aJ cK cK (xT (cJ 2) nV nV nV nV cK (aM s2))))))) (λs4 h5=>aY h5 1 (hX (l9 cK)) (λs5 h6=>aY h6 21 (hX (aJ (cJ 2) cK (aJ (cJ 3) (cJ 1) (aJ (cJ 1) (cJ 1) (aJ cK cK (xT (cJ 2) nV nV nV nV cK (aM s2))))))) (λs6
 h7=>aY h7 1 (hX (l9 cK)) (λs7 h8=>aY h8 21 (hX (Bv (cJ 5) cK cK cK (xT cK nV (bV s3) nV nV cK (aM s4)))) (λs8 h9=>EL a b (λn n1=>aY h9 3 (mA (uZ n) (uZ n1)) (λs9 a1=>aA (cQ (ite (4<aH sl) 4 (aH sl))) (rS (ite (4<aH sl) 4 (aH sl)) sl) (∃(I:Nat×Sl×iD×List dH×MH×PH->Prop)(m1:Nat×Sl×iD×List dH×MH×PH->Nat),(∃(x:Nat×Sl×iD×List dH×MH×PH),aA (I x) (aW a) (aA (aW b) (aW c) (aA (aL sl) (eQ (MJ z)) (aA (eP 12) (eP 14) (aA (eL 68) (SV.at (At.val (Value.slice sl.a (ite (4<aH sl) 4 (aH sl)).toNat sl.cap))=Ss (nJ x)) (aA (cF (ite (4<aH sl) 4 (aH sl)).toNat (nJ x).len) (bI x.1) (aA pM pN (aA (Option.some (Own.lst 74 5 (mA (IZ (ByteArray.mk
 (Array.mk (eT 112 (eT 114 (eT 111 (eT 106 (eT 101 (eT 99 (eT 116 (eT 115 [])))))))))) s 1) (Ap s1 1)))=Option.some (Own.lst 74 5 (iX (lG x)))) pJ (uW (Option.some (Own.lst 70 24 (mA (BD nV s5 s6) (Bv (cJ 2) (cJ 1) nV (cJ 3) (MV s7 s8))))=Option.some (Own.lst 70 24 (iY (lG x)))) (tI (hX (aJ cK nV (aM s9))) (fW x)) m (kP x) a1 (kQ x))))))))))/\∀(x:Nat×Sl×iD×List dH×MH×PH),I x->bE (↑x.1:Int) (aH (nJ x)) (∃(I1:Nat×Sl×iD×List dH×MH×PH->Prop),bK (λb1 o=>aA (bL (nJ x).a b1 o) (0<=(↑x.1:Int)) ((↑x.1:Int)<aH (nJ x)/\∃(y:Int),aA (aI (kP x) (kQ x) b1 (o+aZ x.1 1) (bR y)) (0<=(↑x.1:Int)) (rS (↑x.1:Int) sl/\∃(I2:Nat×Sl×Int×Bool×Nat×Sl×iD×List
 dH×MH×PH->Prop)(m2:Nat×Sl×Int×Bool×Nat×Sl×iD×List dH×MH×PH->Nat),(∃(x1:Nat×Sl×Int×Bool×Nat×Sl×iD×List dH×MH×PH),aA (I2 x1) (aW a) (aA (aW b) (aW c) (aA (aL sl) (eQ (MJ z)) (aA (eP 12) (eP 14) (aA (eL 68) (nI y (tU x1)) (aA (wE true (xQ x1)) (bA (nJ x) (lX x1)) (aA (cO (nJ x) (lX x1)) (cF x.1 (dX x1).1) (aA (SV.at (At.val (Value.slice sl.a (lE x.1) sl.cap))=Ss (mR x1)) (cF (lE x.1) (mR x1).len) (aA (bI x1.1) pM (aA pN (Option.some (Own.lst 74 5 (iX (lG x)))=Option.some (Own.lst 74 5 (iX (l8 x1)))) (aA pJ (Option.some (Own.lst 70 24 (iY (lG x)))=Option.some (Own.lst 70 24 (iY (l8 x1)))) (aA (tI (fW x) (fW (dX x1))) (kP x=kP (dX x1))
 (bP (kQ x) (kQ (dX x1)))))))))))))))/\∀(x1:Nat×Sl×Int×Bool×Nat×Sl×iD×List dH×MH×PH),I2 x1->bE (↑x1.1:Int) (aH (mR x1)) (∃(I3:Nat×Sl×Int×Bool×Nat×Sl×iD×List dH×MH×PH->Prop),bK (λb2 o1=>aA (bL (mR x1).a b2 o1) (0<=(↑x1.1:Int)) ((↑x1.1:Int)<aH (mR x1)/\∃(y1:Int),aI (kP (dX x1)) (kQ (dX x1)) b2 (o1+aZ x1.1 1) (bR y1)/\branch (xQ x1) (∃(x2:Nat×Sl×Int×Bool×Nat×Sl×iD×List dH×MH×PH),aA (I3 x2) (aW a) (aA (aW b) (aW c) (aA (aL sl) (eQ (MJ z)) (aA (eP 12) (eP 14) (aA (eL 68) (nI (tU x1) (tU x2)) (aA (wE (y1 !=tU x1) (xQ x2)) (bA (lX x1) (lX x2)) (aA (cO (lX x1) (lX x2)) (cF (dX x1).1 (dX x2).1) (aA (bA (mR x1)
 (mR x2)) (cO (mR x1) (mR x2)) (aA (cF x1.1 x2.1) pM (aA pN (Option.some (Own.lst 74 5 (iX (l8 x1)))=Option.some (Own.lst 74 5 (iX (l8 x2)))) (aA pJ (Option.some (Own.lst 70 24 (iY (l8 x1)))=Option.some (Own.lst 70 24 (iY (l8 x2)))) (aA (tI (fW (dX x1)) (fW (dX x2))) (kP (dX x1)=kP (dX x2)) (bP (kQ (dX x1)) (kQ (dX x2))))))))))))))) (∃(x2:Nat×Sl×Int×Bool×Nat×Sl×iD×List dH×MH×PH),aA (I3 x2) (aW a) (aA (aW b) (aW c) (aA (aL sl) (eQ (MJ z)) (aA (eP 12) (eP 14) (aA (eL 68) (nI (tU x1) (tU x2)) (aA (BB (xQ x2)) (bA (lX x1) (lX x2)) (aA (cO (lX x1) (lX x2)) (cF (dX x1).1 (dX x2).1) (aA (bA (mR x1) (mR x2)) (cO (mR x1) (mR
 x2)) (aA (cF x1.1 x2.1) pM (aA pN (Option.some (Own.lst 74 5 (iX (l8 x1)))=Option.some (Own.lst 74 5 (iX (l8 x2)))) (aA pJ (Option.some (Own.lst 70 24 (iY (l8 x1)))=Option.some (Own.lst 70 24 (iY (l8 x2)))) (aA (tI (fW (dX x1)) (fW (dX x2))) (kP (dX x1)=kP (dX x2)) (bP (kQ (dX x1)) (kQ (dX x2)))))))))))))))))/\∀(x2:Nat×Sl×Int×Bool×Nat×Sl×iD×List dH×MH×PH),I3 x2->∃(x3:Nat×Sl×Int×Bool×Nat×Sl×iD×List dH×MH×PH),aA (I2 x3) (m2 x3<m2 x1) (aA (aW a) (aW b) (aA (aW c) (aL sl) (aA (eQ (MJ z)) (eP 12) (aA (eP 14) (eL 68) (aA (nI (tU x2) (tU x3)) (wE (xQ x2) (xQ x3)) (aA (bA (lX x2) (lX x3)) (cO (lX x2) (lX x3)) (aA (cF (dX x2).1
 (dX x3).1) (bA (mR x2) (mR x3)) (aA (cO (mR x2) (mR x3)) (bD (gI (bC x2.1 1)) x3.1) (aA pM pN (aA (Option.some (Own.lst 74 5 (iX (l8 x2)))=Option.some (Own.lst 74 5 (iX (l8 x3)))) pJ (aA (Option.some (Own.lst 70 24 (iY (l8 x2)))=Option.some (Own.lst 70 24 (iY (l8 x3)))) (tI (fW (dX x2)) (fW (dX x3))) (bZ (kP (dX x2)) (kP (dX x3)) (kQ (dX x2)) (kQ (dX x3))))))))))))))) (branch (xQ x1) (EL (tU x1) a (λn2 n3=>aY (kQ (dX x1)) 3 (mA (uZ n2) (uZ n3)) (λa2 a3=>aA (dD ((fW (dX x1)).length+1) 56) (eF (fW (dX x1))) (∃(x2:Nat×Sl×iD×List dH×MH×PH),aA (I1 x2) (aW a) (aA (aW b) (aW c) (aA (aL sl) (eQ (MJ z)) (aA (eP 12) (eP 14) (aA (eL
 68) (bA (lX x1) (nJ x2)) (aA (cO (lX x1) (nJ x2)) (cF (dX x1).1 x2.1) (aA pM pN (aA (Option.some (Own.lst 74 5 (iX (l8 x1)))=Option.some (Own.lst 74 5 (iX (lG x2)))) pJ (uW (Option.some (Own.lst 70 24 (iY (l8 x1)))=Option.some (Own.lst 70 24 (iY (lG x2)))) (Option.some (Own.lst 84 3 (eR (fW (dX x1)) (aJ (cJ 1) nV (aM a2))))=Option.some (Own.lst 84 3 (fW x2))) (kP (dX x1)) (kP x2) a3 (kQ x2))))))))))))) (∃(x2:Nat×Sl×iD×List dH×MH×PH),aA (I1 x2) (aW a) (aA (aW b) (aW c) (aA (aL sl) (eQ (MJ z)) (aA (eP 12) (eP 14) (aA (eL 68) (bA (lX x1) (nJ x2)) (aA (cO (lX x1) (nJ x2)) (cF (dX x1).1 x2.1) (aA pM pN (aA (Option.some (Own.lst 74 5 (iX (l8 x1)))=Option.some
 (Own.lst 74 5 (iX (lG x2)))) pJ (uW (Option.some (Own.lst 70 24 (iY (l8 x1)))=Option.some (Own.lst 70 24 (iY (lG x2)))) (tI (fW (dX x1)) (fW x2)) (kP (dX x1)) (kP x2) (kQ (dX x1)) (kQ x2))))))))))))))/\∀(x1:Nat×Sl×iD×List dH×MH×PH),I1 x1->∃(x2:Nat×Sl×iD×List dH×MH×PH),aA (I x2) (m1 x2<m1 x) (aA (aW a) (aW b) (aA (aW c) (aL sl) (aA (eQ (MJ z)) (eP 12) (aA (eP 14) (eL 68) (aA (bA (nJ x1) (nJ x2)) (cO (nJ x1) (nJ x2)) (aA (bD (gI (bC x1.1 1)) x2.1) pM (aA pN (Option.some (Own.lst 74 5 (iX (lG x1)))=Option.some (Own.lst 74 5 (iX (lG x2)))) (aA pJ (Option.some (Own.lst 70 24 (iY (lG x1)))=Option.some (Own.lst 70 24 (iY (lG x2)))) (aA (tI (fW x1) (fW
 x2)) (kP x1=kP x2) (bP (kQ x1) (kQ x2)))))))))))) (∃(I1:iD×List dH×MH×PH->Prop),branch z (sT (uV (fW x)) 1 (aA (cQ (xB x)) (xB x<uV (fW x)) (∃(e:List Value),tW (fW x) (xB x).toNat e/\∃(y:dH),aA (List.take 3 (List.drop 0 e)=iA y) ((0:Int)<=0) (0<uV (fW x)/\∃(e1:List Value),tW (fW x) 0 e1/\∃(y1:dH),aA (List.take 3 (List.drop 0 e1)=iA y1) ((0:Int)<=0) (0<uV (fW x)/\∃(e2:List Value),aA (tW (fW x) 0 e2) (3<=e2.length) (aA (cQ (xB x)) (xB x<uV (List.set (fW x) 0 (aJ (cJ y.table) (bV y.old) (yQ (bV y.new) 3 e2)))) (∃(e3:List Value),aA (tW (List.set (fW x) 0 (aJ (cJ y.table) (bV y.old) (yQ (bV y.new) 3 e2))) (xB x).toNat e3) (3<=e3.length) (∃(x1
 :iD×List dH×MH×PH),aA (I1 x1) (aW b) (aA (aW c) (eP 12) (aA (eP 14) (eL 68) (aA pM pN (aA (Option.some (Own.lst 74 5 (iX (lG x)))=Option.some (Own.lst 74 5 (iX x1.1))) pJ (aA (Option.some (Own.lst 70 24 (iY (lG x)))=Option.some (Own.lst 70 24 (iY x1.1))) (Option.some (Own.lst 84 3 (List.set (List.set (fW x) 0 (aJ (cJ y.table) (bV y.old) (yQ (bV y.new) 3 e2))) (xB x).toNat (aJ (cJ y1.table) (bV y1.old) (yQ (bV y1.new) 3 e3))))=Option.some (Own.lst 84 3 (BG x1.2))) (bZ (kP x) (tV x1) (kQ x) x1.2.2.2))))))))))))) (∃(x1:iD×List dH×MH×PH),aA (I1 x1) (aW b) (aA (aW c) (eP 12) (aA (eP 14) (eL 68) (aA pM pN (aA (Option.some (Own.lst 74 5 (iX (lG x)))=Option.some (Own.lst 74 5 (iX x1.1))) pJ (aA (Option.some
 (Own.lst 70 24 (iY (lG x)))=Option.some (Own.lst 70 24 (iY x1.1))) (tI (fW x) (BG x1.2)) (bZ (kP x) (tV x1) (kQ x) x1.2.2.2)))))))) (∃(x1:iD×List dH×MH×PH),aA (I1 x1) (aW b) (aA (aW c) (eP 12) (aA (eP 14) (eL 68) (aA pM pN (aA (Option.some (Own.lst 74 5 (iX (lG x)))=Option.some (Own.lst 74 5 (iX x1.1))) pJ (aA (Option.some (Own.lst 70 24 (iY (lG x)))=Option.some (Own.lst 70 24 (iY x1.1))) (tI (fW x) (BG x1.2)) (bZ (kP x) (tV x1) (kQ x) x1.2.2.2)))))))/\∀(x1:iD×List dH×MH×PH),I1 x1->∃(I2:bN×Sl×Sl×Int×MH×PH->Prop),aA (∃(n2:Int),aA (fA c n2) (aA (cQ 2) ((2:Int)<=2) (aA (kS 48) (kS 2) (aY x1.2.2.2 5 (iX x1.1) (λa2 a3=>aY a3 1 (hX (bR 4)) (λa4 a5=>
 aY a5 24 (iY x1.1) (λa6 a7=>aY a7 3 (hX (uZ n2)) (λa8 a9=>aY a9 1 (mA fE fE) (λb1 b2=>aY b2 3 (BG x1.2) (λb3 b4=>∃(b5:bN),fR (λp r=>fR (λp1 b6=>∃(c1:Sl),u0 (λb7 p2 r1=>∃(p3:List VV)(b8 b9:List (List (List VV)))(c2:List sC),aA (fJ cK a2::fJ (bV a4) a6::dG a8::aK (eU b1) (dG b3)=bJ b5::fJ (bV p) r::dG p1::aK (eU b6) (dG c1)) (dV b4 b7 b5) (aA (jZ b4 p r p2 r1) (bB b4 p1 p3) (aA (vV b4 b6 b8) (oJ b4 c1 c2) (aA (gG (tV x1)) (qQ b7 p2 r1 p3 b8 b9 c2) (gT (λx2 c3=>dZ b4 c3 (yG c3 x2 (pG b7 (kJ b7 p3 b8 b9 c2 r1) c2 0)) (∃(x3:bN×Sl×Sl×Int×MH×PH),aA (I2 x3) (aW b) (aA (aW c) (eP 12) (aA (bA b3 x3.2.1) (bA x2 (AI x3)) (aA (nI 0 (CM x3))
 (E5 a2 x3.1) (bZ (tV x1) (rC x3) c3 (qA x3))))))))))))))))))))))) (aA (cQ 2) ((2:Int)<=2) (aA (kS 48) (kS 2) (aY x1.2.2.2 5 (iX x1.1) (λa2 a3=>aY a3 1 (hX (bR 4)) (λa4 a5=>aY a5 24 (iY x1.1) (λa6 a7=>aY a7 3 (hX (uZ n2)) (λa8 a9=>aY a9 1 (mA fE fE) (λb1 b2=>aY b2 3 (BG x1.2) (λb3 b4=>∃(b5:bN),fR (λp r=>fR (λp1 b6=>∃(c1:Sl),u0 (λb7 p2 r1=>∃(p3:List VV)(b8 b9:List (List (List VV)))(c2:List sC),aA (fJ cK a2::fJ (bV a4) a6::dG a8::aK (eU b1) (dG b3)=bJ b5::fJ (bV p) r::dG p1::aK (eU b6) (dG c1)) (dV b4 b7 b5) (aA (jZ b4 p r p2 r1) (bB b4 p1 p3) (aA (vV b4 b6 b8) (oJ b4 c1 c2) (aA (gG (tV x1)) (qQ b7 p2 r1 p3 b8 b9 c2) (gT (λx2
 c3=>dZ b4 c3 (yG c3 x2 (pG b7 (kJ b7 p3 b8 b9 c2 r1) c2 0)) (∃(x3:bN×Sl×Sl×Int×MH×PH),aA (I2 x3) (aW b) (aA (aW c) (eP 12) (aA (bA b3 x3.2.1) (bA x2 (AI x3)) (aA (nI 0 (CM x3)) (E5 a2 x3.1) (bZ (tV x1) (rC x3) c3 (qA x3)))))))))))))))))))))))) (cQ 2) (aA ((2:Int)<=2) (kS 48) (oT (kS 2) (λn2=>fA c n2/\aY x1.2.2.2 5 (iX x1.1) (λa2 a3=>aY a3 1 (hX (bR 4)) (λa4 a5=>aY a5 24 (iY x1.1) (λa6 a7=>aY a7 3 (hX (uZ n2)) (λa8 a9=>aY a9 1 (mA fE fE) (λb1 b2=>aY b2 3 (BG x1.2) (λb3 b4=>∃(b5:bN),fR (λp r=>fR (λp1 b6=>∃(c1:Sl),u0 (λb7 p2 r1=>∃(p3:List VV)(b8 b9:List (List (List VV)))(c2:List sC),aA (fJ cK a2::fJ (bV a4) a6::dG a8::
 aK (eU b1) (dG b3)=bJ b5::fJ (bV p) r::dG p1::aK (eU b6) (dG c1)) (dV b4 b7 b5) (aA (jZ b4 p r p2 r1) (bB b4 p1 p3) (aA (vV b4 b6 b8) (oJ b4 c1 c2) (aA (gG (tV x1)) (qQ b7 p2 r1 p3 b8 b9 c2) (gT (λx2 c3=>dZ b4 c3 (yG c3 x2 (pG b7 (kJ b7 p3 b8 b9 c2 r1) c2 0)) (∃(x3:bN×Sl×Sl×Int×MH×PH),aA (I2 x3) (aW b) (aA (aW c) (eP 12) (aA (bA b3 x3.2.1) (bA x2 (AI x3)) (aA (nI 0 (CM x3)) (E5 a2 x3.1) (bZ (tV x1) (rC x3) c3 (qA x3)))))))))))))))))))))))/\∀(x2:bN×Sl×Sl×Int×MH×PH),I2 x2->bQ b c (aA (([]:List CV)=[]) (gG (rC x2)) (branch (CM x2==0) (K (yX (aH (AI x2)==0)) (rC x2) (qA x2)) (K aT (rC x2) (qA x2)))) (aA (([]:List CV)=[]) (gG (rC x2)) (bQ (CM x2) 0
 (bQ (aH (AI x2)) (aH x2.2.1) (bK (λb1 o=>aA (bL x2.2.1.a b1 o) ((0:Int)<=0) (0<aH x2.2.1/\∃(y:Int),aI (rC x2) (qA x2) b1 (o+0+0) (bR y)/\dA x2.2.1 0 (λb2 o1 y1=>aI (rC x2) (qA x2) b2 (o1+0+2) (aM y1)/\dA (AI x2) 0 (λb3 o2 y2=>aA (aI (rC x2) (qA x2) b3 (o2+0+3) (aM y2)) (bF (qA x2) b3 (o2+0+3) (aM y2)) (kB (λv a2=>∃(t:Int),pA (λa3 r=>aA (bJ x2.1::aK (dY y) (dG y1)=bJ v::aK (dY t) (dG a3)) (dV (qA x2) a2 v) (aA (bB (qA x2) a3 r) (jA r) (gT (λa4 a5=>dZ (qA x2) a5 (bB a5 a4 (dK a2 t r)) (K (yX (aH a4==aH y2)) (rC x2) a5)))))))))))) (K aT (rC x2) (qA x2))) (K aT (rC x2) (qA x2)))))))))))))))))
structure Ko(h:PH)(t:iD):Prop where
 cols1_:Kq h t.cols1 [⟨⟨#[105,100]⟩,4⟩,⟨⟨#[111,119,110,101,114]⟩,4⟩]
 cols2_:Kq h t.cols2 [⟨⟨#[105,100]⟩,4⟩,⟨⟨#[112,114,111,106,101,99,116]⟩,4⟩]
 q1_:fF h (FK pW) (Xy t.p1 t.a1)
 q2_:fF h (FJ pW) (Xy t.p2 t.a2)
theorem Ko.mono{t:iD}(x:Ko h t)(le:PH.le h h'):Ko h' t:=⟨aR.mono x.cols1_ le λ_ _ e=>e,aR.mono x.cols2_ le λ_ _ e=>e,x.q1_.mono le,x.q2_.mono le⟩
theorem HE{α β:Type}{h:PH}{sz:Nat}{enc:β->List Value}{R:α->β->Prop}{s:Sl}{x y:α}{v w:β}(r:bH h s sz [enc v,enc w])(hx:R x v)(hy:R y w):aR h sz enc R s [x,y]:=⟨⟨[v,w],r,rfl,λi z e=>by
 match i,e with
 |0,e=>simp at e;subst e;exact⟨v,rfl,hx⟩
 |1,e=>simp at e;subst e;exact⟨w,rfl,hy⟩
 |i+2,e=>simp at e⟩,by simp⟩
theorem Vr{t:iD}{s:Sl}(x:Ko h t)(r:bH h s 5 (Sk t)):dV h pS ⟨0,s⟩:=
 ⟨rfl,HE r ⟨rfl,x.cols1_,rfl,aR.nil _ _ _ _,aR.nil _ _ _ _⟩ ⟨rfl,x.cols2_,rfl,aR.nil _ _ _ _,aR.nil _ _ _ _⟩⟩
theorem Vs{t:iD}{p:Sl}(x:Ko h t)(rp:bH h p 1 [[.int .i64 4]])(rr:bH h r 24 (N4 t)):jZ h p r [4] [KL,KK]:=
 ⟨⟨rp,by show(1:Nat)<=17592186044416;omega⟩,HE rr ⟨rfl,rfl,mI h,x.q1_⟩ ⟨rfl,rfl,mI h,x.q2_⟩⟩
structure Bg(h:PH)(l:List dH)(cs:List sC):Prop where
 len:l.length=cs.length
 rep:∀(i:Nat)(c:sC),cs[i]? =some c->∃v,l[i]? =some v/\sD h c v
theorem Bg.mono{l:List dH}{cs:List sC}(x:Bg h l cs)(le:PH.le h h'):Bg h' l cs:=⟨x.len,λi c e=>(x.rep i c e).imp λ_ y=>⟨y.1,y.2.mono le⟩⟩
theorem Bg.cs{l:List dH}{cs:List sC}{s:Sl}(x:Bg h l cs)(r:bH h s 3 (l.map dH.enc))(hl:cs.length<=1000):oJ h s cs:=⟨⟨l,r,x.len.symm,x.rep⟩,aC⟩
theorem Bg.snoc{l:List dH}{cs:List sC}{c:sC}{v:dH}(x:Bg h l cs)(y:sD h c v):Bg h (l++[v]) (cs++[c]):=⟨by simp[x.len],λi d e=>by
 rcases Nat.lt_trichotomy i cs.length with hi|hi|hi
 .rw[List.getElem?_append_left hi]at e;obtain⟨w,e1,e2⟩:=x.rep i d e;exact⟨w,by rw[List.getElem?_append_left (by rw[x.len];exact hi)];exact e1,e2⟩
 .subst hi;simp at e;subst e;exact⟨v,by rw[<-x.len];simp,y⟩
 .rw[List.getElem?_eq_none (by simp;omega)]at e;cases e⟩
theorem Bg.one{c:sC}{v:dH}(y:sD h c v):Bg h [v] [c]:=⟨rfl,λi d e=>by
 match i,e with
 |0,e=>simp at e;subst e;exact⟨v,rfl,y⟩
 |i+1,e=>simp at e⟩
theorem Bg.set{l:List dH}{cs:List sC}{c:sC}{v:dH}(x:Bg h l cs)(y:sD h c v):Bg h (l.set i v) (cs.set i c):=⟨by simp[x.len],λj d e=>by
 by_cases hj:i=j
 .subst hj
  have hi:i<cs.length:=by
   rcases Nat.lt_or_ge i cs.length with hi|hi
   .exact hi
   .rw[List.getElem?_eq_none (by simp;omega)]at e;cases e
  rw[List.getElem?_set_self hi]at e;cases e;exact⟨v,List.getElem?_set_self (by rw[x.len];exact hi),y⟩
 .rw[List.getElem?_set_ne hj]at e;obtain⟨w,e1,e2⟩:=x.rep j d e;exact⟨w,by rw[List.getElem?_set_ne hj];exact e1,e2⟩⟩
theorem SF{x y:Int}{t:Int}{n:Sl}(rn:bH h n 3 ((sX x y).map VV.enc)):sD h (lH (t,x,y)) ⟨t,⟨none,0,0⟩,n⟩:=⟨rfl,aR.nil _ _ _ _,Ej rn (by show(2:Nat)<=1000;decide)⟩
structure GO(a b:Int)(xs:List Int)(zs:List (Int×Int×Int)):Prop where
 ex:∃ts:List Int,zs=(0,a,b)::ts.map (λt=>(1,t,a))/\ts.Nodup/\(∀t,t∈ts↔t∈xs)/\ts.length<=xs.length
theorem GO.nil(a b:Int):GO a b [] [(0,a,b)]:=⟨[],rfl,List.nodup_nil,by simp,by simp⟩
theorem GO.same{a b x:Int}{xs:List Int}{zs:List (Int×Int×Int)}(h:GO a b xs zs)(hx:x∈xs):GO a b (xs++[x]) zs:=by
 obtain⟨ts,e,h1,h2,h3⟩:=h.ex;refine⟨ts,e,h1,λt=>?_,by simp;omega⟩;rw[h2,List.mem_append,List.mem_singleton];exact⟨.inl,λh=>h.elim id λe=>e▸hx⟩
theorem GO.snoc{a b x:Int}{xs:List Int}{zs:List (Int×Int×Int)}(h:GO a b xs zs)(hx:x∉xs):GO a b (xs++[x]) (zs++[(1,x,a)]):=by
 obtain⟨ts,e,h1,h2,h3⟩:=h.ex;refine⟨ts++[x],by simp[e],?_,λt=>?_,by simp;omega⟩
 .rw[List.nodup_append];refine⟨h1,by simp,λy hy z hz e=>?_⟩;simp at hz;exact hx (by rw[<-hz, <-e];exact(h2 y).1 hy)
 .rw[List.mem_append,List.mem_append,h2]
theorem GO.z{a b:Int}{xs:List Int}{zs:List (Int×Int×Int)}(h:GO a b xs zs)(hl:xs.length<=4)(ia:Dl a)(ib:Dl b)(it:∀t∈xs,Dl t):∃ts,Dk a b ts zs:=by
 obtain⟨ts,rfl,h1,h2,h3⟩:=h.ex;refine⟨ts,λz=>?_,?_,by simp;omega,ia,ib,λt ht=>it t ((h2 t).1 ht)⟩
 .simp only[List.mem_cons,List.mem_map];exact or_congr_right ⟨λ⟨t,ht,e⟩=>⟨t,ht,e.symm⟩,λ⟨t,ht,e⟩=>⟨t,ht,e.symm⟩⟩
 .refine List.pairwise_cons.2 ⟨λz hz=>?_,?_⟩
  .obtain⟨t,_,rfl⟩:=List.mem_map.1 hz;exact .inl (λe=>by cases e)
  .rw[List.pairwise_map];exact h1.imp fun{x y} hn=>.inr hn
theorem Dk.perm{a b:Int}{ts:List Int}{zs zs':List (Int×Int×Int)}(h:Dk a b ts zs)(p:zs'.Perm zs):Dk a b ts zs':=
 ⟨λz=>by rw[p.mem_iff];exact h.mem z,(p.pairwise_iff fun{x y} e=>e.imp Ne.symm Ne.symm).2 h.pw,by rw[p.length_eq];exact h.len,h.ia,h.ib,h.it⟩
theorem Dk.swap{a b:Int}{ts:List Int}{zs:List (Int×Int×Int)}{j:Nat}{x y:Int×Int×Int}(h:Dk a b ts zs)(hi:zs[i]? =some x)(hj:zs[j]? =some y):Dk a b ts ((zs.set i y).set j x):=by
 obtain⟨h1,e1⟩:=List.getElem?_eq_some_iff.1 hi;obtain⟨h2,e2⟩:=List.getElem?_eq_some_iff.1 hj;refine h.perm ?_;rw[<-e1, <-e2];exact List.set_set_perm h1 h2
theorem Dk.pos{a b:Int}{ts:List Int}{zs:List (Int×Int×Int)}(h:Dk a b ts zs):0<zs.length:=List.length_pos_of_mem ((h.mem (0,a,b)).2 (.inl rfl))
def aeQ:Vc.Spec:=λcvs m h K=>∃(a b c:Int)(sl:Sl)(z:Bool)(xs:List Int),cvs=[cI a,cI b,cI c,cS sl,cB z]/\Dl a/\Dl b/\bH h sl 1 (xs.map eI)/\(∀x∈xs,Dl x)/\gG m/\K (cB true) m h
theorem Vy{s:Sl}(r:bH h s 21 [[.int .i64 1,.int .i64 0,.int .i64 0,.int .i64 0,.int .i64 0,.int .i64 0,.int .i64 0,.int .i64 0,.string ⟨#[]⟩,.int .i64 0,.int .i64 0,.int .i64 0,.int .i64 0,.string ⟨#[]⟩,.slice none 0 0,.slice none 0 0,.slice none 0 0,.slice none 0 0,.slice none 0 0,.int .i64 0,.slice none 0 0]]):fF h (Oy pW) ⟨2,0,⟨3,1,oC 1,oP 0,eC⟩,eC,eC,eC,eC,0,s⟩:=
 Qx (OJ (v:=⟨3,1,oC 1,oP 0,eC⟩) rfl) (Cf (v:=⟨1,0,qT,eC,eC,eC,eC,0,eC⟩) r (Iv h 0))
theorem Zk{s:Sl}(r:bH h s 1 [eS eC,eS eC]):vV h s [[],[]]:=⟨HE r (aR.nil _ _ _ _) (aR.nil _ _ _ _),by simp,λl hl r hr=>by simp at hl;subst hl;simp at hr⟩
theorem VH{s:Sl}(r:bH h s 1 (l.map eI)){x:Int}(hi:l[i]? =some x):∃b o,s.a=some ⟨b,o,none⟩/\bF h b (o+i*1) [.int .i64 x]:=r.get (e:=eI x) (by rw[List.getElem?_map,hi];rfl)
theorem VR:Sound Tryz.prog 6 aeQ:=by
 refine Fh Tryz.func6 ?_;rintro cvs m h K ⟨a,b,c,sl,z,xs,rfl,ha,hb,hs,hx,ht,hK⟩;refine⟨ZD a b c sl z,rfl,aD Le (aD Gs (aD Uz (aD Um aF))),Nh a b c sl z m h (kY h K),by kernel_rfl,?_⟩;show Nh a b c sl z m h (kY h K);dsimp only[Nh,push_cast];intro s0 h0 le0 r0 s1 h1 le1 r1 s2 h2 le2 r2 s3 h3 le3 r3 s4 h4 le4 r4 s5 h5 le5 r5 s6 h6 le6 r6 s7 h7 le7 r7 s8 h8 le8 r8;refine⟨a,rfl,b,rfl,?_⟩;intro s9 h9 le9 r9;have q8:=le9;have q7:=le8.trans q8;have q6:=le7.trans q7;have q5:=le6.trans q6;have q4:=le5.trans q5;have q3:=le4.trans q4;have q2:=le3.trans q3;have q1:=le2.trans q2;have q0:=le1.trans q1;have L:=le0.trans q0;have hsl:sl.len=xs.length:=by rw[hs.len,List.length_map]
 have hcap:sl.len<=sl.cap:=hs.cap;have own9:=Vy (r2.mono q2)
 have hT:Ko h9 ⟨s0,s1,s5,s6,s7,s8⟩:=by
  refine⟨Nq (r0.mono q0) (by simp),Nq (r1.mono q1) (by simp),?_,?_⟩
  .exact GZ (cols:=[0]) ⟨r5.mono q5,by show(1:Nat)<=17592186044416;omega⟩ (Cf (v:=⟨2,0,⟨3,1,oC 1,oP 0,eC⟩,eC,eC,eC,eC,0,s2⟩) (r6.mono q6) own9)
  .refine GZ (cols:=[0]) ⟨r7.mono q7,by show(1:Nat)<=17592186044416;omega⟩ (Cf (v:=⟨5,0,qT,eC,s3,eC,eC,0,s4⟩) (r8.mono q8) ?_);exact nR.rep ⟨rfl,rfl,Ca _,mI _,⟨r3.mono q3,by show(1:Nat)<=8796093022208;omega⟩,mI _,y0 _,rfl,HE (v:=⟨1,1,qT,eC,eC,eC,eC,0,eC⟩) (w:=⟨2,0,⟨3,1,oC 1,oP 0,eC⟩,eC,eC,eC,eC,0,s2⟩) (r4.mono q4) (Iv _ 1) own9⟩
 obtain⟨n,hn,hn4⟩:∃n:Nat,(if 4<(sl.len:Int)then 4 else(sl.len:Int))=n/\n<=4/\n<=xs.length:=⟨min 4 sl.len,by split<;>omega,aC,aC⟩
 rw[hn];refine⟨aC,aC,λy=>y.1<=n/\y.2.1=⟨sl.a,n,sl.cap⟩/\y.2.2.2.2.1=m/\PH.le h y.2.2.2.2.2/\Ko y.2.2.2.2.2 y.2.2.1/\∃zs,GO a b (xs.take y.1) zs/\Bg y.2.2.2.2.2 y.2.2.2.1 (zs.map lH),λy=>n-y.1,⟨(0,⟨sl.a,n,sl.cap⟩,⟨s0,s1,s5,s6,s7,s8⟩,[⟨0,eC,s9⟩],m,h9),⟨aC,rfl,rfl,L,hT,_,by rw[List.take_zero];exact GO.nil a b,Bg.one (SF r9)⟩,MT⟩,?_⟩;rintro⟨i,u,t,l,m',hy⟩ ⟨hi,e1,e2,le,hR,zs,hL,hA⟩;dsimp only at hi e1 e2 le hR hL hA⊢
 subst e1 e2;dsimp only
 have hzl:zs.length<=5:=by
  obtain⟨ts,e,_,_,h3⟩:=hL.ex;rw[List.length_take]at h3;rw[e];simp;omega
 have hll:(l.map dH.enc).length<=5:=by rw[List.length_map,hA.len,List.length_map];exact hzl
 refine aE (λhlt=>?_) (λhge=>?_)
 .have hin:i<n:=by omega
  obtain⟨x,hxi⟩:∃x,xs[i]? =some x:=⟨_,List.getElem?_eq_getElem aC⟩
  obtain⟨b1,o1,ea,rd⟩:=VH hs hxi;have htk:xs.take (i+1)=xs.take i++[x]:=by rw[List.take_add_one,hxi];rfl
  refine⟨λy=>y.1=i/\y.2.1=⟨sl.a,n,sl.cap⟩/\y.2.2.2.2.1=m'/\PH.le h y.2.2.2.2.2/\Ko y.2.2.2.2.2 y.2.2.1/\∃zs,GO a b (xs.take (i+1)) zs/\Bg y.2.2.2.2.2 y.2.2.2.1 (zs.map lH),⟨b1,o1,ea,aC,aC,x,.imm (rd.mono le),aC,aC,λy=>∃j d,y=(j,⟨sl.a,i,sl.cap⟩,x,d,i,⟨sl.a,n,sl.cap⟩,t,l,m',hy)/\j<=i/\(d=true↔x∉xs.take j),λy=>i-y.1,⟨(0,⟨sl.a,i,sl.cap⟩,x,true,i,⟨sl.a,n,sl.cap⟩,t,l,m',hy),⟨0,true,rfl,aC,by simp⟩,by simp only[Int.toNat_natCast];exact MT⟩,?_⟩,?_⟩
  .rintro _ ⟨j,d,rfl,hj,hd⟩;dsimp only;refine aE (λhlt2=>?_) (λhge2=>?_)
   .obtain⟨y,hyj⟩:∃y,xs[j]? =some y:=⟨_,List.getElem?_eq_getElem aC⟩
    obtain⟨b2,o2,ea2,rd2⟩:=VH hs hyj;have htk2:xs.take (j+1)=xs.take j++[y]:=by rw[List.take_add_one,hyj];rfl
    refine⟨λw=>∃d',w=(j,⟨sl.a,i,sl.cap⟩,x,d',i,⟨sl.a,n,sl.cap⟩,t,l,m',hy)/\(d'=true↔x∉xs.take (j+1)),⟨b2,o2,ea2,aC,aC,y,.imm (rd2.mono le),aB (λe=>?_) (λe=>?_)⟩,?_⟩
    .refine⟨(j,⟨sl.a,i,sl.cap⟩,x,y !=x,i,⟨sl.a,n,sl.cap⟩,t,l,m',hy),⟨_,rfl,?_⟩,MT⟩;rw[htk2,List.mem_append,List.mem_singleton,not_or, <-hd,bne_iff_ne];exact⟨λh=>⟨e,λe2=>h e2.symm⟩,λh e2=>h.2 e2.symm⟩
    .refine⟨(j,⟨sl.a,i,sl.cap⟩,x,false,i,⟨sl.a,n,sl.cap⟩,t,l,m',hy),⟨_,rfl,?_⟩,MT⟩;rw[htk2,List.mem_append,not_or, <-hd,e];exact⟨λh=>(by cases h),λh=>h.1⟩
    .rintro _ ⟨d',rfl,hd'⟩;dsimp only;exact⟨(j+1,⟨sl.a,i,sl.cap⟩,x,d',i,⟨sl.a,n,sl.cap⟩,t,l,m',hy),⟨j+1,d',rfl,aC,hd'⟩,by show i-(j+1)<i-j;omega,by rw[j5 aC];exact MT⟩
   .have hji:j=i:=by omega
    subst hji;refine aB (λe=>?_) (λe=>?_)
    .refine⟨x,rfl,a,rfl,λs' h' le' rr=>⟨aC,aC,(j,⟨sl.a,n,sl.cap⟩,t,l++[⟨1,eC,s'⟩],m',h'),⟨rfl,rfl,rfl,le.trans le',hR.mono le',zs++[(1,x,a)],by rw[htk];exact hL.snoc (hd.1 e),?_⟩,?_⟩⟩
     .rw[List.map_append];exact(hA.mono le').snoc (SF rr)
     .rw[List.map_append];exact MT
    .refine⟨(j,⟨sl.a,n,sl.cap⟩,t,l,m',hy),⟨rfl,rfl,rfl,le,hR,zs,by rw[htk];exact hL.same (Classical.byContradiction λhn=>by rw[hd.2 hn]at e;cases e),hA⟩,MT⟩
  .rintro⟨i2,u2,t2,l2,m2,h2⟩ ⟨e1,e2,e3,le',hR',zs',hL',hA'⟩;dsimp only at e1 e2 e3 le' hR' hL' hA'⊢
   subst e1 e2 e3;exact⟨(i2+1,⟨sl.a,n,sl.cap⟩,t2,l2,m2,h2),⟨by show i2+1<=n;omega,rfl,rfl,le',hR',zs',hL',hA'⟩,by show n-(i2+1)<n-i2;omega,by rw[j5 aC];exact MT⟩
 have hin:i=n:=by omega
 obtain⟨ts,hZ⟩:=hL.z (by rw[List.length_take];omega) ha hb (λx hxm=>hx x (List.mem_of_mem_take hxm));have hpos:=hZ.pos;have hlen:l.length=zs.length:=by rw[hA.len,List.length_map]
 refine⟨λy=>∃t l hy zs ts,y=(t,l,m',hy)/\PH.le h hy/\Ko hy t/\Dk a b ts zs/\Bg hy l (zs.map lH),?_,?_⟩
 .have same:∃y:iD×List dH×MH×PH,(∃t l hy zs ts,y=(t,l,m',hy)/\PH.le h hy/\Ko hy t/\Dk a b ts zs/\Bg hy l (zs.map lH))/\y=(t,l,m',hy):=⟨_,⟨t,l,hy,zs,ts,rfl,le,hR,hZ,hA⟩,rfl⟩
  refine aB (λ_=>aE (λhgt=>?_) (λ_=>?_)) (λ_=>?_)
  .rw[List.length_map]at hgt;have hw:IntKind.i64.wrap (((l.map dH.enc).length:Int)-1)=((l.length-1:Nat):Int):=by rw[List.length_map,gD aC aC];omega
   rw[hw,Int.toNat_natCast];obtain⟨z0,hz0⟩:∃w,zs[0]? =some w:=⟨_,List.getElem?_eq_getElem aC⟩
   obtain⟨zl,hzl⟩:∃w,zs[l.length-1]? =some w:=⟨_,List.getElem?_eq_getElem aC⟩
   obtain⟨v0,hv0,c0⟩:=hA.rep 0 (lH z0) (by rw[List.getElem?_map,hz0];rfl);obtain⟨vl,hvl,cl⟩:=hA.rep (l.length-1) (lH zl) (by rw[List.getElem?_map,hzl];rfl);have m0:(l.map dH.enc)[0]? =some v0.enc:=by rw[List.getElem?_map,hv0];rfl
   have ml:(l.map dH.enc)[l.length-1]? =some vl.enc:=by rw[List.getElem?_map,hvl];rfl
   refine⟨aC,by rw[List.length_map];omega,_,ml,vl,rfl,aC,by rw[List.length_map];omega,_,m0,v0,rfl,aC,by rw[List.length_map];omega,_,m0,by show 3<=3;omega,aC,by rw[List.length_set,List.length_map];omega,_,by rw[List.getElem?_set_ne aC];exact ml,by show 3<=3;omega,(t,(l.set 0 vl).set (l.length-1) v0,m',hy),⟨t,_,hy,(zs.set 0 zl).set (l.length-1) z0,ts,rfl,le,hR,hZ.swap hz0 hzl,?_⟩,?_⟩
   .rw[List.map_set,List.map_set];exact(hA.set cl).set c0
   .rw[List.map_set,List.map_set];exact MT
  all_goals
   obtain⟨_,k1,rfl⟩:=same;exact⟨_,k1,MT⟩
 clear hZ hA hL hR le hpos hlen hll hzl hge hi hin;rintro _ ⟨t,l,hy,zs,ts,rfl,le,hR,hZ,hA⟩;dsimp only;have hzl:=hZ.len;have hpos:=hZ.pos;obtain⟨st,den,T,e1,e2⟩:=Xr (c:=c) hZ;have dens:=N3 (wr:=kJ pS [jO c] [[],[]] st (zs.map lH) [KL,KK]) (d:=(b==c)) (zs:=zs) (i:=0) λw hw=>⟨hZ.tab w hw,Tt hZ T e1 e2 hw⟩
 refine⟨λy=>∃s ch x hq,y=(⟨0,s⟩,ch,x,0,m',hq)/\PH.le h hq/\dV hq pS ⟨0,s⟩/\oJ hq ch (zs.map lH)/\yG hq x (pG pS (kJ pS [jO c] [[],[]] st (zs.map lH) [KL,KK]) (zs.map lH) 0),?_,?_⟩
 .repeat' (first|refine And.intro ?_ ?_ |refine⟨_,rfl,?_⟩|fail)
  all_goals first|omega|skip
  all_goals
   intro s k1 p1 rs pp k2 p2 rp rr k3 p3 rrr v k4 p4 rv w k5 p5 rw_ ch k6 p6 rch;have o5:=p6;have o4:=p5.trans o5;have o3:=p4.trans o4;have o2:=p3.trans o3;have o1:=p2.trans o2;have o0:=p1.trans o1;have hR6:=hR.mono o0;exact⟨⟨0,s⟩,pp,rr,v,w,ch,pS,[4],[KL,KK],[jO c],[[],[]],st,zs.map lH,rfl,Vr hR6 (rs.mono o1),Vs hR6 (rp.mono o2) (rrr.mono o3),Ej (l:=[jO c]) (rv.mono o4) (by show(1:Nat)<=1000;decide),Zk (rw_.mono o5),(hA.mono o0).cs rch (by rw[List.length_map];omega),ht,den,λx k7 p7 hxd=>⟨(⟨0,s⟩,ch,x,0,m',k7),⟨s,ch,x,k7,rfl,le.trans (o0.trans p7),Vr (hR6.mono p7) ((rs.mono o1).mono p7),aR.mono ((hA.mono o0).cs rch (by rw[List.length_map];omega)) p7 λ_ _ y=>y.mono p7,hxd⟩,MT⟩⟩
 rintro _ ⟨s,ch,x,hq,rfl,leq,hS,hC,hD⟩;dsimp only;rw[dens]at hD;have hcl:ch.len=zs.length:=by rw[aR.slen hC,List.length_map]
 refine aB (λe=>⟨rfl,ht,aB (λ_=>?_) (λe=>?_)⟩) (λe=>⟨rfl,ht,aB (λ_=>aB (λ_=>?_) (λe3=>?_)) (λe=>?_)⟩)
 .rw[if_pos e]at hD;have hl:x.len=0:=aR.slen hD;rw[hl];exact .out (Sub.refl m') leq hK
 .cases e
 .rw[if_neg (by rw[e];decide)]at hD;obtain⟨z0,hz0⟩:∃w,zs[0]? =some w:=⟨_,List.getElem?_eq_getElem aC⟩
  have hz0m:=List.mem_of_getElem? hz0;have hxl:x.len=zs.length:=by rw[aR.slen hD,List.length_map,List.length_zipIdx]
  obtain⟨b1,o1,v1,ea1,rd1,c1⟩:=aR.at hC (i:=0) (x:=lH z0) (by rw[List.getElem?_map,hz0];rfl);obtain⟨b2,o2,v2,ea2,rd2,c2⟩:=aR.at hD (i:=0) (x:=⟨0,true,z0.1,[jO z0.2.1], -1⟩) (by rw[List.getElem?_map,List.getElem?_zipIdx,hz0];rfl);have hk2:v2.key.len=1:=aR.slen c2.key_;refine⟨b1,o1,ea1,aC,aC,v1.table,.imm (bF.part rd1 0 1),b1,o1,ea1,aC,aC,v1.new,.imm (bF.part rd1 2 1),b2,o2,ea2,aC,aC,v2.key,.imm (bF.part rd2 3 1),bF.part rd2 3 1,⟨0,s⟩,pS,v1.table,v1.new,sX z0.2.1 z0.2.2,rfl,hS,c1.new_,by show(2:Nat)<=1000;decide,λs' h' le' hv=>?_⟩;have ht1:v1.table=z0.1:=c1.tab_;rw[ht1,SD (hZ.tab z0 hz0m)]at hv;have hl:s'.len=1:=aR.slen hv;rw[hl,hk2];exact .out (Sub.refl m') (leq.trans le') hK
 .rw[if_neg (by rw[e];decide)]at hD;have hxl:x.len=zs.length:=by rw[aR.slen hD,List.length_map,List.length_zipIdx]
  rw[hxl,hcl]at e3;simp at e3
 .cases e
end Go.Ps
