/-
  Part 7 of a proof that a law of the given program returns true: a condition generator that is proved sound, and contracts of functions. No condition of its own. Own work, joined by a program (pack2.py).
-/
import Derived.Test.YtileehgdfcknkaaGreatDoorFf
set_option linter.unusedVariables false
set_option linter.unusedSimpArgs false
namespace Go.Ps
open Go Go.Vc Go.Proofs
variable{K:CV->MH->PH->Prop}{m:MH}{h:PH}{s:nS}{ps:List Int}{cb:Nat}{sc:bJ}{v:QV}{q:Query}{p:Pred}{l:List Int}{i:Nat}{N:Nat}{m':MH}{h':PH}{co:List Int}{gr:List Int}{od:List (Int×Bool)}{w:Pred}{ta:Int}{li:Int}{xs:List (List Value)}{sz:Nat}{k:Nat}{ks:List (List Int)}{rs:List Int}{r:Sl}{a:List Int}{b:Nat}
structure KG(h:PH)(b:Nat)(l:List (List VV)):Prop where
 ex:∃us,DT h b us/\eB h us l
theorem KG.mono{l:List (List VV)}(x:KG h b l)(le:PH.le h h'):KG h' b l:=by
 obtain⟨us,h1,h2⟩:=x.ex;exact⟨us,h1.mono le,h2.mono le⟩
structure CI(h:PH)(t:Sl)(bs:List Nat)(ls:List (List (List VV))):Prop where
 row:aX h t 1 (bs.map λb=>[Kz b])
 len:bs.length=ls.length
 at_:∀(i b:Nat)(l:List (List VV)),bs[i]? =some b->ls[i]? =some l->KG h b l
structure iH(w:Nat)(l:List (List VV)):Prop where
 row:∀r∈l,NN r
 wid:∀r∈l,r.length=w
 srt:lN l
 len:l.length<=1000000
def SG(l:List (List VV))(x:List VV):Bool:=l.any λy=>dR x y==0
theorem IB{l:List (List VV)}{x:List VV}:SG l x=true↔x∈l:=by
 simp only[SG,List.any_eq_true,beq_iff_eq,kR];exact⟨λ⟨y,h1,h2⟩=>h2▸h1,λh=>⟨x,h,rfl⟩⟩
def NO(ok:Query->List (List (List VV))->Prop)(f:Query->List (List (List VV))->List (List VV)):Vc.Spec:=λcvs m h K=>∃v t q bs ls,cvs=[aQ v,cS t]/\cN h q v/\CI h t bs ls/\jZ m/\ok q ls/\
 ∀s' h',PH.le h h'->Rows h' s' (f q ls)->K (cS s') m h'
def NL:Vc.Spec:=λcvs m h K=>∃t i bs ls w,cvs=[cS t,cB i]/\CI h t bs ls/\jZ m/\2<=ls.length/\(∀l∈ls,iH w l)/\
 ∀s' h',PH.le h h'->Rows h' s' ((ls.getD 0 []).filter λx=>SG (ls.getD 1 []) x==i)->K (cS s') m h'
noncomputable def VY:Ctx:=Nh [(74,Ym)] [(6,{A:=Nat×Nat×Sl×Sl×List VV×MH×PH,st:=λ⟨i,b,e,c,l,m,h⟩=>cD 40 42 [(5,vv (.pointer (some ⟨b,0,none⟩))),(6,sv e),(7,.at (.lst 17)),(19,sv c),(20,iv c.len),(21,iv i)] [(17,.lst 27 3 (l.map VV.enc))] m h})] [] [200002,200005,1053]
noncomputable abbrev nN(a:Nat):List Value:=iO (xK a 0)
abbrev Fj(a:Option Addr)(b c:Int)(d:Sl)(e:MH)(g:Nat->Nat->Option Value)(i:Nat->Nat)(j:Nat->(PH->List Value->List (List Value)->Prop)->Prop):Prop:=aR (λx x1=>aA (aT a x x1) (b<=c) (c<aG d/\∃(x2:Nat),aL e g x (i x1) (nN x2)/\∃(x3:PH->List Value->List (List Value)->Prop),j x2 x3))
abbrev AZ(a:Nat->Option Obj)(b:Nat->Nat->Option Value)(c:Sl)(d:Nat->MH->Nat->(PH->List Value->List (List Value)->Prop)->Prop):Prop:=∀(x:Nat)(x1:MH),aM (cC a b x) (bI a x1 x iD 53) (Fj c.a 0 0 c x1 b (λx2=>x2+0) (λx2 x3=>d x x1 x2 x3))
attribute [push_cast] nN Fj AZ
def GQ(v:QV)(t:Sl)(m:MH)(h:PH)(K:CV->MH->PH->Prop):Prop:=
  ∀(b:Nat)(m1:MH),aM (cC m h b) (bI m m1 b v.enc 38) (AZ m1 h t (λb1 m2 y S=>pO S h y m2 (λx I k e=>eT (λm3 h1=>aM (sX x k e) (PH.le h h1) (I k m3 h1->∃(y1:PV),aL m3 h1 b 2 y1.enc/\Fe (λv1 s p r=>aA (wE y1 e=wE v1 s) (dZ h1 p v1) (cF h1 s r/\branch (j7 r p) (CP m3 h1 b1 (λy2 x1=>gS (λs1 m4=>dY m3 m4 (cZ y2) s1 74 1 (jC x1 e)->gK (λc E=>aA (uO m4 b1 (eR c E 0)) (fC 0 c) (∀(m5:MH),bI m4 m5 b1 (eO (dT s1) 1 c) E->I (k+1) m5 h1))))) (I (k+1) m3 h1)))))) (λm3 h1=>iC m3 h1 b1 0 (λy1=>K (dN y1) m3 h1))))
noncomputable abbrev uD(a:Nat×Nat×Sl×Sl×List VV×MH×PH):Sl:=a.2.2.2.1
noncomputable abbrev Bi(a:Nat×Nat×Sl×Sl×List VV×MH×PH):List (List Value):=rN a.2.2.2.2.1
noncomputable abbrev pW(a:Nat×Nat×Sl×Sl×List VV×MH×PH):MH×PH:=a.2.2.2.2.2
abbrev lK(a:PH)(b:List (List VV))(c:CV->MH->PH->Prop)(d:MH):Prop:=bZ (λx x1=>bE a x1 (Rows x1 x b) (c (dN x) d x1))
attribute [push_cast] uD Bi pW lK
def GP(v:QV)(t:Sl)(m:MH)(h:PH)(K:CV->MH->PH->Prop):Prop:=
  ∀(b:Nat)(m1:MH),aM (cC m h b) (bI m m1 b v.enc 38) (AZ m1 h t (λb1 m2 y S=>pO S h y m2 (λx I k e=>eT (λm3 h1=>aM (sX x k e) (PH.le h h1) (I k m3 h1->∃(y1:Sl),aA (aL m3 h1 b 15 (aU y1)) (cA (aG y1)) (aA (aG y1<=aG y1) (qE (aG y1*32)) (qE (aG y1)/\iC m3 h1 b 15 (λy2=>∃(I1:Nat×Nat×Sl×Sl×List VV×MH×PH->Prop)(m4:Nat×Nat×Sl×Sl×List VV×MH×PH->Nat),(∃(x1:Nat×Nat×Sl×Sl×List VV×MH×PH),aA (I1 x1) (cX b1 x1.2.1) (aA (bF e x1.2.2.1) (eL 17) (aA (bF y2 (uD x1)) (cK y2 (uD x1)) (aA (bD x1.1) (Option.some (Own.lst 27 3 (List.replicate (aG y1).toNat uC))=Option.some (Own.lst 27 3 (Bi x1))) (jE m3 (pW x1) h1)))))/\∀(x1:Nat×Nat×Sl×Sl×List VV×MH×PH),I1 x1->aZ (↑x1.1:
 Int) (aG (uD x1)) (aR (λb2 o=>aA (aT (uD x1).a b2 o) (0<=(↑x1.1:Int)) ((↑x1.1:Int)<aG (uD x1)/\∃(y3:Int),aL (pW x1).1 (pW x1).2 b2 (bA o x1.1 1) (cL y3)/\aR (λb3 o1=>aA (aT x1.2.2.1.a b3 o1) (0<=y3) (y3<aG x1.2.2.1/\∃(y4:VV),aA (aL (pW x1).1 (pW x1).2 b3 (fQ o1 y3 3) y4.enc) (0<=(↑x1.1:Int)) ((↑x1.1:Int)<kL (Bi x1)/\∃(e1:List Value),aA (uK (Bi x1) (rA x1.1) e1) (3<=e1.length) (∃(x2:Nat×Nat×Sl×Sl×List VV×MH×PH),aA (I1 x2) (m4 x2<m4 x1) (aA (cX x1.2.1 x2.2.1) (bF x1.2.2.1 x2.2.2.1) (aA (eL 17) (bF (uD x1) (uD x2)) (aA (cK (uD x1) (uD x2)) (fN (bG x1.1 1)=bV x2.1) (aA (Option.some (Own.lst 27 3 (List.set (Bi x1) (rA x1.1) (aJ (dO y4.kind) (dO y4.int)
 (Value.string y4.text::List.drop 3 e1))))=Option.some (Own.lst 27 3 (Bi x2))) (cH (pW x1).1 (pW x2)) (eJ (pW x1).2 (pW x2)/\True)))))))))))) (iC (pW x1).1 (pW x1).2 x1.2.1 0 (λy3=>bZ (λs h2=>bE (pW x1).2 h2 (aX h2 s 3 (Bi x1)) (∃(x2:List (List Value)),aA (dC (pW x1).1 (cZ y3) 74 1 x2) (gM ((x2.length+1)*24)) (iF x2/\gS (λs1 m5=>dY (pW x1).1 m5 (cZ y3) s1 74 1 (jC x2 s)->gK (λc E=>aA (uO m5 x1.2.1 (eR c E 0)) (fC 0 c) (∀(m6:MH),bI m5 m6 x1.2.1 (eO (dT s1) 1 c) E->I (k+1) m6 h2)))))))))))))) (λm3 h1=>iC m3 h1 b1 0 (λy1=>∃(s:Sl)(u:List Sl)(l:List (List VV)),aA (fX y1=fX s) (nR m3 h1 s 1 (qG u)) (aA (eB h1 u l) (D6 l.length) (lK h1 (Ae l) K m3))))))
def GM(v:QV)(t:Sl)(m:MH)(h:PH)(K:CV->MH->PH->Prop):Prop:=
  aR (λb o=>aA (aT t.a b o) ((0:Int)<=0) (0<aG t/\∃(y:Nat),aL m h b (o+0) (nN y)/\aR (λb1 o1=>aA (aT t.a b1 o1) ((0:Int)<=1) (1<aG t/\∃(y1:Nat),aA (aL m h b1 (o1+1) (nN y1)) (aY h b1 (o1+1) (nN y1)) (Jp (λb2 v1=>aA (jW (CV.val (xK y 0))=jW (CV.val (xK b2 0))) (DT h b2 v1) (∀(s:Sl),EW s 1 v1 (λm1 x o2=>m x=Option.some o2->m1 x=Option.some o2) (λx=>Bk m x) (λm1=>aY h b (o+0) (nN y)/\∃(s1:Sl),Jp (λb3 u=>∃(v2:List Sl),aA (bK (dN s) (CV.val (xK y1 0))=bK (dN s1) (CV.val (xK b3 0))) (dC m1 s1 74 1 (qG u)) (aA (DT h b3 v2) (D6 u.length) (∀(s2:Sl),EW s2 1 (u++v2) (λm2 x o2=>aM (m1 x=Option.some o2) (∀(i:Nat),jO (aT s1.a x i)) (m2 x=Option.some o2))
 (λx=>Bk m1 x\/∃(i:Nat),aT s1.a x i) (λm2=>aA (aY h b (o+0) (nN y)) (aY h b1 (o1+1) (nN y1)) (∃(s3:Sl)(u1:List Sl)(l:List (List VV)),aA (fX s2=fX s3) (nR m2 h s3 1 (qG u1)) (aA (eB h u1 l) (D6 l.length) (lK h (Ae l) K m2)))))))))))))))
noncomputable abbrev D7:Value:=Value.map Option.none
abbrev cE(a:MH)(b:PH)(c d:Nat):Prop:=aL a b c 0 (iO (BH d))
abbrev kU(a:MH)(b:PH)(c d:Nat)(e:Prop):Prop:=aL a b c 0 (iO (BH d))/\e
noncomputable abbrev BG(a:List VV):Value:=Value.string (cM a)
abbrev tE(a b:Prop)(c:(List (Value×Value))->Prop):Prop:=aA a b (∀(x:List (Value×Value)),c x)
attribute [push_cast] D7 cE kU BG tE
def GI(t:Sl)(i:Bool)(m:MH)(h:PH)(K:CV->MH->PH->Prop):Prop:=
  ∀(b:Nat)(m1:MH),aM (cC m h b) (bI m m1 b (iO (Value.bool i)) 4) (Ba m1 h 0 (λb1 m2=>∀(b2:Nat)(m3:MH),aM (cC m2 h b2) (bI m2 m3 b2 (iO D7) 177) (gK (λc E=>aA (uO m3 b2 (eR c E 0)) (fC 0 c) (∀(m4:MH),bI m3 m4 b2 (eO (BH b1) 1 c) E->Fj t.a 0 1 t m4 h (λo=>o+1) (λy S=>pO S h y m4 (λx I k e=>eT (λm5 h1=>aM (sX x k e) (PH.le h h1) (I k m5 h1->∃(y1:Nat),aA (cE m5 h1 b2 y1) (cE m5 h1 b2 y1) (nE (λs r=>aA (fX e=fX s) (cF h1 s r) (aA (NN r) (jZ m5) (kU m5 h1 b2 y1 (vJ (λk1 O=>aA (jR m5 y1 k1) (pY O) (aA (O (BG r)) (dV (Instr.sameBits 10000 (BG r) (BG r))) (tE (∀(e1:Value×Value),u9 e1 k1 O) ((∀(e1:Value×Value),nZ (List.Mem e1 k1) (e1.1=BG r))->∀(m6:MH),
 aM (iJ m5 m6 y1) (jR m6 y1 (k1++vF (BG r) zU)) (I (k+1) m6 h1)) (λl=>∀(v:Value)(l1:List (Value×Value)),k1=l++kN (BG r) v l1->∀(m6:MH),aM (iJ m5 m6 y1) (jR m6 y1 (l++kN (BG r) zU l1)) (I (k+1) m6 h1))))))))))))) (λm5 h1=>AZ m5 h1 t (λb3 m6 y1 S1=>pO S1 h1 y1 m6 (λx I k e=>eT (λm7 h2=>aM (sX x k e) (PH.le h1 h2) (I k m7 h2->∃(y2:Nat),kU m7 h2 b2 y2 (∃(y3:Bool),aA (aL m7 h2 b 0 (iO (Value.bool y3))) (cE m7 h2 b2 y2) (aL m7 h2 b 0 (iO (Value.bool y3))/\nE (λs r=>aA (fX e=fX s) (cF h2 s r) (aA (NN r) (jZ m7) (aA (cE m7 h2 b2 y2) (aL m7 h2 b 0 (iO (Value.bool y3))) (aL m7 h2 b 0 (iO (Value.bool y3))/\∃(k1:List (Value×Bool))(O:Value->Prop),aA (zJ m7 y2 (List.map (fun(p:Value×Bool)=>
 (p.1,Value.bool p.2)) k1)) (pY O) (aA (O (BG r)) (∀(e1:Value×Bool),List.Mem e1 k1->O e1.1) (fT (∀(e1:Value×Bool),nZ (List.Mem e1 k1) (e1.1=BG r)) (false==y3) (CP m7 h2 b3 (λy4 x1=>gS (λs1 m8=>dY m7 m8 (cZ y4) s1 74 1 (jC x1 e)->gK (λc1 E1=>aA (uO m8 b3 (eR c1 E1 0)) (fC 0 c1) (∀(m9:MH),bI m8 m9 b3 (eO (dT s1) 1 c1) E1->I (k+1) m9 h2))))) (I (k+1) m7 h2)/\∀(y4:Bool),fT (List.Mem (BG r,y4) k1) (y4==y3) (CP m7 h2 b3 (λy5 x1=>gS (λs1 m8=>dY m7 m8 (cZ y5) s1 74 1 (jC x1 e)->gK (λc1 E1=>aA (uO m8 b3 (eR c1 E1 0)) (fC 0 c1) (∀(m9:MH),bI m8 m9 b3 (eO (dT s1) 1 c1) E1->I (k+1) m9 h2))))) (I (k+1) m7 h2)))))))))))) (λm7 h2=>iC m7 h2 b3 0 (λy2=>K (dN y2) m7 h2))))))))))
abbrev MV(a:(List Nat)->(List (List (List VV)))->Prop):Prop:=∃(x:List Nat)(x1:List (List (List VV))),a x x1
attribute [push_cast] MV
def UC(v:QV)(t:Sl)(m:MH)(h:PH)(K:CV->MH->PH->Prop):Prop:=
  ∃(t1:Sl)(i:Bool),MV (λb l=>∃(w:Nat),aA (bK (dN t) aW=bK (dN t1) (By i)) (CI h t1 b l) (aA (jZ m) (2<=l.length) ((∀(l1:List (List VV)),List.Mem l1 l->iH w l1)/\lK h (List.filter (fun(x:List VV)=>SG (List.getD l 1 []) x==i) (List.getD l 0 [])) K m)))
def UB(v:QV)(t:Sl)(m:MH)(h:PH)(K:CV->MH->PH->Prop):Prop:=
  ∃(t1:Sl)(i:Bool),MV (λb l=>∃(w:Nat),aA (bK (dN t) fJ=bK (dN t1) (By i)) (CI h t1 b l) (aA (jZ m) (2<=l.length) ((∀(l1:List (List VV)),List.Mem l1 l->iH w l1)/\lK h (List.filter (fun(x:List VV)=>SG (List.getD l 1 []) x==i) (List.getD l 0 [])) K m)))
abbrev CY(a b:Sl)(c:PH)(d e:(List VV)->(List Int)->Prop):Prop:=iN (λx x1=>∃(x2:List VV)(x3:List Int),aA (jP a b=jP x x1) (cF c x x2) (aA (Ints c x1 x3) (d x2 x3) (e x2 x3)))
noncomputable abbrev bX(a:List VV)(b:List Int):Value:=BG (pick a b)
abbrev EY(a b:Sl)(c:PH)(d:MH)(e:Prop)(g i:(List VV)->(List Int)->Prop):Prop:=iN (λx x1=>∃(x2:List VV)(x3:List Int),aA (jP a b=jP x x1) (cF c x x2) (aA (Ints c x1 x3) (NN x2) (aA (gH x2.length x3) (jZ d) (aA e (g x2 x3) (i x2 x3)))))
attribute [push_cast] CY bX EY
def GN(v:QV)(t:Sl)(m:MH)(h:PH)(K:CV->MH->PH->Prop):Prop:=
  Js (λs o=>aA (fX v.on=fX s) (lI h s o) (∀(a:Sl),bZ (λb h1=>bE h h1 (Ints h1 a (jU o)) (Ints h1 b (fM o)->∀(b1:Nat)(m1:MH),aM (cC m h1 b1) (bI m m1 b1 iD 33) (∀(b2:Nat)(m2:MH),aM (cC m1 h1 b2) (bI m1 m2 b2 iD 33) (gK (λc E=>aA (uO m2 b1 (eR c E 0)) (fC 0 c) (∀(m3:MH),bI m2 m3 b1 (eO (dT a) 1 c) E->gK (λc1 E1=>aA (uO m3 b2 (eR c1 E1 0)) (fC 0 c1) (∀(m4:MH),bI m3 m4 b2 (eO (dT b) 1 c1) E1->Ba m4 h1 0 (λb3 m5=>∀(b4:Nat)(m6:MH),aM (cC m5 h1 b4) (bI m5 m6 b4 (iO D7) 177) (gK (λc2 E2=>aA (uO m6 b4 (eR c2 E2 0)) (fC 0 c2) (∀(m7:MH),bI m6 m7 b4 (eO (BH b3) 1 c2) E2->Fj t.a 0 1 t m7 h1 (λo1=>o1+1) (λy S=>pO S h1 y m7 (λx I k e=>eT (λm8 h2=>
 aM (sX x k e) (PH.le h1 h2) (I k m8 h2->∃(y1:Nat),kU m8 h2 b4 y1 (∃(y2:Sl),aA (aL m8 h2 b2 0 (aU y2)) (cE m8 h2 b4 y1) (CY e y2 h2 (λr _=>NN r) (λr c3=>aA (gH r.length c3) (jZ m8) (cE m8 h2 b4 y1/\vJ (λk1 O=>aA (jR m8 y1 k1) (pY O) (aA (O (bX r c3)) (dV (Instr.sameBits 10000 (bX r c3) (bX r c3))) (tE (∀(e1:Value×Value),u9 e1 k1 O) ((∀(e1:Value×Value),nZ (List.Mem e1 k1) (e1.1=bX r c3))->∀(m9:MH),aM (iJ m8 m9 y1) (jR m9 y1 (k1++vF (bX r c3) zU)) (I (k+1) m9 h2)) (λl=>∀(v1:Value)(l1:List (Value×Value)),k1=l++kN (bX r c3) v1 l1->∀(m9:MH),aM (iJ m8 m9 y1) (jR m9 y1 (l++kN (bX r c3) zU l1)) (I (k+1) m9 h2)))))))))))) (λm8 h2=>AZ m8 h2 t (λb5 m9 y1 S1=>pO S1 h2 y1
 m9 (λx I k e=>eT (λa1 h3=>aM (sX x k e) (PH.le h2 h3) (I k a1 h3->∃(y2:Nat),kU a1 h3 b4 y2 (∃(y3:Sl),aA (aL a1 h3 b1 0 (aU y3)) (cE a1 h3 b4 y2) (EY e y3 h3 a1 (cE a1 h3 b4 y2) (λ_ _=>aL a1 h3 b1 0 (aU y3)) (λr c3=>Il a1 y2 (λO=>O (bX r c3)) (λk1 e1=>nZ (List.Mem e1 k1) (e1.1=bX r c3)) (I (k+1) a1 h3) (bX r c3) (CP a1 h3 b5 (λy4 x1=>gS (λs1 a2=>dY a1 a2 (cZ y4) s1 74 1 (jC x1 e)->gK (λc4 E3=>aA (uO a2 b5 (eR c4 E3 0)) (fC 0 c4) (∀(a3:MH),bI a2 a3 b5 (eO (dT s1) 1 c4) E3->I (k+1) a3 h3))))))))))) (λa1 h3=>iC a1 h3 b5 0 (λy2=>K (dN y2) a1 h3)))))))))))))))))))
def Av(m mx:MH)(b:Nat):Prop:=∀x o,m x=some o->x≠b->mx x=some o
structure mA(m mx:MH)(b:Nat)(us:List Sl):Prop where
 ex:∃s:Sl,mx b=some (.cells #[.slice s.a s.len s.cap] 53 (0,0))/\dC mx s 74 1 (us.map eS)/\∀i x,s.a=some ⟨x,i,none⟩->m x=none
theorem mA.new(hb:m' b=some (.cells #[u0] 53 (0,0))):mA m m' b []:=⟨⟨none,0,0⟩,hb,⟨Ag [],.inl ⟨rfl,rfl⟩⟩,λi x e=>by cases e⟩
theorem EK{mx:MH}{s:Sl}{us:List Sl}{e:Sl}{Q:MH->Prop}(hmb:∃o,m b=some o)(hs:Av m mx b)(hb:mx b=some (.cells #[.slice s.a s.len s.cap] 53 (0,0)))(hrow:dC mx s 74 1 (us.map eS))(hfr:∀i x,s.a=some ⟨x,i,none⟩->m x=none)(hl:us.length<=502633886983)(hQ:∀m',Av m m' b->mA m m' b (us++[e])->Q m'):
 ∃xs:List (List Value),dC mx (Sl.mk s.a s.len s.cap) 74 1 xs/\(xs.length+1)*24<=140737488355328/\xs.length<140737488355328/\∀(s':Sl)(m':MH),dY mx m' (Sl.mk s.a s.len s.cap) s' 74 1 (xs++[[dT e]])->
  ∃(cs:Array Value)(E:TypeId),uO m' b (.cells cs E (0,0))/\0<cs.size/\∀m2:MH,jJ m' m2 b (.cells (Array.mk (dT s'::cs.toList.drop 1)) E (0,0))->Q m2:=by
 obtain⟨ob,hmb⟩:=hmb;have hnb:∀i,s.a≠some ⟨b,i,none⟩:=λi e2=>by rw[hfr i b e2]at hmb;cases hmb
 refine⟨us.map eS,hrow,by rw[List.length_map];omega,by rw[List.length_map];omega,λs' m' hg=>⟨_,_,⟨hg.other b _ hb hnb⟩,by simp,λm2 hu=>hQ m2 ?_ ⟨s',hu.at_,?_,?_⟩⟩⟩
 .intro x o hx hne;rw[hu.other x hne];exact hg.other x o (hs x o hx hne) (λi e2=>by have e2:s.a=some ⟨x,i,none⟩:=e2;rw[hfr i x e2]at hx;cases hx)
 .have e1:(us++[e]).map eS=us.map eS++[[dT e]]:=by simp[eS]
  rw[e1];refine dC.keep hg.row (λx i e2=>hu.other x (λe3=>?_));subst e3;rcases hg.fresh x i e2 with h1|⟨j,h1⟩
  .rw[hb]at h1;cases h1
  .exact hnb j h1
 .intro i x e2;rcases hg.fresh x i e2 with h1|⟨j,h1⟩
  .cases e4:m x with
   |none=>rfl
   |some o=>
    by_cases e5:x=b
    .subst e5;rw[hb]at h1;cases h1
    .rw[hs x o e4 e5]at h1;cases h1
  .exact hfr j x h1
theorem mA.app{mx:MH}{hx:PH}{us:List Sl}{e:Sl}{Q:MH->Prop}(hmb:∃o,m b=some o)(hs:Av m mx b)(o:mA m mx b us)(hl:us.length<=502633886983)(hQ:∀m',Av m m' b->mA m m' b (us++[e])->Q m'):
 ∃y:Sl,aL mx hx b 0 [dT y]/\∃xs:List (List Value),dC mx (Sl.mk y.a y.len y.cap) 74 1 xs/\(xs.length+1)*24<=140737488355328/\xs.length<140737488355328/\∀(s':Sl)(m':MH),dY mx m' (Sl.mk y.a y.len y.cap) s' 74 1 (xs++[[dT e]])->
  ∃(cs:Array Value)(E:TypeId),uO m' b (.cells cs E (0,0))/\0<cs.size/\∀m2:MH,jJ m' m2 b (.cells (Array.mk (dT s'::cs.toList.drop 1)) E (0,0))->Q m2:=by
 obtain⟨s,hb,hrow,hfr⟩:=o.ex;exact⟨s,.of_m hb rfl,EK hmb hs hb hrow hfr hl hQ⟩
theorem cY.sub{hx:PH}{r:CV}(sub:Sub m m')(le:PH.le h hx)(hK:K r m hx):cY h K r m' hx:=λ_=>⟨m,hx,sub,le,λ_ _ _ e=>.inl e,hK⟩
theorem cY.row{hx:PH}{s:Sl}{us:List Sl}(sub:Sub m m')(le:PH.le h hx)(hr:dC m' s 74 1 (us.map eS))(hf:∀i b,s.a=some ⟨b,i,none⟩->m b=none)(hK:∀h',PH.le hx h'->aX h' s 1 (us.map eS)->K (cS s) m h'):cY h K (cS s) m' hx:=by
 intro hd;rcases hr.ex with⟨rfl,hx0⟩|⟨b,cap,cur,rfl,hm,h1,h2,h3,h4⟩
 .refine⟨m,hx,sub,le,λb i v e=>.inl e,hK hx (.refl _) ?_⟩;rw[hx0];exact aX.nil _ _
 .have hn:∀i,hx b i=none:=hd b _ hm;refine⟨m,kW hx b cur.toList,sub,le.trans (y8 hn),λb' i v e=>?_,hK _ (y8 hn) ⟨?_,?_,?_⟩⟩
  .by_cases hb:b'=b
   .subst hb;simp only[kW,if_true]at e;exact .inr ⟨cur,74,(0,0),hm,by rw[<-Array.getElem?_toList];exact e,hf 0 b' rfl⟩
   .simp only[kW,if_neg hb]at e;exact .inl e
  .simp
  .by_cases hu:us.map eS=[]
   .exact .inl hu
   .refine .inr ⟨b,0,rfl,λi e hi=>⟨λj v hv=>?_⟩⟩;have hel:=hr.rows.len e (List.mem_of_getElem? hi);have hj:j=0:=by have:=(List.getElem?_eq_some_iff.1 hv).1;omega
    subst hj;have hlt:=(List.getElem?_eq_some_iff.1 hi).1
    have h5:((us.map eS).flatten)[i]? =some v:=by
     rw[List.getElem?_map]at hi;cases hu2:us[i]? with
     |none=>rw[hu2]at hi;cases hi
     |some u=>
      rw[hu2]at hi;simp at hi;subst hi;simp[eS]at hv;subst hv
      have:∀l:List Sl,(l.map eS).flatten=l.map λu=>Value.slice u.a u.len u.cap:=λl=>by
       induction l with
       |nil=>rfl
       |cons a l ih=>simp only[List.map_cons,List.flatten_cons,ih];rfl
      rw[this,List.getElem?_map,hu2];rfl
    rw[<-h4,List.getElem?_take,if_pos aC]at h5;simp only[kW,if_true];rw[show 0+i*1+0=i by omega];exact h5
  .exact h1
structure oD(m:MH)(y:Nat)(ks:List ByteArray):Prop where
 ex:∃kk:List ByteArray,jR m y (kk.map λk=>(Value.string k,Value.bool true))/\∀k,k∈kk↔k∈ks
theorem oD.keep{y:Nat}{ks:List ByteArray}(s:oD m y ks)(hk:m' y=m y):oD m' y ks:=by
 obtain⟨kk,⟨es,c,h1,h2,h3,h4⟩,h5⟩:=s.ex;exact⟨kk,⟨es,c,by rw[hk];exact h1,h2,h3,h4⟩,h5⟩
theorem oD.new{y:Nat}(h:m y=some (.map #[] 0)):oD m y []:=⟨[],⟨#[],0,h,rfl,by simp,by simp⟩,by simp⟩
theorem oD.get{y:Nat}{ks:List ByteArray}{key:ByteArray}{K:Bool->Prop}(s:oD m y ks)(hK:∀t:Bool,(t=true↔key∈ks)->K t):
 ∃(kvs:List (Value×Bool))(Ok:Value->Prop),zJ m y (kvs.map λp=>(p.1,Value.bool p.2))/\KeyLaw Tryz.prog 9 Ok/\Ok (.string key)/\(∀e,List.Mem e kvs->Ok e.1)/\((∀e,List.Mem e kvs->e.1=Value.string key->False)->K false)/\∀t,List.Mem (Value.string key,t) kvs->K t:=by
 obtain⟨kk,⟨es,c,h1,h2,_,_⟩,h5⟩:=s.ex;refine⟨kk.map λk=>(Value.string k,true),_,⟨es,c,h1,by rw[h2];simp⟩,AE,⟨key,rfl⟩,λe he=>?_,λhn=>hK false ⟨λe=>(by cases e),λhk=>?_⟩,λt ht=>hK t ⟨λ_=>?_,λ_=>?_⟩⟩
 .obtain⟨k,_,rfl⟩:=List.mem_map.1 (show e∈_ from he);exact⟨k,rfl⟩
 .exact(hn (Value.string key,true) (List.mem_map.2 (⟨key,(h5 key).2 hk,rfl⟩:∃a,a∈kk/\(Value.string a,true)=(Value.string key,true))) rfl).elim
 .obtain⟨k,hk,e⟩:=List.mem_map.1 (show(Value.string key,t)∈_ from ht);simp only[Prod.mk.injEq,Value.string.injEq]at e;rw[<-e.1];exact(h5 k).1 hk
 .obtain⟨k,hk,e⟩:=List.mem_map.1 (show(Value.string key,t)∈_ from ht);simp only[Prod.mk.injEq]at e;exact e.2.symm
theorem Oa(key:ByteArray):Instr.sameBits 10000 (Value.string key) (Value.string key)=true:=by
 show(key==key)=true;cases key with
 |mk d=>exact beq_self_eq_true d
theorem oD.put{y:Nat}{ks:List ByteArray}{key:ByteArray}{Q:MH->Prop}(s:oD m y ks)(hQ:∀m':MH,iJ m m' y->oD m' y (key::ks)->Q m'):
 ∃(kvs:List (Value×Value))(Ok:Value->Prop),jR m y kvs/\KeyLaw Tryz.prog 9 Ok/\Ok (.string key)/\Instr.sameBits 10000 (Value.string key) (Value.string key)=true/\(∀e,List.Mem e kvs->Ok e.1)/\((∀e,List.Mem e kvs->e.1=Value.string key->False)->∀m':MH,iJ m m' y->jR m' y (kvs++[(Value.string key,Value.bool true)])->Q m')/\
  ∀(l1:List (Value×Value))(v0:Value)(l2:List (Value×Value)),kvs=l1++(Value.string key,v0)::l2->∀m':MH,iJ m m' y->jR m' y (l1++(Value.string key,Value.bool true)::l2)->Q m':=by
 obtain⟨kk,hm,h5⟩:=s.ex;refine⟨_,_,hm,AE,⟨key,rfl⟩,Oa key,λe he=>?_,λhn m' hs hm'=>hQ m' hs ⟨kk++[key],by simpa using hm',λk=>?_⟩,λl1 v0 l2 e m' hs hm'=>hQ m' hs ⟨kk,?_,λk=>?_⟩⟩
 .obtain⟨k,_,rfl⟩:=List.mem_map.1 (show e∈_ from he);exact⟨k,rfl⟩
 .simp[h5,or_comm]
 .have:(Value.string key,v0)∈kk.map λk=>(Value.string k,Value.bool true):=by rw[e];simp
  obtain⟨k,_,e2⟩:=List.mem_map.1 this;simp only[Prod.mk.injEq]at e2;rw[<-e2.2]at e;rw[e];exact hm'
 .have:(Value.string key,v0)∈kk.map λk=>(Value.string k,Value.bool true):=by rw[e];simp
  obtain⟨k2,hk2,e2⟩:=List.mem_map.1 this;simp only[Prod.mk.injEq,Value.string.injEq]at e2;rw[h5];constructor
  .exact List.mem_cons_of_mem _
  .intro h;rcases List.mem_cons.1 h with rfl|h
   .rw[<-e2.1];exact(h5 k2).1 hk2
   .exact h
theorem CI.get{t:Sl}{bs:List Nat}{ls:List (List (List VV))}(a:CI h t bs ls){l:List (List VV)}(hl:ls[i]? =some l):∃b off x,t.a=some ⟨b,off,none⟩/\(i:Int)<(t.len:Int)/\aY h b (off+i) [Kz x]/\KG h x l:=by
 have hi:=(List.getElem?_eq_some_iff.1 hl).1;have hb:bs[i]? =some (bs[i]'(by rw[a.len];exact hi)):=List.getElem?_eq_getElem _;obtain⟨b,o,e,rd⟩:=a.row.get (i:=i) (e:=[Kz (bs[i]'(by rw[a.len];exact hi))]) (by simp[hb]);have hlen:=a.row.len;simp only[List.length_map]at hlen;have:=a.len;exact⟨b,o,_,e,aC,by simpa using rd,a.at_ i _ l hb hl⟩
theorem eB.at'{us:List Sl}{rs:List (List VV)}(x:eB h us rs){u:Sl}(hu:us[i]? =some u):∃r,rs[i]? =some r/\cF h u r:=by
 have hi:=(List.getElem?_eq_some_iff.1 hu).1;obtain⟨v,h1,h2⟩:=x.at_ i _ (List.getElem?_eq_getElem (by rw[<-x.len];exact hi));rw[hu]at h1;cases h1;exact⟨_,List.getElem?_eq_getElem (by rw[<-x.len];exact hi),h2⟩
theorem iX{α:Type}{l:List α}{x:α}(p:α->Bool)(hx:l[k]? =some x):(l.take (k+1)).filter p=(l.take k).filter p++(if p x then[x]else[]):=by
 rw[List.take_add_one,hx,Option.toList_some,List.filter_append];congr 1;cases e:p x<;>simp[e]
theorem Sub.x{m1 mx:MH}(h:Sub m m1)(hb:m b=none)(hx:Av m1 mx b):Sub m mx:=λx o hxo=>hx x o (h x o hxo) (λe=>by rw[e,hb]at hxo;cases hxo)
def DN(n:Nat):Query->List (List (List VV))->Prop:=λ_ ls=>n<=ls.length/\∀l∈ls,∃w,iH w l
def Fv(q:Query)(ls:List (List (List VV))):List (List VV):=match q with|.mk _ _ w _ _ _ _ _ _=>(ls.getD 0 []).filter λr=>j7 r w
theorem BO{ls:List (List (List VV))}{i:Nat}(h:i<ls.length):ls[i]? =some (ls.getD i []):=by
 rw[List.getD_eq_getElem?_getD,List.getElem?_eq_getElem h];rfl
theorem DS{f:FuncId}{fn:Func}(hf:Tryz.prog.funcs[f]? =some fn){S:Vc.Spec}(hvc:∀cvs m h K,S cvs m h K->∃C:Ctx,C.P=Tryz.prog/\(∀g S,assoc C.specs g=some S->Sound Tryz.prog g S)/\∃N:Prop,N=SK C fn (dJ fn) (entry fn.ntmps cvs m h) (cY h K)/\N)(hb:fn.body=some (dJ fn):=by rfl)(hname:(fn.name== "runtime.NumGoroutine")=false:=by decide):Sound Tryz.prog f S:=Qy hf hb hname λcvs m h K hS=>let⟨C,hC,hs,N,e,hn⟩:=hvc cvs m h K hS;⟨C,hC,hs,e▸hn⟩
theorem Rk:Sound Tryz.prog 148 (NO (DN 1) Fv):=by
 refine DS Tryz.func148 ?_;rintro cvs m h K ⟨v,t,q,bs,ls,rfl,hq,ha,_,hok,hK⟩;refine⟨Nh [(183,WQ)] [] [] [200002,200005,1053],rfl,aD Q6 aF,GQ v t m h (cY h K),by kernel_rfl,?_⟩;show GQ v t m h (cY h K);dsimp only[GQ,push_cast];intro b m1 hb1 hu1 b2 m2 hb2 hu2;have hsub1:Sub m m1:=(Sub.refl m).upd hb1.m_ hu1.other
 have hn2:m b2=none:=by
  cases e:m b2 with
  |none=>rfl
  |some o=>have e1:=hsub1 b2 o e;rw[hb2.m_]at e1;cases e1
 have hsub2:Sub m m2:=hsub1.upd hn2 hu2.other;have hne:b≠b2:=λe=>by have:=hb2.m_;rw[<-e,hu1.at_]at this;cases this
 obtain⟨b3,off,x,ea,hlt,rd,sq⟩:=ha.get (BO (i:=0) (by have:=hok.1;omega));obtain⟨us,hseq,hru⟩:=sq.ex;obtain⟨op,ta,w,co,on,gr,od,li,args⟩:=q;have xq:=hq.parts;obtain⟨wd,hrel⟩:=hok.2 _ (List.mem_of_getElem? (BO (i:=0) (by have:=hok.1;omega)));simp only[Fv]at hK;generalize ls.getD 0 []=l at hseq hru hK hrel sq;have hul:=hru.len;have hll:=hrel.len;refine⟨b3,off,ea,aC,aC,x,.imm rd,tK,us,λk mx hx=>hx=h/\Av m2 mx b2/\∃us2,mA m2 mx b2 us2/\us2.length<=k/\eB h us2 ((l.take k).filter λr=>j7 r w),sG,⟨x,us,rfl,hseq,rfl⟩,⟨rfl,λx o e _=>e,[],mA.new hu2.at_,by simp,by simpa using eB.nil h⟩,?_,?_⟩
 .rintro k e mx hx hk-⟨rfl,hs,us2,hout,hl2,hr2⟩
  obtain⟨r,hr,hv⟩:=hru.at' hk;have hkl:=(List.getElem?_eq_some_iff.1 hk).1;refine⟨v.where_,.of_m (hs b _ (by rw[hu2.other b hne];exact hu1.at_) hne) rfl,v.where_,e,w,r,rfl,xq.where_,hv,aB (λht=>?_) (λhf=>?_)⟩
  .refine mA.app ⟨_,hu2.at_⟩ hs hout aC (λm' hs' ho'=>⟨rfl,hs',us2++[e],ho',by simp;omega,?_⟩);rw[iX _ hr,if_pos ht];exact hr2.snoc hv
  .refine⟨rfl,hs,us2,hout,aC,?_⟩;rw[iX _ hr,if_neg (by simp[hf]),List.append_nil];exact hr2
 .rintro mx hx-⟨rfl,hs,us2,hout,hl2,hr2⟩
  rw[hul,List.take_length]at hr2;obtain⟨s,hb,hrow,hfr⟩:=hout.ex;refine⟨s,.of_m hb rfl,cY.row (hsub2.x hn2 hs) (.refl _) hrow (λi y e=>?_) (λh' le hri=>hK s h' le ((hr2.mono le).rows hri (by have:=hr2.len;omega)))⟩;cases e2:m y with
  |none=>rfl
  |some o=>have e1:=hfr i y e;rw[hsub2 y o e2]at e1;cases e1
theorem eB.app{us vs:List Sl}{a b:List (List VV)}(x:eB h us a)(y:eB h vs b):eB h (us++vs) (a++b):=by
 refine⟨by simp[x.len,y.len],λj r hr=>?_⟩;have hl:=x.len;by_cases hj:j<a.length
 .rw[List.getElem?_append_left hj]at hr;obtain⟨u,h1,h2⟩:=x.at_ j r hr;exact⟨u,by rw[List.getElem?_append_left aC];exact h1,h2⟩
 .rw[List.getElem?_append_right aC]at hr;obtain⟨u,h1,h2⟩:=y.at_ _ r hr;exact⟨u,by rw[List.getElem?_append_right aC,hl];exact h1,h2⟩
def Mv(_:Query)(ls:List (List (List VV))):List (List VV):=Ae (ls.getD 0 []++ls.getD 1 [])
theorem Rg:Sound Tryz.prog 152 (NO (DN 2) Mv):=by
 refine Fu Tryz.func152 ?_;rintro cvs m h K ⟨v,t,q,bs,ls,rfl,_,ha,_,hok,hK⟩;refine⟨dL [(189,Qb),(188,NM),(74,Ym)] [] [] [] false,rfl,aD Q3 (aD JT (aD Gx aF)),GM v t m h (kD h K),by kernel_rfl,?_⟩;show GM v t m h (kD h K);dsimp only[GM,push_cast];have h2:=hok.1;obtain⟨b,off,x,ea,hlt,rd,sq⟩:=ha.get (BO (i:=0) aC);obtain⟨b',off',x',ea',hlt',rd',sq'⟩:=ha.get (BO (i:=1) aC);obtain⟨us,hseq,hru⟩:=sq.ex;obtain⟨us',hseq',hru'⟩:=sq'.ex;obtain⟨_,hrel⟩:=hok.2 _ (List.mem_of_getElem? (BO (i:=0) aC));obtain⟨_,hrel'⟩:=hok.2 _ (List.mem_of_getElem? (BO (i:=1) aC));have l1:=hrel.len;have l2:=hrel'.len;have l3:=hru.len;refine⟨b,off,ea,aC,aC,x,.imm rd,b',off',ea',aC,aC,x',.imm rd',rd',x,us,rfl,hseq,λs1 m1 hr1 hs1 hf1=>⟨rd,s1,x',us,us',rfl,hr1,hseq',aC,λs2 m2 hr2 hs2 hf2=>⟨rd,rd',s2,us++us',_,rfl,hr2.src,hru.app hru',by rw[List.length_append];omega,λs3 h3 le3 hr3=>?_⟩⟩⟩;refine⟨m,h3,λy o hy=>hs2 y o (hs1 y o hy) (λi e=>?_),le3,.refl _,hK s3 h3 le3 hr3⟩;rw[hf1 y i e]at hy;cases hy
def Oj(q:Query)(ls:List (List (List VV))):List (List VV):=match q with|.mk _ _ _ co _ _ _ _ _=>Ae ((ls.getD 0 []).map λr=>pick r co)
def Jg(q:Query)(ls:List (List (List VV))):Prop:=match q with|.mk _ _ _ co _ _ _ _ _=>1<=ls.length/\co.length<=12/\∃w,iH w (ls.getD 0 [])/\gH w co
theorem Rj:Sound Tryz.prog 149 (NO Jg Oj):=by
 refine DS Tryz.func149 ?_;rintro cvs m h K ⟨v,t,q,bs,ls,rfl,hq,ha,_,hok,hK⟩;refine⟨VY,rfl,aD Gx aF,GP v t m h (cY h K),by kernel_rfl,?_⟩;show GP v t m h (cY h K);dsimp only[GP,push_cast];obtain⟨op,ta,w,co,on,gr,od,li,args⟩:=q;obtain⟨hl1,hco,wd,hrel,hcols⟩:=hok;intro b m1 hb1 hu1 b2 m2 hb2 hu2;have hsub1:Sub m m1:=(Sub.refl m).upd hb1.m_ hu1.other
 have hn2:m b2=none:=by
  cases e:m b2 with
  |none=>rfl
  |some o=>have e1:=hsub1 b2 o e;rw[hb2.m_]at e1;cases e1
 have hsub2:Sub m m2:=hsub1.upd hn2 hu2.other;have hne:b≠b2:=λe=>by have:=hb2.m_;rw[<-e,hu1.at_]at this;cases this
 obtain⟨b3,off,x,ea,hlt,rd,sq⟩:=ha.get (BO (i:=0) aC);obtain⟨us,hseq,hru⟩:=sq.ex;have xq:=hq.parts;have hcl:=xq.columns_.slen;simp only[Oj]at hK;generalize ls.getD 0 []=l at hseq hru hK hrel sq;have hul:=hru.len;have hll:=hrel.len;refine⟨b3,off,ea,aC,aC,x,.imm rd,tK,us,λk mx hx=>PH.le h hx/\Av m2 mx b2/\∃us2,mA m2 mx b2 us2/\us2.length<=k/\eB hx us2 ((l.take k).map λr=>pick r co),sG,⟨x,us,rfl,hseq,rfl⟩,⟨.refl _,λx o e _=>e,[],mA.new hu2.at_,by simp,by simpa using eB.nil h⟩,?_,?_⟩
 .rintro k e mx hx hk-⟨le,hs,us2,hout,hl2,hr2⟩
  obtain⟨r,hr,hv⟩:=hru.at' hk;have hkl:=(List.getElem?_eq_some_iff.1 hk).1;have hmq:mx b=some (.cells ⟨v.enc⟩ 38 (0,0)):=hs b _ (by rw[hu2.other b hne];exact hu1.at_) hne;have hrw:=hrel.wid r (List.mem_of_getElem? hr);have hv':=cF.mono hv le;have hvl:=bU.slen hv';have hpl:(pick r co).length=co.length:=by simp[pick]
  refine⟨v.columns,.of_m hmq rfl,aC,aC,aC,aC,v.columns,.of_m hmq rfl,λz=>z.1<=co.length/\z.2.1=b2/\z.2.2.1=e/\z.2.2.2.1=v.columns/\z.2.2.2.2.1=(pick r co).take z.1++List.replicate (co.length-z.1) zeroV/\z.2.2.2.2.2.1=mx/\z.2.2.2.2.2.2=hx,λz=>co.length-z.1,⟨(0,b2,e,v.columns,List.replicate co.length zeroV,mx,hx),⟨by simp,rfl,rfl,rfl,by simp,rfl,rfl⟩,?_⟩,?_⟩
  .dsimp only;rw[List.map_replicate,show((v.columns.len:Int)).toNat=co.length by omega];exact MT
  .rintro⟨i,bb,ee,cc,cells,my,hy⟩ ⟨hi,e1,e2,e3,e4,e5,e6⟩;dsimp only at hi e1 e2 e3 e4 e5 e6;subst e1 e2 e3 e4 e5 e6;refine aE (λhlt2=>?_) (λhge=>?_)
   .dsimp only at hlt2⊢
    obtain⟨c,hci⟩:=fD hcl hlt2;obtain⟨b4,o4,e4,rd4⟩:=(xq.columns_.mono le).at hci;obtain⟨y,hy1,hy2,h0,h1⟩:=ML (r:=r) (by rw[hrw];exact hcols) hci;obtain⟨b5,o5,y',e5,rd5,rfl⟩:=bU.at hv' hy1;have hil:i<co.length:=by omega
    have hset:((pick r co).take i++List.replicate (co.length-i) zeroV).set i y=(pick r co).take (i+1)++List.replicate (co.length-(i+1)) zeroV:=by
     rw[List.set_append,if_neg (by simp;omega)];rw[List.take_add_one,hy2,Option.toList_some,List.append_assoc];congr 1;rw[show co.length-i=(co.length-(i+1))+1 by omega,List.replicate_succ];simp[hpl,Nat.min_eq_left (Nat.le_of_lt hil)]
    have hcell:(((pick r co).take i++List.replicate (co.length-i) zeroV).map VV.enc)[i]? =some (VV.enc zeroV):=by
     rw[List.getElem?_map,List.getElem?_append_right (by simp;omega),List.getElem?_replicate,if_pos (by simp;omega)];rfl
    refine⟨b4,o4,e4,aC,aC,c,.imm (by simpa using rd4),b5,o5,e5,h0,aC,y,.imm rd5,aC,by simp;omega,_,hcell,by simp[VV.enc],(i+1,bb,ee,v.columns,(pick r co).take (i+1)++List.replicate (co.length-(i+1)) zeroV,my,hy),⟨by dsimp only;omega,rfl,rfl,rfl,rfl,rfl,rfl⟩,(by dsimp only;omega),?_⟩;dsimp only;refine⟨rfl,rfl,rfl,rfl,rfl,by rw[kE aC],?_,rfl,rfl,trivial⟩;rw[<-hset,List.map_set];rfl
   .dsimp only at hge⊢
    have:i=co.length:=by omega
    subst this;rw[List.take_of_length_le aC,Nat.sub_self,List.replicate_zero,List.append_nil];obtain⟨s,hb,hrow,hfr⟩:=hout.ex;refine⟨s,.of_m hb rfl,λs3 h3 le3 hr3=>EK ⟨_,hu2.at_⟩ hs hb hrow hfr aC (λm' hs' ho'=>⟨le.trans le3,hs',us2++[s3],ho',by simp;omega,?_⟩)⟩
    have e6:(l.take (k+1)).map (λr=>pick r co)=(l.take k).map (λr=>pick r co)++[pick r co]:=by
     rw[List.take_add_one,hr];simp
    rw[e6];exact(hr2.mono le3).snoc ⟨⟨_,hr3,rfl,λi x hx=>⟨x,hx,rfl⟩⟩,by rw[hpl];omega⟩
 .rintro mx hx-⟨le,hs,us2,hout,hl2,hr2⟩
  rw[hul,List.take_length]at hr2;obtain⟨s,hb,hrow,hfr⟩:=hout.ex;refine⟨s,.of_m hb rfl,s,us2,_,rfl,hrow.src,hr2,by simp;omega,λs3 h3 le3 hr3=>cY.sub (hsub2.x hn2 hs) (le.trans le3) (hK s3 h3 (le.trans le3) hr3)⟩
theorem gJ{m0:MH}{o:Obj}(hs:Sub m0 m)(hn:cC m h b)(hu:jJ m m' b o):Sub m0 m'/\m0 b=none:=by
 have h1:m0 b=none:=by
  cases e:m0 b with
  |none=>rfl
  |some x=>have e1:=hs b x e;rw[hn.m_]at e1;cases e1
 exact⟨hs.upd h1 hu.other,h1⟩
theorem mem_keys{l:List (List VV)}{w k:Nat}{x:List VV}(hl:iH w l)(hx:NN x)(hw:x.length=w):cM x∈(l.take k).map cM↔x∈l.take k:=by
 constructor
 .intro h;obtain⟨y,hy,e⟩:=List.mem_map.1 h;have hyl:=List.mem_of_mem_take hy;rw[(Ec (by rw[hl.wid y hyl,hw]) (hl.row y hyl).val hx.val).1 e]at hy;exact hy
 .exactλh=>List.mem_map.2 ⟨x,h,rfl⟩
theorem JS:Sound Tryz.prog 190 NL:=by
 refine DS Tryz.func190 ?_;rintro cvs m h K ⟨t,i,bs,ls,w,rfl,ha,hT,h2,hok,hK⟩;refine⟨Nh [(210,Ts)] [] [] [200003,200005,200007,1053,400000,0],rfl,aD QT aF,GI t i m h (cY h K),by kernel_rfl,?_⟩;show GI t i m h (cY h K);dsimp only[GI,push_cast];intro b3 m1 hb1 hu1 by_ m2 hb2 hu2 b5 m3 hb3 hu3;obtain⟨s1,n3⟩:=gJ (Sub.refl m) hb1 hu1;obtain⟨s2,ny⟩:=gJ s1 hb2 hu2;obtain⟨s3,n5⟩:=gJ s2 hb3 hu3;refine⟨_,_,⟨hu3.at_⟩,by simp,λm4 hu4=>?_⟩;have s4:Sub m m4:=s3.upd n5 hu4.other;have hyne:by_≠b5:=λe=>by have:=hb3.m_;rw[<-e,hu2.at_]at this;cases this
 have h3ne:b3≠b5:=λe=>by have:=hb3.m_;rw[<-e,hu2.other b3 (λe2=>by have:=hb2.m_;rw[<-e2,hu1.at_]at this;cases this),hu1.at_]at this;cases this
 have h3y:b3≠by_:=λe2=>by have:=hb2.m_;rw[<-e2,hu1.at_]at this;cases this
 have m4y:m4 by_=some (.map #[] 0):=by rw[hu4.other by_ hyne,hu3.other by_ hyne];exact hu2.at_
 have m43:m4 b3=some (.cells #[.bool i] 4 (0,0)):=by rw[hu4.other b3 h3ne,hu3.other b3 h3ne,hu2.other b3 h3y];exact hu1.at_
 have m45:m4 b5=some (.cells #[.map (some by_)] 177 (0,0)):=hu4.at_;obtain⟨b,off,x,ea,hlt,rd,sq⟩:=ha.get (BO (i:=1) aC);obtain⟨us',hseq',hru'⟩:=sq.ex;have hrel':=hok _ (List.mem_of_getElem? (BO (i:=1) aC));have hrel:=hok _ (List.mem_of_getElem? (BO (i:=0) aC));obtain⟨b6,off6,x6,ea6,hlt6,rd6,sq6⟩:=ha.get (BO (i:=0) aC);obtain⟨us,hseq,hru⟩:=sq6.ex;generalize ls.getD 1 []=l' at hru' hrel' hK sq;generalize ls.getD 0 []=l at hru hrel hK sq6;have hul:=hru.len;have hll:=hrel.len;have hul':=hru'.len;refine⟨b,off,ea,aC,aC,x,.imm rd,tK,us',λk mx hx=>hx=h/\(∀z o,m4 z=some o->z≠by_->mx z=some o)/\oD mx by_ ((l'.take k).map cM),sG,⟨x,us',rfl,hseq',rfl⟩,⟨rfl,λz o e _=>e,by simpa using oD.new m4y⟩,?_,?_⟩
 .rintro k e mx hx hk-⟨rfl,hs,hsn⟩
  obtain⟨r,hr,hv⟩:=hru'.at' hk;have hrl:=List.mem_of_getElem? hr;have r5:aL mx hx b5 0 [Value.map (some by_)]:=.of_m (hs b5 _ m45 (Ne.symm hyne)) rfl;refine⟨by_,r5,r5,e,r,rfl,hv,hrel'.row r hrl,hT.sub (λz o e2=>hs z o (s4 z o e2) (λe3=>by rw[e3,ny]at e2;cases e2)),r5,hsn.put (λm' hs' hsn'=>⟨rfl,λz o e2 hne=>by rw[hs'.other z hne];exact hs z o e2 hne,?_⟩)⟩;obtain⟨kk,h5,h6⟩:=hsn'.ex;exact⟨kk,h5,λq=>by rw[h6,List.take_add_one,hr];simp[or_comm]⟩
 .rintro mx hx-⟨rfl,hs,hsn⟩ b7 m5 hb5 hu5;rw[hul',List.take_length]at hsn;have s5:Sub m mx:=λz o e2=>hs z o (s4 z o e2) (λe3=>by rw[e3,ny]at e2;cases e2);obtain⟨s6,n7⟩:=gJ s5 hb5 hu5;have ne7:∀z o,mx z=some o->z≠b7:=λz o e2 e3=>by rw[e3,hb5.m_]at e2;cases e2
  have y7:by_≠b7:=by
   obtain⟨kk,⟨es,c,h1,_⟩,_⟩:=hsn.ex;exact ne7 by_ _ h1
  have m55:m5 b5=some (.cells #[.map (some by_)] 177 (0,0)):=by rw[hu5.other b5 (ne7 b5 _ (hs b5 _ m45 (Ne.symm hyne)))];exact hs b5 _ m45 (Ne.symm hyne)
  have m53:m5 b3=some (.cells #[.bool i] 4 (0,0)):=by rw[hu5.other b3 (ne7 b3 _ (hs b3 _ m43 h3y))];exact hs b3 _ m43 h3y
  have hsn5:oD m5 by_ (l'.map cM):=hsn.keep (hu5.other by_ y7);have n57:b5≠b7:=ne7 b5 _ (hs b5 _ m45 (Ne.symm hyne));have n37:b3≠b7:=ne7 b3 _ (hs b3 _ m43 h3y);refine⟨b6,off6,ea6,aC,aC,x6,.imm rd6,tK,us,λk my hy=>hy=hx/\Av m5 my b7/\∃us2,mA m5 my b7 us2/\us2.length<=k/\eB hx us2 ((l.take k).filter λz=>SG l' z==i),sG,⟨x6,us,rfl,hseq,rfl⟩,⟨rfl,λz o e _=>e,[],mA.new hu5.at_,by simp,by simpa using eB.nil hx⟩,?_,?_⟩
  .rintro k e my hy hk-⟨rfl,hs7,us2,hout,hl2,hr2⟩
   obtain⟨r,hr,hv⟩:=hru.at' hk;have hkl:=(List.getElem?_eq_some_iff.1 hk).1;have hrl:=List.mem_of_getElem? hr;have r5:aL my hy b5 0 [Value.map (some by_)]:=.of_m (hs7 b5 _ m55 n57) rfl;have r3:aL my hy b3 0 [Value.bool i]:=.of_m (hs7 b3 _ m53 n37) rfl
   have hsn7:oD my by_ (l'.map cM):=by
    obtain⟨kk,⟨es,c,h1,h2,h3,h4⟩,h5⟩:=hsn5.ex;exact⟨kk,⟨es,c,hs7 by_ _ h1 y7,h2,h3,h4⟩,h5⟩
   have key:∀t:Bool,(t=true↔cM r∈l'.map cM)->t=SG l' r:=λt ht=>by
    have h1:=mem_keys (k:=l'.length) hrel' (hrel.row r hrl) (hrel.wid r hrl);rw[List.take_length]at h1;rw[h1]at ht;cases t
    .cases e2:SG l' r with
     |false=>rfl
     |true=>exact ht.2 (IB.1 e2)
    .exact(IB.2 (ht.1 rfl)).symm
   refine⟨by_,r5,i,r3,r5,r3,e,r,rfl,hv,hrel.row r hrl,hT.sub (s6.x n7 hs7),r5,r3,r3,hsn7.get (K:=λt=>branch (t==i) _ _) (λt ht=>?_)⟩;have e3:=key t ht;refine aB (λh1=>?_) (λh1=>?_)
   .refine mA.app ⟨_,hu5.at_⟩ hs7 hout aC (λm' hs' ho'=>⟨rfl,hs',us2++[e],ho',by simp;omega,?_⟩);rw[iX _ hr,if_pos (by rw[<-e3];exact h1)];exact hr2.snoc hv
   .refine⟨rfl,hs7,us2,hout,aC,?_⟩;rw[iX _ hr,if_neg (by rw[<-e3,h1];simp),List.append_nil];exact hr2
  .rintro my hy-⟨rfl,hs7,us2,hout,hl2,hr2⟩
   rw[hul,List.take_length]at hr2;obtain⟨s,hb,hrow,hfr⟩:=hout.ex;refine⟨s,.of_m hb rfl,cY.row (s6.x n7 hs7) (.refl _) hrow (λj y e=>?_) (λh' le hri=>hK s h' le ((hr2.mono le).rows hri (by have:=hr2.len;omega)))⟩;cases e2:m y with
   |none=>rfl
   |some o=>have e1:=hfr j y e;rw[s6 y o e2]at e1;cases e1
def zM(_:Query)(ls:List (List (List VV))):Prop:=2<=ls.length/\∃w,∀l∈ls,iH w l
def MX(_:Query)(ls:List (List (List VV))):List (List VV):=(ls.getD 0 []).filter λx=>SG (ls.getD 1 []) x==false
def M6(_:Query)(ls:List (List (List VV))):List (List VV):=(ls.getD 0 []).filter λx=>SG (ls.getD 1 []) x==true
theorem Rf:Sound Tryz.prog 153 (NO zM MX):=by
 refine iB Tryz.func153 ?_;rintro cvs m h K ⟨v,t,q,bs,ls,rfl,_,ha,hT,⟨h2,w,hok⟩,hK⟩;refine⟨dL [(190,NL)] [] [] [] false,rfl,aD JS aF,UC v t m h K,by kernel_rfl,?_⟩;exact⟨t,false,bs,ls,w,rfl,ha,hT,h2,hok,hK⟩
theorem Re:Sound Tryz.prog 154 (NO zM M6):=by
 refine iB Tryz.func154 ?_;rintro cvs m h K ⟨v,t,q,bs,ls,rfl,_,ha,hT,⟨h2,w,hok⟩,hK⟩;refine⟨dL [(190,NL)] [] [] [] false,rfl,aD JS aF,UB v t m h K,by kernel_rfl,?_⟩;exact⟨t,true,bs,ls,w,rfl,ha,hT,h2,hok,hK⟩
def j8:List (Int×Bool)->List VV->List VV->Int
 |[],a,b=>dR a b
 |(c,dn)::r,a,b=>if 0<=c/\c<a.length/\c<b.length then(if jY (a.getD c.toNat zeroV) (b.getD c.toNat zeroV)≠0 then(if dn then-jY (a.getD c.toNat zeroV) (b.getD c.toNat zeroV)else jY (a.getD c.toNat zeroV) (b.getD c.toNat zeroV))else j8 r a b)else j8 r a b
def FY:Vc.Spec:=λcvs m h K=>∃o s t od a b,cvs=[cS o,cS s,cS t]/\iI h o od/\cF h s a/\cF h t b/\K (cI (j8 od a b)) m h
def Mm:Vc.Spec:=λcvs m h K=>∃s t bq v od a b,cvs=[cS s,cS t,cP bq]/\m bq=some (.cells ⟨QV.enc v⟩ 38 (0,0))/\iI h v.order od/\cF h s a/\cF h t b/\K (cI (j8 od a b)) m h
def Ys:Vc.Spec:=λcvs m h K=>∃i:Nat,∃bq bg br v od g s rs r x,cvs=[cI i,cP bq,cP bg,cP br]/\m bq=some (.cells ⟨QV.enc v⟩ 38 (0,0))/\m bg=some (.cells #[Sl.val g] 53 (0,0))/\m br=some (.cells #[Sl.val s] 74 (0,0))/\iI h v.order od/\Rows h g rs/\cF h s r/\rs[i]? =some x/\
 K (cB (decide (j8 od x r>=0))) m h
def Wx:Vc.Spec:=λcvs m h K=>∃(s:Sl)(bq:Nat)(v:QV)(od:List (Int×Bool))(w:Nat)(ps:List (Sl×List VV)),cvs=[cS s,.val (.func (.func 211) #[] #[.pointer (some ⟨bq,0,none⟩)])]/\m bq=some (.cells ⟨QV.enc v⟩ 38 (0,0))/\(∀i,s.a≠some ⟨bq,i,none⟩)/\iI h v.order od/\dC m s 74 1 (ps.map λp=>eS p.1)/\(∀p∈ps,cF h p.1 p.2)/\(∀p∈ps,p.2.length=w)/\ps.length<=140737488355328/\
 ∀(ps':List (Sl×List VV))(m':MH),ps'.Perm ps->ps'.Pairwise (λp q=>¬j8 od q.2 p.2<0)->dC m' s 74 1 (ps'.map λp=>eS p.1)->(∀b,(∀i,s.a≠some ⟨b,i,none⟩)->m' b=m b)->K (.tup []) m' h
noncomputable def XR(o s t:Sl)(m:MH)(h:PH):Ctx:=
 dL [(70,Mn),(71,HN)] [(2,{A:=Nat,st:=λi=>cD 55 58 [(1,sv s),(2,sv t),(10,sv o),(11,iv o.len),(12,iv i)] [] m h})] [] [] false
def Pn(o s t:Sl)(m:MH)(h:PH)(K:CV->MH->PH->Prop):Prop:=
  mX (λI x=>aA (I x) (aI s) (aA (aI t) (aI o) (aA (bL o) (bD x) (aA (m=m) (h=h) True)))) (λI m1 x=>I x->aZ (↑x:Int) (aG o) (aR (λb o1=>aA (aT o.a b o1) (0<=(↑x:Int)) ((↑x:Int)<aG o/\∃(y:Int×Bool),aL m h b (bA o1 x 2) (yL y)/\aZ y.1 0 (∃(x1:Nat),aA (I x1) (m1 x1<m1 x) (aA (aI s) (aI t) (aA (aI o) (bL o) (aA (fN (bG x 1)=bV x1) (m=m) (cQ h h))))) (cT (decide (y.1>=aG s)) (∃(x1:Nat),aA (I x1) (m1 x1<m1 x) (aA (aI s) (aI t) (aA (aI o) (bL o) (aA (fN (bG x 1)=bV x1) (m=m) (cQ h h))))) (decide (y.1>=aG t)) (∃(x1:Nat),aA (I x1) (m1 x1<m1 x) (aA (aI s) (aI t) (aA (aI o) (bL o) (aA (fN (bG x 1)=bV x1) (m=m) (cQ h h))))) (aR (λb1 o2=>aA (aT s.a b1 o2) (0<=
 y.1) (y.1<aG s/\∃(y1:VV),aL m h b1 (fQ o2 y.1 3) y1.enc/\aR (λb2 o3=>aA (aT t.a b2 o3) (0<=y.1) (y.1<aG t/\∃(y2:VV),aL m h b2 (fQ o3 y.1 3) y2.enc/\Fi y1 y2 (λa b3=>cT (jY a b3==0) (∃(x1:Nat),aA (I x1) (m1 x1<m1 x) (aA (aI s) (aI t) (aA (aI o) (bL o) (aA (fN (bG x 1)=bV x1) (m=m) (cQ h h))))) y.2 (K (eD (dX (0-jY a b3))) m h) (K (eD (jY a b3)) m h))))))))))) (C1 s t h (λa b=>K (eD (dR a b)) m h)))
def Uz(s t:Sl)(bq:Nat)(m:MH)(h:PH)(K:CV->MH->PH->Prop):Prop:=
  iC m h bq 18 (λy=>iN (λo s1=>∃(t1:Sl)(o1:List (Int×Bool))(a b:List VV),aA (dN y::bK (dN s) (dN t)=dN o::bK (dN s1) (dN t1)) (iI h o o1) (aA (cF h s1 a) (cF h t1 b) (K (eD (j8 o1 a b)) m h))))
def LF(i:Nat)(bq bg br:Nat)(m:MH)(h:PH)(K:CV->MH->PH->Prop):Prop:=
  iC m h bq 18 (λy=>iC m h bg 0 (λy1=>aR (λb o=>aA (aT y1.a b o) (0<=(↑i:Int)) ((↑i:Int)<aG y1/\∃(y2:Sl),aL m h b (bA o i 1) (aU y2)/\∃(y3:Sl),aA (aL m h br 0 (aU y3)) (aL m h bg 0 (aU y1)) (iN (λo1 s=>∃(t:Sl)(o2:List (Int×Bool))(a b1:List VV),aA (dN y::bK (dN y2) (dN y3)=dN o1::bK (dN s) (dN t)) (iI h o1 o2) (aA (cF h s a) (cF h t b1) (aL m h bg 0 (aU y1)/\K (By (decide (j8 o2 a b1>=0))) m h))))))))
theorem RX(a b:VV): -1<=jY a b/\jY a b<=1:=by
 have h1:∀x y:Int, -1<=xX x y/\xX x y<=1:=λx y=>by unfold xX;split<;>(try split)<;>omega
 have h2:=(Jz a.text.data.toList b.text.data.toList).2;have h3: -1<=KF a.text b.text/\KF a.text b.text<=1:=by unfold KF;omega
 have h4:=h1 a.kind b.kind;have h5:=h1 a.int b.int;unfold jY;split
 .exact h4
 .split
  .exact h5
  .exact h3
theorem UT{c:Int}{dn:Bool}{r:List (Int×Bool)}{a b:List VV}(h:¬(0<=c/\c<a.length/\c<b.length)):j8 ((c,dn)::r) a b=j8 r a b:=by
 rw[j8,if_neg h]
theorem Yj{c:Int}{dn:Bool}{r:List (Int×Bool)}{a b:List VV}{x y:VV}(h0:0<=c)(hx:a[c.toNat]? =some x)(hy:b[c.toNat]? =some y):j8 ((c,dn)::r) a b=if jY x y≠0 then(if dn then-jY x y else jY x y)else j8 r a b:=by
 have h1:=(List.getElem?_eq_some_iff.1 hx).1;have h2:=(List.getElem?_eq_some_iff.1 hy).1;rw[j8,if_pos ⟨h0,aC,aC⟩];rw[List.getD_eq_getElem?_getD,List.getD_eq_getElem?_getD,hx,hy];rfl
theorem GB:Sound Tryz.prog 34 FY:=by
 refine iB Tryz.func34 ?_;rintro cvs m h K ⟨o,s,t,od,a,b,rfl,ho,hs,ht,hK⟩;refine⟨XR o s t m h,rfl,aD Gy (aD Dn aF),Pn o s t m h K,by kernel_rfl,?_⟩;dsimp only[Pn,push_cast];have hol:=ho.slen;have hln:=ho.len;have hsl:=bU.slen hs;have htl:=bU.slen ht;refine⟨λi=>i<=od.length/\j8 od a b=j8 (od.drop i) a b,λi=>od.length-i,⟨0,⟨aC,by simp⟩,MT⟩,λi⟨hi,he⟩=>aE (λhlt=>?_) (λhge=>?_)⟩
 .obtain⟨⟨c,dn⟩,hx⟩:=fD hol hlt;obtain⟨b1,o1,e1,r1⟩:=ho.row.get (i:=i) (e:=CK (c,dn)) (by simp[hx]);rw[drop_cons hx]at he
  have skip:¬(0<=c/\c<a.length/\c<b.length)->∃x_1:Nat,(λi=>i<=od.length/\j8 od a b=j8 (od.drop i) a b) x_1/\(λi=>od.length-i) x_1<(λi=>od.length-i) i/\eQ (W2 s)/\eQ (W2 t)/\eQ (W2 o)/\eQ (fN ↑o.len)/\fN (IntKind.i64.wrap ((i:Int)+1))=fN ↑x_1/\m=m/\h=h/\True:=λhn=>
   ⟨i+1,⟨aC,by rw[he,UT hn]⟩,(show od.length-(i+1)<od.length-i by omega),MT⟩
  refine⟨b1,o1,e1,aC,hlt,(c,dn),.imm r1,aE (λh1=>skip (λe=>by have:c<0:=h1;omega)) (λh1=>aE (λh2=>skip (λe=>by have:c>=(s.len:Int):=h2;omega)) (λh2=>aE (λh3=>skip (λe=>by have:c>=(t.len:Int):=h3;omega)) (λh3=>?_)))⟩;dsimp only at h1 h2 h3⊢
  obtain⟨x,hxa⟩:∃x,a[c.toNat]? =some x:=⟨_,List.getElem?_eq_getElem aC⟩
  obtain⟨y,hyb⟩:∃y,b[c.toNat]? =some y:=⟨_,List.getElem?_eq_getElem aC⟩
  obtain⟨b2,o2,u,e2,r2,rfl⟩:=bU.at hs hxa;obtain⟨b3,o3,u,e3,r3,rfl⟩:=bU.at ht hyb;rw[Yj aC hxa hyb]at he;have hsm:=RX x y;refine⟨b2,o2,e2,aC,aC,x,.imm r2,b3,o3,e3,aC,aC,y,.imm r3,x,y,rfl,aB (λh4=>⟨i+1,⟨aC,?_⟩,(show od.length-(i+1)<od.length-i by omega),MT⟩) (λh4=>aB (λh5=>?_) (λh5=>?_))⟩
  .rw[he,if_neg (by simpa using h4)]
  .have h5:dn=true:=h5;rw[he,if_pos (by simpa using h4),if_pos h5]at hK;rw[eC aC aC,Int.zero_sub];exact hK
  .have h5:dn=false:=h5;rw[he,if_pos (by simpa using h4),if_neg (by simp[h5])]at hK;exact hK
 .rw[he,List.drop_eq_nil_of_le aC,j8]at hK;exact⟨s,t,a,b,rfl,hs,ht,hK⟩
theorem QS:Sound Tryz.prog 211 Mm:=by
 refine iB Tryz.func211 ?_;rintro cvs m h K ⟨s,t,bq,v,od,a,b,rfl,hm,ho,hs,ht,hK⟩;refine⟨uW [(34,FY)] [] [] [] [0] [] false,rfl,aD GB aF,Uz s t bq m h K,by kernel_rfl,?_⟩;exact⟨v.order,.of_m hm rfl,v.order,s,t,od,a,b,rfl,ho,hs,ht,hK⟩
theorem Q1:Sound Tryz.prog 193 Ys:=by
 refine iB Tryz.func193 ?_;rintro cvs m h K ⟨i,bq,bg,br,v,od,g,s,rs,r,x,rfl,hq,hg,hr,ho,hrs,hv,hx,hK⟩;refine⟨uW [(34,FY)] [] [] [] [0] [] false,rfl,aD GB aF,LF i bq bg br m h K,by kernel_rfl,?_⟩;dsimp only[LF,push_cast];have hl:=bU.slen hrs;have hi:=(List.getElem?_eq_some_iff.1 hx).1;obtain⟨b1,o1,u,e1,r1,ru⟩:=bU.at hrs hx;have rg:aL m h bg 0 [dT g]:=.of_m hg rfl;exact⟨v.order,.of_m hq rfl,g,rg,b1,o1,e1,aC,aC,u,.imm r1,s,.of_m hr rfl,rg,v.order,u,s,od,x,r,rfl,ho,ru,hv,rg,hK⟩
def FO(w:Nat):List (Int×Bool)->List VV->List VV->Int
 |[],a,b=>dR a b
 |(c,dn)::r,a,b=>if 0<=c/\c<w then(if(if dn then-jY (a.getD c.toNat zeroV) (b.getD c.toNat zeroV)else jY (a.getD c.toNat zeroV) (b.getD c.toNat zeroV))≠0 then(if dn then-jY (a.getD c.toNat zeroV) (b.getD c.toNat zeroV)else jY (a.getD c.toNat zeroV) (b.getD c.toNat zeroV))else FO w r a b)else FO w r a b
theorem zB{w:Nat}:∀{od:List (Int×Bool)}{a b:List VV},a.length=w->b.length=w->j8 od a b=FO w od a b
 |[],_,_,_,_=>rfl
 |(c,dn)::r,a,b,ha,hb=>by
  rw[j8,FO,ha,hb,zB (od:=r) ha hb];by_cases h:0<=c/\c<w
  .rw[if_pos ⟨h.1,h.2,h.2⟩,if_pos h];cases dn<;>simp
  .rw[if_neg (λe=>h ⟨e.1,e.2.1⟩),if_neg h]
theorem Mo.neg{α:Type}{c:α->α->Int}(h:Mo c):Mo (λx y=> -c x y):=by
 refine⟨λx y=>by have:=h.anti x y;omega,λx y z h1 h2=>?_⟩;have a1:=h.anti x y;have a2:=h.anti y z;have a3:=h.anti x z;have:=h.trans z y x aC aC;omega
theorem FN(w:Nat):∀od,Mo (FO w od)
 |[]=>Cx
 |(c,dn)::r=>by
  have ih:=FN w r;have hc:Mo (λa b:List VV=>jY (a.getD c.toNat zeroV) (b.getD c.toNat zeroV)):=FP.of λa:List VV=>a.getD c.toNat zeroV;by_cases h:0<=c/\c<w
  .have e:FO w ((c,dn)::r)=λa b=>if(if dn then-jY (a.getD c.toNat zeroV) (b.getD c.toNat zeroV)else jY (a.getD c.toNat zeroV) (b.getD c.toNat zeroV))≠0 then(if dn then-jY (a.getD c.toNat zeroV) (b.getD c.toNat zeroV)else jY (a.getD c.toNat zeroV) (b.getD c.toNat zeroV))else FO w r a b:=by
    funext a b;rw[FO,if_pos h]
   rw[e];cases dn
   .exact hc.lex ih
   .exact hc.neg.lex ih
  .have e:FO w ((c,dn)::r)=FO w r:=by funext a b;rw[FO,if_neg h]
   rw[e];exact ih
theorem Wn{w:Nat}(od:List (Int×Bool)):Sort.SWO (Go.Proofs.ltOf (fun(x y:BQ h (λl=>l.length=w))=>j8 od x.l y.l)):=by
 have e:(fun(x y:BQ h (λl=>l.length=w))=>j8 od x.l y.l)=λx y=>FO w od x.l y.l:=by
  funext x y;exact zB x.pr_ y.pr_
 rw[e];exact(FN w od).swo
theorem PJ:Sound Tryz.prog 107 Wx:=by
 refine⟨⟨Tryz.f107,Tryz.func107,rfl,by decide⟩,?_⟩;rintro cvs vs m h w K ⟨s,bq,v,od,wd,ps,rfl,hq,hnq,ho,hr,hv,hw,hl,hK⟩ hp
 obtain⟨v1,v2,rfl⟩:∃v v2,vs=[v,v2]:=by
  have:=(mP hp.args).1
  match vs,this with
  |[v,v2],_=>exact⟨v,v2,rfl⟩
 have h1:v1=s.val:=hp.args.1;have h2:v2= .func (.func 211) #[] #[.pointer (some ⟨bq,0,none⟩)]:=hp.args.2.1;subst h1 h2;refine KM (R:=λl=>l.length=wd) (g:=211) (cb:=[.pointer (some ⟨bq,0,none⟩)]) (m2:=λb=>if b=bq then m bq else none) (cf:=j8 od) rfl hp ⟨Tryz.f211,Tryz.func211,rfl,by decide⟩ hr hv hw hl (Wn od) ⟨Mm,QS,λx y=>⟨x.s,y.s,bq,v,od,x.l,y.l,rfl,by simpa using hq,ho,x.ok,y.ok,rfl,rfl,rfl⟩⟩ (λb o hb=>?_) hK;have hb:(if b=bq then m bq else none)=some o:=hb;split at hb
 .rename_i e;subst e;exact⟨hb,hnq⟩
 .cases hb
noncomputable def VX:Ctx:=Nh [(184,R7),(186,WL),(185,Qd),(187,Qa)]
 [(13,{A:=Nat×Nat×Sl×Sl×MH×PH,st:=λ⟨i,b,e,g,m,h⟩=>cD 66 68 [(10,vv (.pointer (some ⟨b,0,none⟩))),(11,sv e),(51,sv g),(52,iv g.len),(53,iv i)] [] m h})] [] [200005,200006,200007,200010,1053,400000,0]
abbrev v7(a:MH)(b:Nat)(c:List VV)(d:List Int)(e:Prop)(g:Sl->Prop):Prop:=∃(x:List (Value×Sl))(x1:Value->Prop),aA (zJ a b (List.map (fun(x2:Value×Sl)=>(x2.1,dT x2.2)) x)) (pY x1) (aA (x1 (bX c d)) (∀(x2:Value×Sl),List.Mem x2 x->x1 x2.1) (((∀(x2:Value×Sl),nZ (List.Mem x2 x) (x2.1=bX c d))->e)/\∀(x2:Sl),List.Mem (bX c d,x2) x->g x2))
noncomputable abbrev vY:Sl:=Sl.mk Option.none 0 0
noncomputable abbrev lA(a:Nat×Nat×Sl×Sl×MH×PH):Nat:=a.2.1
noncomputable abbrev wF(a:Nat×Nat×Sl×Sl×MH×PH):Sl:=a.2.2.1
noncomputable abbrev j4(a:Nat×Nat×Sl×Sl×MH×PH):Sl×MH×PH:=a.2.2.2
noncomputable abbrev mF(a:Nat×Nat×Sl×Sl×MH×PH):Sl:=(j4 a).1
noncomputable abbrev mG(a:Nat×Nat×Sl×Sl×MH×PH):Nat->Option Obj:=lV (j4 a)
abbrev C2(a:List (List VV))(b:(List VV)->Prop):Prop:=∀(x:List VV),List.Mem x a->b x
attribute [push_cast] v7 vY lA wF j4 mF mG C2
def GO(v:QV)(t:Sl)(m:MH)(h:PH)(K:CV->MH->PH->Prop):Prop:=
  Js (λs o=>aA (fX v.on=fX s) (lI h s o) (∀(a:Sl),bZ (λb h1=>bE h h1 (Ints h1 a (jU o)) (Ints h1 b (fM o)->∀(b1:Nat)(m1:MH),aM (cC m h1 b1) (bI m m1 b1 iD 33) (∀(b2:Nat)(m2:MH),aM (cC m1 h1 b2) (bI m1 m2 b2 iD 33) (gK (λc E=>aA (uO m2 b1 (eR c E 0)) (fC 0 c) (∀(m3:MH),bI m2 m3 b1 (eO (dT a) 1 c) E->gK (λc1 E1=>aA (uO m3 b2 (eR c1 E1 0)) (fC 0 c1) (∀(m4:MH),bI m3 m4 b2 (eO (dT b) 1 c1) E1->Ba m4 h1 0 (λb3 m5=>∀(b4:Nat)(m6:MH),aM (cC m5 h1 b4) (bI m5 m6 b4 (iO D7) 207) (gK (λc2 E2=>aA (uO m6 b4 (eR c2 E2 0)) (fC 0 c2) (∀(m7:MH),bI m6 m7 b4 (eO (BH b3) 1 c2) E2->Fj t.a 0 1 t m7 h1 (λo1=>o1+1) (λy S=>pO S h1 y m7 (λx I k e=>eT (λm8 h2=>
 aM (sX x k e) (PH.le h1 h2) (I k m8 h2->iC m8 h2 b2 0 (λy1=>CY e y1 h2 (λr c3=>gH r.length c3) (λr c3=>branch (List.all (pick r c3) lG) (iC m8 h2 b2 0 (λy2=>CY e y2 h2 (λr1 _=>NN r1) (λr1 c4=>aA (gH r1.length c4) (jZ m8) (∃(y3:Nat),kU m8 h2 b4 y3 (∃(y4:Nat),aA (cE m8 h2 b4 y4) (kU m8 h2 b4 y3 (v7 m8 y4 r1 c4 (aA (cE m8 h2 b4 y3) (cE m8 h2 b4 y4) (aA (cE m8 h2 b4 y3) (cE m8 h2 b4 y4) (∃(x1:List (List Value)),aA (dC m8 vY 74 1 x1) (gM ((x1.length+1)*24)) (iF x1/\gS (λs1 m9=>dY m8 m9 vY s1 74 1 (jC x1 e)->aA (cE m9 h2 b4 y3) (cE m9 h2 b4 y4) (vJ (λk1 O=>aA (jR m9 y3 k1) (pY O) (aA (O (bX r1 c4)) (dV (Instr.sameBits 10000 (bX r1 c4) (bX r1 c4))) (tE (∀(e1:Value×Value),
 u9 e1 k1 O) ((∀(e1:Value×Value),nZ (List.Mem e1 k1) (e1.1=bX r1 c4))->∀(a1:MH),aM (iJ m9 a1 y3) (jR a1 y3 (k1++vF (bX r1 c4) (dT s1))) (I (k+1) a1 h2)) (λl=>∀(v1:Value)(l1:List (Value×Value)),k1=l++kN (bX r1 c4) v1 l1->∀(a1:MH),aM (iJ m9 a1 y3) (jR a1 y3 (l++kN (bX r1 c4) (dT s1) l1)) (I (k+1) a1 h2))))))))))) (λy5=>aA (cE m8 h2 b4 y3) (cE m8 h2 b4 y4) (aA (cE m8 h2 b4 y3) (cE m8 h2 b4 y4) (∃(x1:List (List Value)),aA (dC m8 (cZ y5) 74 1 x1) (gM ((x1.length+1)*24)) (iF x1/\gS (λs1 m9=>dY m8 m9 (cZ y5) s1 74 1 (jC x1 e)->aA (cE m9 h2 b4 y3) (cE m9 h2 b4 y4) (vJ (λk1 O=>aA (jR m9 y3 k1) (pY O) (aA (O (bX r1 c4)) (dV (Instr.sameBits 10000 (bX r1 c4) (bX r1 c4))) (tE (∀(e1:
 Value×Value),u9 e1 k1 O) ((∀(e1:Value×Value),nZ (List.Mem e1 k1) (e1.1=bX r1 c4))->∀(a1:MH),aM (iJ m9 a1 y3) (jR a1 y3 (k1++vF (bX r1 c4) (dT s1))) (I (k+1) a1 h2)) (λl=>∀(v1:Value)(l1:List (Value×Value)),k1=l++kN (bX r1 c4) v1 l1->∀(a1:MH),aM (iJ m9 a1 y3) (jR a1 y3 (l++kN (bX r1 c4) (dT s1) l1)) (I (k+1) a1 h2))))))))))))) (aA (cE m8 h2 b4 y3) (cE m8 h2 b4 y4) (kU m8 h2 b4 y3 (v7 m8 y4 r1 c4 (zY (cE m8 h2 b4 y3) (cE m8 h2 b4 y4) (λx1=>aA (dC m8 vY 74 1 x1) (gM ((x1.length+1)*24)) (iF x1/\gS (λs1 m9=>dY m8 m9 vY s1 74 1 (jC x1 e)->aA (cE m9 h2 b4 y3) (cE m9 h2 b4 y4) (vJ (λk1 O=>aA (jR m9 y3 k1) (pY O) (aA (O (bX r1 c4)) (dV (Instr.sameBits 10000 (bX r1 c4) (bX
 r1 c4))) (tE (∀(e1:Value×Value),u9 e1 k1 O) ((∀(e1:Value×Value),nZ (List.Mem e1 k1) (e1.1=bX r1 c4))->∀(a1:MH),aM (iJ m9 a1 y3) (jR a1 y3 (k1++vF (bX r1 c4) (dT s1))) (I (k+1) a1 h2)) (λl=>∀(v1:Value)(l1:List (Value×Value)),k1=l++kN (bX r1 c4) v1 l1->∀(a1:MH),aM (iJ m9 a1 y3) (jR a1 y3 (l++kN (bX r1 c4) (dT s1) l1)) (I (k+1) a1 h2)))))))))) (λy5=>zY (cE m8 h2 b4 y3) (cE m8 h2 b4 y4) (λx1=>aA (dC m8 (cZ y5) 74 1 x1) (gM ((x1.length+1)*24)) (iF x1/\gS (λs1 m9=>dY m8 m9 (cZ y5) s1 74 1 (jC x1 e)->aA (cE m9 h2 b4 y3) (cE m9 h2 b4 y4) (vJ (λk1 O=>aA (jR m9 y3 k1) (pY O) (aA (O (bX r1 c4)) (dV (Instr.sameBits 10000 (bX r1 c4) (bX r1 c4))) (tE (∀(e1:Value×Value),u9
 e1 k1 O) ((∀(e1:Value×Value),nZ (List.Mem e1 k1) (e1.1=bX r1 c4))->∀(a1:MH),aM (iJ m9 a1 y3) (jR a1 y3 (k1++vF (bX r1 c4) (dT s1))) (I (k+1) a1 h2)) (λl=>∀(v1:Value)(l1:List (Value×Value)),k1=l++kN (bX r1 c4) v1 l1->∀(a1:MH),aM (iJ m9 a1 y3) (jR a1 y3 (l++kN (bX r1 c4) (dT s1) l1)) (I (k+1) a1 h2)))))))))))))))))) (I (k+1) m8 h2)))))) (λm8 h2=>AZ m8 h2 t (λb5 m9 y1 S1=>pO S1 h2 y1 m9 (λx I k e=>eT (λa1 h3=>aM (sX x k e) (PH.le h2 h3) (I k a1 h3->iC a1 h3 b1 0 (λy2=>CY e y2 h3 (λr c3=>gH r.length c3) (λr c3=>iE (!(List.all (pick r c3) lG)) (I (k+1) a1 h3) (λy3=>kU a1 h3 b4 y3 (∃(y4:Sl),aA (aL a1 h3 b1 0 (aU y4)) (cE a1 h3 b4 y3) (EY e y4 h3 a1 (cE a1 h3 b4 y3) (λ_ _=>aL a1
 h3 b1 0 (aU y4)) (λr1 c4=>v7 a1 y3 r1 c4 (∃(I1:Nat×Nat×Sl×Sl×MH×PH->Prop)(a2:Nat×Nat×Sl×Sl×MH×PH->Nat),(∃(x1:Nat×Nat×Sl×Sl×MH×PH),aA (I1 x1) (cX b5 (lA x1)) (aA (bF e (wF x1)) (Zh=W2 (mF x1)) (aA (bD (mF x1).len) (bD x1.1) (aA (cH a1 (j4 x1).2) (eJ h3 (j4 x1).2) True))))/\∀(x1:Nat×Nat×Sl×Sl×MH×PH),I1 x1->aZ (↑x1.1:Int) (aG (mF x1)) (aR (λb6 o1=>aA (aT (mF x1).a b6 o1) (0<=(↑x1.1:Int)) ((↑x1.1:Int)<aG (mF x1)/\∃(y5:Sl),aL (mG x1) (eN (j4 x1)) b6 (bA o1 x1.1 1) (aU y5)/\∃(y6:Sl),aA (aL (mG x1) (eN (j4 x1)) (lA x1) 0 (aU y6)) (aL (mG x1) (eN (j4 x1)) (lA x1) 0 (aU y6)) (aL (mG x1) (eN (j4 x1)) (lA x1) 0 (aU y6)/\
 Fk (eN (j4 x1)) (mK (aU (wF x1)) (aU y5)) (λs1 h4 s2=>∃(r2:List (List VV)),aA (fX s1=fX s2) (Rows h4 s2 r2) (aA (r2.length<=10) (C2 r2 (λr3=>r3.length<=12)) (bZ (λs3 h5=>bE h4 h5 (cF h5 s3 r2.flatten) (zY (aL (mG x1) h5 (lA x1) 0 (aU y6)) (aL (mG x1) h5 (lA x1) 0 (aU y6)) (λx2=>aA (dC (mG x1) (cZ y6) 74 1 x2) (gM ((x2.length+1)*24)) (iF x2/\gS (λs4 a3=>dY (mG x1) a3 (cZ y6) s4 74 1 (jC x2 s3)->gK (λc5 E3=>aA (uO a3 (lA x1) (eR c5 E3 0)) (fC 0 c5) (∀(a4:MH),bI a3 a4 (lA x1) (eO (dT s4) 1 c5) E3->∃(x3:Nat×Nat×Sl×Sl×MH×PH),aA (I1 x3) (a2 x3<a2 x1) (aA (cX (lA x1) (lA x3)) (bF (wF x1) (wF x3)) (aA (bF (mF x1) (mF x3)) (cK
 (mF x1) (mF x3)) (aA (fN (bG x1.1 1)=bV x3.1) (cH a4 (j4 x3).2) (j3 h5 (j4 x3).2)))))))))))))))))) (I (k+1) (mG x1) (eN (j4 x1)))) (λy5=>∃(I1:Nat×Nat×Sl×Sl×MH×PH->Prop)(a2:Nat×Nat×Sl×Sl×MH×PH->Nat),(∃(x1:Nat×Nat×Sl×Sl×MH×PH),aA (I1 x1) (cX b5 (lA x1)) (aA (bF e (wF x1)) (bF y5 (mF x1)) (aA (cK y5 (mF x1)) (bD x1.1) (aA (cH a1 (j4 x1).2) (eJ h3 (j4 x1).2) True))))/\∀(x1:Nat×Nat×Sl×Sl×MH×PH),I1 x1->aZ (↑x1.1:Int) (aG (mF x1)) (aR (λb6 o1=>aA (aT (mF x1).a b6 o1) (0<=(↑x1.1:Int)) ((↑x1.1:Int)<aG (mF x1)/\∃(y6:Sl),aL (mG x1) (eN (j4 x1)) b6 (bA o1 x1.1 1) (aU y6)/\∃(y7:Sl),aA (aL (mG x1) (eN (j4 x1)) (lA x1) 0 (aU y7))
 (aL (mG x1) (eN (j4 x1)) (lA x1) 0 (aU y7)) (aL (mG x1) (eN (j4 x1)) (lA x1) 0 (aU y7)/\Fk (eN (j4 x1)) (mK (aU (wF x1)) (aU y6)) (λs1 h4 s2=>∃(r2:List (List VV)),aA (fX s1=fX s2) (Rows h4 s2 r2) (aA (r2.length<=10) (C2 r2 (λr3=>r3.length<=12)) (bZ (λs3 h5=>bE h4 h5 (cF h5 s3 r2.flatten) (zY (aL (mG x1) h5 (lA x1) 0 (aU y7)) (aL (mG x1) h5 (lA x1) 0 (aU y7)) (λx2=>aA (dC (mG x1) (cZ y7) 74 1 x2) (gM ((x2.length+1)*24)) (iF x2/\gS (λs4 a3=>dY (mG x1) a3 (cZ y7) s4 74 1 (jC x2 s3)->gK (λc5 E3=>aA (uO a3 (lA x1) (eR c5 E3 0)) (fC 0 c5) (∀(a4:MH),bI a3 a4 (lA x1) (eO (dT s4) 1 c5) E3->∃(x3:Nat×Nat×Sl×Sl×MH×PH),aA (I1 x3) (a2 x3<
 a2 x1) (aA (cX (lA x1) (lA x3)) (bF (wF x1) (wF x3)) (aA (bF (mF x1) (mF x3)) (cK (mF x1) (mF x3)) (aA (fN (bG x1.1 1)=bV x3.1) (cH a4 (j4 x3).2) (j3 h5 (j4 x3).2)))))))))))))))))) (I (k+1) (mG x1) (eN (j4 x1))))))))))))) (λa1 h3=>iC a1 h3 b5 0 (λy2=>K (dN y2) a1 h3)))))))))))))))))))
def Zk(on:List (Int×Int))(ls:List (List (List VV))):Prop:=2<=ls.length/\∃w w',iH w (ls.getD 0 [])/\iH w' (ls.getD 1 [])/\gH w (jU on)/\gH w' (fM on)
def Je(q:Query)(ls:List (List (List VV))):Prop:=match q with|.mk _ _ _ _ on _ _ _ _=>Zk on ls
def agree(on:List (Int×Int))(x y:List VV):Bool:=dR (pick x (jU on)) (pick y (fM on))==0
def N8(q:Query)(ls:List (List (List VV))):List (List VV):=match q with|.mk _ _ _ _ on _ _ _ _=>(ls.getD 0 []).filter λx=>(ls.getD 1 []).any λy=>agree on x y
theorem UX{on:List (Int×Int)}{x y:List VV}:agree on x y=true↔pick x (jU on)=pick y (fM on):=by
 simp only[agree,beq_iff_eq,kR]
theorem EJ{r:List VV}{cols:List Int}(hr:NN r)(hc:gH r.length cols):∀v∈pick r cols,Yk v:=λv hv=>hr.val v (Oo hc hv)
theorem Gr{on:List (Int×Int)}{x y:List VV}(hx:NN x)(hy:NN y)(cx:gH x.length (jU on))(cy:gH y.length (fM on)):cM (pick x (jU on))=cM (pick y (fM on))↔agree on x y=true:=by
 rw[UX];exact Ec (by simp[pick,jU,fM]) (EJ hx cx) (EJ hy cy)
structure Start(m m7:MH)(sa sb:Sl)(T:TypeId)(b1 b2 y b7:Nat):Prop where
 sub:Sub m m7
 a_:m7 b1=some (.cells #[.slice sa.a sa.len sa.cap] 33 (0,0))
 b_:m7 b2=some (.cells #[.slice sb.a sb.len sb.cap] 33 (0,0))
 y_:m7 y=some (.map #[] 0)
 c_:m7 b7=some (.cells #[.map (some y)] T (0,0))
 ya:b1≠y
 yb:b2≠y
 yc:b7≠y
 free:m y=none
theorem N1{sa sb:Sl}{T:TypeId}{Q:Nat->Nat->Nat->Nat->MH->Prop}(hK:∀b1 b2 y b7 m7,Start m m7 sa sb T b1 b2 y b7->Q b1 b2 y b7 m7):
 ∀(b1:Nat)(m1:MH),cC m h b1->jJ m m1 b1 (.cells #[u0] 33 (0,0))->∀(b2:Nat)(m2:MH),cC m1 h b2->jJ m1 m2 b2 (.cells #[u0] 33 (0,0))->
  ∃(cs:Array Value)(E:TypeId),uO m2 b1 (.cells cs E (0,0))/\0<cs.size/\∀m3:MH,jJ m2 m3 b1 (.cells (Array.mk (dT sa::cs.toList.drop 1)) E (0,0))->
  ∃(cs:Array Value)(E:TypeId),uO m3 b2 (.cells cs E (0,0))/\0<cs.size/\∀m4:MH,jJ m3 m4 b2 (.cells (Array.mk (dT sb::cs.toList.drop 1)) E (0,0))->
  ∀(y:Nat)(m5:MH),cC m4 h y->jJ m4 m5 y (.map (Array.mk []) 0)->∀(b7:Nat)(m6:MH),cC m5 h b7->jJ m5 m6 b7 (.cells (Array.mk [.map none]) T (0,0))->
  ∃(cs:Array Value)(E:TypeId),uO m6 b7 (.cells cs E (0,0))/\0<cs.size/\∀m7:MH,jJ m6 m7 b7 (.cells (Array.mk (.map (some y)::cs.toList.drop 1)) E (0,0))->Q b1 b2 y b7 m7:=by
 intro b1 m1 hb1 hu1 b2 m2 hb2 hu2;obtain⟨s1,n1⟩:=gJ (Sub.refl m) hb1 hu1;obtain⟨s2,n2⟩:=gJ s1 hb2 hu2;have e12:b1≠b2:=λe=>by have:=hb2.m_;rw[<-e,hu1.at_]at this;cases this
 refine⟨_,_,⟨by rw[hu2.other b1 e12];exact hu1.at_⟩,by simp,λm3 hu3=>?_⟩;have s3:Sub m m3:=s2.upd n1 hu3.other;refine⟨_,_,⟨by rw[hu3.other b2 (Ne.symm e12)];exact hu2.at_⟩,by simp,λm4 hu4 y m5 hb5 hu5 b7 m6 hb6 hu6=>?_⟩;have s4:Sub m m4:=s3.upd n2 hu4.other;have m4a:m4 b1=some (.cells #[.slice sa.a sa.len sa.cap] 33 (0,0)):=by rw[hu4.other b1 e12];exact hu3.at_
 have m4b:m4 b2=some (.cells #[.slice sb.a sb.len sb.cap] 33 (0,0)):=hu4.at_;obtain⟨s5,ny⟩:=gJ s4 hb5 hu5;obtain⟨s6,n7⟩:=gJ s5 hb6 hu6;have ne5:∀{z o},m4 z=some o->z≠y:=fun{z o} e e2=>by rw[e2,hb5.m_]at e;cases e
 have ne6:∀{z o},m5 z=some o->z≠b7:=fun{z o} e e2=>by rw[e2,hb6.m_]at e;cases e
 have m5a:=m4a;rw[<-hu5.other b1 (ne5 m4a)]at m5a;have m5b:=m4b;rw[<-hu5.other b2 (ne5 m4b)]at m5b;have m5y:m5 y=some (.map #[] 0):=hu5.at_;refine⟨_,_,⟨hu6.at_⟩,by simp,λm7 hu7=>hK _ _ _ _ _ ⟨s6.upd n7 hu7.other,?_,?_,?_,hu7.at_,ne5 m4a,ne5 m4b,Ne.symm (ne6 m5y),ny⟩⟩
 .rw[hu7.other b1 (ne6 m5a),hu6.other b1 (ne6 m5a)];exact m5a
 .rw[hu7.other b2 (ne6 m5b),hu6.other b2 (ne6 m5b)];exact m5b
 .rw[hu7.other y (ne6 m5y),hu6.other y (ne6 m5y)];exact m5y
theorem Rh:Sound Tryz.prog 151 (NO Je N8):=by
 refine DS Tryz.func151 ?_;rintro cvs m h K ⟨v,t,q,bs,ls,rfl,hq,ha,hT,hok,hK⟩;refine⟨Nh [(184,R7),(186,WL)] [] [] [200005,200006,200007,200009,1053,400000,0],rfl,aD JU (aD Bu aF),GN v t m h (cY h K),by kernel_rfl,?_⟩;show GN v t m h (cY h K);dsimp only[GN,push_cast];obtain⟨op,ta,w,co,on,gr,od,li,args⟩:=q;obtain⟨h2,wa,wb,hrel,hrel',hca,hcb⟩:=hok;refine⟨v.on,on,rfl,hq.parts.on_,λsa sb h1 le1 hia hib=>N1 λb1 b2 y b7 m7 st=>?_⟩;obtain⟨b,off,x,ea,hlt,rd,sq⟩:=ha.get (BO (i:=1) aC);obtain⟨b6,off6,x6,ea6,hlt6,rd6,sq6⟩:=ha.get (BO (i:=0) aC);obtain⟨us',hseq',hru'⟩:=(sq.mono le1).ex;obtain⟨us,hseq,hru⟩:=(sq6.mono le1).ex;simp only[N8]at hK;generalize ls.getD 1 []=l' at hru' hrel' hK sq;generalize ls.getD 0 []=l at hru hrel hK sq6;have hul:=hru.len;have hll:=hrel.len;have hul':=hru'.len;have s7:=st.sub;have ny:=st.free;refine⟨b,off,ea,aC,aC,x,.imm (rd.mono le1),tK,us',λk mx hx=>hx=h1/\(∀z o,m7 z=some o->z≠y->mx z=some o)/\oD mx y ((l'.take k).map λz=>cM (pick z (fM on))),sG,⟨x,us',rfl,hseq',rfl⟩,⟨rfl,λz o e _=>e,by simpa using oD.new st.y_⟩,?_,?_⟩
 .rintro k e mx hx hk-⟨rfl,hs,hsn⟩
  obtain⟨r,hr,hv⟩:=hru'.at' hk;have hrl:=List.mem_of_getElem? hr;have r5:aL mx hx b7 0 [Value.map (some y)]:=.of_m (hs b7 _ st.c_ st.yc) rfl;have rb:aL mx hx b2 0 [dT sb]:=.of_m (hs b2 _ st.b_ st.yb) rfl;refine⟨y,r5,sb,rb,r5,e,sb,r,fM on,rfl,hv,hib,hrel'.row r hrl,by rw[hrel'.wid r hrl];exact hcb,hT.sub (λz o e2=>hs z o (s7 z o e2) (λe3=>by rw[e3,ny]at e2;cases e2)),r5,hsn.put (λm' hs' hsn'=>⟨rfl,λz o e2 hne=>by rw[hs'.other z hne];exact hs z o e2 hne,?_⟩)⟩;obtain⟨kk,h5,h6⟩:=hsn'.ex;exact⟨kk,h5,λq=>by rw[h6,List.take_add_one,hr];simp[or_comm]⟩
 .rintro mx hx-⟨rfl,hs,hsn⟩ b9 m5 hb5 hu5;rw[hul',List.take_length]at hsn;have s5:Sub m mx:=λz o e2=>hs z o (s7 z o e2) (λe3=>by rw[e3,ny]at e2;cases e2);obtain⟨s6,n7⟩:=gJ s5 hb5 hu5
  have ne7:∀{z o},mx z=some o->m5 z=some o/\z≠b9:=fun{z o} e2=>by
   have:z≠b9:=λe3=>by rw[e3,hb5.m_]at e2;cases e2
   exact⟨by rw[hu5.other z this];exact e2,this⟩
  obtain⟨m5a,na⟩:=ne7 (hs b1 _ st.a_ st.ya);obtain⟨m5c,nc⟩:=ne7 (hs b7 _ st.c_ st.yc)
  have y7:y≠b9:=by
   obtain⟨kk,⟨es,c,h1,_⟩,_⟩:=hsn.ex;exact(ne7 h1).2
  have hsn5:=hsn.keep (hu5.other y y7);refine⟨b6,off6,ea6,aC,aC,x6,.imm (rd6.mono le1),tK,us,λk my hy=>hy=hx/\Av m5 my b9/\∃us2,mA m5 my b9 us2/\us2.length<=k/\eB hx us2 ((l.take k).filter λz=>l'.any λy=>agree on z y),sG,⟨x6,us,rfl,hseq,rfl⟩,⟨rfl,λz o e _=>e,[],mA.new hu5.at_,by simp,by simpa using eB.nil hx⟩,?_,?_⟩
  .rintro k e my hy hk-⟨rfl,hs7,us2,hout,hl2,hr2⟩
   obtain⟨r,hr,hv⟩:=hru.at' hk;have hkl:=(List.getElem?_eq_some_iff.1 hk).1;have hrl:=List.mem_of_getElem? hr;have r5:aL my hy b7 0 [Value.map (some y)]:=.of_m (hs7 b7 _ m5c nc) rfl;have r3:aL my hy b1 0 [dT sa]:=.of_m (hs7 b1 _ m5a na) rfl
   have hsn7:oD my y (l'.map λz=>cM (pick z (fM on))):=by
    obtain⟨kk,⟨es,c,h1,h2,h3,h4⟩,h5⟩:=hsn5.ex;exact⟨kk,⟨es,c,hs7 y _ h1 y7,h2,h3,h4⟩,h5⟩
   have hcr:gH r.length (jU on):=by rw[hrel.wid r hrl];exact hca
   have key:∀t:Bool,(t=true↔cM (pick r (jU on))∈l'.map λz=>cM (pick z (fM on)))->t=l'.any λy=>agree on r y:=λt ht=>by
    have h1:(cM (pick r (jU on))∈l'.map λz=>cM (pick z (fM on)))↔(l'.any λy=>agree on r y)=true:=by
     rw[List.mem_map,List.any_eq_true];constructor
     .rintro⟨z,hz,e2⟩;exact⟨z,hz,(Gr (hrel.row r hrl) (hrel'.row z hz) hcr (by rw[hrel'.wid z hz];exact hcb)).1 e2.symm⟩
     .rintro⟨z,hz,e2⟩;exact⟨z,hz,((Gr (hrel.row r hrl) (hrel'.row z hz) hcr (by rw[hrel'.wid z hz];exact hcb)).2 e2).symm⟩
    rw[h1]at ht;cases t
    .cases e2:l'.any λy=>agree on r y with
     |false=>rfl
     |true=>exact ht.2 e2
    .exact(ht.1 rfl).symm
   refine⟨y,r5,sa,r3,r5,e,sa,r,jU on,rfl,hv,hia,hrel.row r hrl,hcr,hT.sub (s6.x n7 hs7),r5,r3,hsn7.get (K:=λt=>branch t _ _) (λt ht=>?_)⟩;have e3:=key t ht;refine aB (λh1=>?_) (λh1=>?_)
   .refine mA.app ⟨_,hu5.at_⟩ hs7 hout aC (λm' hs' ho'=>⟨rfl,hs',us2++[e],ho',by simp;omega,?_⟩);rw[iX _ hr,if_pos (by rw[<-e3];exact h1)];exact hr2.snoc hv
   .refine⟨rfl,hs7,us2,hout,aC,?_⟩;rw[iX _ hr,if_neg (by rw[<-e3,h1];simp),List.append_nil];exact hr2
  .rintro my hy-⟨rfl,hs7,us2,hout,hl2,hr2⟩
   rw[hul,List.take_length]at hr2;obtain⟨s,hb,hrow,hfr⟩:=hout.ex;refine⟨s,.of_m hb rfl,cY.row (s6.x n7 hs7) le1 hrow (λj z e=>?_) (λh' le hri=>hK s h' (le1.trans le) ((hr2.mono le).rows hri (by have:=hr2.len;omega)))⟩;cases e2:m z with
   |none=>rfl
   |some o=>have e1:=hfr j z e;rw[s6 z o e2]at e1;cases e1
structure oF(m0 m:MH)(y:Nat)(kk:List (ByteArray×Sl))(us:ByteArray->List Sl):Prop where
 map_:jR m y (kk.map λp=>(Value.string p.1,dT p.2))
 nodup:(kk.map Prod.fst).Nodup
 row:∀p∈kk,dC m p.2 74 1 ((us p.1).map eS)
 fresh:∀p∈kk,∀x i,p.2.a=some ⟨x,i,none⟩->m0 x=none
 apart:∀p∈kk,∀q∈kk,p.1≠q.1->∀x i j,p.2.a=some ⟨x,i,none⟩->q.2.a≠some ⟨x,j,none⟩
 none_:∀k,k∉kk.map Prod.fst->us k=[]
 old:∀x o,m0 x=some o->x≠y->m x=some o
def BN(kk:List (ByteArray×Sl))(key:ByteArray)(s:Sl):Prop:=(s=⟨none,0,0⟩/\key∉kk.map Prod.fst)\/(key,s)∈kk
theorem oF.new{y:Nat}(h:m y=some (.map #[] 0)):oF m m y [] λ_=>[]:=⟨⟨#[],0,h,rfl,by simp,by simp⟩,by simp,by simp,by simp,by simp,λ_ _=>rfl,λ_ _ e _=>e⟩
theorem BN.row{m0:MH}{y:Nat}{kk:List (ByteArray×Sl)}{us:ByteArray->List Sl}{key:ByteArray}{s:Sl}(g:oF m0 m y kk us)(hs:BN kk key s):dC m s 74 1 ((us key).map eS)/\∀x i,s.a=some ⟨x,i,none⟩->m0 x=none:=by
 rcases hs with⟨rfl,hn⟩|hp
 .rw[g.none_ key hn];exact⟨⟨Ag [],.inl ⟨rfl,rfl⟩⟩,λx i e=>by cases e⟩
 .exact⟨g.row _ hp,g.fresh _ hp⟩
theorem oF.keep{m0:MH}{y:Nat}{kk:List (ByteArray×Sl)}{us:ByteArray->List Sl}(g:oF m0 m y kk us)(hk:∀x o,m x=some o->m' x=some o):oF m0 m' y kk us:=by
 obtain⟨es,c,h1,h2,h3,h4⟩:=g.map_;refine⟨⟨es,c,hk _ _ h1,h2,h3,h4⟩,g.nodup,λp hp=>?_,g.fresh,g.apart,g.none_,λx o h1 h2=>hk x o (g.old x o h1 h2)⟩;obtain⟨hr,hx⟩:=g.row p hp;refine⟨hr,hx.imp id ?_⟩;rintro⟨b,cap,cur,e,hm,h⟩;exact⟨b,cap,cur,e,hk _ _ hm,h⟩
def Kw(us:ByteArray->List Sl)(key:ByteArray)(e:Sl):ByteArray->List Sl:=λk=>if k=key then us k++[e]else us k
theorem oF.core{m0 m1:MH}{y:Nat}{kk kk':List (ByteArray×Sl)}{us:ByteArray->List Sl}{key:ByteArray}{s s' e:Sl}(g:oF m0 m y kk us)(hy:∃o,m0 y=some o)(hs:BN kk key s)(hg:dY m m1 s s' 74 1 ((us key).map eS++[[dT e]]))
 (hm:jR m' y (kk'.map λp=>(Value.string p.1,dT p.2)))(hsame:iJ m1 m' y)(hnd:(kk'.map Prod.fst).Nodup)(hmem:∀p∈kk',p=(key,s')\/(p∈kk/\p.1≠key))(hkey:(key,s')∈kk')(hkk:∀k,k∈kk.map Prod.fst->k∈kk'.map Prod.fst):oF m0 m' y kk' (Kw us key e):=by
 obtain⟨oy,hy⟩:=hy;obtain⟨hrow,hfr⟩:=hs.row g;obtain⟨es,c,h1,_⟩:=g.map_;have hny:∀i,s.a≠some ⟨y,i,none⟩:=λi e2=>by rw[hfr y i e2]at hy;cases hy
 have hdom:∀x,m x=none->m0 x=none:=λx hx=>by
  cases h0:m0 x with
  |none=>rfl
  |some o=>
   by_cases hxy:x=y
   .subst hxy;rw[hx]at h1;cases h1
   .rw[g.old x o h0 hxy]at hx;cases hx
 have hs'f:∀x i,s'.a=some ⟨x,i,none⟩->m0 x=none:=λx i e2=>by
  rcases hg.fresh x i e2 with h|⟨j,h⟩
  .exact hdom x h
  .exact hfr x j h
 have hsome:∀p∈kk,∀x i,p.2.a=some ⟨x,i,none⟩->∃o,m x=some o:=λp hp x i e2=>by
  rcases(g.row p hp).ex with⟨h,_⟩|⟨b,cap,cur,h,hm,_⟩
  .rw[h]at e2;cases e2
  .rw[h]at e2;simp only[Option.some.injEq,Addr.mk.injEq]at e2;exact⟨_,e2.1▸hm⟩
 have hap:∀p∈kk,p.1≠key->∀x i j,p.2.a=some ⟨x,i,none⟩->s.a≠some ⟨x,j,none⟩:=λp hp hne x i j e2 e3=>by
  rcases hs with⟨rfl,_⟩|hs
  .cases e3
  .exact g.apart p hp _ hs hne x i j e2 e3
 refine⟨hm,hnd,λp hp=>?_,λp hp x i e2=>?_,λp hp q hq hne x i j e2 e3=>?_,λk hk=>?_,λx o h0 hne=>?_⟩
 .rcases hmem p hp with rfl|⟨hp',hne⟩
  .have e1:(Kw us key e key).map eS=(us key).map eS++[[dT e]]:=by simp[Kw,eS]
   rw[e1];exact dC.keep hg.row λb i e2=>hsame.other b (λe3=>by rw[e3]at e2;rw[hs'f y i e2]at hy;cases hy)
  .have e1:Kw us key e p.1=us p.1:=if_neg hne;rw[e1];refine dC.keep (g.row p hp') λb i e2=>?_;obtain⟨o,ho⟩:=hsome p hp' b i e2;rw[hsame.other b (λe3=>by rw[e3]at e2;rw[g.fresh p hp' y i e2]at hy;cases hy),ho];exact hg.other b o ho (λj=>hap p hp' hne b i j e2)
 .rcases hmem p hp with rfl|⟨hp',_⟩
  .exact hs'f x i e2
  .exact g.fresh p hp' x i e2
 .have hx:∀p∈kk,p.1≠key->∀i j,p.2.a=some ⟨x,i,none⟩->s'.a≠some ⟨x,j,none⟩:=λp hp hne i j e2 e3=>by
   rcases hg.fresh x j e3 with h|⟨j',h⟩
   .obtain⟨o,ho⟩:=hsome p hp x i e2;rw[h]at ho;cases ho
   .exact hap p hp hne x i j' e2 h
  rcases hmem p hp with rfl|⟨hp',hpn⟩<;>rcases hmem q hq with rfl|⟨hq',hqn⟩
  .exact hne rfl
  .exact hx q hq' hqn j i e3 e2
  .exact hx p hp' hpn i j e2 e3
  .exact g.apart p hp' q hq' hne x i j e2 e3
 .have hk1:k≠key:=λe2=>hk (List.mem_map.2 ⟨_,hkey,e2.symm⟩);simp only[Kw,if_neg hk1];exact g.none_ k λh=>hk (hkk k h)
 .rw[hsame.other x hne];exact hg.other x o (g.old x o h0 hne) (λi e2=>by have h5:=hfr x i e2;rw[h0]at h5;cases h5)
theorem oF.put{m0 m1:MH}{y:Nat}{kk:List (ByteArray×Sl)}{us:ByteArray->List Sl}{key:ByteArray}{s s' e:Sl}{Q:MH->Prop}(g:oF m0 m y kk us)(hy:∃o,m0 y=some o)(hs:BN kk key s)(hg:dY m m1 s s' 74 1 ((us key).map eS++[[dT e]]))
 (hQ:∀m' kk',oF m0 m' y kk' (Kw us key e)->Q m'):
 ∃(kvs:List (Value×Value))(Ok:Value->Prop),jR m1 y kvs/\KeyLaw Tryz.prog 9 Ok/\Ok (.string key)/\Instr.sameBits 10000 (Value.string key) (Value.string key)=true/\(∀e,List.Mem e kvs->Ok e.1)/\((∀e,List.Mem e kvs->e.1=Value.string key->False)->∀m':MH,iJ m1 m' y->jR m' y (kvs++[(Value.string key,dT s')])->Q m')/\
  ∀(l1:List (Value×Value))(v0:Value)(l2:List (Value×Value)),kvs=l1++(Value.string key,v0)::l2->∀m':MH,iJ m1 m' y->jR m' y (l1++(Value.string key,dT s')::l2)->Q m':=by
 have hny:∀i,s.a≠some ⟨y,i,none⟩:=λi e2=>by
  obtain⟨o,ho⟩:=hy;rw[(hs.row g).2 y i e2]at ho;cases ho
 obtain⟨es,c,h1,h2,h3,h4⟩:=g.map_;refine⟨kk.map λp=>(Value.string p.1,dT p.2),_,⟨es,c,hg.other _ _ h1 hny,h2,h3,h4⟩,AE,⟨key,rfl⟩,Oa key,λe he=>?_,λhn m' hsame hm'=>?_,λl1 v0 l2 e0 m' hsame hm'=>?_⟩
 .obtain⟨k,_,rfl⟩:=List.mem_map.1 (show e∈_ from he);exact⟨k.1,rfl⟩
 .have hnk:key∉kk.map Prod.fst:=λh=>by
   obtain⟨p,hp,e2⟩:=List.mem_map.1 h;subst e2;exact hn _ (List.mem_map_of_mem (f:=λp:ByteArray×Sl=>(Value.string p.1,dT p.2)) hp) rfl
  refine hQ m' (kk++[(key,s')]) (g.core hy hs hg (by simpa using hm') hsame ?_ ?_ (by simp) (λk hk=>by rw[List.map_append];exact List.mem_append_left _ hk))
  .rw[List.map_append,List.nodup_append];refine⟨g.nodup,by simp,λa ha b hb e2=>?_⟩;simp at hb;subst e2 hb;exact hnk ha
  .intro p hp;rcases List.mem_append.1 hp with h|h
   .exact .inr ⟨h,λe2=>hnk (e2▸List.mem_map_of_mem h)⟩
   .exact .inl (by simpa using h)
 .obtain⟨k1,k2',e1,e2,e3⟩:=List.map_eq_append_iff.1 e0;obtain⟨p,k2,e4,e5,e6⟩:=List.map_eq_cons_iff.1 e3;subst e1 e4 e2 e6;simp only[Prod.mk.injEq,Value.string.injEq]at e5;have hnd:=g.nodup;rw[List.map_append,List.map_cons,e5.1]at hnd;have hnd2:=List.nodup_append.1 hnd;have hnd3:=List.nodup_cons.1 hnd2.2.1;refine hQ m' (k1++(key,s')::k2) (g.core hy hs hg (by simpa using hm') hsame (by simpa using hnd) ?_ (by simp) (λk hk=>by simpa[e5.1]using hk));intro q hq;rcases List.mem_append.1 hq with h|h
  .exact .inr ⟨List.mem_append_left _ h,λe7=>hnd2.2.2 q.1 (List.mem_map_of_mem h) key (List.mem_cons_self ..) e7⟩
  .rcases List.mem_cons.1 h with h|h
   .exact .inl h
   .exact .inr ⟨List.mem_append_right _ (List.mem_cons_of_mem _ h),λe7=>hnd3.1 (e7▸List.mem_map_of_mem h)⟩
theorem oF.app{m0:MH}{hx:PH}{y c:Nat}{T:TypeId}{kk:List (ByteArray×Sl)}{us:ByteArray->List Sl}{key:ByteArray}{s e:Sl}{Q:MH->Prop}(g:oF m0 m y kk us)(hy:∃o,m0 y=some o)(hc0:∃o,m0 c=some o)(hc:m c=some (.cells #[.map (some y)] T (0,0)))(hl:(us key).length<=502633886983)
 (hQ:∀m' kk',oF m0 m' y kk' (Kw us key e)->Q m')(hs:BN kk key s):
 ∃xs:List (List Value),dC m (Sl.mk s.a s.len s.cap) 74 1 xs/\(xs.length+1)*24<=140737488355328/\xs.length<140737488355328/\∀(s':Sl)(m1:MH),dY m m1 (Sl.mk s.a s.len s.cap) s' 74 1 (xs++[[dT e]])->
  aL m1 hx c 0 [Value.map (some y)]/\aL m1 hx c 0 [Value.map (some y)]/\
 ∃(kvs:List (Value×Value))(Ok:Value->Prop),jR m1 y kvs/\KeyLaw Tryz.prog 9 Ok/\Ok (.string key)/\Instr.sameBits 10000 (Value.string key) (Value.string key)=true/\(∀e,List.Mem e kvs->Ok e.1)/\((∀e,List.Mem e kvs->e.1=Value.string key->False)->∀m':MH,iJ m1 m' y->jR m' y (kvs++[(Value.string key,dT s')])->Q m')/\
  ∀(l1:List (Value×Value))(v0:Value)(l2:List (Value×Value)),kvs=l1++(Value.string key,v0)::l2->∀m':MH,iJ m1 m' y->jR m' y (l1++(Value.string key,dT s')::l2)->Q m':=by
 obtain⟨hrow,hfr⟩:=hs.row g;refine⟨_,hrow,by simp;omega,by simp;omega,λs' m1 hg=>?_⟩
 have r:aL m1 hx c 0 [Value.map (some y)]:=.of_m (hg.other c _ hc λi e2=>by
  obtain⟨o,ho⟩:=hc0;have e2:s.a=some ⟨c,i,none⟩:=e2;rw[hfr c i e2]at ho;cases ho) rfl
 exact⟨r,r,g.put hy hs hg hQ⟩
theorem oF.get2{m0:MH}{y:Nat}{kk:List (ByteArray×Sl)}{us:ByteArray->List Sl}{key:ByteArray}{K0:Prop}{K:Sl->Prop}(g:oF m0 m y kk us)(h0:BN kk key ⟨none,0,0⟩->K0)(hK:∀s,BN kk key s->K s):
 ∃(kvs:List (Value×Sl))(Ok:Value->Prop),zJ m y (kvs.map λp=>(p.1,dT p.2))/\KeyLaw Tryz.prog 9 Ok/\Ok (.string key)/\(∀e,List.Mem e kvs->Ok e.1)/\((∀e,List.Mem e kvs->e.1=Value.string key->False)->K0)/\∀t,List.Mem (Value.string key,t) kvs->K t:=by
 obtain⟨es,c,h1,h2,_,_⟩:=g.map_;refine⟨kk.map λp=>(.string p.1,p.2),_,⟨es,c,h1,by rw[h2];simp⟩,AE,⟨key,rfl⟩,λe he=>?_,λhn=>h0 (.inl ⟨rfl,λh=>?_⟩),λt ht=>hK t (.inr ?_)⟩
 .obtain⟨k,_,rfl⟩:=List.mem_map.1 (show e∈_ from he);exact⟨k.1,rfl⟩
 .obtain⟨p,hp,e⟩:=List.mem_map.1 h;subst e;exact hn (.string p.1,p.2) (List.mem_map_of_mem (f:=λp:ByteArray×Sl=>(Value.string p.1,p.2)) hp) rfl
 .obtain⟨p,hp,e⟩:=List.mem_map.1 (show(Value.string key,t)∈_ from ht);simp only[Prod.mk.injEq,Value.string.injEq]at e;obtain⟨e1,e2⟩:=e;subst e1 e2;exact hp
structure P9(m0 m:MH)(h:PH)(y:Nat)(f:ByteArray->List (List VV)):Prop where
 ex:∃kk us,oF m0 m y kk us/\∀k,eB h (us k) (f k)
theorem P9.upd{m0:MH}{y:Nat}{kk:List (ByteArray×Sl)}{us:ByteArray->List Sl}{f f':ByteArray->List (List VV)}{key:ByteArray}{e:Sl}{r:List VV}(g:oF m0 m' y kk (Kw us key e))(hf:∀k,eB h (us k) (f k))(hv:cF h e r)(e1:f' key=f key++[r])(e2:∀k,k≠key->f' k=f k):P9 m0 m' h y f':=by
 refine⟨kk,_,g,λk=>?_⟩;by_cases hk:k=key
 .subst hk;rw[e1];have:Kw us k e k=us k++[e]:=if_pos rfl;rw[this];exact(hf k).snoc hv
 .rw[e2 k hk];have:Kw us key e k=us k:=if_neg hk;rw[this];exact hf k
def AH(cols:List Int)(r:List VV):Bool:=(pick r cols).all lG
def mO(on:List (Int×Int))(b:List (List VV))(x:List VV):List (List VV):=
 if AH (jU on) x then(b.filter λy=>AH (fM on) y&&agree on x y).map (x++ ·)else[]
def OD(q:Query)(ls:List (List (List VV))):List (List VV):=match q with|.mk _ _ _ _ on _ _ _ _=>(ls.getD 0 []).flatMap (mO on (ls.getD 1 []))
def Jh(q:Query)(ls:List (List (List VV))):Prop:=match q with|.mk _ _ _ _ on _ _ _ _=>Zk on ls/\(ls.getD 0 []).length*(ls.getD 1 []).length<=1000000
theorem uS{α β:Type}{f:α->List β}{n:Nat}:∀{l:List α},(∀x∈l,(f x).length<=n)->(l.flatMap f).length<=l.length*n
 |[],_=>by simp
 |a::l,h=>by
  have h1:=h a (List.mem_cons_self ..);have h2:=uS (l:=l) λx hx=>h x (List.mem_cons_of_mem _ hx);simp only[List.flatMap_cons,List.length_append,List.length_cons,Nat.add_mul,Nat.one_mul];omega
theorem wS{α β:Type}{l:List α}{x:α}(f:α->List β)(hx:l[k]? =some x):(l.take (k+1)).flatMap f=(l.take k).flatMap f++f x:=by
 rw[List.take_add_one,hx];simp
theorem yZ{on:List (Int×Int)}{b:List (List VV)}{x:List VV}:(mO on b x).length<=b.length:=by
 unfold mO;split
 .rw[List.length_map];exact List.length_filter_le _ _
 .simp
def under(cols:List Int)(l:List (List VV))(key:ByteArray):List (List VV):=l.filter λz=>AH cols z&&decide (cM (pick z cols)=key)
theorem DU{cols:List Int}{l:List (List VV)}{r:List VV}(hr:l[k]? =some r)(key:ByteArray):under cols (l.take (k+1)) key=under cols (l.take k) key++(if AH cols r&&decide (cM (pick r cols)=key)then[r]else[]):=iX _ hr
theorem Ri:Sound Tryz.prog 150 (NO Jh OD):=by
 refine DS Tryz.func150 ?_;rintro cvs m h K ⟨v,t,q,bs,ls,rfl,hq,ha,hT,hok,hK⟩;refine⟨VX,rfl,aD JU (aD Bu (aD Q5 (aD Q4 aF))),GO v t m h (cY h K),by kernel_rfl,?_⟩;show GO v t m h (cY h K);dsimp only[GO,push_cast];obtain⟨op,ta,w,co,on,gr,od,li,args⟩:=q;obtain⟨⟨h2,wa,wb,hrel,hrel',hca,hcb⟩,hpr⟩:=hok;refine⟨v.on,on,rfl,hq.parts.on_,λsa sb h1 le1 hia hib=>N1 λb1 b2 y b7 m7 st=>?_⟩;obtain⟨b,off,x,ea,hlt,rd,sq⟩:=ha.get (BO (i:=1) aC);obtain⟨b6,off6,x6,ea6,hlt6,rd6,sq6⟩:=ha.get (BO (i:=0) aC);obtain⟨us',hseq',hru'⟩:=(sq.mono le1).ex;obtain⟨us,hseq,hru⟩:=(sq6.mono le1).ex;simp only[OD]at hK;generalize ls.getD 1 []=l' at hru' hrel' hK sq hpr;generalize ls.getD 0 []=l at hru hrel hK sq6 hpr;have hul:=hru.len;have hll:=hrel.len;have hll':=hrel'.len;have hul':=hru'.len;have s7:=st.sub;have ny:=st.free;have gsub:∀{mx kk us},oF m7 mx y kk us->Sub m mx:=λg z o e2=>g.old z o (s7 z o e2) (λe3=>by rw[e3,ny]at e2;cases e2);refine⟨b,off,ea,aC,aC,x,.imm (rd.mono le1),tK,us',λk mx hx=>hx=h1/\P9 m7 mx h1 y (under (fM on) (l'.take k)),sG,⟨x,us',rfl,hseq',rfl⟩,⟨rfl,⟨[],_,oF.new st.y_,λk=>by simpa[under]using eB.nil h1⟩⟩,?_,?_⟩
 .rintro k e mx hx hk-⟨rfl,⟨kk,uk,g,hg⟩⟩
  obtain⟨r,hr,hv⟩:=hru'.at' hk;have hrl:=List.mem_of_getElem? hr;have hcr:gH r.length (fM on):=by rw[hrel'.wid r hrl];exact hcb
  have mc:=g.old b7 _ st.c_ st.yc;have r5:aL mx hx b7 0 [Value.map (some y)]:=.of_m mc rfl;have rb:aL mx hx b2 0 [dT sb]:=.of_m (g.old b2 _ st.b_ st.yb) rfl;refine⟨sb,rb,e,sb,r,fM on,rfl,hv,hib,hcr,aB (λhreal=>?_) (λhreal=>?_)⟩
  .have hl:(uk (cM (pick r (fM on)))).length<=502633886983:=by
    have h5:=(hg (cM (pick r (fM on)))).len;have h6:(under (fM on) (l'.take k) (cM (pick r (fM on)))).length<=(l'.take k).length:=List.length_filter_le _ _;rw[List.length_take]at h6;omega
   have app:=fun{s:Sl}=>g.app (hx:=hx) (e:=e) (s:=s) (Q:=λm'=>hx=hx/\P9 m7 m' hx y (under (fM on) (l'.take (k+1)))) ⟨_,st.y_⟩ ⟨_,st.c_⟩ mc hl (λm' kk' g'=>⟨rfl,P9.upd g' hg hv (by rw[DU hr,if_pos];simpa[AH]using hreal) (λk2 hk2=>by rw[DU hr,if_neg,List.append_nil];simp[Ne.symm hk2])⟩);exact⟨sb,rb,e,sb,r,fM on,rfl,hv,hib,hrel'.row r hrl,hcr,hT.sub (gsub g),y,r5,y,r5,⟨r5,g.get2 (λhs=>⟨r5,r5,r5,r5,app hs⟩) (λs hs=>⟨r5,r5,r5,r5,app hs⟩)⟩,r5,r5,r5,g.get2 (λhs=>⟨r5,r5,app hs⟩) (λs hs=>⟨r5,r5,app hs⟩)⟩
  .refine⟨rfl,⟨kk,uk,g,λk2=>?_⟩⟩;rw[DU hr,if_neg,List.append_nil]
   .exact hg k2
   .simp[AH,hreal]
 .rintro mx hx-⟨rfl,gr⟩ b9 m5 hb5 hu5;rw[hul',List.take_length]at gr
  have ne7:∀{z o},mx z=some o->m5 z=some o/\z≠b9:=fun{z o} e2=>by
   have:z≠b9:=λe3=>by rw[e3,hb5.m_]at e2;cases e2
   exact⟨by rw[hu5.other z this];exact e2,this⟩
  have s5:Sub m mx:=by
   obtain⟨kk,uk,g,_⟩:=gr.ex;exact gsub g
  obtain⟨s6,n7⟩:=gJ s5 hb5 hu5;obtain⟨kk,uk,g,hg⟩:=gr.ex;refine⟨b6,off6,ea6,aC,aC,x6,.imm (rd6.mono le1),tK,us,λk my hy=>PH.le hx hy/\Av m5 my b9/\∃us2,mA m5 my b9 us2/\eB hy us2 ((l.take k).flatMap (mO on l')),sG,⟨x6,us,rfl,hseq,rfl⟩,⟨.refl _,λz o e _=>e,[],mA.new hu5.at_,by simpa using eB.nil hx⟩,?_,?_⟩
  .rintro k e my hy hk-⟨le,hs7,us2,hout,hr2⟩
   obtain⟨r,hr,hv⟩:=hru.at' hk;have hkl:=(List.getElem?_eq_some_iff.1 hk).1;have hrl:=List.mem_of_getElem? hr;have old7:∀z o,mx z=some o->my z=some o:=λz o e2=>hs7 z o (ne7 e2).1 (ne7 e2).2;have g7:=g.keep old7;have r5:aL my hy b7 0 [Value.map (some y)]:=.of_m (g7.old b7 _ st.c_ st.yc) rfl;have r3:aL my hy b1 0 [dT sa]:=.of_m (g7.old b1 _ st.a_ st.ya) rfl;have hcr:gH r.length (jU on):=by rw[hrel.wid r hrl];exact hca
   have hv':=cF.mono hv le;refine⟨sa,r3,e,sa,r,jU on,rfl,hv',hia.mono le,hcr,aB (λhreal=>?_) (λhreal=>?_)⟩
   .refine⟨le,hs7,us2,hout,?_⟩;have:mO on l' r=[]:=if_neg (by simpa[AH]using hreal);rw[wS _ hr,this,List.append_nil];exact hr2
   .have hreal:(pick r (jU on)).all lG=true:=by simpa using hreal
    have hgl:under (fM on) l' (cM (pick r (jU on)))=l'.filter λy=>AH (fM on) y&&agree on r y:=by
     refine List.filter_congr λz hz=>?_;congr 1;have h5:=Gr (hrel.row r hrl) (hrel'.row z hz) hcr (by rw[hrel'.wid z hz];exact hcb);cases e5:agree on r z with
     |true=>exact decide_eq_true (h5.2 e5).symm
     |false=>exact decide_eq_false λe6=>by rw[h5.1 e6.symm]at e5;cases e5
    have hjr:mO on l' r=(under (fM on) l' (cM (pick r (jU on)))).map (r++ ·):=by rw[hgl];exact if_pos (by simpa[AH]using hreal)
    have hpre:((l.take k).flatMap (mO on l')).length+(under (fM on) l' (cM (pick r (jU on)))).length<=1000000:=by
     have h5:((l.take (k+1)).flatMap (mO on l')).length<=(l.take (k+1)).length*l'.length:=uS λx _=>yZ;rw[wS _ hr,List.length_append,hjr,List.length_map]at h5;have h6:(l.take (k+1)).length*l'.length<=l.length*l'.length:=Nat.mul_le_mul_right _ (by rw[List.length_take];omega);omega
    have loop:∀s,BN kk (cM (pick r (jU on))) s->dC mx s 74 1 ((uk (cM (pick r (jU on)))).map eS):=λs hs=>(hs.row g).1;generalize hG:under (fM on) l' (cM (pick r (jU on)))=G at hjr hpre;have hGu:=hg (cM (pick r (jU on)));rw[hG]at hGu;have hGl:=hGu.len;refine⟨y,r5,sa,r3,r5,e,sa,r,jU on,rfl,hv',hia.mono le,hrel.row r hrl,hcr,hT.sub (s6.x n7 hs7),r5,r3,g7.get2 (λhs=>?_) (λs hs=>?_)⟩
    .refine⟨λz=>z.1<=G.length/\z.2.1=b9/\z.2.2.1=e/\z.2.2.2.1=(⟨none,0,0⟩:Sl)/\PH.le hy z.2.2.2.2.2/\Av m5 z.2.2.2.2.1 b9/\∃us3,mA m5 z.2.2.2.2.1 b9 us3/\eB z.2.2.2.2.2 us3 ((l.take k).flatMap (mO on l')++(G.take z.1).map (r++ ·)),λz=>G.length-z.1,⟨(0,b9,e,(⟨none,0,0⟩:Sl),my,hy),⟨by simp,rfl,rfl,rfl,.refl _,hs7,us2,hout,by simpa using hr2⟩,MT⟩,?_⟩;rintro⟨i,bb,ee,gg,mz,hz⟩ ⟨hi,e1,e2,e3,lez,hsz,us3,houtz,hrz⟩;dsimp only at hi e1 e2 e3 lez hsz houtz hrz;subst e1 e2 e3;have gz:=g.keep (λz o e2=>hsz z o (ne7 e2).1 (ne7 e2).2);have hrow:=(hs.row gz).1;have hsl:=hrow.slen;rw[List.length_map,hGl]at hsl;refine aE (λhlt2=>?_) (λhge=>?_)
     .dsimp only at hlt2⊢
      have hiG:i<G.length:=by omega
      obtain⟨u,hu,hvu⟩:=hGu.at_ i _ (List.getElem?_eq_getElem hiG);obtain⟨b8,e8,rd8⟩:=hrow.rd (h:=hz) (i:=i) (e:=[dT u]) (by rw[List.getElem?_map,hu];rfl);obtain⟨so,hbo,hrowo,hfro⟩:=houtz.ex;have rdo:∀hh,aL mz hh bb 0 [dT so]:=λhh=>.of_m hbo rfl;have hru3:=hrz.len;simp only[List.length_append,List.length_map,List.length_take]at hru3;refine⟨b8,0,e8,aC,aC,u,by simpa using rd8,so,rdo _,rdo _,rdo _,λs2 h3 le3 hri=>⟨s2,[r,G[i]],rfl,?_,by simp,?_,λsl h4 le4 hsl4=>⟨rdo _,rdo _,EK ⟨_,hu5.at_⟩ hsz hbo hrowo hfro aC (λm' hs' ho'=>⟨(i+1,bb,ee,⟨none,0,0⟩,m',h4),⟨by dsimp only;omega,rfl,rfl,rfl,lez.trans (le3.trans le4),hs',us3++[sl],ho',?_⟩,by dsimp only;omega,?_⟩)⟩⟩⟩
      .refine eB.rows (us:=[ee,u]) ?_ hri (by simp);refine⟨rfl,λj z hj=>?_⟩
       match j,hj with
       |0,hj=>
        simp at hj;subst hj;exact⟨ee,rfl,cF.mono hv' (lez.trans le3)⟩
       |1,hj=>
        simp at hj;subst hj;exact⟨u,rfl,cF.mono hvu (le.trans (lez.trans le3))⟩
      .intro z hz2;have hz2:z∈[r,G[i]]:=hz2;rcases List.mem_cons.1 hz2 with rfl|hz2
       .exact(hrel.row _ hrl).len
       .have e7:=List.mem_singleton.1 hz2
        have:z∈l':=by
         have h9:z∈under (fM on) l' (cM (pick r (jU on))):=by rw[hG,e7];exact List.getElem_mem _
         exact(List.mem_filter.1 h9).1
        exact(hrel'.row _ this).len
      .have e7:(G.take (i+1)).map (r++ ·)=(G.take i).map (r++ ·)++[r++G[i]]:=by rw[List.take_add_one,List.getElem?_eq_getElem hiG,List.map_append];rfl
       rw[e7, <-List.append_assoc];exact(hrz.mono (le3.trans le4)).snoc (by simpa using hsl4)
      .dsimp only;exact⟨rfl,rfl,rfl,rfl,by rw[kE aC],rfl,rfl,trivial⟩
     .dsimp only at hge⊢
      have:i=G.length:=by have hsl:0=G.length:=hsl;omega
      subst this;refine⟨le.trans lez,hsz,us3,houtz,?_⟩;rw[wS _ hr,hjr];rw[List.take_length]at hrz;exact hrz
    .refine⟨λz=>z.1<=G.length/\z.2.1=b9/\z.2.2.1=e/\z.2.2.2.1=s/\PH.le hy z.2.2.2.2.2/\Av m5 z.2.2.2.2.1 b9/\∃us3,mA m5 z.2.2.2.2.1 b9 us3/\eB z.2.2.2.2.2 us3 ((l.take k).flatMap (mO on l')++(G.take z.1).map (r++ ·)),λz=>G.length-z.1,⟨(0,b9,e,s,my,hy),⟨by simp,rfl,rfl,rfl,.refl _,hs7,us2,hout,by simpa using hr2⟩,MT⟩,?_⟩;rintro⟨i,bb,ee,gg,mz,hz⟩ ⟨hi,e1,e2,e3,lez,hsz,us3,houtz,hrz⟩;dsimp only at hi e1 e2 e3 lez hsz houtz hrz;subst e1 e2 e3;have gz:=g.keep (λz o e2=>hsz z o (ne7 e2).1 (ne7 e2).2);have hrow:=(hs.row gz).1;have hsl:=hrow.slen;rw[List.length_map,hGl]at hsl;refine aE (λhlt2=>?_) (λhge=>?_)
     .dsimp only at hlt2⊢
      have hiG:i<G.length:=by omega
      obtain⟨u,hu,hvu⟩:=hGu.at_ i _ (List.getElem?_eq_getElem hiG);obtain⟨b8,e8,rd8⟩:=hrow.rd (h:=hz) (i:=i) (e:=[dT u]) (by rw[List.getElem?_map,hu];rfl);obtain⟨so,hbo,hrowo,hfro⟩:=houtz.ex;have rdo:∀hh,aL mz hh bb 0 [dT so]:=λhh=>.of_m hbo rfl;have hru3:=hrz.len;simp only[List.length_append,List.length_map,List.length_take]at hru3;refine⟨b8,0,e8,aC,aC,u,by simpa using rd8,so,rdo _,rdo _,rdo _,λs2 h3 le3 hri=>⟨s2,[r,G[i]],rfl,?_,by simp,?_,λsl h4 le4 hsl4=>⟨rdo _,rdo _,EK ⟨_,hu5.at_⟩ hsz hbo hrowo hfro aC (λm' hs' ho'=>⟨(i+1,bb,ee,gg,m',h4),⟨by dsimp only;omega,rfl,rfl,rfl,lez.trans (le3.trans le4),hs',us3++[sl],ho',?_⟩,by dsimp only;omega,?_⟩)⟩⟩⟩
      .refine eB.rows (us:=[ee,u]) ?_ hri (by simp);refine⟨rfl,λj z hj=>?_⟩
       match j,hj with
       |0,hj=>
        simp at hj;subst hj;exact⟨ee,rfl,cF.mono hv' (lez.trans le3)⟩
       |1,hj=>
        simp at hj;subst hj;exact⟨u,rfl,cF.mono hvu (le.trans (lez.trans le3))⟩
      .intro z hz2;have hz2:z∈[r,G[i]]:=hz2;rcases List.mem_cons.1 hz2 with rfl|hz2
       .exact(hrel.row _ hrl).len
       .have e7:=List.mem_singleton.1 hz2
        have:z∈l':=by
         have h9:z∈under (fM on) l' (cM (pick r (jU on))):=by rw[hG,e7];exact List.getElem_mem _
         exact(List.mem_filter.1 h9).1
        exact(hrel'.row _ this).len
      .have e7:(G.take (i+1)).map (r++ ·)=(G.take i).map (r++ ·)++[r++G[i]]:=by rw[List.take_add_one,List.getElem?_eq_getElem hiG,List.map_append];rfl
       rw[e7, <-List.append_assoc];exact(hrz.mono (le3.trans le4)).snoc (by simpa using hsl4)
      .dsimp only;exact⟨rfl,rfl,rfl,rfl,by rw[kE aC],rfl,rfl,trivial⟩
     .dsimp only at hge⊢
      have:i=G.length:=by omega
      subst this;refine⟨le.trans lez,hsz,us3,houtz,?_⟩;rw[wS _ hr,hjr];rw[List.take_length]at hrz;exact hrz
  .rintro my hy le2 ⟨le,hs7,us2,hout,hr2⟩;rw[hul,List.take_length]at hr2;obtain⟨s,hb,hrow,hfr⟩:=hout.ex;refine⟨s,.of_m hb rfl,cY.row (s6.x n7 hs7) (le1.trans le) hrow (λj z e=>?_) (λh' le' hri=>hK s h' (le1.trans (le.trans le')) ((hr2.mono le').rows hri ?_))⟩
   .cases e2:m z with
    |none=>rfl
    |some o=>have e1:=hfr j z e;rw[s6 z o e2]at e1;cases e1
   .have h5:(l.flatMap (mO on l')).length<=l.length*l'.length:=uS λx _=>yZ;omega
noncomputable def VK:Ctx:=Nh [(186,WL),(107,Wx)]
 [(7,{A:=Nat×Nat×Nat×MH×PH,st:=λ⟨b,c,r,m,h⟩=>cD 35 37 [(2,vv (.pointer (some ⟨b,0,none⟩))),(5,vv (.pointer (some ⟨c,0,none⟩))),(26,vv (.pointer (some ⟨r,0,none⟩)))] [] m h})] [] [200002,200005,1053,400000,0]
noncomputable abbrev lS(a:Nat×Nat×Nat×MH×PH):Nat×MH×PH:=a.2.2
abbrev Jt(a:(List (Value×Value))->(List (Value×Value))->Prop):Prop:=∃(x x1:List (Value×Value)),a x x1
attribute [push_cast] lS Jt
def GH(v:QV)(u:Nat)(m:MH)(h:PH)(K:CV->MH->PH->Prop):Prop:=
  ∀(b:Nat)(m1:MH),aM (cC m h b) (bI m m1 b v.enc 38) (Ba m1 h 0 (λb1 m2=>∀(b2:Nat)(m3:MH),aM (cC m2 h b2) (bI m2 m3 b2 (iO D7) 207) (gK (λc E=>aA (uO m3 b2 (eR c E 0)) (fC 0 c) (∀(m4:MH),bI m3 m4 b2 (eO (BH b1) 1 c) E->∃(S:PH->List Value->List (List Value)->Prop),pO S h u m4 (λx I k e=>eT (λm5 h1=>aM (sX x k e) (PH.le h h1) (I k m5 h1->iC m5 h1 b 17 (λy=>CY e y h1 (λr _=>NN r) (λr c1=>aA (gH r.length c1) (jZ m5) (∃(y1:Nat),kU m5 h1 b2 y1 (∃(y2:Nat),aA (cE m5 h1 b2 y2) (kU m5 h1 b2 y1 (v7 m5 y2 r c1 (aA (cE m5 h1 b2 y1) (cE m5 h1 b2 y2) (aA (cE m5 h1 b2 y1) (cE m5 h1 b2 y2) (∃(x1:List (List Value)),aA (dC m5 vY 74 1 x1) (gM ((x1.length+1)*24)) (iF x1/\gS (λs
 m6=>dY m5 m6 vY s 74 1 (jC x1 e)->aA (cE m6 h1 b2 y1) (cE m6 h1 b2 y2) (vJ (λk1 O=>aA (jR m6 y1 k1) (pY O) (aA (O (bX r c1)) (dV (Instr.sameBits 10000 (bX r c1) (bX r c1))) (tE (∀(e1:Value×Value),u9 e1 k1 O) ((∀(e1:Value×Value),nZ (List.Mem e1 k1) (e1.1=bX r c1))->∀(m7:MH),aM (iJ m6 m7 y1) (jR m7 y1 (k1++vF (bX r c1) (dT s))) (I (k+1) m7 h1)) (λl=>∀(v1:Value)(l1:List (Value×Value)),k1=l++kN (bX r c1) v1 l1->∀(m7:MH),aM (iJ m6 m7 y1) (jR m7 y1 (l++kN (bX r c1) (dT s) l1)) (I (k+1) m7 h1))))))))))) (λy3=>aA (cE m5 h1 b2 y1) (cE m5 h1 b2 y2) (aA (cE m5 h1 b2 y1) (cE m5 h1 b2 y2) (∃(x1:List (List Value)),aA (dC m5 (cZ y3) 74 1 x1) (gM ((x1.length+1)*24)) (iF x1/\gS (fun
 s m6=>dY m5 m6 (cZ y3) s 74 1 (jC x1 e)->aA (cE m6 h1 b2 y1) (cE m6 h1 b2 y2) (vJ (λk1 O=>aA (jR m6 y1 k1) (pY O) (aA (O (bX r c1)) (dV (Instr.sameBits 10000 (bX r c1) (bX r c1))) (tE (∀(e1:Value×Value),u9 e1 k1 O) ((∀(e1:Value×Value),nZ (List.Mem e1 k1) (e1.1=bX r c1))->∀(m7:MH),aM (iJ m6 m7 y1) (jR m7 y1 (k1++vF (bX r c1) (dT s))) (I (k+1) m7 h1)) (λl=>∀(v1:Value)(l1:List (Value×Value)),k1=l++kN (bX r c1) v1 l1->∀(m7:MH),aM (iJ m6 m7 y1) (jR m7 y1 (l++kN (bX r c1) (dT s) l1)) (I (k+1) m7 h1))))))))))))) (aA (cE m5 h1 b2 y1) (cE m5 h1 b2 y2) (kU m5 h1 b2 y1 (v7 m5 y2 r c1 (zY (cE m5 h1 b2 y1) (cE m5 h1 b2 y2) (λx1=>aA (dC m5 vY 74 1 x1) (gM ((x1.length+1)*24)) (iF
 x1/\gS (λs m6=>dY m5 m6 vY s 74 1 (jC x1 e)->aA (cE m6 h1 b2 y1) (cE m6 h1 b2 y2) (vJ (λk1 O=>aA (jR m6 y1 k1) (pY O) (aA (O (bX r c1)) (dV (Instr.sameBits 10000 (bX r c1) (bX r c1))) (tE (∀(e1:Value×Value),u9 e1 k1 O) ((∀(e1:Value×Value),nZ (List.Mem e1 k1) (e1.1=bX r c1))->∀(m7:MH),aM (iJ m6 m7 y1) (jR m7 y1 (k1++vF (bX r c1) (dT s))) (I (k+1) m7 h1)) (λl=>∀(v1:Value)(l1:List (Value×Value)),k1=l++kN (bX r c1) v1 l1->∀(m7:MH),aM (iJ m6 m7 y1) (jR m7 y1 (l++kN (bX r c1) (dT s) l1)) (I (k+1) m7 h1)))))))))) (λy3=>zY (cE m5 h1 b2 y1) (cE m5 h1 b2 y2) (λx1=>aA (dC m5 (cZ y3) 74 1 x1) (gM ((x1.length+1)*24)) (iF x1/\gS (λs m6=>dY m5 m6 (cZ y3) s 74 1
 (jC x1 e)->aA (cE m6 h1 b2 y1) (cE m6 h1 b2 y2) (vJ (λk1 O=>aA (jR m6 y1 k1) (pY O) (aA (O (bX r c1)) (dV (Instr.sameBits 10000 (bX r c1) (bX r c1))) (tE (∀(e1:Value×Value),u9 e1 k1 O) ((∀(e1:Value×Value),nZ (List.Mem e1 k1) (e1.1=bX r c1))->∀(m7:MH),aM (iJ m6 m7 y1) (jR m7 y1 (k1++vF (bX r c1) (dT s))) (I (k+1) m7 h1)) (λl=>∀(v1:Value)(l1:List (Value×Value)),k1=l++kN (bX r c1) v1 l1->∀(m7:MH),aM (iJ m6 m7 y1) (jR m7 y1 (l++kN (bX r c1) (dT s) l1)) (I (k+1) m7 h1)))))))))))))))))))) (λm5 h1=>∃(y:Nat),kU m5 h1 b2 y (∃(k:List (Value×Value)),gE (jR m5 y k) (λr=>∀(m6:MH),aM (cC m5 h1 r) (iJ m5 m6 r) (kG m6 y r k k->∃(I:Nat×Nat×Nat×MH×PH->Prop)(m7:Nat×Nat×Nat×MH×
 PH->Nat),(∃(x:Nat×Nat×Nat×MH×PH),aA (I x) (cX b x.1) (aA (cX b2 x.2.1) (cX r (lS x).1) (jE m6 (lS x).2 h1)))/\∀(x:Nat×Nat×Nat×MH×PH),I x->∃(b3:Nat),Jt (λk1 l=>tE (kG (dD (lS x)) b3 (lS x).1 k1 l) (l=[]->∃(y1:Nat),kU (dD (lS x)) (cR (lS x)) x.2.1 y1 (K (CV.val (BH y1)) (dD (lS x)) (cR (lS x)))) (λl1=>∀(x1:Value×Value)(l2:List (Value×Value)),l=l1++x1::l2->∀(m8:MH),aM (iJ (dD (lS x)) m8 (lS x).1) (DI m8 b3 (lS x).1 k1 (l1++l2) x1) (∃(b4:Nat),Jt (λk2 l3=>∃(x2:Value×Value),DI m8 b4 (lS x).1 k2 l3 x2/\∃(s:Sl)(b5:Nat)(v1:QV)(o:List (Int×Bool))(w:Nat)(p:List (Sl×List VV)),aA (bK (CV.val x2.2) (CV.val (Cd 211 (Array.mk (iO (TF x.1 0)))))=
 bK (dN s) (CV.val (Cd 211 (Array.mk (iO (TF b5 0)))))) (m8 b5=Option.some (eR (Array.mk v1.enc) 38 0)) (aA (∀(i:Nat),jO (aT s.a b5 i)) (iI (cR (lS x)) v1.order o) (aA (EX m8 s 1 p) (∀(p1:Sl×List VV),List.Mem p1 p->cF (cR (lS x)) p1.1 p1.2) (aA (∀(p1:Sl×List VV),List.Mem p1 p->p1.2.length=w) (gM p.length) (∀(p1:List (Sl×List VV))(m9:MH),aM (List.Perm p1 p) (List.Pairwise (fun(p2:Sl×List VV)=>fun(q:Sl×List VV)=>¬(j8 o q.2 p2.2<0)) p1) (aM (EX m9 s 1 p1) (∀(b6:Nat),(∀(i:Nat),jO (aT s.a b6 i))->m9 b6=m8 b6) (∃(x3:Nat×Nat×Nat×MH×PH),aA (I x3) (m7 x3<m7 x) (aA (cX x.1 x3.1) (cX x.2.1 x3.2.1) (aA (cX (lS x).1 (lS x3).1) (cH m9 (lS x3).2) (eJ (cR (lS x)) (lS x3).2/\True))))))))))))))))))))))
def mQ(gr:List Int)(l:List (List VV))(k:ByteArray):List (List VV):=l.filter λz=>decide (cM (pick z gr)=k)
def pV(od:List (Int×Bool))(l:List (List VV)):Prop:=l.Pairwise λa b=>¬j8 od b a<0
structure tL(m:MH)(h:PH)(y:Nat)(gr:List Int)(od:List (Int×Bool))(l:List (List VV))(kk:List (ByteArray×Sl))(g:ByteArray->List (List VV)):Prop where
 map_:jR m y (kk.map λp=>(Value.string p.1,dT p.2))
 nodup:(kk.map Prod.fst).Nodup
 rows:∀p∈kk,Rows h p.2 (g p.1)
 none_:∀k,k∉kk.map Prod.fst->g k=[]
 perm:∀k,(g k).Perm (mQ gr l k)
 sort:∀k,pV od (g k)
def NH:Vc.Spec:=λcvs m h K=>∃v u gr od l w,cvs=[aQ v,.val (.func (.func 147) #[] #[.pointer (some ⟨u,0,none⟩)])]/\Ints h v.group gr/\iI h v.order od/\KG h u l/\iH w l/\gH w gr/\jZ m/\
 ∀y m2 h2 kk g,m y=none->(∀b,b≠y->m2 b=m b)->PH.le h h2->tL m2 h2 y gr od l kk g->K (.val (.map (some y))) m2 h2
structure ZI(m:MH)(h:PH)(od:List (Int×Bool))(p:ByteArray×Sl)(f:ByteArray->List (List VV))(st:Prop):Prop where
 ex:∃ps:List (Sl×List VV),dC m p.2 74 1 (ps.map λq=>eS q.1)/\(∀q∈ps,cF h q.1 q.2)/\(ps.map Prod.snd).Perm (f p.1)/\(st->pV od (ps.map Prod.snd))
noncomputable def leftOf(m:MH)(r:Nat):Nat:=match m r with
 |some (.mapIter (some b) _ seen _)=>(match m b with|some (.map es _)=>(es.toList.filter λe=> !seen.contains e.born).length|_=>0)
 |_=>0
theorem kG.left_{r:Nat}{kvs left:List (Value×Value)}(i:kG m b r kvs left):leftOf m r=left.length:=by
 obtain⟨es,c,since,seen,c0,h1,_,_,_,h5,_,_,_,h9⟩:=i.ex;simp only[leftOf,h5,h1];rw[<-h9,List.length_map]
theorem kG.mem{r:Nat}{kvs left:List (Value×Value)}(i:kG m b r kvs left){x:Value×Value}(hx:x∈left):x∈kvs:=by
 obtain⟨es,c,since,seen,c0,h1,h2,_,_,h5,_,_,_,h9⟩:=i.ex;rw[<-h9]at hx;rw[<-h2];obtain⟨e,he,rfl⟩:=List.mem_map.1 hx;exact List.mem_map.2 ⟨e,(List.mem_filter.1 he).1,rfl⟩
theorem kG.keep{r:Nat}{kvs left:List (Value×Value)}(i:kG m b r kvs left)(h1:m' b=m b)(h2:m' r=m r):kG m' b r kvs left:=by
 obtain⟨es,c,since,seen,c0,h3,h4⟩:=i.ex;exact⟨es,c,since,seen,c0,by rw[h1];exact h3,by rw[h2];exact h4⟩
theorem kG.nodup{r:Nat}{kvs left:List (Value×Value)}(i:kG m b r kvs left)(hn:kvs.Nodup):left.Nodup:=by
 obtain⟨es,c,since,seen,c0,h1,h2,_,_,h5,_,_,_,h9⟩:=i.ex;rw[<-h9];rw[<-h2]at hn;exact hn.sublist (List.filter_sublist.map _)
theorem Zj{us:List Sl}{rs:List (List VV)}(hu:eB h us rs):∃ps:List (Sl×List VV),ps.map Prod.fst=us/\ps.map Prod.snd=rs/\∀q∈ps,cF h q.1 q.2:=by
 refine⟨us.zip rs,List.map_fst_zip (Nat.le_of_eq hu.len),List.map_snd_zip (Nat.le_of_eq hu.len.symm),λq hq=>?_⟩;obtain⟨i,hi⟩:=List.mem_iff_getElem?.1 hq;rw[List.getElem?_zip_eq_some]at hi;obtain⟨u,h1,h2⟩:=hu.at_ i _ hi.2;rw[hi.1]at h1;cases h1;exact h2
theorem dC.ice{s:Sl}{us:List Sl}(hr:dC m s 74 1 (us.map eS))(hb:∀b cur,s.a=some ⟨b,0,none⟩->m b=some (.cells cur 74 (0,0))->∀i,h b i=cur[i]?):aX h s 1 (us.map eS):=by
 rcases hr.ex with⟨rfl,hx0⟩|⟨b,cap,cur,rfl,hm,h1,h2,h3,h4⟩
 .rw[hx0];exact aX.nil _ _
 .refine⟨by simp,?_,h1⟩;by_cases hu:us.map eS=[]
  .exact .inl hu
  .refine .inr ⟨b,0,rfl,λi e hi=>⟨λj v hv=>?_⟩⟩;have hel:=hr.rows.len e (List.mem_of_getElem? hi);have hj:j=0:=by have:=(List.getElem?_eq_some_iff.1 hv).1;omega
   subst hj;have hlt:=(List.getElem?_eq_some_iff.1 hi).1
   have h5:((us.map eS).flatten)[i]? =some v:=by
    rw[List.getElem?_map]at hi;cases hu2:us[i]? with
    |none=>rw[hu2]at hi;cases hi
    |some u=>
     rw[hu2]at hi;simp at hi;subst hi;simp[eS]at hv;subst hv
     have:∀l:List Sl,(l.map eS).flatten=l.map λu=>Value.slice u.a u.len u.cap:=λl=>by
      induction l with
      |nil=>rfl
      |cons a l ih=>simp only[List.map_cons,List.flatten_cons,ih];rfl
     rw[this,List.getElem?_map,hu2];rfl
   rw[<-h4,List.getElem?_take,if_pos aC]at h5;rw[hb b cur rfl hm, <-Array.getElem?_toList,show 0+i*1+0=i by omega];exact h5
theorem ID{kk:List (ByteArray×Sl)}(hn:(kk.map Prod.fst).Nodup){p q:ByteArray×Sl}(hp:p∈kk)(hq:q∈kk)(e:p.1=q.1):p=q:=by
 induction kk with
 |nil=>cases hp
 |cons a kk ih=>
  have hn:=List.nodup_cons.1 hn;rcases List.mem_cons.1 hp with rfl|hp2<;>rcases List.mem_cons.1 hq with rfl|hq2
  .rfl
  .exact(hn.1 (List.mem_map.2 ⟨q,hq2,e.symm⟩)).elim
  .exact(hn.1 (List.mem_map.2 ⟨p,hp2,e⟩)).elim
  .exact ih hn.2 hp2 hq2
theorem JR:Sound Tryz.prog 191 NH:=by
 refine DS Tryz.func191 ?_;rintro cvs m h K ⟨v,u,gr,od,l,w,rfl,hgr,hod,sq,hrel,hcols,hT,hK⟩;refine⟨VK,rfl,aD Bu (aD PJ aF),GH v u m h (cY h K),by kernel_rfl,?_⟩;show GH v u m h (cY h K);dsimp only[GH,push_cast];intro bq m1 hb1 hu1 y m2 hb2 hu2 bc m3 hb3 hu3;obtain⟨s1,nq⟩:=gJ (Sub.refl m) hb1 hu1;obtain⟨s2,ny⟩:=gJ s1 hb2 hu2;obtain⟨s3,nc⟩:=gJ s2 hb3 hu3;have hqy:bq≠y:=λe=>by have:=hb2.m_;rw[<-e,hu1.at_]at this;cases this
 have m2q:m2 bq=some (.cells ⟨QV.enc v⟩ 38 (0,0)):=by rw[hu2.other bq hqy];exact hu1.at_
 have hqc:bq≠bc:=λe=>by have:=hb3.m_;rw[<-e,m2q]at this;cases this
 have hyc:y≠bc:=λe=>by have:=hb3.m_;rw[<-e,hu2.at_]at this;cases this
 refine⟨_,_,⟨hu3.at_⟩,by simp,λm4 hu4=>?_⟩;have s4:Sub m m4:=s3.upd nc hu4.other;have m4q:m4 bq=some (.cells ⟨QV.enc v⟩ 38 (0,0)):=by rw[hu4.other bq hqc,hu3.other bq hqc];exact m2q
 have m4y:m4 y=some (.map #[] 0):=by rw[hu4.other y hyc,hu3.other y hyc];exact hu2.at_
 have m4c:m4 bc=some (.cells #[.map (some y)] 207 (0,0)):=hu4.at_;obtain⟨us,hseq,hru⟩:=sq.ex;have hul:=hru.len;have hll:=hrel.len;clear hu1 hu2 hu3 hu4 hb1 hb2 hb3 s1 s2 s3 m2q;have gsub:∀{mx kk us},oF m4 mx y kk us->Sub m mx:=λg z o e2=>g.old z o (s4 z o e2) (λe3=>by rw[e3,ny]at e2;cases e2);refine⟨tK,us,λk mx hx=>hx=h/\P9 m4 mx h y (mQ gr (l.take k)),sG,⟨u,us,rfl,hseq,rfl⟩,⟨rfl,⟨[],_,oF.new m4y,λk=>by simpa[mQ]using eB.nil h⟩⟩,?_,?_⟩
 .rintro k e mx hx hk-⟨rfl,⟨kk,uk,g,hg⟩⟩
  obtain⟨r,hr,hv⟩:=hru.at' hk;have hrl:=List.mem_of_getElem? hr;have mc:=g.old bc _ m4c (Ne.symm hyc);have r5:aL mx hx bc 0 [Value.map (some y)]:=.of_m mc rfl;have rq:aL mx hx bq 17 [dT v.group]:=.of_m (g.old bq _ m4q hqy) rfl
  have hl:(uk (cM (pick r gr))).length<=502633886983:=by
   have h5:=(hg (cM (pick r gr))).len;have h6:(mQ gr (l.take k) (cM (pick r gr))).length<=(l.take k).length:=List.length_filter_le _ _;rw[List.length_take]at h6;omega
  have app:=fun{s:Sl}=>g.app (hx:=hx) (e:=e) (s:=s) (Q:=λm'=>hx=hx/\P9 m4 m' hx y (mQ gr (l.take (k+1)))) ⟨_,m4y⟩ ⟨_,m4c⟩ mc hl (λm' kk' g'=>⟨rfl,P9.upd g' hg hv (by rw[mQ,iX _ hr,if_pos (by simp)];rfl) (λk2 hk2=>by rw[mQ,iX _ hr,if_neg (by simp[Ne.symm hk2]),List.append_nil];rfl)⟩);exact⟨v.group,rq,e,v.group,r,gr,rfl,hv,hgr,hrel.row r hrl,by rw[hrel.wid r hrl];exact hcols,hT.sub (gsub g),y,r5,y,r5,⟨r5,g.get2 (λhs=>⟨r5,r5,r5,r5,app hs⟩) (λs hs=>⟨r5,r5,r5,r5,app hs⟩)⟩,r5,r5,r5,g.get2 (λhs=>⟨r5,r5,app hs⟩) (λs hs=>⟨r5,r5,app hs⟩)⟩
 .rintro mx hx-⟨rfl,⟨kk,uk,g,hg⟩⟩
  rw[hul,List.take_length]at hg;have mc:=g.old bc _ m4c (Ne.symm hyc);have mq:=g.old bq _ m4q hqy;refine⟨y,.of_m mc rfl,_,g.map_,λr m5 hb5 hs5 it=>?_⟩
  have ne5:∀{z o},mx z=some o->m5 z=mx z/\z≠r:=fun{z o} e2=>by
   have:z≠r:=λe3=>by rw[e3,hb5.m_]at e2;cases e2
   exact⟨hs5.other z this,this⟩
  have hsome:∀p∈kk,∀x i,p.2.a=some ⟨x,i,none⟩->∃o,mx x=some o:=λp hp x i e2=>⟨_,((g.row p hp).blk e2).choose_spec⟩
  have kvsnd:(kk.map λp=>(Value.string p.1,dT p.2)).Nodup:=by
   have h5:=g.nodup;rw[List.nodup_iff_pairwise_ne,List.pairwise_map]at h5;rw[List.nodup_iff_pairwise_ne,List.pairwise_map];exact h5.imp λhne e=>hne (by simp only[Prod.mk.injEq,Value.string.injEq]at e;exact e.1)
  refine⟨λz=>z.1=bq/\z.2.1=bc/\z.2.2.1=r/\z.2.2.2.2=hx/\(∀b o,mx b=some o->(∀p∈kk,∀i,p.2.a≠some ⟨b,i,none⟩)->z.2.2.2.1 b=some o)/\∃left,kG z.2.2.2.1 y r (kk.map λp=>(Value.string p.1,dT p.2)) left/\∀p∈kk,ZI z.2.2.2.1 hx od p (mQ gr l) ((Value.string p.1,dT p.2)∉left),λz=>leftOf z.2.2.2.1 z.2.2.1,⟨(bq,bc,r,m5,hx),⟨rfl,rfl,rfl,rfl,λb o e _=>(ne5 e).1.trans e,_,it,λp hp=>?_⟩,MT⟩,?_⟩
  .obtain⟨ps,e1,e2,e3⟩:=Zj (hg p.1);refine⟨ps,?_,e3,by rw[e2],λhn=>(hn (List.mem_map_of_mem (f:=λp:ByteArray×Sl=>(Value.string p.1,dT p.2)) hp)).elim⟩;have e5:(ps.map λq=>eS q.1)=(uk p.1).map eS:=by rw[<-e1,List.map_map];rfl
   rw[e5];exact dC.keep (g.row p hp) λb i e=>(ne5 (hsome p hp b i e).choose_spec).1
  .rintro⟨b1,b2,b3,mz,hz⟩ ⟨e1,e2,e3,e4,oth,left,itz,half⟩;dsimp only at e1 e2 e3 e4 oth itz half⊢
   subst e1 e2 e3 e4;refine⟨y,_,left,itz,λhleft=>?_,λl1 x l2 hlx m6 hs6 ita=>?_⟩
   .have notg:∀b o,m4 b=some o->∀p∈kk,∀i,p.2.a≠some ⟨b,i,none⟩:=λb o e p hp i e2=>by rw[g.fresh p hp b i e2]at e;cases e
    refine⟨y,.of_m (oth b2 _ mc (notg b2 _ m4c)) rfl,λhd=>?_⟩;subst hleft
    classical
    let B:Nat->Prop:=λb=>∃p∈kk,p.2.a=some ⟨b,0,none⟩
    have hB:∀b,B b->m b=none/\b≠y/\∀i,hz b i=none:=by
     rintro b ⟨p,hp,e⟩;obtain⟨ps,h1,_⟩:=(half p hp).ex;refine⟨?_,λe2=>?_,hd b _ (h1.blk e).choose_spec⟩
     .cases e2:m b with
      |none=>rfl
      |some o=>exact(notg b o (s4 b o e2) p hp 0 e).elim
     .rw[e2]at e;exact notg y _ m4y p hp 0 e
    let h2:PH:=λb i=>if B b then(match mz b with|some (.cells cs _ _)=>cs[i]? |_=>none)else hz b i
    have le2:PH.le hz h2:=⟨λb i v e=>by
     have:¬B b:=λhb=>by rw[(hB b hb).2.2 i]at e;cases e
     show(if B b then _ else hz b i)=some v;rw[if_neg this];exact e⟩
    have grp:∀p∈kk,∃G,Rows h2 p.2 G/\G.Perm (mQ gr l p.1)/\pV od G:=λp hp=>by
     obtain⟨ps,h1,h3,h4,h5⟩:=(half p hp).ex;refine⟨ps.map Prod.snd,?_,h4,h5 (by simp)⟩;have e5:(ps.map λq=>eS q.1)=(ps.map Prod.fst).map eS:=by rw[List.map_map];rfl
     rw[e5]at h1
     have hri:aX h2 p.2 1 ((ps.map Prod.fst).map eS):=dC.ice h1 λb cur ea hm i=>by
      show(if B b then _ else hz b i)=_;rw[if_pos ⟨p,hp,ea⟩,hm]
     refine eB.rows (us:=ps.map Prod.fst) ⟨by simp,λj x hx=>?_⟩ hri ?_
     .rw[List.getElem?_map]at hx;cases e6:ps[j]? with
      |none=>rw[e6]at hx;cases hx
      |some q=>
       rw[e6]at hx;have hx:q.2=x:=by simpa using hx
       exact⟨q.1,by rw[List.getElem?_map,e6];rfl,hx▸cF.mono (h3 q (List.mem_of_getElem? e6)) le2⟩
     .have:=h4.length_eq;have h6:(mQ gr l p.1).length<=l.length:=List.length_filter_le _ _;omega
    let G:ByteArray->List (List VV):=λk=>if e:∃p G,p∈kk/\p.1=k/\Rows h2 p.2 G/\G.Perm (mQ gr l p.1)/\pV od G then e.choose_spec.choose else[]
    have hG:∀p∈kk,Rows h2 p.2 (G p.1)/\(G p.1).Perm (mQ gr l p.1)/\pV od (G p.1):=λp hp=>by
     have ex:∃p' G,p'∈kk/\p'.1=p.1/\Rows h2 p'.2 G/\G.Perm (mQ gr l p'.1)/\pV od G:=by
      obtain⟨G,hG⟩:=grp p hp;exact⟨p,G,hp,rfl,hG⟩
     have e6:G p.1=ex.choose_spec.choose:=dif_pos ex;rw[e6];obtain⟨h5,h6,h7⟩:=ex.choose_spec.choose_spec
     have tr:∀p' G',p'∈kk->p'.1=p.1->(Rows h2 p'.2 G'/\G'.Perm (mQ gr l p'.1)/\pV od G')->Rows h2 p.2 G'/\G'.Perm (mQ gr l p.1)/\pV od G':=λp' G' h1 h2 h3=>by
      have e7:=ID g.nodup h1 hp h2;subst e7;exact h3
     exact tr _ _ h5 h6 h7
    have hN:∀k,k∉kk.map Prod.fst->G k=[]/\mQ gr l k=[]:=λk hk=>by
     refine⟨dif_neg ?_,?_⟩
     .rintro⟨p,_,hp,e,_⟩;exact hk (List.mem_map.2 ⟨p,hp,e⟩)
     .have h5:=(hg k).len;rw[g.none_ k hk]at h5;exact List.eq_nil_of_length_eq_zero h5.symm
    obtain⟨es,c,since,seen,c0,i1,i2,i3,i4,_⟩:=itz.ex;refine⟨λb=>if b=y then mz y else m b,h2,λb o e=>?_,le2,λb i v' e=>?_,hK y _ h2 kk G ny (λb hb=>if_neg hb) le2 ⟨⟨es,c,(if_pos rfl).trans i1,i2,i3,i4⟩,g.nodup,λp hp=>(hG p hp).1,λk hk=>(hN k hk).1,λk=>?_,λk=>?_⟩⟩
    .have e:(if b=y then mz y else m b)=some o:=e;split at e
     .rename_i e2;rw[e2];exact e
     .exact oth b o (gsub g b o e) (notg b o (s4 b o e))
    .have e:(if B b then _ else hz b i)=some v':=e;split at e
     .rename_i hb;have h5:=hB b hb;obtain⟨p,hp,ea⟩:=hb;obtain⟨ps,h1,_⟩:=(half p hp).ex;obtain⟨cur,hm⟩:=h1.blk ea;rw[hm]at e;refine .inr ⟨cur,74,(0,0),hm,e,?_⟩;show(if b=y then mz y else m b)=none;rw[if_neg h5.2.1];exact h5.1
     .exact .inl e
    .by_cases hk:k∈kk.map Prod.fst
     .obtain⟨p,hp,rfl⟩:=List.mem_map.1 hk;exact(hG p hp).2.1
     .rw[(hN k hk).1,(hN k hk).2]
    .by_cases hk:k∈kk.map Prod.fst
     .obtain⟨p,hp,rfl⟩:=List.mem_map.1 hk;exact(hG p hp).2.2
     .rw[(hN k hk).1];exact List.Pairwise.nil
   .refine⟨y,_,_,x,ita,?_⟩;have hxl:x∈left:=by rw[hlx];simp
    obtain⟨p0,hp0,rfl⟩:=List.mem_map.1 (kG.mem itz hxl);obtain⟨ps,h1,h3,h4,h5⟩:=(half p0 hp0).ex;have notg:∀b o,m4 b=some o->∀p∈kk,∀i,p.2.a≠some ⟨b,i,none⟩:=λb o e p hp i e2=>by rw[g.fresh p hp b i e2]at e;cases e
    have blkr:∀p∈kk,∀b i,p.2.a=some ⟨b,i,none⟩->b≠b3:=λp hp b i e=>(ne5 (hsome p hp b i e).choose_spec).2;have hlen:=h4.length_eq;have hlen2:(mQ gr l p0.1).length<=l.length:=List.length_filter_le _ _;rw[List.length_map]at hlen;refine⟨p0.2,b1,v,od,w,ps,rfl,?_,λi=>notg b1 _ m4q p0 hp0 i,hod,dC.keep h1 λb i e=>hs6.other b (blkr p0 hp0 b i e),h3,λq hq=>?_,aC,λps' m7 hperm hsort hrow' hoth=>?_⟩
    .rw[hs6.other b1 (ne5 mq).2];exact oth b1 _ mq (notg b1 _ m4q)
    .have:q.2∈mQ gr l p0.1:=h4.mem_iff.1 (List.mem_map_of_mem hq);exact hrel.wid _ (List.mem_filter.1 this).1
    .have ynot:∀i,p0.2.a≠some ⟨y,i,none⟩:=notg y _ m4y p0 hp0;have rnot:∀i,p0.2.a≠some ⟨b3,i,none⟩:=λi e=>blkr p0 hp0 b3 i e rfl;have it7:kG m7 y b3 (kk.map λp=>(Value.string p.1,dT p.2)) (l1++l2):=kG.keep ita.it (hoth y ynot) (hoth b3 rnot);refine⟨(b1,b2,b3,m7,hz),⟨rfl,rfl,rfl,rfl,λb o e hb=>?_,_,it7,λp hp=>?_⟩,?_,rfl,rfl,rfl,rfl,rfl,trivial⟩
     .show m7 b=some o;rw[hoth b (hb p0 hp0),hs6.other b (ne5 e).2];exact oth b o e hb
     .by_cases hpp:p=p0
      .subst hpp;refine⟨ps',hrow',λq hq=>h3 q (hperm.mem_iff.1 hq),(hperm.map _).trans h4,λ_=>?_⟩;rw[pV,List.pairwise_map];exact hsort
      .have hne:p.1≠p0.1:=λe=>hpp (ID g.nodup hp hp0 e);obtain⟨qs,g1,g3,g4,g5⟩:=(half p hp).ex;refine⟨qs,dC.keep g1 λb i e=>?_,g3,g4,λhn=>g5 λhl=>hn ?_⟩
       .show m7 b=mz b;rw[hoth b (λj=>g.apart p hp p0 hp0 hne b i j e),hs6.other b (blkr p hp b i e)]
       .rw[hlx]at hl;rcases List.mem_append.1 hl with h|h
        .exact List.mem_append_left _ h
        .rcases List.mem_cons.1 h with h|h
         .simp only[Prod.mk.injEq,Value.string.injEq]at h;exact(hne h.1).elim
         .exact List.mem_append_right _ h
     .show leftOf m7 b3<leftOf mz b3;rw[kG.left_ it7,kG.left_ itz,hlx];simp
noncomputable def VW:Ctx:=Nh [(191,NH),(74,Ym)]
 [(3,{A:=Nat×Sl×Nat×MH×PH,st:=λ⟨b,s,r,m,h⟩=>cD 29 31 [(2,vv (.pointer (some ⟨b,0,none⟩))),(5,sv s),(13,vv (.pointer (some ⟨r,0,none⟩)))] [] m h})] [(5,{A:=Nat×Sl×Sl×Nat×MH×PH,st:=λ⟨b,s,g,r,m,h⟩=>cD 29 31 [(2,vv (.pointer (some ⟨b,0,none⟩))),(5,sv s),(7,sv g),(13,vv (.pointer (some ⟨r,0,none⟩)))] [] m h})] [200002,1053,0]
noncomputable abbrev AX(a:QV)(b:Nat):List CV:=bK (bW a) (CV.val (xK b 0))
abbrev Ib(a:Nat)(b:List (List VV))(c:List Int)(d:MH)(e g:Nat->Nat)(i:MH->MH)(j:Nat->MH->PH->(List (ByteArray×Sl))->(ByteArray->List (List VV))->Prop):Prop:=aA (iH a b) (gH a c) (jZ d/\∀(x:Nat),eT (λx1 x2=>∀(x3:List (ByteArray×Sl))(x4:ByteArray->List (List VV)),aM (Bk d (e x)) (∀(x5:Nat),jO (g x5=e x)->(i x1) (g x5)=d (g x5)) (j x x1 x2 x3 x4)))
noncomputable abbrev mI(a:Nat×Sl×Nat×MH×PH):Nat×MH×PH:=a.2.2
noncomputable abbrev yT(a:Nat×Sl×Sl×Nat×MH×PH):Sl:=a.2.2.1
noncomputable abbrev pS(a:Nat×Sl×Sl×Nat×MH×PH):Nat×MH×PH:=a.2.2.2
noncomputable abbrev o9(a:Sl)(b:Int):Int:=ite (aG a<b) (aG a) b
attribute [push_cast] AX Ib mI yT pS o9
def GL(v:QV)(t:Sl)(m:MH)(h:PH)(K:CV->MH->PH->Prop):Prop:=
  ∀(b:Nat)(m1:MH),aM (cC m h b) (bI m m1 b v.enc 38) (∃(y:QV),aL m1 h b 0 y.enc/\aR (λb1 o=>aA (aT t.a b1 o) ((0:Int)<=0) (0<aG t/\∃(y1:Nat),aL m1 h b1 (o+0) (nN y1)/\∃(v1:QV)(u:Nat),Gf (λg o1=>∃(l:List (List VV))(w:Nat),aA (AX y y1=AX v1 u) (Ints h v1.group g) (aA (iI h v1.order o1) (KG h u l) (Ib w l g m1 (λy2=>y2) (λb2=>b2) (λm2=>m2) (λy2 m2 h1 k g1=>bE h h1 (tL m2 h1 y2 g o1 l k g1) (aA (aL m2 h1 b 0 y.enc) (aL m2 h1 b1 (o+0) (nN y1)) (∃(k1:List (Value×Value)),gE (jR m2 y2 k1) (λr=>∀(m3:MH),aM (cC m2 h1 r) (iJ m2 m3 r) (kG m3 y2 r k1 k1->aA (aL m3 h1 b 0 y.enc) (aL m3 h1 b1 (o+0) (nN y1)) (∃(I:Nat×Sl×Nat×MH×PH->Prop)(m4:Nat×Sl×Nat×MH×PH->Nat),(∃(x:Nat×Sl×
 Nat×MH×PH),aA (I x) (cX b x.1) (aA (Zh=W2 x.2.1) (cX r (mI x).1) (jE m3 (mI x).2 h1)))/\∀(x:Nat×Sl×Nat×MH×PH),I x->∃(b2:Nat),Jt (λk2 l1=>tE (kG (dD (mI x)) b2 (mI x).1 k2 l1) (l1=[]->∃(s:Sl)(u1:List Sl)(l2:List (List VV)),aA (fX x.2.1=fX s) (nR (dD (mI x)) (cR (mI x)) s 1 (qG u1)) (aA (eB (cR (mI x)) u1 l2) (D6 l2.length) (lK (cR (mI x)) (Ae l2) K (dD (mI x))))) (λl2=>∀(x1:Value×Value)(l3:List (Value×Value)),l1=l2++x1::l3->∀(m5:MH),aM (iJ (dD (mI x)) m5 (mI x).1) (DI m5 b2 (mI x).1 k2 (l2++l3) x1) (∃(I1:Nat×Sl×Sl×Nat×MH×PH->Prop),(∃(b3:Nat),Jt (λk3 l4=>∃(x2:Value×Value),DI m5 b3 (mI x).1 k3 l4 x2/\∃(x3:Nat×Sl×Sl×
 Nat×MH×PH),aA (I1 x3) (cX x.1 x3.1) (aA (bF x.2.1 x3.2.1) (SV.at (At.val x2.2)=W2 (yT x3)) (aA (cX (mI x).1 (pS x3).1) (cH m5 (pS x3).2) (eJ (cR (mI x)) (pS x3).2/\True)))))/\∀(x2:Nat×Sl×Sl×Nat×MH×PH),I1 x2->∃(y3:Int),aA (aL (dD (pS x2)) (cR (pS x2)) x2.1 19 (cL y3)) (0<=o9 (yT x2) y3) (o9 (yT x2) y3<=(↑(yT x2).cap:Int)/\∃(x3:List (List Value)),AU (dC (dD (pS x2)) (cZ x2.2.1) 74 1 x3) (λy4=>aA (dW 1 y4) (nR (dD (pS x2)) (cR (pS x2)) (Sl.mk (yT x2).a (o9 (yT x2) y3).toNat (yT x2).cap) 1 y4) (aA (rE x3 y4 24) (rF x3 y4) (gS (λs m6=>dY (dD (pS x2)) m6 (cZ x2.2.1) s 74 1 (x3++y4)->∃(x4:Nat×Sl×Nat×MH×PH),aA (I x4) (m4 x4<
 m4 x) (aA (cX x2.1 x4.1) (bF s x4.2.1) (aA (cX (pS x2).1 (mI x4).1) (cH m6 (mI x4).2) (eJ (cR (pS x2)) (mI x4).2/\True)))))))))))))))))))))))
theorem G2{w:Nat}:∀{od:List (Int×Bool)}{a b:List VV},FO w od a b=0->a=b
 |[],_,_,h=>kR.1 h
 |(c,dn)::r,a,b,h=>by
  rw[FO]at h;generalize (if dn then-jY (a.getD c.toNat zeroV) (b.getD c.toNat zeroV)else jY (a.getD c.toNat zeroV) (b.getD c.toNat zeroV))=x at h;split at h
  .split at h
   .rename_i h1;exact(h1 h).elim
   .exact G2 h
  .exact G2 h
theorem Aq{w:Nat}{od:List (Int×Bool)}{a b:List VV}(ha:a.length=w)(hb:b.length=w):j8 od a b= -j8 od b a:=by
 rw[zB ha hb,zB hb ha];exact(FN w od).anti a b
theorem US{w:Nat}{a b:List VV}(ha:a.length=w)(hb:b.length=w)(h:j8 od a b=0):a=b:=by
 rw[zB ha hb]at h;exact G2 h
theorem He{w:Nat}{od:List (Int×Bool)}{x:List VV}:∀{G:List (List VV)}{n:Nat},pV od G->(∀r∈G,r.length=w)->G.Nodup->(x∈G.take n↔x∈G/\(G.countP λy=>decide (j8 od y x<0))<n)
 |[],n,_,_,_=>by simp
 |a::G,0,_,_,_=>by simp
 |a::G,n+1,hs,hw,hn=>by
  have hs:=List.pairwise_cons.1 hs;have hn:=List.nodup_cons.1 hn;have ih:=He (x:=x) (G:=G) (n:=n) hs.2 (λr hr=>hw r (List.mem_cons_of_mem _ hr)) hn.2;have hwa:=hw a (List.mem_cons_self ..);rw[List.take_succ_cons,List.mem_cons,ih,List.mem_cons,List.countP_cons];by_cases hx:x=a
  .subst hx;have e1:¬j8 od x x<0:=by have:=Aq (od:=od) hwa hwa;omega
   have e2:(G.countP λy=>decide (j8 od y x<0))=0:=List.countP_eq_zero.2 λy hy=>by simpa using hs.1 y hy
   rw[e2,if_neg (by simpa using e1)];simp
  .by_cases hxG:x∈G
   .have hwx:=hw x (List.mem_cons_of_mem _ hxG);have e1:=hs.1 x hxG;have e2:=Aq (od:=od) hwa hwx;have e3:j8 od a x≠0:=λe=>hx (US hwa hwx e).symm;rw[if_pos (by simp;omega)];simp[hx,hxG]
   .simp[hx,hxG]
theorem Ky{l:List (List VV)}(h:lN l):l.Nodup:=by
 rw[List.nodup_iff_pairwise_ne];exact h.imp fun{a b} hab e=>by subst e;have:=Cx.anti a a;omega
def KT(gr:List Int)(x y:List VV):Bool:=dR (pick x gr) (pick y gr)==0
theorem TL{gr:List Int}{x y:List VV}:KT gr x y=true↔pick x gr=pick y gr:=by
 simp only[KT,beq_iff_eq,kR]
def Bt(gr:List Int)(od:List (Int×Bool))(li:Int)(a b:List (List VV)):List (List VV):=a.filter λx=>decide (((b.countP λy=>KT gr x y&&decide (j8 od y x<0):Nat):Int)<li)
def Oh(q:Query)(ls:List (List (List VV))):List (List VV):=match q with|.mk _ _ _ _ _ gr od li _=>Bt gr od li (ls.getD 0 []) (ls.getD 0 [])
def Jf(q:Query)(ls:List (List (List VV))):Prop:=match q with|.mk _ _ _ _ _ gr _ li _=>1<=ls.length/\(∃w,iH w (ls.getD 0 [])/\gH w gr)/\0<=li
theorem Vq{w:Nat}{l:List (List VV)}(hl:iH w l)(hc:gH w gr){x y:List VV}(hx:NN x)(hw:x.length=w)(hy:y∈l):cM (pick y gr)=cM (pick x gr)↔KT gr x y=true:=by
 rw[TL];have:=Ec (a:=pick y gr) (b:=pick x gr) (by simp[pick]) (EJ (hl.row y hy) (by rw[hl.wid y hy];exact hc)) (EJ hx (by rw[hw];exact hc));rw[this];exact eq_comm
theorem Hw{w:Nat}{gr:List Int}{od:List (Int×Bool)}{l:List (List VV)}(hl:iH w l)(hc:gH w gr){x:List VV}(hx:NN x)(hw:x.length=w):
 ((mQ gr l (cM (pick x gr))).countP λy=>decide (j8 od y x<0))=l.countP λy=>KT gr x y&&decide (j8 od y x<0):=by
 rw[mQ,List.countP_filter];refine List.countP_congr λy hy=>?_;have h1:=Vq hl hc hx hw hy;simp only[Bool.and_eq_true,decide_eq_true_eq];rw[h1,and_comm]
theorem PQ{α:Type}{p q:α->Bool}:∀{l:List α},(∀x∈l,¬(p x=true/\q x=true))->l.countP p+l.countP q=l.countP λx=>p x||q x
 |[],_=>rfl
 |a::l,h=>by
  have ih:=PQ (l:=l) λx hx=>h x (List.mem_cons_of_mem _ hx);have h1:=h a (List.mem_cons_self ..);rw[List.countP_cons,List.countP_cons,List.countP_cons];cases e1:p a<;>cases e2:q a<;>simp_all<;>omega
theorem T3{y w:Nat}{l:List (List VV)}{kk:List (ByteArray×Sl)}{g:ByteArray->List (List VV)}(hg:tL m h y gr od l kk g)(hrel:iH w l)(hcols:gH w gr)(hli:0<=li)(x:List VV):
 x∈Bt gr od li l l↔∃p∈kk,x∈(g p.1).take li.toNat:=by
 have gw:∀k r,r∈g k->r∈l/\cM (pick r gr)=k:=λk r hr=>by
  have:=(hg.perm k).mem_iff.1 hr;simpa[mQ]using this
 have gn:∀k,(g k).Nodup:=λk=>(hg.perm k).nodup_iff.2 ((Ky hrel.srt).sublist List.filter_sublist);have gt:∀k,x∈(g k).take li.toNat↔x∈g k/\((g k).countP λy=>decide (j8 od y x<0))<li.toNat:=λk=>He (hg.sort k) (λr hr=>hrel.wid r (gw k r hr).1) (gn k)
 have gc:x∈l->((g (cM (pick x gr))).countP λy=>decide (j8 od y x<0))=l.countP λy=>KT gr x y&&decide (j8 od y x<0):=λhx=>by
  rw[(hg.perm _).countP_eq];exact Hw hrel hcols (hrel.row x hx) (hrel.wid x hx)
 rw[Bt,List.mem_filter];constructor
 .rintro⟨hx,hc⟩;have hc:=of_decide_eq_true hc;have hxg:x∈g (cM (pick x gr)):=(hg.perm _).mem_iff.2 (by simp[mQ,hx])
  have hk:cM (pick x gr)∈kk.map Prod.fst:=by
   by_cases hk:cM (pick x gr)∈kk.map Prod.fst
   .exact hk
   .rw[hg.none_ _ hk]at hxg;cases hxg
  obtain⟨p,hp,e⟩:=List.mem_map.1 hk;refine⟨p,hp,?_⟩;rw[e];exact(gt _).2 ⟨hxg,by rw[gc hx];omega⟩
 .rintro⟨p,hp,hx⟩;obtain⟨h1,h2⟩:=(gt _).1 hx;obtain⟨h3,h4⟩:=gw _ _ h1;rw[<-h4,gc h3]at h2;exact⟨h3,decide_eq_true aC⟩
theorem Rc:Sound Tryz.prog 155 (NO Jf Oh):=by
 refine DS Tryz.func155 ?_;rintro cvs m h K ⟨v,t,q,bs,ls,rfl,hq,ha,hT,hok,hK⟩;refine⟨VW,rfl,aD JR (aD Gx aF),GL v t m h (cY h K),by kernel_rfl,?_⟩;show GL v t m h (cY h K);dsimp only[GL,push_cast];obtain⟨op,ta,w,co,on,gr,od,li,args⟩:=q;obtain⟨hl1,⟨wd,hrel,hcols⟩,hli⟩:=hok;intro b m1 hb1 hu1;obtain⟨s1,n1⟩:=gJ (Sub.refl m) hb1 hu1;have m1b:m1 b=some (.cells ⟨v.enc⟩ 38 (0,0)):=hu1.at_;obtain⟨b1,off,x,ea,hlt,rd,sq⟩:=ha.get (BO (i:=0) aC);simp only[Oh]at hK;generalize ls.getD 0 []=l at hK hrel sq;have hll:=hrel.len;refine⟨v,.of_m m1b (List.take_length ..),b1,off,ea,aC,aC,x,.imm rd,v,x,gr,od,l,wd,rfl,hq.parts.group_,hq.parts.order_,sq,hrel,hcols,hT.sub s1,λy m2 h2 kk g hy hoth le2 hg=>?_⟩;have yb:b≠y:=λe=>by rw[<-e,m1b]at hy;cases hy
 have m2b:m2 b=some (.cells ⟨v.enc⟩ 38 (0,0)):=by rw[hoth b yb];exact m1b
 have s2:Sub m m2:=λz o e=>by rw[hoth z (λe2=>by have:=s1 z o e;rw[e2,hy]at this;cases this)];exact s1 z o e
 refine⟨.of_m m2b (List.take_length ..),.imm (rd.mono le2),_,hg.map_,λr m3 hb3 hs3 it=>?_⟩;have rb:b≠r:=λe=>by have:=hb3.m_;rw[<-e,m2b]at this;cases this
 have m3b:m3 b=some (.cells ⟨v.enc⟩ 38 (0,0)):=by rw[hs3.other b rb];exact m2b
 have s3:Sub m m3:=λz o e=>by
  have:=s2 z o e;rw[hs3.other z (λe2=>by rw[e2,hb3.m_]at this;cases this)];exact this
 classical
 have m3y:∃o,m3 y=some o:=by obtain⟨es,c,since,seen,c0,i1,_⟩:=it.ex;exact⟨_,i1⟩
 have m3r:∃o,m3 r=some o:=by obtain⟨es,c,since,seen,c0,i1,i2,i3,i4,i5,_⟩:=it.ex;exact⟨_,i5⟩
 have yr:y≠r:=λe=>by
  obtain⟨es,c,i1,_⟩:=hg.map_;rw[e,hb3.m_]at i1;cases i1
 have kvsnd:(kk.map λp=>(Value.string p.1,dT p.2)).Nodup:=by
  have h5:=hg.nodup;rw[List.nodup_iff_pairwise_ne,List.pairwise_map]at h5;rw[List.nodup_iff_pairwise_ne,List.pairwise_map];exact h5.imp λhne e=>hne (by simp only[Prod.mk.injEq,Value.string.injEq]at e;exact e.1)
 refine⟨.of_m m3b (List.take_length ..),.imm (rd.mono le2),λz=>z.1=b/\z.2.2.1=r/\z.2.2.2.2=h2/\(∀x o,m3 x=some o->x≠r->z.2.2.2.1 x=some o)/\∃left us acc,kG z.2.2.2.1 y r (kk.map λp=>(Value.string p.1,dT p.2)) left/\dC z.2.2.2.1 z.2.1 74 1 (us.map eS)/\(∀x i,z.2.1.a=some ⟨x,i,none⟩->m3 x=none)/\eB h2 us acc/\
  (∀x,x∈acc↔∃p∈kk,(Value.string p.1,dT p.2)∉left/\x∈(g p.1).take li.toNat)/\acc.length+(l.countP λz=>decide (Value.string (cM (pick z gr))∈left.map Prod.fst))<=l.length,λz=>leftOf z.2.2.2.1 z.2.2.1,⟨(b,⟨none,0,0⟩,r,m3,h2),⟨rfl,rfl,rfl,λx o e _=>e,_,[],[],it,⟨Ag [],.inl ⟨rfl,rfl⟩⟩,(λx i e=>by cases e),eB.nil _,λx=>?_,?_⟩,MT⟩,?_⟩
 .constructor
  .intro e;cases e
  .rintro⟨p,hp,hn,_⟩;exact(hn (List.mem_map_of_mem (f:=λp:ByteArray×Sl=>(Value.string p.1,dT p.2)) hp)).elim
 .rw[List.length_nil,Nat.zero_add];exact List.countP_le_length
 .rintro⟨b',s,r',mz,hz⟩ ⟨e1,e2,e3,oth,left,us,acc,itz,hrow,hfr,hus,hmem,hcnt⟩;dsimp only at e1 e2 e3 oth itz hrow hfr hus hmem hcnt⊢
  subst e1 e2 e3;have hacc:acc.length<=l.length:=by omega
  have hul:=hus.len;refine⟨y,_,left,itz,λhleft=>?_,λl1 x1 l2 hlx m4 hs4 ita=>?_⟩
  .subst hleft;refine⟨s,us,acc,rfl,hrow.src,hus,aC,λs' h' le' hr'=>cY.sub (λz o e=>oth z o (s3 z o e) (λe2=>?_)) (le2.trans le') (hK s' h' (le2.trans le') ?_)⟩
   .have:=s2 z o e;rw[e2,hb3.m_]at this;cases this
   .have e5:Bt gr od li l l=Ae acc:=Ss (hrel.srt.sublist List.filter_sublist) λx=>by
     rw[T3 hg hrel hcols hli,hmem];simp
    rw[e5];exact hr'
  .have hxl:x1∈left:=by rw[hlx];simp
   obtain⟨p0,hp0,rfl⟩:=List.mem_map.1 (kG.mem itz hxl);have hnd:=kG.nodup itz kvsnd;rw[hlx]at hnd
   have hnd':(Value.string p0.1,dT p0.2)∉l1++l2:=λh=>by
    have h5:=List.nodup_append.1 hnd;have h6:=List.nodup_cons.1 h5.2.1;rcases List.mem_append.1 h with h|h
    .exact h5.2.2 _ h _ (List.mem_cons_self ..) rfl
    .exact h6.1 h
   have m3ne:∀{x},(∃o,m3 x=some o)->∀i,s.a≠some ⟨x,i,none⟩:=fun{x}⟨o,ho⟩ i e=>by rw[hfr x i e]at ho;cases ho
   have m4b:m4 b'=some (.cells ⟨v.enc⟩ 38 (0,0)):=by rw[hs4.other b' rb];exact oth b' _ m3b rb
   have hrow4:dC m4 s 74 1 (us.map eS):=dC.keep hrow λx i e=>hs4.other x λe2=>m3ne m3r i (e2▸e);obtain⟨⟨us0,hri,hl0,hat⟩,_⟩:=hg.rows p0 hp0;refine⟨λc=>c=(b',s,p0.2,r',m4,hz),⟨y,_,_,_,ita,⟨(b',s,p0.2,r',m4,hz),rfl,rfl,rfl,rfl,rfl,rfl,rfl,trivial⟩⟩,?_⟩;rintro c rfl;dsimp only;have hlim:v.limit=li:=hq.parts.limit_;have hgl:=(hg.perm p0.1).length_eq;have hgl2:(mQ gr l p0.1).length<=l.length:=List.length_filter_le _ _;have hpl:p0.2.len=us0.length:=by have:=hri.len;simpa using this
   have hn:((if(p0.2.len:Int)<v.limit then(p0.2.len:Int)else v.limit).toNat)=min us0.length li.toNat:=by
    rw[hlim];split<;>omega
   have hcap:=hri.cap;refine⟨v.limit,.of_m m4b rfl,by rw[hlim];split<;>omega,by rw[hlim];split<;>omega,us.map eS,hrow4,(us0.take (min us0.length li.toNat)).map eS,Ag _,?_,by simp;omega,by simp;omega,λs' m5 hgr=>?_⟩
   .rw[hn,List.map_take];exact .imm (aX.cut hri _ (by simp;omega))
   .have hold:∀x o,m3 x=some o->x≠r'->m5 x=some o:=λx o e hne=>hgr.other x o (by rw[hs4.other x hne];exact oth x o e hne) (m3ne ⟨o,e⟩)
    have it5:kG m5 y r' (kk.map λp=>(Value.string p.1,dT p.2)) (l1++l2):=by
     obtain⟨es,c,since,seen,c0,i1,i2,i3,i4,i5,_⟩:=ita.it.ex;exact kG.keep ita.it (by rw[i1];exact hgr.other y _ i1 (m3ne m3y)) (by rw[i5];exact hgr.other r' _ i5 (m3ne m3r))
    have hu0:eB hz (us0.take (min us0.length li.toNat)) ((g p0.1).take li.toNat):=by
     refine⟨by simp[hl0];omega,λj x hx=>?_⟩;rw[List.getElem?_take]at hx;split at hx
     .obtain⟨u,hu,hv⟩:=hat j x hx;have:=(List.getElem?_eq_some_iff.1 hu).1;exact⟨u,by rw[List.getElem?_take,if_pos aC];exact hu,hv⟩
     .cases hx
    refine⟨(b',s',r',m5,hz),⟨rfl,rfl,rfl,hold,_,us++us0.take (min us0.length li.toNat),acc++(g p0.1).take li.toNat,it5,?_,λx i e=>?_,hus.app hu0,λx=>?_,?_⟩,?_,rfl,rfl,rfl,rfl,rfl,trivial⟩
    .rw[List.map_append];exact hgr.row
    .rcases hgr.fresh x i e with h5|⟨j,h5⟩
     .cases e6:m3 x with
      |none=>rfl
      |some o=>
       by_cases hxr:x=r'
       .obtain⟨es,c,since,seen,c0,i1,i2,i3,i4,i5,_⟩:=ita.it.ex;rw[hxr,i5]at h5;cases h5
       .rw[hs4.other x hxr,oth x o e6 hxr]at h5;cases h5
     .exact hfr x j h5
    .rw[List.mem_append,hmem];constructor
     .rintro(⟨p,hp,hn,hx⟩|hx)
      .exact⟨p,hp,λh=>hn (by rw[hlx];rcases List.mem_append.1 h with h|h;exact List.mem_append_left _ h;exact List.mem_append_right _ (List.mem_cons_of_mem _ h)),hx⟩
      .exact⟨p0,hp0,hnd',hx⟩
     .rintro⟨p,hp,hn,hx⟩;by_cases hpp:p=p0
      .subst hpp;exact .inr hx
      .refine .inl ⟨p,hp,λh=>?_,hx⟩;rw[hlx]at h;rcases List.mem_append.1 h with h|h
       .exact hn (List.mem_append_left _ h)
       .rcases List.mem_cons.1 h with h|h
        .simp only[Prod.mk.injEq,Value.string.injEq]at h;exact hpp (ID hg.nodup hp hp0 h.1)
        .exact hn (List.mem_append_right _ h)
    .have hkn:Value.string p0.1∉(l1++l2).map Prod.fst:=λh=>by
      obtain⟨z,hz1,hz2⟩:=List.mem_map.1 h;obtain⟨p,hp,rfl⟩:=List.mem_map.1 (kG.mem it5 hz1);simp only[Value.string.injEq]at hz2;have:=ID hg.nodup hp hp0 hz2;subst this;exact hnd' hz1
     have h5:=PQ (l:=l) (p:=λz=>decide (Value.string (cM (pick z gr))∈(l1++l2).map Prod.fst)) (q:=λz=>decide (cM (pick z gr)=p0.1)) (λz _⟨h6,h7⟩=>by
      have h6:=of_decide_eq_true h6;rw[of_decide_eq_true h7]at h6;exact hkn h6)
     have h8:(l.countP λz=>decide (Value.string (cM (pick z gr))∈(l1++l2).map Prod.fst)||decide (cM (pick z gr)=p0.1))=l.countP λz=>decide (Value.string (cM (pick z gr))∈left.map Prod.fst):=by
      refine List.countP_congr λz _=>?_;rw[hlx];simp only[Bool.or_eq_true,decide_eq_true_eq,List.map_append,List.map_cons,List.mem_append,List.mem_cons,Value.string.injEq];constructor
      .rintro((h|h)|h)
       .exact .inl h
       .exact .inr (.inr h)
       .exact .inr (.inl h)
      .rintro(h|h|h)
       .exact .inl (.inl h)
       .exact .inr h
       .exact .inl (.inr h)
     have h9:(mQ gr l p0.1).length=l.countP λz=>decide (cM (pick z gr)=p0.1):=by rw[mQ,List.countP_eq_length_filter]
     rw[List.length_append,List.length_take];omega
    .show leftOf m5 r'<leftOf mz r';rw[kG.left_ it5,kG.left_ itz,hlx];simp
def Te:Vc.Spec:=λcvs m h K=>∃(n bq bg br:Nat)(v:QV)(od:List (Int×Bool))(g s:Sl)(rs:List (List VV))(r:List VV)(w:Nat),cvs=[cI n,.val (.func (.func 193) #[] #[.pointer (some ⟨bq,0,none⟩),.pointer (some ⟨bg,0,none⟩),.pointer (some ⟨br,0,none⟩)])]/\
 m bq=some (.cells ⟨QV.enc v⟩ 38 (0,0))/\m bg=some (.cells #[Sl.val g] 53 (0,0))/\m br=some (.cells #[Sl.val s] 74 (0,0))/\iI h v.order od/\Rows h g rs/\cF h s r/\rs.length=n/\pV od rs/\(∀x∈rs,x.length=w)/\r.length=w/\
 K (cI ((rs.countP λy=>decide (j8 od y r<0):Nat):Int)) m h
noncomputable def VU:Ctx:=Nh [(191,NH),(186,WL),(192,Te)] [] [(2,{A:=Sl×Nat×Nat×MH×PH,st:=λ⟨t,b,c,m,h⟩=>cD 38 40 [(1,sv t),(2,vv (.pointer (some ⟨b,0,none⟩))),(5,vv (.pointer (some ⟨c,0,none⟩)))] [] m h}),
 (6,{A:=Nat×Nat×Nat×Nat×MH×PH,st:=λ⟨b,o,e,g,m,h⟩=>cD 38 40 [(2,vv (.pointer (some ⟨b,0,none⟩))),(6,vv (.pointer (some ⟨o,0,none⟩))),(7,vv (.pointer (some ⟨e,0,none⟩))),(8,vv (.pointer (some ⟨g,0,none⟩)))] [] m h})] [200002,200005,200006,200007,200008,1053,400000,0]
noncomputable abbrev nB(a:Sl×Nat×Nat×MH×PH):Nat×MH×PH:=a.2.2
abbrev AY(a:MH)(b:Nat)(c:Value)(d:MH->(Nat×Nat×Nat×Nat×MH×PH)->Prop):Prop:=gK (λx x1=>aA (uO a b (eR x x1 0)) (fC 0 x) (∀(x2:MH),bI a x2 b (eO c 1 x) x1->∃(x3:Nat×Nat×Nat×Nat×MH×PH),d x2 x3))
noncomputable abbrev iV(a:Nat×Nat×Nat×Nat×MH×PH):Nat×MH×PH:=a.2.2.2
abbrev A6(a:Nat×Nat×Nat×Nat×MH×PH->Prop)(b:Nat×Nat×Nat×Nat×MH×PH)(c:Sl×Nat×Nat×MH×PH)(d e g:Nat)(i:MH)(j:PH):Prop:=aA (a b) (cX c.2.1 b.1) (aA (cX d b.2.1) (cX e b.2.2.1) (aA (cX g (iV b).1) (cH i (iV b).2) (eJ j (iV b).2/\True)))
attribute [push_cast] nB AY iV A6
def GK(v:QV)(t:Sl)(m:MH)(h:PH)(K:CV->MH->PH->Prop):Prop:=
  ∀(b:Nat)(m1:MH),aM (cC m h b) (bI m m1 b v.enc 38) (∃(I:Sl×Nat×Nat×MH×PH->Prop),(∃(y:QV),aL m1 h b 0 y.enc/\aR (λb1 o=>aA (aT t.a b1 o) ((0:Int)<=1) (1<aG t/\∃(y1:Nat),aA (aL m1 h b1 (o+1) (nN y1)) (∃(v1:QV)(u:Nat),Gf (λg o1=>∃(l:List (List VV))(w:Nat),aA (AX y y1=AX v1 u) (Ints h v1.group g) (aA (iI h v1.order o1) (KG h u l) (Ib w l g m1 (λy2=>y2) (λb2=>b2) (λm2=>m2) (λy2 m2 h1 k g1=>bE h h1 (tL m2 h1 y2 g o1 l k g1) (aA (aL m2 h1 b 0 y.enc) (aL m2 h1 b1 (o+1) (nN y1)) (∀(b2:Nat)(m3:MH),aM (cC m2 h1 b2) (bI m2 m3 b2 (iO D7) 207) (gK (λc E=>aA (uO m3 b2 (eR c E 0)) (fC 0 c) (∀(m4:MH),bI m3 m4 b2 (eO (BH y2) 1 c) E->∃(x:Sl×Nat×Nat×MH×PH),aA (I x)
 (bF t x.1) (aA (cX b x.2.1) (cX b2 (nB x).1) (jE m4 (nB x).2 h1)))))))))))) (aA (aL m1 h b 0 y.enc) (aL m1 h b1 (o+1) (nN y1)) (∀(b2:Nat)(m2:MH),aM (cC m1 h b2) (bI m1 m2 b2 (iO D7) 207) (∃(v1:QV)(u:Nat),Gf (λg o1=>∃(l:List (List VV))(w:Nat),aA (AX y y1=AX v1 u) (Ints h v1.group g) (aA (iI h v1.order o1) (KG h u l) (Ib w l g m2 (λy2=>y2) (λb3=>b3) (λm3=>m3) (λy2 m3 h1 k g1=>bE h h1 (tL m3 h1 y2 g o1 l k g1) (gK (λc E=>aA (uO m3 b2 (eR c E 0)) (fC 0 c) (∀(m4:MH),bI m3 m4 b2 (eO (BH y2) 1 c) E->∃(x:Sl×Nat×Nat×MH×PH),aA (I x) (bF t x.1) (aA (cX b x.2.1) (cX b2 (nB x).1) (jE m4 (nB x).2 h1)))))))))))))))/\∀(x:Sl×Nat×Nat×MH×PH),I x->AZ (dD (nB x))
 (cR (nB x)) x.1 (λb1 m2 y S=>pO S (cR (nB x)) y m2 (λx1 I1 k e=>eT (λm3 h1=>aM (sX x1 k e) (PH.le (cR (nB x)) h1) (I1 k m3 h1->∀(b2:Nat)(m4:MH),aM (cC m3 h1 b2) (bI m3 m4 b2 iD 74) (gK (λc E=>aA (uO m4 b2 (eR c E 0)) (fC 0 c) (∀(m5:MH),bI m4 m5 b2 (eO (dT e) 1 c) E->∃(I2:Nat×Nat×Nat×Nat×MH×PH->Prop),(∃(y1:Nat),kU m5 h1 (nB x).1 y1 (iC m5 h1 b2 0 (λy2=>∃(y3:Sl),aA (aL m5 h1 x.2.1 17 (aU y3)) (kU m5 h1 (nB x).1 y1 (EY y2 y3 h1 m5 (cE m5 h1 (nB x).1 y1) (λr c1=>aA (aL m5 h1 b2 0 (aU y2)) (aL m5 h1 x.2.1 17 (aU y3)) (v7 m5 y1 r c1 (aA (cE m5 h1 (nB x).1 y1) (aL m5 h1 b2 0 (aU y2)) (aL m5 h1 x.2.1 17 (aU y3)/\∀(b3:Nat)(m6:MH),aM (cC m5 h1 b3) (bI m5 m6
 b3 iD 53) (AY m6 b3 u0 (λm7 x2=>A6 I2 x2 x b1 b2 b3 m7 h1)))) (λy4=>aA (cE m5 h1 (nB x).1 y1) (aL m5 h1 b2 0 (aU y2)) (aL m5 h1 x.2.1 17 (aU y3)/\∀(b3:Nat)(m6:MH),aM (cC m5 h1 b3) (bI m5 m6 b3 iD 53) (AY m6 b3 (dT y4) (λm7 x2=>A6 I2 x2 x b1 b2 b3 m7 h1)))))) (λr c1=>aA (cE m5 h1 (nB x).1 y1) (aL m5 h1 b2 0 (aU y2)) (aL m5 h1 x.2.1 17 (aU y3)/\∀(b3:Nat)(m6:MH),aM (cC m5 h1 b3) (bI m5 m6 b3 iD 53) (aA (aL m6 h1 b2 0 (aU y2)) (aL m6 h1 x.2.1 17 (aU y3)) (v7 m6 y1 r c1 (AY m6 b3 u0 (λm7 x2=>A6 I2 x2 x b1 b2 b3 m7 h1)) (λy4=>AY m6 b3 (dT y4) (λm7 x2=>A6 I2 x2 x b1 b2 b3 m7 h1)))))))) (aA (cE m5 h1 (nB x).1 y1) (aL m5 h1 b2 0 (aU y2)) (aL m5 h1 x.2.1 17 (aU y3)/\∀(b3:Nat)(m6:MH),
 aM (cC m5 h1 b3) (bI m5 m6 b3 iD 53) (kU m6 h1 (nB x).1 y1 (EY y2 y3 h1 m6 (cE m6 h1 (nB x).1 y1) (λ_ _=>aL m6 h1 b2 0 (aU y2)) (λr c1=>aL m6 h1 x.2.1 17 (aU y3)/\v7 m6 y1 r c1 (AY m6 b3 u0 (λm7 x2=>A6 I2 x2 x b1 b2 b3 m7 h1)) (λy4=>AY m6 b3 (dT y4) (λm7 x2=>A6 I2 x2 x b1 b2 b3 m7 h1))))))))))/\∀(x2:Nat×Nat×Nat×Nat×MH×PH),I2 x2->iC (dD (iV x2)) (cR (iV x2)) (iV x2).1 0 (λy1=>aR (λn b3=>aR (λb4 b5=>∃(v1:QV)(o:List (Int×Bool)),iN (λg s=>∃(r:List (List VV))(r1:List VV)(w:Nat),aA (bK (eD (aG y1)) (CV.val (Cd 193 (Array.mk (aJ (TF x2.1 0) (TF (iV x2).1 0) (iO (TF x2.2.2.1 0))))))=bK (eD (↑n:Int)) (CV.val (Cd 193 (Array.mk (aJ (TF b3 0) (TF b4 0) (iO (TF b5 0)))))))
 ((iV x2).2.1 b3=Option.some (eR (Array.mk v1.enc) 38 0)) (aA ((iV x2).2.1 b4=Option.some (eR (Array.mk (aU g)) 53 0)) ((iV x2).2.1 b5=Option.some (eR (Array.mk (aU s)) 74 0)) (aA (iI (cR (iV x2)) v1.order o) (Rows (cR (iV x2)) g r) (aA (cF (cR (iV x2)) s r1) (r.length=n) (aA (pV o r) (C2 r (λx3=>x3.length=w)) (r1.length=w/\tT (dD (iV x2)) (cR (iV x2)) x2.1 19 (λy2=>aZ (↑(List.countP (fun(y3:List VV)=>decide (j8 o y3 r1<0)) r):Int) y2 (iC (dD (iV x2)) (cR (iV x2)) x2.2.1 0 (λy3=>∃(y4:Sl),aL (dD (iV x2)) (cR (iV x2)) x2.2.2.1 0 (aU y4)/\∃(x3:List (List Value)),aA (dC (dD (iV x2)) (cZ y3) 74 1 x3) (gM ((x3.length+1)*24)) (iF x3/\gS (λs1 m6=>dY (dD (iV x2))
 m6 (cZ y3) s1 74 1 (jC x3 y4)->gK (λc1 E1=>aA (uO m6 x2.2.1 (eR c1 E1 0)) (fC 0 c1) (∀(m7:MH),bI m6 m7 x2.2.1 (eO (dT s1) 1 c1) E1->I1 (k+1) m7 (cR (iV x2)))))))) (I1 (k+1) (dD (iV x2)) (cR (iV x2))))))))))))))))))) (λm3 h1=>iC m3 h1 b1 0 (λy1=>K (dN y1) m3 h1))))
theorem Ft{w:World}{q:Nat}{os:Array Obj}(hb:b<w.heap.size):(Sort.grow (w.drewN q) os).heap[b]? =w.heap[b]? :=by
 show((w.drewN q).heap++os)[b]? =_;rw[Array.getElem?_append_left (show b<(w.drewN q).heap.size from hb)];rfl
theorem PU{P:Program}{g:Nat}{cs:List Value}{m:MH}{h:PH}{S:Vc.Spec}{r:CV}{u:Value}(hs:Sound P g S)(hS:S (cs.map .val) m h λr' m' h'=>r'=r/\m'=m/\h'=h)(hr:∀w u',DL w r u'->u'=u){w:World}
 (hh:∀b o v,h b o=some v->w.cell? ⟨b,o,none⟩=some v)(hm:∀b o,m b=some o->w.heap[b]? =some o)(hd:∀b o,m b=some o->∀i,h b i=none)(mm:Nat)(os:Array Obj):
 Calls P g cs.toArray (Sort.grow (w.drewN mm) os) λe w'=>e= .returned u/\∃q os',w'=Sort.grow ((Sort.grow (w.drewN mm) os).drewN q) os':=by
 obtain⟨W,hW⟩:∃W,Sort.grow (w.drewN mm) os=W:=⟨_,rfl⟩
 rw[hW];have old:∀b,b<w.heap.size->W.heap[b]? =w.heap[b]? :=λb hb=>by rw[<-hW];exact Ft hb
 have hvals:∀(l:List Value)(w:World),Ac w (l.map .val) l:=λl w=>by
  induction l with
  |nil=>trivial
  |cons a l ih=>exact⟨rfl,ih⟩
 have nov:∀(l:List Value)(i:Nat)(c:CV)(u:Value)(b:Nat),(l.map CV.val)[i]? =some c->fR c u=some b->False:=λl i c u b hi hb=>by
  rw[List.getElem?_map]at hi;cases e:l[i]? with
  |none=>rw[e]at hi;cases hi
  |some v=>rw[e]at hi;simp at hi;subst hi;simp[fR]at hb
 have hpre:wU W m h (cs.map .val) cs:=by
  refine⟨hvals _ _,?_,?_,hd,λi j c d u v b hi _ _ _ hb _=>(nov _ i c u b hi hb).elim,λi c u b hi _ hb=>(nov _ i c u b hi hb).elim⟩
  .intro b o v hv;have h1:=hh b o v hv;rw[World.cell?_of_block (w:=w) (w':=W) (a:=⟨b,o,none⟩) (old b (World.block_lt_of_cell? w ⟨b,o,none⟩ h1))];exact h1
  .intro b o hb;have h1:=hm b o hb;rw[old b (Array.getElem?_eq_some_iff.1 h1).1];exact h1
 refine(hs.2 _ _ m h W _ hS hpre).mono ?_;rintro e w' ⟨r',u',m',h',rfl,⟨rfl,rfl,rfl⟩,hok,hw,_⟩;have hu:=hr _ _ hok;subst hu;refine⟨rfl,Hb hw.tape hw.os hw.output hw.drawn hw.size (λb hb=>?_)⟩;cases e3:m' b with
 |none=>
  refine hw.frame b hb ?_;rintro(h1|⟨i,c,u,hi,_,hc⟩)
  .exact h1 e3
  .exact nov _ i c u b hi hc
 |some o=>rw[hw.msat b o e3];exact(hpre.msat b o e3).symm
theorem Q2:Sound Tryz.prog 192 Te:=by
 refine⟨⟨Tryz.f192,Tryz.func192,rfl,by decide⟩,?_⟩;rintro cvs vs m h w K ⟨n,bq,bg,br,v,od,g,s,rs,r,wd,rfl,hq,hg,hr,ho,hrs,hv,rfl,hso,hw,hrw,hK⟩ hp
 obtain⟨v1,v2,rfl⟩:∃v v2,vs=[v,v2]:=by
  have:=(mP hp.args).1
  match vs,this with
  |[v,v2],_=>exact⟨v,v2,rfl⟩
 have h1:v1= .int .i64 rs.length:=hp.args.1;have h2:v2= .func (.func 193) #[] #[.pointer (some ⟨bq,0,none⟩),.pointer (some ⟨bg,0,none⟩),.pointer (some ⟨br,0,none⟩)]:=hp.args.2.1;subst h1 h2
 have eg:∀args w,(callFunc 193 args).run Tryz.prog w= .ok (.enter 193 args) w:=λargs w=>by
  have hgf:=Tryz.func193;have hb:Tryz.f193.body.isSome=true:=rfl;have hn:(Tryz.f193.name== "runtime.NumGoroutine")=false:=by decide
  have hbn:¬Tryz.f193.body=none:=by intro e;rw[e]at hb;cases hb
  have hnm:¬Tryz.f193.name= "runtime.NumGoroutine" :=by simpa using hn
  simp[callFunc,program,Sem.run,hgf,hnm,hbn]
 have hlen:=hrs.len
 have hcall:=Any.sort_Search Tryz.searchO 193 #[.pointer (some ⟨bq,0,none⟩),.pointer (some ⟨bg,0,none⟩),.pointer (some ⟨br,0,none⟩)] rs.length (λi=>decide (j8 od (rs.toArray[i]!) r>=0)) w eg aC
  (λmm os i hi=>PU (cs:=[.int .i64 i,.pointer (some ⟨bq,0,none⟩),.pointer (some ⟨bg,0,none⟩),.pointer (some ⟨br,0,none⟩)]) Q1
   ⟨i,bq,bg,br,v,od,g,s,rs,r,rs.toArray[i]!,rfl,hq,hg,hr,ho,hrs,hv,by rw[getElem!_pos _ i (by simpa using hi)];simp[hi],rfl,rfl,rfl⟩ (λw u' hu=>hu) hp.hsat hp.msat hp.disj mm os)
  (λa b hab hb hpa=>?_)
 .refine Calls.mono hcall ?_;rintro e w' ⟨rfl,q,os,rfl⟩
  have ecount:((List.range rs.length).countP λi=> !decide (j8 od (rs.toArray[i]!) r>=0))=rs.countP λy=>decide (j8 od y r<0):=by
   have:=Go.Lib.countP_range rs.toArray (λy=> !decide (j8 od y r>=0));rw[List.size_toArray]at this;rw[this];refine List.countP_congr λy _=>?_;simp
  rw[ecount];refine⟨_,_,m,h,rfl,hK,rfl,⟨rfl,rfl,rfl,Nat.le_add_right _ _,?_,λb hb _=>Ft hb,λb o v hv'=>?_,λb o hb=>?_,hp.disj,λ_ _ _ e=>e,λ_ _ _=>rfl,λb o hb=>.inr (.inl (by rw[show m b=some o from hb];simp))⟩,λb hb=>by cases hb⟩
  .show w.heap.size<=((w.drewN q).heap++os).size;rw[Array.size_append];exact Nat.le_add_right _ _
  .have h1:=hp.hsat b o v hv';rw[World.cell?_of_block (w:=w) (a:=⟨b,o,none⟩) (Ft (World.block_lt_of_cell? w ⟨b,o,none⟩ h1))];exact h1
  .have h1:=hp.msat b o hb;rw[Ft (Array.getElem?_eq_some_iff.1 h1).1];exact h1
 .have hpa:=of_decide_eq_true hpa;refine decide_eq_true ?_;rcases Nat.lt_or_eq_of_le hab with hlt|rfl
  .have ha:a<rs.length:=by omega
   rw[getElem!_pos _ a (by simpa using ha)]at hpa;rw[getElem!_pos _ b (by simpa using hb)];simp only[List.getElem_toArray]at hpa⊢
   have hwa:=hw _ (List.getElem_mem ha);have hwb:=hw _ (List.getElem_mem hb);have h5:=(List.pairwise_iff_getElem.1 hso) a b ha hb hlt;have h6:=Aq (od:=od) hwa hwb;have h7:=Aq (od:=od) hwa hrw;have h8:=Aq (od:=od) hwb hrw;rw[zB hwa hwb]at h6;have:=(FN wd od).trans r rs[a] rs[b] (by rw[<-zB hrw hwa];omega) aC;rw[<-zB hrw hwb]at this;omega
  .exact hpa
theorem tL.get2{y:Nat}{l:List (List VV)}{kk:List (ByteArray×Sl)}{G:ByteArray->List (List VV)}{key:ByteArray}{K0:Prop}{K:Sl->Prop}(g:tL m h y gr od l kk G)(h0:BN kk key ⟨none,0,0⟩->K0)(hK:∀s,BN kk key s->K s):
 ∃(kvs:List (Value×Sl))(Ok:Value->Prop),zJ m y (kvs.map λp=>(p.1,dT p.2))/\KeyLaw Tryz.prog 9 Ok/\Ok (.string key)/\(∀e,List.Mem e kvs->Ok e.1)/\((∀e,List.Mem e kvs->e.1=Value.string key->False)->K0)/\∀t,List.Mem (Value.string key,t) kvs->K t:=by
 obtain⟨es,c,h1,h2,_,_⟩:=g.map_;refine⟨kk.map λp=>(.string p.1,p.2),_,⟨es,c,h1,by rw[h2];simp⟩,AE,⟨key,rfl⟩,λe he=>?_,λhn=>h0 (.inl ⟨rfl,λh=>?_⟩),λt ht=>hK t (.inr ?_)⟩
 .obtain⟨k,_,rfl⟩:=List.mem_map.1 (show e∈_ from he);exact⟨k.1,rfl⟩
 .obtain⟨p,hp,e⟩:=List.mem_map.1 h;subst e;exact hn (.string p.1,p.2) (List.mem_map_of_mem (f:=λp:ByteArray×Sl=>(Value.string p.1,p.2)) hp) rfl
 .obtain⟨p,hp,e⟩:=List.mem_map.1 (show(Value.string key,t)∈_ from ht);simp only[Prod.mk.injEq,Value.string.injEq]at e;obtain⟨e1,e2⟩:=e;subst e1 e2;exact hp
theorem tL.keep{y:Nat}{l:List (List VV)}{kk:List (ByteArray×Sl)}{G:ByteArray->List (List VV)}(g:tL m h y gr od l kk G)(hk:∀o,m y=some o->m' y=some o)(le:PH.le h h'):tL m' h' y gr od l kk G:=by
 obtain⟨es,c,h1,h2,h3,h4⟩:=g.map_;exact⟨⟨es,c,hk _ h1,h2,h3,h4⟩,g.nodup,λp hp=>bU.mono (g.rows p hp) le (λr t hv=>cF.mono hv le),g.none_,g.perm,g.sort⟩
theorem tL.at_{y:Nat}{l:List (List VV)}{kk:List (ByteArray×Sl)}{G:ByteArray->List (List VV)}{key:ByteArray}{s:Sl}(g:tL m h y gr od l kk G)(hs:BN kk key s):Rows h s (G key):=by
 rcases hs with⟨rfl,hn⟩|hp
 .rw[g.none_ key hn];exact(eB.nil h).rows (aX.nil _ _) (by simp)
 .exact g.rows _ hp
structure YB(m5:MH)(hh:PH)(bq b9 b2:Nat)(e:Sl)(us2:List Sl)(Gk:List (List VV))(c:Nat×Nat×Nat×Nat×MH×PH):Prop where
 q:c.1=bq
 o:c.2.1=b9
 b:c.2.2.1=b2
 h:c.2.2.2.2.2=hh
 sub:Av m5 c.2.2.2.2.1 b9
 out:mA m5 c.2.2.2.2.1 b9 us2
 e_:c.2.2.2.2.1 b2=some (.cells #[dT e] 74 (0,0))
 g_:∃s,c.2.2.2.2.1 c.2.2.2.1=some (.cells #[dT s] 53 (0,0))/\Rows hh s Gk
def EH(q:Query)(ls:List (List (List VV))):List (List VV):=match q with|.mk _ _ _ _ _ gr od li _=>Bt gr od li (ls.getD 0 []) (ls.getD 1 [])
def B5(q:Query)(ls:List (List (List VV))):Prop:=match q with|.mk _ _ _ _ _ gr _ _ _=>2<=ls.length/\∃w,iH w (ls.getD 0 [])/\iH w (ls.getD 1 [])/\gH w gr
theorem Rb:Sound Tryz.prog 156 (NO B5 EH):=by
 refine DS Tryz.func156 ?_;rintro cvs m h K ⟨v,t,q,bs,ls,rfl,hq,ha,hT,hok,hK⟩;refine⟨VU,rfl,aD JR (aD Bu (aD Q2 aF)),GK v t m h (cY h K),by kernel_rfl,?_⟩;show GK v t m h (cY h K);dsimp only[GK,push_cast];obtain⟨op,ta,w,co,on,gr,od,li,args⟩:=q;obtain⟨hl2,wd,hrel,hrel',hcols⟩:=hok;intro b m1 hb1 hu1;obtain⟨s1,n1⟩:=gJ (Sub.refl m) hb1 hu1;have m1b:m1 b=some (.cells ⟨v.enc⟩ 38 (0,0)):=hu1.at_;obtain⟨b1,off,x,ea,hlt,rd,sq⟩:=ha.get (BO (i:=1) aC);obtain⟨b6,off6,x6,ea6,hlt6,rd6,sq6⟩:=ha.get (BO (i:=0) aC);simp only[EH]at hK;generalize ls.getD 1 []=l' at hK hrel' sq;generalize ls.getD 0 []=l at hK hrel sq6;have hll:=hrel.len;have hg_:=hq.parts.group_;have ho_:=hq.parts.order_
 refine⟨λz=>z.1=t/\z.2.1=b/\PH.le h z.2.2.2.2/\Sub m z.2.2.2.1/\z.2.2.2.1 b=some (.cells ⟨v.enc⟩ 38 (0,0))/\∃y kk G,z.2.2.2.1 z.2.2.1=some (.cells #[.map (some y)] 207 (0,0))/\tL z.2.2.2.1 z.2.2.2.2 y gr od l' kk G,
  ⟨v,.of_m m1b (List.take_length ..),b1,off,ea,aC,aC,x,.imm rd,⟨v,x,gr,od,l',wd,rfl,hg_,ho_,sq,hrel',hcols,hT.sub s1,λy m2 h2 kk G hy hoth le2 hG=>?_⟩,.of_m m1b (List.take_length ..),.imm rd,λbc m2 hb2 hu2=>?_⟩,?_⟩
 .have yb:b≠y:=λe=>by rw[<-e,m1b]at hy;cases hy
  have m2b:m2 b=some (.cells ⟨v.enc⟩ 38 (0,0)):=by rw[hoth b yb];exact m1b
  have s2:Sub m m2:=λz o e=>by rw[hoth z (λe2=>by have:=s1 z o e;rw[e2,hy]at this;cases this)];exact s1 z o e
  refine⟨.of_m m2b (List.take_length ..),.imm (rd.mono le2),λbc m3 hb3 hu3=>⟨_,_,⟨hu3.at_⟩,by simp,λm4 hu4=>⟨(t,b,bc,m4,h2),⟨rfl,rfl,le2,?_,?_,y,kk,G,hu4.at_,?_⟩,MT⟩⟩⟩
  .obtain⟨s3,n3⟩:=gJ s2 hb3 hu3;exact s3.upd n3 hu4.other
  .have:b≠bc:=λe=>by have:=hb3.m_;rw[<-e,m2b]at this;cases this
   show m4 b=_;rw[hu4.other b this,hu3.other b this];exact m2b
  .refine hG.keep (λo e=>?_) (.refl _);have:y≠bc:=λe2=>by rw[e2,hb3.m_]at e;cases e
   show m4 y=_;rw[hu4.other y this,hu3.other y this];exact e
 .obtain⟨s2,n2⟩:=gJ s1 hb2 hu2;have bbc:b≠bc:=λe=>by have:=hb2.m_;rw[<-e,m1b]at this;cases this
  have m2b:m2 b=some (.cells ⟨v.enc⟩ 38 (0,0)):=by rw[hu2.other b bbc];exact m1b
  refine⟨v,x,gr,od,l',wd,rfl,hg_,ho_,sq,hrel',hcols,hT.sub s2,λy m3 h2 kk G hy hoth le2 hG=>?_⟩;have yb:b≠y:=λe=>by rw[<-e,m2b]at hy;cases hy
  have yc:bc≠y:=λe=>by rw[<-e,hu2.at_]at hy;cases hy
  have s3:Sub m m3:=λz o e=>by rw[hoth z (λe2=>by have:=s2 z o e;rw[e2,hy]at this;cases this)];exact s2 z o e
  refine⟨#[.map none],207,⟨by rw[hoth bc yc];exact hu2.at_⟩,by simp,λm4 hu4=>⟨(t,b,bc,m4,h2),⟨rfl,rfl,le2,s3.upd n2 hu4.other,?_,y,kk,G,hu4.at_,?_⟩,MT⟩⟩
  .show m4 b=_;rw[hu4.other b bbc,hoth b yb];exact m2b
  .refine hG.keep (λo e=>?_) (.refl _);show m4 y=_;rw[hu4.other y (Ne.symm yc)];exact e
 .rintro⟨t',b',bc,m4,hh⟩ ⟨e1,e2,leh,s4,m4b,y,kk,G,m4c,hG⟩;dsimp only at e1 e2 leh s4 m4b m4c hG⊢
  subst e1 e2;intro b9 m5 hb5 hu5;obtain⟨s5,n9⟩:=gJ s4 hb5 hu5
  have up5:∀{z o},m4 z=some o->m5 z=some o/\z≠b9:=fun{z o} e2=>by
   have:z≠b9:=λe3=>by rw[e3,hb5.m_]at e2;cases e2
   exact⟨by rw[hu5.other z this];exact e2,this⟩
  obtain⟨us,hseq,hru⟩:=(sq6.mono leh).ex;have hul:=hru.len;refine⟨b6,off6,ea6,aC,aC,x6,.imm (rd6.mono leh),tK,us,λk my hy=>hy=hh/\Av m5 my b9/\∃us2,mA m5 my b9 us2/\us2.length<=k/\eB hh us2 (Bt gr od li (l.take k) l'),sG,⟨x6,us,rfl,hseq,rfl⟩,⟨rfl,λz o e _=>e,[],mA.new hu5.at_,by simp,by simpa[Bt]using eB.nil hh⟩,?_,?_⟩
  .rintro k e my hy hk-⟨rfl,hs7,us2,hout,hlen2,hr2⟩ b2 m6 hb6 hu6;obtain⟨r,hr,hv⟩:=hru.at' hk;have hkl:=(List.getElem?_eq_some_iff.1 hk).1;have hrl:=List.mem_of_getElem? hr;have hrw:=hrel.wid r hrl;have hcr:gH r.length gr:=by rw[hrw];exact hcols
   refine⟨_,_,⟨hu6.at_⟩,by simp,λm7 hu7=>?_⟩
   have up7:∀{z o},my z=some o->m7 z=some o/\z≠b2:=fun{z o} e2=>by
    have:z≠b2:=λe3=>by rw[e3,hb6.m_]at e2;cases e2
    exact⟨by rw[hu7.other z this,hu6.other z this];exact e2,this⟩
   have up:∀{z o},m4 z=some o->m7 z=some o:=fun{z o} e2=>(up7 (hs7 z o (up5 e2).1 (up5 e2).2)).1;have s7:Av m5 m7 b9:=λz o e2 hne=>(up7 (hs7 z o e2 hne)).1
   have out_keep:∀{ma mb:MH},mA m5 ma b9 us2->(∀z o,ma z=some o->mb z=some o)->mA m5 mb b9 us2:=fun{ma mb} ho hk=>by
    obtain⟨s,h1,h2,h3⟩:=ho.ex;refine⟨s,hk _ _ h1,dC.keep h2 λz i e3=>?_,h3⟩;obtain⟨cur,h4⟩:=h2.blk e3;rw[h4];exact hk _ _ h4
   have o7:mA m5 m7 b9 us2:=out_keep hout λz o e2=>(up7 e2).1;have m7e:m7 b2=some (.cells #[dT e] 74 (0,0)):=hu7.at_;have g7:=hG.keep (λo e2=>up e2) (.refl _);have rc:aL m7 hy bc 0 [Value.map (some y)]:=.of_m (up m4c) rfl;have re:aL m7 hy b2 0 [dT e]:=.of_m m7e rfl;have rg:aL m7 hy b' 17 [dT v.group]:=.of_m (up m4b) rfl;have hgh:Ints hy v.group gr:=hg_.mono leh;have T7:jZ m7:=hT.sub λz o e2=>up (s4 z o e2)
   have fin:∀s,BN kk (cM (pick r gr)) s->∀b3 m8,cC m7 hy b3->jJ m7 m8 b3 (.cells #[u0] 53 (0,0))->∃(cs:Array Value)(E:TypeId),uO m8 b3 (.cells cs E (0,0))/\0<cs.size/\∀m9,jJ m8 m9 b3 (.cells (Array.mk (dT s::cs.toList.drop 1)) E (0,0))->
    ∃c:Nat×Nat×Nat×Nat×MH×PH,YB m5 hy b' b9 b2 e us2 (G (cM (pick r gr))) c/\Ve b' 0=Ve c.1 0/\Ve b9 0=Ve c.2.1 0/\Ve b2 0=Ve c.2.2.1 0/\Ve b3 0=Ve c.2.2.2.1 0/\m9=c.2.2.2.2.1/\hy=c.2.2.2.2.2/\True:=λs hs b3 m8 hb8 hu8=>by
    refine⟨_,_,⟨hu8.at_⟩,by simp,λm9 hu9=>⟨(b',b9,b2,b3,m9,hy),?_,MT⟩⟩
    have up9:∀z o,m7 z=some o->m9 z=some o:=λz o e2=>by
     have:z≠b3:=λe3=>by rw[e3,hb8.m_]at e2;cases e2
     rw[hu9.other z this,hu8.other z this];exact e2
    exact⟨rfl,rfl,rfl,rfl,λz o e2 hne=>up9 z o (s7 z o e2 hne),out_keep o7 up9,up9 _ _ m7e,s,hu9.at_,hG.at_ hs⟩
   have up8:∀{b3 m8},cC m7 hy b3->jJ m7 m8 b3 (.cells #[u0] 53 (0,0))->∀z o,m7 z=some o->m8 z=some o:=fun{b3 m8} hb8 hu8 z o e2=>by
    have:z≠b3:=λe3=>by rw[e3,hb8.m_]at e2;cases e2
    rw[hu8.other z this];exact e2
   refine⟨YB m5 hy b' b9 b2 e us2 (G (cM (pick r gr))),⟨y,rc,e,re,v.group,rg,⟨rc,e,v.group,r,gr,rfl,hv,hgh,hrel.row r hrl,hcr,T7,rc,⟨re,rg,g7.get2 (λhs=>⟨rc,re,rg,fin _ hs⟩) (λs hs=>⟨rc,re,rg,fin _ hs⟩)⟩,rc,re,rg,λb3 m8 hb8 hu8=>?_⟩,rc,re,rg,λb3 m8 hb8 hu8=>?_⟩,?_⟩
   .have u8:=up8 hb8 hu8;exact⟨.of_m (u8 _ _ m7e) rfl,.of_m (u8 _ _ (up m4b)) rfl,(g7.keep (u8 y) (.refl _)).get2 (λhs=>fin _ hs b3 m8 hb8 hu8) (λs hs=>fin _ hs b3 m8 hb8 hu8)⟩
   .have u8:=up8 hb8 hu8;have rc8:aL m8 hy bc 0 [Value.map (some y)]:=.of_m (u8 _ _ (up m4c)) rfl;exact⟨rc8,e,v.group,r,gr,rfl,hv,hgh,hrel.row r hrl,hcr,T7.sub u8,rc8,.of_m (u8 _ _ m7e) rfl,.of_m (u8 _ _ (up m4b)) rfl,(g7.keep (u8 y) (.refl _)).get2 (λhs=>fin _ hs b3 m8 hb8 hu8) (λs hs=>fin _ hs b3 m8 hb8 hu8)⟩
   .rintro⟨c1,c2,c3,b3,mz,hz⟩ ⟨e1,e2,e3,e4,hsz,hoz,mze,s,mzg,hrows⟩;dsimp only at e1 e2 e3 e4 hsz hoz mze mzg⊢
    subst e1 e2 e3 e4;have upz:∀{z o},m4 z=some o->mz z=some o:=fun{z o} e2=>hsz z o (up5 e2).1 (up5 e2).2;have hcount:=Hw (od:=od) hrel' hcols (hrel.row r hrl) hrw;rw[<-(hG.perm _).countP_eq]at hcount;refine⟨s,.of_m mzg rfl,s.len,c1,b3,c3,v,od,s,e,G (cM (pick r gr)),r,wd,rfl,upz m4b,mzg,mze,ho_.mono leh,hrows,hv,hrows.slen.symm,hG.sort _,λz hz2=>?_,hrw,v.limit,.of_m (upz m4b) rfl,?_⟩
    .have:=(hG.perm _).mem_iff.1 (show z∈_ from hz2);exact hrel'.wid z (List.mem_filter.1 this).1
    .rw[hcount];have hlim:v.limit=li:=hq.parts.limit_;rw[hlim];refine aE (λh1=>?_) (λh1=>?_)
     .obtain⟨so,hbo,hrowo,hfro⟩:=hoz.ex;refine⟨so,.of_m hbo rfl,e,.of_m mze rfl,EK ⟨_,hu5.at_⟩ hsz hbo hrowo hfro aC λm' hs' ho'=>⟨rfl,hs',us2++[e],ho',by simp;omega,?_⟩⟩;rw[Bt,iX _ hr,if_pos (decide_eq_true h1)];exact hr2.snoc hv
     .refine⟨rfl,hsz,us2,hoz,aC,?_⟩;rw[Bt,iX _ hr,if_neg (by simpa using h1),List.append_nil];exact hr2
  .rintro my hy-⟨rfl,hs7,us2,hout,hlen2,hr2⟩
   rw[hul,List.take_length]at hr2;obtain⟨s,hb,hrow,hfr⟩:=hout.ex;refine⟨s,.of_m hb rfl,cY.row (s5.x n9 hs7) leh hrow (λj z e=>?_) (λh' le hri=>hK s h' (leh.trans le) ((hr2.mono le).rows hri (by have:=hr2.len;omega)))⟩;cases e2:m z with
   |none=>rfl
   |some o=>have e1:=hfr j z e;rw[s5 z o e2]at e1;cases e1
def Y0(op:Int)(q:Query)(ls:List (List (List VV))):List (List VV):=
 if op=2 then Fv q ls else if op=3 then Oj q ls else if op=4 then OD q ls else if op=5 then N8 q ls else if op=6 then Mv q ls else if op=7 then MX q ls else if op=8 then M6 q ls else if op=9 then Oh q ls else EH q ls
def Y1(op:Int)(q:Query)(ls:List (List (List VV))):Prop:=
 if op=2 then DN 1 q ls else if op=3 then Jg q ls else if op=4 then Jh q ls else if op=5 then Je q ls else if op=6 then DN 2 q ls else if op=7 then zM q ls else if op=8 then zM q ls else if op=9 then Jf q ls else B5 q ls
mutual
def i6(ls:List (List (List VV))):Query->Nat->List (List VV)×Nat
 |.mk op ta w co on gr od li args,k=>if op=1 then(ls.getD k [],k+1)else(Y0 op (.mk op ta w co on gr od li args) (eK ls args k).1,(eK ls args k).2)
def eK(ls:List (List (List VV))):List Query->Nat->List (List (List VV))×Nat
 |[],k=>([],k)
 |q::qs,k=>((i6 ls q k).1::(eK ls qs (i6 ls q k).2).1,(eK ls qs (i6 ls q k).2).2)
end
mutual
def TO(ls:List (List (List VV))):Query->Nat->Prop
 |.mk op ta w co on gr od li args,k=>if op=1 then k<ls.length else Y1 op (.mk op ta w co on gr od li args) (eK ls args k).1/\Ov ls args k
def Ov(ls:List (List (List VV))):List Query->Nat->Prop
 |[],_=>True
 |q::qs,k=>TO ls q k/\Ov ls qs (i6 ls q k).2
end
def YC:Vc.Spec:=λcvs m h K=>∃op,cvs=[cI op]/\(op=2->K (.val (.agg #[.func (.func 148) #[] #[]])) m h)/\(op=3->K (.val (.agg #[.func (.func 149) #[] #[]])) m h)/\(op=4->K (.val (.agg #[.func (.func 150) #[] #[]])) m h)/\(op=5->K (.val (.agg #[.func (.func 151) #[] #[]])) m h)/\(op=6->K (.val (.agg #[.func (.func 152) #[] #[]])) m h)/\
 (op=7->K (.val (.agg #[.func (.func 153) #[] #[]])) m h)/\(op=8->K (.val (.agg #[.func (.func 154) #[] #[]])) m h)/\(op=9->K (.val (.agg #[.func (.func 155) #[] #[]])) m h)/\((op≠2/\op≠3/\op≠4/\op≠5/\op≠6/\op≠7/\op≠8/\op≠9)->K (.val (.agg #[.func (.func 156) #[] #[]])) m h)
def Leaves(h:PH)(s:Sl)(ls:List (List (List VV))):Prop:=bU h 1 eS (λl t=>Rows h t l) s ls
def NJ(N:Nat):Vc.Spec:=λcvs m h K=>∃be v q lv ls k,cvs=[cP be,aQ v]/\cN h q v/\SizeOf.sizeOf q<N/\be≠1/\m be=some (.cells #[Sl.val lv,.int .i64 (k:Nat)] 128 (0,0))/\Leaves h lv ls/\jZ m/\TO ls q k/\
 ∀s' m' h',PH.le h h'->Rows h' s' (i6 ls q k).1->jJ m m' be (.cells #[Sl.val lv,.int .i64 ((i6 ls q k).2:Nat)] 128 (0,0))->K (cS s') m' h'
noncomputable def Xv(N:Nat)(be:Nat)(v:QV):Ctx:=uW [(86,NJ N),(117,Mg),(118,YC),(148,NO (DN 1) Fv),(149,NO Jg Oj),(150,NO Jh OD),(151,NO Je N8),(152,NO (DN 2) Mv),(153,NO zM MX),(154,NO zM M6),(155,NO Jf Oh),(156,NO B5 EH)]
 [(7,{A:=Nat×List Value×MH×PH,st:=λ⟨i,l,m,h⟩=>cD 57 59 [(0,pv be),(3,.at (.ptr 3 0)),(6,.at (.lst 33)),(35,sv v.args),(36,iv v.args.len),(37,iv i)] [(3,.cells 38 (v.enc.map .val)),(33,.lst 158 1 (l.map λx=>[x]))] m h})] [] [] [] [] false
abbrev uE(a:CV->MH->PH->Prop)(b:Nat)(c:MH)(d:PH):Prop:=a (CV.val (Value.agg (Array.mk (iO (kM b))))) c d
attribute [push_cast] uE
def UI(op:Int)(m:MH)(h:PH)(K:CV->MH->PH->Prop):Prop:=
  cT (op==2) (uE K 148 m h) (op==3) (uE K 149 m h) (cT (op==4) (uE K 150 m h) (op==5) (uE K 151 m h) (cT (op==6) (uE K 152 m h) (op==7) (uE K 153 m h) (cT (op==8) (uE K 154 m h) (op==9) (uE K 155 m h) (uE K 156 m h))))
noncomputable abbrev C6(a:Nat×List Value×MH×PH):List (List Value):=List.map (fun(x:Value)=>iO x) a.2.1
noncomputable abbrev rD(a:Nat×List Value×MH×PH):Nat->Option Obj:=a.2.2.1
abbrev Gh(a:Sl->(List (List (List VV)))->Prop):Prop:=∃(x:Sl)(x1:List (List (List VV))),a x x1
abbrev uG(a:Prop)(b:Nat×List Value×MH×PH)(c:Sl->PH->QV->Sl->Query->(List Nat)->(List (List (List VV)))->Prop):Prop:=a->bZ (λx x1=>bE b.2.2.2 x1 (aX x1 x 1 (List.map (fun(x2:Value)=>iO x2) b.2.1)) (∃(x2:QV)(x3:Sl)(x4:Query),MV (λx5 x6=>c x x1 x2 x3 x4 x5 x6)))
abbrev uF(a:QV)(b:Sl)(c:QV)(d:Sl)(e:PH)(g:Query)(i:List Nat)(j:List (List (List VV)))(k:Nat×List Value×MH×PH)(l n:Prop):Prop:=aA (bK (bW a) (dN b)=bK (bW c) (dN d)) (cN e g c) (aA (CI e d i j) (jZ (rD k)) (l/\n))
attribute [push_cast] C6 rD Gh uG uF
def OY(N:Nat)(be:Nat)(v:QV)(m:MH)(h:PH)(K:CV->MH->PH->Prop):Prop:=
  dH v.op 1 (iC m h be 0 (λy=>∃(y1:Int),aL m h be 1 (cL y1)/\aR (λb o=>aA (aT y.a b o) (0<=y1) (y1<aG y/\∃(y2:Sl),aL m h b (fQ o y1 1) (aU y2)/\tT m h be 1 (λy3=>oJ m be 1 (cL (dX (y3+1))) (λm1=>K (dN y2) m1 h)))))) (aA (cA (aG v.args)) (aG v.args<=aG v.args) (aA (qE (aG v.args*8)) (qE (aG v.args)) (∃(I:Nat×List Value×MH×PH->Prop)(m1:Nat×List Value×MH×PH->Nat),(∃(x:Nat×List Value×MH×PH),aA (I x) (cV be) (aA (eP 3) (eL 33) (aA (aI v.args) (bL v.args) (aA (bD x.1) (fB v) (aA (Option.some (Own.lst 158 1 (List.replicate (aG v.args).toNat Ir))=Option.some (Own.lst 158 1 (C6 x))) (cH m x.2.2) (eJ h x.2.2/\True))))))/\∀(x:Nat×List Value×MH×PH),I x->aZ (↑x.1:Int) (aG
 v.args) (aR (λb o=>aA (aT v.args.a b o) (0<=(↑x.1:Int)) ((↑x.1:Int)<aG v.args/\∃(y:QV),aL (rD x) x.2.2.2 b (bA o x.1 21) y.enc/\∃(b1:Nat),qF (λv1 q=>Gh (λl l1=>∃(k:Nat),aA (bK (iL be) (bW y)=bK (iL b1) (bW v1)) (cN x.2.2.2 q v1) (aA (p9 q N) (jO (b1=1)) (aA (x.2.2.1 b1=Option.some (eR (Array.mk (gL (dT l) (dO (↑k:Int)))) 128 0)) (Leaves x.2.2.2 l l1) (aA (jZ (rD x)) (TO l1 q k) (∀(s:Sl),eT (λm2 h1=>bE x.2.2.2 h1 (Rows h1 s (i6 l1 q k).1) (bI (rD x) m2 b1 (gL (dT l) (dO (↑(i6 l1 q k).2:Int))) 128->∃(s1:Sl),gE (fX s=fX s1) (λb2=>∀(h2:PH),bE h1 h2 (aY h2 b2 0 (aU s1)) (aA (cA (↑x.1:Int)) ((↑x.1:Int)<kL (C6 x)) (∃(e:List Value),aA (uK (C6 x) (rA x.1)
 e) (0<e.length) (∃(x1:Nat×List Value×MH×PH),aA (I x1) (m1 x1<m1 x) (aA (cV be) (eP 3) (aA (eL 33) (aI v.args) (aA (bL v.args) (fN (bG x.1 1)=bV x1.1) (aA (fB v) (Option.some (Own.lst 158 1 (List.set (C6 x) (rA x.1) (xK b2 0::List.drop 1 e)))=Option.some (Own.lst 158 1 (C6 x1))) (aA (cH m2 x1.2.2) (eJ h2 x1.2.2) True)))))))))))))))))))) (∃(o:Int),aA (jW (eD v.op)=jW (eD o)) (uG (o=2) x (λs h1 v1 t q b l=>uF v s v1 t h1 q b l x (DN 1 q l) (lK h1 (Fv q l) K (rD x)))) (aA (uG (o=3) x (λs h1 v1 t q b l=>uF v s v1 t h1 q b l x (Jg q l) (lK h1 (Oj q l) K (rD x)))) (uG (o=4) x (λs h1 v1 t q b l=>uF v s v1 t h1 q b l x (Jh q l) (lK h1 (OD q l) K (rD x)))) (aA (uG (o=5) x (λs h1 v1 t q b l=>
 uF v s v1 t h1 q b l x (Je q l) (lK h1 (N8 q l) K (rD x)))) (uG (o=6) x (λs h1 v1 t q b l=>uF v s v1 t h1 q b l x (DN 2 q l) (lK h1 (Mv q l) K (rD x)))) (aA (uG (o=7) x (λs h1 v1 t q b l=>uF v s v1 t h1 q b l x (zM q l) (lK h1 (MX q l) K (rD x)))) (uG (o=8) x (λs h1 v1 t q b l=>uF v s v1 t h1 q b l x (zM q l) (lK h1 (M6 q l) K (rD x)))) (uG (o=9) x (λs h1 v1 t q b l=>uF v s v1 t h1 q b l x (Jf q l) (lK h1 (Oh q l) K (rD x)))/\uG (aA (jO (o=2)) (jO (o=3)) (aA (jO (o=4)) (jO (o=5)) (aA (jO (o=6)) (jO (o=7)) (jO (o=8)/\jO (o=9))))) x (λs h1 v1 t q b l=>uF v s v1 t h1 q b l x (B5 q l) (lK h1 (EH q l) K (rD x)))))))))))
theorem RG:Sound Tryz.prog 118 YC:=by
 refine iB Tryz.func118 ?_;rintro cvs m h K ⟨op,rfl,h2,h3,h4,h5,h6,h7,h8,h9,hK⟩;refine⟨dL [] [] [] [] false,rfl,aF,UI op m h K,by kernel_rfl,?_⟩;exact(aB (λe=>h2 (by simpa using e)) λe2=>aB (λe=>h3 (by simpa using e)) λe3=>aB (λe=>h4 (by simpa using e)) λe4=>aB (λe=>h5 (by simpa using e)) λe5=>aB (λe=>h6 (by simpa using e)) λe6=>aB (λe=>h7 (by simpa using e)) λe7=>aB (λe=>h8 (by simpa using e)) λe8=>aB (λe=>h9 (by simpa using e)) λe9=>hK ⟨by simpa using e2,by simpa using e3,by simpa using e4,by simpa using e5,by simpa using e6,by simpa using e7,by simpa using e8,by simpa using e9⟩)
theorem HB{ls:List (List (List VV))}{q:Query}:∀{a:List Query}{k:Nat},eK ls (a++[q]) k=((eK ls a k).1++[(i6 ls q (eK ls a k).2).1],(i6 ls q (eK ls a k).2).2)
 |[],k=>by simp[eK]
 |p::a,k=>by
  rw[List.cons_append,eK,HB];simp[eK]
theorem SC{ls:List (List (List VV))}{q:Query}{b:List Query}:∀{a:List Query}{k:Nat},Ov ls (a++q::b) k->TO ls q (eK ls a k).2
 |[],k,h=>by rw[List.nil_append,Ov]at h;simpa[eK]using h.1
 |p::a,k,h=>by
  rw[List.cons_append,Ov]at h;rw[eK];exact SC h.2
theorem Ej{ls:List (List (List VV))}:∀{a:List Query}{k:Nat},(eK ls a k).1.length=a.length
 |[],k=>by simp[eK]
 |p::a,k=>by rw[eK];simp[Ej]
theorem SP:∀N,Sound Tryz.prog 86 (NJ N)
 |0=>by
  refine eG (fn:=Tryz.f86) (c:=dJ Tryz.f86) Tryz.func86 rfl (by decide) ?_;rintro cvs m h K ⟨be,v,q,lv,ls,k,rfl,_,hN,_⟩;omega
 |N+1=>by
  refine iB Tryz.func86 ?_;rintro cvs m h K ⟨be,v,q,lv,ls,k,rfl,hq,hN,hb1,hbe,hlv,hT,hok,hK⟩;refine⟨Xv N be v,rfl,aD (SP N) (aD RH (aD RG (aD Rk (aD Rj (aD Ri (aD Rh (aD Rg (aD Rf (aD Re (aD Rc (aD Rb aF))))))))))),OY N be v m h K,by kernel_rfl,?_⟩;dsimp only[OY,push_cast];obtain⟨op,ta,w,co,on,gr,od,li,args⟩:=q;have xq:=hq.parts;rw[i6]at hK;rw[TO]at hok;have hvop:v.op=op:=xq.op_;refine aB (λe=>?_) (λe=>?_)
  .have e:op=1:=by rw[<-hvop];simpa using e
   rw[if_pos e]at hok;simp only[if_pos e]at hK;have hlen:=bU.slen hlv;obtain⟨b,o,s,ea,rd,hr⟩:=bU.at hlv (List.getElem?_eq_getElem hok);have r0:aL m h be 0 [dT lv]:=.of_m hbe rfl;have r1:aL m h be 1 [dO (k:Nat)]:=.of_m hbe rfl;have hl5:=hlv.len;refine⟨lv,r0,k,r1,b,o,ea,aC,aC,s,.imm rd,k,r1,_,_,⟨hbe⟩,by simp,λm' hu=>hK s m' h (.refl _) ?_ ?_⟩
   .rw[List.getD_eq_getElem?_getD,List.getElem?_eq_getElem hok];exact hr
   .have e5:IntKind.i64.wrap ((k:Int)+1)=((k+1:Nat):Int):=by rw[kE aC]
    rw[e5]at hu;exact hu
  .have e:op≠1:=by rw[<-hvop];simpa using e
   rw[if_neg e]at hok;simp only[if_neg e]at hK;obtain⟨hop,hoks⟩:=hok;have hargs:=xq.args_;have hal:=bU.slen hargs;have hal2:=bU.len hargs
   refine⟨aC,aC,aC,aC,λz=>z.1<=args.length/\PH.le h z.2.2.2/\jJ m z.2.2.1 be (.cells #[Sl.val lv,.int .i64 ((eK ls (args.take z.1) k).2:Nat)] 128 (0,0))/\∃bs:List Nat,bs.length=z.1/\z.2.1=bs.map Kz++List.replicate (args.length-z.1) .nilFunc/\∀j b l,bs[j]? =some b->(eK ls (args.take z.1) k).1[j]? =some l->KG z.2.2.2 b l,λz=>args.length-z.1,
    ⟨(0,List.replicate args.length .nilFunc,m,h),⟨by simp,.refl _,⟨by dsimp only;rw[List.take_zero,eK];exact hbe,λ_ _=>rfl⟩,[],rfl,by simp,λj b l h1 _=>by rw[List.getElem?_nil]at h1;cases h1⟩,?_⟩,?_⟩
   .rw[show((v.args.len:Int)).toNat=args.length by omega];dsimp only;rw[List.map_replicate];exact MT
   .rintro⟨i,l,zm,zh⟩ ⟨hi,lez,hu,bs,hbs,hl,hseq⟩;dsimp only at hi lez hu hbs hl hseq⊢
    have hTz:jZ zm:=by
     obtain⟨T,fz,e1⟩:=hT;exact⟨T,fz,by rw[hu.other 1 (Ne.symm hb1)];exact e1⟩
    refine aE (λhlt=>?_) (λhge=>?_)
    .obtain⟨p,hp⟩:=fD hal hlt;obtain⟨b,o,u,ea,hrd,hru⟩:=bU.at (zG.mono hargs lez) hp;have hpl:=(List.getElem?_eq_some_iff.1 hp).1
     have hsz:SizeOf.sizeOf p<N:=by
      have:=List.sizeOf_lt_of_mem (List.mem_of_getElem? hp);simp only[Query.mk.sizeOf_spec]at hN;omega
     have hsplit:args=args.take i++p::args.drop (i+1):=by
      have h5:args[i]=p:=(List.getElem?_eq_some_iff.1 hp).2;rw[<-h5,List.getElem_cons_drop hpl,List.take_append_drop]
     have hokp:TO ls p (eK ls (args.take i) k).2:=SC (b:=args.drop (i+1)) (by rw[<-hsplit];exact hoks)
     have hsn:eK ls (args.take (i+1)) k=((eK ls (args.take i) k).1++[(i6 ls p (eK ls (args.take i) k).2).1],(i6 ls p (eK ls (args.take i) k).2).2):=by
      rw[List.take_add_one,hp,Option.toList_some,HB]
     refine⟨b,o,ea,aC,aC,u,.imm hrd,be,u,p,lv,ls,(eK ls (args.take i) k).2,rfl,hru,hsz,hb1,hu.at_,bU.mono hlv lez (λl s hr=>bU.mono hr lez λr t hv=>cF.mono hv lez),hTz,hokp,λs' m' h' le' hr' hu'=>⟨s',rfl,λb2 h2 le2 hrd2=>?_⟩⟩;have hll:l.length=args.length:=by rw[hl,List.length_append,List.length_map,List.length_replicate];omega
     have hev:l[i]? =some .nilFunc:=by
      rw[hl,List.getElem?_append_right (by simp;omega),List.getElem?_replicate,if_pos (by simp;omega)]
     refine⟨aC,by simp;omega,[.nilFunc],by simp[hev],by simp,(i+1,l.set i (Kz b2),m',h2),⟨by dsimp only;omega,lez.trans (le'.trans le2),?_,bs++[b2],by simp[hbs],?_,?_⟩,by dsimp only;omega,?_⟩
     .dsimp only;rw[hsn];exact⟨hu'.at_,λb5 hb5=>by rw[hu'.other b5 hb5,hu.other b5 hb5]⟩
     .dsimp only;rw[hl,List.set_append,if_neg (by simp;omega),List.map_append,List.append_assoc];congr 1;rw[show args.length-i=(args.length-(i+1))+1 by omega,List.replicate_succ];simp[hbs]
     .dsimp only;rw[hsn];intro j b5 l5 h5 h6;have hel:(eK ls (args.take i) k).1.length=bs.length:=by rw[Ej,List.length_take];omega
      by_cases hj:j<bs.length
      .rw[List.getElem?_append_left hj]at h5;rw[List.getElem?_append_left aC]at h6;exact(hseq j b5 l5 h5 h6).mono (le'.trans le2)
      .rw[List.getElem?_append_right aC]at h5;rw[List.getElem?_append_right aC]at h6;have:j-bs.length=0:=by have:=(List.getElem?_eq_some_iff.1 h5).1;simp at this;omega
       rw[this]at h5;rw[hel,this]at h6;simp at h5 h6;subst h5 h6
       obtain⟨us,h7,h8⟩:=(show∃us,aX h' s' 1 (us.map eS)/\eB h' us _ from by
        obtain⟨us,h7,h8,h9⟩:=hr'.ex;exact⟨us,h7,h8.symm,h9⟩)
       exact⟨us,⟨s',hrd2,h7.mono le2,by have h9:=hr'.len;rw[h8.len];exact h9⟩,h8.mono le2⟩
     .dsimp only;rw[kE aC]
      have e9:((l.map λx=>[x]).set ((i:Int)).toNat (Kz b2::List.drop 1 [.nilFunc]))=(l.set i (Kz b2)).map λx=>[x]:=by
       rw[List.map_set];rfl
      exact⟨MT,rfl,rfl,rfl,rfl,rfl,rfl,by rw[<-e9];rfl,rfl,rfl,trivial⟩
    .have hi2:i=args.length:=by omega
     subst hi2;rw[List.take_length]at hu hseq;rw[Nat.sub_self,List.replicate_zero,List.append_nil]at hl
     have fin:∀{okF:Query->List (List (List VV))->Prop}{f:Query->List (List (List VV))->List (List VV)},okF (.mk op ta w co on gr od li args) (eK ls args k).1->Y0 op (.mk op ta w co on gr od li args) (eK ls args k).1=f (.mk op ta w co on gr od li args) (eK ls args k).1->∀(s:Sl)(h':PH),zh.le h'->aX h' s 1 (l.map λx=>[x])->
      ∃(v1:QV)(t:Sl)(q:Query)(bs:List Nat)(ls:List (List (List VV))),[aQ v,cS s]=[aQ v1,cS t]/\cN h' q v1/\CI h' t bs ls/\jZ zm/\okF q ls/\∀(s':Sl)(h'_1:PH),h'.le h'_1->Rows h'_1 s' (f q ls)->K (cS s') zm h'_1:=fun{okF f} h1 h2 s h' le' hri=>by
      refine⟨v,s,_,bs,_,rfl,hq.mono (lez.trans le'),⟨?_,by rw[Ej];exact hbs,λj b l5 h5 h6=>(hseq j b l5 h5 h6).mono le'⟩,hTz,h1,λs' h'' le'' hr=>hK s' zm h'' (lez.trans (le'.trans le'')) (by rw[h2];exact hr) hu⟩;rw[hl,List.map_map]at hri;exact hri
     have hop2:=hop;refine⟨op,by rw[hvop],λe2=>fin (okF:=DN 1) ?_ ?_,λe2=>fin (okF:=Jg) ?_ ?_,λe2=>fin (okF:=Jh) ?_ ?_,λe2=>fin (okF:=Je) ?_ ?_,λe2=>fin (okF:=DN 2) ?_ ?_,λe2=>fin (okF:=zM) ?_ ?_,λe2=>fin (okF:=zM) ?_ ?_,λe2=>fin (okF:=Jf) ?_ ?_,λe2=>fin (okF:=B5) ?_ ?_⟩
     all_goals first
      |(subst e2;exact hop)
      |(subst e2;rfl)
      |(obtain⟨h2,h3,h4,h5,h6,h7,h8,h9⟩:=e2;first|(rw[Y1,if_neg h2,if_neg h3,if_neg h4,if_neg h5,if_neg h6,if_neg h7,if_neg h8,if_neg h9]at hop;exact hop)|(rw[Y0,if_neg h2,if_neg h3,if_neg h4,if_neg h5,if_neg h6,if_neg h7,if_neg h8,if_neg h9]))
def Tx:Vc.Spec:=λcvs m h K=>∃s r,cvs=[cS s]/\cF h s r/\r.length<=1000/\∀s' h',PH.le h h'->cF h' s' r->K (cS s') m h'
def Tg:Vc.Spec:=λcvs m h K=>∃lv v ls q,cvs=[cS lv,aQ v]/\Leaves h lv ls/\cN h q v/\TO ls q 0/\jZ m/\(i6 ls q 0).1.length<=1000000/\(∀r∈(i6 ls q 0).1,r.length<=1000)/\∀s' h',PH.le h h'->Rows h' s' (i6 ls q 0).1->K (cS s') m h'
noncomputable def f58_ctx(N:Nat):Ctx:=uW [(86,NJ N),(87,Tx)] [(5,{A:=Nat×List Sl×Sl×MH×PH,st:=λ⟨i,us,s,m,h⟩=>cD 31 33 [(7,.at (.lst 16)),(17,sv s),(18,iv s.len),(19,iv i)] [(16,.lst 74 1 (us.map eS))] m h})] [] [] [200005] [] false
def OX(a:Addr)(n c:Nat)(m:MH)(h:PH)(K:CV->MH->PH->Prop):Prop:=
  ∃(y:List (List Value)),aA (dW 3 y) (aX h (Sl.mk (Option.some a) n c) 3 y) (aA (gM (A1 y*32)) (gM (A1 y)) (yG h 3 ([]++y) K m))
theorem Y6(a:Addr)(n c:Nat)(m:MH)(h:PH)(K:CV->MH->PH->Prop):OX a n c m h K=(Am (dL [] [] [] [] false) Tryz.f87 (dJ Tryz.f87) (entry Tryz.f87.ntmps [.val (.slice (some a) n c)] m h) K):=by kernel_rfl
def Lh(n c:Nat)(m:MH)(h:PH)(K:CV->MH->PH->Prop):Prop:=
  K Cz m h
theorem Xu(n c:Nat)(m:MH)(h:PH)(K:CV->MH->PH->Prop):Lh n c m h K=(Am (dL [] [] [] [] false) Tryz.f87 (dJ Tryz.f87) (entry Tryz.f87.ntmps [.val (.slice none n c)] m h) K):=by kernel_rfl
abbrev E5(a:List CV)(b:Nat->Nat->Option Value)(c:Sl->PH->Prop):Prop:=nE (λx x1=>aA (a=fX x) (cF b x x1) (mL x1.length/\bZ (λx2 x3=>bE b x3 (cF x3 x2 x1) (c x2 x3))))
attribute [push_cast] E5
def f58_nice(N:Nat)(lv:Sl)(v:QV)(m:MH)(h:PH)(K:CV->MH->PH->Prop):Prop:=
  ∀(b:Nat)(m1:MH),aM (cC m h b) (bI m m1 b (gL u0 bC) 128) (gK (λc E=>aA (uO m1 b (eR c E 0)) (2<=c.size) (∀(m2:MH),bI m1 m2 b (aJ (dT lv) bC (List.drop 2 c.toList)) E->∃(b1:Nat),qF (λv1 q=>Gh (λl l1=>∃(k:Nat),aA (bK (iL b) (bW v)=bK (iL b1) (bW v1)) (cN h q v1) (aA (p9 q N) (jO (b1=1)) (aA (m2 b1=Option.some (eR (Array.mk (gL (dT l) (dO (↑k:Int)))) 128 0)) (Leaves h l l1) (aA (jZ m2) (TO l1 q k) (∀(s:Sl),eT (λm3 h1=>bE h h1 (Rows h1 s (i6 l1 q k).1) (bI m2 m3 b1 (gL (dT l) (dO (↑(i6 l1 q k).2:Int))) 128->aA (cA (aG s)) (aG s<=aG s) (aA (qE (aG s*24)) (qE (aG s)) (Ig (λI x=>aA (I x) (eL 16) (aA (bF s (dP x)) (cK s (dP x)) (aA (bD x.1) (Option.some
 (Own.lst 74 1 (List.replicate (aG s).toNat iD))=Option.some (Own.lst 74 1 (jB x))) (aA (cH m3 x.2.2.2) (eJ h1 (wN x)) True)))) (λI m4 x=>I x->aZ (↑x.1:Int) (aG (dP x)) (aR (λb2 o=>aA (aT (dP x).a b2 o) (0<=(↑x.1:Int)) ((↑x.1:Int)<aG (dP x)/\∃(y:Sl),aL (mN x) (nW x) b2 (bA o x.1 1) (aU y)/\E5 (fX y) (nW x) (λs1 h2=>aA (cA (↑x.1:Int)) ((↑x.1:Int)<kL (jB x)) (∃(e:List Value),Ju (uK (jB x) (rA x.1) e) (0<e.length) (λx1=>aA (I x1) (m4 x1<m4 x) (aA (eL 16) (bF (dP x) (dP x1)) (aA (cK (dP x) (dP x1)) (fN (bG x.1 1)=bV x1.1) (aA (pP (List.set (jB x) (rA x.1) (dT s1::List.drop 1 e)) (jB x1)) (cH (mN x) x1.2.2.2) (j3 h2 (wN x1))))))))))) (bZ (fun
 s1 h2=>bE (nW x) h2 (aX h2 s1 1 (jB x)) (K (dN s1) (mN x) h2)))))))))))))))))
theorem Ua:Sound Tryz.prog 87 Tx:=by
 refine eG (fn:=Tryz.f87) (c:=dJ Tryz.f87) Tryz.func87 rfl (by decide) ?_;rintro cvs m h K ⟨⟨a,n,c⟩,r,rfl,hs,hl,hK⟩;refine⟨dL [] [] [] [] false,rfl,aF,?_⟩;cases a with
 |none=>
  show Am _ Tryz.f87 (dJ Tryz.f87) (entry Tryz.f87.ntmps [.val (.slice none n c)] m h) K;rw[<-Xu n c m h K];dsimp only[Lh,push_cast];refine hK ⟨none,0,0⟩ h (.refl _) ?_;cases r with
  |nil=>exact⟨⟨[],aX.nil _ _,rfl,λi x hx=>by simp at hx⟩,by simp⟩
  |cons x r=>
   obtain⟨b,o,v,e,_⟩:=bU.at hs (i:=0) (x:=x) rfl;cases e
 |some a=>
  show Am _ Tryz.f87 (dJ Tryz.f87) (entry Tryz.f87.ntmps [.val (.slice (some a) n c)] m h) K;rw[<-Y6 a n c m h K];dsimp only[OX,push_cast];obtain⟨⟨vs,h1,h2,h3⟩,h4⟩:=hs;refine⟨vs.map VV.enc,?_,h1,by rw[List.length_map];omega,by rw[List.length_map];omega,λs h' le hri=>hK s h' le ⟨⟨vs,by simpa using hri,h2,h3⟩,h4⟩⟩;constructor
  .intro e he;obtain⟨x,_,rfl⟩:=List.mem_map.1 he;rfl
  .intro e he u hu;obtain⟨x,_,rfl⟩:=List.mem_map.1 he;simp[VV.enc]at hu;rcases hu with rfl|rfl|rfl<;>rfl
theorem f58_sound:Sound Tryz.prog 58 Tg:=by
 refine Fu Tryz.func58 ?_;rintro cvs m h K ⟨lv,v,ls,q,rfl,hlv,hq,hok,hT,hl,hw,hK⟩;refine⟨f58_ctx (SizeOf.sizeOf q+1),rfl,aD (SP _) (aD Ua aF),f58_nice (SizeOf.sizeOf q+1) lv v m h (kD h K),by kernel_rfl,?_⟩;dsimp only[f58_nice,push_cast];intro b m1 hb1 hu1;obtain⟨s1,n1⟩:=gJ (Sub.refl m) hb1 hu1;refine⟨_,_,⟨hu1.at_⟩,by simp,λm2 hu2=>?_⟩;have s2:Sub m m2:=s1.upd n1 hu2.other
 have hb1':b≠1:=λe=>by
  obtain⟨T,fz,e1⟩:=hT;rw[<-e,n1]at e1;cases e1
 refine⟨b,v,q,lv,ls,0,rfl,hq,aC,hb1',hu2.at_,hlv,hT.sub s2,hok,λs m3 h3 le3 hr hu3=>?_⟩;have s3:Sub m m3:=s2.upd n1 hu3.other;generalize (i6 ls q 0).1=rs at hl hw hK hr;have hsl:=bU.slen hr;refine⟨aC,aC,aC,aC,λz=>z.1<=rs.length/\z.2.2.1=s/\z.2.2.2.1=m3/\PH.le h3 z.2.2.2.2/\∃us,z.2.1=us++List.replicate (rs.length-z.1) ⟨none,0,0⟩/\eB z.2.2.2.2 us (rs.take z.1),λz=>rs.length-z.1,⟨(0,List.replicate rs.length ⟨none,0,0⟩,s,m3,h3),⟨by simp,rfl,rfl,.refl _,[],by simp,by simpa using eB.nil h3⟩,?_⟩,?_⟩
 .rw[show((s.len:Int)).toNat=rs.length by omega];dsimp only;rw[List.map_replicate];exact MT
 .rintro⟨i,us',s',m',hz⟩ ⟨hi,e1,e2,le4,us,hus,hru⟩;dsimp only at hi e1 e2 le4 hus hru⊢
  subst e1 e2;have hul:=hru.len;rw[List.length_take]at hul;refine aE (λhlt=>?_) (λhge=>?_)
  .have hil:i<rs.length:=by omega
   obtain⟨b2,o,u,ea,rd,hv⟩:=bU.at hr (List.getElem?_eq_getElem hil);have hlen:us'.length=rs.length:=by rw[hus,List.length_append,List.length_replicate];omega
   have hev:us'[i]? =some ⟨none,0,0⟩:=by
    rw[hus,List.getElem?_append_right aC,List.getElem?_replicate,if_pos aC]
   refine⟨b2,o,ea,aC,aC,u,.imm ((rd.mono le4)),u,rs[i],rfl,cF.mono hv le4,hw _ (List.getElem_mem _),λsc h5 le5 hvc=>⟨aC,by rw[List.length_map];omega,[u0],by rw[List.getElem?_map,show((i:Int)).toNat=i from rfl,hev];rfl,by simp,(i+1,us'.set i sc,s',m',h5),⟨by dsimp only;omega,rfl,rfl,le4.trans le5,us++[sc],?_,?_⟩,by dsimp only;omega,?_⟩⟩
   .dsimp only;rw[hus,List.set_append,if_neg aC,List.append_assoc];congr 1;rw[show rs.length-i=(rs.length-(i+1))+1 by omega,List.replicate_succ,show i-us.length=0 by omega];rfl
   .dsimp only;rw[List.take_add_one,List.getElem?_eq_getElem hil];exact(hru.mono le5).snoc hvc
   .dsimp only
    have e9:((us'.map eS).set ((i:Int)).toNat (dT sc::List.drop 1 [u0]))=(us'.set i sc).map eS:=by
     rw[List.map_set];rfl
    exact⟨MT,rfl,rfl,by rw[kE aC],by rw[<-e9],rfl,rfl,trivial⟩
  .have:i=rs.length:=by omega
   subst this;rw[Nat.sub_self,List.replicate_zero,List.append_nil]at hus;subst hus;rw[List.take_length]at hru;intro s6 h6 le6 hri;exact⟨m,h6,s3,le3.trans (le4.trans le6),.refl _,hK s6 h6 (le3.trans (le4.trans le6)) ((hru.mono le6).rows hri aC)⟩
mutual
def qR(h:PH):Query->QV->Nat->List (Nat×QV)->Prop
 |.mk _ _ _ _ _ _ _ _ args,v,d,es=>∃vs ess,aX h v.args 21 (vs.map QV.enc)/\gY h args vs (d+1) ess/\es=(d,v)::ess
def gY(h:PH):List Query->List QV->Nat->List (Nat×QV)->Prop
 |[],vs,_,es=>vs=[]/\es=[]
 |q::qs,vs,d,es=>∃v vs' e1 e2,vs=v::vs'/\cN h q v/\qR h q v d e1/\gY h qs vs' d e2/\es=e1++e2
end
def Yh(e:Nat×QV):List Value:=[.int .i64 (e.1:Nat),.agg e.2.enc.toArray]
def Nw(N:Nat):Vc.Spec:=λcvs m h K=>∃(v:QV)(q:Query)(d l k0:Nat)(es xs:List (Nat×QV))(J:Nat->MH->PH->Prop),cvs=[aQ v,cI d,.val (.func (.yield l) #[] #[])]/\qR h q v d es/\SizeOf.sizeOf q<N/\d+sK q<=1000000/\(∀j e,es[j]? =some e->xs[k0+j]? =some e)/\J k0 m h/\
 (∀k e m' h',xs[k]? =some e->PH.le h h'->J k m' h'->Zf Tryz.prog l (Yh e) m' h' (λr m2 h2=>r=true/\PH.le h' h2/\J (k+1) m2 h2))/\
 ∀m' h',PH.le h h'->J (k0+es.length) m' h'->K (cB true) m' h'
noncomputable def UJ(N:Nat)(v:QV)(d l:Nat):Ctx:=
 {dL [(115,Nw N)] [(4,{A:=Nat×MH×PH,st:=λ⟨i,m,h⟩=>cD 28 31 [(1,iv d),(2,vv (.func (.yield l) #[] #[])),(15,sv v.args),(16,iv v.args.len),(17,iv i)] [] m h})] [] [] false with yield:=some (Wr Tryz.prog)}
def IG:PH->List Value->List (List Value)->Prop:=λh caps xs=>∃b v q es,caps=[.pointer (some ⟨b,0,none⟩)]/\aY h b 0 (QV.enc v)/\qR h q v 1 es/\sK q<=900000/\xs=es.map Yh
def Nv:Vc.Spec:=λcvs m h K=>∃v,cvs=[aQ v]/\∀b h',PH.le h h'->aY h' b 0 (QV.enc v)->K (.val (.func (.func 114) #[] #[.pointer (some ⟨b,0,none⟩)])) m h'
abbrev Jo(a:Nat->(Nat×QV)->Prop):Prop:=∀(x:Nat)(x1:Nat×QV),a x x1
abbrev Bn(a:List (Nat×QV))(b:Nat)(c:Nat×QV):Prop:=a[b]? =Option.some c
attribute [push_cast] Jo Bn
def J0(N:Nat)(v:QV)(d l:Nat)(m:MH)(h:PH)(K:CV->MH->PH->Prop):Prop:=
  Nu Proofs.Tryz.prog (Wr Proofs.Tryz.prog)/\∃(l1:Nat)(v1:List Value)(R:Bool->MH->PH->Prop),aA (wG l::bK (eD (↑d:Int)) (bW v)=wG l1::List.map CV.val v1) (Zf Proofs.Tryz.prog l1 v1 m h R) (∀(u:Bool),eT (λm1 h1=>fT (R u m1 h1) (!u) (K aW m1 h1) (∃(I:Nat×MH×PH->Prop)(m2:Nat×MH×PH->Nat),(∃(x:Nat×MH×PH),aA (I x) (eQ (bV d)) (aA (Ff l) (aI v.args) (aA (bL v.args) (bD x.1) (aA (cH m1 x.2) (eJ h1 x.2) True))))/\∀(x:Nat×MH×PH),I x->aZ (↑x.1:Int) (aG v.args) (aR (λb o=>aA (aT v.args.a b o) (0<=(↑x.1:Int)) ((↑x.1:Int)<aG v.args/\∃(y:QV),aL (dD x) (cR x) b (bA o x.1 21) y.enc/\qF (λv2 q=>aR (λd1 l2=>∃(k:Nat)(e x1:List (Nat×QV))(J:Nat->MH->PH->Prop),aA (bW y::bK (eD (bG
 d 1)) (wG l)=bW v2::bK (eD (↑d1:Int)) (wG l2)) (qR (cR x) q v2 d1 e) (aA (p9 q N) (d1+sK q<=1000000) (aA (Jo (λj e1=>Bn e j e1->Bn x1 (k+j) e1)) (J k (dD x) (cR x)) (Jo (λk1 e1=>eT (λm3 h2=>aM (Bn x1 k1 e1) (PH.le (cR x) h2) (J k1 m3 h2->Zf Proofs.Tryz.prog l2 (gL (dO (↑e1.1:Int)) (Value.agg (Array.mk e1.2.enc))) m3 h2 (fun(r:Bool)=>fun(m4:MH)=>fun(h3:PH)=>aA (dV r) (PH.le h2 h3) (J (k1+1) m4 h3)))))/\eT (λm3 h2=>bE (cR x) h2 (J (k+e.length) m3 h2) (∃(x2:Nat×MH×PH),aA (I x2) (m2 x2<m2 x) (aA (eQ (bV d)) (Ff l) (aA (aI v.args) (bL v.args) (aA (fN (bG x.1 1)=bV x2.1) (cH m3 x2.2) (j3 h2 x2.2)))))))))))))) (K fJ (dD x) (cR x)))))
def RJ(N:Nat)(l bq:Nat)(m:MH)(h:PH)(K:CV->MH->PH->Prop):Prop:=
  ∃(y:QV),aL m h bq 0 y.enc/\qF (λv q=>aR (λd l1=>∃(k:Nat)(e x:List (Nat×QV))(J:Nat->MH->PH->Prop),aA (bW y::bK (eD 1) (wG l)=bW v::bK (eD (↑d:Int)) (wG l1)) (qR h q v d e) (aA (p9 q N) (d+sK q<=1000000) (aA (Jo (λj e1=>Bn e j e1->Bn x (k+j) e1)) (J k m h) (Jo (λk1 e1=>eT (λm1 h1=>aM (Bn x k1 e1) (PH.le h h1) (J k1 m1 h1->Zf Proofs.Tryz.prog l1 (gL (dO (↑e1.1:Int)) (Value.agg (Array.mk e1.2.enc))) m1 h1 (fun(r:Bool)=>fun(m2:MH)=>fun(h2:PH)=>aA (dV r) (PH.le h1 h2) (J (k1+1) m2 h2)))))/\eT (λm1 h1=>bE h h1 (J (k+e.length) m1 h1) (K (CV.tup []) m1 h1)))))))
def f57_nice(v:QV)(m:MH)(h:PH)(K:CV->MH->PH->Prop):Prop:=
  ∀(b:Nat)(m1:MH),aM (cC m h b) (bI m m1 b iD 33) (∃(v1:QV),gE (jW (bW v)=jW (bW v1)) (λb1=>∀(h1:PH),bE h h1 (aY h1 b1 0 v1.enc) (∃(S:PH->List Value->List (List Value)->Prop)(x:List (Int×QV))(I:Nat->MH->PH->Prop),aA (CG Proofs.Tryz.prog 114 S) (S h1 (iO (TF b1 0)) (List.map (fun(x1:Int×QV)=>gL (dO x1.1) (Value.agg (Array.mk x1.2.enc))) x)) (aA (I 0 m1 h1) (∀(k:Nat)(e:Int)(e1:QV),eT (λm2 h2=>aM (x[k]? =Option.some (e,e1)) (PH.le h1 h2) (I k m2 h2->∀(b2:Nat)(m3:MH),aM (cC m2 h2 b2) (bI m2 m3 b2 zV 38) (gK (λc E=>aA (uO m3 b2 (eR c E 0)) (21<=c.size) (∀(m4:MH),bI m3 m4 b2 (aJ (dO e1.op) (lX e1) (aJ (lW e1) (dO (lY e1)) (aJ (jS (gC e1)) (sP (gC e1)) (aJ (dO (nL (gC e1))) (nF (gC
 e1)) (aJ (lH (gC e1)) (jS (eX e1)) (aJ (sP (eX e1)) (dO (nL (eX e1))) (aJ (nF (eX e1)) (lH (eX e1)) (aJ (nC e1) (nD e1) (aJ (dT e1.on) (qH e1) (aJ (qI e1) (dO e1.limit) (eO (tD e1) 21 c))))))))))) E->tT m4 h2 b2 0 (λy=>dH y 1 (iC m4 h2 b 0 (λy1=>∃(y2:Int),aL m4 h2 b2 1 (cL y2)/\∃(x1:List (List Value)),aA (dC m4 (cZ y1) 3 1 x1) (gM ((x1.length+1)*8)) (iF x1/\gS (λs m5=>dY m4 m5 (cZ y1) s 3 1 (x1++fE (cL y2))->gK (λc1 E1=>aA (uO m5 b (eR c1 E1 0)) (fC 0 c1) (∀(m6:MH),bI m5 m6 b (eO (dT s) 1 c1) E1->I (k+1) m6 h2)))))) (I (k+1) m4 h2)))))))) (eT (λm2 h2=>bE h1 h2 (I x.length m2 h2) (iC m2 h2 b 0 (λy=>K (dN y) m2 h2))))))))
mutual
theorem qR.mono{h h':PH}(le:PH.le h h'):∀{q:Query}{v:QV}{d:Nat}{es:List (Nat×QV)},qR h q v d es->qR h' q v d es
 |.mk _ _ _ _ _ _ _ _ args,v,d,es,w=>by
  rw[qR]at w⊢
  obtain⟨vs,ess,h1,h2,h3⟩:=w;exact⟨vs,ess,h1.mono le,gY.mono le h2,h3⟩
theorem gY.mono{h h':PH}(le:PH.le h h'):∀{qs:List Query}{vs:List QV}{d:Nat}{es:List (Nat×QV)},gY h qs vs d es->gY h' qs vs d es
 |[],vs,d,es,w=>by rw[gY]at w⊢;exact w
 |q::qs,vs,d,es,w=>by
  rw[gY]at w⊢
  obtain⟨v,vs',e1,e2,h1,h2,h3,h4,h5⟩:=w;exact⟨v,vs',e1,e2,h1,h2.mono le,qR.mono le h3,gY.mono le h4,h5⟩
end
theorem gY.len{h:PH}:∀{qs:List Query}{vs:List QV}{d:Nat}{es:List (Nat×QV)},gY h qs vs d es->vs.length=qs.length
 |[],vs,d,es,w=>by rw[gY]at w;obtain⟨rfl,_⟩:=w;rfl
 |q::qs,vs,d,es,w=>by
  rw[gY]at w;obtain⟨v,vs',e1,e2,h1,h2,h3,h4,h5⟩:=w;rw[h1,List.length_cons,List.length_cons,gY.len h4]
mutual
theorem qR.of{h:PH}:∀{q:Query}{v:QV},cN h q v->∀d,∃es,qR h q v d es
 |.mk _ _ _ _ _ _ _ _ args,v,hq,d=>by
  obtain⟨_,_,_,_,_,_,_,_,_,vs,h10,h11⟩:=hq;obtain⟨es,he⟩:=gY.of h11 (d+1);exact⟨(d,v)::es,by rw[qR];exact⟨vs,es,h10,he,rfl⟩⟩
theorem gY.of{h:PH}:∀{qs:List Query}{vs:List QV},uY h qs vs->∀d,∃es,gY h qs vs d es
 |[],vs,hq,d=>⟨[],by rw[gY];exact⟨hq,rfl⟩⟩
 |q::qs,vs,hq,d=>by
  obtain⟨v,vs',rfl,h1,h2⟩:=hq;obtain⟨e1,h3⟩:=qR.of h1 d;obtain⟨e2,h4⟩:=gY.of h2 d;exact⟨e1++e2,by rw[gY];exact⟨v,vs',e1,e2,rfl,h1,h3,h4,rfl⟩⟩
end
mutual
def i7:Query->List Int
 |.mk op ta _ _ _ _ _ _ args=>(if op=1 then[ta]else[])++gZ args
def gZ:List Query->List Int
 |[]=>[]
 |q::qs=>i7 q++gZ qs
end
def xD(es:List (Nat×QV)):List Int:=(es.filter λe=>e.2.op==1).map λe=>e.2.table
theorem F7{a b:List (Nat×QV)}:xD (a++b)=xD a++xD b:=by simp[xD]
mutual
theorem qR.scans{h:PH}:∀{q:Query}{v:QV}{d:Nat}{es:List (Nat×QV)},cN h q v->qR h q v d es->xD es=i7 q
 |.mk op ta _ _ _ _ _ _ args,v,d,es,hq,w=>by
  rw[qR]at w;obtain⟨vs,ess,h1,h2,rfl⟩:=w;obtain⟨h3,h4,_⟩:=hq;rw[i7, <-gY.scans h2,show((d,v)::ess)=[(d,v)]++ess from rfl,F7];congr 1;simp only[xD,List.filter_cons,List.filter_nil,h3];by_cases e:op=1
  .simp[e,h4]
  .simp[e]
theorem gY.scans{h:PH}:∀{qs:List Query}{vs:List QV}{d:Nat}{es:List (Nat×QV)},gY h qs vs d es->xD es=gZ qs
 |[],vs,d,es,w=>by rw[gY]at w;rw[w.2];rfl
 |q::qs,vs,d,es,w=>by
  rw[gY]at w;obtain⟨v,vs',e1,e2,h1,h2,h3,h4,rfl⟩:=w;rw[F7,gZ,qR.scans h2 h3,gY.scans h4]
end
mutual
theorem qR.small{h:PH}:∀{q:Query}{v:QV}{d:Nat}{es:List (Nat×QV)},qR h q v d es->es.length<=sK q
 |.mk op ta _ _ _ _ _ _ args,v,d,es,w=>by
  rw[qR]at w;obtain⟨vs,ess,h1,h2,rfl⟩:=w;have:=gY.small h2;simp only[List.length_cons,sK];omega
theorem gY.small{h:PH}:∀{qs:List Query}{vs:List QV}{d:Nat}{es:List (Nat×QV)},gY h qs vs d es->es.length<=oA qs
 |[],vs,d,es,w=>by rw[gY]at w;rw[w.2];simp
 |q::qs,vs,d,es,w=>by
  rw[gY]at w;obtain⟨v,vs',e1,e2,h1,h2,h3,h4,rfl⟩:=w;have h5:=qR.small h3;have h6:=gY.small h4;simp only[List.length_append,oA];omega
end
theorem Yi:∀q:Query,1<=sK q
 |.mk _ _ _ _ _ _ _ _ _=>by rw[sK];omega
theorem SD:∀l:List Query,l.length<=oA l
 |[]=>by simp
 |a::l=>by have:=SD l;have:=Yi a;simp only[List.length_cons,oA];omega
theorem Tb:∀{l:List Query}{a:Query},a∈l->sK a<=oA l
 |b::l,a,h=>by
  rw[oA];rcases List.mem_cons.1 h with rfl|h
  .omega
  .have:=Tb h;omega
theorem L1:∀N,Sound Tryz.prog 115 (Nw N)
 |0=>by
  refine eG (fn:=Tryz.f115) (c:=dJ Tryz.f115) Tryz.func115 rfl (by decide) ?_;rintro cvs m h K ⟨v,q,d,l,k0,es,xs,J,rfl,_,hN,_⟩;omega
 |N+1=>by
  refine iB Tryz.func115 ?_;rintro cvs m h K ⟨v,q,d,l,k0,es,xs,J,rfl,hw,hN,hd,hx,h0,hround,hend⟩;refine⟨UJ N v d l,rfl,aD (L1 N) aF,J0 N v d l m h K,by kernel_rfl,?_⟩;dsimp only[J0,push_cast];obtain⟨op,ta,w,co,on,gr,od,li,args⟩:=q;rw[qR]at hw;obtain⟨vs,ess,hrow,hws,rfl⟩:=hw;simp only[Query.mk.sizeOf_spec]at hN;rw[sK]at hd;have hvl:=hws.len;have hal:=hrow.len;have hls:=SD args;rw[List.length_map]at hal;refine⟨IK _,l,Yh (d,v),_,rfl,hround k0 (d,v) m h (hx 0 _ rfl) (.refl _) h0,?_⟩;rintro u m' h' ⟨rfl,le',hJ⟩;refine aB (λe=>by cases e) (λ_=>?_);refine⟨λz=>z.1<=args.length/\PH.le h z.2.2/\∃e1 e2,ess=e1++e2/\gY z.2.2 (args.drop z.1) (vs.drop z.1) (d+1) e2/\J (k0+1+e1.length) z.2.1 z.2.2,λz=>args.length-z.1,⟨(0,m',h'),⟨by simp,le',[],ess,rfl,hws.mono le',hJ⟩,MT⟩,?_⟩;rintro⟨i,mz,hz⟩ ⟨hi,lez,e1,e2,hes,hwz,hJz⟩;dsimp only at hi lez hwz hJz⊢
  refine aE (λhlt=>?_) (λhge=>?_)
  .have hil:i<args.length:=by omega
   rw[List.drop_eq_getElem_cons hil,gY]at hwz;obtain⟨v1,vs',e11,e22,hvd,hq1,hw1,hws1,rfl⟩:=hwz
   have hvi:vs[i]? =some v1:=by
    have:(vs.drop i)[0]? =some v1:=by rw[hvd];rfl
    simpa using this
   have hvd':vs'=vs.drop (i+1):=by
    have:(vs.drop i).drop 1=vs':=by rw[hvd];rfl
    rw[<-this,List.drop_drop]
   obtain⟨b,o,ea,rd⟩:=hrow.get (i:=i) (e:=v1.enc) (by rw[List.getElem?_map,hvi];rfl);have hsz:=List.sizeOf_lt_of_mem (List.getElem_mem hil);have hcn:=Tb (List.getElem_mem hil);refine⟨b,o,ea,aC,aC,v1,.imm (rd.mono lez),v1,args[i],d+1,l,k0+1+e1.length,e11,xs,J,by rw[kE aC],hw1,aC,aC,λj e hj=>?_,hJz,λk e m2 h2 hk le2 hJ2=>hround k e m2 h2 hk (lez.trans le2) hJ2,λm2 h2 le2 hJ2=>⟨(i+1,m2,h2),⟨by dsimp only;omega,lez.trans le2,e1++e11,e22,by rw[hes,List.append_assoc],?_,?_⟩,by dsimp only;omega,?_⟩⟩
   .have h5:=(List.getElem?_eq_some_iff.1 hj).1
    have:=hx (1+e1.length+j) e (by
     rw[hes,show 1+e1.length+j=(e1.length+j)+1 by omega,List.getElem?_cons_succ,List.getElem?_append_right aC,show e1.length+j-e1.length=j by omega,List.getElem?_append_left h5];exact hj)
    rw[show k0+1+e1.length+j=k0+(1+e1.length+j)by omega];exact this
   .dsimp only;rw[<-hvd'];exact hws1.mono le2
   .dsimp only;rw[List.length_append,show k0+1+(e1.length+e11.length)=k0+1+e1.length+e11.length by omega];exact hJ2
   .dsimp only;rw[kE aC];exact MT
  .have:i=args.length:=by omega
   subst this;rw[List.drop_of_length_le (Nat.le_refl _),gY]at hwz;obtain⟨_,rfl⟩:=hwz;rw[List.append_nil]at hes;subst hes;exact hend mz hz lez (by rw[List.length_cons,show k0+(ess.length+1)=k0+1+ess.length by omega];exact hJz)
theorem PG:Sound Tryz.prog 114 (WN Tryz.prog IG):=by
 refine iB Tryz.func114 ?_;rintro cvs m h K ⟨l,caps,xs,J,rfl,⟨b,v,q,es,rfl,hb,hw,hs,rfl⟩,h0,hround,hend⟩;refine⟨dL [(115,Nw (SizeOf.sizeOf q+1))] [] [] [] false,rfl,aD (L1 _) aF,RJ (SizeOf.sizeOf q+1) l b m h K,by kernel_rfl,?_⟩;exact⟨v,.imm hb,v,q,1,l,0,es,es,J,rfl,hw,aC,aC,λj e hj=>by rw[Nat.zero_add];exact hj,h0,λk e m' h' hk le hJ=>hround k (Yh e) m' h' (by rw[List.getElem?_map,hk];rfl) le hJ,λm' h' le hJ=>hend _ m' h' le (by rw[List.length_map];rw[Nat.zero_add]at hJ;exact hJ)⟩
theorem SF:CG Tryz.prog 114 IG:=⟨PG⟩
theorem JL:Sound Tryz.prog 80 Nv:=by
 refine Xg Tryz.func80 ?_;rintro cvs m h K ⟨v,rfl,hK⟩;refine⟨dL [] [] [] [] false,rfl,aF,O4 v m h (cY h K),by kernel_rfl,?_⟩;dsimp only[O4,push_cast];intro b m' hun hu _;have sub:Sub m m':=(gJ (Sub.refl m) hun hu).1;refine⟨m,kW h b (QV.enc v),sub,y8 hun.h_,λb' i v' e=>?_,hK b _ (y8 hun.h_) SH⟩;by_cases hb:b'=b
 .subst hb;simp only[kW,if_true]at e;exact .inr ⟨_,_,_,hu.at_,by rw[<-Array.getElem?_toList];exact e,hun.m_⟩
 .simp only[kW,if_neg hb]at e;exact .inl e
structure UZ(T E:TypeId)(m mx:MH)(b:Nat)(vs:List Value):Prop where
 ex:∃s:Sl,mx b=some (.cells #[.slice s.a s.len s.cap] T (0,0))/\dC mx s E 1 (vs.map λv=>[v])/\∀i x,s.a=some ⟨x,i,none⟩->m x=none
theorem UZ.new{T E:TypeId}(hb:m' b=some (.cells #[u0] T (0,0))):UZ T E m m' b []:=⟨⟨none,0,0⟩,hb,⟨⟨λe he=>by simp at he,λe he=>by simp at he⟩,.inl ⟨rfl,rfl⟩⟩,λi x e=>by cases e⟩
theorem Vi{T E:TypeId}{mx:MH}{s:Sl}{vs:List Value}{e:Value}{Q:MH->Prop}(hmb:∃o,m b=some o)(hs:Av m mx b)(hb:mx b=some (.cells #[.slice s.a s.len s.cap] T (0,0)))(hrow:dC mx s E 1 (vs.map λv=>[v]))(hfr:∀i x,s.a=some ⟨x,i,none⟩->m x=none)(hQ:∀m',Av m m' b->UZ T E m m' b (vs++[e])->Q m'):
 ∀(s':Sl)(m':MH),dY mx m' (Sl.mk s.a s.len s.cap) s' E 1 ((vs.map λv=>[v])++[[e]])->
  ∃(cs:Array Value)(E:TypeId),uO m' b (.cells cs E (0,0))/\0<cs.size/\∀m2:MH,jJ m' m2 b (.cells (Array.mk (dT s'::cs.toList.drop 1)) E (0,0))->Q m2:=by
 obtain⟨ob,hmb⟩:=hmb;have hnb:∀i,s.a≠some ⟨b,i,none⟩:=λi e2=>by rw[hfr i b e2]at hmb;cases hmb
 refineλs' m' hg=>⟨_,_,⟨hg.other b _ hb hnb⟩,by simp,λm2 hu=>hQ m2 ?_ ⟨s',hu.at_,?_,?_⟩⟩
 .intro x o hx hne;rw[hu.other x hne];exact hg.other x o (hs x o hx hne) (λi e2=>by have e2:s.a=some ⟨x,i,none⟩:=e2;rw[hfr i x e2]at hx;cases hx)
 .have e1:(vs++[e]).map (λv=>[v])=vs.map (λv=>[v])++[[e]]:=by simp
  rw[e1];refine dC.keep hg.row (λx i e2=>hu.other x (λe3=>?_));subst e3;rcases hg.fresh x i e2 with h1|⟨j,h1⟩
  .rw[hb]at h1;cases h1
  .exact hnb j h1
 .intro i x e2;rcases hg.fresh x i e2 with h1|⟨j,h1⟩
  .cases e4:m x with
   |none=>rfl
   |some o=>
    by_cases e5:x=b
    .subst e5;rw[hb]at h1;cases h1
    .rw[hs x o e4 e5]at h1;cases h1
  .exact hfr j x h1
theorem cY.rowG{E:TypeId}{hx:PH}{s:Sl}{vs:List Value}(sub:Sub m m')(le:PH.le h hx)(hr:dC m' s E 1 (vs.map λv=>[v]))(hf:∀i b,s.a=some ⟨b,i,none⟩->m b=none)(hK:∀h',PH.le hx h'->aX h' s 1 (vs.map λv=>[v])->K (cS s) m h'):cY h K (cS s) m' hx:=by
 intro hd;rcases hr.ex with⟨rfl,hx0⟩|⟨b,cap,cur,rfl,hm,h1,h2,h3,h4⟩
 .refine⟨m,hx,sub,le,λb i v e=>.inl e,hK hx (.refl _) ?_⟩;rw[hx0];exact aX.nil _ _
 .have hn:∀i,hx b i=none:=hd b _ hm;refine⟨m,kW hx b cur.toList,sub,le.trans (y8 hn),λb' i v e=>?_,hK _ (y8 hn) ⟨?_,?_,?_⟩⟩
  .by_cases hb:b'=b
   .subst hb;simp only[kW,if_true]at e;exact .inr ⟨cur,E,(0,0),hm,by rw[<-Array.getElem?_toList];exact e,hf 0 b' rfl⟩
   .simp only[kW,if_neg hb]at e;exact .inl e
  .simp
  .by_cases hu:vs.map (λv=>[v])=[]
   .exact .inl hu
   .refine .inr ⟨b,0,rfl,λi e hi=>⟨λj v hv=>?_⟩⟩;rw[List.getElem?_map]at hi;cases hu2:vs[i]? with
    |none=>rw[hu2]at hi;cases hi
    |some u=>
     rw[hu2]at hi;simp at hi;subst hi;have hj:j=0:=by have:=(List.getElem?_eq_some_iff.1 hv).1;simp at this;omega
     subst hj;have hv:u=v:=by simpa using hv
     subst hv;have hlt:=(List.getElem?_eq_some_iff.1 hu2).1
     have hfl:∀l:List Value,(l.map λv=>[v]).flatten=l:=λl=>by
      induction l with
      |nil=>rfl
      |cons a l ih=>simp only[List.map_cons,List.flatten_cons,ih];rfl
     rw[hfl]at h4;rw[<-h4,List.getElem?_take,List.length_map,if_pos aC]at hu2;simp only[kW,if_true];rw[show 0+i*1+0=i by omega];exact hu2
  .simpa using h1
def Wz:Vc.Spec:=λcvs m h K=>∃v q,cvs=[aQ v]/\cN h q v/\sK q<=900000/\∀s' h',PH.le h h'->Ints h' s' (i7 q)->K (cS s') m h'
theorem f57_sound:Sound Tryz.prog 57 Wz:=by
 refine DS Tryz.func57 ?_;rintro cvs m h K ⟨v,q,rfl,hq,hs,hK⟩;refine⟨{uW [(80,Nv)] [] [] [] [200003,200005,1033,0] [] false with elemT:=[3,38]},rfl,aD JL aF,f57_nice v m h (cY h K),by kernel_rfl,?_⟩;show f57_nice v m h (cY h K);dsimp only[f57_nice,push_cast];intro b m1 hb1 hu1;obtain⟨s1,n1⟩:=gJ (Sub.refl m) hb1 hu1;refine⟨v,rfl,λbw h1 le1 hbw=>?_⟩;obtain⟨es,hw⟩:=qR.of (hq.mono le1) 1;have hes:=hw.small;have hsc:=qR.scans (hq.mono le1) hw;refine⟨IG,es.map λe=>((e.1:Int),e.2),λk mx hx=>hx=h1/\Av m1 mx b/\UZ 33 3 m1 mx b ((xD (es.take k)).map λn=>.int .i64 n),SF,⟨bw,v,q,es,rfl,hbw,hw,hs,?_⟩,⟨rfl,λx o e _=>e,UZ.new hu1.at_⟩,?_,?_⟩
 .rw[List.map_map];rfl
 .rintro k d e' mx hx hk-⟨rfl,hsx,hout⟩ b2 m2 hb2 hu2;rw[List.getElem?_map]at hk;cases hek:es[k]? with
  |none=>rw[hek]at hk;cases hk
  |some e=>
   rw[hek]at hk;simp only[Option.map_some,Option.some.injEq,Prod.mk.injEq]at hk;obtain⟨rfl,rfl⟩:=hk;refine⟨_,_,⟨hu2.at_⟩,by simp,λm3 hu3=>?_⟩
   have up:∀{z o},mx z=some o->m3 z=some o/\z≠b2:=fun{z o} e2=>by
    have:z≠b2:=λe3=>by rw[e3,hb2.m_]at e2;cases e2
    exact⟨by rw[hu3.other z this,hu2.other z this];exact e2,this⟩
   have m3b:m3 b2=some (.cells ⟨e.2.enc⟩ 38 (0,0)):=hu3.at_;have hs3:Av m1 m3 b:=λx o e2 hne=>(up (hsx x o e2 hne)).1
   have hout3:UZ 33 3 m1 m3 b ((xD (es.take k)).map λn=>.int .i64 n):=by
    obtain⟨s,h5,h6,h7⟩:=hout.ex;refine⟨s,(up h5).1,dC.keep h6 λz i e3=>?_,h7⟩;obtain⟨cur,h8⟩:=h6.blk e3;rw[h8];exact(up h8).1
   have hsn:xD (es.take (k+1))=xD (es.take k)++(if e.2.op==1 then[e.2.table]else[]):=by
    rw[List.take_add_one,hek,Option.toList_some,F7];congr 1;simp only[xD,List.filter_cons,List.filter_nil];split<;>rfl
   refine⟨e.2.op,.of_m m3b rfl,aB (λh5=>?_) (λh5=>⟨rfl,hs3,by rw[hsn,h5];simpa using hout3⟩)⟩;obtain⟨s,hb5,hrow,hfr⟩:=hout3.ex
   have hlen:(xD (es.take k)).length<=es.length:=by
    simp only[xD,List.length_map];exact Nat.le_trans (List.length_filter_le _ _) (by rw[List.length_take];omega)
   refine⟨s,.of_m hb5 rfl,e.2.table,.of_m m3b rfl,_,hrow,by simp;omega,by simp;omega,Vi ⟨_,hu1.at_⟩ hs3 hb5 hrow hfr λm' hs' ho'=>⟨rfl,hs',?_⟩⟩;rw[hsn,h5];simpa using ho'
 .rintro mx hx-⟨rfl,hsx,hout⟩
  rw[List.length_map,List.take_length,hsc]at hout;obtain⟨s,hb5,hrow,hfr⟩:=hout.ex
  have hlen:(i7 q).length<=es.length:=by
   rw[<-hsc];simp only[xD,List.length_map];exact List.length_filter_le _ _
  refine⟨s,.of_m hb5 rfl,cY.rowG (s1.x n1 hsx) le1 hrow (λj z e=>?_) (λh' le hri=>hK s h' (le1.trans le) ⟨by rw[List.map_map]at hri;exact hri,aC⟩)⟩;cases e2:m z with
  |none=>rfl
  |some o=>have e1:=hfr j z e;rw[s1 z o e2]at e1;cases e1
end Go.Ps
