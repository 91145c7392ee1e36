/-
  Part 7 of a proof that a law of the given program returns true: a condition generator that is proved sound, and contracts of functions. No condition of its own. Own work, joined by a program (pack2.py).
-/
import Derived.Test.YtileehgdfcknkaaGreatDoorKf
set_option linter.unusedVariables false
set_option linter.unusedSimpArgs false
namespace Go.Ps
open Go Go.Vc Go.Proofs
variable{K:CV->MH->PH->Prop}{m:MH}{h:PH}{s:pV}{ps:List Int}{cb:Nat}{sc:bH}{v:QV}{q:Query}{p:Pred}{l:List Int}{i:Nat}{N:Nat}{m':MH}{h':PH}{co:List Int}{gr:List Int}{od:List (Int×Bool)}{w:Pred}{ta:Int}{li:Int}{xs:List (List Value)}{sz:Nat}{k:Nat}{ks:List (List Int)}{rs:List Int}{r:Sl}{a:List Int}{b:Nat}
structure LI(h:PH)(b:Nat)(l:List (List VV)):Prop where
 ex:∃us,Ex h b us/\fD h us l
theorem LI.mono{l:List (List VV)}(x:LI h b l)(le:PH.le h h'):LI h' b l:=by
 obtain⟨us,h1,h2⟩:=x.ex;exact⟨us,h1.mono le,h2.mono le⟩
structure Dk(h:PH)(t:Sl)(bs:List Nat)(ls:List (List (List VV))):Prop where
 row:cW h t 1 (bs.map λb=>[Lz b])
 len:bs.length=ls.length
 at_:∀(i b:Nat)(l:List (List VV)),bs[i]? =some b->ls[i]? =some l->LI h b l
structure i7(w:Nat)(l:List (List VV)):Prop where
 row:∀r∈l,OR r
 wid:∀r∈l,r.length=w
 srt:tS l
 len:l.length<=1000000
def Lu(l:List (List VV))(x:List VV):Bool:=l.any λy=>eE x y==0
theorem Gj{l:List (List VV)}{x:List VV}:Lu l x=true↔x∈l:=by
 simp only[Lu,List.any_eq_true,beq_iff_eq,jQ];exact⟨λ⟨y,h1,h2⟩=>h2▸h1,λh=>⟨x,h,rfl⟩⟩
def OS(ok:Query->List (List (List VV))->Prop)(f:Query->List (List (List VV))->List (List VV)):Vc.Spec:=λcvs m h K=>∃v t q bs ls,cvs=[aQ v,cS t]/\dK h q v/\Dk h t bs ls/\jN m/\ok q ls/\
 ∀s' h',PH.le h h'->Rows h' s' (f q ls)->K (cS s') m h'
def OP:Vc.Spec:=λcvs m h K=>∃t i bs ls w,cvs=[cS t,cB i]/\Dk h t bs ls/\jN m/\2<=ls.length/\(∀l∈ls,i7 w l)/\
 ∀s' h',PH.le h h'->Rows h' s' ((ls.getD 0 []).filter λx=>Lu (ls.getD 1 []) x==i)->K (cS s') m h'
noncomputable def Xk:Ctx:=On [(74,ZF)] [(6,{A:=Nat×Nat×Sl×Sl×List VV×MH×PH,st:=λ⟨i,b,e,c,l,m,h⟩=>cE 40 42 [(5,vv (.pointer (some ⟨b,0,none⟩))),(6,sv e),(7,.at (.lst 17)),(19,sv c),(20,iv c.len),(21,iv i)] [(17,.lst 27 3 (l.map VV.enc))] m h})] [] [200002,200005,1053]
noncomputable abbrev sH(a:Nat):List Value:=j6 (Value.func (Fn.func 147) rW (Bz a))
abbrev F7(a:Option Addr)(b c:Int)(d:Sl)(e:MH)(g:Nat->Nat->Option Value)(i:Nat->Nat)(j:Nat->(PH->List Value->List (List Value)->Prop)->Prop):Prop:=aT (λx x1=>aH (aU a x x1) (b<=c) (c<aG d) (∃(x2:Nat),aM e g x (i x1) (sH x2)/\∃(x3:PH->List Value->List (List Value)->Prop),j x2 x3))
abbrev BI(a:Nat->Option Obj)(b:Nat->Nat->Option Value)(c:Sl)(d:Nat->MH->Nat->(PH->List Value->List (List Value)->Prop)->Prop):Prop:=∀(x:Nat)(x1:MH),bC (cM a b x) (bE a x1 x iQ 53) (F7 c.a 0 0 c x1 b (λx2=>eC x2) (λx2 x3=>d x x1 x2 x3))
attribute [push_cast] sH F7 BI
def HD(v:QV)(t:Sl)(m:MH)(h:PH)(K:CV->MH->PH->Prop):Prop:=
  ∀(b:Nat)(m1:MH),bC (cM m h b) (bE m m1 b v.enc 38) (BI m1 h t (λb1 m2 y S=>qX S h y m2 (λx I k e=>eA (λm3 h1=>bC (qA x k e) (PH.le h h1) (I k m3 h1->∃(y1:PV),aM m3 h1 b 2 y1.enc/\F0 (λv1 s p r=>aH (xS y1 e=xS v1 s) (fF h1 p v1) (cR h1 s r) (branch (lM r p) (Dt m3 h1 b1 (λy2 x1=>iH (λs1 m4=>eZ m3 m4 (dR y2) s1 74 1 (kB x1 e)->eX (λc E=>aA (oX m4 b1 (dV c E 0)) (0<c.size) (∀(m5:MH),bE m4 m5 b1 (eU (eR s1) 1 c) E->I (k+1) m5 h1))))) (I (k+1) m3 h1)))))) (λm3 h1=>∃(y1:Sl),aM m3 h1 b1 0 (aR y1)/\K (kU y1) m3 h1)))
noncomputable abbrev vL(a:Nat×Nat×Sl×Sl×List VV×MH×PH):Sl:=a.2.2.2.1
noncomputable abbrev BX(a:Nat×Nat×Sl×Sl×List VV×MH×PH):List (List Value):=sO a.2.2.2.2.1
noncomputable abbrev mJ(a:Nat×Nat×Sl×Sl×List VV×MH×PH):MH×PH:=a.2.2.2.2.2
abbrev mI(a:PH)(b:List (List VV))(c:CV->MH->PH->Prop)(d:MH):Prop:=kP (λx x1=>dZ a x1 (Rows x1 x b) (c (kU x) d x1))
attribute [push_cast] vL BX mJ mI
def HC(v:QV)(t:Sl)(m:MH)(h:PH)(K:CV->MH->PH->Prop):Prop:=
  ∀(b:Nat)(m1:MH),bC (cM m h b) (bE m m1 b v.enc 38) (BI m1 h t (λb1 m2 y S=>qX S h y m2 (λx I k e=>eA (λm3 h1=>bC (qA x k e) (PH.le h h1) (I k m3 h1->∃(y1:Sl),aA (aM m3 h1 b 15 (aR y1)) (cN (aG y1)) (aA (aG y1<=aG y1) (pK (aG y1*32)) (pK (aG y1)/\∃(y2:Sl),aM m3 h1 b 15 (aR y2)/\∃(I1:Nat×Nat×Sl×Sl×List VV×MH×PH->Prop)(m4:Nat×Nat×Sl×Sl×List VV×MH×PH->Nat),(∃(x1:Nat×Nat×Sl×Sl×List VV×MH×PH),aA (I1 x1) (cF b1 x1.2.1) (aA (aZ e x1.2.2.1) (eL 17) (aA (aZ y2 (vL x1)) (cH y2 (vL x1)) (aA (bG x1.1) (dJ 27 3 (List.replicate (aG y1).toNat vK)=dJ 27 3 (BX x1)) (aA (cO m3 (mJ x1)) (dO h1 (mJ x1)) True)))))/\∀(x1:Nat×Nat×Sl×Sl×List VV×MH×PH),I1 x1->
 bD (↑x1.1:Int) (aG (vL x1)) (aT (λb2 o=>aH (aU (vL x1).a b2 o) (0<=(↑x1.1:Int)) ((↑x1.1:Int)<aG (vL x1)) (∃(y3:Int),aM (mJ x1).1 (mJ x1).2 b2 (bB o x1.1 1) (cK y3)/\aT (λb3 o1=>aH (aU x1.2.2.1.a b3 o1) (0<=y3) (y3<aG x1.2.2.1) (∃(y4:VV),aH (aM (mJ x1).1 (mJ x1).2 b3 (fL o1 y3 3) y4.enc) (0<=(↑x1.1:Int)) ((↑x1.1:Int)<kJ (BX x1)) (∃(e1:List Value),aA (tG (BX x1) (qG x1.1) e1) (3<=e1.length) (∃(x2:Nat×Nat×Sl×Sl×List VV×MH×PH),aA (I1 x2) (m4 x2<m4 x1) (aA (cF x1.2.1 x2.2.1) (aZ x1.2.2.1 x2.2.2.1) (aA (eL 17) (aZ (vL x1) (vL x2)) (aA (cH (vL x1) (vL x2)) (gS (aW x1.1 1)=bX x2.1) (aH (dJ 27 3 (List.set (BX x1) (qG x1.1) (aY (eW y4.kind) (eW y4.int)
 (Value.string y4.text::List.drop 3 e1)))=dJ 27 3 (BX x2)) (cO (mJ x1).1 (mJ x2)) (dO (mJ x1).2 (mJ x2)) True))))))))))) (∃(y3:Sl),aM (mJ x1).1 (mJ x1).2 x1.2.1 0 (aR y3)/\aX (mJ x1).2 3 (BX x1) (λs h2=>∃(x2:List (List Value)),aH (dW (mJ x1).1 (dR y3) 74 1 x2) (iB ((x2.length+1)*24)) (iX x2) (iH (λs1 m5=>eZ (mJ x1).1 m5 (dR y3) s1 74 1 (kB x2 s)->eX (λc E=>aA (oX m5 x1.2.1 (dV c E 0)) (0<c.size) (∀(m6:MH),bE m5 m6 x1.2.1 (eU (eR s1) 1 c) E->I (k+1) m6 h2))))))))))) (λm3 h1=>∃(y1:Sl),aM m3 h1 b1 0 (aR y1)/\∃(s:Sl)(u:List Sl)(l:List (List VV)),aA (lR y1=lR s) (oW m3 h1 s 1 (rL u)) (aA (fD h1 u l) (EL l.length) (mI h1 (Bk l) K m3)))))
def Hz(v:QV)(t:Sl)(m:MH)(h:PH)(K:CV->MH->PH->Prop):Prop:=
  aT (λb o=>aH (aU t.a b o) ((0:Int)<=0) (0<aG t) (∃(y:Nat),aM m h b (eC o) (sH y)/\aT (λb1 o1=>aH (aU t.a b1 o1) ((0:Int)<=1) (1<aG t) (∃(y1:Nat),aA (aM m h b1 (o1+1) (sH y1)) (bF h b1 (o1+1) (sH y1)) (Gc (λb2 v1=>aA (fH (oS y) (oS b2)) (Ex h b2 v1) (∀(s:Sl),FM s 1 v1 (λm1 x o2=>m x=Option.some o2->m1 x=Option.some o2) (λx=>B0 m x) (λm1=>bF h b (eC o) (sH y)/\∃(s1:Sl),Gc (λb3 u=>∃(v2:List Sl),aA (fW s (oS y1)=fW s1 (oS b3)) (dW m1 s1 74 1 (rL u)) (aA (Ex h b3 v2) (EL u.length) (∀(s2:Sl),FM s2 1 (u++v2) (λm2 x o2=>bC (m1 x=Option.some o2) (∀(i:Nat),jU (aU s1.a x i)) (m2 x=Option.some o2)) (λx=>B0 m1 x\/∃(i:Nat),aU s1.a x i)
 (λm2=>aA (bF h b (eC o) (sH y)) (bF h b1 (o1+1) (sH y1)) (∃(s3:Sl)(u1:List Sl)(l:List (List VV)),aA (lR s2=lR s3) (oW m2 h s3 1 (rL u1)) (aA (fD h u1 l) (EL l.length) (mI h (Bk l) K m2)))))))))))))))
noncomputable abbrev EM:Value:=Value.map Option.none
noncomputable abbrev oJ(a:Nat):List Value:=j6 (Value.map (Option.some a))
abbrev cX(a:MH)(b:PH)(c d:Nat):Prop:=aM a b c 0 (oJ d)
noncomputable abbrev Co(a:List VV):Value:=Value.string (dD a)
abbrev uN(a b:Prop)(c:(List (Value×Value))->Prop):Prop:=aA a b (∀(x:List (Value×Value)),c x)
attribute [push_cast] EM oJ cX Co uN
def Hv(t:Sl)(i:Bool)(m:MH)(h:PH)(K:CV->MH->PH->Prop):Prop:=
  ∀(b:Nat)(m1:MH),bC (cM m h b) (bE m m1 b (j6 (Value.bool i)) 4) (BR m1 h 0 (λb1 m2=>∀(b2:Nat)(m3:MH),bC (cM m2 h b2) (bE m2 m3 b2 (j6 EM) 177) (eX (λc E=>aA (oX m3 b2 (dV c E 0)) (0<c.size) (∀(m4:MH),bE m3 m4 b2 (eU (Value.map (Option.some b1)) 1 c) E->F7 t.a 0 1 t m4 h (λo=>o+1) (λy S=>qX S h y m4 (λx I k e=>eA (λm5 h1=>bC (qA x k e) (PH.le h h1) (I k m5 h1->∃(y1:Nat),aA (cX m5 h1 b2 y1) (cX m5 h1 b2 y1) (mD (λs r=>aA (lR e=lR s) (cR h1 s r) (aA (OR r) (jN m5) (aM m5 h1 b2 0 (oJ y1)/\wT (λk1 O=>aA (kO m5 y1 k1) (rH O) (aA (O (Co r)) (nD (Instr.sameBits 10000 (Co r) (Co r))) (uN (∀(e1:Value×Value),rE e1 k1 O) ((∀(e1:Value×Value),pJ (List.Mem e1 k1) (e1.1=
 Co r))->∀(m6:MH),bC (jD m5 m6 y1) (kO m6 y1 (k1++wQ (Co r) BC)) (I (k+1) m6 h1)) (λl=>∀(v:Value)(l1:List (Value×Value)),k1=l++lL (Co r) v l1->∀(m6:MH),bC (jD m5 m6 y1) (kO m6 y1 (l++lL (Co r) BC l1)) (I (k+1) m6 h1)))))))))))) (λm5 h1=>BI m5 h1 t (λb3 m6 y1 S1=>qX S1 h1 y1 m6 (λx I k e=>eA (λm7 h2=>bC (qA x k e) (PH.le h1 h2) (I k m7 h2->∃(y2:Nat),aM m7 h2 b2 0 (oJ y2)/\∃(y3:Bool),aH (aM m7 h2 b 0 (j6 (Value.bool y3))) (cX m7 h2 b2 y2) (aM m7 h2 b 0 (j6 (Value.bool y3))) (mD (λs r=>aA (lR e=lR s) (cR h2 s r) (aA (OR r) (jN m7) (aH (cX m7 h2 b2 y2) (aM m7 h2 b 0 (j6 (Value.bool y3))) (aM m7 h2 b 0 (j6 (Value.bool y3))) (∃(k1:List (Value×Bool))(O:Value->Prop),aA (AD m7 y2
 (List.map (fun(p:Value×Bool)=>(p.1,Value.bool p.2)) k1)) (rH O) (aA (O (Co r)) (∀(e1:Value×Bool),List.Mem e1 k1->O e1.1) (gU (∀(e1:Value×Bool),pJ (List.Mem e1 k1) (e1.1=Co r)) (false==y3) (Dt m7 h2 b3 (λy4 x1=>iH (λs1 m8=>eZ m7 m8 (dR y4) s1 74 1 (kB x1 e)->eX (λc1 E1=>aA (oX m8 b3 (dV c1 E1 0)) (0<c1.size) (∀(m9:MH),bE m8 m9 b3 (eU (eR s1) 1 c1) E1->I (k+1) m9 h2))))) (I (k+1) m7 h2)/\∀(y4:Bool),gU (List.Mem (Co r,y4) k1) (y4==y3) (Dt m7 h2 b3 (λy5 x1=>iH (λs1 m8=>eZ m7 m8 (dR y5) s1 74 1 (kB x1 e)->eX (λc1 E1=>aA (oX m8 b3 (dV c1 E1 0)) (0<c1.size) (∀(m9:MH),bE m8 m9 b3 (eU (eR s1) 1 c1) E1->I (k+1) m9 h2))))) (I (k+1) m7 h2))))))))))) (λm7 h2=>∃(y2:Sl),aM m7 h2 b3 0 (aR y2)/\
 K (kU y2) m7 h2)))))))))
abbrev N0(a:(List Nat)->(List (List (List VV)))->Prop):Prop:=∃(x:List Nat)(x1:List (List (List VV))),a x x1
attribute [push_cast] N0
def VZ(v:QV)(t:Sl)(m:MH)(h:PH)(K:CV->MH->PH->Prop):Prop:=
  ∃(t1:Sl)(i:Bool),N0 (λb l=>∃(w:Nat),aA (fW t bA=fW t1 (A7 i)) (Dk h t1 b l) (aA (jN m) (2<=l.length) ((∀(l1:List (List VV)),List.Mem l1 l->i7 w l1)/\mI h (List.filter (fun(x:List VV)=>Lu (List.getD l 1 []) x==i) (List.getD l 0 [])) K m)))
def VY(v:QV)(t:Sl)(m:MH)(h:PH)(K:CV->MH->PH->Prop):Prop:=
  ∃(t1:Sl)(i:Bool),N0 (λb l=>∃(w:Nat),aA (fW t gE=fW t1 (A7 i)) (Dk h t1 b l) (aA (jN m) (2<=l.length) ((∀(l1:List (List VV)),List.Mem l1 l->i7 w l1)/\mI h (List.filter (fun(x:List VV)=>Lu (List.getD l 1 []) x==i) (List.getD l 0 [])) K m)))
abbrev DF(a b:Sl)(c:PH)(d e:(List VV)->(List Int)->Prop):Prop:=kV (λx x1=>∃(x2:List VV)(x3:List Int),aA (gP a b=gP x x1) (cR c x x2) (aA (Ints c x1 x3) (d x2 x3) (e x2 x3)))
abbrev Bw(a:List VV)(b:List Int):Prop:=iR a.length b
noncomputable abbrev cL(a:List VV)(b:List Int):Value:=Co (pick a b)
abbrev FO(a b:Sl)(c:PH)(d:MH)(e:Prop)(g i:(List VV)->(List Int)->Prop):Prop:=kV (λx x1=>∃(x2:List VV)(x3:List Int),aA (gP a b=gP x x1) (cR c x x2) (aA (Ints c x1 x3) (OR x2) (aA (Bw x2 x3) (jN d) (aA e (g x2 x3) (i x2 x3)))))
attribute [push_cast] DF Bw cL FO
def HA(v:QV)(t:Sl)(m:MH)(h:PH)(K:CV->MH->PH->Prop):Prop:=
  Kl (λs o=>aA (vT v.on s) (mG h s o) (∀(a:Sl),kP (λb h1=>dZ h h1 (Ints h1 a (kQ o)) (Ints h1 b (gK o)->∀(b1:Nat)(m1:MH),bC (cM m h1 b1) (bE m m1 b1 iQ 33) (∀(b2:Nat)(m2:MH),bC (cM m1 h1 b2) (bE m1 m2 b2 iQ 33) (eX (λc E=>aA (oX m2 b1 (dV c E 0)) (0<c.size) (∀(m3:MH),bE m2 m3 b1 (eU (eR a) 1 c) E->eX (λc1 E1=>aA (oX m3 b2 (dV c1 E1 0)) (0<c1.size) (∀(m4:MH),bE m3 m4 b2 (eU (eR b) 1 c1) E1->BR m4 h1 0 (λb3 m5=>∀(b4:Nat)(m6:MH),bC (cM m5 h1 b4) (bE m5 m6 b4 (j6 EM) 177) (eX (λc2 E2=>aA (oX m6 b4 (dV c2 E2 0)) (0<c2.size) (∀(m7:MH),bE m6 m7 b4 (eU (Value.map (Option.some b3)) 1 c2) E2->F7 t.a 0 1 t m7 h1 (λo1=>o1+1) (λy S=>qX S h1 y m7 (λx I k e=>eA (fun
 m8 h2=>bC (qA x k e) (PH.le h1 h2) (I k m8 h2->∃(y1:Nat),aM m8 h2 b4 0 (oJ y1)/\∃(y2:Sl),aA (aM m8 h2 b2 0 (aR y2)) (cX m8 h2 b4 y1) (DF e y2 h2 (λr _=>OR r) (λr c3=>aH (Bw r c3) (jN m8) (cX m8 h2 b4 y1) (wT (λk1 O=>aA (kO m8 y1 k1) (rH O) (aA (O (cL r c3)) (nD (Instr.sameBits 10000 (cL r c3) (cL r c3))) (uN (∀(e1:Value×Value),rE e1 k1 O) ((∀(e1:Value×Value),pJ (List.Mem e1 k1) (e1.1=cL r c3))->∀(m9:MH),bC (jD m8 m9 y1) (kO m9 y1 (k1++wQ (cL r c3) BC)) (I (k+1) m9 h2)) (λl=>∀(v1:Value)(l1:List (Value×Value)),k1=l++lL (cL r c3) v1 l1->∀(m9:MH),bC (jD m8 m9 y1) (kO m9 y1 (l++lL (cL r c3) BC l1)) (I (k+1) m9 h2))))))))))) (λm8 h2=>BI m8 h2 t (λb5 m9 y1 S1=>qX
 S1 h2 y1 m9 (λx I k e=>eA (λa1 h3=>bC (qA x k e) (PH.le h2 h3) (I k a1 h3->∃(y2:Nat),aM a1 h3 b4 0 (oJ y2)/\∃(y3:Sl),aA (aM a1 h3 b1 0 (aR y3)) (cX a1 h3 b4 y2) (FO e y3 h3 a1 (cX a1 h3 b4 y2) (λ_ _=>aM a1 h3 b1 0 (aR y3)) (λr c3=>Jl a1 y2 (λO=>O (cL r c3)) (λk1 e1=>pJ (List.Mem e1 k1) (e1.1=cL r c3)) (I (k+1) a1 h3) (cL r c3) (Dt a1 h3 b5 (λy4 x1=>iH (λs1 a2=>eZ a1 a2 (dR y4) s1 74 1 (kB x1 e)->eX (λc4 E3=>aA (oX a2 b5 (dV c4 E3 0)) (0<c4.size) (∀(a3:MH),bE a2 a3 b5 (eU (eR s1) 1 c4) E3->I (k+1) a3 h3)))))))))) (λa1 h3=>∃(y2:Sl),aM a1 h3 b5 0 (aR y2)/\K (kU y2) a1 h3))))))))))))))))))
def Ba(m mx:MH)(b:Nat):Prop:=∀x o,m x=some o->x≠b->mx x=some o
structure mY(m mx:MH)(b:Nat)(us:List Sl):Prop where
 ex:∃s:Sl,mx b=some (.cells #[.slice s.a s.len s.cap] 53 (0,0))/\dW mx s 74 1 (us.map eS)/\∀i x,s.a=some ⟨x,i,none⟩->m x=none
theorem mY.new(hb:m' b=some (.cells #[tT] 53 (0,0))):mY m m' b []:=⟨⟨none,0,0⟩,hb,⟨AU [],.inl ⟨rfl,rfl⟩⟩,λi x e=>by cases e⟩
theorem FC{mx:MH}{s:Sl}{us:List Sl}{e:Sl}{Q:MH->Prop}(hmb:∃o,m b=some o)(hs:Ba m mx b)(hb:mx b=some (.cells #[.slice s.a s.len s.cap] 53 (0,0)))(hrow:dW mx s 74 1 (us.map eS))(hfr:∀i x,s.a=some ⟨x,i,none⟩->m x=none)(hl:us.length<=502633886983)(hQ:∀m',Ba m m' b->mY m m' b (us++[e])->Q m'):
 ∃xs:List (List Value),dW mx (Sl.mk s.a s.len s.cap) 74 1 xs/\(xs.length+1)*24<=140737488355328/\xs.length<140737488355328/\∀(s':Sl)(m':MH),eZ mx m' (Sl.mk s.a s.len s.cap) s' 74 1 (xs++[[eR e]])->
  ∃(cs:Array Value)(E:TypeId),oX m' b (.cells cs E (0,0))/\0<cs.size/\∀m2:MH,fV m' m2 b (.cells (Array.mk (eR s'::cs.toList.drop 1)) E (0,0))->Q m2:=by
 obtain⟨ob,hmb⟩:=hmb;have hnb:∀i,s.a≠some ⟨b,i,none⟩:=λi e2=>by rw[hfr i b e2]at hmb;cases hmb
 refine⟨us.map eS,hrow,by rw[List.length_map];omega,by rw[List.length_map];omega,λs' m' hg=>⟨_,_,⟨hg.other b _ hb hnb⟩,by simp,λm2 hu=>hQ m2 ?_ ⟨s',hu.at_,?_,?_⟩⟩⟩
 .intro x o hx hne;rw[hu.other x hne];exact hg.other x o (hs x o hx hne) (λi e2=>by have e2:s.a=some ⟨x,i,none⟩:=e2;rw[hfr i x e2]at hx;cases hx)
 .have e1:(us++[e]).map eS=us.map eS++[[eR e]]:=by simp[eS]
  rw[e1];refine dW.keep hg.row (λx i e2=>hu.other x (λe3=>?_));subst e3;rcases hg.fresh x i e2 with h1|⟨j,h1⟩
  .rw[hb]at h1;cases h1
  .exact hnb j h1
 .intro i x e2;rcases hg.fresh x i e2 with h1|⟨j,h1⟩
  .cases e4:m x with
   |none=>rfl
   |some o=>
    by_cases e5:x=b
    .subst e5;rw[hb]at h1;cases h1
    .rw[hs x o e4 e5]at h1;cases h1
  .exact hfr j x h1
theorem mY.app{mx:MH}{hx:PH}{us:List Sl}{e:Sl}{Q:MH->Prop}(hmb:∃o,m b=some o)(hs:Ba m mx b)(o:mY m mx b us)(hl:us.length<=502633886983)(hQ:∀m',Ba m m' b->mY m m' b (us++[e])->Q m'):
 ∃y:Sl,aM mx hx b 0 [eR y]/\∃xs:List (List Value),dW mx (Sl.mk y.a y.len y.cap) 74 1 xs/\(xs.length+1)*24<=140737488355328/\xs.length<140737488355328/\∀(s':Sl)(m':MH),eZ mx m' (Sl.mk y.a y.len y.cap) s' 74 1 (xs++[[eR e]])->
  ∃(cs:Array Value)(E:TypeId),oX m' b (.cells cs E (0,0))/\0<cs.size/\∀m2:MH,fV m' m2 b (.cells (Array.mk (eR s'::cs.toList.drop 1)) E (0,0))->Q m2:=by
 obtain⟨s,hb,hrow,hfr⟩:=o.ex;exact⟨s,.of_m hb rfl,FC hmb hs hb hrow hfr hl hQ⟩
theorem dQ.sub{hx:PH}{r:CV}(sub:Sub m m')(le:PH.le h hx)(hK:K r m hx):dQ h K r m' hx:=λ_=>⟨m,hx,sub,le,λ_ _ _ e=>.inl e,hK⟩
theorem dQ.row{hx:PH}{s:Sl}{us:List Sl}(sub:Sub m m')(le:PH.le h hx)(hr:dW m' s 74 1 (us.map eS))(hf:∀i b,s.a=some ⟨b,i,none⟩->m b=none)(hK:∀h',PH.le hx h'->cW h' s 1 (us.map eS)->K (cS s) m h'):dQ h K (cS s) m' hx:=by
 intro hd;rcases hr.ex with⟨rfl,hx0⟩|⟨b,cap,cur,rfl,hm,h1,h2,h3,h4⟩
 .refine⟨m,hx,sub,le,λb i v e=>.inl e,hK hx (.refl _) ?_⟩;rw[hx0];exact cW.nil _ _
 .have hn:∀i,hx b i=none:=hd b _ hm;refine⟨m,lU hx b cur.toList,sub,le.trans (As hn),λb' i v e=>?_,hK _ (As hn) ⟨?_,?_,?_⟩⟩
  .by_cases hb:b'=b
   .subst hb;simp only[lU,if_true]at e;exact .inr ⟨cur,74,(0,0),hm,by rw[<-Array.getElem?_toList];exact e,hf 0 b' rfl⟩
   .simp only[lU,if_neg hb]at e;exact .inl e
  .simp
  .by_cases hu:us.map eS=[]
   .exact .inl hu
   .refine .inr ⟨b,0,rfl,λi e hi=>⟨λj v hv=>?_⟩⟩;have hel:=hr.rows.len e (List.mem_of_getElem? hi);have hj:j=0:=by have:=(List.getElem?_eq_some_iff.1 hv).1;omega
    subst hj;have hlt:=(List.getElem?_eq_some_iff.1 hi).1
    have h5:((us.map eS).flatten)[i]? =some v:=by
     rw[List.getElem?_map]at hi;cases hu2:us[i]? with
     |none=>rw[hu2]at hi;cases hi
     |some u=>
      rw[hu2]at hi;simp at hi;subst hi;simp[eS]at hv;subst hv
      have:∀l:List Sl,(l.map eS).flatten=l.map λu=>Value.slice u.a u.len u.cap:=λl=>by
       induction l with
       |nil=>rfl
       |cons a l ih=>simp only[List.map_cons,List.flatten_cons,ih];rfl
      rw[this,List.getElem?_map,hu2];rfl
    rw[<-h4,List.getElem?_take,if_pos aC]at h5;simp only[lU,if_true];rw[show 0+i*1+0=i by omega];exact h5
  .exact h1
structure pP(m:MH)(y:Nat)(ks:List ByteArray):Prop where
 ex:∃kk:List ByteArray,kO m y (kk.map λk=>(Value.string k,Value.bool true))/\∀k,k∈kk↔k∈ks
theorem pP.keep{y:Nat}{ks:List ByteArray}(s:pP m y ks)(hk:m' y=m y):pP m' y ks:=by
 obtain⟨kk,⟨es,c,h1,h2,h3,h4⟩,h5⟩:=s.ex;exact⟨kk,⟨es,c,by rw[hk];exact h1,h2,h3,h4⟩,h5⟩
theorem pP.new{y:Nat}(h:m y=some (.map #[] 0)):pP m y []:=⟨[],⟨#[],0,h,rfl,by simp,by simp⟩,by simp⟩
theorem pP.get{y:Nat}{ks:List ByteArray}{key:ByteArray}{K:Bool->Prop}(s:pP m y ks)(hK:∀t:Bool,(t=true↔key∈ks)->K t):
 ∃(kvs:List (Value×Bool))(Ok:Value->Prop),AD m y (kvs.map λp=>(p.1,Value.bool p.2))/\KeyLaw Tryz.prog 9 Ok/\Ok (.string key)/\(∀e,List.Mem e kvs->Ok e.1)/\((∀e,List.Mem e kvs->e.1=Value.string key->False)->K false)/\∀t,List.Mem (Value.string key,t) kvs->K t:=by
 obtain⟨kk,⟨es,c,h1,h2,_,_⟩,h5⟩:=s.ex;refine⟨kk.map λk=>(Value.string k,true),_,⟨es,c,h1,by rw[h2];simp⟩,Bj,⟨key,rfl⟩,λe he=>?_,λhn=>hK false ⟨λe=>(by cases e),λhk=>?_⟩,λt ht=>hK t ⟨λ_=>?_,λ_=>?_⟩⟩
 .obtain⟨k,_,rfl⟩:=List.mem_map.1 (show e∈_ from he);exact⟨k,rfl⟩
 .exact(hn (Value.string key,true) (List.mem_map.2 (⟨key,(h5 key).2 hk,rfl⟩:∃a,a∈kk/\(Value.string a,true)=(Value.string key,true))) rfl).elim
 .obtain⟨k,hk,e⟩:=List.mem_map.1 (show(Value.string key,t)∈_ from ht);simp only[Prod.mk.injEq,Value.string.injEq]at e;rw[<-e.1];exact(h5 k).1 hk
 .obtain⟨k,hk,e⟩:=List.mem_map.1 (show(Value.string key,t)∈_ from ht);simp only[Prod.mk.injEq]at e;exact e.2.symm
theorem Pe(key:ByteArray):Instr.sameBits 10000 (Value.string key) (Value.string key)=true:=by
 show(key==key)=true;cases key with
 |mk d=>exact beq_self_eq_true d
theorem pP.put{y:Nat}{ks:List ByteArray}{key:ByteArray}{Q:MH->Prop}(s:pP m y ks)(hQ:∀m':MH,jD m m' y->pP m' y (key::ks)->Q m'):
 ∃(kvs:List (Value×Value))(Ok:Value->Prop),kO m y kvs/\KeyLaw Tryz.prog 9 Ok/\Ok (.string key)/\Instr.sameBits 10000 (Value.string key) (Value.string key)=true/\(∀e,List.Mem e kvs->Ok e.1)/\((∀e,List.Mem e kvs->e.1=Value.string key->False)->∀m':MH,jD m m' y->kO m' y (kvs++[(Value.string key,Value.bool true)])->Q m')/\
  ∀(l1:List (Value×Value))(v0:Value)(l2:List (Value×Value)),kvs=l1++(Value.string key,v0)::l2->∀m':MH,jD m m' y->kO m' y (l1++(Value.string key,Value.bool true)::l2)->Q m':=by
 obtain⟨kk,hm,h5⟩:=s.ex;refine⟨_,_,hm,Bj,⟨key,rfl⟩,Pe key,λe he=>?_,λhn m' hs hm'=>hQ m' hs ⟨kk++[key],by simpa using hm',λk=>?_⟩,λl1 v0 l2 e m' hs hm'=>hQ m' hs ⟨kk,?_,λk=>?_⟩⟩
 .obtain⟨k,_,rfl⟩:=List.mem_map.1 (show e∈_ from he);exact⟨k,rfl⟩
 .simp[h5,or_comm]
 .have:(Value.string key,v0)∈kk.map λk=>(Value.string k,Value.bool true):=by rw[e];simp
  obtain⟨k,_,e2⟩:=List.mem_map.1 this;simp only[Prod.mk.injEq]at e2;rw[<-e2.2]at e;rw[e];exact hm'
 .have:(Value.string key,v0)∈kk.map λk=>(Value.string k,Value.bool true):=by rw[e];simp
  obtain⟨k2,hk2,e2⟩:=List.mem_map.1 this;simp only[Prod.mk.injEq,Value.string.injEq]at e2;rw[h5];constructor
  .exact List.mem_cons_of_mem _
  .intro h;rcases List.mem_cons.1 h with rfl|h
   .rw[<-e2.1];exact(h5 k2).1 hk2
   .exact h
theorem Dk.get{t:Sl}{bs:List Nat}{ls:List (List (List VV))}(a:Dk h t bs ls){l:List (List VV)}(hl:ls[i]? =some l):∃b off x,t.a=some ⟨b,off,none⟩/\(i:Int)<(t.len:Int)/\bF h b (off+i) [Lz x]/\LI h x l:=by
 have hi:=(List.getElem?_eq_some_iff.1 hl).1;have hb:bs[i]? =some (bs[i]'(by rw[a.len];exact hi)):=List.getElem?_eq_getElem _;obtain⟨b,o,e,rd⟩:=a.row.get (i:=i) (e:=[Lz (bs[i]'(by rw[a.len];exact hi))]) (by simp[hb]);have hlen:=a.row.len;simp only[List.length_map]at hlen;have:=a.len;exact⟨b,o,_,e,aC,by simpa using rd,a.at_ i _ l hb hl⟩
theorem fD.at'{us:List Sl}{rs:List (List VV)}(x:fD h us rs){u:Sl}(hu:us[i]? =some u):∃r,rs[i]? =some r/\cR h u r:=by
 have hi:=(List.getElem?_eq_some_iff.1 hu).1;obtain⟨v,h1,h2⟩:=x.at_ i _ (List.getElem?_eq_getElem (by rw[<-x.len];exact hi));rw[hu]at h1;cases h1;exact⟨_,List.getElem?_eq_getElem (by rw[<-x.len];exact hi),h2⟩
theorem j4{α:Type}{l:List α}{x:α}(p:α->Bool)(hx:l[k]? =some x):(l.take (k+1)).filter p=(l.take k).filter p++(if p x then[x]else[]):=by
 rw[List.take_add_one,hx,Option.toList_some,List.filter_append];congr 1;cases e:p x<;>simp[e]
theorem Sub.x{m1 mx:MH}(h:Sub m m1)(hb:m b=none)(hx:Ba m1 mx b):Sub m mx:=λx o hxo=>hx x o (h x o hxo) (λe=>by rw[e,hb]at hxo;cases hxo)
def Ep(n:Nat):Query->List (List (List VV))->Prop:=λ_ ls=>n<=ls.length/\∀l∈ls,∃w,i7 w l
def Gp(q:Query)(ls:List (List (List VV))):List (List VV):=match q with|.mk _ _ w _ _ _ _ _ _=>(ls.getD 0 []).filter λr=>lM r w
theorem Cv{ls:List (List (List VV))}{i:Nat}(h:i<ls.length):ls[i]? =some (ls.getD i []):=by
 rw[List.getD_eq_getElem?_getD,List.getElem?_eq_getElem h];rfl
theorem Ev{f:FuncId}{fn:Func}(hf:Tryz.prog.funcs[f]? =some fn){S:Vc.Spec}(hvc:∀cvs m h K,S cvs m h K->∃C:Ctx,C.P=Tryz.prog/\(∀g S,assoc C.specs g=some S->Sound Tryz.prog g S)/\∃N:Prop,N=T5 C fn (cQ fn) (entry fn.ntmps cvs m h) (dQ h K)/\N)(hb:fn.body=some (cQ fn):=by rfl)(hname:(fn.name== "runtime.NumGoroutine")=false:=by decide):Sound Tryz.prog f S:=RQ hf hb hname λcvs m h K hS=>let⟨C,hC,hs,N,e,hn⟩:=hvc cvs m h K hS;⟨C,hC,hs,e▸hn⟩
theorem SC:Sound Tryz.prog 148 (OS (Ep 1) Gp):=by
 refine Ev Tryz.func148 ?_;rintro cvs m h K ⟨v,t,q,bs,ls,rfl,hq,ha,_,hok,hK⟩;refine⟨On [(183,Ya)] [] [] [200002,200005,1053],rfl,aD Sn aF,HD v t m h (dQ h K),by kernel_rfl,?_⟩;show HD v t m h (dQ h K);dsimp only[HD,push_cast];intro b m1 hb1 hu1 b2 m2 hb2 hu2;have hsub1:Sub m m1:=(Sub.refl m).upd hb1.m_ hu1.other
 have hn2:m b2=none:=by
  cases e:m b2 with
  |none=>rfl
  |some o=>have e1:=hsub1 b2 o e;rw[hb2.m_]at e1;cases e1
 have hsub2:Sub m m2:=hsub1.upd hn2 hu2.other;have hne:b≠b2:=λe=>by have:=hb2.m_;rw[<-e,hu1.at_]at this;cases this
 obtain⟨b3,off,x,ea,hlt,rd,sq⟩:=ha.get (Cv (i:=0) (by have:=hok.1;omega));obtain⟨us,hseq,hru⟩:=sq.ex;obtain⟨op,ta,w,co,on,gr,od,li,args⟩:=q;have xq:=hq.parts;obtain⟨wd,hrel⟩:=hok.2 _ (List.mem_of_getElem? (Cv (i:=0) (by have:=hok.1;omega)));simp only[Gp]at hK;generalize ls.getD 0 []=l at hseq hru hK hrel sq;have hul:=hru.len;have hll:=hrel.len;refine⟨b3,off,ea,aC,aC,x,.imm rd,uU,us,λk mx hx=>hx=h/\Ba m2 mx b2/\∃us2,mY m2 mx b2 us2/\us2.length<=k/\fD h us2 ((l.take k).filter λr=>lM r w),tL,⟨x,us,rfl,hseq,rfl⟩,⟨rfl,λx o e _=>e,[],mY.new hu2.at_,by simp,by simpa using fD.nil h⟩,?_,?_⟩
 .rintro k e mx hx hk-⟨rfl,hs,us2,hout,hl2,hr2⟩
  obtain⟨r,hr,hv⟩:=hru.at' hk;have hkl:=(List.getElem?_eq_some_iff.1 hk).1;refine⟨v.where_,.of_m (hs b _ (by rw[hu2.other b hne];exact hu1.at_) hne) rfl,v.where_,e,w,r,rfl,xq.where_,hv,aB (λht=>?_) (λhf=>?_)⟩
  .refine mY.app ⟨_,hu2.at_⟩ hs hout aC (λm' hs' ho'=>⟨rfl,hs',us2++[e],ho',by simp;omega,?_⟩);rw[j4 _ hr,if_pos ht];exact hr2.snoc hv
  .refine⟨rfl,hs,us2,hout,aC,?_⟩;rw[j4 _ hr,if_neg (by simp[hf]),List.append_nil];exact hr2
 .rintro mx hx-⟨rfl,hs,us2,hout,hl2,hr2⟩
  rw[hul,List.take_length]at hr2;obtain⟨s,hb,hrow,hfr⟩:=hout.ex;refine⟨s,.of_m hb rfl,dQ.row (hsub2.x hn2 hs) (.refl _) hrow (λi y e=>?_) (λh' le hri=>hK s h' le ((hr2.mono le).rows hri (by have:=hr2.len;omega)))⟩;cases e2:m y with
  |none=>rfl
  |some o=>have e1:=hfr i y e;rw[hsub2 y o e2]at e1;cases e1
theorem fD.app{us vs:List Sl}{a b:List (List VV)}(x:fD h us a)(y:fD h vs b):fD h (us++vs) (a++b):=by
 refine⟨by simp[x.len,y.len],λj r hr=>?_⟩;have hl:=x.len;by_cases hj:j<a.length
 .rw[List.getElem?_append_left hj]at hr;obtain⟨u,h1,h2⟩:=x.at_ j r hr;exact⟨u,by rw[List.getElem?_append_left aC];exact h1,h2⟩
 .rw[List.getElem?_append_right aC]at hr;obtain⟨u,h1,h2⟩:=y.at_ _ r hr;exact⟨u,by rw[List.getElem?_append_right aC,hl];exact h1,h2⟩
def ND(_:Query)(ls:List (List (List VV))):List (List VV):=Bk (ls.getD 0 []++ls.getD 1 [])
theorem Sy:Sound Tryz.prog 152 (OS (Ep 2) ND):=by
 refine Gm Tryz.func152 ?_;rintro cvs m h K ⟨v,t,q,bs,ls,rfl,_,ha,_,hok,hK⟩;refine⟨dN [(189,Rm),(188,OQ),(74,ZF)] [] [] [] false,rfl,aD Sj (aD KM (aD Hk aF)),Hz v t m h (lE h K),by kernel_rfl,?_⟩;show Hz v t m h (lE h K);dsimp only[Hz,push_cast];have h2:=hok.1;obtain⟨b,off,x,ea,hlt,rd,sq⟩:=ha.get (Cv (i:=0) aC);obtain⟨b',off',x',ea',hlt',rd',sq'⟩:=ha.get (Cv (i:=1) aC);obtain⟨us,hseq,hru⟩:=sq.ex;obtain⟨us',hseq',hru'⟩:=sq'.ex;obtain⟨_,hrel⟩:=hok.2 _ (List.mem_of_getElem? (Cv (i:=0) aC));obtain⟨_,hrel'⟩:=hok.2 _ (List.mem_of_getElem? (Cv (i:=1) aC));have l1:=hrel.len;have l2:=hrel'.len;have l3:=hru.len;refine⟨b,off,ea,aC,aC,x,.imm rd,b',off',ea',aC,aC,x',.imm rd',rd',x,us,rfl,hseq,λs1 m1 hr1 hs1 hf1=>⟨rd,s1,x',us,us',rfl,hr1,hseq',aC,λs2 m2 hr2 hs2 hf2=>⟨rd,rd',s2,us++us',_,rfl,hr2.src,hru.app hru',by rw[List.length_append];omega,λs3 h3 le3 hr3=>?_⟩⟩⟩;refine⟨m,h3,λy o hy=>hs2 y o (hs1 y o hy) (λi e=>?_),le3,.refl _,hK s3 h3 le3 hr3⟩;rw[hf1 y i e]at hy;cases hy
def Po(q:Query)(ls:List (List (List VV))):List (List VV):=match q with|.mk _ _ _ co _ _ _ _ _=>Bk ((ls.getD 0 []).map λr=>pick r co)
def Kb(q:Query)(ls:List (List (List VV))):Prop:=match q with|.mk _ _ _ co _ _ _ _ _=>1<=ls.length/\co.length<=12/\∃w,i7 w (ls.getD 0 [])/\iR w co
theorem SB:Sound Tryz.prog 149 (OS Kb Po):=by
 refine Ev Tryz.func149 ?_;rintro cvs m h K ⟨v,t,q,bs,ls,rfl,hq,ha,_,hok,hK⟩;refine⟨Xk,rfl,aD Hk aF,HC v t m h (dQ h K),by kernel_rfl,?_⟩;show HC v t m h (dQ h K);dsimp only[HC,push_cast];obtain⟨op,ta,w,co,on,gr,od,li,args⟩:=q;obtain⟨hl1,hco,wd,hrel,hcols⟩:=hok;intro b m1 hb1 hu1 b2 m2 hb2 hu2;have hsub1:Sub m m1:=(Sub.refl m).upd hb1.m_ hu1.other
 have hn2:m b2=none:=by
  cases e:m b2 with
  |none=>rfl
  |some o=>have e1:=hsub1 b2 o e;rw[hb2.m_]at e1;cases e1
 have hsub2:Sub m m2:=hsub1.upd hn2 hu2.other;have hne:b≠b2:=λe=>by have:=hb2.m_;rw[<-e,hu1.at_]at this;cases this
 obtain⟨b3,off,x,ea,hlt,rd,sq⟩:=ha.get (Cv (i:=0) aC);obtain⟨us,hseq,hru⟩:=sq.ex;have xq:=hq.parts;have hcl:=xq.columns_.slen;simp only[Po]at hK;generalize ls.getD 0 []=l at hseq hru hK hrel sq;have hul:=hru.len;have hll:=hrel.len;refine⟨b3,off,ea,aC,aC,x,.imm rd,uU,us,λk mx hx=>PH.le h hx/\Ba m2 mx b2/\∃us2,mY m2 mx b2 us2/\us2.length<=k/\fD hx us2 ((l.take k).map λr=>pick r co),tL,⟨x,us,rfl,hseq,rfl⟩,⟨.refl _,λx o e _=>e,[],mY.new hu2.at_,by simp,by simpa using fD.nil h⟩,?_,?_⟩
 .rintro k e mx hx hk-⟨le,hs,us2,hout,hl2,hr2⟩
  obtain⟨r,hr,hv⟩:=hru.at' hk;have hkl:=(List.getElem?_eq_some_iff.1 hk).1;have hmq:mx b=some (.cells ⟨v.enc⟩ 38 (0,0)):=hs b _ (by rw[hu2.other b hne];exact hu1.at_) hne;have hrw:=hrel.wid r (List.mem_of_getElem? hr);have hv':=cR.mono hv le;have hvl:=bV.slen hv';have hpl:(pick r co).length=co.length:=by simp[pick]
  refine⟨v.columns,.of_m hmq rfl,aC,aC,aC,aC,v.columns,.of_m hmq rfl,λz=>z.1<=co.length/\z.2.1=b2/\z.2.2.1=e/\z.2.2.2.1=v.columns/\z.2.2.2.2.1=(pick r co).take z.1++List.replicate (co.length-z.1) zeroV/\z.2.2.2.2.2.1=mx/\z.2.2.2.2.2.2=hx,λz=>co.length-z.1,⟨(0,b2,e,v.columns,List.replicate co.length zeroV,mx,hx),⟨by simp,rfl,rfl,rfl,by simp,rfl,rfl⟩,?_⟩,?_⟩
  .dsimp only;rw[List.map_replicate,show((v.columns.len:Int)).toNat=co.length by omega];exact MT
  .rintro⟨i,bb,ee,cc,cells,my,hy⟩ ⟨hi,e1,e2,e3,e4,e5,e6⟩;dsimp only at hi e1 e2 e3 e4 e5 e6;subst e1 e2 e3 e4 e5 e6;refine aE (λhlt2=>?_) (λhge=>?_)
   .dsimp only at hlt2⊢
    obtain⟨c,hci⟩:=fI hcl hlt2;obtain⟨b4,o4,e4,rd4⟩:=(xq.columns_.mono le).at hci;obtain⟨y,hy1,hy2,h0,h1⟩:=NW (r:=r) (by rw[hrw];exact hcols) hci;obtain⟨b5,o5,y',e5,rd5,rfl⟩:=bV.at hv' hy1;have hil:i<co.length:=by omega
    have hset:((pick r co).take i++List.replicate (co.length-i) zeroV).set i y=(pick r co).take (i+1)++List.replicate (co.length-(i+1)) zeroV:=by
     rw[List.set_append,if_neg (by simp;omega)];rw[List.take_add_one,hy2,Option.toList_some,List.append_assoc];congr 1;rw[show co.length-i=(co.length-(i+1))+1 by omega,List.replicate_succ];simp[hpl,Nat.min_eq_left (Nat.le_of_lt hil)]
    have hcell:(((pick r co).take i++List.replicate (co.length-i) zeroV).map VV.enc)[i]? =some (VV.enc zeroV):=by
     rw[List.getElem?_map,List.getElem?_append_right (by simp;omega),List.getElem?_replicate,if_pos (by simp;omega)];rfl
    refine⟨b4,o4,e4,aC,aC,c,.imm (by simpa using rd4),b5,o5,e5,h0,aC,y,.imm rd5,aC,by simp;omega,_,hcell,by simp[VV.enc],(i+1,bb,ee,v.columns,(pick r co).take (i+1)++List.replicate (co.length-(i+1)) zeroV,my,hy),⟨by dsimp only;omega,rfl,rfl,rfl,rfl,rfl,rfl⟩,(by dsimp only;omega),?_⟩;dsimp only;refine⟨rfl,rfl,rfl,rfl,rfl,by rw[jA aC],?_,rfl,rfl,trivial⟩;rw[<-hset,List.map_set];rfl
   .dsimp only at hge⊢
    have:i=co.length:=by omega
    subst this;rw[List.take_of_length_le aC,Nat.sub_self,List.replicate_zero,List.append_nil];obtain⟨s,hb,hrow,hfr⟩:=hout.ex;refine⟨s,.of_m hb rfl,λs3 h3 le3 hr3=>FC ⟨_,hu2.at_⟩ hs hb hrow hfr aC (λm' hs' ho'=>⟨le.trans le3,hs',us2++[s3],ho',by simp;omega,?_⟩)⟩
    have e6:(l.take (k+1)).map (λr=>pick r co)=(l.take k).map (λr=>pick r co)++[pick r co]:=by
     rw[List.take_add_one,hr];simp
    rw[e6];exact(hr2.mono le3).snoc ⟨⟨_,hr3,rfl,λi x hx=>⟨x,hx,rfl⟩⟩,by rw[hpl];omega⟩
 .rintro mx hx-⟨le,hs,us2,hout,hl2,hr2⟩
  rw[hul,List.take_length]at hr2;obtain⟨s,hb,hrow,hfr⟩:=hout.ex;refine⟨s,.of_m hb rfl,s,us2,_,rfl,hrow.src,hr2,by simp;omega,λs3 h3 le3 hr3=>dQ.sub (hsub2.x hn2 hs) (le.trans le3) (hK s3 h3 (le.trans le3) hr3)⟩
theorem hZ{m0:MH}{o:Obj}(hs:Sub m0 m)(hn:cM m h b)(hu:fV m m' b o):Sub m0 m'/\m0 b=none:=by
 have h1:m0 b=none:=by
  cases e:m0 b with
  |none=>rfl
  |some x=>have e1:=hs b x e;rw[hn.m_]at e1;cases e1
 exact⟨hs.upd h1 hu.other,h1⟩
theorem mem_keys{l:List (List VV)}{w k:Nat}{x:List VV}(hl:i7 w l)(hx:OR x)(hw:x.length=w):dD x∈(l.take k).map dD↔x∈l.take k:=by
 constructor
 .intro h;obtain⟨y,hy,e⟩:=List.mem_map.1 h;have hyl:=List.mem_of_mem_take hy;rw[(ER (by rw[hl.wid y hyl,hw]) (hl.row y hyl).val hx.val).1 e]at hy;exact hy
 .exactλh=>List.mem_map.2 ⟨x,h,rfl⟩
theorem KL:Sound Tryz.prog 190 OP:=by
 refine Ev Tryz.func190 ?_;rintro cvs m h K ⟨t,i,bs,ls,w,rfl,ha,hT,h2,hok,hK⟩;refine⟨On [(210,UL)] [] [] [200003,200005,200007,1053,400000,0],rfl,aD Sb aF,Hv t i m h (dQ h K),by kernel_rfl,?_⟩;show Hv t i m h (dQ h K);dsimp only[Hv,push_cast];intro b3 m1 hb1 hu1 by_ m2 hb2 hu2 b5 m3 hb3 hu3;obtain⟨s1,n3⟩:=hZ (Sub.refl m) hb1 hu1;obtain⟨s2,ny⟩:=hZ s1 hb2 hu2;obtain⟨s3,n5⟩:=hZ s2 hb3 hu3;refine⟨_,_,⟨hu3.at_⟩,by simp,λm4 hu4=>?_⟩;have s4:Sub m m4:=s3.upd n5 hu4.other;have hyne:by_≠b5:=λe=>by have:=hb3.m_;rw[<-e,hu2.at_]at this;cases this
 have h3ne:b3≠b5:=λe=>by have:=hb3.m_;rw[<-e,hu2.other b3 (λe2=>by have:=hb2.m_;rw[<-e2,hu1.at_]at this;cases this),hu1.at_]at this;cases this
 have h3y:b3≠by_:=λe2=>by have:=hb2.m_;rw[<-e2,hu1.at_]at this;cases this
 have m4y:m4 by_=some (.map #[] 0):=by rw[hu4.other by_ hyne,hu3.other by_ hyne];exact hu2.at_
 have m43:m4 b3=some (.cells #[.bool i] 4 (0,0)):=by rw[hu4.other b3 h3ne,hu3.other b3 h3ne,hu2.other b3 h3y];exact hu1.at_
 have m45:m4 b5=some (.cells #[.map (some by_)] 177 (0,0)):=hu4.at_;obtain⟨b,off,x,ea,hlt,rd,sq⟩:=ha.get (Cv (i:=1) aC);obtain⟨us',hseq',hru'⟩:=sq.ex;have hrel':=hok _ (List.mem_of_getElem? (Cv (i:=1) aC));have hrel:=hok _ (List.mem_of_getElem? (Cv (i:=0) aC));obtain⟨b6,off6,x6,ea6,hlt6,rd6,sq6⟩:=ha.get (Cv (i:=0) aC);obtain⟨us,hseq,hru⟩:=sq6.ex;generalize ls.getD 1 []=l' at hru' hrel' hK sq;generalize ls.getD 0 []=l at hru hrel hK sq6;have hul:=hru.len;have hll:=hrel.len;have hul':=hru'.len;refine⟨b,off,ea,aC,aC,x,.imm rd,uU,us',λk mx hx=>hx=h/\(∀z o,m4 z=some o->z≠by_->mx z=some o)/\pP mx by_ ((l'.take k).map dD),tL,⟨x,us',rfl,hseq',rfl⟩,⟨rfl,λz o e _=>e,by simpa using pP.new m4y⟩,?_,?_⟩
 .rintro k e mx hx hk-⟨rfl,hs,hsn⟩
  obtain⟨r,hr,hv⟩:=hru'.at' hk;have hrl:=List.mem_of_getElem? hr;have r5:aM mx hx b5 0 [Value.map (some by_)]:=.of_m (hs b5 _ m45 (Ne.symm hyne)) rfl;refine⟨by_,r5,r5,e,r,rfl,hv,hrel'.row r hrl,hT.sub (λz o e2=>hs z o (s4 z o e2) (λe3=>by rw[e3,ny]at e2;cases e2)),r5,hsn.put (λm' hs' hsn'=>⟨rfl,λz o e2 hne=>by rw[hs'.other z hne];exact hs z o e2 hne,?_⟩)⟩;obtain⟨kk,h5,h6⟩:=hsn'.ex;exact⟨kk,h5,λq=>by rw[h6,List.take_add_one,hr];simp[or_comm]⟩
 .rintro mx hx-⟨rfl,hs,hsn⟩ b7 m5 hb5 hu5;rw[hul',List.take_length]at hsn;have s5:Sub m mx:=λz o e2=>hs z o (s4 z o e2) (λe3=>by rw[e3,ny]at e2;cases e2);obtain⟨s6,n7⟩:=hZ s5 hb5 hu5;have ne7:∀z o,mx z=some o->z≠b7:=λz o e2 e3=>by rw[e3,hb5.m_]at e2;cases e2
  have y7:by_≠b7:=by
   obtain⟨kk,⟨es,c,h1,_⟩,_⟩:=hsn.ex;exact ne7 by_ _ h1
  have m55:m5 b5=some (.cells #[.map (some by_)] 177 (0,0)):=by rw[hu5.other b5 (ne7 b5 _ (hs b5 _ m45 (Ne.symm hyne)))];exact hs b5 _ m45 (Ne.symm hyne)
  have m53:m5 b3=some (.cells #[.bool i] 4 (0,0)):=by rw[hu5.other b3 (ne7 b3 _ (hs b3 _ m43 h3y))];exact hs b3 _ m43 h3y
  have hsn5:pP m5 by_ (l'.map dD):=hsn.keep (hu5.other by_ y7);have n57:b5≠b7:=ne7 b5 _ (hs b5 _ m45 (Ne.symm hyne));have n37:b3≠b7:=ne7 b3 _ (hs b3 _ m43 h3y);refine⟨b6,off6,ea6,aC,aC,x6,.imm rd6,uU,us,λk my hy=>hy=hx/\Ba m5 my b7/\∃us2,mY m5 my b7 us2/\us2.length<=k/\fD hx us2 ((l.take k).filter λz=>Lu l' z==i),tL,⟨x6,us,rfl,hseq,rfl⟩,⟨rfl,λz o e _=>e,[],mY.new hu5.at_,by simp,by simpa using fD.nil hx⟩,?_,?_⟩
  .rintro k e my hy hk-⟨rfl,hs7,us2,hout,hl2,hr2⟩
   obtain⟨r,hr,hv⟩:=hru.at' hk;have hkl:=(List.getElem?_eq_some_iff.1 hk).1;have hrl:=List.mem_of_getElem? hr;have r5:aM my hy b5 0 [Value.map (some by_)]:=.of_m (hs7 b5 _ m55 n57) rfl;have r3:aM my hy b3 0 [Value.bool i]:=.of_m (hs7 b3 _ m53 n37) rfl
   have hsn7:pP my by_ (l'.map dD):=by
    obtain⟨kk,⟨es,c,h1,h2,h3,h4⟩,h5⟩:=hsn5.ex;exact⟨kk,⟨es,c,hs7 by_ _ h1 y7,h2,h3,h4⟩,h5⟩
   have key:∀t:Bool,(t=true↔dD r∈l'.map dD)->t=Lu l' r:=λt ht=>by
    have h1:=mem_keys (k:=l'.length) hrel' (hrel.row r hrl) (hrel.wid r hrl);rw[List.take_length]at h1;rw[h1]at ht;cases t
    .cases e2:Lu l' r with
     |false=>rfl
     |true=>exact ht.2 (Gj.1 e2)
    .exact(Gj.2 (ht.1 rfl)).symm
   refine⟨by_,r5,i,r3,r5,r3,e,r,rfl,hv,hrel.row r hrl,hT.sub (s6.x n7 hs7),r5,r3,r3,hsn7.get (K:=λt=>branch (t==i) _ _) (λt ht=>?_)⟩;have e3:=key t ht;refine aB (λh1=>?_) (λh1=>?_)
   .refine mY.app ⟨_,hu5.at_⟩ hs7 hout aC (λm' hs' ho'=>⟨rfl,hs',us2++[e],ho',by simp;omega,?_⟩);rw[j4 _ hr,if_pos (by rw[<-e3];exact h1)];exact hr2.snoc hv
   .refine⟨rfl,hs7,us2,hout,aC,?_⟩;rw[j4 _ hr,if_neg (by rw[<-e3,h1];simp),List.append_nil];exact hr2
  .rintro my hy-⟨rfl,hs7,us2,hout,hl2,hr2⟩
   rw[hul,List.take_length]at hr2;obtain⟨s,hb,hrow,hfr⟩:=hout.ex;refine⟨s,.of_m hb rfl,dQ.row (s6.x n7 hs7) (.refl _) hrow (λj y e=>?_) (λh' le hri=>hK s h' le ((hr2.mono le).rows hri (by have:=hr2.len;omega)))⟩;cases e2:m y with
   |none=>rfl
   |some o=>have e1:=hfr j y e;rw[s6 y o e2]at e1;cases e1
def AG(_:Query)(ls:List (List (List VV))):Prop:=2<=ls.length/\∃w,∀l∈ls,i7 w l
def N3(_:Query)(ls:List (List (List VV))):List (List VV):=(ls.getD 0 []).filter λx=>Lu (ls.getD 1 []) x==false
def Ob(_:Query)(ls:List (List (List VV))):List (List VV):=(ls.getD 0 []).filter λx=>Lu (ls.getD 1 []) x==true
theorem Sx:Sound Tryz.prog 153 (OS AG N3):=by
 refine iJ Tryz.func153 ?_;rintro cvs m h K ⟨v,t,q,bs,ls,rfl,_,ha,hT,⟨h2,w,hok⟩,hK⟩;refine⟨dN [(190,OP)] [] [] [] false,rfl,aD KL aF,VZ v t m h K,by kernel_rfl,?_⟩;exact⟨t,false,bs,ls,w,rfl,ha,hT,h2,hok,hK⟩
theorem Sw:Sound Tryz.prog 154 (OS AG Ob):=by
 refine iJ Tryz.func154 ?_;rintro cvs m h K ⟨v,t,q,bs,ls,rfl,_,ha,hT,⟨h2,w,hok⟩,hK⟩;refine⟨dN [(190,OP)] [] [] [] false,rfl,aD KL aF,VY v t m h K,by kernel_rfl,?_⟩;exact⟨t,true,bs,ls,w,rfl,ha,hT,h2,hok,hK⟩
def iA:List (Int×Bool)->List VV->List VV->Int
 |[],a,b=>eE a b
 |(c,dn)::r,a,b=>if 0<=c/\c<a.length/\c<b.length then(if kT (a.getD c.toNat zeroV) (b.getD c.toNat zeroV)≠0 then(if dn then-kT (a.getD c.toNat zeroV) (b.getD c.toNat zeroV)else kT (a.getD c.toNat zeroV) (b.getD c.toNat zeroV))else iA r a b)else iA r a b
def Dj:Vc.Spec:=λcvs m h K=>∃o s t od a b,cvs=[cS o,cS s,cS t]/\jC h o od/\cR h s a/\cR h t b/\K (cI (iA od a b)) m h
def Nt:Vc.Spec:=λcvs m h K=>∃s t bq v od a b,cvs=[cS s,cS t,cP bq]/\m bq=some (.cells ⟨QV.enc v⟩ 38 (0,0))/\jC h v.order od/\cR h s a/\cR h t b/\K (cI (iA od a b)) m h
def ZL:Vc.Spec:=λcvs m h K=>∃i:Nat,∃bq bg br v od g s rs r x,cvs=[cI i,cP bq,cP bg,cP br]/\m bq=some (.cells ⟨QV.enc v⟩ 38 (0,0))/\m bg=some (.cells #[Sl.val g] 53 (0,0))/\m br=some (.cells #[Sl.val s] 74 (0,0))/\jC h v.order od/\Rows h g rs/\cR h s r/\rs[i]? =some x/\
 K (cB (decide (iA od x r>=0))) m h
def XT:Vc.Spec:=λcvs m h K=>∃(s:Sl)(bq:Nat)(v:QV)(od:List (Int×Bool))(w:Nat)(ps:List (Sl×List VV)),cvs=[cS s,.val (.func (.func 211) #[] #[.pointer (some ⟨bq,0,none⟩)])]/\m bq=some (.cells ⟨QV.enc v⟩ 38 (0,0))/\(∀i,s.a≠some ⟨bq,i,none⟩)/\jC h v.order od/\dW m s 74 1 (ps.map λp=>eS p.1)/\(∀p∈ps,cR h p.1 p.2)/\(∀p∈ps,p.2.length=w)/\ps.length<=140737488355328/\
 ∀(ps':List (Sl×List VV))(m':MH),ps'.Perm ps->ps'.Pairwise (λp q=>¬iA od q.2 p.2<0)->dW m' s 74 1 (ps'.map λp=>eS p.1)->(∀b,(∀i,s.a≠some ⟨b,i,none⟩)->m' b=m b)->K (.tup []) m' h
noncomputable def Y7(o s t:Sl)(m:MH)(h:PH):Ctx:=
 dN [(70,Nu),(71,GK)] [(2,{A:=Nat,st:=λi=>cE 55 58 [(1,sv s),(2,sv t),(10,sv o),(11,iv o.len),(12,iv i)] [] m h})] [] [] false
def Qr(o s t:Sl)(m:MH)(h:PH)(K:CV->MH->PH->Prop):Prop:=
  mT (λI x=>aA (I x) (aK s) (aA (aK t) (aK o) (aA (bK o) (bG x) (aA (m=m) (h=h) True)))) (λI m1 x=>I x->bD (↑x:Int) (aG o) (aT (λb o1=>aH (aU o.a b o1) (0<=(↑x:Int)) ((↑x:Int)<aG o) (∃(y:Int×Bool),aM m h b (bB o1 x 2) (bW y.1 y.2)/\bD y.1 0 (∃(x1:Nat),aA (I x1) (m1 x1<m1 x) (aA (aK s) (aK t) (aA (aK o) (bK o) (aA (gS (aW x 1)=bX x1) (m=m) (dC h h))))) (dH (decide (y.1>=aG s)) (∃(x1:Nat),aA (I x1) (m1 x1<m1 x) (aA (aK s) (aK t) (aA (aK o) (bK o) (aA (gS (aW x 1)=bX x1) (m=m) (dC h h))))) (decide (y.1>=aG t)) (∃(x1:Nat),aA (I x1) (m1 x1<m1 x) (aA (aK s) (aK t) (aA (aK o) (bK o) (aA (gS (aW x 1)=bX x1) (m=m) (dC h h))))) (aT (λb1 o2=>aH (aU s.a b1
 o2) (0<=y.1) (y.1<aG s) (∃(y1:VV),aM m h b1 (fL o2 y.1 3) y1.enc/\aT (λb2 o3=>aH (aU t.a b2 o3) (0<=y.1) (y.1<aG t) (∃(y2:VV),aM m h b2 (fL o3 y.1 3) y2.enc/\∃(a b3:VV),bI (fR y1) (fR y2)=bI (fR a) (fR b3)/\dH (kT a b3==0) (∃(x1:Nat),aA (I x1) (m1 x1<m1 x) (aA (aK s) (aK t) (aA (aK o) (bK o) (aA (gS (aW x 1)=bX x1) (m=m) (dC h h))))) y.2 (K (fK (eB (0-kT a b3))) m h) (K (fK (kT a b3)) m h)))))))))) (z8 s t h (λa b=>K (fK (eE a b)) m h)))
abbrev FU(a b c:Sl)(d:Nat->Nat->Option Value)(e:(List (Int×Bool))->(List VV)->(List VV)->Prop):Prop:=kV (λx x1=>∃(x2:Sl)(x3:List (Int×Bool))(x4 x5:List VV),aA (dP a (gP b c)=dP x (gP x1 x2)) (jC d x x3) (aA (cR d x1 x4) (cR d x2 x5) (e x3 x4 x5)))
attribute [push_cast] FU
def VW(s t:Sl)(bq:Nat)(m:MH)(h:PH)(K:CV->MH->PH->Prop):Prop:=
  ∃(y:Sl),aM m h bq 18 (aR y)/\FU y s t h (λo a b=>K (fK (iA o a b)) m h)
def MD(i:Nat)(bq bg br:Nat)(m:MH)(h:PH)(K:CV->MH->PH->Prop):Prop:=
  ∃(y:Sl),aM m h bq 18 (aR y)/\∃(y1:Sl),aM m h bg 0 (aR y1)/\aT (λb o=>aH (aU y1.a b o) (0<=(↑i:Int)) ((↑i:Int)<aG y1) (∃(y2:Sl),aM m h b (bB o i 1) (aR y2)/\∃(y3:Sl),aA (aM m h br 0 (aR y3)) (aM m h bg 0 (aR y1)) (FU y y2 y3 h (λo1 a b1=>aM m h bg 0 (aR y1)/\K (A7 (decide (iA o1 a b1>=0))) m h))))
theorem Tm(a b:VV): -1<=kT a b/\kT a b<=1:=by
 have h1:∀x y:Int, -1<=zO x y/\zO x y<=1:=λx y=>by unfold zO;split<;>(try split)<;>omega
 have h2:=(Kr a.text.data.toList b.text.data.toList).2;have h3: -1<=LH a.text b.text/\LH a.text b.text<=1:=by unfold LH;omega
 have h4:=h1 a.kind b.kind;have h5:=h1 a.int b.int;unfold kT;split
 .exact h4
 .split
  .exact h5
  .exact h3
theorem Wf{c:Int}{dn:Bool}{r:List (Int×Bool)}{a b:List VV}(h:¬(0<=c/\c<a.length/\c<b.length)):iA ((c,dn)::r) a b=iA r a b:=by
 rw[iA,if_neg h]
theorem ZB{c:Int}{dn:Bool}{r:List (Int×Bool)}{a b:List VV}{x y:VV}(h0:0<=c)(hx:a[c.toNat]? =some x)(hy:b[c.toNat]? =some y):iA ((c,dn)::r) a b=if kT x y≠0 then(if dn then-kT x y else kT x y)else iA r a b:=by
 have h1:=(List.getElem?_eq_some_iff.1 hx).1;have h2:=(List.getElem?_eq_some_iff.1 hy).1;rw[iA,if_pos ⟨h0,aC,aC⟩];rw[List.getD_eq_getElem?_getD,List.getD_eq_getElem?_getD,hx,hy];rfl
theorem D1:Sound Tryz.prog 34 Dj:=by
 refine iJ Tryz.func34 ?_;rintro cvs m h K ⟨o,s,t,od,a,b,rfl,ho,hs,ht,hK⟩;refine⟨Y7 o s t m h,rfl,aD Hl (aD DZ aF),Qr o s t m h K,by kernel_rfl,?_⟩;dsimp only[Qr,push_cast];have hol:=ho.slen;have hln:=ho.len;have hsl:=bV.slen hs;have htl:=bV.slen ht;refine⟨λi=>i<=od.length/\iA od a b=iA (od.drop i) a b,λi=>od.length-i,⟨0,⟨aC,by simp⟩,MT⟩,λi⟨hi,he⟩=>aE (λhlt=>?_) (λhge=>?_)⟩
 .obtain⟨⟨c,dn⟩,hx⟩:=fI hol hlt;obtain⟨b1,o1,e1,r1⟩:=ho.row.get (i:=i) (e:=Dm (c,dn)) (by simp[hx]);rw[drop_cons hx]at he
  have skip:¬(0<=c/\c<a.length/\c<b.length)->∃x_1:Nat,(λi=>i<=od.length/\iA od a b=iA (od.drop i) a b) x_1/\(λi=>od.length-i) x_1<(λi=>od.length-i) i/\eQ (Yl s)/\eQ (Yl t)/\eQ (Yl o)/\eQ (gS ↑o.len)/\gS (IntKind.i64.wrap ((i:Int)+1))=gS ↑x_1/\m=m/\h=h/\True:=λhn=>
   ⟨i+1,⟨aC,by rw[he,Wf hn]⟩,(show od.length-(i+1)<od.length-i by omega),MT⟩
  refine⟨b1,o1,e1,aC,hlt,(c,dn),.imm r1,aE (λh1=>skip (λe=>by have:c<0:=h1;omega)) (λh1=>aE (λh2=>skip (λe=>by have:c>=(s.len:Int):=h2;omega)) (λh2=>aE (λh3=>skip (λe=>by have:c>=(t.len:Int):=h3;omega)) (λh3=>?_)))⟩;dsimp only at h1 h2 h3⊢
  obtain⟨x,hxa⟩:∃x,a[c.toNat]? =some x:=⟨_,List.getElem?_eq_getElem aC⟩
  obtain⟨y,hyb⟩:∃y,b[c.toNat]? =some y:=⟨_,List.getElem?_eq_getElem aC⟩
  obtain⟨b2,o2,u,e2,r2,rfl⟩:=bV.at hs hxa;obtain⟨b3,o3,u,e3,r3,rfl⟩:=bV.at ht hyb;rw[ZB aC hxa hyb]at he;have hsm:=Tm x y;refine⟨b2,o2,e2,aC,aC,x,.imm r2,b3,o3,e3,aC,aC,y,.imm r3,x,y,rfl,aB (λh4=>⟨i+1,⟨aC,?_⟩,(show od.length-(i+1)<od.length-i by omega),MT⟩) (λh4=>aB (λh5=>?_) (λh5=>?_))⟩
  .rw[he,if_neg (by simpa using h4)]
  .have h5:dn=true:=h5;rw[he,if_pos (by simpa using h4),if_pos h5]at hK;rw[dX aC aC,Int.zero_sub];exact hK
  .have h5:dn=false:=h5;rw[he,if_pos (by simpa using h4),if_neg (by simp[h5])]at hK;exact hK
 .rw[he,List.drop_eq_nil_of_le aC,iA]at hK;exact⟨s,t,a,b,rfl,hs,ht,hK⟩
theorem Sa:Sound Tryz.prog 211 Nt:=by
 refine iJ Tryz.func211 ?_;rintro cvs m h K ⟨s,t,bq,v,od,a,b,rfl,hm,ho,hs,ht,hK⟩;refine⟨wH [(34,Dj)] [] [] [] [0] [] false,rfl,aD D1 aF,VW s t bq m h K,by kernel_rfl,?_⟩;exact⟨v.order,.of_m hm rfl,v.order,s,t,od,a,b,rfl,ho,hs,ht,hK⟩
theorem Sh:Sound Tryz.prog 193 ZL:=by
 refine iJ Tryz.func193 ?_;rintro cvs m h K ⟨i,bq,bg,br,v,od,g,s,rs,r,x,rfl,hq,hg,hr,ho,hrs,hv,hx,hK⟩;refine⟨wH [(34,Dj)] [] [] [] [0] [] false,rfl,aD D1 aF,MD i bq bg br m h K,by kernel_rfl,?_⟩;dsimp only[MD,push_cast];have hl:=bV.slen hrs;have hi:=(List.getElem?_eq_some_iff.1 hx).1;obtain⟨b1,o1,u,e1,r1,ru⟩:=bV.at hrs hx;have rg:aM m h bg 0 [eR g]:=.of_m hg rfl;exact⟨v.order,.of_m hq rfl,g,rg,b1,o1,e1,aC,aC,u,.imm r1,s,.of_m hr rfl,rg,v.order,u,s,od,x,r,rfl,ho,ru,hv,rg,hK⟩
def GC(w:Nat):List (Int×Bool)->List VV->List VV->Int
 |[],a,b=>eE a b
 |(c,dn)::r,a,b=>if 0<=c/\c<w then(if(if dn then-kT (a.getD c.toNat zeroV) (b.getD c.toNat zeroV)else kT (a.getD c.toNat zeroV) (b.getD c.toNat zeroV))≠0 then(if dn then-kT (a.getD c.toNat zeroV) (b.getD c.toNat zeroV)else kT (a.getD c.toNat zeroV) (b.getD c.toNat zeroV))else GC w r a b)else GC w r a b
theorem tP{w:Nat}:∀{od:List (Int×Bool)}{a b:List VV},a.length=w->b.length=w->iA od a b=GC w od a b
 |[],_,_,_,_=>rfl
 |(c,dn)::r,a,b,ha,hb=>by
  rw[iA,GC,ha,hb,tP (od:=r) ha hb];by_cases h:0<=c/\c<w
  .rw[if_pos ⟨h.1,h.2,h.2⟩,if_pos h];cases dn<;>simp
  .rw[if_neg (λe=>h ⟨e.1,e.2.1⟩),if_neg h]
theorem Nv.neg{α:Type}{c:α->α->Int}(h:Nv c):Nv (λx y=> -c x y):=by
 refine⟨λx y=>by have:=h.anti x y;omega,λx y z h1 h2=>?_⟩;have a1:=h.anti x y;have a2:=h.anti y z;have a3:=h.anti x z;have:=h.trans z y x aC aC;omega
theorem C8(w:Nat):∀od,Nv (GC w od)
 |[]=>C9
 |(c,dn)::r=>by
  have ih:=C8 w r;have hc:Nv (λa b:List VV=>kT (a.getD c.toNat zeroV) (b.getD c.toNat zeroV)):=GD.of λa:List VV=>a.getD c.toNat zeroV;by_cases h:0<=c/\c<w
  .have e:GC w ((c,dn)::r)=λa b=>if(if dn then-kT (a.getD c.toNat zeroV) (b.getD c.toNat zeroV)else kT (a.getD c.toNat zeroV) (b.getD c.toNat zeroV))≠0 then(if dn then-kT (a.getD c.toNat zeroV) (b.getD c.toNat zeroV)else kT (a.getD c.toNat zeroV) (b.getD c.toNat zeroV))else GC w r a b:=by
    funext a b;rw[GC,if_pos h]
   rw[e];cases dn
   .exact hc.lex ih
   .exact hc.neg.lex ih
  .have e:GC w ((c,dn)::r)=GC w r:=by funext a b;rw[GC,if_neg h]
   rw[e];exact ih
theorem XJ{w:Nat}(od:List (Int×Bool)):Sort.SWO (Go.Proofs.ltOf (fun(x y:Cx h (λl=>l.length=w))=>iA od x.l y.l)):=by
 have e:(fun(x y:Cx h (λl=>l.length=w))=>iA od x.l y.l)=λx y=>GC w od x.l y.l:=by
  funext x y;exact tP x.pr_ y.pr_
 rw[e];exact(C8 w od).swo
theorem QT:Sound Tryz.prog 107 XT:=by
 refine⟨⟨Tryz.f107,Tryz.func107,rfl,by decide⟩,?_⟩;rintro cvs vs m h w K ⟨s,bq,v,od,wd,ps,rfl,hq,hnq,ho,hr,hv,hw,hl,hK⟩ hp
 obtain⟨v1,v2,rfl⟩:∃v v2,vs=[v,v2]:=by
  have:=(nR hp.args).1
  match vs,this with
  |[v,v2],_=>exact⟨v,v2,rfl⟩
 have h1:v1=s.val:=hp.args.1;have h2:v2= .func (.func 211) #[] #[.pointer (some ⟨bq,0,none⟩)]:=hp.args.2.1;subst h1 h2;refine LQ (R:=λl=>l.length=wd) (g:=211) (cb:=[.pointer (some ⟨bq,0,none⟩)]) (m2:=λb=>if b=bq then m bq else none) (cf:=iA od) rfl hp ⟨Tryz.f211,Tryz.func211,rfl,by decide⟩ hr hv hw hl (XJ od) ⟨Nt,Sa,λx y=>⟨x.s,y.s,bq,v,od,x.l,y.l,rfl,by simpa using hq,ho,x.ok,y.ok,rfl,rfl,rfl⟩⟩ (λb o hb=>?_) hK;have hb:(if b=bq then m bq else none)=some o:=hb;split at hb
 .rename_i e;subst e;exact⟨hb,hnq⟩
 .cases hb
noncomputable def Xj:Ctx:=On [(184,Tz),(186,X6),(185,Rp),(187,Rk)]
 [(13,{A:=Nat×Nat×Sl×Sl×MH×PH,st:=λ⟨i,b,e,g,m,h⟩=>cE 66 68 [(10,vv (.pointer (some ⟨b,0,none⟩))),(11,sv e),(51,sv g),(52,iv g.len),(53,iv i)] [] m h})] [] [200005,200006,200007,200010,1053,400000,0]
abbrev xK(a:MH)(b:Nat)(c:List VV)(d:List Int)(e:Prop)(g:Sl->Prop):Prop:=∃(x:List (Value×Sl))(x1:Value->Prop),aA (AD a b (List.map (fun(x2:Value×Sl)=>(x2.1,eR x2.2)) x)) (rH x1) (aA (x1 (cL c d)) (∀(x2:Value×Sl),List.Mem x2 x->x1 x2.1) (((∀(x2:Value×Sl),pJ (List.Mem x2 x) (x2.1=cL c d))->e)/\∀(x2:Sl),List.Mem (cL c d,x2) x->g x2))
noncomputable abbrev xI:Sl:=Sl.mk Option.none 0 0
noncomputable abbrev jH(a:Nat×Nat×Sl×Sl×MH×PH):Sl×Sl×MH×PH:=a.2.2
noncomputable abbrev mA(a:Sl×Sl×MH×PH):Sl:=a.2.1
noncomputable abbrev nF(a:Nat×Nat×Sl×Sl×MH×PH):Sl:=mA (jH a)
noncomputable abbrev fS(a:Sl×Sl×MH×PH):MH×PH:=a.2.2
noncomputable abbrev jF(a:Sl×Sl×MH×PH):Nat->Option Obj:=(fS a).1
noncomputable abbrev p7(a:Nat×Nat×Sl×Sl×MH×PH):Nat->Nat->Option Value:=(fS (jH a)).2
abbrev sW(a:Nat×Nat×Sl×Sl×MH×PH)(b:PH)(c:Sl):Prop:=aM (jF (jH a)) b a.2.1 0 (aR c)
abbrev BQ(a:List (List VV))(b:(List VV)->Prop):Prop:=∀(x:List VV),List.Mem x a->b x
attribute [push_cast] xK xI jH mA nF fS jF p7 sW BQ
def HB(v:QV)(t:Sl)(m:MH)(h:PH)(K:CV->MH->PH->Prop):Prop:=
  Kl (λs o=>aA (vT v.on s) (mG h s o) (∀(a:Sl),kP (λb h1=>dZ h h1 (Ints h1 a (kQ o)) (Ints h1 b (gK o)->∀(b1:Nat)(m1:MH),bC (cM m h1 b1) (bE m m1 b1 iQ 33) (∀(b2:Nat)(m2:MH),bC (cM m1 h1 b2) (bE m1 m2 b2 iQ 33) (eX (λc E=>aA (oX m2 b1 (dV c E 0)) (0<c.size) (∀(m3:MH),bE m2 m3 b1 (eU (eR a) 1 c) E->eX (λc1 E1=>aA (oX m3 b2 (dV c1 E1 0)) (0<c1.size) (∀(m4:MH),bE m3 m4 b2 (eU (eR b) 1 c1) E1->BR m4 h1 0 (λb3 m5=>∀(b4:Nat)(m6:MH),bC (cM m5 h1 b4) (bE m5 m6 b4 (j6 EM) 207) (eX (λc2 E2=>aA (oX m6 b4 (dV c2 E2 0)) (0<c2.size) (∀(m7:MH),bE m6 m7 b4 (eU (Value.map (Option.some b3)) 1 c2) E2->F7 t.a 0 1 t m7 h1 (λo1=>o1+1) (λy S=>qX S h1 y m7 (λx I k e=>eA (fun
 m8 h2=>bC (qA x k e) (PH.le h1 h2) (I k m8 h2->∃(y1:Sl),aM m8 h2 b2 0 (aR y1)/\DF e y1 h2 (λr c3=>Bw r c3) (λr c3=>branch (List.all (pick r c3) mE) (∃(y2:Sl),aM m8 h2 b2 0 (aR y2)/\DF e y2 h2 (λr1 _=>OR r1) (λr1 c4=>aA (Bw r1 c4) (jN m8) (∃(y3:Nat),aM m8 h2 b4 0 (oJ y3)/\∃(y4:Nat),aA (cX m8 h2 b4 y4) (aM m8 h2 b4 0 (oJ y3)/\xK m8 y4 r1 c4 (aA (cX m8 h2 b4 y3) (cX m8 h2 b4 y4) (aA (cX m8 h2 b4 y3) (cX m8 h2 b4 y4) (∃(x1:List (List Value)),aH (dW m8 xI 74 1 x1) (iB ((x1.length+1)*24)) (iX x1) (iH (λs1 m9=>eZ m8 m9 xI s1 74 1 (kB x1 e)->aA (cX m9 h2 b4 y3) (cX m9 h2 b4 y4) (wT (λk1 O=>aA (kO m9 y3 k1) (rH O) (aA (O (cL r1 c4)) (nD (Instr.sameBits 10000 (cL r1 c4) (cL
 r1 c4))) (uN (∀(e1:Value×Value),rE e1 k1 O) ((∀(e1:Value×Value),pJ (List.Mem e1 k1) (e1.1=cL r1 c4))->∀(a1:MH),bC (jD m9 a1 y3) (kO a1 y3 (k1++wQ (cL r1 c4) (eR s1))) (I (k+1) a1 h2)) (λl=>∀(v1:Value)(l1:List (Value×Value)),k1=l++lL (cL r1 c4) v1 l1->∀(a1:MH),bC (jD m9 a1 y3) (kO a1 y3 (l++lL (cL r1 c4) (eR s1) l1)) (I (k+1) a1 h2))))))))))) (λy5=>aA (cX m8 h2 b4 y3) (cX m8 h2 b4 y4) (aA (cX m8 h2 b4 y3) (cX m8 h2 b4 y4) (∃(x1:List (List Value)),aH (dW m8 (dR y5) 74 1 x1) (iB ((x1.length+1)*24)) (iX x1) (iH (λs1 m9=>eZ m8 m9 (dR y5) s1 74 1 (kB x1 e)->aA (cX m9 h2 b4 y3) (cX m9 h2 b4 y4) (wT (λk1 O=>aA (kO m9 y3 k1) (rH O) (aA (O (cL r1 c4)) (nD (Instr.sameBits 10000 (cL
 r1 c4) (cL r1 c4))) (uN (∀(e1:Value×Value),rE e1 k1 O) ((∀(e1:Value×Value),pJ (List.Mem e1 k1) (e1.1=cL r1 c4))->∀(a1:MH),bC (jD m9 a1 y3) (kO a1 y3 (k1++wQ (cL r1 c4) (eR s1))) (I (k+1) a1 h2)) (λl=>∀(v1:Value)(l1:List (Value×Value)),k1=l++lL (cL r1 c4) v1 l1->∀(a1:MH),bC (jD m9 a1 y3) (kO a1 y3 (l++lL (cL r1 c4) (eR s1) l1)) (I (k+1) a1 h2)))))))))))) (aA (cX m8 h2 b4 y3) (cX m8 h2 b4 y4) (aM m8 h2 b4 0 (oJ y3)/\xK m8 y4 r1 c4 (AJ (cX m8 h2 b4 y3) (cX m8 h2 b4 y4) (λx1=>aH (dW m8 xI 74 1 x1) (iB ((x1.length+1)*24)) (iX x1) (iH (λs1 m9=>eZ m8 m9 xI s1 74 1 (kB x1 e)->aA (cX m9 h2 b4 y3) (cX m9 h2 b4 y4) (wT (λk1 O=>aA (kO m9 y3 k1) (rH O) (aA (O (cL r1 c4))
 (nD (Instr.sameBits 10000 (cL r1 c4) (cL r1 c4))) (uN (∀(e1:Value×Value),rE e1 k1 O) ((∀(e1:Value×Value),pJ (List.Mem e1 k1) (e1.1=cL r1 c4))->∀(a1:MH),bC (jD m9 a1 y3) (kO a1 y3 (k1++wQ (cL r1 c4) (eR s1))) (I (k+1) a1 h2)) (λl=>∀(v1:Value)(l1:List (Value×Value)),k1=l++lL (cL r1 c4) v1 l1->∀(a1:MH),bC (jD m9 a1 y3) (kO a1 y3 (l++lL (cL r1 c4) (eR s1) l1)) (I (k+1) a1 h2)))))))))) (λy5=>AJ (cX m8 h2 b4 y3) (cX m8 h2 b4 y4) (λx1=>aH (dW m8 (dR y5) 74 1 x1) (iB ((x1.length+1)*24)) (iX x1) (iH (λs1 m9=>eZ m8 m9 (dR y5) s1 74 1 (kB x1 e)->aA (cX m9 h2 b4 y3) (cX m9 h2 b4 y4) (wT (λk1 O=>aA (kO m9 y3 k1) (rH O) (aA (O (cL r1 c4)) (nD (Instr.sameBits 10000 (cL r1 c4)
 (cL r1 c4))) (uN (∀(e1:Value×Value),rE e1 k1 O) ((∀(e1:Value×Value),pJ (List.Mem e1 k1) (e1.1=cL r1 c4))->∀(a1:MH),bC (jD m9 a1 y3) (kO a1 y3 (k1++wQ (cL r1 c4) (eR s1))) (I (k+1) a1 h2)) (λl=>∀(v1:Value)(l1:List (Value×Value)),k1=l++lL (cL r1 c4) v1 l1->∀(a1:MH),bC (jD m9 a1 y3) (kO a1 y3 (l++lL (cL r1 c4) (eR s1) l1)) (I (k+1) a1 h2))))))))))))))) (I (k+1) m8 h2))))) (λm8 h2=>BI m8 h2 t (λb5 m9 y1 S1=>qX S1 h2 y1 m9 (λx I k e=>eA (λa1 h3=>bC (qA x k e) (PH.le h2 h3) (I k a1 h3->∃(y2:Sl),aM a1 h3 b1 0 (aR y2)/\DF e y2 h3 (λr c3=>Bw r c3) (λr c3=>gX (!(List.all (pick r c3) mE)) (I (k+1) a1 h3) (λy3=>aM a1 h3 b4 0 (oJ y3)/\∃(y4:Sl),aA (aM a1 h3 b1 0 (aR y4)) (cX a1 h3
 b4 y3) (FO e y4 h3 a1 (cX a1 h3 b4 y3) (λ_ _=>aM a1 h3 b1 0 (aR y4)) (λr1 c4=>xK a1 y3 r1 c4 (∃(I1:Nat×Nat×Sl×Sl×MH×PH->Prop)(a2:Nat×Nat×Sl×Sl×MH×PH->Nat),(∃(x1:Nat×Nat×Sl×Sl×MH×PH),aA (I1 x1) (cF b5 x1.2.1) (aA (aZ e (jH x1).1) (sQn=Yl (nF x1)) (aA (bG (nF x1).len) (bG x1.1) (aA (cO a1 (fS (jH x1))) (dO h3 (fS (jH x1))) True))))/\∀(x1:Nat×Nat×Sl×Sl×MH×PH),I1 x1->bD (↑x1.1:Int) (aG (nF x1)) (aT (λb6 o1=>aH (aU (nF x1).a b6 o1) (0<=(↑x1.1:Int)) ((↑x1.1:Int)<aG (nF x1)) (∃(y5:Sl),aM (jF (jH x1)) (p7 x1) b6 (bB o1 x1.1 1) (aR y5)/\∃(y6:Sl),aH (sW x1 (p7 x1) y6) (sW x1 (p7 x1) y6) (sW x1 (p7 x1) y6) (aX (p7 x1) 1 (aR
 (jH x1).1::bL (aR y5)) (λs1 h4=>∃(s2:Sl)(r2:List (List VV)),aA (lR s1=lR s2) (Rows h4 s2 r2) (aA (r2.length<=10) (BQ r2 (λr3=>r3.length<=12)) (kP (λs3 h5=>dZ h4 h5 (cR h5 s3 r2.flatten) (AJ (sW x1 h5 y6) (sW x1 h5 y6) (λx2=>aH (dW (jF (jH x1)) (dR y6) 74 1 x2) (iB ((x2.length+1)*24)) (iX x2) (iH (λs4 a3=>eZ (jF (jH x1)) a3 (dR y6) s4 74 1 (kB x2 s3)->eX (λc5 E3=>aA (oX a3 x1.2.1 (dV c5 E3 0)) (0<c5.size) (∀(a4:MH),bE a3 a4 x1.2.1 (eU (eR s4) 1 c5) E3->∃(x3:Nat×Nat×Sl×Sl×MH×PH),aA (I1 x3) (a2 x3<a2 x1) (aA (cF x1.2.1 x3.2.1) (aZ (jH x1).1 (jH x3).1) (aA (aZ (nF x1) (nF x3)) (cH (nF x1) (nF x3)) (aA (gS (aW x1.1 1)=bX x3.1) (cO a4 (fS
 (jH x3))) (kI h5 (fS (jH x3)))))))))))))))))))) (I (k+1) (jF (jH x1)) (p7 x1))) (λy5=>∃(I1:Nat×Nat×Sl×Sl×MH×PH->Prop)(a2:Nat×Nat×Sl×Sl×MH×PH->Nat),(∃(x1:Nat×Nat×Sl×Sl×MH×PH),aA (I1 x1) (cF b5 x1.2.1) (aA (aZ e (jH x1).1) (aZ y5 (nF x1)) (aA (cH y5 (nF x1)) (bG x1.1) (aA (cO a1 (fS (jH x1))) (dO h3 (fS (jH x1))) True))))/\∀(x1:Nat×Nat×Sl×Sl×MH×PH),I1 x1->bD (↑x1.1:Int) (aG (nF x1)) (aT (λb6 o1=>aH (aU (nF x1).a b6 o1) (0<=(↑x1.1:Int)) ((↑x1.1:Int)<aG (nF x1)) (∃(y6:Sl),aM (jF (jH x1)) (p7 x1) b6 (bB o1 x1.1 1) (aR y6)/\∃(y7:Sl),aH (sW x1 (p7 x1) y7) (sW x1 (p7 x1) y7) (sW x1 (p7 x1) y7) (aX (p7 x1) 1 (aR (jH
 x1).1::bL (aR y6)) (λs1 h4=>∃(s2:Sl)(r2:List (List VV)),aA (lR s1=lR s2) (Rows h4 s2 r2) (aA (r2.length<=10) (BQ r2 (λr3=>r3.length<=12)) (kP (λs3 h5=>dZ h4 h5 (cR h5 s3 r2.flatten) (AJ (sW x1 h5 y7) (sW x1 h5 y7) (λx2=>aH (dW (jF (jH x1)) (dR y7) 74 1 x2) (iB ((x2.length+1)*24)) (iX x2) (iH (λs4 a3=>eZ (jF (jH x1)) a3 (dR y7) s4 74 1 (kB x2 s3)->eX (λc5 E3=>aA (oX a3 x1.2.1 (dV c5 E3 0)) (0<c5.size) (∀(a4:MH),bE a3 a4 x1.2.1 (eU (eR s4) 1 c5) E3->∃(x3:Nat×Nat×Sl×Sl×MH×PH),aA (I1 x3) (a2 x3<a2 x1) (aA (cF x1.2.1 x3.2.1) (aZ (jH x1).1 (jH x3).1) (aA (aZ (nF x1) (nF x3)) (cH (nF x1) (nF x3)) (aA (gS (aW x1.1 1)=bX x3.1) (cO a4 (fS (jH
 x3))) (kI h5 (fS (jH x3)))))))))))))))))))) (I (k+1) (jF (jH x1)) (p7 x1)))))))))) (λa1 h3=>∃(y2:Sl),aM a1 h3 b5 0 (aR y2)/\K (kU y2) a1 h3))))))))))))))))))
def ahZ(on:List (Int×Int))(ls:List (List (List VV))):Prop:=2<=ls.length/\∃w w',i7 w (ls.getD 0 [])/\i7 w' (ls.getD 1 [])/\iR w (kQ on)/\iR w' (gK on)
def J9(q:Query)(ls:List (List (List VV))):Prop:=match q with|.mk _ _ _ _ on _ _ _ _=>ahZ on ls
def agree(on:List (Int×Int))(x y:List VV):Bool:=eE (pick x (kQ on)) (pick y (gK on))==0
def Pc(q:Query)(ls:List (List (List VV))):List (List VV):=match q with|.mk _ _ _ _ on _ _ _ _=>(ls.getD 0 []).filter λx=>(ls.getD 1 []).any λy=>agree on x y
theorem Wi{on:List (Int×Int)}{x y:List VV}:agree on x y=true↔pick x (kQ on)=pick y (gK on):=by
 simp only[agree,beq_iff_eq,jQ]
theorem FB{r:List VV}{cols:List Int}(hr:OR r)(hc:iR r.length cols):∀v∈pick r cols,ZD v:=λv hv=>hr.val v (Pt hc hv)
theorem He{on:List (Int×Int)}{x y:List VV}(hx:OR x)(hy:OR y)(cx:iR x.length (kQ on))(cy:iR y.length (gK on)):dD (pick x (kQ on))=dD (pick y (gK on))↔agree on x y=true:=by
 rw[Wi];exact ER (by simp[pick,kQ,gK]) (FB hx cx) (FB hy cy)
structure Start(m m7:MH)(sa sb:Sl)(T:TypeId)(b1 b2 y b7:Nat):Prop where
 sub:Sub m m7
 a_:m7 b1=some (.cells #[.slice sa.a sa.len sa.cap] 33 (0,0))
 b_:m7 b2=some (.cells #[.slice sb.a sb.len sb.cap] 33 (0,0))
 y_:m7 y=some (.map #[] 0)
 c_:m7 b7=some (.cells #[.map (some y)] T (0,0))
 ya:b1≠y
 yb:b2≠y
 yc:b7≠y
 free:m y=none
theorem O6{sa sb:Sl}{T:TypeId}{Q:Nat->Nat->Nat->Nat->MH->Prop}(hK:∀b1 b2 y b7 m7,Start m m7 sa sb T b1 b2 y b7->Q b1 b2 y b7 m7):
 ∀(b1:Nat)(m1:MH),cM m h b1->fV m m1 b1 (.cells #[tT] 33 (0,0))->∀(b2:Nat)(m2:MH),cM m1 h b2->fV m1 m2 b2 (.cells #[tT] 33 (0,0))->
  ∃(cs:Array Value)(E:TypeId),oX m2 b1 (.cells cs E (0,0))/\0<cs.size/\∀m3:MH,fV m2 m3 b1 (.cells (Array.mk (eR sa::cs.toList.drop 1)) E (0,0))->
  ∃(cs:Array Value)(E:TypeId),oX m3 b2 (.cells cs E (0,0))/\0<cs.size/\∀m4:MH,fV m3 m4 b2 (.cells (Array.mk (eR sb::cs.toList.drop 1)) E (0,0))->
  ∀(y:Nat)(m5:MH),cM m4 h y->fV m4 m5 y (.map (Array.mk []) 0)->∀(b7:Nat)(m6:MH),cM m5 h b7->fV m5 m6 b7 (.cells (Array.mk [.map none]) T (0,0))->
  ∃(cs:Array Value)(E:TypeId),oX m6 b7 (.cells cs E (0,0))/\0<cs.size/\∀m7:MH,fV m6 m7 b7 (.cells (Array.mk (.map (some y)::cs.toList.drop 1)) E (0,0))->Q b1 b2 y b7 m7:=by
 intro b1 m1 hb1 hu1 b2 m2 hb2 hu2;obtain⟨s1,n1⟩:=hZ (Sub.refl m) hb1 hu1;obtain⟨s2,n2⟩:=hZ s1 hb2 hu2;have e12:b1≠b2:=λe=>by have:=hb2.m_;rw[<-e,hu1.at_]at this;cases this
 refine⟨_,_,⟨by rw[hu2.other b1 e12];exact hu1.at_⟩,by simp,λm3 hu3=>?_⟩;have s3:Sub m m3:=s2.upd n1 hu3.other;refine⟨_,_,⟨by rw[hu3.other b2 (Ne.symm e12)];exact hu2.at_⟩,by simp,λm4 hu4 y m5 hb5 hu5 b7 m6 hb6 hu6=>?_⟩;have s4:Sub m m4:=s3.upd n2 hu4.other;have m4a:m4 b1=some (.cells #[.slice sa.a sa.len sa.cap] 33 (0,0)):=by rw[hu4.other b1 e12];exact hu3.at_
 have m4b:m4 b2=some (.cells #[.slice sb.a sb.len sb.cap] 33 (0,0)):=hu4.at_;obtain⟨s5,ny⟩:=hZ s4 hb5 hu5;obtain⟨s6,n7⟩:=hZ s5 hb6 hu6;have ne5:∀{z o},m4 z=some o->z≠y:=fun{z o} e e2=>by rw[e2,hb5.m_]at e;cases e
 have ne6:∀{z o},m5 z=some o->z≠b7:=fun{z o} e e2=>by rw[e2,hb6.m_]at e;cases e
 have m5a:=m4a;rw[<-hu5.other b1 (ne5 m4a)]at m5a;have m5b:=m4b;rw[<-hu5.other b2 (ne5 m4b)]at m5b;have m5y:m5 y=some (.map #[] 0):=hu5.at_;refine⟨_,_,⟨hu6.at_⟩,by simp,λm7 hu7=>hK _ _ _ _ _ ⟨s6.upd n7 hu7.other,?_,?_,?_,hu7.at_,ne5 m4a,ne5 m4b,Ne.symm (ne6 m5y),ny⟩⟩
 .rw[hu7.other b1 (ne6 m5a),hu6.other b1 (ne6 m5a)];exact m5a
 .rw[hu7.other b2 (ne6 m5b),hu6.other b2 (ne6 m5b)];exact m5b
 .rw[hu7.other y (ne6 m5y),hu6.other y (ne6 m5y)];exact m5y
theorem Sz:Sound Tryz.prog 151 (OS J9 Pc):=by
 refine Ev Tryz.func151 ?_;rintro cvs m h K ⟨v,t,q,bs,ls,rfl,hq,ha,hT,hok,hK⟩;refine⟨On [(184,Tz),(186,X6)] [] [] [200005,200006,200007,200009,1053,400000,0],rfl,aD KN (aD Ce aF),HA v t m h (dQ h K),by kernel_rfl,?_⟩;show HA v t m h (dQ h K);dsimp only[HA,push_cast];obtain⟨op,ta,w,co,on,gr,od,li,args⟩:=q;obtain⟨h2,wa,wb,hrel,hrel',hca,hcb⟩:=hok;refine⟨v.on,on,rfl,hq.parts.on_,λsa sb h1 le1 hia hib=>O6 λb1 b2 y b7 m7 st=>?_⟩;obtain⟨b,off,x,ea,hlt,rd,sq⟩:=ha.get (Cv (i:=1) aC);obtain⟨b6,off6,x6,ea6,hlt6,rd6,sq6⟩:=ha.get (Cv (i:=0) aC);obtain⟨us',hseq',hru'⟩:=(sq.mono le1).ex;obtain⟨us,hseq,hru⟩:=(sq6.mono le1).ex;simp only[Pc]at hK;generalize ls.getD 1 []=l' at hru' hrel' hK sq;generalize ls.getD 0 []=l at hru hrel hK sq6;have hul:=hru.len;have hll:=hrel.len;have hul':=hru'.len;have s7:=st.sub;have ny:=st.free;refine⟨b,off,ea,aC,aC,x,.imm (rd.mono le1),uU,us',λk mx hx=>hx=h1/\(∀z o,m7 z=some o->z≠y->mx z=some o)/\pP mx y ((l'.take k).map λz=>dD (pick z (gK on))),tL,⟨x,us',rfl,hseq',rfl⟩,⟨rfl,λz o e _=>e,by simpa using pP.new st.y_⟩,?_,?_⟩
 .rintro k e mx hx hk-⟨rfl,hs,hsn⟩
  obtain⟨r,hr,hv⟩:=hru'.at' hk;have hrl:=List.mem_of_getElem? hr;have r5:aM mx hx b7 0 [Value.map (some y)]:=.of_m (hs b7 _ st.c_ st.yc) rfl;have rb:aM mx hx b2 0 [eR sb]:=.of_m (hs b2 _ st.b_ st.yb) rfl;refine⟨y,r5,sb,rb,r5,e,sb,r,gK on,rfl,hv,hib,hrel'.row r hrl,by rw[hrel'.wid r hrl];exact hcb,hT.sub (λz o e2=>hs z o (s7 z o e2) (λe3=>by rw[e3,ny]at e2;cases e2)),r5,hsn.put (λm' hs' hsn'=>⟨rfl,λz o e2 hne=>by rw[hs'.other z hne];exact hs z o e2 hne,?_⟩)⟩;obtain⟨kk,h5,h6⟩:=hsn'.ex;exact⟨kk,h5,λq=>by rw[h6,List.take_add_one,hr];simp[or_comm]⟩
 .rintro mx hx-⟨rfl,hs,hsn⟩ b9 m5 hb5 hu5;rw[hul',List.take_length]at hsn;have s5:Sub m mx:=λz o e2=>hs z o (s7 z o e2) (λe3=>by rw[e3,ny]at e2;cases e2);obtain⟨s6,n7⟩:=hZ s5 hb5 hu5
  have ne7:∀{z o},mx z=some o->m5 z=some o/\z≠b9:=fun{z o} e2=>by
   have:z≠b9:=λe3=>by rw[e3,hb5.m_]at e2;cases e2
   exact⟨by rw[hu5.other z this];exact e2,this⟩
  obtain⟨m5a,na⟩:=ne7 (hs b1 _ st.a_ st.ya);obtain⟨m5c,nc⟩:=ne7 (hs b7 _ st.c_ st.yc)
  have y7:y≠b9:=by
   obtain⟨kk,⟨es,c,h1,_⟩,_⟩:=hsn.ex;exact(ne7 h1).2
  have hsn5:=hsn.keep (hu5.other y y7);refine⟨b6,off6,ea6,aC,aC,x6,.imm (rd6.mono le1),uU,us,λk my hy=>hy=hx/\Ba m5 my b9/\∃us2,mY m5 my b9 us2/\us2.length<=k/\fD hx us2 ((l.take k).filter λz=>l'.any λy=>agree on z y),tL,⟨x6,us,rfl,hseq,rfl⟩,⟨rfl,λz o e _=>e,[],mY.new hu5.at_,by simp,by simpa using fD.nil hx⟩,?_,?_⟩
  .rintro k e my hy hk-⟨rfl,hs7,us2,hout,hl2,hr2⟩
   obtain⟨r,hr,hv⟩:=hru.at' hk;have hkl:=(List.getElem?_eq_some_iff.1 hk).1;have hrl:=List.mem_of_getElem? hr;have r5:aM my hy b7 0 [Value.map (some y)]:=.of_m (hs7 b7 _ m5c nc) rfl;have r3:aM my hy b1 0 [eR sa]:=.of_m (hs7 b1 _ m5a na) rfl
   have hsn7:pP my y (l'.map λz=>dD (pick z (gK on))):=by
    obtain⟨kk,⟨es,c,h1,h2,h3,h4⟩,h5⟩:=hsn5.ex;exact⟨kk,⟨es,c,hs7 y _ h1 y7,h2,h3,h4⟩,h5⟩
   have hcr:iR r.length (kQ on):=by rw[hrel.wid r hrl];exact hca
   have key:∀t:Bool,(t=true↔dD (pick r (kQ on))∈l'.map λz=>dD (pick z (gK on)))->t=l'.any λy=>agree on r y:=λt ht=>by
    have h1:(dD (pick r (kQ on))∈l'.map λz=>dD (pick z (gK on)))↔(l'.any λy=>agree on r y)=true:=by
     rw[List.mem_map,List.any_eq_true];constructor
     .rintro⟨z,hz,e2⟩;exact⟨z,hz,(He (hrel.row r hrl) (hrel'.row z hz) hcr (by rw[hrel'.wid z hz];exact hcb)).1 e2.symm⟩
     .rintro⟨z,hz,e2⟩;exact⟨z,hz,((He (hrel.row r hrl) (hrel'.row z hz) hcr (by rw[hrel'.wid z hz];exact hcb)).2 e2).symm⟩
    rw[h1]at ht;cases t
    .cases e2:l'.any λy=>agree on r y with
     |false=>rfl
     |true=>exact ht.2 e2
    .exact(ht.1 rfl).symm
   refine⟨y,r5,sa,r3,r5,e,sa,r,kQ on,rfl,hv,hia,hrel.row r hrl,hcr,hT.sub (s6.x n7 hs7),r5,r3,hsn7.get (K:=λt=>branch t _ _) (λt ht=>?_)⟩;have e3:=key t ht;refine aB (λh1=>?_) (λh1=>?_)
   .refine mY.app ⟨_,hu5.at_⟩ hs7 hout aC (λm' hs' ho'=>⟨rfl,hs',us2++[e],ho',by simp;omega,?_⟩);rw[j4 _ hr,if_pos (by rw[<-e3];exact h1)];exact hr2.snoc hv
   .refine⟨rfl,hs7,us2,hout,aC,?_⟩;rw[j4 _ hr,if_neg (by rw[<-e3,h1];simp),List.append_nil];exact hr2
  .rintro my hy-⟨rfl,hs7,us2,hout,hl2,hr2⟩
   rw[hul,List.take_length]at hr2;obtain⟨s,hb,hrow,hfr⟩:=hout.ex;refine⟨s,.of_m hb rfl,dQ.row (s6.x n7 hs7) le1 hrow (λj z e=>?_) (λh' le hri=>hK s h' (le1.trans le) ((hr2.mono le).rows hri (by have:=hr2.len;omega)))⟩;cases e2:m z with
   |none=>rfl
   |some o=>have e1:=hfr j z e;rw[s6 z o e2]at e1;cases e1
structure pU(m0 m:MH)(y:Nat)(kk:List (ByteArray×Sl))(us:ByteArray->List Sl):Prop where
 map_:kO m y (kk.map λp=>(Value.string p.1,eR p.2))
 nodup:(kk.map Prod.fst).Nodup
 row:∀p∈kk,dW m p.2 74 1 ((us p.1).map eS)
 fresh:∀p∈kk,∀x i,p.2.a=some ⟨x,i,none⟩->m0 x=none
 apart:∀p∈kk,∀q∈kk,p.1≠q.1->∀x i j,p.2.a=some ⟨x,i,none⟩->q.2.a≠some ⟨x,j,none⟩
 none_:∀k,k∉kk.map Prod.fst->us k=[]
 old:∀x o,m0 x=some o->x≠y->m x=some o
def Ct(kk:List (ByteArray×Sl))(key:ByteArray)(s:Sl):Prop:=(s=⟨none,0,0⟩/\key∉kk.map Prod.fst)\/(key,s)∈kk
theorem pU.new{y:Nat}(h:m y=some (.map #[] 0)):pU m m y [] λ_=>[]:=⟨⟨#[],0,h,rfl,by simp,by simp⟩,by simp,by simp,by simp,by simp,λ_ _=>rfl,λ_ _ e _=>e⟩
theorem Ct.row{m0:MH}{y:Nat}{kk:List (ByteArray×Sl)}{us:ByteArray->List Sl}{key:ByteArray}{s:Sl}(g:pU m0 m y kk us)(hs:Ct kk key s):dW m s 74 1 ((us key).map eS)/\∀x i,s.a=some ⟨x,i,none⟩->m0 x=none:=by
 rcases hs with⟨rfl,hn⟩|hp
 .rw[g.none_ key hn];exact⟨⟨AU [],.inl ⟨rfl,rfl⟩⟩,λx i e=>by cases e⟩
 .exact⟨g.row _ hp,g.fresh _ hp⟩
theorem pU.keep{m0:MH}{y:Nat}{kk:List (ByteArray×Sl)}{us:ByteArray->List Sl}(g:pU m0 m y kk us)(hk:∀x o,m x=some o->m' x=some o):pU m0 m' y kk us:=by
 obtain⟨es,c,h1,h2,h3,h4⟩:=g.map_;refine⟨⟨es,c,hk _ _ h1,h2,h3,h4⟩,g.nodup,λp hp=>?_,g.fresh,g.apart,g.none_,λx o h1 h2=>hk x o (g.old x o h1 h2)⟩;obtain⟨hr,hx⟩:=g.row p hp;refine⟨hr,hx.imp id ?_⟩;rintro⟨b,cap,cur,e,hm,h⟩;exact⟨b,cap,cur,e,hk _ _ hm,h⟩
def Lw(us:ByteArray->List Sl)(key:ByteArray)(e:Sl):ByteArray->List Sl:=λk=>if k=key then us k++[e]else us k
theorem pU.core{m0 m1:MH}{y:Nat}{kk kk':List (ByteArray×Sl)}{us:ByteArray->List Sl}{key:ByteArray}{s s' e:Sl}(g:pU m0 m y kk us)(hy:∃o,m0 y=some o)(hs:Ct kk key s)(hg:eZ m m1 s s' 74 1 ((us key).map eS++[[eR e]]))
 (hm:kO m' y (kk'.map λp=>(Value.string p.1,eR p.2)))(hsame:jD m1 m' y)(hnd:(kk'.map Prod.fst).Nodup)(hmem:∀p∈kk',p=(key,s')\/(p∈kk/\p.1≠key))(hkey:(key,s')∈kk')(hkk:∀k,k∈kk.map Prod.fst->k∈kk'.map Prod.fst):pU m0 m' y kk' (Lw us key e):=by
 obtain⟨oy,hy⟩:=hy;obtain⟨hrow,hfr⟩:=hs.row g;obtain⟨es,c,h1,_⟩:=g.map_;have hny:∀i,s.a≠some ⟨y,i,none⟩:=λi e2=>by rw[hfr y i e2]at hy;cases hy
 have hdom:∀x,m x=none->m0 x=none:=λx hx=>by
  cases h0:m0 x with
  |none=>rfl
  |some o=>
   by_cases hxy:x=y
   .subst hxy;rw[hx]at h1;cases h1
   .rw[g.old x o h0 hxy]at hx;cases hx
 have hs'f:∀x i,s'.a=some ⟨x,i,none⟩->m0 x=none:=λx i e2=>by
  rcases hg.fresh x i e2 with h|⟨j,h⟩
  .exact hdom x h
  .exact hfr x j h
 have hsome:∀p∈kk,∀x i,p.2.a=some ⟨x,i,none⟩->∃o,m x=some o:=λp hp x i e2=>by
  rcases(g.row p hp).ex with⟨h,_⟩|⟨b,cap,cur,h,hm,_⟩
  .rw[h]at e2;cases e2
  .rw[h]at e2;simp only[Option.some.injEq,Addr.mk.injEq]at e2;exact⟨_,e2.1▸hm⟩
 have hap:∀p∈kk,p.1≠key->∀x i j,p.2.a=some ⟨x,i,none⟩->s.a≠some ⟨x,j,none⟩:=λp hp hne x i j e2 e3=>by
  rcases hs with⟨rfl,_⟩|hs
  .cases e3
  .exact g.apart p hp _ hs hne x i j e2 e3
 refine⟨hm,hnd,λp hp=>?_,λp hp x i e2=>?_,λp hp q hq hne x i j e2 e3=>?_,λk hk=>?_,λx o h0 hne=>?_⟩
 .rcases hmem p hp with rfl|⟨hp',hne⟩
  .have e1:(Lw us key e key).map eS=(us key).map eS++[[eR e]]:=by simp[Lw,eS]
   rw[e1];exact dW.keep hg.row λb i e2=>hsame.other b (λe3=>by rw[e3]at e2;rw[hs'f y i e2]at hy;cases hy)
  .have e1:Lw us key e p.1=us p.1:=if_neg hne;rw[e1];refine dW.keep (g.row p hp') λb i e2=>?_;obtain⟨o,ho⟩:=hsome p hp' b i e2;rw[hsame.other b (λe3=>by rw[e3]at e2;rw[g.fresh p hp' y i e2]at hy;cases hy),ho];exact hg.other b o ho (λj=>hap p hp' hne b i j e2)
 .rcases hmem p hp with rfl|⟨hp',_⟩
  .exact hs'f x i e2
  .exact g.fresh p hp' x i e2
 .have hx:∀p∈kk,p.1≠key->∀i j,p.2.a=some ⟨x,i,none⟩->s'.a≠some ⟨x,j,none⟩:=λp hp hne i j e2 e3=>by
   rcases hg.fresh x j e3 with h|⟨j',h⟩
   .obtain⟨o,ho⟩:=hsome p hp x i e2;rw[h]at ho;cases ho
   .exact hap p hp hne x i j' e2 h
  rcases hmem p hp with rfl|⟨hp',hpn⟩<;>rcases hmem q hq with rfl|⟨hq',hqn⟩
  .exact hne rfl
  .exact hx q hq' hqn j i e3 e2
  .exact hx p hp' hpn i j e2 e3
  .exact g.apart p hp' q hq' hne x i j e2 e3
 .have hk1:k≠key:=λe2=>hk (List.mem_map.2 ⟨_,hkey,e2.symm⟩);simp only[Lw,if_neg hk1];exact g.none_ k λh=>hk (hkk k h)
 .rw[hsame.other x hne];exact hg.other x o (g.old x o h0 hne) (λi e2=>by have h5:=hfr x i e2;rw[h0]at h5;cases h5)
theorem pU.put{m0 m1:MH}{y:Nat}{kk:List (ByteArray×Sl)}{us:ByteArray->List Sl}{key:ByteArray}{s s' e:Sl}{Q:MH->Prop}(g:pU m0 m y kk us)(hy:∃o,m0 y=some o)(hs:Ct kk key s)(hg:eZ m m1 s s' 74 1 ((us key).map eS++[[eR e]]))
 (hQ:∀m' kk',pU m0 m' y kk' (Lw us key e)->Q m'):
 ∃(kvs:List (Value×Value))(Ok:Value->Prop),kO m1 y kvs/\KeyLaw Tryz.prog 9 Ok/\Ok (.string key)/\Instr.sameBits 10000 (Value.string key) (Value.string key)=true/\(∀e,List.Mem e kvs->Ok e.1)/\((∀e,List.Mem e kvs->e.1=Value.string key->False)->∀m':MH,jD m1 m' y->kO m' y (kvs++[(Value.string key,eR s')])->Q m')/\
  ∀(l1:List (Value×Value))(v0:Value)(l2:List (Value×Value)),kvs=l1++(Value.string key,v0)::l2->∀m':MH,jD m1 m' y->kO m' y (l1++(Value.string key,eR s')::l2)->Q m':=by
 have hny:∀i,s.a≠some ⟨y,i,none⟩:=λi e2=>by
  obtain⟨o,ho⟩:=hy;rw[(hs.row g).2 y i e2]at ho;cases ho
 obtain⟨es,c,h1,h2,h3,h4⟩:=g.map_;refine⟨kk.map λp=>(Value.string p.1,eR p.2),_,⟨es,c,hg.other _ _ h1 hny,h2,h3,h4⟩,Bj,⟨key,rfl⟩,Pe key,λe he=>?_,λhn m' hsame hm'=>?_,λl1 v0 l2 e0 m' hsame hm'=>?_⟩
 .obtain⟨k,_,rfl⟩:=List.mem_map.1 (show e∈_ from he);exact⟨k.1,rfl⟩
 .have hnk:key∉kk.map Prod.fst:=λh=>by
   obtain⟨p,hp,e2⟩:=List.mem_map.1 h;subst e2;exact hn _ (List.mem_map_of_mem (f:=λp:ByteArray×Sl=>(Value.string p.1,eR p.2)) hp) rfl
  refine hQ m' (kk++[(key,s')]) (g.core hy hs hg (by simpa using hm') hsame ?_ ?_ (by simp) (λk hk=>by rw[List.map_append];exact List.mem_append_left _ hk))
  .rw[List.map_append,List.nodup_append];refine⟨g.nodup,by simp,λa ha b hb e2=>?_⟩;simp at hb;subst e2 hb;exact hnk ha
  .intro p hp;rcases List.mem_append.1 hp with h|h
   .exact .inr ⟨h,λe2=>hnk (e2▸List.mem_map_of_mem h)⟩
   .exact .inl (by simpa using h)
 .obtain⟨k1,k2',e1,e2,e3⟩:=List.map_eq_append_iff.1 e0;obtain⟨p,k2,e4,e5,e6⟩:=List.map_eq_cons_iff.1 e3;subst e1 e4 e2 e6;simp only[Prod.mk.injEq,Value.string.injEq]at e5;have hnd:=g.nodup;rw[List.map_append,List.map_cons,e5.1]at hnd;have hnd2:=List.nodup_append.1 hnd;have hnd3:=List.nodup_cons.1 hnd2.2.1;refine hQ m' (k1++(key,s')::k2) (g.core hy hs hg (by simpa using hm') hsame (by simpa using hnd) ?_ (by simp) (λk hk=>by simpa[e5.1]using hk));intro q hq;rcases List.mem_append.1 hq with h|h
  .exact .inr ⟨List.mem_append_left _ h,λe7=>hnd2.2.2 q.1 (List.mem_map_of_mem h) key (List.mem_cons_self ..) e7⟩
  .rcases List.mem_cons.1 h with h|h
   .exact .inl h
   .exact .inr ⟨List.mem_append_right _ (List.mem_cons_of_mem _ h),λe7=>hnd3.1 (e7▸List.mem_map_of_mem h)⟩
theorem pU.app{m0:MH}{hx:PH}{y c:Nat}{T:TypeId}{kk:List (ByteArray×Sl)}{us:ByteArray->List Sl}{key:ByteArray}{s e:Sl}{Q:MH->Prop}(g:pU m0 m y kk us)(hy:∃o,m0 y=some o)(hc0:∃o,m0 c=some o)(hc:m c=some (.cells #[.map (some y)] T (0,0)))(hl:(us key).length<=502633886983)
 (hQ:∀m' kk',pU m0 m' y kk' (Lw us key e)->Q m')(hs:Ct kk key s):
 ∃xs:List (List Value),dW m (Sl.mk s.a s.len s.cap) 74 1 xs/\(xs.length+1)*24<=140737488355328/\xs.length<140737488355328/\∀(s':Sl)(m1:MH),eZ m m1 (Sl.mk s.a s.len s.cap) s' 74 1 (xs++[[eR e]])->
  aM m1 hx c 0 [Value.map (some y)]/\aM m1 hx c 0 [Value.map (some y)]/\
 ∃(kvs:List (Value×Value))(Ok:Value->Prop),kO m1 y kvs/\KeyLaw Tryz.prog 9 Ok/\Ok (.string key)/\Instr.sameBits 10000 (Value.string key) (Value.string key)=true/\(∀e,List.Mem e kvs->Ok e.1)/\((∀e,List.Mem e kvs->e.1=Value.string key->False)->∀m':MH,jD m1 m' y->kO m' y (kvs++[(Value.string key,eR s')])->Q m')/\
  ∀(l1:List (Value×Value))(v0:Value)(l2:List (Value×Value)),kvs=l1++(Value.string key,v0)::l2->∀m':MH,jD m1 m' y->kO m' y (l1++(Value.string key,eR s')::l2)->Q m':=by
 obtain⟨hrow,hfr⟩:=hs.row g;refine⟨_,hrow,by simp;omega,by simp;omega,λs' m1 hg=>?_⟩
 have r:aM m1 hx c 0 [Value.map (some y)]:=.of_m (hg.other c _ hc λi e2=>by
  obtain⟨o,ho⟩:=hc0;have e2:s.a=some ⟨c,i,none⟩:=e2;rw[hfr c i e2]at ho;cases ho) rfl
 exact⟨r,r,g.put hy hs hg hQ⟩
theorem pU.get2{m0:MH}{y:Nat}{kk:List (ByteArray×Sl)}{us:ByteArray->List Sl}{key:ByteArray}{K0:Prop}{K:Sl->Prop}(g:pU m0 m y kk us)(h0:Ct kk key ⟨none,0,0⟩->K0)(hK:∀s,Ct kk key s->K s):
 ∃(kvs:List (Value×Sl))(Ok:Value->Prop),AD m y (kvs.map λp=>(p.1,eR p.2))/\KeyLaw Tryz.prog 9 Ok/\Ok (.string key)/\(∀e,List.Mem e kvs->Ok e.1)/\((∀e,List.Mem e kvs->e.1=Value.string key->False)->K0)/\∀t,List.Mem (Value.string key,t) kvs->K t:=by
 obtain⟨es,c,h1,h2,_,_⟩:=g.map_;refine⟨kk.map λp=>(.string p.1,p.2),_,⟨es,c,h1,by rw[h2];simp⟩,Bj,⟨key,rfl⟩,λe he=>?_,λhn=>h0 (.inl ⟨rfl,λh=>?_⟩),λt ht=>hK t (.inr ?_)⟩
 .obtain⟨k,_,rfl⟩:=List.mem_map.1 (show e∈_ from he);exact⟨k.1,rfl⟩
 .obtain⟨p,hp,e⟩:=List.mem_map.1 h;subst e;exact hn (.string p.1,p.2) (List.mem_map_of_mem (f:=λp:ByteArray×Sl=>(Value.string p.1,p.2)) hp) rfl
 .obtain⟨p,hp,e⟩:=List.mem_map.1 (show(Value.string key,t)∈_ from ht);simp only[Prod.mk.injEq,Value.string.injEq]at e;obtain⟨e1,e2⟩:=e;subst e1 e2;exact hp
structure Ri(m0 m:MH)(h:PH)(y:Nat)(f:ByteArray->List (List VV)):Prop where
 ex:∃kk us,pU m0 m y kk us/\∀k,fD h (us k) (f k)
theorem Ri.upd{m0:MH}{y:Nat}{kk:List (ByteArray×Sl)}{us:ByteArray->List Sl}{f f':ByteArray->List (List VV)}{key:ByteArray}{e:Sl}{r:List VV}(g:pU m0 m' y kk (Lw us key e))(hf:∀k,fD h (us k) (f k))(hv:cR h e r)(e1:f' key=f key++[r])(e2:∀k,k≠key->f' k=f k):Ri m0 m' h y f':=by
 refine⟨kk,_,g,λk=>?_⟩;by_cases hk:k=key
 .subst hk;rw[e1];have:Lw us k e k=us k++[e]:=if_pos rfl;rw[this];exact(hf k).snoc hv
 .rw[e2 k hk];have:Lw us key e k=us k:=if_neg hk;rw[this];exact hf k
def Bn(cols:List Int)(r:List VV):Bool:=(pick r cols).all mE
def nP(on:List (Int×Int))(b:List (List VV))(x:List VV):List (List VV):=
 if Bn (kQ on) x then(b.filter λy=>Bn (gK on) y&&agree on x y).map (x++ ·)else[]
def PF(q:Query)(ls:List (List (List VV))):List (List VV):=match q with|.mk _ _ _ _ on _ _ _ _=>(ls.getD 0 []).flatMap (nP on (ls.getD 1 []))
def Kd(q:Query)(ls:List (List (List VV))):Prop:=match q with|.mk _ _ _ _ on _ _ _ _=>ahZ on ls/\(ls.getD 0 []).length*(ls.getD 1 []).length<=1000000
theorem wE{α β:Type}{f:α->List β}{n:Nat}:∀{l:List α},(∀x∈l,(f x).length<=n)->(l.flatMap f).length<=l.length*n
 |[],_=>by simp
 |a::l,h=>by
  have h1:=h a (List.mem_cons_self ..);have h2:=wE (l:=l) λx hx=>h x (List.mem_cons_of_mem _ hx);simp only[List.flatMap_cons,List.length_append,List.length_cons,Nat.add_mul,Nat.one_mul];omega
theorem yJ{α β:Type}{l:List α}{x:α}(f:α->List β)(hx:l[k]? =some x):(l.take (k+1)).flatMap f=(l.take k).flatMap f++f x:=by
 rw[List.take_add_one,hx];simp
theorem Ar{on:List (Int×Int)}{b:List (List VV)}{x:List VV}:(nP on b x).length<=b.length:=by
 unfold nP;split
 .rw[List.length_map];exact List.length_filter_le _ _
 .simp
def under(cols:List Int)(l:List (List VV))(key:ByteArray):List (List VV):=l.filter λz=>Bn cols z&&decide (dD (pick z cols)=key)
theorem Ez{cols:List Int}{l:List (List VV)}{r:List VV}(hr:l[k]? =some r)(key:ByteArray):under cols (l.take (k+1)) key=under cols (l.take k) key++(if Bn cols r&&decide (dD (pick r cols)=key)then[r]else[]):=j4 _ hr
theorem SA:Sound Tryz.prog 150 (OS Kd PF):=by
 refine Ev Tryz.func150 ?_;rintro cvs m h K ⟨v,t,q,bs,ls,rfl,hq,ha,hT,hok,hK⟩;refine⟨Xj,rfl,aD KN (aD Ce (aD Sm (aD Sk aF))),HB v t m h (dQ h K),by kernel_rfl,?_⟩;show HB v t m h (dQ h K);dsimp only[HB,push_cast];obtain⟨op,ta,w,co,on,gr,od,li,args⟩:=q;obtain⟨⟨h2,wa,wb,hrel,hrel',hca,hcb⟩,hpr⟩:=hok;refine⟨v.on,on,rfl,hq.parts.on_,λsa sb h1 le1 hia hib=>O6 λb1 b2 y b7 m7 st=>?_⟩;obtain⟨b,off,x,ea,hlt,rd,sq⟩:=ha.get (Cv (i:=1) aC);obtain⟨b6,off6,x6,ea6,hlt6,rd6,sq6⟩:=ha.get (Cv (i:=0) aC);obtain⟨us',hseq',hru'⟩:=(sq.mono le1).ex;obtain⟨us,hseq,hru⟩:=(sq6.mono le1).ex;simp only[PF]at hK;generalize ls.getD 1 []=l' at hru' hrel' hK sq hpr;generalize ls.getD 0 []=l at hru hrel hK sq6 hpr;have hul:=hru.len;have hll:=hrel.len;have hll':=hrel'.len;have hul':=hru'.len;have s7:=st.sub;have ny:=st.free;have gsub:∀{mx kk us},pU m7 mx y kk us->Sub m mx:=λg z o e2=>g.old z o (s7 z o e2) (λe3=>by rw[e3,ny]at e2;cases e2);refine⟨b,off,ea,aC,aC,x,.imm (rd.mono le1),uU,us',λk mx hx=>hx=h1/\Ri m7 mx h1 y (under (gK on) (l'.take k)),tL,⟨x,us',rfl,hseq',rfl⟩,⟨rfl,⟨[],_,pU.new st.y_,λk=>by simpa[under]using fD.nil h1⟩⟩,?_,?_⟩
 .rintro k e mx hx hk-⟨rfl,⟨kk,uk,g,hg⟩⟩
  obtain⟨r,hr,hv⟩:=hru'.at' hk;have hrl:=List.mem_of_getElem? hr;have hcr:iR r.length (gK on):=by rw[hrel'.wid r hrl];exact hcb
  have mc:=g.old b7 _ st.c_ st.yc;have r5:aM mx hx b7 0 [Value.map (some y)]:=.of_m mc rfl;have rb:aM mx hx b2 0 [eR sb]:=.of_m (g.old b2 _ st.b_ st.yb) rfl;refine⟨sb,rb,e,sb,r,gK on,rfl,hv,hib,hcr,aB (λhreal=>?_) (λhreal=>?_)⟩
  .have hl:(uk (dD (pick r (gK on)))).length<=502633886983:=by
    have h5:=(hg (dD (pick r (gK on)))).len;have h6:(under (gK on) (l'.take k) (dD (pick r (gK on)))).length<=(l'.take k).length:=List.length_filter_le _ _;rw[List.length_take]at h6;omega
   have app:=fun{s:Sl}=>g.app (hx:=hx) (e:=e) (s:=s) (Q:=λm'=>hx=hx/\Ri m7 m' hx y (under (gK on) (l'.take (k+1)))) ⟨_,st.y_⟩ ⟨_,st.c_⟩ mc hl (λm' kk' g'=>⟨rfl,Ri.upd g' hg hv (by rw[Ez hr,if_pos];simpa[Bn]using hreal) (λk2 hk2=>by rw[Ez hr,if_neg,List.append_nil];simp[Ne.symm hk2])⟩);exact⟨sb,rb,e,sb,r,gK on,rfl,hv,hib,hrel'.row r hrl,hcr,hT.sub (gsub g),y,r5,y,r5,⟨r5,g.get2 (λhs=>⟨r5,r5,r5,r5,app hs⟩) (λs hs=>⟨r5,r5,r5,r5,app hs⟩)⟩,r5,r5,r5,g.get2 (λhs=>⟨r5,r5,app hs⟩) (λs hs=>⟨r5,r5,app hs⟩)⟩
  .refine⟨rfl,⟨kk,uk,g,λk2=>?_⟩⟩;rw[Ez hr,if_neg,List.append_nil]
   .exact hg k2
   .simp[Bn,hreal]
 .rintro mx hx-⟨rfl,gr⟩ b9 m5 hb5 hu5;rw[hul',List.take_length]at gr
  have ne7:∀{z o},mx z=some o->m5 z=some o/\z≠b9:=fun{z o} e2=>by
   have:z≠b9:=λe3=>by rw[e3,hb5.m_]at e2;cases e2
   exact⟨by rw[hu5.other z this];exact e2,this⟩
  have s5:Sub m mx:=by
   obtain⟨kk,uk,g,_⟩:=gr.ex;exact gsub g
  obtain⟨s6,n7⟩:=hZ s5 hb5 hu5;obtain⟨kk,uk,g,hg⟩:=gr.ex;refine⟨b6,off6,ea6,aC,aC,x6,.imm (rd6.mono le1),uU,us,λk my hy=>PH.le hx hy/\Ba m5 my b9/\∃us2,mY m5 my b9 us2/\fD hy us2 ((l.take k).flatMap (nP on l')),tL,⟨x6,us,rfl,hseq,rfl⟩,⟨.refl _,λz o e _=>e,[],mY.new hu5.at_,by simpa using fD.nil hx⟩,?_,?_⟩
  .rintro k e my hy hk-⟨le,hs7,us2,hout,hr2⟩
   obtain⟨r,hr,hv⟩:=hru.at' hk;have hkl:=(List.getElem?_eq_some_iff.1 hk).1;have hrl:=List.mem_of_getElem? hr;have old7:∀z o,mx z=some o->my z=some o:=λz o e2=>hs7 z o (ne7 e2).1 (ne7 e2).2;have g7:=g.keep old7;have r5:aM my hy b7 0 [Value.map (some y)]:=.of_m (g7.old b7 _ st.c_ st.yc) rfl;have r3:aM my hy b1 0 [eR sa]:=.of_m (g7.old b1 _ st.a_ st.ya) rfl;have hcr:iR r.length (kQ on):=by rw[hrel.wid r hrl];exact hca
   have hv':=cR.mono hv le;refine⟨sa,r3,e,sa,r,kQ on,rfl,hv',hia.mono le,hcr,aB (λhreal=>?_) (λhreal=>?_)⟩
   .refine⟨le,hs7,us2,hout,?_⟩;have:nP on l' r=[]:=if_neg (by simpa[Bn]using hreal);rw[yJ _ hr,this,List.append_nil];exact hr2
   .have hreal:(pick r (kQ on)).all mE=true:=by simpa using hreal
    have hgl:under (gK on) l' (dD (pick r (kQ on)))=l'.filter λy=>Bn (gK on) y&&agree on r y:=by
     refine List.filter_congr λz hz=>?_;congr 1;have h5:=He (hrel.row r hrl) (hrel'.row z hz) hcr (by rw[hrel'.wid z hz];exact hcb);cases e5:agree on r z with
     |true=>exact decide_eq_true (h5.2 e5).symm
     |false=>exact decide_eq_false λe6=>by rw[h5.1 e6.symm]at e5;cases e5
    have hjr:nP on l' r=(under (gK on) l' (dD (pick r (kQ on)))).map (r++ ·):=by rw[hgl];exact if_pos (by simpa[Bn]using hreal)
    have hpre:((l.take k).flatMap (nP on l')).length+(under (gK on) l' (dD (pick r (kQ on)))).length<=1000000:=by
     have h5:((l.take (k+1)).flatMap (nP on l')).length<=(l.take (k+1)).length*l'.length:=wE λx _=>Ar;rw[yJ _ hr,List.length_append,hjr,List.length_map]at h5;have h6:(l.take (k+1)).length*l'.length<=l.length*l'.length:=Nat.mul_le_mul_right _ (by rw[List.length_take];omega);omega
    have loop:∀s,Ct kk (dD (pick r (kQ on))) s->dW mx s 74 1 ((uk (dD (pick r (kQ on)))).map eS):=λs hs=>(hs.row g).1;generalize hG:under (gK on) l' (dD (pick r (kQ on)))=G at hjr hpre;have hGu:=hg (dD (pick r (kQ on)));rw[hG]at hGu;have hGl:=hGu.len;refine⟨y,r5,sa,r3,r5,e,sa,r,kQ on,rfl,hv',hia.mono le,hrel.row r hrl,hcr,hT.sub (s6.x n7 hs7),r5,r3,g7.get2 (λhs=>?_) (λs hs=>?_)⟩
    .refine⟨λz=>z.1<=G.length/\z.2.1=b9/\z.2.2.1=e/\z.2.2.2.1=(⟨none,0,0⟩:Sl)/\PH.le hy z.2.2.2.2.2/\Ba m5 z.2.2.2.2.1 b9/\∃us3,mY m5 z.2.2.2.2.1 b9 us3/\fD z.2.2.2.2.2 us3 ((l.take k).flatMap (nP on l')++(G.take z.1).map (r++ ·)),λz=>G.length-z.1,⟨(0,b9,e,(⟨none,0,0⟩:Sl),my,hy),⟨by simp,rfl,rfl,rfl,.refl _,hs7,us2,hout,by simpa using hr2⟩,MT⟩,?_⟩;rintro⟨i,bb,ee,gg,mz,hz⟩ ⟨hi,e1,e2,e3,lez,hsz,us3,houtz,hrz⟩;dsimp only at hi e1 e2 e3 lez hsz houtz hrz;subst e1 e2 e3;have gz:=g.keep (λz o e2=>hsz z o (ne7 e2).1 (ne7 e2).2);have hrow:=(hs.row gz).1;have hsl:=hrow.slen;rw[List.length_map,hGl]at hsl;refine aE (λhlt2=>?_) (λhge=>?_)
     .dsimp only at hlt2⊢
      have hiG:i<G.length:=by omega
      obtain⟨u,hu,hvu⟩:=hGu.at_ i _ (List.getElem?_eq_getElem hiG);obtain⟨b8,e8,rd8⟩:=hrow.rd (h:=hz) (i:=i) (e:=[eR u]) (by rw[List.getElem?_map,hu];rfl);obtain⟨so,hbo,hrowo,hfro⟩:=houtz.ex;have rdo:∀hh,aM mz hh bb 0 [eR so]:=λhh=>.of_m hbo rfl;have hru3:=hrz.len;simp only[List.length_append,List.length_map,List.length_take]at hru3;refine⟨b8,0,e8,aC,aC,u,by simpa using rd8,so,rdo _,rdo _,rdo _,λs2 h3 le3 hri=>⟨s2,[r,G[i]],rfl,?_,by simp,?_,λsl h4 le4 hsl4=>⟨rdo _,rdo _,FC ⟨_,hu5.at_⟩ hsz hbo hrowo hfro aC (λm' hs' ho'=>⟨(i+1,bb,ee,⟨none,0,0⟩,m',h4),⟨by dsimp only;omega,rfl,rfl,rfl,lez.trans (le3.trans le4),hs',us3++[sl],ho',?_⟩,by dsimp only;omega,?_⟩)⟩⟩⟩
      .refine fD.rows (us:=[ee,u]) ?_ hri (by simp);refine⟨rfl,λj z hj=>?_⟩
       match j,hj with
       |0,hj=>
        simp at hj;subst hj;exact⟨ee,rfl,cR.mono hv' (lez.trans le3)⟩
       |1,hj=>
        simp at hj;subst hj;exact⟨u,rfl,cR.mono hvu (le.trans (lez.trans le3))⟩
      .intro z hz2;have hz2:z∈[r,G[i]]:=hz2;rcases List.mem_cons.1 hz2 with rfl|hz2
       .exact(hrel.row _ hrl).len
       .have e7:=List.mem_singleton.1 hz2
        have:z∈l':=by
         have h9:z∈under (gK on) l' (dD (pick r (kQ on))):=by rw[hG,e7];exact List.getElem_mem _
         exact(List.mem_filter.1 h9).1
        exact(hrel'.row _ this).len
      .have e7:(G.take (i+1)).map (r++ ·)=(G.take i).map (r++ ·)++[r++G[i]]:=by rw[List.take_add_one,List.getElem?_eq_getElem hiG,List.map_append];rfl
       rw[e7, <-List.append_assoc];exact(hrz.mono (le3.trans le4)).snoc (by simpa using hsl4)
      .dsimp only;exact⟨rfl,rfl,rfl,rfl,by rw[jA aC],rfl,rfl,trivial⟩
     .dsimp only at hge⊢
      have:i=G.length:=by have hsl:0=G.length:=hsl;omega
      subst this;refine⟨le.trans lez,hsz,us3,houtz,?_⟩;rw[yJ _ hr,hjr];rw[List.take_length]at hrz;exact hrz
    .refine⟨λz=>z.1<=G.length/\z.2.1=b9/\z.2.2.1=e/\z.2.2.2.1=s/\PH.le hy z.2.2.2.2.2/\Ba m5 z.2.2.2.2.1 b9/\∃us3,mY m5 z.2.2.2.2.1 b9 us3/\fD z.2.2.2.2.2 us3 ((l.take k).flatMap (nP on l')++(G.take z.1).map (r++ ·)),λz=>G.length-z.1,⟨(0,b9,e,s,my,hy),⟨by simp,rfl,rfl,rfl,.refl _,hs7,us2,hout,by simpa using hr2⟩,MT⟩,?_⟩;rintro⟨i,bb,ee,gg,mz,hz⟩ ⟨hi,e1,e2,e3,lez,hsz,us3,houtz,hrz⟩;dsimp only at hi e1 e2 e3 lez hsz houtz hrz;subst e1 e2 e3;have gz:=g.keep (λz o e2=>hsz z o (ne7 e2).1 (ne7 e2).2);have hrow:=(hs.row gz).1;have hsl:=hrow.slen;rw[List.length_map,hGl]at hsl;refine aE (λhlt2=>?_) (λhge=>?_)
     .dsimp only at hlt2⊢
      have hiG:i<G.length:=by omega
      obtain⟨u,hu,hvu⟩:=hGu.at_ i _ (List.getElem?_eq_getElem hiG);obtain⟨b8,e8,rd8⟩:=hrow.rd (h:=hz) (i:=i) (e:=[eR u]) (by rw[List.getElem?_map,hu];rfl);obtain⟨so,hbo,hrowo,hfro⟩:=houtz.ex;have rdo:∀hh,aM mz hh bb 0 [eR so]:=λhh=>.of_m hbo rfl;have hru3:=hrz.len;simp only[List.length_append,List.length_map,List.length_take]at hru3;refine⟨b8,0,e8,aC,aC,u,by simpa using rd8,so,rdo _,rdo _,rdo _,λs2 h3 le3 hri=>⟨s2,[r,G[i]],rfl,?_,by simp,?_,λsl h4 le4 hsl4=>⟨rdo _,rdo _,FC ⟨_,hu5.at_⟩ hsz hbo hrowo hfro aC (λm' hs' ho'=>⟨(i+1,bb,ee,gg,m',h4),⟨by dsimp only;omega,rfl,rfl,rfl,lez.trans (le3.trans le4),hs',us3++[sl],ho',?_⟩,by dsimp only;omega,?_⟩)⟩⟩⟩
      .refine fD.rows (us:=[ee,u]) ?_ hri (by simp);refine⟨rfl,λj z hj=>?_⟩
       match j,hj with
       |0,hj=>
        simp at hj;subst hj;exact⟨ee,rfl,cR.mono hv' (lez.trans le3)⟩
       |1,hj=>
        simp at hj;subst hj;exact⟨u,rfl,cR.mono hvu (le.trans (lez.trans le3))⟩
      .intro z hz2;have hz2:z∈[r,G[i]]:=hz2;rcases List.mem_cons.1 hz2 with rfl|hz2
       .exact(hrel.row _ hrl).len
       .have e7:=List.mem_singleton.1 hz2
        have:z∈l':=by
         have h9:z∈under (gK on) l' (dD (pick r (kQ on))):=by rw[hG,e7];exact List.getElem_mem _
         exact(List.mem_filter.1 h9).1
        exact(hrel'.row _ this).len
      .have e7:(G.take (i+1)).map (r++ ·)=(G.take i).map (r++ ·)++[r++G[i]]:=by rw[List.take_add_one,List.getElem?_eq_getElem hiG,List.map_append];rfl
       rw[e7, <-List.append_assoc];exact(hrz.mono (le3.trans le4)).snoc (by simpa using hsl4)
      .dsimp only;exact⟨rfl,rfl,rfl,rfl,by rw[jA aC],rfl,rfl,trivial⟩
     .dsimp only at hge⊢
      have:i=G.length:=by omega
      subst this;refine⟨le.trans lez,hsz,us3,houtz,?_⟩;rw[yJ _ hr,hjr];rw[List.take_length]at hrz;exact hrz
  .rintro my hy le2 ⟨le,hs7,us2,hout,hr2⟩;rw[hul,List.take_length]at hr2;obtain⟨s,hb,hrow,hfr⟩:=hout.ex;refine⟨s,.of_m hb rfl,dQ.row (s6.x n7 hs7) (le1.trans le) hrow (λj z e=>?_) (λh' le' hri=>hK s h' (le1.trans (le.trans le')) ((hr2.mono le').rows hri ?_))⟩
   .cases e2:m z with
    |none=>rfl
    |some o=>have e1:=hfr j z e;rw[s6 z o e2]at e1;cases e1
   .have h5:(l.flatMap (nP on l')).length<=l.length*l'.length:=wE λx _=>Ar;omega
noncomputable def W7:Ctx:=On [(186,X6),(107,XT)]
 [(7,{A:=Nat×Nat×Nat×MH×PH,st:=λ⟨b,c,r,m,h⟩=>cE 35 37 [(2,vv (.pointer (some ⟨b,0,none⟩))),(5,vv (.pointer (some ⟨c,0,none⟩))),(26,vv (.pointer (some ⟨r,0,none⟩)))] [] m h})] [] [200002,200005,1053,400000,0]
noncomputable abbrev lX(a:Nat×Nat×Nat×MH×PH):Nat×MH×PH:=a.2.2
abbrev Km(a:Nat->(List (Value×Value))->(List (Value×Value))->Prop):Prop:=∃(x:Nat)(x1 x2:List (Value×Value)),a x x1 x2
attribute [push_cast] lX Km
def Hu(v:QV)(u:Nat)(m:MH)(h:PH)(K:CV->MH->PH->Prop):Prop:=
  ∀(b:Nat)(m1:MH),bC (cM m h b) (bE m m1 b v.enc 38) (BR m1 h 0 (λb1 m2=>∀(b2:Nat)(m3:MH),bC (cM m2 h b2) (bE m2 m3 b2 (j6 EM) 207) (eX (λc E=>aA (oX m3 b2 (dV c E 0)) (0<c.size) (∀(m4:MH),bE m3 m4 b2 (eU (Value.map (Option.some b1)) 1 c) E->∃(S:PH->List Value->List (List Value)->Prop),qX S h u m4 (λx I k e=>eA (λm5 h1=>bC (qA x k e) (PH.le h h1) (I k m5 h1->∃(y:Sl),aM m5 h1 b 17 (aR y)/\DF e y h1 (λr _=>OR r) (λr c1=>aA (Bw r c1) (jN m5) (∃(y1:Nat),aM m5 h1 b2 0 (oJ y1)/\∃(y2:Nat),aA (cX m5 h1 b2 y2) (aM m5 h1 b2 0 (oJ y1)/\xK m5 y2 r c1 (aA (cX m5 h1 b2 y1) (cX m5 h1 b2 y2) (aA (cX m5 h1 b2 y1) (cX m5 h1 b2 y2) (∃(x1:List (List Value)),aH (dW m5 xI 74 1 x1) (iB
 ((x1.length+1)*24)) (iX x1) (iH (λs m6=>eZ m5 m6 xI s 74 1 (kB x1 e)->aA (cX m6 h1 b2 y1) (cX m6 h1 b2 y2) (wT (λk1 O=>aA (kO m6 y1 k1) (rH O) (aA (O (cL r c1)) (nD (Instr.sameBits 10000 (cL r c1) (cL r c1))) (uN (∀(e1:Value×Value),rE e1 k1 O) ((∀(e1:Value×Value),pJ (List.Mem e1 k1) (e1.1=cL r c1))->∀(m7:MH),bC (jD m6 m7 y1) (kO m7 y1 (k1++wQ (cL r c1) (eR s))) (I (k+1) m7 h1)) (λl=>∀(v1:Value)(l1:List (Value×Value)),k1=l++lL (cL r c1) v1 l1->∀(m7:MH),bC (jD m6 m7 y1) (kO m7 y1 (l++lL (cL r c1) (eR s) l1)) (I (k+1) m7 h1))))))))))) (λy3=>aA (cX m5 h1 b2 y1) (cX m5 h1 b2 y2) (aA (cX m5 h1 b2 y1) (cX m5 h1 b2 y2) (∃(x1:List (List Value)),aH (dW m5 (dR y3) 74 1 x1) (iB
 ((x1.length+1)*24)) (iX x1) (iH (λs m6=>eZ m5 m6 (dR y3) s 74 1 (kB x1 e)->aA (cX m6 h1 b2 y1) (cX m6 h1 b2 y2) (wT (λk1 O=>aA (kO m6 y1 k1) (rH O) (aA (O (cL r c1)) (nD (Instr.sameBits 10000 (cL r c1) (cL r c1))) (uN (∀(e1:Value×Value),rE e1 k1 O) ((∀(e1:Value×Value),pJ (List.Mem e1 k1) (e1.1=cL r c1))->∀(m7:MH),bC (jD m6 m7 y1) (kO m7 y1 (k1++wQ (cL r c1) (eR s))) (I (k+1) m7 h1)) (λl=>∀(v1:Value)(l1:List (Value×Value)),k1=l++lL (cL r c1) v1 l1->∀(m7:MH),bC (jD m6 m7 y1) (kO m7 y1 (l++lL (cL r c1) (eR s) l1)) (I (k+1) m7 h1)))))))))))) (aA (cX m5 h1 b2 y1) (cX m5 h1 b2 y2) (aM m5 h1 b2 0 (oJ y1)/\xK m5 y2 r c1 (AJ (cX m5 h1 b2 y1) (cX m5 h1 b2 y2) (λx1=>aH (dW
 m5 xI 74 1 x1) (iB ((x1.length+1)*24)) (iX x1) (iH (λs m6=>eZ m5 m6 xI s 74 1 (kB x1 e)->aA (cX m6 h1 b2 y1) (cX m6 h1 b2 y2) (wT (λk1 O=>aA (kO m6 y1 k1) (rH O) (aA (O (cL r c1)) (nD (Instr.sameBits 10000 (cL r c1) (cL r c1))) (uN (∀(e1:Value×Value),rE e1 k1 O) ((∀(e1:Value×Value),pJ (List.Mem e1 k1) (e1.1=cL r c1))->∀(m7:MH),bC (jD m6 m7 y1) (kO m7 y1 (k1++wQ (cL r c1) (eR s))) (I (k+1) m7 h1)) (λl=>∀(v1:Value)(l1:List (Value×Value)),k1=l++lL (cL r c1) v1 l1->∀(m7:MH),bC (jD m6 m7 y1) (kO m7 y1 (l++lL (cL r c1) (eR s) l1)) (I (k+1) m7 h1)))))))))) (λy3=>AJ (cX m5 h1 b2 y1) (cX m5 h1 b2 y2) (λx1=>aH (dW m5 (dR y3) 74 1 x1) (iB ((x1.length+1)*24)) (iX x1)
 (iH (λs m6=>eZ m5 m6 (dR y3) s 74 1 (kB x1 e)->aA (cX m6 h1 b2 y1) (cX m6 h1 b2 y2) (wT (λk1 O=>aA (kO m6 y1 k1) (rH O) (aA (O (cL r c1)) (nD (Instr.sameBits 10000 (cL r c1) (cL r c1))) (uN (∀(e1:Value×Value),rE e1 k1 O) ((∀(e1:Value×Value),pJ (List.Mem e1 k1) (e1.1=cL r c1))->∀(m7:MH),bC (jD m6 m7 y1) (kO m7 y1 (k1++wQ (cL r c1) (eR s))) (I (k+1) m7 h1)) (λl=>∀(v1:Value)(l1:List (Value×Value)),k1=l++lL (cL r c1) v1 l1->∀(m7:MH),bC (jD m6 m7 y1) (kO m7 y1 (l++lL (cL r c1) (eR s) l1)) (I (k+1) m7 h1))))))))))))))))) (λm5 h1=>∃(y:Nat),aM m5 h1 b2 0 (oJ y)/\∃(k:List (Value×Value)),gY (kO m5 y k) (λr=>∀(m6:MH),bC (cM m5 h1 r) (jD m5 m6 r) (lG m6 y r k k->∃(I:Nat×
 Nat×Nat×MH×PH->Prop)(m7:Nat×Nat×Nat×MH×PH->Nat),(∃(x:Nat×Nat×Nat×MH×PH),aA (I x) (cF b x.1) (aA (cF b2 x.2.1) (cF r (lX x).1) (aA (cO m6 (lX x).2) (dO h1 (lX x).2) True)))/\∀(x:Nat×Nat×Nat×MH×PH),I x->Km (λb3 k1 l=>uN (lG (eY (lX x)) b3 (lX x).1 k1 l) (l=[]->∃(y1:Nat),aM (eY (lX x)) (eD (lX x)) x.2.1 0 (oJ y1)/\K (CV.val (Value.map (Option.some y1))) (eY (lX x)) (eD (lX x))) (λl1=>∀(x1:Value×Value)(l2:List (Value×Value)),l=l1++x1::l2->∀(m8:MH),bC (jD (eY (lX x)) m8 (lX x).1) (Ek m8 b3 (lX x).1 k1 (l1++l2) x1) (Km (λb4 k2 l3=>∃(x2:Value×Value),Ek m8 b4 (lX x).1 k2 l3 x2/\∃(s:Sl)(b5:Nat)(v1:QV)(o:List (Int×Bool))(w:Nat)(p:List (Sl×
 List VV)),aA (bI (CV.val x2.2) (CV.val (Value.func (Fn.func 211) rW (Bz x.1)))=fW s (CV.val (Value.func (Fn.func 211) rW (Bz b5)))) (m8 b5=Option.some (dV (Array.mk v1.enc) 38 0)) (aA (∀(i:Nat),jU (aU s.a b5 i)) (jC (eD (lX x)) v1.order o) (aA (FN m8 s 1 p) (∀(p1:Sl×List VV),List.Mem p1 p->cR (eD (lX x)) p1.1 p1.2) (aA (∀(p1:Sl×List VV),List.Mem p1 p->p1.2.length=w) (iB p.length) (∀(p1:List (Sl×List VV))(m9:MH),bC (List.Perm p1 p) (List.Pairwise (fun(p2:Sl×List VV)=>fun(q:Sl×List VV)=>¬(iA o q.2 p2.2<0)) p1) (bC (FN m9 s 1 p1) (∀(b6:Nat),(∀(i:Nat),jU (aU s.a b6 i))->m9 b6=m8 b6) (∃(x3:Nat×Nat×Nat×MH×PH),aA (I x3) (m7 x3<m7 x) (aA (cF x.1 x3.1) (cF x.2.1 x3.2.1) (aH (cF (lX x).1 (lX x3).1) (cO m9
 (lX x3).2) (dO (eD (lX x)) (lX x3).2) True))))))))))))))))))))
def nT(gr:List Int)(l:List (List VV))(k:ByteArray):List (List VV):=l.filter λz=>decide (dD (pick z gr)=k)
def rF(od:List (Int×Bool))(l:List (List VV)):Prop:=l.Pairwise λa b=>¬iA od b a<0
structure uW(m:MH)(h:PH)(y:Nat)(gr:List Int)(od:List (Int×Bool))(l:List (List VV))(kk:List (ByteArray×Sl))(g:ByteArray->List (List VV)):Prop where
 map_:kO m y (kk.map λp=>(Value.string p.1,eR p.2))
 nodup:(kk.map Prod.fst).Nodup
 rows:∀p∈kk,Rows h p.2 (g p.1)
 none_:∀k,k∉kk.map Prod.fst->g k=[]
 perm:∀k,(g k).Perm (nT gr l k)
 sort:∀k,rF od (g k)
def OK:Vc.Spec:=λcvs m h K=>∃v u gr od l w,cvs=[aQ v,.val (.func (.func 147) #[] #[.pointer (some ⟨u,0,none⟩)])]/\Ints h v.group gr/\jC h v.order od/\LI h u l/\i7 w l/\iR w gr/\jN m/\
 ∀y m2 h2 kk g,m y=none->(∀b,b≠y->m2 b=m b)->PH.le h h2->uW m2 h2 y gr od l kk g->K (.val (.map (some y))) m2 h2
structure anJ(m:MH)(h:PH)(od:List (Int×Bool))(p:ByteArray×Sl)(f:ByteArray->List (List VV))(st:Prop):Prop where
 ex:∃ps:List (Sl×List VV),dW m p.2 74 1 (ps.map λq=>eS q.1)/\(∀q∈ps,cR h q.1 q.2)/\(ps.map Prod.snd).Perm (f p.1)/\(st->rF od (ps.map Prod.snd))
noncomputable def leftOf(m:MH)(r:Nat):Nat:=match m r with
 |some (.mapIter (some b) _ seen _)=>(match m b with|some (.map es _)=>(es.toList.filter λe=> !seen.contains e.born).length|_=>0)
 |_=>0
theorem lG.left_{r:Nat}{kvs left:List (Value×Value)}(i:lG m b r kvs left):leftOf m r=left.length:=by
 obtain⟨es,c,since,seen,c0,h1,_,_,_,h5,_,_,_,h9⟩:=i.ex;simp only[leftOf,h5,h1];rw[<-h9,List.length_map]
theorem lG.mem{r:Nat}{kvs left:List (Value×Value)}(i:lG m b r kvs left){x:Value×Value}(hx:x∈left):x∈kvs:=by
 obtain⟨es,c,since,seen,c0,h1,h2,_,_,h5,_,_,_,h9⟩:=i.ex;rw[<-h9]at hx;rw[<-h2];obtain⟨e,he,rfl⟩:=List.mem_map.1 hx;exact List.mem_map.2 ⟨e,(List.mem_filter.1 he).1,rfl⟩
theorem lG.keep{r:Nat}{kvs left:List (Value×Value)}(i:lG m b r kvs left)(h1:m' b=m b)(h2:m' r=m r):lG m' b r kvs left:=by
 obtain⟨es,c,since,seen,c0,h3,h4⟩:=i.ex;exact⟨es,c,since,seen,c0,by rw[h1];exact h3,by rw[h2];exact h4⟩
theorem lG.nodup{r:Nat}{kvs left:List (Value×Value)}(i:lG m b r kvs left)(hn:kvs.Nodup):left.Nodup:=by
 obtain⟨es,c,since,seen,c0,h1,h2,_,_,h5,_,_,_,h9⟩:=i.ex;rw[<-h9];rw[<-h2]at hn;exact hn.sublist (List.filter_sublist.map _)
theorem ahX{us:List Sl}{rs:List (List VV)}(hu:fD h us rs):∃ps:List (Sl×List VV),ps.map Prod.fst=us/\ps.map Prod.snd=rs/\∀q∈ps,cR h q.1 q.2:=by
 refine⟨us.zip rs,List.map_fst_zip (Nat.le_of_eq hu.len),List.map_snd_zip (Nat.le_of_eq hu.len.symm),λq hq=>?_⟩;obtain⟨i,hi⟩:=List.mem_iff_getElem?.1 hq;rw[List.getElem?_zip_eq_some]at hi;obtain⟨u,h1,h2⟩:=hu.at_ i _ hi.2;rw[hi.1]at h1;cases h1;exact h2
theorem dW.ice{s:Sl}{us:List Sl}(hr:dW m s 74 1 (us.map eS))(hb:∀b cur,s.a=some ⟨b,0,none⟩->m b=some (.cells cur 74 (0,0))->∀i,h b i=cur[i]?):cW h s 1 (us.map eS):=by
 rcases hr.ex with⟨rfl,hx0⟩|⟨b,cap,cur,rfl,hm,h1,h2,h3,h4⟩
 .rw[hx0];exact cW.nil _ _
 .refine⟨by simp,?_,h1⟩;by_cases hu:us.map eS=[]
  .exact .inl hu
  .refine .inr ⟨b,0,rfl,λi e hi=>⟨λj v hv=>?_⟩⟩;have hel:=hr.rows.len e (List.mem_of_getElem? hi);have hj:j=0:=by have:=(List.getElem?_eq_some_iff.1 hv).1;omega
   subst hj;have hlt:=(List.getElem?_eq_some_iff.1 hi).1
   have h5:((us.map eS).flatten)[i]? =some v:=by
    rw[List.getElem?_map]at hi;cases hu2:us[i]? with
    |none=>rw[hu2]at hi;cases hi
    |some u=>
     rw[hu2]at hi;simp at hi;subst hi;simp[eS]at hv;subst hv
     have:∀l:List Sl,(l.map eS).flatten=l.map λu=>Value.slice u.a u.len u.cap:=λl=>by
      induction l with
      |nil=>rfl
      |cons a l ih=>simp only[List.map_cons,List.flatten_cons,ih];rfl
     rw[this,List.getElem?_map,hu2];rfl
   rw[<-h4,List.getElem?_take,if_pos aC]at h5;rw[hb b cur rfl hm, <-Array.getElem?_toList,show 0+i*1+0=i by omega];exact h5
theorem JC{kk:List (ByteArray×Sl)}(hn:(kk.map Prod.fst).Nodup){p q:ByteArray×Sl}(hp:p∈kk)(hq:q∈kk)(e:p.1=q.1):p=q:=by
 induction kk with
 |nil=>cases hp
 |cons a kk ih=>
  have hn:=List.nodup_cons.1 hn;rcases List.mem_cons.1 hp with rfl|hp2<;>rcases List.mem_cons.1 hq with rfl|hq2
  .rfl
  .exact(hn.1 (List.mem_map.2 ⟨q,hq2,e.symm⟩)).elim
  .exact(hn.1 (List.mem_map.2 ⟨p,hp2,e⟩)).elim
  .exact ih hn.2 hp2 hq2
theorem KK:Sound Tryz.prog 191 OK:=by
 refine Ev Tryz.func191 ?_;rintro cvs m h K ⟨v,u,gr,od,l,w,rfl,hgr,hod,sq,hrel,hcols,hT,hK⟩;refine⟨W7,rfl,aD Ce (aD QT aF),Hu v u m h (dQ h K),by kernel_rfl,?_⟩;show Hu v u m h (dQ h K);dsimp only[Hu,push_cast];intro bq m1 hb1 hu1 y m2 hb2 hu2 bc m3 hb3 hu3;obtain⟨s1,nq⟩:=hZ (Sub.refl m) hb1 hu1;obtain⟨s2,ny⟩:=hZ s1 hb2 hu2;obtain⟨s3,nc⟩:=hZ s2 hb3 hu3;have hqy:bq≠y:=λe=>by have:=hb2.m_;rw[<-e,hu1.at_]at this;cases this
 have m2q:m2 bq=some (.cells ⟨QV.enc v⟩ 38 (0,0)):=by rw[hu2.other bq hqy];exact hu1.at_
 have hqc:bq≠bc:=λe=>by have:=hb3.m_;rw[<-e,m2q]at this;cases this
 have hyc:y≠bc:=λe=>by have:=hb3.m_;rw[<-e,hu2.at_]at this;cases this
 refine⟨_,_,⟨hu3.at_⟩,by simp,λm4 hu4=>?_⟩;have s4:Sub m m4:=s3.upd nc hu4.other;have m4q:m4 bq=some (.cells ⟨QV.enc v⟩ 38 (0,0)):=by rw[hu4.other bq hqc,hu3.other bq hqc];exact m2q
 have m4y:m4 y=some (.map #[] 0):=by rw[hu4.other y hyc,hu3.other y hyc];exact hu2.at_
 have m4c:m4 bc=some (.cells #[.map (some y)] 207 (0,0)):=hu4.at_;obtain⟨us,hseq,hru⟩:=sq.ex;have hul:=hru.len;have hll:=hrel.len;clear hu1 hu2 hu3 hu4 hb1 hb2 hb3 s1 s2 s3 m2q;have gsub:∀{mx kk us},pU m4 mx y kk us->Sub m mx:=λg z o e2=>g.old z o (s4 z o e2) (λe3=>by rw[e3,ny]at e2;cases e2);refine⟨uU,us,λk mx hx=>hx=h/\Ri m4 mx h y (nT gr (l.take k)),tL,⟨u,us,rfl,hseq,rfl⟩,⟨rfl,⟨[],_,pU.new m4y,λk=>by simpa[nT]using fD.nil h⟩⟩,?_,?_⟩
 .rintro k e mx hx hk-⟨rfl,⟨kk,uk,g,hg⟩⟩
  obtain⟨r,hr,hv⟩:=hru.at' hk;have hrl:=List.mem_of_getElem? hr;have mc:=g.old bc _ m4c (Ne.symm hyc);have r5:aM mx hx bc 0 [Value.map (some y)]:=.of_m mc rfl;have rq:aM mx hx bq 17 [eR v.group]:=.of_m (g.old bq _ m4q hqy) rfl
  have hl:(uk (dD (pick r gr))).length<=502633886983:=by
   have h5:=(hg (dD (pick r gr))).len;have h6:(nT gr (l.take k) (dD (pick r gr))).length<=(l.take k).length:=List.length_filter_le _ _;rw[List.length_take]at h6;omega
  have app:=fun{s:Sl}=>g.app (hx:=hx) (e:=e) (s:=s) (Q:=λm'=>hx=hx/\Ri m4 m' hx y (nT gr (l.take (k+1)))) ⟨_,m4y⟩ ⟨_,m4c⟩ mc hl (λm' kk' g'=>⟨rfl,Ri.upd g' hg hv (by rw[nT,j4 _ hr,if_pos (by simp)];rfl) (λk2 hk2=>by rw[nT,j4 _ hr,if_neg (by simp[Ne.symm hk2]),List.append_nil];rfl)⟩);exact⟨v.group,rq,e,v.group,r,gr,rfl,hv,hgr,hrel.row r hrl,by rw[hrel.wid r hrl];exact hcols,hT.sub (gsub g),y,r5,y,r5,⟨r5,g.get2 (λhs=>⟨r5,r5,r5,r5,app hs⟩) (λs hs=>⟨r5,r5,r5,r5,app hs⟩)⟩,r5,r5,r5,g.get2 (λhs=>⟨r5,r5,app hs⟩) (λs hs=>⟨r5,r5,app hs⟩)⟩
 .rintro mx hx-⟨rfl,⟨kk,uk,g,hg⟩⟩
  rw[hul,List.take_length]at hg;have mc:=g.old bc _ m4c (Ne.symm hyc);have mq:=g.old bq _ m4q hqy;refine⟨y,.of_m mc rfl,_,g.map_,λr m5 hb5 hs5 it=>?_⟩
  have ne5:∀{z o},mx z=some o->m5 z=mx z/\z≠r:=fun{z o} e2=>by
   have:z≠r:=λe3=>by rw[e3,hb5.m_]at e2;cases e2
   exact⟨hs5.other z this,this⟩
  have hsome:∀p∈kk,∀x i,p.2.a=some ⟨x,i,none⟩->∃o,mx x=some o:=λp hp x i e2=>⟨_,((g.row p hp).blk e2).choose_spec⟩
  have kvsnd:(kk.map λp=>(Value.string p.1,eR p.2)).Nodup:=by
   have h5:=g.nodup;rw[List.nodup_iff_pairwise_ne,List.pairwise_map]at h5;rw[List.nodup_iff_pairwise_ne,List.pairwise_map];exact h5.imp λhne e=>hne (by simp only[Prod.mk.injEq,Value.string.injEq]at e;exact e.1)
  refine⟨λz=>z.1=bq/\z.2.1=bc/\z.2.2.1=r/\z.2.2.2.2=hx/\(∀b o,mx b=some o->(∀p∈kk,∀i,p.2.a≠some ⟨b,i,none⟩)->z.2.2.2.1 b=some o)/\∃left,lG z.2.2.2.1 y r (kk.map λp=>(Value.string p.1,eR p.2)) left/\∀p∈kk,anJ z.2.2.2.1 hx od p (nT gr l) ((Value.string p.1,eR p.2)∉left),λz=>leftOf z.2.2.2.1 z.2.2.1,⟨(bq,bc,r,m5,hx),⟨rfl,rfl,rfl,rfl,λb o e _=>(ne5 e).1.trans e,_,it,λp hp=>?_⟩,MT⟩,?_⟩
  .obtain⟨ps,e1,e2,e3⟩:=ahX (hg p.1);refine⟨ps,?_,e3,by rw[e2],λhn=>(hn (List.mem_map_of_mem (f:=λp:ByteArray×Sl=>(Value.string p.1,eR p.2)) hp)).elim⟩;have e5:(ps.map λq=>eS q.1)=(uk p.1).map eS:=by rw[<-e1,List.map_map];rfl
   rw[e5];exact dW.keep (g.row p hp) λb i e=>(ne5 (hsome p hp b i e).choose_spec).1
  .rintro⟨b1,b2,b3,mz,hz⟩ ⟨e1,e2,e3,e4,oth,left,itz,half⟩;dsimp only at e1 e2 e3 e4 oth itz half⊢
   subst e1 e2 e3 e4;refine⟨y,_,left,itz,λhleft=>?_,λl1 x l2 hlx m6 hs6 ita=>?_⟩
   .have notg:∀b o,m4 b=some o->∀p∈kk,∀i,p.2.a≠some ⟨b,i,none⟩:=λb o e p hp i e2=>by rw[g.fresh p hp b i e2]at e;cases e
    refine⟨y,.of_m (oth b2 _ mc (notg b2 _ m4c)) rfl,λhd=>?_⟩;subst hleft
    classical
    let B:Nat->Prop:=λb=>∃p∈kk,p.2.a=some ⟨b,0,none⟩
    have hB:∀b,B b->m b=none/\b≠y/\∀i,hz b i=none:=by
     rintro b ⟨p,hp,e⟩;obtain⟨ps,h1,_⟩:=(half p hp).ex;refine⟨?_,λe2=>?_,hd b _ (h1.blk e).choose_spec⟩
     .cases e2:m b with
      |none=>rfl
      |some o=>exact(notg b o (s4 b o e2) p hp 0 e).elim
     .rw[e2]at e;exact notg y _ m4y p hp 0 e
    let h2:PH:=λb i=>if B b then(match mz b with|some (.cells cs _ _)=>cs[i]? |_=>none)else hz b i
    have le2:PH.le hz h2:=⟨λb i v e=>by
     have:¬B b:=λhb=>by rw[(hB b hb).2.2 i]at e;cases e
     show(if B b then _ else hz b i)=some v;rw[if_neg this];exact e⟩
    have grp:∀p∈kk,∃G,Rows h2 p.2 G/\G.Perm (nT gr l p.1)/\rF od G:=λp hp=>by
     obtain⟨ps,h1,h3,h4,h5⟩:=(half p hp).ex;refine⟨ps.map Prod.snd,?_,h4,h5 (by simp)⟩;have e5:(ps.map λq=>eS q.1)=(ps.map Prod.fst).map eS:=by rw[List.map_map];rfl
     rw[e5]at h1
     have hri:cW h2 p.2 1 ((ps.map Prod.fst).map eS):=dW.ice h1 λb cur ea hm i=>by
      show(if B b then _ else hz b i)=_;rw[if_pos ⟨p,hp,ea⟩,hm]
     refine fD.rows (us:=ps.map Prod.fst) ⟨by simp,λj x hx=>?_⟩ hri ?_
     .rw[List.getElem?_map]at hx;cases e6:ps[j]? with
      |none=>rw[e6]at hx;cases hx
      |some q=>
       rw[e6]at hx;have hx:q.2=x:=by simpa using hx
       exact⟨q.1,by rw[List.getElem?_map,e6];rfl,hx▸cR.mono (h3 q (List.mem_of_getElem? e6)) le2⟩
     .have:=h4.length_eq;have h6:(nT gr l p.1).length<=l.length:=List.length_filter_le _ _;omega
    let G:ByteArray->List (List VV):=λk=>if e:∃p G,p∈kk/\p.1=k/\Rows h2 p.2 G/\G.Perm (nT gr l p.1)/\rF od G then e.choose_spec.choose else[]
    have hG:∀p∈kk,Rows h2 p.2 (G p.1)/\(G p.1).Perm (nT gr l p.1)/\rF od (G p.1):=λp hp=>by
     have ex:∃p' G,p'∈kk/\p'.1=p.1/\Rows h2 p'.2 G/\G.Perm (nT gr l p'.1)/\rF od G:=by
      obtain⟨G,hG⟩:=grp p hp;exact⟨p,G,hp,rfl,hG⟩
     have e6:G p.1=ex.choose_spec.choose:=dif_pos ex;rw[e6];obtain⟨h5,h6,h7⟩:=ex.choose_spec.choose_spec
     have tr:∀p' G',p'∈kk->p'.1=p.1->(Rows h2 p'.2 G'/\G'.Perm (nT gr l p'.1)/\rF od G')->Rows h2 p.2 G'/\G'.Perm (nT gr l p.1)/\rF od G':=λp' G' h1 h2 h3=>by
      have e7:=JC g.nodup h1 hp h2;subst e7;exact h3
     exact tr _ _ h5 h6 h7
    have hN:∀k,k∉kk.map Prod.fst->G k=[]/\nT gr l k=[]:=λk hk=>by
     refine⟨dif_neg ?_,?_⟩
     .rintro⟨p,_,hp,e,_⟩;exact hk (List.mem_map.2 ⟨p,hp,e⟩)
     .have h5:=(hg k).len;rw[g.none_ k hk]at h5;exact List.eq_nil_of_length_eq_zero h5.symm
    obtain⟨es,c,since,seen,c0,i1,i2,i3,i4,_⟩:=itz.ex;refine⟨λb=>if b=y then mz y else m b,h2,λb o e=>?_,le2,λb i v' e=>?_,hK y _ h2 kk G ny (λb hb=>if_neg hb) le2 ⟨⟨es,c,(if_pos rfl).trans i1,i2,i3,i4⟩,g.nodup,λp hp=>(hG p hp).1,λk hk=>(hN k hk).1,λk=>?_,λk=>?_⟩⟩
    .have e:(if b=y then mz y else m b)=some o:=e;split at e
     .rename_i e2;rw[e2];exact e
     .exact oth b o (gsub g b o e) (notg b o (s4 b o e))
    .have e:(if B b then _ else hz b i)=some v':=e;split at e
     .rename_i hb;have h5:=hB b hb;obtain⟨p,hp,ea⟩:=hb;obtain⟨ps,h1,_⟩:=(half p hp).ex;obtain⟨cur,hm⟩:=h1.blk ea;rw[hm]at e;refine .inr ⟨cur,74,(0,0),hm,e,?_⟩;show(if b=y then mz y else m b)=none;rw[if_neg h5.2.1];exact h5.1
     .exact .inl e
    .by_cases hk:k∈kk.map Prod.fst
     .obtain⟨p,hp,rfl⟩:=List.mem_map.1 hk;exact(hG p hp).2.1
     .rw[(hN k hk).1,(hN k hk).2]
    .by_cases hk:k∈kk.map Prod.fst
     .obtain⟨p,hp,rfl⟩:=List.mem_map.1 hk;exact(hG p hp).2.2
     .rw[(hN k hk).1];exact List.Pairwise.nil
   .refine⟨y,_,_,x,ita,?_⟩;have hxl:x∈left:=by rw[hlx];simp
    obtain⟨p0,hp0,rfl⟩:=List.mem_map.1 (lG.mem itz hxl);obtain⟨ps,h1,h3,h4,h5⟩:=(half p0 hp0).ex;have notg:∀b o,m4 b=some o->∀p∈kk,∀i,p.2.a≠some ⟨b,i,none⟩:=λb o e p hp i e2=>by rw[g.fresh p hp b i e2]at e;cases e
    have blkr:∀p∈kk,∀b i,p.2.a=some ⟨b,i,none⟩->b≠b3:=λp hp b i e=>(ne5 (hsome p hp b i e).choose_spec).2;have hlen:=h4.length_eq;have hlen2:(nT gr l p0.1).length<=l.length:=List.length_filter_le _ _;rw[List.length_map]at hlen;refine⟨p0.2,b1,v,od,w,ps,rfl,?_,λi=>notg b1 _ m4q p0 hp0 i,hod,dW.keep h1 λb i e=>hs6.other b (blkr p0 hp0 b i e),h3,λq hq=>?_,aC,λps' m7 hperm hsort hrow' hoth=>?_⟩
    .rw[hs6.other b1 (ne5 mq).2];exact oth b1 _ mq (notg b1 _ m4q)
    .have:q.2∈nT gr l p0.1:=h4.mem_iff.1 (List.mem_map_of_mem hq);exact hrel.wid _ (List.mem_filter.1 this).1
    .have ynot:∀i,p0.2.a≠some ⟨y,i,none⟩:=notg y _ m4y p0 hp0;have rnot:∀i,p0.2.a≠some ⟨b3,i,none⟩:=λi e=>blkr p0 hp0 b3 i e rfl;have it7:lG m7 y b3 (kk.map λp=>(Value.string p.1,eR p.2)) (l1++l2):=lG.keep ita.it (hoth y ynot) (hoth b3 rnot);refine⟨(b1,b2,b3,m7,hz),⟨rfl,rfl,rfl,rfl,λb o e hb=>?_,_,it7,λp hp=>?_⟩,?_,rfl,rfl,rfl,rfl,rfl,trivial⟩
     .show m7 b=some o;rw[hoth b (hb p0 hp0),hs6.other b (ne5 e).2];exact oth b o e hb
     .by_cases hpp:p=p0
      .subst hpp;refine⟨ps',hrow',λq hq=>h3 q (hperm.mem_iff.1 hq),(hperm.map _).trans h4,λ_=>?_⟩;rw[rF,List.pairwise_map];exact hsort
      .have hne:p.1≠p0.1:=λe=>hpp (JC g.nodup hp hp0 e);obtain⟨qs,g1,g3,g4,g5⟩:=(half p hp).ex;refine⟨qs,dW.keep g1 λb i e=>?_,g3,g4,λhn=>g5 λhl=>hn ?_⟩
       .show m7 b=mz b;rw[hoth b (λj=>g.apart p hp p0 hp0 hne b i j e),hs6.other b (blkr p hp b i e)]
       .rw[hlx]at hl;rcases List.mem_append.1 hl with h|h
        .exact List.mem_append_left _ h
        .rcases List.mem_cons.1 h with h|h
         .simp only[Prod.mk.injEq,Value.string.injEq]at h;exact(hne h.1).elim
         .exact List.mem_append_right _ h
     .show leftOf m7 b3<leftOf mz b3;rw[lG.left_ it7,lG.left_ itz,hlx];simp
noncomputable def Xi:Ctx:=On [(191,OK),(74,ZF)]
 [(3,{A:=Nat×Sl×Nat×MH×PH,st:=λ⟨b,s,r,m,h⟩=>cE 29 31 [(2,vv (.pointer (some ⟨b,0,none⟩))),(5,sv s),(13,vv (.pointer (some ⟨r,0,none⟩)))] [] m h})] [(5,{A:=Nat×Sl×Sl×Nat×MH×PH,st:=λ⟨b,s,g,r,m,h⟩=>cE 29 31 [(2,vv (.pointer (some ⟨b,0,none⟩))),(5,sv s),(7,sv g),(13,vv (.pointer (some ⟨r,0,none⟩)))] [] m h})] [200002,1053,0]
abbrev I9(a:Nat)(b:List (List VV))(c:List Int)(d:MH)(e g:Nat->Nat)(i:MH->MH)(j:Nat->MH->PH->(List (ByteArray×Sl))->(ByteArray->List (List VV))->Prop):Prop:=aH (i7 a b) (iR a c) (jN d) (∀(x:Nat),eA (λx1 x2=>∀(x3:List (ByteArray×Sl))(x4:ByteArray->List (List VV)),bC (B0 d (e x)) (∀(x5:Nat),jU (g x5=e x)->(i x1) (g x5)=d (g x5)) (j x x1 x2 x3 x4)))
noncomputable abbrev mS(a:Nat×Sl×Nat×MH×PH):Nat×MH×PH:=a.2.2
noncomputable abbrev Al(a:Nat×Sl×Sl×Nat×MH×PH):Sl:=a.2.2.1
noncomputable abbrev rC(a:Nat×Sl×Sl×Nat×MH×PH):Nat×MH×PH:=a.2.2.2
noncomputable abbrev pD(a:Sl)(b:Int):Int:=ite (aG a<b) (aG a) b
attribute [push_cast] I9 mS Al rC pD
def Hy(v:QV)(t:Sl)(m:MH)(h:PH)(K:CV->MH->PH->Prop):Prop:=
  ∀(b:Nat)(m1:MH),bC (cM m h b) (bE m m1 b v.enc 38) (BK m1 h b (λy=>aT (λb1 o=>aH (aU t.a b1 o) ((0:Int)<=0) (0<aG t) (∃(y1:Nat),aM m1 h b1 (eC o) (sH y1)/\∃(v1:QV)(u:Nat),G5 (λg o1=>∃(l:List (List VV))(w:Nat),aA (bI (bJ y) (oS y1)=bI (bJ v1) (oS u)) (Ints h v1.group g) (aA (jC h v1.order o1) (LI h u l) (I9 w l g m1 (λy2=>y2) (λb2=>b2) (λm2=>m2) (λy2 m2 h1 k g1=>dZ h h1 (uW m2 h1 y2 g o1 l k g1) (aA (aM m2 h1 b 0 y.enc) (aM m2 h1 b1 (eC o) (sH y1)) (∃(k1:List (Value×Value)),gY (kO m2 y2 k1) (λr=>∀(m3:MH),bC (cM m2 h1 r) (jD m2 m3 r) (lG m3 y2 r k1 k1->aA (aM m3 h1 b 0 y.enc) (aM m3 h1 b1 (eC o) (sH y1)) (∃(I:Nat×Sl×Nat×MH×PH->Prop)(m4:Nat×Sl×Nat×MH×
 PH->Nat),(∃(x:Nat×Sl×Nat×MH×PH),aA (I x) (cF b x.1) (aA (sQn=Yl x.2.1) (cF r (mS x).1) (aA (cO m3 (mS x).2) (dO h1 (mS x).2) True)))/\∀(x:Nat×Sl×Nat×MH×PH),I x->Km (λb2 k2 l1=>uN (lG (eY (mS x)) b2 (mS x).1 k2 l1) (l1=[]->∃(s:Sl)(u1:List Sl)(l2:List (List VV)),aA (lR x.2.1=lR s) (oW (eY (mS x)) (eD (mS x)) s 1 (rL u1)) (aA (fD (eD (mS x)) u1 l2) (EL l2.length) (mI (eD (mS x)) (Bk l2) K (eY (mS x))))) (λl2=>∀(x1:Value×Value)(l3:List (Value×Value)),l1=l2++x1::l3->∀(m5:MH),bC (jD (eY (mS x)) m5 (mS x).1) (Ek m5 b2 (mS x).1 k2 (l2++l3) x1) (∃(I1:Nat×Sl×Sl×Nat×MH×PH->Prop),Km (λb3 k3 l4=>∃(x2:Value×Value),Ek m5 b3 (mS
 x).1 k3 l4 x2/\∃(x3:Nat×Sl×Sl×Nat×MH×PH),aA (I1 x3) (cF x.1 x3.1) (aA (aZ x.2.1 x3.2.1) (SV.at (At.val x2.2)=Yl (Al x3)) (aH (cF (mS x).1 (rC x3).1) (cO m5 (rC x3).2) (dO (eD (mS x)) (rC x3).2) True)))/\∀(x2:Nat×Sl×Sl×Nat×MH×PH),I1 x2->∃(y3:Int),aH (aM (eY (rC x2)) (eD (rC x2)) x2.1 19 (cK y3)) (0<=pD (Al x2) y3) (pD (Al x2) y3<=(↑(Al x2).cap:Int)) (∃(x3:List (List Value)),BE (dW (eY (rC x2)) (dR x2.2.1) 74 1 x3) (λy4=>aA (eV 1 y4) (oW (eY (rC x2)) (eD (rC x2)) (Sl.mk (Al x2).a (pD (Al x2) y3).toNat (Al x2).cap) 1 y4) (aA (sJ x3 y4 24) (sK x3 y4) (iH (λs m6=>eZ (eY (rC x2)) m6 (dR x2.2.1) s 74 1 (x3++y4)->∃(x4:Nat×Sl×
 Nat×MH×PH),aA (I x4) (m4 x4<m4 x) (aA (cF x2.1 x4.1) (aZ s x4.2.1) (aH (cF (rC x2).1 (mS x4).1) (cO m6 (mS x4).2) (dO (eD (rC x2)) (mS x4).2) True)))))))))))))))))))))))
theorem HP{w:Nat}:∀{od:List (Int×Bool)}{a b:List VV},GC w od a b=0->a=b
 |[],_,_,h=>jQ.1 h
 |(c,dn)::r,a,b,h=>by
  rw[GC]at h;generalize (if dn then-kT (a.getD c.toNat zeroV) (b.getD c.toNat zeroV)else kT (a.getD c.toNat zeroV) (b.getD c.toNat zeroV))=x at h;split at h
  .split at h
   .rename_i h1;exact(h1 h).elim
   .exact HP h
  .exact HP h
theorem uS{w:Nat}{od:List (Int×Bool)}{a b:List VV}(ha:a.length=w)(hb:b.length=w):iA od a b= -iA od b a:=by
 rw[tP ha hb,tP hb ha];exact(C8 w od).anti a b
theorem Nf{w:Nat}{a b:List VV}(ha:a.length=w)(hb:b.length=w)(h:iA od a b=0):a=b:=by
 rw[tP ha hb]at h;exact HP h
theorem H4{w:Nat}{od:List (Int×Bool)}{x:List VV}:∀{G:List (List VV)}{n:Nat},rF od G->(∀r∈G,r.length=w)->G.Nodup->(x∈G.take n↔x∈G/\(G.countP λy=>decide (iA od y x<0))<n)
 |[],n,_,_,_=>by simp
 |a::G,0,_,_,_=>by simp
 |a::G,n+1,hs,hw,hn=>by
  have hs:=List.pairwise_cons.1 hs;have hn:=List.nodup_cons.1 hn;have ih:=H4 (x:=x) (G:=G) (n:=n) hs.2 (λr hr=>hw r (List.mem_cons_of_mem _ hr)) hn.2;have hwa:=hw a (List.mem_cons_self ..);rw[List.take_succ_cons,List.mem_cons,ih,List.mem_cons,List.countP_cons];by_cases hx:x=a
  .subst hx;have e1:¬iA od x x<0:=by have:=uS (od:=od) hwa hwa;omega
   have e2:(G.countP λy=>decide (iA od y x<0))=0:=List.countP_eq_zero.2 λy hy=>by simpa using hs.1 y hy
   rw[e2,if_neg (by simpa using e1)];simp
  .by_cases hxG:x∈G
   .have hwx:=hw x (List.mem_cons_of_mem _ hxG);have e1:=hs.1 x hxG;have e2:=uS (od:=od) hwa hwx;have e3:iA od a x≠0:=λe=>hx (Nf hwa hwx e).symm;rw[if_pos (by simp;omega)];simp[hx,hxG]
   .simp[hx,hxG]
theorem Ly{l:List (List VV)}(h:tS l):l.Nodup:=by
 rw[List.nodup_iff_pairwise_ne];exact h.imp fun{a b} hab e=>by subst e;have:=C9.anti a a;omega
def qE(gr:List Int)(x y:List VV):Bool:=eE (pick x gr) (pick y gr)==0
theorem uG{gr:List Int}{x y:List VV}:qE gr x y=true↔pick x gr=pick y gr:=by
 simp only[qE,beq_iff_eq,jQ]
def oN(gr:List Int)(od:List (Int×Bool))(li:Int)(a b:List (List VV)):List (List VV):=a.filter λx=>decide (((b.countP λy=>qE gr x y&&decide (iA od y x<0):Nat):Int)<li)
def Pm(q:Query)(ls:List (List (List VV))):List (List VV):=match q with|.mk _ _ _ _ _ gr od li _=>oN gr od li (ls.getD 0 []) (ls.getD 0 [])
def Ka(q:Query)(ls:List (List (List VV))):Prop:=match q with|.mk _ _ _ _ _ gr _ li _=>1<=ls.length/\(∃w,i7 w (ls.getD 0 [])/\iR w gr)/\0<=li
theorem WM{w:Nat}{l:List (List VV)}(hl:i7 w l)(hc:iR w gr){x y:List VV}(hx:OR x)(hw:x.length=w)(hy:y∈l):dD (pick y gr)=dD (pick x gr)↔qE gr x y=true:=by
 rw[uG];have:=ER (a:=pick y gr) (b:=pick x gr) (by simp[pick]) (FB (hl.row y hy) (by rw[hl.wid y hy];exact hc)) (FB hx (by rw[hw];exact hc));rw[this];exact eq_comm
theorem Iq{w:Nat}{gr:List Int}{od:List (Int×Bool)}{l:List (List VV)}(hl:i7 w l)(hc:iR w gr){x:List VV}(hx:OR x)(hw:x.length=w):
 ((nT gr l (dD (pick x gr))).countP λy=>decide (iA od y x<0))=l.countP λy=>qE gr x y&&decide (iA od y x<0):=by
 rw[nT,List.countP_filter];refine List.countP_congr λy hy=>?_;have h1:=WM hl hc hx hw hy;simp only[Bool.and_eq_true,decide_eq_true_eq];rw[h1,and_comm]
theorem Q1{α:Type}{p q:α->Bool}:∀{l:List α},(∀x∈l,¬(p x=true/\q x=true))->l.countP p+l.countP q=l.countP λx=>p x||q x
 |[],_=>rfl
 |a::l,h=>by
  have ih:=Q1 (l:=l) λx hx=>h x (List.mem_cons_of_mem _ hx);have h1:=h a (List.mem_cons_self ..);rw[List.countP_cons,List.countP_cons,List.countP_cons];cases e1:p a<;>cases e2:q a<;>simp_all<;>omega
theorem Vj{y w:Nat}{l:List (List VV)}{kk:List (ByteArray×Sl)}{g:ByteArray->List (List VV)}(hg:uW m h y gr od l kk g)(hrel:i7 w l)(hcols:iR w gr)(hli:0<=li)(x:List VV):
 x∈oN gr od li l l↔∃p∈kk,x∈(g p.1).take li.toNat:=by
 have gw:∀k r,r∈g k->r∈l/\dD (pick r gr)=k:=λk r hr=>by
  have:=(hg.perm k).mem_iff.1 hr;simpa[nT]using this
 have gn:∀k,(g k).Nodup:=λk=>(hg.perm k).nodup_iff.2 ((Ly hrel.srt).sublist List.filter_sublist);have gt:∀k,x∈(g k).take li.toNat↔x∈g k/\((g k).countP λy=>decide (iA od y x<0))<li.toNat:=λk=>H4 (hg.sort k) (λr hr=>hrel.wid r (gw k r hr).1) (gn k)
 have gc:x∈l->((g (dD (pick x gr))).countP λy=>decide (iA od y x<0))=l.countP λy=>qE gr x y&&decide (iA od y x<0):=λhx=>by
  rw[(hg.perm _).countP_eq];exact Iq hrel hcols (hrel.row x hx) (hrel.wid x hx)
 rw[oN,List.mem_filter];constructor
 .rintro⟨hx,hc⟩;have hc:=of_decide_eq_true hc;have hxg:x∈g (dD (pick x gr)):=(hg.perm _).mem_iff.2 (by simp[nT,hx])
  have hk:dD (pick x gr)∈kk.map Prod.fst:=by
   by_cases hk:dD (pick x gr)∈kk.map Prod.fst
   .exact hk
   .rw[hg.none_ _ hk]at hxg;cases hxg
  obtain⟨p,hp,e⟩:=List.mem_map.1 hk;refine⟨p,hp,?_⟩;rw[e];exact(gt _).2 ⟨hxg,by rw[gc hx];omega⟩
 .rintro⟨p,hp,hx⟩;obtain⟨h1,h2⟩:=(gt _).1 hx;obtain⟨h3,h4⟩:=gw _ _ h1;rw[<-h4,gc h3]at h2;exact⟨h3,decide_eq_true aC⟩
theorem Sv:Sound Tryz.prog 155 (OS Ka Pm):=by
 refine Ev Tryz.func155 ?_;rintro cvs m h K ⟨v,t,q,bs,ls,rfl,hq,ha,hT,hok,hK⟩;refine⟨Xi,rfl,aD KK (aD Hk aF),Hy v t m h (dQ h K),by kernel_rfl,?_⟩;show Hy v t m h (dQ h K);dsimp only[Hy,push_cast];obtain⟨op,ta,w,co,on,gr,od,li,args⟩:=q;obtain⟨hl1,⟨wd,hrel,hcols⟩,hli⟩:=hok;intro b m1 hb1 hu1;obtain⟨s1,n1⟩:=hZ (Sub.refl m) hb1 hu1;have m1b:m1 b=some (.cells ⟨v.enc⟩ 38 (0,0)):=hu1.at_;obtain⟨b1,off,x,ea,hlt,rd,sq⟩:=ha.get (Cv (i:=0) aC);simp only[Pm]at hK;generalize ls.getD 0 []=l at hK hrel sq;have hll:=hrel.len;refine⟨v,.of_m m1b (List.take_length ..),b1,off,ea,aC,aC,x,.imm rd,v,x,gr,od,l,wd,rfl,hq.parts.group_,hq.parts.order_,sq,hrel,hcols,hT.sub s1,λy m2 h2 kk g hy hoth le2 hg=>?_⟩;have yb:b≠y:=λe=>by rw[<-e,m1b]at hy;cases hy
 have m2b:m2 b=some (.cells ⟨v.enc⟩ 38 (0,0)):=by rw[hoth b yb];exact m1b
 have s2:Sub m m2:=λz o e=>by rw[hoth z (λe2=>by have:=s1 z o e;rw[e2,hy]at this;cases this)];exact s1 z o e
 refine⟨.of_m m2b (List.take_length ..),.imm (rd.mono le2),_,hg.map_,λr m3 hb3 hs3 it=>?_⟩;have rb:b≠r:=λe=>by have:=hb3.m_;rw[<-e,m2b]at this;cases this
 have m3b:m3 b=some (.cells ⟨v.enc⟩ 38 (0,0)):=by rw[hs3.other b rb];exact m2b
 have s3:Sub m m3:=λz o e=>by
  have:=s2 z o e;rw[hs3.other z (λe2=>by rw[e2,hb3.m_]at this;cases this)];exact this
 classical
 have m3y:∃o,m3 y=some o:=by obtain⟨es,c,since,seen,c0,i1,_⟩:=it.ex;exact⟨_,i1⟩
 have m3r:∃o,m3 r=some o:=by obtain⟨es,c,since,seen,c0,i1,i2,i3,i4,i5,_⟩:=it.ex;exact⟨_,i5⟩
 have yr:y≠r:=λe=>by
  obtain⟨es,c,i1,_⟩:=hg.map_;rw[e,hb3.m_]at i1;cases i1
 have kvsnd:(kk.map λp=>(Value.string p.1,eR p.2)).Nodup:=by
  have h5:=hg.nodup;rw[List.nodup_iff_pairwise_ne,List.pairwise_map]at h5;rw[List.nodup_iff_pairwise_ne,List.pairwise_map];exact h5.imp λhne e=>hne (by simp only[Prod.mk.injEq,Value.string.injEq]at e;exact e.1)
 refine⟨.of_m m3b (List.take_length ..),.imm (rd.mono le2),λz=>z.1=b/\z.2.2.1=r/\z.2.2.2.2=h2/\(∀x o,m3 x=some o->x≠r->z.2.2.2.1 x=some o)/\∃left us acc,lG z.2.2.2.1 y r (kk.map λp=>(Value.string p.1,eR p.2)) left/\dW z.2.2.2.1 z.2.1 74 1 (us.map eS)/\(∀x i,z.2.1.a=some ⟨x,i,none⟩->m3 x=none)/\fD h2 us acc/\
  (∀x,x∈acc↔∃p∈kk,(Value.string p.1,eR p.2)∉left/\x∈(g p.1).take li.toNat)/\acc.length+(l.countP λz=>decide (Value.string (dD (pick z gr))∈left.map Prod.fst))<=l.length,λz=>leftOf z.2.2.2.1 z.2.2.1,⟨(b,⟨none,0,0⟩,r,m3,h2),⟨rfl,rfl,rfl,λx o e _=>e,_,[],[],it,⟨AU [],.inl ⟨rfl,rfl⟩⟩,(λx i e=>by cases e),fD.nil _,λx=>?_,?_⟩,MT⟩,?_⟩
 .constructor
  .intro e;cases e
  .rintro⟨p,hp,hn,_⟩;exact(hn (List.mem_map_of_mem (f:=λp:ByteArray×Sl=>(Value.string p.1,eR p.2)) hp)).elim
 .rw[List.length_nil,Nat.zero_add];exact List.countP_le_length
 .rintro⟨b',s,r',mz,hz⟩ ⟨e1,e2,e3,oth,left,us,acc,itz,hrow,hfr,hus,hmem,hcnt⟩;dsimp only at e1 e2 e3 oth itz hrow hfr hus hmem hcnt⊢
  subst e1 e2 e3;have hacc:acc.length<=l.length:=by omega
  have hul:=hus.len;refine⟨y,_,left,itz,λhleft=>?_,λl1 x1 l2 hlx m4 hs4 ita=>?_⟩
  .subst hleft;refine⟨s,us,acc,rfl,hrow.src,hus,aC,λs' h' le' hr'=>dQ.sub (λz o e=>oth z o (s3 z o e) (λe2=>?_)) (le2.trans le') (hK s' h' (le2.trans le') ?_)⟩
   .have:=s2 z o e;rw[e2,hb3.m_]at this;cases this
   .have e5:oN gr od li l l=Bk acc:=TP (hrel.srt.sublist List.filter_sublist) λx=>by
     rw[Vj hg hrel hcols hli,hmem];simp
    rw[e5];exact hr'
  .have hxl:x1∈left:=by rw[hlx];simp
   obtain⟨p0,hp0,rfl⟩:=List.mem_map.1 (lG.mem itz hxl);have hnd:=lG.nodup itz kvsnd;rw[hlx]at hnd
   have hnd':(Value.string p0.1,eR p0.2)∉l1++l2:=λh=>by
    have h5:=List.nodup_append.1 hnd;have h6:=List.nodup_cons.1 h5.2.1;rcases List.mem_append.1 h with h|h
    .exact h5.2.2 _ h _ (List.mem_cons_self ..) rfl
    .exact h6.1 h
   have m3ne:∀{x},(∃o,m3 x=some o)->∀i,s.a≠some ⟨x,i,none⟩:=fun{x}⟨o,ho⟩ i e=>by rw[hfr x i e]at ho;cases ho
   have m4b:m4 b'=some (.cells ⟨v.enc⟩ 38 (0,0)):=by rw[hs4.other b' rb];exact oth b' _ m3b rb
   have hrow4:dW m4 s 74 1 (us.map eS):=dW.keep hrow λx i e=>hs4.other x λe2=>m3ne m3r i (e2▸e);obtain⟨⟨us0,hri,hl0,hat⟩,_⟩:=hg.rows p0 hp0;refine⟨λc=>c=(b',s,p0.2,r',m4,hz),⟨y,_,_,_,ita,⟨(b',s,p0.2,r',m4,hz),rfl,rfl,rfl,rfl,rfl,rfl,rfl,trivial⟩⟩,?_⟩;rintro c rfl;dsimp only;have hlim:v.limit=li:=hq.parts.limit_;have hgl:=(hg.perm p0.1).length_eq;have hgl2:(nT gr l p0.1).length<=l.length:=List.length_filter_le _ _;have hpl:p0.2.len=us0.length:=by have:=hri.len;simpa using this
   have hn:((if(p0.2.len:Int)<v.limit then(p0.2.len:Int)else v.limit).toNat)=min us0.length li.toNat:=by
    rw[hlim];split<;>omega
   have hcap:=hri.cap;refine⟨v.limit,.of_m m4b rfl,by rw[hlim];split<;>omega,by rw[hlim];split<;>omega,us.map eS,hrow4,(us0.take (min us0.length li.toNat)).map eS,AU _,?_,by simp;omega,by simp;omega,λs' m5 hgr=>?_⟩
   .rw[hn,List.map_take];exact .imm (cW.cut hri _ (by simp;omega))
   .have hold:∀x o,m3 x=some o->x≠r'->m5 x=some o:=λx o e hne=>hgr.other x o (by rw[hs4.other x hne];exact oth x o e hne) (m3ne ⟨o,e⟩)
    have it5:lG m5 y r' (kk.map λp=>(Value.string p.1,eR p.2)) (l1++l2):=by
     obtain⟨es,c,since,seen,c0,i1,i2,i3,i4,i5,_⟩:=ita.it.ex;exact lG.keep ita.it (by rw[i1];exact hgr.other y _ i1 (m3ne m3y)) (by rw[i5];exact hgr.other r' _ i5 (m3ne m3r))
    have hu0:fD hz (us0.take (min us0.length li.toNat)) ((g p0.1).take li.toNat):=by
     refine⟨by simp[hl0];omega,λj x hx=>?_⟩;rw[List.getElem?_take]at hx;split at hx
     .obtain⟨u,hu,hv⟩:=hat j x hx;have:=(List.getElem?_eq_some_iff.1 hu).1;exact⟨u,by rw[List.getElem?_take,if_pos aC];exact hu,hv⟩
     .cases hx
    refine⟨(b',s',r',m5,hz),⟨rfl,rfl,rfl,hold,_,us++us0.take (min us0.length li.toNat),acc++(g p0.1).take li.toNat,it5,?_,λx i e=>?_,hus.app hu0,λx=>?_,?_⟩,?_,rfl,rfl,rfl,rfl,rfl,trivial⟩
    .rw[List.map_append];exact hgr.row
    .rcases hgr.fresh x i e with h5|⟨j,h5⟩
     .cases e6:m3 x with
      |none=>rfl
      |some o=>
       by_cases hxr:x=r'
       .obtain⟨es,c,since,seen,c0,i1,i2,i3,i4,i5,_⟩:=ita.it.ex;rw[hxr,i5]at h5;cases h5
       .rw[hs4.other x hxr,oth x o e6 hxr]at h5;cases h5
     .exact hfr x j h5
    .rw[List.mem_append,hmem];constructor
     .rintro(⟨p,hp,hn,hx⟩|hx)
      .exact⟨p,hp,λh=>hn (by rw[hlx];rcases List.mem_append.1 h with h|h;exact List.mem_append_left _ h;exact List.mem_append_right _ (List.mem_cons_of_mem _ h)),hx⟩
      .exact⟨p0,hp0,hnd',hx⟩
     .rintro⟨p,hp,hn,hx⟩;by_cases hpp:p=p0
      .subst hpp;exact .inr hx
      .refine .inl ⟨p,hp,λh=>?_,hx⟩;rw[hlx]at h;rcases List.mem_append.1 h with h|h
       .exact hn (List.mem_append_left _ h)
       .rcases List.mem_cons.1 h with h|h
        .simp only[Prod.mk.injEq,Value.string.injEq]at h;exact hpp (JC hg.nodup hp hp0 h.1)
        .exact hn (List.mem_append_right _ h)
    .have hkn:Value.string p0.1∉(l1++l2).map Prod.fst:=λh=>by
      obtain⟨z,hz1,hz2⟩:=List.mem_map.1 h;obtain⟨p,hp,rfl⟩:=List.mem_map.1 (lG.mem it5 hz1);simp only[Value.string.injEq]at hz2;have:=JC hg.nodup hp hp0 hz2;subst this;exact hnd' hz1
     have h5:=Q1 (l:=l) (p:=λz=>decide (Value.string (dD (pick z gr))∈(l1++l2).map Prod.fst)) (q:=λz=>decide (dD (pick z gr)=p0.1)) (λz _⟨h6,h7⟩=>by
      have h6:=of_decide_eq_true h6;rw[of_decide_eq_true h7]at h6;exact hkn h6)
     have h8:(l.countP λz=>decide (Value.string (dD (pick z gr))∈(l1++l2).map Prod.fst)||decide (dD (pick z gr)=p0.1))=l.countP λz=>decide (Value.string (dD (pick z gr))∈left.map Prod.fst):=by
      refine List.countP_congr λz _=>?_;rw[hlx];simp only[Bool.or_eq_true,decide_eq_true_eq,List.map_append,List.map_cons,List.mem_append,List.mem_cons,Value.string.injEq];constructor
      .rintro((h|h)|h)
       .exact .inl h
       .exact .inr (.inr h)
       .exact .inr (.inl h)
      .rintro(h|h|h)
       .exact .inl (.inl h)
       .exact .inr h
       .exact .inl (.inr h)
     have h9:(nT gr l p0.1).length=l.countP λz=>decide (dD (pick z gr)=p0.1):=by rw[nT,List.countP_eq_length_filter]
     rw[List.length_append,List.length_take];omega
    .show leftOf m5 r'<leftOf mz r';rw[lG.left_ it5,lG.left_ itz,hlx];simp
def Uy:Vc.Spec:=λcvs m h K=>∃(n bq bg br:Nat)(v:QV)(od:List (Int×Bool))(g s:Sl)(rs:List (List VV))(r:List VV)(w:Nat),cvs=[cI n,.val (.func (.func 193) #[] #[.pointer (some ⟨bq,0,none⟩),.pointer (some ⟨bg,0,none⟩),.pointer (some ⟨br,0,none⟩)])]/\
 m bq=some (.cells ⟨QV.enc v⟩ 38 (0,0))/\m bg=some (.cells #[Sl.val g] 53 (0,0))/\m br=some (.cells #[Sl.val s] 74 (0,0))/\jC h v.order od/\Rows h g rs/\cR h s r/\rs.length=n/\rF od rs/\(∀x∈rs,x.length=w)/\r.length=w/\
 K (cI ((rs.countP λy=>decide (iA od y r<0):Nat):Int)) m h
noncomputable def Xh:Ctx:=On [(191,OK),(186,X6),(192,Uy)] [] [(2,{A:=Sl×Nat×Nat×MH×PH,st:=λ⟨t,b,c,m,h⟩=>cE 38 40 [(1,sv t),(2,vv (.pointer (some ⟨b,0,none⟩))),(5,vv (.pointer (some ⟨c,0,none⟩)))] [] m h}),
 (6,{A:=Nat×Nat×Nat×Nat×MH×PH,st:=λ⟨b,o,e,g,m,h⟩=>cE 38 40 [(2,vv (.pointer (some ⟨b,0,none⟩))),(6,vv (.pointer (some ⟨o,0,none⟩))),(7,vv (.pointer (some ⟨e,0,none⟩))),(8,vv (.pointer (some ⟨g,0,none⟩)))] [] m h})] [200002,200005,200006,200007,200008,1053,400000,0]
noncomputable abbrev lS(a:Sl×Nat×Nat×MH×PH):Nat:=a.2.1
noncomputable abbrev mV(a:Sl×Nat×Nat×MH×PH):Nat×MH×PH:=a.2.2
abbrev BH(a:MH)(b:Nat)(c:Value)(d:MH->(Nat×Nat×Nat×Nat×MH×PH)->Prop):Prop:=eX (λx x1=>aA (oX a b (dV x x1 0)) (0<x.size) (∀(x2:MH),bE a x2 b (eU c 1 x) x1->∃(x3:Nat×Nat×Nat×Nat×MH×PH),d x2 x3))
noncomputable abbrev AI(a:Nat×Nat×Nat×Nat×MH×PH):Nat:=a.2.2.1
noncomputable abbrev dT(a:Nat×Nat×Nat×Nat×MH×PH):Nat×MH×PH:=a.2.2.2
attribute [push_cast] lS mV BH AI dT
def Hx(v:QV)(t:Sl)(m:MH)(h:PH)(K:CV->MH->PH->Prop):Prop:=
  ∀(b:Nat)(m1:MH),bC (cM m h b) (bE m m1 b v.enc 38) (∃(I:Sl×Nat×Nat×MH×PH->Prop),BK m1 h b (λy=>aT (λb1 o=>aH (aU t.a b1 o) ((0:Int)<=1) (1<aG t) (∃(y1:Nat),aA (aM m1 h b1 (o+1) (sH y1)) (∃(v1:QV)(u:Nat),G5 (λg o1=>∃(l:List (List VV))(w:Nat),aA (bI (bJ y) (oS y1)=bI (bJ v1) (oS u)) (Ints h v1.group g) (aA (jC h v1.order o1) (LI h u l) (I9 w l g m1 (λy2=>y2) (λb2=>b2) (λm2=>m2) (λy2 m2 h1 k g1=>dZ h h1 (uW m2 h1 y2 g o1 l k g1) (aA (aM m2 h1 b 0 y.enc) (aM m2 h1 b1 (o+1) (sH y1)) (∀(b2:Nat)(m3:MH),bC (cM m2 h1 b2) (bE m2 m3 b2 (j6 EM) 207) (eX (λc E=>aA (oX m3 b2 (dV c E 0)) (0<c.size) (∀(m4:MH),bE m3 m4 b2 (eU (Value.map (Option.some y2)) 1 c) E->∃(x:Sl×
 Nat×Nat×MH×PH),aA (I x) (aZ t x.1) (aA (cF b (lS x)) (cF b2 (mV x).1) (aA (cO m4 (mV x).2) (dO h1 (mV x).2) True)))))))))))) (aA (aM m1 h b 0 y.enc) (aM m1 h b1 (o+1) (sH y1)) (∀(b2:Nat)(m2:MH),bC (cM m1 h b2) (bE m1 m2 b2 (j6 EM) 207) (∃(v1:QV)(u:Nat),G5 (λg o1=>∃(l:List (List VV))(w:Nat),aA (bI (bJ y) (oS y1)=bI (bJ v1) (oS u)) (Ints h v1.group g) (aA (jC h v1.order o1) (LI h u l) (I9 w l g m2 (λy2=>y2) (λb3=>b3) (λm3=>m3) (λy2 m3 h1 k g1=>dZ h h1 (uW m3 h1 y2 g o1 l k g1) (eX (λc E=>aA (oX m3 b2 (dV c E 0)) (0<c.size) (∀(m4:MH),bE m3 m4 b2 (eU (Value.map (Option.some y2)) 1 c) E->∃(x:Sl×Nat×Nat×MH×PH),aA (I x) (aZ t x.1) (aA (cF b (lS x)) (cF b2 (mV
 x).1) (aA (cO m4 (mV x).2) (dO h1 (mV x).2) True)))))))))))))))/\∀(x:Sl×Nat×Nat×MH×PH),I x->BI (eY (mV x)) (eD (mV x)) x.1 (λb1 m2 y S=>qX S (eD (mV x)) y m2 (λx1 I1 k e=>eA (λm3 h1=>bC (qA x1 k e) (PH.le (eD (mV x)) h1) (I1 k m3 h1->∀(b2:Nat)(m4:MH),bC (cM m3 h1 b2) (bE m3 m4 b2 iQ 74) (eX (λc E=>aA (oX m4 b2 (dV c E 0)) (0<c.size) (∀(m5:MH),bE m4 m5 b2 (eU (eR e) 1 c) E->∃(I2:Nat×Nat×Nat×Nat×MH×PH->Prop),(∃(y1:Nat),aM m5 h1 (mV x).1 0 (oJ y1)/\∃(y2:Sl),aM m5 h1 b2 0 (aR y2)/\∃(y3:Sl),aA (aM m5 h1 (lS x) 17 (aR y3)) (aM m5 h1 (mV x).1 0 (oJ y1)/\FO y2 y3 h1 m5 (cX m5 h1 (mV x).1 y1) (λr c1=>aA (aM m5 h1 b2 0 (aR y2)) (aM m5 h1 (lS x)
 17 (aR y3)) (xK m5 y1 r c1 (aH (cX m5 h1 (mV x).1 y1) (aM m5 h1 b2 0 (aR y2)) (aM m5 h1 (lS x) 17 (aR y3)) (∀(b3:Nat)(m6:MH),bC (cM m5 h1 b3) (bE m5 m6 b3 iQ 53) (BH m6 b3 tT (λm7 x2=>aA (I2 x2) (cF (lS x) x2.1) (aA (cF b1 x2.2.1) (cF b2 (AI x2)) (aH (cF b3 (dT x2).1) (cO m7 (dT x2).2) (dO h1 (dT x2).2) True)))))) (λy4=>aH (cX m5 h1 (mV x).1 y1) (aM m5 h1 b2 0 (aR y2)) (aM m5 h1 (lS x) 17 (aR y3)) (∀(b3:Nat)(m6:MH),bC (cM m5 h1 b3) (bE m5 m6 b3 iQ 53) (BH m6 b3 (eR y4) (λm7 x2=>aA (I2 x2) (cF (lS x) x2.1) (aA (cF b1 x2.2.1) (cF b2 (AI x2)) (aH (cF b3 (dT x2).1) (cO m7 (dT x2).2) (dO h1 (dT x2).2) True)))))))) (λr c1=>aH (cX m5 h1 (mV x).1 y1)
 (aM m5 h1 b2 0 (aR y2)) (aM m5 h1 (lS x) 17 (aR y3)) (∀(b3:Nat)(m6:MH),bC (cM m5 h1 b3) (bE m5 m6 b3 iQ 53) (aA (aM m6 h1 b2 0 (aR y2)) (aM m6 h1 (lS x) 17 (aR y3)) (xK m6 y1 r c1 (BH m6 b3 tT (λm7 x2=>aA (I2 x2) (cF (lS x) x2.1) (aA (cF b1 x2.2.1) (cF b2 (AI x2)) (aH (cF b3 (dT x2).1) (cO m7 (dT x2).2) (dO h1 (dT x2).2) True)))) (λy4=>BH m6 b3 (eR y4) (λm7 x2=>aA (I2 x2) (cF (lS x) x2.1) (aA (cF b1 x2.2.1) (cF b2 (AI x2)) (aH (cF b3 (dT x2).1) (cO m7 (dT x2).2) (dO h1 (dT x2).2) True))))))))) (aA (cX m5 h1 (mV x).1 y1) (aM m5 h1 b2 0 (aR y2)) (aM m5 h1 (lS x) 17 (aR y3)/\∀(b3:Nat)(m6:MH),bC (cM m5 h1 b3) (bE m5 m6 b3 iQ 53) (aM m6 h1 (mV x).1 0 (oJ
 y1)/\FO y2 y3 h1 m6 (cX m6 h1 (mV x).1 y1) (λ_ _=>aM m6 h1 b2 0 (aR y2)) (λr c1=>aM m6 h1 (lS x) 17 (aR y3)/\xK m6 y1 r c1 (BH m6 b3 tT (λm7 x2=>aA (I2 x2) (cF (lS x) x2.1) (aA (cF b1 x2.2.1) (cF b2 (AI x2)) (aH (cF b3 (dT x2).1) (cO m7 (dT x2).2) (dO h1 (dT x2).2) True)))) (λy4=>BH m6 b3 (eR y4) (λm7 x2=>aA (I2 x2) (cF (lS x) x2.1) (aA (cF b1 x2.2.1) (cF b2 (AI x2)) (aH (cF b3 (dT x2).1) (cO m7 (dT x2).2) (dO h1 (dT x2).2) True)))))))))/\∀(x2:Nat×Nat×Nat×Nat×MH×PH),I2 x2->∃(y1:Sl),aM (eY (dT x2)) (eD (dT x2)) (dT x2).1 0 (aR y1)/\aT (λn b3=>aT (λb4 b5=>∃(v1:QV)(o:List (Int×Bool)),kV (λg s=>∃(r:List (List VV))(r1:List VV)(w:
 Nat),aA (bI (fK (aG y1)) (CV.val (Value.func (Fn.func 193) rW (Array.mk (aY (Yg x2.1 0) (Yg (dT x2).1 0) (j6 (Yg (AI x2) 0))))))=bI (fK (↑n:Int)) (CV.val (Value.func (Fn.func 193) rW (Array.mk (aY (Yg b3 0) (Yg b4 0) (j6 (Yg b5 0))))))) ((dT x2).2.1 b3=Option.some (dV (Array.mk v1.enc) 38 0)) (aA ((dT x2).2.1 b4=Option.some (dV (Array.mk (aR g)) 53 0)) ((dT x2).2.1 b5=Option.some (dV (Array.mk (aR s)) 74 0)) (aA (jC (eD (dT x2)) v1.order o) (Rows (eD (dT x2)) g r) (aA (cR (eD (dT x2)) s r1) (r.length=n) (aH (rF o r) (BQ r (λx3=>x3.length=w)) (r1.length=w) (lA (eY (dT x2)) (eD (dT x2)) x2.1 19 (λy2=>bD (↑(List.countP (fun(y3:List VV)=>decide (iA o y3 r1<0)) r):Int) y2 (∃(y3:Sl),aM (eY (dT x2))
 (eD (dT x2)) x2.2.1 0 (aR y3)/\∃(y4:Sl),aM (eY (dT x2)) (eD (dT x2)) (AI x2) 0 (aR y4)/\∃(x3:List (List Value)),aH (dW (eY (dT x2)) (dR y3) 74 1 x3) (iB ((x3.length+1)*24)) (iX x3) (iH (λs1 m6=>eZ (eY (dT x2)) m6 (dR y3) s1 74 1 (kB x3 y4)->eX (λc1 E1=>aA (oX m6 x2.2.1 (dV c1 E1 0)) (0<c1.size) (∀(m7:MH),bE m6 m7 x2.2.1 (eU (eR s1) 1 c1) E1->I1 (k+1) m7 (eD (dT x2))))))) (I1 (k+1) (eY (dT x2)) (eD (dT x2)))))))))))))))))) (λm3 h1=>∃(y1:Sl),aM m3 h1 b1 0 (aR y1)/\K (kU y1) m3 h1)))
theorem Gl{w:World}{q:Nat}{os:Array Obj}(hb:b<w.heap.size):(Sort.grow (w.drewN q) os).heap[b]? =w.heap[b]? :=by
 show((w.drewN q).heap++os)[b]? =_;rw[Array.getElem?_append_left (show b<(w.drewN q).heap.size from hb)];rfl
theorem Q5{P:Program}{g:Nat}{cs:List Value}{m:MH}{h:PH}{S:Vc.Spec}{r:CV}{u:Value}(hs:Sound P g S)(hS:S (cs.map .val) m h λr' m' h'=>r'=r/\m'=m/\h'=h)(hr:∀w u',Be w r u'->u'=u){w:World}
 (hh:∀b o v,h b o=some v->w.cell? ⟨b,o,none⟩=some v)(hm:∀b o,m b=some o->w.heap[b]? =some o)(hd:∀b o,m b=some o->∀i,h b i=none)(mm:Nat)(os:Array Obj):
 Calls P g cs.toArray (Sort.grow (w.drewN mm) os) λe w'=>e= .returned u/\∃q os',w'=Sort.grow ((Sort.grow (w.drewN mm) os).drewN q) os':=by
 obtain⟨W,hW⟩:∃W,Sort.grow (w.drewN mm) os=W:=⟨_,rfl⟩
 rw[hW];have old:∀b,b<w.heap.size->W.heap[b]? =w.heap[b]? :=λb hb=>by rw[<-hW];exact Gl hb
 have hvals:∀(l:List Value)(w:World),AR w (l.map .val) l:=λl w=>by
  induction l with
  |nil=>trivial
  |cons a l ih=>exact⟨rfl,ih⟩
 have nov:∀(l:List Value)(i:Nat)(c:CV)(u:Value)(b:Nat),(l.map CV.val)[i]? =some c->fM c u=some b->False:=λl i c u b hi hb=>by
  rw[List.getElem?_map]at hi;cases e:l[i]? with
  |none=>rw[e]at hi;cases hi
  |some v=>rw[e]at hi;simp at hi;subst hi;simp[fM]at hb
 have hpre:v8 W m h (cs.map .val) cs:=by
  refine⟨hvals _ _,?_,?_,hd,λi j c d u v b hi _ _ _ hb _=>(nov _ i c u b hi hb).elim,λi c u b hi _ hb=>(nov _ i c u b hi hb).elim⟩
  .intro b o v hv;have h1:=hh b o v hv;rw[World.cell?_of_block (w:=w) (w':=W) (a:=⟨b,o,none⟩) (old b (World.block_lt_of_cell? w ⟨b,o,none⟩ h1))];exact h1
  .intro b o hb;have h1:=hm b o hb;rw[old b (Array.getElem?_eq_some_iff.1 h1).1];exact h1
 refine(hs.2 _ _ m h W _ hS hpre).mono ?_;rintro e w' ⟨r',u',m',h',rfl,⟨rfl,rfl,rfl⟩,hok,hw,_⟩;have hu:=hr _ _ hok;subst hu;refine⟨rfl,H0 hw.tape hw.os hw.output hw.drawn hw.size (λb hb=>?_)⟩;cases e3:m' b with
 |none=>
  refine hw.frame b hb ?_;rintro(h1|⟨i,c,u,hi,_,hc⟩)
  .exact h1 e3
  .exact nov _ i c u b hi hc
 |some o=>rw[hw.msat b o e3];exact(hpre.msat b o e3).symm
theorem Si:Sound Tryz.prog 192 Uy:=by
 refine⟨⟨Tryz.f192,Tryz.func192,rfl,by decide⟩,?_⟩;rintro cvs vs m h w K ⟨n,bq,bg,br,v,od,g,s,rs,r,wd,rfl,hq,hg,hr,ho,hrs,hv,rfl,hso,hw,hrw,hK⟩ hp
 obtain⟨v1,v2,rfl⟩:∃v v2,vs=[v,v2]:=by
  have:=(nR hp.args).1
  match vs,this with
  |[v,v2],_=>exact⟨v,v2,rfl⟩
 have h1:v1= .int .i64 rs.length:=hp.args.1;have h2:v2= .func (.func 193) #[] #[.pointer (some ⟨bq,0,none⟩),.pointer (some ⟨bg,0,none⟩),.pointer (some ⟨br,0,none⟩)]:=hp.args.2.1;subst h1 h2
 have eg:∀args w,(callFunc 193 args).run Tryz.prog w= .ok (.enter 193 args) w:=λargs w=>by
  have hgf:=Tryz.func193;have hb:Tryz.f193.body.isSome=true:=rfl;have hn:(Tryz.f193.name== "runtime.NumGoroutine")=false:=by decide
  have hbn:¬Tryz.f193.body=none:=by intro e;rw[e]at hb;cases hb
  have hnm:¬Tryz.f193.name= "runtime.NumGoroutine" :=by simpa using hn
  simp[callFunc,program,Sem.run,hgf,hnm,hbn]
 have hlen:=hrs.len
 have hcall:=Any.sort_Search Tryz.searchO 193 #[.pointer (some ⟨bq,0,none⟩),.pointer (some ⟨bg,0,none⟩),.pointer (some ⟨br,0,none⟩)] rs.length (λi=>decide (iA od (rs.toArray[i]!) r>=0)) w eg aC
  (λmm os i hi=>Q5 (cs:=[.int .i64 i,.pointer (some ⟨bq,0,none⟩),.pointer (some ⟨bg,0,none⟩),.pointer (some ⟨br,0,none⟩)]) Sh
   ⟨i,bq,bg,br,v,od,g,s,rs,r,rs.toArray[i]!,rfl,hq,hg,hr,ho,hrs,hv,by rw[getElem!_pos _ i (by simpa using hi)];simp[hi],rfl,rfl,rfl⟩ (λw u' hu=>hu) hp.hsat hp.msat hp.disj mm os)
  (λa b hab hb hpa=>?_)
 .refine Calls.mono hcall ?_;rintro e w' ⟨rfl,q,os,rfl⟩
  have ecount:((List.range rs.length).countP λi=> !decide (iA od (rs.toArray[i]!) r>=0))=rs.countP λy=>decide (iA od y r<0):=by
   have:=Go.Lib.countP_range rs.toArray (λy=> !decide (iA od y r>=0));rw[List.size_toArray]at this;rw[this];refine List.countP_congr λy _=>?_;simp
  rw[ecount];refine⟨_,_,m,h,rfl,hK,rfl,⟨rfl,rfl,rfl,Nat.le_add_right _ _,?_,λb hb _=>Gl hb,λb o v hv'=>?_,λb o hb=>?_,hp.disj,λ_ _ _ e=>e,λ_ _ _=>rfl,λb o hb=>.inr (.inl (by rw[show m b=some o from hb];simp))⟩,λb hb=>by cases hb⟩
  .show w.heap.size<=((w.drewN q).heap++os).size;rw[Array.size_append];exact Nat.le_add_right _ _
  .have h1:=hp.hsat b o v hv';rw[World.cell?_of_block (w:=w) (a:=⟨b,o,none⟩) (Gl (World.block_lt_of_cell? w ⟨b,o,none⟩ h1))];exact h1
  .have h1:=hp.msat b o hb;rw[Gl (Array.getElem?_eq_some_iff.1 h1).1];exact h1
 .have hpa:=of_decide_eq_true hpa;refine decide_eq_true ?_;rcases Nat.lt_or_eq_of_le hab with hlt|rfl
  .have ha:a<rs.length:=by omega
   rw[getElem!_pos _ a (by simpa using ha)]at hpa;rw[getElem!_pos _ b (by simpa using hb)];simp only[List.getElem_toArray]at hpa⊢
   have hwa:=hw _ (List.getElem_mem ha);have hwb:=hw _ (List.getElem_mem hb);have h5:=(List.pairwise_iff_getElem.1 hso) a b ha hb hlt;have h6:=uS (od:=od) hwa hwb;have h7:=uS (od:=od) hwa hrw;have h8:=uS (od:=od) hwb hrw;rw[tP hwa hwb]at h6;have:=(C8 wd od).trans r rs[a] rs[b] (by rw[<-tP hrw hwa];omega) aC;rw[<-tP hrw hwb]at this;omega
  .exact hpa
theorem uW.get2{y:Nat}{l:List (List VV)}{kk:List (ByteArray×Sl)}{G:ByteArray->List (List VV)}{key:ByteArray}{K0:Prop}{K:Sl->Prop}(g:uW m h y gr od l kk G)(h0:Ct kk key ⟨none,0,0⟩->K0)(hK:∀s,Ct kk key s->K s):
 ∃(kvs:List (Value×Sl))(Ok:Value->Prop),AD m y (kvs.map λp=>(p.1,eR p.2))/\KeyLaw Tryz.prog 9 Ok/\Ok (.string key)/\(∀e,List.Mem e kvs->Ok e.1)/\((∀e,List.Mem e kvs->e.1=Value.string key->False)->K0)/\∀t,List.Mem (Value.string key,t) kvs->K t:=by
 obtain⟨es,c,h1,h2,_,_⟩:=g.map_;refine⟨kk.map λp=>(.string p.1,p.2),_,⟨es,c,h1,by rw[h2];simp⟩,Bj,⟨key,rfl⟩,λe he=>?_,λhn=>h0 (.inl ⟨rfl,λh=>?_⟩),λt ht=>hK t (.inr ?_)⟩
 .obtain⟨k,_,rfl⟩:=List.mem_map.1 (show e∈_ from he);exact⟨k.1,rfl⟩
 .obtain⟨p,hp,e⟩:=List.mem_map.1 h;subst e;exact hn (.string p.1,p.2) (List.mem_map_of_mem (f:=λp:ByteArray×Sl=>(Value.string p.1,p.2)) hp) rfl
 .obtain⟨p,hp,e⟩:=List.mem_map.1 (show(Value.string key,t)∈_ from ht);simp only[Prod.mk.injEq,Value.string.injEq]at e;obtain⟨e1,e2⟩:=e;subst e1 e2;exact hp
theorem uW.keep{y:Nat}{l:List (List VV)}{kk:List (ByteArray×Sl)}{G:ByteArray->List (List VV)}(g:uW m h y gr od l kk G)(hk:∀o,m y=some o->m' y=some o)(le:PH.le h h'):uW m' h' y gr od l kk G:=by
 obtain⟨es,c,h1,h2,h3,h4⟩:=g.map_;exact⟨⟨es,c,hk _ h1,h2,h3,h4⟩,g.nodup,λp hp=>bV.mono (g.rows p hp) le (λr t hv=>cR.mono hv le),g.none_,g.perm,g.sort⟩
theorem uW.at_{y:Nat}{l:List (List VV)}{kk:List (ByteArray×Sl)}{G:ByteArray->List (List VV)}{key:ByteArray}{s:Sl}(g:uW m h y gr od l kk G)(hs:Ct kk key s):Rows h s (G key):=by
 rcases hs with⟨rfl,hn⟩|hp
 .rw[g.none_ key hn];exact(fD.nil h).rows (cW.nil _ _) (by simp)
 .exact g.rows _ hp
structure ZY(m5:MH)(hh:PH)(bq b9 b2:Nat)(e:Sl)(us2:List Sl)(Gk:List (List VV))(c:Nat×Nat×Nat×Nat×MH×PH):Prop where
 q:c.1=bq
 o:c.2.1=b9
 b:c.2.2.1=b2
 h:c.2.2.2.2.2=hh
 sub:Ba m5 c.2.2.2.2.1 b9
 out:mY m5 c.2.2.2.2.1 b9 us2
 e_:c.2.2.2.2.1 b2=some (.cells #[eR e] 74 (0,0))
 g_:∃s,c.2.2.2.2.1 c.2.2.2.1=some (.cells #[eR s] 53 (0,0))/\Rows hh s Gk
def Fy(q:Query)(ls:List (List (List VV))):List (List VV):=match q with|.mk _ _ _ _ _ gr od li _=>oN gr od li (ls.getD 0 []) (ls.getD 1 [])
def CK(q:Query)(ls:List (List (List VV))):Prop:=match q with|.mk _ _ _ _ _ gr _ _ _=>2<=ls.length/\∃w,i7 w (ls.getD 0 [])/\i7 w (ls.getD 1 [])/\iR w gr
theorem Su:Sound Tryz.prog 156 (OS CK Fy):=by
 refine Ev Tryz.func156 ?_;rintro cvs m h K ⟨v,t,q,bs,ls,rfl,hq,ha,hT,hok,hK⟩;refine⟨Xh,rfl,aD KK (aD Ce (aD Si aF)),Hx v t m h (dQ h K),by kernel_rfl,?_⟩;show Hx v t m h (dQ h K);dsimp only[Hx,push_cast];obtain⟨op,ta,w,co,on,gr,od,li,args⟩:=q;obtain⟨hl2,wd,hrel,hrel',hcols⟩:=hok;intro b m1 hb1 hu1;obtain⟨s1,n1⟩:=hZ (Sub.refl m) hb1 hu1;have m1b:m1 b=some (.cells ⟨v.enc⟩ 38 (0,0)):=hu1.at_;obtain⟨b1,off,x,ea,hlt,rd,sq⟩:=ha.get (Cv (i:=1) aC);obtain⟨b6,off6,x6,ea6,hlt6,rd6,sq6⟩:=ha.get (Cv (i:=0) aC);simp only[Fy]at hK;generalize ls.getD 1 []=l' at hK hrel' sq;generalize ls.getD 0 []=l at hK hrel sq6;have hll:=hrel.len;have hg_:=hq.parts.group_;have ho_:=hq.parts.order_
 refine⟨λz=>z.1=t/\z.2.1=b/\PH.le h z.2.2.2.2/\Sub m z.2.2.2.1/\z.2.2.2.1 b=some (.cells ⟨v.enc⟩ 38 (0,0))/\∃y kk G,z.2.2.2.1 z.2.2.1=some (.cells #[.map (some y)] 207 (0,0))/\uW z.2.2.2.1 z.2.2.2.2 y gr od l' kk G,
  ⟨v,.of_m m1b (List.take_length ..),b1,off,ea,aC,aC,x,.imm rd,⟨v,x,gr,od,l',wd,rfl,hg_,ho_,sq,hrel',hcols,hT.sub s1,λy m2 h2 kk G hy hoth le2 hG=>?_⟩,.of_m m1b (List.take_length ..),.imm rd,λbc m2 hb2 hu2=>?_⟩,?_⟩
 .have yb:b≠y:=λe=>by rw[<-e,m1b]at hy;cases hy
  have m2b:m2 b=some (.cells ⟨v.enc⟩ 38 (0,0)):=by rw[hoth b yb];exact m1b
  have s2:Sub m m2:=λz o e=>by rw[hoth z (λe2=>by have:=s1 z o e;rw[e2,hy]at this;cases this)];exact s1 z o e
  refine⟨.of_m m2b (List.take_length ..),.imm (rd.mono le2),λbc m3 hb3 hu3=>⟨_,_,⟨hu3.at_⟩,by simp,λm4 hu4=>⟨(t,b,bc,m4,h2),⟨rfl,rfl,le2,?_,?_,y,kk,G,hu4.at_,?_⟩,MT⟩⟩⟩
  .obtain⟨s3,n3⟩:=hZ s2 hb3 hu3;exact s3.upd n3 hu4.other
  .have:b≠bc:=λe=>by have:=hb3.m_;rw[<-e,m2b]at this;cases this
   show m4 b=_;rw[hu4.other b this,hu3.other b this];exact m2b
  .refine hG.keep (λo e=>?_) (.refl _);have:y≠bc:=λe2=>by rw[e2,hb3.m_]at e;cases e
   show m4 y=_;rw[hu4.other y this,hu3.other y this];exact e
 .obtain⟨s2,n2⟩:=hZ s1 hb2 hu2;have bbc:b≠bc:=λe=>by have:=hb2.m_;rw[<-e,m1b]at this;cases this
  have m2b:m2 b=some (.cells ⟨v.enc⟩ 38 (0,0)):=by rw[hu2.other b bbc];exact m1b
  refine⟨v,x,gr,od,l',wd,rfl,hg_,ho_,sq,hrel',hcols,hT.sub s2,λy m3 h2 kk G hy hoth le2 hG=>?_⟩;have yb:b≠y:=λe=>by rw[<-e,m2b]at hy;cases hy
  have yc:bc≠y:=λe=>by rw[<-e,hu2.at_]at hy;cases hy
  have s3:Sub m m3:=λz o e=>by rw[hoth z (λe2=>by have:=s2 z o e;rw[e2,hy]at this;cases this)];exact s2 z o e
  refine⟨#[.map none],207,⟨by rw[hoth bc yc];exact hu2.at_⟩,by simp,λm4 hu4=>⟨(t,b,bc,m4,h2),⟨rfl,rfl,le2,s3.upd n2 hu4.other,?_,y,kk,G,hu4.at_,?_⟩,MT⟩⟩
  .show m4 b=_;rw[hu4.other b bbc,hoth b yb];exact m2b
  .refine hG.keep (λo e=>?_) (.refl _);show m4 y=_;rw[hu4.other y (Ne.symm yc)];exact e
 .rintro⟨t',b',bc,m4,hh⟩ ⟨e1,e2,leh,s4,m4b,y,kk,G,m4c,hG⟩;dsimp only at e1 e2 leh s4 m4b m4c hG⊢
  subst e1 e2;intro b9 m5 hb5 hu5;obtain⟨s5,n9⟩:=hZ s4 hb5 hu5
  have up5:∀{z o},m4 z=some o->m5 z=some o/\z≠b9:=fun{z o} e2=>by
   have:z≠b9:=λe3=>by rw[e3,hb5.m_]at e2;cases e2
   exact⟨by rw[hu5.other z this];exact e2,this⟩
  obtain⟨us,hseq,hru⟩:=(sq6.mono leh).ex;have hul:=hru.len;refine⟨b6,off6,ea6,aC,aC,x6,.imm (rd6.mono leh),uU,us,λk my hy=>hy=hh/\Ba m5 my b9/\∃us2,mY m5 my b9 us2/\us2.length<=k/\fD hh us2 (oN gr od li (l.take k) l'),tL,⟨x6,us,rfl,hseq,rfl⟩,⟨rfl,λz o e _=>e,[],mY.new hu5.at_,by simp,by simpa[oN]using fD.nil hh⟩,?_,?_⟩
  .rintro k e my hy hk-⟨rfl,hs7,us2,hout,hlen2,hr2⟩ b2 m6 hb6 hu6;obtain⟨r,hr,hv⟩:=hru.at' hk;have hkl:=(List.getElem?_eq_some_iff.1 hk).1;have hrl:=List.mem_of_getElem? hr;have hrw:=hrel.wid r hrl;have hcr:iR r.length gr:=by rw[hrw];exact hcols
   refine⟨_,_,⟨hu6.at_⟩,by simp,λm7 hu7=>?_⟩
   have up7:∀{z o},my z=some o->m7 z=some o/\z≠b2:=fun{z o} e2=>by
    have:z≠b2:=λe3=>by rw[e3,hb6.m_]at e2;cases e2
    exact⟨by rw[hu7.other z this,hu6.other z this];exact e2,this⟩
   have up:∀{z o},m4 z=some o->m7 z=some o:=fun{z o} e2=>(up7 (hs7 z o (up5 e2).1 (up5 e2).2)).1;have s7:Ba m5 m7 b9:=λz o e2 hne=>(up7 (hs7 z o e2 hne)).1
   have out_keep:∀{ma mb:MH},mY m5 ma b9 us2->(∀z o,ma z=some o->mb z=some o)->mY m5 mb b9 us2:=fun{ma mb} ho hk=>by
    obtain⟨s,h1,h2,h3⟩:=ho.ex;refine⟨s,hk _ _ h1,dW.keep h2 λz i e3=>?_,h3⟩;obtain⟨cur,h4⟩:=h2.blk e3;rw[h4];exact hk _ _ h4
   have o7:mY m5 m7 b9 us2:=out_keep hout λz o e2=>(up7 e2).1;have m7e:m7 b2=some (.cells #[eR e] 74 (0,0)):=hu7.at_;have g7:=hG.keep (λo e2=>up e2) (.refl _);have rc:aM m7 hy bc 0 [Value.map (some y)]:=.of_m (up m4c) rfl;have re:aM m7 hy b2 0 [eR e]:=.of_m m7e rfl;have rg:aM m7 hy b' 17 [eR v.group]:=.of_m (up m4b) rfl;have hgh:Ints hy v.group gr:=hg_.mono leh;have T7:jN m7:=hT.sub λz o e2=>up (s4 z o e2)
   have fin:∀s,Ct kk (dD (pick r gr)) s->∀b3 m8,cM m7 hy b3->fV m7 m8 b3 (.cells #[tT] 53 (0,0))->∃(cs:Array Value)(E:TypeId),oX m8 b3 (.cells cs E (0,0))/\0<cs.size/\∀m9,fV m8 m9 b3 (.cells (Array.mk (eR s::cs.toList.drop 1)) E (0,0))->
    ∃c:Nat×Nat×Nat×Nat×MH×PH,ZY m5 hy b' b9 b2 e us2 (G (dD (pick r gr))) c/\Wy b' 0=Wy c.1 0/\Wy b9 0=Wy c.2.1 0/\Wy b2 0=Wy c.2.2.1 0/\Wy b3 0=Wy c.2.2.2.1 0/\m9=c.2.2.2.2.1/\hy=c.2.2.2.2.2/\True:=λs hs b3 m8 hb8 hu8=>by
    refine⟨_,_,⟨hu8.at_⟩,by simp,λm9 hu9=>⟨(b',b9,b2,b3,m9,hy),?_,MT⟩⟩
    have up9:∀z o,m7 z=some o->m9 z=some o:=λz o e2=>by
     have:z≠b3:=λe3=>by rw[e3,hb8.m_]at e2;cases e2
     rw[hu9.other z this,hu8.other z this];exact e2
    exact⟨rfl,rfl,rfl,rfl,λz o e2 hne=>up9 z o (s7 z o e2 hne),out_keep o7 up9,up9 _ _ m7e,s,hu9.at_,hG.at_ hs⟩
   have up8:∀{b3 m8},cM m7 hy b3->fV m7 m8 b3 (.cells #[tT] 53 (0,0))->∀z o,m7 z=some o->m8 z=some o:=fun{b3 m8} hb8 hu8 z o e2=>by
    have:z≠b3:=λe3=>by rw[e3,hb8.m_]at e2;cases e2
    rw[hu8.other z this];exact e2
   refine⟨ZY m5 hy b' b9 b2 e us2 (G (dD (pick r gr))),⟨y,rc,e,re,v.group,rg,⟨rc,e,v.group,r,gr,rfl,hv,hgh,hrel.row r hrl,hcr,T7,rc,⟨re,rg,g7.get2 (λhs=>⟨rc,re,rg,fin _ hs⟩) (λs hs=>⟨rc,re,rg,fin _ hs⟩)⟩,rc,re,rg,λb3 m8 hb8 hu8=>?_⟩,rc,re,rg,λb3 m8 hb8 hu8=>?_⟩,?_⟩
   .have u8:=up8 hb8 hu8;exact⟨.of_m (u8 _ _ m7e) rfl,.of_m (u8 _ _ (up m4b)) rfl,(g7.keep (u8 y) (.refl _)).get2 (λhs=>fin _ hs b3 m8 hb8 hu8) (λs hs=>fin _ hs b3 m8 hb8 hu8)⟩
   .have u8:=up8 hb8 hu8;have rc8:aM m8 hy bc 0 [Value.map (some y)]:=.of_m (u8 _ _ (up m4c)) rfl;exact⟨rc8,e,v.group,r,gr,rfl,hv,hgh,hrel.row r hrl,hcr,T7.sub u8,rc8,.of_m (u8 _ _ m7e) rfl,.of_m (u8 _ _ (up m4b)) rfl,(g7.keep (u8 y) (.refl _)).get2 (λhs=>fin _ hs b3 m8 hb8 hu8) (λs hs=>fin _ hs b3 m8 hb8 hu8)⟩
   .rintro⟨c1,c2,c3,b3,mz,hz⟩ ⟨e1,e2,e3,e4,hsz,hoz,mze,s,mzg,hrows⟩;dsimp only at e1 e2 e3 e4 hsz hoz mze mzg⊢
    subst e1 e2 e3 e4;have upz:∀{z o},m4 z=some o->mz z=some o:=fun{z o} e2=>hsz z o (up5 e2).1 (up5 e2).2;have hcount:=Iq (od:=od) hrel' hcols (hrel.row r hrl) hrw;rw[<-(hG.perm _).countP_eq]at hcount;refine⟨s,.of_m mzg rfl,s.len,c1,b3,c3,v,od,s,e,G (dD (pick r gr)),r,wd,rfl,upz m4b,mzg,mze,ho_.mono leh,hrows,hv,hrows.slen.symm,hG.sort _,λz hz2=>?_,hrw,v.limit,.of_m (upz m4b) rfl,?_⟩
    .have:=(hG.perm _).mem_iff.1 (show z∈_ from hz2);exact hrel'.wid z (List.mem_filter.1 this).1
    .rw[hcount];have hlim:v.limit=li:=hq.parts.limit_;rw[hlim];refine aE (λh1=>?_) (λh1=>?_)
     .obtain⟨so,hbo,hrowo,hfro⟩:=hoz.ex;refine⟨so,.of_m hbo rfl,e,.of_m mze rfl,FC ⟨_,hu5.at_⟩ hsz hbo hrowo hfro aC λm' hs' ho'=>⟨rfl,hs',us2++[e],ho',by simp;omega,?_⟩⟩;rw[oN,j4 _ hr,if_pos (decide_eq_true h1)];exact hr2.snoc hv
     .refine⟨rfl,hsz,us2,hoz,aC,?_⟩;rw[oN,j4 _ hr,if_neg (by simpa using h1),List.append_nil];exact hr2
  .rintro my hy-⟨rfl,hs7,us2,hout,hlen2,hr2⟩
   rw[hul,List.take_length]at hr2;obtain⟨s,hb,hrow,hfr⟩:=hout.ex;refine⟨s,.of_m hb rfl,dQ.row (s5.x n9 hs7) leh hrow (λj z e=>?_) (λh' le hri=>hK s h' (leh.trans le) ((hr2.mono le).rows hri (by have:=hr2.len;omega)))⟩;cases e2:m z with
   |none=>rfl
   |some o=>have e1:=hfr j z e;rw[s5 z o e2]at e1;cases e1
def opF(op:Int)(q:Query)(ls:List (List (List VV))):List (List VV):=
 if op=2 then Gp q ls else if op=3 then Po q ls else if op=4 then PF q ls else if op=5 then Pc q ls else if op=6 then ND q ls else if op=7 then N3 q ls else if op=8 then Ob q ls else if op=9 then Pm q ls else Fy q ls
def adQ(op:Int)(q:Query)(ls:List (List (List VV))):Prop:=
 if op=2 then Ep 1 q ls else if op=3 then Kb q ls else if op=4 then Kd q ls else if op=5 then J9 q ls else if op=6 then Ep 2 q ls else if op=7 then AG q ls else if op=8 then AG q ls else if op=9 then Ka q ls else CK q ls
mutual
def jL(ls:List (List (List VV))):Query->Nat->List (List VV)×Nat
 |.mk op ta w co on gr od li args,k=>if op=1 then(ls.getD k [],k+1)else(opF op (.mk op ta w co on gr od li args) (fJ ls args k).1,(fJ ls args k).2)
def fJ(ls:List (List (List VV))):List Query->Nat->List (List (List VV))×Nat
 |[],k=>([],k)
 |q::qs,k=>((jL ls q k).1::(fJ ls qs (jL ls q k).2).1,(fJ ls qs (jL ls q k).2).2)
end
mutual
def TX(ls:List (List (List VV))):Query->Nat->Prop
 |.mk op ta w co on gr od li args,k=>if op=1 then k<ls.length else adQ op (.mk op ta w co on gr od li args) (fJ ls args k).1/\Px ls args k
def Px(ls:List (List (List VV))):List Query->Nat->Prop
 |[],_=>True
 |q::qs,k=>TX ls q k/\Px ls qs (jL ls q k).2
end
def ZZ:Vc.Spec:=λcvs m h K=>∃op,cvs=[cI op]/\(op=2->K (.val (.agg #[.func (.func 148) #[] #[]])) m h)/\(op=3->K (.val (.agg #[.func (.func 149) #[] #[]])) m h)/\(op=4->K (.val (.agg #[.func (.func 150) #[] #[]])) m h)/\(op=5->K (.val (.agg #[.func (.func 151) #[] #[]])) m h)/\(op=6->K (.val (.agg #[.func (.func 152) #[] #[]])) m h)/\
 (op=7->K (.val (.agg #[.func (.func 153) #[] #[]])) m h)/\(op=8->K (.val (.agg #[.func (.func 154) #[] #[]])) m h)/\(op=9->K (.val (.agg #[.func (.func 155) #[] #[]])) m h)/\((op≠2/\op≠3/\op≠4/\op≠5/\op≠6/\op≠7/\op≠8/\op≠9)->K (.val (.agg #[.func (.func 156) #[] #[]])) m h)
def Leaves(h:PH)(s:Sl)(ls:List (List (List VV))):Prop:=bV h 1 eS (λl t=>Rows h t l) s ls
def ON(N:Nat):Vc.Spec:=λcvs m h K=>∃be v q lv ls k,cvs=[cP be,aQ v]/\dK h q v/\SizeOf.sizeOf q<N/\be≠1/\m be=some (.cells #[Sl.val lv,.int .i64 (k:Nat)] 128 (0,0))/\Leaves h lv ls/\jN m/\TX ls q k/\
 ∀s' m' h',PH.le h h'->Rows h' s' (jL ls q k).1->fV m m' be (.cells #[Sl.val lv,.int .i64 ((jL ls q k).2:Nat)] 128 (0,0))->K (cS s') m' h'
noncomputable def YK(N:Nat)(be:Nat)(v:QV):Ctx:=wH [(86,ON N),(117,Nk),(118,ZZ),(148,OS (Ep 1) Gp),(149,OS Kb Po),(150,OS Kd PF),(151,OS J9 Pc),(152,OS (Ep 2) ND),(153,OS AG N3),(154,OS AG Ob),(155,OS Ka Pm),(156,OS CK Fy)]
 [(7,{A:=Nat×List Value×MH×PH,st:=λ⟨i,l,m,h⟩=>cE 57 59 [(0,pv be),(3,.at (.ptr 3 0)),(6,.at (.lst 33)),(35,sv v.args),(36,iv v.args.len),(37,iv i)] [(3,.cells 38 (v.enc.map .val)),(33,.lst 158 1 (l.map λx=>[x]))] m h})] [] [] [] [] false
abbrev vM(a:CV->MH->PH->Prop)(b:Nat)(c:MH)(d:PH):Prop:=a (CV.val (Value.agg (Array.mk (j6 (Value.func (Fn.func b) rW rW))))) c d
attribute [push_cast] vM
def V5(op:Int)(m:MH)(h:PH)(K:CV->MH->PH->Prop):Prop:=
  dH (op==2) (vM K 148 m h) (op==3) (vM K 149 m h) (dH (op==4) (vM K 150 m h) (op==5) (vM K 151 m h) (dH (op==6) (vM K 152 m h) (op==7) (vM K 153 m h) (dH (op==8) (vM K 154 m h) (op==9) (vM K 155 m h) (vM K 156 m h))))
noncomputable abbrev DL(a:Nat×List Value×MH×PH):List (List Value):=List.map (fun(x:Value)=>j6 x) a.2.1
noncomputable abbrev sI(a:Nat×List Value×MH×PH):Nat->Option Obj:=a.2.2.1
abbrev uO(a:Sl->(List (List (List VV)))->Prop):Prop:=∃(x:Sl)(x1:List (List (List VV))),a x x1
abbrev vO(a:Prop)(b:Nat×List Value×MH×PH)(c:Sl->PH->QV->Sl->Query->(List Nat)->(List (List (List VV)))->Prop):Prop:=a->aX b.2.2.2 1 (List.map (fun(x:Value)=>j6 x) b.2.1) (λx x1=>∃(x2:QV)(x3:Sl)(x4:Query),N0 (λx5 x6=>c x x1 x2 x3 x4 x5 x6))
abbrev vN(a:QV)(b:Sl)(c:QV)(d:Sl)(e:PH)(g:Query)(i:List Nat)(j:List (List (List VV)))(k:Nat×List Value×MH×PH)(l n:Prop):Prop:=aA (bI (bJ a) (kU b)=bI (bJ c) (kU d)) (dK e g c) (aA (Dk e d i j) (jN (sI k)) (l/\n))
attribute [push_cast] DL sI uO vO vN
def P4(N:Nat)(be:Nat)(v:QV)(m:MH)(h:PH)(K:CV->MH->PH->Prop):Prop:=
  eJ v.op 1 (∃(y:Sl),aM m h be 0 (aR y)/\lA m h be 1 (λy1=>aT (λb o=>aH (aU y.a b o) (0<=y1) (y1<aG y) (∃(y2:Sl),aM m h b (fL o y1 1) (aR y2)/\lA m h be 1 (λy3=>eX (λc E=>aA (oX m be (dV c E 0)) (1<c.size) (∀(m1:MH),bE m m1 be (splice c.toList 1 (cK (eB (y3+1)))) E->K (kU y2) m1 h))))))) (aA (cN (aG v.args)) (aG v.args<=aG v.args) (aA (pK (aG v.args*8)) (pK (aG v.args)) (∃(I:Nat×List Value×MH×PH->Prop)(m1:Nat×List Value×MH×PH->Nat),(∃(x:Nat×List Value×MH×PH),aA (I x) (cV be) (aA iE (eL 33) (aA (aK v.args) (bK v.args) (aA (bG x.1) (eT v) (aH (dJ 158 1 (List.replicate (aG v.args).toNat Jp)=dJ 158 1 (DL x)) (cO m x.2.2) (dO h x.2.2) True)))))/\∀(x:Nat×List
 Value×MH×PH),I x->bD (↑x.1:Int) (aG v.args) (aT (λb o=>aH (aU v.args.a b o) (0<=(↑x.1:Int)) ((↑x.1:Int)<aG v.args) (∃(y:QV),aM (sI x) x.2.2.2 b (bB o x.1 21) y.enc/\∃(b1:Nat),kK (λv1 q=>uO (λl l1=>∃(k:Nat),aA (bI (rX be 0) (bJ y)=bI (rX b1 0) (bJ v1)) (dK x.2.2.2 q v1) (aA (sN q N) (jU (b1=1)) (aA (x.2.2.1 b1=Option.some (dV (Array.mk (kX (eR l) (eW (↑k:Int)))) 128 0)) (Leaves x.2.2.2 l l1) (aA (jN (sI x)) (TX l1 q k) (∀(s:Sl),eA (λm2 h1=>dZ x.2.2.2 h1 (Rows h1 s (jL l1 q k).1) (bE (sI x) m2 b1 (kX (eR l) (eW (↑(jL l1 q k).2:Int))) 128->∃(s1:Sl),gY (vT s s1) (λb2=>∀(h2:PH),dZ h1 h2 (bF h2 b2 0 (aR s1)) (aA (cN (↑x.1:Int)) ((↑x.1:Int)<kJ (DL x)) (∃(e:List
 Value),aA (tG (DL x) (qG x.1) e) (0<e.length) (∃(x1:Nat×List Value×MH×PH),aA (I x1) (m1 x1<m1 x) (aA (cV be) iE (aA (eL 33) (aK v.args) (aA (bK v.args) (gS (aW x.1 1)=bX x1.1) (aA (eT v) (dJ 158 1 (List.set (DL x) (qG x.1) (Value.func (Fn.func 147) rW (Bz b2)::List.drop 1 e))=dJ 158 1 (DL x1)) (aA (cO m2 x1.2.2) (dO h2 x1.2.2) True)))))))))))))))))))) (∃(o:Int),aA (pH v.op o) (vO (o=2) x (λs h1 v1 t q b l=>vN v s v1 t h1 q b l x (Ep 1 q l) (mI h1 (Gp q l) K (sI x)))) (aA (vO (o=3) x (λs h1 v1 t q b l=>vN v s v1 t h1 q b l x (Kb q l) (mI h1 (Po q l) K (sI x)))) (vO (o=4) x (λs h1 v1 t q b l=>vN v s v1 t h1 q b l x (Kd q l) (mI h1 (PF q l) K (sI x)))) (aA (vO (o=5)
 x (λs h1 v1 t q b l=>vN v s v1 t h1 q b l x (J9 q l) (mI h1 (Pc q l) K (sI x)))) (vO (o=6) x (λs h1 v1 t q b l=>vN v s v1 t h1 q b l x (Ep 2 q l) (mI h1 (ND q l) K (sI x)))) (aA (vO (o=7) x (λs h1 v1 t q b l=>vN v s v1 t h1 q b l x (AG q l) (mI h1 (N3 q l) K (sI x)))) (vO (o=8) x (λs h1 v1 t q b l=>vN v s v1 t h1 q b l x (AG q l) (mI h1 (Ob q l) K (sI x)))) (vO (o=9) x (λs h1 v1 t q b l=>vN v s v1 t h1 q b l x (Ka q l) (mI h1 (Pm q l) K (sI x)))/\vO (aA (jU (o=2)) (jU (o=3)) (aA (jU (o=4)) (jU (o=5)) (aH (jU (o=6)) (jU (o=7)) (jU (o=8)) (jU (o=9))))) x (λs h1 v1 t q b l=>vN v s v1 t h1 q b l x (CK q l) (mI h1 (Fy q l) K (sI x)))))))))))
theorem S5:Sound Tryz.prog 118 ZZ:=by
 refine iJ Tryz.func118 ?_;rintro cvs m h K ⟨op,rfl,h2,h3,h4,h5,h6,h7,h8,h9,hK⟩;refine⟨dN [] [] [] [] false,rfl,aF,V5 op m h K,by kernel_rfl,?_⟩;exact(aB (λe=>h2 (by simpa using e)) λe2=>aB (λe=>h3 (by simpa using e)) λe3=>aB (λe=>h4 (by simpa using e)) λe4=>aB (λe=>h5 (by simpa using e)) λe5=>aB (λe=>h6 (by simpa using e)) λe6=>aB (λe=>h7 (by simpa using e)) λe7=>aB (λe=>h8 (by simpa using e)) λe8=>aB (λe=>h9 (by simpa using e)) λe9=>hK ⟨by simpa using e2,by simpa using e3,by simpa using e4,by simpa using e5,by simpa using e6,by simpa using e7,by simpa using e8,by simpa using e9⟩)
theorem Iw{ls:List (List (List VV))}{q:Query}:∀{a:List Query}{k:Nat},fJ ls (a++[q]) k=((fJ ls a k).1++[(jL ls q (fJ ls a k).2).1],(jL ls q (fJ ls a k).2).2)
 |[],k=>by simp[fJ]
 |p::a,k=>by
  rw[List.cons_append,fJ,Iw];simp[fJ]
theorem TW{ls:List (List (List VV))}{q:Query}{b:List Query}:∀{a:List Query}{k:Nat},Px ls (a++q::b) k->TX ls q (fJ ls a k).2
 |[],k,h=>by rw[List.nil_append,Px]at h;simpa[fJ]using h.1
 |p::a,k,h=>by
  rw[List.cons_append,Px]at h;rw[fJ];exact TW h.2
theorem EZ{ls:List (List (List VV))}:∀{a:List Query}{k:Nat},(fJ ls a k).1.length=a.length
 |[],k=>by simp[fJ]
 |p::a,k=>by rw[fJ];simp[EZ]
theorem Ub:∀N,Sound Tryz.prog 86 (ON N)
 |0=>by
  refine fA (fn:=Tryz.f86) (c:=cQ Tryz.f86) Tryz.func86 rfl (by decide) ?_;rintro cvs m h K ⟨be,v,q,lv,ls,k,rfl,_,hN,_⟩;omega
 |N+1=>by
  refine iJ Tryz.func86 ?_;rintro cvs m h K ⟨be,v,q,lv,ls,k,rfl,hq,hN,hb1,hbe,hlv,hT,hok,hK⟩;refine⟨YK N be v,rfl,aD (Ub N) (aD S6 (aD S5 (aD SC (aD SB (aD SA (aD Sz (aD Sy (aD Sx (aD Sw (aD Sv (aD Su aF))))))))))),P4 N be v m h K,by kernel_rfl,?_⟩;dsimp only[P4,push_cast];obtain⟨op,ta,w,co,on,gr,od,li,args⟩:=q;have xq:=hq.parts;rw[jL]at hK;rw[TX]at hok;have hvop:v.op=op:=xq.op_;refine aB (λe=>?_) (λe=>?_)
  .have e:op=1:=by rw[<-hvop];simpa using e
   rw[if_pos e]at hok;simp only[if_pos e]at hK;have hlen:=bV.slen hlv;obtain⟨b,o,s,ea,rd,hr⟩:=bV.at hlv (List.getElem?_eq_getElem hok);have r0:aM m h be 0 [eR lv]:=.of_m hbe rfl;have r1:aM m h be 1 [eW (k:Nat)]:=.of_m hbe rfl;have hl5:=hlv.len;refine⟨lv,r0,k,r1,b,o,ea,aC,aC,s,.imm rd,k,r1,_,_,⟨hbe⟩,by simp,λm' hu=>hK s m' h (.refl _) ?_ ?_⟩
   .rw[List.getD_eq_getElem?_getD,List.getElem?_eq_getElem hok];exact hr
   .have e5:IntKind.i64.wrap ((k:Int)+1)=((k+1:Nat):Int):=by rw[jA aC]
    rw[e5]at hu;exact hu
  .have e:op≠1:=by rw[<-hvop];simpa using e
   rw[if_neg e]at hok;simp only[if_neg e]at hK;obtain⟨hop,hoks⟩:=hok;have hargs:=xq.args_;have hal:=bV.slen hargs;have hal2:=bV.len hargs
   refine⟨aC,aC,aC,aC,λz=>z.1<=args.length/\PH.le h z.2.2.2/\fV m z.2.2.1 be (.cells #[Sl.val lv,.int .i64 ((fJ ls (args.take z.1) k).2:Nat)] 128 (0,0))/\∃bs:List Nat,bs.length=z.1/\z.2.1=bs.map Lz++List.replicate (args.length-z.1) .nilFunc/\∀j b l,bs[j]? =some b->(fJ ls (args.take z.1) k).1[j]? =some l->LI z.2.2.2 b l,λz=>args.length-z.1,
    ⟨(0,List.replicate args.length .nilFunc,m,h),⟨by simp,.refl _,⟨by dsimp only;rw[List.take_zero,fJ];exact hbe,λ_ _=>rfl⟩,[],rfl,by simp,λj b l h1 _=>by rw[List.getElem?_nil]at h1;cases h1⟩,?_⟩,?_⟩
   .rw[show((v.args.len:Int)).toNat=args.length by omega];dsimp only;rw[List.map_replicate];exact MT
   .rintro⟨i,l,zm,zh⟩ ⟨hi,lez,hu,bs,hbs,hl,hseq⟩;dsimp only at hi lez hu hbs hl hseq⊢
    have hTz:jN zm:=by
     obtain⟨T,fz,e1⟩:=hT;exact⟨T,fz,by rw[hu.other 1 (Ne.symm hb1)];exact e1⟩
    refine aE (λhlt=>?_) (λhge=>?_)
    .obtain⟨p,hp⟩:=fI hal hlt;obtain⟨b,o,u,ea,hrd,hru⟩:=bV.at (AA.mono hargs lez) hp;have hpl:=(List.getElem?_eq_some_iff.1 hp).1
     have hsz:SizeOf.sizeOf p<N:=by
      have:=List.sizeOf_lt_of_mem (List.mem_of_getElem? hp);simp only[Query.mk.sizeOf_spec]at hN;omega
     have hsplit:args=args.take i++p::args.drop (i+1):=by
      have h5:args[i]=p:=(List.getElem?_eq_some_iff.1 hp).2;rw[<-h5,List.getElem_cons_drop hpl,List.take_append_drop]
     have hokp:TX ls p (fJ ls (args.take i) k).2:=TW (b:=args.drop (i+1)) (by rw[<-hsplit];exact hoks)
     have hsn:fJ ls (args.take (i+1)) k=((fJ ls (args.take i) k).1++[(jL ls p (fJ ls (args.take i) k).2).1],(jL ls p (fJ ls (args.take i) k).2).2):=by
      rw[List.take_add_one,hp,Option.toList_some,Iw]
     refine⟨b,o,ea,aC,aC,u,.imm hrd,be,u,p,lv,ls,(fJ ls (args.take i) k).2,rfl,hru,hsz,hb1,hu.at_,bV.mono hlv lez (λl s hr=>bV.mono hr lez λr t hv=>cR.mono hv lez),hTz,hokp,λs' m' h' le' hr' hu'=>⟨s',rfl,λb2 h2 le2 hrd2=>?_⟩⟩;have hll:l.length=args.length:=by rw[hl,List.length_append,List.length_map,List.length_replicate];omega
     have hev:l[i]? =some .nilFunc:=by
      rw[hl,List.getElem?_append_right (by simp;omega),List.getElem?_replicate,if_pos (by simp;omega)]
     refine⟨aC,by simp;omega,[.nilFunc],by simp[hev],by simp,(i+1,l.set i (Lz b2),m',h2),⟨by dsimp only;omega,lez.trans (le'.trans le2),?_,bs++[b2],by simp[hbs],?_,?_⟩,by dsimp only;omega,?_⟩
     .dsimp only;rw[hsn];exact⟨hu'.at_,λb5 hb5=>by rw[hu'.other b5 hb5,hu.other b5 hb5]⟩
     .dsimp only;rw[hl,List.set_append,if_neg (by simp;omega),List.map_append,List.append_assoc];congr 1;rw[show args.length-i=(args.length-(i+1))+1 by omega,List.replicate_succ];simp[hbs]
     .dsimp only;rw[hsn];intro j b5 l5 h5 h6;have hel:(fJ ls (args.take i) k).1.length=bs.length:=by rw[EZ,List.length_take];omega
      by_cases hj:j<bs.length
      .rw[List.getElem?_append_left hj]at h5;rw[List.getElem?_append_left aC]at h6;exact(hseq j b5 l5 h5 h6).mono (le'.trans le2)
      .rw[List.getElem?_append_right aC]at h5;rw[List.getElem?_append_right aC]at h6;have:j-bs.length=0:=by have:=(List.getElem?_eq_some_iff.1 h5).1;simp at this;omega
       rw[this]at h5;rw[hel,this]at h6;simp at h5 h6;subst h5 h6
       obtain⟨us,h7,h8⟩:=(show∃us,cW h' s' 1 (us.map eS)/\fD h' us _ from by
        obtain⟨us,h7,h8,h9⟩:=hr'.ex;exact⟨us,h7,h8.symm,h9⟩)
       exact⟨us,⟨s',hrd2,h7.mono le2,by have h9:=hr'.len;rw[h8.len];exact h9⟩,h8.mono le2⟩
     .dsimp only;rw[jA aC]
      have e9:((l.map λx=>[x]).set ((i:Int)).toNat (Lz b2::List.drop 1 [.nilFunc]))=(l.set i (Lz b2)).map λx=>[x]:=by
       rw[List.map_set];rfl
      exact⟨MT,rfl,rfl,rfl,rfl,rfl,rfl,by rw[<-e9];rfl,rfl,rfl,trivial⟩
    .have hi2:i=args.length:=by omega
     subst hi2;rw[List.take_length]at hu hseq;rw[Nat.sub_self,List.replicate_zero,List.append_nil]at hl
     have fin:∀{okF:Query->List (List (List VV))->Prop}{f:Query->List (List (List VV))->List (List VV)},okF (.mk op ta w co on gr od li args) (fJ ls args k).1->opF op (.mk op ta w co on gr od li args) (fJ ls args k).1=f (.mk op ta w co on gr od li args) (fJ ls args k).1->∀(s:Sl)(h':PH),zh.le h'->cW h' s 1 (l.map λx=>[x])->
      ∃(v1:QV)(t:Sl)(q:Query)(bs:List Nat)(ls:List (List (List VV))),[aQ v,cS s]=[aQ v1,cS t]/\dK h' q v1/\Dk h' t bs ls/\jN zm/\okF q ls/\∀(s':Sl)(h'_1:PH),h'.le h'_1->Rows h'_1 s' (f q ls)->K (cS s') zm h'_1:=fun{okF f} h1 h2 s h' le' hri=>by
      refine⟨v,s,_,bs,_,rfl,hq.mono (lez.trans le'),⟨?_,by rw[EZ];exact hbs,λj b l5 h5 h6=>(hseq j b l5 h5 h6).mono le'⟩,hTz,h1,λs' h'' le'' hr=>hK s' zm h'' (lez.trans (le'.trans le'')) (by rw[h2];exact hr) hu⟩;rw[hl,List.map_map]at hri;exact hri
     have hop2:=hop;refine⟨op,by rw[hvop],λe2=>fin (okF:=Ep 1) ?_ ?_,λe2=>fin (okF:=Kb) ?_ ?_,λe2=>fin (okF:=Kd) ?_ ?_,λe2=>fin (okF:=J9) ?_ ?_,λe2=>fin (okF:=Ep 2) ?_ ?_,λe2=>fin (okF:=AG) ?_ ?_,λe2=>fin (okF:=AG) ?_ ?_,λe2=>fin (okF:=Ka) ?_ ?_,λe2=>fin (okF:=CK) ?_ ?_⟩
     all_goals first
      |(subst e2;exact hop)
      |(subst e2;rfl)
      |(obtain⟨h2,h3,h4,h5,h6,h7,h8,h9⟩:=e2;first|(rw[adQ,if_neg h2,if_neg h3,if_neg h4,if_neg h5,if_neg h6,if_neg h7,if_neg h8,if_neg h9]at hop;exact hop)|(rw[opF,if_neg h2,if_neg h3,if_neg h4,if_neg h5,if_neg h6,if_neg h7,if_neg h8,if_neg h9]))
def UR:Vc.Spec:=λcvs m h K=>∃s r,cvs=[cS s]/\cR h s r/\r.length<=1000/\∀s' h',PH.le h h'->cR h' s' r->K (cS s') m h'
def OF:Vc.Spec:=λcvs m h K=>∃lv v ls q,cvs=[cS lv,aQ v]/\Leaves h lv ls/\dK h q v/\TX ls q 0/\jN m/\(jL ls q 0).1.length<=1000000/\(∀r∈(jL ls q 0).1,r.length<=1000)/\∀s' h',PH.le h h'->Rows h' s' (jL ls q 0).1->K (cS s') m h'
noncomputable def f58_ctx(N:Nat):Ctx:=wH [(86,ON N),(87,UR)] [(5,{A:=Nat×List Sl×Sl×MH×PH,st:=λ⟨i,us,s,m,h⟩=>cE 31 33 [(7,.at (.lst 16)),(17,sv s),(18,iv s.len),(19,iv i)] [(16,.lst 74 1 (us.map eS))] m h})] [] [] [200005] [] false
def P3(a:Addr)(n c:Nat)(m:MH)(h:PH)(K:CV->MH->PH->Prop):Prop:=
  ∃(y:List (List Value)),aA (eV 3 y) (cW h (Sl.mk (Option.some a) n c) 3 y) (aA (iB (BJ y*32)) (iB (BJ y)) (aX h 3 ([]++y) (λs h1=>K (kU s) m h1)))
theorem aeX(a:Addr)(n c:Nat)(m:MH)(h:PH)(K:CV->MH->PH->Prop):P3 a n c m h K=(zJ (dN [] [] [] [] false) Tryz.f87 (cQ Tryz.f87) (entry Tryz.f87.ntmps [.val (.slice (some a) n c)] m h) K):=by kernel_rfl
def Mk(n c:Nat)(m:MH)(h:PH)(K:CV->MH->PH->Prop):Prop:=
  K Dc m h
theorem YJ(n c:Nat)(m:MH)(h:PH)(K:CV->MH->PH->Prop):Mk n c m h K=(zJ (dN [] [] [] [] false) Tryz.f87 (cQ Tryz.f87) (entry Tryz.f87.ntmps [.val (.slice none n c)] m h) K):=by kernel_rfl
abbrev yZ(a:List VV):Prop:=mX a.length
attribute [push_cast] yZ
def f58_nice(N:Nat)(lv:Sl)(v:QV)(m:MH)(h:PH)(K:CV->MH->PH->Prop):Prop:=
  ∀(b:Nat)(m1:MH),bC (cM m h b) (bE m m1 b (kX tT dA) 128) (eX (λc E=>aA (oX m1 b (dV c E 0)) (2<=c.size) (∀(m2:MH),bE m1 m2 b (aY (eR lv) dA (List.drop 2 c.toList)) E->∃(b1:Nat),kK (λv1 q=>uO (λl l1=>∃(k:Nat),aA (bI (rX b 0) (bJ v)=bI (rX b1 0) (bJ v1)) (dK h q v1) (aA (sN q N) (jU (b1=1)) (aA (m2 b1=Option.some (dV (Array.mk (kX (eR l) (eW (↑k:Int)))) 128 0)) (Leaves h l l1) (aA (jN m2) (TX l1 q k) (∀(s:Sl),eA (λm3 h1=>dZ h h1 (Rows h1 s (jL l1 q k).1) (bE m2 m3 b1 (kX (eR l) (eW (↑(jL l1 q k).2:Int))) 128->aA (cN (aG s)) (aG s<=aG s) (aA (pK (aG s*24)) (pK (aG s)) (F4 (λI x=>aA (I x) (eL 16) (aA (aZ s (dL x)) (cH s (dL x)) (aA (bG x.1) (dJ 74 1
 (List.replicate (aG s).toNat iQ)=dJ 74 1 (iF x)) (aA (cO m3 (fE x)) (dO h1 (fE x)) True)))) (λI m4 x=>I x->bD (↑x.1:Int) (aG (dL x)) (aT (λb2 o=>aH (aU (dL x).a b2 o) (0<=(↑x.1:Int)) ((↑x.1:Int)<aG (dL x)) (∃(y:Sl),aM (fE x).1 (lH x) b2 (bB o x.1 1) (aR y)/\mD (λs1 r=>aH (vT y s1) (cR (lH x) s1 r) (yZ r) (kP (λs2 h2=>dZ (lH x) h2 (cR h2 s2 r) (aA (cN (↑x.1:Int)) ((↑x.1:Int)<kJ (iF x)) (∃(e:List Value),G7 (tG (iF x) (qG x.1) e) (0<e.length) (λx1=>aA (I x1) (m4 x1<m4 x) (aA (eL 16) (aZ (dL x) (dL x1)) (aA (cH (dL x) (dL x1)) (gS (aW x.1 1)=bX x1.1) (aA (dJ 74 1 (List.set (iF x) (qG x.1) (eR s2::List.drop 1 e))=dJ 74 1 (iF x1))
 (cO (fE x).1 (fE x1)) (kI h2 (fE x1)))))))))))))) (aX (lH x) 1 (iF x) (λs1 h2=>K (kU s1) (fE x).1 h2))))))))))))))))
theorem Vp:Sound Tryz.prog 87 UR:=by
 refine fA (fn:=Tryz.f87) (c:=cQ Tryz.f87) Tryz.func87 rfl (by decide) ?_;rintro cvs m h K ⟨⟨a,n,c⟩,r,rfl,hs,hl,hK⟩;refine⟨dN [] [] [] [] false,rfl,aF,?_⟩;cases a with
 |none=>
  show zJ _ Tryz.f87 (cQ Tryz.f87) (entry Tryz.f87.ntmps [.val (.slice none n c)] m h) K;rw[<-YJ n c m h K];dsimp only[Mk,push_cast];refine hK ⟨none,0,0⟩ h (.refl _) ?_;cases r with
  |nil=>exact⟨⟨[],cW.nil _ _,rfl,λi x hx=>by simp at hx⟩,by simp⟩
  |cons x r=>
   obtain⟨b,o,v,e,_⟩:=bV.at hs (i:=0) (x:=x) rfl;cases e
 |some a=>
  show zJ _ Tryz.f87 (cQ Tryz.f87) (entry Tryz.f87.ntmps [.val (.slice (some a) n c)] m h) K;rw[<-aeX a n c m h K];dsimp only[P3,push_cast];obtain⟨⟨vs,h1,h2,h3⟩,h4⟩:=hs;refine⟨vs.map VV.enc,?_,h1,by rw[List.length_map];omega,by rw[List.length_map];omega,λs h' le hri=>hK s h' le ⟨⟨vs,by simpa using hri,h2,h3⟩,h4⟩⟩;constructor
  .intro e he;obtain⟨x,_,rfl⟩:=List.mem_map.1 he;rfl
  .intro e he u hu;obtain⟨x,_,rfl⟩:=List.mem_map.1 he;simp[VV.enc]at hu;rcases hu with rfl|rfl|rfl<;>rfl
theorem f58_sound:Sound Tryz.prog 58 OF:=by
 refine Gm Tryz.func58 ?_;rintro cvs m h K ⟨lv,v,ls,q,rfl,hlv,hq,hok,hT,hl,hw,hK⟩;refine⟨f58_ctx (SizeOf.sizeOf q+1),rfl,aD (Ub _) (aD Vp aF),f58_nice (SizeOf.sizeOf q+1) lv v m h (lE h K),by kernel_rfl,?_⟩;dsimp only[f58_nice,push_cast];intro b m1 hb1 hu1;obtain⟨s1,n1⟩:=hZ (Sub.refl m) hb1 hu1;refine⟨_,_,⟨hu1.at_⟩,by simp,λm2 hu2=>?_⟩;have s2:Sub m m2:=s1.upd n1 hu2.other
 have hb1':b≠1:=λe=>by
  obtain⟨T,fz,e1⟩:=hT;rw[<-e,n1]at e1;cases e1
 refine⟨b,v,q,lv,ls,0,rfl,hq,aC,hb1',hu2.at_,hlv,hT.sub s2,hok,λs m3 h3 le3 hr hu3=>?_⟩;have s3:Sub m m3:=s2.upd n1 hu3.other;generalize (jL ls q 0).1=rs at hl hw hK hr;have hsl:=bV.slen hr;refine⟨aC,aC,aC,aC,λz=>z.1<=rs.length/\z.2.2.1=s/\z.2.2.2.1=m3/\PH.le h3 z.2.2.2.2/\∃us,z.2.1=us++List.replicate (rs.length-z.1) ⟨none,0,0⟩/\fD z.2.2.2.2 us (rs.take z.1),λz=>rs.length-z.1,⟨(0,List.replicate rs.length ⟨none,0,0⟩,s,m3,h3),⟨by simp,rfl,rfl,.refl _,[],by simp,by simpa using fD.nil h3⟩,?_⟩,?_⟩
 .rw[show((s.len:Int)).toNat=rs.length by omega];dsimp only;rw[List.map_replicate];exact MT
 .rintro⟨i,us',s',m',hz⟩ ⟨hi,e1,e2,le4,us,hus,hru⟩;dsimp only at hi e1 e2 le4 hus hru⊢
  subst e1 e2;have hul:=hru.len;rw[List.length_take]at hul;refine aE (λhlt=>?_) (λhge=>?_)
  .have hil:i<rs.length:=by omega
   obtain⟨b2,o,u,ea,rd,hv⟩:=bV.at hr (List.getElem?_eq_getElem hil);have hlen:us'.length=rs.length:=by rw[hus,List.length_append,List.length_replicate];omega
   have hev:us'[i]? =some ⟨none,0,0⟩:=by
    rw[hus,List.getElem?_append_right aC,List.getElem?_replicate,if_pos aC]
   refine⟨b2,o,ea,aC,aC,u,.imm ((rd.mono le4)),u,rs[i],rfl,cR.mono hv le4,hw _ (List.getElem_mem _),λsc h5 le5 hvc=>⟨aC,by rw[List.length_map];omega,[tT],by rw[List.getElem?_map,show((i:Int)).toNat=i from rfl,hev];rfl,by simp,(i+1,us'.set i sc,s',m',h5),⟨by dsimp only;omega,rfl,rfl,le4.trans le5,us++[sc],?_,?_⟩,by dsimp only;omega,?_⟩⟩
   .dsimp only;rw[hus,List.set_append,if_neg aC,List.append_assoc];congr 1;rw[show rs.length-i=(rs.length-(i+1))+1 by omega,List.replicate_succ,show i-us.length=0 by omega];rfl
   .dsimp only;rw[List.take_add_one,List.getElem?_eq_getElem hil];exact(hru.mono le5).snoc hvc
   .dsimp only
    have e9:((us'.map eS).set ((i:Int)).toNat (eR sc::List.drop 1 [tT]))=(us'.set i sc).map eS:=by
     rw[List.map_set];rfl
    exact⟨MT,rfl,rfl,by rw[jA aC],by rw[<-e9],rfl,rfl,trivial⟩
  .have:i=rs.length:=by omega
   subst this;rw[Nat.sub_self,List.replicate_zero,List.append_nil]at hus;subst hus;rw[List.take_length]at hru;intro s6 h6 le6 hri;exact⟨m,h6,s3,le3.trans (le4.trans le6),.refl _,hK s6 h6 (le3.trans (le4.trans le6)) ((hru.mono le6).rows hri aC)⟩
mutual
def rY(h:PH):Query->QV->Nat->List (Nat×QV)->Prop
 |.mk _ _ _ _ _ _ _ _ args,v,d,es=>∃vs ess,cW h v.args 21 (vs.map QV.enc)/\iN h args vs (d+1) ess/\es=(d,v)::ess
def iN(h:PH):List Query->List QV->Nat->List (Nat×QV)->Prop
 |[],vs,_,es=>vs=[]/\es=[]
 |q::qs,vs,d,es=>∃v vs' e1 e2,vs=v::vs'/\dK h q v/\rY h q v d e1/\iN h qs vs' d e2/\es=e1++e2
end
def Zz(e:Nat×QV):List Value:=[.int .i64 (e.1:Nat),.agg e.2.enc.toArray]
def OC(N:Nat):Vc.Spec:=λcvs m h K=>∃(v:QV)(q:Query)(d l k0:Nat)(es xs:List (Nat×QV))(J:Nat->MH->PH->Prop),cvs=[aQ v,cI d,.val (.func (.yield l) #[] #[])]/\rY h q v d es/\SizeOf.sizeOf q<N/\d+tO q<=1000000/\(∀j e,es[j]? =some e->xs[k0+j]? =some e)/\J k0 m h/\
 (∀k e m' h',xs[k]? =some e->PH.le h h'->J k m' h'->YDo Tryz.prog l (Zz e) m' h' (λr m2 h2=>r=true/\PH.le h' h2/\J (k+1) m2 h2))/\
 ∀m' h',PH.le h h'->J (k0+es.length) m' h'->K (cB true) m' h'
noncomputable def V6(N:Nat)(v:QV)(d l:Nat):Ctx:=
 {dN [(115,OC N)] [(4,{A:=Nat×MH×PH,st:=λ⟨i,m,h⟩=>cE 28 31 [(1,iv d),(2,vv (.func (.yield l) #[] #[])),(15,sv v.args),(16,iv v.args.len),(17,iv i)] [] m h})] [] [] false with yield:=some (XN Tryz.prog)}
def JG:PH->List Value->List (List Value)->Prop:=λh caps xs=>∃b v q es,caps=[.pointer (some ⟨b,0,none⟩)]/\bF h b 0 (QV.enc v)/\rY h q v 1 es/\tO q<=900000/\xs=es.map Zz
def OB:Vc.Spec:=λcvs m h K=>∃v,cvs=[aQ v]/\∀b h',PH.le h h'->bF h' b 0 (QV.enc v)->K (.val (.func (.func 114) #[] #[.pointer (some ⟨b,0,none⟩)])) m h'
abbrev Gb(a:Nat->(Nat×QV)->Prop):Prop:=∀(x:Nat)(x1:Nat×QV),a x x1
abbrev B6(a:List (Nat×QV))(b:Nat)(c:Nat×QV):Prop:=a[b]? =Option.some c
attribute [push_cast] Gb B6
def KW(N:Nat)(v:QV)(d l:Nat)(m:MH)(h:PH)(K:CV->MH->PH->Prop):Prop:=
  Jq (XN Proofs.Tryz.prog)/\∃(l1:Nat)(v1:List Value)(R:Bool->MH->PH->Prop),aA (An l::bI (fK (↑d:Int)) (bJ v)=An l1::List.map CV.val v1) (YDo Proofs.Tryz.prog l1 v1 m h R) (∀(u:Bool),eA (λm1 h1=>gU (R u m1 h1) (!u) (K bA m1 h1) (∃(I:Nat×MH×PH->Prop)(m2:Nat×MH×PH->Nat),(∃(x:Nat×MH×PH),aA (I x) (eQ (bX d)) (aA (B7 l) (aK v.args) (aA (bK v.args) (bG x.1) (aA (cO m1 x.2) (dO h1 x.2) True))))/\∀(x:Nat×MH×PH),I x->bD (↑x.1:Int) (aG v.args) (aT (λb o=>aH (aU v.args.a b o) (0<=(↑x.1:Int)) ((↑x.1:Int)<aG v.args) (∃(y:QV),aM (eY x) (eD x) b (bB o x.1 21) y.enc/\kK (λv2 q=>aT (λd1 l2=>∃(k:Nat)(e x1:List (Nat×QV))(J:Nat->MH->PH->Prop),aA (xT y (aW d 1) l=xT v2 (↑d1
 :Int) l2) (rY (eD x) q v2 d1 e) (aA (sN q N) (d1+tO q<=1000000) (aH (Gb (λj e1=>B6 e j e1->B6 x1 (k+j) e1)) (J k (eY x) (eD x)) (Gb (λk1 e1=>eA (λm3 h2=>bC (B6 x1 k1 e1) (PH.le (eD x) h2) (J k1 m3 h2->YDo Proofs.Tryz.prog l2 (kX (eW (↑e1.1:Int)) (Value.agg (Array.mk e1.2.enc))) m3 h2 (fun(r:Bool)=>fun(m4:MH)=>fun(h3:PH)=>aA (nD r) (PH.le h2 h3) (J (k1+1) m4 h3)))))) (eA (λm3 h2=>dZ (eD x) h2 (J (k+e.length) m3 h2) (∃(x2:Nat×MH×PH),aA (I x2) (m2 x2<m2 x) (aA (eQ (bX d)) (B7 l) (aA (aK v.args) (bK v.args) (aA (gS (aW x.1 1)=bX x2.1) (cO m3 x2.2) (kI h2 x2.2)))))))))))))) (K gE (eY x) (eD x)))))
def S8(N:Nat)(l bq:Nat)(m:MH)(h:PH)(K:CV->MH->PH->Prop):Prop:=
  BK m h bq (λy=>kK (λv q=>aT (λd l1=>∃(k:Nat)(e x:List (Nat×QV))(J:Nat->MH->PH->Prop),aA (xT y 1 l=xT v (↑d:Int) l1) (rY h q v d e) (aA (sN q N) (d+tO q<=1000000) (aH (Gb (λj e1=>B6 e j e1->B6 x (k+j) e1)) (J k m h) (Gb (λk1 e1=>eA (λm1 h1=>bC (B6 x k1 e1) (PH.le h h1) (J k1 m1 h1->YDo Proofs.Tryz.prog l1 (kX (eW (↑e1.1:Int)) (Value.agg (Array.mk e1.2.enc))) m1 h1 (fun(r:Bool)=>fun(m2:MH)=>fun(h2:PH)=>aA (nD r) (PH.le h1 h2) (J (k1+1) m2 h2)))))) (eA (λm1 h1=>dZ h h1 (J (k+e.length) m1 h1) (K (CV.tup []) m1 h1))))))))
def f57_nice(v:QV)(m:MH)(h:PH)(K:CV->MH->PH->Prop):Prop:=
  ∀(b:Nat)(m1:MH),bC (cM m h b) (bE m m1 b iQ 33) (∃(v1:QV),gY (fH (bJ v) (bJ v1)) (λb1=>∀(h1:PH),dZ h h1 (bF h1 b1 0 v1.enc) (∃(S:PH->List Value->List (List Value)->Prop)(x:List (Int×QV))(I:Nat->MH->PH->Prop),aA (Di Proofs.Tryz.prog 114 S) (S h1 (j6 (Yg b1 0)) (List.map (fun(x1:Int×QV)=>kX (eW x1.1) (Value.agg (Array.mk x1.2.enc))) x)) (aA (I 0 m1 h1) (∀(k:Nat)(e:Int)(e1:QV),eA (λm2 h2=>bC (x[k]? =Option.some (e,e1)) (PH.le h1 h2) (I k m2 h2->∀(b2:Nat)(m3:MH),bC (cM m2 h2 b2) (bE m2 m3 b2 zV 38) (eX (λc E=>aA (oX m3 b2 (dV c E 0)) (21<=c.size) (∀(m4:MH),bE m3 m4 b2 (DH e1 e1 (aY (jI (iW e1)) (iY (fX e1)) (aY (rQ (fX e1)) (eW (qO (fX e1))) (aY (rO (fX e1)) (jI (fX e1)) (aY
 (oI e1) (oK e1) (aY (eR e1.on) (rM e1) (aY (rN e1) (eW e1.limit) (eU (uM e1) 21 c)))))))) E->lA m4 h2 b2 0 (λy=>eJ y 1 (∃(y1:Sl),aM m4 h2 b 0 (aR y1)/\lA m4 h2 b2 1 (λy2=>∃(x1:List (List Value)),aH (dW m4 (dR y1) 3 1 x1) (iB ((x1.length+1)*8)) (iX x1) (iH (λs m5=>eZ m4 m5 (dR y1) s 3 1 (x1++bL (cK y2))->eX (λc1 E1=>aA (oX m5 b (dV c1 E1 0)) (0<c1.size) (∀(m6:MH),bE m5 m6 b (eU (eR s) 1 c1) E1->I (k+1) m6 h2)))))) (I (k+1) m4 h2)))))))) (eA (λm2 h2=>dZ h1 h2 (I x.length m2 h2) (∃(y:Sl),aM m2 h2 b 0 (aR y)/\K (kU y) m2 h2)))))))
mutual
theorem rY.mono{h h':PH}(le:PH.le h h'):∀{q:Query}{v:QV}{d:Nat}{es:List (Nat×QV)},rY h q v d es->rY h' q v d es
 |.mk _ _ _ _ _ _ _ _ args,v,d,es,w=>by
  rw[rY]at w⊢
  obtain⟨vs,ess,h1,h2,h3⟩:=w;exact⟨vs,ess,h1.mono le,iN.mono le h2,h3⟩
theorem iN.mono{h h':PH}(le:PH.le h h'):∀{qs:List Query}{vs:List QV}{d:Nat}{es:List (Nat×QV)},iN h qs vs d es->iN h' qs vs d es
 |[],vs,d,es,w=>by rw[iN]at w⊢;exact w
 |q::qs,vs,d,es,w=>by
  rw[iN]at w⊢
  obtain⟨v,vs',e1,e2,h1,h2,h3,h4,h5⟩:=w;exact⟨v,vs',e1,e2,h1,h2.mono le,rY.mono le h3,iN.mono le h4,h5⟩
end
theorem iN.len{h:PH}:∀{qs:List Query}{vs:List QV}{d:Nat}{es:List (Nat×QV)},iN h qs vs d es->vs.length=qs.length
 |[],vs,d,es,w=>by rw[iN]at w;obtain⟨rfl,_⟩:=w;rfl
 |q::qs,vs,d,es,w=>by
  rw[iN]at w;obtain⟨v,vs',e1,e2,h1,h2,h3,h4,h5⟩:=w;rw[h1,List.length_cons,List.length_cons,iN.len h4]
mutual
theorem rY.of{h:PH}:∀{q:Query}{v:QV},dK h q v->∀d,∃es,rY h q v d es
 |.mk _ _ _ _ _ _ _ _ args,v,hq,d=>by
  obtain⟨_,_,_,_,_,_,_,_,_,vs,h10,h11⟩:=hq;obtain⟨es,he⟩:=iN.of h11 (d+1);exact⟨(d,v)::es,by rw[rY];exact⟨vs,es,h10,he,rfl⟩⟩
theorem iN.of{h:PH}:∀{qs:List Query}{vs:List QV},wL h qs vs->∀d,∃es,iN h qs vs d es
 |[],vs,hq,d=>⟨[],by rw[iN];exact⟨hq,rfl⟩⟩
 |q::qs,vs,hq,d=>by
  obtain⟨v,vs',rfl,h1,h2⟩:=hq;obtain⟨e1,h3⟩:=rY.of h1 d;obtain⟨e2,h4⟩:=iN.of h2 d;exact⟨e1++e2,by rw[iN];exact⟨v,vs',e1,e2,rfl,h1,h3,h4,rfl⟩⟩
end
mutual
def jO:Query->List Int
 |.mk op ta _ _ _ _ _ _ args=>(if op=1 then[ta]else[])++iO args
def iO:List Query->List Int
 |[]=>[]
 |q::qs=>jO q++iO qs
end
def yX(es:List (Nat×QV)):List Int:=(es.filter λe=>e.2.op==1).map λe=>e.2.table
theorem GW{a b:List (Nat×QV)}:yX (a++b)=yX a++yX b:=by simp[yX]
mutual
theorem rY.scans{h:PH}:∀{q:Query}{v:QV}{d:Nat}{es:List (Nat×QV)},dK h q v->rY h q v d es->yX es=jO q
 |.mk op ta _ _ _ _ _ _ args,v,d,es,hq,w=>by
  rw[rY]at w;obtain⟨vs,ess,h1,h2,rfl⟩:=w;obtain⟨h3,h4,_⟩:=hq;rw[jO, <-iN.scans h2,show((d,v)::ess)=[(d,v)]++ess from rfl,GW];congr 1;simp only[yX,List.filter_cons,List.filter_nil,h3];by_cases e:op=1
  .simp[e,h4]
  .simp[e]
theorem iN.scans{h:PH}:∀{qs:List Query}{vs:List QV}{d:Nat}{es:List (Nat×QV)},iN h qs vs d es->yX es=iO qs
 |[],vs,d,es,w=>by rw[iN]at w;rw[w.2];rfl
 |q::qs,vs,d,es,w=>by
  rw[iN]at w;obtain⟨v,vs',e1,e2,h1,h2,h3,h4,rfl⟩:=w;rw[GW,iO,rY.scans h2 h3,iN.scans h4]
end
mutual
theorem rY.small{h:PH}:∀{q:Query}{v:QV}{d:Nat}{es:List (Nat×QV)},rY h q v d es->es.length<=tO q
 |.mk op ta _ _ _ _ _ _ args,v,d,es,w=>by
  rw[rY]at w;obtain⟨vs,ess,h1,h2,rfl⟩:=w;have:=iN.small h2;simp only[List.length_cons,tO];omega
theorem iN.small{h:PH}:∀{qs:List Query}{vs:List QV}{d:Nat}{es:List (Nat×QV)},iN h qs vs d es->es.length<=qV qs
 |[],vs,d,es,w=>by rw[iN]at w;rw[w.2];simp
 |q::qs,vs,d,es,w=>by
  rw[iN]at w;obtain⟨v,vs',e1,e2,h1,h2,h3,h4,rfl⟩:=w;have h5:=rY.small h3;have h6:=iN.small h4;simp only[List.length_append,qV];omega
end
theorem ZA:∀q:Query,1<=tO q
 |.mk _ _ _ _ _ _ _ _ _=>by rw[tO];omega
theorem TY:∀l:List Query,l.length<=qV l
 |[]=>by simp
 |a::l=>by have:=TY l;have:=ZA a;simp only[List.length_cons,qV];omega
theorem Ut:∀{l:List Query}{a:Query},a∈l->tO a<=qV l
 |b::l,a,h=>by
  rw[qV];rcases List.mem_cons.1 h with rfl|h
  .omega
  .have:=Ut h;omega
theorem M1:∀N,Sound Tryz.prog 115 (OC N)
 |0=>by
  refine fA (fn:=Tryz.f115) (c:=cQ Tryz.f115) Tryz.func115 rfl (by decide) ?_;rintro cvs m h K ⟨v,q,d,l,k0,es,xs,J,rfl,_,hN,_⟩;omega
 |N+1=>by
  refine iJ Tryz.func115 ?_;rintro cvs m h K ⟨v,q,d,l,k0,es,xs,J,rfl,hw,hN,hd,hx,h0,hround,hend⟩;refine⟨V6 N v d l,rfl,aD (M1 N) aF,KW N v d l m h K,by kernel_rfl,?_⟩;dsimp only[KW,push_cast];obtain⟨op,ta,w,co,on,gr,od,li,args⟩:=q;rw[rY]at hw;obtain⟨vs,ess,hrow,hws,rfl⟩:=hw;simp only[Query.mk.sizeOf_spec]at hN;rw[tO]at hd;have hvl:=hws.len;have hal:=hrow.len;have hls:=TY args;rw[List.length_map]at hal;refine⟨JK _,l,Zz (d,v),_,rfl,hround k0 (d,v) m h (hx 0 _ rfl) (.refl _) h0,?_⟩;rintro u m' h' ⟨rfl,le',hJ⟩;refine aB (λe=>by cases e) (λ_=>?_);refine⟨λz=>z.1<=args.length/\PH.le h z.2.2/\∃e1 e2,ess=e1++e2/\iN z.2.2 (args.drop z.1) (vs.drop z.1) (d+1) e2/\J (k0+1+e1.length) z.2.1 z.2.2,λz=>args.length-z.1,⟨(0,m',h'),⟨by simp,le',[],ess,rfl,hws.mono le',hJ⟩,MT⟩,?_⟩;rintro⟨i,mz,hz⟩ ⟨hi,lez,e1,e2,hes,hwz,hJz⟩;dsimp only at hi lez hwz hJz⊢
  refine aE (λhlt=>?_) (λhge=>?_)
  .have hil:i<args.length:=by omega
   rw[List.drop_eq_getElem_cons hil,iN]at hwz;obtain⟨v1,vs',e11,e22,hvd,hq1,hw1,hws1,rfl⟩:=hwz
   have hvi:vs[i]? =some v1:=by
    have:(vs.drop i)[0]? =some v1:=by rw[hvd];rfl
    simpa using this
   have hvd':vs'=vs.drop (i+1):=by
    have:(vs.drop i).drop 1=vs':=by rw[hvd];rfl
    rw[<-this,List.drop_drop]
   obtain⟨b,o,ea,rd⟩:=hrow.get (i:=i) (e:=v1.enc) (by rw[List.getElem?_map,hvi];rfl);have hsz:=List.sizeOf_lt_of_mem (List.getElem_mem hil);have hcn:=Ut (List.getElem_mem hil);refine⟨b,o,ea,aC,aC,v1,.imm (rd.mono lez),v1,args[i],d+1,l,k0+1+e1.length,e11,xs,J,by rw[jA aC],hw1,aC,aC,λj e hj=>?_,hJz,λk e m2 h2 hk le2 hJ2=>hround k e m2 h2 hk (lez.trans le2) hJ2,λm2 h2 le2 hJ2=>⟨(i+1,m2,h2),⟨by dsimp only;omega,lez.trans le2,e1++e11,e22,by rw[hes,List.append_assoc],?_,?_⟩,by dsimp only;omega,?_⟩⟩
   .have h5:=(List.getElem?_eq_some_iff.1 hj).1
    have:=hx (1+e1.length+j) e (by
     rw[hes,show 1+e1.length+j=(e1.length+j)+1 by omega,List.getElem?_cons_succ,List.getElem?_append_right aC,show e1.length+j-e1.length=j by omega,List.getElem?_append_left h5];exact hj)
    rw[show k0+1+e1.length+j=k0+(1+e1.length+j)by omega];exact this
   .dsimp only;rw[<-hvd'];exact hws1.mono le2
   .dsimp only;rw[List.length_append,show k0+1+(e1.length+e11.length)=k0+1+e1.length+e11.length by omega];exact hJ2
   .dsimp only;rw[jA aC];exact MT
  .have:i=args.length:=by omega
   subst this;rw[List.drop_of_length_le (Nat.le_refl _),iN]at hwz;obtain⟨_,rfl⟩:=hwz;rw[List.append_nil]at hes;subst hes;exact hend mz hz lez (by rw[List.length_cons,show k0+(ess.length+1)=k0+1+ess.length by omega];exact hJz)
theorem QR:Sound Tryz.prog 114 (X8 Tryz.prog JG):=by
 refine iJ Tryz.func114 ?_;rintro cvs m h K ⟨l,caps,xs,J,rfl,⟨b,v,q,es,rfl,hb,hw,hs,rfl⟩,h0,hround,hend⟩;refine⟨dN [(115,OC (SizeOf.sizeOf q+1))] [] [] [] false,rfl,aD (M1 _) aF,S8 (SizeOf.sizeOf q+1) l b m h K,by kernel_rfl,?_⟩;exact⟨v,.imm hb,v,q,1,l,0,es,es,J,rfl,hw,aC,aC,λj e hj=>by rw[Nat.zero_add];exact hj,h0,λk e m' h' hk le hJ=>hround k (Zz e) m' h' (by rw[List.getElem?_map,hk];rfl) le hJ,λm' h' le hJ=>hend _ m' h' le (by rw[List.length_map];rw[Nat.zero_add]at hJ;exact hJ)⟩
theorem T0:Di Tryz.prog 114 JG:=⟨QR⟩
theorem KD:Sound Tryz.prog 80 OB:=by
 refine Yx Tryz.func80 ?_;rintro cvs m h K ⟨v,rfl,hK⟩;refine⟨dN [] [] [] [] false,rfl,aF,KE v m h (dQ h K),by kernel_rfl,?_⟩;dsimp only[KE,push_cast];intro b m' hun hu _;have sub:Sub m m':=(hZ (Sub.refl m) hun hu).1;refine⟨m,lU h b (QV.enc v),sub,As hun.h_,λb' i v' e=>?_,hK b _ (As hun.h_) T2⟩;by_cases hb:b'=b
 .subst hb;simp only[lU,if_true]at e;exact .inr ⟨_,_,_,hu.at_,by rw[<-Array.getElem?_toList];exact e,hun.m_⟩
 .simp only[lU,if_neg hb]at e;exact .inl e
structure Wk(T E:TypeId)(m mx:MH)(b:Nat)(vs:List Value):Prop where
 ex:∃s:Sl,mx b=some (.cells #[.slice s.a s.len s.cap] T (0,0))/\dW mx s E 1 (vs.map λv=>[v])/\∀i x,s.a=some ⟨x,i,none⟩->m x=none
theorem Wk.new{T E:TypeId}(hb:m' b=some (.cells #[tT] T (0,0))):Wk T E m m' b []:=⟨⟨none,0,0⟩,hb,⟨⟨λe he=>by simp at he,λe he=>by simp at he⟩,.inl ⟨rfl,rfl⟩⟩,λi x e=>by cases e⟩
theorem WD{T E:TypeId}{mx:MH}{s:Sl}{vs:List Value}{e:Value}{Q:MH->Prop}(hmb:∃o,m b=some o)(hs:Ba m mx b)(hb:mx b=some (.cells #[.slice s.a s.len s.cap] T (0,0)))(hrow:dW mx s E 1 (vs.map λv=>[v]))(hfr:∀i x,s.a=some ⟨x,i,none⟩->m x=none)(hQ:∀m',Ba m m' b->Wk T E m m' b (vs++[e])->Q m'):
 ∀(s':Sl)(m':MH),eZ mx m' (Sl.mk s.a s.len s.cap) s' E 1 ((vs.map λv=>[v])++[[e]])->
  ∃(cs:Array Value)(E:TypeId),oX m' b (.cells cs E (0,0))/\0<cs.size/\∀m2:MH,fV m' m2 b (.cells (Array.mk (eR s'::cs.toList.drop 1)) E (0,0))->Q m2:=by
 obtain⟨ob,hmb⟩:=hmb;have hnb:∀i,s.a≠some ⟨b,i,none⟩:=λi e2=>by rw[hfr i b e2]at hmb;cases hmb
 refineλs' m' hg=>⟨_,_,⟨hg.other b _ hb hnb⟩,by simp,λm2 hu=>hQ m2 ?_ ⟨s',hu.at_,?_,?_⟩⟩
 .intro x o hx hne;rw[hu.other x hne];exact hg.other x o (hs x o hx hne) (λi e2=>by have e2:s.a=some ⟨x,i,none⟩:=e2;rw[hfr i x e2]at hx;cases hx)
 .have e1:(vs++[e]).map (λv=>[v])=vs.map (λv=>[v])++[[e]]:=by simp
  rw[e1];refine dW.keep hg.row (λx i e2=>hu.other x (λe3=>?_));subst e3;rcases hg.fresh x i e2 with h1|⟨j,h1⟩
  .rw[hb]at h1;cases h1
  .exact hnb j h1
 .intro i x e2;rcases hg.fresh x i e2 with h1|⟨j,h1⟩
  .cases e4:m x with
   |none=>rfl
   |some o=>
    by_cases e5:x=b
    .subst e5;rw[hb]at h1;cases h1
    .rw[hs x o e4 e5]at h1;cases h1
  .exact hfr j x h1
theorem dQ.rowG{E:TypeId}{hx:PH}{s:Sl}{vs:List Value}(sub:Sub m m')(le:PH.le h hx)(hr:dW m' s E 1 (vs.map λv=>[v]))(hf:∀i b,s.a=some ⟨b,i,none⟩->m b=none)(hK:∀h',PH.le hx h'->cW h' s 1 (vs.map λv=>[v])->K (cS s) m h'):dQ h K (cS s) m' hx:=by
 intro hd;rcases hr.ex with⟨rfl,hx0⟩|⟨b,cap,cur,rfl,hm,h1,h2,h3,h4⟩
 .refine⟨m,hx,sub,le,λb i v e=>.inl e,hK hx (.refl _) ?_⟩;rw[hx0];exact cW.nil _ _
 .have hn:∀i,hx b i=none:=hd b _ hm;refine⟨m,lU hx b cur.toList,sub,le.trans (As hn),λb' i v e=>?_,hK _ (As hn) ⟨?_,?_,?_⟩⟩
  .by_cases hb:b'=b
   .subst hb;simp only[lU,if_true]at e;exact .inr ⟨cur,E,(0,0),hm,by rw[<-Array.getElem?_toList];exact e,hf 0 b' rfl⟩
   .simp only[lU,if_neg hb]at e;exact .inl e
  .simp
  .by_cases hu:vs.map (λv=>[v])=[]
   .exact .inl hu
   .refine .inr ⟨b,0,rfl,λi e hi=>⟨λj v hv=>?_⟩⟩;rw[List.getElem?_map]at hi;cases hu2:vs[i]? with
    |none=>rw[hu2]at hi;cases hi
    |some u=>
     rw[hu2]at hi;simp at hi;subst hi;have hj:j=0:=by have:=(List.getElem?_eq_some_iff.1 hv).1;simp at this;omega
     subst hj;have hv:u=v:=by simpa using hv
     subst hv;have hlt:=(List.getElem?_eq_some_iff.1 hu2).1
     have hfl:∀l:List Value,(l.map λv=>[v]).flatten=l:=λl=>by
      induction l with
      |nil=>rfl
      |cons a l ih=>simp only[List.map_cons,List.flatten_cons,ih];rfl
     rw[hfl]at h4;rw[<-h4,List.getElem?_take,List.length_map,if_pos aC]at hu2;simp only[lU,if_true];rw[show 0+i*1+0=i by omega];exact hu2
  .simpa using h1
def TB:Vc.Spec:=λcvs m h K=>∃v q,cvs=[aQ v]/\dK h q v/\tO q<=900000/\∀s' h',PH.le h h'->Ints h' s' (jO q)->K (cS s') m h'
theorem f57_sound:Sound Tryz.prog 57 TB:=by
 refine Ev Tryz.func57 ?_;rintro cvs m h K ⟨v,q,rfl,hq,hs,hK⟩;refine⟨{wH [(80,OB)] [] [] [] [200003,200005,1033,0] [] false with elemT:=[3,38]},rfl,aD KD aF,f57_nice v m h (dQ h K),by kernel_rfl,?_⟩;show f57_nice v m h (dQ h K);dsimp only[f57_nice,push_cast];intro b m1 hb1 hu1;obtain⟨s1,n1⟩:=hZ (Sub.refl m) hb1 hu1;refine⟨v,rfl,λbw h1 le1 hbw=>?_⟩;obtain⟨es,hw⟩:=rY.of (hq.mono le1) 1;have hes:=hw.small;have hsc:=rY.scans (hq.mono le1) hw;refine⟨JG,es.map λe=>((e.1:Int),e.2),λk mx hx=>hx=h1/\Ba m1 mx b/\Wk 33 3 m1 mx b ((yX (es.take k)).map λn=>.int .i64 n),T0,⟨bw,v,q,es,rfl,hbw,hw,hs,?_⟩,⟨rfl,λx o e _=>e,Wk.new hu1.at_⟩,?_,?_⟩
 .rw[List.map_map];rfl
 .rintro k d e' mx hx hk-⟨rfl,hsx,hout⟩ b2 m2 hb2 hu2;rw[List.getElem?_map]at hk;cases hek:es[k]? with
  |none=>rw[hek]at hk;cases hk
  |some e=>
   rw[hek]at hk;simp only[Option.map_some,Option.some.injEq,Prod.mk.injEq]at hk;obtain⟨rfl,rfl⟩:=hk;refine⟨_,_,⟨hu2.at_⟩,by simp,λm3 hu3=>?_⟩
   have up:∀{z o},mx z=some o->m3 z=some o/\z≠b2:=fun{z o} e2=>by
    have:z≠b2:=λe3=>by rw[e3,hb2.m_]at e2;cases e2
    exact⟨by rw[hu3.other z this,hu2.other z this];exact e2,this⟩
   have m3b:m3 b2=some (.cells ⟨e.2.enc⟩ 38 (0,0)):=hu3.at_;have hs3:Ba m1 m3 b:=λx o e2 hne=>(up (hsx x o e2 hne)).1
   have hout3:Wk 33 3 m1 m3 b ((yX (es.take k)).map λn=>.int .i64 n):=by
    obtain⟨s,h5,h6,h7⟩:=hout.ex;refine⟨s,(up h5).1,dW.keep h6 λz i e3=>?_,h7⟩;obtain⟨cur,h8⟩:=h6.blk e3;rw[h8];exact(up h8).1
   have hsn:yX (es.take (k+1))=yX (es.take k)++(if e.2.op==1 then[e.2.table]else[]):=by
    rw[List.take_add_one,hek,Option.toList_some,GW];congr 1;simp only[yX,List.filter_cons,List.filter_nil];split<;>rfl
   refine⟨e.2.op,.of_m m3b rfl,aB (λh5=>?_) (λh5=>⟨rfl,hs3,by rw[hsn,h5];simpa using hout3⟩)⟩;obtain⟨s,hb5,hrow,hfr⟩:=hout3.ex
   have hlen:(yX (es.take k)).length<=es.length:=by
    simp only[yX,List.length_map];exact Nat.le_trans (List.length_filter_le _ _) (by rw[List.length_take];omega)
   refine⟨s,.of_m hb5 rfl,e.2.table,.of_m m3b rfl,_,hrow,by simp;omega,by simp;omega,WD ⟨_,hu1.at_⟩ hs3 hb5 hrow hfr λm' hs' ho'=>⟨rfl,hs',?_⟩⟩;rw[hsn,h5];simpa using ho'
 .rintro mx hx-⟨rfl,hsx,hout⟩
  rw[List.length_map,List.take_length,hsc]at hout;obtain⟨s,hb5,hrow,hfr⟩:=hout.ex
  have hlen:(jO q).length<=es.length:=by
   rw[<-hsc];simp only[yX,List.length_map];exact List.length_filter_le _ _
  refine⟨s,.of_m hb5 rfl,dQ.rowG (s1.x n1 hsx) le1 hrow (λj z e=>?_) (λh' le hri=>hK s h' (le1.trans le) ⟨by rw[List.map_map]at hri;exact hri,aC⟩)⟩;cases e2:m z with
  |none=>rfl
  |some o=>have e1:=hfr j z e;rw[s1 z o e2]at e1;cases e1
end Go.Ps
