/-
  Part 7 of a proof that a law of the given program returns true: a condition generator that is proved sound, and contracts of functions. No condition of its own. Own work, joined by a program (pack2.py).
-/
import Derived.Test.YtileehgdfcknkaaGreatDoorGf
set_option linter.unusedVariables false
set_option linter.unusedSimpArgs false
namespace Go.Ps
open Go Go.Vc Go.Proofs
variable{K:CV->MH->PH->Prop}{m:MH}{h:PH}{s:nY}{ps:List Int}{cb:Nat}{sc:bR}{v:QV}{q:Query}{p:Pred}{l:List Int}{i:Nat}{N:Nat}{m':MH}{h':PH}{co:List Int}{gr:List Int}{od:List (Int×Bool)}{w:Pred}{ta:Int}{li:Int}{xs:List (List Value)}{sz:Nat}{k:Nat}{ks:List (List Int)}{rs:List Int}{r:Sl}{a:List Int}{b:Nat}
structure Kq(h:PH)(b:Nat)(l:List (List VV)):Prop where
 ex:∃us,DA h b us/\eK h us l
theorem Kq.mono{l:List (List VV)}(x:Kq h b l)(le:PH.le h h'):Kq h' b l:=by
 obtain⟨us,h1,h2⟩:=x.ex;exact⟨us,h1.mono le,h2.mono le⟩
structure Cp(h:PH)(t:Sl)(bs:List Nat)(ls:List (List (List VV))):Prop where
 row:cR h t 1 (bs.map λb=>[Ki b])
 len:bs.length=ls.length
 at_:∀(i b:Nat)(l:List (List VV)),bs[i]? =some b->ls[i]? =some l->Kq h b l
structure gZ(w:Nat)(l:List (List VV)):Prop where
 row:∀r∈l,Nt r
 wid:∀r∈l,r.length=w
 srt:nJ l
 len:l.length<=1000000
def Kd(l:List (List VV))(x:List VV):Bool:=l.any λy=>dT x y==0
theorem C0{l:List (List VV)}{x:List VV}:Kd l x=true↔x∈l:=by
 simp only[Kd,List.any_eq_true,beq_iff_eq,jB];exact⟨λ⟨y,h1,h2⟩=>h2▸h1,λh=>⟨x,h,rfl⟩⟩
def Nu(ok:Query->List (List (List VV))->Prop)(f:Query->List (List (List VV))->List (List VV)):Vc.Spec:=λcvs m h K=>∃v t q bs ls,cvs=[aQ v,cS t]/\dD h q v/\Cp h t bs ls/\jD m/\ok q ls/\
 ∀s' h',PH.le h h'->Rows h' s' (f q ls)->K (cS s') m h'
def Nr:Vc.Spec:=λcvs m h K=>∃t i bs ls w,cvs=[cS t,cB i]/\Cp h t bs ls/\jD m/\2<=ls.length/\(∀l∈ls,gZ w l)/\
 ∀s' h',PH.le h h'->Rows h' s' ((ls.getD 0 []).filter λx=>Kd (ls.getD 1 []) x==i)->K (cS s') m h'
noncomputable def VP:Ctx:=MW [(74,Ws)] [(6,{A:=Nat×Nat×Sl×Sl×List VV×MH×PH,st:=λ⟨i,b,e,c,l,m,h⟩=>cD 40 42 [(5,vv (.pointer (some ⟨b,0,none⟩))),(6,sv e),(7,.at (.lst 17)),(19,sv c),(20,iv c.len),(21,iv i)] [(17,.lst 27 3 (l.map VV.enc))] m h})] [] [200002,200005,1053]
noncomputable abbrev nG(a:Nat):List Value:=iR (wY 147 (Array.mk (iR (P1 a 0))))
abbrev EZ(a:Option Addr)(b c:Int)(d:Sl)(e:MH)(g:Nat->Nat->Option Value)(i:Nat->Nat)(j:Nat->(PH->List Value->List (List Value)->Prop)->Prop):Prop:=bD (λx x1=>aH (bE a x x1) (b<=c) (c<aG d) (∃(x2:Nat),aL e g x (i x1) (nG x2)/\∃(x3:PH->List Value->List (List Value)->Prop),j x2 x3))
abbrev AM(a:Nat->Option Obj)(b:Nat->Nat->Option Value)(c:Sl)(d:Nat->MH->Nat->(PH->List Value->List (List Value)->Prop)->Prop):Prop:=∀(x:Nat)(x1:MH),aR (cH a b x) (bC a x1 x iL 53) (EZ c.a 0 0 c x1 b (λx2=>dP x2) (λx2 x3=>d x x1 x2 x3))
attribute [push_cast] nG EZ AM
def Gx(v:QV)(t:Sl)(m:MH)(h:PH)(K:CV->MH->PH->Prop):Prop:=
  ∀(b:Nat)(m1:MH),aR (cH m h b) (bC m m1 b v.enc 38) (AM m1 h t (λb1 m2 y S=>pI S h y m2 (λx I k e=>fU (λm3 h1=>aR (sJ x k e) (PH.le h h1) (I k m3 h1->∃(y1:PV),aL m3 h1 b 2 y1.enc/\EN (λv1 s p r=>aH (vS y1 e=vS v1 s) (fA h1 p v1) (cC h1 s r) (branch (kQ r p) (∃(y2:Sl),aL m3 h1 b1 0 (aK y2)/\∃(x1:List (List Value)),aH (dH m3 (cV y2) 74 1 x1) (iG x1) (dN x1) (iA (λs1 m4=>eM m3 m4 (cV y2) s1 74 1 (eT x1 (aK e))->fD (λc E=>aA (pH m4 b1 (dY c E 0)) (dU 0 c) (∀(m5:MH),bC m4 m5 b1 (fF (eC s1) 1 c) E->I (k+1) m5 h1))))) (I (k+1) m3 h1)))))) (λm3 h1=>iQ m3 h1 b1 0 (λy1=>K (lY y1) m3 h1))))
noncomputable abbrev tO(a:Nat×Nat×Sl×Sl×List VV×MH×PH):Sl:=a.2.2.2.1
abbrev CU(a b:Nat)(c:Int)(d:List Value)(e:Option Go.Vc.Own):Prop:=cM a b (List.replicate c.toNat d)=e
noncomputable abbrev A3(a:Nat×Nat×Sl×Sl×List VV×MH×PH):List (List Value):=rB a.2.2.2.2.1
noncomputable abbrev xY(a:Nat×Nat×Sl×Sl×List VV×MH×PH):Nat->Nat->Option Value:=a.2.2.2.2.2.2
noncomputable abbrev A4(a:Nat×Nat×Sl×Sl×List VV×MH×PH):Nat->Option Obj:=a.2.2.2.2.2.1
abbrev EH(a b:Sl)(c:Nat->Option Obj)(d:Nat->Nat->Option Value)(e:Nat)(g:(List (List VV))->Prop):Prop:=∃(x:List Sl)(x1:List (List VV)),aA (vL (lY a)=vL (lY b)) (oJ c d b e (eU x)) (aA (eK d x x1) (x1.length<=502633886983) (g x1))
abbrev lN(a:PH)(b:List (List VV))(c:CV->MH->PH->Prop)(d:MH):Prop:=∀(x:Sl)(x1:PH),dE a x1 (Rows x1 x b) (c (lY x) d x1)
attribute [push_cast] tO CU A3 xY A4 EH lN
def Gw(v:QV)(t:Sl)(m:MH)(h:PH)(K:CV->MH->PH->Prop):Prop:=
  ∀(b:Nat)(m1:MH),aR (cH m h b) (bC m m1 b v.enc 38) (AM m1 h t (λb1 m2 y S=>pI S h y m2 (λx I k e=>fU (λm3 h1=>aR (sJ x k e) (PH.le h h1) (I k m3 h1->∃(y1:Sl),aA (aL m3 h1 b 15 (aK y1)) (cG (aG y1)) (aA (aG y1<=aG y1) (sN (aG y1*32)) (sN (aG y1)/\iQ m3 h1 b 15 (λy2=>∃(I1:Nat×Nat×Sl×Sl×List VV×MH×PH->Prop)(m4:Nat×Nat×Sl×Sl×List VV×MH×PH->Nat),(∃(x1:Nat×Nat×Sl×Sl×List VV×MH×PH),aA (I1 x1) (cY b1 x1.2.1) (aA (bI e x1.2.2.1) (eL 17) (aA (bI y2 (tO x1)) (bP y2 (tO x1)) (aA (aZ x1.1) (CU 27 3 (aG y1) tN (cM 27 3 (A3 x1))) (bT (bG m3 x1.2.2.2.2.2) h1 (xY x1))))))/\∀(x1:Nat×Nat×Sl×Sl×List VV×MH×PH),I1 x1->aW (↑x1.1:Int) (aG (tO x1))
 (bD (λb2 o=>aH (bE (tO x1).a b2 o) (0<=(↑x1.1:Int)) ((↑x1.1:Int)<aG (tO x1)) (∃(y3:Int),aL (A4 x1) (xY x1) b2 (bF o x1.1 1) (bW y3)/\bD (λb3 o1=>aH (bE x1.2.2.1.a b3 o1) (0<=y3) (y3<aG x1.2.2.1) (∃(y4:VV),aH (aL (A4 x1) (xY x1) b3 (fJ o1 y3 3) y4.enc) (0<=(↑x1.1:Int)) ((↑x1.1:Int)<j9 (A3 x1)) (∃(e1:List Value),aA (tX (A3 x1) (pU x1.1) e1) (3<=e1.length) (∃(x2:Nat×Nat×Sl×Sl×List VV×MH×PH),aA (I1 x2) (m4 x2<m4 x1) (aA (cY x1.2.1 x2.2.1) (bI x1.2.2.1 x2.2.2.1) (aA (eL 17) (bI (tO x1) (tO x2)) (aA (bP (tO x1) (tO x2)) (fV (bB x1.1 1)=bM x2.1) (aH (cM 27 3 (List.set (A3 x1) (pU x1.1) (aT (eN y4.kind) (eN y4.int) (Value.string y4.text::List.drop 3 e1)))=cM 27 3
 (A3 x2)) (bG (A4 x1) x2.2.2.2.2.2) (xY x1=xY x2) True))))))))))) (iQ (A4 x1) (xY x1) x1.2.1 0 (λy3=>bV (xY x1) 3 (A3 x1) (λs h2=>∃(x2:List (List Value)),aH (dH (A4 x1) (cV y3) 74 1 x2) (iG x2) (dN x2) (iA (λs1 m5=>eM (A4 x1) m5 (cV y3) s1 74 1 (eT x2 (aK s))->fD (λc E=>aA (pH m5 x1.2.1 (dY c E 0)) (dU 0 c) (∀(m6:MH),bC m5 m6 x1.2.1 (fF (eC s1) 1 c) E->I (k+1) m6 h2))))))))))))) (λm3 h1=>iQ m3 h1 b1 0 (λy1=>∃(s:Sl),EH y1 s m3 h1 1 (λl=>lN h1 (wN l) K m3)))))
def Gt(v:QV)(t:Sl)(m:MH)(h:PH)(K:CV->MH->PH->Prop):Prop:=
  bD (λb o=>aH (bE t.a b o) ((0:Int)<=0) (0<aG t) (∃(y:Nat),aL m h b (dP o) (nG y)/\bD (λb1 o1=>aH (bE t.a b1 o1) ((0:Int)<=1) (1<aG t) (∃(y1:Nat),aA (aL m h b1 (o1+1) (nG y1)) (aX h b1 (o1+1) (nG y1)) (I7 (λb2 v1=>aA (fT (oB y) (oB b2)) (DA h b2 v1) (∀(s:Sl),EB s 1 v1 (λm1 x o2=>m x=Option.some o2->m1 x=Option.some o2) (λx=>A5 m x) (λm1=>aX h b (dP o) (nG y)/\∃(s1:Sl),I7 (λb3 u=>∃(v2:List Sl),aA (gL s (oB y1)=gL s1 (oB b3)) (dH m1 s1 74 1 (eU u)) (aA (DA h b3 v2) (u.length<=502633886983) (∀(s2:Sl),EB s2 1 (u++v2) (λm2 x o2=>aR (m1 x=Option.some o2) (∀(i:Nat),jO (bE s1.a x i)) (m2 x=Option.some o2)) (λx=>A5 m1 x\/∃(i:Nat),
 bE s1.a x i) (λm2=>aA (aX h b (dP o) (nG y)) (aX h b1 (o1+1) (nG y1)) (∃(s3:Sl),EH s2 s3 m2 h 1 (λl=>lN h (wN l) K m2))))))))))))))
noncomputable abbrev DN:Value:=Value.map Option.none
abbrev cK(a:MH)(b:PH)(c d:Nat):Prop:=aL a b c 0 (iR (Br d))
abbrev kX(a:MH)(b:PH)(c d:Nat)(e:Prop):Prop:=aL a b c 0 (iR (Br d))/\e
noncomputable abbrev Bq(a:List VV):Value:=Value.string (cT a)
abbrev sO(a b:Prop)(c:(List (Value×Value))->Prop):Prop:=aA a b (∀(x:List (Value×Value)),c x)
attribute [push_cast] DN cK kX Bq sO
def Gp(t:Sl)(i:Bool)(m:MH)(h:PH)(K:CV->MH->PH->Prop):Prop:=
  ∀(b:Nat)(m1:MH),aR (cH m h b) (bC m m1 b (iR (Value.bool i)) 4) (AW m1 h 0 (λb1 m2=>∀(b2:Nat)(m3:MH),aR (cH m2 h b2) (bC m2 m3 b2 (iR DN) 177) (fD (λc E=>aA (pH m3 b2 (dY c E 0)) (dU 0 c) (∀(m4:MH),bC m3 m4 b2 (fF (Br b1) 1 c) E->EZ t.a 0 1 t m4 h (λo=>o+1) (λy S=>pI S h y m4 (λx I k e=>fU (λm5 h1=>aR (sJ x k e) (PH.le h h1) (I k m5 h1->∃(y1:Nat),aA (cK m5 h1 b2 y1) (cK m5 h1 b2 y1) (kP (λs r=>aA (vL (lY e)=vL (lY s)) (cC h1 s r) (aA (Nt r) (jD m5) (kX m5 h1 b2 y1 (uX (λk1 O=>aA (jZ m5 y1 k1) (pT O) (aA (O (Bq r)) (mD (Instr.sameBits 10000 (Bq r) (Bq r))) (sO (∀(e1:Value×Value),uR e1 k1 O) ((∀(e1:Value×Value),aR (List.Mem e1 k1) (e1.1=Bq r) False)->∀
 (m6:MH),aR (iX m5 m6 y1) (jZ m6 y1 (k1++uV (Bq r) zF)) (I (k+1) m6 h1)) (λl=>∀(v:Value)(l1:List (Value×Value)),k1=l++kO (Bq r) v l1->∀(m6:MH),aR (iX m5 m6 y1) (jZ m6 y1 (l++kO (Bq r) zF l1)) (I (k+1) m6 h1))))))))))))) (λm5 h1=>AM m5 h1 t (λb3 m6 y1 S1=>pI S1 h1 y1 m6 (λx I k e=>fU (λm7 h2=>aR (sJ x k e) (PH.le h1 h2) (I k m7 h2->∃(y2:Nat),kX m7 h2 b2 y2 (∃(y3:Bool),aH (aL m7 h2 b 0 (iR (Value.bool y3))) (cK m7 h2 b2 y2) (aL m7 h2 b 0 (iR (Value.bool y3))) (kP (λs r=>aA (vL (lY e)=vL (lY s)) (cC h2 s r) (aA (Nt r) (jD m7) (aH (cK m7 h2 b2 y2) (aL m7 h2 b 0 (iR (Value.bool y3))) (aL m7 h2 b 0 (iR (Value.bool y3))) (∃(k1:List (Value×Bool))(O:Value->Prop),aA (y8 m7 y2 (List.map (fun(p:
 Value×Bool)=>(p.1,Value.bool p.2)) k1)) (pT O) (aA (O (Bq r)) (∀(e1:Value×Bool),List.Mem e1 k1->O e1.1) (gP (∀(e1:Value×Bool),aR (List.Mem e1 k1) (e1.1=Bq r) False) (false==y3) (∃(y4:Sl),aL m7 h2 b3 0 (aK y4)/\∃(x1:List (List Value)),aH (dH m7 (cV y4) 74 1 x1) (iG x1) (dN x1) (iA (λs1 m8=>eM m7 m8 (cV y4) s1 74 1 (eT x1 (aK e))->fD (λc1 E1=>aA (pH m8 b3 (dY c1 E1 0)) (dU 0 c1) (∀(m9:MH),bC m8 m9 b3 (fF (eC s1) 1 c1) E1->I (k+1) m9 h2))))) (I (k+1) m7 h2)/\∀(y4:Bool),gP (List.Mem (Bq r,y4) k1) (y4==y3) (∃(y5:Sl),aL m7 h2 b3 0 (aK y5)/\∃(x1:List (List Value)),aH (dH m7 (cV y5) 74 1 x1) (iG x1) (dN x1) (iA (λs1 m8=>eM m7 m8 (cV y5) s1 74 1 (eT x1 (aK e))->fD (λc1 E1=>aA
 (pH m8 b3 (dY c1 E1 0)) (dU 0 c1) (∀(m9:MH),bC m8 m9 b3 (fF (eC s1) 1 c1) E1->I (k+1) m9 h2))))) (I (k+1) m7 h2)))))))))))) (λm7 h2=>iQ m7 h2 b3 0 (λy2=>K (lY y2) m7 h2))))))))))
abbrev Mz(a:(List Nat)->(List (List (List VV)))->Prop):Prop:=∃(x:List Nat)(x1:List (List (List VV))),a x x1
attribute [push_cast] Mz
def Uv(v:QV)(t:Sl)(m:MH)(h:PH)(K:CV->MH->PH->Prop):Prop:=
  ∃(t1:Sl)(i:Bool),Mz (λb l=>∃(w:Nat),aA (gL t aU=gL t1 (zR i)) (Cp h t1 b l) (aA (jD m) (2<=l.length) ((∀(l1:List (List VV)),List.Mem l1 l->gZ w l1)/\lN h (List.filter (fun(x:List VV)=>Kd (List.getD l 1 []) x==i) (List.getD l 0 [])) K m)))
def Uu(v:QV)(t:Sl)(m:MH)(h:PH)(K:CV->MH->PH->Prop):Prop:=
  ∃(t1:Sl)(i:Bool),Mz (λb l=>∃(w:Nat),aA (gL t fK=gL t1 (zR i)) (Cp h t1 b l) (aA (jD m) (2<=l.length) ((∀(l1:List (List VV)),List.Mem l1 l->gZ w l1)/\lN h (List.filter (fun(x:List VV)=>Kd (List.getD l 1 []) x==i) (List.getD l 0 [])) K m)))
abbrev CF(a b:Sl)(c:PH)(d e:(List VV)->(List Int)->Prop):Prop:=j3 (λx x1=>∃(x2:List VV)(x3:List Int),aA (gJ a b=gJ x x1) (cC c x x2) (aA (Ints c x1 x3) (d x2 x3) (e x2 x3)))
noncomputable abbrev bY(a:List VV)(b:List Int):Value:=Bq (pick a b)
abbrev ED(a b:Sl)(c:PH)(d:MH)(e:Prop)(g i:(List VV)->(List Int)->Prop):Prop:=j3 (λx x1=>∃(x2:List VV)(x3:List Int),aA (gJ a b=gJ x x1) (cC c x x2) (aA (Ints c x1 x3) (Nt x2) (aA (gX x2.length x3) (jD d) (aA e (g x2 x3) (i x2 x3)))))
attribute [push_cast] CF bY ED
def Gu(v:QV)(t:Sl)(m:MH)(h:PH)(K:CV->MH->PH->Prop):Prop:=
  I9 (λs o=>aA (tY v.on s) (lK h s o) (∀(a b:Sl)(h1:PH),dE h h1 (Ints h1 a (j4 o)) (Ints h1 b (gA o)->∀(b1:Nat)(m1:MH),aR (cH m h1 b1) (bC m m1 b1 iL 33) (∀(b2:Nat)(m2:MH),aR (cH m1 h1 b2) (bC m1 m2 b2 iL 33) (fD (λc E=>aA (pH m2 b1 (dY c E 0)) (dU 0 c) (∀(m3:MH),bC m2 m3 b1 (fF (eC a) 1 c) E->fD (λc1 E1=>aA (pH m3 b2 (dY c1 E1 0)) (dU 0 c1) (∀(m4:MH),bC m3 m4 b2 (fF (eC b) 1 c1) E1->AW m4 h1 0 (λb3 m5=>∀(b4:Nat)(m6:MH),aR (cH m5 h1 b4) (bC m5 m6 b4 (iR DN) 177) (fD (λc2 E2=>aA (pH m6 b4 (dY c2 E2 0)) (dU 0 c2) (∀(m7:MH),bC m6 m7 b4 (fF (Br b3) 1 c2) E2->EZ t.a 0 1 t m7 h1 (λo1=>o1+1) (λy S=>pI S h1 y m7 (λx I k e=>fU (λm8 h2=>aR (sJ
 x k e) (PH.le h1 h2) (I k m8 h2->∃(y1:Nat),kX m8 h2 b4 y1 (∃(y2:Sl),aA (aL m8 h2 b2 0 (aK y2)) (cK m8 h2 b4 y1) (CF e y2 h2 (λr _=>Nt r) (λr c3=>aH (gX r.length c3) (jD m8) (cK m8 h2 b4 y1) (uX (λk1 O=>aA (jZ m8 y1 k1) (pT O) (aA (O (bY r c3)) (mD (Instr.sameBits 10000 (bY r c3) (bY r c3))) (sO (∀(e1:Value×Value),uR e1 k1 O) ((∀(e1:Value×Value),aR (List.Mem e1 k1) (e1.1=bY r c3) False)->∀(m9:MH),aR (iX m8 m9 y1) (jZ m9 y1 (k1++uV (bY r c3) zF)) (I (k+1) m9 h2)) (λl=>∀(v1:Value)(l1:List (Value×Value)),k1=l++kO (bY r c3) v1 l1->∀(m9:MH),aR (iX m8 m9 y1) (jZ m9 y1 (l++kO (bY r c3) zF l1)) (I (k+1) m9 h2)))))))))))) (λm8 h2=>AM m8 h2 t (λb5 m9 y1 S1=>pI S1 h2 y1 m9 (λx
 I k e=>fU (λa1 h3=>aR (sJ x k e) (PH.le h2 h3) (I k a1 h3->∃(y2:Nat),kX a1 h3 b4 y2 (∃(y3:Sl),aA (aL a1 h3 b1 0 (aK y3)) (cK a1 h3 b4 y2) (ED e y3 h3 a1 (cK a1 h3 b4 y2) (λ_ _=>aL a1 h3 b1 0 (aK y3)) (λr c3=>HZ a1 y2 (λO=>O (bY r c3)) (λk1 e1=>aR (List.Mem e1 k1) (e1.1=bY r c3) False) (I (k+1) a1 h3) (bY r c3) (∃(y4:Sl),aL a1 h3 b5 0 (aK y4)/\∃(x1:List (List Value)),aH (dH a1 (cV y4) 74 1 x1) (iG x1) (dN x1) (iA (λs1 a2=>eM a1 a2 (cV y4) s1 74 1 (eT x1 (aK e))->fD (λc4 E3=>aA (pH a2 b5 (dY c4 E3 0)) (dU 0 c4) (∀(a3:MH),bC a2 a3 b5 (fF (eC s1) 1 c4) E3->I (k+1) a3 h3))))))))))) (λa1 h3=>iQ a1 h3 b5 0 (λy2=>K (lY y2) a1 h3))))))))))))))))))
def Ai(m mx:MH)(b:Nat):Prop:=∀x o,m x=some o->x≠b->mx x=some o
structure lZ(m mx:MH)(b:Nat)(us:List Sl):Prop where
 ex:∃s:Sl,mx b=some (.cells #[.slice s.a s.len s.cap] 53 (0,0))/\dH mx s 74 1 (us.map eS)/\∀i x,s.a=some ⟨x,i,none⟩->m x=none
theorem lZ.new(hb:m' b=some (.cells #[uE] 53 (0,0))):lZ m m' b []:=⟨⟨none,0,0⟩,hb,⟨zW [],.inl ⟨rfl,rfl⟩⟩,λi x e=>by cases e⟩
theorem Eo{mx:MH}{s:Sl}{us:List Sl}{e:Sl}{Q:MH->Prop}(hmb:∃o,m b=some o)(hs:Ai m mx b)(hb:mx b=some (.cells #[.slice s.a s.len s.cap] 53 (0,0)))(hrow:dH mx s 74 1 (us.map eS))(hfr:∀i x,s.a=some ⟨x,i,none⟩->m x=none)(hl:us.length<=502633886983)(hQ:∀m',Ai m m' b->lZ m m' b (us++[e])->Q m'):
 ∃xs:List (List Value),dH mx (Sl.mk s.a s.len s.cap) 74 1 xs/\(xs.length+1)*24<=140737488355328/\xs.length<140737488355328/\∀(s':Sl)(m':MH),eM mx m' (Sl.mk s.a s.len s.cap) s' 74 1 (xs++[[eC e]])->
  ∃(cs:Array Value)(E:TypeId),pH m' b (.cells cs E (0,0))/\0<cs.size/\∀m2:MH,jQ m' m2 b (.cells (Array.mk (eC s'::cs.toList.drop 1)) E (0,0))->Q m2:=by
 obtain⟨ob,hmb⟩:=hmb;have hnb:∀i,s.a≠some ⟨b,i,none⟩:=λi e2=>by rw[hfr i b e2]at hmb;cases hmb
 refine⟨us.map eS,hrow,by rw[List.length_map];omega,by rw[List.length_map];omega,λs' m' hg=>⟨_,_,⟨hg.other b _ hb hnb⟩,by simp,λm2 hu=>hQ m2 ?_ ⟨s',hu.at_,?_,?_⟩⟩⟩
 .intro x o hx hne;rw[hu.other x hne];exact hg.other x o (hs x o hx hne) (λi e2=>by have e2:s.a=some ⟨x,i,none⟩:=e2;rw[hfr i x e2]at hx;cases hx)
 .have e1:(us++[e]).map eS=us.map eS++[[eC e]]:=by simp[eS]
  rw[e1];refine dH.keep hg.row (λx i e2=>hu.other x (λe3=>?_));subst e3;rcases hg.fresh x i e2 with h1|⟨j,h1⟩
  .rw[hb]at h1;cases h1
  .exact hnb j h1
 .intro i x e2;rcases hg.fresh x i e2 with h1|⟨j,h1⟩
  .cases e4:m x with
   |none=>rfl
   |some o=>
    by_cases e5:x=b
    .subst e5;rw[hb]at h1;cases h1
    .rw[hs x o e4 e5]at h1;cases h1
  .exact hfr j x h1
theorem lZ.app{mx:MH}{hx:PH}{us:List Sl}{e:Sl}{Q:MH->Prop}(hmb:∃o,m b=some o)(hs:Ai m mx b)(o:lZ m mx b us)(hl:us.length<=502633886983)(hQ:∀m',Ai m m' b->lZ m m' b (us++[e])->Q m'):
 ∃y:Sl,aL mx hx b 0 [eC y]/\∃xs:List (List Value),dH mx (Sl.mk y.a y.len y.cap) 74 1 xs/\(xs.length+1)*24<=140737488355328/\xs.length<140737488355328/\∀(s':Sl)(m':MH),eM mx m' (Sl.mk y.a y.len y.cap) s' 74 1 (xs++[[eC e]])->
  ∃(cs:Array Value)(E:TypeId),pH m' b (.cells cs E (0,0))/\0<cs.size/\∀m2:MH,jQ m' m2 b (.cells (Array.mk (eC s'::cs.toList.drop 1)) E (0,0))->Q m2:=by
 obtain⟨s,hb,hrow,hfr⟩:=o.ex;exact⟨s,.of_m hb rfl,Eo hmb hs hb hrow hfr hl hQ⟩
theorem dJ.sub{hx:PH}{r:CV}(sub:Sub m m')(le:PH.le h hx)(hK:K r m hx):dJ h K r m' hx:=λ_=>⟨m,hx,sub,le,λ_ _ _ e=>.inl e,hK⟩
theorem dJ.row{hx:PH}{s:Sl}{us:List Sl}(sub:Sub m m')(le:PH.le h hx)(hr:dH m' s 74 1 (us.map eS))(hf:∀i b,s.a=some ⟨b,i,none⟩->m b=none)(hK:∀h',PH.le hx h'->cR h' s 1 (us.map eS)->K (cS s) m h'):dJ h K (cS s) m' hx:=by
 intro hd;rcases hr.ex with⟨rfl,hx0⟩|⟨b,cap,cur,rfl,hm,h1,h2,h3,h4⟩
 .refine⟨m,hx,sub,le,λb i v e=>.inl e,hK hx (.refl _) ?_⟩;rw[hx0];exact cR.nil _ _
 .have hn:∀i,hx b i=none:=hd b _ hm;refine⟨m,lA hx b cur.toList,sub,le.trans (yQ hn),λb' i v e=>?_,hK _ (yQ hn) ⟨?_,?_,?_⟩⟩
  .by_cases hb:b'=b
   .subst hb;simp only[lA,if_true]at e;exact .inr ⟨cur,74,(0,0),hm,by rw[<-Array.getElem?_toList];exact e,hf 0 b' rfl⟩
   .simp only[lA,if_neg hb]at e;exact .inl e
  .simp
  .by_cases hu:us.map eS=[]
   .exact .inl hu
   .refine .inr ⟨b,0,rfl,λi e hi=>⟨λj v hv=>?_⟩⟩;have hel:=hr.rows.len e (List.mem_of_getElem? hi);have hj:j=0:=by have:=(List.getElem?_eq_some_iff.1 hv).1;omega
    subst hj;have hlt:=(List.getElem?_eq_some_iff.1 hi).1
    have h5:((us.map eS).flatten)[i]? =some v:=by
     rw[List.getElem?_map]at hi;cases hu2:us[i]? with
     |none=>rw[hu2]at hi;cases hi
     |some u=>
      rw[hu2]at hi;simp at hi;subst hi;simp[eS]at hv;subst hv
      have:∀l:List Sl,(l.map eS).flatten=l.map λu=>Value.slice u.a u.len u.cap:=λl=>by
       induction l with
       |nil=>rfl
       |cons a l ih=>simp only[List.map_cons,List.flatten_cons,ih];rfl
      rw[this,List.getElem?_map,hu2];rfl
    rw[<-h4,List.getElem?_take,if_pos aC]at h5;simp only[lA,if_true];rw[show 0+i*1+0=i by omega];exact h5
  .exact h1
structure nW(m:MH)(y:Nat)(ks:List ByteArray):Prop where
 ex:∃kk:List ByteArray,jZ m y (kk.map λk=>(Value.string k,Value.bool true))/\∀k,k∈kk↔k∈ks
theorem nW.keep{y:Nat}{ks:List ByteArray}(s:nW m y ks)(hk:m' y=m y):nW m' y ks:=by
 obtain⟨kk,⟨es,c,h1,h2,h3,h4⟩,h5⟩:=s.ex;exact⟨kk,⟨es,c,by rw[hk];exact h1,h2,h3,h4⟩,h5⟩
theorem nW.new{y:Nat}(h:m y=some (.map #[] 0)):nW m y []:=⟨[],⟨#[],0,h,rfl,by simp,by simp⟩,by simp⟩
theorem nW.get{y:Nat}{ks:List ByteArray}{key:ByteArray}{K:Bool->Prop}(s:nW m y ks)(hK:∀t:Bool,(t=true↔key∈ks)->K t):
 ∃(kvs:List (Value×Bool))(Ok:Value->Prop),y8 m y (kvs.map λp=>(p.1,Value.bool p.2))/\KeyLaw Tryz.prog 9 Ok/\Ok (.string key)/\(∀e,List.Mem e kvs->Ok e.1)/\((∀e,List.Mem e kvs->e.1=Value.string key->False)->K false)/\∀t,List.Mem (Value.string key,t) kvs->K t:=by
 obtain⟨kk,⟨es,c,h1,h2,_,_⟩,h5⟩:=s.ex;refine⟨kk.map λk=>(Value.string k,true),_,⟨es,c,h1,by rw[h2];simp⟩,Ar,⟨key,rfl⟩,λe he=>?_,λhn=>hK false ⟨λe=>(by cases e),λhk=>?_⟩,λt ht=>hK t ⟨λ_=>?_,λ_=>?_⟩⟩
 .obtain⟨k,_,rfl⟩:=List.mem_map.1 (show e∈_ from he);exact⟨k,rfl⟩
 .exact(hn (Value.string key,true) (List.mem_map.2 (⟨key,(h5 key).2 hk,rfl⟩:∃a,a∈kk/\(Value.string a,true)=(Value.string key,true))) rfl).elim
 .obtain⟨k,hk,e⟩:=List.mem_map.1 (show(Value.string key,t)∈_ from ht);simp only[Prod.mk.injEq,Value.string.injEq]at e;rw[<-e.1];exact(h5 k).1 hk
 .obtain⟨k,hk,e⟩:=List.mem_map.1 (show(Value.string key,t)∈_ from ht);simp only[Prod.mk.injEq]at e;exact e.2.symm
theorem NQ(key:ByteArray):Instr.sameBits 10000 (Value.string key) (Value.string key)=true:=by
 show(key==key)=true;cases key with
 |mk d=>exact beq_self_eq_true d
theorem nW.put{y:Nat}{ks:List ByteArray}{key:ByteArray}{Q:MH->Prop}(s:nW m y ks)(hQ:∀m':MH,iX m m' y->nW m' y (key::ks)->Q m'):
 ∃(kvs:List (Value×Value))(Ok:Value->Prop),jZ m y kvs/\KeyLaw Tryz.prog 9 Ok/\Ok (.string key)/\Instr.sameBits 10000 (Value.string key) (Value.string key)=true/\(∀e,List.Mem e kvs->Ok e.1)/\((∀e,List.Mem e kvs->e.1=Value.string key->False)->∀m':MH,iX m m' y->jZ m' y (kvs++[(Value.string key,Value.bool true)])->Q m')/\
  ∀(l1:List (Value×Value))(v0:Value)(l2:List (Value×Value)),kvs=l1++(Value.string key,v0)::l2->∀m':MH,iX m m' y->jZ m' y (l1++(Value.string key,Value.bool true)::l2)->Q m':=by
 obtain⟨kk,hm,h5⟩:=s.ex;refine⟨_,_,hm,Ar,⟨key,rfl⟩,NQ key,λe he=>?_,λhn m' hs hm'=>hQ m' hs ⟨kk++[key],by simpa using hm',λk=>?_⟩,λl1 v0 l2 e m' hs hm'=>hQ m' hs ⟨kk,?_,λk=>?_⟩⟩
 .obtain⟨k,_,rfl⟩:=List.mem_map.1 (show e∈_ from he);exact⟨k,rfl⟩
 .simp[h5,or_comm]
 .have:(Value.string key,v0)∈kk.map λk=>(Value.string k,Value.bool true):=by rw[e];simp
  obtain⟨k,_,e2⟩:=List.mem_map.1 this;simp only[Prod.mk.injEq]at e2;rw[<-e2.2]at e;rw[e];exact hm'
 .have:(Value.string key,v0)∈kk.map λk=>(Value.string k,Value.bool true):=by rw[e];simp
  obtain⟨k2,hk2,e2⟩:=List.mem_map.1 this;simp only[Prod.mk.injEq,Value.string.injEq]at e2;rw[h5];constructor
  .exact List.mem_cons_of_mem _
  .intro h;rcases List.mem_cons.1 h with rfl|h
   .rw[<-e2.1];exact(h5 k2).1 hk2
   .exact h
theorem Cp.get{t:Sl}{bs:List Nat}{ls:List (List (List VV))}(a:Cp h t bs ls){l:List (List VV)}(hl:ls[i]? =some l):∃b off x,t.a=some ⟨b,off,none⟩/\(i:Int)<(t.len:Int)/\aX h b (off+i) [Ki x]/\Kq h x l:=by
 have hi:=(List.getElem?_eq_some_iff.1 hl).1;have hb:bs[i]? =some (bs[i]'(by rw[a.len];exact hi)):=List.getElem?_eq_getElem _;obtain⟨b,o,e,rd⟩:=a.row.get (i:=i) (e:=[Ki (bs[i]'(by rw[a.len];exact hi))]) (by simp[hb]);have hlen:=a.row.len;simp only[List.length_map]at hlen;have:=a.len;exact⟨b,o,_,e,aC,by simpa using rd,a.at_ i _ l hb hl⟩
theorem eK.at'{us:List Sl}{rs:List (List VV)}(x:eK h us rs){u:Sl}(hu:us[i]? =some u):∃r,rs[i]? =some r/\cC h u r:=by
 have hi:=(List.getElem?_eq_some_iff.1 hu).1;obtain⟨v,h1,h2⟩:=x.at_ i _ (List.getElem?_eq_getElem (by rw[<-x.len];exact hi));rw[hu]at h1;cases h1;exact⟨_,List.getElem?_eq_getElem (by rw[<-x.len];exact hi),h2⟩
theorem iV{α:Type}{l:List α}{x:α}(p:α->Bool)(hx:l[k]? =some x):(l.take (k+1)).filter p=(l.take k).filter p++(if p x then[x]else[]):=by
 rw[List.take_add_one,hx,Option.toList_some,List.filter_append];congr 1;cases e:p x<;>simp[e]
theorem Sub.x{m1 mx:MH}(h:Sub m m1)(hb:m b=none)(hx:Ai m1 mx b):Sub m mx:=λx o hxo=>hx x o (h x o hxo) (λe=>by rw[e,hb]at hxo;cases hxo)
def Dt(n:Nat):Query->List (List (List VV))->Prop:=λ_ ls=>n<=ls.length/\∀l∈ls,∃w,gZ w l
def Fb(q:Query)(ls:List (List (List VV))):List (List VV):=match q with|.mk _ _ w _ _ _ _ _ _=>(ls.getD 0 []).filter λr=>kQ r w
theorem By{ls:List (List (List VV))}{i:Nat}(h:i<ls.length):ls[i]? =some (ls.getD i []):=by
 rw[List.getD_eq_getElem?_getD,List.getElem?_eq_getElem h];rfl
theorem Dz{f:FuncId}{fn:Func}(hf:Tryz.prog.funcs[f]? =some fn){S:Vc.Spec}(hvc:∀cvs m h K,S cvs m h K->∃C:Ctx,C.P=Tryz.prog/\(∀g S,assoc C.specs g=some S->Sound Tryz.prog g S)/\∃N:Prop,N=Sw C fn (dO fn) (entry fn.ntmps cvs m h) (dJ h K)/\N)(hb:fn.body=some (dO fn):=by rfl)(hname:(fn.name== "runtime.NumGoroutine")=false:=by decide):Sound Tryz.prog f S:=Qo hf hb hname λcvs m h K hS=>let⟨C,hC,hs,N,e,hn⟩:=hvc cvs m h K hS;⟨C,hC,hs,e▸hn⟩
theorem Q9:Sound Tryz.prog 148 (Nu (Dt 1) Fb):=by
 refine Dz Tryz.func148 ?_;rintro cvs m h K ⟨v,t,q,bs,ls,rfl,hq,ha,_,hok,hK⟩;refine⟨MW [(183,WJ)] [] [] [200002,200005,1053],rfl,aD QU aF,Gx v t m h (dJ h K),by kernel_rfl,?_⟩;show Gx v t m h (dJ h K);dsimp only[Gx,push_cast];intro b m1 hb1 hu1 b2 m2 hb2 hu2;have hsub1:Sub m m1:=(Sub.refl m).upd hb1.m_ hu1.other
 have hn2:m b2=none:=by
  cases e:m b2 with
  |none=>rfl
  |some o=>have e1:=hsub1 b2 o e;rw[hb2.m_]at e1;cases e1
 have hsub2:Sub m m2:=hsub1.upd hn2 hu2.other;have hne:b≠b2:=λe=>by have:=hb2.m_;rw[<-e,hu1.at_]at this;cases this
 obtain⟨b3,off,x,ea,hlt,rd,sq⟩:=ha.get (By (i:=0) (by have:=hok.1;omega));obtain⟨us,hseq,hru⟩:=sq.ex;obtain⟨op,ta,w,co,on,gr,od,li,args⟩:=q;have xq:=hq.parts;obtain⟨wd,hrel⟩:=hok.2 _ (List.mem_of_getElem? (By (i:=0) (by have:=hok.1;omega)));simp only[Fb]at hK;generalize ls.getD 0 []=l at hseq hru hK hrel sq;have hul:=hru.len;have hll:=hrel.len;refine⟨b3,off,ea,aC,aC,x,.imm rd,sT,us,λk mx hx=>hx=h/\Ai m2 mx b2/\∃us2,lZ m2 mx b2 us2/\us2.length<=k/\eK h us2 ((l.take k).filter λr=>kQ r w),rQ,⟨x,us,rfl,hseq,rfl⟩,⟨rfl,λx o e _=>e,[],lZ.new hu2.at_,by simp,by simpa using eK.nil h⟩,?_,?_⟩
 .rintro k e mx hx hk-⟨rfl,hs,us2,hout,hl2,hr2⟩
  obtain⟨r,hr,hv⟩:=hru.at' hk;have hkl:=(List.getElem?_eq_some_iff.1 hk).1;refine⟨v.where_,.of_m (hs b _ (by rw[hu2.other b hne];exact hu1.at_) hne) rfl,v.where_,e,w,r,rfl,xq.where_,hv,aB (λht=>?_) (λhf=>?_)⟩
  .refine lZ.app ⟨_,hu2.at_⟩ hs hout aC (λm' hs' ho'=>⟨rfl,hs',us2++[e],ho',by simp;omega,?_⟩);rw[iV _ hr,if_pos ht];exact hr2.snoc hv
  .refine⟨rfl,hs,us2,hout,aC,?_⟩;rw[iV _ hr,if_neg (by simp[hf]),List.append_nil];exact hr2
 .rintro mx hx-⟨rfl,hs,us2,hout,hl2,hr2⟩
  rw[hul,List.take_length]at hr2;obtain⟨s,hb,hrow,hfr⟩:=hout.ex;refine⟨s,.of_m hb rfl,dJ.row (hsub2.x hn2 hs) (.refl _) hrow (λi y e=>?_) (λh' le hri=>hK s h' le ((hr2.mono le).rows hri (by have:=hr2.len;omega)))⟩;cases e2:m y with
  |none=>rfl
  |some o=>have e1:=hfr i y e;rw[hsub2 y o e2]at e1;cases e1
theorem eK.app{us vs:List Sl}{a b:List (List VV)}(x:eK h us a)(y:eK h vs b):eK h (us++vs) (a++b):=by
 refine⟨by simp[x.len,y.len],λj r hr=>?_⟩;have hl:=x.len;by_cases hj:j<a.length
 .rw[List.getElem?_append_left hj]at hr;obtain⟨u,h1,h2⟩:=x.at_ j r hr;exact⟨u,by rw[List.getElem?_append_left aC];exact h1,h2⟩
 .rw[List.getElem?_append_right aC]at hr;obtain⟨u,h1,h2⟩:=y.at_ _ r hr;exact⟨u,by rw[List.getElem?_append_right aC,hl];exact h1,h2⟩
def L9(_:Query)(ls:List (List (List VV))):List (List VV):=wN (ls.getD 0 []++ls.getD 1 [])
theorem Q5:Sound Tryz.prog 152 (Nu (Dt 2) L9):=by
 refine Fa Tryz.func152 ?_;rintro cvs m h K ⟨v,t,q,bs,ls,rfl,_,ha,_,hok,hK⟩;refine⟨dL [(189,PY),(188,Ns),(74,Ws)] [] [] [] false,rfl,aD QR (aD JB (aD C2 aF)),Gt v t m h (kG h K),by kernel_rfl,?_⟩;show Gt v t m h (kG h K);dsimp only[Gt,push_cast];have h2:=hok.1;obtain⟨b,off,x,ea,hlt,rd,sq⟩:=ha.get (By (i:=0) aC);obtain⟨b',off',x',ea',hlt',rd',sq'⟩:=ha.get (By (i:=1) aC);obtain⟨us,hseq,hru⟩:=sq.ex;obtain⟨us',hseq',hru'⟩:=sq'.ex;obtain⟨_,hrel⟩:=hok.2 _ (List.mem_of_getElem? (By (i:=0) aC));obtain⟨_,hrel'⟩:=hok.2 _ (List.mem_of_getElem? (By (i:=1) aC));have l1:=hrel.len;have l2:=hrel'.len;have l3:=hru.len;refine⟨b,off,ea,aC,aC,x,.imm rd,b',off',ea',aC,aC,x',.imm rd',rd',x,us,rfl,hseq,λs1 m1 hr1 hs1 hf1=>⟨rd,s1,x',us,us',rfl,hr1,hseq',aC,λs2 m2 hr2 hs2 hf2=>⟨rd,rd',s2,us++us',_,rfl,hr2.src,hru.app hru',by rw[List.length_append];omega,λs3 h3 le3 hr3=>?_⟩⟩⟩;refine⟨m,h3,λy o hy=>hs2 y o (hs1 y o hy) (λi e=>?_),le3,.refl _,hK s3 h3 le3 hr3⟩;rw[hf1 y i e]at hy;cases hy
def N1(q:Query)(ls:List (List (List VV))):List (List VV):=match q with|.mk _ _ _ co _ _ _ _ _=>wN ((ls.getD 0 []).map λr=>pick r co)
def IS(q:Query)(ls:List (List (List VV))):Prop:=match q with|.mk _ _ _ co _ _ _ _ _=>1<=ls.length/\co.length<=12/\∃w,gZ w (ls.getD 0 [])/\gX w co
theorem Q8:Sound Tryz.prog 149 (Nu IS N1):=by
 refine Dz Tryz.func149 ?_;rintro cvs m h K ⟨v,t,q,bs,ls,rfl,hq,ha,_,hok,hK⟩;refine⟨VP,rfl,aD C2 aF,Gw v t m h (dJ h K),by kernel_rfl,?_⟩;show Gw v t m h (dJ h K);dsimp only[Gw,push_cast];obtain⟨op,ta,w,co,on,gr,od,li,args⟩:=q;obtain⟨hl1,hco,wd,hrel,hcols⟩:=hok;intro b m1 hb1 hu1 b2 m2 hb2 hu2;have hsub1:Sub m m1:=(Sub.refl m).upd hb1.m_ hu1.other
 have hn2:m b2=none:=by
  cases e:m b2 with
  |none=>rfl
  |some o=>have e1:=hsub1 b2 o e;rw[hb2.m_]at e1;cases e1
 have hsub2:Sub m m2:=hsub1.upd hn2 hu2.other;have hne:b≠b2:=λe=>by have:=hb2.m_;rw[<-e,hu1.at_]at this;cases this
 obtain⟨b3,off,x,ea,hlt,rd,sq⟩:=ha.get (By (i:=0) aC);obtain⟨us,hseq,hru⟩:=sq.ex;have xq:=hq.parts;have hcl:=xq.columns_.slen;simp only[N1]at hK;generalize ls.getD 0 []=l at hseq hru hK hrel sq;have hul:=hru.len;have hll:=hrel.len;refine⟨b3,off,ea,aC,aC,x,.imm rd,sT,us,λk mx hx=>PH.le h hx/\Ai m2 mx b2/\∃us2,lZ m2 mx b2 us2/\us2.length<=k/\eK hx us2 ((l.take k).map λr=>pick r co),rQ,⟨x,us,rfl,hseq,rfl⟩,⟨.refl _,λx o e _=>e,[],lZ.new hu2.at_,by simp,by simpa using eK.nil h⟩,?_,?_⟩
 .rintro k e mx hx hk-⟨le,hs,us2,hout,hl2,hr2⟩
  obtain⟨r,hr,hv⟩:=hru.at' hk;have hkl:=(List.getElem?_eq_some_iff.1 hk).1;have hmq:mx b=some (.cells ⟨v.enc⟩ 38 (0,0)):=hs b _ (by rw[hu2.other b hne];exact hu1.at_) hne;have hrw:=hrel.wid r (List.mem_of_getElem? hr);have hv':=cC.mono hv le;have hvl:=bH.slen hv';have hpl:(pick r co).length=co.length:=by simp[pick]
  refine⟨v.columns,.of_m hmq rfl,aC,aC,aC,aC,v.columns,.of_m hmq rfl,λz=>z.1<=co.length/\z.2.1=b2/\z.2.2.1=e/\z.2.2.2.1=v.columns/\z.2.2.2.2.1=(pick r co).take z.1++List.replicate (co.length-z.1) zeroV/\z.2.2.2.2.2.1=mx/\z.2.2.2.2.2.2=hx,λz=>co.length-z.1,⟨(0,b2,e,v.columns,List.replicate co.length zeroV,mx,hx),⟨by simp,rfl,rfl,rfl,by simp,rfl,rfl⟩,?_⟩,?_⟩
  .dsimp only;rw[List.map_replicate,show((v.columns.len:Int)).toNat=co.length by omega];exact MT
  .rintro⟨i,bb,ee,cc,cells,my,hy⟩ ⟨hi,e1,e2,e3,e4,e5,e6⟩;dsimp only at hi e1 e2 e3 e4 e5 e6;subst e1 e2 e3 e4 e5 e6;refine aE (λhlt2=>?_) (λhge=>?_)
   .dsimp only at hlt2⊢
    obtain⟨c,hci⟩:=eY hcl hlt2;obtain⟨b4,o4,e4,rd4⟩:=(xq.columns_.mono le).at hci;obtain⟨y,hy1,hy2,h0,h1⟩:=Mq (r:=r) (by rw[hrw];exact hcols) hci;obtain⟨b5,o5,y',e5,rd5,rfl⟩:=bH.at hv' hy1;have hil:i<co.length:=by omega
    have hset:((pick r co).take i++List.replicate (co.length-i) zeroV).set i y=(pick r co).take (i+1)++List.replicate (co.length-(i+1)) zeroV:=by
     rw[List.set_append,if_neg (by simp;omega)];rw[List.take_add_one,hy2,Option.toList_some,List.append_assoc];congr 1;rw[show co.length-i=(co.length-(i+1))+1 by omega,List.replicate_succ];simp[hpl,Nat.min_eq_left (Nat.le_of_lt hil)]
    have hcell:(((pick r co).take i++List.replicate (co.length-i) zeroV).map VV.enc)[i]? =some (VV.enc zeroV):=by
     rw[List.getElem?_map,List.getElem?_append_right (by simp;omega),List.getElem?_replicate,if_pos (by simp;omega)];rfl
    refine⟨b4,o4,e4,aC,aC,c,.imm (by simpa using rd4),b5,o5,e5,h0,aC,y,.imm rd5,aC,by simp;omega,_,hcell,by simp[VV.enc],(i+1,bb,ee,v.columns,(pick r co).take (i+1)++List.replicate (co.length-(i+1)) zeroV,my,hy),⟨by dsimp only;omega,rfl,rfl,rfl,rfl,rfl,rfl⟩,(by dsimp only;omega),?_⟩;dsimp only;refine⟨rfl,rfl,rfl,rfl,rfl,by rw[iM aC],?_,rfl,rfl,trivial⟩;rw[<-hset,List.map_set];rfl
   .dsimp only at hge⊢
    have:i=co.length:=by omega
    subst this;rw[List.take_of_length_le aC,Nat.sub_self,List.replicate_zero,List.append_nil];obtain⟨s,hb,hrow,hfr⟩:=hout.ex;refine⟨s,.of_m hb rfl,λs3 h3 le3 hr3=>Eo ⟨_,hu2.at_⟩ hs hb hrow hfr aC (λm' hs' ho'=>⟨le.trans le3,hs',us2++[s3],ho',by simp;omega,?_⟩)⟩
    have e6:(l.take (k+1)).map (λr=>pick r co)=(l.take k).map (λr=>pick r co)++[pick r co]:=by
     rw[List.take_add_one,hr];simp
    rw[e6];exact(hr2.mono le3).snoc ⟨⟨_,hr3,rfl,λi x hx=>⟨x,hx,rfl⟩⟩,by rw[hpl];omega⟩
 .rintro mx hx-⟨le,hs,us2,hout,hl2,hr2⟩
  rw[hul,List.take_length]at hr2;obtain⟨s,hb,hrow,hfr⟩:=hout.ex;refine⟨s,.of_m hb rfl,s,us2,_,rfl,hrow.src,hr2,by simp;omega,λs3 h3 le3 hr3=>dJ.sub (hsub2.x hn2 hs) (le.trans le3) (hK s3 h3 (le.trans le3) hr3)⟩
theorem gY{m0:MH}{o:Obj}(hs:Sub m0 m)(hn:cH m h b)(hu:jQ m m' b o):Sub m0 m'/\m0 b=none:=by
 have h1:m0 b=none:=by
  cases e:m0 b with
  |none=>rfl
  |some x=>have e1:=hs b x e;rw[hn.m_]at e1;cases e1
 exact⟨hs.upd h1 hu.other,h1⟩
theorem mem_keys{l:List (List VV)}{w k:Nat}{x:List VV}(hl:gZ w l)(hx:Nt x)(hw:x.length=w):cT x∈(l.take k).map cT↔x∈l.take k:=by
 constructor
 .intro h;obtain⟨y,hy,e⟩:=List.mem_map.1 h;have hyl:=List.mem_of_mem_take hy;rw[(DS (by rw[hl.wid y hyl,hw]) (hl.row y hyl).val hx.val).1 e]at hy;exact hy
 .exactλh=>List.mem_map.2 ⟨x,h,rfl⟩
theorem JA:Sound Tryz.prog 190 Nr:=by
 refine Dz Tryz.func190 ?_;rintro cvs m h K ⟨t,i,bs,ls,w,rfl,ha,hT,h2,hok,hK⟩;refine⟨MW [(210,Tg)] [] [] [200003,200005,200007,1053,400000,0],rfl,aD QI aF,Gp t i m h (dJ h K),by kernel_rfl,?_⟩;show Gp t i m h (dJ h K);dsimp only[Gp,push_cast];intro b3 m1 hb1 hu1 by_ m2 hb2 hu2 b5 m3 hb3 hu3;obtain⟨s1,n3⟩:=gY (Sub.refl m) hb1 hu1;obtain⟨s2,ny⟩:=gY s1 hb2 hu2;obtain⟨s3,n5⟩:=gY s2 hb3 hu3;refine⟨_,_,⟨hu3.at_⟩,by simp,λm4 hu4=>?_⟩;have s4:Sub m m4:=s3.upd n5 hu4.other;have hyne:by_≠b5:=λe=>by have:=hb3.m_;rw[<-e,hu2.at_]at this;cases this
 have h3ne:b3≠b5:=λe=>by have:=hb3.m_;rw[<-e,hu2.other b3 (λe2=>by have:=hb2.m_;rw[<-e2,hu1.at_]at this;cases this),hu1.at_]at this;cases this
 have h3y:b3≠by_:=λe2=>by have:=hb2.m_;rw[<-e2,hu1.at_]at this;cases this
 have m4y:m4 by_=some (.map #[] 0):=by rw[hu4.other by_ hyne,hu3.other by_ hyne];exact hu2.at_
 have m43:m4 b3=some (.cells #[.bool i] 4 (0,0)):=by rw[hu4.other b3 h3ne,hu3.other b3 h3ne,hu2.other b3 h3y];exact hu1.at_
 have m45:m4 b5=some (.cells #[.map (some by_)] 177 (0,0)):=hu4.at_;obtain⟨b,off,x,ea,hlt,rd,sq⟩:=ha.get (By (i:=1) aC);obtain⟨us',hseq',hru'⟩:=sq.ex;have hrel':=hok _ (List.mem_of_getElem? (By (i:=1) aC));have hrel:=hok _ (List.mem_of_getElem? (By (i:=0) aC));obtain⟨b6,off6,x6,ea6,hlt6,rd6,sq6⟩:=ha.get (By (i:=0) aC);obtain⟨us,hseq,hru⟩:=sq6.ex;generalize ls.getD 1 []=l' at hru' hrel' hK sq;generalize ls.getD 0 []=l at hru hrel hK sq6;have hul:=hru.len;have hll:=hrel.len;have hul':=hru'.len;refine⟨b,off,ea,aC,aC,x,.imm rd,sT,us',λk mx hx=>hx=h/\(∀z o,m4 z=some o->z≠by_->mx z=some o)/\nW mx by_ ((l'.take k).map cT),rQ,⟨x,us',rfl,hseq',rfl⟩,⟨rfl,λz o e _=>e,by simpa using nW.new m4y⟩,?_,?_⟩
 .rintro k e mx hx hk-⟨rfl,hs,hsn⟩
  obtain⟨r,hr,hv⟩:=hru'.at' hk;have hrl:=List.mem_of_getElem? hr;have r5:aL mx hx b5 0 [Value.map (some by_)]:=.of_m (hs b5 _ m45 (Ne.symm hyne)) rfl;refine⟨by_,r5,r5,e,r,rfl,hv,hrel'.row r hrl,hT.sub (λz o e2=>hs z o (s4 z o e2) (λe3=>by rw[e3,ny]at e2;cases e2)),r5,hsn.put (λm' hs' hsn'=>⟨rfl,λz o e2 hne=>by rw[hs'.other z hne];exact hs z o e2 hne,?_⟩)⟩;obtain⟨kk,h5,h6⟩:=hsn'.ex;exact⟨kk,h5,λq=>by rw[h6,List.take_add_one,hr];simp[or_comm]⟩
 .rintro mx hx-⟨rfl,hs,hsn⟩ b7 m5 hb5 hu5;rw[hul',List.take_length]at hsn;have s5:Sub m mx:=λz o e2=>hs z o (s4 z o e2) (λe3=>by rw[e3,ny]at e2;cases e2);obtain⟨s6,n7⟩:=gY s5 hb5 hu5;have ne7:∀z o,mx z=some o->z≠b7:=λz o e2 e3=>by rw[e3,hb5.m_]at e2;cases e2
  have y7:by_≠b7:=by
   obtain⟨kk,⟨es,c,h1,_⟩,_⟩:=hsn.ex;exact ne7 by_ _ h1
  have m55:m5 b5=some (.cells #[.map (some by_)] 177 (0,0)):=by rw[hu5.other b5 (ne7 b5 _ (hs b5 _ m45 (Ne.symm hyne)))];exact hs b5 _ m45 (Ne.symm hyne)
  have m53:m5 b3=some (.cells #[.bool i] 4 (0,0)):=by rw[hu5.other b3 (ne7 b3 _ (hs b3 _ m43 h3y))];exact hs b3 _ m43 h3y
  have hsn5:nW m5 by_ (l'.map cT):=hsn.keep (hu5.other by_ y7);have n57:b5≠b7:=ne7 b5 _ (hs b5 _ m45 (Ne.symm hyne));have n37:b3≠b7:=ne7 b3 _ (hs b3 _ m43 h3y);refine⟨b6,off6,ea6,aC,aC,x6,.imm rd6,sT,us,λk my hy=>hy=hx/\Ai m5 my b7/\∃us2,lZ m5 my b7 us2/\us2.length<=k/\eK hx us2 ((l.take k).filter λz=>Kd l' z==i),rQ,⟨x6,us,rfl,hseq,rfl⟩,⟨rfl,λz o e _=>e,[],lZ.new hu5.at_,by simp,by simpa using eK.nil hx⟩,?_,?_⟩
  .rintro k e my hy hk-⟨rfl,hs7,us2,hout,hl2,hr2⟩
   obtain⟨r,hr,hv⟩:=hru.at' hk;have hkl:=(List.getElem?_eq_some_iff.1 hk).1;have hrl:=List.mem_of_getElem? hr;have r5:aL my hy b5 0 [Value.map (some by_)]:=.of_m (hs7 b5 _ m55 n57) rfl;have r3:aL my hy b3 0 [Value.bool i]:=.of_m (hs7 b3 _ m53 n37) rfl
   have hsn7:nW my by_ (l'.map cT):=by
    obtain⟨kk,⟨es,c,h1,h2,h3,h4⟩,h5⟩:=hsn5.ex;exact⟨kk,⟨es,c,hs7 by_ _ h1 y7,h2,h3,h4⟩,h5⟩
   have key:∀t:Bool,(t=true↔cT r∈l'.map cT)->t=Kd l' r:=λt ht=>by
    have h1:=mem_keys (k:=l'.length) hrel' (hrel.row r hrl) (hrel.wid r hrl);rw[List.take_length]at h1;rw[h1]at ht;cases t
    .cases e2:Kd l' r with
     |false=>rfl
     |true=>exact ht.2 (C0.1 e2)
    .exact(C0.2 (ht.1 rfl)).symm
   refine⟨by_,r5,i,r3,r5,r3,e,r,rfl,hv,hrel.row r hrl,hT.sub (s6.x n7 hs7),r5,r3,r3,hsn7.get (K:=λt=>branch (t==i) _ _) (λt ht=>?_)⟩;have e3:=key t ht;refine aB (λh1=>?_) (λh1=>?_)
   .refine lZ.app ⟨_,hu5.at_⟩ hs7 hout aC (λm' hs' ho'=>⟨rfl,hs',us2++[e],ho',by simp;omega,?_⟩);rw[iV _ hr,if_pos (by rw[<-e3];exact h1)];exact hr2.snoc hv
   .refine⟨rfl,hs7,us2,hout,aC,?_⟩;rw[iV _ hr,if_neg (by rw[<-e3,h1];simp),List.append_nil];exact hr2
  .rintro my hy-⟨rfl,hs7,us2,hout,hl2,hr2⟩
   rw[hul,List.take_length]at hr2;obtain⟨s,hb,hrow,hfr⟩:=hout.ex;refine⟨s,.of_m hb rfl,dJ.row (s6.x n7 hs7) (.refl _) hrow (λj y e=>?_) (λh' le hri=>hK s h' le ((hr2.mono le).rows hri (by have:=hr2.len;omega)))⟩;cases e2:m y with
   |none=>rfl
   |some o=>have e1:=hfr j y e;rw[s6 y o e2]at e1;cases e1
def zB(_:Query)(ls:List (List (List VV))):Prop:=2<=ls.length/\∃w,∀l∈ls,gZ w l
def MA(_:Query)(ls:List (List (List VV))):List (List VV):=(ls.getD 0 []).filter λx=>Kd (ls.getD 1 []) x==false
def MJ(_:Query)(ls:List (List (List VV))):List (List VV):=(ls.getD 0 []).filter λx=>Kd (ls.getD 1 []) x==true
theorem Q4:Sound Tryz.prog 153 (Nu zB MA):=by
 refine iB Tryz.func153 ?_;rintro cvs m h K ⟨v,t,q,bs,ls,rfl,_,ha,hT,⟨h2,w,hok⟩,hK⟩;refine⟨dL [(190,Nr)] [] [] [] false,rfl,aD JA aF,Uv v t m h K,by kernel_rfl,?_⟩;exact⟨t,false,bs,ls,w,rfl,ha,hT,h2,hok,hK⟩
theorem Q3:Sound Tryz.prog 154 (Nu zB MJ):=by
 refine iB Tryz.func154 ?_;rintro cvs m h K ⟨v,t,q,bs,ls,rfl,_,ha,hT,⟨h2,w,hok⟩,hK⟩;refine⟨dL [(190,Nr)] [] [] [] false,rfl,aD JA aF,Uu v t m h K,by kernel_rfl,?_⟩;exact⟨t,true,bs,ls,w,rfl,ha,hT,h2,hok,hK⟩
def kB:List (Int×Bool)->List VV->List VV->Int
 |[],a,b=>dT a b
 |(c,dn)::r,a,b=>if 0<=c/\c<a.length/\c<b.length then(if j8 (a.getD c.toNat zeroV) (b.getD c.toNat zeroV)≠0 then(if dn then-j8 (a.getD c.toNat zeroV) (b.getD c.toNat zeroV)else j8 (a.getD c.toNat zeroV) (b.getD c.toNat zeroV))else kB r a b)else kB r a b
def FC:Vc.Spec:=λcvs m h K=>∃o s t od a b,cvs=[cS o,cS s,cS t]/\iW h o od/\cC h s a/\cC h t b/\K (cI (kB od a b)) m h
def L0:Vc.Spec:=λcvs m h K=>∃s t bq v od a b,cvs=[cS s,cS t,cP bq]/\m bq=some (.cells ⟨QV.enc v⟩ 38 (0,0))/\iW h v.order od/\cC h s a/\cC h t b/\K (cI (kB od a b)) m h
def Ym:Vc.Spec:=λcvs m h K=>∃i:Nat,∃bq bg br v od g s rs r x,cvs=[cI i,cP bq,cP bg,cP br]/\m bq=some (.cells ⟨QV.enc v⟩ 38 (0,0))/\m bg=some (.cells #[Sl.val g] 53 (0,0))/\m br=some (.cells #[Sl.val s] 74 (0,0))/\iW h v.order od/\Rows h g rs/\cC h s r/\rs[i]? =some x/\
 K (cB (decide (kB od x r>=0))) m h
def Wq:Vc.Spec:=λcvs m h K=>∃(s:Sl)(bq:Nat)(v:QV)(od:List (Int×Bool))(w:Nat)(ps:List (Sl×List VV)),cvs=[cS s,.val (.func (.func 211) #[] #[.pointer (some ⟨bq,0,none⟩)])]/\m bq=some (.cells ⟨QV.enc v⟩ 38 (0,0))/\(∀i,s.a≠some ⟨bq,i,none⟩)/\iW h v.order od/\dH m s 74 1 (ps.map λp=>eS p.1)/\(∀p∈ps,cC h p.1 p.2)/\(∀p∈ps,p.2.length=w)/\ps.length<=140737488355328/\
 ∀(ps':List (Sl×List VV))(m':MH),ps'.Perm ps->ps'.Pairwise (λp q=>¬kB od q.2 p.2<0)->dH m' s 74 1 (ps'.map λp=>eS p.1)->(∀b,(∀i,s.a≠some ⟨b,i,none⟩)->m' b=m b)->K (.tup []) m' h
noncomputable def XK(o s t:Sl)(m:MH)(h:PH):Ctx:=
 dL [(70,L1),(71,FD)] [(2,{A:=Nat,st:=λi=>cD 55 58 [(1,sv s),(2,sv t),(10,sv o),(11,iv o.len),(12,iv i)] [] m h})] [] [] false
def O8(o s t:Sl)(m:MH)(h:PH)(K:CV->MH->PH->Prop):Prop:=
  lV (λI x=>aA (I x) (aJ s) (aA (aJ t) (aJ o) (aA (bJ o) (aZ x) (aA (m=m) (h=h) True)))) (λI m1 x=>I x->aW (↑x:Int) (aG o) (bD (λb o1=>aH (bE o.a b o1) (0<=(↑x:Int)) ((↑x:Int)<aG o) (∃(y:Int×Bool),aL m h b (bF o1 x 2) (xZ y)/\aW y.1 0 (∃(x1:Nat),aA (I x1) (m1 x1<m1 x) (aA (aJ s) (aJ t) (aA (aJ o) (bJ o) (aA (fV (bB x 1)=bM x1) (m=m) (bN h h))))) (dA (decide (y.1>=aG s)) (∃(x1:Nat),aA (I x1) (m1 x1<m1 x) (aA (aJ s) (aJ t) (aA (aJ o) (bJ o) (aA (fV (bB x 1)=bM x1) (m=m) (bN h h))))) (decide (y.1>=aG t)) (∃(x1:Nat),aA (I x1) (m1 x1<m1 x) (aA (aJ s) (aJ t) (aA (aJ o) (bJ o) (aA (fV (bB x 1)=bM x1) (m=m) (bN h h))))) (bD (λb1 o2=>aH (bE s.a b1 o2) (0<=
 y.1) (y.1<aG s) (∃(y1:VV),aL m h b1 (fJ o2 y.1 3) y1.enc/\bD (λb2 o3=>aH (bE t.a b2 o3) (0<=y.1) (y.1<aG t) (∃(y2:VV),aL m h b2 (fJ o3 y.1 3) y2.enc/\∃(a b3:VV),bK (fC y1) (fC y2)=bK (fC a) (fC b3)/\dA (j8 a b3==0) (∃(x1:Nat),aA (I x1) (m1 x1<m1 x) (aA (aJ s) (aJ t) (aA (aJ o) (bJ o) (aA (fV (bB x 1)=bM x1) (m=m) (bN h h))))) y.2 (K (fH (iN (0-j8 a b3))) m h) (K (fH (j8 a b3)) m h)))))))))) (xT s t h (λa b=>K (fH (dT a b)) m h)))
def Us(s t:Sl)(bq:Nat)(m:MH)(h:PH)(K:CV->MH->PH->Prop):Prop:=
  iQ m h bq 18 (λy=>j3 (λo s1=>∃(t1:Sl)(o1:List (Int×Bool))(a b:List VV),aA (cW y (gJ s t)=cW o (gJ s1 t1)) (iW h o o1) (aA (cC h s1 a) (cC h t1 b) (K (fH (kB o1 a b)) m h))))
def Li(i:Nat)(bq bg br:Nat)(m:MH)(h:PH)(K:CV->MH->PH->Prop):Prop:=
  iQ m h bq 18 (λy=>iQ m h bg 0 (λy1=>cZ y1.a (↑i:Int) y1 (λb o y2=>aL m h b (bF o i 1) (aK y2)/\∃(y3:Sl),aA (aL m h br 0 (aK y3)) (aL m h bg 0 (aK y1)) (j3 (λo1 s=>∃(t:Sl)(o2:List (Int×Bool))(a b1:List VV),aA (cW y (gJ y2 y3)=cW o1 (gJ s t)) (iW h o1 o2) (aA (cC h s a) (cC h t b1) (aL m h bg 0 (aK y1)/\K (zR (decide (kB o2 a b1>=0))) m h)))))))
theorem RN(a b:VV): -1<=j8 a b/\j8 a b<=1:=by
 have h1:∀x y:Int, -1<=xG x y/\xG x y<=1:=λx y=>by unfold xG;split<;>(try split)<;>omega
 have h2:=(Jh a.text.data.toList b.text.data.toList).2;have h3: -1<=Kp a.text b.text/\Kp a.text b.text<=1:=by unfold Kp;omega
 have h4:=h1 a.kind b.kind;have h5:=h1 a.int b.int;unfold j8;split
 .exact h4
 .split
  .exact h5
  .exact h3
theorem UN{c:Int}{dn:Bool}{r:List (Int×Bool)}{a b:List VV}(h:¬(0<=c/\c<a.length/\c<b.length)):kB ((c,dn)::r) a b=kB r a b:=by
 rw[kB,if_neg h]
theorem Ye{c:Int}{dn:Bool}{r:List (Int×Bool)}{a b:List VV}{x y:VV}(h0:0<=c)(hx:a[c.toNat]? =some x)(hy:b[c.toNat]? =some y):kB ((c,dn)::r) a b=if j8 x y≠0 then(if dn then-j8 x y else j8 x y)else kB r a b:=by
 have h1:=(List.getElem?_eq_some_iff.1 hx).1;have h2:=(List.getElem?_eq_some_iff.1 hy).1;rw[kB,if_pos ⟨h0,aC,aC⟩];rw[List.getD_eq_getElem?_getD,List.getD_eq_getElem?_getD,hx,hy];rfl
theorem Gh:Sound Tryz.prog 34 FC:=by
 refine iB Tryz.func34 ?_;rintro cvs m h K ⟨o,s,t,od,a,b,rfl,ho,hs,ht,hK⟩;refine⟨XK o s t m h,rfl,aD Gd (aD C3 aF),O8 o s t m h K,by kernel_rfl,?_⟩;dsimp only[O8,push_cast];have hol:=ho.slen;have hln:=ho.len;have hsl:=bH.slen hs;have htl:=bH.slen ht;refine⟨λi=>i<=od.length/\kB od a b=kB (od.drop i) a b,λi=>od.length-i,⟨0,⟨aC,by simp⟩,MT⟩,λi⟨hi,he⟩=>aE (λhlt=>?_) (λhge=>?_)⟩
 .obtain⟨⟨c,dn⟩,hx⟩:=eY hol hlt;obtain⟨b1,o1,e1,r1⟩:=ho.row.get (i:=i) (e:=Cs (c,dn)) (by simp[hx]);rw[drop_cons hx]at he
  have skip:¬(0<=c/\c<a.length/\c<b.length)->∃x_1:Nat,(λi=>i<=od.length/\kB od a b=kB (od.drop i) a b) x_1/\(λi=>od.length-i) x_1<(λi=>od.length-i) i/\eQ (WT s)/\eQ (WT t)/\eQ (WT o)/\eQ (fV ↑o.len)/\fV (IntKind.i64.wrap ((i:Int)+1))=fV ↑x_1/\m=m/\h=h/\True:=λhn=>
   ⟨i+1,⟨aC,by rw[he,UN hn]⟩,(show od.length-(i+1)<od.length-i by omega),MT⟩
  refine⟨b1,o1,e1,aC,hlt,(c,dn),.imm r1,aE (λh1=>skip (λe=>by have:c<0:=h1;omega)) (λh1=>aE (λh2=>skip (λe=>by have:c>=(s.len:Int):=h2;omega)) (λh2=>aE (λh3=>skip (λe=>by have:c>=(t.len:Int):=h3;omega)) (λh3=>?_)))⟩;dsimp only at h1 h2 h3⊢
  obtain⟨x,hxa⟩:∃x,a[c.toNat]? =some x:=⟨_,List.getElem?_eq_getElem aC⟩
  obtain⟨y,hyb⟩:∃y,b[c.toNat]? =some y:=⟨_,List.getElem?_eq_getElem aC⟩
  obtain⟨b2,o2,u,e2,r2,rfl⟩:=bH.at hs hxa;obtain⟨b3,o3,u,e3,r3,rfl⟩:=bH.at ht hyb;rw[Ye aC hxa hyb]at he;have hsm:=RN x y;refine⟨b2,o2,e2,aC,aC,x,.imm r2,b3,o3,e3,aC,aC,y,.imm r3,x,y,rfl,aB (λh4=>⟨i+1,⟨aC,?_⟩,(show od.length-(i+1)<od.length-i by omega),MT⟩) (λh4=>aB (λh5=>?_) (λh5=>?_))⟩
  .rw[he,if_neg (by simpa using h4)]
  .have h5:dn=true:=h5;rw[he,if_pos (by simpa using h4),if_pos h5]at hK;rw[eB aC aC,Int.zero_sub];exact hK
  .have h5:dn=false:=h5;rw[he,if_pos (by simpa using h4),if_neg (by simp[h5])]at hK;exact hK
 .rw[he,List.drop_eq_nil_of_le aC,kB]at hK;exact⟨s,t,a,b,rfl,hs,ht,hK⟩
theorem QH:Sound Tryz.prog 211 L0:=by
 refine iB Tryz.func211 ?_;rintro cvs m h K ⟨s,t,bq,v,od,a,b,rfl,hm,ho,hs,ht,hK⟩;refine⟨uM [(34,FC)] [] [] [] [0] [] false,rfl,aD Gh aF,Us s t bq m h K,by kernel_rfl,?_⟩;exact⟨v.order,.of_m hm rfl,v.order,s,t,od,a,b,rfl,ho,hs,ht,hK⟩
theorem QP:Sound Tryz.prog 193 Ym:=by
 refine iB Tryz.func193 ?_;rintro cvs m h K ⟨i,bq,bg,br,v,od,g,s,rs,r,x,rfl,hq,hg,hr,ho,hrs,hv,hx,hK⟩;refine⟨uM [(34,FC)] [] [] [] [0] [] false,rfl,aD Gh aF,Li i bq bg br m h K,by kernel_rfl,?_⟩;dsimp only[Li,push_cast];have hl:=bH.slen hrs;have hi:=(List.getElem?_eq_some_iff.1 hx).1;obtain⟨b1,o1,u,e1,r1,ru⟩:=bH.at hrs hx;have rg:aL m h bg 0 [eC g]:=.of_m hg rfl;exact⟨v.order,.of_m hq rfl,g,rg,b1,o1,e1,aC,aC,u,.imm r1,s,.of_m hr rfl,rg,v.order,u,s,od,x,r,rfl,ho,ru,hv,rg,hK⟩
def Ft(w:Nat):List (Int×Bool)->List VV->List VV->Int
 |[],a,b=>dT a b
 |(c,dn)::r,a,b=>if 0<=c/\c<w then(if(if dn then-j8 (a.getD c.toNat zeroV) (b.getD c.toNat zeroV)else j8 (a.getD c.toNat zeroV) (b.getD c.toNat zeroV))≠0 then(if dn then-j8 (a.getD c.toNat zeroV) (b.getD c.toNat zeroV)else j8 (a.getD c.toNat zeroV) (b.getD c.toNat zeroV))else Ft w r a b)else Ft w r a b
theorem yT{w:Nat}:∀{od:List (Int×Bool)}{a b:List VV},a.length=w->b.length=w->kB od a b=Ft w od a b
 |[],_,_,_,_=>rfl
 |(c,dn)::r,a,b,ha,hb=>by
  rw[kB,Ft,ha,hb,yT (od:=r) ha hb];by_cases h:0<=c/\c<w
  .rw[if_pos ⟨h.1,h.2,h.2⟩,if_pos h];cases dn<;>simp
  .rw[if_neg (λe=>h ⟨e.1,e.2.1⟩),if_neg h]
theorem L2.neg{α:Type}{c:α->α->Int}(h:L2 c):L2 (λx y=> -c x y):=by
 refine⟨λx y=>by have:=h.anti x y;omega,λx y z h1 h2=>?_⟩;have a1:=h.anti x y;have a2:=h.anti y z;have a3:=h.anti x z;have:=h.trans z y x aC aC;omega
theorem Fs(w:Nat):∀od,L2 (Ft w od)
 |[]=>Ce
 |(c,dn)::r=>by
  have ih:=Fs w r;have hc:L2 (λa b:List VV=>j8 (a.getD c.toNat zeroV) (b.getD c.toNat zeroV)):=Fu.of λa:List VV=>a.getD c.toNat zeroV;by_cases h:0<=c/\c<w
  .have e:Ft w ((c,dn)::r)=λa b=>if(if dn then-j8 (a.getD c.toNat zeroV) (b.getD c.toNat zeroV)else j8 (a.getD c.toNat zeroV) (b.getD c.toNat zeroV))≠0 then(if dn then-j8 (a.getD c.toNat zeroV) (b.getD c.toNat zeroV)else j8 (a.getD c.toNat zeroV) (b.getD c.toNat zeroV))else Ft w r a b:=by
    funext a b;rw[Ft,if_pos h]
   rw[e];cases dn
   .exact hc.lex ih
   .exact hc.neg.lex ih
  .have e:Ft w ((c,dn)::r)=Ft w r:=by funext a b;rw[Ft,if_neg h]
   rw[e];exact ih
theorem Wf{w:Nat}(od:List (Int×Bool)):Sort.SWO (Go.Proofs.ltOf (fun(x y:BA h (λl=>l.length=w))=>kB od x.l y.l)):=by
 have e:(fun(x y:BA h (λl=>l.length=w))=>kB od x.l y.l)=λx y=>Ft w od x.l y.l:=by
  funext x y;exact yT x.pr_ y.pr_
 rw[e];exact(Fs w od).swo
theorem Pw:Sound Tryz.prog 107 Wq:=by
 refine⟨⟨Tryz.f107,Tryz.func107,rfl,by decide⟩,?_⟩;rintro cvs vs m h w K ⟨s,bq,v,od,wd,ps,rfl,hq,hnq,ho,hr,hv,hw,hl,hK⟩ hp
 obtain⟨v1,v2,rfl⟩:∃v v2,vs=[v,v2]:=by
  have:=(mQ hp.args).1
  match vs,this with
  |[v,v2],_=>exact⟨v,v2,rfl⟩
 have h1:v1=s.val:=hp.args.1;have h2:v2= .func (.func 211) #[] #[.pointer (some ⟨bq,0,none⟩)]:=hp.args.2.1;subst h1 h2;refine Kw (R:=λl=>l.length=wd) (g:=211) (cb:=[.pointer (some ⟨bq,0,none⟩)]) (m2:=λb=>if b=bq then m bq else none) (cf:=kB od) rfl hp ⟨Tryz.f211,Tryz.func211,rfl,by decide⟩ hr hv hw hl (Wf od) ⟨L0,QH,λx y=>⟨x.s,y.s,bq,v,od,x.l,y.l,rfl,by simpa using hq,ho,x.ok,y.ok,rfl,rfl,rfl⟩⟩ (λb o hb=>?_) hK;have hb:(if b=bq then m bq else none)=some o:=hb;split at hb
 .rename_i e;subst e;exact⟨hb,hnq⟩
 .cases hb
noncomputable def VO:Ctx:=MW [(184,RX),(186,WE),(185,P0),(187,PX)]
 [(13,{A:=Nat×Nat×Sl×Sl×MH×PH,st:=λ⟨i,b,e,g,m,h⟩=>cD 66 68 [(10,vv (.pointer (some ⟨b,0,none⟩))),(11,sv e),(51,sv g),(52,iv g.len),(53,iv i)] [] m h})] [] [200005,200006,200007,200010,1053,400000,0]
abbrev vN(a:MH)(b:Nat)(c:List VV)(d:List Int)(e:Prop)(g:Sl->Prop):Prop:=∃(x:List (Value×Sl))(x1:Value->Prop),aA (y8 a b (List.map (fun(x2:Value×Sl)=>(x2.1,eC x2.2)) x)) (pT x1) (aA (x1 (bY c d)) (∀(x2:Value×Sl),List.Mem x2 x->x1 x2.1) (((∀(x2:Value×Sl),aR (List.Mem x2 x) (x2.1=bY c d) False)->e)/\∀(x2:Sl),List.Mem (bY c d,x2) x->g x2))
noncomputable abbrev vK:Sl:=Sl.mk Option.none 0 0
noncomputable abbrev lD(a:Nat×Nat×Sl×Sl×MH×PH):Nat:=a.2.1
noncomputable abbrev vT(a:Nat×Nat×Sl×Sl×MH×PH):Sl:=a.2.2.1
noncomputable abbrev BT(a:Nat×Nat×Sl×Sl×MH×PH):Sl×MH×PH:=a.2.2.2
noncomputable abbrev mG(a:Nat×Nat×Sl×Sl×MH×PH):Sl:=(BT a).1
noncomputable abbrev nM(a:Nat×Nat×Sl×Sl×MH×PH):Nat->Nat->Option Value:=(BT a).2.2
noncomputable abbrev mH(a:Nat×Nat×Sl×Sl×MH×PH):Nat->Option Obj:=jH (BT a)
abbrev AV(a:List (List VV))(b:(List VV)->Prop):Prop:=∀(x:List VV),List.Mem x a->b x
attribute [push_cast] vN vK lD vT BT mG nM mH AV
def Gv(v:QV)(t:Sl)(m:MH)(h:PH)(K:CV->MH->PH->Prop):Prop:=
  I9 (λs o=>aA (tY v.on s) (lK h s o) (∀(a b:Sl)(h1:PH),dE h h1 (Ints h1 a (j4 o)) (Ints h1 b (gA o)->∀(b1:Nat)(m1:MH),aR (cH m h1 b1) (bC m m1 b1 iL 33) (∀(b2:Nat)(m2:MH),aR (cH m1 h1 b2) (bC m1 m2 b2 iL 33) (fD (λc E=>aA (pH m2 b1 (dY c E 0)) (dU 0 c) (∀(m3:MH),bC m2 m3 b1 (fF (eC a) 1 c) E->fD (λc1 E1=>aA (pH m3 b2 (dY c1 E1 0)) (dU 0 c1) (∀(m4:MH),bC m3 m4 b2 (fF (eC b) 1 c1) E1->AW m4 h1 0 (λb3 m5=>∀(b4:Nat)(m6:MH),aR (cH m5 h1 b4) (bC m5 m6 b4 (iR DN) 207) (fD (λc2 E2=>aA (pH m6 b4 (dY c2 E2 0)) (dU 0 c2) (∀(m7:MH),bC m6 m7 b4 (fF (Br b3) 1 c2) E2->EZ t.a 0 1 t m7 h1 (λo1=>o1+1) (λy S=>pI S h1 y m7 (λx I k e=>fU (λm8 h2=>aR (sJ
 x k e) (PH.le h1 h2) (I k m8 h2->iQ m8 h2 b2 0 (λy1=>CF e y1 h2 (λr c3=>gX r.length c3) (λr c3=>branch (List.all (pick r c3) lH) (iQ m8 h2 b2 0 (λy2=>CF e y2 h2 (λr1 _=>Nt r1) (λr1 c4=>aA (gX r1.length c4) (jD m8) (∃(y3:Nat),kX m8 h2 b4 y3 (∃(y4:Nat),aA (cK m8 h2 b4 y4) (kX m8 h2 b4 y3 (vN m8 y4 r1 c4 (aA (cK m8 h2 b4 y3) (cK m8 h2 b4 y4) (aA (cK m8 h2 b4 y3) (cK m8 h2 b4 y4) (∃(x1:List (List Value)),aH (dH m8 vK 74 1 x1) (iG x1) (dN x1) (iA (λs1 m9=>eM m8 m9 vK s1 74 1 (eT x1 (aK e))->aA (cK m9 h2 b4 y3) (cK m9 h2 b4 y4) (uX (λk1 O=>aA (jZ m9 y3 k1) (pT O) (aA (O (bY r1 c4)) (mD (Instr.sameBits 10000 (bY r1 c4) (bY r1 c4))) (sO (∀(e1:Value×Value),uR e1 k1 O) ((∀(e1:
 Value×Value),aR (List.Mem e1 k1) (e1.1=bY r1 c4) False)->∀(a1:MH),aR (iX m9 a1 y3) (jZ a1 y3 (k1++uV (bY r1 c4) (eC s1))) (I (k+1) a1 h2)) (λl=>∀(v1:Value)(l1:List (Value×Value)),k1=l++kO (bY r1 c4) v1 l1->∀(a1:MH),aR (iX m9 a1 y3) (jZ a1 y3 (l++kO (bY r1 c4) (eC s1) l1)) (I (k+1) a1 h2))))))))))) (λy5=>aA (cK m8 h2 b4 y3) (cK m8 h2 b4 y4) (aA (cK m8 h2 b4 y3) (cK m8 h2 b4 y4) (∃(x1:List (List Value)),aH (dH m8 (cV y5) 74 1 x1) (iG x1) (dN x1) (iA (λs1 m9=>eM m8 m9 (cV y5) s1 74 1 (eT x1 (aK e))->aA (cK m9 h2 b4 y3) (cK m9 h2 b4 y4) (uX (λk1 O=>aA (jZ m9 y3 k1) (pT O) (aA (O (bY r1 c4)) (mD (Instr.sameBits 10000 (bY r1 c4) (bY r1 c4))) (sO (∀(e1:Value×Value),uR e1 k1 O)
 ((∀(e1:Value×Value),aR (List.Mem e1 k1) (e1.1=bY r1 c4) False)->∀(a1:MH),aR (iX m9 a1 y3) (jZ a1 y3 (k1++uV (bY r1 c4) (eC s1))) (I (k+1) a1 h2)) (λl=>∀(v1:Value)(l1:List (Value×Value)),k1=l++kO (bY r1 c4) v1 l1->∀(a1:MH),aR (iX m9 a1 y3) (jZ a1 y3 (l++kO (bY r1 c4) (eC s1) l1)) (I (k+1) a1 h2))))))))))))) (aA (cK m8 h2 b4 y3) (cK m8 h2 b4 y4) (kX m8 h2 b4 y3 (vN m8 y4 r1 c4 (zG (cK m8 h2 b4 y3) (cK m8 h2 b4 y4) (λx1=>aH (dH m8 vK 74 1 x1) (iG x1) (dN x1) (iA (λs1 m9=>eM m8 m9 vK s1 74 1 (eT x1 (aK e))->aA (cK m9 h2 b4 y3) (cK m9 h2 b4 y4) (uX (λk1 O=>aA (jZ m9 y3 k1) (pT O) (aA (O (bY r1 c4)) (mD (Instr.sameBits 10000 (bY r1 c4) (bY r1 c4))) (sO (∀(e1:Value×
 Value),uR e1 k1 O) ((∀(e1:Value×Value),aR (List.Mem e1 k1) (e1.1=bY r1 c4) False)->∀(a1:MH),aR (iX m9 a1 y3) (jZ a1 y3 (k1++uV (bY r1 c4) (eC s1))) (I (k+1) a1 h2)) (λl=>∀(v1:Value)(l1:List (Value×Value)),k1=l++kO (bY r1 c4) v1 l1->∀(a1:MH),aR (iX m9 a1 y3) (jZ a1 y3 (l++kO (bY r1 c4) (eC s1) l1)) (I (k+1) a1 h2)))))))))) (λy5=>zG (cK m8 h2 b4 y3) (cK m8 h2 b4 y4) (λx1=>aH (dH m8 (cV y5) 74 1 x1) (iG x1) (dN x1) (iA (λs1 m9=>eM m8 m9 (cV y5) s1 74 1 (eT x1 (aK e))->aA (cK m9 h2 b4 y3) (cK m9 h2 b4 y4) (uX (λk1 O=>aA (jZ m9 y3 k1) (pT O) (aA (O (bY r1 c4)) (mD (Instr.sameBits 10000 (bY r1 c4) (bY r1 c4))) (sO (∀(e1:Value×Value),uR e1 k1 O) ((∀(e1:Value×Value),
 aR (List.Mem e1 k1) (e1.1=bY r1 c4) False)->∀(a1:MH),aR (iX m9 a1 y3) (jZ a1 y3 (k1++uV (bY r1 c4) (eC s1))) (I (k+1) a1 h2)) (λl=>∀(v1:Value)(l1:List (Value×Value)),k1=l++kO (bY r1 c4) v1 l1->∀(a1:MH),aR (iX m9 a1 y3) (jZ a1 y3 (l++kO (bY r1 c4) (eC s1) l1)) (I (k+1) a1 h2)))))))))))))))))) (I (k+1) m8 h2)))))) (λm8 h2=>AM m8 h2 t (λb5 m9 y1 S1=>pI S1 h2 y1 m9 (λx I k e=>fU (λa1 h3=>aR (sJ x k e) (PH.le h2 h3) (I k a1 h3->iQ a1 h3 b1 0 (λy2=>CF e y2 h3 (λr c3=>gX r.length c3) (λr c3=>gV (!(List.all (pick r c3) lH)) (I (k+1) a1 h3) (λy3=>kX a1 h3 b4 y3 (∃(y4:Sl),aA (aL a1 h3 b1 0 (aK y4)) (cK a1 h3 b4 y3) (ED e y4 h3 a1 (cK a1 h3 b4 y3) (λ_ _=>aL a1 h3 b1 0 (aK y4)) (λr1 c4
 =>vN a1 y3 r1 c4 (∃(I1:Nat×Nat×Sl×Sl×MH×PH->Prop)(a2:Nat×Nat×Sl×Sl×MH×PH->Nat),(∃(x1:Nat×Nat×Sl×Sl×MH×PH),aA (I1 x1) (cY b5 (lD x1)) (aA (bI e (vT x1)) (Zc=WT (mG x1)) (aA (aZ (mG x1).len) (aZ x1.1) (aA (bG a1 (BT x1).2) (h3=nM x1) True))))/\∀(x1:Nat×Nat×Sl×Sl×MH×PH),I1 x1->aW (↑x1.1:Int) (aG (mG x1)) (cZ (mG x1).a (↑x1.1:Int) (mG x1) (λb6 o1 y5=>aL (mH x1) (nM x1) b6 (bF o1 x1.1 1) (aK y5)/\∃(y6:Sl),aH (aL (mH x1) (nM x1) (lD x1) 0 (aK y6)) (aL (mH x1) (nM x1) (lD x1) 0 (aK y6)) (aL (mH x1) (nM x1) (lD x1) 0 (aK y6)) (bV (nM x1) 1 (aK (vT x1)::gM (aK y5)) (λs1 h4=>∃(s2:Sl)(r2:List (List VV)),aA (vL (lY s1)=vL (lY
 s2)) (Rows h4 s2 r2) (aA (r2.length<=10) (AV r2 (λr3=>r3.length<=12)) (∀(s3:Sl)(h5:PH),dE h4 h5 (cC h5 s3 r2.flatten) (zG (aL (mH x1) h5 (lD x1) 0 (aK y6)) (aL (mH x1) h5 (lD x1) 0 (aK y6)) (λx2=>aH (dH (mH x1) (cV y6) 74 1 x2) (iG x2) (dN x2) (iA (λs4 a3=>eM (mH x1) a3 (cV y6) s4 74 1 (eT x2 (aK s3))->fD (λc5 E3=>aA (pH a3 (lD x1) (dY c5 E3 0)) (dU 0 c5) (∀(a4:MH),bC a3 a4 (lD x1) (fF (eC s4) 1 c5) E3->∃(x3:Nat×Nat×Sl×Sl×MH×PH),aA (I1 x3) (a2 x3<a2 x1) (aA (cY (lD x1) (lD x3)) (bI (vT x1) (vT x3)) (aA (bI (mG x1) (mG x3)) (bP (mG x1) (mG x3)) (aA (fV (bB x1.1 1)=bM x3.1) (bG a4 (BT x3).2) (bN h5 (nM x3))))))))))))))))) (I (k+1) (mH
 x1) (nM x1))) (λy5=>∃(I1:Nat×Nat×Sl×Sl×MH×PH->Prop)(a2:Nat×Nat×Sl×Sl×MH×PH->Nat),(∃(x1:Nat×Nat×Sl×Sl×MH×PH),aA (I1 x1) (cY b5 (lD x1)) (aA (bI e (vT x1)) (bI y5 (mG x1)) (aA (bP y5 (mG x1)) (aZ x1.1) (aA (bG a1 (BT x1).2) (h3=nM x1) True))))/\∀(x1:Nat×Nat×Sl×Sl×MH×PH),I1 x1->aW (↑x1.1:Int) (aG (mG x1)) (cZ (mG x1).a (↑x1.1:Int) (mG x1) (λb6 o1 y6=>aL (mH x1) (nM x1) b6 (bF o1 x1.1 1) (aK y6)/\∃(y7:Sl),aH (aL (mH x1) (nM x1) (lD x1) 0 (aK y7)) (aL (mH x1) (nM x1) (lD x1) 0 (aK y7)) (aL (mH x1) (nM x1) (lD x1) 0 (aK y7)) (bV (nM x1) 1 (aK (vT x1)::gM (aK y6)) (λs1 h4=>∃(s2:Sl)(r2:List (List VV)),aA (vL (lY s1)=vL
 (lY s2)) (Rows h4 s2 r2) (aA (r2.length<=10) (AV r2 (λr3=>r3.length<=12)) (∀(s3:Sl)(h5:PH),dE h4 h5 (cC h5 s3 r2.flatten) (zG (aL (mH x1) h5 (lD x1) 0 (aK y7)) (aL (mH x1) h5 (lD x1) 0 (aK y7)) (λx2=>aH (dH (mH x1) (cV y7) 74 1 x2) (iG x2) (dN x2) (iA (λs4 a3=>eM (mH x1) a3 (cV y7) s4 74 1 (eT x2 (aK s3))->fD (λc5 E3=>aA (pH a3 (lD x1) (dY c5 E3 0)) (dU 0 c5) (∀(a4:MH),bC a3 a4 (lD x1) (fF (eC s4) 1 c5) E3->∃(x3:Nat×Nat×Sl×Sl×MH×PH),aA (I1 x3) (a2 x3<a2 x1) (aA (cY (lD x1) (lD x3)) (bI (vT x1) (vT x3)) (aA (bI (mG x1) (mG x3)) (bP (mG x1) (mG x3)) (aA (fV (bB x1.1 1)=bM x3.1) (bG a4 (BT x3).2) (bN h5 (nM x3))))))))))))))))) (I (k+1)
 (mH x1) (nM x1)))))))))))) (λa1 h3=>iQ a1 h3 b5 0 (λy2=>K (lY y2) a1 h3))))))))))))))))))
def Zf(on:List (Int×Int))(ls:List (List (List VV))):Prop:=2<=ls.length/\∃w w',gZ w (ls.getD 0 [])/\gZ w' (ls.getD 1 [])/\gX w (j4 on)/\gX w' (gA on)
def IP(q:Query)(ls:List (List (List VV))):Prop:=match q with|.mk _ _ _ _ on _ _ _ _=>Zf on ls
def agree(on:List (Int×Int))(x y:List VV):Bool:=dT (pick x (j4 on)) (pick y (gA on))==0
def NO(q:Query)(ls:List (List (List VV))):List (List VV):=match q with|.mk _ _ _ _ on _ _ _ _=>(ls.getD 0 []).filter λx=>(ls.getD 1 []).any λy=>agree on x y
theorem UQ{on:List (Int×Int)}{x y:List VV}:agree on x y=true↔pick x (j4 on)=pick y (gA on):=by
 simp only[agree,beq_iff_eq,jB]
theorem En{r:List VV}{cols:List Int}(hr:Nt r)(hc:gX r.length cols):∀v∈pick r cols,Yf v:=λv hv=>hr.val v (N4 hc hv)
theorem F6{on:List (Int×Int)}{x y:List VV}(hx:Nt x)(hy:Nt y)(cx:gX x.length (j4 on))(cy:gX y.length (gA on)):cT (pick x (j4 on))=cT (pick y (gA on))↔agree on x y=true:=by
 rw[UQ];exact DS (by simp[pick,j4,gA]) (En hx cx) (En hy cy)
structure Start(m m7:MH)(sa sb:Sl)(T:TypeId)(b1 b2 y b7:Nat):Prop where
 sub:Sub m m7
 a_:m7 b1=some (.cells #[.slice sa.a sa.len sa.cap] 33 (0,0))
 b_:m7 b2=some (.cells #[.slice sb.a sb.len sb.cap] 33 (0,0))
 y_:m7 y=some (.map #[] 0)
 c_:m7 b7=some (.cells #[.map (some y)] T (0,0))
 ya:b1≠y
 yb:b2≠y
 yc:b7≠y
 free:m y=none
theorem NH{sa sb:Sl}{T:TypeId}{Q:Nat->Nat->Nat->Nat->MH->Prop}(hK:∀b1 b2 y b7 m7,Start m m7 sa sb T b1 b2 y b7->Q b1 b2 y b7 m7):
 ∀(b1:Nat)(m1:MH),cH m h b1->jQ m m1 b1 (.cells #[uE] 33 (0,0))->∀(b2:Nat)(m2:MH),cH m1 h b2->jQ m1 m2 b2 (.cells #[uE] 33 (0,0))->
  ∃(cs:Array Value)(E:TypeId),pH m2 b1 (.cells cs E (0,0))/\0<cs.size/\∀m3:MH,jQ m2 m3 b1 (.cells (Array.mk (eC sa::cs.toList.drop 1)) E (0,0))->
  ∃(cs:Array Value)(E:TypeId),pH m3 b2 (.cells cs E (0,0))/\0<cs.size/\∀m4:MH,jQ m3 m4 b2 (.cells (Array.mk (eC sb::cs.toList.drop 1)) E (0,0))->
  ∀(y:Nat)(m5:MH),cH m4 h y->jQ m4 m5 y (.map (Array.mk []) 0)->∀(b7:Nat)(m6:MH),cH m5 h b7->jQ m5 m6 b7 (.cells (Array.mk [.map none]) T (0,0))->
  ∃(cs:Array Value)(E:TypeId),pH m6 b7 (.cells cs E (0,0))/\0<cs.size/\∀m7:MH,jQ m6 m7 b7 (.cells (Array.mk (.map (some y)::cs.toList.drop 1)) E (0,0))->Q b1 b2 y b7 m7:=by
 intro b1 m1 hb1 hu1 b2 m2 hb2 hu2;obtain⟨s1,n1⟩:=gY (Sub.refl m) hb1 hu1;obtain⟨s2,n2⟩:=gY s1 hb2 hu2;have e12:b1≠b2:=λe=>by have:=hb2.m_;rw[<-e,hu1.at_]at this;cases this
 refine⟨_,_,⟨by rw[hu2.other b1 e12];exact hu1.at_⟩,by simp,λm3 hu3=>?_⟩;have s3:Sub m m3:=s2.upd n1 hu3.other;refine⟨_,_,⟨by rw[hu3.other b2 (Ne.symm e12)];exact hu2.at_⟩,by simp,λm4 hu4 y m5 hb5 hu5 b7 m6 hb6 hu6=>?_⟩;have s4:Sub m m4:=s3.upd n2 hu4.other;have m4a:m4 b1=some (.cells #[.slice sa.a sa.len sa.cap] 33 (0,0)):=by rw[hu4.other b1 e12];exact hu3.at_
 have m4b:m4 b2=some (.cells #[.slice sb.a sb.len sb.cap] 33 (0,0)):=hu4.at_;obtain⟨s5,ny⟩:=gY s4 hb5 hu5;obtain⟨s6,n7⟩:=gY s5 hb6 hu6;have ne5:∀{z o},m4 z=some o->z≠y:=fun{z o} e e2=>by rw[e2,hb5.m_]at e;cases e
 have ne6:∀{z o},m5 z=some o->z≠b7:=fun{z o} e e2=>by rw[e2,hb6.m_]at e;cases e
 have m5a:=m4a;rw[<-hu5.other b1 (ne5 m4a)]at m5a;have m5b:=m4b;rw[<-hu5.other b2 (ne5 m4b)]at m5b;have m5y:m5 y=some (.map #[] 0):=hu5.at_;refine⟨_,_,⟨hu6.at_⟩,by simp,λm7 hu7=>hK _ _ _ _ _ ⟨s6.upd n7 hu7.other,?_,?_,?_,hu7.at_,ne5 m4a,ne5 m4b,Ne.symm (ne6 m5y),ny⟩⟩
 .rw[hu7.other b1 (ne6 m5a),hu6.other b1 (ne6 m5a)];exact m5a
 .rw[hu7.other b2 (ne6 m5b),hu6.other b2 (ne6 m5b)];exact m5b
 .rw[hu7.other y (ne6 m5y),hu6.other y (ne6 m5y)];exact m5y
theorem Q6:Sound Tryz.prog 151 (Nu IP NO):=by
 refine Dz Tryz.func151 ?_;rintro cvs m h K ⟨v,t,q,bs,ls,rfl,hq,ha,hT,hok,hK⟩;refine⟨MW [(184,RX),(186,WE)] [] [] [200005,200006,200007,200009,1053,400000,0],rfl,aD JC (aD Bh aF),Gu v t m h (dJ h K),by kernel_rfl,?_⟩;show Gu v t m h (dJ h K);dsimp only[Gu,push_cast];obtain⟨op,ta,w,co,on,gr,od,li,args⟩:=q;obtain⟨h2,wa,wb,hrel,hrel',hca,hcb⟩:=hok;refine⟨v.on,on,rfl,hq.parts.on_,λsa sb h1 le1 hia hib=>NH λb1 b2 y b7 m7 st=>?_⟩;obtain⟨b,off,x,ea,hlt,rd,sq⟩:=ha.get (By (i:=1) aC);obtain⟨b6,off6,x6,ea6,hlt6,rd6,sq6⟩:=ha.get (By (i:=0) aC);obtain⟨us',hseq',hru'⟩:=(sq.mono le1).ex;obtain⟨us,hseq,hru⟩:=(sq6.mono le1).ex;simp only[NO]at hK;generalize ls.getD 1 []=l' at hru' hrel' hK sq;generalize ls.getD 0 []=l at hru hrel hK sq6;have hul:=hru.len;have hll:=hrel.len;have hul':=hru'.len;have s7:=st.sub;have ny:=st.free;refine⟨b,off,ea,aC,aC,x,.imm (rd.mono le1),sT,us',λk mx hx=>hx=h1/\(∀z o,m7 z=some o->z≠y->mx z=some o)/\nW mx y ((l'.take k).map λz=>cT (pick z (gA on))),rQ,⟨x,us',rfl,hseq',rfl⟩,⟨rfl,λz o e _=>e,by simpa using nW.new st.y_⟩,?_,?_⟩
 .rintro k e mx hx hk-⟨rfl,hs,hsn⟩
  obtain⟨r,hr,hv⟩:=hru'.at' hk;have hrl:=List.mem_of_getElem? hr;have r5:aL mx hx b7 0 [Value.map (some y)]:=.of_m (hs b7 _ st.c_ st.yc) rfl;have rb:aL mx hx b2 0 [eC sb]:=.of_m (hs b2 _ st.b_ st.yb) rfl;refine⟨y,r5,sb,rb,r5,e,sb,r,gA on,rfl,hv,hib,hrel'.row r hrl,by rw[hrel'.wid r hrl];exact hcb,hT.sub (λz o e2=>hs z o (s7 z o e2) (λe3=>by rw[e3,ny]at e2;cases e2)),r5,hsn.put (λm' hs' hsn'=>⟨rfl,λz o e2 hne=>by rw[hs'.other z hne];exact hs z o e2 hne,?_⟩)⟩;obtain⟨kk,h5,h6⟩:=hsn'.ex;exact⟨kk,h5,λq=>by rw[h6,List.take_add_one,hr];simp[or_comm]⟩
 .rintro mx hx-⟨rfl,hs,hsn⟩ b9 m5 hb5 hu5;rw[hul',List.take_length]at hsn;have s5:Sub m mx:=λz o e2=>hs z o (s7 z o e2) (λe3=>by rw[e3,ny]at e2;cases e2);obtain⟨s6,n7⟩:=gY s5 hb5 hu5
  have ne7:∀{z o},mx z=some o->m5 z=some o/\z≠b9:=fun{z o} e2=>by
   have:z≠b9:=λe3=>by rw[e3,hb5.m_]at e2;cases e2
   exact⟨by rw[hu5.other z this];exact e2,this⟩
  obtain⟨m5a,na⟩:=ne7 (hs b1 _ st.a_ st.ya);obtain⟨m5c,nc⟩:=ne7 (hs b7 _ st.c_ st.yc)
  have y7:y≠b9:=by
   obtain⟨kk,⟨es,c,h1,_⟩,_⟩:=hsn.ex;exact(ne7 h1).2
  have hsn5:=hsn.keep (hu5.other y y7);refine⟨b6,off6,ea6,aC,aC,x6,.imm (rd6.mono le1),sT,us,λk my hy=>hy=hx/\Ai m5 my b9/\∃us2,lZ m5 my b9 us2/\us2.length<=k/\eK hx us2 ((l.take k).filter λz=>l'.any λy=>agree on z y),rQ,⟨x6,us,rfl,hseq,rfl⟩,⟨rfl,λz o e _=>e,[],lZ.new hu5.at_,by simp,by simpa using eK.nil hx⟩,?_,?_⟩
  .rintro k e my hy hk-⟨rfl,hs7,us2,hout,hl2,hr2⟩
   obtain⟨r,hr,hv⟩:=hru.at' hk;have hkl:=(List.getElem?_eq_some_iff.1 hk).1;have hrl:=List.mem_of_getElem? hr;have r5:aL my hy b7 0 [Value.map (some y)]:=.of_m (hs7 b7 _ m5c nc) rfl;have r3:aL my hy b1 0 [eC sa]:=.of_m (hs7 b1 _ m5a na) rfl
   have hsn7:nW my y (l'.map λz=>cT (pick z (gA on))):=by
    obtain⟨kk,⟨es,c,h1,h2,h3,h4⟩,h5⟩:=hsn5.ex;exact⟨kk,⟨es,c,hs7 y _ h1 y7,h2,h3,h4⟩,h5⟩
   have hcr:gX r.length (j4 on):=by rw[hrel.wid r hrl];exact hca
   have key:∀t:Bool,(t=true↔cT (pick r (j4 on))∈l'.map λz=>cT (pick z (gA on)))->t=l'.any λy=>agree on r y:=λt ht=>by
    have h1:(cT (pick r (j4 on))∈l'.map λz=>cT (pick z (gA on)))↔(l'.any λy=>agree on r y)=true:=by
     rw[List.mem_map,List.any_eq_true];constructor
     .rintro⟨z,hz,e2⟩;exact⟨z,hz,(F6 (hrel.row r hrl) (hrel'.row z hz) hcr (by rw[hrel'.wid z hz];exact hcb)).1 e2.symm⟩
     .rintro⟨z,hz,e2⟩;exact⟨z,hz,((F6 (hrel.row r hrl) (hrel'.row z hz) hcr (by rw[hrel'.wid z hz];exact hcb)).2 e2).symm⟩
    rw[h1]at ht;cases t
    .cases e2:l'.any λy=>agree on r y with
     |false=>rfl
     |true=>exact ht.2 e2
    .exact(ht.1 rfl).symm
   refine⟨y,r5,sa,r3,r5,e,sa,r,j4 on,rfl,hv,hia,hrel.row r hrl,hcr,hT.sub (s6.x n7 hs7),r5,r3,hsn7.get (K:=λt=>branch t _ _) (λt ht=>?_)⟩;have e3:=key t ht;refine aB (λh1=>?_) (λh1=>?_)
   .refine lZ.app ⟨_,hu5.at_⟩ hs7 hout aC (λm' hs' ho'=>⟨rfl,hs',us2++[e],ho',by simp;omega,?_⟩);rw[iV _ hr,if_pos (by rw[<-e3];exact h1)];exact hr2.snoc hv
   .refine⟨rfl,hs7,us2,hout,aC,?_⟩;rw[iV _ hr,if_neg (by rw[<-e3,h1];simp),List.append_nil];exact hr2
  .rintro my hy-⟨rfl,hs7,us2,hout,hl2,hr2⟩
   rw[hul,List.take_length]at hr2;obtain⟨s,hb,hrow,hfr⟩:=hout.ex;refine⟨s,.of_m hb rfl,dJ.row (s6.x n7 hs7) le1 hrow (λj z e=>?_) (λh' le hri=>hK s h' (le1.trans le) ((hr2.mono le).rows hri (by have:=hr2.len;omega)))⟩;cases e2:m z with
   |none=>rfl
   |some o=>have e1:=hfr j z e;rw[s6 z o e2]at e1;cases e1
structure nX(m0 m:MH)(y:Nat)(kk:List (ByteArray×Sl))(us:ByteArray->List Sl):Prop where
 map_:jZ m y (kk.map λp=>(Value.string p.1,eC p.2))
 nodup:(kk.map Prod.fst).Nodup
 row:∀p∈kk,dH m p.2 74 1 ((us p.1).map eS)
 fresh:∀p∈kk,∀x i,p.2.a=some ⟨x,i,none⟩->m0 x=none
 apart:∀p∈kk,∀q∈kk,p.1≠q.1->∀x i j,p.2.a=some ⟨x,i,none⟩->q.2.a≠some ⟨x,j,none⟩
 none_:∀k,k∉kk.map Prod.fst->us k=[]
 old:∀x o,m0 x=some o->x≠y->m x=some o
def Bx(kk:List (ByteArray×Sl))(key:ByteArray)(s:Sl):Prop:=(s=⟨none,0,0⟩/\key∉kk.map Prod.fst)\/(key,s)∈kk
theorem nX.new{y:Nat}(h:m y=some (.map #[] 0)):nX m m y [] λ_=>[]:=⟨⟨#[],0,h,rfl,by simp,by simp⟩,by simp,by simp,by simp,by simp,λ_ _=>rfl,λ_ _ e _=>e⟩
theorem Bx.row{m0:MH}{y:Nat}{kk:List (ByteArray×Sl)}{us:ByteArray->List Sl}{key:ByteArray}{s:Sl}(g:nX m0 m y kk us)(hs:Bx kk key s):dH m s 74 1 ((us key).map eS)/\∀x i,s.a=some ⟨x,i,none⟩->m0 x=none:=by
 rcases hs with⟨rfl,hn⟩|hp
 .rw[g.none_ key hn];exact⟨⟨zW [],.inl ⟨rfl,rfl⟩⟩,λx i e=>by cases e⟩
 .exact⟨g.row _ hp,g.fresh _ hp⟩
theorem nX.keep{m0:MH}{y:Nat}{kk:List (ByteArray×Sl)}{us:ByteArray->List Sl}(g:nX m0 m y kk us)(hk:∀x o,m x=some o->m' x=some o):nX m0 m' y kk us:=by
 obtain⟨es,c,h1,h2,h3,h4⟩:=g.map_;refine⟨⟨es,c,hk _ _ h1,h2,h3,h4⟩,g.nodup,λp hp=>?_,g.fresh,g.apart,g.none_,λx o h1 h2=>hk x o (g.old x o h1 h2)⟩;obtain⟨hr,hx⟩:=g.row p hp;refine⟨hr,hx.imp id ?_⟩;rintro⟨b,cap,cur,e,hm,h⟩;exact⟨b,cap,cur,e,hk _ _ hm,h⟩
def Kf(us:ByteArray->List Sl)(key:ByteArray)(e:Sl):ByteArray->List Sl:=λk=>if k=key then us k++[e]else us k
theorem nX.core{m0 m1:MH}{y:Nat}{kk kk':List (ByteArray×Sl)}{us:ByteArray->List Sl}{key:ByteArray}{s s' e:Sl}(g:nX m0 m y kk us)(hy:∃o,m0 y=some o)(hs:Bx kk key s)(hg:eM m m1 s s' 74 1 ((us key).map eS++[[eC e]]))
 (hm:jZ m' y (kk'.map λp=>(Value.string p.1,eC p.2)))(hsame:iX m1 m' y)(hnd:(kk'.map Prod.fst).Nodup)(hmem:∀p∈kk',p=(key,s')\/(p∈kk/\p.1≠key))(hkey:(key,s')∈kk')(hkk:∀k,k∈kk.map Prod.fst->k∈kk'.map Prod.fst):nX m0 m' y kk' (Kf us key e):=by
 obtain⟨oy,hy⟩:=hy;obtain⟨hrow,hfr⟩:=hs.row g;obtain⟨es,c,h1,_⟩:=g.map_;have hny:∀i,s.a≠some ⟨y,i,none⟩:=λi e2=>by rw[hfr y i e2]at hy;cases hy
 have hdom:∀x,m x=none->m0 x=none:=λx hx=>by
  cases h0:m0 x with
  |none=>rfl
  |some o=>
   by_cases hxy:x=y
   .subst hxy;rw[hx]at h1;cases h1
   .rw[g.old x o h0 hxy]at hx;cases hx
 have hs'f:∀x i,s'.a=some ⟨x,i,none⟩->m0 x=none:=λx i e2=>by
  rcases hg.fresh x i e2 with h|⟨j,h⟩
  .exact hdom x h
  .exact hfr x j h
 have hsome:∀p∈kk,∀x i,p.2.a=some ⟨x,i,none⟩->∃o,m x=some o:=λp hp x i e2=>by
  rcases(g.row p hp).ex with⟨h,_⟩|⟨b,cap,cur,h,hm,_⟩
  .rw[h]at e2;cases e2
  .rw[h]at e2;simp only[Option.some.injEq,Addr.mk.injEq]at e2;exact⟨_,e2.1▸hm⟩
 have hap:∀p∈kk,p.1≠key->∀x i j,p.2.a=some ⟨x,i,none⟩->s.a≠some ⟨x,j,none⟩:=λp hp hne x i j e2 e3=>by
  rcases hs with⟨rfl,_⟩|hs
  .cases e3
  .exact g.apart p hp _ hs hne x i j e2 e3
 refine⟨hm,hnd,λp hp=>?_,λp hp x i e2=>?_,λp hp q hq hne x i j e2 e3=>?_,λk hk=>?_,λx o h0 hne=>?_⟩
 .rcases hmem p hp with rfl|⟨hp',hne⟩
  .have e1:(Kf us key e key).map eS=(us key).map eS++[[eC e]]:=by simp[Kf,eS]
   rw[e1];exact dH.keep hg.row λb i e2=>hsame.other b (λe3=>by rw[e3]at e2;rw[hs'f y i e2]at hy;cases hy)
  .have e1:Kf us key e p.1=us p.1:=if_neg hne;rw[e1];refine dH.keep (g.row p hp') λb i e2=>?_;obtain⟨o,ho⟩:=hsome p hp' b i e2;rw[hsame.other b (λe3=>by rw[e3]at e2;rw[g.fresh p hp' y i e2]at hy;cases hy),ho];exact hg.other b o ho (λj=>hap p hp' hne b i j e2)
 .rcases hmem p hp with rfl|⟨hp',_⟩
  .exact hs'f x i e2
  .exact g.fresh p hp' x i e2
 .have hx:∀p∈kk,p.1≠key->∀i j,p.2.a=some ⟨x,i,none⟩->s'.a≠some ⟨x,j,none⟩:=λp hp hne i j e2 e3=>by
   rcases hg.fresh x j e3 with h|⟨j',h⟩
   .obtain⟨o,ho⟩:=hsome p hp x i e2;rw[h]at ho;cases ho
   .exact hap p hp hne x i j' e2 h
  rcases hmem p hp with rfl|⟨hp',hpn⟩<;>rcases hmem q hq with rfl|⟨hq',hqn⟩
  .exact hne rfl
  .exact hx q hq' hqn j i e3 e2
  .exact hx p hp' hpn i j e2 e3
  .exact g.apart p hp' q hq' hne x i j e2 e3
 .have hk1:k≠key:=λe2=>hk (List.mem_map.2 ⟨_,hkey,e2.symm⟩);simp only[Kf,if_neg hk1];exact g.none_ k λh=>hk (hkk k h)
 .rw[hsame.other x hne];exact hg.other x o (g.old x o h0 hne) (λi e2=>by have h5:=hfr x i e2;rw[h0]at h5;cases h5)
theorem nX.put{m0 m1:MH}{y:Nat}{kk:List (ByteArray×Sl)}{us:ByteArray->List Sl}{key:ByteArray}{s s' e:Sl}{Q:MH->Prop}(g:nX m0 m y kk us)(hy:∃o,m0 y=some o)(hs:Bx kk key s)(hg:eM m m1 s s' 74 1 ((us key).map eS++[[eC e]]))
 (hQ:∀m' kk',nX m0 m' y kk' (Kf us key e)->Q m'):
 ∃(kvs:List (Value×Value))(Ok:Value->Prop),jZ m1 y kvs/\KeyLaw Tryz.prog 9 Ok/\Ok (.string key)/\Instr.sameBits 10000 (Value.string key) (Value.string key)=true/\(∀e,List.Mem e kvs->Ok e.1)/\((∀e,List.Mem e kvs->e.1=Value.string key->False)->∀m':MH,iX m1 m' y->jZ m' y (kvs++[(Value.string key,eC s')])->Q m')/\
  ∀(l1:List (Value×Value))(v0:Value)(l2:List (Value×Value)),kvs=l1++(Value.string key,v0)::l2->∀m':MH,iX m1 m' y->jZ m' y (l1++(Value.string key,eC s')::l2)->Q m':=by
 have hny:∀i,s.a≠some ⟨y,i,none⟩:=λi e2=>by
  obtain⟨o,ho⟩:=hy;rw[(hs.row g).2 y i e2]at ho;cases ho
 obtain⟨es,c,h1,h2,h3,h4⟩:=g.map_;refine⟨kk.map λp=>(Value.string p.1,eC p.2),_,⟨es,c,hg.other _ _ h1 hny,h2,h3,h4⟩,Ar,⟨key,rfl⟩,NQ key,λe he=>?_,λhn m' hsame hm'=>?_,λl1 v0 l2 e0 m' hsame hm'=>?_⟩
 .obtain⟨k,_,rfl⟩:=List.mem_map.1 (show e∈_ from he);exact⟨k.1,rfl⟩
 .have hnk:key∉kk.map Prod.fst:=λh=>by
   obtain⟨p,hp,e2⟩:=List.mem_map.1 h;subst e2;exact hn _ (List.mem_map_of_mem (f:=λp:ByteArray×Sl=>(Value.string p.1,eC p.2)) hp) rfl
  refine hQ m' (kk++[(key,s')]) (g.core hy hs hg (by simpa using hm') hsame ?_ ?_ (by simp) (λk hk=>by rw[List.map_append];exact List.mem_append_left _ hk))
  .rw[List.map_append,List.nodup_append];refine⟨g.nodup,by simp,λa ha b hb e2=>?_⟩;simp at hb;subst e2 hb;exact hnk ha
  .intro p hp;rcases List.mem_append.1 hp with h|h
   .exact .inr ⟨h,λe2=>hnk (e2▸List.mem_map_of_mem h)⟩
   .exact .inl (by simpa using h)
 .obtain⟨k1,k2',e1,e2,e3⟩:=List.map_eq_append_iff.1 e0;obtain⟨p,k2,e4,e5,e6⟩:=List.map_eq_cons_iff.1 e3;subst e1 e4 e2 e6;simp only[Prod.mk.injEq,Value.string.injEq]at e5;have hnd:=g.nodup;rw[List.map_append,List.map_cons,e5.1]at hnd;have hnd2:=List.nodup_append.1 hnd;have hnd3:=List.nodup_cons.1 hnd2.2.1;refine hQ m' (k1++(key,s')::k2) (g.core hy hs hg (by simpa using hm') hsame (by simpa using hnd) ?_ (by simp) (λk hk=>by simpa[e5.1]using hk));intro q hq;rcases List.mem_append.1 hq with h|h
  .exact .inr ⟨List.mem_append_left _ h,λe7=>hnd2.2.2 q.1 (List.mem_map_of_mem h) key (List.mem_cons_self ..) e7⟩
  .rcases List.mem_cons.1 h with h|h
   .exact .inl h
   .exact .inr ⟨List.mem_append_right _ (List.mem_cons_of_mem _ h),λe7=>hnd3.1 (e7▸List.mem_map_of_mem h)⟩
theorem nX.app{m0:MH}{hx:PH}{y c:Nat}{T:TypeId}{kk:List (ByteArray×Sl)}{us:ByteArray->List Sl}{key:ByteArray}{s e:Sl}{Q:MH->Prop}(g:nX m0 m y kk us)(hy:∃o,m0 y=some o)(hc0:∃o,m0 c=some o)(hc:m c=some (.cells #[.map (some y)] T (0,0)))(hl:(us key).length<=502633886983)
 (hQ:∀m' kk',nX m0 m' y kk' (Kf us key e)->Q m')(hs:Bx kk key s):
 ∃xs:List (List Value),dH m (Sl.mk s.a s.len s.cap) 74 1 xs/\(xs.length+1)*24<=140737488355328/\xs.length<140737488355328/\∀(s':Sl)(m1:MH),eM m m1 (Sl.mk s.a s.len s.cap) s' 74 1 (xs++[[eC e]])->
  aL m1 hx c 0 [Value.map (some y)]/\aL m1 hx c 0 [Value.map (some y)]/\
 ∃(kvs:List (Value×Value))(Ok:Value->Prop),jZ m1 y kvs/\KeyLaw Tryz.prog 9 Ok/\Ok (.string key)/\Instr.sameBits 10000 (Value.string key) (Value.string key)=true/\(∀e,List.Mem e kvs->Ok e.1)/\((∀e,List.Mem e kvs->e.1=Value.string key->False)->∀m':MH,iX m1 m' y->jZ m' y (kvs++[(Value.string key,eC s')])->Q m')/\
  ∀(l1:List (Value×Value))(v0:Value)(l2:List (Value×Value)),kvs=l1++(Value.string key,v0)::l2->∀m':MH,iX m1 m' y->jZ m' y (l1++(Value.string key,eC s')::l2)->Q m':=by
 obtain⟨hrow,hfr⟩:=hs.row g;refine⟨_,hrow,by simp;omega,by simp;omega,λs' m1 hg=>?_⟩
 have r:aL m1 hx c 0 [Value.map (some y)]:=.of_m (hg.other c _ hc λi e2=>by
  obtain⟨o,ho⟩:=hc0;have e2:s.a=some ⟨c,i,none⟩:=e2;rw[hfr c i e2]at ho;cases ho) rfl
 exact⟨r,r,g.put hy hs hg hQ⟩
theorem nX.get2{m0:MH}{y:Nat}{kk:List (ByteArray×Sl)}{us:ByteArray->List Sl}{key:ByteArray}{K0:Prop}{K:Sl->Prop}(g:nX m0 m y kk us)(h0:Bx kk key ⟨none,0,0⟩->K0)(hK:∀s,Bx kk key s->K s):
 ∃(kvs:List (Value×Sl))(Ok:Value->Prop),y8 m y (kvs.map λp=>(p.1,eC p.2))/\KeyLaw Tryz.prog 9 Ok/\Ok (.string key)/\(∀e,List.Mem e kvs->Ok e.1)/\((∀e,List.Mem e kvs->e.1=Value.string key->False)->K0)/\∀t,List.Mem (Value.string key,t) kvs->K t:=by
 obtain⟨es,c,h1,h2,_,_⟩:=g.map_;refine⟨kk.map λp=>(.string p.1,p.2),_,⟨es,c,h1,by rw[h2];simp⟩,Ar,⟨key,rfl⟩,λe he=>?_,λhn=>h0 (.inl ⟨rfl,λh=>?_⟩),λt ht=>hK t (.inr ?_)⟩
 .obtain⟨k,_,rfl⟩:=List.mem_map.1 (show e∈_ from he);exact⟨k.1,rfl⟩
 .obtain⟨p,hp,e⟩:=List.mem_map.1 h;subst e;exact hn (.string p.1,p.2) (List.mem_map_of_mem (f:=λp:ByteArray×Sl=>(Value.string p.1,p.2)) hp) rfl
 .obtain⟨p,hp,e⟩:=List.mem_map.1 (show(Value.string key,t)∈_ from ht);simp only[Prod.mk.injEq,Value.string.injEq]at e;obtain⟨e1,e2⟩:=e;subst e1 e2;exact hp
structure PU(m0 m:MH)(h:PH)(y:Nat)(f:ByteArray->List (List VV)):Prop where
 ex:∃kk us,nX m0 m y kk us/\∀k,eK h (us k) (f k)
theorem PU.upd{m0:MH}{y:Nat}{kk:List (ByteArray×Sl)}{us:ByteArray->List Sl}{f f':ByteArray->List (List VV)}{key:ByteArray}{e:Sl}{r:List VV}(g:nX m0 m' y kk (Kf us key e))(hf:∀k,eK h (us k) (f k))(hv:cC h e r)(e1:f' key=f key++[r])(e2:∀k,k≠key->f' k=f k):PU m0 m' h y f':=by
 refine⟨kk,_,g,λk=>?_⟩;by_cases hk:k=key
 .subst hk;rw[e1];have:Kf us k e k=us k++[e]:=if_pos rfl;rw[this];exact(hf k).snoc hv
 .rw[e2 k hk];have:Kf us key e k=us k:=if_neg hk;rw[this];exact hf k
def Au(cols:List Int)(r:List VV):Bool:=(pick r cols).all lH
def kD(on:List (Int×Int))(b:List (List VV))(x:List VV):List (List VV):=
 if Au (j4 on) x then(b.filter λy=>Au (gA on) y&&agree on x y).map (x++ ·)else[]
def Og(q:Query)(ls:List (List (List VV))):List (List VV):=match q with|.mk _ _ _ _ on _ _ _ _=>(ls.getD 0 []).flatMap (kD on (ls.getD 1 []))
def IT(q:Query)(ls:List (List (List VV))):Prop:=match q with|.mk _ _ _ _ on _ _ _ _=>Zf on ls/\(ls.getD 0 []).length*(ls.getD 1 []).length<=1000000
theorem uJ{α β:Type}{f:α->List β}{n:Nat}:∀{l:List α},(∀x∈l,(f x).length<=n)->(l.flatMap f).length<=l.length*n
 |[],_=>by simp
 |a::l,h=>by
  have h1:=h a (List.mem_cons_self ..);have h2:=uJ (l:=l) λx hx=>h x (List.mem_cons_of_mem _ hx);simp only[List.flatMap_cons,List.length_append,List.length_cons,Nat.add_mul,Nat.one_mul];omega
theorem wD{α β:Type}{l:List α}{x:α}(f:α->List β)(hx:l[k]? =some x):(l.take (k+1)).flatMap f=(l.take k).flatMap f++f x:=by
 rw[List.take_add_one,hx];simp
theorem yP{on:List (Int×Int)}{b:List (List VV)}{x:List VV}:(kD on b x).length<=b.length:=by
 unfold kD;split
 .rw[List.length_map];exact List.length_filter_le _ _
 .simp
def under(cols:List Int)(l:List (List VV))(key:ByteArray):List (List VV):=l.filter λz=>Au cols z&&decide (cT (pick z cols)=key)
theorem DB{cols:List Int}{l:List (List VV)}{r:List VV}(hr:l[k]? =some r)(key:ByteArray):under cols (l.take (k+1)) key=under cols (l.take k) key++(if Au cols r&&decide (cT (pick r cols)=key)then[r]else[]):=iV _ hr
theorem Q7:Sound Tryz.prog 150 (Nu IT Og):=by
 refine Dz Tryz.func150 ?_;rintro cvs m h K ⟨v,t,q,bs,ls,rfl,hq,ha,hT,hok,hK⟩;refine⟨VO,rfl,aD JC (aD Bh (aD QT (aD QS aF))),Gv v t m h (dJ h K),by kernel_rfl,?_⟩;show Gv v t m h (dJ h K);dsimp only[Gv,push_cast];obtain⟨op,ta,w,co,on,gr,od,li,args⟩:=q;obtain⟨⟨h2,wa,wb,hrel,hrel',hca,hcb⟩,hpr⟩:=hok;refine⟨v.on,on,rfl,hq.parts.on_,λsa sb h1 le1 hia hib=>NH λb1 b2 y b7 m7 st=>?_⟩;obtain⟨b,off,x,ea,hlt,rd,sq⟩:=ha.get (By (i:=1) aC);obtain⟨b6,off6,x6,ea6,hlt6,rd6,sq6⟩:=ha.get (By (i:=0) aC);obtain⟨us',hseq',hru'⟩:=(sq.mono le1).ex;obtain⟨us,hseq,hru⟩:=(sq6.mono le1).ex;simp only[Og]at hK;generalize ls.getD 1 []=l' at hru' hrel' hK sq hpr;generalize ls.getD 0 []=l at hru hrel hK sq6 hpr;have hul:=hru.len;have hll:=hrel.len;have hll':=hrel'.len;have hul':=hru'.len;have s7:=st.sub;have ny:=st.free;have gsub:∀{mx kk us},nX m7 mx y kk us->Sub m mx:=λg z o e2=>g.old z o (s7 z o e2) (λe3=>by rw[e3,ny]at e2;cases e2);refine⟨b,off,ea,aC,aC,x,.imm (rd.mono le1),sT,us',λk mx hx=>hx=h1/\PU m7 mx h1 y (under (gA on) (l'.take k)),rQ,⟨x,us',rfl,hseq',rfl⟩,⟨rfl,⟨[],_,nX.new st.y_,λk=>by simpa[under]using eK.nil h1⟩⟩,?_,?_⟩
 .rintro k e mx hx hk-⟨rfl,⟨kk,uk,g,hg⟩⟩
  obtain⟨r,hr,hv⟩:=hru'.at' hk;have hrl:=List.mem_of_getElem? hr;have hcr:gX r.length (gA on):=by rw[hrel'.wid r hrl];exact hcb
  have mc:=g.old b7 _ st.c_ st.yc;have r5:aL mx hx b7 0 [Value.map (some y)]:=.of_m mc rfl;have rb:aL mx hx b2 0 [eC sb]:=.of_m (g.old b2 _ st.b_ st.yb) rfl;refine⟨sb,rb,e,sb,r,gA on,rfl,hv,hib,hcr,aB (λhreal=>?_) (λhreal=>?_)⟩
  .have hl:(uk (cT (pick r (gA on)))).length<=502633886983:=by
    have h5:=(hg (cT (pick r (gA on)))).len;have h6:(under (gA on) (l'.take k) (cT (pick r (gA on)))).length<=(l'.take k).length:=List.length_filter_le _ _;rw[List.length_take]at h6;omega
   have app:=fun{s:Sl}=>g.app (hx:=hx) (e:=e) (s:=s) (Q:=λm'=>hx=hx/\PU m7 m' hx y (under (gA on) (l'.take (k+1)))) ⟨_,st.y_⟩ ⟨_,st.c_⟩ mc hl (λm' kk' g'=>⟨rfl,PU.upd g' hg hv (by rw[DB hr,if_pos];simpa[Au]using hreal) (λk2 hk2=>by rw[DB hr,if_neg,List.append_nil];simp[Ne.symm hk2])⟩);exact⟨sb,rb,e,sb,r,gA on,rfl,hv,hib,hrel'.row r hrl,hcr,hT.sub (gsub g),y,r5,y,r5,⟨r5,g.get2 (λhs=>⟨r5,r5,r5,r5,app hs⟩) (λs hs=>⟨r5,r5,r5,r5,app hs⟩)⟩,r5,r5,r5,g.get2 (λhs=>⟨r5,r5,app hs⟩) (λs hs=>⟨r5,r5,app hs⟩)⟩
  .refine⟨rfl,⟨kk,uk,g,λk2=>?_⟩⟩;rw[DB hr,if_neg,List.append_nil]
   .exact hg k2
   .simp[Au,hreal]
 .rintro mx hx-⟨rfl,gr⟩ b9 m5 hb5 hu5;rw[hul',List.take_length]at gr
  have ne7:∀{z o},mx z=some o->m5 z=some o/\z≠b9:=fun{z o} e2=>by
   have:z≠b9:=λe3=>by rw[e3,hb5.m_]at e2;cases e2
   exact⟨by rw[hu5.other z this];exact e2,this⟩
  have s5:Sub m mx:=by
   obtain⟨kk,uk,g,_⟩:=gr.ex;exact gsub g
  obtain⟨s6,n7⟩:=gY s5 hb5 hu5;obtain⟨kk,uk,g,hg⟩:=gr.ex;refine⟨b6,off6,ea6,aC,aC,x6,.imm (rd6.mono le1),sT,us,λk my hy=>PH.le hx hy/\Ai m5 my b9/\∃us2,lZ m5 my b9 us2/\eK hy us2 ((l.take k).flatMap (kD on l')),rQ,⟨x6,us,rfl,hseq,rfl⟩,⟨.refl _,λz o e _=>e,[],lZ.new hu5.at_,by simpa using eK.nil hx⟩,?_,?_⟩
  .rintro k e my hy hk-⟨le,hs7,us2,hout,hr2⟩
   obtain⟨r,hr,hv⟩:=hru.at' hk;have hkl:=(List.getElem?_eq_some_iff.1 hk).1;have hrl:=List.mem_of_getElem? hr;have old7:∀z o,mx z=some o->my z=some o:=λz o e2=>hs7 z o (ne7 e2).1 (ne7 e2).2;have g7:=g.keep old7;have r5:aL my hy b7 0 [Value.map (some y)]:=.of_m (g7.old b7 _ st.c_ st.yc) rfl;have r3:aL my hy b1 0 [eC sa]:=.of_m (g7.old b1 _ st.a_ st.ya) rfl;have hcr:gX r.length (j4 on):=by rw[hrel.wid r hrl];exact hca
   have hv':=cC.mono hv le;refine⟨sa,r3,e,sa,r,j4 on,rfl,hv',hia.mono le,hcr,aB (λhreal=>?_) (λhreal=>?_)⟩
   .refine⟨le,hs7,us2,hout,?_⟩;have:kD on l' r=[]:=if_neg (by simpa[Au]using hreal);rw[wD _ hr,this,List.append_nil];exact hr2
   .have hreal:(pick r (j4 on)).all lH=true:=by simpa using hreal
    have hgl:under (gA on) l' (cT (pick r (j4 on)))=l'.filter λy=>Au (gA on) y&&agree on r y:=by
     refine List.filter_congr λz hz=>?_;congr 1;have h5:=F6 (hrel.row r hrl) (hrel'.row z hz) hcr (by rw[hrel'.wid z hz];exact hcb);cases e5:agree on r z with
     |true=>exact decide_eq_true (h5.2 e5).symm
     |false=>exact decide_eq_false λe6=>by rw[h5.1 e6.symm]at e5;cases e5
    have hjr:kD on l' r=(under (gA on) l' (cT (pick r (j4 on)))).map (r++ ·):=by rw[hgl];exact if_pos (by simpa[Au]using hreal)
    have hpre:((l.take k).flatMap (kD on l')).length+(under (gA on) l' (cT (pick r (j4 on)))).length<=1000000:=by
     have h5:((l.take (k+1)).flatMap (kD on l')).length<=(l.take (k+1)).length*l'.length:=uJ λx _=>yP;rw[wD _ hr,List.length_append,hjr,List.length_map]at h5;have h6:(l.take (k+1)).length*l'.length<=l.length*l'.length:=Nat.mul_le_mul_right _ (by rw[List.length_take];omega);omega
    have loop:∀s,Bx kk (cT (pick r (j4 on))) s->dH mx s 74 1 ((uk (cT (pick r (j4 on)))).map eS):=λs hs=>(hs.row g).1;generalize hG:under (gA on) l' (cT (pick r (j4 on)))=G at hjr hpre;have hGu:=hg (cT (pick r (j4 on)));rw[hG]at hGu;have hGl:=hGu.len;refine⟨y,r5,sa,r3,r5,e,sa,r,j4 on,rfl,hv',hia.mono le,hrel.row r hrl,hcr,hT.sub (s6.x n7 hs7),r5,r3,g7.get2 (λhs=>?_) (λs hs=>?_)⟩
    .refine⟨λz=>z.1<=G.length/\z.2.1=b9/\z.2.2.1=e/\z.2.2.2.1=(⟨none,0,0⟩:Sl)/\PH.le hy z.2.2.2.2.2/\Ai m5 z.2.2.2.2.1 b9/\∃us3,lZ m5 z.2.2.2.2.1 b9 us3/\eK z.2.2.2.2.2 us3 ((l.take k).flatMap (kD on l')++(G.take z.1).map (r++ ·)),λz=>G.length-z.1,⟨(0,b9,e,(⟨none,0,0⟩:Sl),my,hy),⟨by simp,rfl,rfl,rfl,.refl _,hs7,us2,hout,by simpa using hr2⟩,MT⟩,?_⟩;rintro⟨i,bb,ee,gg,mz,hz⟩ ⟨hi,e1,e2,e3,lez,hsz,us3,houtz,hrz⟩;dsimp only at hi e1 e2 e3 lez hsz houtz hrz;subst e1 e2 e3;have gz:=g.keep (λz o e2=>hsz z o (ne7 e2).1 (ne7 e2).2);have hrow:=(hs.row gz).1;have hsl:=hrow.slen;rw[List.length_map,hGl]at hsl;refine aE (λhlt2=>?_) (λhge=>?_)
     .dsimp only at hlt2⊢
      have hiG:i<G.length:=by omega
      obtain⟨u,hu,hvu⟩:=hGu.at_ i _ (List.getElem?_eq_getElem hiG);obtain⟨b8,e8,rd8⟩:=hrow.rd (h:=hz) (i:=i) (e:=[eC u]) (by rw[List.getElem?_map,hu];rfl);obtain⟨so,hbo,hrowo,hfro⟩:=houtz.ex;have rdo:∀hh,aL mz hh bb 0 [eC so]:=λhh=>.of_m hbo rfl;have hru3:=hrz.len;simp only[List.length_append,List.length_map,List.length_take]at hru3;refine⟨b8,0,e8,aC,aC,u,by simpa using rd8,so,rdo _,rdo _,rdo _,λs2 h3 le3 hri=>⟨s2,[r,G[i]],rfl,?_,by simp,?_,λsl h4 le4 hsl4=>⟨rdo _,rdo _,Eo ⟨_,hu5.at_⟩ hsz hbo hrowo hfro aC (λm' hs' ho'=>⟨(i+1,bb,ee,⟨none,0,0⟩,m',h4),⟨by dsimp only;omega,rfl,rfl,rfl,lez.trans (le3.trans le4),hs',us3++[sl],ho',?_⟩,by dsimp only;omega,?_⟩)⟩⟩⟩
      .refine eK.rows (us:=[ee,u]) ?_ hri (by simp);refine⟨rfl,λj z hj=>?_⟩
       match j,hj with
       |0,hj=>
        simp at hj;subst hj;exact⟨ee,rfl,cC.mono hv' (lez.trans le3)⟩
       |1,hj=>
        simp at hj;subst hj;exact⟨u,rfl,cC.mono hvu (le.trans (lez.trans le3))⟩
      .intro z hz2;have hz2:z∈[r,G[i]]:=hz2;rcases List.mem_cons.1 hz2 with rfl|hz2
       .exact(hrel.row _ hrl).len
       .have e7:=List.mem_singleton.1 hz2
        have:z∈l':=by
         have h9:z∈under (gA on) l' (cT (pick r (j4 on))):=by rw[hG,e7];exact List.getElem_mem _
         exact(List.mem_filter.1 h9).1
        exact(hrel'.row _ this).len
      .have e7:(G.take (i+1)).map (r++ ·)=(G.take i).map (r++ ·)++[r++G[i]]:=by rw[List.take_add_one,List.getElem?_eq_getElem hiG,List.map_append];rfl
       rw[e7, <-List.append_assoc];exact(hrz.mono (le3.trans le4)).snoc (by simpa using hsl4)
      .dsimp only;exact⟨rfl,rfl,rfl,rfl,by rw[iM aC],rfl,rfl,trivial⟩
     .dsimp only at hge⊢
      have:i=G.length:=by have hsl:0=G.length:=hsl;omega
      subst this;refine⟨le.trans lez,hsz,us3,houtz,?_⟩;rw[wD _ hr,hjr];rw[List.take_length]at hrz;exact hrz
    .refine⟨λz=>z.1<=G.length/\z.2.1=b9/\z.2.2.1=e/\z.2.2.2.1=s/\PH.le hy z.2.2.2.2.2/\Ai m5 z.2.2.2.2.1 b9/\∃us3,lZ m5 z.2.2.2.2.1 b9 us3/\eK z.2.2.2.2.2 us3 ((l.take k).flatMap (kD on l')++(G.take z.1).map (r++ ·)),λz=>G.length-z.1,⟨(0,b9,e,s,my,hy),⟨by simp,rfl,rfl,rfl,.refl _,hs7,us2,hout,by simpa using hr2⟩,MT⟩,?_⟩;rintro⟨i,bb,ee,gg,mz,hz⟩ ⟨hi,e1,e2,e3,lez,hsz,us3,houtz,hrz⟩;dsimp only at hi e1 e2 e3 lez hsz houtz hrz;subst e1 e2 e3;have gz:=g.keep (λz o e2=>hsz z o (ne7 e2).1 (ne7 e2).2);have hrow:=(hs.row gz).1;have hsl:=hrow.slen;rw[List.length_map,hGl]at hsl;refine aE (λhlt2=>?_) (λhge=>?_)
     .dsimp only at hlt2⊢
      have hiG:i<G.length:=by omega
      obtain⟨u,hu,hvu⟩:=hGu.at_ i _ (List.getElem?_eq_getElem hiG);obtain⟨b8,e8,rd8⟩:=hrow.rd (h:=hz) (i:=i) (e:=[eC u]) (by rw[List.getElem?_map,hu];rfl);obtain⟨so,hbo,hrowo,hfro⟩:=houtz.ex;have rdo:∀hh,aL mz hh bb 0 [eC so]:=λhh=>.of_m hbo rfl;have hru3:=hrz.len;simp only[List.length_append,List.length_map,List.length_take]at hru3;refine⟨b8,0,e8,aC,aC,u,by simpa using rd8,so,rdo _,rdo _,rdo _,λs2 h3 le3 hri=>⟨s2,[r,G[i]],rfl,?_,by simp,?_,λsl h4 le4 hsl4=>⟨rdo _,rdo _,Eo ⟨_,hu5.at_⟩ hsz hbo hrowo hfro aC (λm' hs' ho'=>⟨(i+1,bb,ee,gg,m',h4),⟨by dsimp only;omega,rfl,rfl,rfl,lez.trans (le3.trans le4),hs',us3++[sl],ho',?_⟩,by dsimp only;omega,?_⟩)⟩⟩⟩
      .refine eK.rows (us:=[ee,u]) ?_ hri (by simp);refine⟨rfl,λj z hj=>?_⟩
       match j,hj with
       |0,hj=>
        simp at hj;subst hj;exact⟨ee,rfl,cC.mono hv' (lez.trans le3)⟩
       |1,hj=>
        simp at hj;subst hj;exact⟨u,rfl,cC.mono hvu (le.trans (lez.trans le3))⟩
      .intro z hz2;have hz2:z∈[r,G[i]]:=hz2;rcases List.mem_cons.1 hz2 with rfl|hz2
       .exact(hrel.row _ hrl).len
       .have e7:=List.mem_singleton.1 hz2
        have:z∈l':=by
         have h9:z∈under (gA on) l' (cT (pick r (j4 on))):=by rw[hG,e7];exact List.getElem_mem _
         exact(List.mem_filter.1 h9).1
        exact(hrel'.row _ this).len
      .have e7:(G.take (i+1)).map (r++ ·)=(G.take i).map (r++ ·)++[r++G[i]]:=by rw[List.take_add_one,List.getElem?_eq_getElem hiG,List.map_append];rfl
       rw[e7, <-List.append_assoc];exact(hrz.mono (le3.trans le4)).snoc (by simpa using hsl4)
      .dsimp only;exact⟨rfl,rfl,rfl,rfl,by rw[iM aC],rfl,rfl,trivial⟩
     .dsimp only at hge⊢
      have:i=G.length:=by omega
      subst this;refine⟨le.trans lez,hsz,us3,houtz,?_⟩;rw[wD _ hr,hjr];rw[List.take_length]at hrz;exact hrz
  .rintro my hy le2 ⟨le,hs7,us2,hout,hr2⟩;rw[hul,List.take_length]at hr2;obtain⟨s,hb,hrow,hfr⟩:=hout.ex;refine⟨s,.of_m hb rfl,dJ.row (s6.x n7 hs7) (le1.trans le) hrow (λj z e=>?_) (λh' le' hri=>hK s h' (le1.trans (le.trans le')) ((hr2.mono le').rows hri ?_))⟩
   .cases e2:m z with
    |none=>rfl
    |some o=>have e1:=hfr j z e;rw[s6 z o e2]at e1;cases e1
   .have h5:(l.flatMap (kD on l')).length<=l.length*l'.length:=uJ λx _=>yP;omega
noncomputable def VB:Ctx:=MW [(186,WE),(107,Wq)]
 [(7,{A:=Nat×Nat×Nat×MH×PH,st:=λ⟨b,c,r,m,h⟩=>cD 35 37 [(2,vv (.pointer (some ⟨b,0,none⟩))),(5,vv (.pointer (some ⟨c,0,none⟩))),(26,vv (.pointer (some ⟨r,0,none⟩)))] [] m h})] [] [200002,200005,1053,400000,0]
noncomputable abbrev yA(a:Nat×Nat×Nat×MH×PH):Nat->Nat->Option Value:=cQ a.2.2
abbrev Ja(a:Nat->(List (Value×Value))->(List (Value×Value))->Prop):Prop:=∃(x:Nat)(x1 x2:List (Value×Value)),a x x1 x2
attribute [push_cast] yA Ja
def Gn(v:QV)(u:Nat)(m:MH)(h:PH)(K:CV->MH->PH->Prop):Prop:=
  ∀(b:Nat)(m1:MH),aR (cH m h b) (bC m m1 b v.enc 38) (AW m1 h 0 (λb1 m2=>∀(b2:Nat)(m3:MH),aR (cH m2 h b2) (bC m2 m3 b2 (iR DN) 207) (fD (λc E=>aA (pH m3 b2 (dY c E 0)) (dU 0 c) (∀(m4:MH),bC m3 m4 b2 (fF (Br b1) 1 c) E->∃(S:PH->List Value->List (List Value)->Prop),pI S h u m4 (λx I k e=>fU (λm5 h1=>aR (sJ x k e) (PH.le h h1) (I k m5 h1->iQ m5 h1 b 17 (λy=>CF e y h1 (λr _=>Nt r) (λr c1=>aA (gX r.length c1) (jD m5) (∃(y1:Nat),kX m5 h1 b2 y1 (∃(y2:Nat),aA (cK m5 h1 b2 y2) (kX m5 h1 b2 y1 (vN m5 y2 r c1 (aA (cK m5 h1 b2 y1) (cK m5 h1 b2 y2) (aA (cK m5 h1 b2 y1) (cK m5 h1 b2 y2) (∃(x1:List (List Value)),aH (dH m5 vK 74 1 x1) (iG x1) (dN x1) (iA (λs m6=>eM m5 m6
 vK s 74 1 (eT x1 (aK e))->aA (cK m6 h1 b2 y1) (cK m6 h1 b2 y2) (uX (λk1 O=>aA (jZ m6 y1 k1) (pT O) (aA (O (bY r c1)) (mD (Instr.sameBits 10000 (bY r c1) (bY r c1))) (sO (∀(e1:Value×Value),uR e1 k1 O) ((∀(e1:Value×Value),aR (List.Mem e1 k1) (e1.1=bY r c1) False)->∀(m7:MH),aR (iX m6 m7 y1) (jZ m7 y1 (k1++uV (bY r c1) (eC s))) (I (k+1) m7 h1)) (λl=>∀(v1:Value)(l1:List (Value×Value)),k1=l++kO (bY r c1) v1 l1->∀(m7:MH),aR (iX m6 m7 y1) (jZ m7 y1 (l++kO (bY r c1) (eC s) l1)) (I (k+1) m7 h1))))))))))) (λy3=>aA (cK m5 h1 b2 y1) (cK m5 h1 b2 y2) (aA (cK m5 h1 b2 y1) (cK m5 h1 b2 y2) (∃(x1:List (List Value)),aH (dH m5 (cV y3) 74 1 x1) (iG x1) (dN x1) (iA (λs m6=>eM m5 m6
 (cV y3) s 74 1 (eT x1 (aK e))->aA (cK m6 h1 b2 y1) (cK m6 h1 b2 y2) (uX (λk1 O=>aA (jZ m6 y1 k1) (pT O) (aA (O (bY r c1)) (mD (Instr.sameBits 10000 (bY r c1) (bY r c1))) (sO (∀(e1:Value×Value),uR e1 k1 O) ((∀(e1:Value×Value),aR (List.Mem e1 k1) (e1.1=bY r c1) False)->∀(m7:MH),aR (iX m6 m7 y1) (jZ m7 y1 (k1++uV (bY r c1) (eC s))) (I (k+1) m7 h1)) (λl=>∀(v1:Value)(l1:List (Value×Value)),k1=l++kO (bY r c1) v1 l1->∀(m7:MH),aR (iX m6 m7 y1) (jZ m7 y1 (l++kO (bY r c1) (eC s) l1)) (I (k+1) m7 h1))))))))))))) (aA (cK m5 h1 b2 y1) (cK m5 h1 b2 y2) (kX m5 h1 b2 y1 (vN m5 y2 r c1 (zG (cK m5 h1 b2 y1) (cK m5 h1 b2 y2) (λx1=>aH (dH m5 vK 74 1 x1) (iG x1) (dN x1) (iA (λs m6=>
 eM m5 m6 vK s 74 1 (eT x1 (aK e))->aA (cK m6 h1 b2 y1) (cK m6 h1 b2 y2) (uX (λk1 O=>aA (jZ m6 y1 k1) (pT O) (aA (O (bY r c1)) (mD (Instr.sameBits 10000 (bY r c1) (bY r c1))) (sO (∀(e1:Value×Value),uR e1 k1 O) ((∀(e1:Value×Value),aR (List.Mem e1 k1) (e1.1=bY r c1) False)->∀(m7:MH),aR (iX m6 m7 y1) (jZ m7 y1 (k1++uV (bY r c1) (eC s))) (I (k+1) m7 h1)) (λl=>∀(v1:Value)(l1:List (Value×Value)),k1=l++kO (bY r c1) v1 l1->∀(m7:MH),aR (iX m6 m7 y1) (jZ m7 y1 (l++kO (bY r c1) (eC s) l1)) (I (k+1) m7 h1)))))))))) (λy3=>zG (cK m5 h1 b2 y1) (cK m5 h1 b2 y2) (λx1=>aH (dH m5 (cV y3) 74 1 x1) (iG x1) (dN x1) (iA (λs m6=>eM m5 m6 (cV y3) s 74 1 (eT x1 (aK e))->aA (cK
 m6 h1 b2 y1) (cK m6 h1 b2 y2) (uX (λk1 O=>aA (jZ m6 y1 k1) (pT O) (aA (O (bY r c1)) (mD (Instr.sameBits 10000 (bY r c1) (bY r c1))) (sO (∀(e1:Value×Value),uR e1 k1 O) ((∀(e1:Value×Value),aR (List.Mem e1 k1) (e1.1=bY r c1) False)->∀(m7:MH),aR (iX m6 m7 y1) (jZ m7 y1 (k1++uV (bY r c1) (eC s))) (I (k+1) m7 h1)) (λl=>∀(v1:Value)(l1:List (Value×Value)),k1=l++kO (bY r c1) v1 l1->∀(m7:MH),aR (iX m6 m7 y1) (jZ m7 y1 (l++kO (bY r c1) (eC s) l1)) (I (k+1) m7 h1)))))))))))))))))))) (λm5 h1=>∃(y:Nat),kX m5 h1 b2 y (∃(k:List (Value×Value)),j2 (jZ m5 y k) (λr=>∀(m6:MH),aR (cH m5 h1 r) (iX m5 m6 r) (kI m6 y r k k->∃(I:Nat×Nat×Nat×MH×PH->Prop)(m7:Nat×Nat×Nat×MH×PH->Nat),(∃(x:Nat×
 Nat×Nat×MH×PH),aA (I x) (cY b x.1) (aA (cY b2 x.2.1) (cY r x.2.2.1) (bT (bG m6 x.2.2.2) h1 (yA x))))/\∀(x:Nat×Nat×Nat×MH×PH),I x->Ja (λb3 k1 l=>sO (kI (dM x.2.2) b3 x.2.2.1 k1 l) (l=[]->∃(y1:Nat),kX (dM x.2.2) (yA x) x.2.1 y1 (K (CV.val (Br y1)) (dM x.2.2) (yA x))) (λl1=>∀(x1:Value×Value)(l2:List (Value×Value)),l=l1++x1::l2->∀(m8:MH),aR (iX (dM x.2.2) m8 x.2.2.1) (Dp m8 b3 x.2.2.1 k1 (l1++l2) x1) (Ja (λb4 k2 l3=>∃(x2:Value×Value),Dp m8 b4 x.2.2.1 k2 l3 x2/\∃(s:Sl)(b5:Nat)(v1:QV)(o:List (Int×Bool))(w:Nat)(p:List (Sl×List VV)),aA (bK (CV.val x2.2) (CV.val (wY 211 (Array.mk (iR (P1 x.1 0)))))=gL s (CV.val (wY 211 (Array.mk (iR (P1 b5 0)))))) (m8 b5=Option.some (dY
 (Array.mk v1.enc) 38 0)) (aA (∀(i:Nat),jO (bE s.a b5 i)) (iW (yA x) v1.order o) (aA (EC m8 s 1 p) (∀(p1:Sl×List VV),List.Mem p1 p->cC (yA x) p1.1 p1.2) (aA (∀(p1:Sl×List VV),List.Mem p1 p->p1.2.length=w) (eO p.length) (∀(p1:List (Sl×List VV))(m9:MH),aR (List.Perm p1 p) (List.Pairwise (fun(p2:Sl×List VV)=>fun(q:Sl×List VV)=>¬(kB o q.2 p2.2<0)) p1) (aR (EC m9 s 1 p1) (∀(b6:Nat),(∀(i:Nat),jO (bE s.a b6 i))->m9 b6=m8 b6) (∃(x3:Nat×Nat×Nat×MH×PH),aA (I x3) (m7 x3<m7 x) (aA (cY x.1 x3.1) (cY x.2.1 x3.2.1) (aH (cY x.2.2.1 x3.2.2.1) (bG m9 x3.2.2.2) (yA x=yA x3) True)))))))))))))))))))))
def mR(gr:List Int)(l:List (List VV))(k:ByteArray):List (List VV):=l.filter λz=>decide (cT (pick z gr)=k)
def pN(od:List (Int×Bool))(l:List (List VV)):Prop:=l.Pairwise λa b=>¬kB od b a<0
structure sU(m:MH)(h:PH)(y:Nat)(gr:List Int)(od:List (Int×Bool))(l:List (List VV))(kk:List (ByteArray×Sl))(g:ByteArray->List (List VV)):Prop where
 map_:jZ m y (kk.map λp=>(Value.string p.1,eC p.2))
 nodup:(kk.map Prod.fst).Nodup
 rows:∀p∈kk,Rows h p.2 (g p.1)
 none_:∀k,k∉kk.map Prod.fst->g k=[]
 perm:∀k,(g k).Perm (mR gr l k)
 sort:∀k,pN od (g k)
def Nn:Vc.Spec:=λcvs m h K=>∃v u gr od l w,cvs=[aQ v,.val (.func (.func 147) #[] #[.pointer (some ⟨u,0,none⟩)])]/\Ints h v.group gr/\iW h v.order od/\Kq h u l/\gZ w l/\gX w gr/\jD m/\
 ∀y m2 h2 kk g,m y=none->(∀b,b≠y->m2 b=m b)->PH.le h h2->sU m2 h2 y gr od l kk g->K (.val (.map (some y))) m2 h2
structure ZG(m:MH)(h:PH)(od:List (Int×Bool))(p:ByteArray×Sl)(f:ByteArray->List (List VV))(st:Prop):Prop where
 ex:∃ps:List (Sl×List VV),dH m p.2 74 1 (ps.map λq=>eS q.1)/\(∀q∈ps,cC h q.1 q.2)/\(ps.map Prod.snd).Perm (f p.1)/\(st->pN od (ps.map Prod.snd))
noncomputable def leftOf(m:MH)(r:Nat):Nat:=match m r with
 |some (.mapIter (some b) _ seen _)=>(match m b with|some (.map es _)=>(es.toList.filter λe=> !seen.contains e.born).length|_=>0)
 |_=>0
theorem kI.left_{r:Nat}{kvs left:List (Value×Value)}(i:kI m b r kvs left):leftOf m r=left.length:=by
 obtain⟨es,c,since,seen,c0,h1,_,_,_,h5,_,_,_,h9⟩:=i.ex;simp only[leftOf,h5,h1];rw[<-h9,List.length_map]
theorem kI.mem{r:Nat}{kvs left:List (Value×Value)}(i:kI m b r kvs left){x:Value×Value}(hx:x∈left):x∈kvs:=by
 obtain⟨es,c,since,seen,c0,h1,h2,_,_,h5,_,_,_,h9⟩:=i.ex;rw[<-h9]at hx;rw[<-h2];obtain⟨e,he,rfl⟩:=List.mem_map.1 hx;exact List.mem_map.2 ⟨e,(List.mem_filter.1 he).1,rfl⟩
theorem kI.keep{r:Nat}{kvs left:List (Value×Value)}(i:kI m b r kvs left)(h1:m' b=m b)(h2:m' r=m r):kI m' b r kvs left:=by
 obtain⟨es,c,since,seen,c0,h3,h4⟩:=i.ex;exact⟨es,c,since,seen,c0,by rw[h1];exact h3,by rw[h2];exact h4⟩
theorem kI.nodup{r:Nat}{kvs left:List (Value×Value)}(i:kI m b r kvs left)(hn:kvs.Nodup):left.Nodup:=by
 obtain⟨es,c,since,seen,c0,h1,h2,_,_,h5,_,_,_,h9⟩:=i.ex;rw[<-h9];rw[<-h2]at hn;exact hn.sublist (List.filter_sublist.map _)
theorem Zd{us:List Sl}{rs:List (List VV)}(hu:eK h us rs):∃ps:List (Sl×List VV),ps.map Prod.fst=us/\ps.map Prod.snd=rs/\∀q∈ps,cC h q.1 q.2:=by
 refine⟨us.zip rs,List.map_fst_zip (Nat.le_of_eq hu.len),List.map_snd_zip (Nat.le_of_eq hu.len.symm),λq hq=>?_⟩;obtain⟨i,hi⟩:=List.mem_iff_getElem?.1 hq;rw[List.getElem?_zip_eq_some]at hi;obtain⟨u,h1,h2⟩:=hu.at_ i _ hi.2;rw[hi.1]at h1;cases h1;exact h2
theorem dH.ice{s:Sl}{us:List Sl}(hr:dH m s 74 1 (us.map eS))(hb:∀b cur,s.a=some ⟨b,0,none⟩->m b=some (.cells cur 74 (0,0))->∀i,h b i=cur[i]?):cR h s 1 (us.map eS):=by
 rcases hr.ex with⟨rfl,hx0⟩|⟨b,cap,cur,rfl,hm,h1,h2,h3,h4⟩
 .rw[hx0];exact cR.nil _ _
 .refine⟨by simp,?_,h1⟩;by_cases hu:us.map eS=[]
  .exact .inl hu
  .refine .inr ⟨b,0,rfl,λi e hi=>⟨λj v hv=>?_⟩⟩;have hel:=hr.rows.len e (List.mem_of_getElem? hi);have hj:j=0:=by have:=(List.getElem?_eq_some_iff.1 hv).1;omega
   subst hj;have hlt:=(List.getElem?_eq_some_iff.1 hi).1
   have h5:((us.map eS).flatten)[i]? =some v:=by
    rw[List.getElem?_map]at hi;cases hu2:us[i]? with
    |none=>rw[hu2]at hi;cases hi
    |some u=>
     rw[hu2]at hi;simp at hi;subst hi;simp[eS]at hv;subst hv
     have:∀l:List Sl,(l.map eS).flatten=l.map λu=>Value.slice u.a u.len u.cap:=λl=>by
      induction l with
      |nil=>rfl
      |cons a l ih=>simp only[List.map_cons,List.flatten_cons,ih];rfl
     rw[this,List.getElem?_map,hu2];rfl
   rw[<-h4,List.getElem?_take,if_pos aC]at h5;rw[hb b cur rfl hm, <-Array.getElem?_toList,show 0+i*1+0=i by omega];exact h5
theorem Ik{kk:List (ByteArray×Sl)}(hn:(kk.map Prod.fst).Nodup){p q:ByteArray×Sl}(hp:p∈kk)(hq:q∈kk)(e:p.1=q.1):p=q:=by
 induction kk with
 |nil=>cases hp
 |cons a kk ih=>
  have hn:=List.nodup_cons.1 hn;rcases List.mem_cons.1 hp with rfl|hp2<;>rcases List.mem_cons.1 hq with rfl|hq2
  .rfl
  .exact(hn.1 (List.mem_map.2 ⟨q,hq2,e.symm⟩)).elim
  .exact(hn.1 (List.mem_map.2 ⟨p,hp2,e⟩)).elim
  .exact ih hn.2 hp2 hq2
theorem Jz:Sound Tryz.prog 191 Nn:=by
 refine Dz Tryz.func191 ?_;rintro cvs m h K ⟨v,u,gr,od,l,w,rfl,hgr,hod,sq,hrel,hcols,hT,hK⟩;refine⟨VB,rfl,aD Bh (aD Pw aF),Gn v u m h (dJ h K),by kernel_rfl,?_⟩;show Gn v u m h (dJ h K);dsimp only[Gn,push_cast];intro bq m1 hb1 hu1 y m2 hb2 hu2 bc m3 hb3 hu3;obtain⟨s1,nq⟩:=gY (Sub.refl m) hb1 hu1;obtain⟨s2,ny⟩:=gY s1 hb2 hu2;obtain⟨s3,nc⟩:=gY s2 hb3 hu3;have hqy:bq≠y:=λe=>by have:=hb2.m_;rw[<-e,hu1.at_]at this;cases this
 have m2q:m2 bq=some (.cells ⟨QV.enc v⟩ 38 (0,0)):=by rw[hu2.other bq hqy];exact hu1.at_
 have hqc:bq≠bc:=λe=>by have:=hb3.m_;rw[<-e,m2q]at this;cases this
 have hyc:y≠bc:=λe=>by have:=hb3.m_;rw[<-e,hu2.at_]at this;cases this
 refine⟨_,_,⟨hu3.at_⟩,by simp,λm4 hu4=>?_⟩;have s4:Sub m m4:=s3.upd nc hu4.other;have m4q:m4 bq=some (.cells ⟨QV.enc v⟩ 38 (0,0)):=by rw[hu4.other bq hqc,hu3.other bq hqc];exact m2q
 have m4y:m4 y=some (.map #[] 0):=by rw[hu4.other y hyc,hu3.other y hyc];exact hu2.at_
 have m4c:m4 bc=some (.cells #[.map (some y)] 207 (0,0)):=hu4.at_;obtain⟨us,hseq,hru⟩:=sq.ex;have hul:=hru.len;have hll:=hrel.len;clear hu1 hu2 hu3 hu4 hb1 hb2 hb3 s1 s2 s3 m2q;have gsub:∀{mx kk us},nX m4 mx y kk us->Sub m mx:=λg z o e2=>g.old z o (s4 z o e2) (λe3=>by rw[e3,ny]at e2;cases e2);refine⟨sT,us,λk mx hx=>hx=h/\PU m4 mx h y (mR gr (l.take k)),rQ,⟨u,us,rfl,hseq,rfl⟩,⟨rfl,⟨[],_,nX.new m4y,λk=>by simpa[mR]using eK.nil h⟩⟩,?_,?_⟩
 .rintro k e mx hx hk-⟨rfl,⟨kk,uk,g,hg⟩⟩
  obtain⟨r,hr,hv⟩:=hru.at' hk;have hrl:=List.mem_of_getElem? hr;have mc:=g.old bc _ m4c (Ne.symm hyc);have r5:aL mx hx bc 0 [Value.map (some y)]:=.of_m mc rfl;have rq:aL mx hx bq 17 [eC v.group]:=.of_m (g.old bq _ m4q hqy) rfl
  have hl:(uk (cT (pick r gr))).length<=502633886983:=by
   have h5:=(hg (cT (pick r gr))).len;have h6:(mR gr (l.take k) (cT (pick r gr))).length<=(l.take k).length:=List.length_filter_le _ _;rw[List.length_take]at h6;omega
  have app:=fun{s:Sl}=>g.app (hx:=hx) (e:=e) (s:=s) (Q:=λm'=>hx=hx/\PU m4 m' hx y (mR gr (l.take (k+1)))) ⟨_,m4y⟩ ⟨_,m4c⟩ mc hl (λm' kk' g'=>⟨rfl,PU.upd g' hg hv (by rw[mR,iV _ hr,if_pos (by simp)];rfl) (λk2 hk2=>by rw[mR,iV _ hr,if_neg (by simp[Ne.symm hk2]),List.append_nil];rfl)⟩);exact⟨v.group,rq,e,v.group,r,gr,rfl,hv,hgr,hrel.row r hrl,by rw[hrel.wid r hrl];exact hcols,hT.sub (gsub g),y,r5,y,r5,⟨r5,g.get2 (λhs=>⟨r5,r5,r5,r5,app hs⟩) (λs hs=>⟨r5,r5,r5,r5,app hs⟩)⟩,r5,r5,r5,g.get2 (λhs=>⟨r5,r5,app hs⟩) (λs hs=>⟨r5,r5,app hs⟩)⟩
 .rintro mx hx-⟨rfl,⟨kk,uk,g,hg⟩⟩
  rw[hul,List.take_length]at hg;have mc:=g.old bc _ m4c (Ne.symm hyc);have mq:=g.old bq _ m4q hqy;refine⟨y,.of_m mc rfl,_,g.map_,λr m5 hb5 hs5 it=>?_⟩
  have ne5:∀{z o},mx z=some o->m5 z=mx z/\z≠r:=fun{z o} e2=>by
   have:z≠r:=λe3=>by rw[e3,hb5.m_]at e2;cases e2
   exact⟨hs5.other z this,this⟩
  have hsome:∀p∈kk,∀x i,p.2.a=some ⟨x,i,none⟩->∃o,mx x=some o:=λp hp x i e2=>⟨_,((g.row p hp).blk e2).choose_spec⟩
  have kvsnd:(kk.map λp=>(Value.string p.1,eC p.2)).Nodup:=by
   have h5:=g.nodup;rw[List.nodup_iff_pairwise_ne,List.pairwise_map]at h5;rw[List.nodup_iff_pairwise_ne,List.pairwise_map];exact h5.imp λhne e=>hne (by simp only[Prod.mk.injEq,Value.string.injEq]at e;exact e.1)
  refine⟨λz=>z.1=bq/\z.2.1=bc/\z.2.2.1=r/\z.2.2.2.2=hx/\(∀b o,mx b=some o->(∀p∈kk,∀i,p.2.a≠some ⟨b,i,none⟩)->z.2.2.2.1 b=some o)/\∃left,kI z.2.2.2.1 y r (kk.map λp=>(Value.string p.1,eC p.2)) left/\∀p∈kk,ZG z.2.2.2.1 hx od p (mR gr l) ((Value.string p.1,eC p.2)∉left),λz=>leftOf z.2.2.2.1 z.2.2.1,⟨(bq,bc,r,m5,hx),⟨rfl,rfl,rfl,rfl,λb o e _=>(ne5 e).1.trans e,_,it,λp hp=>?_⟩,MT⟩,?_⟩
  .obtain⟨ps,e1,e2,e3⟩:=Zd (hg p.1);refine⟨ps,?_,e3,by rw[e2],λhn=>(hn (List.mem_map_of_mem (f:=λp:ByteArray×Sl=>(Value.string p.1,eC p.2)) hp)).elim⟩;have e5:(ps.map λq=>eS q.1)=(uk p.1).map eS:=by rw[<-e1,List.map_map];rfl
   rw[e5];exact dH.keep (g.row p hp) λb i e=>(ne5 (hsome p hp b i e).choose_spec).1
  .rintro⟨b1,b2,b3,mz,hz⟩ ⟨e1,e2,e3,e4,oth,left,itz,half⟩;dsimp only at e1 e2 e3 e4 oth itz half⊢
   subst e1 e2 e3 e4;refine⟨y,_,left,itz,λhleft=>?_,λl1 x l2 hlx m6 hs6 ita=>?_⟩
   .have notg:∀b o,m4 b=some o->∀p∈kk,∀i,p.2.a≠some ⟨b,i,none⟩:=λb o e p hp i e2=>by rw[g.fresh p hp b i e2]at e;cases e
    refine⟨y,.of_m (oth b2 _ mc (notg b2 _ m4c)) rfl,λhd=>?_⟩;subst hleft
    classical
    let B:Nat->Prop:=λb=>∃p∈kk,p.2.a=some ⟨b,0,none⟩
    have hB:∀b,B b->m b=none/\b≠y/\∀i,hz b i=none:=by
     rintro b ⟨p,hp,e⟩;obtain⟨ps,h1,_⟩:=(half p hp).ex;refine⟨?_,λe2=>?_,hd b _ (h1.blk e).choose_spec⟩
     .cases e2:m b with
      |none=>rfl
      |some o=>exact(notg b o (s4 b o e2) p hp 0 e).elim
     .rw[e2]at e;exact notg y _ m4y p hp 0 e
    let h2:PH:=λb i=>if B b then(match mz b with|some (.cells cs _ _)=>cs[i]? |_=>none)else hz b i
    have le2:PH.le hz h2:=⟨λb i v e=>by
     have:¬B b:=λhb=>by rw[(hB b hb).2.2 i]at e;cases e
     show(if B b then _ else hz b i)=some v;rw[if_neg this];exact e⟩
    have grp:∀p∈kk,∃G,Rows h2 p.2 G/\G.Perm (mR gr l p.1)/\pN od G:=λp hp=>by
     obtain⟨ps,h1,h3,h4,h5⟩:=(half p hp).ex;refine⟨ps.map Prod.snd,?_,h4,h5 (by simp)⟩;have e5:(ps.map λq=>eS q.1)=(ps.map Prod.fst).map eS:=by rw[List.map_map];rfl
     rw[e5]at h1
     have hri:cR h2 p.2 1 ((ps.map Prod.fst).map eS):=dH.ice h1 λb cur ea hm i=>by
      show(if B b then _ else hz b i)=_;rw[if_pos ⟨p,hp,ea⟩,hm]
     refine eK.rows (us:=ps.map Prod.fst) ⟨by simp,λj x hx=>?_⟩ hri ?_
     .rw[List.getElem?_map]at hx;cases e6:ps[j]? with
      |none=>rw[e6]at hx;cases hx
      |some q=>
       rw[e6]at hx;have hx:q.2=x:=by simpa using hx
       exact⟨q.1,by rw[List.getElem?_map,e6];rfl,hx▸cC.mono (h3 q (List.mem_of_getElem? e6)) le2⟩
     .have:=h4.length_eq;have h6:(mR gr l p.1).length<=l.length:=List.length_filter_le _ _;omega
    let G:ByteArray->List (List VV):=λk=>if e:∃p G,p∈kk/\p.1=k/\Rows h2 p.2 G/\G.Perm (mR gr l p.1)/\pN od G then e.choose_spec.choose else[]
    have hG:∀p∈kk,Rows h2 p.2 (G p.1)/\(G p.1).Perm (mR gr l p.1)/\pN od (G p.1):=λp hp=>by
     have ex:∃p' G,p'∈kk/\p'.1=p.1/\Rows h2 p'.2 G/\G.Perm (mR gr l p'.1)/\pN od G:=by
      obtain⟨G,hG⟩:=grp p hp;exact⟨p,G,hp,rfl,hG⟩
     have e6:G p.1=ex.choose_spec.choose:=dif_pos ex;rw[e6];obtain⟨h5,h6,h7⟩:=ex.choose_spec.choose_spec
     have tr:∀p' G',p'∈kk->p'.1=p.1->(Rows h2 p'.2 G'/\G'.Perm (mR gr l p'.1)/\pN od G')->Rows h2 p.2 G'/\G'.Perm (mR gr l p.1)/\pN od G':=λp' G' h1 h2 h3=>by
      have e7:=Ik g.nodup h1 hp h2;subst e7;exact h3
     exact tr _ _ h5 h6 h7
    have hN:∀k,k∉kk.map Prod.fst->G k=[]/\mR gr l k=[]:=λk hk=>by
     refine⟨dif_neg ?_,?_⟩
     .rintro⟨p,_,hp,e,_⟩;exact hk (List.mem_map.2 ⟨p,hp,e⟩)
     .have h5:=(hg k).len;rw[g.none_ k hk]at h5;exact List.eq_nil_of_length_eq_zero h5.symm
    obtain⟨es,c,since,seen,c0,i1,i2,i3,i4,_⟩:=itz.ex;refine⟨λb=>if b=y then mz y else m b,h2,λb o e=>?_,le2,λb i v' e=>?_,hK y _ h2 kk G ny (λb hb=>if_neg hb) le2 ⟨⟨es,c,(if_pos rfl).trans i1,i2,i3,i4⟩,g.nodup,λp hp=>(hG p hp).1,λk hk=>(hN k hk).1,λk=>?_,λk=>?_⟩⟩
    .have e:(if b=y then mz y else m b)=some o:=e;split at e
     .rename_i e2;rw[e2];exact e
     .exact oth b o (gsub g b o e) (notg b o (s4 b o e))
    .have e:(if B b then _ else hz b i)=some v':=e;split at e
     .rename_i hb;have h5:=hB b hb;obtain⟨p,hp,ea⟩:=hb;obtain⟨ps,h1,_⟩:=(half p hp).ex;obtain⟨cur,hm⟩:=h1.blk ea;rw[hm]at e;refine .inr ⟨cur,74,(0,0),hm,e,?_⟩;show(if b=y then mz y else m b)=none;rw[if_neg h5.2.1];exact h5.1
     .exact .inl e
    .by_cases hk:k∈kk.map Prod.fst
     .obtain⟨p,hp,rfl⟩:=List.mem_map.1 hk;exact(hG p hp).2.1
     .rw[(hN k hk).1,(hN k hk).2]
    .by_cases hk:k∈kk.map Prod.fst
     .obtain⟨p,hp,rfl⟩:=List.mem_map.1 hk;exact(hG p hp).2.2
     .rw[(hN k hk).1];exact List.Pairwise.nil
   .refine⟨y,_,_,x,ita,?_⟩;have hxl:x∈left:=by rw[hlx];simp
    obtain⟨p0,hp0,rfl⟩:=List.mem_map.1 (kI.mem itz hxl);obtain⟨ps,h1,h3,h4,h5⟩:=(half p0 hp0).ex;have notg:∀b o,m4 b=some o->∀p∈kk,∀i,p.2.a≠some ⟨b,i,none⟩:=λb o e p hp i e2=>by rw[g.fresh p hp b i e2]at e;cases e
    have blkr:∀p∈kk,∀b i,p.2.a=some ⟨b,i,none⟩->b≠b3:=λp hp b i e=>(ne5 (hsome p hp b i e).choose_spec).2;have hlen:=h4.length_eq;have hlen2:(mR gr l p0.1).length<=l.length:=List.length_filter_le _ _;rw[List.length_map]at hlen;refine⟨p0.2,b1,v,od,w,ps,rfl,?_,λi=>notg b1 _ m4q p0 hp0 i,hod,dH.keep h1 λb i e=>hs6.other b (blkr p0 hp0 b i e),h3,λq hq=>?_,aC,λps' m7 hperm hsort hrow' hoth=>?_⟩
    .rw[hs6.other b1 (ne5 mq).2];exact oth b1 _ mq (notg b1 _ m4q)
    .have:q.2∈mR gr l p0.1:=h4.mem_iff.1 (List.mem_map_of_mem hq);exact hrel.wid _ (List.mem_filter.1 this).1
    .have ynot:∀i,p0.2.a≠some ⟨y,i,none⟩:=notg y _ m4y p0 hp0;have rnot:∀i,p0.2.a≠some ⟨b3,i,none⟩:=λi e=>blkr p0 hp0 b3 i e rfl;have it7:kI m7 y b3 (kk.map λp=>(Value.string p.1,eC p.2)) (l1++l2):=kI.keep ita.it (hoth y ynot) (hoth b3 rnot);refine⟨(b1,b2,b3,m7,hz),⟨rfl,rfl,rfl,rfl,λb o e hb=>?_,_,it7,λp hp=>?_⟩,?_,rfl,rfl,rfl,rfl,rfl,trivial⟩
     .show m7 b=some o;rw[hoth b (hb p0 hp0),hs6.other b (ne5 e).2];exact oth b o e hb
     .by_cases hpp:p=p0
      .subst hpp;refine⟨ps',hrow',λq hq=>h3 q (hperm.mem_iff.1 hq),(hperm.map _).trans h4,λ_=>?_⟩;rw[pN,List.pairwise_map];exact hsort
      .have hne:p.1≠p0.1:=λe=>hpp (Ik g.nodup hp hp0 e);obtain⟨qs,g1,g3,g4,g5⟩:=(half p hp).ex;refine⟨qs,dH.keep g1 λb i e=>?_,g3,g4,λhn=>g5 λhl=>hn ?_⟩
       .show m7 b=mz b;rw[hoth b (λj=>g.apart p hp p0 hp0 hne b i j e),hs6.other b (blkr p hp b i e)]
       .rw[hlx]at hl;rcases List.mem_append.1 hl with h|h
        .exact List.mem_append_left _ h
        .rcases List.mem_cons.1 h with h|h
         .simp only[Prod.mk.injEq,Value.string.injEq]at h;exact(hne h.1).elim
         .exact List.mem_append_right _ h
     .show leftOf m7 b3<leftOf mz b3;rw[kI.left_ it7,kI.left_ itz,hlx];simp
noncomputable def VN:Ctx:=MW [(191,Nn),(74,Ws)]
 [(3,{A:=Nat×Sl×Nat×MH×PH,st:=λ⟨b,s,r,m,h⟩=>cD 29 31 [(2,vv (.pointer (some ⟨b,0,none⟩))),(5,sv s),(13,vv (.pointer (some ⟨r,0,none⟩)))] [] m h})] [(5,{A:=Nat×Sl×Sl×Nat×MH×PH,st:=λ⟨b,s,g,r,m,h⟩=>cD 29 31 [(2,vv (.pointer (some ⟨b,0,none⟩))),(5,sv s),(7,sv g),(13,vv (.pointer (some ⟨r,0,none⟩)))] [] m h})] [200002,1053,0]
abbrev HQ(a:Nat)(b:List (List VV))(c:List Int)(d:MH)(e g:Nat->Nat)(i:MH->MH)(j:Nat->MH->PH->(List (ByteArray×Sl))->(ByteArray->List (List VV))->Prop):Prop:=aH (gZ a b) (gX a c) (jD d) (∀(x:Nat),fU (λx1 x2=>∀(x3:List (ByteArray×Sl))(x4:ByteArray->List (List VV)),aR (A5 d (e x)) (∀(x5:Nat),jO (g x5=e x)->(i x1) (g x5)=d (g x5)) (j x x1 x2 x3 x4)))
noncomputable abbrev yK(a:Nat×Sl×Sl×Nat×MH×PH):Sl:=a.2.2.1
noncomputable abbrev pL(a:Nat×Sl×Sl×Nat×MH×PH):Nat×MH×PH:=a.2.2.2
noncomputable abbrev oM(a:Sl)(b:Int):Int:=ite (aG a<b) (aG a) b
attribute [push_cast] HQ yK pL oM
def Gs(v:QV)(t:Sl)(m:MH)(h:PH)(K:CV->MH->PH->Prop):Prop:=
  ∀(b:Nat)(m1:MH),aR (cH m h b) (bC m m1 b v.enc 38) (∃(y:QV),aL m1 h b 0 y.enc/\bD (λb1 o=>aH (bE t.a b1 o) ((0:Int)<=0) (0<aG t) (∃(y1:Nat),aL m1 h b1 (dP o) (nG y1)/\∃(v1:QV)(u:Nat),FW (λg o1=>∃(l:List (List VV))(w:Nat),aA (bK (cN y) (oB y1)=bK (cN v1) (oB u)) (Ints h v1.group g) (aA (iW h v1.order o1) (Kq h u l) (HQ w l g m1 (λy2=>y2) (λb2=>b2) (λm2=>m2) (λy2 m2 h1 k g1=>dE h h1 (sU m2 h1 y2 g o1 l k g1) (aA (aL m2 h1 b 0 y.enc) (aL m2 h1 b1 (dP o) (nG y1)) (∃(k1:List (Value×Value)),j2 (jZ m2 y2 k1) (λr=>∀(m3:MH),aR (cH m2 h1 r) (iX m2 m3 r) (kI m3 y2 r k1 k1->aA (aL m3 h1 b 0 y.enc) (aL m3 h1 b1 (dP o) (nG y1)) (∃(I:Nat×Sl×Nat×MH×PH->Prop)(m4:Nat×Sl
 ×Nat×MH×PH->Nat),(∃(x:Nat×Sl×Nat×MH×PH),aA (I x) (cY b x.1) (aA (Zc=WT x.2.1) (cY r x.2.2.1) (bT (bG m3 x.2.2.2) h1 (cQ x.2.2))))/\∀(x:Nat×Sl×Nat×MH×PH),I x->Ja (λb2 k2 l1=>sO (kI (dM x.2.2) b2 x.2.2.1 k2 l1) (l1=[]->∃(s:Sl),EH x.2.1 s (dM x.2.2) (cQ x.2.2) 1 (λl2=>lN (cQ x.2.2) (wN l2) K (dM x.2.2))) (λl2=>∀(x1:Value×Value)(l3:List (Value×Value)),l1=l2++x1::l3->∀(m5:MH),aR (iX (dM x.2.2) m5 x.2.2.1) (Dp m5 b2 x.2.2.1 k2 (l2++l3) x1) (∃(I1:Nat×Sl×Sl×Nat×MH×PH->Prop),Ja (λb3 k3 l4=>∃(x2:Value×Value),Dp m5 b3 x.2.2.1 k3 l4 x2/\∃(x3:Nat×Sl×Sl×Nat×MH×PH),aA (I1 x3) (cY x.1 x3.1) (aA (bI x.2.1 x3.2.1) (SV.at (At.val x2.2)=WT (yK x3)) (aH (cY x.2.2.1
 (pL x3).1) (bG m5 (pL x3).2) (cQ x.2.2=cQ (pL x3)) True)))/\∀(x2:Nat×Sl×Sl×Nat×MH×PH),I1 x2->∃(y3:Int),aH (aL (dM (pL x2)) (cQ (pL x2)) x2.1 19 (bW y3)) (0<=oM (yK x2) y3) (oM (yK x2) y3<=(↑(yK x2).cap:Int)) (∃(x3:List (List Value)),AI (dH (dM (pL x2)) (cV x2.2.1) 74 1 x3) (λy4=>aA (eG 1 y4) (oJ (dM (pL x2)) (cQ (pL x2)) (Sl.mk (yK x2).a (oM (yK x2) y3).toNat (yK x2).cap) 1 y4) (aA (pX x3 y4 24) (eO (pY x3 y4)) (iA (λs m6=>eM (dM (pL x2)) m6 (cV x2.2.1) s 74 1 (x3++y4)->∃(x4:Nat×Sl×Nat×MH×PH),aA (I x4) (m4 x4<m4 x) (aA (cY x2.1 x4.1) (bI s x4.2.1) (aH (cY (pL x2).1 x4.2.2.1) (bG m6 x4.2.2.2) (cQ (pL x2)=cQ
 x4.2.2) True))))))))))))))))))))))
theorem GJ{w:Nat}:∀{od:List (Int×Bool)}{a b:List VV},Ft w od a b=0->a=b
 |[],_,_,h=>jB.1 h
 |(c,dn)::r,a,b,h=>by
  rw[Ft]at h;generalize (if dn then-j8 (a.getD c.toNat zeroV) (b.getD c.toNat zeroV)else j8 (a.getD c.toNat zeroV) (b.getD c.toNat zeroV))=x at h;split at h
  .split at h
   .rename_i h1;exact(h1 h).elim
   .exact GJ h
  .exact GJ h
theorem Ae{w:Nat}{od:List (Int×Bool)}{a b:List VV}(ha:a.length=w)(hb:b.length=w):kB od a b= -kB od b a:=by
 rw[yT ha hb,yT hb ha];exact(Fs w od).anti a b
theorem UM{w:Nat}{a b:List VV}(ha:a.length=w)(hb:b.length=w)(h:kB od a b=0):a=b:=by
 rw[yT ha hb]at h;exact GJ h
theorem GW{w:Nat}{od:List (Int×Bool)}{x:List VV}:∀{G:List (List VV)}{n:Nat},pN od G->(∀r∈G,r.length=w)->G.Nodup->(x∈G.take n↔x∈G/\(G.countP λy=>decide (kB od y x<0))<n)
 |[],n,_,_,_=>by simp
 |a::G,0,_,_,_=>by simp
 |a::G,n+1,hs,hw,hn=>by
  have hs:=List.pairwise_cons.1 hs;have hn:=List.nodup_cons.1 hn;have ih:=GW (x:=x) (G:=G) (n:=n) hs.2 (λr hr=>hw r (List.mem_cons_of_mem _ hr)) hn.2;have hwa:=hw a (List.mem_cons_self ..);rw[List.take_succ_cons,List.mem_cons,ih,List.mem_cons,List.countP_cons];by_cases hx:x=a
  .subst hx;have e1:¬kB od x x<0:=by have:=Ae (od:=od) hwa hwa;omega
   have e2:(G.countP λy=>decide (kB od y x<0))=0:=List.countP_eq_zero.2 λy hy=>by simpa using hs.1 y hy
   rw[e2,if_neg (by simpa using e1)];simp
  .by_cases hxG:x∈G
   .have hwx:=hw x (List.mem_cons_of_mem _ hxG);have e1:=hs.1 x hxG;have e2:=Ae (od:=od) hwa hwx;have e3:kB od a x≠0:=λe=>hx (UM hwa hwx e).symm;rw[if_pos (by simp;omega)];simp[hx,hxG]
   .simp[hx,hxG]
theorem Kh{l:List (List VV)}(h:nJ l):l.Nodup:=by
 rw[List.nodup_iff_pairwise_ne];exact h.imp fun{a b} hab e=>by subst e;have:=Ce.anti a a;omega
def Ky(gr:List Int)(x y:List VV):Bool:=dT (pick x gr) (pick y gr)==0
theorem Tz{gr:List Int}{x y:List VV}:Ky gr x y=true↔pick x gr=pick y gr:=by
 simp only[Ky,beq_iff_eq,jB]
def Bg(gr:List Int)(od:List (Int×Bool))(li:Int)(a b:List (List VV)):List (List VV):=a.filter λx=>decide (((b.countP λy=>Ky gr x y&&decide (kB od y x<0):Nat):Int)<li)
def NY(q:Query)(ls:List (List (List VV))):List (List VV):=match q with|.mk _ _ _ _ _ gr od li _=>Bg gr od li (ls.getD 0 []) (ls.getD 0 [])
def IQ(q:Query)(ls:List (List (List VV))):Prop:=match q with|.mk _ _ _ _ _ gr _ li _=>1<=ls.length/\(∃w,gZ w (ls.getD 0 [])/\gX w gr)/\0<=li
theorem Vj{w:Nat}{l:List (List VV)}(hl:gZ w l)(hc:gX w gr){x y:List VV}(hx:Nt x)(hw:x.length=w)(hy:y∈l):cT (pick y gr)=cT (pick x gr)↔Ky gr x y=true:=by
 rw[Tz];have:=DS (a:=pick y gr) (b:=pick x gr) (by simp[pick]) (En (hl.row y hy) (by rw[hl.wid y hy];exact hc)) (En hx (by rw[hw];exact hc));rw[this];exact eq_comm
theorem Hd{w:Nat}{gr:List Int}{od:List (Int×Bool)}{l:List (List VV)}(hl:gZ w l)(hc:gX w gr){x:List VV}(hx:Nt x)(hw:x.length=w):
 ((mR gr l (cT (pick x gr))).countP λy=>decide (kB od y x<0))=l.countP λy=>Ky gr x y&&decide (kB od y x<0):=by
 rw[mR,List.countP_filter];refine List.countP_congr λy hy=>?_;have h1:=Vj hl hc hx hw hy;simp only[Bool.and_eq_true,decide_eq_true_eq];rw[h1,and_comm]
theorem PB{α:Type}{p q:α->Bool}:∀{l:List α},(∀x∈l,¬(p x=true/\q x=true))->l.countP p+l.countP q=l.countP λx=>p x||q x
 |[],_=>rfl
 |a::l,h=>by
  have ih:=PB (l:=l) λx hx=>h x (List.mem_cons_of_mem _ hx);have h1:=h a (List.mem_cons_self ..);rw[List.countP_cons,List.countP_cons,List.countP_cons];cases e1:p a<;>cases e2:q a<;>simp_all<;>omega
theorem TP{y w:Nat}{l:List (List VV)}{kk:List (ByteArray×Sl)}{g:ByteArray->List (List VV)}(hg:sU m h y gr od l kk g)(hrel:gZ w l)(hcols:gX w gr)(hli:0<=li)(x:List VV):
 x∈Bg gr od li l l↔∃p∈kk,x∈(g p.1).take li.toNat:=by
 have gw:∀k r,r∈g k->r∈l/\cT (pick r gr)=k:=λk r hr=>by
  have:=(hg.perm k).mem_iff.1 hr;simpa[mR]using this
 have gn:∀k,(g k).Nodup:=λk=>(hg.perm k).nodup_iff.2 ((Kh hrel.srt).sublist List.filter_sublist);have gt:∀k,x∈(g k).take li.toNat↔x∈g k/\((g k).countP λy=>decide (kB od y x<0))<li.toNat:=λk=>GW (hg.sort k) (λr hr=>hrel.wid r (gw k r hr).1) (gn k)
 have gc:x∈l->((g (cT (pick x gr))).countP λy=>decide (kB od y x<0))=l.countP λy=>Ky gr x y&&decide (kB od y x<0):=λhx=>by
  rw[(hg.perm _).countP_eq];exact Hd hrel hcols (hrel.row x hx) (hrel.wid x hx)
 rw[Bg,List.mem_filter];constructor
 .rintro⟨hx,hc⟩;have hc:=of_decide_eq_true hc;have hxg:x∈g (cT (pick x gr)):=(hg.perm _).mem_iff.2 (by simp[mR,hx])
  have hk:cT (pick x gr)∈kk.map Prod.fst:=by
   by_cases hk:cT (pick x gr)∈kk.map Prod.fst
   .exact hk
   .rw[hg.none_ _ hk]at hxg;cases hxg
  obtain⟨p,hp,e⟩:=List.mem_map.1 hk;refine⟨p,hp,?_⟩;rw[e];exact(gt _).2 ⟨hxg,by rw[gc hx];omega⟩
 .rintro⟨p,hp,hx⟩;obtain⟨h1,h2⟩:=(gt _).1 hx;obtain⟨h3,h4⟩:=gw _ _ h1;rw[<-h4,gc h3]at h2;exact⟨h3,decide_eq_true aC⟩
theorem Q2:Sound Tryz.prog 155 (Nu IQ NY):=by
 refine Dz Tryz.func155 ?_;rintro cvs m h K ⟨v,t,q,bs,ls,rfl,hq,ha,hT,hok,hK⟩;refine⟨VN,rfl,aD Jz (aD C2 aF),Gs v t m h (dJ h K),by kernel_rfl,?_⟩;show Gs v t m h (dJ h K);dsimp only[Gs,push_cast];obtain⟨op,ta,w,co,on,gr,od,li,args⟩:=q;obtain⟨hl1,⟨wd,hrel,hcols⟩,hli⟩:=hok;intro b m1 hb1 hu1;obtain⟨s1,n1⟩:=gY (Sub.refl m) hb1 hu1;have m1b:m1 b=some (.cells ⟨v.enc⟩ 38 (0,0)):=hu1.at_;obtain⟨b1,off,x,ea,hlt,rd,sq⟩:=ha.get (By (i:=0) aC);simp only[NY]at hK;generalize ls.getD 0 []=l at hK hrel sq;have hll:=hrel.len;refine⟨v,.of_m m1b (List.take_length ..),b1,off,ea,aC,aC,x,.imm rd,v,x,gr,od,l,wd,rfl,hq.parts.group_,hq.parts.order_,sq,hrel,hcols,hT.sub s1,λy m2 h2 kk g hy hoth le2 hg=>?_⟩;have yb:b≠y:=λe=>by rw[<-e,m1b]at hy;cases hy
 have m2b:m2 b=some (.cells ⟨v.enc⟩ 38 (0,0)):=by rw[hoth b yb];exact m1b
 have s2:Sub m m2:=λz o e=>by rw[hoth z (λe2=>by have:=s1 z o e;rw[e2,hy]at this;cases this)];exact s1 z o e
 refine⟨.of_m m2b (List.take_length ..),.imm (rd.mono le2),_,hg.map_,λr m3 hb3 hs3 it=>?_⟩;have rb:b≠r:=λe=>by have:=hb3.m_;rw[<-e,m2b]at this;cases this
 have m3b:m3 b=some (.cells ⟨v.enc⟩ 38 (0,0)):=by rw[hs3.other b rb];exact m2b
 have s3:Sub m m3:=λz o e=>by
  have:=s2 z o e;rw[hs3.other z (λe2=>by rw[e2,hb3.m_]at this;cases this)];exact this
 classical
 have m3y:∃o,m3 y=some o:=by obtain⟨es,c,since,seen,c0,i1,_⟩:=it.ex;exact⟨_,i1⟩
 have m3r:∃o,m3 r=some o:=by obtain⟨es,c,since,seen,c0,i1,i2,i3,i4,i5,_⟩:=it.ex;exact⟨_,i5⟩
 have yr:y≠r:=λe=>by
  obtain⟨es,c,i1,_⟩:=hg.map_;rw[e,hb3.m_]at i1;cases i1
 have kvsnd:(kk.map λp=>(Value.string p.1,eC p.2)).Nodup:=by
  have h5:=hg.nodup;rw[List.nodup_iff_pairwise_ne,List.pairwise_map]at h5;rw[List.nodup_iff_pairwise_ne,List.pairwise_map];exact h5.imp λhne e=>hne (by simp only[Prod.mk.injEq,Value.string.injEq]at e;exact e.1)
 refine⟨.of_m m3b (List.take_length ..),.imm (rd.mono le2),λz=>z.1=b/\z.2.2.1=r/\z.2.2.2.2=h2/\(∀x o,m3 x=some o->x≠r->z.2.2.2.1 x=some o)/\∃left us acc,kI z.2.2.2.1 y r (kk.map λp=>(Value.string p.1,eC p.2)) left/\dH z.2.2.2.1 z.2.1 74 1 (us.map eS)/\(∀x i,z.2.1.a=some ⟨x,i,none⟩->m3 x=none)/\eK h2 us acc/\
  (∀x,x∈acc↔∃p∈kk,(Value.string p.1,eC p.2)∉left/\x∈(g p.1).take li.toNat)/\acc.length+(l.countP λz=>decide (Value.string (cT (pick z gr))∈left.map Prod.fst))<=l.length,λz=>leftOf z.2.2.2.1 z.2.2.1,⟨(b,⟨none,0,0⟩,r,m3,h2),⟨rfl,rfl,rfl,λx o e _=>e,_,[],[],it,⟨zW [],.inl ⟨rfl,rfl⟩⟩,(λx i e=>by cases e),eK.nil _,λx=>?_,?_⟩,MT⟩,?_⟩
 .constructor
  .intro e;cases e
  .rintro⟨p,hp,hn,_⟩;exact(hn (List.mem_map_of_mem (f:=λp:ByteArray×Sl=>(Value.string p.1,eC p.2)) hp)).elim
 .rw[List.length_nil,Nat.zero_add];exact List.countP_le_length
 .rintro⟨b',s,r',mz,hz⟩ ⟨e1,e2,e3,oth,left,us,acc,itz,hrow,hfr,hus,hmem,hcnt⟩;dsimp only at e1 e2 e3 oth itz hrow hfr hus hmem hcnt⊢
  subst e1 e2 e3;have hacc:acc.length<=l.length:=by omega
  have hul:=hus.len;refine⟨y,_,left,itz,λhleft=>?_,λl1 x1 l2 hlx m4 hs4 ita=>?_⟩
  .subst hleft;refine⟨s,us,acc,rfl,hrow.src,hus,aC,λs' h' le' hr'=>dJ.sub (λz o e=>oth z o (s3 z o e) (λe2=>?_)) (le2.trans le') (hK s' h' (le2.trans le') ?_)⟩
   .have:=s2 z o e;rw[e2,hb3.m_]at this;cases this
   .have e5:Bg gr od li l l=wN acc:=Mi (hrel.srt.sublist List.filter_sublist) λx=>by
     rw[TP hg hrel hcols hli,hmem];simp
    rw[e5];exact hr'
  .have hxl:x1∈left:=by rw[hlx];simp
   obtain⟨p0,hp0,rfl⟩:=List.mem_map.1 (kI.mem itz hxl);have hnd:=kI.nodup itz kvsnd;rw[hlx]at hnd
   have hnd':(Value.string p0.1,eC p0.2)∉l1++l2:=λh=>by
    have h5:=List.nodup_append.1 hnd;have h6:=List.nodup_cons.1 h5.2.1;rcases List.mem_append.1 h with h|h
    .exact h5.2.2 _ h _ (List.mem_cons_self ..) rfl
    .exact h6.1 h
   have m3ne:∀{x},(∃o,m3 x=some o)->∀i,s.a≠some ⟨x,i,none⟩:=fun{x}⟨o,ho⟩ i e=>by rw[hfr x i e]at ho;cases ho
   have m4b:m4 b'=some (.cells ⟨v.enc⟩ 38 (0,0)):=by rw[hs4.other b' rb];exact oth b' _ m3b rb
   have hrow4:dH m4 s 74 1 (us.map eS):=dH.keep hrow λx i e=>hs4.other x λe2=>m3ne m3r i (e2▸e);obtain⟨⟨us0,hri,hl0,hat⟩,_⟩:=hg.rows p0 hp0;refine⟨λc=>c=(b',s,p0.2,r',m4,hz),⟨y,_,_,_,ita,⟨(b',s,p0.2,r',m4,hz),rfl,rfl,rfl,rfl,rfl,rfl,rfl,trivial⟩⟩,?_⟩;rintro c rfl;dsimp only;have hlim:v.limit=li:=hq.parts.limit_;have hgl:=(hg.perm p0.1).length_eq;have hgl2:(mR gr l p0.1).length<=l.length:=List.length_filter_le _ _;have hpl:p0.2.len=us0.length:=by have:=hri.len;simpa using this
   have hn:((if(p0.2.len:Int)<v.limit then(p0.2.len:Int)else v.limit).toNat)=min us0.length li.toNat:=by
    rw[hlim];split<;>omega
   have hcap:=hri.cap;refine⟨v.limit,.of_m m4b rfl,by rw[hlim];split<;>omega,by rw[hlim];split<;>omega,us.map eS,hrow4,(us0.take (min us0.length li.toNat)).map eS,zW _,?_,by simp;omega,by simp;omega,λs' m5 hgr=>?_⟩
   .rw[hn,List.map_take];exact .imm (cR.cut hri _ (by simp;omega))
   .have hold:∀x o,m3 x=some o->x≠r'->m5 x=some o:=λx o e hne=>hgr.other x o (by rw[hs4.other x hne];exact oth x o e hne) (m3ne ⟨o,e⟩)
    have it5:kI m5 y r' (kk.map λp=>(Value.string p.1,eC p.2)) (l1++l2):=by
     obtain⟨es,c,since,seen,c0,i1,i2,i3,i4,i5,_⟩:=ita.it.ex;exact kI.keep ita.it (by rw[i1];exact hgr.other y _ i1 (m3ne m3y)) (by rw[i5];exact hgr.other r' _ i5 (m3ne m3r))
    have hu0:eK hz (us0.take (min us0.length li.toNat)) ((g p0.1).take li.toNat):=by
     refine⟨by simp[hl0];omega,λj x hx=>?_⟩;rw[List.getElem?_take]at hx;split at hx
     .obtain⟨u,hu,hv⟩:=hat j x hx;have:=(List.getElem?_eq_some_iff.1 hu).1;exact⟨u,by rw[List.getElem?_take,if_pos aC];exact hu,hv⟩
     .cases hx
    refine⟨(b',s',r',m5,hz),⟨rfl,rfl,rfl,hold,_,us++us0.take (min us0.length li.toNat),acc++(g p0.1).take li.toNat,it5,?_,λx i e=>?_,hus.app hu0,λx=>?_,?_⟩,?_,rfl,rfl,rfl,rfl,rfl,trivial⟩
    .rw[List.map_append];exact hgr.row
    .rcases hgr.fresh x i e with h5|⟨j,h5⟩
     .cases e6:m3 x with
      |none=>rfl
      |some o=>
       by_cases hxr:x=r'
       .obtain⟨es,c,since,seen,c0,i1,i2,i3,i4,i5,_⟩:=ita.it.ex;rw[hxr,i5]at h5;cases h5
       .rw[hs4.other x hxr,oth x o e6 hxr]at h5;cases h5
     .exact hfr x j h5
    .rw[List.mem_append,hmem];constructor
     .rintro(⟨p,hp,hn,hx⟩|hx)
      .exact⟨p,hp,λh=>hn (by rw[hlx];rcases List.mem_append.1 h with h|h;exact List.mem_append_left _ h;exact List.mem_append_right _ (List.mem_cons_of_mem _ h)),hx⟩
      .exact⟨p0,hp0,hnd',hx⟩
     .rintro⟨p,hp,hn,hx⟩;by_cases hpp:p=p0
      .subst hpp;exact .inr hx
      .refine .inl ⟨p,hp,λh=>?_,hx⟩;rw[hlx]at h;rcases List.mem_append.1 h with h|h
       .exact hn (List.mem_append_left _ h)
       .rcases List.mem_cons.1 h with h|h
        .simp only[Prod.mk.injEq,Value.string.injEq]at h;exact hpp (Ik hg.nodup hp hp0 h.1)
        .exact hn (List.mem_append_right _ h)
    .have hkn:Value.string p0.1∉(l1++l2).map Prod.fst:=λh=>by
      obtain⟨z,hz1,hz2⟩:=List.mem_map.1 h;obtain⟨p,hp,rfl⟩:=List.mem_map.1 (kI.mem it5 hz1);simp only[Value.string.injEq]at hz2;have:=Ik hg.nodup hp hp0 hz2;subst this;exact hnd' hz1
     have h5:=PB (l:=l) (p:=λz=>decide (Value.string (cT (pick z gr))∈(l1++l2).map Prod.fst)) (q:=λz=>decide (cT (pick z gr)=p0.1)) (λz _⟨h6,h7⟩=>by
      have h6:=of_decide_eq_true h6;rw[of_decide_eq_true h7]at h6;exact hkn h6)
     have h8:(l.countP λz=>decide (Value.string (cT (pick z gr))∈(l1++l2).map Prod.fst)||decide (cT (pick z gr)=p0.1))=l.countP λz=>decide (Value.string (cT (pick z gr))∈left.map Prod.fst):=by
      refine List.countP_congr λz _=>?_;rw[hlx];simp only[Bool.or_eq_true,decide_eq_true_eq,List.map_append,List.map_cons,List.mem_append,List.mem_cons,Value.string.injEq];constructor
      .rintro((h|h)|h)
       .exact .inl h
       .exact .inr (.inr h)
       .exact .inr (.inl h)
      .rintro(h|h|h)
       .exact .inl (.inl h)
       .exact .inr h
       .exact .inl (.inr h)
     have h9:(mR gr l p0.1).length=l.countP λz=>decide (cT (pick z gr)=p0.1):=by rw[mR,List.countP_eq_length_filter]
     rw[List.length_append,List.length_take];omega
    .show leftOf m5 r'<leftOf mz r';rw[kI.left_ it5,kI.left_ itz,hlx];simp
def SX:Vc.Spec:=λcvs m h K=>∃(n bq bg br:Nat)(v:QV)(od:List (Int×Bool))(g s:Sl)(rs:List (List VV))(r:List VV)(w:Nat),cvs=[cI n,.val (.func (.func 193) #[] #[.pointer (some ⟨bq,0,none⟩),.pointer (some ⟨bg,0,none⟩),.pointer (some ⟨br,0,none⟩)])]/\
 m bq=some (.cells ⟨QV.enc v⟩ 38 (0,0))/\m bg=some (.cells #[Sl.val g] 53 (0,0))/\m br=some (.cells #[Sl.val s] 74 (0,0))/\iW h v.order od/\Rows h g rs/\cC h s r/\rs.length=n/\pN od rs/\(∀x∈rs,x.length=w)/\r.length=w/\
 K (cI ((rs.countP λy=>decide (kB od y r<0):Nat):Int)) m h
noncomputable def VM:Ctx:=MW [(191,Nn),(186,WE),(192,SX)] [] [(2,{A:=Sl×Nat×Nat×MH×PH,st:=λ⟨t,b,c,m,h⟩=>cD 38 40 [(1,sv t),(2,vv (.pointer (some ⟨b,0,none⟩))),(5,vv (.pointer (some ⟨c,0,none⟩)))] [] m h}),
 (6,{A:=Nat×Nat×Nat×Nat×MH×PH,st:=λ⟨b,o,e,g,m,h⟩=>cD 38 40 [(2,vv (.pointer (some ⟨b,0,none⟩))),(6,vv (.pointer (some ⟨o,0,none⟩))),(7,vv (.pointer (some ⟨e,0,none⟩))),(8,vv (.pointer (some ⟨g,0,none⟩)))] [] m h})] [200002,200005,200006,200007,200008,1053,400000,0]
noncomputable abbrev tP(a:Sl×Nat×Nat×MH×PH):Nat:=a.2.2.1
abbrev AL(a:MH)(b:Nat)(c:Value)(d:MH->(Nat×Nat×Nat×Nat×MH×PH)->Prop):Prop:=fD (λx x1=>aA (pH a b (dY x x1 0)) (dU 0 x) (∀(x2:MH),bC a x2 b (fF c 1 x) x1->∃(x3:Nat×Nat×Nat×Nat×MH×PH),d x2 x3))
noncomputable abbrev fG(a:Nat×Nat×Nat×Nat×MH×PH):Nat×MH×PH:=a.2.2.2
abbrev AT(a:Nat×Nat×Nat×Nat×MH×PH->Prop)(b:Nat×Nat×Nat×Nat×MH×PH)(c:Sl×Nat×Nat×MH×PH)(d e g:Nat)(i:MH)(j:PH):Prop:=aA (a b) (cY c.2.1 b.1) (aA (cY d b.2.1) (cY e b.2.2.1) (aH (cY g (fG b).1) (bG i (fG b).2) (j=cQ (fG b)) True))
attribute [push_cast] tP AL fG AT
def Gr(v:QV)(t:Sl)(m:MH)(h:PH)(K:CV->MH->PH->Prop):Prop:=
  ∀(b:Nat)(m1:MH),aR (cH m h b) (bC m m1 b v.enc 38) (∃(I:Sl×Nat×Nat×MH×PH->Prop),(∃(y:QV),aL m1 h b 0 y.enc/\bD (λb1 o=>aH (bE t.a b1 o) ((0:Int)<=1) (1<aG t) (∃(y1:Nat),aA (aL m1 h b1 (o+1) (nG y1)) (∃(v1:QV)(u:Nat),FW (λg o1=>∃(l:List (List VV))(w:Nat),aA (bK (cN y) (oB y1)=bK (cN v1) (oB u)) (Ints h v1.group g) (aA (iW h v1.order o1) (Kq h u l) (HQ w l g m1 (λy2=>y2) (λb2=>b2) (λm2=>m2) (λy2 m2 h1 k g1=>dE h h1 (sU m2 h1 y2 g o1 l k g1) (aA (aL m2 h1 b 0 y.enc) (aL m2 h1 b1 (o+1) (nG y1)) (∀(b2:Nat)(m3:MH),aR (cH m2 h1 b2) (bC m2 m3 b2 (iR DN) 207) (fD (λc E=>aA (pH m3 b2 (dY c E 0)) (dU 0 c) (∀(m4:MH),bC m3 m4 b2 (fF (Br y2) 1 c) E->∃(x:Sl×Nat
 ×Nat×MH×PH),aA (I x) (bI t x.1) (aA (cY b x.2.1) (cY b2 x.2.2.1) (bT (bG m4 x.2.2.2) h1 (cQ x.2.2))))))))))))) (aA (aL m1 h b 0 y.enc) (aL m1 h b1 (o+1) (nG y1)) (∀(b2:Nat)(m2:MH),aR (cH m1 h b2) (bC m1 m2 b2 (iR DN) 207) (∃(v1:QV)(u:Nat),FW (λg o1=>∃(l:List (List VV))(w:Nat),aA (bK (cN y) (oB y1)=bK (cN v1) (oB u)) (Ints h v1.group g) (aA (iW h v1.order o1) (Kq h u l) (HQ w l g m2 (λy2=>y2) (λb3=>b3) (λm3=>m3) (λy2 m3 h1 k g1=>dE h h1 (sU m3 h1 y2 g o1 l k g1) (fD (λc E=>aA (pH m3 b2 (dY c E 0)) (dU 0 c) (∀(m4:MH),bC m3 m4 b2 (fF (Br y2) 1 c) E->∃(x:Sl×Nat×Nat×MH×PH),aA (I x) (bI t x.1) (aA (cY b x.2.1) (cY b2 x.2.2.1) (bT (bG m4 x.2.2.2) h1 (cQ
 x.2.2))))))))))))))))/\∀(x:Sl×Nat×Nat×MH×PH),I x->AM (dM x.2.2) (cQ x.2.2) x.1 (λb1 m2 y S=>pI S (cQ x.2.2) y m2 (λx1 I1 k e=>fU (λm3 h1=>aR (sJ x1 k e) (PH.le (cQ x.2.2) h1) (I1 k m3 h1->∀(b2:Nat)(m4:MH),aR (cH m3 h1 b2) (bC m3 m4 b2 iL 74) (fD (λc E=>aA (pH m4 b2 (dY c E 0)) (dU 0 c) (∀(m5:MH),bC m4 m5 b2 (fF (eC e) 1 c) E->∃(I2:Nat×Nat×Nat×Nat×MH×PH->Prop),(∃(y1:Nat),kX m5 h1 (tP x) y1 (iQ m5 h1 b2 0 (λy2=>∃(y3:Sl),aA (aL m5 h1 x.2.1 17 (aK y3)) (kX m5 h1 (tP x) y1 (ED y2 y3 h1 m5 (cK m5 h1 (tP x) y1) (λr c1=>aA (aL m5 h1 b2 0 (aK y2)) (aL m5 h1 x.2.1 17 (aK y3)) (vN m5 y1 r c1 (aH (cK m5 h1 (tP x) y1) (aL m5 h1 b2 0 (aK y2)) (aL m5 h1 x.2.1 17 (aK
 y3)) (∀(b3:Nat)(m6:MH),aR (cH m5 h1 b3) (bC m5 m6 b3 iL 53) (AL m6 b3 uE (λm7 x2=>AT I2 x2 x b1 b2 b3 m7 h1)))) (λy4=>aH (cK m5 h1 (tP x) y1) (aL m5 h1 b2 0 (aK y2)) (aL m5 h1 x.2.1 17 (aK y3)) (∀(b3:Nat)(m6:MH),aR (cH m5 h1 b3) (bC m5 m6 b3 iL 53) (AL m6 b3 (eC y4) (λm7 x2=>AT I2 x2 x b1 b2 b3 m7 h1)))))) (λr c1=>aH (cK m5 h1 (tP x) y1) (aL m5 h1 b2 0 (aK y2)) (aL m5 h1 x.2.1 17 (aK y3)) (∀(b3:Nat)(m6:MH),aR (cH m5 h1 b3) (bC m5 m6 b3 iL 53) (aA (aL m6 h1 b2 0 (aK y2)) (aL m6 h1 x.2.1 17 (aK y3)) (vN m6 y1 r c1 (AL m6 b3 uE (λm7 x2=>AT I2 x2 x b1 b2 b3 m7 h1)) (λy4=>AL m6 b3 (eC y4) (λm7 x2=>AT I2 x2 x b1 b2 b3 m7 h1)))))))) (aA (cK m5 h1 (tP x) y1) (aL m5 h1 b2 0 (aK
 y2)) (aL m5 h1 x.2.1 17 (aK y3)/\∀(b3:Nat)(m6:MH),aR (cH m5 h1 b3) (bC m5 m6 b3 iL 53) (kX m6 h1 (tP x) y1 (ED y2 y3 h1 m6 (cK m6 h1 (tP x) y1) (λ_ _=>aL m6 h1 b2 0 (aK y2)) (λr c1=>aL m6 h1 x.2.1 17 (aK y3)/\vN m6 y1 r c1 (AL m6 b3 uE (λm7 x2=>AT I2 x2 x b1 b2 b3 m7 h1)) (λy4=>AL m6 b3 (eC y4) (λm7 x2=>AT I2 x2 x b1 b2 b3 m7 h1))))))))))/\∀(x2:Nat×Nat×Nat×Nat×MH×PH),I2 x2->iQ (dM (fG x2)) (cQ (fG x2)) (fG x2).1 0 (λy1=>bD (λn b3=>bD (λb4 b5=>∃(v1:QV)(o:List (Int×Bool)),j3 (λg s=>∃(r:List (List VV))(r1:List VV)(w:Nat),aA (bK (fH (aG y1)) (CV.val (wY 193 (Array.mk (aT (P1 x2.1 0) (P1 (fG x2).1 0) (iR (P1 x2.2.2.1 0))))))=bK (fH (↑n:Int)) (CV.val (wY
 193 (Array.mk (aT (P1 b3 0) (P1 b4 0) (iR (P1 b5 0))))))) ((fG x2).2.1 b3=Option.some (dY (Array.mk v1.enc) 38 0)) (aA ((fG x2).2.1 b4=Option.some (dY (Array.mk (aK g)) 53 0)) ((fG x2).2.1 b5=Option.some (dY (Array.mk (aK s)) 74 0)) (aA (iW (cQ (fG x2)) v1.order o) (Rows (cQ (fG x2)) g r) (aA (cC (cQ (fG x2)) s r1) (r.length=n) (aH (pN o r) (AV r (λx3=>x3.length=w)) (r1.length=w) (tD (dM (fG x2)) (cQ (fG x2)) x2.1 19 (λy2=>aW (↑(List.countP (fun(y3:List VV)=>decide (kB o y3 r1<0)) r):Int) y2 (iQ (dM (fG x2)) (cQ (fG x2)) x2.2.1 0 (λy3=>∃(y4:Sl),aL (dM (fG x2)) (cQ (fG x2)) x2.2.2.1 0 (aK y4)/\∃(x3:List (List Value)),aH (dH (dM (fG x2)) (cV y3) 74 1 x3) (iG x3) (dN x3)
 (iA (λs1 m6=>eM (dM (fG x2)) m6 (cV y3) s1 74 1 (eT x3 (aK y4))->fD (λc1 E1=>aA (pH m6 x2.2.1 (dY c1 E1 0)) (dU 0 c1) (∀(m7:MH),bC m6 m7 x2.2.1 (fF (eC s1) 1 c1) E1->I1 (k+1) m7 (cQ (fG x2)))))))) (I1 (k+1) (dM (fG x2)) (cQ (fG x2))))))))))))))))))) (λm3 h1=>iQ m3 h1 b1 0 (λy1=>K (lY y1) m3 h1))))
theorem E8{w:World}{q:Nat}{os:Array Obj}(hb:b<w.heap.size):(Sort.grow (w.drewN q) os).heap[b]? =w.heap[b]? :=by
 show((w.drewN q).heap++os)[b]? =_;rw[Array.getElem?_append_left (show b<(w.drewN q).heap.size from hb)];rfl
theorem PF{P:Program}{g:Nat}{cs:List Value}{m:MH}{h:PH}{S:Vc.Spec}{r:CV}{u:Value}(hs:Sound P g S)(hS:S (cs.map .val) m h λr' m' h'=>r'=r/\m'=m/\h'=h)(hr:∀w u',Dr w r u'->u'=u){w:World}
 (hh:∀b o v,h b o=some v->w.cell? ⟨b,o,none⟩=some v)(hm:∀b o,m b=some o->w.heap[b]? =some o)(hd:∀b o,m b=some o->∀i,h b i=none)(mm:Nat)(os:Array Obj):
 Calls P g cs.toArray (Sort.grow (w.drewN mm) os) λe w'=>e= .returned u/\∃q os',w'=Sort.grow ((Sort.grow (w.drewN mm) os).drewN q) os':=by
 obtain⟨W,hW⟩:∃W,Sort.grow (w.drewN mm) os=W:=⟨_,rfl⟩
 rw[hW];have old:∀b,b<w.heap.size->W.heap[b]? =w.heap[b]? :=λb hb=>by rw[<-hW];exact E8 hb
 have hvals:∀(l:List Value)(w:World),zO w (l.map .val) l:=λl w=>by
  induction l with
  |nil=>trivial
  |cons a l ih=>exact⟨rfl,ih⟩
 have nov:∀(l:List Value)(i:Nat)(c:CV)(u:Value)(b:Nat),(l.map CV.val)[i]? =some c->gH c u=some b->False:=λl i c u b hi hb=>by
  rw[List.getElem?_map]at hi;cases e:l[i]? with
  |none=>rw[e]at hi;cases hi
  |some v=>rw[e]at hi;simp at hi;subst hi;simp[gH]at hb
 have hpre:wE W m h (cs.map .val) cs:=by
  refine⟨hvals _ _,?_,?_,hd,λi j c d u v b hi _ _ _ hb _=>(nov _ i c u b hi hb).elim,λi c u b hi _ hb=>(nov _ i c u b hi hb).elim⟩
  .intro b o v hv;have h1:=hh b o v hv;rw[World.cell?_of_block (w:=w) (w':=W) (a:=⟨b,o,none⟩) (old b (World.block_lt_of_cell? w ⟨b,o,none⟩ h1))];exact h1
  .intro b o hb;have h1:=hm b o hb;rw[old b (Array.getElem?_eq_some_iff.1 h1).1];exact h1
 refine(hs.2 _ _ m h W _ hS hpre).mono ?_;rintro e w' ⟨r',u',m',h',rfl,⟨rfl,rfl,rfl⟩,hok,hw,_⟩;have hu:=hr _ _ hok;subst hu;refine⟨rfl,GS hw.tape hw.os hw.output hw.drawn hw.size (λb hb=>?_)⟩;cases e3:m' b with
 |none=>
  refine hw.frame b hb ?_;rintro(h1|⟨i,c,u,hi,_,hc⟩)
  .exact h1 e3
  .exact nov _ i c u b hi hc
 |some o=>rw[hw.msat b o e3];exact(hpre.msat b o e3).symm
theorem QQ:Sound Tryz.prog 192 SX:=by
 refine⟨⟨Tryz.f192,Tryz.func192,rfl,by decide⟩,?_⟩;rintro cvs vs m h w K ⟨n,bq,bg,br,v,od,g,s,rs,r,wd,rfl,hq,hg,hr,ho,hrs,hv,rfl,hso,hw,hrw,hK⟩ hp
 obtain⟨v1,v2,rfl⟩:∃v v2,vs=[v,v2]:=by
  have:=(mQ hp.args).1
  match vs,this with
  |[v,v2],_=>exact⟨v,v2,rfl⟩
 have h1:v1= .int .i64 rs.length:=hp.args.1;have h2:v2= .func (.func 193) #[] #[.pointer (some ⟨bq,0,none⟩),.pointer (some ⟨bg,0,none⟩),.pointer (some ⟨br,0,none⟩)]:=hp.args.2.1;subst h1 h2
 have eg:∀args w,(callFunc 193 args).run Tryz.prog w= .ok (.enter 193 args) w:=λargs w=>by
  have hgf:=Tryz.func193;have hb:Tryz.f193.body.isSome=true:=rfl;have hn:(Tryz.f193.name== "runtime.NumGoroutine")=false:=by decide
  have hbn:¬Tryz.f193.body=none:=by intro e;rw[e]at hb;cases hb
  have hnm:¬Tryz.f193.name= "runtime.NumGoroutine" :=by simpa using hn
  simp[callFunc,program,Sem.run,hgf,hnm,hbn]
 have hlen:=hrs.len
 have hcall:=Any.sort_Search Tryz.searchO 193 #[.pointer (some ⟨bq,0,none⟩),.pointer (some ⟨bg,0,none⟩),.pointer (some ⟨br,0,none⟩)] rs.length (λi=>decide (kB od (rs.toArray[i]!) r>=0)) w eg aC
  (λmm os i hi=>PF (cs:=[.int .i64 i,.pointer (some ⟨bq,0,none⟩),.pointer (some ⟨bg,0,none⟩),.pointer (some ⟨br,0,none⟩)]) QP
   ⟨i,bq,bg,br,v,od,g,s,rs,r,rs.toArray[i]!,rfl,hq,hg,hr,ho,hrs,hv,by rw[getElem!_pos _ i (by simpa using hi)];simp[hi],rfl,rfl,rfl⟩ (λw u' hu=>hu) hp.hsat hp.msat hp.disj mm os)
  (λa b hab hb hpa=>?_)
 .refine Calls.mono hcall ?_;rintro e w' ⟨rfl,q,os,rfl⟩
  have ecount:((List.range rs.length).countP λi=> !decide (kB od (rs.toArray[i]!) r>=0))=rs.countP λy=>decide (kB od y r<0):=by
   have:=Go.Lib.countP_range rs.toArray (λy=> !decide (kB od y r>=0));rw[List.size_toArray]at this;rw[this];refine List.countP_congr λy _=>?_;simp
  rw[ecount];refine⟨_,_,m,h,rfl,hK,rfl,⟨rfl,rfl,rfl,Nat.le_add_right _ _,?_,λb hb _=>E8 hb,λb o v hv'=>?_,λb o hb=>?_,hp.disj,λ_ _ _ e=>e,λ_ _ _=>rfl,λb o hb=>.inr (.inl (by rw[show m b=some o from hb];simp))⟩,λb hb=>by cases hb⟩
  .show w.heap.size<=((w.drewN q).heap++os).size;rw[Array.size_append];exact Nat.le_add_right _ _
  .have h1:=hp.hsat b o v hv';rw[World.cell?_of_block (w:=w) (a:=⟨b,o,none⟩) (E8 (World.block_lt_of_cell? w ⟨b,o,none⟩ h1))];exact h1
  .have h1:=hp.msat b o hb;rw[E8 (Array.getElem?_eq_some_iff.1 h1).1];exact h1
 .have hpa:=of_decide_eq_true hpa;refine decide_eq_true ?_;rcases Nat.lt_or_eq_of_le hab with hlt|rfl
  .have ha:a<rs.length:=by omega
   rw[getElem!_pos _ a (by simpa using ha)]at hpa;rw[getElem!_pos _ b (by simpa using hb)];simp only[List.getElem_toArray]at hpa⊢
   have hwa:=hw _ (List.getElem_mem ha);have hwb:=hw _ (List.getElem_mem hb);have h5:=(List.pairwise_iff_getElem.1 hso) a b ha hb hlt;have h6:=Ae (od:=od) hwa hwb;have h7:=Ae (od:=od) hwa hrw;have h8:=Ae (od:=od) hwb hrw;rw[yT hwa hwb]at h6;have:=(Fs wd od).trans r rs[a] rs[b] (by rw[<-yT hrw hwa];omega) aC;rw[<-yT hrw hwb]at this;omega
  .exact hpa
theorem sU.get2{y:Nat}{l:List (List VV)}{kk:List (ByteArray×Sl)}{G:ByteArray->List (List VV)}{key:ByteArray}{K0:Prop}{K:Sl->Prop}(g:sU m h y gr od l kk G)(h0:Bx kk key ⟨none,0,0⟩->K0)(hK:∀s,Bx kk key s->K s):
 ∃(kvs:List (Value×Sl))(Ok:Value->Prop),y8 m y (kvs.map λp=>(p.1,eC p.2))/\KeyLaw Tryz.prog 9 Ok/\Ok (.string key)/\(∀e,List.Mem e kvs->Ok e.1)/\((∀e,List.Mem e kvs->e.1=Value.string key->False)->K0)/\∀t,List.Mem (Value.string key,t) kvs->K t:=by
 obtain⟨es,c,h1,h2,_,_⟩:=g.map_;refine⟨kk.map λp=>(.string p.1,p.2),_,⟨es,c,h1,by rw[h2];simp⟩,Ar,⟨key,rfl⟩,λe he=>?_,λhn=>h0 (.inl ⟨rfl,λh=>?_⟩),λt ht=>hK t (.inr ?_)⟩
 .obtain⟨k,_,rfl⟩:=List.mem_map.1 (show e∈_ from he);exact⟨k.1,rfl⟩
 .obtain⟨p,hp,e⟩:=List.mem_map.1 h;subst e;exact hn (.string p.1,p.2) (List.mem_map_of_mem (f:=λp:ByteArray×Sl=>(Value.string p.1,p.2)) hp) rfl
 .obtain⟨p,hp,e⟩:=List.mem_map.1 (show(Value.string key,t)∈_ from ht);simp only[Prod.mk.injEq,Value.string.injEq]at e;obtain⟨e1,e2⟩:=e;subst e1 e2;exact hp
theorem sU.keep{y:Nat}{l:List (List VV)}{kk:List (ByteArray×Sl)}{G:ByteArray->List (List VV)}(g:sU m h y gr od l kk G)(hk:∀o,m y=some o->m' y=some o)(le:PH.le h h'):sU m' h' y gr od l kk G:=by
 obtain⟨es,c,h1,h2,h3,h4⟩:=g.map_;exact⟨⟨es,c,hk _ h1,h2,h3,h4⟩,g.nodup,λp hp=>bH.mono (g.rows p hp) le (λr t hv=>cC.mono hv le),g.none_,g.perm,g.sort⟩
theorem sU.at_{y:Nat}{l:List (List VV)}{kk:List (ByteArray×Sl)}{G:ByteArray->List (List VV)}{key:ByteArray}{s:Sl}(g:sU m h y gr od l kk G)(hs:Bx kk key s):Rows h s (G key):=by
 rcases hs with⟨rfl,hn⟩|hp
 .rw[g.none_ key hn];exact(eK.nil h).rows (cR.nil _ _) (by simp)
 .exact g.rows _ hp
structure Yw(m5:MH)(hh:PH)(bq b9 b2:Nat)(e:Sl)(us2:List Sl)(Gk:List (List VV))(c:Nat×Nat×Nat×Nat×MH×PH):Prop where
 q:c.1=bq
 o:c.2.1=b9
 b:c.2.2.1=b2
 h:c.2.2.2.2.2=hh
 sub:Ai m5 c.2.2.2.2.1 b9
 out:lZ m5 c.2.2.2.2.1 b9 us2
 e_:c.2.2.2.2.1 b2=some (.cells #[eC e] 74 (0,0))
 g_:∃s,c.2.2.2.2.1 c.2.2.2.1=some (.cells #[eC s] 53 (0,0))/\Rows hh s Gk
def Em(q:Query)(ls:List (List (List VV))):List (List VV):=match q with|.mk _ _ _ _ _ gr od li _=>Bg gr od li (ls.getD 0 []) (ls.getD 1 [])
def BM(q:Query)(ls:List (List (List VV))):Prop:=match q with|.mk _ _ _ _ _ gr _ _ _=>2<=ls.length/\∃w,gZ w (ls.getD 0 [])/\gZ w (ls.getD 1 [])/\gX w gr
theorem Q1:Sound Tryz.prog 156 (Nu BM Em):=by
 refine Dz Tryz.func156 ?_;rintro cvs m h K ⟨v,t,q,bs,ls,rfl,hq,ha,hT,hok,hK⟩;refine⟨VM,rfl,aD Jz (aD Bh (aD QQ aF)),Gr v t m h (dJ h K),by kernel_rfl,?_⟩;show Gr v t m h (dJ h K);dsimp only[Gr,push_cast];obtain⟨op,ta,w,co,on,gr,od,li,args⟩:=q;obtain⟨hl2,wd,hrel,hrel',hcols⟩:=hok;intro b m1 hb1 hu1;obtain⟨s1,n1⟩:=gY (Sub.refl m) hb1 hu1;have m1b:m1 b=some (.cells ⟨v.enc⟩ 38 (0,0)):=hu1.at_;obtain⟨b1,off,x,ea,hlt,rd,sq⟩:=ha.get (By (i:=1) aC);obtain⟨b6,off6,x6,ea6,hlt6,rd6,sq6⟩:=ha.get (By (i:=0) aC);simp only[Em]at hK;generalize ls.getD 1 []=l' at hK hrel' sq;generalize ls.getD 0 []=l at hK hrel sq6;have hll:=hrel.len;have hg_:=hq.parts.group_;have ho_:=hq.parts.order_
 refine⟨λz=>z.1=t/\z.2.1=b/\PH.le h z.2.2.2.2/\Sub m z.2.2.2.1/\z.2.2.2.1 b=some (.cells ⟨v.enc⟩ 38 (0,0))/\∃y kk G,z.2.2.2.1 z.2.2.1=some (.cells #[.map (some y)] 207 (0,0))/\sU z.2.2.2.1 z.2.2.2.2 y gr od l' kk G,
  ⟨v,.of_m m1b (List.take_length ..),b1,off,ea,aC,aC,x,.imm rd,⟨v,x,gr,od,l',wd,rfl,hg_,ho_,sq,hrel',hcols,hT.sub s1,λy m2 h2 kk G hy hoth le2 hG=>?_⟩,.of_m m1b (List.take_length ..),.imm rd,λbc m2 hb2 hu2=>?_⟩,?_⟩
 .have yb:b≠y:=λe=>by rw[<-e,m1b]at hy;cases hy
  have m2b:m2 b=some (.cells ⟨v.enc⟩ 38 (0,0)):=by rw[hoth b yb];exact m1b
  have s2:Sub m m2:=λz o e=>by rw[hoth z (λe2=>by have:=s1 z o e;rw[e2,hy]at this;cases this)];exact s1 z o e
  refine⟨.of_m m2b (List.take_length ..),.imm (rd.mono le2),λbc m3 hb3 hu3=>⟨_,_,⟨hu3.at_⟩,by simp,λm4 hu4=>⟨(t,b,bc,m4,h2),⟨rfl,rfl,le2,?_,?_,y,kk,G,hu4.at_,?_⟩,MT⟩⟩⟩
  .obtain⟨s3,n3⟩:=gY s2 hb3 hu3;exact s3.upd n3 hu4.other
  .have:b≠bc:=λe=>by have:=hb3.m_;rw[<-e,m2b]at this;cases this
   show m4 b=_;rw[hu4.other b this,hu3.other b this];exact m2b
  .refine hG.keep (λo e=>?_) (.refl _);have:y≠bc:=λe2=>by rw[e2,hb3.m_]at e;cases e
   show m4 y=_;rw[hu4.other y this,hu3.other y this];exact e
 .obtain⟨s2,n2⟩:=gY s1 hb2 hu2;have bbc:b≠bc:=λe=>by have:=hb2.m_;rw[<-e,m1b]at this;cases this
  have m2b:m2 b=some (.cells ⟨v.enc⟩ 38 (0,0)):=by rw[hu2.other b bbc];exact m1b
  refine⟨v,x,gr,od,l',wd,rfl,hg_,ho_,sq,hrel',hcols,hT.sub s2,λy m3 h2 kk G hy hoth le2 hG=>?_⟩;have yb:b≠y:=λe=>by rw[<-e,m2b]at hy;cases hy
  have yc:bc≠y:=λe=>by rw[<-e,hu2.at_]at hy;cases hy
  have s3:Sub m m3:=λz o e=>by rw[hoth z (λe2=>by have:=s2 z o e;rw[e2,hy]at this;cases this)];exact s2 z o e
  refine⟨#[.map none],207,⟨by rw[hoth bc yc];exact hu2.at_⟩,by simp,λm4 hu4=>⟨(t,b,bc,m4,h2),⟨rfl,rfl,le2,s3.upd n2 hu4.other,?_,y,kk,G,hu4.at_,?_⟩,MT⟩⟩
  .show m4 b=_;rw[hu4.other b bbc,hoth b yb];exact m2b
  .refine hG.keep (λo e=>?_) (.refl _);show m4 y=_;rw[hu4.other y (Ne.symm yc)];exact e
 .rintro⟨t',b',bc,m4,hh⟩ ⟨e1,e2,leh,s4,m4b,y,kk,G,m4c,hG⟩;dsimp only at e1 e2 leh s4 m4b m4c hG⊢
  subst e1 e2;intro b9 m5 hb5 hu5;obtain⟨s5,n9⟩:=gY s4 hb5 hu5
  have up5:∀{z o},m4 z=some o->m5 z=some o/\z≠b9:=fun{z o} e2=>by
   have:z≠b9:=λe3=>by rw[e3,hb5.m_]at e2;cases e2
   exact⟨by rw[hu5.other z this];exact e2,this⟩
  obtain⟨us,hseq,hru⟩:=(sq6.mono leh).ex;have hul:=hru.len;refine⟨b6,off6,ea6,aC,aC,x6,.imm (rd6.mono leh),sT,us,λk my hy=>hy=hh/\Ai m5 my b9/\∃us2,lZ m5 my b9 us2/\us2.length<=k/\eK hh us2 (Bg gr od li (l.take k) l'),rQ,⟨x6,us,rfl,hseq,rfl⟩,⟨rfl,λz o e _=>e,[],lZ.new hu5.at_,by simp,by simpa[Bg]using eK.nil hh⟩,?_,?_⟩
  .rintro k e my hy hk-⟨rfl,hs7,us2,hout,hlen2,hr2⟩ b2 m6 hb6 hu6;obtain⟨r,hr,hv⟩:=hru.at' hk;have hkl:=(List.getElem?_eq_some_iff.1 hk).1;have hrl:=List.mem_of_getElem? hr;have hrw:=hrel.wid r hrl;have hcr:gX r.length gr:=by rw[hrw];exact hcols
   refine⟨_,_,⟨hu6.at_⟩,by simp,λm7 hu7=>?_⟩
   have up7:∀{z o},my z=some o->m7 z=some o/\z≠b2:=fun{z o} e2=>by
    have:z≠b2:=λe3=>by rw[e3,hb6.m_]at e2;cases e2
    exact⟨by rw[hu7.other z this,hu6.other z this];exact e2,this⟩
   have up:∀{z o},m4 z=some o->m7 z=some o:=fun{z o} e2=>(up7 (hs7 z o (up5 e2).1 (up5 e2).2)).1;have s7:Ai m5 m7 b9:=λz o e2 hne=>(up7 (hs7 z o e2 hne)).1
   have out_keep:∀{ma mb:MH},lZ m5 ma b9 us2->(∀z o,ma z=some o->mb z=some o)->lZ m5 mb b9 us2:=fun{ma mb} ho hk=>by
    obtain⟨s,h1,h2,h3⟩:=ho.ex;refine⟨s,hk _ _ h1,dH.keep h2 λz i e3=>?_,h3⟩;obtain⟨cur,h4⟩:=h2.blk e3;rw[h4];exact hk _ _ h4
   have o7:lZ m5 m7 b9 us2:=out_keep hout λz o e2=>(up7 e2).1;have m7e:m7 b2=some (.cells #[eC e] 74 (0,0)):=hu7.at_;have g7:=hG.keep (λo e2=>up e2) (.refl _);have rc:aL m7 hy bc 0 [Value.map (some y)]:=.of_m (up m4c) rfl;have re:aL m7 hy b2 0 [eC e]:=.of_m m7e rfl;have rg:aL m7 hy b' 17 [eC v.group]:=.of_m (up m4b) rfl;have hgh:Ints hy v.group gr:=hg_.mono leh;have T7:jD m7:=hT.sub λz o e2=>up (s4 z o e2)
   have fin:∀s,Bx kk (cT (pick r gr)) s->∀b3 m8,cH m7 hy b3->jQ m7 m8 b3 (.cells #[uE] 53 (0,0))->∃(cs:Array Value)(E:TypeId),pH m8 b3 (.cells cs E (0,0))/\0<cs.size/\∀m9,jQ m8 m9 b3 (.cells (Array.mk (eC s::cs.toList.drop 1)) E (0,0))->
    ∃c:Nat×Nat×Nat×Nat×MH×PH,Yw m5 hy b' b9 b2 e us2 (G (cT (pick r gr))) c/\U6 b' 0=U6 c.1 0/\U6 b9 0=U6 c.2.1 0/\U6 b2 0=U6 c.2.2.1 0/\U6 b3 0=U6 c.2.2.2.1 0/\m9=c.2.2.2.2.1/\hy=c.2.2.2.2.2/\True:=λs hs b3 m8 hb8 hu8=>by
    refine⟨_,_,⟨hu8.at_⟩,by simp,λm9 hu9=>⟨(b',b9,b2,b3,m9,hy),?_,MT⟩⟩
    have up9:∀z o,m7 z=some o->m9 z=some o:=λz o e2=>by
     have:z≠b3:=λe3=>by rw[e3,hb8.m_]at e2;cases e2
     rw[hu9.other z this,hu8.other z this];exact e2
    exact⟨rfl,rfl,rfl,rfl,λz o e2 hne=>up9 z o (s7 z o e2 hne),out_keep o7 up9,up9 _ _ m7e,s,hu9.at_,hG.at_ hs⟩
   have up8:∀{b3 m8},cH m7 hy b3->jQ m7 m8 b3 (.cells #[uE] 53 (0,0))->∀z o,m7 z=some o->m8 z=some o:=fun{b3 m8} hb8 hu8 z o e2=>by
    have:z≠b3:=λe3=>by rw[e3,hb8.m_]at e2;cases e2
    rw[hu8.other z this];exact e2
   refine⟨Yw m5 hy b' b9 b2 e us2 (G (cT (pick r gr))),⟨y,rc,e,re,v.group,rg,⟨rc,e,v.group,r,gr,rfl,hv,hgh,hrel.row r hrl,hcr,T7,rc,⟨re,rg,g7.get2 (λhs=>⟨rc,re,rg,fin _ hs⟩) (λs hs=>⟨rc,re,rg,fin _ hs⟩)⟩,rc,re,rg,λb3 m8 hb8 hu8=>?_⟩,rc,re,rg,λb3 m8 hb8 hu8=>?_⟩,?_⟩
   .have u8:=up8 hb8 hu8;exact⟨.of_m (u8 _ _ m7e) rfl,.of_m (u8 _ _ (up m4b)) rfl,(g7.keep (u8 y) (.refl _)).get2 (λhs=>fin _ hs b3 m8 hb8 hu8) (λs hs=>fin _ hs b3 m8 hb8 hu8)⟩
   .have u8:=up8 hb8 hu8;have rc8:aL m8 hy bc 0 [Value.map (some y)]:=.of_m (u8 _ _ (up m4c)) rfl;exact⟨rc8,e,v.group,r,gr,rfl,hv,hgh,hrel.row r hrl,hcr,T7.sub u8,rc8,.of_m (u8 _ _ m7e) rfl,.of_m (u8 _ _ (up m4b)) rfl,(g7.keep (u8 y) (.refl _)).get2 (λhs=>fin _ hs b3 m8 hb8 hu8) (λs hs=>fin _ hs b3 m8 hb8 hu8)⟩
   .rintro⟨c1,c2,c3,b3,mz,hz⟩ ⟨e1,e2,e3,e4,hsz,hoz,mze,s,mzg,hrows⟩;dsimp only at e1 e2 e3 e4 hsz hoz mze mzg⊢
    subst e1 e2 e3 e4;have upz:∀{z o},m4 z=some o->mz z=some o:=fun{z o} e2=>hsz z o (up5 e2).1 (up5 e2).2;have hcount:=Hd (od:=od) hrel' hcols (hrel.row r hrl) hrw;rw[<-(hG.perm _).countP_eq]at hcount;refine⟨s,.of_m mzg rfl,s.len,c1,b3,c3,v,od,s,e,G (cT (pick r gr)),r,wd,rfl,upz m4b,mzg,mze,ho_.mono leh,hrows,hv,hrows.slen.symm,hG.sort _,λz hz2=>?_,hrw,v.limit,.of_m (upz m4b) rfl,?_⟩
    .have:=(hG.perm _).mem_iff.1 (show z∈_ from hz2);exact hrel'.wid z (List.mem_filter.1 this).1
    .rw[hcount];have hlim:v.limit=li:=hq.parts.limit_;rw[hlim];refine aE (λh1=>?_) (λh1=>?_)
     .obtain⟨so,hbo,hrowo,hfro⟩:=hoz.ex;refine⟨so,.of_m hbo rfl,e,.of_m mze rfl,Eo ⟨_,hu5.at_⟩ hsz hbo hrowo hfro aC λm' hs' ho'=>⟨rfl,hs',us2++[e],ho',by simp;omega,?_⟩⟩;rw[Bg,iV _ hr,if_pos (decide_eq_true h1)];exact hr2.snoc hv
     .refine⟨rfl,hsz,us2,hoz,aC,?_⟩;rw[Bg,iV _ hr,if_neg (by simpa using h1),List.append_nil];exact hr2
  .rintro my hy-⟨rfl,hs7,us2,hout,hlen2,hr2⟩
   rw[hul,List.take_length]at hr2;obtain⟨s,hb,hrow,hfr⟩:=hout.ex;refine⟨s,.of_m hb rfl,dJ.row (s5.x n9 hs7) leh hrow (λj z e=>?_) (λh' le hri=>hK s h' (leh.trans le) ((hr2.mono le).rows hri (by have:=hr2.len;omega)))⟩;cases e2:m z with
   |none=>rfl
   |some o=>have e1:=hfr j z e;rw[s5 z o e2]at e1;cases e1
def WY(op:Int)(q:Query)(ls:List (List (List VV))):List (List VV):=
 if op=2 then Fb q ls else if op=3 then N1 q ls else if op=4 then Og q ls else if op=5 then NO q ls else if op=6 then L9 q ls else if op=7 then MA q ls else if op=8 then MJ q ls else if op=9 then NY q ls else Em q ls
def YX(op:Int)(q:Query)(ls:List (List (List VV))):Prop:=
 if op=2 then Dt 1 q ls else if op=3 then IS q ls else if op=4 then IT q ls else if op=5 then IP q ls else if op=6 then Dt 2 q ls else if op=7 then zB q ls else if op=8 then zB q ls else if op=9 then IQ q ls else BM q ls
mutual
def fO(ls:List (List (List VV))):Query->Nat->List (List VV)×Nat
 |.mk op ta w co on gr od li args,k=>if op=1 then(ls.getD k [],k+1)else(WY op (.mk op ta w co on gr od li args) (dV ls args k).1,(dV ls args k).2)
def dV(ls:List (List (List VV))):List Query->Nat->List (List (List VV))×Nat
 |[],k=>([],k)
 |q::qs,k=>((fO ls q k).1::(dV ls qs (fO ls q k).2).1,(dV ls qs (fO ls q k).2).2)
end
mutual
def Sm(ls:List (List (List VV))):Query->Nat->Prop
 |.mk op ta w co on gr od li args,k=>if op=1 then k<ls.length else YX op (.mk op ta w co on gr od li args) (dV ls args k).1/\N7 ls args k
def N7(ls:List (List (List VV))):List Query->Nat->Prop
 |[],_=>True
 |q::qs,k=>Sm ls q k/\N7 ls qs (fO ls q k).2
end
def Yy:Vc.Spec:=λcvs m h K=>∃op,cvs=[cI op]/\(op=2->K (.val (.agg #[.func (.func 148) #[] #[]])) m h)/\(op=3->K (.val (.agg #[.func (.func 149) #[] #[]])) m h)/\(op=4->K (.val (.agg #[.func (.func 150) #[] #[]])) m h)/\(op=5->K (.val (.agg #[.func (.func 151) #[] #[]])) m h)/\(op=6->K (.val (.agg #[.func (.func 152) #[] #[]])) m h)/\
 (op=7->K (.val (.agg #[.func (.func 153) #[] #[]])) m h)/\(op=8->K (.val (.agg #[.func (.func 154) #[] #[]])) m h)/\(op=9->K (.val (.agg #[.func (.func 155) #[] #[]])) m h)/\((op≠2/\op≠3/\op≠4/\op≠5/\op≠6/\op≠7/\op≠8/\op≠9)->K (.val (.agg #[.func (.func 156) #[] #[]])) m h)
def Leaves(h:PH)(s:Sl)(ls:List (List (List VV))):Prop:=bH h 1 eS (λl t=>Rows h t l) s ls
def Np(N:Nat):Vc.Spec:=λcvs m h K=>∃be v q lv ls k,cvs=[cP be,aQ v]/\dD h q v/\SizeOf.sizeOf q<N/\be≠1/\m be=some (.cells #[Sl.val lv,.int .i64 (k:Nat)] 128 (0,0))/\Leaves h lv ls/\jD m/\Sm ls q k/\
 ∀s' m' h',PH.le h h'->Rows h' s' (fO ls q k).1->jQ m m' be (.cells #[Sl.val lv,.int .i64 ((fO ls q k).2:Nat)] 128 (0,0))->K (cS s') m' h'
noncomputable def Xi(N:Nat)(be:Nat)(v:QV):Ctx:=uM [(86,Np N),(117,LU),(118,Yy),(148,Nu (Dt 1) Fb),(149,Nu IS N1),(150,Nu IT Og),(151,Nu IP NO),(152,Nu (Dt 2) L9),(153,Nu zB MA),(154,Nu zB MJ),(155,Nu IQ NY),(156,Nu BM Em)]
 [(7,{A:=Nat×List Value×MH×PH,st:=λ⟨i,l,m,h⟩=>cD 57 59 [(0,pv be),(3,.at (.ptr 3 0)),(6,.at (.lst 33)),(35,sv v.args),(36,iv v.args.len),(37,iv i)] [(3,.cells 38 (v.enc.map .val)),(33,.lst 158 1 (l.map λx=>[x]))] m h})] [] [] [] [] false
abbrev tQ(a:CV->MH->PH->Prop)(b:Nat)(c:MH)(d:PH):Prop:=a (CV.val (Value.agg (Array.mk (iR (jA b))))) c d
attribute [push_cast] tQ
def UB(op:Int)(m:MH)(h:PH)(K:CV->MH->PH->Prop):Prop:=
  dA (op==2) (tQ K 148 m h) (op==3) (tQ K 149 m h) (dA (op==4) (tQ K 150 m h) (op==5) (tQ K 151 m h) (dA (op==6) (tQ K 152 m h) (op==7) (tQ K 153 m h) (dA (op==8) (tQ K 154 m h) (op==9) (tQ K 155 m h) (tQ K 156 m h))))
noncomputable abbrev CK(a:Nat×List Value×MH×PH):List (List Value):=List.map (fun(x:Value)=>iR x) a.2.1
noncomputable abbrev qW(a:Nat×List Value×MH×PH):Nat->Option Obj:=a.2.2.1
abbrev zI(a:Sl->(List (List (List VV)))->Prop):Prop:=∃(x:Sl)(x1:List (List (List VV))),a x x1
abbrev tS(a:Prop)(b:Nat×List Value×MH×PH)(c:Sl->PH->QV->Sl->Query->(List Nat)->(List (List (List VV)))->Prop):Prop:=a->bV b.2.2.2 1 (List.map (fun(x:Value)=>iR x) b.2.1) (λx x1=>∃(x2:QV)(x3:Sl)(x4:Query),Mz (λx5 x6=>c x x1 x2 x3 x4 x5 x6))
abbrev tR(a:QV)(b:Sl)(c:QV)(d:Sl)(e:PH)(g:Query)(i:List Nat)(j:List (List (List VV)))(k:Nat×List Value×MH×PH)(l n:Prop):Prop:=aA (bK (cN a) (lY b)=bK (cN c) (lY d)) (dD e g c) (aA (Cp e d i j) (jD (qW k)) (l/\n))
attribute [push_cast] CK qW zI tS tR
def OD(N:Nat)(be:Nat)(v:QV)(m:MH)(h:PH)(K:CV->MH->PH->Prop):Prop:=
  dR v.op 1 (iQ m h be 0 (λy=>∃(y1:Int),aL m h be 1 (bW y1)/\cZ y.a y1 y (λb o y2=>aL m h b (fJ o y1 1) (aK y2)/\tD m h be 1 (λy3=>fD (λc E=>aA (pH m be (dY c E 0)) (dU 1 c) (∀(m1:MH),bC m m1 be (splice c.toList 1 (bW (iN (y3+1)))) E->K (lY y2) m1 h)))))) (aA (cG (aG v.args)) (aG v.args<=aG v.args) (aA (sN (aG v.args*8)) (sN (aG v.args)) (∃(I:Nat×List Value×MH×PH->Prop)(m1:Nat×List Value×MH×PH->Nat),(∃(x:Nat×List Value×MH×PH),aA (I x) (dG be) (aA (eP 3) (eL 33) (aA (aJ v.args) (qT v) (aA (aZ x.1) (dQ v) (aH (CU 158 1 (aG v.args) H6 (cM 158 1 (CK x))) (bG m x.2.2) (h=x.2.2.2) True)))))/\∀(x:Nat×List Value×MH×PH),I x->aW (↑x.1:Int) (aG v.args) (bD (λb o
 =>aH (bE v.args.a b o) (0<=(↑x.1:Int)) ((↑x.1:Int)<aG v.args) (∃(y:QV),aL (qW x) x.2.2.2 b (bF o x.1 21) y.enc/\∃(b1:Nat),jV (λv1 q=>zI (λl l1=>∃(k:Nat),aA (bK (qJ be 0) (cN y)=bK (qJ b1 0) (cN v1)) (dD x.2.2.2 q v1) (aA (nP q N) (jO (b1=1)) (aA (x.2.2.1 b1=Option.some (dY (Array.mk (jS (eC l) (eN (↑k:Int)))) 128 0)) (Leaves x.2.2.2 l l1) (aA (jD (qW x)) (Sm l1 q k) (∀(s:Sl),fU (λm2 h1=>dE x.2.2.2 h1 (Rows h1 s (fO l1 q k).1) (bC (qW x) m2 b1 (jS (eC l) (eN (↑(fO l1 q k).2:Int))) 128->∃(s1:Sl),j2 (tY s s1) (λb2=>∀(h2:PH),dE h1 h2 (aX h2 b2 0 (aK s1)) (aA (cG (↑x.1:Int)) ((↑x.1:Int)<j9 (CK x)) (∃(e:List Value),aA (tX (CK x) (pU x.1) e) (0<e.length) (∃(x1:Nat×
 List Value×MH×PH),aA (I x1) (m1 x1<m1 x) (aA (dG be) (eP 3) (aA (eL 33) (aJ v.args) (aA (qT v) (fV (bB x.1 1)=bM x1.1) (aA (dQ v) (cM 158 1 (List.set (CK x) (pU x.1) (wY 147 (Array.mk (iR (P1 b2 0)))::List.drop 1 e))=cM 158 1 (CK x1)) (aA (bG m2 x1.2.2) (h2=x1.2.2.2) True)))))))))))))))))))) (∃(o:Int),aA (nR v.op o) (tS (o=2) x (λs h1 v1 t q b l=>tR v s v1 t h1 q b l x (Dt 1 q l) (lN h1 (Fb q l) K (qW x)))) (aA (tS (o=3) x (λs h1 v1 t q b l=>tR v s v1 t h1 q b l x (IS q l) (lN h1 (N1 q l) K (qW x)))) (tS (o=4) x (λs h1 v1 t q b l=>tR v s v1 t h1 q b l x (IT q l) (lN h1 (Og q l) K (qW x)))) (aA (tS (o=5) x (λs h1 v1 t q b l=>tR v s v1 t h1 q b l x (IP q l) (lN h1 (NO q
 l) K (qW x)))) (tS (o=6) x (λs h1 v1 t q b l=>tR v s v1 t h1 q b l x (Dt 2 q l) (lN h1 (L9 q l) K (qW x)))) (aA (tS (o=7) x (λs h1 v1 t q b l=>tR v s v1 t h1 q b l x (zB q l) (lN h1 (MA q l) K (qW x)))) (tS (o=8) x (λs h1 v1 t q b l=>tR v s v1 t h1 q b l x (zB q l) (lN h1 (MJ q l) K (qW x)))) (tS (o=9) x (λs h1 v1 t q b l=>tR v s v1 t h1 q b l x (IQ q l) (lN h1 (NY q l) K (qW x)))/\tS (aA (jO (o=2)) (jO (o=3)) (aA (jO (o=4)) (jO (o=5)) (aH (jO (o=6)) (jO (o=7)) (jO (o=8)) (jO (o=9))))) x (λs h1 v1 t q b l=>tR v s v1 t h1 q b l x (BM q l) (lN h1 (Em q l) K (qW x)))))))))))
theorem Rw:Sound Tryz.prog 118 Yy:=by
 refine iB Tryz.func118 ?_;rintro cvs m h K ⟨op,rfl,h2,h3,h4,h5,h6,h7,h8,h9,hK⟩;refine⟨dL [] [] [] [] false,rfl,aF,UB op m h K,by kernel_rfl,?_⟩;exact(aB (λe=>h2 (by simpa using e)) λe2=>aB (λe=>h3 (by simpa using e)) λe3=>aB (λe=>h4 (by simpa using e)) λe4=>aB (λe=>h5 (by simpa using e)) λe5=>aB (λe=>h6 (by simpa using e)) λe6=>aB (λe=>h7 (by simpa using e)) λe7=>aB (λe=>h8 (by simpa using e)) λe8=>aB (λe=>h9 (by simpa using e)) λe9=>hK ⟨by simpa using e2,by simpa using e3,by simpa using e4,by simpa using e5,by simpa using e6,by simpa using e7,by simpa using e8,by simpa using e9⟩)
theorem Hi{ls:List (List (List VV))}{q:Query}:∀{a:List Query}{k:Nat},dV ls (a++[q]) k=((dV ls a k).1++[(fO ls q (dV ls a k).2).1],(fO ls q (dV ls a k).2).2)
 |[],k=>by simp[dV]
 |p::a,k=>by
  rw[List.cons_append,dV,Hi];simp[dV]
theorem Sk{ls:List (List (List VV))}{q:Query}{b:List Query}:∀{a:List Query}{k:Nat},N7 ls (a++q::b) k->Sm ls q (dV ls a k).2
 |[],k,h=>by rw[List.nil_append,N7]at h;simpa[dV]using h.1
 |p::a,k,h=>by
  rw[List.cons_append,N7]at h;rw[dV];exact Sk h.2
theorem DZ{ls:List (List (List VV))}:∀{a:List Query}{k:Nat},(dV ls a k).1.length=a.length
 |[],k=>by simp[dV]
 |p::a,k=>by rw[dV];simp[DZ]
theorem SB:∀N,Sound Tryz.prog 86 (Np N)
 |0=>by
  refine eJ (fn:=Tryz.f86) (c:=dO Tryz.f86) Tryz.func86 rfl (by decide) ?_;rintro cvs m h K ⟨be,v,q,lv,ls,k,rfl,_,hN,_⟩;omega
 |N+1=>by
  refine iB Tryz.func86 ?_;rintro cvs m h K ⟨be,v,q,lv,ls,k,rfl,hq,hN,hb1,hbe,hlv,hT,hok,hK⟩;refine⟨Xi N be v,rfl,aD (SB N) (aD Rx (aD Rw (aD Q9 (aD Q8 (aD Q7 (aD Q6 (aD Q5 (aD Q4 (aD Q3 (aD Q2 (aD Q1 aF))))))))))),OD N be v m h K,by kernel_rfl,?_⟩;dsimp only[OD,push_cast];obtain⟨op,ta,w,co,on,gr,od,li,args⟩:=q;have xq:=hq.parts;rw[fO]at hK;rw[Sm]at hok;have hvop:v.op=op:=xq.op_;refine aB (λe=>?_) (λe=>?_)
  .have e:op=1:=by rw[<-hvop];simpa using e
   rw[if_pos e]at hok;simp only[if_pos e]at hK;have hlen:=bH.slen hlv;obtain⟨b,o,s,ea,rd,hr⟩:=bH.at hlv (List.getElem?_eq_getElem hok);have r0:aL m h be 0 [eC lv]:=.of_m hbe rfl;have r1:aL m h be 1 [eN (k:Nat)]:=.of_m hbe rfl;have hl5:=hlv.len;refine⟨lv,r0,k,r1,b,o,ea,aC,aC,s,.imm rd,k,r1,_,_,⟨hbe⟩,by simp,λm' hu=>hK s m' h (.refl _) ?_ ?_⟩
   .rw[List.getD_eq_getElem?_getD,List.getElem?_eq_getElem hok];exact hr
   .have e5:IntKind.i64.wrap ((k:Int)+1)=((k+1:Nat):Int):=by rw[iM aC]
    rw[e5]at hu;exact hu
  .have e:op≠1:=by rw[<-hvop];simpa using e
   rw[if_neg e]at hok;simp only[if_neg e]at hK;obtain⟨hop,hoks⟩:=hok;have hargs:=xq.args_;have hal:=bH.slen hargs;have hal2:=bH.len hargs
   refine⟨aC,aC,aC,aC,λz=>z.1<=args.length/\PH.le h z.2.2.2/\jQ m z.2.2.1 be (.cells #[Sl.val lv,.int .i64 ((dV ls (args.take z.1) k).2:Nat)] 128 (0,0))/\∃bs:List Nat,bs.length=z.1/\z.2.1=bs.map Ki++List.replicate (args.length-z.1) .nilFunc/\∀j b l,bs[j]? =some b->(dV ls (args.take z.1) k).1[j]? =some l->Kq z.2.2.2 b l,λz=>args.length-z.1,
    ⟨(0,List.replicate args.length .nilFunc,m,h),⟨by simp,.refl _,⟨by dsimp only;rw[List.take_zero,dV];exact hbe,λ_ _=>rfl⟩,[],rfl,by simp,λj b l h1 _=>by rw[List.getElem?_nil]at h1;cases h1⟩,?_⟩,?_⟩
   .rw[show((v.args.len:Int)).toNat=args.length by omega];dsimp only;rw[List.map_replicate];exact MT
   .rintro⟨i,l,zm,zh⟩ ⟨hi,lez,hu,bs,hbs,hl,hseq⟩;dsimp only at hi lez hu hbs hl hseq⊢
    have hTz:jD zm:=by
     obtain⟨T,fz,e1⟩:=hT;exact⟨T,fz,by rw[hu.other 1 (Ne.symm hb1)];exact e1⟩
    refine aE (λhlt=>?_) (λhge=>?_)
    .obtain⟨p,hp⟩:=eY hal hlt;obtain⟨b,o,u,ea,hrd,hru⟩:=bH.at (yY.mono hargs lez) hp;have hpl:=(List.getElem?_eq_some_iff.1 hp).1
     have hsz:SizeOf.sizeOf p<N:=by
      have:=List.sizeOf_lt_of_mem (List.mem_of_getElem? hp);simp only[Query.mk.sizeOf_spec]at hN;omega
     have hsplit:args=args.take i++p::args.drop (i+1):=by
      have h5:args[i]=p:=(List.getElem?_eq_some_iff.1 hp).2;rw[<-h5,List.getElem_cons_drop hpl,List.take_append_drop]
     have hokp:Sm ls p (dV ls (args.take i) k).2:=Sk (b:=args.drop (i+1)) (by rw[<-hsplit];exact hoks)
     have hsn:dV ls (args.take (i+1)) k=((dV ls (args.take i) k).1++[(fO ls p (dV ls (args.take i) k).2).1],(fO ls p (dV ls (args.take i) k).2).2):=by
      rw[List.take_add_one,hp,Option.toList_some,Hi]
     refine⟨b,o,ea,aC,aC,u,.imm hrd,be,u,p,lv,ls,(dV ls (args.take i) k).2,rfl,hru,hsz,hb1,hu.at_,bH.mono hlv lez (λl s hr=>bH.mono hr lez λr t hv=>cC.mono hv lez),hTz,hokp,λs' m' h' le' hr' hu'=>⟨s',rfl,λb2 h2 le2 hrd2=>?_⟩⟩;have hll:l.length=args.length:=by rw[hl,List.length_append,List.length_map,List.length_replicate];omega
     have hev:l[i]? =some .nilFunc:=by
      rw[hl,List.getElem?_append_right (by simp;omega),List.getElem?_replicate,if_pos (by simp;omega)]
     refine⟨aC,by simp;omega,[.nilFunc],by simp[hev],by simp,(i+1,l.set i (Ki b2),m',h2),⟨by dsimp only;omega,lez.trans (le'.trans le2),?_,bs++[b2],by simp[hbs],?_,?_⟩,by dsimp only;omega,?_⟩
     .dsimp only;rw[hsn];exact⟨hu'.at_,λb5 hb5=>by rw[hu'.other b5 hb5,hu.other b5 hb5]⟩
     .dsimp only;rw[hl,List.set_append,if_neg (by simp;omega),List.map_append,List.append_assoc];congr 1;rw[show args.length-i=(args.length-(i+1))+1 by omega,List.replicate_succ];simp[hbs]
     .dsimp only;rw[hsn];intro j b5 l5 h5 h6;have hel:(dV ls (args.take i) k).1.length=bs.length:=by rw[DZ,List.length_take];omega
      by_cases hj:j<bs.length
      .rw[List.getElem?_append_left hj]at h5;rw[List.getElem?_append_left aC]at h6;exact(hseq j b5 l5 h5 h6).mono (le'.trans le2)
      .rw[List.getElem?_append_right aC]at h5;rw[List.getElem?_append_right aC]at h6;have:j-bs.length=0:=by have:=(List.getElem?_eq_some_iff.1 h5).1;simp at this;omega
       rw[this]at h5;rw[hel,this]at h6;simp at h5 h6;subst h5 h6
       obtain⟨us,h7,h8⟩:=(show∃us,cR h' s' 1 (us.map eS)/\eK h' us _ from by
        obtain⟨us,h7,h8,h9⟩:=hr'.ex;exact⟨us,h7,h8.symm,h9⟩)
       exact⟨us,⟨s',hrd2,h7.mono le2,by have h9:=hr'.len;rw[h8.len];exact h9⟩,h8.mono le2⟩
     .dsimp only;rw[iM aC]
      have e9:((l.map λx=>[x]).set ((i:Int)).toNat (Ki b2::List.drop 1 [.nilFunc]))=(l.set i (Ki b2)).map λx=>[x]:=by
       rw[List.map_set];rfl
      exact⟨MT,rfl,rfl,rfl,rfl,rfl,rfl,by rw[<-e9];rfl,rfl,rfl,trivial⟩
    .have hi2:i=args.length:=by omega
     subst hi2;rw[List.take_length]at hu hseq;rw[Nat.sub_self,List.replicate_zero,List.append_nil]at hl
     have fin:∀{okF:Query->List (List (List VV))->Prop}{f:Query->List (List (List VV))->List (List VV)},okF (.mk op ta w co on gr od li args) (dV ls args k).1->WY op (.mk op ta w co on gr od li args) (dV ls args k).1=f (.mk op ta w co on gr od li args) (dV ls args k).1->∀(s:Sl)(h':PH),zh.le h'->cR h' s 1 (l.map λx=>[x])->
      ∃(v1:QV)(t:Sl)(q:Query)(bs:List Nat)(ls:List (List (List VV))),[aQ v,cS s]=[aQ v1,cS t]/\dD h' q v1/\Cp h' t bs ls/\jD zm/\okF q ls/\∀(s':Sl)(h'_1:PH),h'.le h'_1->Rows h'_1 s' (f q ls)->K (cS s') zm h'_1:=fun{okF f} h1 h2 s h' le' hri=>by
      refine⟨v,s,_,bs,_,rfl,hq.mono (lez.trans le'),⟨?_,by rw[DZ];exact hbs,λj b l5 h5 h6=>(hseq j b l5 h5 h6).mono le'⟩,hTz,h1,λs' h'' le'' hr=>hK s' zm h'' (lez.trans (le'.trans le'')) (by rw[h2];exact hr) hu⟩;rw[hl,List.map_map]at hri;exact hri
     have hop2:=hop;refine⟨op,by rw[hvop],λe2=>fin (okF:=Dt 1) ?_ ?_,λe2=>fin (okF:=IS) ?_ ?_,λe2=>fin (okF:=IT) ?_ ?_,λe2=>fin (okF:=IP) ?_ ?_,λe2=>fin (okF:=Dt 2) ?_ ?_,λe2=>fin (okF:=zB) ?_ ?_,λe2=>fin (okF:=zB) ?_ ?_,λe2=>fin (okF:=IQ) ?_ ?_,λe2=>fin (okF:=BM) ?_ ?_⟩
     all_goals first
      |(subst e2;exact hop)
      |(subst e2;rfl)
      |(obtain⟨h2,h3,h4,h5,h6,h7,h8,h9⟩:=e2;first|(rw[YX,if_neg h2,if_neg h3,if_neg h4,if_neg h5,if_neg h6,if_neg h7,if_neg h8,if_neg h9]at hop;exact hop)|(rw[WY,if_neg h2,if_neg h3,if_neg h4,if_neg h5,if_neg h6,if_neg h7,if_neg h8,if_neg h9]))
def Tm:Vc.Spec:=λcvs m h K=>∃s r,cvs=[cS s]/\cC h s r/\r.length<=1000/\∀s' h',PH.le h h'->cC h' s' r->K (cS s') m h'
def Nh:Vc.Spec:=λcvs m h K=>∃lv v ls q,cvs=[cS lv,aQ v]/\Leaves h lv ls/\dD h q v/\Sm ls q 0/\jD m/\(fO ls q 0).1.length<=1000000/\(∀r∈(fO ls q 0).1,r.length<=1000)/\∀s' h',PH.le h h'->Rows h' s' (fO ls q 0).1->K (cS s') m h'
noncomputable def f58_ctx(N:Nat):Ctx:=uM [(86,Np N),(87,Tm)] [(5,{A:=Nat×List Sl×Sl×MH×PH,st:=λ⟨i,us,s,m,h⟩=>cD 31 33 [(7,.at (.lst 16)),(17,sv s),(18,iv s.len),(19,iv i)] [(16,.lst 74 1 (us.map eS))] m h})] [] [] [200005] [] false
def OC(a:Addr)(n c:Nat)(m:MH)(h:PH)(K:CV->MH->PH->Prop):Prop:=
  ∃(y:List (List Value)),aA (eG 3 y) (cR h (Sl.mk (Option.some a) n c) 3 y) (aA (eO (AN y*32)) (eO (AN y)) (bV h 3 ([]++y) (λs h1=>K (lY s) m h1)))
theorem Y2(a:Addr)(n c:Nat)(m:MH)(h:PH)(K:CV->MH->PH->Prop):OC a n c m h K=(Ab (dL [] [] [] [] false) Tryz.f87 (dO Tryz.f87) (entry Tryz.f87.ntmps [.val (.slice (some a) n c)] m h) K):=by kernel_rfl
def KW(n c:Nat)(m:MH)(h:PH)(K:CV->MH->PH->Prop):Prop:=
  K Dm m h
theorem Xh(n c:Nat)(m:MH)(h:PH)(K:CV->MH->PH->Prop):KW n c m h K=(Ab (dL [] [] [] [] false) Tryz.f87 (dO Tryz.f87) (entry Tryz.f87.ntmps [.val (.slice none n c)] m h) K):=by kernel_rfl
abbrev HY(a:Sl)(b:Prop):Prop:=aA (cG (aG a)) (aG a<=aG a) (aA (sN (aG a*24)) (sN (aG a)) b)
abbrev wS(a:List VV):Prop:=mO a.length
attribute [push_cast] HY wS
def f58_nice(N:Nat)(lv:Sl)(v:QV)(m:MH)(h:PH)(K:CV->MH->PH->Prop):Prop:=
  ∀(b:Nat)(m1:MH),aR (cH m h b) (bC m m1 b (jS uE cO) 128) (fD (λc E=>aA (pH m1 b (dY c E 0)) (2<=c.size) (∀(m2:MH),bC m1 m2 b (aT (eC lv) cO (List.drop 2 c.toList)) E->∃(b1:Nat),jV (λv1 q=>zI (λl l1=>∃(k:Nat),aA (bK (qJ b 0) (cN v)=bK (qJ b1 0) (cN v1)) (dD h q v1) (aA (nP q N) (jO (b1=1)) (aA (m2 b1=Option.some (dY (Array.mk (jS (eC l) (eN (↑k:Int)))) 128 0)) (Leaves h l l1) (aA (jD m2) (Sm l1 q k) (∀(s:Sl),fU (λm3 h1=>dE h h1 (Rows h1 s (fO l1 q k).1) (bC m2 m3 b1 (jS (eC l) (eN (↑(fO l1 q k).2:Int))) 128->HY s (HT (λI x=>aA (I x) (eL 16) (aA (bI s (eF x)) (bP s (eF x)) (aA (aZ x.1) (CU 74 1 (aG s) iL (iZ x.2.1)) (aA (bG m3 x.2.2.2) (h1=jG x) True))))
 (λI m4 x=>I x->aW (↑x.1:Int) (aG (eF x)) (cZ (eF x).a (↑x.1:Int) (eF x) (λb2 o y=>aL (pS x) (jG x) b2 (bF o x.1 1) (aK y)/\kP (λs1 r=>aH (tY y s1) (cC (jG x) s1 r) (wS r) (∀(s2:Sl)(h2:PH),dE (jG x) h2 (cC h2 s2 r) (aA (cG (↑x.1:Int)) ((↑x.1:Int)<j9 (oL x)) (∃(e:List Value),Jb (tX (oL x) (pU x.1) e) (0<e.length) (λx1=>aA (I x1) (m4 x1<m4 x) (aA (eL 16) (bI (eF x) (eF x1)) (aA (bP (eF x) (eF x1)) (fV (bB x.1 1)=bM x1.1) (aA (cM 74 1 (List.set (oL x) (pU x.1) (eC s2::List.drop 1 e))=iZ x1.2.1) (bG (pS x) x1.2.2.2) (bN h2 (jG x1)))))))))))) (bV (jG x) 1 (oL x) (λs1 h2=>K (lY s1) (pS x) h2)))))))))))))))
theorem TV:Sound Tryz.prog 87 Tm:=by
 refine eJ (fn:=Tryz.f87) (c:=dO Tryz.f87) Tryz.func87 rfl (by decide) ?_;rintro cvs m h K ⟨⟨a,n,c⟩,r,rfl,hs,hl,hK⟩;refine⟨dL [] [] [] [] false,rfl,aF,?_⟩;cases a with
 |none=>
  show Ab _ Tryz.f87 (dO Tryz.f87) (entry Tryz.f87.ntmps [.val (.slice none n c)] m h) K;rw[<-Xh n c m h K];dsimp only[KW,push_cast];refine hK ⟨none,0,0⟩ h (.refl _) ?_;cases r with
  |nil=>exact⟨⟨[],cR.nil _ _,rfl,λi x hx=>by simp at hx⟩,by simp⟩
  |cons x r=>
   obtain⟨b,o,v,e,_⟩:=bH.at hs (i:=0) (x:=x) rfl;cases e
 |some a=>
  show Ab _ Tryz.f87 (dO Tryz.f87) (entry Tryz.f87.ntmps [.val (.slice (some a) n c)] m h) K;rw[<-Y2 a n c m h K];dsimp only[OC,push_cast];obtain⟨⟨vs,h1,h2,h3⟩,h4⟩:=hs;refine⟨vs.map VV.enc,?_,h1,by rw[List.length_map];omega,by rw[List.length_map];omega,λs h' le hri=>hK s h' le ⟨⟨vs,by simpa using hri,h2,h3⟩,h4⟩⟩;constructor
  .intro e he;obtain⟨x,_,rfl⟩:=List.mem_map.1 he;rfl
  .intro e he u hu;obtain⟨x,_,rfl⟩:=List.mem_map.1 he;simp[VV.enc]at hu;rcases hu with rfl|rfl|rfl<;>rfl
theorem f58_sound:Sound Tryz.prog 58 Nh:=by
 refine Fa Tryz.func58 ?_;rintro cvs m h K ⟨lv,v,ls,q,rfl,hlv,hq,hok,hT,hl,hw,hK⟩;refine⟨f58_ctx (SizeOf.sizeOf q+1),rfl,aD (SB _) (aD TV aF),f58_nice (SizeOf.sizeOf q+1) lv v m h (kG h K),by kernel_rfl,?_⟩;dsimp only[f58_nice,push_cast];intro b m1 hb1 hu1;obtain⟨s1,n1⟩:=gY (Sub.refl m) hb1 hu1;refine⟨_,_,⟨hu1.at_⟩,by simp,λm2 hu2=>?_⟩;have s2:Sub m m2:=s1.upd n1 hu2.other
 have hb1':b≠1:=λe=>by
  obtain⟨T,fz,e1⟩:=hT;rw[<-e,n1]at e1;cases e1
 refine⟨b,v,q,lv,ls,0,rfl,hq,aC,hb1',hu2.at_,hlv,hT.sub s2,hok,λs m3 h3 le3 hr hu3=>?_⟩;have s3:Sub m m3:=s2.upd n1 hu3.other;generalize (fO ls q 0).1=rs at hl hw hK hr;have hsl:=bH.slen hr;refine⟨aC,aC,aC,aC,λz=>z.1<=rs.length/\z.2.2.1=s/\z.2.2.2.1=m3/\PH.le h3 z.2.2.2.2/\∃us,z.2.1=us++List.replicate (rs.length-z.1) ⟨none,0,0⟩/\eK z.2.2.2.2 us (rs.take z.1),λz=>rs.length-z.1,⟨(0,List.replicate rs.length ⟨none,0,0⟩,s,m3,h3),⟨by simp,rfl,rfl,.refl _,[],by simp,by simpa using eK.nil h3⟩,?_⟩,?_⟩
 .rw[show((s.len:Int)).toNat=rs.length by omega];dsimp only;rw[List.map_replicate];exact MT
 .rintro⟨i,us',s',m',hz⟩ ⟨hi,e1,e2,le4,us,hus,hru⟩;dsimp only at hi e1 e2 le4 hus hru⊢
  subst e1 e2;have hul:=hru.len;rw[List.length_take]at hul;refine aE (λhlt=>?_) (λhge=>?_)
  .have hil:i<rs.length:=by omega
   obtain⟨b2,o,u,ea,rd,hv⟩:=bH.at hr (List.getElem?_eq_getElem hil);have hlen:us'.length=rs.length:=by rw[hus,List.length_append,List.length_replicate];omega
   have hev:us'[i]? =some ⟨none,0,0⟩:=by
    rw[hus,List.getElem?_append_right aC,List.getElem?_replicate,if_pos aC]
   refine⟨b2,o,ea,aC,aC,u,.imm ((rd.mono le4)),u,rs[i],rfl,cC.mono hv le4,hw _ (List.getElem_mem _),λsc h5 le5 hvc=>⟨aC,by rw[List.length_map];omega,[uE],by rw[List.getElem?_map,show((i:Int)).toNat=i from rfl,hev];rfl,by simp,(i+1,us'.set i sc,s',m',h5),⟨by dsimp only;omega,rfl,rfl,le4.trans le5,us++[sc],?_,?_⟩,by dsimp only;omega,?_⟩⟩
   .dsimp only;rw[hus,List.set_append,if_neg aC,List.append_assoc];congr 1;rw[show rs.length-i=(rs.length-(i+1))+1 by omega,List.replicate_succ,show i-us.length=0 by omega];rfl
   .dsimp only;rw[List.take_add_one,List.getElem?_eq_getElem hil];exact(hru.mono le5).snoc hvc
   .dsimp only
    have e9:((us'.map eS).set ((i:Int)).toNat (eC sc::List.drop 1 [uE]))=(us'.set i sc).map eS:=by
     rw[List.map_set];rfl
    exact⟨MT,rfl,rfl,by rw[iM aC],by rw[<-e9],rfl,rfl,trivial⟩
  .have:i=rs.length:=by omega
   subst this;rw[Nat.sub_self,List.replicate_zero,List.append_nil]at hus;subst hus;rw[List.take_length]at hru;intro s6 h6 le6 hri;exact⟨m,h6,s3,le3.trans (le4.trans le6),.refl _,hK s6 h6 (le3.trans (le4.trans le6)) ((hru.mono le6).rows hri aC)⟩
mutual
def qH(h:PH):Query->QV->Nat->List (Nat×QV)->Prop
 |.mk _ _ _ _ _ _ _ _ args,v,d,es=>∃vs ess,cR h v.args 21 (vs.map QV.enc)/\iE h args vs (d+1) ess/\es=(d,v)::ess
def iE(h:PH):List Query->List QV->Nat->List (Nat×QV)->Prop
 |[],vs,_,es=>vs=[]/\es=[]
 |q::qs,vs,d,es=>∃v vs' e1 e2,vs=v::vs'/\dD h q v/\qH h q v d e1/\iE h qs vs' d e2/\es=e1++e2
end
def Yb(e:Nat×QV):List Value:=[.int .i64 (e.1:Nat),.agg e.2.enc.toArray]
def Na(N:Nat):Vc.Spec:=λcvs m h K=>∃(v:QV)(q:Query)(d l k0:Nat)(es xs:List (Nat×QV))(J:Nat->MH->PH->Prop),cvs=[aQ v,cI d,.val (.func (.yield l) #[] #[])]/\qH h q v d es/\SizeOf.sizeOf q<N/\d+pG q<=1000000/\(∀j e,es[j]? =some e->xs[k0+j]? =some e)/\J k0 m h/\
 (∀k e m' h',xs[k]? =some e->PH.le h h'->J k m' h'->Za Tryz.prog l (Yb e) m' h' (λr m2 h2=>r=true/\PH.le h' h2/\J (k+1) m2 h2))/\
 ∀m' h',PH.le h h'->J (k0+es.length) m' h'->K (cB true) m' h'
noncomputable def UC(N:Nat)(v:QV)(d l:Nat):Ctx:=
 {dL [(115,Na N)] [(4,{A:=Nat×MH×PH,st:=λ⟨i,m,h⟩=>cD 28 31 [(1,iv d),(2,vv (.func (.yield l) #[] #[])),(15,sv v.args),(16,iv v.args.len),(17,iv i)] [] m h})] [] [] false with yield:=some (Wj Tryz.prog)}
def Io:PH->List Value->List (List Value)->Prop:=λh caps xs=>∃b v q es,caps=[.pointer (some ⟨b,0,none⟩)]/\aX h b 0 (QV.enc v)/\qH h q v 1 es/\pG q<=900000/\xs=es.map Yb
def M9:Vc.Spec:=λcvs m h K=>∃v,cvs=[aQ v]/\∀b h',PH.le h h'->aX h' b 0 (QV.enc v)->K (.val (.func (.func 114) #[] #[.pointer (some ⟨b,0,none⟩)])) m h'
abbrev I6(a:Nat->(Nat×QV)->Prop):Prop:=∀(x:Nat)(x1:Nat×QV),a x x1
abbrev A8(a:List (Nat×QV))(b:Nat)(c:Nat×QV):Prop:=a[b]? =Option.some c
attribute [push_cast] I6 A8
def JI(N:Nat)(v:QV)(d l:Nat)(m:MH)(h:PH)(K:CV->MH->PH->Prop):Prop:=
  M8 Proofs.Tryz.prog (Wj Proofs.Tryz.prog)/\∃(l1:Nat)(v1:List Value)(R:Bool->MH->PH->Prop),aA (vU l::bK (fH (↑d:Int)) (cN v)=vU l1::List.map CV.val v1) (Za Proofs.Tryz.prog l1 v1 m h R) (∀(u:Bool),fU (λm1 h1=>gP (R u m1 h1) (!u) (K aU m1 h1) (∃(I:Nat×MH×PH->Prop)(m2:Nat×MH×PH->Nat),(∃(x:Nat×MH×PH),aA (I x) (eQ (bM d)) (aA (EO l) (aJ v.args) (aA (qT v) (aZ x.1) (aA (bG m1 x.2) (h1=cQ x) True))))/\∀(x:Nat×MH×PH),I x->aW (↑x.1:Int) (aG v.args) (bD (λb o=>aH (bE v.args.a b o) (0<=(↑x.1:Int)) ((↑x.1:Int)<aG v.args) (∃(y:QV),aL (dM x) (cQ x) b (bF o x.1 21) y.enc/\jV (λv2 q=>bD (λd1 l2=>∃(k:Nat)(e x1:List (Nat×QV))(J:Nat->MH->PH->Prop),aA (cE y.enc (bK (fH
 (bB d 1)) (vU l))=cE v2.enc (bK (fH (↑d1:Int)) (vU l2))) (qH (cQ x) q v2 d1 e) (aA (nP q N) (d1+pG q<=1000000) (aH (I6 (λj e1=>A8 e j e1->A8 x1 (k+j) e1)) (J k (dM x) (cQ x)) (I6 (λk1 e1=>fU (λm3 h2=>aR (A8 x1 k1 e1) (PH.le (cQ x) h2) (J k1 m3 h2->Za Proofs.Tryz.prog l2 (jS (eN (↑e1.1:Int)) (Value.agg (Array.mk e1.2.enc))) m3 h2 (fun(r:Bool)=>fun(m4:MH)=>fun(h3:PH)=>aA (mD r) (PH.le h2 h3) (J (k1+1) m4 h3)))))) (fU (λm3 h2=>dE (cQ x) h2 (J (k+e.length) m3 h2) (∃(x2:Nat×MH×PH),aA (I x2) (m2 x2<m2 x) (aA (eQ (bM d)) (EO l) (aA (aJ v.args) (bJ v.args) (aA (fV (bB x.1 1)=bM x2.1) (bG m3 x2.2) (bN h2 (cQ x2))))))))))))))) (K fK (dM x) (cQ x)))))
def Rz(N:Nat)(l bq:Nat)(m:MH)(h:PH)(K:CV->MH->PH->Prop):Prop:=
  ∃(y:QV),aL m h bq 0 y.enc/\jV (λv q=>bD (λd l1=>∃(k:Nat)(e x:List (Nat×QV))(J:Nat->MH->PH->Prop),aA (cE y.enc (bK (fH 1) (vU l))=cE v.enc (bK (fH (↑d:Int)) (vU l1))) (qH h q v d e) (aA (nP q N) (d+pG q<=1000000) (aH (I6 (λj e1=>A8 e j e1->A8 x (k+j) e1)) (J k m h) (I6 (λk1 e1=>fU (λm1 h1=>aR (A8 x k1 e1) (PH.le h h1) (J k1 m1 h1->Za Proofs.Tryz.prog l1 (jS (eN (↑e1.1:Int)) (Value.agg (Array.mk e1.2.enc))) m1 h1 (fun(r:Bool)=>fun(m2:MH)=>fun(h2:PH)=>aA (mD r) (PH.le h1 h2) (J (k1+1) m2 h2)))))) (fU (λm1 h1=>dE h h1 (J (k+e.length) m1 h1) (K (CV.tup []) m1 h1)))))))
def f57_nice(v:QV)(m:MH)(h:PH)(K:CV->MH->PH->Prop):Prop:=
  ∀(b:Nat)(m1:MH),aR (cH m h b) (bC m m1 b iL 33) (∃(v1:QV),j2 (tW v v1) (λb1=>∀(h1:PH),dE h h1 (aX h1 b1 0 v1.enc) (∃(S:PH->List Value->List (List Value)->Prop)(x:List (Int×QV))(I:Nat->MH->PH->Prop),aA (Cn Proofs.Tryz.prog 114 S) (S h1 (iR (P1 b1 0)) (List.map (fun(x1:Int×QV)=>jS (eN x1.1) (Value.agg (Array.mk x1.2.enc))) x)) (aA (I 0 m1 h1) (∀(k:Nat)(e:Int)(e1:QV),fU (λm2 h2=>aR (x[k]? =Option.some (e,e1)) (PH.le h1 h2) (I k m2 h2->∀(b2:Nat)(m3:MH),aR (cH m2 h2 b2) (bC m2 m3 b2 zV 38) (fD (λc E=>aA (pH m3 b2 (dY c E 0)) (21<=c.size) (∀(m4:MH),bC m3 m4 b2 (CH e1 e1 (aT (lJ (iT e1)) (kW (fN e1)) (aT (wU (fN e1)) (eN (o9 (fN e1))) (aT (qB (fN e1)) (lJ (fN e1)) (aT (nB e1) (nC
 e1) (aT (eC e1.on) (p9 e1) (aT (qA e1) (eN e1.limit) (fF (sM e1) 21 c)))))))) E->tD m4 h2 b2 0 (λy=>dR y 1 (iQ m4 h2 b 0 (λy1=>∃(y2:Int),aL m4 h2 b2 1 (bW y2)/\∃(x1:List (List Value)),aH (dH m4 (cV y1) 3 1 x1) (eO (lI x1 1*8)) (dN x1) (iA (λs m5=>eM m4 m5 (cV y1) s 3 1 (eT x1 (bW y2))->fD (λc1 E1=>aA (pH m5 b (dY c1 E1 0)) (dU 0 c1) (∀(m6:MH),bC m5 m6 b (fF (eC s) 1 c1) E1->I (k+1) m6 h2)))))) (I (k+1) m4 h2)))))))) (fU (λm2 h2=>dE h1 h2 (I x.length m2 h2) (iQ m2 h2 b 0 (λy=>K (lY y) m2 h2))))))))
mutual
theorem qH.mono{h h':PH}(le:PH.le h h'):∀{q:Query}{v:QV}{d:Nat}{es:List (Nat×QV)},qH h q v d es->qH h' q v d es
 |.mk _ _ _ _ _ _ _ _ args,v,d,es,w=>by
  rw[qH]at w⊢
  obtain⟨vs,ess,h1,h2,h3⟩:=w;exact⟨vs,ess,h1.mono le,iE.mono le h2,h3⟩
theorem iE.mono{h h':PH}(le:PH.le h h'):∀{qs:List Query}{vs:List QV}{d:Nat}{es:List (Nat×QV)},iE h qs vs d es->iE h' qs vs d es
 |[],vs,d,es,w=>by rw[iE]at w⊢;exact w
 |q::qs,vs,d,es,w=>by
  rw[iE]at w⊢
  obtain⟨v,vs',e1,e2,h1,h2,h3,h4,h5⟩:=w;exact⟨v,vs',e1,e2,h1,h2.mono le,qH.mono le h3,iE.mono le h4,h5⟩
end
theorem iE.len{h:PH}:∀{qs:List Query}{vs:List QV}{d:Nat}{es:List (Nat×QV)},iE h qs vs d es->vs.length=qs.length
 |[],vs,d,es,w=>by rw[iE]at w;obtain⟨rfl,_⟩:=w;rfl
 |q::qs,vs,d,es,w=>by
  rw[iE]at w;obtain⟨v,vs',e1,e2,h1,h2,h3,h4,h5⟩:=w;rw[h1,List.length_cons,List.length_cons,iE.len h4]
mutual
theorem qH.of{h:PH}:∀{q:Query}{v:QV},dD h q v->∀d,∃es,qH h q v d es
 |.mk _ _ _ _ _ _ _ _ args,v,hq,d=>by
  obtain⟨_,_,_,_,_,_,_,_,_,vs,h10,h11⟩:=hq;obtain⟨es,he⟩:=iE.of h11 (d+1);exact⟨(d,v)::es,by rw[qH];exact⟨vs,es,h10,he,rfl⟩⟩
theorem iE.of{h:PH}:∀{qs:List Query}{vs:List QV},uN h qs vs->∀d,∃es,iE h qs vs d es
 |[],vs,hq,d=>⟨[],by rw[iE];exact⟨hq,rfl⟩⟩
 |q::qs,vs,hq,d=>by
  obtain⟨v,vs',rfl,h1,h2⟩:=hq;obtain⟨e1,h3⟩:=qH.of h1 d;obtain⟨e2,h4⟩:=iE.of h2 d;exact⟨e1++e2,by rw[iE];exact⟨v,vs',e1,e2,rfl,h1,h3,h4,rfl⟩⟩
end
mutual
def eH:Query->List Int
 |.mk op ta _ _ _ _ _ _ args=>(if op=1 then[ta]else[])++dC args
def dC:List Query->List Int
 |[]=>[]
 |q::qs=>eH q++dC qs
end
def wP(es:List (Nat×QV)):List Int:=(es.filter λe=>e.2.op==1).map λe=>e.2.table
theorem FM{a b:List (Nat×QV)}:wP (a++b)=wP a++wP b:=by simp[wP]
mutual
theorem qH.scans{h:PH}:∀{q:Query}{v:QV}{d:Nat}{es:List (Nat×QV)},dD h q v->qH h q v d es->wP es=eH q
 |.mk op ta _ _ _ _ _ _ args,v,d,es,hq,w=>by
  rw[qH]at w;obtain⟨vs,ess,h1,h2,rfl⟩:=w;obtain⟨h3,h4,_⟩:=hq;rw[eH, <-iE.scans h2,show((d,v)::ess)=[(d,v)]++ess from rfl,FM];congr 1;simp only[wP,List.filter_cons,List.filter_nil,h3];by_cases e:op=1
  .simp[e,h4]
  .simp[e]
theorem iE.scans{h:PH}:∀{qs:List Query}{vs:List QV}{d:Nat}{es:List (Nat×QV)},iE h qs vs d es->wP es=dC qs
 |[],vs,d,es,w=>by rw[iE]at w;rw[w.2];rfl
 |q::qs,vs,d,es,w=>by
  rw[iE]at w;obtain⟨v,vs',e1,e2,h1,h2,h3,h4,rfl⟩:=w;rw[FM,dC,qH.scans h2 h3,iE.scans h4]
end
mutual
theorem qH.small{h:PH}:∀{q:Query}{v:QV}{d:Nat}{es:List (Nat×QV)},qH h q v d es->es.length<=pG q
 |.mk op ta _ _ _ _ _ _ args,v,d,es,w=>by
  rw[qH]at w;obtain⟨vs,ess,h1,h2,rfl⟩:=w;have:=iE.small h2;simp only[List.length_cons,pG];omega
theorem iE.small{h:PH}:∀{qs:List Query}{vs:List QV}{d:Nat}{es:List (Nat×QV)},iE h qs vs d es->es.length<=rU qs
 |[],vs,d,es,w=>by rw[iE]at w;rw[w.2];simp
 |q::qs,vs,d,es,w=>by
  rw[iE]at w;obtain⟨v,vs',e1,e2,h1,h2,h3,h4,rfl⟩:=w;have h5:=qH.small h3;have h6:=iE.small h4;simp only[List.length_append,rU];omega
end
theorem Yc:∀q:Query,1<=pG q
 |.mk _ _ _ _ _ _ _ _ _=>by rw[pG];omega
theorem Sn:∀l:List Query,l.length<=rU l
 |[]=>by simp
 |a::l=>by have:=Sn l;have:=Yc a;simp only[List.length_cons,rU];omega
theorem MZ:∀{l:List Query}{a:Query},a∈l->pG a<=rU l
 |b::l,a,h=>by
  rw[rU];rcases List.mem_cons.1 h with rfl|h
  .omega
  .have:=MZ h;omega
theorem LD:∀N,Sound Tryz.prog 115 (Na N)
 |0=>by
  refine eJ (fn:=Tryz.f115) (c:=dO Tryz.f115) Tryz.func115 rfl (by decide) ?_;rintro cvs m h K ⟨v,q,d,l,k0,es,xs,J,rfl,_,hN,_⟩;omega
 |N+1=>by
  refine iB Tryz.func115 ?_;rintro cvs m h K ⟨v,q,d,l,k0,es,xs,J,rfl,hw,hN,hd,hx,h0,hround,hend⟩;refine⟨UC N v d l,rfl,aD (LD N) aF,JI N v d l m h K,by kernel_rfl,?_⟩;dsimp only[JI,push_cast];obtain⟨op,ta,w,co,on,gr,od,li,args⟩:=q;rw[qH]at hw;obtain⟨vs,ess,hrow,hws,rfl⟩:=hw;simp only[Query.mk.sizeOf_spec]at hN;rw[pG]at hd;have hvl:=hws.len;have hal:=hrow.len;have hls:=Sn args;rw[List.length_map]at hal;refine⟨Is _,l,Yb (d,v),_,rfl,hround k0 (d,v) m h (hx 0 _ rfl) (.refl _) h0,?_⟩;rintro u m' h' ⟨rfl,le',hJ⟩;refine aB (λe=>by cases e) (λ_=>?_);refine⟨λz=>z.1<=args.length/\PH.le h z.2.2/\∃e1 e2,ess=e1++e2/\iE z.2.2 (args.drop z.1) (vs.drop z.1) (d+1) e2/\J (k0+1+e1.length) z.2.1 z.2.2,λz=>args.length-z.1,⟨(0,m',h'),⟨by simp,le',[],ess,rfl,hws.mono le',hJ⟩,MT⟩,?_⟩;rintro⟨i,mz,hz⟩ ⟨hi,lez,e1,e2,hes,hwz,hJz⟩;dsimp only at hi lez hwz hJz⊢
  refine aE (λhlt=>?_) (λhge=>?_)
  .have hil:i<args.length:=by omega
   rw[List.drop_eq_getElem_cons hil,iE]at hwz;obtain⟨v1,vs',e11,e22,hvd,hq1,hw1,hws1,rfl⟩:=hwz
   have hvi:vs[i]? =some v1:=by
    have:(vs.drop i)[0]? =some v1:=by rw[hvd];rfl
    simpa using this
   have hvd':vs'=vs.drop (i+1):=by
    have:(vs.drop i).drop 1=vs':=by rw[hvd];rfl
    rw[<-this,List.drop_drop]
   obtain⟨b,o,ea,rd⟩:=hrow.get (i:=i) (e:=v1.enc) (by rw[List.getElem?_map,hvi];rfl);have hsz:=List.sizeOf_lt_of_mem (List.getElem_mem hil);have hcn:=MZ (List.getElem_mem hil);refine⟨b,o,ea,aC,aC,v1,.imm (rd.mono lez),v1,args[i],d+1,l,k0+1+e1.length,e11,xs,J,by rw[iM aC],hw1,aC,aC,λj e hj=>?_,hJz,λk e m2 h2 hk le2 hJ2=>hround k e m2 h2 hk (lez.trans le2) hJ2,λm2 h2 le2 hJ2=>⟨(i+1,m2,h2),⟨by dsimp only;omega,lez.trans le2,e1++e11,e22,by rw[hes,List.append_assoc],?_,?_⟩,by dsimp only;omega,?_⟩⟩
   .have h5:=(List.getElem?_eq_some_iff.1 hj).1
    have:=hx (1+e1.length+j) e (by
     rw[hes,show 1+e1.length+j=(e1.length+j)+1 by omega,List.getElem?_cons_succ,List.getElem?_append_right aC,show e1.length+j-e1.length=j by omega,List.getElem?_append_left h5];exact hj)
    rw[show k0+1+e1.length+j=k0+(1+e1.length+j)by omega];exact this
   .dsimp only;rw[<-hvd'];exact hws1.mono le2
   .dsimp only;rw[List.length_append,show k0+1+(e1.length+e11.length)=k0+1+e1.length+e11.length by omega];exact hJ2
   .dsimp only;rw[iM aC];exact MT
  .have:i=args.length:=by omega
   subst this;rw[List.drop_of_length_le (Nat.le_refl _),iE]at hwz;obtain⟨_,rfl⟩:=hwz;rw[List.append_nil]at hes;subst hes;exact hend mz hz lez (by rw[List.length_cons,show k0+(ess.length+1)=k0+1+ess.length by omega];exact hJz)
theorem Pt:Sound Tryz.prog 114 (WH Tryz.prog Io):=by
 refine iB Tryz.func114 ?_;rintro cvs m h K ⟨l,caps,xs,J,rfl,⟨b,v,q,es,rfl,hb,hw,hs,rfl⟩,h0,hround,hend⟩;refine⟨dL [(115,Na (SizeOf.sizeOf q+1))] [] [] [] false,rfl,aD (LD _) aF,Rz (SizeOf.sizeOf q+1) l b m h K,by kernel_rfl,?_⟩;exact⟨v,.imm hb,v,q,1,l,0,es,es,J,rfl,hw,aC,aC,λj e hj=>by rw[Nat.zero_add];exact hj,h0,λk e m' h' hk le hJ=>hround k (Yb e) m' h' (by rw[List.getElem?_map,hk];rfl) le hJ,λm' h' le hJ=>hend _ m' h' le (by rw[List.length_map];rw[Nat.zero_add]at hJ;exact hJ)⟩
theorem Sq:Cn Tryz.prog 114 Io:=⟨Pt⟩
theorem Jt:Sound Tryz.prog 80 M9:=by
 refine W6 Tryz.func80 ?_;rintro cvs m h K ⟨v,rfl,hK⟩;refine⟨dL [] [] [] [] false,rfl,aF,OJ v m h (dJ h K),by kernel_rfl,?_⟩;dsimp only[OJ,push_cast];intro b m' hun hu _;have sub:Sub m m':=(gY (Sub.refl m) hun hu).1;refine⟨m,lA h b (QV.enc v),sub,yQ hun.h_,λb' i v' e=>?_,hK b _ (yQ hun.h_) Ss⟩;by_cases hb:b'=b
 .subst hb;simp only[lA,if_true]at e;exact .inr ⟨_,_,_,hu.at_,by rw[<-Array.getElem?_toList];exact e,hun.m_⟩
 .simp only[lA,if_neg hb]at e;exact .inl e
structure US(T E:TypeId)(m mx:MH)(b:Nat)(vs:List Value):Prop where
 ex:∃s:Sl,mx b=some (.cells #[.slice s.a s.len s.cap] T (0,0))/\dH mx s E 1 (vs.map λv=>[v])/\∀i x,s.a=some ⟨x,i,none⟩->m x=none
theorem US.new{T E:TypeId}(hb:m' b=some (.cells #[uE] T (0,0))):US T E m m' b []:=⟨⟨none,0,0⟩,hb,⟨⟨λe he=>by simp at he,λe he=>by simp at he⟩,.inl ⟨rfl,rfl⟩⟩,λi x e=>by cases e⟩
theorem Va{T E:TypeId}{mx:MH}{s:Sl}{vs:List Value}{e:Value}{Q:MH->Prop}(hmb:∃o,m b=some o)(hs:Ai m mx b)(hb:mx b=some (.cells #[.slice s.a s.len s.cap] T (0,0)))(hrow:dH mx s E 1 (vs.map λv=>[v]))(hfr:∀i x,s.a=some ⟨x,i,none⟩->m x=none)(hQ:∀m',Ai m m' b->US T E m m' b (vs++[e])->Q m'):
 ∀(s':Sl)(m':MH),eM mx m' (Sl.mk s.a s.len s.cap) s' E 1 ((vs.map λv=>[v])++[[e]])->
  ∃(cs:Array Value)(E:TypeId),pH m' b (.cells cs E (0,0))/\0<cs.size/\∀m2:MH,jQ m' m2 b (.cells (Array.mk (eC s'::cs.toList.drop 1)) E (0,0))->Q m2:=by
 obtain⟨ob,hmb⟩:=hmb;have hnb:∀i,s.a≠some ⟨b,i,none⟩:=λi e2=>by rw[hfr i b e2]at hmb;cases hmb
 refineλs' m' hg=>⟨_,_,⟨hg.other b _ hb hnb⟩,by simp,λm2 hu=>hQ m2 ?_ ⟨s',hu.at_,?_,?_⟩⟩
 .intro x o hx hne;rw[hu.other x hne];exact hg.other x o (hs x o hx hne) (λi e2=>by have e2:s.a=some ⟨x,i,none⟩:=e2;rw[hfr i x e2]at hx;cases hx)
 .have e1:(vs++[e]).map (λv=>[v])=vs.map (λv=>[v])++[[e]]:=by simp
  rw[e1];refine dH.keep hg.row (λx i e2=>hu.other x (λe3=>?_));subst e3;rcases hg.fresh x i e2 with h1|⟨j,h1⟩
  .rw[hb]at h1;cases h1
  .exact hnb j h1
 .intro i x e2;rcases hg.fresh x i e2 with h1|⟨j,h1⟩
  .cases e4:m x with
   |none=>rfl
   |some o=>
    by_cases e5:x=b
    .subst e5;rw[hb]at h1;cases h1
    .rw[hs x o e4 e5]at h1;cases h1
  .exact hfr j x h1
theorem dJ.rowG{E:TypeId}{hx:PH}{s:Sl}{vs:List Value}(sub:Sub m m')(le:PH.le h hx)(hr:dH m' s E 1 (vs.map λv=>[v]))(hf:∀i b,s.a=some ⟨b,i,none⟩->m b=none)(hK:∀h',PH.le hx h'->cR h' s 1 (vs.map λv=>[v])->K (cS s) m h'):dJ h K (cS s) m' hx:=by
 intro hd;rcases hr.ex with⟨rfl,hx0⟩|⟨b,cap,cur,rfl,hm,h1,h2,h3,h4⟩
 .refine⟨m,hx,sub,le,λb i v e=>.inl e,hK hx (.refl _) ?_⟩;rw[hx0];exact cR.nil _ _
 .have hn:∀i,hx b i=none:=hd b _ hm;refine⟨m,lA hx b cur.toList,sub,le.trans (yQ hn),λb' i v e=>?_,hK _ (yQ hn) ⟨?_,?_,?_⟩⟩
  .by_cases hb:b'=b
   .subst hb;simp only[lA,if_true]at e;exact .inr ⟨cur,E,(0,0),hm,by rw[<-Array.getElem?_toList];exact e,hf 0 b' rfl⟩
   .simp only[lA,if_neg hb]at e;exact .inl e
  .simp
  .by_cases hu:vs.map (λv=>[v])=[]
   .exact .inl hu
   .refine .inr ⟨b,0,rfl,λi e hi=>⟨λj v hv=>?_⟩⟩;rw[List.getElem?_map]at hi;cases hu2:vs[i]? with
    |none=>rw[hu2]at hi;cases hi
    |some u=>
     rw[hu2]at hi;simp at hi;subst hi;have hj:j=0:=by have:=(List.getElem?_eq_some_iff.1 hv).1;simp at this;omega
     subst hj;have hv:u=v:=by simpa using hv
     subst hv;have hlt:=(List.getElem?_eq_some_iff.1 hu2).1
     have hfl:∀l:List Value,(l.map λv=>[v]).flatten=l:=λl=>by
      induction l with
      |nil=>rfl
      |cons a l ih=>simp only[List.map_cons,List.flatten_cons,ih];rfl
     rw[hfl]at h4;rw[<-h4,List.getElem?_take,List.length_map,if_pos aC]at hu2;simp only[lA,if_true];rw[show 0+i*1+0=i by omega];exact hu2
  .simpa using h1
def RZ:Vc.Spec:=λcvs m h K=>∃v q,cvs=[aQ v]/\dD h q v/\pG q<=900000/\∀s' h',PH.le h h'->Ints h' s' (eH q)->K (cS s') m h'
theorem f57_sound:Sound Tryz.prog 57 RZ:=by
 refine Dz Tryz.func57 ?_;rintro cvs m h K ⟨v,q,rfl,hq,hs,hK⟩;refine⟨{uM [(80,M9)] [] [] [] [200003,200005,1033,0] [] false with elemT:=[3,38]},rfl,aD Jt aF,f57_nice v m h (dJ h K),by kernel_rfl,?_⟩;show f57_nice v m h (dJ h K);dsimp only[f57_nice,push_cast];intro b m1 hb1 hu1;obtain⟨s1,n1⟩:=gY (Sub.refl m) hb1 hu1;refine⟨v,rfl,λbw h1 le1 hbw=>?_⟩;obtain⟨es,hw⟩:=qH.of (hq.mono le1) 1;have hes:=hw.small;have hsc:=qH.scans (hq.mono le1) hw;refine⟨Io,es.map λe=>((e.1:Int),e.2),λk mx hx=>hx=h1/\Ai m1 mx b/\US 33 3 m1 mx b ((wP (es.take k)).map λn=>.int .i64 n),Sq,⟨bw,v,q,es,rfl,hbw,hw,hs,?_⟩,⟨rfl,λx o e _=>e,US.new hu1.at_⟩,?_,?_⟩
 .rw[List.map_map];rfl
 .rintro k d e' mx hx hk-⟨rfl,hsx,hout⟩ b2 m2 hb2 hu2;rw[List.getElem?_map]at hk;cases hek:es[k]? with
  |none=>rw[hek]at hk;cases hk
  |some e=>
   rw[hek]at hk;simp only[Option.map_some,Option.some.injEq,Prod.mk.injEq]at hk;obtain⟨rfl,rfl⟩:=hk;refine⟨_,_,⟨hu2.at_⟩,by simp,λm3 hu3=>?_⟩
   have up:∀{z o},mx z=some o->m3 z=some o/\z≠b2:=fun{z o} e2=>by
    have:z≠b2:=λe3=>by rw[e3,hb2.m_]at e2;cases e2
    exact⟨by rw[hu3.other z this,hu2.other z this];exact e2,this⟩
   have m3b:m3 b2=some (.cells ⟨e.2.enc⟩ 38 (0,0)):=hu3.at_;have hs3:Ai m1 m3 b:=λx o e2 hne=>(up (hsx x o e2 hne)).1
   have hout3:US 33 3 m1 m3 b ((wP (es.take k)).map λn=>.int .i64 n):=by
    obtain⟨s,h5,h6,h7⟩:=hout.ex;refine⟨s,(up h5).1,dH.keep h6 λz i e3=>?_,h7⟩;obtain⟨cur,h8⟩:=h6.blk e3;rw[h8];exact(up h8).1
   have hsn:wP (es.take (k+1))=wP (es.take k)++(if e.2.op==1 then[e.2.table]else[]):=by
    rw[List.take_add_one,hek,Option.toList_some,FM];congr 1;simp only[wP,List.filter_cons,List.filter_nil];split<;>rfl
   refine⟨e.2.op,.of_m m3b rfl,aB (λh5=>?_) (λh5=>⟨rfl,hs3,by rw[hsn,h5];simpa using hout3⟩)⟩;obtain⟨s,hb5,hrow,hfr⟩:=hout3.ex
   have hlen:(wP (es.take k)).length<=es.length:=by
    simp only[wP,List.length_map];exact Nat.le_trans (List.length_filter_le _ _) (by rw[List.length_take];omega)
   refine⟨s,.of_m hb5 rfl,e.2.table,.of_m m3b rfl,_,hrow,by simp;omega,by simp;omega,Va ⟨_,hu1.at_⟩ hs3 hb5 hrow hfr λm' hs' ho'=>⟨rfl,hs',?_⟩⟩;rw[hsn,h5];simpa using ho'
 .rintro mx hx-⟨rfl,hsx,hout⟩
  rw[List.length_map,List.take_length,hsc]at hout;obtain⟨s,hb5,hrow,hfr⟩:=hout.ex
  have hlen:(eH q).length<=es.length:=by
   rw[<-hsc];simp only[wP,List.length_map];exact List.length_filter_le _ _
  refine⟨s,.of_m hb5 rfl,dJ.rowG (s1.x n1 hsx) le1 hrow (λj z e=>?_) (λh' le hri=>hK s h' (le1.trans le) ⟨by rw[List.map_map]at hri;exact hri,aC⟩)⟩;cases e2:m z with
  |none=>rfl
  |some o=>have e1:=hfr j z e;rw[s1 z o e2]at e1;cases e1
end Go.Ps
