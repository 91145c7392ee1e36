/- Own work. -/
import Derived.Test.YtbpoogcannjnbaaGreatDoorGc
set_option linter.unusedVariables false
set_option linter.unusedSimpArgs false
namespace Go.Ps
open Go Go.Vc Go.Proofs List Tryz
variable{K:dc}{m:MH}{h:PH}{s:j4}{ps:dd}{cb:Nat}{sc:bJ}{v:QV}{q:Query}{p:Pred}{l:dd}{i:Nat}{N:Nat}{m':MH}{h':PH}{co:dd}{gr:dd}{od:dg}{w:Pred}{ta:Int}{li:Int}{xs:List cv}{sz:Nat}{k:Nat}{ks:List dd}{rs:dd}{r:Sl}{a:dd}{b:Nat}
def bO(h:PH)(s:Sl)(l:de):Prop:=bC h 3 VV.enc Eq s l
theorem bO.mono{s:Sl}{l:de}(x:bO h s l)(le:PH.le h h'):bO h' s l:=bC.mono x le λ_ _ e=>e
def mM(ps:de)(o:OV):OV:=if o.kind=2/\0<=o.index/\o.index<ps.length then⟨3,0,ps.getD o.index.toNat zeroV⟩else o
mutual
def yY(ps:de):Pred->Pred
 |.mk op c l r args=>.mk op c (mM ps l) (mM ps r) (zZ ps args)
def zZ(ps:de):dr->dr
 |[]=>[]
 |p::r=>yY ps p::zZ ps r
end
theorem Qb(ps:de):∀l,zZ ps l=l.map (yY ps)
 |[]=>by simp[zZ]
 |p::r=>by simp[zZ,Qb ps r]
def wI:QV:=⟨0,0,gU,⟨none,0,0⟩,⟨none,0,0⟩,⟨none,0,0⟩,⟨none,0,0⟩,0,⟨none,0,0⟩⟩
def bwQ:Vc.Spec:=λc m h K=>∃o s ps,c=[aO o,cS s]/\bO h s ps/\K (aO (mM ps o)) m h
def b5X(N:Nat):Vc.Spec:=λc m h K=>∃v s p ps,c=[aP v,cS s]/\eX h p v/\bO h s ps/\SizeOf.sizeOf p<N/\∀d h',PH.le h h'->eX h' (yY ps p) d->K (aP d) m h'
def b5Z:Vc.Spec:=λc m h K=>∃v s p ps,c=[aP v,cS s]/\eX h p v/\bO h s ps/\∀d h',PH.le h h'->eX h' (yY ps p) d->K (aP d) m h'
theorem Lv{α β:Type}{ps:List α}{us:List β}{i:Nat}{R R':α->β->Prop}{q:α}{v:β}(e:i<=ps.length)(c:us.length=i)(f:ps[i]? =some q)(d:∀(j:Nat) x,(ps.take i)[j]? =some x->∃u,us[j]? =some u/\R x u)(g:∀x u,R x u->R' x u)(n:R' q v):
 ∀(j:Nat) x,(ps.take (i+1))[j]? =some x->∃u,(us++[v])[j]? =some u/\R' x u:=by
 grind
theorem aYX(l:ef):dQ 21 (l.map QV.enc):=by
 constructor
 .intro e c;obtain⟨x,_,rfl⟩:=mem_map.1 c;rfl
 .intro e c u d;obtain⟨x,_,rfl⟩:=mem_map.1 c;simp[QV.enc]at d;rcases d with rfl|rfl|rfl|rfl|rfl|rfl|rfl|rfl|rfl|rfl|rfl|rfl|rfl|rfl|rfl|rfl|rfl|rfl|rfl|rfl|rfl<;>rfl
def atQ:Vc.Spec:=λc m h K=>∃s l,c=[cS s]/\Ints h s l/\∀d h',PH.le h h'->Ints h' d l->K (cS d) m h'
def asZ:Vc.Spec:=λc m h K=>∃s l,c=[cS s]/\lF h s l/\∀d h',PH.le h h'->lF h' d l->K (cS d) m h'
def asX:Vc.Spec:=λc m h K=>∃s l,c=[cS s]/\kC h s l/\∀d h',PH.le h h'->kC h' d l->K (cS d) m h'
def aFZ(n c:Nat)(m:MH)(h:PH)(K:dc):Prop:=
  K CE m h
theorem bGJ(n c:Nat)(m:MH)(h:PH)(K:dc):aFZ n c m h K=(tM (dD [] [] [] [] false) Tryz.f78 (cK Tryz.f78) (entry Tryz.f78.ntmps [.val (.slice none n c)] m h) K):=be
noncomputable abbrev qW(a:List cv):Nat:=0+a.length
noncomputable abbrev Dd(a:List cv):List cv:=[]++a
attribute [push_cast] qW Dd
def aFX(a:Addr)(n c:Nat)(m:MH)(h:PH)(K:dc):Prop:=
  ∃(y:List cv),aA (dQ 1 y) (bX h (Sl.mk (Option.some a) n c) 1 y) (aA (cW (qW y*8)) (cW (qW y)) (bQ h 1 (Dd y) (λs d=>K (mL s) m d)))
theorem bGZ(a:Addr)(n c:Nat)(m:MH)(h:PH)(K:dc):aFX a n c m h K=(tM (dD [] [] [] [] false) Tryz.f78 (cK Tryz.f78) (entry Tryz.f78.ntmps [.val (.slice (some a) n c)] m h) K):=be
def aEJ(n c:Nat)(m:MH)(h:PH)(K:dc):Prop:=
  K CE m h
theorem bGX(n c:Nat)(m:MH)(h:PH)(K:dc):aEJ n c m h K=(tM (dD [] [] [] [] false) Tryz.f79 (cK Tryz.f79) (entry Tryz.f79.ntmps [.val (.slice none n c)] m h) K):=be
def aEZ(a:Addr)(n c:Nat)(m:MH)(h:PH)(K:dc):Prop:=
  ∃(y:List cv),aA (dQ 2 y) (bX h (Sl.mk (Option.some a) n c) 2 y) (aA (cW (qW y*16)) (cW (qW y)) (bQ h 2 (Dd y) (λs d=>K (mL s) m d)))
theorem bGQ(a:Addr)(n c:Nat)(m:MH)(h:PH)(K:dc):aEZ a n c m h K=(tM (dD [] [] [] [] false) Tryz.f79 (cK Tryz.f79) (entry Tryz.f79.ntmps [.val (.slice (some a) n c)] m h) K):=be
def aEQ(n c:Nat)(m:MH)(h:PH)(K:dc):Prop:=
  K CE m h
theorem bFJ(n c:Nat)(m:MH)(h:PH)(K:dc):aEQ n c m h K=(tM (dD [] [] [] [] false) Tryz.f80 (cK Tryz.f80) (entry Tryz.f80.ntmps [.val (.slice none n c)] m h) K):=be
def aDJ(a:Addr)(n c:Nat)(m:MH)(h:PH)(K:dc):Prop:=
  ∃(y:List cv),aA (dQ 2 y) (bX h (Sl.mk (Option.some a) n c) 2 y) (aA (cW (qW y*16)) (cW (qW y)) (bQ h 2 (Dd y) (λs d=>K (mL s) m d)))
theorem bFZ(a:Addr)(n c:Nat)(m:MH)(h:PH)(K:dc):aDJ a n c m h K=(tM (dD [] [] [] [] false) Tryz.f80 (cK Tryz.f80) (entry Tryz.f80.ntmps [.val (.slice (some a) n c)] m h) K):=be
theorem aFJ:cu 78 atQ:=by
 refine eR (fn:=Tryz.f78) (c:=cK Tryz.f78) func78 rfl bg ?_;rintro t m h K ⟨⟨a,n,c⟩,l,rfl,g,o⟩;refine⟨dD [] [] [] [] false,rfl,aF,?_⟩;have d:=g.len;cases a with
 |none=>
  have e:=OH g.row;subst e;show tM _ _ _ (entry Tryz.f78.ntmps [.val (.slice none n c)] m h) K;rw[<-bGJ n c m h K];exact o ⟨none,0,0⟩ h (.refl _) ⟨.nil _ _,bf⟩
 |some a=>
  show tM _ _ _ (entry Tryz.f78.ntmps [.val (.slice (some a) n c)] m h) K;rw[<-bGZ a n c m h K];exact⟨_,CJ l,g.row,bj,bj,λu h' j f=>o u h' j ⟨f,d⟩⟩
theorem aFQ:cu 79 asZ:=by
 refine eR (fn:=Tryz.f79) (c:=cK Tryz.f79) func79 rfl bg ?_;rintro t m h K ⟨⟨a,n,c⟩,l,rfl,g,o⟩;refine⟨dD [] [] [] [] false,rfl,aF,?_⟩;have d:=g.len;cases a with
 |none=>
  have e:=OH g.row;subst e;show tM _ _ _ (entry Tryz.f79.ntmps [.val (.slice none n c)] m h) K;rw[<-bGX n c m h K];exact o ⟨none,0,0⟩ h (.refl _) ⟨.nil _ _,bf⟩
 |some a=>
  show tM _ _ _ (entry Tryz.f79.ntmps [.val (.slice (some a) n c)] m h) K;rw[<-bGQ a n c m h K];exact⟨_,Tv l,g.row,bj,bj,λu h' j f=>o u h' j ⟨f,d⟩⟩
theorem aEX:cu 80 asX:=by
 refine eR (fn:=Tryz.f80) (c:=cK Tryz.f80) func80 rfl bg ?_;rintro t m h K ⟨⟨a,n,c⟩,l,rfl,g,o⟩;refine⟨dD [] [] [] [] false,rfl,aF,?_⟩;have d:=g.len;cases a with
 |none=>
  have e:=OH g.row;subst e;show tM _ _ _ (entry Tryz.f80.ntmps [.val (.slice none n c)] m h) K;rw[<-bFJ n c m h K];exact o ⟨none,0,0⟩ h (.refl _) ⟨.nil _ _,bf⟩
 |some a=>
  show tM _ _ _ (entry Tryz.f80.ntmps [.val (.slice (some a) n c)] m h) K;rw[<-bFZ a n c m h K];exact⟨_,Tu l,g.row,bj,bj,λu h' j f=>o u h' j ⟨f,d⟩⟩
mutual
def gP(ps:de):Query->Query
 |.mk op ta w co on gr od li args=>.mk op ta (yY ps w) co on gr od li (vI ps args)
def vI(ps:de):dl->dl
 |[]=>[]
 |q::r=>gP ps q::vI ps r
end
theorem Qa(ps:de):∀l,vI ps l=l.map (gP ps)
 |[]=>by simp[vI]
 |p::r=>by simp[vI,Qa ps r]
def bwX(N:Nat):Vc.Spec:=λc m h K=>∃v s q ps,c=[aQ v,cS s]/\dR h q v/\bO h s ps/\SizeOf.sizeOf q<N/\∀d h',PH.le h h'->dR h' (gP ps q) d->K (aQ d) m h'
def bwZ:Vc.Spec:=λc m h K=>∃v s q ps,c=[aQ v,cS s]/\dR h q v/\bO h s ps/\∀d h',PH.le h h'->dR h' (gP ps q) d->K (aQ d) m h'
noncomputable def bHQ(N:Nat)(v:PV)(s:Sl)(m:MH)(h:PH):Ctx:=
 dD [(77,b5X N),(123,bwQ)] [(5,{A:=Nat×OV×OV×ei×PH,st:=λ⟨i,l,r,c,h⟩=>bU 37 39 [(1,sv s),(4,.at (.ptr 4 0)),(5,.at (.ptr 5 0)),(21,sv v.args),(22,iv v.args.len),(23,iv i)] [(4,.cells 63 (gU.enc.map .val)),(5,.cells 63 (([Value.int .i64 v.op,Value.int .i64 v.cmp]++l.enc++r.enc).map .val++[.lst 33])),(33,.lst 63 13 (c.map PV.enc))] m h})] [(3,{A:=OV×OV,st:=λ⟨l,r⟩=>bU 37 39 [(1,sv s),(2,.at (.ptr 2 0)),(4,.at (.ptr 4 0)),(5,.at (.ptr 5 0))] [(2,.cells 63 (v.enc.map .val)),(4,.cells 63 (gU.enc.map .val)),(5,.cells 63 (([Value.int .i64 v.op,Value.int .i64 v.cmp]++l.enc++r.enc++[Value.slice v.args.a v.args.len v.args.cap]).map .val))] m h})] [] false
noncomputable def bKJ(N:Nat)(v:QV)(s:Sl)(m:MH):Ctx:=
 dD [(77,b5Z),(78,atQ),(79,asZ),(80,asX),(41,bwX N)] [(9,{A:=Nat×PV×Sl×Sl×Sl×Sl×ef×PH,st:=λ⟨i,w,c,o,g,d,e,h⟩=>bU 48 50 [(1,sv s),(4,.at (.ptr 4 0)),(5,.at (.ptr 5 0)),(32,sv v.args),(33,iv v.args.len),(34,iv i)] [(4,.cells 68 (wI.enc.map .val)),(5,.cells 68 (([Value.int .i64 v.op,Value.int .i64 v.table]++w.enc++[eF c,eF o,eF g,eF d,cV v.limit]).map .val++[.lst 44])),(44,.lst 68 21 (e.map QV.enc))] m h})] [] [] false
def Sn(o:OV)(s:Sl)(m:MH)(h:PH)(K:dc):Prop:=
  branch (o.kind !=2) (K (nS o.enc) m h) (aY o.index 0 (K (nS o.enc) m h) (mE o.index (aG s) K (nS o.enc) m h (bD (λb c=>aI (bF s.a b c) (0<=o.index) (o.index<aG s) (∃(y:VV),aJ m h b (eM c o.index 3) y.enc/\K (nS (bH (cV 3) (cV 0) (bH (cV y.kind) (cV y.int) (mI (Value.string y.text))))) m h)))))
abbrev tH(a:Sl->de->Prop):Prop:=∃(x:Sl)(c:de),a x c
abbrev sQ:Prop:=eQ (oQ 63 zP)
abbrev GY(a b:dt):Prop:=oQ 63 a=oQ 63 b
noncomputable abbrev pV(a:OV):At:=iN a.kind
noncomputable abbrev uZ(a:OV):At:=iN a.index
noncomputable abbrev pN(a:OV):At:=iN a.value.kind
noncomputable abbrev pO(a:OV):At:=Uk a.value.text
noncomputable abbrev oZ(a:Nat×OV×OV×ei×PH):OV:=a.2.1
noncomputable abbrev sA(a:Nat×OV×OV×ei×PH):OV:=a.2.2.1
noncomputable abbrev Hs(a:Nat×OV×OV×ei×PH):List cv:=List.map PV.enc a.2.2.2.1
noncomputable abbrev CW(a:Nat×OV×OV×ei×PH):Nat->Nat->Option Value:=a.2.2.2.2
abbrev EX(a:PV->Sl->Pred->de->Prop):Prop:=∃(x:PV)(c:Sl)(d:Pred)(e:de),a x c d e
attribute [push_cast] tH sQ GY pV uZ pN pO oZ sA Hs CW EX
def V7(N:Nat)(v:PV)(s:Sl)(m:MH)(h:PH)(K:dc):Prop:=
  ∃(I:OV×OV->Prop),(∃(o:OV),tH (λf p=>aA (eC v.left.enc (mL s)=eC o.enc (mL f)) (bO h f p) (∃(g:OV),tH (λn e=>aA (eC (AD v) (mL s)=eC g.enc (mL n)) (bO h n e) (∃(x:OV×OV),aA (I x) (aH s) (aA (eP 2) iC (aA bS (nI v) (aA sQ (GY (cG (iN v.op) (iN v.cmp) (cG (At.val (cV (mM p o).kind)) (At.val (cV (mM p o).index)) (cG (At.val (cV (mM p o).value.kind)) (At.val (cV (vO (mM p o)))) (cG (At.val (zT (mM p o))) (At.val (cV (mM e g).kind)) (cG (At.val (cV (mM e g).index)) (At.val (cV (mM e g).value.kind)) (cG (At.val (cV (vO (mM e g)))) (At.val (zT (mM e g))) (qB v.args))))))) (cG (iN v.op) (iN v.cmp) (cG (pV x.1) (uZ x.1) (cG (pN x.1) (iN (vO x.1)) (cG (pO x.1) (pV
 x.2) (cG (uZ x.2) (pN x.2) (cG (iN (vO x.2)) (pO x.2) (qB v.args)))))))) (dP m m h h)))))))))/\∀(x:OV×OV),I x->∃(I1:Nat×OV×OV×ei×PH->Prop)(t:Nat×OV×OV×ei×PH->Nat),(∃(c:Nat×OV×OV×ei×PH),aA (I1 c) (aH s) (aA (eP 4) bS (aA (aH v.args) (uS v) (aA (bE c.1) sQ (nO (GY (cG (iN v.op) (iN v.cmp) (cG (pV x.1) (uZ x.1) (cG (pN x.1) (iN (vO x.1)) (cG (pO x.1) (pV x.2) (cG (uZ x.2) (pN x.2) (cG (iN (vO x.2)) (pO x.2) (rN (At.lst 33)))))))) (cG (iN v.op) (iN v.cmp) (cG (pV (oZ c)) (uZ (oZ c)) (cG (pN (oZ c)) (iN (vO (oZ c))) (cG (pO (oZ c)) (pV (sA c)) (cG (uZ (sA c)) (pN (sA c)) (cG (iN (vO (sA c)))
 (pO (sA c)) (rN (At.lst 33))))))))) (pE 63 13 (Hs c)) (m=m) (h=CW c))))))/\∀(c:Nat×OV×OV×ei×PH),I1 c->aY (↑c.1:Int) (aG v.args) (bD (λb o=>aI (bF v.args.a b o) (0<=(↑c.1:Int)) ((↑c.1:Int)<aG v.args) (∃(y:PV),aJ m (CW c) b (bB o c.1 13) y.enc/\EX (λu f p e=>aA (eC y.enc (mL s)=eC u.enc (mL f)) (eX (CW c) p u) (aA (bO (CW c) f e) (wP p N) (∀(z:PV)(j:PH),cR (CW c) j (eX j (yY e p) z) (kX (Hs c) 136 (∃(d:Nat×OV×OV×ei×PH),aA (I1 d) (t d<t c) (aA (aH s) iC (aA bS (aH v.args) (aA (uS v) (fJ (aW c.1 1)=bY d.1) (aA sQ (GY (cG (iN v.op) (iN v.cmp) (cG (pV (oZ c)) (uZ (oZ c)) (cG (pN (oZ c))
 (iN (vO (oZ c))) (cG (pO (oZ c)) (pV (sA c)) (cG (uZ (sA c)) (pN (sA c)) (cG (iN (vO (sA c))) (pO (sA c)) (rN (At.lst 33)))))))) (cG (iN v.op) (iN v.cmp) (cG (pV (oZ d)) (uZ (oZ d)) (cG (pN (oZ d)) (iN (vO (oZ d))) (cG (pO (oZ d)) (pV (sA d)) (cG (uZ (sA d)) (pN (sA d)) (cG (iN (vO (sA d))) (pO (sA d)) (rN (At.lst 33))))))))) (aA (Option.some (Own.lst 63 13 (eK (Hs c) z.enc))=Option.some (Own.lst 63 13 (Hs d))) (m=m) (dH j (CW d))))))))))))))) (bQ (CW c) 13 (Hs c) (λf j=>K (nS (bH (cV v.op) (cV v.cmp) (bH (cV (oZ c).kind) (cV (oZ c).index) (bH (cV (oZ c).value.kind) (cV (vO (oZ c))) (bH (zT (oZ c))
 (cV (sA c).kind) (A9 (sA c) (aM f))))))) m j))
abbrev iY:Prop:=eQ (oQ 68 zQ)
noncomputable abbrev DC(a:QV):At:=iN a.limit
noncomputable abbrev JB(a:QV)(b:PV)(c d e g:Sl):dt:=cG (iN a.op) (wT a) (pQ b (cG (fY c) (fY d) (cG (fY e) (fY g) (fZ (DC a) (At.lst 44)))))
noncomputable abbrev yJ(a:Nat×PV×Sl×Sl×Sl×Sl×ef×PH):PV:=a.2.1
noncomputable abbrev JW(a:Nat×PV×Sl×Sl×Sl×Sl×ef×PH):Sl:=a.2.2.2.2.1
noncomputable abbrev JX(a:Nat×PV×Sl×Sl×Sl×Sl×ef×PH):Sl:=a.2.2.2.2.2.1
noncomputable abbrev Ht(a:Nat×PV×Sl×Sl×Sl×Sl×ef×PH):List cv:=List.map QV.enc a.2.2.2.2.2.2.1
noncomputable abbrev CX(a:Nat×PV×Sl×Sl×Sl×Sl×ef×PH):Nat->Nat->Option Value:=a.2.2.2.2.2.2.2
abbrev A8(a:Sl->Query->Prop):Prop:=∃(x:Sl)(c:Query),a x c
attribute [push_cast] iY DC JB yJ JW JX Ht CX A8
def Wm(N:Nat)(v:QV)(s:Sl)(m:MH)(h:PH)(K:dc):Prop:=
  EX (λu z p A=>aI (eC v.where_.enc (mL s)=eC u.enc (mL z)) (eX h p u) (bO h z A) (∀(B:PV)(e:PH),cR h e (eX e (yY A p) B) (CQ v.columns e (λl=>lE (λC f=>cR e f (Ints f C l) (∃(D:Sl)(E:di),aA (eW (mL v.on) (mL D)) (lF f D E) (lE (λF g=>cR f g (lF g F E) (CQ v.group g (λR=>lE (λG j=>cR g j (Ints j G R) (∃(H:Sl)(J:dg),aA (eW (mL v.order) (mL H)) (kC j H J) (lE (λL t=>cR j t (kC t L J) (∃(I:Nat×PV×Sl×Sl×Sl×Sl×ef×PH->Prop)(M:Nat×PV×Sl×Sl×Sl×Sl×ef×PH->Nat),(∃(x:Nat×PV×Sl×Sl×Sl×Sl×ef×PH),aA (I x) (aH s) (aA (eP 4) bS (aA (aH v.args) (uT v) (aA (bE x.1) iY (nO
 (oQ 68 (JB v B C F G L)=oQ 68 (JB v (yJ x) x.2.2.1 x.2.2.2.1 (JW x) (JX x))) (pE 68 21 (Ht x)) (m=m) (t=CX x))))))/\∀(x:Nat×PV×Sl×Sl×Sl×Sl×ef×PH),I x->aY (↑x.1:Int) (aG v.args) (bD (λb o=>aI (bF v.args.a b o) (0<=(↑x.1:Int)) ((↑x.1:Int)<aG v.args) (∃(y:QV),aJ m (CX x) b (bB o x.1 21) y.enc/\∃(O:QV),A8 (λn q=>∃(P:de),aA (kI y s=kI O n) (dR (CX x) q O) (aA (bO (CX x) n P) (sD q N) (∀(Q:QV)(d:PH),cR (CX x) d (dR d (gP P q) Q) (kX (Ht x) 280 (∃(c:Nat×PV×Sl×Sl×Sl×Sl×ef×PH),aA (I c) (M c<M x) (aA (aH s) iC (aA bS (aH v.args) (aA (uT v) (fJ (aW x.1 1)=bY c.1) (aA iY (oQ 68 (JB v (yJ x) x.2.2.1
 x.2.2.2.1 (JW x) (JX x))=oQ 68 (JB v (yJ c) c.2.2.1 c.2.2.2.1 (JW c) (JX c))) (aA (Option.some (Own.lst 68 21 (eK (Ht x) Q.enc))=Option.some (Own.lst 68 21 (Ht c))) (m=m) (dH d (CX c))))))))))))))) (bQ (CX x) 21 (Ht x) (λn d=>K (nS (bH (cV v.op) (cV v.table) (bH (cV (yJ x).op) (cV (yJ x).cmp) (Gi (yJ x).left (bH (zT (yJ x).left) (cV (yJ x).right.kind) (A9 (yJ x).right (bH (eF (yJ x).args) (eF x.2.2.1) (bH (eF x.2.2.2.1) (eF (JW x)) (bH (eF (JX x)) (cV v.limit) (aM n)))))))))) m d)))))))))))))))))
theorem Zs:cu 123 bwQ:=by
 refine iB func123 ?_;rintro j m h K ⟨o,s,ps,rfl,g,c⟩;refine⟨dD [] [] [] [] false,rfl,aF,Sn o s m h K,be,?_⟩;dsimp only[Sn,push_cast];have y:=bC.slen g;unfold mM at c;refine aB (λd=>?_) (λd=>aE (λn=>?_) (λn=>aE (λt=>?_) (λt=>?_)))
 .have d:o.kind≠2:=bk
  rw[if_neg (λe=>d e.1)]at c;exact c
 .rw[if_neg (λe=>by omega)]at c;exact c
 .rw[if_neg (λe=>by omega)]at c;exact c
 .have d:o.kind=2:=bk
  rw[if_pos ⟨d,aC,aC⟩]at c
  have u:ps[o.index.toNat]? =some (ps.getD o.index.toNat zeroV):=by
   grind
  obtain⟨b,f,v,e,r,rfl⟩:=bC.at g u;exact⟨b,f,e,aC,aC,_,.imm r,c⟩
theorem ahQ:∀N,cu 77 (b5X N)
 |0=>by
  refine eR (fn:=Tryz.f77) (c:=cK Tryz.f77) func77 rfl bg ?_;rintro B m h K ⟨v,s,p,ps,rfl,_,_,M,_⟩;omega
 |N+1=>by
  refine iB func77 ?_;rintro B m h K ⟨v,s,p,ps,rfl,O,P,M,H⟩;refine⟨bHQ N v s m h,rfl,aD (ahQ N) (aD Zs aF),V7 N v s m h K,be,?_⟩;dsimp only[V7,push_cast];have g:=@BU p;obtain⟨op,Q,l,r,C⟩:=p;obtain⟨rfl,rfl,rfl,rfl,D⟩:=O.parts;have R:=D.slen;have I:=D.len;simp only[Pred.args]at g;simp only[yY,Qb]at H;refine⟨λx=>x=(mM ps v.left,mM ps v.right),?_,?_⟩
  .grind
  rintro _ rfl;dsimp only;refine⟨λ⟨i,l,r,o,f⟩=>l=mM ps v.left/\r=mM ps v.right/\i<=C.length/\PH.le h f/\o.length=i/\∀(j:Nat) x,(C.take i)[j]? =some x->∃u,o[j]? =some u/\eX f (yY ps x) u,λ⟨i,_,_,_,_⟩=>C.length-i,⟨(0,mM ps v.left,mM ps v.right,[],h),⟨rfl,rfl,aC,.refl _,rfl,λj x f=>by simp at f⟩,MT⟩,?_⟩;rintro⟨i,_,_,o,f⟩ ⟨rfl,rfl,S,e,t,n⟩;dsimp only;refine aE (λz=>?_) (λT J h' d A=>H ⟨v.op,v.cmp,mM ps v.left,mM ps v.right,J⟩ h' (e.trans d) (eX.mk (v:=⟨v.op,v.cmp,mM ps v.left,mM ps v.right,J⟩) ⟨⟨o,A,bj,λj x f=>?_⟩,bj⟩))
  .obtain⟨q,L⟩:=eO R z;obtain⟨U,V,u,W,X,E⟩:=(D.mono e).at L;refine⟨U,V,W,aC,z,u,.imm X,u,s,q,ps,rfl,E,P.mono e,?_,λY h' d F=>⟨bj,bj,(i+1,mM ps v.left,mM ps v.right,o++[Y],h'),⟨rfl,rfl,aC,e.trans d,by simp[t],Lv (R':=λx u=>eX h' (yY ps x) u) S t L n (λ_ _ G=>G.mono d) F⟩,aC,?_⟩⟩
   .grind
   .rw[cd];exact MT
  .rw[ca aC]at n;rw[getElem?_map,Option.map_eq_some_iff]at f;obtain⟨y,Z,rfl⟩:=f;obtain⟨u,h1,G⟩:=n j y Z;exact⟨u,h1,G.mono d⟩
theorem aGQ:cu 77 b5Z:=tY ahQ λ_ _ _ _⟨v,s,p,ps,e,c,d,f⟩=>⟨SizeOf.sizeOf p+1,v,s,p,ps,e,c,d,aC,f⟩
theorem ahJ:∀N,cu 41 (bwX N)
 |0=>by
  refine eR (fn:=Tryz.f41) (c:=cK Tryz.f41) func41 rfl bg ?_;rintro V m h K ⟨v,s,q,ps,rfl,_,_,hN,_⟩;omega
 |N+1=>by
  refine iB func41 ?_;rintro V m h K ⟨v,s,q,ps,rfl,D,hs,hN,hK⟩;refine⟨bKJ N v s m,rfl,aD aGQ (aD aFJ (aD aFQ (aD aEX (aD (ahJ N) aF)))),Wm N v s m h K,be,?_⟩;dsimp only[Wm,push_cast];have E:=@B9 q;obtain⟨op,ta,w,co,on,gr,od,li,args⟩:=q;have x:=D.parts;have hl:=x.args_.slen;have a':=x.args_.len;simp only[Query.args]at E;simp only[gP,Qa]at hK;refine⟨v.where_,s,w,ps,rfl,x.where_,hs,λH h1 e hw=>⟨v.columns,co,rfl,x.columns_.mono e,λI h2 f W=>⟨v.on,on,rfl,x.on_.mono (e.trans f),λJ h3 n r2=>⟨v.group,gr,rfl,x.group_.mono (e.trans (f.trans n)),λM h4 t r3=>⟨v.order,od,rfl,x.order_.mono (e.trans (f.trans (n.trans t))),λO h5 A r4=>?_⟩⟩⟩⟩⟩;have L:=e.trans (f.trans (n.trans (t.trans A)));refine⟨λ⟨i,w',c,o,g,d,P,Q⟩=>w'=H/\c=I/\o=J/\g=M/\d=O/\i<=args.length/\PH.le h5 Q/\P.length=i/\∀(j:Nat) q,(args.take i)[j]? =some q->∃u,P[j]? =some u/\dR Q (gP ps q) u,λz=>args.length-z.1,⟨(0,H,I,J,M,O,[],h5),⟨rfl,rfl,rfl,rfl,rfl,aC,.refl _,rfl,λj x Q=>by simp at Q⟩,MT⟩,?_⟩;rintro⟨i,H,I,J,M,O,P,Q⟩ ⟨rfl,rfl,rfl,rfl,rfl,hi,B,R,F⟩;dsimp only;refine aE (λS=>?_) (λa1 sl h6 T U=>?_)
  .obtain⟨q,D⟩:=eO hl S;obtain⟨b1,o1,u,X,W,Y⟩:=(x.args_.mono (L.trans B)).at D;refine⟨b1,o1,X,aC,S,u,.imm W,u,s,q,ps,rfl,Y,hs.mono (L.trans B),?_,λv' h' C Z=>⟨bj,bj,(i+1,H,I,J,M,O,P++[v'],h'),⟨rfl,rfl,rfl,rfl,rfl,aC,B.trans C,by simp[R],Lv (R':=λx u=>dR h' (gP ps x) u) hi R D F (λ_ _ h2=>h2.mono C) Z⟩,aC,?_⟩⟩
   .grind
   .rw[cd];exact MT
  .rw[ca aC]at F;have G:=B.trans T
   exact hK ⟨v.op,v.table,H,I,J,M,O,v.limit,sl⟩ h6 (L.trans G) (sL.rep ⟨x.op_,x.table_,hw.mono (f.trans (n.trans (t.trans (A.trans G)))),W.mono (n.trans (t.trans (A.trans G))),r2.mono (t.trans (A.trans G)),r3.mono (A.trans G),r4.mono G,x.limit_,⟨⟨P,U,bj,λj q D=>by
    rw[getElem?_map,Option.map_eq_some_iff]at D;obtain⟨y,hy,rfl⟩:=D;obtain⟨u,X,e2⟩:=F j y hy;exact⟨u,X,e2.mono T⟩⟩,bj⟩⟩)
theorem aIZ:cu 41 bwZ:=tY ahJ λ_ _ _ _⟨v,s,q,ps,e,c,d,f⟩=>⟨SizeOf.sizeOf q+1,v,s,q,ps,e,c,d,aC,f⟩
mutual
def aSX:Pred->Nat
 |.mk _ _ _ _ args=>1+KY args
def KY:dr->Nat
 |[]=>0
 |p::ps=>aSX p+KY ps
end
mutual
def ZG:Pred->Nat
 |.mk _ _ _ _ args=>1+Ng args
def Ng:dr->Nat
 |[]=>0
 |p::ps=>max (ZG p) (Ng ps)
end
mutual
theorem OZ:∀(p:Pred)(n:Int),nE p n<=n+aSX p
 |.mk _ _ _ _ args,n=>by
  have:=MS args (n+1);simp only[nE,aSX];omega
theorem MS:∀(ps:dr)(n:Int),kF ps n<=n+KY ps
 |[],n=>by simp[kF,KY]
 |p::ps,n=>by
  have c:=OZ p n;have d:=MS ps (nE p n);simp only[kF,KY];omega
end
mutual
theorem Nh:∀(p:Pred)(n:Nat),ZG p<=n->lH p n=false
 |.mk _ _ _ _ args,0,h=>by simp only[ZG]at h;omega
 |.mk _ _ _ _ args,n+1,h=>by
  simp only[ZG]at h;simp only[lH];exact KU args n aC
theorem KU:∀(ps:dr)(n:Nat),Ng ps<=n->qF ps n=false
 |[],_,_=>rfl
 |p::ps,n,h=>by
  simp only[Ng]at h;simp only[qF,Nh p n aC,KU ps n aC,Bool.or_false]
end
def gF:Nat->Nat
 |0=>1
 |d+1=>1+3*gF d
structure Qi(d:Nat)(p:Pred):Prop where
 n:aSX p<=gF d
 d:ZG p<=d+1
theorem b9X:∀d,1<=gF d
 |0=>Nat.le_refl _
 |d+1=>by rw[gF];omega
theorem Qi.leaf(d:Nat){op c:Int}{a b:OV}:Qi d (.mk op c a b []):=⟨by simp[aSX,KY,b9X],by simp[ZG,Ng]⟩
theorem Qi.node{d:Nat}{op c:Int}{a b:OV}{ps:dr}(h:∀p∈ps,Qi d p)(g:ps.length<=3):Qi (d+1) (.mk op c a b ps):=by
 have j:∀l:dr,(∀p∈l,Qi d p)->KY l<=l.length*gF d/\Ng l<=d+1:=λl=>by
  induction l with
  |nil=>intro _;simp[KY,Ng]
  |cons p l o=>
   intro f;have t:=o λx u=>f x (mem_cons_of_mem _ u);have e:=f p (mem_cons_self ..);have:=e.n;have:=e.d;simp only[KY,Ng,cq,Nat.add_mul,Nat.one_mul];omega
 have t:=j ps h;have e:ps.length*gF d<=3*gF d:=Nat.mul_le_mul_right _ g;exact⟨by simp only[aSX,gF];omega,by simp only[ZG];omega⟩
mutual
def BT:Query->Nat
 |.mk _ _ _ _ _ _ _ _ args=>1+yW args
def yW:dl->Nat
 |[]=>0
 |q::qs=>BT q+yW qs
end
mutual
def aRZ:Query->Nat
 |.mk _ _ _ _ _ _ _ _ args=>1+SI args
def SI:dl->Nat
 |[]=>0
 |q::qs=>max (aRZ q) (SI qs)
end
mutual
def rW(c:Nat):Query->Nat
 |.mk op _ _ _ _ _ _ _ args=>if op=1 then c else if op=4 then wN c args else AM c args
def AM(c:Nat):dl->Nat
 |[]=>0
 |q::qs=>rW c q+AM c qs
def wN(c:Nat):dl->Nat
 |[]=>1
 |q::qs=>rW c q*wN c qs
end
mutual
theorem OX:∀(p:Query)(n:Int),nD p n<=n+BT p/\(nD p n<=24->nD p n=n+BT p)
 |.mk _ _ _ _ _ _ _ _ args,n=>by
  have:=MQ args (n+1);simp only[nD,BT];omega
theorem MQ:∀(ps:dl)(n:Int),jZ ps n<=n+yW ps/\(jZ ps n<=24->jZ ps n=n+yW ps)
 |[],n=>by simp[jZ,yW]
 |p::ps,n=>by
  have c:=OX p n;have d:=MQ ps (nD p n);simp only[jZ,yW];omega
end
theorem awQ(h:wK q=true):BT q<=24:=by
 simp only[wK,cg,cm]at h;have:=(OX q 0).2 h.1;omega
mutual
def Pb:Query->Nat
 |.mk _ _ _ _ _ _ _ _ args=>max 1 (H6 args)
def H6:dl->Nat
 |[]=>0
 |q::qs=>Pb q+H6 qs
end
theorem TM(q:Query):1<=Pb q:=by cases q;simp only[Pb];omega
theorem b8Q{a:Nat}(c:2<=a)(d:2<=b):a+b<=a*b:=by
 obtain⟨a,rfl⟩:=Nat.exists_eq_add_of_le c;obtain⟨b,rfl⟩:=Nat.exists_eq_add_of_le d;rw[Nat.add_mul,Nat.mul_add,Nat.mul_add];have:=Nat.zero_le (a*b);omega
mutual
theorem bnX{c:Nat}(e:2<=c):∀q:Query,rW c q<=c^Pb q
 |.mk op _ _ _ _ _ _ _ args=>by
  have f:=alQ e args;have g:c^H6 args<=c^max 1 (H6 args):=Nat.pow_le_pow_right aC aC;have d:c^1<=c^max 1 (H6 args):=Nat.pow_le_pow_right aC aC;simp only[rW,Pb];rw[Nat.pow_one]at d;split
  .exact d
  .split
   .omega
   .omega
theorem alQ{c:Nat}(g:2<=c):∀d:dl,AM c d<=c^H6 d/\wN c d<=c^H6 d
 |[]=>by simp[AM,wN,H6]
 |q::d=>by
  have f:=bnX g q;have e:=alQ g d;have j:c^1<=c^Pb q:=Nat.pow_le_pow_right aC (TM q);rw[Nat.pow_one]at j;simp only[AM,wN,H6,Nat.pow_add];refine⟨?_,Nat.mul_le_mul f e.2⟩
  match d,e with
  |[],_=>simp[AM,H6];exact f
  |p::ps,e=>
   have n:c^1<=c^H6 (p::ps):=Nat.pow_le_pow_right aC (by have:=TM p;simp only[H6];omega);rw[Nat.pow_one]at n;exact cr (Nat.add_le_add f e.1) (b8Q aC aC)
end
def gN:Nat->Nat
 |0=>3
 |d+1=>2+2*gN d
def gD:Nat->Nat
 |0=>3
 |d+1=>2+gD d
def gB:Nat->Nat
 |0=>4
 |d+1=>gB d*gB d
structure nT(n d b:Nat)(q:Query):Prop where
 n:BT q<=n
 d:aRZ q<=d
 b:4^Pb q<=b
def F0(d:Nat)(q:Query):Prop:=nT (gN d) (gD d) (gB d) q
def DO:Nat->Query->Prop
 |0,q=>nT 1 1 4 q
 |d+1,q=>nT (1+2*gN d) (1+gD d) (gB d*gB d) q
theorem nT.mono{n d c e f:Nat}(x:nT n d b q)(g:n<=c)(j:d<=e)(o:b<=f):nT c e f q:=⟨cr x.n g,cr x.d j,cr x.b o⟩
theorem Ft:∀d,3<=gN d/\3<=gD d/\4<=gB d
 |0=>bg
 |d+1=>by
  obtain⟨e,f,c⟩:=Ft d;have:4*4<=gB d*gB d:=Nat.mul_le_mul c c;simp only[gN,gD,gB];omega
theorem DO.arg:∀{d:Nat}{q:Query},DO d q->F0 d q
 |0,_,x=>nT.mono x bg bg bg
 |d+1,_,x=>nT.mono x (by simp only[gN];omega) (by simp only[gD];omega) (by simp only[gB];omega)
theorem nT.one{n d:Nat}(x:nT n d b q)(e:4<=b){op:Int}{on:di}:nT (n+1) (d+1) b (.mk op ta w co on gr od li [q]):=by
 obtain⟨f,g,c⟩:=x;refine⟨by simp only[BT,yW];omega,by simp only[aRZ,SI];omega,?_⟩;have:=TM q;simp only[Pb,H6];rw[show max 1 (Pb q+0)=Pb q by omega];exact c
theorem nT.two{n d e f c:Nat}{p:Query}(x:nT n d b q)(y:nT e f c p)(u:4<=b)(g:4<=c){op:Int}{on:di}:nT (1+n+e) (1+max d f) (b*c) (.mk op ta w co on gr od li [q,p]):=by
 obtain⟨z,A,j⟩:=x;obtain⟨B,C,o⟩:=y;have t:4^Pb q*4^Pb p<=b*c:=Nat.mul_le_mul j o;refine⟨by simp only[BT,yW];omega,by simp only[aRZ,SI];omega,?_⟩;have:=TM q;simp only[Pb,H6];rw[show max 1 (Pb q+(Pb p+0))=Pb q+Pb p by omega,Nat.pow_add];exact t
theorem nT.scan{on:di}:nT 1 1 4 (.mk 1 ta w co on gr od li []):=⟨by simp[BT,yW],by simp[aRZ,SI],by simp[Pb,H6]⟩
theorem DO.node{d:Nat}{op:Int}{on:di}{args:dl}(h:∀a∈args,F0 d a)(e:args.length<=2):DO (d+1) (.mk op ta w co on gr od li args):=by
 have c:=(Ft d).2.2;have f:gB d*4<=gB d*gB d:=Nat.mul_le_mul_left _ c
 match args,h,e with
 |[],_,_=>exact⟨by simp only[BT,yW];omega,by simp only[aRZ,SI];omega,by simp only[Pb,H6];show 4^1<=_;omega⟩
 |[q],h,_=>exact nT.mono (nT.one (h q bf) c) aC aC aC
 |[q,p],h,_=>exact nT.mono (nT.two (h q bf) (h p bf) c c) aC aC (Nat.le_refl _)
theorem DO.filter{d:Nat}(x:DO d q){op:Int}{on:di}:F0 d (.mk op ta w co on gr od li [q]):=by
 cases d with
 |zero=>exact nT.mono (nT.one x bg) bg bg bg
 |succ d=>
  have c:=(Ft d).2.2;have e:gB d*4<=gB d*gB d:=Nat.mul_le_mul_left _ c;exact nT.mono (nT.one x aC) (by simp only[gN];omega) (by simp only[gD];omega) (by simp only[gB];omega)
theorem F0.three(d:Nat)(x:nT 3 3 4 q):F0 d q:=nT.mono x (Ft d).1 (Ft d).2.1 (Ft d).2.2
theorem DO.mono{q:Query}:∀{d e:Nat},DO d q->d<=e->DO e q
 |d,0,x,h=>bk
 |d,e+1,x,h=>by
  by_cases c:d=e+1
  .grind
  .have y:=DO.arg (x.mono (e:=e) aC);have f:=(Ft e).2.2;have g:gB e*1<=gB e*gB e:=Nat.mul_le_mul_left _ aC;exact nT.mono y aC aC aC
abbrev j5(a:Nat->Option Obj)(b:Nat->Nat->Option Value)(c d:Nat)(e:Sl->Prop):Prop:=∃(x:Sl),aJ a b c d (aM x)/\e x
noncomputable abbrev Bb(a:Int):Value:=Value.int IntKind.u8 a
abbrev jS(a:Prop):Prop:=a->False
attribute [push_cast] j5 Bb jS
def WO(cb:Nat)(n:Int)(m:MH)(h:PH)(K:dc):Prop:=
  sO m h cb 1 (λy=>j5 m h cb 0 (λg=>mE y (aG g) K (jA 0) m h (aY n 1 (K (jA 0) m h) (sO m h cb 1 (λj=>pK m cb 1 (bG (eE (j+1))) (λc=>j5 c h cb 0 (λe=>sO c h cb 1 (λd=>bD (λb o=>aI (bF e.a b o) (0<=eE (d-1)) (eE (d-1)<aG e) (∃(f:UInt8),aA (aJ c h b (eM o (eE (d-1)) 1) (mI (Bb (yI f)))) (jS (n=0)) (K (jA (Int.tmod (eE (yI f)) n)) c h)))))))))))
theorem cbJ(cb:Nat)(n:Int)(m:MH)(h:PH)(K:dc):WO cb n m h K=(tM (ctx [] [] [] [] false) Tryz.f13 (cK Tryz.f13) (entry 40 [.val (.pointer (some ⟨cb,0,none⟩)),.val (.int .i64 n)] m h) K):=be
def bWQ:Vc.Spec:=λc m h K=>∃(cb:Nat)(n:Int)(r:dp),c=[.val (.pointer (some ⟨cb,0,none⟩)),.val (.int .i64 n)]/\Z6 m h cb r/\
 ∀m',aT m m' cb->Z6 m' h cb (Xf n r).2->K (.val (.int .i64 (Xf n r).1)) m' h
theorem Rn:cu 13 bWQ:=by
 refine eR (fn:=Tryz.f13) (c:=cK Tryz.f13) func13 rfl bg ?_;rintro F m h K ⟨cb,n,r,rfl,⟨s,cs,k,u,d,D,e,rfl⟩,j⟩;refine⟨ctx [] [] [] [] false,rfl,aF,?_⟩;show tM (ctx [] [] [] [] false) Tryz.f13 (cK Tryz.f13) (entry 40 [.val (.pointer (some ⟨cb,0,none⟩)),.val (.int .i64 n)] m h) K;rw[<-cbJ];dsimp only[WO,push_cast];have G:s.len=cs.length:=by have:=d.len;simpa[cC]using this
 refine⟨k,.of_m u rfl,s,.of_m u rfl,aE (λH=>?_) (λz=>aE (λA=>?_) (λA=>?_))⟩
 .have t:cs.drop k=[]:=bj
  rw[t]at j;exact j m ⟨λ_ _=>rfl⟩ ⟨s,cs,k,u,d,D,e,by rw[t];rfl⟩
 .have g:k<cs.length:=by omega
  have t:cs.drop k=cs[k]::cs.drop (k+1):=drop_eq_getElem_cons g;rw[t]at j;simp only[Xf,if_pos A]at j;refine j m ⟨λ_ _=>rfl⟩ ⟨s,cs,k,u,d,D,e,t.symm⟩
 .have g:k<cs.length:=by omega
  have t:cs.drop k=cs[k]::cs.drop (k+1):=drop_eq_getElem_cons g;rw[t]at j;simp only[Xf,if_neg A]at j;have I:IntKind.i64.wrap ((k:Int)+1)=((k+1:Nat):Int):=by rw[dO]<;>omega
  have B:IntKind.i64.wrap (((k+1:Nat):Int)-1)=(k:Int):=by rw[dO]<;>omega
  refine⟨k,.of_m u rfl,_,_,⟨u⟩,bf,λm' E=>?_⟩;have f:=E.at_;rw[I]at f;simp only[splice]at f;obtain y|⟨b,o,J,C⟩:=d.row
  .exfalso;have:=congrArg List.length y;simp[cC]at this
   grind
  refine⟨s,.of_m f rfl,((k+1:Nat):Int),.of_m f rfl,b,o,J,?_⟩;rw[B];refine⟨aC,aC,cs[k],.imm ?_,aC,?_⟩
  .have:=C k [.int .u8 cs[k].toNat] (by simp[cC,g])
   grind
  .have z:cs[k].toNat<256:=cs[k].toNat_lt;rw[dO aC aC,Int.tmod_eq_emod_of_nonneg aC];refine j m' ⟨E.other⟩ ⟨s,cs,k+1,f,d,aC,e,rfl⟩
def aL(m:MH)(h:PH)(cb:Nat):Prop:=∃r,Z6 m h cb r
theorem aL.mono(x:aL m h cb)(le:PH.le h h'):aL m h' cb:=by
 obtain⟨r,s,cs,k,c,d,e⟩:=x;exact⟨r,s,cs,k,c,d.mono le,e⟩
theorem aT.refl(m:MH)(cb:Nat):aT m m cb:=⟨λ_ _=>rfl⟩
theorem aT.trans{d:MH}(a:aT m m' cb)(b:aT m' d cb):aT m d cb:=⟨λc e=>(b.other c e).trans (a.other c e)⟩
def H7(n:Int):Prop:= -9223372036854775808<=n/\n<=9223372036854775807
structure GD(v:VV):Prop where
 int_:H7 v.int
 text_:v.text.size<=64
def KOk(k:Int):Prop:=k=3\/k=4\/k=5
def Lb(k:Int)(v:VV):Prop:=KOk k->kN v=true/\v.kind=k
def FY:Vc.Spec:=λc m h K=>∃cb n,c=[cP cb,cI n]/\aL m h cb/\∀k m',0<=k->(k<n\/k=0)->aT m m' cb->aL m' h cb->K (cI k) m' h
def Il:Vc.Spec:=λc m h K=>∃cb n,c=[cP cb,cI n]/\0<=n/\n<=1000/\aL m h cb/\∀r m',aT m m' cb->aL m' h cb->K (cB r) m' h
def apZ:Vc.Spec:=λc m h K=>∃cb,c=[cP cb]/\aL m h cb/\∀k m',H7 k->aT m m' cb->aL m' h cb->K (cI k) m' h
def bZX:Vc.Spec:=λc m h K=>∃cb,c=[cP cb]/\aL m h cb/\∀t m',t.size<=64->aT m m' cb->aL m' h cb->K (Ue t) m' h
def Qf:Vc.Spec:=λd m h K=>∃cb c,d=[cP cb,cI c]/\aL m h cb/\∀v m',GD v->Lb c v->aT m m' cb->aL m' h cb->K (aV v) m' h
theorem FU:cu 13 FY:=by
 refine⟨Rn.1,λc d m h w K e f=>Rn.2 c d m h w K ?_ f⟩;obtain⟨cb,n,rfl,⟨r,g⟩,j⟩:=e;refine⟨cb,n,r,rfl,g,λm' o t=>j _ m' ?_ ?_ o ⟨_,t⟩⟩
 .cases r with
  |nil=>simp[Xf]
  |cons b r=>
   simp only[Xf]
   grind
 .cases r with
  |nil=>simp[Xf]
  |cons b r=>
   simp only[Xf];split
   .simp
   .exact .inl (Int.emod_lt_of_pos _ aC)
noncomputable def bjJ(h:PH):Ctx:=
 dD [(13,FY)] [(18,{A:=Nat×ByteArray×MH,st:=λ⟨i,t,m⟩=>bU 37 38 [(3,vv (.string t)),(4,iv i)] [] m h}),(23,{A:=Nat×ByteArray×MH,st:=λ⟨i,t,m⟩=>bU 37 38 [(3,vv (.string t)),(5,iv i)] [] m h})] [] [] false
abbrev Jw(a:Nat->Int->Prop):Prop:=∃(x:Nat)(c:Int),a x c
abbrev fU(a:Nat)(b:Int)(c:Nat->Option Obj)(d:Nat->Nat->Option Value)(e:Int->MH->Prop):Prop:=Jw (λx j=>aA (cO (F1 a 0) b=cO (F1 x 0) j) (aL c d x) (∀(f:Int)(g:MH),aR (dG f) (f<j\/f=0) (aR (aT c g x) (aL g d x) (e f g))))
attribute [push_cast] Jw fU
def WG(cb:Nat)(n:Int)(m:MH)(h:PH)(K:dc):Prop:=
  fU cb n m h (λk c=>K (Cr (k==eE (n-1))) c h)
def SB(cb:Nat)(m:MH)(h:PH)(K:dc):Prop:=
  fU cb 12 m h (λk c=>branch (k==9) (K (jA (Int.negSucc 0)) c h) (branch (k==10) (K (jA 9223372036854775807) c h) (branch (k==11) (K (jA (Int.negSucc 9223372036854775807)) c h) (jS ((4:Int)=0)/\K (jA (Int.tmod k 4)) c h))))
noncomputable abbrev dW(a:Nat)(b:dp):dp:=OfNat.ofNat a::b
noncomputable abbrev Cf(a:Nat):dp:=dW a []
noncomputable abbrev EU(a:Nat):CV:=gZ (ByteArray.mk (Array.mk (Cf a)))
attribute [push_cast] dW Cf EU
def SA(cb:Nat)(m:MH)(h:PH)(K:dc):Prop:=
  fU cb 10 m h (λk d=>branch (k==0) (K (EU 97) d h) (branch (k==1) (K (EU 97) d h) (branch (k==2) (K (EU 97) d h) (branch (k==3) (K (EU 98) d h) (branch (k==4) (K (EU 98) d h) (branch (k==5) (K (CV.val Cz) d h) (branch (k==6) (K (gZ (ByteArray.mk (Array.mk (dW 97 (dW 0 []))))) d h) (branch (k==7) (K (EU 255) d h) (bK k 8 (∃(I:Nat×ByteArray×MH->Prop)(e:Nat×ByteArray×MH->Nat),(∃(x:Nat×ByteArray×MH),aA (I x) (SV.at aQz=SV.at (Uk x.2.1)) (aA (bE x.1) (d=x.2.2) (dH h h)))/\∀(x:Nat×ByteArray×MH),I x->aY (↑x.1:Int) 64 (x.2.1.size<9223372036854775807/\∃(c:Nat×ByteArray×MH),aA (I c) (e c<e x) (aA (SV.at (Uk (x.2.1++ByteArray.mk (Array.mk (Cf 255))))=SV.at (Uk c.2.1)) (fJ (aW x.1 1)=bY c.1) (dP x.2.2 c.2.2 h h)))
 (K (gZ x.2.1) x.2.2 h)) (∃(I:Nat×ByteArray×MH->Prop)(e:Nat×ByteArray×MH->Nat),(∃(x:Nat×ByteArray×MH),aA (I x) (SV.at aQz=SV.at (Uk x.2.1)) (aA (bE x.1) (d=x.2.2) (dH h h)))/\∀(x:Nat×ByteArray×MH),I x->aY (↑x.1:Int) 64 (x.2.1.size<9223372036854775807/\∃(c:Nat×ByteArray×MH),aA (I c) (e c<e x) (aA (SV.at (Uk (x.2.1++ByteArray.mk (Array.mk (Cf 98))))=SV.at (Uk c.2.1)) (fJ (aW x.1 1)=bY c.1) (dP x.2.2 c.2.2 h h))) (K (gZ x.2.1) x.2.2 h)))))))))))
abbrev iS(a:MH)(b:PH)(c:Nat)(d:Prop):Prop:=aL a b c->d
attribute [push_cast] iS
def Wg(cb:Nat)(d:Int)(m:MH)(h:PH)(K:dc):Prop:=
  bK d 3 (fU cb 2 m h (λk e=>K (nS (Ci d k)) e h)) (bK d 4 (∃(c:Nat),aA (eW (F1 cb 0) (F1 c 0)) (aL m h c) (∀(k:Int)(e:MH),aR (H7 k) (aT m e c) (iS e h c (K (nS (Ci d k)) e h)))) (∃(c:Nat),aA (eW (F1 cb 0) (F1 c 0)) (aL m h c) (∀(t:ByteArray)(e:MH),aR (t.size<=64) (aT m e c) (iS e h c (K (nS (bH (cV 5) (cV 0) (mI (Value.string t)))) e h)))))
theorem cbX{n:Int}(d:aL m h cb)(e:∀r m',aT m m' cb->aL m' h cb->K (cB r) m' h):WG cb n m h K:=
 ⟨cb,n,rfl,d,λ_ m' _ _ f c=>e _ m' f c⟩
theorem Ix:Ge ⟨#[]⟩=true:=by simp[Ge,ByteArray.toList_eq]
theorem b6X{k:Int}(c:0<=k)(d:k<2\/k=0):kN ⟨3,k,⟨#[]⟩⟩=true:=by
 have:k=0\/k=1:=by omega
 rcases this with rfl|rfl<;>simp[kN,Ix]
theorem XF(k:Int):kN ⟨4,k,⟨#[]⟩⟩=true:=by simp[kN,Ix]
theorem b6Q{t:ByteArray}(h:t.size<=64):kN ⟨5,0,t⟩=true:=by
 simp[kN];omega
theorem uU:cu 20 Il:=by
 refine iB func20 ?_;rintro c m h K ⟨cb,n,rfl,_,_,d,e⟩;refine⟨dD [(13,FY)] [] [] [] false,rfl,aD FU aF,WG cb n m h K,be,?_⟩;exact cbX d e
theorem ZD:cu 104 apZ:=by
 refine iB func104 ?_;rintro f m h K ⟨cb,rfl,g,d⟩;refine⟨dD [(13,FY)] [] [] [] false,rfl,aD FU aF,SB cb m h K,be,?_⟩;dsimp only[SB,push_cast];refine⟨cb,12,rfl,g,λk m' j n e c=>aB (λ_=>d _ m' ⟨aC,aC⟩ e c) (λ_=>aB (λ_=>d _ m' ⟨aC,aC⟩ e c) (λ_=>aB (λ_=>d _ m' ⟨aC,aC⟩ e c) (λ_=>⟨aC,d _ m' ?_ e c⟩)))⟩;rw[Int.tmod_eq_emod_of_nonneg j];exact⟨aC,aC⟩
theorem ZC:cu 105 bZX:=by
 refine iB func105 ?_;rintro g m h K ⟨cb,rfl,j,d⟩;refine⟨bjJ h,rfl,aD FU aF,SA cb m h K,be,?_⟩;dsimp only[SA,push_cast];refine⟨cb,10,rfl,j,λk m' y z e c=>?_⟩;refine aB (λ_=>d _ m' bg e c) (λ_=>aB (λ_=>d _ m' bg e c) (λ_=>aB (λ_=>d _ m' bg e c) (λ_=>aB (λ_=>d _ m' bg e c) (λ_=>aB (λ_=>d _ m' bg e c) (λ_=>aB (λ_=>d _ m' bg e c) (λ_=>aB (λ_=>d _ m' bg e c) (λ_=>aB (λ_=>d _ m' bg e c) (λ_=>aB (λ_=>?_) (λ_=>?_)))))))))
 all_goals
  refine⟨λ⟨i,t,n⟩=>n=m'/\i<=64/\t.size=i,λ⟨i,_,_⟩=>64-i,⟨(0,⟨#[]⟩,m'),⟨rfl,aC,rfl⟩,MT⟩,?_⟩;rintro⟨i,t,m'⟩ ⟨rfl,A,f⟩;dsimp only;refine aE (λo=>⟨?_,(i+1,_,m'),⟨rfl,aC,?_⟩,bm,MT⟩) (λu=>d t m' aC e c)
  .rw[f];show i+1<=_;omega
  .rw[ByteArray.size_append,f];rfl
theorem HL:cu 62 Qf:=by
 refine iB func62 ?_;rintro z m h K ⟨cb,c,rfl,j,n⟩;refine⟨dD [(13,FY),(104,apZ),(105,bZX)] [] [] [] false,rfl,aD FU (aD ZD (aD ZC aF)),Wg cb c m h K,be,?_⟩;dsimp only[Wg,push_cast];refine aB (λe=>⟨cb,2,rfl,j,λk m' A B g d=>n ⟨c,k,⟨#[]⟩⟩ m' ⟨⟨bk,bk⟩,by show(ByteArray.mk #[]).size<=64;decide⟩ (λ_=>?_) g d⟩) (λo=>aB (λe=>⟨cb,rfl,j,λk m' f g d=>n ⟨c,k,⟨#[]⟩⟩ m' ⟨f,by show(ByteArray.mk #[]).size<=64;decide⟩ (λ_=>?_) g d⟩) (λu=>⟨cb,rfl,j,λt m' y g d=>n ⟨5,0,t⟩ m' ⟨⟨bf,bf⟩,y⟩ (λf=>?_) g d⟩))
 .have e:c=3:=br e
  subst e;exact⟨b6X A B,rfl⟩
 .have e:c=4:=br e
  subst e;exact⟨XF k,rfl⟩
 .have o:c≠3:=bk
  have u:c≠4:=bk
  exact⟨b6Q y,by rcases f with f|f|f;exact absurd f o;exact absurd f u;exact f.symm⟩
mutual
def K9:Pred->Prop
 |.mk _ _ l r args=>GD l.value/\GD r.value/\Qo args
def Qo:dr->Prop
 |[]=>True
 |p::ps=>K9 p/\Qo ps
end
theorem Qn:∀{l:dr},Qo l↔∀p∈l,K9 p
 |[]=>by simp[Qo]
 |p::ps=>by simp[Qo,Qn (l:=ps)]
theorem rY:GD zeroV:=⟨⟨bg,bg⟩,bg⟩
structure Xo(cols params:dd)(kind:Int)(o:OV):Prop where
 val:GD o.value
 kind:KOk kind->kindOf cols params o=kind
def Le(l:dd):Prop:=∀k∈l,KOk k
structure PW(cols params:dd)(d:Nat)(p:Pred):Prop where
 vals:K9 p
 valid:Le cols->kE cols params p=true
 siz:Qi d p
def Xn:Vc.Spec:=λf m h K=>∃cb s t e d c,f=[cP cb,cS s,cS t,cI e]/\aL m h cb/\Ints h s d/\Ints h t c/\d.length<=1000/\c.length<=1000/\∀o m',Xo d c e o->aT m m' cb->aL m' h cb->K (aO o) m' h
def KP(K:dc)(m:MH)(h:PH)(cb:Nat)(R:Pred->Prop):Prop:=∀v p m' h',PH.le h h'->eX h' p v->R p->aT m m' cb->aL m' h' cb->K (aP v) m' h'
def boZ(N:Nat):Vc.Spec:=λf m h K=>∃cb s t e c,∃d:Nat,f=[cP cb,cS s,cS t,cI d]/\aL m h cb/\Ints h s e/\Ints h t c/\e.length<=1000/\c.length<=1000/\d<N/\d<=1000/\KP K m h cb (PW e c d)
structure wX(cols params:dd)(d:Nat)(p:Pred):Prop where
 vals:K9 p
 valid:d<=2->Le cols->Le params->jD cols params p=0
def Cx:Vc.Spec:=λf m h K=>∃cb s t d c,∃e:Nat,f=[cP cb,cS s,cS t,cI e]/\aL m h cb/\Ints h s d/\Ints h t c/\d.length<=1000/\c.length<=1000/\e<=1000/\KP K m h cb (wX d c e)
def pv(b:Nat):SV:=vv (.pointer (some ⟨b,0,none⟩))
noncomputable def bgZ(cb:Nat)(s t:Sl)(c:Int)(m:MH)(h:PH):Ctx:=
 dD [(13,FY),(62,Qf)] [(3,{A:=Nat×ff,st:=λ⟨i,d⟩=>bU 64 68 [(0,pv cb),(2,sv t),(3,iv c),(8,.at (.ptr 8 0)),(9,.at (.lst 29)),(15,sv s),(16,iv s.len),(17,iv i)] [(8,.cells 60 (eY.enc.map .val)),(29,.lst 60 5 (d.map OV.enc))] m h}),
  (9,{A:=Nat×ff,st:=λ⟨i,d⟩=>bU 64 68 [(0,pv cb),(3,iv c),(8,.at (.ptr 8 0)),(9,.at (.lst 29)),(31,sv t),(32,iv t.len),(33,iv i)] [(8,.cells 60 (eY.enc.map .val)),(29,.lst 60 5 (d.map OV.enc))] m h})] [] [] false
noncomputable def bEZ(N:Nat)(cb:Nat)(s t:Sl)(c:Nat)(d:PH):Ctx:=
 dD [(13,FY),(20,Il),(133,Xn),(62,Qf),(94,boZ N)] [(18,{A:=Int×Int×ei×MH×PH,st:=λ⟨op,n,e,m,h⟩=>bU 107 111 [(0,pv cb),(1,sv s),(2,sv t),(3,iv c),(8,.at (.ptr 8 0)),(12,.at (.ptr 12 0)),(13,iv n)] [(8,.cells 63 (gU.enc.map .val)),(12,.cells 63 (((⟨op,0,eY,eY,⟨none,0,0⟩⟩:PV).enc.take 12).map .val++[.lst 104])),(104,.lst 63 13 (e.map PV.enc))] m h})] [(3,{A:=Int×Bool×MH,st:=λ⟨k,b,m⟩=>bU 107 111 [(0,pv cb),(1,sv s),(2,sv t),(3,iv c),(8,.at (.ptr 8 0)),(9,iv k),(16,bv b)] [(8,.cells 63 (gU.enc.map .val))] m d}),
  (5,{A:=Int×Bool×MH,st:=λ⟨k,b,m⟩=>bU 107 111 [(0,pv cb),(1,sv s),(2,sv t),(3,iv c),(8,.at (.ptr 8 0)),(9,iv k),(27,bv b)] [(8,.cells 63 (gU.enc.map .val))] m d}),
  (8,{A:=Int×MH,st:=λ⟨k,m⟩=>bU 107 111 [(0,pv cb),(1,sv s),(2,sv t),(8,.at (.ptr 8 0)),(10,iv k)] [(8,.cells 63 (gU.enc.map .val))] m d}),
  (9,{A:=PV×Int×MH,st:=λ⟨p,k,m⟩=>bU 107 111 [(0,pv cb),(1,sv s),(2,sv t),(8,.at (.ptr 8 0)),(10,iv k),(11,.at (.ptr 11 0))] [(8,.cells 63 (gU.enc.map .val)),(11,.cells 63 (p.enc.map .val))] m d}),
  (11,{A:=PV×MH,st:=λ⟨p,m⟩=>bU 107 111 [(0,pv cb),(8,.at (.ptr 8 0)),(11,.at (.ptr 11 0))] [(8,.cells 63 (gU.enc.map .val)),(11,.cells 63 (p.enc.map .val))] m d}),
  (13,{A:=PV×MH,st:=λ⟨p,m⟩=>bU 107 111 [(8,.at (.ptr 8 0)),(11,.at (.ptr 11 0))] [(8,.cells 63 (gU.enc.map .val)),(11,.cells 63 (p.enc.map .val))] m d})] [] false
noncomputable abbrev dA:At:=iN 0
abbrev EG:Prop:=eQ (oQ 60 (cG dA dA (cG dA dA (rN aQz))))
noncomputable abbrev nQ(a:Nat×ff):List cv:=List.map OV.enc a.2
abbrev JY(a b:Nat×ff):Prop:=fJ (aW a.1 1)=bY b.1
abbrev Kj(a:Nat)(b:Int)(c:Nat->Option Obj)(d:PH)(e:Nat->Int->VV->Prop):Prop:=Jw (λx f=>aA (cO (F1 a 0) b=cO (F1 x 0) f) (aL c d x) (∀(g:VV),e x f g))
attribute [push_cast] dA EG nQ JY Kj
def Sh(cb:Nat)(s t:Sl)(f:Int)(m:MH)(h:PH)(K:dc):Prop:=
  ∃(I:Nat×ff->Prop)(j:Nat×ff->Nat),(∃(x:Nat×ff),aA (I x) (bZ cb) (aA (aH t) (bL f) (aA dC (eL 29) (aA (aH s) (bI s) (aA (bE x.1) EG (aA (pE 60 5 (nQ x)) (m=m) (dH h h)))))))/\∀(x:Nat×ff),I x->aY (↑x.1:Int) (aG s) (bD (λb o=>aI (bF s.a b o) (0<=(↑x.1:Int)) ((↑x.1:Int)<aG s) (∃(y:Int),aJ m h b (bB o x.1 1) (bG y)/\bK y f (kX (nQ x) 48 (∃(d:Nat×ff),aA (I d) (j d<j x) (aA (bZ cb) (aH t) (aA (bL f) dC (aA (eL 29) (aH s) (aA (bI s) (JY x d) (aA EG (Option.some (Own.lst 60 5 (eK (nQ x) (bH (cV 1) (cV (↑x.1:Int)) (bH (cV 0) (cV 0) (mI Cz)))))=Option.some (Own.lst 60 5 (nQ d))) (dP m m h h)))))))) (∃(d:Nat×ff),aA (I
 d) (j d<j x) (aA (bZ cb) (aH t) (aA (bL f) dC (aA (eL 29) (aH s) (aA (bI s) (JY x d) (aA EG (Option.some (Own.lst 60 5 (nQ x))=Option.some (Own.lst 60 5 (nQ d))) (dP m m h h)))))))))) (∃(I1:Nat×ff->Prop)(n:Nat×ff->Nat),(∃(d:Nat×ff),aA (I1 d) (bZ cb) (aA (bL f) dC (aA (eL 29) (aH t) (aA (bI t) (bE d.1) (nO EG (Option.some (Own.lst 60 5 (nQ x))=Option.some (Own.lst 60 5 (nQ d))) (m=m) (h=h))))))/\∀(d:Nat×ff),I1 d->aY (↑d.1:Int) (aG t) (bD (λb o=>aI (bF t.a b o) (0<=(↑d.1:Int)) ((↑d.1:Int)<aG t) (∃(y:Int),aJ m h b (bB o d.1 1) (bG y)/\bK y f (kX (nQ d) 48 (∃(g:Nat×ff),aA (I1 g) (n g<n d) (aA (bZ cb) (bL f)
 (aA dC (eL 29) (aA (aH t) (bI t) (aA (JY d g) EG (aA (Option.some (Own.lst 60 5 (eK (nQ d) (bH (cV 2) (cV (↑d.1:Int)) (bH (cV 0) (cV 0) (mI Cz)))))=Option.some (Own.lst 60 5 (nQ g))) (m=m) (dH h h)))))))) (∃(g:Nat×ff),aA (I1 g) (n g<n d) (aA (bZ cb) (bL f) (aA dC (eL 29) (aA (aH t) (bI t) (aA (JY d g) EG (aA (Option.some (Own.lst 60 5 (nQ d))=Option.some (Own.lst 60 5 (nQ g))) (m=m) (dH h h)))))))))) (fU cb (aW (nQ d).length 1) m h (λk u=>aY k (oE (nQ d)) (aA (dG k) (k<oE (nQ d)) (∃(e:cv),pW (nQ d) k.toNat e/\∃(y:OV),DA 5 0 e y.enc/\K (nS y.enc) u h)) (Kj cb f u h (λc A v=>∀(z:MH),aR (GD v) (Lb A v) (aR (aT u z c)
 (aL z h c) (K (nS (bH (cV 3) (cV 0) (bH (cV v.kind) (cV v.int) (mI (Value.string v.text))))) z h)))))))
abbrev kT(a:Nat)(b:Int)(c:Nat->Option Obj)(d:PH)(e:Nat->Bool->Prop):Prop:=Jw (λx f=>aA (cO (F1 a 0) b=cO (F1 x 0) f) (dG f) (aA (f<=1000) (aL c d x) (∀(g:Bool),e x g)))
abbrev JC(a:Int×Bool×MH->Prop)(b:Nat)(c d:Sl)(e:Nat)(g:Int)(i:(Int×Bool×MH)->Prop)(j:Nat->Option Obj)(k:PH):Prop:=∃(x:Int×Bool×MH),aA (a x) (bZ b) (aA (aH c) (aH d) (aA (nM e) dC (aA (bV g x.1) (i x) (cF sQ j x.2.2 k k))))
noncomputable abbrev cZ(a:Nat)(b:du):du:=F1 a 0::b
abbrev jV(a:Nat):Prop:=a<=1000
abbrev gJ(a:dd):Prop:=jV a.length
abbrev gW:Prop:=eP 11
abbrev yH(a:Sl->Sl->dd->dd->Nat->Prop):Prop:=jE (λx c=>Bc (λd e=>∃(f:Nat),a x c d e f))
abbrev Cd(a:PV->Pred->Prop):Prop:=∀(x:PV)(c:Pred),a x c
abbrev JD(a:du)(b:Nat)(c:MH)(d:PH)(e:Nat)(g:dd->dd->Nat->PV->Pred->Prop):Prop:=yH (λx o j n f=>aA (a=cZ b (cQ x (eJ o (↑f:Int)))) (aL c d b) (aA (Ints d x j) (Ints d o n) (aA (gJ j) (gJ n) (aA (f<e) (jV f) (Cd (λt u=>g j n f t u))))))
abbrev eZ(a:MH->PH->Prop):Prop:=∀(x:MH)(c:PH),a x c
noncomputable abbrev JZ(a:Int):dt:=cG (iN a) dA (cG dA dA (cG dA dA (cG aQz dA (cG dA dA (cG dA aQz (rN (At.lst 104)))))))
noncomputable abbrev Hu(a:Int×Int×ei×MH×PH):List cv:=List.map PV.enc a.2.2.1
abbrev iD(a:MH)(b:MH×PH):Prop:=a=b.1
noncomputable abbrev Az(a:Int×Int×ei×MH×PH):MH×PH:=a.2.2.2
abbrev fI(a:PH)(b:MH×PH):Prop:=a=b.2
abbrev eA(a:PH)(b:MH×PH):Prop:=fI a b/\True
abbrev fM(a:Nat->Option Obj)(b:MH×PH)(c:PH):Prop:=aA (iD a b) (fI c b) True
attribute [push_cast] kT JC cZ jV gJ gW yH Cd JD eZ JZ Hu iD Az fI eA fM
def V2(N:Nat)(cb:Nat)(s t:Sl)(f:Nat)(m:MH)(h:PH)(K:dc):Prop:=
  fU cb 9 m h (λk L=>∃(I:Int×Bool×MH->Prop),bK k 0 (kT cb 2 L h (λc r=>∀(g:MH),aR (aT L g c) (aL g h c) (JC I cb s t f k (λx=>fS r x.2.1) g h))) (JC I cb s t f k (λx=>tK x.2.1) L h)/\∀(x:Int×Bool×MH),lA (I x) x.2.1 (fU cb 2 x.2.2 h (λz g=>K (nS (bH (cV (eE (1+z))) (cV 0) (bH (cV 0) (cV 0) (bH (cV 0) (cV 0) (bH Cz (cV 0) (bH (cV 0) (cV 0) (bH (cV 0) Cz iT))))))) g h)) (∃(I1:Int×Bool×MH->Prop),aY x.1 6 (JC I1 cb s t f x.1 (λu=>A4 u.2.1) x.2.2 h) (JC I1 cb s t f x.1 (λu=>fS (decide ((↑f:Int)<1)) u.2.1) x.2.2 h)/\∀(u:Int×Bool×MH),lA (I1 u) u.2.1 (∃(I2:Int×MH->Prop),kK (aG s) 0 (fU cb (aG s) u.2.2 h (λz g=>bD (λb o=>aI (bF s.a b
 o) (0<=z) (z<aG s) (∃(y:Int),aJ g h b (eM o z 1) (bG y)/\∃(e:Int×MH),aA (I2 e) (bZ cb) (aA (aH s) (aH t) (aA dC (bV y e.1) (aA sQ (g=e.2) (dH h h)))))))) (∃(e:Int×MH),aA (I2 e) (bZ cb) (aA (aH s) (aH t) (aA dC (bV 4 e.1) (aA sQ (u.2.2=e.2) (dH h h)))))/\∀(e:Int×MH),I2 e->∃(I3:PV×Int×MH->Prop),fU cb 6 e.2 h (λz g=>∃(c:Nat),jE (λE H=>∃(M:Int),Bc (λA p=>aA (cZ cb (cQ s (eJ t e.1))=cZ c (cQ E (eJ H M))) (aL g h c) (aA (Ints h E A) (Ints h H p) (aA (gJ A) (gJ p) (∀(o:OV)(B:MH),aR (Xo A p M o) (aT g B c) (iS B h c (Kj cb e.1 B h (λG O v=>∀(F:MH),aR (GD v) (Lb O v) (aR (aT B F G) (aL F h G)
 (∃(j:PV×Int×MH),aA (I3 j) (bZ cb) (aA (aH s) (aH t) (aA dC (bV e.1 j.2.1) (aA gW sQ (cF (oQ 63 (cG (iN 3) (iN (eE (1+z))) (cG (pV o) (uZ o) (cG (pN o) (iN (vO o)) (cG (pO o) (iN 3) (cG dA (iN v.kind) (cG (iN v.int) (Uk v.text) (rN BV)))))))=vP 63 j.1.enc) F j.2.2 h h)))))))))))))))/\∀(j:PV×Int×MH),I3 j->∃(I4:PV×MH->Prop),kT cb 3 j.2.2 h (λc r=>∀(g:MH),aR (aT j.2.2 g c) (aL g h c) (branch r (∃(A:Nat),jE (λE H=>∃(z:Int),Bc (λG p=>aA (cZ cb (cQ s (eJ t j.2.1))=cZ A (cQ E (eJ H z))) (aL g h A) (aA (Ints h E G) (Ints h H p) (aA (gJ G) (gJ p) (∀(o:OV)(B:MH),aR (Xo G p z o) (aT g B A) (iS B h A (∃(n:PV×MH),aA (I4
 n) (bZ cb) (aA (eP 8) gW (aA sQ (oQ 63 (cG (iN j.1.op) (iN j.1.cmp) (cG (pV j.1.left) (uZ j.1.left) (cG (pN j.1.left) (iN (vO j.1.left)) (cG (pO j.1.left) (pV o) (cG (uZ o) (pN o) (cG (iN (vO o)) (pO o) (qB j.1.args)))))))=vP 63 n.1.enc) (aA (B=n.2) (h=h) True))))))))))) (∃(n:PV×MH),aA (I4 n) (bZ cb) (aA (eP 8) gW (aA sQ (vP 63 j.1.enc=vP 63 n.1.enc) (aA (g=n.2) (h=h) True))))))/\∀(n:PV×MH),I4 n->∃(I5:PV×MH->Prop),kT cb 6 n.2 h (λc r=>∀(g:MH),aR (aT n.2 g c) (aL g h c) (branch r (∃(C:PV×MH),aA (I5 C) dC (aA gW sQ (cF (oQ 63 (cG (iN n.1.op) (iN n.1.cmp) (cG (pV n.1.right) (uZ n.1.right) (cG (pN n.1.right) (iN (vO n.1.right)) (cG
 (pO n.1.right) (pV n.1.left) (cG (uZ n.1.left) (pN n.1.left) (cG (iN (vO n.1.left)) (pO n.1.left) (qB n.1.args)))))))=vP 63 C.1.enc) g C.2 h h))) (∃(C:PV×MH),aA (I5 C) dC (aA gW sQ (cF (vP 63 n.1.enc=vP 63 C.1.enc) g C.2 h h)))))/\∀(C:PV×MH),I5 C->K (gX C.1) C.2 h) (bK u.1 6 (∃(c:Nat),JD (cZ cb (cQ s (eJ t (eE ((↑f:Int)-1))))) c u.2.2 h N (λA p d v J=>eZ (λg D=>cR h D (eX D J v) (aR (PW A p d J) (aT u.2.2 g c) (iS g D c (bQ D 13 (fV v.enc) (λE P=>K (nS (bH (cV 6) (cV 0) (bH (cV 0) (cV 0) (bH (cV 0) (cV 0) (bH Cz (cV 0) (bH (cV 0) (cV 0) (bH (cV 0) Cz (aM E)))))))) g P))))))) (fU cb 3 u.2.2 h (λz g=>∃(I2:Int×Int×ei×MH×PH->Prop)
 (B:Int×Int×ei×MH×PH->Nat),(∃(e:Int×Int×ei×MH×PH),aA (I2 e) (bZ cb) (aA (aH s) (aH t) (aA (nM f) dC (aA (eP 12) (bV z e.2.1) (aA sQ (GY (JZ (eE (eE (4+u.1)-7))) (JZ e.1)) (aA (pE 63 13 (Hu e)) (iD g (Az e)) (eA h (Az e))))))))/\∀(e:Int×Int×ei×MH×PH),lA (I2 e) (decide (e.2.1>=0)) (∃(c:Nat),JD (cZ cb (cQ s (eJ t (eE ((↑f:Int)-1))))) c (Az e).1 (Az e).2 N (λA p d v J=>eZ (λF D=>cR (Az e).2 D (eX D J v) (aR (PW A p d J) (aT (Az e).1 F c) (iS F D c (kX (Hu e) 136 (∃(j:Int×Int×ei×MH×PH),aA (I2 j) (B j<B e) (aA (bZ cb) (aH s) (aA (aH t) (nM f) (aA dC (eP 12) (aA (bV
 (eE (e.2.1-1)) j.2.1) sQ (aA (GY (JZ e.1) (JZ j.1)) (Option.some (Own.lst 63 13 (eK (Hu e) v.enc))=Option.some (Own.lst 63 13 (Hu j))) (fM F (Az j) D))))))))))))) (bQ (Az e).2 13 (Hu e) (λE D=>K (nS (bH (cV e.1) (cV 0) (bH (cV 0) (cV 0) (bH (cV 0) (cV 0) (bH Cz (cV 0) (bH (cV 0) (cV 0) (bH (cV 0) Cz (aM E)))))))) (Az e).1 D)))))))
def ak(N:Nat)(cb:Nat)(s t:Sl)(f:Nat)(m:MH)(h:PH)(K:dc):Prop:=
  ∃(c:Nat),JD (cZ cb (cQ s (eJ t (↑f:Int)))) c m h N (λA p d v u=>eZ (λg e=>cR h e (eX e u v) (aR (PW A p d u) (aT m g c) (iS g e c (GZ (cQ s (fP t (gX v))) e (λB C D=>bK (jD B C D) 2 (∃(n:Nat),JD (cZ cb (cQ s (eJ t 1))) n g e N (λE F G y z=>eZ (λo j=>cR e j (eX j z y) (aR (PW E F G z) (aT g o n) (iS o j n (K (gX y) o j)))))) (K (gX v) g e)))))))
theorem W3:W4 zeroV zeroV=true:=by simp[W4]
theorem CM:Iw 0 eY eY=true:=by simp[Iw,eqO,W4]
theorem X0{cols params:dd}{x:Int}(h:cols[i]? =some x):kindOf cols params ⟨1,i,zeroV⟩=x:=by
 have d:=(bt h);have e:kindOf cols params ⟨1,i,zeroV⟩=sK cols ⟨1,i,zeroV⟩:=rfl;have c:=W3;rw[e];simp only[sK,c,Bool.not_true,Bool.or_false]
 grind
theorem XZ{cols params:dd}{x:Int}(h:params[i]? =some x):kindOf cols params ⟨2,i,zeroV⟩=x:=by
 have d:=(bt h);have e:kindOf cols params ⟨2,i,zeroV⟩=sK params ⟨2,i,zeroV⟩:=rfl;have c:=W3;rw[e];simp only[sK,c,Bool.not_true,Bool.or_false]
 grind
theorem Vp{cols params:dd}{c:Int}{v:VV}(f:GD v)(g:Lb c v):Xo cols params c ⟨3,0,v⟩:=⟨f,λh=>by
 obtain⟨j,d⟩:=g h;have e:kindOf cols params ⟨3,0,v⟩=if((0:Int) !=0|| !mF v)then 0 else v.kind:=rfl
 rw[e,if_neg,d];simp only[mF,j,d];rcases h with rfl|rfl|rfl<;>decide⟩
theorem Zp:cu 133 Xn:=by
 refine iB func133 ?_;rintro U m h K ⟨cb,s,t,d,e,c,rfl,V,P,Q,Z,l2,R⟩;refine⟨bgZ cb s t d m h,rfl,aD FU (aD HL aF),Sh cb s t d m h K,be,?_⟩;dsimp only[Sh,push_cast];have E:=P.slen;have F:=Q.slen;refine⟨λ⟨i,f⟩=>i<=e.length/\f.length<=i/\∀o∈f,Xo e c d o,λ⟨i,_⟩=>e.length-i,⟨(0,[]),⟨aC,bf,bf⟩,MT⟩,?_⟩;rintro⟨i,f⟩ ⟨S,y,g⟩;dsimp only;refine aE (λj=>?_) (λz=>?_)
 .obtain⟨x,A⟩:=eO E j;obtain⟨G,H,I,J⟩:=P.at' A;refine⟨G,H,I,aC,j,x,.imm J,aB (λW=>⟨bj,bj,(i+1,f++[⟨1,i,zeroV⟩]),⟨aC,bj,?_⟩,aC,?_⟩) (λ_=>⟨(i+1,f),⟨aC,bk,g⟩,aC,MT⟩)⟩
  .intro o u;rcases mem_append.1 u with n|n
   .grind
   .simp at n;subst n;exact⟨rY,λ_=>by rw[X0 (br A)];grind⟩
  .rw[cd];exact MT
 refine⟨λ⟨i,f⟩=>i<=c.length/\f.length<=1000+i/\∀o∈f,Xo e c d o,λ⟨i,_⟩=>c.length-i,⟨(0,f),⟨aC,aC,g⟩,MT⟩,?_⟩;clear S y g z;rintro⟨i,f⟩ ⟨S,y,g⟩;dsimp only;refine aE (λj=>?_) (λz=>?_)
 .obtain⟨x,A⟩:=eO F j;obtain⟨G,H,I,J⟩:=Q.at' A;refine⟨G,H,I,aC,j,x,.imm J,aB (λW=>⟨bj,bj,(i+1,f++[⟨2,i,zeroV⟩]),⟨aC,bj,?_⟩,aC,?_⟩) (λ_=>⟨(i+1,f),⟨aC,bk,g⟩,aC,MT⟩)⟩
  .intro o u;rcases mem_append.1 u with n|n
   .grind
   .simp at n;subst n;exact⟨rY,λ_=>by rw[XZ (br A)];grind⟩
  .rw[cd];exact MT
 .refine⟨cb,_,rfl,V,λk m' X n u B=>aE (λT=>?_) (λT=>⟨cb,d,rfl,B,λv L Y M O C=>R ⟨3,0,v⟩ L (Vp Y M) (u.trans O) C⟩)⟩;have D:k.toNat<f.length:=bk
  exact⟨X,T,_,by rw[getElem?_map,bu D];rfl,f[k.toNat],rfl,R _ m' (g _ (getElem_mem D)) u B⟩
theorem Pf{h:PH}{v:PV}(c:v.args=⟨none,0,0⟩):eX h (.mk v.op v.cmp v.left v.right []) v:=eX.mk (by rw[c];exact .nil _ _ _ _)
structure bvX(cols params:dd)(kd:Int)(p:PV):Prop where
 args_:p.args=⟨none,0,0⟩
 op_:p.op=3
 cmp_:1<=p.cmp/\p.cmp<=6
 left_:Xo cols params kd p.left
 right_:Xo cols params kd p.right
 kind_:Le cols->KOk kd
theorem bBQ{k:Int}(h:KOk k):k≠0:=by rcases h with rfl|rfl|rfl<;>decide
theorem bvX.pw{cols params:dd}{f:Int}{p:PV}(x:bvX cols params f p)(d:Nat):PW cols params d (.mk p.op p.cmp p.left p.right []):=by
 refine⟨⟨x.left_.val,x.right_.val,trivial⟩,λg=>?_,Qi.leaf d⟩;have c:=x.kind_ g;have j:=x.left_.kind c;have n:=x.right_.kind c;have o:=bBQ c;have e:=x.cmp_;rw[x.op_];simp[kE,j,n,o,e.1,e.2]
theorem b7X{cols params:dd}{d:Nat}(x:PW cols params d p):PW cols params (d+1) (.mk 6 0 eY eY [p]):=
 ⟨⟨rY,rY,x.vals,trivial⟩,λf=>by
  have e:=CM;simp[kE,Ac,e,x.valid f],Qi.node (λq c=>by simp at c;subst c;exact x.siz) bf⟩
theorem b7Z{cols params:dd}{d:Nat}{op:Int}{ps:dr}(f:op=4\/op=5)(x:∀p∈ps,PW cols params d p)(g:ps.length<=3):PW cols params (d+1) (.mk op 0 eY eY ps):=
 ⟨⟨rY,rY,Qn.2 λp c=>(x p c).vals⟩,λj=>by
  have e:=CM;have n:Ac cols params ps=true:=by rw[F3,all_eq_true];exactλp c=>(x p c).valid j
  rcases f with rfl|rfl<;>simp[kE,e,n],Qi.node (λq o=>(x q o).siz) g⟩
theorem agZ:∀N,cu 94 (boZ N)
 |0=>by
  refine eR (fn:=Tryz.f94) (c:=cK Tryz.f94) func94 rfl bg ?_;rintro a1 m h K ⟨cb,s,t,f,d,g,rfl,_,_,_,_,_,hN,_⟩;omega
 |N+1=>by
  refine iB func94 ?_;rintro a1 m h K ⟨cb,s,t,f,d,g,rfl,hc,O,ht,l1,l2,hN,hd,hK⟩;refine⟨bEZ N cb s t g h,rfl,aD FU (aD uU (aD Zp (aD HL (aD (agZ N) aF)))),V2 N cb s t g m h K,be,?_⟩;dsimp only[V2,push_cast];have a8:=O.slen;refine⟨cb,9,rfl,hc,λk C M P y z=>?_⟩;refine⟨λ⟨k,_,A⟩=>0<=k/\k<=8/\aT m A cb/\aL A h cb,aB (λ_=>⟨cb,2,rfl,aC,aC,z,λr F D E=>⟨(k,r,F),⟨M,aC,y.trans D,E⟩,MT⟩⟩) (λ_=>⟨(k,false,C),⟨M,aC,y,z⟩,MT⟩),?_⟩;clear M P y z k C;rintro⟨k,b,C⟩ ⟨M,P,y,z⟩;dsimp only;refine aB (λ_=>⟨cb,2,rfl,z,λj F S j1 D E=>?_⟩) (λ_=>?_)
  .refine hK ⟨IntKind.i64.wrap (1+j),0,eY,eY,⟨none,0,0⟩⟩ _ F h (.refl _) (Pf rfl) ⟨⟨rY,rY,trivial⟩,λ_=>?_,Qi.leaf _⟩ (y.trans D) E;have hj:j=0\/j=1:=by omega
   have e1:IntKind.i64.wrap 1=1:=bg
   have e2:IntKind.i64.wrap 2=2:=bg
   rcases hj with rfl|rfl
   .simp[kE,e1,CM]
   .simp[kE,e2,CM]
  refine⟨λ⟨k,b,A⟩=>0<=k/\k<=8/\(b=false->6<=k/\1<=g)/\aT m A cb/\aL A h cb,aE (λ_=>⟨(k,true,C),⟨M,P,λe=>(by cases e),y,z⟩,MT⟩) (λhk=>⟨(k,_,C),⟨M,P,λe=>?_,y,z⟩,MT⟩),?_⟩
  .grind
  clear M P y z k C;rintro⟨k,b,C⟩ ⟨M,P,kb,y,z⟩;dsimp only;refine aB (λ_=>?_) (λhb=>?_)
  .refine⟨λ⟨H,A⟩=>(Le f->KOk H)/\aT m A cb/\aL A h cb,aE (λa7=>⟨cb,s.len,rfl,z,λj F S j1 D E=>?_⟩) (λ_=>⟨(4,C),⟨λ_=>.inr (.inl rfl),y,z⟩,MT⟩),?_⟩
   .obtain⟨b1,a2,e1,r1⟩:=O.inb (n:=j) S aC
    have hm:f.getD j.toNat 0∈f:=by
     grind
    exact⟨b1,a2,e1,S,aC,_,.imm r1,(_,F),⟨λT=>T _ hm,y.trans D,E⟩,MT⟩
   clear y z C;rintro⟨H,C⟩ ⟨U,y,z⟩;dsimp only;refine⟨λ⟨p,H,A⟩=>bvX f d H p/\aT m A cb/\aL A h cb,⟨cb,6,rfl,z,λj F S j1 D E=>⟨cb,s,t,H,f,d,rfl,E,O,ht,l1,l2,λo m3 ho V W=>⟨cb,H,rfl,W,λv m4 hv a3 o4 c4=>⟨(⟨3,IntKind.i64.wrap (1+j),o,⟨3,0,v⟩,⟨none,0,0⟩⟩,H,m4),⟨⟨rfl,rfl,?_,ho,Vp hv a3,U⟩,((y.trans D).trans V).trans o4,c4⟩,MT⟩⟩⟩⟩,?_⟩
   .show 1<=IntKind.i64.wrap (1+j)/\IntKind.i64.wrap (1+j)<=6;rw[dO aC aC];omega
   clear y z C U H;rintro⟨p,H,C⟩ ⟨pw,y,z⟩;dsimp only;refine⟨λ⟨p,A⟩=>bvX f d H p/\aT m A cb/\aL A h cb,⟨cb,3,rfl,aC,aC,z,λr F D E=>aB (λ_=>⟨cb,s,t,H,f,d,rfl,E,O,ht,l1,l2,λo m3 ho V W=>⟨(⟨p.op,p.cmp,p.left,o,p.args⟩,m3),⟨⟨pw.args_,pw.op_,pw.cmp_,pw.left_,ho,pw.kind_⟩,(y.trans D).trans V,W⟩,MT⟩⟩) (λ_=>⟨(p,F),⟨pw,y.trans D,E⟩,MT⟩)⟩,?_⟩;clear pw y z C p;rintro⟨p,C⟩ ⟨pw,y,z⟩;dsimp only;refine⟨λ⟨p,A⟩=>bvX f d H p/\aT m A cb/\aL A h cb,⟨cb,6,rfl,aC,aC,z,λr F D E=>aB (λ_=>⟨(⟨p.op,p.cmp,p.right,p.left,p.args⟩,F),⟨⟨pw.args_,pw.op_,pw.cmp_,pw.right_,pw.left_,pw.kind_⟩,y.trans D,E⟩,MT⟩) (λ_=>⟨(p,F),⟨pw,y.trans D,E⟩,MT⟩)⟩,?_⟩;clear pw y z C p;rintro⟨p,C⟩ ⟨pw,y,z⟩;exact hK p _ C h (.refl _) (Pf pw.args_) (pw.pw g) y z
  have a4:=kb hb;have hw:IntKind.i64.wrap ((g:Int)-1)=((g-1:Nat):Int):=by rw[dO aC aC];omega
  rw[hw];have X:g=g-1+1:=by omega
  refine aB (λ_=>⟨cb,s,t,f,d,g-1,rfl,z,O,ht,l1,l2,aC,aC,λv p F h2 G hr hp D E Y Z I J=>?_⟩) (λa5=>⟨cb,3,rfl,z,λj F S j1 D E=>?_⟩)
  .refine hK ⟨6,0,eY,eY,Y⟩ (.mk 6 0 eY eY [p]) F Z (G.trans I) (eX.mk (v:=⟨6,0,eY,eY,Y⟩) ⟨⟨[v],J,rfl,λi x L=>?_⟩,bf⟩) (by rw[X];exact b7X hp) (y.trans D) (E.mono I)
   match i,L with
   |0,L=>simp at L;subst L;exact⟨v,rfl,hr.mono I⟩
   |_+1,L=>simp at L
  refine⟨λ⟨op,n,Q,A,L⟩=>(op=4\/op=5)/\ -1<=n/\n<=2/\(Q.length:Int)<=2-n/\PH.le h L/\aT m A cb/\aL A L cb/\∃ps:dr,ps.length=Q.length/\(∀q∈ps,PW f d (g-1) q)/\∀(i:Nat) q,ps[i]? =some q->∃u,Q[i]? =some u/\eX L q u,λ⟨_,n,_,_,_⟩=>(n+1).toNat,⟨(_,j,[],F,h),⟨?_,aC,aC,bj,.refl _,y.trans D,E,[],rfl,bf,λi q R=>by simp at R⟩,MT⟩,?_⟩
  .have a5:k≠6:=bk
   have a6:k=7\/k=8:=by omega
   rcases a6 with rfl|rfl
   .exact .inl bg
   .exact .inr bg
  rintro⟨op,n,Q,A,L⟩ ⟨a',n0,n1,ul,G,ox,cx,ps,pl,pw,a0⟩;dsimp only;refine aE (λhn=>⟨cb,s,t,f,d,g-1,rfl,cx,O.mono G,ht.mono G,l1,l2,aC,aC,λv p m3 Z B hr hp V W=>⟨bj,bj,(op,n-1,Q++[v],m3,Z),⟨a',bk,bk,bj,G.trans B,ox.trans V,W,ps++[p],by simp[pl],?_,?_⟩,?_,?_⟩⟩) (λhn Y Z B J=>?_)
  .grind
  .intro i q R;by_cases hi:i<ps.length
   .rw[getElem?_append_left hi]at R;obtain⟨u,h1,h2⟩:=a0 i q R;exact⟨u,bk,h2.mono B⟩
   grind
  .grind
  .rw[cd,dO aC aC];exact MT
  .exact hK ⟨op,0,eY,eY,Y⟩ (.mk op 0 eY eY ps) A Z (G.trans B) (eX.mk (v:=⟨op,0,eY,eY,Y⟩) ⟨⟨Q,J,pl,λi q R=>(a0 i q R).imp λu hu=>⟨hu.1,hu.2.mono B⟩⟩,aC⟩) (by rw[X];exact b7Z a' pw aC) ox (cx.mono B)
theorem Xb(h:Le l):l.all cX=true:=all_eq_true.2 λk c=>by
 rcases h k c with e|e|e<;>subst e<;>rfl
theorem acZ{cols params:dd}{d:Nat}(x:PW cols params d p)(e:d<=2)(c:Le cols)(f:Le params):jD cols params p=0:=by
 have j:=OZ p 0;have o:=x.siz.n;have g:=Nh p 8 (by have:=x.siz.d;omega)
 have t:gF d<=13:=by match d,e with
  |0,_=>decide
  |1,_=>decide
  |2,_=>decide
 unfold jD;rw[Xb c,Xb f,if_neg bf,g,if_neg bj,x.valid c];rfl
theorem aa:cu 52 Cx:=by
 refine iB func52 ?_;rintro H m h K ⟨cb,s,t,e,c,f,rfl,I,n,o,A,B,J,C⟩;refine⟨dD [(94,boZ 1001),(95,wY)] [] [] [] false,rfl,aD (agZ 1001) (aD LM aF),ak 1001 cb s t f m h K,be,?_⟩;dsimp only[ak,push_cast];refine⟨cb,s,t,e,c,f,rfl,I,n,o,A,B,aC,J,λv p L M d D E F G=>⟨s,t,v,e,c,p,rfl,n.mono d,o.mono d,D,aB (λ_=>⟨cb,s,t,e,c,1,rfl,G,n.mono d,o.mono d,A,B,aC,aC,λO P Q R g u j S T=>C O P Q R (d.trans g) u ⟨j.vals,λ_ y z=>acZ j bg y z⟩ (F.trans S) T⟩) (λ_=>C v p L M d D ⟨E.vals,λU y z=>acZ E U y z⟩ F G)⟩⟩
def bT:Sl:=⟨none,0,0⟩
def arJ:Vc.Spec:=λc m h K=>∃n k,c=[Ue n,cI k]/\K (.val (.agg ⟨(lD.mk n k).enc⟩)) m h
def anZ:Vc.Spec:=λc m h K=>∃t,c=[cI t]/\K (aQ ⟨1,t,gU,bT,bT,bT,bT,0,bT⟩) m h
def bXZ(v:QV)(g o:Sl)(k:Int):QV:=⟨v.op,v.table,v.where_,v.columns,v.on,g,o,k,v.args⟩
def b0Z:Vc.Spec:=λd m h K=>∃cb v s c,d=[cP cb,aQ (bXZ v bT bT v.limit),cS s]/\aL m h cb/\Ints h s c/\c.length<=1000/\
 ∀g o k gr od m' h',PH.le h h'->Ints h' g gr->kC h' o od->gr.length<=c.length->od.length<=c.length->0<=k->k<=3->aT m m' cb->aL m' h' cb->K (aQ (bXZ v g o k)) m' h'
noncomputable def bEQ(cb:Nat)(v:QV)(s:Sl)(h:PH):Ctx:=
 dD [(13,FY),(20,Il)] [(2,{A:=Nat×dd×dg×MH,st:=λ⟨i,gr,od,m⟩=>bU 37 40 [(0,pv cb),(4,.at (.ptr 4 0)),(6,.at (.ptr 6 0)),(9,iv s.len),(10,iv i)] [(4,.cells 68 ((v.enc.take 17).map .val++[.lst 19,.lst 30,.val (.int .i64 v.limit),.val (.slice v.args.a v.args.len v.args.cap)])),(6,.cells 68 (wI.enc.map .val)),(19,.lst 3 1 (gr.map eI)),(30,.lst 138 2 (od.map CI))] m h})] [] [] false
def au(n:ByteArray)(k:Int)(m:MH)(h:PH)(K:dc):Prop:=
  K (nS (qT n k)) m h
noncomputable abbrev vZ(a:Int):cv:=bH (cV 1) (cV a) (bH (cV 0) (cV 0) (lI (bH Cz (cV 0) (bH (cV 0) (cV 0) (bH (cV 0) Cz (Ko tE))))))
attribute [push_cast] vZ
def av(t:Int)(m:MH)(h:PH)(K:dc):Prop:=
  K (nS (vZ t)) m h
abbrev jH:Prop:=eP 6
abbrev G0(a:QV):Prop:=eQ (oQ 68 (cG (iN a.op) (wT a) (pQ a.where_ (cG (zO a) (fY a.on) (cG (At.lst 19) (At.lst 30) (fZ (DC a) (fY a.args)))))))
noncomputable abbrev yF(a:Nat×dd×dg×MH):List cv:=gI a.2.1
noncomputable abbrev uR(a:Nat×dd×dg×MH):List cv:=List.map CI a.2.2.1
abbrev JE(a:Nat×dd×dg×MH->Prop)(b:Nat×dd×dg×MH->Nat)(c:Nat×dd×dg×MH)(d:Nat)(e:Sl)(g:Prop)(i j:(Nat×dd×dg×MH)->Prop)(k:MH)(l:PH):Prop:=∃(x:Nat×dd×dg×MH),aA (a x) (b x<b c) (aA (bZ d) iC (aA jH (bI e) (aA (fJ (aW c.1 1)=bY x.1) g (aA iY (i x) (aA (j x) (k=x.2.2.2) (dH l l))))))
abbrev CO(a b:List cv):Prop:=Option.some (Own.lst 3 1 a)=Option.some (Own.lst 3 1 b)
attribute [push_cast] jH G0 yF uR JE CO
def V0(cb:Nat)(v:QV)(s:Sl)(m:MH)(h:PH)(K:dc):Prop:=
  ∃(I:Nat×dd×dg×MH->Prop)(o:Nat×dd×dg×MH->Nat),(∃(x:Nat×dd×dg×MH),aA (I x) (bZ cb) (aA (eP 4) jH (aA (bI s) (bE x.1) (aA (G0 v) iY (nO (uE (yF x)) (pE 138 2 (uR x)) (m=x.2.2.2) (h=h))))))/\∀(x:Nat×dd×dg×MH),I x->aY (↑x.1:Int) (aG s) (kT cb 3 x.2.2.2 h (λc r=>∀(f:MH),aR (aT x.2.2.2 f c) (aL f h c) (branch r (kX (yF x) 8 (kT cb 3 f h (λj t=>∀(e:MH),aR (aT f e j) (aL e h j) (branch t (kT cb 2 e h (λn u=>∀(g:MH),aR (aT e g n) (aL g h n) (kX (uR x) 16 (JE I o x cb s (G0 v) (λd=>uF (yF x) (↑x.1:Int) (yF d)) (λd=>Option.some (Own.lst 138 2 (eK
 (uR x) (zE (↑x.1:Int) (Value.bool u))))=Option.some (Own.lst 138 2 (uR d))) g h)))) (JE I o x cb s (G0 v) (λd=>uF (yF x) (↑x.1:Int) (yF d)) (λd=>Option.some (Own.lst 138 2 (uR x))=Option.some (Own.lst 138 2 (uR d))) e h))))) (kT cb 3 f h (λj t=>∀(e:MH),aR (aT f e j) (aL e h j) (branch t (kT cb 2 e h (λn u=>∀(g:MH),aR (aT e g n) (aL g h n) (kX (uR x) 16 (JE I o x cb s (G0 v) (λd=>CO (yF x) (yF d)) (λd=>Option.some (Own.lst 138 2 (eK (uR x) (zE (↑x.1:Int) (Value.bool u))))=Option.some (Own.lst 138 2 (uR d))) g h)))) (JE I o x cb s (G0 v) (λd=>CO (yF x) (yF d)) (λd=>Option.some (Own.lst 138 2 (uR x))=Option.some (Own.lst 138 2
 (uR d))) e h))))))) (fU cb 4 x.2.2.2 h (λk f=>bQ h 1 (gI x.2.1) (λy z=>bQ z 2 (uR x) (λA B=>K (nS (G5 v v (Hi v (bH (eF v.on) (eF y) (bH (eF A) (cV k) (aM v.args)))))) f B))))
theorem aw:cu 51 arJ:=by
 refine iB func51 ?_;rintro c m h K ⟨n,k,rfl,d⟩;refine⟨dD [] [] [] [] false,rfl,aF,au n k m h K,be,?_⟩;exact d
theorem af:cu 53 anZ:=by
 refine iB func53 ?_;rintro c m h K ⟨t,rfl,d⟩;refine⟨dD [] [] [] [] false,rfl,aF,av t m h K,be,?_⟩;exact d
theorem aCQ:cu 96 b0Z:=by
 refine iB func96 ?_;rintro J m h K ⟨cb,v,s,c,rfl,L,M,Y,O⟩;refine⟨bEQ cb v s h,rfl,aD FU (aD uU aF),V0 cb v s m h K,be,?_⟩;dsimp only[V0,push_cast];have P:=M.slen;refine⟨λ⟨i,gr,od,F⟩=>i<=c.length/\gr.length<=i/\od.length<=i/\aT m F cb/\aL F h cb,λ⟨i,_,_,_⟩=>c.length-i,⟨(0,[],[],m),⟨aC,bf,bf,.refl _ _,L⟩,MT⟩,?_⟩;rintro⟨i,gr,od,Z⟩ ⟨hi,hg,ho,n,G⟩;dsimp only;refine aE (λQ=>?_) (λR=>?_)
 .have fin:∀(f:dd)(g:dg) m',f.length<=i+1->g.length<=i+1->aT m m' cb->aL m' h cb->(i+1<=c.length/\f.length<=i+1/\g.length<=i+1/\aT m m' cb/\aL m' h cb):=λf g m' H B S T=>⟨aC,H,B,S,T⟩
  refine⟨cb,3,rfl,aC,aC,G,λr I j A=>aB (λ_=>⟨bj,bj,cb,3,rfl,aC,aC,A,λC o t u=>aB (λ_=>⟨cb,2,rfl,aC,aC,u,λy z D E=>⟨bj,bj,(i+1,gr++[(i:Int)],od++[((i:Int),y)],z),fin (gr++[(i:Int)]) (od++[((i:Int),y)]) z bj bj (((n.trans j).trans t).trans D) E,aC,?_⟩⟩) (λ_=>⟨(i+1,gr++[(i:Int)],od,o),fin (gr++[(i:Int)]) od o bj aC ((n.trans j).trans t) u,aC,?_⟩)⟩)
   (λ_=>⟨cb,3,rfl,aC,aC,A,λC o t u=>aB (λ_=>⟨cb,2,rfl,aC,aC,u,λy z D E=>⟨bj,bj,(i+1,gr,od++[((i:Int),y)],z),fin gr (od++[((i:Int),y)]) z aC bj (((n.trans j).trans t).trans D) E,aC,?_⟩⟩) (λ_=>⟨(i+1,gr,od,o),fin gr od o aC aC ((n.trans j).trans t) u,aC,MT⟩)⟩)⟩
  .simp only[cd];exact MT
  .simp only[cd];exact MT
  .simp only[cd];exact MT
 .refine⟨cb,4,rfl,G,λk I U k1 j A V H e W X B d C=>?_⟩;exact O V X k gr od I B (e.trans d) ⟨W.mono d,aC⟩ ⟨C,aC⟩ aC aC U aC (n.trans j) (A.mono (e.trans d))
def brX:Vc.Spec:=λc m h K=>∃cb s t a b,c=[cP cb,cS s,cS t]/\aL m h cb/\Ints h s a/\Ints h t b/\a.length<=1000/\b.length<=1000/\
 ∀o on m' h',PH.le h h'->lF h' o on->on.length<=10->aT m m' cb->aL m' h' cb->K (cS o) m' h'
noncomputable def f55_ctx(cb:Nat)(s t:Sl)(h:PH):Ctx:=
 dD [(13,FY)] [(3,{A:=Int×di×MH,st:=λ⟨n,on,m⟩=>bU 77 80 [(0,pv cb),(1,sv s),(2,sv t),(7,.at (.lst 75)),(8,iv n)] [(75,.lst 81 2 (on.map qP))] m h}),
  (8,{A:=Int×Nat×di×(Int×Int)×Bool×MH,st:=λ⟨n,i,on,p,f,m⟩=>bU 77 80 [(0,pv cb),(1,sv s),(2,sv t),(7,.at (.lst 75)),(8,iv n),(9,.at (.ptr 9 0)),(10,bv f),(49,.at (.lst 75)),(50,iv on.length),(51,iv i)] [(9,.cells 81 [.val (.int .i64 p.1),.val (.int .i64 p.2)]),(75,.lst 81 2 (on.map qP))] m h})] [] [] false
noncomputable abbrev BA(a:Int×di×MH):List cv:=List.map qP a.2.1
noncomputable abbrev Bz(a:Int×Nat×di×(Int×Int)×Bool×MH):Nat:=a.2.2.1.length
noncomputable abbrev yL(a:Int×Nat×di×(Int×Int)×Bool×MH):Int×Int:=a.2.2.2.1
noncomputable abbrev uO(a:Int×Nat×di×(Int×Int)×Bool×MH):List cv:=List.map qP a.2.2.1
noncomputable abbrev Ar(a:Int×Nat×di×(Int×Int)×Bool×MH):Nat->Option Obj:=a.2.2.2.2.2
noncomputable abbrev J0(a:Int×Nat×di×(Int×Int)×Bool×MH):Bool:=a.2.2.2.2.1
abbrev NL(a:en->Prop)(b:en->Nat)(c d:Nat)(e g:Sl)(i:Int×Nat×di×(Int×Int)×Bool×MH)(j:en->Int×Nat×di×(Int×Int)×Bool×MH)(k:en->Prop):Prop:=∃(x:Int×Nat×di×(Int×Int)×Bool×MH),aA (a x) (b x<c) (aA (bZ d) (aH e) (aA (aH g) (eL 75) (aA (bV i.1 (j x).1) (eP 9) (k x))))
attribute [push_cast] BA Bz yL uO Ar J0 NL
def ab(cb:Nat)(s t:Sl)(m:MH)(h:PH)(K:dc):Prop:=
  fU cb 3 m h (λk F=>∃(I:Int×di×MH->Prop)(n:Int×di×MH->Nat),(∃(x:Int×di×MH),aA (I x) (bZ cb) (aA (aH s) (aH t) (aA (eL 75) (bV k x.1) (aA (pE 81 2 (BA x)) (F=x.2.2) (dH h h)))))/\∀(x:Int×di×MH),I x->kK x.1 0 (kK (aG s) 0 (kK (aG t) 0 (fU cb (aG s) x.2.2 h (λu G=>fU cb (aG t) G h (λz A=>aA (dG 0) ((0:Int)<2) (bD (λb o=>aI (bF s.a b o) (0<=u) (u<aG s) (∃(y:Int),aI (aJ A h b (eM o u 1) (bG y)) ((0:Int)<=1) ((1:Int)<2) (bD (λC D=>aI (bF t.a C D) (0<=z) (z<aG t) (∃(E:Int),aJ A h C (eM D z 1) (bG E)/\∃(I1:Int×Nat×di×(Int×Int)×Bool×MH->Prop)(f:Int×Nat×List (Int×
 Int)×(Int×Int)×Bool×MH->Nat),(∃(c:Int×Nat×di×(Int×Int)×Bool×MH),aA (I1 c) (bZ cb) (aA (aH s) (aH t) (aA (eL 75) (bV x.1 c.1) (aA (eP 9) (fS (y==E) c.2.2.2.2.1) (aA (eL 75) (bP (BA x).length (Bz c)) (aA (bE c.2.1) (oQ 81 (fZ (iN u) (iN z))=v7 (yL c)) (cF (Option.some (Own.lst 81 2 (BA x))=Option.some (Own.lst 81 2 (uO c))) A (Ar c) h h)))))))/\∀(c:Int×Nat×di×(Int×Int)×Bool×MH),I1 c->aY (↑c.2.1:Int) (↑(Bz c):Int) (aA (sC c.2.1) ((↑c.2.1:Int)<oE (uO c)) (∃(e:cv),pW (uO c) (nL c.2.1) e/\∃(B:Int×Int),DA 2 0 e (As B)/\branch (J0 c) (aA (dG 0) ((0:Int)<2) (aA (dG 0) ((0:Int)<2) (nK B.1 (yL c).1 (aA
 (dG 1) ((1:Int)<2) (aA (dG 1) ((1:Int)<2) (NL (λd=>I1 d) (λd=>f d) (f c) cb s t c (λd=>d) (λd=>aA (fS (B.2 !=(yL c).2) d.2.2.2.2.1) (eL 75) (aA (bP (Bz c) (Bz d)) (fJ (aW c.2.1 1)=bY d.2.1) (aA (v7 (yL c)=v7 (yL d)) (Option.some (Own.lst 81 2 (uO c))=Option.some (Own.lst 81 2 (uO d))) (aA (Ar c=Ar d) (h=h) True))))))) (NL (λd=>I1 d) (λd=>f d) (f c) cb s t c (λd=>d) (λd=>aA (tK (J0 d)) (eL 75) (aA (bP (Bz c) (Bz d)) (fJ (aW c.2.1 1)=bY d.2.1) (aA (v7 (yL c)=v7 (yL d)) (Option.some (Own.lst 81 2 (uO c))=Option.some (Own.lst 81 2 (uO d))) (aA (Ar c=Ar d) (h=h) True)))))))) (NL (λd=>I1 d) (λd
 =>f d) (f c) cb s t c (λd=>d) (λd=>aA (tK (J0 d)) (eL 75) (aA (bP (Bz c) (Bz d)) (fJ (aW c.2.1 1)=bY d.2.1) (aA (v7 (yL c)=v7 (yL d)) (Option.some (Own.lst 81 2 (uO c))=Option.some (Own.lst 81 2 (uO d))) (aA (Ar c=Ar d) (h=h) True))))))) (branch (J0 c) (kX (uO c) 16 (∃(d:Int×di×MH),aA (I d) (n d<n x) (aA (bZ cb) (aH s) (aA (aH t) (eL 75) (aA (bV (eE (c.1-1)) d.1) (Option.some (Own.lst 81 2 (eK (uO c) (As (yL c))))=Option.some (Own.lst 81 2 (BA d))) (dP (Ar c) d.2.2 h h)))))) (∃(d:Int×di×MH),aA (I d) (n d<n x) (aA (bZ cb) (aH s) (aA (aH t) (eL 75) (aA (bV (eE (c.1-1)) d.1) (Option.some (Own.lst 81 2
 (uO c))=Option.some (Own.lst 81 2 (BA d))) (dP (Ar c) d.2.2 h h))))))))))))))) (bQ h 2 (BA x) (λg j=>K (mL g) x.2.2 j))) (bQ h 2 (BA x) (λg j=>K (mL g) x.2.2 j))) (bQ h 2 (BA x) (λg j=>K (mL g) x.2.2 j)))
theorem ax:cu 55 brX:=by
 refine iB func55 ?_;rintro L m h K ⟨cb,s,t,a,b,rfl,M,C,D,l1,l2,O⟩;refine⟨f55_ctx cb s t h,rfl,aD FU aF,ab cb s t m h K,be,?_⟩;dsimp only[ab,push_cast];have P:=C.slen;have Q:=D.slen;refine⟨cb,3,rfl,M,λk g E R d j=>⟨λ⟨n,on,A⟩=>0<=n/\n<=2/\(on.length:Int)<=2-n/\aT m A cb/\aL A h cb,λ⟨n,_,_⟩=>n.toNat,⟨(k,[],g),⟨E,aC,bj,d,j⟩,MT⟩,?_⟩⟩;clear E R d j g;rintro⟨n,on,g⟩ ⟨n0,n1,S,d,j⟩;dsimp only;have out:∀(e:Sl)(h':PH),PH.le h h'->bX h' e 2 (on.map qP)->K (.val (.slice e.a e.len e.cap)) g h':=λe h' o u=>O e on g h' o ⟨u,aC⟩ aC d (j.mono o);refine aE (λhn=>aE (λhp=>aE (λhq=>?_) (λ_=>out)) (λ_=>out)) (λ_=>out);refine⟨cb,s.len,rfl,j,λx m2 F x1 G T=>⟨cb,t.len,rfl,T,λy c H y1 I J=>?_⟩⟩;obtain⟨U,V,W,X⟩:=C.inb (n:=x) F aC;obtain⟨Y,Z,e2,r2⟩:=D.inb (n:=y) H aC;refine⟨aC,aC,U,V,W,F,aC,_,.imm X,aC,aC,Y,Z,e2,H,aC,_,.imm r2,?_⟩;refine⟨λ⟨n',i,B,p,f,A⟩=>n'=n/\B=on/\A=c/\i<=on.length,λ⟨_,i,_,_,_,_⟩=>on.length-i,⟨(n,0,on,(x,y),a.getD x.toNat 0==b.getD y.toNat 0,c),⟨rfl,rfl,rfl,aC⟩,?_⟩,?_⟩
 .rw[length_map];exact MT
 rintro⟨n,i,on,p,f,c⟩ ⟨rfl,rfl,rfl,hi⟩;dsimp only;refine aE (λa'=>?_) (λa0=>?_)
 .have hl:i<on.length:=by omega
  have z:(on.map qP)[i]? =some (qP on[i]):=bk
  refine⟨aC,bk,_,z,on[i],rfl,aB (λ_=>⟨aC,aC,aC,aC,aB (λ_=>⟨aC,aC,aC,aC,(n,i+1,on,p,_,c),⟨rfl,rfl,rfl,bo⟩,bm,MT⟩) (λ_=>⟨(n,i+1,on,p,_,c),⟨rfl,rfl,rfl,bo⟩,bm,MT⟩)⟩) (λ_=>⟨(n,i+1,on,p,_,c),⟨rfl,rfl,rfl,bo⟩,bm,MT⟩)⟩
 .have hw:IntKind.i64.wrap (n-1)=n-1:=dO aC aC;rw[hw];refine aB (λ_=>⟨bk,bk,(n-1,on++[p],c),⟨aC,aC,bj,(d.trans G).trans I,J⟩,aC,?_⟩) (λ_=>⟨(n-1,on,c),⟨aC,aC,bk,(d.trans G).trans I,J⟩,aC,MT⟩);rw[cd];exact MT
def cjX:Vc.Spec:=λd m h K=>∃s cs,∃c:Nat,d=[cS s,cI c]/\bX h s 1 (cC cs)/\s.len<=s.cap/\c<=1000/\∀cb m' h',PH.le h h'->m cb=none->aT m m' cb->aL m' h' cb->K (cP cb) m' h'
abbrev vE(a b:Prop)(c:(List cv)->Prop):Prop:=aA a b (∃(x:List cv),c x)
abbrev uN(a:Int)(b:Sl):Prop:=a<=(↑b.cap:Int)
attribute [push_cast] vE uN
def agJ(s:Sl)(c:Nat)(m:MH)(h:PH)(K:dc):Prop:=
  vE (dG (ite ((↑c:Int)<aG s) (↑c:Int) (aG s))) (uN (ite ((↑c:Int)<aG s) (↑c:Int) (aG s)) s) (λy=>aA (dQ 1 y) (oW m h (Sl.mk s.a (ite ((↑c:Int)<aG s) (↑c:Int) (aG s)).toNat s.cap) 1 y) (aA (cW (y.length*1)) (cW y.length) (bQ h 1 y (λf d=>∀(b:Nat)(e:MH),aR (dL m d b) (cL m e b (Cb f 0) 88) (K (F1 b 0) e d)))))
theorem Jj(l:dp):dQ 1 (cC l):=by
 constructor
 .intro e c;obtain⟨x,_,rfl⟩:=mem_map.1 c;rfl
 .intro e c u d;obtain⟨x,_,rfl⟩:=mem_map.1 c;simp at d;subst d;rfl
theorem bX.cut{s:Sl}(r:bX h s sz xs)(n:Nat)(c:n<=xs.length):bX h ⟨s.a,n,s.cap⟩ sz (xs.take n):=by
 refine⟨bj,?_,by have d:=r.len;have f:=r.cap;grind⟩;rcases r.row with e|⟨b,o,g,k⟩
 .grind
 grind
theorem a5X:cu 7 cjX:=by
 refine iB func7 ?_;rintro o m h K ⟨s,cs,c,rfl,j,z,A,t⟩;refine⟨rT [] [] [] [] [88] [] false,rfl,aF,agJ s c m h K,be,?_⟩;have B:s.len=cs.length:=by have:=j.len;simpa[cC]using this
 dsimp only[agJ,push_cast];have d:(if(c:Int)<(s.len:Int)then(c:Int)else(s.len:Int))=((min c s.len:Nat):Int):=by omega
 rw[d];have e:=bX.cut j (min c s.len) (by simp[cC];omega);refine⟨aC,aC,cC (cs.take (min c s.len)),Jj _,.imm ?_,by simp[cC];omega,by simp[cC];omega,λu h' g f b m' y n=>?_⟩
 .rw[show cC (cs.take (min c s.len))=(cC cs).take (min c s.len)by simp[cC,map_take]];exact e
 .exact t b m' h' g y.m_ ⟨n.other⟩ ⟨_,⟨⟨u,_,0,n.at_,f,aC,bj,rfl⟩⟩⟩
def b2X:Vc.Spec:=λc m h K=>∃n:Nat,c=[.val (.slice none 0 0),cI n]/\n<=1000/\K (.lst 3 1 []) m h
noncomputable def baJ(c:Sl)(m:MH)(h:PH):Ctx:=
 dD [(218,b2X)] [(3,{A:=Nat×Nat,st:=λ⟨i,n⟩=>bU 36 37 [(0,sv c),(3,iv n),(9,sv c),(10,iv c.len),(11,iv i)] [] m h}),
  (11,{A:=Nat×dd,st:=λ⟨i,l⟩=>bU 36 37 [(6,.at (.lst 24)),(25,sv c),(26,iv c.len),(27,iv i)] [(24,.lst 3 1 (l.map eI))] m h})] [] [] false
abbrev Kp(a:Int):Prop:=a<=140737488355328
attribute [push_cast] Kp
def RL(n:Nat)(m:MH)(h:PH)(K:dc):Prop:=
  kK (eE ((↑n:Int)-eE ((0:Int)-0))) 0 (aA (dG 0) (dG 0) (aA (0<eE ((↑n:Int)-0)) (Kp (eE ((↑n:Int)-0)*8)) (aI (Kp (eE ((↑n:Int)-0))) ((0:Int)<=0) (dG (oE (replicate (eE ((↑n:Int)-0)).toNat (bG 0)))) (K (CV.lst 3 1 []) m h)))) (K (CV.lst 3 1 []) m h)
abbrev NS(a:(Nat×Nat->Prop)->(Nat×Nat)->Prop)(b:(Nat×Nat->Prop)->(Nat×Nat->Nat)->(Nat×Nat)->Prop):Prop:=∃(x:Nat×Nat->Prop)(d:Nat×Nat->Nat),(∃(c:Nat×Nat),a x c)/\∀(c:Nat×Nat),b x d c
attribute [push_cast] NS
def RV(d:Sl)(m:MH)(h:PH)(K:dc):Prop:=
  NS (λI x=>aA (I x) (aH d) (aA (bE x.2) (aH d) (aA (bI d) (bE x.1) (aA (m=m) (h=h) True)))) (λI g x=>I x->aY (↑x.1:Int) (aG d) (dN d.a (↑x.1:Int) d (λb o y=>aJ m h b (bB o x.1 1) (aM y)/\aY (aW x.2 (aG y)) 0 False (∃(c:Nat×Nat),aA (I c) (g c<g x) (aA (aH d) (fJ (aW x.2 (aG y))=bY c.2) (aA (aH d) (bI d) (aA (fJ (aW x.1 1)=bY c.1) (m=m) (dH h h))))))) (∃(n:Nat),aA (cO CE (↑x.2:Int)=cO CE (↑n:Int)) (jV n) (∃(I1:Nat×dd->Prop)(j:Nat×dd->Nat),(∃(c:Nat×dd),aA (I1 c) (eL 24) (aA (aH d) (bI d) (aA (bE c.1) (uE (gI c.2)) (aA (m=m) (h=h) True))))/\∀(c:Nat×dd),I1 c->aY (↑c.1:Int) (aG d) (dN d.a (↑c.1:Int) d (λb o y
 =>aJ m h b (bB o c.1 1) (aM y)/\∃(e:List cv),aA (dQ 1 e) (bX h (cH y) 1 e) (aA (u6 (gI c.2) e 8) (cW (u7 (gI c.2) e)) (∃(f:Nat×dd),aA (I1 f) (j f<j c) (aA (eL 24) (aH d) (aA (bI d) (fJ (aW c.1 1)=bY f.1) (aA (CO (gI c.2++e) (gI f.2)) (m=m) (dH h h)))))))) (bQ h 1 (gI c.2) (λs t=>K (mL s) m t)))))
theorem YA:cu 218 b2X:=by
 refine iB func218 ?_;rintro d m h K ⟨n,rfl,f,c⟩;refine⟨dD [] [] [] [] true,rfl,aF,RL n m h K,be,?_⟩;dsimp only[RL,push_cast];have e:IntKind.i64.wrap ((n:Int)-0)=n:=by rw[dO aC aC];omega
 have g:IntKind.i64.wrap ((n:Int)-IntKind.i64.wrap (0-0))=n:=by rw[show IntKind.i64.wrap (0-0)=0 from by rw[dO aC aC];rfl,e]
 exact aE (λj=>⟨aC,aC,aC,aC,aC,aC,aC,c⟩) (λ_=>c)
def A1(ks:List dd):Nat:=(ks.map List.length).sum
theorem MJ{k:dd}(c:ks[i]? =some k):A1 (ks.take (i+1))=A1 (ks.take i)+k.length:=by
 unfold A1;rw[cj,c];simp
theorem Lk{ks:List dd}(h:∀k∈ks,k.length<=12):∀i,A1 (ks.take i)<=12*i
 |0=>by simp[A1]
 |i+1=>by
  have c:=Lk h i;cases e:ks[i]? with
  |none=>rw[cj,e];grind
  |some k=>rw[MJ e];grind
theorem YK:cu 193 Om:=by
 refine iB func193 ?_;rintro F m h K ⟨B,ks,rfl,y,M,d,G⟩;refine⟨baJ B m h,rfl,aD YA aF,RV B m h K,be,?_⟩;dsimp only[RV,push_cast];have j:=bC.slen y;refine⟨λ⟨i,n⟩=>i<=ks.length/\n=A1 (ks.take i),λ⟨i,_⟩=>ks.length-i,⟨(0,0),⟨aC,by simp[A1]⟩,MT⟩,?_⟩;rintro⟨i,n⟩ ⟨C,rfl⟩;dsimp only;have H:=Lk d i;refine aE (λc=>?_) (λt=>?_)
 .obtain⟨k,e⟩:=eO j c;obtain⟨b,o,g,z,r,f⟩:=bC.at y e;have I:=f.slen;have u:=d k (bx e)
  have J:IntKind.i64.wrap ((A1 (ks.take i):Int)+(g.len:Int))=((A1 (ks.take (i+1)):Nat):Int):=by
   rw[MJ e,dO aC aC];omega
  refine⟨b,o,z,aC,c,g,.imm r,?_⟩;rw[J];exact aE (λD=>by omega) (λ_=>⟨(i+1,A1 (ks.take (i+1))),⟨aC,rfl⟩,aC,MT⟩)
 .refine⟨A1 (ks.take i),rfl,aC,?_⟩;refine⟨λ⟨i,l⟩=>i<=ks.length/\l=(ks.take i).flatten,λ⟨i,_⟩=>ks.length-i,⟨(0,[]),⟨aC,bf⟩,MT⟩,?_⟩;clear H t C;rintro⟨i,l⟩ ⟨C,rfl⟩;dsimp only;have L:(ks.take i).flatten.length<=12*i:=by have:=Lk d i;simpa[A1,length_flatten]using this
  refine aE (λc=>?_) (λt g h' A E=>G g h' A ⟨?_,?_⟩)
  .obtain⟨k,e⟩:=eO j c;obtain⟨b,o,g,z,r,f⟩:=bC.at y e;have u:=d k (bx e);refine⟨b,o,z,aC,c,g,.imm r,k.map eI,CJ k,f.row,?_,?_,(i+1,(ks.take (i+1)).flatten),⟨aC,rfl⟩,aC,?_⟩
   .grind
   .grind
   .rw[cj,e,Option.toList_some,flatten_append,cd,flatten_cons,flatten_nil,append_nil];exact MT
  .grind
  grind
theorem Zx:∀N,cu 112 (BW N):=WX YK
mutual
def xB:Query->Nat->Int->Bool×Int
 |.mk _ _ _ _ _ _ _ _ args,k,n=>if 24<n+1\/k=0 then(false,0)else FG args (k-1) (n+1)
def FG:dl->Nat->Int->Bool×Int
 |[],_,n=>(true,n)
 |q::qs,k,n=>match xB q k n with|(false,_)=>(false,0)|(true,c)=>FG qs k c
end
mutual
def szQ:Query->Int
 |.mk _ _ _ _ _ _ _ _ args=>1+Ja args
def Ja:dl->Int
 |[]=>0
 |p::ps=>szQ p+Ja ps
end
mutual
theorem Tm:∀p:Query,1<=szQ p
 |.mk _ _ _ _ _ _ _ _ args=>by have:=F4 args;simp only[szQ];omega
theorem F4:∀ps:dl,0<=Ja ps
 |[]=>by simp[Ja]
 |p::ps=>by have:=Tm p;have:=F4 ps;simp only[Ja];omega
end
mutual
theorem Rc:∀(p:Query)(n:Int),n<=24->(n+szQ p<=24->nD p n=n+szQ p)/\(24<n+szQ p->nD p n=25)
 |.mk _ _ _ _ _ _ _ _ args,n,h=>by
  obtain⟨c,d⟩:=OW args (n+1) aC;simp only[nD,szQ];omega
theorem OW:∀(ps:dl)(n:Int),n<=25->(n+Ja ps<=24->jZ ps n=n+Ja ps)/\(24<n+Ja ps->jZ ps n=25)
 |[],n,h=>by
  simp only[jZ,Ja];omega
 |p::ps,n,h=>by
  have e:=Tm p;have f:=F4 ps;simp only[jZ,Ja];by_cases c:n<=24
  .rw[if_pos c];have g:=Rc p n c;have d:=(En p n c).2;have j:=OW ps _ d;omega
  omega
end
mutual
theorem Te:∀(p:Query)(k:Nat)(n:Int),n<=24->((xB p k n).1=true↔n+szQ p<=24/\oV p k=false)/\((xB p k n).1=true->(xB p k n).2=n+szQ p)
 |.mk _ _ _ _ _ _ _ _ args,k,n,h=>by
  have f:=F4 args;simp only[xB,szQ];by_cases c:24<n+1\/k=0
  .rw[if_pos c];refine⟨⟨λe=>(by cases e),λe=>?_⟩,λe=>(by cases e)⟩;rcases c with c|c
   .omega
   .subst c;simp[oV]at e
  .rw[if_neg c];obtain⟨d,rfl⟩:∃d,k=d+1:=⟨k-1,aC⟩
   obtain⟨g,j⟩:=UK args d (n+1) aC;simp only[oV,Nat.add_sub_cancel]
   grind
theorem UK:∀(ps:dl)(k:Nat)(n:Int),n<=24->((FG ps k n).1=true↔n+Ja ps<=24/\tO ps k=false)/\((FG ps k n).1=true->(FG ps k n).2=n+Ja ps)
 |[],k,n,h=>by simp[FG,Ja,tO,h]
 |p::ps,k,n,h=>by
  obtain⟨c,d⟩:=Te p k n h;have j:=F4 ps;simp only[FG,Ja,tO];cases e:xB p k n with
  |mk r f=>
   rw[e]at c d;cases r with
   |false=>
    grind
   |true=>
    have g:=d rfl;have c:=c.1 rfl;simp only at g;obtain⟨o,t⟩:=UK ps k f aC
    grind
end
theorem QT(q:Query):(xB q 8 0).1=wK q:=by
 have c:=(Te q 8 0 aC).1;have d:=Rc q 0 aC;rw[Bool.eq_iff_iff,c];simp only[wK,cg,cm,Bool.not_eq_true']
 grind
def Jn:Code->Option (Code×Code)
 |.rangeFunc _ _ a b=>some (a,b)
 |.seq x y=>match Jn x with|some p=>some p|none=>Jn y
 |.block _ c=>Jn c
 |_=>none
noncomputable def rfA:Code:=match Jn (cK Tryz.f68)with|some p=>p.1|none=>.skip
noncomputable def rfB:Code:=match Jn (cK Tryz.f68)with|some p=>p.2|none=>.skip
structure LR where
 fn:FuncId
 tmps:Array Value
 bn:Nat
 b6:Nat
 b7:Nat
 D:Nat
noncomputable def qK(R:LR)(st:LoopState)(c:Option Code):Loop:={state:=st,pending:=c,fn:=R.fn,tmps:=R.tmps,params:= #[37,38],assign:=rfA,body:=rfB,defers:=R.D}
def Ii:Obj:=.cells #[.slice none 0 0] 31 (0,0)
def GB(n:Int):Obj:=.cells #[.int .i64 n] 47 (0,0)
structure z8(m:MH)(l:Nat)(R:LR)(n:Int):Prop where
 loop:m l=some (.loop (qK R .ready none))
 n_:m R.bn=some (tP n)
 k_:m R.b6=some Ii
 e_:m R.b7=some (GB 0)
 size:R.tmps.size=53
 t11:R.tmps[11]? =some (.pointer (some ⟨R.bn,0,none⟩))
 t6:R.tmps[6]? =some (.pointer (some ⟨R.b6,0,none⟩))
 t7:R.tmps[7]? =some (.pointer (some ⟨R.b7,0,none⟩))
structure AJ(m m':MH)(l:Nat)(R:LR):Prop where
 loop:m' l=some (.loop (qK R .done (some .ret)))
 k_:m' R.b6=some Ii
 e_:m' R.b7=some (GB 2)
 n_:∃x,m' R.bn=some x
 other:∀b,b≠l->b≠R.bn->b≠R.b6->b≠R.b7->m' b=m b
theorem z8.ne{l:Nat}{R:LR}{n:Int}(x:z8 m l R n):l≠R.bn/\l≠R.b6/\l≠R.b7/\R.b6≠R.bn/\R.b7≠R.bn/\R.b6≠R.b7:=by
 have c:=x.loop;have g:=x.n_;have d:=x.k_;have f:=x.e_;refine⟨λe=>?_,λe=>?_,λe=>?_,λe=>?_,λe=>?_,λe=>?_⟩
 .rw[e,g]at c;cases c
 .rw[e,d]at c;cases c
 .rw[e,f]at c;cases c
 .rw[e,g]at d;cases d
 .rw[e,g]at f;cases f
 .rw[e,f]at d;cases d
theorem z8.next{l:Nat}{R:LR}{n d:Int}(x:z8 m l R n)(c:gR m m' R.bn (tP d)):z8 m' l R d:=by
 obtain⟨e,j,o,f,g,t⟩:=x.ne;exact⟨by rw[c.other l e];exact x.loop,c.at_,by rw[c.other _ f];exact x.k_,by rw[c.other _ g];exact x.e_,x.size,x.t11,x.t6,x.t7⟩
theorem AJ.from{c:MH}{l:Nat}{R:LR}{e:Int}(f:gR m c R.bn (tP e))(h:AJ c m' l R):AJ m m' l R:=
 ⟨h.loop,h.k_,h.e_,h.n_,λb g d j n=>(h.other b g d j n).trans (f.other b d)⟩
def yv(l:Nat):CV:=.val (.func (.yield l) #[] #[])
def YS:Vc.Spec:=λd m h K=>∃l c v R n,d=[yv l,cI c,aQ v]/\z8 m l R n/\0<=n/\n<=24/\
 (∀m',(24<n+1\/8<c)->AJ m m' l R->K (cB false) m' h)/\(∀m',¬(24<n+1\/8<c)->gR m m' R.bn (tP (n+1))->K (cB true) m' h)
def ZX(N:Nat):Vc.Spec:=λc m h K=>∃v q,∃k l:Nat,∃R n,c=[aQ v,cI (9-k),yv l]/\dR h q v/\SizeOf.sizeOf q<N/\k<=9/\z8 m l R n/\0<=n/\n<=24/\
 (∀m',(xB q k n).1=false->AJ m m' l R->K (cB false) m' h)/\(∀m',(xB q k n).1=true->gR m m' R.bn (tP (xB q k n).2)->K (cB true) m' h)
def ZQ(b:Nat):CV:=.val (.pointer (some ⟨b,0,none⟩))
def ciZ:Vc.Spec:=λc m h K=>∃v q l d R,c=[yv l,ZQ d]/\m d=some (.cells ⟨v.enc⟩ 68 (0,0))/\dR h q v/\z8 m l R 0/\
 (∀m',(xB q 8 0).1=false->AJ m m' l R->K (.tup []) m' h)/\(∀m',(xB q 8 0).1=true->gR m m' R.bn (tP (xB q 8 0).2)->K (.tup []) m' h)
def S4:Vc.Spec:=λc m h K=>∃v,c=[aQ v]/\∀b m',dL m h b->gR m m' b (.cells ⟨v.enc⟩ 68 (0,0))->K (.val (.func (.func 147) #[] #[.pointer (some ⟨b,0,none⟩)])) m' h
noncomputable def bdZ(N:Nat)(v:QV)(k l:Nat)(h:PH):Ctx:=
 {dD [(148,ZX N)] [(4,{A:=Nat×MH,st:=λ⟨i,m⟩=>bU 28 31 [(1,iv (9-k)),(2,vv (.func (.yield l) #[] #[])),(15,sv v.args),(16,iv v.args.len),(17,iv i)] [] m h})] [] [] false with yield:=some YS}
abbrev N8(a:du->MH->PH->dc->Prop):Prop:=Mw Proofs.Tryz.prog a
noncomputable abbrev Db(a:Nat):CV:=CV.val (Value.func (Fn.yield a) uX uX)
abbrev Fi(a:Nat):Prop:=eQ (De (Fn.yield a) uX)
noncomputable abbrev BE(a:QV)(b:Int)(c:Nat):du:=cE a.enc (fT b (Db c))
attribute [push_cast] N8 Db Fi BE
def R5(N:Nat)(v:QV)(k l:Nat)(m:MH)(h:PH)(K:dc):Prop:=
  N8 YS/\Jw (λj t=>∃(B:QV)(R:LR)(n:Int),aA (Db l::fT (uB k) (eH v)=Db j::fT t (eH B)) (z8 m j R n) (aA (dG n) (n<=24) ((∀(d:MH),aR (24<n+1\/8<t) (AJ m d j R) (K aZ d h))/\∀(d:MH),aR (jS (24<n+1\/8<t)) (cL m d R.bn (bG (n+1)) 3) (∃(I:Nat×MH->Prop)(z:Nat×MH->Nat),(∃(x:Nat×MH),aA (I x) (bL (uB k)) (aA (Fi l) (aH v.args) (aA (uT v) (bE x.1) (aA (d=x.2) (h=h) True))))/\∀(x:Nat×MH),I x->aY (↑x.1:Int) (aG v.args) (bD (λb o=>aI (bF v.args.a b o) (0<=(↑x.1:Int)) ((↑x.1:Int)<aG v.args) (∃(y:QV),aJ x.2 h b (bB o x.1 21) y.enc/\sG (λA q=>bD (λe u=>∃(R1:LR)(c:Int),aA (BE y (eE (uB k+1)) l=BE A
 (uB e) u) (dR h q A) (aA (sD q N) (e<=9) (aA (z8 x.2 u R1 c) (dG c) (aA (c<=24) (∀(f:MH),aR ((xB q e c).1=false) (AJ x.2 f u R1) (K aZ f h)) (∀(f:MH),aR (gO (xB q e c).1) (cL x.2 f R1.bn (bG (xB q e c).2) 3) (∃(g:Nat×MH),aA (I g) (z g<z x) (aA (bL (uB k)) (Fi l) (aA (aH v.args) (bI v.args) (aA (fJ (aW x.1 1)=bY g.1) (f=g.2) (dH h h)))))))))))))) (K fB x.2 h)))))
noncomputable abbrev A3:CV:=CV.tup []
attribute [push_cast] A3
def aPZ(N:Nat)(l e:Nat)(m:MH)(h:PH)(K:dc):Prop:=
  ∃(y:QV),aJ m h e 0 y.enc/\sG (λv q=>bD (λk d=>∃(R:LR)(n:Int),aA (BE y 1 l=BE v (uB k) d) (dR h q v) (aA (sD q N) (k<=9) (aA (z8 m d R n) (dG n) (aA (n<=24) (∀(c:MH),aR ((xB q k n).1=false) (AJ m c d R) (K A3 c h)) (∀(c:MH),aR (gO (xB q k n).1) (cL m c R.bn (bG (xB q k n).2) 3) (K A3 c h)))))))
noncomputable abbrev Eu(a:Nat):Array Value:=Array.mk (mI (vQp a 0))
attribute [push_cast] Eu
def Mh(v:QV)(m:MH)(h:PH)(K:dc):Prop:=
  ∀(b:Nat)(c:MH),aR (dL m h b) (cL m c b v.enc 68) (K (qU 147 (Eu b)) c h)
theorem WK(T:Mw Tryz.prog YS):∀N,cu 148 (ZX N)
 |0=>by
  refine eR (fn:=Tryz.f148) (c:=cK Tryz.f148) func148 rfl bg ?_;rintro G m h K ⟨v,q,k,l,R,n,rfl,_,V,_⟩;omega
 |N+1=>by
  refine iB func148 ?_;rintro G m h K ⟨v,q,k,l,R,n,rfl,W,V,hk,U,X,Y,H,I⟩;refine⟨bdZ N v k l h,rfl,aD (WK T N) aF,R5 N v k l m h K,be,?_⟩;dsimp only[R5,push_cast];have d:=W.args;have z:=d.slen;have hl:=d.len;refine⟨T,l,9-k,v,R,n,rfl,U,X,Y,λm' J t=>H m' ?_ t,λm' J Z=>?_⟩
  .cases q;simp only[xB];grind
  have J:¬(24<n+1\/8<9-(k:Int)):=J;have L:gR m m' R.bn (tP (n+1)):=Z;have hv:xB q k n=FG q.args (k-1) (n+1):=by cases q;simp only[xB,Query.args];grind
  rw[hv]at H I;refine⟨λ⟨i,E⟩=>∃g,i<=q.args.length/\0<=g/\g<=24/\gR m E R.bn (tP g)/\FG (q.args.drop i) (k-1) g=FG q.args (k-1) (n+1),λ⟨i,_⟩=>q.args.length-i,⟨(0,m'),⟨n+1,aC,aC,aC,L,bf⟩,MT⟩,?_⟩;rintro⟨i,E⟩ ⟨g,hi,M,A,j,B⟩;dsimp only;refine aE (λC=>?_) (λa'=>?_)
  .obtain⟨p,O⟩:=eO z C;obtain⟨b,o,u,ea,P,Q⟩:=d.at O;have hd:=drop_cons O;rw[hd,FG]at B;refine⟨b,o,ea,aC,C,u,.imm P,u,p,k-1,l,R,g,?_,Q,?_,aC,U.next j,M,A,λF y t=>?_,λF y S=>?_⟩
   .rw[dO aC aC,show(9-((k-1:Nat):Int))=9-(k:Int)+1 by omega]
   .have:=B9 (bx O);omega
   .refine H F ?_ (t.from j)
    grind
   .have f:gR E F R.bn (tP (xB p (k-1) g).2):=S;have t:=Te p (k-1) g A;have a0:=t.1.1 y;have D:=t.2 y;have a1:=Tm p;cases e:xB p (k-1) g with
    |mk r x=>
     rw[e]at y B D f;simp only at y D f;subst y;exact⟨(i+1,F),⟨x,aC,aC,aC,j.trans f,B⟩,aC,MT⟩
  .rw[drop_of_length_le aC,FG]at B;rw[<-B]at I;exact I E rfl j
theorem Zi(c:Mw Tryz.prog YS):cu 147 ciZ:=by
 refine iB func147 ?_;rintro d m h K ⟨v,q,l,e,R,rfl,f,g,j,n,o⟩;refine⟨dD [(148,ZX (SizeOf.sizeOf q+1))] [] [] [] false,rfl,aD (WK c _) aF,aPZ (SizeOf.sizeOf q+1) l e m h K,be,?_⟩;exact⟨v,.of_m f rfl,v,q,8,l,R,0,rfl,g,aC,aC,j,aC,aC,n,o⟩
theorem Zy:cu 111 S4:=by
 refine iB func111 ?_;rintro c m h K ⟨v,rfl,d⟩;refine⟨dD [] [] [] [] false,rfl,aF,Mh v m h K,be,?_⟩;exact d
end Go.Ps
