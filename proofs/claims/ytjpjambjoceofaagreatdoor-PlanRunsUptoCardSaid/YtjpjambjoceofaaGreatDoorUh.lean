/- Own work. -/
import Derived.Test.YtjpjambjoceofaaGreatDoorUg
set_option linter.unusedVariables false
set_option linter.unusedSimpArgs false
namespace Go.Ps
open Go Go.Vc Go.Proofs List Tryz
variable{K:dk}{m:MH}{h:PH}{s:lL}{ps:dl}{ts:dv}{cb:Nat}{sc:bX}{v:QV}{q:Query}{t:Step}{p:Pred}{l:dl}{i:Nat}{N:Nat}{m':MH}{h':PH}{co:dl}{gr:dl}{od:dr}{w:Pred}{ta:Int}{li:Int}{xs:List dj}{sz:Nat}{k:Nat}{ks:List dl}{rs:dl}{r:Sl}{a:dl}{b:Nat}
def oI(a:Int)(n:Bool)(e:Int):Bool:=if n=true then decide (0<=a)&&decide (a<e)else a==0
def bNQ:Vc.Spec:=λc m h K=>∃a n e,c=[cI a,cB n,cI e]/\K (cB (oI a n e)) m h
def bFX:Vc.Spec:=λc m h K=>∃v p,c=[aP v]/\dX h p v/\∀r:Bool,(r=true↔p=gM)->K (cB r) m h
def XK:Vc.Spec:=λc m h K=>∃v t,c=[aT v]/\kW h t v/\∀r:Bool,(r=true↔dU t.query)->K (cB r) m h
noncomputable def buX(v:gA)(m:MH)(h:PH):Ctx:=
 cT [(221,bFX)] [] ([3,5,7,9].map λk=>(k,{A:=Unit,st:=λ_=>bO 66 67 [(1,.at (.ptr 1 0))] [(1,.cells 123 (v.enc.map .val))] m h})) [] false
def Tj(op:Int)(m:MH)(h:PH)(K:dk):Prop:=
  cO (op==1) (K (fN 0) m h) (op==2) (K (fN 1) m h) (cO (op==3) (K (fN 1) m h) (op==9) (K (fN 1) m h) (cO (op==4) (K (fN 2) m h) (op==5) (K (fN 2) m h) (cO (op==6) (K (fN 2) m h) (op==7) (K (fN 2) m h) (cO (op==8) (K (fN 2) m h) (op==10) (K (fN 2) m h) (K (fN (Int.negSucc 0)) m h)))))
def Ti(a:Int)(n:Bool)(e:Int)(m:MH)(h:PH)(K:dk):Prop:=
  branch n (eK a 0 (K (vD (decide (a<e))) m h) (K aX m h)) (K (vD (a==0)) m h)
def Sy(v:PV)(m:MH)(h:PH)(K:dk):Prop:=
  dD v.op 0 (dD v.cmp 0 (∃(r:Bool),hZ (E6 (uE v) r) r (∃(c:Bool),hZ (E6 (sZ v) c) c (K (vD (mG v==0)) m h) (K aX m h)) (K aX m h)) (K aX m h)) (K aX m h)
noncomputable abbrev Kw(a:Int):VV:=VV.mk a a (ByteArray.mk (Array.mk []))
attribute [push_cast] Kw
def Th(v:gA)(m:MH)(h:PH)(K:dk):Prop:=
  ∃(I:Unit->Prop),cK v.op 1 (cK v.table 0 (K aX m h) (∃(x:Unit),aA (I x) dW (aA (kF v) (m=m) (bR h h)))) (∃(x:Unit),aA (I x) dW (aA (kF v) (m=m) (bR h h)))/\∀(x:Unit),I x->∃(I1:Unit->Prop),cK v.op 2 (qA (λf p=>sX v.where_.enc f.enc (dX h p f) (∀(r:Bool),eT (eZ r↔p=Pred.mk 0 0 (OV.mk 0 0 (Kw 0)) (OV.mk 0 0 (Kw 0)) []) (!r) (K aX m h) (∃(d:Unit),aA (I1 d) dW (aA (kF v) (m=m) (bR h h)))))) (∃(d:Unit),aA (I1 d) dW (aA (kF v) (m=m) (bR h h)))/\∀(d:Unit),I1 d->∃(I2:Unit->Prop),cK v.op 3 (fA (aF v.columns) 0 (K aX m h) (∃(e:Unit),aA (I2 e) dW (aA (kF v) (m=m) (bR h h)))) (∃(e:Unit),aA (I2 e) dW (aA (kF v) (m=m) (bR h h)))/\∀(e:Unit),I2 e->∃(I3:
 Unit->Prop),cK v.op 4 (cK v.op 5 (fA (aF v.on) 0 (K aX m h) (∃(c:Unit),aA (I3 c) dW (aA (kF v) (m=m) (bR h h)))) (∃(c:Unit),aA (I3 c) dW (aA (kF v) (m=m) (bR h h)))) (∃(c:Unit),aA (I3 c) dW (aA (kF v) (m=m) (bR h h)))/\∀(c:Unit),I3 c->cK v.op 9 (cK v.op 10 (dD (aF v.group) 0 (dD (aF v.order) 0 (K (vD (v.limit==0)) m h) (K aX m h)) (K aX m h)) (K dR m h)) (K dR m h)
theorem ZQ:di 157 MP:=by
 refine fU func157 ?_;rintro d m h K ⟨op,rfl,c⟩;refine⟨cT [] [] [] [] false,rfl,aG,Tj op m h K,bu,?_⟩;dsimp only[Tj,push_cast]
 repeat' (first|(refine aB (λ_=>?_) (λ_=>?_))|(refine A0 c ?_;simp only[arity];simp only[*,Bool.or_false,Bool.false_or,Bool.or_true,Bool.true_or,Bool.and_true,Bool.true_and,Bool.and_false,Bool.false_and,Bool.not_true,Bool.not_false,Bool.false_eq_true,if_true,if_false, ↓reduceIte];done)|(refine A0 c ?_;simp only[arity];grind))
theorem ZP:di 158 bNQ:=by
 refine fU func158 ?_;rintro f m h K ⟨a,n,e,rfl,c⟩;refine⟨cT [] [] [] [] false,rfl,aG,Ti a n e m h K,bu,?_⟩;dsimp only[Ti,push_cast];unfold oI at c;refine aB (λd=>?_) (λd=>?_)
 .rw[if_pos d]at c;refine aD (λg=>jB c ?_) (λg=>jB c ?_)
  .grind
  grind
 .rw[if_neg (by simp[d])]at c;exact jB c rfl
theorem Zd:di 221 bFX:=by
 refine fU func221 ?_;rintro g m h K ⟨v,p,rfl,j,d⟩;refine⟨cT [] [] [] [] false,rfl,aG,Sy v m h K,bu,?_⟩;dsimp only[Sy,push_cast];obtain⟨op,n,l,r,args⟩:=p;obtain⟨rfl,rfl,rfl,rfl,o⟩:=j.parts;have u:=KS o.slen;have bad:¬(Pred.mk v.op v.cmp v.left v.right args=gM)->K (.val (.bool false)) m h:=λx=>d false ⟨λe=>(by cases e),λe=>(x e).elim⟩;simp only[gM,Pred.mk.injEq]at d bad;refine aB (λy=>aB (λz=>⟨_,AW v.left dG,aB (λc=>⟨_,AW v.right dG,aB (λf=>d _ ?_) (λf=>bad ?_)⟩) (λc=>bad ?_)⟩) (λz=>bad ?_)) (λy=>bad ?_)
 .rw[u];exact⟨λe=>⟨cg,cg,rB.1 c,rB.1 f,e⟩,λe=>e.2.2.2.2⟩
 .grind
 .intro e;rw[rB.2 e.2.2.1]at c;cases c
 .grind
 grind
theorem ZO:di 159 XK:=by
 refine fU func159 ?_;rintro J m h K ⟨v,t,rfl,x,g⟩;refine⟨buX v m h,rfl,aE Zd aG,Th v m h K,bu,?_⟩;dsimp only[Th,push_cast];obtain⟨op,ta,w,co,on,gr,od,li,le,R⟩:=t;obtain⟨u,y,z,A,B,C,xs,D,_,_⟩:=x;simp only at u y z A B C xs D;have S:=KS A.slen;have T:=KS B.slen;have U:=KS C.slen;have V:=KS xs.slen;simp only[Step.query,dU]at g;subst u y D;have bad:∀{P:Prop},¬P->((v.op=1\/v.table=0)/\(v.op=2\/w=gM)/\(v.op=3\/co=[])/\(v.op=4\/v.op=5\/on=[])/\(v.op=9\/v.op=10\/(gr=[]/\od=[]/\v.limit=0))->P)->K (.val (.bool false)) m h:=λj L=>g false ⟨λe=>(by cases e),λe=>(j (L e)).elim⟩;have M:∀{n:Nat}{α:Type}{l:List α},n=l.length->((n:Int)>0↔l≠[]):=fun{n α l} e=>by rw[e,ne_eq, <-length_eq_zero_iff];omega
 refine⟨λ_=>v.op=1\/v.table=0,aB (λd=>aB (λc=>bad (P:=v.op=1\/v.table=0) ?_ λe=>e.1) (λc=>⟨(),.inr cg,MT⟩)) (λd=>⟨(),.inl cg,MT⟩),λ_ E=>?_⟩
 .grind
 refine⟨λ_=>v.op=2\/w=gM,aB (λd=>⟨v.where_,w,rfl,z,λr F=>aB (λc=>bad (P:=v.op=2\/w=gM) ?_ λe=>e.2.1) (λc=>⟨(),.inr (F.1 cg),MT⟩)⟩) (λd=>⟨(),.inl cg,MT⟩),λ_ G=>?_⟩
 .rw[not_or];refine⟨cg,λe=>?_⟩;rw[F.2 e]at c;cases c
 refine⟨λ_=>v.op=3\/co=[],aB (λd=>aD (λc=>bad (P:=v.op=3\/co=[]) ?_ λe=>e.2.2.1) (λc=>⟨(),.inr ?_,MT⟩)) (λd=>⟨(),.inl cg,MT⟩),λ_ H=>?_⟩
 .grind
 .grind
 refine⟨λ_=>v.op=4\/v.op=5\/on=[],aB (λd=>aB (λo=>aD (λc=>bad (P:=v.op=4\/v.op=5\/on=[]) ?_ λe=>e.2.2.2.1) (λc=>⟨(),.inr (.inr ?_),MT⟩)) (λo=>⟨(),.inr (.inl cg),MT⟩)) (λd=>⟨(),.inl cg,MT⟩),λ_ I=>?_⟩
 .grind
 .grind
 refine aB (λd=>aB (λc=>?_) (λc=>g true ⟨λ_=>⟨E,G,H,I,.inr (.inl cg)⟩,λ_=>rfl⟩)) (λd=>g true ⟨λ_=>⟨E,G,H,I,.inl cg⟩,λ_=>rfl⟩);have d:v.op≠9:=cg
 have c:v.op≠10:=cg
 have f:¬(gr=[]/\od=[]/\v.limit=0)->K (.val (.bool false)) m h:=λj=>bad j λe=>(e.2.2.2.2.resolve_left d).resolve_left c;refine aB (λO=>aB (λQ=>g _ ?_) (λQ=>f λe=>?_)) (λO=>f λe=>?_)
 .grind
 .grind
 .grind
open Classical in
noncomputable def VM(a co:dl):dl×Int:=if co≠[]/\Good (λ_ c=>F0 a c=true) co then nI (co.map λc=>a.getD c.toNat 0)else eN 120
def chX:Vc.Spec:=λc m h K=>∃s t a co,c=[cS s,cS t]/\Ints h s a/\Ints h t co/\KR K m h (VM a co)
def TV:Vc.Spec:=λc m h K=>∃s t u a b on,c=[cS s,cS t,cS u]/\Ints h s a/\Ints h t b/\jA h u on/\a.length<=1000/\b.length<=1000/\∀r:Bool,(r=true↔Good (uS a b) on)->K (cB r) m h
def QY:Vc.Spec:=λc m h K=>∃s v a t,c=[cS s,aT v]/\Ints h s a/\kW h t v/\a.length<=1000/\∀r:Bool,(r=true↔rF a t.group t.order t.limit)->K (cB r) m h
def eB(b:Bool):dj:=[.bool b]
noncomputable def buQ(s t:Sl)(m:MH)(h:PH):Ctx:=
 cT [] [(4,{A:=Nat,st:=λi=>bO 51 53 [(0,sv s),(1,sv t),(14,sv t),(15,iv t.len),(16,iv i)] [] m h}),
  (13,{A:=Nat×dl,st:=λ⟨i,l⟩=>bO 51 53 [(0,sv s),(8,.at (.lst 34)),(35,sv t),(36,iv t.len),(37,iv i)] [(34,.lst 3 1 (l.map eI))] m h})] [] [] false
noncomputable def btJ(s t u:Sl)(m:MH)(h:PH):Ctx:=
 cT [] [(4,{A:=Nat×ei×ei,st:=λ⟨i,x,y⟩=>bO 75 78 [(0,sv s),(1,sv t),(7,.at (.lst 15)),(8,.at (.lst 18)),(19,sv u),(20,iv u.len),(21,iv i)] [(15,.lst 4 1 (x.map eB)),(18,.lst 4 1 (y.map eB))] m h})] [(9,{A:=Nat×ei×ei×Int×Int,st:=λ⟨i,x,y,a,b⟩=>bO 75 78 [(0,sv s),(1,sv t),(7,.at (.lst 15)),(8,.at (.lst 18)),(11,iv a),(12,iv b),(19,sv u),(20,iv u.len),(21,iv i)] [(15,.lst 4 1 (x.map eB)),(18,.lst 4 1 (y.map eB))] m h})] [] false
noncomputable def btZ(s:Sl)(v:gA)(m:MH)(h:PH):Ctx:=
 cT [] [(3,{A:=Nat×ei,st:=λ⟨i,x⟩=>bO 68 70 [(0,sv s),(3,.at (.ptr 3 0)),(5,.at (.lst 12)),(14,sv v.group),(15,iv v.group.len),(16,iv i)] [(3,.cells 123 (v.enc.map .val)),(12,.lst 4 1 (x.map eB))] m h}),
  (12,{A:=Nat,st:=λi=>bO 68 70 [(0,sv s),(3,.at (.ptr 3 0)),(43,sv v.order),(44,iv v.order.len),(45,iv i)] [(3,.cells 123 (v.enc.map .val))] m h})] [] [] false
def Tg(s t:Sl)(m:MH)(h:PH)(K:dk):Prop:=
  dD (aF t) 0 (K (CV.tup (bD iO 120)) m h) (j6 (λI x=>aA (I x) (aH s) (aA (aH t) (aH t) (aA (aY t) (aZ x) (aA (m=m) (h=h) True)))) (λI u x=>I x->aW (↑x:Int) (aF t) (aJ (λb o=>aI (aK t.a b o) (0<=(↑x:Int)) ((↑x:Int)<aF t) (∃(y:Int),aR m h b (bE o x 1) (bQ y)/\aW y 0 (K (CV.tup (bD iO 120)) m h) (eK y (aF s) (K (CV.tup (bD iO 120)) m h) (Al I u x s t t m h))))) (fA (aF t) 12 (K (CV.tup (bD iO 2)) m h) (aA (bY (aF t)) (aF t<=aF t) (aA (sK t 8) (qU (aF t)) (Oc (λI1 c=>aA (I1 c) (aH s) (aA (eL 34) (aH t) (aA (aY t) (aZ c.1) (aA (gU (xH (aF t) (kH cF)) c.2) (m=m) (bR h h))))) (λI1 f c=>I1 c->aW (↑c.1:Int) (aF t) (aJ (λb o=>aI (aK t.a b o)
 (0<=(↑c.1:Int)) ((↑c.1:Int)<aF t) (∃(y:Int),aR m h b (bE o c.1 1) (bQ y)/\aJ (λg j=>aI (aK s.a g j) (0<=y) (y<aF s) (∃(n:Int),aI (aR m h g (cC j y 1) (bQ n)) (0<=(↑c.1:Int)) ((↑c.1:Int)<j7 (dT c.2)) (∃(e:dj),aA (jZ (dT c.2) (↑c.1:Int) e) (wF 0 e) (∃(d:Nat×dl),aA (I1 d) (f d<f c) (aA (aH s) (eL 34) (aA (aH t) (aY t) (aA (eR (bF ((↑c.1:Int)+1))=bL d.1) (gU (xL (dT c.2) (↑c.1:Int) (tA (fE n) 1 e)) d.2) (bG m m h h))))))))))) (bU h 1 (dT c.2) (λz A=>hJ K z m A)))))))))
noncomputable abbrev qN(a:ei):List dj:=List.map eB a
abbrev Bx(a:List dj)(b:ei):Prop:=bW 4 1 a=bW 4 1 (qN b)
noncomputable abbrev AN(a:Nat×ei×ei×Int×Int):Int:=a.2.2.2.1
noncomputable abbrev yK(a:Nat×ei×ei×Int×Int):Int:=a.2.2.2.2
attribute [push_cast] qN Bx AN yK
def Tf(s t u:Sl)(m:MH)(h:PH)(K:dk):Prop:=
  aA (bY (aF s)) (aF s<=aF s) (aA (sK s 1) (qU (aF s)) (aA (bY (aF t)) (aF t<=aF t) (aA (sK t 1) (qU (aF t)) (∃(I:Nat×ei×ei->Prop)(j:Nat×ei×ei->Nat),(∃(x:Nat×ei×ei),aA (I x) (aH s) (aA (aH t) (eL 15) (aA (eL 18) (aH u) (aA (aY u) (aZ x.1) (aA (Bx (xH (aF s) (kH vB)) x.2.1) (Bx (xH (aF t) (kH vB)) x.2.2) (aA (m=m) (h=h) True))))))/\∀(x:Nat×ei×ei),I x->aW (↑x.1:Int) (aF u) (aJ (λb o=>aI (aK u.a b o) (0<=(↑x.1:Int)) ((↑x.1:Int)<aF u) (∃(y:Int×Int),aA (aR m h b (bE o x.1 2) (oD y)) (bY 0) (aA ((0:Int)<2) (bY 1) ((1:Int)<2/\∃(I1:Nat×ei×ei×Int×Int->Prop),aW y.1 0 (K aX m
 h) (eK y.1 (aF s) (K aX m h) (aW y.2 0 (K aX m h) (eK y.2 (aF t) (K aX m h) (∃(c:Nat×ei×ei×Int×Int),aA (I1 c) (aH s) (aA (aH t) (eL 15) (aA (eL 18) (dA y.1 (AN c)) (aA (dA y.2 (yK c)) (aH u) (aA (aY u) (bV x.1 c.1) (aA (Bx (qN x.2.1) c.2.1) (Bx (qN x.2.2) c.2.2.1) (bG m m h h))))))))))/\∀(c:Nat×ei×ei×Int×Int),I1 c->aJ (λn z=>aI (aK s.a n z) (0<=AN c) (AN c<aF s) (∃(A:Int),aR m h n (cC z (AN c) 1) (bQ A)/\aJ (λB C=>aI (aK t.a B C) (0<=yK c) (yK c<aF t) (∃(D:Int),aR m h B (cC C (yK c) 1) (bQ D)/\cK A D (K aX m h) (oT (AN c) (qN c.2.1) (λe=>jZ (qN c.2.1) (AN c) e/\∃
 (E:Bool),hZ (List.take 1 (List.drop 0 e)=uG E) E (K aX m h) (oT (yK c) (qN c.2.2.1) (λF=>jZ (qN c.2.2.1) (yK c) F/\∃(G:Bool),hZ (List.take 1 (List.drop 0 F)=uG G) G (K aX m h) (oT (AN c) (qN c.2.1) (λf=>aA (jZ (qN c.2.1) (AN c) f) (wF 0 f) (aA (bY (yK c)) (yK c<j7 (qN c.2.2.1)) (∃(g:dj),aA (jZ (qN c.2.2.1) (yK c) g) (wF 0 g) (∃(d:Nat×ei×ei),aA (I d) (j d<j x) (aA (aH s) (aH t) (aA (eL 15) (eL 18) (aA (aH u) (aY u) (aA (eR (bF ((↑c.1:Int)+1))=bL d.1) (Bx (xL (qN c.2.1) (AN c) (tA Bc 1 f)) d.2.1) (aA (Bx (xL (qN c.2.2.1) (yK c) (tA Bc 1 g)) d.2.2) (m=m) (bR h
 h)))))))))))))))))))))))) (K dR m h)))))
def Te(s:Sl)(v:gA)(m:MH)(h:PH)(K:dk):Prop:=
  aA (bY (aF s)) (aF s<=aF s) (aA (sK s 1) (qU (aF s)) (∃(I:Nat×ei->Prop)(g:Nat×ei->Nat),(∃(x:Nat×ei),aA (I x) (aH s) (aA bJ (eL 12) (aA (aH v.group) (aY v.group) (aA (aZ x.1) (kF v) (bS (Bx (xH (aF s) (kH vB)) x.2) m m h h)))))/\∀(x:Nat×ei),I x->aW (↑x.1:Int) (aF v.group) (aJ (λb o=>aI (aK v.group.a b o) (0<=(↑x.1:Int)) ((↑x.1:Int)<aF v.group) (∃(y:Int),aR m h b (bE o x.1 1) (bQ y)/\aW y 0 (K aX m h) (eK y (aF s) (K aX m h) (oT y (qN x.2) (λe=>jZ (qN x.2) y e/\∃(j:Bool),hZ (List.take 1 (List.drop 0 e)=uG j) j (K aX m h) (oT y (qN x.2) (λd=>aA (jZ (qN x.2) y d) (wF 0 d) (∃(c:Nat×ei),aA (I c) (g c
 <g x) (aA (aH s) bJ (aA (eL 12) (aH v.group) (aA (aY v.group) (eR (bF ((↑x.1:Int)+1))=bL c.1) (rZ (kF v) (Bx (xL (qN x.2) y (tA Bc 1 d)) c.2) m m h h))))))))))))) (fA (aF v.order) 12 (K aX m h) (j6 (λI1 c=>aA (I1 c) (aH s) (aA bJ (aH v.order) (aA (aY v.order) (aZ c) (aA (kF v) (m=m) (bR h h))))) (λI1 n c=>I1 c->aW (↑c:Int) (aF v.order) (aJ (λb o=>aI (aK v.order.a b o) (0<=(↑c:Int)) ((↑c:Int)<aF v.order) (∃(y:Int×Bool),aR m h b (bE o c 2) (qX y)/\aW y.1 0 (K aX m h) (eK y.1 (aF s) (K aX m h) (∃(f:Nat),aA (I1 f) (n f<n c) (aA (aH s) bJ (aA (aH v.order) (aY v.order) (aA (eR (bF ((↑c:Int)+1))=bL f) (kF v) (bG m m h h))))))))) (eK v.limit
 0 (K (vD (decide (v.limit<=100))) m h) (K aX m h)))))))
theorem KR.bad{r:dl×Int}{e:Int}(c:KR K m h r)(d:r=eN e):K (.tup [.val (.slice none 0 0),.val (.int .i64 e)]) m h:=c.err (.refl _) d
theorem ZN:di 160 chX:=by
 refine fU func160 ?_;rintro I m h K ⟨s,t,a,co,rfl,E,x,n⟩;refine⟨buQ s t m h,rfl,aG,Tg s t m h K,bu,?_⟩;dsimp only[Tg,push_cast];have U:=E.slen;have y:=x.slen;have F:=x.len;unfold VM at n;refine aB (λG=>n.bad (if_neg λe=>e.1 ((KS x.slen).1 G))) (λG=>?_);have z:co≠[]:=λe=>cg
 refine⟨λi=>i<=co.length/\fC (λ_ c=>F0 a c=true) co i,λi=>co.length-i,⟨0,⟨aC,.zero⟩,MT⟩,λi⟨V,H⟩=>aD (λd=>?_) (λA=>?_)⟩
 .obtain⟨c,j⟩:=dO y d;obtain⟨b,o,e,r⟩:=x.at' j;refine⟨b,o,e,aC,d,c,.imm r,aD (λB=>n.bad (if_neg λg=>?_)) (λB=>aD (λJ=>n.bad (if_neg λg=>?_)) (λJ=>⟨i+1,⟨aC,H.succ j (eV.2 ⟨aC,aC⟩)⟩,cg,MT⟩))⟩
  .have:=eV.1 (g.2 i c j);omega
  .have:=eV.1 (g.2 i c j);omega
 have f:=H.all aC;rw[if_pos ⟨z,f⟩]at n;refine aD (λB=>n.big (.refl _) rfl ce) (λB=>⟨aC,aC,aC,aC,?_⟩);refine⟨λ⟨i,l⟩=>i<=co.length/\l=((co.take i).map λc=>a.getD c.toNat 0)++replicate (co.length-i) 0,λ⟨i,_⟩=>co.length-i,⟨(0,replicate co.length 0),⟨aC,bx⟩,?_⟩,?_⟩
 .have:List.map eI (replicate co.length (0:Int))=replicate (Int.toNat (t.len:Int)) [fE 0]:=by rw[map_replicate,Int.toNat_natCast,y];rfl
  grind
 rintro⟨i,l⟩ ⟨L,rfl⟩;dsimp only;refine aD (λd=>?_) (λA M h' C W=>n.ok C rfl ce ?_)
 .obtain⟨c,j⟩:=dO y d;obtain⟨b,o,e,r⟩:=x.at' j;have u:=eV.1 (f i c j);obtain⟨O,P,Q,R⟩:=E.inb u.1 u.2;refine⟨b,o,e,aC,d,c,.imm r,O,P,Q,u.1,aC,a.getD c.toNat 0,.imm R,aC,ce,eI 0,?_,by simp[eI],(i+1,((co.take (i+1)).map λc=>a.getD c.toNat 0)++replicate (co.length-(i+1)) 0),⟨aC,rfl⟩,aC,?_⟩
  .grind
  .have S:co.length-i=(co.length-(i+1))+1:=by omega
   have T:(List.map eI (((co.take i).map λc=>a.getD c.toNat 0)++replicate (co.length-i) 0)).set (Int.toNat (i:Int)) (fE (a.getD c.toNat 0)::([]++List.drop 1 (eI 0)))=List.map eI (((co.take (i+1)).map λc=>a.getD c.toNat 0)++replicate (co.length-(i+1)) 0):=by
    have X:((co.take i).map λc=>a.getD c.toNat 0).length=i:=ce
    rw[S,replicate_succ,db,j,Int.toNat_natCast];simp only[cv,map_cons];have D:(List.map eI ((co.take i).map λc=>a.getD c.toNat 0)).length=i:=cg
    rw[set_append_right _ _ aC,D,Nat.sub_self];simp[eI]
   rw[<-T];exact MT
 .have:i=co.length:=by omega
  subst this
  grind
structure Seen(n:Nat)(x:ei)(l:dl):Prop where
 len:x.length=n
 iff:∀k:Nat,k<n->(x[k]? =some true↔(k:Int)∈l)
theorem Seen.zero(n:Nat):Seen n (replicate n false) []:=⟨bx,λk c=>cg⟩
theorem Seen.map0{n:Nat}{s:Sl}(h:s.len=n):List.map eB (replicate n false)=replicate (Int.toNat (s.len:Int)) [Value.bool false]:=by rw[map_replicate,Int.toNat_natCast,h];rfl
theorem Seen.look{n:Nat}{x:ei}(h:Seen n x l){c:Int}(d:0<=c)(e:c<n):∃y,(List.map eB x)[c.toNat]? =some (eB y)/\(y=true↔c∈l):=by
 have f:=h.len;have g:c.toNat<x.length:=by omega
 refine⟨x[c.toNat],cg,?_⟩;have:=h.iff c.toNat aC
 grind
theorem Seen.set{n:Nat}{x:ei}(h:Seen n x l){c:Int}(f:0<=c)(g:c<n):Seen n (x.set c.toNat true) (l++[c]):=by
 refine⟨cm h.len,λk d=>?_⟩;have j:=h.len;rw[getElem?_set,mem_append,mem_singleton];by_cases e:c.toNat=k
 .grind
 .rw[if_neg e,h.iff k d]
  grind
theorem Seen.cells(x:ei)(k:Nat)(y:Bool):(List.map eB x).set k (Value.bool true::([]++List.drop 1 (eB y)))=List.map eB (x.set k true):=by rw[map_set];rfl
theorem ZM:di 161 TV:=by
 refine fU func161 ?_;rintro T m h K ⟨s,t,u,a,b,on,rfl,I,J,F,al,bl,L⟩;refine⟨btJ s t u m h,rfl,aG,Tf s t u m h K,bu,?_⟩;dsimp only[Tf,push_cast];have U:=I.slen;have V:=J.slen;have W:=F.slen;have G:=F.len;refine⟨aC,aC,aC,aC,aC,aC,aC,aC,?_⟩;refine⟨λ⟨i,x,y⟩=>i<=on.length/\fC (uS a b) on i/\Seen a.length x ((on.take i).map λp=>p.1)/\Seen b.length y ((on.take i).map λp=>p.2),λ⟨i,_,_⟩=>on.length-i,⟨(0,replicate a.length false,replicate b.length false),⟨aC,.zero,.zero _,.zero _⟩,?_⟩,?_⟩
 .rw[Seen.map0 U,Seen.map0 V];exact MT
 rintro⟨i,x,y⟩ ⟨X,H,A,B⟩;dsimp only at X H A B⊢
 refine aD (λn=>?_) (λY=>L true ⟨λ_=>H.all aC,λ_=>rfl⟩);obtain⟨p,o⟩:=dO W n;obtain⟨Z,o1,e1,r1⟩:=F.at o;have bad:¬uS a b (on.take i) p->K (.val (.bool false)) m h:=λhn=>L false ⟨λe=>(by cases e),λe=>(Good.not o hn e).elim⟩;refine⟨Z,o1,e1,aC,n,p,.imm r1,aC,aC,aC,aC,λ⟨i',x',y',c,d⟩=>i'=i/\x'=x/\y'=y/\c=p.1/\d=p.2/\F0 a p.1=true/\F0 b p.2=true,?_,?_⟩
 .refine aD (λz=>bad λg=>?_) (λz=>aD (λC=>bad λg=>?_) (λC=>aD (λD=>bad λg=>?_) (λD=>aD (λh4=>bad λg=>?_) (λh4=>⟨(i,x,y,p.1,p.2),⟨rfl,rfl,rfl,rfl,rfl,eV.2 ⟨aC,aC⟩,eV.2 ⟨aC,aC⟩⟩,MT⟩))))
  .have:=eV.1 g.1;omega
  .have:=eV.1 g.1;omega
  .have:=eV.1 g.2.1;omega
  .have:=eV.1 g.2.1;omega
 rintro⟨i,x,y,c,d⟩ ⟨rfl,rfl,rfl,rfl,rfl,M,O⟩;dsimp only;have f:=eV.1 M;have j:=eV.1 O;obtain⟨b2,o2,e2,r2⟩:=I.inb f.1 f.2;obtain⟨b3,o3,e3,r3⟩:=J.inb j.1 j.2;obtain⟨P,Q,q1⟩:=A.look f.1 f.2;obtain⟨R,S,q2⟩:=B.look j.1 j.2;have lx:=A.len;have ly:=B.len;refine⟨b2,o2,e2,f.1,aC,_,.imm r2,b3,o3,e3,j.1,aC,_,.imm r3,aB (λz=>bad λg=>?_) (λz=>⟨f.1,ce,_,Q,P,rfl,aB (λC=>bad λg=>?_) (λC=>⟨j.1,ce,_,S,R,rfl,aB (λD=>bad λg=>?_) (λD=>?_)⟩)⟩)⟩
 .rw[g.2.2.1]at z;simp at z
 .obtain⟨q,E,e⟩:=mem_map.1 (q1.1 C);exact(g.2.2.2 q E).1 e
 .obtain⟨q,E,e⟩:=mem_map.1 (q2.1 D);exact(g.2.2.2 q E).2 e
 refine⟨f.1,ce,_,Q,by simp[eB],j.1,ce,_,S,by simp[eB],(i+1,x.set p.1.toNat true,y.set p.2.toNat true),⟨aC,H.succ o ⟨M,O,cg,λq E=>⟨λe=>?_,λe=>?_⟩⟩,?_,?_⟩,aC,?_⟩
 .grind
 .grind
 .rw[db,o,cv];exact A.set f.1 f.2
 .rw[db,o,cv];exact B.set j.1 j.2
 .rw[<-Seen.cells x p.1.toNat P, <-Seen.cells y p.2.toNat R];exact MT
theorem ZL:di 163 QY:=by
 refine fU func163 ?_;rintro S m h K ⟨s,v,a,t,rfl,T,x,al,O⟩;refine⟨btZ s v m h,rfl,aG,Te s v m h K,bu,?_⟩;dsimp only[Te,push_cast];have U:=T.slen;have V:=x.group_.slen;have W:=x.order_.slen;have P:=x.group_.len;have Q:=x.order_.len;have X:=x.limit_;have bad:¬rF a t.group t.order t.limit->K (.val (.bool false)) m h:=λA=>O false ⟨λe=>(by cases e),λe=>(A e).elim⟩;refine⟨aC,aC,aC,aC,?_⟩;refine⟨λ⟨i,u⟩=>i<=t.group.length/\fC (G3 a) t.group i/\Seen a.length u (t.group.take i),λ⟨i,_⟩=>t.group.length-i,⟨(0,replicate a.length false),⟨aC,.zero,.zero _⟩,?_⟩,?_⟩
 .rw[Seen.map0 U];exact MT
 rintro⟨i,u⟩ ⟨G,E,B⟩;dsimp only at G E B⊢
 have Y:=B.len;refine aD (λd=>?_) (λC=>?_)
 .obtain⟨c,j⟩:=dO V d;obtain⟨H,I,J,L⟩:=x.group_.at' j;have f:¬G3 a (t.group.take i) c->K (.val (.bool false)) m h:=λA=>bad λo=>Good.not j A o.group_;refine⟨H,I,J,aC,d,c,.imm L,aD (λM=>f λg=>?_) (λM=>aD (λz=>f λg=>?_) (λz=>?_))⟩
  .have:=eV.1 g.1;omega
  .have:=eV.1 g.1;omega
  obtain⟨y,R,Z⟩:=B.look (c:=c) aC aC;refine⟨aC,ce,_,R,y,rfl,aB (λF=>f λg=>g.2 (Z.1 F)) (λF=>⟨aC,ce,_,R,by simp[eB],(i+1,u.set c.toNat true),⟨aC,E.succ j ⟨eV.2 ⟨aC,aC⟩,λe=>?_⟩,?_⟩,aC,?_⟩)⟩
  .grind
  .rw[db,j];exact B.set aC aC
  .rw[<-Seen.cells u c.toNat y];exact MT
 have gg:=E.all aC;clear G E C B Y;refine aD (λM=>bad λo=>by have:=o.len_;omega) (λM=>?_);refine⟨λi=>i<=t.order.length/\fC (Jq a) t.order i,λi=>t.order.length-i,⟨0,⟨aC,.zero⟩,MT⟩,λi⟨G,D⟩=>aD (λd=>?_) (λC=>?_)⟩
 .obtain⟨c,j⟩:=dO W d;obtain⟨H,I,J,L⟩:=x.order_.at j;have n:¬Jq a (t.order.take i) c->K (.val (.bool false)) m h:=λA=>bad λo=>Good.not j A o.order_;refine⟨H,I,J,aC,d,c,.imm L,aD (λz=>n λg=>?_) (λz=>aD (λF=>n λg=>?_) (λF=>⟨i+1,⟨aC,D.succ j (eV.2 ⟨aC,aC⟩)⟩,cg,MT⟩))⟩
  .have:=eV.1 (show F0 a c.1=true from g);omega
  .have:=eV.1 (show F0 a c.1=true from g);omega
 have oo:=D.all aC;rw[X];refine aD (λz=>O _ ⟨λe=>⟨gg,oo,aC,z,cm e⟩,λe=>decide_eq_true e.high⟩) (λz=>bad λo=>by have:=o.low;omega)
def uM(ks:List dl)(a:Int)(n:Bool):dl:=if n=true then ks.getD a.toNat []else[]
noncomputable def sD(s:lL)(ks:List dl)(t:Step):dl×Int:=
 if arity t.op<0\/oI t.left (decide (arity t.op>0)) ks.length=false\/oI t.right (decide (arity t.op>1)) ks.length=false then eN 120
 else if(eU s [] t.query (uM ks t.left (decide (arity t.op>0))) (uM ks t.right (decide (arity t.op>1)))).2=100 then eN 120
 else eU s [] t.query (uM ks t.left (decide (arity t.op>0))) (uM ks t.right (decide (arity t.op>1)))
def Q7:Vc.Spec:=λc m h K=>∃sc d v s e ks t,c=[aS sc,cS d,aT v]/\fR h s sc/\nM s/\kW h t v/\dC m d 33 1 (e.map eS)/\Slices h e ks/\(∀k∈ks,k.length<=12)/\∀r,fin r=sD s ks t->KR K m h r
noncomputable def bXQ(sc:bX)(kk:Sl)(v:gA)(m:MH)(h:PH):Ctx:=
 cT [(157,MP),(158,bNQ),(159,XK),(139,y8),(156,tH),(160,chX),(161,TV),(162,A9),(163,QY),(164,Lt),(136,Vg)] [] [(4,{A:=Int,st:=λn=>bO 132 135 [(1,sv kk),(3,.at (.ptr 3 0)),(5,.at (.ptr 5 0)),(8,iv n)] [(3,.cells 43 (sc.enc.map .val)),(5,.cells 123 (v.enc.map .val))] m h}),
  (9,{A:=Int×Sl,st:=λ⟨n,l⟩=>bO 132 135 [(1,sv kk),(3,.at (.ptr 3 0)),(5,.at (.ptr 5 0)),(8,iv n),(9,sv l),(10,.at (.val (.slice none 0 0)))] [(3,.cells 43 (sc.enc.map .val)),(5,.cells 123 (v.enc.map .val))] m h}),
  (11,{A:=Sl×Sl,st:=λ⟨l,r⟩=>bO 132 135 [(3,.at (.ptr 3 0)),(5,.at (.ptr 5 0)),(9,sv l),(10,sv r)] [(3,.cells 43 (sc.enc.map .val)),(5,.cells 123 (v.enc.map .val))] m h}),
  (34,{A:=Sl×Sl×Bool,st:=λ⟨l,r,b⟩=>bO 132 135 [(5,.at (.ptr 5 0)),(9,sv l),(10,sv r),(11,bv b)] [(5,.cells 123 (v.enc.map .val))] m h})] [] false
abbrev KJ(a:Int->Bool->Prop):Prop:=∃(x:Int)(c:Bool),a x c
noncomputable abbrev KE(a b:Int):CV:=vD (decide (arity a>b))
abbrev CX(a:Bool)(b:Prop)(c:Sl×Sl×Bool->Prop)(d:Sl×Sl)(e:gA)(g:MH)(i:PH):Prop:=(eZ a↔b)->∃(x:Sl×Sl×Bool),aA (c x) dM (aA (bA d.1 x.1) (bA d.2 x.2.1) (aA (iL a x.2.2) (kF e) (aA (g=g) (i=i) True)))
attribute [push_cast] KJ KE CX
def PT(sc:bX)(kk:Sl)(v:gA)(m:MH)(h:PH)(K:dk):Prop:=
  pL v.op (λo=>∃(I:Int->Prop),aW (arity o) 0 (K (CV.tup (bD iO 120)) m h) (KJ (λa n=>∃(e:Int),hZ (fN v.left::bD (KE o 0) (aF kk)=fN a::bD (vD n) e) (!(oI a n e)) (K (CV.tup (bD iO 120)) m h) (KJ (λC G=>∃(H:Int),hZ (fN v.right::bD (KE o 1) (aF kk)=fN C::bD (vD G) H) (!(oI C G H)) (K (CV.tup (bD iO 120)) m h) (∃(x:Int),aA (I x) (aH kk) (aA bJ dM (aA (dA (arity o) x) (bP sc) (aA (kF v) (m=m) (bR h h)))))))))/\∀(x:Int),I x->LS (λJ t=>sX v.enc J.enc (kW h t J) (∀(r:Bool),eT (eZ r↔dU (KC t)) (!r) (K (CV.tup (bD iO 120)) m h) (∃(I1:Int×Sl->Prop),fA x 0 (aJ (λb B=>aI (aK kk.a b B) (0<=v.left) (v.left<aF kk) (∃(y:Sl),aR m h b (cC B v.left
 1) (aM y)/\∃(z:Int×Sl),aA (I1 z) (aH kk) (aA bJ dM (aA (dA x z.1) (bA y z.2) (aA tX (bP sc) (bS (kF v) m m h h))))))) (∃(z:Int×Sl),aA (I1 z) (aH kk) (aA bJ dM (aA (dA x z.1) (sQn=Ye z.2) (aA tX (bP sc) (bS (kF v) m m h h)))))/\∀(z:Int×Sl),I1 z->∃(I2:Sl×Sl->Prop),fA z.1 1 (aJ (λb B=>aI (aK kk.a b B) (0<=v.right) (v.right<aF kk) (∃(y:Sl),aR m h b (cC B v.right 1) (aM y)/\∃(d:Sl×Sl),aA (I2 d) bJ (aA dM (bA z.2 d.1) (aA (bA y d.2) (bP sc) (aA (kF v) (m=m) (bR h h))))))) (∃(d:Sl×Sl),aA (I2 d) bJ (aA dM (bA z.2 d.1) (aA (sQn=Ye d.2) (bP sc) (aA (kF v) (m=m) (bR h h)))))/\∀(d:Sl×Sl),I2 d->∃(I3:Sl×Sl×Bool->Prop),
 cO (v.op==1) (aW v.table 0 (K (CV.tup (bD iO 120)) m h) (eK v.table (gE sc) (K (CV.tup (bD iO 120)) m h) (C1 (bD (gV (cD sc)) v.table) h (λs A=>hJ K s m A)))) (v.op==2) (EH (cA d.1 (nO iO (pZ v.where_))) h (λc p L=>cK (fH c p L) 0 (K (CV.tup (bD iO (fH c p L))) m h) (∃(f:Sl×Sl×Bool),aA (I3 f) dM (aA (bA d.1 f.1) (bA d.2 f.2.1) (aA (xN f.2.2) (kF v) (aA (m=m) (h=h) True)))))) (cO (v.op==3) (gQ (λs g=>mV (λa c=>aI (dK d.1 v.columns=dK s g) (Ints h s a) (Ints h g c) (fT (λD A=>dN h A (Ints A D (VM a c).1) (K (CV.tup (fP D (CV.val (fE (VM a c).2)))) m A)))))) (v.op==4) (gQ (λs g=>∃(u:Sl),mV (λa b=>∃(B:dq),aA (cA d.1 (dK d.2 v.on)=cA
 s (dK g u)) (Ints h s a) (aA (Ints h g b) (jA h u B) (aA (eX a) (eX b) (∀(j:Bool),CX j (Good (uS a b) B) I3 d v m h)))))) (cO (v.op==5) (gQ (λs g=>∃(u:Sl),mV (λa b=>∃(B:dq),aA (cA d.1 (dK d.2 v.on)=cA s (dK g u)) (Ints h s a) (aA (Ints h g b) (jA h u B) (aA (eX a) (eX b) (∀(j:Bool),CX j (Good (uS a b) B) I3 d v m h)))))) (v.op==6) (vS d.1 d.2 h (λa b j=>CX j (a=b) I3 d v m h)) (cO (v.op==7) (vS d.1 d.2 h (λa b j=>CX j (a=b) I3 d v m h)) (v.op==8) (vS d.1 d.2 h (λa b j=>CX j (a=b) I3 d v m h)) (cO (v.op==9) (∃(s:Sl)(E:gA)(a:dl)(g:Step),aA (fP d.1 (gV v.enc)=fP s (gV E.enc)) (Ints h s a) (aA (kW h g E) (eX a) (∀(j:Bool),
 CX j (rF a g.group g.order g.limit) I3 d v m h))) (v.op==10) (vS d.1 d.2 h (λa b j=>eT (eZ j↔a=b) j (∃(s:Sl)(E:gA)(C:dl)(g:Step),aA (fP d.1 (gV v.enc)=fP s (gV E.enc)) (Ints h s C) (aA (kW h g E) (eX C) (∀(P:Bool),CX P (rF C g.group g.order g.limit) I3 d v m h))) (∃(f:Sl×Sl×Bool),aA (I3 f) dM (aA (bA d.1 f.1) (bA d.2 f.2.1) (aA (wH f.2.2) (kF v) (aA (m=m) (h=h) True)))))) (∃(f:Sl×Sl×Bool),aA (I3 f) dM (aA (bA d.1 f.1) (bA d.2 f.2.1) (aA (xN f.2.2) (kF v) (aA (m=m) (h=h) True))))))))/\∀(f:Sl×Sl×Bool),I3 f->cO (!f.2.2) (K (CV.tup (bD iO 120)) m h) (v.op==4) (bU h 1 (aM f.1::gL (aM f.2.1)) (λs A=>∃(D:Sl)(k:List dl),aA (eY s
 =eY D) (cxQ A D k) (aA (k.length<=10) (∀(M:dl),List.Mem M k->M.length<=12) (fT (λO F=>dN A F (Ints F O k.flatten) (hJ K O m F)))))) (qT f.1 h (λl=>fT (λs A=>dN h A (Ints A s l) (hJ K s m A))))))))
theorem dC.rdAt{m:MH}{h:PH}{s:Sl}{E sz:Nat}{xs:List dj}(r:dC m s E sz xs){i:Nat}{e:dj}(d:xs[i]? =some e):∃b o,s.a=some ⟨b,o,none⟩/\aR m h b (o+i*sz) e:=by
 rcases r.ex with⟨_,rfl⟩|⟨b,g,c,rfl,n,_,_,_,u⟩
 .simp at d
 .refine⟨b,0,rfl,.lent c E (0,0) n ?_⟩;apply ext_getElem?;intro j;rw[getElem?_take];by_cases f:j<e.length
  .rw[if_pos f,getElem?_drop,Nat.zero_add];have x:=lJ r.rows.len d j e[j] (cq f)
   grind
  grind
theorem Ux{kk:Sl}{c:dn}(r:dC m kk 33 1 (c.map eS))(g:Slices h c ks){a:Int}(j:0<=a)(n:a<ks.length):∃b o sl,kk.a=some ⟨b,o,none⟩/\aR m h b (o+a.toNat*1) [.slice sl.a sl.len sl.cap]/\Ints h sl (ks.getD a.toNat []):=by
 have d:a.toNat<ks.length:=by omega
 have f:a.toNat<c.length:=by rw[g.1];exact d
 obtain⟨b,o,e,rd⟩:=dC.rdAt (h:=h) r (i:=a.toNat) (e:=eS c[a.toNat]) cg;refine⟨b,o,c[a.toNat],e,rd,?_⟩;rw[getD_eq_getElem?_getD,cq d];exact g.2 a.toNat _ _ (cq f) (cq d)
theorem Ln(h:∀k∈ks,k.length<=12)(a:Int)(n:Bool):(uM ks a n).length<=12:=by
 unfold uM
 grind
open Classical in
theorem ctQ{sc:bX}{kk:Sl}{v:gA}{s:lL}{ss:dn}{ks:List dl}{t:Step}{m:MH}{h:PH}{K:dk}(hs:fR h s sc)(h8:nM s)(x:kW h t v)(hr:dC m kk 33 1 (ss.map eS))(U:Slices h ss ks)(Y:∀k∈ks,k.length<=12)
 (Z:∀r,fin r=sD s ks t->KR K m h r):PT sc kk v m h K:=by
 dsimp only[PT,push_cast];have F:Tst K m h (sD s ks t):=⟨Z⟩
 clear Z
 have kl:kk.len=ks.length:=by
  have:=dC.slen hr;rw[length_map]at this;rw[this,U.1]
 have ex:=x;have a9:=hs.tables.slen;obtain⟨op,ta,w,co,on,gr,od,li,le,ri⟩:=t;obtain⟨e0,e1,xw,xc,xo,xg,xs,e2,e3,e4⟩:=x;simp only at e0 e1 xw xc xo xg xs e2 e3 e4;subst e0 e1 e2 e3 e4;have a':=Ln Y v.left (decide (arity v.op>0));have a5:=Ln Y v.right (decide (arity v.op>1))
 have d:sD s ks ⟨v.op,v.table,w,co,on,gr,od,v.limit,v.left,v.right⟩=if arity v.op<0\/oI v.left (decide (arity v.op>0)) ks.length=false\/oI v.right (decide (arity v.op>1)) ks.length=false then eN 120
  else if(eU s [] (.mk v.op v.table w co on gr od v.limit []) (uM ks v.left (decide (arity v.op>0))) (uM ks v.right (decide (arity v.op>1)))).2=100 then eN 120
  else eU s [] (.mk v.op v.table w co on gr od v.limit []) (uM ks v.left (decide (arity v.op>0))) (uM ks v.right (decide (arity v.op>1))):=rfl
 generalize hA:uM ks v.left (decide (arity v.op>0))=A at d a';generalize hB:uM ks v.right (decide (arity v.op>1))=B at d a5;generalize sD s ks ⟨v.op,v.table,w,co,on,gr,od,v.limit,v.left,v.right⟩=R at F d;refine⟨v.op,rfl,λn=>n=arity v.op/\¬(arity v.op<0\/oI v.left (decide (arity v.op>0)) ks.length=false\/oI v.right (decide (arity v.op>1)) ks.length=false),aD (λC=>F.err cg bz (.refl _)) (λC=>⟨v.left,_,(kk.len:Int),rfl,aB (λh2=>?_) (λh2=>⟨v.right,_,(kk.len:Int),rfl,aB (λh3=>?_) (λh3=>⟨arity v.op,⟨rfl,?_⟩,MT⟩)⟩)⟩),?_⟩
 .rw[kl]at h2;exact F.err cg bz (.refl _)
 .rw[kl]at h3;exact F.err cg bz (.refl _)
 .grind
 rintro n ⟨rfl,a0⟩;rw[if_neg a0]at d;have P:¬arity v.op<0:=λe=>a0 (.inl e);refine⟨v,_,rfl,ex,λr a1=>aB (λC=>F.err ?_ (e:=120) bz (.refl _)) (λC=>?_)⟩
 .have hn:¬dU (.mk v.op v.table w co on gr od v.limit []):=λe=>cg
  have e:eU s [] (.mk v.op v.table w co on gr od v.limit []) A B=eN 100:=by
   unfold eU;exact if_pos (.inr hn)
  rw[d,e];rfl
 have hu:dU (.mk v.op v.table w co on gr od v.limit []):=a1.1 cg;clear a1 C r
 have J:eU s [] (.mk v.op v.table w co on gr od v.limit []) A B=if v.op=1 then(if 0<=v.table/\v.table<s.tables.length then nI (kA s v.table)else eN 100)
  else if v.op=2 then(if fH A [] w=0 then nI A else eN (fH A [] w))
  else if v.op=3 then(if co≠[]/\Good (λ_ c=>F0 A c=true) co then nI (co.map λc=>A.getD c.toNat 0)else eN 100)
  else if v.op=4 then(if Good (uS A B) on then nI (A++B)else eN 100)
  else if v.op=5 then(if Good (uS A B) on then nI A else eN 100)
  else if v.op=9 then(if rF A gr od v.limit then nI A else eN 100)
  else if v.op=10 then(if A=B/\rF A gr od v.limit then nI A else eN 100)
  else(if A=B then nI A else eN 100):=by
  unfold eU;exact if_neg (λe=>e.elim P λe=>e hu)
 have a8:∀l,(nI l).2≠100:=λl=>by unfold nI;grind
 have L:∀{l},eU s [] (.mk v.op v.table w co on gr od v.limit []) A B=nI l->R=nI l:=fun{l} e=>cg
 have D:eU s [] (.mk v.op v.table w co on gr od v.limit []) A B=eN 100->R=eN 120:=λe=>by rw[d,e];rfl
 have a2:∀{e},e≠100->eU s [] (.mk v.op v.table w co on gr od v.limit []) A B=eN e->R=eN e:=fun{e} h0 e1=>by rw[d,e1,if_neg (by simpa[eN]using h0)]
 clear d;refine⟨λ⟨n,l⟩=>n=arity v.op/\Ints h l A,aD (λC=>?_) (λC=>⟨(arity v.op,⟨none,0,0⟩),⟨rfl,?_⟩,MT⟩),?_⟩
 .have G:oI v.left (decide (arity v.op>0)) ks.length=true:=by
   grind
  unfold oI at G;rw[if_pos (decide_eq_true C)]at G;simp only[cz,dc]at G;obtain⟨b,o,Q,e,rd,S⟩:=Ux hr U G.1 G.2;refine⟨b,o,e,G.1,aC,Q,rd,(arity v.op,Q),⟨rfl,?_⟩,MT⟩;rw[<-hA,uM,if_pos (decide_eq_true C)];exact S
 .rw[<-hA,uM,if_neg cg];exact⟨.nil _ _,bx⟩
 rintro⟨n,l⟩ ⟨rfl,u⟩;dsimp only;refine⟨λ⟨l,r⟩=>Ints h l A/\Ints h r B,aD (λC=>?_) (λC=>⟨(l,⟨none,0,0⟩),⟨u,?_⟩,MT⟩),?_⟩
 .have G:oI v.right (decide (arity v.op>1)) ks.length=true:=by
   grind
  unfold oI at G;rw[if_pos (decide_eq_true C)]at G;simp only[cz,dc]at G;obtain⟨b,o,Q,e,rd,S⟩:=Ux hr U G.1 G.2;refine⟨b,o,e,G.1,aC,Q,rd,(l,Q),⟨u,?_⟩,MT⟩;rw[<-hB,uM,if_pos (decide_eq_true C)];exact S
 .rw[<-hB,uM,if_neg cg];exact⟨.nil _ _,bx⟩
 clear u l;rintro⟨l,r⟩ ⟨u,j⟩;dsimp only;have T:∀b:Bool,(b=true->R=nI (if v.op=4 then A++B else A))->(b=false->R=eN 120)->∃x:Sl×Sl×Bool,((λ⟨l,r,b⟩=>Ints h l A/\Ints h r B/\(b=true->R=nI (if v.op=4 then A++B else A))/\(b=false->R=eN 120):Sl×Sl×Bool->Prop)) x/\(l,r,b)=x:=λb g1 g2=>⟨_,⟨u,j,g1,g2⟩,rfl⟩
 refine⟨λ⟨l,r,b⟩=>Ints h l A/\Ints h r B/\(b=true->R=nI (if v.op=4 then A++B else A))/\(b=false->R=eN 120),?_,?_⟩
 .refine aB (λM=>?_) (λM=>aB (λV=>?_) (λV=>aB (λc3=>?_) (λc3=>?_)))
  .have M:v.op=1:=cg
   rw[if_pos M]at J;refine aD (λC=>F.err (D cg) bz (.refl _)) (λC=>aD (λh2=>F.err (D cg) bz (.refl _)) (λh2=>⟨sc,s,v.table,rfl,hs,h8,λQ h' E S=>F.ok (L cg) E S⟩))
  .have M:¬v.op=1:=cg
   have V:v.op=2:=cg
   rw[if_neg M,if_pos V]at J;have a6:fH A [] w≠100:=by unfold fH;omega
   refine⟨l,⟨none,0,0⟩,v.where_,A,[],w,rfl,u,⟨.nil _ _,bx⟩,xw,aB (λC=>?_) (λC=>⟨(l,r,true),⟨u,j,λ_=>?_,λe=>(by cases e)⟩,MT⟩)⟩
   .have C:fH A [] w≠0:=cg
    exact F.err (a2 a6 cg) C (.refl _)
   grind
  .have M:¬v.op=1:=cg
   have V:¬v.op=2:=cg
   have c3:v.op=3:=cg
   rw[if_neg M,if_neg V,if_pos c3]at J;refine⟨l,v.columns,A,co,rfl,u,xc,?_⟩;unfold VM;split
   .rename_i e;have hR:R=nI (co.map λc=>A.getD c.toNat 0):=L cg;refine F.all _ ?_;rw[hR];unfold nI;split
    .rename_i C;show fin (_,0)=_;rw[aqX,nI,if_pos C]
    .exact UH (e:=2) bz
   .rename_i e;refine F.all _ ?_;rw[D cg];exact UH bz
  have M:¬v.op=1:=cg
  have V:¬v.op=2:=cg
  have c3:¬v.op=3:=cg
  rw[if_neg M,if_neg V,if_neg c3]at J;refine aB (λH=>?_) (λH=>aB (λc5=>?_) (λc5=>?_))
  .have H:v.op=4:=cg
   rw[if_pos H]at J;refine⟨l,r,v.on,A,B,on,rfl,u,j,xo,aC,aC,λz I=>⟨(l,r,z),⟨u,j,λe=>?_,λe=>?_⟩,MT⟩⟩
   .grind
   grind
  .have H:¬v.op=4:=cg
   have c5:v.op=5:=cg
   rw[if_neg H,if_pos c5]at J;refine⟨l,r,v.on,A,B,on,rfl,u,j,xo,aC,aC,λz I=>⟨(l,r,z),⟨u,j,λe=>?_,λe=>?_⟩,MT⟩⟩
   .grind
   grind
  have H:¬v.op=4:=cg
  have c5:¬v.op=5:=cg
  rw[if_neg H,if_neg c5]at J;simp only[if_neg H]
  have f:¬v.op=9->¬v.op=10->∀z:Bool,(z=true↔A=B)->∃x:Sl×Sl×Bool,(Ints h x.1 A/\Ints h x.2.1 B/\(x.2.2=true->R=nI A)/\(x.2.2=false->R=eN 120))/\x=(l,r,z):=λn9 a3 z I=>by
   grind
  have W:¬v.op=9->¬v.op=10->∃(s:Sl)(t:Sl)(a:dl)(b:dl),[F9 l,F9 r]=[F9 s,F9 t]/\Ints h s a/\Ints h t b/\∀z:Bool,(z=true↔a=b)->∃x:Sl×Sl×Bool,(Ints h x.1 A/\Ints h x.2.1 B/\(x.2.2=true->R=nI A)/\(x.2.2=false->R=eN 120))/\x=(l,r,z):=λn9 a3=>⟨l,r,A,B,rfl,u,j,f n9 a3⟩
  refine aB (λc6=>?_) (λc6=>aB (λc7=>?_) (λc7=>aB (λc8=>?_) (λc8=>?_)))
  .have c6:v.op=6:=cg
   refine⟨l,r,A,B,rfl,u,j,λz I=>?_⟩;obtain⟨_,g,rfl⟩:=f aC aC z I;exact⟨(l,r,z),g,MT⟩
  .have c7:v.op=7:=cg
   refine⟨l,r,A,B,rfl,u,j,λz I=>?_⟩;obtain⟨_,g,rfl⟩:=f aC aC z I;exact⟨(l,r,z),g,MT⟩
  .have c8:v.op=8:=cg
   refine⟨l,r,A,B,rfl,u,j,λz I=>?_⟩;obtain⟨_,g,rfl⟩:=f aC aC z I;exact⟨(l,r,z),g,MT⟩
  clear f W T;refine aB (λX=>?_) (λX=>aB (λO=>?_) (λO=>?_))
  .have X:v.op=9:=cg
   rw[if_pos X]at J;refine⟨l,v,A,_,rfl,u,ex,aC,λz I=>⟨(l,r,z),⟨u,j,λe=>L cg,λe=>D cg⟩,MT⟩⟩
  .have X:¬v.op=9:=cg
   have O:v.op=10:=cg
   rw[if_neg X,if_pos O]at J;refine⟨l,r,A,B,rfl,u,j,λy hy=>aB (λy1=>⟨l,v,A,_,rfl,u,ex,aC,λz I=>⟨(l,r,z),⟨u,j,λe=>L cg,λe=>D cg⟩,MT⟩⟩) (λy1=>⟨(l,r,false),⟨u,j,(λe=>(by cases e)),λe=>D cg⟩,MT⟩)⟩
  .exfalso;have c6:¬v.op=6:=cg
   have c7:¬v.op=7:=cg
   have c8:¬v.op=8:=cg
   have X:¬v.op=9:=cg
   have O:¬v.op=10:=cg
   refine P ?_;unfold arity
   grind
 clear T u j l r;rintro⟨l,r,b⟩ ⟨u,j,g1,g2⟩;dsimp only at g1 g2⊢
 refine aB (λC=>F.err (g2 cg) bz (.refl _)) (λC=>?_);have g:=g1 cg;refine aB (λH=>λQ h' E a4=>?_) (λH=>⟨l,A,rfl,u,λs' h' E S=>?_⟩)
 .rw[if_pos cg]at g;refine⟨Q,[A,B],rfl,⟨⟨[l,r],a4,rfl,λi k e=>?_⟩,bx⟩,bx,λk hk=>?_,λb' h2 a7 S=>F.ok g (E.trans a7) cg⟩
  .match i,e with
   |0,e=>simp at e;subst e;exact⟨l,rfl,u.mono E⟩
   |1,e=>simp at e;subst e;exact⟨r,rfl,j.mono E⟩
   |i+2,e=>simp at e
  .rcases mem_cons.1 hk with rfl|hk
   .exact a'
   grind
 .rw[if_neg cg]at g;exact F.ok g E S
theorem aPX:di 91 Q7:=by
 refine fU func91 ?_;rintro f m h K ⟨sc,e,v,s,u,ks,t,rfl,g,j,x,n,c,d,o⟩;refine⟨bXQ sc e v m h,rfl,aE ZQ (aE ZP (aE ZO (aE Jf (aE Je (aE ZN (aE ZM (aE FM (aE ZL (aE Qn (aE Qp aG)))))))))),PT sc e v m h K,bu,?_⟩;exact ctQ g j x n c d o
noncomputable def rR(s:lL):List dl->dv->List dl×Int
 |ks,[]=>(ks,0)
 |ks,t::ts=>if(sD s ks t).2=0 then rR s (ks++[(sD s ks t).1]) ts else(ks,(sD s ks t).2)
noncomputable def eE(s:lL)(ts:dv)(rs:dl):Int:=
 if cQ s≠0 then cQ s else if 1024<ts.length\/32<rs.length then 2 else if(rR s [] ts).2≠0 then(rR s [] ts).2 else if rs.all (λr=>decide (0<=r)&&decide (r<ts.length))=true then 0 else 120
structure jV(h:PH)(p r:Sl)(ts:dv)(rs:dl):Prop where
 steps:∃vs,cE h p 22 (vs.map gA.enc)/\Steps h vs ts
 roots:Ints h r rs
 len:ts.length<=1000000000
def FU:Vc.Spec:=λc m h K=>∃sc p r s ts rs,c=[aS sc,aPl p r]/\fR h s sc/\jV h p r ts rs/\∀d,K (.tup [cS d,cI (eE s ts rs)]) m h
noncomputable def b3Q(sc:bX)(p r:Sl):Ctx:=
 rI [(90,uP),(91,Q7)] [(8,{A:=Nat×Sl×MH×PH,st:=λ⟨i,c,m,h⟩=>bO 76 78 [(2,.at (.ptr 2 0)),(3,.at (.ptr 3 0)),(7,sv c),(34,sv p),(35,iv p.len),(36,iv i)] [(2,.cells 43 (sc.enc.map .val)),(3,.cells 62 [.val (.slice p.a p.len p.cap),.val (.slice r.a r.len r.cap)])] m h}),
  (18,{A:=Nat×Sl×MH×PH,st:=λ⟨i,c,m,h⟩=>bO 76 78 [(3,.at (.ptr 3 0)),(7,sv c),(59,sv r),(60,iv r.len),(61,iv i)] [(3,.cells 62 [.val (.slice p.a p.len p.cap),.val (.slice r.a r.len r.cap)])] m h})] [] [] [1079,2079] [] false
abbrev Fh(a:(Nat×Sl×MH×PH->Prop)->(Nat×Sl×MH×PH)->Prop)(b:(Nat×Sl×MH×PH->Prop)->(Nat×Sl×MH×PH->Nat)->(Nat×Sl×MH×PH)->Prop):Prop:=∃(x:Nat×Sl×MH×PH->Prop)(d:Nat×Sl×MH×PH->Nat),(∃(c:Nat×Sl×MH×PH),a x c)/\∀(c:Nat×Sl×MH×PH),b x d c
noncomputable abbrev gR(a:Nat×Sl×MH×PH):Sl:=a.2.1
noncomputable abbrev eJ(a:Nat×Sl×MH×PH):Nat->Option Obj:=sV a.2
noncomputable abbrev fB(a:Nat×Sl×MH×PH):Nat->Nat->Option Value:=uQ a.2
abbrev Ot(a:dn->(List dl)->Prop):Prop:=∃(x:dn)(c:List dl),a x c
abbrev C0(a:MH)(b:Sl)(c d:Nat)(e:(List dj)->Prop):Prop:=∃(x:List dj),nQ (dC a (cX b) c d x) x 24 (e x)
abbrev Dc(a:dk)(b:Nat×Sl×MH×PH):Prop:=a (CV.tup (bD iO 120)) (eJ b) (fB b)
attribute [push_cast] Fh gR eJ fB Ot C0 Dc
def P8(sc:bX)(p r:Sl)(m:MH)(h:PH)(K:dk):Prop:=
  An sc h (λs=>mY (cQ s !=0) (K (CV.tup (bD iO (cQ s))) m h) (aF p) 1024 (K (CV.tup (bD iO 2)) m h) (fA (aF r) 32 (K (CV.tup (bD iO 2)) m h) (aA (bY 0) (bY (aF p)) (aA (sK p 24) (qU (aF p)) (jN (λz A=>qE m A h z 33 1 []->Fh (λI x=>aA (I x) cW (aA bJ (bA z (gR x)) (aA (aH p) (aY p) (aA (aZ x.1) (bP sc) (bS (eQ (oQ 62 (iU (jR p) (jR r)))) A (eJ x) h (fB x)))))) (λI B x=>I x->aW (↑x.1:Int) (aF p) (aJ (λb o=>aI (aK p.a b o) (0<=(↑x.1:Int)) ((↑x.1:Int)<aF p) (∃(y:gA),aR (eJ x) (fB x) b (bE o x.1 22) y.enc/\EM (λC k=>∃(v:gA)(j:lL),Ot (λD n=>∃(t:Step),aA (cV (cD sc) (fP (gR x) (gV y.enc))=cV (cD C) (fP k (gV v.enc)))
 (fR (fB x) j C) (aA (nM j) (kW (fB x) t v) (aI (dC (eJ x) k 33 1 (iA D)) (Slices (fB x) D n) (∀(E:dl),List.Mem E n->E.length<=12) (∀(g:dl×Int),fin g=sD j n t->fT (λu e=>dN (fB x) e (Ints e u g.1) (mY (g.2 !=0) (K (CV.tup (bD iO g.2)) (eJ x) e) (aF u) 12 (K (CV.tup (bD iO 2)) (eJ x) e) (C0 (eJ x) (gR x) 33 1 (λc=>jN (λF f=>dY (eJ x) f (cX (gR x)) F 33 1 (eG c (aM u))->∃(d:Nat×Sl×MH×PH),aA (I d) (B d<B x) (aA cW bJ (aA (bA F (gR d)) (aH p) (aA (aY p) (eR (bF ((↑x.1:Int)+1))=bL d.1) (rZ (bP sc) (eQ (oQ 62 (iU (jR p) (jR r)))) f (eJ d) e (fB d)))))))))))))))))) (Fh (λI1 c=>aA (I1 c) bJ (aA (bA
 (gR x) (gR c)) (aH r) (aA (aY r) (aZ c.1) (aA (eQ (oQ 62 (iU (jR p) (jR r)))) (eJ x=eJ c) (bR (fB x) (fB c)))))) (λI1 f c=>I1 c->aW (↑c.1:Int) (aF r) (aJ (λb o=>aI (aK r.a b o) (0<=(↑c.1:Int)) ((↑c.1:Int)<aF r) (∃(y:Int),aR (eJ c) (fB c) b (bE o c.1 1) (bQ y)/\aW y 0 (Dc K c) (eK y (aF p) (Dc K c) (∃(d:Nat×Sl×MH×PH),aA (I1 d) (f d<f c) (aA bJ (bA (gR c) (gR d)) (aA (aH r) (aY r) (aA (eR (bF ((↑c.1:Int)+1))=bL d.1) (eQ (oQ 62 (iU (jR p) (jR r)))) (bG (eJ c) (eJ d) (fB c) (fB d)))))))))) (hJ K (gR c) (eJ c) (fB c)))))))))))
theorem cyZ(h:cQ s=0):nM s:=λt c=>by
 obtain⟨i,d⟩:=mem_iff_getElem?.1 c;have e:CD s:=Classical.byContradiction λf=>by rw[sS f]at h;cases h
 exact(e.2 i t d).1
structure U9(m0 m:MH)(h:PH)(kk:Sl)(ks:List dl):Prop where
 sub:Sub m0 m
 fresh:∀b i,kk.a=some ⟨b,i,none⟩->m0 b=none
 ex:∃ss,dC m kk 33 1 (ss.map eS)/\Slices h ss ks
 le12:∀k∈ks,k.length<=12
theorem U9.nil(m0:MH)(h:PH):U9 m0 m0 h ⟨none,0,0⟩ []:=⟨Sub.refl _,(λb i e=>(by cases e)),⟨[],⟨⟨λ_ h=>by simp at h,λ_ h=>by simp at h⟩,.inl ⟨rfl,rfl⟩⟩,rfl,λj s k e=>by simp at e⟩,λk c=>by simp at c⟩
theorem U9.new{s:Sl}(x:qE m m' h s 33 1 []):U9 m m' h s []:=by
 refine⟨λb o e=>?_,λb i e=>(x.fresh b i e).m_,⟨[],x.row,rfl,λj s k e=>by simp at e⟩,λk c=>by simp at c⟩;rw[x.other b (λi d=>by have:=(x.fresh b i d).m_;grind)];exact e
theorem U9.grown{m0:MH}{kk sl:Sl}{k:dl}(r:U9 m0 m h kk ks)(le:PH.le h h')(u:Ints h' sl k)(C:k.length<=12):
 ∃xs,dC m ⟨kk.a,kk.len,kk.cap⟩ 33 1 xs/\xs.length=ks.length/\∀d m',dY m m' ⟨kk.a,kk.len,kk.cap⟩ d 33 1 (xs++[[.slice sl.a sl.len sl.cap]])->U9 m0 m' h' d (ks++[k]):=by
 obtain⟨y,z,f⟩:=r.ex;refine⟨_,z,by rw[length_map,f.1],λd m' g=>⟨λb o e=>g.other b o (r.sub b o e) (λi c=>?_),λb i e=>?_,⟨y++[sl],?_,(f.mono le).snoc u⟩,λx A=>?_⟩⟩
 .rw[r.fresh b i c]at e;cases e
 .rcases g.fresh b i e with c|⟨j,c⟩
  .cases B:m0 b with
   |none=>rfl
   |some o=>rw[r.sub b o B]at c;cases c
  .exact r.fresh b j c
 .rw[cv];exact g.row
 .rcases mem_append.1 A with n|n
  .exact r.le12 x n
  grind
theorem Steps.at'{p:Sl}{vs:List gA}(r:cE h p 22 (vs.map gA.enc))(s:Steps h vs ts)(c:ts[i]? =some t):∃b o v,p.a=some ⟨b,o,none⟩/\bZ h b (o+i*22) (gA.enc v)/\kW h t v:=by
 obtain⟨v,d,f⟩:=s.2 i t c;obtain⟨b,o,e,k⟩:=r.get (i:=i) (e:=gA.enc v) (by simp[d])
 grind
theorem Steps.slen'{p:Sl}{vs:List gA}(r:cE h p 22 (vs.map gA.enc))(s:Steps h vs ts):p.len=ts.length:=by
 have:=r.len;simp at this;rw[this,s.1]
theorem jV.at{p:Sl}(x:jV h p r ts rs)(c:ts[i]? =some t):∃b o v,p.a=some ⟨b,o,none⟩/\bZ h b (o+i*22) (gA.enc v)/\kW h t v:=by
 obtain⟨f,d,e⟩:=x.steps;exact Steps.at' d e c
theorem jV.slen{p:Sl}(x:jV h p r ts rs):p.len=ts.length/\p.len<=p.cap:=by
 obtain⟨e,c,d⟩:=x.steps;exact⟨Steps.slen' c d,c.cap⟩
theorem jV.mono{p:Sl}(x:jV h p r ts rs)(le:PH.le h h'):jV h' p r ts rs:=by
 obtain⟨c,d,f,g⟩:=x.steps;exact⟨⟨c,d.mono le,f,λi t e=>let⟨v,e1,e2⟩:=g i t e;⟨v,e1,e2.mono le⟩⟩,x.roots.mono le,x.len⟩
theorem aNJ(r:dl×Int):(r.2≠0/\fin r=eN r.2)\/(r.2=0/\12<r.1.length/\fin r=eN 2)\/(r.2=0/\r.1.length<=12/\fin r=(r.1,0)):=by
 unfold fin;by_cases h:r.2=0
 .rw[if_pos h];unfold nI;by_cases c:r.1.length<=12
  .grind
  .rw[if_neg c];exact .inr (.inl ⟨h,aC,rfl⟩)
 grind
theorem IC{s:lL}{ts:dv}{rs:dl}(c:cQ s=0)(d:¬(1024<ts.length\/32<rs.length)):eE s ts rs=if(rR s [] ts).2≠0 then(rR s [] ts).2 else if rs.all (λr=>decide (0<=r)&&decide (r<ts.length))=true then 0 else 120:=by
 unfold eE;omega
theorem Gl(d:ts[i]? =some t):rR s ks (ts.drop i)=if(sD s ks t).2=0 then rR s (ks++[(sD s ks t).1]) (ts.drop (i+1))else(ks,(sD s ks t).2):=by
 have c:=(List.getElem?_eq_some_iff.1 d)
 obtain⟨c,e⟩:=c;rw[drop_eq_getElem_cons c,e];rfl
theorem aTQ:di 38 FU:=by
 refine DS func38 ?_;rintro Y m h K ⟨sc,p,r,s,ts,rs,rfl,R,x,hK⟩;refine⟨b3Q sc p r,rfl,aE Ih (aE aPX aG),P8 sc p r m h (jF h K),bu,?_⟩;show P8 sc p r m h (jF h K);dsimp only[P8,push_cast];have Z:=x.slen.1;have rl:=x.roots.slen;have S:=x.len;have T:=x.roots.len;have done:∀{y:MH}{n:PH}{e:Int}{kk:Sl},Sub m y->PH.le h n->eE s ts rs=e->jF h K (.tup [cS kk,cI e]) y n:=fun{y n e kk} C J U=>.out C J cg;refine⟨sc,s,rfl,R,aB (λC=>?_) (λC=>?_)⟩
 .have C:cQ s≠0:=cg
  exact done (kk:=⟨none,0,0⟩) (Sub.refl m) (.refl _) (by unfold eE;omega)
 have C:cQ s=0:=cg
 refine aD (λJ=>?_) (λJ=>aD (λU=>?_) (λU=>⟨aC,aC,aC,aC,λk0 m1 L=>?_⟩))
 .exact done (kk:=⟨none,0,0⟩) (Sub.refl m) (.refl _) (by unfold eE;omega)
 .exact done (kk:=⟨none,0,0⟩) (Sub.refl m) (.refl _) (by unfold eE;omega)
 have z:=IC (s:=s) (ts:=ts) (rs:=rs) C aC;refine⟨λ⟨i,kk,y,n⟩=>i<=ts.length/\PH.le h n/\∃ks,U9 m y n kk ks/\ks.length=i/\rR s ks (ts.drop i)=rR s [] ts,λ⟨i,_⟩=>ts.length-i,⟨(0,k0,m1,h),⟨aC,.refl _,[],.new L,rfl,rfl⟩,MT⟩,?_⟩;rintro⟨i,kk,y,n⟩ ⟨hi,d,ks,f,M,c⟩;dsimp only;refine aD (λu=>?_) (λO=>?_)
 .obtain⟨t,V⟩:=dO Z u;obtain⟨b,o,v,e,rd,rv⟩:=(x.mono d).at V;obtain⟨ss,hm,P⟩:=f.ex;rw[Gl V]at c;refine⟨b,o,e,aC,u,v,.imm rd,sc,kk,v,s,ss,ks,t,rfl,R.mono d,cyZ C,rv,hm,P,f.le12,λq D sl h' A G=>?_⟩;have a':=G.slen;rcases aNJ q with⟨E,H⟩|⟨E,H,I⟩|⟨E,H,I⟩
  .rw[D]at H;rw[H,if_neg (by simpa[eN]using E)]at c;refine aB (λ_=>done (kk:=⟨none,0,0⟩) f.sub (d.trans A) ?_) (λF=>?_)
   .rw[z, <-c,if_pos (by simpa[eN]using E)];rfl
   grind
  .rw[D]at I;rw[I,if_neg (by simp[eN])]at c;refine aB (λF=>absurd E cg) (λ_=>aD (λ_=>done (kk:=⟨none,0,0⟩) f.sub (d.trans A) ?_) (λF=>by omega));rw[z, <-c,if_pos (by simp[eN])];rfl
  .rw[D]at I;rw[I,if_pos rfl]at c;refine aB (λF=>absurd E cg) (λ_=>aD (λF=>by omega) (λ_=>?_));obtain⟨xs,Q,a0,hg⟩:=f.grown A G H;exact⟨xs,Q,aC,aC,λW m' g=>⟨(i+1,W,m',h'),⟨aC,d.trans A,ks++[q.1],hg W m' g,by simp[M],c⟩,aC,MT⟩⟩
 have X:ts.drop i=[]:=drop_of_length_le aC;rw[X]at c;have h0:(rR s [] ts).2=0:=by rw[<-c];rfl
 rw[h0,if_neg bz]at z;clear c X;refine⟨λ⟨j,k',m',h'⟩=>j<=rs.length/\k'=kk/\m'=y/\h'=n/\(rs.take j).all (λr=>decide (0<=r)&&decide (r<ts.length))=true,λ⟨j,_⟩=>rs.length-j,⟨(0,kk,y,n),⟨aC,rfl,rfl,rfl,bx⟩,MT⟩,?_⟩;rintro⟨j,kk,y,n⟩ ⟨hj,rfl,rfl,rfl,B⟩;dsimp only;refine aD (λu=>?_) (λO=>?_)
 .obtain⟨q,D⟩:=dO rl u;obtain⟨b,o,e,rd⟩:=(x.roots.mono d).at' D
  have bad:¬(0<=q/\q<ts.length)->eE s ts rs=120:=λhn=>by
   rw[z,if_neg];intro e2;have:=all_eq_true.1 e2 q (cr D)
   grind
  refine⟨b,o,e,aC,u,q,.imm rd,aD (λF=>done (kk:=⟨none,0,0⟩) f.sub d (bad aC)) (λF=>aD (λh5=>done (kk:=⟨none,0,0⟩) f.sub d (bad aC)) (λh5=>⟨(j+1,kk,y,n),⟨aC,rfl,rfl,rfl,?_⟩,aC,MT⟩))⟩;rw[yX D,B,Bool.true_and,cz]
  grind
 .rw[cu aC]at B;exact done f.sub d cg
def kV(t:Step):dl:=[t.left,t.right].take (arity t.op).toNat
def ceZ:Query:=.mk 0 0 gM [] [] [] [] 0 []
def B7:Nat->dv->Nat->Query
 |0,_,_=>ceZ
 |n+1,ts,i=>match ts[i]? with
  |none=>ceZ
  |some t=>.mk t.op t.table t.wher t.columns t.on t.group t.order t.limit ((kV t).map λa=>B7 n ts a.toNat)
def bB(ts:dv)(i:Nat):Query:=B7 (i+1) ts i
def nH(ts:dv):Prop:=∀(i:Nat) t,ts[i]? =some t->0<=arity t.op/\∀a∈kV t,0<=a/\a<i
theorem K3{ts:dv}(ok:nH ts):∀(n c i:Nat),i<n->i<c->B7 n ts i=B7 c ts i
 |0,_,_,h,_=>by omega
 |_+1,0,_,_,h=>by omega
 |n+1,c+1,i,f,g=>by
  simp only[B7];cases e:ts[i]? with
  |none=>rfl
  |some t=>
   have:(kV t).map (λa=>B7 n ts a.toNat)=(kV t).map (λa=>B7 c ts a.toNat):=map_congr_left λa d=>by
    have:=(ok i t e).2 a d;exact K3 ok n c a.toNat aC aC
   grind
def rJ(ts:dv)(t:Step):ds:=(kV t).map λa=>bB ts a.toNat
theorem iC(ok:nH ts)(c:ts[i]? =some t):bB ts i= .mk t.op t.table t.wher t.columns t.on t.group t.order t.limit (rJ ts t):=by
 unfold bB;simp only[B7,c]
 have:(kV t).map (λa=>B7 i ts a.toNat)=rJ ts t:=map_congr_left λa d=>by
  have:=(ok i t c).2 a d;exact K3 ok _ _ _ aC aC
 rw[this]
mutual
def dpQ:Query->Int
 |.mk _ _ _ _ _ _ _ _ args=>1+Qv args
def Qv:ds->Int
 |[]=>0
 |p::ps=>max (dpQ p) (Qv ps)
end
theorem Xq:∀ps:ds,0<=Qv ps
 |[]=>by simp[Qv]
 |p::ps=>by have:=Xq ps;simp only[Qv];omega
mutual
theorem Qw:∀(p:Query)(k:Nat),oJ p k=true↔(k:Int)<dpQ p
 |.mk _ _ _ _ _ _ _ _ args,0=>by have:=Xq args;simp only[oJ,dpQ,true_iff];omega
 |.mk _ _ _ _ _ _ _ _ args,k+1=>by simp only[oJ,dpQ];rw[Ns args k];omega
theorem Ns:∀(ps:ds)(k:Nat),tC ps k=true↔(k:Int)<Qv ps
 |[],k=>by simp only[tC,Qv,Bool.false_eq_true,false_iff];omega
 |p::ps,k=>by simp only[tC,Qv,Bool.or_eq_true];rw[Qw p k,Ns ps k];omega
end
theorem LA:uT q=true↔NQ q<=24/\dpQ q<=8:=by
 rw[<-G8,(Jv q 8 0 aC).1];have:=Qw q 8
 grind
theorem PF{n:Int}(h:l8 n){b:UInt8}(c:b∈l7 n):b≠32:=by
 intro e;subst e;by_cases f:0<=n
 .rw[DZ h f]at c;have:=UO _ _ c;simp at this
 .rw[D0 h aC]at c;rcases mem_cons.1 c with d|d
  .cases d
  .have:=UO _ _ d;simp at this
theorem rN(n:Int)(l:dl):kN (n::l)=l7 n++32::kN l:=by unfold kN;grind
theorem mU{m n:Int}{r r':dw}(d:l8 m)(e:l8 n)(h:l7 m++32::r=l7 n++32::r'):m=n/\r=r':=by
 obtain⟨f,g⟩:=VB (λc=>PF d c rfl) (λc=>PF e c rfl) h;exact⟨aMX d e f,g⟩
theorem CQ(p:Int×Int)(l:dq):oL (p::l)=l7 p.1++32::(l7 p.2++32::oL l):=by
 show kN [p.1,p.2]++oL l=_;rw[rN,rN,append_assoc,cons_append,append_assoc];rfl
theorem CL(p:Int×Bool)(l:dr):rT (p::l)=l7 p.1++32::(l7 (if p.2 then 1 else 0)++32::rT l):=by
 show kN [p.1,if p.2 then 1 else 0]++rT l=_;rw[rN,rN,append_assoc,cons_append,append_assoc];rfl
structure XS(o:OV):Prop where
 kind_:l8 o.kind
 index_:l8 o.index
 vkind_:l8 o.value.kind
 int_:l8 o.value.int
 text_:o.value.text.size<=64
mutual
def IK:Pred->Prop
 |.mk op c l r args=>l8 op/\l8 c/\XS l/\XS r/\args.length<=8000000/\MN args
def MN:dx->Prop
 |[]=>True
 |p::ps=>IK p/\MN ps
end
theorem Oy{n:Nat}(h:n<=8000000):l8 (n:Int):=⟨aC,aC⟩
theorem I0{o o':OV}{r r':dw}(d:XS o)(e:XS o')(h:F7 o++r=F7 o'++r'):o=o'/\r=r':=by
 have z:kN []=[]:=rfl;simp only[F7,yW,rN,z,append_assoc,cons_append,nil_append]at h;obtain⟨j,h⟩:=mU d.kind_ e.kind_ h;obtain⟨n,h⟩:=mU d.index_ e.index_ h;obtain⟨u,h⟩:=mU d.vkind_ e.vkind_ h;obtain⟨x,h⟩:=mU d.int_ e.int_ h;obtain⟨y,h⟩:=mU (Oy (by have:=d.text_;omega)) (Oy (by have:=e.text_;omega)) h;have y:o.value.text.size=o'.value.text.size:=by omega
 obtain⟨f,A⟩:=append_inj h (by rw[Array.length_toList,Array.length_toList];exact y);refine⟨?_,A⟩;obtain⟨k,i,⟨D,E,g⟩⟩:=o;obtain⟨F,G,⟨B,C,c⟩⟩:=o';obtain⟨g⟩:=g;obtain⟨c⟩:=c;simp only at j n u x f;have f:g=c:=Array.toList_inj.1 f;subst j n u x f;rfl
mutual
theorem Nc:∀{p c:Pred}{r r':dw},IK p->IK c->mS p++r=mS c++r'->p=c/\r=r'
 |.mk op f l J args,.mk g e L j d,r,r',n,o,h=>by
  obtain⟨u,x,y,z,A,B⟩:=n;obtain⟨C,D,E,F,G,H⟩:=o;have I:kN []=[]:=rfl;simp only[mS,rN,I,append_assoc,cons_append,nil_append]at h;obtain⟨M,h⟩:=mU u C h;obtain⟨O,h⟩:=mU x D h;obtain⟨P,h⟩:=I0 y E h;obtain⟨Q,h⟩:=I0 z F h;obtain⟨R,h⟩:=mU (Oy A) (Oy G) h;obtain⟨S,T⟩:=JL B H aC h
  grind
theorem JL:∀{ps c:dx}{r r':dw},MN ps->MN c->ps.length=c.length->lA ps++r=lA c++r'->ps=c/\r=r'
 |[],[],r,r',_,_,_,h=>⟨rfl,by simpa[lA]using h⟩
 |[],_::_,_,_,_,_,d,_=>by simp at d
 |_::_,[],_,_,_,_,d,_=>by simp at d
 |p::ps,g::c,r,r',e,f,d,h=>by
  simp only[lA,append_assoc]at h;obtain⟨j,h⟩:=Nc e.1 f.1 h;obtain⟨n,o⟩:=JL e.2 f.2 cg h
  grind
end
structure F3(t:Step):Prop where
 wher:IK t.wher
 cols:∀n∈t.columns,l8 n
 on_:∀p∈t.on,l8 p.1/\l8 p.2
 group_:∀n∈t.group,l8 n
 order_:∀p∈t.order,l8 p.1
theorem kT{n:Int}(c: -8000000<=n)(d:n<=8000000):l8 n:=⟨aC,aC⟩
theorem Bs:l8 0:=⟨bz,bz⟩
theorem tM:XS dG:=⟨Bs,Bs,Bs,Bs,bz⟩
theorem a0Z{v:VV}(h:X2 v zeroV=true):v=zeroV:=FN.1 h
theorem XE{o:OV}(h:qB l o≠0)(f:l.length<=8000000)(d:l8 o.kind):XS o:=by
 unfold qB at h;split at h
 .omega
 .rename_i c;simp only[Bool.or_eq_true,not_or,Bool.not_eq_true',Bool.not_eq_false,dc]at c;have e:=a0Z c.2;refine⟨d,kT aC aC,?_,?_,?_⟩
  all_goals rw[e]
  .exact tM.vkind_
  .exact tM.int_
  .exact tM.text_
theorem aFZ{t:ByteArray}(h:t.toList=(⟨#[]⟩:ByteArray).toList):t.size<=64:=by rw[nV h];decide
theorem Pm{t:ByteArray}(h:DI t=true):t.size<=64:=aFZ (by simp only[DI,beq_iff_eq]at h;rw[h,ByteArray.toList_eq])
theorem X8{v:VV}(h:jW v=true):v.text.size<=64:=by
 unfold jW at h;split at h
 .simp only[cz]at h;exact Pm h.2
 .split at h
  .simp only[cz]at h;exact Pm h.2
  .split at h
   .exact Pm h
   .split at h
    .simp at h;omega
    .cases h
theorem V7{cols params:dl}{o:OV}(h:kindOf cols params o≠0)(g:cols.length<=8000000)(j:params.length<=8000000)(n:l8 o.value.int):XS o:=by
 unfold kindOf at h;split at h
 .rename_i d;have d:o.kind=3:=cg
  split at h
  .omega
  .rename_i f;simp only[Bool.or_eq_true,not_or,Bool.not_eq_true',Bool.not_eq_false,bne_iff_ne,ne_eq,Classical.not_not,jH,cz,dc]at f;refine⟨kT aC aC,kT aC aC,?_,n,X8 f.2.1⟩;have c:=f.2.1;unfold jW at c;split at c
   .grind
   .split at c
    .rename_i e;simp at e;exact kT aC aC
    .split at c
     .rename_i e;simp at e;exact kT aC aC
     .split at c
      .rename_i e;simp at e;exact kT aC aC
      .cases c
 .split at h
  .rename_i d;simp at d;exact XE h j (kT aC aC)
  .split at h
   .rename_i d;simp at d;exact XE h g (kT aC aC)
   omega
theorem Gi:∀ps:dx,(ps.length:Int)<=CH ps
 |[]=>by simp[CH]
 |p::ps=>by
  have:=Gi ps;have:1<=RA p:=by cases p;rename_i a;have:=Gi a;simp only[RA];omega
  simp only[CH,de];omega
theorem bRQ(p:Pred):1<=RA p:=by cases p;rename_i a;have:=Gi a;simp only[RA];omega
mutual
def wX:Pred->Prop
 |.mk _ _ l r args=>l8 l.value.int/\l8 r.value.int/\GZ args
def GZ:dx->Prop
 |[]=>True
 |p::ps=>wX p/\GZ ps
end
theorem sU:∀{l:dx},GZ l↔∀p∈l,wX p
 |[]=>by simp[GZ]
 |p::ps=>by simp[GZ,sU (l:=ps)]
def QN(q:Query):Prop:=
 match q with
 |.mk _ _ w _ _ _ _ _ args=>wX w/\∀a∈args,QN a
 termination_by SizeOf.sizeOf q
theorem a9Q{op:Int}{on:dq}{args:ds}:
 QN (.mk op ta w co on gr od li args)↔wX w/\∀a∈args,QN a:=by rw[QN.eq_def]
mutual
theorem DD.num:∀{p:Pred},DD p->wX p
 |.mk ..,h=>⟨h.1.int_,h.2.1.int_,FR.num h.2.2⟩
theorem FR.num:∀{l:dx},FR l->GZ l
 |[],_=>trivial
 |_::_,h=>⟨DD.num h.1,FR.num h.2⟩
end
theorem QW.num:∀{q:Query},QW q->QN q
 |.mk op ta w co on gr od li args,h=>by
  rw[Ul]at h;rw[a9Q];exact⟨h.1.num,λa c=>QW.num (h.2 a c)⟩
 termination_by q=>SizeOf.sizeOf q
 decreasing_by
  have:=sizeOf_lt_of_mem c;simp only[Query.mk.sizeOf_spec];omega
mutual
theorem Vq{cols params:dl}(c:cols.length<=8000000)(d:params.length<=8000000):∀p:Pred,iP cols params p=true->wX p->RA p<=1000->IK p
 |.mk op n l r args,h,w,o=>by
  have u:=Gi args;simp only[RA]at o;unfold iP at h;split at h
  .rename_i e;simp only[cz,Ej,beq_iff_eq]at h;have:args=[]:=eq_nil_of_length_eq_zero h.2;subst this;have f:=rB.1 h.1.1.2;have g:=rB.1 h.1.2;subst f g;have j:op=1\/op=2:=cm e
   exact⟨kT aC aC,by rw[h.1.1.1];exact Bs,tM,tM,bx,trivial⟩
  .split at h
   .rename_i e;simp only[cz,beq_iff_eq,bne_iff_ne,ne_eq,dc]at h;have:args=[]:=eq_nil_of_length_eq_zero h.1.1.1.1;subst this;have j:op=3:=cm e
    exact⟨kT aC aC,kT aC aC,V7 h.1.2 c d w.1,V7 (cols:=cols) (params:=params) aC c d w.2.1,bx,trivial⟩
   .split at h
    .rename_i e;simp only[cz,Ej,beq_iff_eq]at h;have f:=rB.1 h.1.1.2;have g:=rB.1 h.1.2;subst f g
     have j:op=4\/op=5\/op=6:=by
      grind
     exact⟨kT aC aC,by rw[h.1.1.1];exact Bs,tM,tM,aC,Rx c d args h.2 w.2.2 aC⟩
    .cases h
theorem Rx{cols params:dl}(c:cols.length<=8000000)(d:params.length<=8000000):∀ps:dx,w9 cols params ps=true->GZ ps->CH ps<=1000->MN ps
 |[],_,_,_=>trivial
 |p::ps,h,w,e=>by
  simp only[w9,cz]at h;have f:=bRQ p;have g:=Gi ps;simp only[CH]at e;exact⟨Vq c d p h.1 w.1 aC,Rx c d ps h.2 w.2 aC⟩
end
theorem cpZ{cols params:dl}(h:fH cols params p=0)(c:cols.length<=8000000)(d:params.length<=8000000)(w:wX p):IK p:=by
 unfold fH at h;split at h
 .cases h
 .split at h
  .cases h
  .rename_i e;split at h
   .cases h
   .rename_i g;have f:iP cols params p=true:=cg
    simp only[Bool.or_eq_true,not_or,dc]at e;have j:=He p 0 aC
    have:RA p<=24:=by
     omega
    exact Vq c d p f w aC
theorem cmZ:IK gM:=⟨Bs,Bs,tM,tM,bz,trivial⟩
def bLQ:Query->Prop
 |.mk _ _ w co on gr od _ _=>IK w/\(∀n∈co,l8 n)/\(∀p∈on,l8 p.1/\l8 p.2)/\(∀n∈gr,l8 n)/\∀p∈od,l8 p.1
def QI(q:Query):Prop:=
 match q with
 |.mk op ta w co on gr od li args=>bLQ (.mk op ta w co on gr od li [])/\∀a∈args,QI a
 termination_by SizeOf.sizeOf q
theorem O2{op:Int}{on:dq}{args:ds}:
 QI (.mk op ta w co on gr od li args)↔bLQ (.mk op ta w co on gr od li [])/\∀a∈args,QI a:=by rw[QI.eq_def]
theorem Ic{α:Type}{T:List α->α->Prop}{l:List α}{P:α->Prop}(h:Good T l)(d:∀c x,T c x->P x):∀x∈l,P x:=λx e=>by
 obtain⟨j,f⟩:=mem_iff_getElem?.1 e;exact d _ _ (h j x f)
theorem Wf{n:Int}(c:l.length<=1000)(h:F0 l n=true):l8 n:=by
 have:=eV.1 h;exact kT aC aC
theorem cqX{s:lL}{ps:dl}{op ta:Int}{w:Pred}{co:dl}{on:dq}{gr:dl}{od:dr}{li:Int}{args:ds}{a b:dl}(G:a.length<=12)(H:b.length<=12)(o:ps.length<=1000)(u:wX w)(h:(eU s ps (.mk op ta w co on gr od li args) a b).2=0):
 bLQ (.mk op ta w co on gr od li []):=by
 unfold eU at h;dsimp only at h;split at h
 .simp[eN]at h
 .rename_i f;rw[not_or]at f;have y:dU (.mk op ta w co on gr od li args):=Classical.not_not.1 f.2;obtain⟨_,z,A,B,C⟩:=y
  have D:IK w:=by
   rcases z with rfl|rfl
   .simp only[show¬((2:Int)=1)by decide,if_false,if_true]at h;split at h
    .rename_i e;exact cpZ e aC aC u
    .rename_i e;simp[eN]at h;omega
   .exact cmZ
  have E:∀n∈co,l8 n:=by
   rcases A with rfl|rfl
   .simp only[show¬((3:Int)=1)by decide,show¬((3:Int)=2)by decide,if_false,if_true]at h;split at h
    .rename_i e;exact Ic e.2 λc x t=>Wf aC t
    .simp[eN]at h
   grind
  have F:∀p∈on,l8 p.1/\l8 p.2:=by
   have d:Good (uS a b) on->∀p∈on,l8 p.1/\l8 p.2:=λg=>Ic g λc x t=>⟨Wf aC t.1,Wf aC t.2.1⟩
   rcases B with rfl|rfl|rfl
   .simp only[show¬((4:Int)=1)by decide,show¬((4:Int)=2)by decide,show¬((4:Int)=3)by decide,if_false,if_true]at h;split at h
    .grind
    .simp[eN]at h
   .simp only[show¬((5:Int)=1)by decide,show¬((5:Int)=2)by decide,show¬((5:Int)=3)by decide,show¬((5:Int)=4)by decide,if_false,if_true]at h;split at h
    .grind
    .simp[eN]at h
   grind
  have j:(∀n∈gr,l8 n)/\∀p∈od,l8 p.1:=by
   have d:rF a gr od li->(∀n∈gr,l8 n)/\∀p∈od,l8 p.1:=λr=>⟨Ic r.group_ λc x t=>Wf aC t.1,Ic r.order_ λc x t=>Wf aC t⟩
   rcases C with rfl|rfl|⟨rfl,rfl,_⟩
   .simp only[show¬((9:Int)=1)by decide,show¬((9:Int)=2)by decide,show¬((9:Int)=3)by decide,show¬((9:Int)=4)by decide,show¬((9:Int)=5)by decide,if_false,if_true]at h;split at h
    .grind
    .simp[eN]at h
   .simp only[show¬((10:Int)=1)by decide,show¬((10:Int)=2)by decide,show¬((10:Int)=3)by decide,show¬((10:Int)=4)by decide,show¬((10:Int)=5)by decide,show¬((10:Int)=9)by decide,if_false,if_true]at h;split at h
    .grind
    .simp[eN]at h
   grind
  exact⟨D,E,F,j.1,j.2⟩
theorem apQ{s:lL}{ps:dl}(c:ps.length<=1000):∀q:Query,(bM s ps q).2=0->QN q->QI q
 |.mk op ta w co on gr od li args,h,d=>by
  obtain⟨f,o,a,b,g,j,n⟩:=B5 h;rw[a9Q]at d;rw[O2];exact⟨cqX g j c d.1 n,λq e=>apQ c q (f q e) (d.2 q e)⟩
theorem bUQ{s:lL}{ps:dl}(c:ps.length<=1000):∀q:Query,(bM s ps q).2=0->QW q->QI q
 |q,h,d=>apQ c q h d.num
theorem Vw:∀{l:ds}{a:Query},a∈l->NQ a<=wZ l/\dpQ a<=Qv l
 |x::l,a,h=>by
  have c:=sR l;have d:=NP x;rcases mem_cons.1 h with rfl|h
  .simp only[wZ,Qv];omega
  .have:=Vw h;simp only[wZ,Qv];omega
def nW(i:Nat)(t:Step):Prop:=oI t.left (decide (arity t.op>0)) i=true/\oI t.right (decide (arity t.op>1)) i=true
theorem GM(g:0<=arity t.op)(h:nW i t):∀a∈kV t,0<=a/\a<i:=by
 intro a c;have j:=vO t.op;obtain⟨e,f⟩:=h;unfold kV at c;obtain⟨n,d⟩:∃n:Nat,arity t.op=n:=⟨(arity t.op).toNat,aC⟩
 rw[d,Int.toNat_natCast]at c;unfold oI at e f
 match n,d,c with
 |0,_,c=>simp at c
 |1,d,c=>
  grind
 |2,d,c=>
  grind
 |n+3,d,_=>omega
theorem AV{c:dv}(g:ts<+:c)(ok:nH c):∀i,i<ts.length->bB c i=bB ts i:=by
 have d:nH ts:=λi t e=>ok i t (IY g e);intro i
 induction i using Nat.strongRecOn with
 |_ i o=>
  intro j;have f:ts[i]? =some ts[i]:=cq j;rw[iC d f,iC ok (IY g f)]
  have:rJ c ts[i]=rJ ts ts[i]:=map_congr_left λa n=>by
   have:=(d i _ f).2 a n
   grind
  rw[this]
theorem PQ(h:nW i t):(arity t.op=0->t.left=0)/\(arity t.op<=1->t.right=0):=by
 obtain⟨c,d⟩:=h;unfold oI at c d
 grind
theorem Yo(s:lL)(ps:dl)(op ta:Int)(w:Pred)(co:dl)(on:dq)(gr:dl)(od:dr)(li:Int)(args:ds)(a b:dl):eU s ps (.mk op ta w co on gr od li args) a b=eU s ps (.mk op ta w co on gr od li []) a b:=by
 unfold eU;rfl
theorem QJ{n:Nat}{a:Int}(c:0<=a)(d:a<n):uM ((List.range n).map λj=>(bM s [] (bB ts j)).1) a true=(bM s [] (bB ts a.toNat)).1:=by
 unfold uM
 grind
def bHQ:Vc.Spec:=λc m h K=>∃cb,c=[cP cb]/\aU m h cb/\∀n m',bK m m' cb->aU m' h cb->K (cI n) m' h
def cHX:Vc.Spec:=λc m h K=>∃cb,c=[cP cb]/\aU m h cb/\∀v m',l8 v.int->bK m m' cb->aU m' h cb->K (aV v) m' h
def NM(p:Pred):Prop:=(mS p).length<=1000000000
def cDZ(N:Nat):Vc.Spec:=λc m h K=>∃cb v p,c=[cP cb,aP v]/\aU m h cb/\dX h p v/\NM p/\wX p/\SizeOf.sizeOf p<N/\∀d e m' h',PH.le h h'->dX h' d e->wX d->bK m m' cb->aU m' h' cb->K (aP e) m' h'
def cDJ:Vc.Spec:=λc m h K=>∃cb v p,c=[cP cb,aP v]/\aU m h cb/\dX h p v/\NM p/\wX p/\∀d e m' h',PH.le h h'->dX h' d e->wX d->bK m m' cb->aU m' h' cb->K (aP e) m' h'
noncomputable def f51_ctx(N:Nat)(cb:Nat)(v:PV)(h:PH):Ctx:=
 rI [(12,Ea),(13,G6),(50,bHQ),(54,cHX),(51,cDZ N)]
  [(28,{A:=Nat×PV×MH×PH,st:=λ⟨i,w,m,h⟩=>bO 111 113 [(3,.at (.ptr 3 0)),(4,.at (.ptr 4 0)),(7,iv i)] [(3,.cells 32 (w.enc.map .val)),(4,.cells 32 (iJ.enc.map .val))] m h}),
   (9,{A:=Nat×PV×MH×PH,st:=λ⟨i,w,m,h⟩=>bO 111 113 [(3,.at (.ptr 3 0)),(4,.at (.ptr 4 0)),(8,iv i)] [(3,.cells 32 (w.enc.map .val)),(4,.cells 32 (iJ.enc.map .val))] m h})]
  [(7,{A:=Nat×MH,st:=λ⟨_,m⟩=>bO 111 113 [(0,pv cb),(3,.at (.ptr 3 0)),(4,.at (.ptr 4 0))] [(3,.cells 32 (v.enc.map .val)),(4,.cells 32 (iJ.enc.map .val))] m h})] [] [3030,100056,100108] [] false
def ai(cb:Nat)(m:MH)(h:PH)(K:dk):Prop:=
  eW cb 6 m h (λk c=>cO (k==0) (K (fN (Int.negSucc 0)) c h) (k==1) (K (fN 9223372036854775807) c h) (cO (k==2) (K (fN (Int.negSucc 9223372036854775807)) c h) (k==3) (eW cb 3 c h (λd e=>K (fN (bF (100+d))) e h)) (eW cb 6 c h (λd e=>K (fN d) e h))))
noncomputable abbrev Kx(a:Int):dj:=bC (fE a) cF (kH MX)
attribute [push_cast] Kx
def aj(cb:Nat)(m:MH)(h:PH)(K:dk):Prop:=
  eW cb 5 m h (λk c=>aW (bF (1+k)) 3 (K (gV (Kx (bF (1+k)))) c h) (HA cb (bF (1+k)) c h (λv d=>K (gV v.enc) d h)))
noncomputable abbrev xR:Sl:=Sl.mk Option.none 0 0
abbrev Hs(a:Nat)(b:MH)(c:PH)(d:dk)(e:Int->dj):Prop:=∃(x:Nat),aA (uD a=uD x) (aU b c x) (∀(g:Int)(f:MH),lC b f x c (d (gV (e g)) f c))
abbrev Kf(a:Nat)(b:MH)(c:Nat->Nat->Option Value)(d:Nat->VV->Prop):Prop:=∃(x:Nat),aA (uD a=uD x) (aU b c x) (∀(e:VV),d x e)
noncomputable abbrev jY(a:Nat×PV×MH×PH):PV:=a.2.1
noncomputable abbrev Db(a:Nat×PV×MH×PH):Nat->Nat->Option Value:=a.2.2.2
attribute [push_cast] xR Hs Kf jY Db
def ak(N:Nat)(cb:Nat)(v:PV)(m:MH)(h:PH)(K:dk):Prop:=
  ∃(I:Nat×MH->Prop),fA (mG v) 0 (jT cb 2 m h (λc r f=>lC m f c h (branch r (Cp ((0:Nat)=0) (λx=>Cr (cZ 13 x) (cE h xR 13 x) (λy=>aA (cZ 13 y) (nC f h (cX v.args) 13 y) (aA ((none:Option Addr)=Option.none\/0<y.length) (mI x y 136) (mC x y/\eW cb (j7 (x++y)) f h (λk j=>oT k (x++y) (λe=>jZ (x++y) k e/\∃(E:PV),List.take 13 (List.drop 0 e)=E.enc/\∃(B:Nat),qA (λz p=>aA (mJ cb (pZ E)=mJ B (pZ z)) (aU j h B) (aA (dX h p z) (NM p) (aA (wX p) (qP p N) (∀(F:Pred)(g:PV),iM (λC u=>dN h u (dX u F g) (wX F->bK j C B->kI C u B (oT k (x++y) (λD=>aA (jZ (x++y) k D) (13<=D.length) (bU u 13 (xL (x++y) k (bC (fE g.op)
 (fE g.cmp) (bC (zL g) (zM g) (bC (j8 g.left) (xI g) (bC (xJ g) (xM g) (bC (zR g) (zS g) (bC (zT g) (zU g) (tA (iI g.args) 13 D)))))))) (λs G=>K (gV (bC (fE v.op) (fE v.cmp) (bC (zL v) (zM v) (bC (j8 v.left) (xI v) (bC (xJ v) (xM v) (bC (zR v) (zS v) (bC (zT v) (zU v) (aM s)))))))) C G))))))))))))))))) (∃(x:Nat×MH),aA (I x) (dE cb) (aA bJ fI (aA (fM v) mA (aA (f=x.2) (h=h) True))))))) (∃(x:Nat×MH),aA (I x) (dE cb) (aA bJ fI (aA (fM v) mA (aA (m=x.2) (h=h) True))))/\∀(x:Nat×MH),I x->eW cb 9 x.2 h (λk f=>cO (k==0) (Hs cb f h K (λn=>bC (fE n) (fE v.cmp) (bC (zL v) (zM v) (bC (j8 v.left) (xI v) (bC (xJ v) (xM v)
 (bC (zR v) (zS v) (bC (zT v) (zU v) (aM v.args)))))))) (k==1) (Hs cb f h K (λn=>bC (fE v.op) (fE n) (bC (zL v) (zM v) (bC (j8 v.left) (xI v) (bC (xJ v) (xM v) (bC (zR v) (zS v) (bC (zT v) (zU v) (aM v.args)))))))) (cO (k==2) (Hs cb f h K (λn=>bC (fE v.op) (fE v.cmp) (bC (fE n) (zM v) (bC (j8 v.left) (xI v) (bC (xJ v) (xM v) (bC (zR v) (zS v) (bC (zT v) (zU v) (aM v.args)))))))) (k==3) (Hs cb f h K (λn=>bC (fE v.op) (fE v.cmp) (bC (zL v) (fE n) (bC (j8 v.left) (xI v) (bC (xJ v) (xM v) (bC (zR v) (zS v) (bC (zT v) (zU v) (aM v.args)))))))) (cO (k==4) (Kf cb f h (λc z=>∀(j:MH),l8 z.int->bK f j c->kI j h c (K (gV (bC (fE
 v.op) (fE v.cmp) (bC (zL v) (zM v) (bC (j8 v.left) (xI v) (bC (xJ v) (xM v) (bC (zR v) (fE z.kind) (bC (fE z.int) (Value.string z.text) (aM v.args)))))))) j h))) (k==5) (Hs cb f h K (λn=>bC (fE v.op) (fE v.cmp) (bC (zL v) (zM v) (bC (j8 v.left) (xI v) (bC (xJ v) (xM v) (bC (fE n) (zS v) (bC (zT v) (zU v) (aM v.args)))))))) (cO (k==6) (Cp ((0:Nat)=0) (λd=>Cr (cZ 13 d) (cE h xR 13 d) (λy=>aA (cZ 13 y) (nC f h (cX v.args) 13 y) (aA ((none:Option Addr)=Option.none\/0<y.length) (mI d y 136) (nQ (mC d y) (d++y) 136 (bU h 13 (eG (d++y) (Kq (fE 1))) (λs u=>K (gV (bC (fE v.op) (fE v.cmp) (bC (zL v) (zM v) (bC (j8 v.left) (xI v) (bC (xJ v) (xM v)
 (bC (zR v) (zS v) (bC (zT v) (zU v) (aM s)))))))) f u))))))) (k==7) (∃(I1:Nat×PV×MH×PH->Prop)(j:Nat×PV×MH×PH->Nat),(∃(d:Nat×PV×MH×PH),aA (I1 d) bJ (aA fI (aZ d.1) (aA (nK 32 v.enc=nK 32 (jY d).enc) mA (aA (f=d.2.2.1) (h=Db d) True))))/\∀(d:Nat×PV×MH×PH),I1 d->aW (↑d.1:Int) 8 (bU (Db d) 13 (gL (jY d).enc) (λs u=>∃(o:Nat×PV×MH×PH),aA (I1 o) (j o<j d) (aA bJ fI (aA (eR (bF ((↑d.1:Int)+1))=bL o.1) (Ht (cH (fL 6) dV (cH (fL 0) dV (cH dV dV (cH OF dV (cH dV dV (cH (fL 0) OF (kM (jR s)))))))) (jY o).enc) (aA mA (d.2.2.1=o.2.2.1) (bR u o.2.2.2)))))) (K (gV (jY d).enc) d.2.2.1 (Db d))) (∃(I1:Nat×PV×MH×PH
 ->Prop)(j:Nat×PV×MH×PH->Nat),(∃(d:Nat×PV×MH×PH),aA (I1 d) bJ (aA fI (aZ d.1) (aA (nK 32 v.enc=nK 32 (jY d).enc) mA (aA (f=d.2.2.1) (h=Db d) True))))/\∀(d:Nat×PV×MH×PH),I1 d->aW (↑d.1:Int) 24 (aA (bY (mG (jY d))) (mG (jY d)<=mG (jY d)) (aA (BU (mG (jY d)) (jY d).args) ((mG (jY d)).toNat=(mG (jY d)).toNat) (∃(o:List dj),aA (cZ 13 o) (cE (Db d) (Sl.mk (jY d).args.a (mG (jY d)).toNat (mG (jY d)).toNat) 13 o) (aA ((jY d).args.a=Option.none\/(0:Nat)<1) (j4 (nY o 1*136)) (zY o/\bU (Db d) 13 (eG o (Kq (fE 2))) (λs u=>∃(A:Nat×PV×MH×PH),aA (I1 A) (j A<j d) (aA bJ fI (aA (eR (bF
 ((↑d.1:Int)+1))=bL A.1) (Ht (sG (jY d).op (jY d).cmp (jY d).left (cH (fL (kU (jY d).left)) (fL (p7 (jY d).left)) (cH (lD (jY d).left) (fL (jY d).right.kind) (cH (xO (jY d).right) (fL (kU (jY d).right)) (cH (fL (p7 (jY d).right)) (lD (jY d).right) (kM (jR s))))))) (jY A).enc) (aA mA (d.2.2.1=A.2.2.1) (bR u A.2.2.2)))))))))) (K (gV (jY d).enc) d.2.2.1 (Db d)))))))
theorem O6:∀l:dx,l.length<=(lA l).length
 |[]=>bx
 |.mk op c l r args::ps=>by
  have:=O6 ps;have d:1<=(kN [op,c]).length:=by simp[kN];omega
  simp only[lA,mS,de,ct];omega
theorem O7{a:Pred}:∀{l:dx},a∈l->(mS a).length<=(lA l).length
 |p::ps,h=>by
  simp only[lA,ct];rcases mem_cons.1 h with rfl|h
  .omega
  .have:=O7 h;omega
theorem NM.len{op c:Int}{l r:OV}{args:dx}(h:NM (.mk op c l r args)):args.length<=1000000000:=by
 have:=O6 args;unfold NM at h;simp only[mS,ct]at h;omega
theorem NM.arg{op c:Int}{l r:OV}{args:dx}(h:NM (.mk op c l r args)){a:Pred}(d:a∈args):NM a:=by
 have:=O7 d;unfold NM at h⊢
 simp only[mS,ct]at h;omega
theorem qC.snoc{ps:dx}{vs:en}(x:qC h ps vs){u:PV}(d:dX h p u):qC h (ps++[p]) (vs++[u]):=by
 induction ps generalizing vs with
 |nil=>obtain rfl:vs=[]:=x;exact⟨u,[],rfl,d,rfl⟩
 |cons q ps e=>
  obtain⟨y,c,rfl,f,g⟩:=x;exact⟨y,c++[u],rfl,f,e g⟩
theorem qC.set{ps:dx}{vs:en}(x:qC h ps vs){u:PV}(f:dX h p u):qC h (ps.set i p) (vs.set i u):=by
 induction ps generalizing vs i with
 |nil=>have e:vs=[]:=x;subst e;rfl
 |cons q ps g=>
  obtain⟨y,c,rfl,j,d⟩:=x;cases i with
  |zero=>exact⟨u,c,rfl,f,d⟩
  |succ i=>exact⟨y,c.set i u,rfl,j,g d⟩
theorem LF(l:en):cZ 13 (l.map PV.enc):=by
 refine⟨λx c=>?_,λx c v d=>?_⟩<;>obtain⟨p,_,rfl⟩:=mem_map.1 c
 .rfl
 .simp[PV.enc]at d;rcases d with h|h|h|h|h|h|h|h|h|h|h|h|h<;>(rw[h];rfl)
theorem bh:di 50 bHQ:=by
 refine fU func50 ?_;rintro j m h K ⟨cb,rfl,n,c⟩;refine⟨cT [(12,Ea)] [] [] [] false,rfl,aE FD aG,ai cb m h K,bu,?_⟩;dsimp only[ai,push_cast];refine⟨cb,6,rfl,n,λk u _ _ d e=>?_⟩;exact aB (λ_=>c _ _ d e) (λ_=>aB (λ_=>c _ _ d e) (λ_=>aB (λ_=>c _ _ d e) (λ_=>aB (λ_=>⟨cb,3,rfl,e,λk o _ _ f g=>c _ _ (d.trans f) g⟩) (λ_=>⟨cb,6,rfl,e,λk o _ _ f g=>c _ _ (d.trans f) g⟩))))
theorem bi:di 54 cHX:=by
 refine fU func54 ?_;rintro f m h K ⟨cb,rfl,g,c⟩;refine⟨cT [(12,Ea),(95,MK)] [] [] [] false,rfl,aE FD (aE D3 aG),aj cb m h K,bu,?_⟩;dsimp only[aj,push_cast];refine⟨cb,5,rfl,g,λk x _ _ d e=>?_⟩;exact aB (λ_=>c ⟨_,0,⟨⟨[]⟩⟩⟩ _ Bs d e) (λ_=>⟨cb,_,rfl,e,λv j n _ o u=>c v j n.int_ (d.trans o) u⟩)
theorem f51_all:∀N,di 51 (cDZ N)
 |0=>by
  refine eA (fn:=Tryz.f51) (c:=cM Tryz.f51) func51 rfl bz ?_;rintro a4 m h K ⟨cb,v,p,rfl,_,_,_,_,hN,_⟩;omega
 |N+1=>by
  refine fU func51 ?_;rintro a4 m h K ⟨cb,v,p,rfl,hc,hr,hl,hn,hN,I⟩;refine⟨f51_ctx N cb v h,rfl,aE FD (aE rP (aE bh (aE bi (aE (f51_all N) aG)))),ak N cb v m h K,bu,?_⟩;dsimp only[ak,push_cast];have L:=@uK p;obtain⟨op,y,l,r,args⟩:=p;obtain⟨h1,h2,Q,R,h5,E,row,rep⟩:=hr;have a6:=hl.len;obtain⟨S,T,F⟩:=hn;have z:l8 v.left.value.int:=by rw[Q];exact S
  have G:l8 v.right.value.int:=by rw[R];exact T
  have a7:=rep.length;have a8:v.args.len=args.length:=by have:=row.len;simp at this;omega
  have O:∀(o c:Int)(U V:OV),dX h (.mk o c U V args) ⟨o,c,U,V,v.args⟩:=λ_ _ _ _=>⟨rfl,rfl,rfl,rfl,h5,E,row,rep⟩
  refine⟨λx=>bK m x.2 cb/\aU x.2 h cb,aD (λW=>⟨cb,2,rfl,aC,aC,hc,λr1 m1 X Y=>aB (λ_=>?_) (λ_=>⟨(0,m1),⟨X,Y⟩,MT⟩)⟩) (λ_=>⟨(0,m),⟨.refl _ _,hc⟩,MT⟩),?_⟩
  .refine⟨rfl,[],⟨bx,bx⟩,cE.nil _ _,E.map PV.enc,LF E,.imm row,.inl rfl,ce,ce,cb,_,rfl,Y,λk P k0 k1 A H=>?_⟩;have hk:k.toNat<args.length:=by simp at k1;omega
   obtain⟨a,ha⟩:∃a,args[k.toNat]? =some a:=⟨_,cq hk⟩
   obtain⟨u,hu,ru⟩:=rep.get ha;have hm:=cr ha;have:=L (q:=a) hm;have he:([]++E.map PV.enc)[k.toNat]? =some (PV.enc u):=by rw[nil_append,getElem?_map,hu];rfl
   have Z:k<((([]:List dj)++E.map PV.enc).length:Int):=ce
   refine⟨k0,Z,_,he,u,rfl,cb,u,a,rfl,H,ru,hl.arg hm,sU.1 F a hm,aC,λp' v' B hA a' r3 n3 C D=>⟨k0,Z,_,he,by simp[PV.enc],λs M d rs=>?_⟩⟩;refine I (.mk op y l r (args.set k.toNat p')) ⟨v.op,v.cmp,v.left,v.right,s⟩ B M (a'.trans d) ⟨h1,h2,Q,R,ce,E.set k.toNat v',by rw[map_set];exact rs,(qC.mono (a'.trans d) rep).set (r3.mono d)⟩ ⟨S,T,sU.2 λb hb=>(mem_or_eq_of_mem_set hb).elim (λh=>sU.1 F b h) (λe=>e▸n3)⟩ ((X.trans A).trans C) (D.mono d)
  .rintro⟨_,m1⟩ ⟨X,Y⟩;dsimp only at X Y⊢
   refine⟨cb,9,rfl,Y,λk P _ _ A H=>?_⟩;have A:=X.trans A;refine aB (λ_=>⟨cb,rfl,H,λn B C D=>I _ _ B h (.refl _) (O n v.cmp v.left v.right) ⟨z,G,F⟩ (A.trans C) D⟩) (λ_=>?_);refine aB (λ_=>⟨cb,rfl,H,λn B C D=>I _ _ B h (.refl _) (O v.op n v.left v.right) ⟨z,G,F⟩ (A.trans C) D⟩) (λ_=>?_);refine aB (λ_=>⟨cb,rfl,H,λn B C D=>I _ _ B h (.refl _) (O v.op v.cmp ⟨n,v.left.index,v.left.value⟩ v.right) ⟨z,G,F⟩ (A.trans C) D⟩) (λ_=>?_);refine aB (λ_=>⟨cb,rfl,H,λn B C D=>I _ _ B h (.refl _) (O v.op v.cmp ⟨v.left.kind,n,v.left.value⟩ v.right) ⟨z,G,F⟩ (A.trans C) D⟩) (λ_=>?_);refine aB (λ_=>⟨cb,rfl,H,λn B ni C D=>I _ _ B h (.refl _) (O v.op v.cmp v.left ⟨v.right.kind,v.right.index,n⟩) ⟨z,ni,F⟩ (A.trans C) D⟩) (λ_=>?_);refine aB (λ_=>⟨cb,rfl,H,λn B C D=>I _ _ B h (.refl _) (O v.op v.cmp v.left ⟨v.right.kind,n,v.right.value⟩) ⟨z,G,F⟩ (A.trans C) D⟩) (λ_=>?_);refine aB (λ_=>?_) (λ_=>aB (λ_=>?_) (λ_=>?_))
   .refine⟨rfl,[],⟨bx,bx⟩,cE.nil _ _,E.map PV.enc,LF E,.imm row,.inl rfl,ce,ce,ce,ce,λs M d rs=>?_⟩;exact I (.mk op y l r (args++[.mk 1 0 dG dG []])) ⟨v.op,v.cmp,v.left,v.right,s⟩ P M d ⟨h1,h2,Q,R,ce,E++[⟨1,0,dG,dG,cG⟩],by rw[cv];exact rs,(qC.mono d rep).snoc (p:=.mk 1 0 dG dG []) (u:=⟨1,0,dG,dG,cG⟩) ⟨rfl,rfl,rfl,rfl,bx,[],cE.nil _ _,rfl⟩⟩ ⟨S,T,sU.2 λb hb=>(mem_append.1 hb).elim (λh=>sU.1 F b h) (λe=>(mem_singleton.1 e)▸⟨Bs,Bs,trivial⟩)⟩ A (H.mono d)
   .refine⟨λx=>x.1<=8/\∃q,(dX x.2.2.2 q x.2.1/\wX q)/\x.2.2.1=P/\PH.le h x.2.2.2,λx=>8-x.1,⟨(0,v,P,h),⟨bx,.mk op y l r args,⟨⟨h1,h2,Q,R,h5,E,row,rep⟩,S,T,F⟩,rfl,.refl _⟩,MT⟩,?_⟩;rintro⟨i,w,mx,hx⟩ ⟨hi,q,⟨rq,nq⟩,rfl,lex⟩;dsimp only at hi rq lex⊢
    refine aD (λW=>λs M d rs=>?_) (λ_=>I q w mx hx lex rq nq A (H.mono lex));rw[fD aC];exact⟨(i+1,⟨6,0,dG,dG,s⟩,mx,M),⟨ck,(.mk 6 0 dG dG [q]),⟨⟨rfl,rfl,rfl,rfl,bx,[w],rs,w,[],rfl,rq.mono d,rfl⟩,⟨Bs,Bs,nq,trivial⟩⟩,rfl,lex.trans d⟩,cj,MT⟩
   .refine⟨λx=>x.1<=24/\(∃op y l r args,(dX x.2.2.2 (.mk op y l r args) x.2.1/\wX (.mk op y l r args))/\args.length<=1000000000+x.1)/\x.2.2.1=P/\PH.le h x.2.2.2,λx=>24-x.1,⟨(0,v,P,h),⟨bx,⟨_,_,_,_,_,⟨⟨h1,h2,Q,R,h5,E,row,rep⟩,S,T,F⟩,ce⟩,rfl,.refl _⟩,MT⟩,?_⟩;rintro⟨i,w,mx,hx⟩ ⟨hi,⟨a0,J,U,V,g,⟨⟨g1,g2,g3,g4,g5,us,f,j⟩,a1,a2,a3⟩,a5⟩,rfl,lex⟩;dsimp only at hi f j a5 lex g1 g2 g3 g4⊢
    have a9:=j.length;have b':w.args.len=g.length:=by have:=f.len;simp at this;omega
    refine aD (λW=>?_) (λ_=>I (.mk a0 J U V g) w mx hx lex ⟨g1,g2,g3,g4,g5,us,f,j⟩ ⟨a1,a2,a3⟩ A (H.mono lex));refine⟨aC,aC,by have:=f.cap;omega,rfl,us.map PV.enc,LF us,⟨by have:=f.len;simp at this⊢;omega,f.row,Nat.le_refl _⟩,.inr aC,ce,ce,λs M d rs=>?_⟩;rw[fD aC];exact⟨(i+1,⟨w.op,w.cmp,w.left,w.right,s⟩,mx,M),⟨ck,⟨a0,J,U,V,g++[.mk 2 0 dG dG []],⟨⟨g1,g2,g3,g4,ce,us++[⟨2,0,dG,dG,cG⟩],by rw[cv];exact rs,(qC.mono d j).snoc (p:=.mk 2 0 dG dG []) (u:=⟨2,0,dG,dG,cG⟩) ⟨rfl,rfl,rfl,rfl,bx,[],cE.nil _ _,rfl⟩⟩,a1,a2,sU.2 λb hb=>(mem_append.1 hb).elim (λh=>sU.1 a3 b h) (λe=>(mem_singleton.1 e)▸⟨Bs,Bs,trivial⟩)⟩,ce⟩,rfl,lex.trans d⟩,cj,MT⟩
theorem bj:di 51 cDJ:=iQ f51_all λ_ _ _ _⟨cb,v,p,e,c,d,f,g,j⟩=>⟨SizeOf.sizeOf p+1,cb,v,p,e,c,d,f,g,aC,j⟩
def akZ:Vc.Spec:=λc m h K=>∃sc s,c=[aS sc]/\fR h s sc/\∀d:Sl,K (.tup [.val (.agg ⟨eS d⟩),cI (cQ s)]) m h
def T2:Vc.Spec:=λc m h K=>∃d a n e ks,c=[cS d,cI (ks.length:Nat),cI a,cB n]/\dC m d 33 1 (e.map eS)/\Slices h e ks/\∀f,(oI a n ks.length=true->Ints h f (uM ks a n))->K (.tup [cS f,cB (oI a n ks.length)]) m h
noncomputable def bZX(sc:bX)(p r:Sl):Ctx:=
 rI [(66,akZ),(128,MP),(129,T2),(131,U8),(130,bKZ)] [(8,{A:=Nat×Sl×MH×PH,st:=λ⟨i,c,m,h⟩=>bO 116 118 [(2,.at (.ptr 2 0)),(3,.at (.ptr 3 0)),(8,sv c),(39,sv p),(40,iv p.len),(41,iv i)] [(2,.cells 43 (sc.enc.map .val)),(3,.cells 62 [.val (.slice p.a p.len p.cap),.val (.slice r.a r.len r.cap)])] m h}),
  (23,{A:=Nat×Sl×MH×PH,st:=λ⟨i,c,m,h⟩=>bO 116 118 [(3,.at (.ptr 3 0)),(8,sv c),(99,sv r),(100,iv r.len),(101,iv i)] [(3,.cells 62 [.val (.slice p.a p.len p.cap),.val (.slice r.a r.len r.cap)])] m h})] [(18,{A:=Nat×Sl×Sl×Int×MH×PH,st:=λ⟨i,c,k,e,m,h⟩=>bO 116 118 [(2,.at (.ptr 2 0)),(3,.at (.ptr 3 0)),(8,sv c),(16,sv k),(17,iv e),(39,sv p),(40,iv p.len),(41,iv i)] [(2,.cells 43 (sc.enc.map .val)),(3,.cells 62 [.val (.slice p.a p.len p.cap),.val (.slice r.a r.len r.cap)])] m h})] [] [1079] [] false
def P3(sc:bX)(m:MH)(h:PH)(K:dk):Prop:=
  An sc h (λs=>cK (cQ s) 0 (K (CV.tup (bD (gV lV) (cQ s))) m h) (aA (bY (gE sc)) (gE sc<=gE sc) (aA (qU (gE sc*24)) (qU (gE sc)) (bU h 1 (xH (gE sc) lV) (λc d=>K (CV.tup (bD (gV (aM c)) 0)) m d)))))
def Tu(kk:Sl)(i a:Int)(n:Bool)(m:MH)(h:PH)(K:dk):Prop:=
  mB n (K (CV.tup (nO iO (vD (a==0)))) m h) (aW a 0 (K (CV.tup (nO iO aX)) m h) (eK a i (K (CV.tup (nO iO aX)) m h) (aJ (λb o=>aI (aK kk.a b o) (0<=a) (a<aF kk) (∃(y:Sl),aR m h b (cC o a 1) (aM y)/\K (CV.tup (fP y dR)) m h)))))
noncomputable abbrev Ay(a:Nat×Sl×Sl×Int×MH×PH):MH×PH:=a.2.2.2.2
attribute [push_cast] Ay
def P1(sc:bX)(p r:Sl)(m:MH)(h:PH)(K:dk):Prop:=
  An sc h (λs=>∀(_:Sl),mY (cQ s !=0) (K (CV.tup (bD iO (cQ s))) m h) (aF p) 1024 (K (CV.tup (bD iO 2)) m h) (fA (aF r) 32 (K (CV.tup (bD iO 2)) m h) (Fh (λI x=>aA (I x) cW (aA bJ (sQn=Ye (gR x)) (aA (aH p) (aY p) (aA (aZ x.1) (bP sc) (bS (eQ (oQ 62 (iU (jR p) (jR r)))) m (eJ x) h (fB x)))))) (λI H x=>I x->aW (↑x.1:Int) (aF p) (aJ (λb o=>aI (aK p.a b o) (0<=(↑x.1:Int)) ((↑x.1:Int)<aF p) (∃(y:gA),aR (eJ x) (fB x) b (bE o x.1 22) y.enc/\pL y.op (λF=>∃(k:Sl),KJ (λa n=>Ot (λJ g=>aI (cA (gR x) (fN (↑x.1:Int)::fO y.left (KE F 0))=cA k (fN (Gu g)::fO a (vD n))) (dC (eJ x) k 33 1 (iA J)) (Slices (fB x) J g) (∀(L:Sl),(eZ
 (oI a n (Gu g))->Ints (fB x) L (uM g a n))->∃(M:Sl),KJ (λB C=>Ot (λO j=>aI (cA (gR x) (fN (↑x.1:Int)::fO y.right (KE F 1))=cA M (fN (Gu j)::fO B (vD C))) (dC (eJ x) M 33 1 (iA O)) (Slices (fB x) O j) (∀(P:Sl),(eZ (oI B C (Gu j))->Ints (fB x) P (uM j B C))->aW (arity F) 0 (Dc K x) (cO (!(oI a n (Gu g))) (Dc K x) (!(oI B C (Gu j))) (Dc K x) (Ke y (fB x) (λv e=>EM (λQ R=>∃(S:QV),gQ (λT U=>Gx (λu D=>∃(q:Query),mV (λl z=>aA (cV (cD sc) (iO::cV v.enc (dK L P))=cV (cD Q) (cA R (cV S.enc (dK T U)))) (fR e u Q) (aA (nM u) (Ints e R D) (aA (dZ e q S) (Ints e T l) (aA (Ints e U z)
 (l.length<=12) (z.length<=12/\fT (λG E=>dN e E (Ints E G (eU u D q l z).1) (∃(I1:Nat×Sl×Sl×Int×MH×PH->Prop),dD (eU u D q l z).2 100 (∃(c:Nat×Sl×Sl×Int×MH×PH),aA (I1 c) cW (aA bJ (bA (gR x) c.2.1) (aA (bA G c.2.2.1) (dA 120 c.2.2.2.1) (aA (aH p) (aY p) (aA (bV x.1 c.1) (bP sc) (aA (eQ (oQ 62 (iU (jR p) (jR r)))) (eJ x=(Ay c).1) (bR E (Ay c).2))))))) (∃(c:Nat×Sl×Sl×Int×MH×PH),aA (I1 c) cW (aA bJ (bA (gR x) c.2.1) (aA (bA G c.2.2.1) (SV.at (At.val (fE (eU u D q l z).2))=eR c.2.2.2.1) (aA (aH p) (aY p) (aA (bV x.1 c.1) (bP sc) (aA (eQ (oQ 62 (iU (jR p) (jR r)))) (eJ x=(Ay c).1) (bR E (Ay c).2)))))))/\∀(c:Nat×Sl×Sl×Int×MH×PH),
 I1 c->cK c.2.2.2.1 0 (K (CV.tup (bD iO c.2.2.2.1)) (Ay c).1 (Ay c).2) (C0 (Ay c).1 c.2.1 33 1 (λd=>jN (λV A=>dY (Ay c).1 A (cX c.2.1) V 33 1 (eG d (aM c.2.2.1))->∃(f:Nat×Sl×MH×PH),aA (I f) (H f<H x) (aA cW bJ (aA (bA V (gR f)) (aH p) (aA (aY p) (eR (bF ((↑c.1:Int)+1))=bL f.1) (rZ (bP sc) (eQ (oQ 62 (iU (jR p) (jR r)))) A (eJ f) (Ay c).2 (fB f))))))))))))))))))))))))))))))) (Fh (λI1 c=>aA (I1 c) bJ (aA (bA (gR x) (gR c)) (aH r) (aA (aY r) (aZ c.1) (aA (eQ (oQ 62 (iU (jR p) (jR r)))) (eJ x=eJ c) (bR (fB x) (fB c)))))) (λI1 A c=>I1 c->aW (↑c.1:Int) (aF r) (aJ (λb o=>aI (aK r.a b o) (0<=(↑c.1:Int)) ((↑c.1:
 Int)<aF r) (∃(y:Int),aR (eJ c) (fB c) b (bE o c.1 1) (bQ y)/\aW y 0 (Dc K c) (eK y (aF p) (Dc K c) (∃(d:Nat×Sl×MH×PH),aA (I1 d) (A d<A c) (aA bJ (bA (gR c) (gR d)) (aA (aH r) (aY r) (aA (eR (bF ((↑c.1:Int)+1))=bL d.1) (eQ (oQ 62 (iU (jR p) (jR r)))) (bG (eJ c) (eJ d) (fB c) (fB d)))))))))) (hJ K (gR c) (eJ c) (fB c))))))))
theorem Ia(n:Int)(r:dw):l7 n++32::r≠[]:=bx
theorem Pg:∀{l l':dl},(∀n∈l,l8 n)->(∀n∈l',l8 n)->kN l=kN l'->l=l'
 |[],[],_,_,_=>rfl
 |[],n::l',_,_,h=>by rw[rN]at h;exact(Ia _ _ h.symm).elim
 |n::l,[],_,_,h=>by rw[rN]at h;exact(Ia _ _ h).elim
 |n::l,f::l',d,e,h=>by
  rw[rN,rN]at h;obtain⟨g,j⟩:=mU (d n bx) (e f bx) h;rw[g,Pg (λx c=>d x (by simp[c])) (λx c=>e x (by simp[c])) j]
theorem Pc:∀{l l':dq},(∀p∈l,l8 p.1/\l8 p.2)->(∀p∈l',l8 p.1/\l8 p.2)->oL l=oL l'->l=l'
 |[],[],_,_,_=>rfl
 |[],p::l',_,_,h=>by rw[CQ]at h;exact(Ia _ _ h.symm).elim
 |p::l,[],_,_,h=>by rw[CQ]at h;exact(Ia _ _ h).elim
 |p::l,f::l',c,d,h=>by
  rw[CQ,CQ]at h;obtain⟨g,j⟩:=mU (c p bx).1 (d f bx).1 h;obtain⟨n,o⟩:=mU (c p bx).2 (d f bx).2 j;rw[Prod.ext g n,Pc (λx e=>c x (by simp[e])) (λx e=>d x (by simp[e])) o]
theorem OQ:∀{l l':dr},(∀p∈l,l8 p.1)->(∀p∈l',l8 p.1)->rT l=rT l'->l=l'
 |[],[],_,_,_=>rfl
 |[],p::l',_,_,h=>by rw[CL]at h;exact(Ia _ _ h.symm).elim
 |p::l,[],_,_,h=>by rw[CL]at h;exact(Ia _ _ h).elim
 |p::l,c::l',e,f,h=>by
  have g:∀b:Bool,l8 (if b=true then(1:Int)else 0):=λb=>by cases b<;>exact⟨bz,bz⟩
  rw[CL,CL]at h;obtain⟨j,n⟩:=mU (e p bx) (f c bx) h;obtain⟨y,o⟩:=mU (g p.2) (g c.2) n;have u:p.2=c.2:=by cases z:p.2<;>cases A:c.2<;>simp_all
  rw[Prod.ext j u,OQ (λx d=>e x (by simp[d])) (λx d=>f x (by simp[d])) o]
theorem key_inj{x:Step}(d:F3 x)(f:F3 t)(h:keyOf x=keyOf t):x=t:=by
 obtain⟨op,ta,w,co,on,gr,od,li,le,T⟩:=x;obtain⟨z,A,U,B,C,D,E,F,G,H⟩:=t;simp only[keyOf,KV.mk.injEq,ByteArray.mk.injEq]at h;obtain⟨I,J,L,M,O,P,Q,R,S,j⟩:=h;have c:∀{a b:dw},a.toArray=b.toArray->a=b:=λe=>cm e
 have n:=(Nc (r:=[]) (r':=[]) d.wher f.wher (cm (c P))).1;have o:=Pg d.cols f.cols (c Q);have u:=Pc d.on_ f.on_ (c R);have y:=Pg d.group_ f.group_ (c S);have g:=OQ d.order_ f.order_ (c j);simp only at n o u y g;subst I J L M O n o u y g;rfl
theorem aGJ(h:(sD s ks t).2=0):0<=arity t.op/\∀a∈kV t,0<=a/\a<ks.length:=by
 unfold sD at h;split at h
 .cases h
 rename_i d;have u:=vO t.op;have o:0<=arity t.op:=Classical.byContradiction λe=>d (.inl aC)
 have f:oI t.left (decide (arity t.op>0)) ks.length=true:=by
  cases e:oI t.left (decide (arity t.op>0)) ks.length with
  |true=>rfl
  |false=>exact(d (.inr (.inl e))).elim
 have j:oI t.right (decide (arity t.op>1)) ks.length=true:=by
  cases e:oI t.right (decide (arity t.op>1)) ks.length with
  |true=>rfl
  |false=>exact(d (.inr (.inr e))).elim
 refine⟨o,λa c=>?_⟩;unfold kV at c;obtain⟨n,g⟩:∃n:Nat,arity t.op=n:=⟨(arity t.op).toNat,aC⟩
 rw[g,Int.toNat_natCast]at c;unfold oI at f j
 match n,g,c with
 |0,_,c=>simp at c
 |1,g,c=>
  simp at c;subst c;rw[if_pos (decide_eq_true aC)]at f;simpa using f
 |2,g,c=>
  simp at c;rw[if_pos (decide_eq_true aC)]at f j;rcases c with rfl|rfl
  .simpa using f
  .simpa using j
 |n+3,g,_=>omega
theorem OM{s:lL}:∀(ts:dv)(ks:List dl),(rR s ks ts).2=0->∀(i:Nat) t,ts[i]? =some t->∃c,c.length=ks.length+i/\(sD s c t).2=0
 |[],_,_,i,t,e=>by simp at e
 |u::ts,ks,h,i,t,e=>by
  simp only[rR]at h;split at h
  .rename_i d
   match i,e with
   |0,e=>simp at e;subst e;exact⟨ks,aC,d⟩
   |i+1,e=>
    obtain⟨c,f,g⟩:=OM ts _ h i t (cm e);exact⟨c,by simp at f;omega,g⟩
  .rename_i d;exact absurd h d
theorem Ei(h:eE s ts rs=0):cQ s=0/\ts.length<=1024/\rs.length<=32/\(rR s [] ts).2=0/\∀r∈rs,0<=r/\r<ts.length:=by
 unfold eE at h;split at h
 .rename_i c;exact absurd h c
 rename_i c;split at h
 .cases h
 rename_i g;split at h
 .rename_i d;exact absurd h d
 rename_i d;split at h
 .rename_i e;refine⟨cm c,aC,aC,cm d,λr f=>?_⟩;simpa using all_eq_true.1 e r f
 .cases h
theorem bSX(h:eE s ts rs=0):nH ts:=λi t e=>by
 obtain⟨ks,c,d⟩:=OM ts [] (Ei h).2.2.2.1 i t e;obtain⟨f,g⟩:=aGJ d;simp only[length_nil,Nat.zero_add]at c;exact⟨f,λa j=>by have:=g a j;omega⟩
theorem Sa:di 66 akZ:=by
 refine DS func66 ?_;rintro g m h K ⟨sc,s,rfl,e,c⟩;refine⟨cT [(86,uP)] [] [] [] false,rfl,aE L5 aG,P3 sc m h (jF h K),bu,?_⟩;show P3 sc m h (jF h K);dsimp only[P3,push_cast];have f:=e.tables.slen;refine⟨sc,s,rfl,e,aB (λ_=>.here (c ⟨none,0,0⟩)) (λd=>?_)⟩;have d:cQ s=0:=cm d
 have o:s.tables.length<=8:=by
  have f:CD s:=Classical.byContradiction λj=>by rw[sS j]at d;cases d
  exact f.1
 have c:=c;rw[d]at c;exact⟨aC,aC,aC,aC,λn h' le _=>.out (Sub.refl m) le (c n)⟩
theorem Z5:di 129 T2:=by
 refine fU func129 ?_;rintro x m h K ⟨g,a,n,B,ks,rfl,j,f,c⟩;refine⟨cT [] [] [] [] false,rfl,aG,Tu g (ks.length:Nat) a n m h K,bu,?_⟩;dsimp only[Tu,push_cast]
 have C:g.len=ks.length:=by
  have:=dC.slen j;rw[length_map]at this;rw[this,f.1]
 unfold oI uM at c;refine aB (λd=>?_) (λd=>?_)
 .have d:n=false:=cm d
  subst d;exact c ⟨none,0,0⟩ λ_=>⟨.nil _ _,bx⟩
 .have d:n=true:=cm d
  subst d;simp only[if_true]at c;refine aD (λy=>?_) (λy=>aD (λz=>?_) (λz=>?_))
  .rw[decide_eq_false (by omega:¬0<=a)]at c;exact c ⟨none,0,0⟩ λe=>by cases e
  .rw[decide_eq_true (by omega:0<=a),decide_eq_false (by omega:¬a<(ks.length:Int))]at c;exact c ⟨none,0,0⟩ λe=>by cases e
  .obtain⟨b,o,u,e,rd,A⟩:=Ux j f (a:=a) aC aC;rw[decide_eq_true (by omega:0<=a),decide_eq_true (by omega:a<(ks.length:Int))]at c;exact⟨b,o,e,aC,aC,u,rd,c u λ_=>A⟩
theorem aQZ:di 70 FU:=by
 refine DS func70 ?_;rintro a2 m h K ⟨sc,p,r,s,ts,rs,rfl,hs,x,hK⟩;refine⟨bZX sc p r,rfl,aE Sa (aE Ji (aE Z5 (aE Jh (aE Qq aG)))),P1 sc p r m h (jF h K),bu,?_⟩;show P1 sc p r m h (jF h K);dsimp only[P1,push_cast];have pl:=x.slen.1;have rl:=x.roots.slen;have a0:=x.len;have a1:=x.roots.len;have done:∀{u:MH}{A:PH}{e:Int}{kk:Sl},Sub m u->PH.le h A->eE s ts rs=e->jF h K (.tup [cS kk,cI e]) u A:=fun{u A e kk} z F I=>.out z F (by rw[<-I];exact hK kk);refine⟨sc,s,rfl,hs,λ_=>aB (λz=>?_) (λz=>?_)⟩
 .have z:cQ s≠0:=cm z
  exact done (kk:=⟨none,0,0⟩) (Sub.refl m) (.refl _) (by unfold eE;rw[if_pos z])
 have z:cQ s=0:=cm z
 refine aD (λF=>?_) (λF=>aD (λI=>?_) (λI=>?_))
 .exact done (kk:=⟨none,0,0⟩) (Sub.refl m) (.refl _) (by unfold eE;rw[if_neg (cm z),if_pos aC])
 .exact done (kk:=⟨none,0,0⟩) (Sub.refl m) (.refl _) (by unfold eE;rw[if_neg (cm z),if_pos aC])
 have D:=IC (s:=s) (ts:=ts) (rs:=rs) z aC;refine⟨λ⟨i,kk,u,A⟩=>i<=ts.length/\PH.le h A/\∃ks,U9 m u A kk ks/\ks.length=i/\rR s ks (ts.drop i)=rR s [] ts,λ⟨i,_⟩=>ts.length-i,⟨(0,⟨none,0,0⟩,m,h),⟨aC,.refl _,[],.nil m h,rfl,rfl⟩,MT⟩,?_⟩;rintro⟨i,kk,u,A⟩ ⟨hi,d,ks,f,P,n⟩;dsimp only;refine aD (λB=>?_) (λQ=>?_)
 .obtain⟨t,ht⟩:=dO pl B;obtain⟨b,o,v,e,rd,rv⟩:=(x.mono d).at ht;obtain⟨ss,hm,J⟩:=f.ex;rw[Gl ht]at n;subst P
  have bad:∀{e:Int},(sD s ks t).2=e->e≠0->eE s ts rs=e:=fun{e} H E=>by
   rw[H,if_neg E]at n;rw[D, <-n];exact if_pos E
  have c:sD s ks t=if arity v.op<0\/oI v.left (decide (arity v.op>0)) ks.length=false\/oI v.right (decide (arity v.op>1)) ks.length=false then eN 120
   else if(eU s [] t.query (uM ks v.left (decide (arity v.op>0))) (uM ks v.right (decide (arity v.op>1)))).2=100 then eN 120
   else eU s [] t.query (uM ks v.left (decide (arity v.op>0))) (uM ks v.right (decide (arity v.op>1))):=by
   obtain⟨S,_,_,_,_,_,_,_,e3,e4⟩:=rv;unfold sD;rw[<-S, <-e3, <-e4]
  refine⟨b,o,e,aC,B,v,.imm rd,v.op,rfl,kk,v.left,decide (arity v.op>0),ss,ks,rfl,hm,J,λsl T=>⟨kk,v.right,decide (arity v.op>1),ss,ks,rfl,hm,J,λU L=>?_⟩⟩;refine aD (λH=>done (kk:=⟨none,0,0⟩) f.sub d (bad (by rw[c,if_pos (.inl H)];rfl) bz)) (λH=>aB (λE=>done (kk:=⟨none,0,0⟩) f.sub d (bad (by rw[c,if_pos (.inr (.inl (cm E)))];rfl) bz)) (λE=>aB (λV=>done (kk:=⟨none,0,0⟩) f.sub d (bad (by rw[c,if_pos (.inr (.inr (cm V)))];rfl) bz)) (λV=>?_)));have f1:oI v.left (decide (arity v.op>0)) ks.length=true:=cm E
  have f2:oI v.right (decide (arity v.op>1)) ks.length=true:=cm V
  rw[if_neg (by rw[f1,f2];simp;omega)]at c;refine⟨v,t,rfl,rv,λv' h' y M=>⟨sc,⟨none,0,0⟩,v',sl,U,s,[],t.query,_,_,rfl,hs.mono (d.trans y),cyZ z,rH _,M,(T f1).mono y,(L f2).mono y,Ln f.le12 _ _,Ln f.le12 _ _,λW F G X=>?_⟩⟩;have Y:=RU s [] t.query (uM ks v.left (decide (arity v.op>0))) (uM ks v.right (decide (arity v.op>1)));generalize eU s [] t.query (uM ks v.left (decide (arity v.op>0))) (uM ks v.right (decide (arity v.op>1)))=R at*
  refine⟨λ⟨i',O,k,e,m',h'⟩=>i'=ks.length/\O=kk/\k=W/\m'=u/\h'=F/\(sD s ks t).2=e/\(e=0->(sD s ks t).1=R.1),aB (λZ=>⟨(ks.length,kk,W,120,u,F),⟨rfl,rfl,rfl,rfl,rfl,by rw[c,if_pos (cm Z)];rfl,λe=>by cases e⟩,MT⟩) (λZ=>?_),?_⟩
  .rw[if_neg (cm Z)]at c;exact⟨(ks.length,kk,W,R.2,u,F),⟨rfl,rfl,rfl,rfl,rfl,by rw[c],λ_=>by rw[c]⟩,MT⟩
  rintro⟨i',O,k3,e,m',I⟩ ⟨rfl,rfl,rfl,rfl,rfl,g1,g2⟩;refine aB (λh8=>done (kk:=⟨none,0,0⟩) f.sub (d.trans (y.trans G)) (bad g1 (cm h8))) (λh8=>?_);have S:e=0:=cm h8
  subst S;rw[g1,if_pos rfl,g2 rfl]at n;obtain⟨xs,a',a3,hg⟩:=f.grown (y.trans G) X Y;exact⟨xs,a',aC,aC,λs' m' g=>⟨(ks.length+1,s',m',I),⟨ck,d.trans (y.trans G),ks++[R.1],hg s' m' g,bx,n⟩,ck,MT⟩⟩
 have hd:ts.drop i=[]:=drop_of_length_le aC;rw[hd]at n;have h0:(rR s [] ts).2=0:=by rw[<-n];rfl
 rw[h0,if_neg bz]at D;clear n hd;refine⟨λ⟨j,k',m',h'⟩=>j<=rs.length/\k'=kk/\m'=u/\h'=A/\(rs.take j).all (λr=>decide (0<=r)&&decide (r<ts.length))=true,λ⟨j,_⟩=>rs.length-j,⟨(0,kk,u,A),⟨aC,rfl,rfl,rfl,bx⟩,MT⟩,?_⟩;rintro⟨j,kk,u,A⟩ ⟨hj,rfl,rfl,rfl,C⟩;dsimp only;refine aD (λB=>?_) (λQ=>?_)
 .obtain⟨q,M⟩:=dO rl B;obtain⟨b,o,e,rd⟩:=(x.roots.mono d).at' M
  have bad:¬(0<=q/\q<ts.length)->eE s ts rs=120:=λhn=>by
   rw[D,if_neg];intro e2;have:=all_eq_true.1 e2 q (cr M);simp only[cz,dc]at this;exact hn this
  refine⟨b,o,e,aC,B,q,.imm rd,aD (λH=>done (kk:=⟨none,0,0⟩) f.sub d (bad aC)) (λH=>aD (λE=>done (kk:=⟨none,0,0⟩) f.sub d (bad aC)) (λE=>⟨(j+1,kk,u,A),⟨ck,rfl,rfl,rfl,?_⟩,cj,MT⟩))⟩;rw[yX M,C,Bool.true_and,cz];exact⟨decide_eq_true aC,decide_eq_true aC⟩
 .rw[cu aC]at C;exact done f.sub d (by rw[D,if_pos C])
structure mR(m:MH)(h:PH)(pb:Nat)(s r:Sl)(ts:dv):Prop where
 at_:m pb=some (.cells #[.slice s.a s.len s.cap,.slice r.a r.len r.cap] 62 (0,0))
 row:∃vs,dC m s 123 22 (vs.map gA.enc)/\Steps h vs ts
structure CF(m m':MH)(pb:Nat)(s s':Sl):Prop where
 other:∀b o,m b=some o->b≠pb->(∀i,s.a≠some ⟨b,i,none⟩)->m' b=some o
 fresh:∀b i,s'.a=some ⟨b,i,none⟩->m b=none\/∃i,s.a=some ⟨b,i,none⟩
def bGJ:Vc.Spec:=λc m h K=>∃v q l r,c=[aQ v,cI l,cI r]/\dZ h q v/\∀d h',PH.le h h'->kW h' (stepOf q l r) d->K (aT d) m h'
def azX(N:Nat):Vc.Spec:=λd m h K=>∃v q c s r ts,d=[cP c,aQ v]/\dZ h q v/\SizeOf.sizeOf q<N/\QI q/\Rq q/\mR m h c s r ts/\(∀t∈ts,F3 t)/\(ts.length:Int)+NQ q<=8000000/\
 ∀ts'(k:Nat) s' m' h',PH.le h h'->Bo q ts ts' k->mR m' h' c s' r ts'->(∀t∈ts',F3 t)->CF m m' c s s'->K (cI k) m' h'
def azZ:Vc.Spec:=λd m h K=>∃v q c s r ts,d=[cP c,aQ v]/\dZ h q v/\QI q/\Rq q/\mR m h c s r ts/\(∀t∈ts,F3 t)/\(ts.length:Int)+NQ q<=8000000/\
 ∀ts'(k:Nat) s' m' h',PH.le h h'->Bo q ts ts' k->mR m' h' c s' r ts'->(∀t∈ts',F3 t)->CF m m' c s s'->K (cI k) m' h'
noncomputable def b0Q(N c:Nat)(v:QV):Ctx:=
 rI [(67,azX N),(110,bGJ),(111,bIZ)] [(3,{A:=Nat×Nat×MH×PH,st:=λ⟨i,d,m,h⟩=>bO 66 68 [(0,pv c),(3,.at (.ptr 3 0)),(5,pv d),(11,iv v.args.len),(12,iv i)] [(3,.cells 38 (v.enc.map .val))] m h}),
  (9,{A:=Nat×Nat×gA×MH×PH,st:=λ⟨i,n,t,m,h⟩=>bO 66 68 [(0,pv c),(7,.at (.ptr 7 0)),(35,iv n),(36,iv i)] [(7,.cells 123 (t.enc.map .val))] m h})] [] [] [0,101,1060] [] false
noncomputable def b6J(sc:bX)(sl:Sl)(m0:MH):Ctx:=
 rI [(66,akZ),(37,wW),(67,azZ)] [(7,{A:=Nat×PH,st:=λ⟨i,h⟩=>bO 60 62 [(1,sv sl),(2,.at (.ptr 2 0)),(4,.at (.ptr 4 0)),(28,sv sl),(29,iv sl.len),(30,iv i)] [(2,.cells 43 (sc.enc.map .val)),(4,.cells 62 [.val (.slice none 0 0),.val (.slice none 0 0)])] m0 h}),
  (15,{A:=Nat×Nat×MH×PH,st:=λ⟨i,c,m,h⟩=>bO 60 62 [(4,.at (.ptr 4 0)),(12,pv c),(45,sv sl),(46,iv sl.len),(47,iv i)] [(4,.cells 62 [.val (.slice none 0 0),.val (.slice none 0 0)])] m h})] [] [] [0,1060,1033,200012] [] false
def TB(v:QV)(l r:Int)(m:MH)(h:PH)(K:dk):Prop:=
  qR (λd q=>sX (bC cF cF (bC (fE v.where_.op) (fE v.where_.cmp) (bC (qI (nJ v)) (qJ (nJ v)) (bC (fE (kU (nJ v))) (lY (nJ v)) (bC (kJ (nJ v)) (qI (fX v)) (bC (qJ (fX v)) (j8 (fX v)) (bC (lY (fX v)) (kJ (fX v)) (bC (Ex v) (Fo v) (bC (iI v.on) (iI v.group) (bC (iI v.order) cF lV)))))))))) d.enc (dZ h q d) (KD h q (λc e=>K (gV (Hu v v c (bC (kJ (nJ c)) (qI (fX c)) (bC (qJ (fX c)) (j8 (fX c)) (bC (lY (fX c)) (kJ (fX c)) (bC (Ex c) (Fo c) (bC (iI c.on) (iI c.group) (bC (iI c.order) (fE v.limit) (nL (fE l) (fE r)))))))))) m e)))
noncomputable abbrev p9(a:Nat×Nat×MH×PH):Nat:=a.2.1
noncomputable abbrev mN(a:Nat×Nat×MH×PH):Nat->Option Obj:=a.2.2.1
noncomputable abbrev oR(a:Nat×Nat×MH×PH):Nat->Nat->Option Value:=a.2.2.2
abbrev J1(a:dv):Prop:=∀(x:Step),List.Mem x a->F3 x
noncomputable abbrev HI(a:Nat×Nat×gA×MH×PH):dj:=a.2.2.1.enc
noncomputable abbrev tV(a:Nat×Nat×gA×MH×PH):Nat->Option Obj:=lI a.2.2
noncomputable abbrev qV(a:Nat×Nat×gA×MH×PH):Nat->Nat->Option Value:=lU a.2.2
attribute [push_cast] p9 mN oR J1 HI tV qV
def WA(N e:Nat)(v:QV)(m:MH)(h:PH)(K:dk):Prop:=
  mE m h (λb F=>gP m F b (nL cF cF) 101) (λb F=>∃(I:Nat×Nat×MH×PH->Prop)(G:Nat×Nat×MH×PH->Nat),(∃(x:Nat×Nat×MH×PH),aA (I x) (dE e) (aA bJ (dP b (p9 x)) (aA (aY v.args) (aZ x.1) (aA (dJ v) (F=mN x) (bR h (oR x))))))/\∀(x:Nat×Nat×MH×PH),I x->aW (↑x.1:Int) (aF v.args) (aJ (λA o=>aI (aK v.args.a A o) (0<=(↑x.1:Int)) ((↑x.1:Int)<aF v.args) (∃(y:QV),aR (mN x) (oR x) A (bE o x.1 21) y.enc/\qR (λB q=>uH (λp s r=>∃(t:dv),aA (mJ e (hX y)=mJ p (hX B)) (dZ (oR x) q B) (aA (sB q N) (QI q) (aA (Rq q) (mR (mN x) (oR x) p s r t) (aA (J1 t) (HJ t q) (H4 (λz k H=>iM (λn j=>dN (oR x) j (Bo q t z k)
 (mR n j p H r z->J1 z->CF (mN x) n p s H->aA (bY (↑x.1:Int)) ((↑x.1:Int)<2) (kS (λc E=>aA (Gc n (p9 x) (lF c E 0)) (nR (bE 0 x.1 1) c) (∀(C:MH),oX n C (p9 x) c (bE 0 x.1 1) (bQ (↑k:Int)) E->∃(d:Nat×Nat×MH×PH),aA (I d) (G d<G x) (aA (dE e) bJ (aA (dP (p9 x) (p9 d)) (uF v) (aA (eR (bF ((↑x.1:Int)+1))=bL d.1) (dJ v) (bG C (mN d) j (oR d)))))))))))))))))))) (aA (bY 0) ((0:Int)<2) (∃(y:Int),aI (aR (mN x) (oR x) (p9 x) 0 (bQ y)) ((0:Int)<=1) ((1:Int)<2) (xV (mN x) (oR x) (p9 x) 1 (λO=>qR (λB q=>∃(l r:Int),aA (cV v.enc (bD (fN y) O)=cV B.enc (bD (fN l) r)) (dZ (oR x) q B) (∀(t:gA)(j:PH),dN (oR
 x) j (kW j (stepOf q l r) t) (kZ (mN x) j e 0 (λP=>∃(I1:Nat×Nat×gA×MH×PH->Prop)(n:Nat×Nat×gA×MH×PH->Nat),(∃(d:Nat×Nat×gA×MH×PH),aA (I1 d) (dE e) (aA gI (bL P.len=bL d.2.1) (aA (aZ d.1) (nK 123 t.enc=nK 123 (HI d)) (aA (mN x=tV d) (j=qV d) True))))/\∀(d:Nat×Nat×gA×MH×PH),I1 d->aW (↑d.1:Int) (↑d.2.1:Int) (kZ (tV d) (qV d) e 0 (λg=>aJ (λA o=>aI (aK g.a A o) (0<=(↑d.1:Int)) ((↑d.1:Int)<aF g) (∃(D:gA),aA (aR (tV d) (qV d) A (bE o d.1 22) D.enc) (aR (tV d) (qV d) e 0 (aM g)) (∃(J:gA),LS (λw z=>∃(u:Step),aI (fY D.enc (HI d)=fY J.enc w.enc) (kW (qV d) z J) (kW (qV d) u w) (∀(L
 :Bool),(eZ L↔z=u)->aR (tV d) (qV d) e 0 (aM g)/\branch L (K (fN (↑d.1:Int)) (tV d) (qV d)) (∃(f:Nat×Nat×gA×MH×PH),aA (I1 f) (n f<n d) (aA (dE e) gI (aA (bV d.2.1 f.2.1) (eR (bF ((↑d.1:Int)+1))=bL f.1) (aA (nK 123 (HI d)=nK 123 (HI f)) (tV d=tV f) (bR (qV d) (qV f))))))))))))) (∃(g:Sl),Cr (aR (tV d) (qV d) e 0 (aM g)) (aR (tV d) (qV d) e 0 (aM g)) (λf=>nQ (dC (tV d) (cX g) 123 22 f) f 272 (jN (λs C=>dY (tV d) C (cX g) s 123 22 (eG f (HI d))->vR C e (iI s) (λM=>kZ M (qV d) e 0 (λD=>K (fN (kY (aF D))) M (qV d))))))))))))))))
def WX(sc:bX)(sl:Sl)(m:MH)(h:PH)(K:dk):Prop:=
  fA (aF sl) 32 (K (CV.tup (bD (gV Dd) 2)) m h) (An sc h (λs=>∀(_:Sl),cK (cQ s) 0 (K (CV.tup (bD (gV Dd) (cQ s))) m h) (HR (λI x=>aA (I x) (aH sl) (aA cW fI (aA (aH sl) (aY sl) (aA (aZ x.1) (bP sc) (bS pG m m h x.2))))) (λI C x=>I x->aW (↑x.1:Int) (aF sl) (aJ (λb o=>aI (aK sl.a b o) (0<=(↑x.1:Int)) ((↑x.1:Int)<aF sl) (∃(y:QV),aR m x.2 b (bE o x.1 21) y.enc/\Bz (cV (cD sc) (nO iO (hX y))) x.2 (λn p q _ e=>cK (eF n p q).2 0 (K (CV.tup (nO (gV Dd) (CV.val (fE (eF n p q).2)))) m e) (∃(d:Nat×PH),aA (I d) (C d<C x) (aA (aH sl) cW (aA fI (aH sl) (aA (aY sl) (eR (bF ((↑x.1:Int)+1))=bL d.1) (rZ (bP sc) pG m m e d.2))))))))) (mE m
 x.2 (λb u=>gP m u b Dd 62) (λb u=>∃(I1:Nat×Nat×MH×PH->Prop)(D:Nat×Nat×MH×PH->Nat),(∃(d:Nat×Nat×MH×PH),aA (I1 d) fI (aA (dP b (p9 d)) (aH sl) (aA (aY sl) (aZ d.1) (aA pG (u=mN d) (bR x.2 (oR d))))))/\∀(d:Nat×Nat×MH×PH),I1 d->aW (↑d.1:Int) (aF sl) (aJ (λF o=>aI (aK sl.a F o) (0<=(↑d.1:Int)) ((↑d.1:Int)<aF sl) (∃(y:QV),aR (mN d) (oR d) F (bE o d.1 21) y.enc/\∃(f:Sl),aA (aR (mN d) (oR d) (p9 d) 1 (aM f)) (aR (mN d) (oR d) (p9 d) 1 (aM f)) (qR (λv q=>uH (λp n r=>∃(t:dv),aA (mJ (p9 d) (hX y)=mJ p (hX v)) (dZ (oR d) q v) (aA (QI q) (Rq q) (aI (mR (mN d) (oR d) p n r t)
 (J1 t) (HJ t q) (H4 (λz k G=>iM (λg e=>dN (oR d) e (Bo q t z k) (mR g e p G r z->J1 z->CF (mN d) g p n G->Cr (aR g e (p9 d) 1 (aM f)) (aR g e (p9 d) 1 (aM f)) (λA=>nQ (dC g (cX f) 3 1 A) A 8 (jN (λH B=>dY g B (cX f) H 3 1 (eG A (bQ (↑k:Int)))->kS (λc E=>aA (Gc B (p9 d) (lF c E 0)) (nR 1 c) (∀(J:MH),oX B J (p9 d) c 1 (aM H) E->∃(j:Nat×Nat×MH×PH),aA (I1 j) (D j<D d) (aA fI (dP (p9 d) (p9 j)) (aA (aH sl) (aY sl) (aA (eR (bF ((↑d.1:Int)+1))=bL j.1) pG (bG J (mN j) e (oR j)))))))))))))))))))))) (∃(y:Sl×Sl),aR (mN d) (oR d) (p9 d) 0 (kP y.1 y.2)/\K (CV.tup (bD (gV
 (kP y.1 y.2)) 0)) (mN d) (oR d))))))))
structure aAQ(m0 m:MH)(h:PH)(p r:Sl)(ts:dv)(ks:ed):Prop where
 steps:∃vs,eC m0 m p 123 22 (vs.map gA.enc)/\Steps h vs ts
 roots:eC m0 m r 3 1 (ks.map fun(k:Nat)=>eI k)
def Nz:Vc.Spec:=λd m h K=>∃sc e s c,d=[aS sc,cS e]/\fR h s sc/\wV h e c/\(∀q∈c,(eF s [] q).2=0->QI q)/\oK s c=0/\
 ∀p r ts ks m' h',PH.le h h'->Sub m m'->y9 c [] ts ks->aAQ m m' h' p r ts ks->K (.tup [aPl p r,cI 0]) m' h'
theorem acZ:di 110 bGJ:=by
 refine fU func110 ?_;rintro e m h K ⟨v,q,l,r,rfl,f,g⟩;refine⟨cT [(49,alX)] [] [] [] false,rfl,aE Sc aG,TB v l r m h K,bu,?_⟩;dsimp only[TB,push_cast];obtain⟨op,ta,w,co,on,gr,od,li,args⟩:=q;have p:=f.parts;refine⟨⟨0,0,v.where_,v.columns,v.on,v.group,v.order,0,⟨none,0,0⟩⟩,.mk 0 0 w co on gr od 0 [],rfl,nS.rep ⟨rfl,rfl,p.where_,p.columns_,p.on_,p.group_,p.order_,rfl,.nil _ _ _ _⟩,λc h' le r=>?_⟩;have d:=r.parts;exact g ⟨v.op,v.table,c.where_,c.columns,c.on,c.group,c.order,v.limit,_,_⟩ h' le ⟨p.op_,p.table_,d.where_,d.columns_,d.on_,d.group_,d.order_,p.limit_,rfl,rfl⟩
theorem CF.refl(m:MH)(c:Nat)(s:Sl):CF m m c s s:=⟨λ_ _ e _ _=>e,λb i e=>.inr ⟨i,e⟩⟩
theorem CF.trans{n m2:MH}{c:Nat}{s y z:Sl}{o:Obj}(f:CF m n c s y)(B:n c=some o)(A:CF n m2 c y z):CF m m2 c s z:=by
 refine⟨λb o e g d=>A.other b o (f.other b o e g d) g λi u=>?_,λb i e=>?_⟩
 .rcases f.fresh b i u with h|⟨j,h⟩
  .rw[e]at h;cases h
  .exact d j h
 .rcases A.fresh b i e with h|⟨j,h⟩
  .cases u:m b with
   |none=>exact .inl rfl
   |some C=>
    by_cases d:∃i,s.a=some ⟨b,i,none⟩
    .exact .inr d
    .have g:b≠c:=λx=>by rw[x,B]at h;cases h
     rw[f.other b C u g λi x=>d ⟨i,x⟩]at h;cases h
  .exact f.fresh b j h
theorem CF.upd{c m2:MH}{d f:Nat}{s j:Sl}{o:Obj}(g:CF m c d s j)(u:iD c m2 f o)(h:m f=none):CF m m2 d s j:=⟨λb o e n x=>by
 rw[u.other b (λy=>by rw[y,h]at e;cases e)];exact g.other b o e n x,g.fresh⟩
theorem mR.keep{f g:Nat}{s:Sl}{o:Obj}(x:mR m h f s r ts)(le:PH.le h h')(u:iD m m' g o)(y:g≠f)(z:∀d,m g≠some (.cells d 123 (0,0))):mR m' h' f s r ts:=by
 obtain⟨A,a,b⟩:=x.row;refine⟨by rw[u.other f y.symm];exact x.at_,A,dC.keep a λc i e=>u.other c λj=>?_,b.1,λi t e=>?_⟩
 .obtain⟨d,n⟩:=dC.blk a e;rw[j]at n;exact z d n
 .obtain⟨v,B,j⟩:=b.2 i t e;exact⟨v,B,j.mono le⟩
theorem mR.mono{c:Nat}{s:Sl}(x:mR m h c s r ts)(le:PH.le h h'):mR m h' c s r ts:=by
 obtain⟨d,a,b⟩:=x.row;refine⟨x.at_,d,a,b.1,λi t e=>?_⟩;obtain⟨v,f,g⟩:=b.2 i t e;exact⟨v,f,g.mono le⟩
theorem mR.len{c:Nat}{s:Sl}(x:mR m h c s r ts):s.len=ts.length:=by
 obtain⟨d,a,b⟩:=x.row;have:=dC.slen a;rw[length_map,b.1]at this;exact this
structure cxJ(m0:MH)(pb ab:Nat)(s0 r:Sl)(args:ds)(ts:dv)(i:Nat)(m:MH)(h:PH)(s:Sl)(ts1:dv)(l:Nat)(ts2:dv)(k:Nat):Prop where
 one:if i=0 then ts1=ts/\l=0 else Q4 args ts ts1 l
 two:if i<=1 then ts2=ts1/\k=0 else Second args ts1 ts2 k
 plan:mR m h pb s r ts2
 ints:∀t∈ts2,F3 t
 arr:m ab=some (.cells #[.int .i64 l,.int .i64 k] 101 (0,0))
 grew:CF m0 m pb s0 s
 len:(ts2.length:Int)+wZ (args.drop i)+1<=8000000
theorem Steps.snoc{vs:List gA}{v:gA}(s:Steps h vs ts)(d:kW h t v):Steps h (vs++[v]) (ts++[t]):=by
 refine⟨by simp[s.1],λi x e=>?_⟩;by_cases c:i<ts.length
 .rw[getElem?_append_left c]at e;obtain⟨u,f,g⟩:=s.2 i x e;exact⟨u,by rw[getElem?_append_left (by rw[s.1];exact c)];exact f,g⟩
 .have j:=(cn e);simp at j;obtain rfl:i=ts.length:=by omega
  simp at e;subst e;exact⟨v,by rw[<-s.1];simp,d⟩
theorem auX{α:Type}{l:List α}{a:α}(h:l[i]? =some a):l.drop i=a::l.drop (i+1):=by
 obtain⟨c,e⟩:=List.getElem?_eq_some_iff.1 h;rw[drop_eq_getElem_cons c,e]
theorem asQ:∀N,di 67 (azX N)
 |0=>by
  refine eA (fn:=Tryz.f67) (c:=cM Tryz.f67) func67 rfl bz ?_;rintro b0 m h K ⟨v,q,H,s,r,ts,rfl,_,hN,_⟩;omega
 |N+1=>by
  refine fU func67 ?_;rintro b0 m h K ⟨v,q,H,s,r,ts,rfl,hq,hN,hi,ha,hp,b2,hl,hK⟩;refine⟨b0Q N H v,rfl,aE (asQ N) (aE acZ (aE acX aG)),WA N H v m h K,bu,?_⟩;dsimp only[WA,push_cast];have J:=@vF q;obtain⟨op,ta,w,co,on,gr,od,li,args⟩:=q;have x:=hq.parts;have b3:=x.args_.slen;rw[O2]at hi;obtain⟨hn,b4⟩:=hi;rw[XF]at ha;obtain⟨c1,b5⟩:=ha;have c2:=vO op;simp only[NQ]at hl;simp only[Query.args]at J;intro ab m1 L Z;have R:ab≠H:=λe=>by have:=hp.at_;rw[<-e,L.m_]at this;cases this
  refine⟨λ⟨i,b,mx,hx⟩=>b=ab/\i<=args.length/\PH.le h hx/\∃S B l d k,cxJ m H ab s r args ts i mx hx S B l d k,λ⟨i,_⟩=>args.length-i,⟨(0,ab,m1,h),⟨rfl,aC,.refl _,s,ts,0,ts,0,?_⟩,MT⟩,?_⟩
  .exact⟨⟨rfl,rfl⟩,⟨rfl,rfl⟩,hp.keep (.refl _) Z R (by rw[L.m_];simp),b2,Z.at_,(CF.refl m H s).upd Z L.m_,ce⟩
  rintro⟨i,b,mx,hx⟩ ⟨rfl,hi,E,S,B,l,d,k,A⟩;dsimp only
  have a4:∀{m':MH}{W:PH}{D:Sl}{us:dv}{cs:Array Value},mR m' W H D r us->m' b=some (.cells cs 101 (0,0))->∀j,D.a≠some ⟨b,j,none⟩:=λP e j I=>by
   obtain⟨vs,a,_⟩:=P.row;obtain⟨b6,T⟩:=dC.blk a I;rw[e]at T;cases T
  refine aD (λa'=>?_) (λb7=>?_)
  .obtain⟨a,U⟩:=dO b3 a';obtain⟨b1,o1,u,e1,r1,b8⟩:=(x.args_.mono E).at U;have hm:=cr U;have a5:=(cn U);have hd:=auX U;have len:=A.len;rw[hd]at len;simp only[wZ]at len;have p0:=sR (args.drop (i+1));refine⟨b1,o1,e1,aC,a',u,.imm r1,u,a,H,S,r,d,rfl,b8,by have:=J hm;omega,b4 a hm,b5 a hm,A.plan,A.ints,aC,λF k' D m' h' G M a6 X g'=>?_⟩;have a1:=g'.other b _ A.arr R (a4 A.plan A.arr);have l':=yY a M;have g2:=A.grew.trans A.plan.at_ g';refine⟨aC,aC,_,_,⟨a1⟩,ce,λm2 C=>?_⟩;rcases(show i=0\/i=1 by omega)with rfl|rfl
   .exact⟨(1,b,m2,h'),⟨rfl,a5,E.trans G,D,F,k',F,0,⟨by rw[show args=a::args.drop 1 from hd];obtain⟨⟨I,_⟩,T,_⟩:=And.intro A.one A.two;rw[<-I, <-T];exact M,⟨rfl,rfl⟩,a6.keep (.refl _) C R (by rw[a1];simp),X,by have:=A.two.2;subst this;exact C.at_,g2.upd C L.m_,by show(F.length:Int)+wZ (args.drop (0+1))+1<=8000000;omega⟩⟩,ck,MT⟩
   .exact⟨(2,b,m2,h'),⟨rfl,a5,E.trans G,D,B,l,F,k',⟨A.one,by
     have I:d=B:=A.two.1;show Second args B F k';have T:args=args.drop 0:=rfl;obtain⟨a0,h0⟩:∃a0,args[0]? =some a0:=⟨_,cq aC⟩
     rw[T,auX h0,show args.drop (0+1)=a::args.drop 2 from hd, <-I];exact M,a6.keep (.refl _) C R (by rw[a1];simp),X,by exact C.at_,g2.upd C L.m_,by show(F.length:Int)+wZ (args.drop (1+1))+1<=8000000;omega⟩⟩,ck,MT⟩
  have a7:i=args.length:=by omega
  have hF:Q4 args ts B l:=by
   have f:=A.one;split at f
   .cases args with
    |nil=>exact f
    |cons a rs=>simp at a7;omega
   .exact f
  have hS:Second args B d k:=by
   have f:=A.two;split at f
   .cases args with
    |nil=>exact f
    |cons a rs=>cases rs with
     |nil=>exact f
     |cons b rs=>simp at a7;omega
   .exact f
  have hT:F3 ⟨op,ta,w,co,on,gr,od,li,(l:Nat),(k:Nat)⟩:=by
   obtain⟨f,O,h3,h4,h5⟩:=hn;exact⟨f,O,h3,h4,h5⟩
  have tl:=A.len;have p0:=sR (args.drop i);refine⟨bz,bz,(l:Int),.of_m A.arr rfl,bz,bz,(k:Int),.of_m A.arr rfl,v,_,(l:Int),(k:Int),rfl,hq.mono E,λt' h' G rt=>?_⟩;have P:=A.plan.mono G;have sl:=P.len;refine⟨S,.of_m P.at_ rfl,λ⟨j,n,t,m',W⟩=>n=d.length/\t=t'/\m'=mx/\W=h'/\j<=d.length/\∀y∈d.take j,y≠⟨op,ta,w,co,on,gr,od,li,(l:Nat),(k:Nat)⟩,λ⟨j,_⟩=>d.length-j,⟨(0,S.len,t',mx,h'),⟨sl,rfl,rfl,rfl,aC,bx⟩,MT⟩,?_⟩;rintro⟨j,n,t,m',W⟩ ⟨rfl,rfl,rfl,rfl,hj,a2⟩;dsimp only;obtain⟨vs,hr,Q⟩:=P.row;refine aD (λa'=>?_) (λb7=>?_)
  .obtain⟨y,a3⟩:∃y,d[j]? =some y:=⟨_,cq aC⟩
   obtain⟨u,C,ru⟩:=Q.2 j y a3;obtain⟨b1,o1,e1,rd⟩:=dC.rdAt (h:=W) hr (i:=j) (e:=gA.enc u) (by rw[getElem?_map,C];rfl);refine⟨S,.of_m P.at_ rfl,b1,o1,e1,aC,aC,u,rd,.of_m P.at_ rfl,u,t,y,_,rfl,ru,rt,λz hz=>⟨.of_m P.at_ rfl,aB (λf=>?_) (λf=>⟨(j+1,d.length,t,m',W),⟨rfl,rfl,rfl,rfl,ck,λy' a8=>?_⟩,cj,MT⟩)⟩⟩
   .exact hK d j S m' W (E.trans G) (vP.2 ⟨B,l,d,k,hF,hS,.inl ⟨y,a3,by rw[hz.1 f];rfl,rfl⟩⟩) P A.ints A.grew
   .rw[db,a3]at a8;rcases mem_append.1 a8 with O|O
    .exact a2 y' O
    .simp at O;subst O;intro I;rw[hz.2 I]at f;cases f
  .have b9:d.take j=d:=cu aC;rw[b9]at a2
   have a9:∀c i,S.a=some ⟨c,i,none⟩->c≠H:=λc i e I=>by
    obtain⟨b6,T⟩:=dC.blk hr e;rw[I,P.at_]at T;cases T
   refine⟨S,.of_m P.at_ rfl,.of_m P.at_ rfl,_,hr,by rw[length_map,Q.1];omega,by rw[length_map,Q.1];omega,λD m2 g=>?_⟩;have c':=g.other H _ P.at_ λi e=>a9 _ i e rfl;refine⟨_,_,⟨c'⟩,bx,λm3 C=>?_⟩;have C:iD m2 m3 H (.cells #[.slice D.a D.len D.cap,.slice r.a r.len r.cap] 62 (0,0)):=C
   have b':∀c i,D.a=some ⟨c,i,none⟩->c≠H:=λc i e I=>by
    rcases g.fresh c i e with f|⟨q,f⟩
    .rw[I,P.at_]at f;cases f
    .exact a9 c q f I
   have Y:dC m3 D 123 22 ((vs++[t]).map gA.enc):=by
    rw[cv];exact dC.keep g.row λc i e=>C.other c (b' c i e)
   have c0:D.len=d.length+1:=by
    have:=dC.slen Y;simp[Q.1]at this;exact this
   refine⟨D,.of_m C.at_ rfl,?_⟩;rw[c0,dL aC aC,show((d.length+1:Nat):Int)-1=(d.length:Nat)by omega];refine hK (d++[⟨op,ta,w,co,on,gr,od,li,(l:Nat),(k:Nat)⟩]) d.length D m3 W (E.trans G) (vP.2 ⟨B,l,d,k,hF,hS,.inr ⟨λy V e=>a2 y V (key_inj (A.ints y V) hT e),rfl,rfl⟩⟩) ⟨C.at_,vs++[t],Y,Steps.snoc Q rt⟩ (λy V=>?_) ?_
   .rcases mem_append.1 V with O|O
    .exact A.ints y O
    .simp at O;subst O;exact hT
   .refine A.grew.trans P.at_ ⟨λc o e hc hs=>by rw[C.other c hc];exact g.other c o e hs,g.fresh⟩
theorem aRX:di 67 azZ:=iQ asQ λ_ _ _ _⟨v,q,c,s,r,ts,e,d,f⟩=>⟨SizeOf.sizeOf q+1,v,q,c,s,r,ts,e,d,aC,f⟩
theorem a2Q{c:ds}(h:oK s c=0):c.length<=32/\cQ s=0/\∀(i:Nat) q,c[i]? =some q->(∀(j:Nat) x,j<i->c[j]? =some x->(eF s [] x).2=0)->(eF s [] q).2=0:=by
 unfold oK at h;split at h
 .cases h
 rename_i A;split at h
 .rename_i d;exact absurd h d
 rename_i d;refine⟨aC,Classical.not_not.1 d,λi q u y=>Classical.byContradiction λn=>?_⟩
 have e:kB (c.map λq=>(eF s [] q).2)=(eF s [] q).2:=FJ (i:=i) (by simp[u]) n (λj x f o=>by
  rw[getElem?_map,Option.map_eq_some_iff]at o;obtain⟨z,g,rfl⟩:=o;exact y j z f g)
 exact n (by rw[<-e];exact h)
structure cFQ(m0:MH)(qs:ds)(b i:Nat)(m:MH)(h:PH)(s r:Sl)(ts:dv)(ks:ed):Prop where
 len:ks.length=i
 add:y9 (qs.take i) [] ts ks
 plan:mR m h b s r ts
 ints:∀t∈ts,F3 t
 sf:∀c j,s.a=some ⟨c,j,none⟩->m0 c=none
 roots:eC m0 m r 3 1 (ks.map fun(k:Nat)=>eI k)
 sub:Sub m0 m
 size:ts.length<=24*i
theorem aXX:di 22 Nz:=by
 refine fU func22 ?_;rintro b8 m h K ⟨sc,sl,s,B,rfl,hs,hq,hI,hE,hK⟩;refine⟨b6J sc sl m,rfl,aE Sa (aE L8 (aE aRX aG)),WX sc sl m h K,bu,?_⟩;dsimp only[WX,push_cast];have hl:=hq.slen;obtain⟨b9,a7,S⟩:=a2Q hE;refine aD (λf=>by omega) (λ_=>⟨sc,s,rfl,hs,λ_=>aB (λZ=>?_) (λ_=>?_)⟩)
 .simp[a7]at Z
 refine⟨λ⟨i,hx⟩=>i<=B.length/\PH.le h hx/\∀j q,j<i->B[j]? =some q->(eF s [] q).2=0,λ⟨i,_⟩=>B.length-i,⟨(0,h),⟨aC,.refl _,λj q hj=>by omega⟩,MT⟩,?_⟩;rintro⟨i,hx⟩ ⟨hi,D,y⟩;dsimp only;refine aD (λE=>?_) (λa' b m1 hb a0=>?_)
 .obtain⟨q,x⟩:=dO hl E;obtain⟨b1,o1,u,e1,J,T⟩:=(hq.mono D).at x;have he:=S i q x y;refine⟨b1,o1,e1,aC,E,u,.imm J,sc,cG,u,s,[],q,rfl,hs.mono D,rH _,T,λO f a8 ri=>aB (λZ=>by simp[he]at Z) (λ_=>⟨(i+1,f),⟨ck,D.trans a8,λj q' hj F=>?_⟩,cj,MT⟩)⟩;by_cases a9:j=i
  .subst a9;rw[x]at F;cases F;exact he
  .exact y j q' aC F
 have U:∀q∈B,(eF s [] q).2=0:=λq F=>by
  obtain⟨j,hj⟩:=mem_iff_getElem?.1 F;exact y j q (by have:=(cn hj);omega) hj
 have nb:m b=none:=hb.m_;refine⟨λ⟨i,P,mx,hy⟩=>P=b/\i<=B.length/\PH.le hx hy/\∃O J ts ks,cFQ m B b i mx hy O J ts ks,λ⟨i,_⟩=>B.length-i,⟨(0,b,m1,hx),⟨rfl,aC,.refl _,cG,cG,[],[],⟨rfl,⟨rfl,rfl⟩,⟨a0.at_,[],dC.nil _ _ _,rfl,λi t e=>by simp at e⟩,λt ht=>(by simp at ht),λc j e=>(by cases e),eC.nil _ _ _ _,iD.keeps hb a0,bx⟩⟩,MT⟩,?_⟩;clear hi a' y i;rintro⟨i,P,mx,hy⟩ ⟨rfl,hi,G,O,J,ts,ks,A⟩;dsimp only;have L:=A.plan.at_;refine aD (λE=>?_) (λa'=>?_)
 .obtain⟨q,x⟩:=dO hl E;obtain⟨b1,o1,u,e1,b0,T⟩:=(hq.mono (D.trans G)).at x;have a1:=cr x;have V:=U q a1;have c':=Rz (M8 V);have b2:=A.size;refine⟨b1,o1,e1,aC,E,u,.imm b0,J,.of_m L rfl,.of_m L rfl,u,q,P,O,J,ts,rfl,T,hI q a1 V,a8J V,A.plan,A.ints,aC,λb3 k s' m' h' b4 ha C a2 g'=>⟨.of_m C.at_ rfl,.of_m C.at_ rfl,?_⟩⟩;obtain⟨vs,H,_⟩:=A.plan.row;obtain⟨b5,I,a3⟩:=C.row
  have z:∀c j,J.a=some ⟨c,j,none⟩->c≠P/\(∀n,O.a≠some ⟨c,n,none⟩)/\m' c=mx c/\∃M,m' c=some (.cells M 3 (0,0)):=λc j e=>by
   obtain⟨M,d⟩:=dC.blk A.roots.row e;have f:c≠P:=λW=>by rw[W,L]at d;cases d
   have Z:∀n,O.a≠some ⟨c,n,none⟩:=λn W=>by
    obtain⟨a4,e4⟩:=dC.blk H W;rw[d]at e4;cases e4
   have h3:=g'.other c _ d f Z;exact⟨f,Z,by rw[h3,d],M,h3⟩
  have a5:dC m' J 3 1 (ks.map fun(k:Nat)=>eI k):=dC.keep A.roots.row λc j e=>(z c j e).2.2.1;have kl:=A.len;refine⟨_,a5,cd,cd,λs2 m2 g=>?_⟩;have b6:=g.other P _ C.at_ λj e=>(z _ j e).1 rfl;refine⟨_,_,⟨b6⟩,bx,λm3 hu=>?_⟩;have hu:iD m2 m3 P (.cells #[.slice s'.a s'.len s'.cap,.slice s2.a s2.len s2.cap] 62 (0,0)):=hu;have Q:Sub m m':=λc o e=>g'.other c o (A.sub c o e) (λd=>by rw[d,nb]at e;cases e) (λj d=>by rw[A.sf c j d]at e;cases e)
  have a6:Sub m m3:=λc o e=>by
   rw[hu.other c (λd=>by rw[d,nb]at e;cases e)];exact g.other c o (Q c o e) (λj d=>by rw[A.roots.fresh c j d]at e;cases e)
  have X:∀c,mx c=none->m c=none:=λc e=>by
   cases d:m c with
   |none=>rfl
   |some o=>rw[A.sub c o d]at e;cases e
  have Y:∀c,m' c=none->m c=none:=λc e=>by
   cases d:m c with
   |none=>rfl
   |some o=>rw[Q c o d]at e;cases e
  refine⟨(i+1,P,m3,h'),⟨rfl,ck,G.trans b4,s',s2,b3,ks++[k],⟨by simp[kl],by rw[db,x];exact GV A.add ha,⟨hu.at_,b5,?_,a3⟩,a2,λc j e=>?_,⟨?_,λc j e=>?_⟩,a6,?_⟩⟩,cj,MT⟩
  .refine dC.keep I λc j e=>?_;obtain⟨M,d⟩:=dC.blk I e;show m3 c=m' c;rw[hu.other c (λW=>by rw[W,C.at_]at d;cases d),d];refine g.other c _ d λn W=>?_;obtain⟨_,_,_,a4,e4⟩:=z c n W;rw[d]at e4;cases e4
  .rcases g'.fresh c j e with f|⟨n,f⟩
   .exact X c f
   .exact A.sf c n f
  .rw[cv];refine dC.keep g.row λc j e=>hu.other c λd=>?_;rcases g.fresh c j e with f|⟨n,f⟩
   .rw[d,C.at_]at f;cases f
   .exact(z c n f).1 d
  .rcases g.fresh c j e with f|⟨n,f⟩
   .exact Y c f
   .exact A.roots.fresh c n f
  .have:=yY q ha;omega
 .have R:=A.add;rw[cu aC]at R;obtain⟨vs,H,b7⟩:=A.plan.row;exact⟨(O,J),.of_m L rfl,hK O J ts ks mx hy (D.trans G) A.sub R ⟨⟨vs,⟨H,A.sf⟩,b7⟩,A.roots⟩⟩
noncomputable def b5Z(cb:Nat)(h:PH):Ctx:=
 cT [(13,G6),(12,Ea),(51,cDJ)] [] [(6,{A:=List gA×dl×MH,st:=λ⟨c,rs,m⟩=>bO 105 107 [(0,pv cb),(3,.at (.ptr 3 0)),(4,.at (.ptr 4 0))] [(3,.cells 62 [.lst 8,.lst 12]),(4,.cells 62 [.val (.slice none 0 0),.val (.slice none 0 0)]),(8,.lst 123 22 (c.map gA.enc)),(12,.lst 3 1 (rs.map eI))] m h}),
  (19,{A:=List gA×dl×MH×PH,st:=λ⟨c,rs,m,h⟩=>bO 105 107 [(3,.at (.ptr 3 0)),(4,.at (.ptr 4 0))] [(3,.cells 62 [.lst 8,.lst 12]),(4,.cells 62 [.val (.slice none 0 0),.val (.slice none 0 0)]),(8,.lst 123 22 (c.map gA.enc)),(12,.lst 3 1 (rs.map eI))] m h})] [] false
abbrev De(a b:Nat):Prop:=eQ (oQ a (iU (At.lst b) (At.lst 12)))
noncomputable abbrev Px(a:List gA):List dj:=List.map gA.enc a
noncomputable abbrev uU(a:List gA×dl×MH):List dj:=Px a.1
abbrev Hv(a:List gA×dl×MH)(b:Int)(c:dj)(d:Nat)(e:dj)(g:List gA×dl×MH×PH):Prop:=bW 123 22 (xL (uU a) b (splice c d e))=bW 123 22 (Px g.1)
noncomputable abbrev Dg(a:List gA×dl×MH×PH):Nat->Option Obj:=a.2.2.1
noncomputable abbrev Df(a:List gA×dl×MH×PH):Nat->Nat->Option Value:=a.2.2.2
attribute [push_cast] De Px uU Hv Dg Df
def WV(cb:Nat)(p r:Sl)(m:MH)(h:PH)(K:dk):Prop:=
  ∃(y:List dj),aA (cZ 22 y) (cE h (cX p) 22 y) (aA (Ci y 272) (Cj y) (∃(j:List dj),aA (cZ 1 j) (cE h (cX r) 1 j) (aA (Ci j 8) (Cj j) (∃(I:List gA×dl×MH->Prop),dD (j7 y) 0 (eW cb 40 m h (λk u=>iY j 8 (bU h 22 y (λs g=>bU g 1 (eG j (bQ (bF (k-3)))) (λB C=>K (gV (kP s B)) u C))))) (jT cb 5 m h (λc J u=>lC m u c h (branch J (eW cb 40 u h (λk n=>iY j 8 (bU h 22 y (λs g=>bU g 1 (eG j (bQ (bF (k-3)))) (λB C=>K (gV (kP s B)) n C))))) (∃(x:List gA×dl×MH),aA (I x) (dE cb) (aA bJ fI (aA (De 62 8) pG (aA (bW 123 22 y=bW 123 22 (uU x)) (gU j x.2.1) (bG u x.2.2 h h))))))))/\∀(x:List gA×dl
 ×MH),I x->eW cb (j7 (uU x)) x.2.2 h (λk u=>aA (bY k) (k<j7 (uU x)) (∃(I1:List gA×dl×MH×PH->Prop),eW cb 6 u h (λD n=>cO (D==0) (eW cb (bF ((↑(uU x).length:Int)+2)) n h (λo f=>∃(e:dj),aA (jZ (uU x) k e) (wF 20 e) (∃(d:List gA×dl×MH×PH),aA (I1 d) bJ (aA fI (De 62 8) (aA pG (Hv x k e 20 (bQ (kY o)) d) (aA (gU (dT x.2.1) d.2.1) (f=Dg d) (bR h (Df d)))))))) (D==1) (eW cb (bF ((↑(uU x).length:Int)+2)) n h (λo f=>∃(e:dj),aA (jZ (uU x) k e) (wF 21 e) (∃(d:List gA×dl×MH×PH),aA (I1 d) bJ (aA fI (De 62 8) (aA pG (Hv x k e 21 (bQ (kY o)) d) (aA (gU (dT x.2.1) d.2.1) (f=
 Dg d) (bR h (Df d)))))))) (cO (D==2) (eW cb 13 n h (λo f=>∃(e:dj),aA (jZ (uU x) k e) (wF 0 e) (∃(d:List gA×dl×MH×PH),aA (I1 d) bJ (aA fI (De 62 8) (aA pG (bW 123 22 (xL (uU x) k (tA (fE o) 1 e))=bW 123 22 (Px d.1)) (aA (gU (dT x.2.1) d.2.1) (f=Dg d) (bR h (Df d)))))))) (D==3) (∃(e:dj),jZ (uU x) k e/\∃(E:Sl),Cp (List.take 1 (List.drop 15 e)=aM E) (λA=>aA (cZ 1 A) (cE h (cX E) 1 A) (aA (Ci A 8) (Cj A) (eW cb 9 n h (λo f=>iY A 8 (bU h 1 (eG A (bQ (kY o))) (λs g=>∃(z:dj),aA (jZ (uU x) k z) (wF 15 z) (∃(d:List gA×dl×MH×PH),aA (I1 d) bJ (aA fI (De 62 8) (aA
 pG (Hv x k z 15 (aM s) d) (aA (gU (dT x.2.1) d.2.1) (f=Dg d) (bR g (Df d))))))))))))) (dD D 4 (eW cb 7 n h (λo f=>∃(e:dj),aA (jZ (uU x) k e) (wF 1 e) (∃(d:List gA×dl×MH×PH),aA (I1 d) bJ (aA fI (De 62 8) (aA pG (Hv x k e 1 (bQ (kY o)) d) (aA (gU (dT x.2.1) d.2.1) (f=Dg d) (bR h (Df d)))))))) (∃(e:dj),jZ (uU x) k e/\∃(E:PV),List.take 13 (List.drop 2 e)=E.enc/\∃(c:Nat),qA (λv F=>aA (mJ cb (pZ E)=mJ c (pZ v)) (aU n h c) (aA (dX h F v) (NM F) (wX F/\∀(G:Pred)(H:PV),iM (λf g=>dN h g (dX g G H) (wX G->bK n f c->kI f g c (∃(z:dj),aA (jZ (uU x) k z) (15<=
 z.length) (∃(d:List gA×dl×MH×PH),aA (I1 d) bJ (aA fI (De 62 8) (aA pG (Hv x k z 2 H.enc d) (aA (gU (dT x.2.1) d.2.1) (f=Dg d) (bR g (Df d))))))))))))))))/\∀(d:List gA×dl×MH×PH),I1 d->bU (Df d) 22 (Px d.1) (λs g=>bU g 1 (dT d.2.1) (λB C=>K (gV (kP s B)) (Dg d) C))))))))
structure bGZ(t:Step):Prop where
 len:NM t.wher
 num:wX t.wher
 cols:t.columns.length<=1000000000
def Sp1(t t':Step):Prop:=t'.op=t.op/\t'.right=t.right\/t'.op=t.op/\t'.left=t.left\/t'.left=t.left/\t'.right=t.right
def aiQ(ts c:dv):Prop:=c=ts\/∃i t d,ts[i]? =some t/\c=ts.set i d/\Sp1 t d
def axQ:Vc.Spec:=λd m h K=>∃cb p r ts rs,d=[cP cb,aPl p r]/\aU m h cb/\jV h p r ts rs/\ts.length<=8000000/\rs.length<=8000000/\(∀t∈ts,bGZ t)/\∀f g c e m' h',PH.le h h'->jV h' f g c e->aiQ ts c->bK m m' cb->aU m' h' cb->K (aPl f g) m' h'
theorem a8Q(l:List gA):cZ 22 (l.map gA.enc):=by
 constructor
 .intro e c;obtain⟨x,_,rfl⟩:=mem_map.1 c;rfl
 .intro e c u d;obtain⟨x,_,rfl⟩:=mem_map.1 c;simp[gA.enc]at d;rcases d with rfl|rfl|rfl|rfl|rfl|rfl|rfl|rfl|rfl|rfl|rfl|rfl|rfl|rfl|rfl|rfl|rfl|rfl|rfl|rfl|rfl|rfl<;>rfl
theorem Steps.mono{vs:List gA}(s:Steps h vs ts)(le:PH.le h h'):Steps h' vs ts:=⟨s.1,λi t e=>by
 obtain⟨v,c,d⟩:=s.2 i t e;exact⟨v,c,d.mono le⟩⟩
theorem Steps.set{vs:List gA}(s:Steps h vs ts)(i:Nat){v:gA}(d:kW h t v):Steps h (vs.set i v) (ts.set i t):=by
 refine⟨by simp[s.1],λj x e=>?_⟩;rw[getElem?_set]at e;split at e
 .rename_i c;subst c;split at e
  .cases e;exact⟨v,by rw[getElem?_set_self (by rw[s.1];assumption)],d⟩
  .cases e
 .obtain⟨u,f,g⟩:=s.2 j x e;exact⟨u,by rw[getElem?_set_ne (by assumption)];exact f,g⟩
theorem aHJ(vs:List gA)(i:Nat)(v:gA){e:dj}(h:e=gA.enc v):(List.map gA.enc vs).set i e=List.map gA.enc (vs.set i v):=by rw[h,map_set]
theorem aVX:di 24 axQ:=by
 refine fU func24 ?_;rintro a0 m h K ⟨cb,p,r,ts,rs,rfl,hc,x,tl,rl,hw,hK⟩;refine⟨b5Z cb h,rfl,aE rP (aE FD (aE bj aG)),WV cb p r m h K,bu,?_⟩;dsimp only[WV,push_cast];obtain⟨H,hv,C⟩:=x.steps;have vl:=C.1;have I:∀(k:Int)(m':MH),bK m m' cb->aU m' h cb->(rs.map eI).length+1<=8000001/\∀(s:Sl)(h':PH),PH.le h h'->cE h' s 22 (H.map gA.enc)->∀(O:Sl)(P:PH),PH.le h' P->cE P O 1 (rs.map eI++[[fE k]])->K (gV [iI s,iI O]) m' P:=λk m' o c=>⟨cd,λs h' le Q O P D J=>hK s O ts (rs++[k]) m' P (le.trans D) ⟨⟨H,Q.mono D,C.mono (le.trans D)⟩,⟨by rw[cv];exact J,ce⟩,aC⟩ (.inl rfl) o (c.mono (le.trans D))⟩
 refine⟨H.map gA.enc,a8Q H,hv,ce,ce,rs.map eI,qF rs,x.roots.row,ce,ce,λ⟨g,A,V⟩=>g=H/\A=rs/\H.length≠0/\bK m V cb/\aU V h cb,aB (λ_=>⟨cb,40,rfl,hc,λk m' _ _ o c=>⟨ce,ce,(I _ m' o c).2⟩⟩) (λh1=>⟨cb,5,rfl,bz,bz,hc,λb m' o c=>aB (λ_=>⟨cb,40,rfl,c,λk m2 _ _ B F=>⟨ce,ce,(I _ m2 (o.trans B) F).2⟩⟩) (λ_=>⟨(H,rs,m'),⟨rfl,rfl,cm h1,o,c⟩,MT⟩)⟩),?_⟩;clear I;rintro⟨g,A,V⟩ ⟨rfl,rfl,a1,o,c⟩;dsimp only;refine⟨cb,_,rfl,c,λk m1 k0 T W c1=>?_⟩;have T:k<(g.length:Int):=by simp at T;omega
 obtain⟨i,rfl⟩:∃i:Nat,k=i:=⟨k.toNat,aC⟩
 have W:=o.trans W;obtain⟨t,X⟩:∃t,ts[i]? =some t:=⟨_,cq aC⟩
 obtain⟨u,hu,d⟩:=C.2 i t X;have w:=hw t (cr X);have G:(List.map gA.enc g)[(i:Int).toNat]? =some (gA.enc u):=by simp[hu]
 have fin:∀{u':gA}{t':Step}{m':MH}{h':PH},kW h' t' u'->Sp1 t t'->PH.le h h'->bK m m' cb->aU m' h' cb->(fun(x:List gA×dl×MH×PH)=>x.2.1=A/\PH.le h x.2.2.2/\bK m x.2.2.1 cb/\aU x.2.2.1 x.2.2.2 cb/\∃f,f.length=ts.length/\Steps x.2.2.2 x.1 f/\aiQ ts f) (g.set i u',A,m',h'):=fun{u' t' m' h'} Y Z le o c=>⟨rfl,le,o,c,ts.set i t',bx,(C.mono le).set i Y,.inr ⟨i,t,t',X,rfl,Z⟩⟩
 refine⟨k0,cm T,λx=>x.2.1=A/\PH.le h x.2.2.2/\bK m x.2.2.1 cb/\aU x.2.2.1 x.2.2.2 cb/\∃f,f.length=ts.length/\Steps x.2.2.2 x.1 f/\aiQ ts f,⟨cb,6,rfl,c1,λk m2 k0 T B F=>?_⟩,?_⟩
 .have B:=W.trans B;refine aB (λ_=>⟨cb,_,rfl,F,λj n _ _ y z=>⟨_,G,by simp[gA.enc],?_⟩⟩) λ_=>aB (λ_=>⟨cb,_,rfl,F,λj n _ _ y z=>⟨_,G,by simp[gA.enc],?_⟩⟩) λ_=>aB (λ_=>⟨cb,_,rfl,F,λj n _ _ y z=>⟨_,G,by simp[gA.enc],?_⟩⟩) λ_=>aB (λ_=>⟨_,G,u.columns,rfl,t.columns.map eI,qF _,d.columns_.row,by have:=w.cols;simp;omega,by have:=w.cols;simp;omega,cb,_,rfl,F,λj n _ _ y z=>⟨by have:=w.cols;simp;omega,by have:=w.cols;simp;omega,λs h' L Q=>⟨_,G,by simp[gA.enc],?_⟩⟩⟩) λ_=>aB (λ_=>⟨cb,_,rfl,F,λj n _ _ y z=>⟨_,G,by simp[gA.enc],?_⟩⟩) λ_=>⟨_,G,u.where_,rfl,cb,u.where_,t.wher,rfl,F,d.where_,w.len,w.num,λp' U n h3 R r3 a2 y z=>⟨_,G,by simp[gA.enc],?_⟩⟩
  .rw[Int.toNat_natCast,aHJ g i ⟨u.op,u.table,u.where_,u.columns,u.on,u.group,u.order,u.limit,IntKind.i64.wrap (j-1),u.right⟩ (e:=splice (gA.enc u) 20 [fE (IntKind.i64.wrap (j-1))]) rfl];exact⟨(g.set i ⟨u.op,u.table,u.where_,u.columns,u.on,u.group,u.order,u.limit,IntKind.i64.wrap (j-1),u.right⟩,A,n,h),fin (u':=⟨u.op,u.table,u.where_,u.columns,u.on,u.group,u.order,u.limit,IntKind.i64.wrap (j-1),u.right⟩) (t':={t with left:=IntKind.i64.wrap (j-1)}) ⟨d.op_,d.table_,d.where_,d.columns_,d.on_,d.group_,d.order_,d.limit_,rfl,d.right_⟩ (.inl ⟨rfl,rfl⟩) (.refl _) (B.trans y) z,MT⟩
  .rw[Int.toNat_natCast,aHJ g i ⟨u.op,u.table,u.where_,u.columns,u.on,u.group,u.order,u.limit,u.left,IntKind.i64.wrap (j-1)⟩ (e:=splice (gA.enc u) 21 [fE (IntKind.i64.wrap (j-1))]) rfl];exact⟨(g.set i ⟨u.op,u.table,u.where_,u.columns,u.on,u.group,u.order,u.limit,u.left,IntKind.i64.wrap (j-1)⟩,A,n,h),fin (u':=⟨u.op,u.table,u.where_,u.columns,u.on,u.group,u.order,u.limit,u.left,IntKind.i64.wrap (j-1)⟩) (t':={t with right:=IntKind.i64.wrap (j-1)}) ⟨d.op_,d.table_,d.where_,d.columns_,d.on_,d.group_,d.order_,d.limit_,d.left_,rfl⟩ (.inr (.inl ⟨rfl,rfl⟩)) (.refl _) (B.trans y) z,MT⟩
  .rw[Int.toNat_natCast,aHJ g i ⟨j,u.table,u.where_,u.columns,u.on,u.group,u.order,u.limit,u.left,u.right⟩ (e:=fE j::List.drop 1 (gA.enc u)) rfl];exact⟨(g.set i ⟨j,u.table,u.where_,u.columns,u.on,u.group,u.order,u.limit,u.left,u.right⟩,A,n,h),fin (u':=⟨j,u.table,u.where_,u.columns,u.on,u.group,u.order,u.limit,u.left,u.right⟩) (t':={t with op:=j}) ⟨rfl,d.table_,d.where_,d.columns_,d.on_,d.group_,d.order_,d.limit_,d.left_,d.right_⟩ (.inr (.inr ⟨rfl,rfl⟩)) (.refl _) (B.trans y) z,MT⟩
  .rw[Int.toNat_natCast,aHJ g i ⟨u.op,u.table,u.where_,s,u.on,u.group,u.order,u.limit,u.left,u.right⟩ (e:=splice (gA.enc u) 15 [iI s]) rfl];have r:=d.mono L;exact⟨(g.set i ⟨u.op,u.table,u.where_,s,u.on,u.group,u.order,u.limit,u.left,u.right⟩,A,n,h'),fin (u':=⟨u.op,u.table,u.where_,s,u.on,u.group,u.order,u.limit,u.left,u.right⟩) (t':={t with columns:=t.columns++[IntKind.i64.wrap (j-1)]}) ⟨r.op_,r.table_,r.where_,⟨by rw[cv];exact Q,by have:=w.cols;simp;omega⟩,r.on_,r.group_,r.order_,r.limit_,r.left_,r.right_⟩ (.inl ⟨rfl,rfl⟩) L (B.trans y) (z.mono L),MT⟩
  .rw[Int.toNat_natCast,aHJ g i ⟨u.op,IntKind.i64.wrap (j-1),u.where_,u.columns,u.on,u.group,u.order,u.limit,u.left,u.right⟩ (e:=splice (gA.enc u) 1 [fE (IntKind.i64.wrap (j-1))]) rfl];exact⟨(g.set i ⟨u.op,IntKind.i64.wrap (j-1),u.where_,u.columns,u.on,u.group,u.order,u.limit,u.left,u.right⟩,A,n,h),fin (u':=⟨u.op,IntKind.i64.wrap (j-1),u.where_,u.columns,u.on,u.group,u.order,u.limit,u.left,u.right⟩) (t':={t with table:=IntKind.i64.wrap (j-1)}) ⟨d.op_,rfl,d.where_,d.columns_,d.on_,d.group_,d.order_,d.limit_,d.left_,d.right_⟩ (.inl ⟨rfl,rfl⟩) (.refl _) (B.trans y) z,MT⟩
  .rw[Int.toNat_natCast,aHJ g i ⟨u.op,u.table,U,u.columns,u.on,u.group,u.order,u.limit,u.left,u.right⟩ (e:=splice (gA.enc u) 2 (PV.enc U)) rfl];have r:=d.mono R;exact⟨(g.set i ⟨u.op,u.table,U,u.columns,u.on,u.group,u.order,u.limit,u.left,u.right⟩,A,n,h3),fin (u':=⟨u.op,u.table,U,u.columns,u.on,u.group,u.order,u.limit,u.left,u.right⟩) (t':={t with wher:=p'}) ⟨r.op_,r.table_,r3,r.columns_,r.on_,r.group_,r.order_,r.limit_,r.left_,r.right_⟩ (.inl ⟨rfl,rfl⟩) R (B.trans y) z,MT⟩
 rintro⟨a',a3,n,h3⟩ ⟨rfl,le,y,z,f,a4,S,Z⟩ s h4 M Q O h5 E J;exact hK s O f _ n h5 (le.trans (M.trans E)) ⟨⟨a',Q.mono E,S.mono (M.trans E)⟩,⟨J,aC⟩,aC⟩ Z y (z.mono (M.trans E))
def chJ:Vc.Spec:=λd m h K=>∃(s:Sl)(g:Nat)(c:dj)(l:dm)(p:dp->Bool),d=[cS s,.val (.func (.func g) #[] ⟨c⟩)]/\Rows h s l/\l.length<=8000000/\(∀(u:Sl)(r:dp),r∈l->bT h u r->FAt Tryz.prog g 4 (cS u::c.map .val) m h (λx m' h'=>x=[.bool (p r)]/\m'=m/\h'=h))/\
 ∀e h',PH.le h h'->Rows h' e (l.filter p)->K (cS e) m h'
def ciJ:Vc.Spec:=λc m h K=>∃s u l r,c=[cS s,cS u,.val (.func (.func 102) #[] #[])]/\Rows h s l/\jU l/\bT h u r/\l.length<=8000000/\K (.tup [cI ((l.countP λy=>decide (dQ y r<0):Nat):Int),cB (Lu l r)]) m h
def bOZ:Vc.Spec:=λc m h K=>∃s u l r,c=[cS s,cS u]/\Rows h s l/\jU l/\bT h u r/\l.length<=8000000/\K (cB (Lu l r)) m h
def TZ:Vc.Spec:=λc m h K=>∃s l,c=[cS s]/\Rows h s l/\l.length<=8000000/\(∀r∈l,r.length<=1000)/\∀d h',PH.le h h'->Rows h' d l->K (cS d) m h'
def oY(r:dp):ByteArray:=⟨(r.flatMap yW).toArray⟩
def TY:Vc.Spec:=λd m h K=>∃s t r c,d=[cS s,cS t]/\bT h s r/\Ints h t c/\U6 r/\fS r.length c/\gS m/\K (Xy (oY (pick r c))) m h
def aCZ:Vc.Spec:=λc m h K=>∃n:Nat,c=[.val (.slice none 0 0),cI n]/\n<=32000000/\K (.lst 94 1 []) m h
def T0:Vc.Spec:=λc m h K=>∃f d e,c=[cS f]/\Leaves h f [d,e]/\d.length<=8000000/\e.length<=8000000/\∀g h',PH.le h h'->Rows h' g (d++e)->K (cS g) m h'
noncomputable def bBQ(s:Sl)(g:Nat)(c:dj)(m:MH)(h:PH):Ctx:=
 rI [] [(3,{A:=Nat×dn,st:=λ⟨i,d⟩=>bO 23 25 [(1,vv (.func (.func g) #[] ⟨c⟩)),(5,.at (.lst 20)),(8,sv s),(9,iv s.len),(10,iv i)] [(20,.lst 94 1 (d.map eS))] m h})] [] [] [510004] [] false
noncomputable def bqZ(s u:Sl)(m:MH)(h:PH):Ctx:=
 cT [(102,DF)] [(3,{A:=Nat×Nat,st:=λ⟨i,j⟩=>bO 49 52 [(0,sv s),(1,sv u),(2,vv (.func (.func 102) #[] #[])),(8,iv s.len),(9,iv i),(10,iv j)] [] m h})] [] [] false
noncomputable def bZZ(s:Sl)(m:MH):Ctx:=
 cT [(78,aEQ)] [(3,{A:=Nat×dn×PH,st:=λ⟨i,c,h⟩=>bO 23 24 [(3,.at (.lst 8)),(9,sv s),(10,iv s.len),(11,iv i)] [(8,.lst 94 1 (c.map eS))] m h})] [] [] false
noncomputable def bAQ(s t:Sl)(m:MH)(h:PH):Ctx:=
 rI [(192,bQX)] [(3,{A:=Nat×dw,st:=λ⟨i,l⟩=>bO 23 25 [(0,sv s),(5,.at (.lst 19)),(8,sv t),(9,iv t.len),(10,iv i)] [(19,.lst 5 1 (bH l))] m h})] [] [] [] [(192,[0])] false
noncomputable def bzZ(c:Sl)(m:MH)(h:PH):Ctx:=
 cT [(193,aCZ)] [(3,{A:=Nat×Nat,st:=λ⟨i,n⟩=>bO 36 37 [(0,sv c),(3,iv n),(9,sv c),(10,iv c.len),(11,iv i)] [] m h}),
  (11,{A:=Nat×dn,st:=λ⟨i,l⟩=>bO 36 37 [(6,.at (.lst 24)),(25,sv c),(26,iv c.len),(27,iv i)] [(24,.lst 94 1 (l.map eS))] m h})] [] [] false
abbrev Fg(a:(Nat×dn->Prop)->(Nat×dn)->Prop)(b:(Nat×dn->Prop)->(Nat×dn->Nat)->(Nat×dn)->Prop):Prop:=∃(x:Nat×dn->Prop)(d:Nat×dn->Nat),(∃(c:Nat×dn),a x c)/\∀(c:Nat×dn),b x d c
noncomputable abbrev uV(a:Nat×dn):List dj:=iA a.2
abbrev Hz(a:Nat×dn)(b:(Nat×dn)->Prop):Prop:=iY (uV a) 24 (∃(x:Nat×dn),b x)
abbrev AP(a b:Nat×dn):Prop:=rY a.2 b.2
attribute [push_cast] Fg uV Hz AP
def TA(s:Sl)(g:Nat)(c:dj)(m:MH)(h:PH)(K:dk):Prop:=
  Fg (λI x=>aA (I x) (eQ (Fv g (Array.mk c))) (aA (eL 20) (aH s) (aA (aY s) (aZ x.1) (aA (pE x.2) (m=m) (bR h h))))) (λI n x=>I x->aW (↑x.1:Int) (aF s) (aJ (λb o=>aI (aK s.a b o) (0<=(↑x.1:Int)) ((↑x.1:Int)<aF s) (∃(y:Sl),aR m h b (bE o x.1 1) (aM y)/\∃(R:Bool->MH->PH->Prop),FAt Proofs.Tryz.prog g 4 (cA y (List.map CV.val c)) m h (fun(l:dj)=>fun(e:MH)=>fun(f:PH)=>∃(j:Bool),l=uG j/\R j e f)/\∀(j:Bool),iM (λe f=>eT (R j e f) j (Hz x (λd=>aA (I d) (n d<n x) (aA (eQ (Fv g (Array.mk c))) (eL 20) (aA (aH s) (aY s) (aA (eR (bF ((↑x.1:Int)+1))=bL d.1) (jS (uV x) y d.2) (bG e m f h)))))) (∃(d:Nat×dn),aA (I d) (n d<n x) (aA (eQ
 (Fv g (Array.mk c))) (eL 20) (aA (aH s) (aY s) (aA (eR (bF ((↑x.1:Int)+1))=bL d.1) (AP x d) (bG e m f h))))))))) (nD h (uV x) K m))
noncomputable abbrev Hh(a:Nat×Nat):Int:=bF (Int.fdiv (Pp (bF ((↑a.1:Int)+(↑a.2:Int)))) 2)
attribute [push_cast] Hh
def SR(s u:Sl)(m:MH)(h:PH)(K:dk):Prop:=
  HN (λI x=>aA (I x) (aH s) (aA (aH u) (Az 102) (aA (aY s) (aZ x.1) (aA (bL s.len=bL x.2) (m=m) (bR h h))))) (λI d x=>I x->aW (↑x.1:Int) (↑x.2:Int) (aJ (λb o=>aI (aK s.a b o) (0<=Hh x) (Hh x<aF s) (∃(y:Sl),aR m h b (cC o (Hh x) 1) (aM y)/\sF y u h (λa e=>aW (dQ a e) 0 (∃(c:Nat×Nat),aA (I c) (d c<d x) (aA (aH s) (aH u) (aA (Az 102) (aY s) (aA (SV.at (At.val (fE (bF (Hh x+1))))=bL c.1) (bV x.2 c.2) (bG m m h h))))) (∃(c:Nat×Nat),aA (I c) (d c<d x) (aA (aH s) (aH u) (aA (Az 102) (aY s) (aA (bV x.1 c.1) (SV.at (At.val (fE (Hh x)))=bL c.2) (bG m m h h))))))))) (aW (↑x.1:Int) (aF s) (aJ (λb o=>aI (aK s.a b o) (0<=(↑x.1:Int))
 ((↑x.1:Int)<aF s) (∃(y:Sl),aR m h b (bE o x.1 1) (aM y)/\sF y u h (λa e=>K (CV.tup (fO (↑x.1:Int) (vD (dQ a e==0)))) m h)))) (K (CV.tup (fO (↑x.1:Int) aX)) m h)))
abbrev LP(a:Sl->Sl->dm->dp->Prop):Prop:=gQ (λx c=>∃(d:dm)(e:dp),a x c d e)
abbrev Bf(a:dm)(b:Nat):Prop:=a.length<=b
abbrev mZ(a:dm):Prop:=Bf a 8000000
attribute [push_cast] LP Bf mZ
def aZX(s u:Sl)(m:MH)(h:PH)(K:dk):Prop:=
  LP (λc d l r=>aA (BN s u 102=BN c d 102) (Rows h c l) (aA (jU l) (bT h d r) (mZ l/\K (vD (Lu l r)) m h)))
abbrev Co(a:dp):Prop:=nA a.length
abbrev EJ(a:Sl)(b:Nat->Nat->Option Value)(c:dp->Prop):Prop:=nB (λx d=>aI (eY a=eY x) (bT b x d) (Co d) (c d))
attribute [push_cast] Co EJ
def Wz(s:Sl)(m:MH)(h:PH)(K:dk):Prop:=
  aA (bY (aF s)) (aF s<=aF s) (aA (sK s 24) (qU (aF s)) (HP (λI x=>aA (I x) (eL 8) (aA (aH s) (aY s) (aA (aZ x.1) (bW 94 1 (xH (aF s) lV)=Ez x.2.1) (aA (m=m) (h=gC x) True)))) (λI f x=>I x->aW (↑x.1:Int) (aF s) (aJ (λb o=>aI (aK s.a b o) (0<=(↑x.1:Int)) ((↑x.1:Int)<aF s) (∃(y:Sl),aR m (gC x) b (bE o x.1 1) (aM y)/\EJ y (gC x) (λr=>fT (λg d=>dN (gC x) d (bT d g r) (oT (↑x.1:Int) (p8 x) (λe=>aA (jZ (p8 x) (↑x.1:Int) e) (wF 0 e) (∃(c:Nat×dn×PH),aA (I c) (f c<f x) (aA (eL 8) (aH s) (aA (aY s) (eR (bF ((↑x.1:Int)+1))=bL c.1) (aA (bW 94 1 (xL (p8 x) (↑x.1:Int) (tA (iI g) 1 e))=Ez c.2.1) (m=m) (bR d (gC
 c))))))))))))) (nD (gC x) (p8 x) K m))))
def Ty(s t:Sl)(m:MH)(h:PH)(K:dk):Prop:=
  ∃(I:Nat×dw->Prop)(e:Nat×dw->Nat),(∃(x:Nat×dw),aA (I x) (aH s) (aA (eL 19) (aH t) (aA (aY t) (aZ x.1) (aA (u9 5 1 (bH x.2)) (m=m) (bR h h)))))/\∀(x:Nat×dw),I x->aW (↑x.1:Int) (aF t) (aJ (λb o=>aI (aK t.a b o) (0<=(↑x.1:Int)) ((↑x.1:Int)<aF t) (∃(y:Int),aR m h b (bE o x.1 1) (bQ y)/\aJ (λf g=>aI (aK s.a f g) (0<=y) (y<aF s) (∃(j:VV),aR m h f (cC g y 3) j.enc/\∃(d:List dj)(v:VV),aI (By (bH x.2) j.enc=By d v.enc) (gS m) (j4 (nY d v.text.size+500)) (∃(c:Nat×dw),aA (I c) (e c<e x) (aA (aH s) (eL 19) (aA (aH t) (aY t) (aA (eR (bF ((↑x.1:Int)+1))=bL c.1) (bW 5 1 (jL d (yW v))=bW 5 1 (bH
 c.2)) (bG m m h h)))))))))) (∃(b:dw),bH x.2=bH b/\K (jM (ByteArray.mk (Array.mk b))) m h)
def SS(n:Nat)(m:MH)(h:PH)(K:dk):Prop:=
  Od n 0 24 (xH (bF ((↑n:Int)-0)) lV) (K (CV.lst 94 1 []) m h)
def Tx(d:Sl)(m:MH)(h:PH)(K:dk):Prop:=
  HN (λI x=>aA (I x) (aH d) (aA (aZ x.2) (aH d) (aA (aY d) (aZ x.1) (aA (m=m) (h=h) True)))) (λI g x=>I x->aW (↑x.1:Int) (aF d) (aJ (λb o=>aI (aK d.a b o) (0<=(↑x.1:Int)) ((↑x.1:Int)<aF d) (∃(y:Sl),aR m h b (bE o x.1 1) (aM y)/\aW (bF ((↑x.2:Int)+aF y)) 0 False (∃(c:Nat×Nat),aA (I c) (g c<g x) (aA (aH d) (Oe x y c) (aA (aH d) (aY d) (aA (eR (bF ((↑x.1:Int)+1))=bL c.1) (m=m) (bR h h)))))))) (∃(n:Nat),aA (E7 x.2=E7 n) (n<=32000000) (Fg (λI1 c=>aA (I1 c) (eL 24) (aA (aH d) (aY d) (aA (aZ c.1) (pE c.2) (aA (m=m) (h=h) True)))) (λI1 j c=>I1 c->aW (↑c.1:Int) (aF d) (aJ (λb o=>aI (aK d.a b o) (0<=(↑c.1:Int)) ((↑c.1:Int)<
 aF d) (∃(y:Sl),aR m h b (bE o c.1 1) (aM y)/\∃(e:List dj),aA (cZ 1 e) (cE h (cX y) 1 e) (aA (mI (uV c) e 24) (mC (uV c) e) (∃(f:Nat×dn),aA (I1 f) (j f<j c) (aA (eL 24) (aH d) (aA (aY d) (eR (bF ((↑c.1:Int)+1))=bL f.1) (aA (bW 94 1 (uV c++e)=Ez f.2) (m=m) (bR h h))))))))) (nD h (uV c) K m)))))
theorem Xw{u v:VV}{r r':dw}(e:VOk u)(f:VOk v)(h:yW u++r=yW v++r'):u=v/\r=r':=by
 have z:l8 0:=⟨bz,bz⟩
 have c:∀w:VV,VOk w->XS ⟨0,0,w⟩:=λw d=>⟨z,z,d.kind,d.int,by have:=d.text;omega⟩
 have:=I0 (o:=⟨0,0,u⟩) (o':=⟨0,0,v⟩) (r:=r) (r':=r') (c u e) (c v f) (by simp only[F7,append_assoc,h])
 grind
theorem V9:∀{a b:dp},a.length=b.length->(∀v∈a,VOk v)->(∀v∈b,VOk v)->a.flatMap yW=b.flatMap yW->a=b
 |[],[],_,_,_,_=>rfl
 |x::a,y::b,c,e,f,h=>by
  simp only[flatMap_cons]at h;obtain⟨g,j⟩:=Xw (e x (mem_cons_self ..)) (f y (mem_cons_self ..)) h;rw[g,V9 cg (λv d=>e v (mem_cons_of_mem _ d)) (λv d=>f v (mem_cons_of_mem _ d)) j]
 |[],_::_,c,_,_,_=>by simp at c
 |_::_,[],c,_,_,_=>by simp at c
theorem KU:a4J oY:=⟨fun{a b} c d e=>⟨λh=>by
 simp only[oY,ByteArray.mk.injEq]at h;exact V9 c d e cg,λh=>by rw[h]⟩⟩
theorem bgX{P:Program}{f:FuncId}{T:TypeId}{c:eb}{R R':dj->MH->PH->Prop}(x:FAt P f T c m h R)(d:∀l m' h',R l m' h'->R' l m' h'):FAt P f T c m h R':=
 ⟨x.fn,λg w e j=>(x.go g w e j).mono λ_ _⟨l,m',h',n,o,u⟩=>⟨l,m',h',n,d _ _ _ o,u⟩⟩
theorem acQ:di 112 chJ:=by
 refine fU func112 ?_;rintro E m h K ⟨s,g,c,l,p,rfl,B,P,F,G⟩;refine⟨bBQ s g c m h,rfl,aG,TA s g c m h K,bu,?_⟩;dsimp only[TA,push_cast];have n:=bI.slen B;refine⟨λx=>x.1<=l.length/\x.2.length<=x.1/\eD h x.2 ((l.take x.1).filter p),λx=>l.length-x.1,⟨(0,[]),⟨bx,bx,cm (eD.nil h)⟩,MT⟩,?_⟩;rintro⟨i,C⟩ ⟨H,y,d⟩;dsimp only at H y d;refine aD (λf=>?_) (λz=>?_)
 .dsimp only at f⊢
  obtain⟨r,j⟩:=dO n f;obtain⟨b,o,u,I,rd,D⟩:=bI.at B j;refine⟨b,o,I,aC,aC,u,.imm rd,λt m' h'=>t=p r/\m'=m/\h'=h,bgX (F u r (cr j) D) (λx m' h'⟨J,L,M⟩=>⟨p r,J,rfl,L,M⟩),?_⟩;rintro t m' h' ⟨rfl,rfl,rfl⟩;refine aB (λe=>⟨cg,cg,(i+1,C++[u]),⟨aC,ce,?_⟩,aC,?_⟩) (λe=>⟨(i+1,C),⟨aC,cg,?_⟩,aC,?_⟩)
  .rw[wU _ j,if_pos e];exact d.snoc D
  .rw[fD aC,cv];exact MT
  .rw[wU _ j,if_neg (by rw[e];simp),append_nil];exact d
  .rw[fD aC];exact MT
 .dsimp only at z⊢
  rw[cu aC]at d;intro O h' le A;exact G O h' le ((d.mono le).rows A cg)
theorem aeZ{l:dm}{r:dp}(f:jU l)(g:i<=l.length)(n:∀j y,j<i->l[j]? =some y->dQ y r<0)(o:∀j y,i<=j->l[j]? =some y->¬dQ y r<0):(l.countP λy=>decide (dQ y r<0))=i:=by
 have e:l.countP (λy=>decide (dQ y r<0))=(l.take i).countP (λy=>decide (dQ y r<0))+(l.drop i).countP λy=>decide (dQ y r<0):=by
  rw[<-countP_append,take_append_drop]
 have u:(l.take i).countP (λy=>decide (dQ y r<0))=(l.take i).length:=countP_eq_length.2 λy c=>by
  obtain⟨j,d⟩:=getElem?_of_mem c
  grind
 have x:(l.drop i).countP (λy=>decide (dQ y r<0))=0:=countP_eq_zero.2 λy c=>by
  obtain⟨j,d⟩:=getElem?_of_mem c
  grind
 grind
theorem Lz{l:dm}(d:jU l){j:Nat}{x y:dp}(c:i<j)(e:l[i]? =some x)(f:l[j]? =some y):dQ x y<0:=by
 obtain⟨g,rfl⟩:=List.getElem?_eq_some_iff.1 e;obtain⟨n,rfl⟩:=List.getElem?_eq_some_iff.1 f;exact pairwise_iff_getElem.1 d i j g n c
theorem bfQ{j:Nat}(h:i+j<=32000000):IntKind.i64.wrap ((IntKind.u64.wrap (IntKind.i64.wrap ((i:Int)+(j:Int)))).fdiv 2)=(((i+j)/2:Nat):Int):=by
 rw[dL (n:=(i:Int)+j) aC aC,Rt aC aC,Int.fdiv_eq_ediv_of_nonneg _ aC];have:((i:Int)+j)/2=(((i+j)/2:Nat):Int):=by omega
 rw[this,dL aC aC]
theorem Zu:di 194 ciJ:=by
 refine fU func194 ?_;rintro X m h K ⟨s,u,l,r,rfl,E,d,U,Z,B⟩;refine⟨bqZ s u m h,rfl,aE Cx aG,SR s u m h K,bu,?_⟩;dsimp only[SR,push_cast];have Y:=bI.slen E;refine⟨λx=>x.1<=x.2/\x.2<=l.length/\(∀j y,j<x.1->l[j]? =some y->dQ y r<0)/\∀j y,x.2<=j->l[j]? =some y->¬dQ y r<0,λx=>x.2-x.1,⟨(0,l.length),⟨bx,bx,λj y C=>by omega,λj y C D=>cg⟩,?_⟩,?_⟩
 .grind
 rintro⟨i,j⟩ ⟨F,C,f,g⟩;dsimp only at F C f g;refine aD (λn=>?_) (λG=>?_)
 .dsimp only at n⊢
  have n:i<j:=by omega
  rw[bfQ aC];have H:i<=(i+j)/2:=by omega
  have I:(i+j)/2<j:=by omega
  generalize (i+j)/2=k at H I;have c:l[k]? =some (l[k]'(by omega)):=cq _;generalize l[k]'(by omega)=x at c;obtain⟨b,o,e,J,rd,L⟩:=bI.at E c;refine⟨b,o,J,aC,aC,e,.imm rd,e,u,x,r,rfl,L,U,aD (λM=>⟨(k+1,j),⟨aC,C,λO y P D=>?_,g⟩,aC,?_⟩) (λM=>⟨(i,k),⟨aC,aC,f,λO y P D V=>?_⟩,aC,?_⟩)⟩
  .by_cases Q:O=k
   .grind
   .exact FO (Lz d aC D c) M
  .rw[fD aC];exact MT
  .by_cases Q:O=k
   .grind
   .exact M (FO (Lz d aC c D) V)
  .exact MT
 .dsimp only at G⊢
  have:i=j:=by omega
  subst this;rw[aeZ d C f g]at B
  have z:(∀y,l[i]? =some y->dQ y r≠0)->Lu l r=false:=λV=>by
   rw[Bool.eq_false_iff];intro R;obtain⟨j,S⟩:=getElem?_of_mem (Ox.1 R);have hz:dQ r r=0:=iH.2 rfl;rcases Nat.lt_trichotomy j i with T|T|T
   .grind
   .grind
   .have A:i<l.length:=cg
    have c:l[i]? =some l[i]:=cq A;have h3:=Lz d T c S
    grind
  refine aD (λn=>?_) (λW=>?_)
  .have A:i<l.length:=by omega
   have c:l[i]? =some l[i]:=cq A;generalize l[i]=x at c;obtain⟨b,o,e,J,rd,L⟩:=bI.at E c;refine⟨b,o,J,aC,aC,e,.imm rd,e,u,x,r,rfl,L,U,?_⟩
   have:Lu l r=(dQ x r==0):=by
    cases e2:dQ x r==0 with
    |true=>
     have:=iH.1 (by grind:dQ x r=0);subst this;exact Ox.2 (cr c)
    |false=>grind
   rw[this]at B;exact B
  .rw[z λy D=>by grind]at B;exact B
theorem Qr:di 122 bOZ:=by
 refine fU func122 ?_;rintro d m h K ⟨s,u,l,r,rfl,e,c,f,g,j⟩;refine⟨cT [(194,ciJ)] [] [] [] false,rfl,aE Zu aG,aZX s u m h K,bu,?_⟩;exact⟨s,u,l,r,rfl,e,c,f,g,j⟩
theorem aQJ:di 69 TZ:=by
 refine fU func69 ?_;rintro E m h K ⟨s,l,rfl,C,L,F,G⟩;refine⟨bZZ s m,rfl,aE aPJ aG,Wz s m h K,bu,?_⟩;dsimp only[Wz,push_cast];have z:=bI.slen C;refine⟨aC,aC,aC,aC,λx=>x.1<=l.length/\PH.le h x.2.2/\∃j,j.length=x.1/\x.2.1=j++replicate (l.length-x.1) ⟨none,0,0⟩/\eD x.2.2 j (l.take x.1),λx=>l.length-x.1,⟨(0,replicate l.length ⟨none,0,0⟩,h),⟨bx,.refl _,[],rfl,bx,cm (eD.nil h)⟩,?_⟩,?_⟩
 .dsimp only;rw[map_replicate,show((s.len:Int)).toNat=l.length by omega];exact MT
 rintro⟨i,M,O⟩ ⟨H,le,j,f,D,g⟩;dsimp only at H le f D g;subst D;refine aD (λy=>?_) (λA=>?_)
 .dsimp only at y⊢
  obtain⟨r,c⟩:=dO z y;obtain⟨b,o,u,I,rd,J⟩:=bI.at C c;refine⟨b,o,I,aC,aC,u,.imm (rd.mono le),u,r,rfl,bT.mono J le,F r (cr c),λn h' d B=>⟨aC,cg,[sC],?_,bx,(i+1,(j++[n])++replicate (l.length-(i+1)) ⟨none,0,0⟩,h'),⟨aC,le.trans d,j++[n],by simp[f],rfl,?_⟩,aC,?_⟩⟩
  .rw[getElem?_map,Int.toNat_natCast,getElem?_append_right aC,getElem?_replicate,if_pos aC];rfl
  .dsimp only;rw[db,c];exact(g.mono d).snoc B
  .dsimp only
   have e:((j++replicate (l.length-i) (⟨none,0,0⟩:Sl)).map eS).set ((i:Int)).toNat (iI n::List.drop 1 [sC])=((j++[n])++replicate (l.length-(i+1)) (⟨none,0,0⟩:Sl)).map eS:=by
    rw[Int.toNat_natCast,show l.length-i=(l.length-(i+1))+1 by omega,replicate_succ,cv,set_append,if_neg (by simp[f]),cv,cv,append_assoc];simp[f,eS]
   rw[e,fD aC];exact MT
 .dsimp only at A⊢
  have:i=l.length:=by omega
  subst this;rw[Nat.sub_self,replicate_zero,append_nil];rw[take_length]at g;intro n h' d c;exact G n h' (le.trans d) ((g.mono d).rows c aC)
theorem a3X{v:VV}(h:v.text.size<=64):(yW v).length<=200:=by
 have c:=lB [v.kind];have e:=Ib v.int;have d:=lB [(v.text.size:Int)];have f:v.text.data.toList.length=v.text.size:=Array.length_toList;simp only[yW,ct,de,length_nil]at c d⊢
 omega
theorem aLZ{r:dp}(h:∀v∈r,v.text.size<=64):(r.flatMap yW).length<=200*r.length:=by
 induction r with
 |nil=>simp
 |cons v l c=>
  have d:=a3X (h v (mem_cons_self ..))
  grind
theorem Cw:di 118 TY:=by
 refine fU func118 ?_;rintro H m h K ⟨s,t,r,d,rfl,D,E,I,y,J,L⟩;refine⟨bAQ s t m h,rfl,aE Qh aG,Ty s t m h K,bu,?_⟩;dsimp only[Ty,push_cast];have M:=bI.slen D;have z:=E.slen;have O:=y.len;have P:(pick r d).length=d.length:=by simp[pick]
 have g:∀v∈pick r d,v.text.size<=64:=λv Q=>(I.val v (VQ y Q)).text;refine⟨λx=>x.1<=d.length/\x.2=((pick r d).take x.1).flatMap yW,λx=>d.length-x.1,⟨(0,[]),⟨bx,bx⟩,MT⟩,?_⟩;rintro⟨i,l⟩ ⟨R,F⟩;dsimp only at R F;subst F;refine aD (λf=>?_) (λA=>?_)
 .dsimp only at f;obtain⟨c,j⟩:=dO z f;obtain⟨b,o,e,rd⟩:=E.at j;obtain⟨v,B,n,S,X⟩:=Um y j;obtain⟨T,U,w,V,C,rfl⟩:=bI.at D B;have Y:=aLZ (r:=(pick r d).take i) (λu W=>g u (mem_of_mem_take W));have G:=g v (cr n);refine⟨b,o,e,aC,f,c,.imm cg,T,U,V,S,aC,v,.imm C,_,v,rfl,J,?_,(i+1,((pick r d).take (i+1)).flatMap yW),⟨aC,rfl⟩,cg,?_⟩
  .rw[cL]
   grind
  .dsimp only;rw[db,n,flatMap_append,fK];simp only[Option.toList_some,flatMap_cons,flatMap_nil,append_nil];exact MT
 .dsimp only at A⊢
  rw[cu aC];exact⟨_,rfl,L⟩
theorem Zv:di 193 aCZ:=by
 refine fU func193 ?_;rintro d m h K ⟨n,rfl,f,c⟩;refine⟨cT [] [] [] [] true,rfl,aG,SS n m h K,bu,?_⟩;dsimp only[SS,push_cast];have e:IntKind.i64.wrap ((n:Int)-0)=n:=by rw[dL aC aC];omega
 have g:IntKind.i64.wrap ((n:Int)-IntKind.i64.wrap (0-0))=n:=by rw[show IntKind.i64.wrap (0-0)=0 from by rw[dL aC aC];rfl,e]
 exact aD (λj=>⟨aC,aC,aC,aC,aC,aC,aC,c⟩) (λ_=>c)
theorem aaX:di 120 T0:=by
 refine fU func120 ?_;rintro V m h K ⟨z,R,S,rfl,G,h1,h2,W⟩;refine⟨bzZ z m h,rfl,aE Zv aG,Tx z m h K,bu,?_⟩;dsimp only[Tx,push_cast];have X:z.len=2:=bI.slen G
 have g:∀k∈[R,S],k.length<=8000000:=λk e=>by
  grind
 generalize A:[R,S]=ks at G g;have H:ks.length=2:=cg
 have f:∀i,i<=2->((ks.take i).map List.length).sum<=16000000:=λi j=>by
  rw[<-A]
  match i,j with
  |0,_=>simp
  |1,_=>simp;omega
  |2,_=>simp;omega
 refine⟨λx=>x.1<=2/\x.2=((ks.take x.1).map List.length).sum,λx=>2-x.1,⟨(0,0),⟨bx,bx⟩,MT⟩,?_⟩;rintro⟨i,n⟩ ⟨j,T⟩;dsimp only at j T⊢
 subst T;have Y:=f i j;refine aD (λd=>?_) (λB=>?_)
 .obtain⟨k,e⟩:=dO (l:=ks) (n:=z.len) aC d;obtain⟨b,o,y,I,r,u⟩:=bI.at G e;have H:=bI.slen u;have C:=g k (cr e)
  have Z:IntKind.i64.wrap (((((ks.take i).map List.length).sum:Nat):Int)+(y.len:Int))=((((ks.take (i+1)).map List.length).sum:Nat):Int):=by
   rw[Bw e,dL aC aC];omega
  refine⟨b,o,I,aC,d,y,.imm r,?_⟩;rw[Z];exact aD (λU=>by omega) (λ_=>⟨(i+1,((ks.take (i+1)).map List.length).sum),⟨aC,rfl⟩,aC,by rw[fD aC];exact MT⟩)
 .refine⟨((ks.take i).map List.length).sum,rfl,aC,λx=>x.1<=2/\x.2.length<=16000000/\eD h x.2 (ks.take x.1).flatten,λx=>2-x.1,⟨(0,[]),⟨bx,bx,cm (eD.nil h)⟩,MT⟩,?_⟩;clear Y B j;rintro⟨i,us⟩ ⟨j,J,c⟩;dsimp only at j J c⊢
  have L:=c.len;rw[length_flatten]at L;refine aD (λd=>?_) (λB y h' D E=>W y h' D ?_)
  .obtain⟨k,e⟩:=dO (l:=ks) (n:=z.len) aC d;obtain⟨b,o,y,I,r,u⟩:=bI.at G e;obtain⟨⟨F,M,O,P⟩,_⟩:=u;have C:=g k (cr e);have Q:=f (i+1) aC;rw[Bw e]at Q;refine⟨b,o,I,aC,d,y,.imm r,F.map eS,vE _,M,ce,ce,(i+1,us++F),⟨aC,ce,?_⟩,aC,?_⟩
   .dsimp only;rw[db,e,flatten_append];simp only[Option.toList_some,flatten_cons,flatten_nil,append_nil];exact c.app ⟨O.symm,P⟩
   .rw[fD aC,cv];exact MT
  .rw[cu aC, <-A]at c;simp only[flatten_cons,flatten_nil,append_nil]at c;exact(c.mono D).rows E ce
def Q1:Vc.Spec:=λc m h K=>∃s t d v od a b,c=[cS s,cS t,cP d]/\m d=some (.cells ⟨gA.enc v⟩ 123 (0,0))/\iV h v.order od/\bT h s a/\bT h t b/\K (cI (i6 od a b)) m h
def axX:Vc.Spec:=λd m h K=>∃(s:Sl)(e:Nat)(v:gA)(od:dr)(w:Nat)(ps:em),d=[cS s,.val (.func (.func 195) #[] #[.pointer (some ⟨e,0,none⟩)])]/\m e=some (.cells ⟨gA.enc v⟩ 123 (0,0))/\(∀i,s.a≠some ⟨e,i,none⟩)/\iV h v.order od/\dC m s 94 1 (ps.map λp=>eS p.1)/\(∀p∈ps,bT h p.1 p.2)/\(∀p∈ps,p.2.length=w)/\ps.length<=140737488355328/\
 ∀(c:em)(m':MH),c.Perm ps->c.Pairwise (λp q=>¬i6 od q.2 p.2<0)->dC m' s 94 1 (c.map λp=>eS p.1)->(∀b,(∀i,s.a≠some ⟨b,i,none⟩)->m' b=m b)->K (.tup []) m' h
def XU:Vc.Spec:=λc m h K=>∃v s gr od l w,c=[aT v,cS s]/\Ints h v.group gr/\iV h v.order od/\Rows h s l/\gT w l/\fS w gr/\gS m/\
 ∀y d e f g,m y=none->(∀b,b≠y->d b=m b)->PH.le h e->wO oY d e y gr od l f g->K (.val (.map (some y))) d e
noncomputable def bzX(s:Sl):Ctx:=rI [(118,TY),(189,axX)] [(3,{A:=Nat×Nat×Nat×MH×PH,st:=λ⟨b,y,i,m,h⟩=>bO 41 43 [(2,pv b),(5,vv (.map (some y))),(12,sv s),(13,iv s.len),(14,iv i)] [] m h}),
 (9,{A:=Nat×Nat×Nat×MH×PH,st:=λ⟨b,y,r,m,h⟩=>bO 41 43 [(2,pv b),(5,vv (.map (some y))),(32,pv r)] [] m h})] [] [] [200002,1053,400000,0] [] false
abbrev I9(a:dp->dp->Prop):Prop:=∃(x c:dp),a x c
attribute [push_cast] I9
def aXJ(s t:Sl)(f:Nat)(m:MH)(h:PH)(K:dk):Prop:=
  kZ m h f 18 (λy=>gQ (λo c=>Py (λd e=>I9 (λa b=>aA (cA y (dK s t)=cA o (dK c d)) (iV h o e) (aA (bT h c a) (bT h d b) (K (fN (i6 e a b)) m h))))))
abbrev Up(a:Prop)(b:(Nat×Nat×Nat×MH×PH)->Prop):Prop:=a/\∀(x:Nat×Nat×Nat×MH×PH),b x
noncomputable abbrev jD(a:Nat×Nat×Nat×MH×PH):Nat:=a.2.1
noncomputable abbrev j5(a:Nat×Nat×Nat×MH×PH):Nat:=p9 a.2
noncomputable abbrev jJ(a:Nat×Nat×Nat×MH×PH):Nat->Option Obj:=a.2.2.2.1
noncomputable abbrev iX(a:Nat×Nat×Nat×MH×PH):Nat->Nat->Option Value:=a.2.2.2.2
abbrev Pw(a:Sl->Sl->dp->dl->Prop):Prop:=gQ (λx c=>∃(d:dp)(e:dl),a x c d e)
abbrev CZ(a b:Sl)(c:Nat->Nat->Option Value)(d e:dp->dl->Prop):Prop:=Pw (λx j f g=>aA (dK a b=dK x j) (bT c x f) (aA (Ints c j g) (d f g) (e f g)))
noncomputable abbrev iT(a:dp)(b:dl):Value:=Value.string (oY (pick a b))
abbrev Hw(a b:Prop)(c:MH)(d:Nat)(e:dp)(g:dl)(i:fc->Prop)(j:fc->Sl->Prop):Prop:=aA a b (∃(x:fc)(n:Value->Prop),aA (qM c d (List.map (fun(f:Value×Sl)=>(f.1,iI f.2)) x)) (DO 9 n) (aA (n (iT e g)) (∀(f:Value×Sl),List.Mem f x->n f.1) (i x/\∀(f:Sl),j x f)))
abbrev mH(a:dp)(b:dl):Prop:=fS a.length b
abbrev Hx(a:Nat->Option Obj)(b:Nat)(c:dp)(d:dl)(e:dt->Prop)(g:dt->dt->Value->dt->Prop):Prop:=LW (λx j=>aA (w8 a b x) (DO 9 j) (aA (j (iT c d)) (eZ (Instr.sameBits 10000 (iT c d) (iT c d))) (aA (∀(f:Value×Value),List.Mem f x->j f.1) ((∀(f:Value×Value),H5 f x (iT c d))->e x) (∀(f:dt)(n:Value)(o:dt),g x f n o))))
abbrev J2(a:MH)(b:Nat×Nat×Nat×MH×PH)(c:MH->Prop)(d:MH->(Nat×Nat×Nat×MH×PH)->Prop):Prop:=∀(x:MH),qD a x (jD b)->c x->∃(e:Nat×Nat×Nat×MH×PH),d x e
abbrev Pu(a:Nat->dt->dt->Prop):Prop:=∃(x:Nat)(c d:dt),a x c d
attribute [push_cast] Up jD j5 jJ iX Pw CZ iT Hw mH Hx J2 Pu
def Ms(v:gA)(s:Sl)(m:MH)(h:PH)(K:dk):Prop:=
  mE m h (λb G=>gP m G b v.enc 123) (λb G=>CT G h (λQ R=>∃(I:Nat×Nat×Nat×MH×PH->Prop)(A:Nat×Nat×Nat×MH×PH->Nat),Up (∃(x:Nat×Nat×Nat×MH×PH),aA (I x) (dP b x.1) (aA (jK Q (jD x)) (aH s) (aA (aY s) (aZ (j5 x)) (aA (R=jJ x) (h=iX x) True)))) (λx=>I x->aW (↑(j5 x):Int) (aF s) (aJ (λF o=>aI (aK s.a F o) (0<=(↑(j5 x):Int)) ((↑(j5 x):Int)<aF s) (∃(y:Sl),aR (jJ x) (iX x) F (bE o (j5 x) 1) (aM y)/\kZ (jJ x) (iX x) x.1 17 (λS=>CZ y S (iX x) (λr _=>U6 r) (λr c=>Hw (mH r c) (gS (jJ x)) (jJ x) (jD x) r c (λk=>Cq (∀(e:Value×Sl),List.Mem e k->e.1=iT r c->False) (λf=>nQ (dC (jJ x) xR 94 1 f) f
 24 (jN (λj n=>dY (jJ x) n xR j 94 1 (eG f (aM y))->Hx n (jD x) r c (λu=>J2 n x (λg=>w8 g (jD x) (u++DL (iT r c) (iI j))) (λg d=>aA (I d) (A d<A x) (aA (dP x.1 d.1) (jK (jD x) (jD d)) (aA (aH s) (aY s) (aA (eR (bF ((↑(j5 x):Int)+1))=bL (j5 d)) (g=jJ d) (bR (iX x) (iX d))))))) (λu l D B=>u=l++(iT r c,D)::B->J2 n x (λg=>w8 g (jD x) (l++(iT r c,iI j)::B)) (λg d=>aA (I d) (A d<A x) (aA (dP x.1 d.1) (jK (jD x) (jD d)) (aA (aH s) (aY s) (aA (eR (bF ((↑(j5 x):Int)+1))=bL (j5 d)) (g=jJ d) (bR (iX x) (iX d))))))))))) (λk H=>Cq (List.Mem (iT r c,H) k) (λf=>nQ (dC
 (jJ x) (cX H) 94 1 f) f 24 (jN (λj n=>dY (jJ x) n (cX H) j 94 1 (eG f (aM y))->Hx n (jD x) r c (λu=>J2 n x (λg=>w8 g (jD x) (u++DL (iT r c) (iI j))) (λg d=>aA (I d) (A d<A x) (aA (dP x.1 d.1) (jK (jD x) (jD d)) (aA (aH s) (aY s) (aA (eR (bF ((↑(j5 x):Int)+1))=bL (j5 d)) (g=jJ d) (bR (iX x) (iX d))))))) (λu l D B=>u=l++(iT r c,D)::B->J2 n x (λg=>w8 g (jD x) (l++(iT r c,iI j)::B)) (λg d=>aA (I d) (A d<A x) (aA (dP x.1 d.1) (jK (jD x) (jD d)) (aA (aH s) (aY s) (aA (eR (bF ((↑(j5 x):Int)+1))=bL (j5 d)) (g=jJ d) (bR (iX x) (iX d)))))))))))))))) (∃(k:dt),
 pX (w8 (jJ x) (jD x) k) (λr=>∀(n:MH),lZ (jJ x) (iX x) r->qD (jJ x) n r->mT n (jD x) r k k->∃(I1:Nat×Nat×Nat×MH×PH->Prop)(g:Nat×Nat×Nat×MH×PH->Nat),Up (∃(f:Nat×Nat×Nat×MH×PH),aA (I1 f) (dP x.1 f.1) (aA (jK (jD x) (jD f)) (dP r (j5 f)) (bG n (jJ f) (iX x) (iX f)))) (λf=>I1 f->Pu (λF u l=>aA (mT (jJ f) F (j5 f) u l) (l=[]->K (CV.val (mL (jD f))) (jJ f) (iX f)) (∀(B:dt)(d:Value×Value)(O:dt),l=B++d::O->∀(E:MH),qD (jJ f) E (j5 f)->FV E F (j5 f) u (B++O) d->Pu (λT U V=>∃(P:Value×Value),FV E T (j5 f) U V P/\∃(j:Sl)(J:Nat)(D:gA)(o:List
 (Int×Bool))(w:Nat)(p:em),aA (nO (CV.val P.2) (Cn 195 (Array.mk (xQ f.1)))=fP j (Cn 195 (Array.mk (xQ J)))) (E J=Option.some (lF (Array.mk D.enc) 123 0)) (aA (∀(i:Nat),uW (aK j.a J i)) (iV (iX f) D.order o) (aA (J3 E j 1 p) (∀(z:Sl×dp),List.Mem z p->bT (iX f) z.1 z.2) (aA (∀(z:Sl×dp),List.Mem z p->z.2.length=w) (j4 p.length) (∀(z:em)(L:MH),List.Perm z p->List.Pairwise (fun(W:Sl×dp)=>fun(q:Sl×dp)=>¬(i6 o q.2 W.2<0)) z->J3 L j 1 z->(∀(M:Nat),(∀(i:Nat),uW (aK j.a M i))->L M=E M)->∃(C:Nat×Nat×Nat×MH×PH),aA (I1 C) (g C<g f) (aA (dP f.1 C.1) (jK (jD f) (jD C)) (bS (dP (j5 f) (j5 C)) L (jJ
 C) (iX f) (iX C))))))))))))))))
theorem Zt:di 195 Q1:=by
 refine fU func195 ?_;rintro c m h K ⟨s,t,d,v,od,a,b,rfl,e,f,g,j,n⟩;refine⟨rI [(64,G4)] [] [] [] [0] [] false,rfl,aE Sb aG,aXJ s t d m h K,bu,?_⟩;exact⟨v.order,.of_m e rfl,v.order,s,t,od,a,b,rfl,f,g,j,n⟩
theorem W5:di 189 axX:=by
 refine⟨⟨Tryz.f189,func189,rfl,bz⟩,?_⟩;rintro j f m h w K ⟨s,c,v,od,n,ps,rfl,I,u,z,A,B,C,D,E⟩ d
 obtain⟨F,e,rfl⟩:∃v e,f=[v,e]:=by
  have:=(rD d.args).1
  match f,this with
  |[v,e],_=>grind
 have G:F=s.val:=d.args.1;have H:e= .func (.func 195) #[] #[.pointer (some ⟨c,0,none⟩)]:=d.args.2.1;subst G H;refine RD (R:=λl=>l.length=n) (g:=195) (cb:=[.pointer (some ⟨c,0,none⟩)]) (m2:=λb=>if b=c then m c else none) (cf:=i6 od) rfl d ⟨Tryz.f195,func195,rfl,bz⟩ A B C D (bDZ od) ⟨Q1,Zt,λx y=>⟨x.s,y.s,c,v,od,x.l,y.l,rfl,cg,z,x.ok,y.ok,rfl,rfl,rfl⟩⟩ (λb o J=>?_) E
 grind
theorem rK.appV{m0:MH}{y:Nat}{kk:dy}{us:ByteArray->dn}{key:ByteArray}{s e:Sl}{Q:MH->Prop}(g:rK m0 m y kk us)(z:∃o,m0 y=some o)(D:(us key).length<=502633886983)
 (A:∀m' f,rK m0 m' y f (OJ us key e)->Q m')(n:F6 kk key s):
 ∃xs:List dj,dC m (Sl.mk s.a s.len s.cap) 94 1 xs/\(xs.length+1)*24<=140737488355328/\xs.length<140737488355328/\∀(j:Sl)(d:MH),dY m d (Sl.mk s.a s.len s.cap) j 94 1 (xs++[[iI e]])->
 ∃(c:dt)(Ok:Value->Prop),w8 d y c/\KeyLaw Tryz.prog 9 Ok/\Ok (.string key)/\Instr.sameBits 10000 (Value.string key) (Value.string key)=true/\(∀e,List.Mem e c->Ok e.1)/\((∀e,List.Mem e c->e.1=Value.string key->False)->∀m':MH,qD d m' y->w8 m' y (c++[(Value.string key,iI j)])->Q m')/\
  ∀(u:dt)(B:Value)(x:dt),c=u++(Value.string key,B)::x->∀m':MH,qD d m' y->w8 m' y (u++(Value.string key,iI j)::x)->Q m':=
 ⟨_,(n.row g).1,ce,ce,λ_ _ C=>g.put z n C A⟩
theorem Z8:di 124 XU:=by
 refine Wm func124 ?_;rintro b9 m h K ⟨v,s,gr,od,l,w,rfl,a7,a8,Z,c,H,hT,hK⟩;refine⟨bzX s,rfl,aE Cw (aE W5 aG),Ms v s m h (fJ h K),bu,?_⟩;show Ms v s m h (fJ h K);dsimp only[Ms,push_cast];intro bq m1 a' B y I J C;obtain⟨s1,nq⟩:=En (Sub.refl m) a' B;obtain⟨s2,ny⟩:=En s1 J C;have D:bq≠y:=λe=>by have:=J.m_;rw[<-e,B.at_]at this;cases this
 have L:I bq=some (.cells ⟨gA.enc v⟩ 123 (0,0)):=by rw[C.other bq D];exact B.at_
 have n:I y=some (.map #[] 0):=C.at_;have a9:=bI.slen Z;have b':=c.len;clear B C a' J s1;have a0:∀{E kk us},rK I E y kk us->Sub m E:=λg z o j=>g.old z o (s2 z o j) (λF=>cg);refine⟨λx=>x.1=bq/\x.2.1=y/\x.2.2.1<=l.length/\x.2.2.2.2=h/\ajJ I x.2.2.2.1 h y (oG oY gr (l.take x.2.2.1)),λx=>l.length-x.2.2.1,⟨(bq,y,0,I,h),⟨rfl,rfl,Nat.zero_le _,rfl,⟨[],_,rK.new n,λk=>by simpa[oG]using eD.nil h⟩⟩,MT⟩,?_⟩;rintro⟨M,O,i,E,P⟩ ⟨Q,j,hi,F,⟨kk,uk,g,hg⟩⟩;dsimp only at Q j hi F g hg⊢
 subst Q j F;refine aD (λb0=>?_) (λc'=>?_)
 .obtain⟨r,hr⟩:=dO a9 b0;obtain⟨b,o,u,ea,rd,hv⟩:=bI.at Z hr;have a1:=cr hr;have rq:aR E P M 17 [iI v.group]:=.of_m (g.old M _ L D) rfl
  have hl:(uk (oY (pick r gr))).length<=502633886983:=by
   have h5:=(hg (oY (pick r gr))).len;have h6:(oG oY gr (l.take i) (oY (pick r gr))).length<=(l.take i).length:=length_filter_le _ _
   grind
  rw[fD aC];have nx:∀(m':MH)(d:dy),rK I m' O d (OJ uk (oY (pick r gr)) u)->ajJ I m' P O (oG oY gr (l.take (i+1))):=λm' d g'=>ajJ.upd g' hg hv (by rw[oG,wU _ hr,if_pos bx];rfl) (λk2 c0=>by rw[oG,wU _ hr,if_neg cg,append_nil];rfl);exact⟨b,o,ea,aC,aC,u,.imm rd,v.group,rq,u,v.group,r,gr,rfl,hv,a7,c.row r a1,by rw[c.wid r a1];exact H,hT.sub (a0 g),g.get2 (λZ=>g.appV ⟨_,n⟩ hl (λm' d g'=>⟨(M,O,i+1,m',P),⟨rfl,rfl,cg,rfl,nx m' d g'⟩,cg,MT⟩) Z) (λs Z=>g.appV ⟨_,n⟩ hl (λm' d g'=>⟨(M,O,i+1,m',P),⟨rfl,rfl,cg,rfl,nx m' d g'⟩,cg,MT⟩) Z)⟩
 .rw[cu aC]at hg;have mq:=g.old M _ L D;refine⟨_,g.map_,λr m5 b3 b4 it=>?_⟩;have b5:E r=none:=b3.m_
  have a2:∀{z o},E z=some o->m5 z=E z/\z≠r:=fun{z o} j=>by
   have:z≠r:=λF=>cg
   exact⟨b4.other z this,this⟩
  have R:∀p∈kk,∀x i,p.2.a=some ⟨x,i,none⟩->∃o,E x=some o:=λp hp x i j=>⟨_,((g.row p hp).blk j).choose_spec⟩
  refine⟨λz=>z.1=M/\z.2.1=O/\z.2.2.1=r/\z.2.2.2.2=P/\(∀b o,E b=some o->(∀p∈kk,∀i,p.2.a≠some ⟨b,i,none⟩)->z.2.2.2.1 b=some o)/\∃left,mT z.2.2.2.1 O r (kk.map λp=>(Value.string p.1,iI p.2)) left/\∀p∈kk,cdZ z.2.2.2.1 P od p (oG oY gr l) ((Value.string p.1,iI p.2)∉left),λz=>leftOf z.2.2.2.1 z.2.2.1,⟨(M,O,r,m5,P),⟨rfl,rfl,rfl,rfl,λb o e _=>(a2 e).1.trans e,_,it,λp hp=>?_⟩,MT⟩,?_⟩
  .obtain⟨ps,Q,j,F⟩:=cyQ (hg p.1);refine⟨ps,?_,F,by rw[j],λhn=>(hn (mem_map_of_mem (f:=λp:ByteArray×Sl=>(Value.string p.1,iI p.2)) hp)).elim⟩;have e5:(ps.map λq=>eS q.1)=(uk p.1).map eS:=by rw[<-Q,map_map];rfl
   rw[e5];exact dC.keep (g.row p hp) λb i e=>(a2 (R p hp b i e).choose_spec).1
  .rintro⟨c1,c2,c3,mz,hz⟩ ⟨Q,j,F,e4,S,left,G,A⟩;dsimp only at Q j F e4 S G A⊢
   subst Q j F e4;refine⟨c2,_,left,G,λT=>?_,λl1 x l2 b6 m6 b7 a3=>?_⟩
   .subst T;exact Wi s2 ny n g hg (.refl _) b' S G A hK
   .obtain⟨p0,ps,rfl,a4,a5,hv,hw,c4,U⟩:=Wh (m4y:=n) g c b5 S G A b6 b7 a3;have hb:=a4 c1 _ L D;refine⟨c2,_,_,_,a3,p0.2,c1,v,od,w,ps,rfl,hb.1,hb.2,a8,a5,hv,hw,aC,λb8 m7 V W X a6=>?_⟩;obtain⟨k1,⟨Y,k2,k3⟩,k4⟩:=U b8 m7 V W X a6;exact⟨(c1,c2,c3,m7,hz),⟨rfl,rfl,rfl,rfl,k1,Y,k2,k3⟩,k4,rfl,rfl,rfl,rfl,rfl,trivial⟩
def bMQ:Vc.Spec:=λe m h K=>∃v on f g c d,e=[aT v,cS f,cS g]/\jA h v.on on/\Rows h f c/\Rows h g d/\gS m/\bbZ on [c,d]/\c.length*d.length<=8000000/\∀j h',PH.le h h'->Rows h' j (c.flatMap (jG on d))->K (cS j) m h'
noncomputable def bAX:Ctx:=rI [(117,aiZ),(118,TY),(190,X1),(191,XW)] [(4,{A:=Nat×Nat×Sl×Sl×Sl×Sl×MH×PH,st:=λ⟨i,y,l,a,b,r,m,h⟩=>bO 76 79 [(1,sv l),(7,sv a),(8,sv b),(9,vv (.map (some y))),(25,sv r),(26,iv r.len),(27,iv i)] [] m h}),
 (12,{A:=Nat×Nat×Sl×Sl×dn×MH×PH,st:=λ⟨i,y,l,a,c,m,h⟩=>bO 76 79 [(7,sv a),(9,vv (.map (some y))),(13,.at (.lst 72)),(46,sv l),(47,iv l.len),(48,iv i)] [(72,.lst 94 1 (c.map eS))] m h}),
 (16,{A:=Nat×Nat×Nat×Sl×Sl×Sl×Sl×dn×MH×PH,st:=λ⟨j,i,y,l,a,e,g,c,m,h⟩=>bO 76 79 [(7,sv a),(9,vv (.map (some y))),(13,.at (.lst 72)),(15,sv e),(46,sv l),(47,iv l.len),(48,iv i),(60,sv g),(61,iv g.len),(62,iv j)] [(72,.lst 94 1 (c.map eS))] m h})] [] [] [1053,400000,0] [] false
noncomputable abbrev sI(a:Nat×Nat×Sl×Sl×Sl×Sl×MH×PH):Sl:=a.2.2.1
noncomputable abbrev tW(a:Nat×Nat×Sl×Sl×Sl×Sl×MH×PH):Sl:=a.2.2.2.1
noncomputable abbrev sH(a:Nat×Nat×Sl×Sl×Sl×Sl×MH×PH):Sl:=a.2.2.2.2.1
noncomputable abbrev oV(a:Nat×Nat×Sl×Sl×Sl×Sl×MH×PH):Nat:=a.2.1
noncomputable abbrev lE(a:Nat×Nat×Sl×Sl×Sl×Sl×MH×PH):Sl:=a.2.2.2.2.2.1
noncomputable abbrev wB(a:Nat×Nat×Sl×Sl×Sl×Sl×MH×PH):Nat->Option Obj:=sV a.2.2.2.2.2
noncomputable abbrev Du(a:Nat×Nat×Sl×Sl×Sl×Sl×MH×PH):Nat->Nat->Option Value:=uQ a.2.2.2.2.2
abbrev J4(a:MH)(b:Nat×Nat×Sl×Sl×Sl×Sl×MH×PH)(c:MH->Prop)(d:MH->(Nat×Nat×Sl×Sl×Sl×Sl×MH×PH)->Prop):Prop:=∀(x:MH),qD a x (oV b)->c x->∃(e:Nat×Nat×Sl×Sl×Sl×Sl×MH×PH),d x e
abbrev HK(a b:Nat×Nat×Sl×Sl×Sl×Sl×MH×PH)(c:Nat->Option Obj):Prop:=bS (eR (bF ((↑a.1:Int)+1))=bL b.1) c (wB b) (Du a) (Du b)
noncomputable abbrev AA(a:Nat×Nat×Sl×Sl×dn×MH×PH):Sl:=a.2.2.2.1
noncomputable abbrev nE(a:Nat×Nat×Sl×Sl×dn×MH×PH):Sl:=a.2.2.1
noncomputable abbrev Dh(a:Nat×Nat×Sl×Sl×dn×MH×PH):dn:=a.2.2.2.2.1
noncomputable abbrev vU(a:Nat×Nat×Sl×Sl×dn×MH×PH):Nat->Option Obj:=a.2.2.2.2.2.1
noncomputable abbrev v8(a:Nat×Nat×Sl×Sl×dn×MH×PH):Nat->Nat->Option Value:=a.2.2.2.2.2.2
abbrev J6(a:fc)(b:dp)(c:dl)(d:Prop):Prop:=(∀(x:Value×Sl),List.Mem x a->x.1=iT b c->False)->d
noncomputable abbrev BP(a:Nat×Nat×Nat×Sl×Sl×Sl×Sl×dn×MH×PH):Sl:=a.2.2.2.2.1
noncomputable abbrev BQ(a:Nat×Nat×Nat×Sl×Sl×Sl×Sl×dn×MH×PH):Nat:=a.2.2.1
noncomputable abbrev BO(a:Nat×Nat×Nat×Sl×Sl×Sl×Sl×dn×MH×PH):Sl:=a.2.2.2.2.2.1
noncomputable abbrev oC(a:Nat×Nat×Nat×Sl×Sl×Sl×Sl×dn×MH×PH):Sl:=a.2.2.2.1
noncomputable abbrev mO(a:Nat×Nat×Nat×Sl×Sl×Sl×Sl×dn×MH×PH):Sl:=a.2.2.2.2.2.2.1
noncomputable abbrev E8(a:Nat×Nat×Nat×Sl×Sl×Sl×Sl×dn×MH×PH):dn:=a.2.2.2.2.2.2.2.1
noncomputable abbrev yC(a:Nat×Nat×Nat×Sl×Sl×Sl×Sl×dn×MH×PH):Nat->Option Obj:=a.2.2.2.2.2.2.2.2.1
noncomputable abbrev yD(a:Nat×Nat×Nat×Sl×Sl×Sl×Sl×dn×MH×PH):Nat->Nat->Option Value:=a.2.2.2.2.2.2.2.2.2
abbrev Fq(a:Sl->dm->Prop):Prop:=∃(x:Sl)(c:dm),a x c
noncomputable abbrev KF(a:Nat×Nat×Nat×Sl×Sl×Sl×Sl×dn×MH×PH):List dj:=iA a.2.2.2.2.2.2.2.1
attribute [push_cast] sI tW sH oV lE wB Du J4 HK AA nE Dh vU v8 J6 BP BQ BO oC mO E8 yC yD Fq KF
def Mu(v:gA)(W U:Sl)(m:MH)(h:PH)(K:dk):Prop:=
  EN (λs o=>aA (eY v.on=eY s) (jA h s o) (∀(a:Sl),fT (λb G=>dN h G (Ints G a (gH o)) (Ints G b (fV o)->CT m G (λX Y=>∃(I:Nat×Nat×Sl×Sl×Sl×Sl×MH×PH->Prop)(B:Nat×Nat×Sl×Sl×Sl×Sl×MH×PH->Nat),(∃(x:Nat×Nat×Sl×Sl×Sl×Sl×MH×PH),aA (I x) (bA W (sI x)) (aA (bA a (tW x)) (bA b (sH x)) (aA (jK X (oV x)) (bA U (lE x)) (aA (cJ U (lE x)) (aZ x.1) (bG Y (wB x) G (Du x))))))/\∀(x:Nat×Nat×Sl×Sl×Sl×Sl×MH×PH),I x->aW (↑x.1:Int) (aF (lE x)) (aJ (λH J=>aI (aK (lE x).a H J) (0<=(↑x.1:Int)) ((↑x.1:Int)<aF (lE x)) (∃(y:Sl),aR (wB x) (Du x) H (bE J x.1 1) (aM y)/\CZ y (sH x) (Du x) (λr c=>mH r c)
 (λr c=>branch (List.all (pick r c) jH) (CZ y (sH x) (Du x) (λj _=>U6 j) (λj u=>Hw (mH j u) (gS (wB x)) (wB x) (oV x) j u (λk=>Cq (∀(e:Value×Sl),List.Mem e k->e.1=iT j u->False) (λf=>nQ (dC (wB x) xR 94 1 f) f 24 (jN (λA z=>dY (wB x) z xR A 94 1 (eG f (aM y))->Hx z (oV x) j u (λE=>J4 z x (λn=>w8 n (oV x) (E++DL (iT j u) (iI A))) (λn d=>aA (I d) (B d<B x) (aA (bA (sI x) (sI d)) (bA (tW x) (tW d)) (aA (bA (sH x) (sH d)) (jK (oV x) (oV d)) (aA (bA (lE x) (lE d)) (cJ (lE x) (lE d)) (HK x d n)))))) (λE l T L=>E=l++(iT j u,T)::L->J4 z x (λn=>w8
 n (oV x) (l++(iT j u,iI A)::L)) (λn d=>aA (I d) (B d<B x) (aA (bA (sI x) (sI d)) (bA (tW x) (tW d)) (aA (bA (sH x) (sH d)) (jK (oV x) (oV d)) (aA (bA (lE x) (lE d)) (cJ (lE x) (lE d)) (HK x d n)))))))))) (λk C=>Cq (List.Mem (iT j u,C) k) (λf=>nQ (dC (wB x) (cX C) 94 1 f) f 24 (jN (λA z=>dY (wB x) z (cX C) A 94 1 (eG f (aM y))->Hx z (oV x) j u (λE=>J4 z x (λn=>w8 n (oV x) (E++DL (iT j u) (iI A))) (λn d=>aA (I d) (B d<B x) (aA (bA (sI x) (sI d)) (bA (tW x) (tW d)) (aA (bA (sH x) (sH d)) (jK (oV x) (oV d)) (aA (bA (lE x) (lE d)) (cJ (lE x)
 (lE d)) (HK x d n)))))) (λE l T L=>E=l++(iT j u,T)::L->J4 z x (λn=>w8 n (oV x) (l++(iT j u,iI A)::L)) (λn d=>aA (I d) (B d<B x) (aA (bA (sI x) (sI d)) (bA (tW x) (tW d)) (aA (bA (sH x) (sH d)) (jK (oV x) (oV d)) (aA (bA (lE x) (lE d)) (cJ (lE x) (lE d)) (HK x d n)))))))))))) (∃(f:Nat×Nat×Sl×Sl×Sl×Sl×MH×PH),aA (I f) (B f<B x) (aA (bA (sI x) (sI f)) (bA (tW x) (tW f)) (aA (bA (sH x) (sH f)) (jK (oV x) (oV f)) (aA (bA (lE x) (lE f)) (cJ (lE x) (lE f)) (HK x f (wB x)))))))))) (∃(I1:Nat×Nat×Sl×Sl×dn×MH×PH->Prop)(z:Nat×Nat×Sl×Sl×dn×MH×PH->Nat),(∃(f:
 Nat×Nat×Sl×Sl×dn×MH×PH),aA (I1 f) (bA (tW x) (AA f)) (aA (jK (oV x) f.2.1) (eL 72) (aA (bA (sI x) (nE f)) (cJ (sI x) (nE f)) (aA (aZ f.1) (pE (Dh f)) (bG (wB x) (vU f) (Du x) (v8 f))))))/\∀(f:Nat×Nat×Sl×Sl×dn×MH×PH),I1 f->aW (↑f.1:Int) (aF (nE f)) (aJ (λH J=>aI (aK (nE f).a H J) (0<=(↑f.1:Int)) ((↑f.1:Int)<aF (nE f)) (∃(y:Sl),aR (vU f) (v8 f) H (bE J f.1 1) (aM y)/\CZ y (AA f) (v8 f) (λr c=>mH r c) (λr c=>mB (List.all (pick r c) jH) (∃(d:Nat×Nat×Sl×Sl×dn×MH×PH),aA (I1 d) (z d<z f) (aA (bA (AA f) (AA d)) (jK f.2.1 d.2.1) (aA (eL 72) (bA (nE f) (nE d))
 (aA (cJ (nE f) (nE d)) (eR (bF ((↑f.1:Int)+1))=bL d.1) (bS (rY (Dh f) (Dh d)) (vU f) (vU d) (v8 f) (v8 d)))))) (CZ y (AA f) (v8 f) (λj _=>U6 j) (λj u=>Hw (mH j u) (gS (vU f)) (vU f) f.2.1 j u (λk=>J6 k j u (∃(I2:Nat×Nat×Nat×Sl×Sl×Sl×Sl×dn×MH×PH->Prop)(n:Nat×Nat×Nat×Sl×Sl×Sl×Sl×dn×MH×PH->Nat),(∃(d:Nat×Nat×Nat×Sl×Sl×Sl×Sl×dn×MH×PH),aA (I2 d) (bA (AA f) (BP d)) (aA (jK f.2.1 (BQ d)) (eL 72) (aA (bA y (BO d)) (bA (nE f) (oC d)) (aA (cJ (nE f) (oC d)) (bV f.1 d.2.1) (aA (sQn=Ye (mO d)) (aZ (mO d).len) (aA (aZ d.1) (rY (Dh f) (E8 d)) (bG
 (vU f) (yC d) (v8 f) (yD d))))))))/\∀(d:Nat×Nat×Nat×Sl×Sl×Sl×Sl×dn×MH×PH),I2 d->aW (↑d.1:Int) (aF (mO d)) (aJ (λM O=>aI (aK (mO d).a M O) (0<=(↑d.1:Int)) ((↑d.1:Int)<aF (mO d)) (∃(C:Sl),aR (yC d) (yD d) M (bE O d.1 1) (aM C)/\bU (yD d) 1 (aM (BO d)::gL (aM C)) (λA P=>Fq (λQ D=>aA (eY A=eY Q) (Rows P Q D) (aA (Bf D 10) (∀(R:dp),List.Mem R D->R.length<=12) (fT (λS F=>dN P F (bT F S D.flatten) (iY (KF d) 24 (∃(g:Nat×Nat×Nat×Sl×Sl×Sl×Sl×dn×MH×PH),aA (I2 g) (n g<n d) (aA (bA (BP d) (BP g)) (jK (BQ d) (BQ g)) (aA (eL 72) (bA (BO d) (BO g)) (aA
 (bA (oC d) (oC g)) (cJ (oC d) (oC g)) (aA (bV d.2.1 g.2.1) (bA (mO d) (mO g)) (aA (cJ (mO d) (mO g)) (eR (bF ((↑d.1:Int)+1))=bL g.1) (bS (jS (KF d) S (E8 g)) (yC d) (yC g) F (yD g))))))))))))))))) (∃(g:Nat×Nat×Sl×Sl×dn×MH×PH),aA (I1 g) (z g<z f) (aA (bA (BP d) (AA g)) (jK (BQ d) g.2.1) (aA (eL 72) (bA (oC d) (nE g)) (aA (cJ (oC d) (nE g)) (eR (bF ((↑d.2.1:Int)+1))=bL g.1) (bS (rY (E8 d) (Dh g)) (yC d) (vU g) (yD d) (v8 g)))))))) (λk C=>List.Mem (iT j u,C) k->∃(I2:Nat×Nat×Nat×Sl×Sl×Sl×Sl×dn×MH×PH->Prop)(n:Nat×Nat×Nat×Sl×Sl×Sl×Sl×dn×MH×PH->Nat),(∃
 (d:Nat×Nat×Nat×Sl×Sl×Sl×Sl×dn×MH×PH),aA (I2 d) (bA (AA f) (BP d)) (aA (jK f.2.1 (BQ d)) (eL 72) (aA (bA y (BO d)) (bA (nE f) (oC d)) (aA (cJ (nE f) (oC d)) (bV f.1 d.2.1) (aA (bA C (mO d)) (cJ C (mO d)) (aA (aZ d.1) (rY (Dh f) (E8 d)) (bG (vU f) (yC d) (v8 f) (yD d))))))))/\∀(d:Nat×Nat×Nat×Sl×Sl×Sl×Sl×dn×MH×PH),I2 d->aW (↑d.1:Int) (aF (mO d)) (aJ (λM O=>aI (aK (mO d).a M O) (0<=(↑d.1:Int)) ((↑d.1:Int)<aF (mO d)) (∃(V:Sl),aR (yC d) (yD d) M (bE O d.1 1) (aM V)/\bU (yD d) 1 (aM (BO d)::gL (aM V)) (λA P=>Fq (λQ D=>aA (eY A=eY Q)
 (Rows P Q D) (aA (Bf D 10) (∀(R:dp),List.Mem R D->R.length<=12) (fT (λS F=>dN P F (bT F S D.flatten) (iY (KF d) 24 (∃(g:Nat×Nat×Nat×Sl×Sl×Sl×Sl×dn×MH×PH),aA (I2 g) (n g<n d) (aA (bA (BP d) (BP g)) (jK (BQ d) (BQ g)) (aA (eL 72) (bA (BO d) (BO g)) (aA (bA (oC d) (oC g)) (cJ (oC d) (oC g)) (aA (bV d.2.1 g.2.1) (bA (mO d) (mO g)) (aA (cJ (mO d) (mO g)) (eR (bF ((↑d.1:Int)+1))=bL g.1) (bS (jS (KF d) S (E8 g)) (yC d) (yC g) F (yD g))))))))))))))))) (∃(g:Nat×Nat×Sl×Sl×dn×MH×PH),aA (I1 g) (z g<z f) (aA (bA (BP d) (AA g)) (jK (BQ d) g.2.1) (aA (eL 72) (bA (oC
 d) (nE g)) (aA (cJ (oC d) (nE g)) (eR (bF ((↑d.2.1:Int)+1))=bL g.1) (bS (rY (E8 d) (Dh g)) (yC d) (vU g) (yD d) (v8 g))))))))))))) (nD (v8 f) (iA f.2.2.2.2.1) K (vU f))))))))
theorem Qs:di 117 aiZ:=by
 refine fU func117 ?_;rintro c m h K ⟨s,on,rfl,d,e⟩;refine⟨bjJ s m h,rfl,aG,Me s m h K,bu,?_⟩;exact b4Z d e
theorem Zx:di 190 X1:=by
 refine fU func190 ?_;rintro d m h K ⟨s,t,r,c,rfl,e,f,g,j⟩;refine⟨bjZ s t m h,rfl,aE Jd aG,Md s t m h K,bu,?_⟩;exact b4X e f g j
theorem rK.get1{m0:MH}{y:Nat}{kk:dy}{us:ByteArray->dn}{key:ByteArray}{K0:Prop}{K:Sl->Prop}(g:rK m0 m y kk us)(d:∀s,F6 kk key s->K s)(e:K ⟨none,0,0⟩=K0):
 ∃(c:fc)(Ok:Value->Prop),qM m y (c.map λp=>(p.1,iI p.2))/\KeyLaw Tryz.prog 9 Ok/\Ok (.string key)/\(∀e,List.Mem e c->Ok e.1)/\((∀e,List.Mem e c->e.1=Value.string key->False)->K0)/\∀t,List.Mem (Value.string key,t) c->K t:=g.get2 (λf=>e▸d _ f) d
theorem abQ:di 116 bMQ:=by
 refine Wm func116 ?_;rintro c9 m h K ⟨v,on,s1,s2,D,f,rfl,ho,L,M,hT,c',d',hK⟩;refine⟨bAX,rfl,aE Qs (aE Cw (aE Zx (aE Zw aG))),Mu v s1 s2 m h (fJ h K),bu,?_⟩;show Mu v s1 s2 m h (fJ h K);dsimp only[Mu,push_cast];obtain⟨-,wa,wb,n,c,c0,a8⟩:=c';have n:gT wa D:=n;have c:gT wb f:=c;have d0:=n.len;have c6:=c.len;refine⟨v.on,on,rfl,ho,λsa sb h1 B O a9 y m2 b' a0=>?_⟩;obtain⟨st,ny⟩:=En (Sub.refl m) b' a0;have b0:m2 y=some (.map #[] 0):=a0.at_;have U:∀{mx kk us},rK m2 mx y kk us->Sub m mx:=λg z o J=>g.old z o (st z o J) (λP=>cg);clear a0 b';have L:=bI.mono L B (λ_ _ h=>bT.mono h B);have M:=bI.mono M B (λ_ _ h=>bT.mono h B);have b1:=bI.slen L;have b2:=bI.slen M;refine⟨λx=>x.1<=f.length/\x.2.1=y/\x.2.2.1=s1/\x.2.2.2.1=sa/\x.2.2.2.2.1=sb/\x.2.2.2.2.2.1=s2/\x.2.2.2.2.2.2.2=h1/\ajJ m2 x.2.2.2.2.2.2.1 h1 y (under oY (fV on) (f.take x.1)),λx=>f.length-x.1,⟨(0,y,s1,sa,sb,s2,m2,h1),⟨Nat.zero_le _,rfl,rfl,rfl,rfl,rfl,rfl,⟨[],_,rK.new b0,λk=>by simpa[under]using eD.nil h1⟩⟩,MT⟩,?_⟩;rintro⟨i,y',t1,ta,tb,t2,mx,hx⟩ ⟨hi,V,J,P,W,e5,e6,⟨kk,uk,g,hg⟩⟩;dsimp only at hi V J P W e5 e6 g hg⊢
 subst V J P W e5 e6;refine aD (λa1=>?_) (λb3=>?_)
 .obtain⟨r,E⟩:=dO b2 a1;obtain⟨b,o,u,ea,rd,Q⟩:=bI.at M E;have A:=cr E;have C:fS r.length (fV on):=by rw[c.wid r A];exact a8
  rw[fD aC];refine⟨b,o,ea,aC,aC,u,.imm rd,u,tb,r,fV on,rfl,Q,a9,C,aB (λd=>?_) (λd=>?_)⟩
  .have hl:(uk (oY (pick r (fV on)))).length<=502633886983:=by
    have h5:=(hg (oY (pick r (fV on)))).len;have h6:(under oY (fV on) (f.take i) (oY (pick r (fV on)))).length<=(f.take i).length:=length_filter_le _ _
    grind
   exact⟨u,tb,r,fV on,rfl,Q,a9,c.row r A,C,hT.sub (U g),g.get1 (λs hs=>g.appV ⟨_,b0⟩ hl (λm' d1 g'=>⟨(i+1,y',t1,ta,tb,t2,m',hx),⟨aC,rfl,rfl,rfl,rfl,rfl,rfl,ajJ.upd g' hg Q (by rw[IL E,if_pos];simpa[kE]using d) (λk2 d2=>by rw[IL E,if_neg,append_nil];grind)⟩,aC,MT⟩) hs) rfl⟩
  .refine⟨(i+1,y',t1,ta,tb,t2,mx,hx),⟨aC,rfl,rfl,rfl,rfl,rfl,rfl,⟨kk,uk,g,λk2=>?_⟩⟩,aC,MT⟩;dsimp only;rw[IL E,if_neg,append_nil]
   .exact hg k2
   .simp[kE,d]
 .rw[cu aC]at hg;have gx:∀{X},PH.le hx X->∀key,eD X (uk key) (under oY (fV on) f key):=λle key=>(hg key).mono le;have sx:=U g;refine⟨λx=>x.1<=D.length/\x.2.1=y'/\x.2.2.1=t1/\x.2.2.2.1=ta/\x.2.2.2.2.2.1=mx/\PH.le hx x.2.2.2.2.2.2/\eD x.2.2.2.2.2.2 x.2.2.2.2.1 ((D.take x.1).flatMap (jG on f)),λx=>D.length-x.1,⟨(0,y',t1,ta,[],mx,hx),⟨Nat.zero_le _,rfl,rfl,rfl,rfl,.refl _,cm (eD.nil hx)⟩,MT⟩,?_⟩;rintro⟨k,y2,a2,F,us,my,hy⟩ ⟨hk,V,J,P,W,le,R⟩;dsimp only at hk V J P W le R⊢
  subst V J P W;refine aD (λa1=>?_) (λb3=>?_)
  .obtain⟨r,E⟩:=dO b1 a1;obtain⟨b,o,u,ea,rd,Q⟩:=bI.at L E;have A:=cr E;have C:fS r.length (gH on):=by rw[n.wid r A];exact c0
   have Q:=bT.mono Q le;have O:=O.mono le;rw[fD aC];refine⟨b,o,ea,aC,aC,u,.imm (rd.mono le),u,F,r,gH on,rfl,Q,O,C,aB (λd=>?_) (λd=>?_)⟩
   .refine⟨(k+1,y2,a2,F,us,my,hy),⟨aC,rfl,rfl,rfl,rfl,le,?_⟩,aC,MT⟩;have:jG on f r=[]:=if_neg (by simpa[kE]using d);dsimp only;rw[FH _ E,this,append_nil];exact R
   .have d:(pick r (gH on)).all jH=true:=cg
    have c1:under oY (fV on) f (oY (pick r (gH on)))=f.filter λy=>kE (fV on) y&&agree on r y:=by
     refine filter_congr λz X=>?_;congr 1;have h5:=L0 KU (n.row r A) (c.row z X) C (by rw[c.wid z X];exact a8)
     grind
    have a3:jG on f r=(under oY (fV on) f (oY (pick r (gH on)))).map (r++ ·):=by rw[c1];exact if_pos (by simpa[kE]using d)
    have b4:((D.take k).flatMap (jG on f)).length+(under oY (fV on) f (oY (pick r (gH on)))).length<=8000000:=by
     have h5:((D.take (k+1)).flatMap (jG on f)).length<=(D.take (k+1)).length*f.length:=wT λx _=>A1;rw[FH _ E,ct,a3,length_map]at h5;have h6:(D.take (k+1)).length*f.length<=D.length*f.length:=Nat.mul_le_mul_right _ cg;omega
    have a4:=gx le (oY (pick r (gH on)));generalize hG:under oY (fV on) f (oY (pick r (gH on)))=G at a3 b4 a4;have c2:=a4.len;refine⟨u,F,r,gH on,rfl,Q,O,n.row r A,C,hT.sub sx,g.get1 (λs hs=>?_) rfl⟩;refine⟨λz=>z.1<=G.length/\z.2.1=k/\z.2.2.1=y2/\z.2.2.2.1=a2/\z.2.2.2.2.1=F/\z.2.2.2.2.2.1=u/\z.2.2.2.2.2.2.1=s/\z.2.2.2.2.2.2.2.2.1=my/\PH.le hy z.2.2.2.2.2.2.2.2.2/\eD z.2.2.2.2.2.2.2.2.2 z.2.2.2.2.2.2.2.1 ((D.take k).flatMap (jG on f)++(G.take z.1).map (r++ ·)),λz=>G.length-z.1,⟨(0,k,y2,a2,F,u,s,us,my,hy),⟨Nat.zero_le _,rfl,rfl,rfl,rfl,rfl,rfl,rfl,.refl _,cg⟩,MT⟩,?_⟩;rintro⟨j,k',y3,Y,Z,ee,gg,b5,mz,X⟩ ⟨S,V,J,P,W,e5,e6,e7,H,a5⟩;dsimp only at S V J P W e5 e6 e7 H a5⊢
    subst V J P W e5 e6 e7;have a':=(hs.row g).1;have c3:=a'.slen;rw[length_map,c2]at c3;refine aD (λc7=>?_) (λb3=>?_)
    .have b6:j<G.length:=by omega
     obtain⟨w,hw,c4⟩:=a4.at_ j _ (cq b6);obtain⟨b8,e8,d3⟩:=a'.rd (h:=X) (i:=j) (e:=[iI w]) (by rw[getElem?_map,hw];rfl);have b7:=a5.len;simp only[ct,length_map,length_take]at b7;rw[fD aC];refine⟨b8,0,e8,aC,aC,w,cg,λc5 h3 T a6=>⟨c5,[r,G[j]],rfl,?_,bx,?_,λsl h4 b9 c8=>⟨cg,cg,(j+1,k',y3,Y,Z,ee,gg,b5++[sl],mz,h4),⟨aC,rfl,rfl,rfl,rfl,rfl,rfl,rfl,H.trans (T.trans b9),?_⟩,aC,?_⟩⟩⟩
     .refine eD.rows (us:=[ee,w]) ?_ a6 bx;refine⟨rfl,λj z S=>?_⟩
      match j,S with
      |0,S=>
       simp at S;subst S;exact⟨ee,rfl,bT.mono Q (H.trans T)⟩
      |1,S=>
       simp at S;subst S;exact⟨w,rfl,bT.mono c4 (H.trans T)⟩
     .intro z I;have I:z∈[r,G[j]]:=I;rcases mem_cons.1 I with rfl|I
      .exact(n.row _ A).len
      .have e7:=mem_singleton.1 I
       have:z∈f:=by
        have h9:z∈under oY (fV on) f (oY (pick r (gH on))):=cg
        grind
       exact(c.row _ this).len
     .have e7:(G.take (j+1)).map (r++ ·)=(G.take j).map (r++ ·)++[r++G[j]]:=by rw[db,cq b6,cv];rfl
      dsimp only;rw[e7, <-append_assoc];exact(a5.mono (T.trans b9)).snoc cg
     .dsimp only;rw[cv];exact MT
    .have:j=G.length:=by omega
     subst this;rw[fD aC];refine⟨(k'+1,y3,Y,Z,b5,mz,X),⟨aC,rfl,rfl,rfl,rfl,le.trans H,?_⟩,aC,MT⟩;dsimp only;rw[FH _ E,a3]
     grind
  .rw[cu aC]at R
   refineλs h' a7 a6=>fJ.sub sx (B.trans (le.trans a7)) (hK s h' (B.trans (le.trans a7)) ((R.mono a7).rows a6 ?_))
   have h5:(D.flatMap (jG on f)).length<=D.length*f.length:=wT λx _=>A1;omega
end Go.Ps
