/- Own work. -/
import Derived.ChangeArms
import Derived.OpenShut
import Derived.ChangeOld
import Derived.WideShapes
import Derived.Test.YtjpjambjoceofaaGreatDoorRows
import Derived.Test.YtjpjambjoceofaaGreatDoorVi
set_option linter.unusedVariables false
set_option linter.unusedSimpArgs false
namespace Go.Ps
open Go Go.Vc Go.Proofs List Tryz
variable{K:dk}{m:MH}{h:PH}{s:oL}{ps:dm}{ts:List Step}{cb:Nat}{sc:bW}{v:QV}{q:Query}{t:Step}{p:Pred}{l:dm}{i:Nat}{N:Nat}{m':MH}{h':PH}{co:dm}{gr:dm}{od:dr}{w:Pred}{ta:Int}{li:Int}{xs:List dj}{sz:Nat}{ks:List dm}{rs:dm}{r:Sl}{a:dm}{b:Nat}
def bcZ:Vc.Spec:=λc m h K=>∃s r,c=[cS s]/\bI h s r/\r.length<=1000/\K (.lst 27 3 (r.map VV.enc)) m h
def bHQ:Vc.Spec:=λc m h K=>∃o s r,c=[aO o,cS s,nK]/\bI h s r/\∀ok:Bool,(ok=false->xS r o=zeroV)->K (.tup [aV (xS r o),cB ok]) m h
def bcJ:Vc.Spec:=λd m h K=>∃c a b,d=[cI c,aV a,aV b]/\K (cB (qB c a b)) m h
noncomputable def aQZ(N:Nat)(v:PV)(s:Sl)(m:MH)(h:PH):Ctx:=
 dG [(257,bHQ),(258,bcJ),(201,Tk N)] [(10,{A:=Nat,st:=λi=>bK 97 100 [(1,sv s),(2,vv sJ),(3,.at (.ptr 3 0)),(50,iv v.args.len),(51,iv i)] [(3,.cells 32 (v.enc.map .val))] m h}),
  (18,{A:=Nat,st:=λi=>bK 97 100 [(1,sv s),(2,vv sJ),(3,.at (.ptr 3 0)),(68,iv v.args.len),(69,iv i)] [(3,.cells 32 (v.enc.map .val))] m h})] [] [] false
def ay(s:Sl)(m:MH)(h:PH)(K:dk):Prop:=
  ∃(y:List dj),aA (cT 3 y) (bN h (bD s) 3 y) (aA (wT y 32) (wU y) (K (CV.lst 27 3 y) m h))
abbrev yU(a:dk)(b:OV)(c:MH)(d:PH):Prop:=a (CV.tup (bJ (fT b.value) eW)) c d
abbrev yV(a:dk)(b:MH)(c:PH):Prop:=a (CV.tup (bJ (pN Bl) aX)) b c
attribute [push_cast] yU yV
def Qz(o:OV)(s:Sl)(m:MH)(h:PH)(K:dk):Prop:=
  cH (o.kind==1) (cH (decide (o.index>=0)) (aR o.index (aH s) (bT (λb c=>aA (bX s.a b c) (0<=o.index) (o.index<aH s/\∃(y:VV),aK m h b (cF c o.index 3) y.enc/\K (CV.tup (bJ (fT y) eW)) m h))) (cH (o.kind==2) (cH (decide (o.index>=0)) (aR o.index 0 (IG 0 o m h 3 (λy=>K (CV.tup (bJ (fT y) eW)) m h)) (dJ o.kind 3 (yU K o m h) (yV K m h))) (o.kind==3) (yU K o m h) (yV K m h)) (o.kind==3) (yU K o m h) (yV K m h))) (o.kind==2) (cH (decide (o.index>=0)) (aR o.index 0 (IG 0 o m h 3 (λy=>K (CV.tup (bJ (fT y) eW)) m h)) (dJ o.kind 3 (yU K o m h) (yV K m h))) (o.kind==3) (yU K o m h) (yV K m h)) (dJ o.kind 3 (yU K o m h) (yV K m h))) (o.kind==2) (cH (decide (o.index>=0)) (aR o.index 0
 (IG 0 o m h 3 (λy=>K (CV.tup (bJ (fT y) eW)) m h)) (dJ o.kind 3 (yU K o m h) (yV K m h))) (o.kind==3) (yU K o m h) (yV K m h)) (dJ o.kind 3 (yU K o m h) (yV K m h))
def Qy(c:Int)(a b:VV)(m:MH)(h:PH)(K:dk):Prop:=
  ∃(v:VV),iX (uJ a v) (!(jF v)) (K aX m h) (∃(f:VV),uJ b f/\cH (!(jF f)) (K aX m h) (a.kind !=b.kind) (K aX m h) (E7 (λd e=>bJ (fT a) (fT b)=bJ (fT d) (fT e)/\cH (c==1) (K (zU (jL d e==0)) m h) (c==2) (K (zU (jL d e !=0)) m h) (cH (c==3) (K (zU (decide (jL d e<0))) m h) (c==4) (K (zU (decide (jL d e<=0))) m h) (cH (c==5) (K (zU (decide (jL d e>0))) m h) (c==6) (K (zU (decide (jL d e>=0))) m h) (K aX m h))))))
def QX(N:Nat)(v:PV)(s:Sl)(m:MH)(h:PH)(K:dk):Prop:=
  cH (v.op==1) (K eW m h) (v.op==3) (uW (λo j r=>aA (pW v.left s=pW o j) (bI h j r) (∀(n:Bool),(J6 n->xS r o=VV.mk 0 0 (ByteArray.mk (Array.mk [])))->uW (λe u f=>aA (pW v.right s=pW e u) (bI h u f) (∀(z:Bool),hU (J6 z->xS f e=VV.mk 0 0 (ByteArray.mk (Array.mk []))) n (branch z (∃(c:Int),E7 (λa b=>fQ v.cmp::bJ (pN (a8 (fB (xS r o).kind) (fB (xS r o).int) (yW (xS r o).text))) (pN (a8 (fB (xS f e).kind) (fB (xS f e).int) (yW (xS f e).text)))=fQ c::bJ (fT a) (fT b)/\K (zU (qB c a b)) m h)) (K aX m h)) (K aX m h)))))) (cH (v.op==4) (kX (λI x=>aA (I x) (aG s) (aA (eQ sQn) cA (aA (rO v) (aY x) (aA (iU v) (m=m) (bH h h))))) (λI g x=>I x->aR (↑x:
 Int) (aH v.args) (bT (λb o=>aA (bX v.args.a b o) (0<=(↑x:Int)) ((↑x:Int)<aH v.args/\∃(y:PV),aK m h b (bC o x 13) y.enc/\DE y s h N (λp r=>gR (!(iD r p)) (K aX m h) (λd=>aA (I d) (g d<g x) (aA (aG s) (eQ sQn) (aA cA (rO v) (aA (aU (aW x 1) d) (iU v) (bE (m=m) h h))))))))) (K eW m h))) (v.op==5) (kX (λI x=>aA (I x) (aG s) (aA (eQ sQn) cA (aA (rO v) (aY x) (aA (iU v) (m=m) (bH h h))))) (λI g x=>I x->aR (↑x:Int) (aH v.args) (bT (λb o=>aA (bX v.args.a b o) (0<=(↑x:Int)) ((↑x:Int)<aH v.args/\∃(y:PV),aK m h b (bC o x 13) y.enc/\DE y s h N (λp r=>gR (iD r p) (K eW m h) (λd=>aA (I d) (g d<g x) (aA (aG s) (eQ sQn) (aA cA (rO v) (aA (aU
 (aW x 1) d) (iU v) (bE (m=m) h h))))))))) (K aX m h))) (dJ v.op 6 (eR (mS v) 0 (bT (λb o=>aA (bX v.args.a b o) ((0:Int)<=0) (0<aH v.args/\∃(y:PV),aK m h b (cZ o) y.enc/\DE y s h N (λp r=>K (CV.val (Value.bool (!(iD r p)))) m h)))) (K aX m h)) (K aX m h)))
theorem br:di 55 bcZ:=by
 refine gO func55 ?_;rintro d m h K ⟨s,r,rfl,f,n,g⟩;refine⟨dG [] [] [] [] true,rfl,aF,ay s m h K,bu,?_⟩;dsimp only[ay,push_cast];obtain⟨⟨c,j,o,u⟩,y⟩:=f
 have e:c=r:=ext_getElem? λi=>by
  grind
 subst e;exact⟨c.map VV.enc,Bf c,j,cg,cg,g⟩
theorem W4:di 257 bHQ:=by
 refine gO func257 ?_;rintro y m h K ⟨o,s,r,rfl,u,f⟩;refine⟨dG [] [] [] [] false,rfl,aF,Qz o s m h K,bu,?_⟩;dsimp only[Qz,push_cast];have z:=aZ.slen u
 have c:¬(o.kind=1/\0<=o.index/\o.index<r.length)->branch (o.kind==3) (K (CV.tup [aV o.value,cB true]) m h) (K (CV.tup [aV zeroV,cB false]) m h):=λg=>by
  unfold xS at f;refine aB (λe=>?_) (λe=>?_)
  .grind
  grind
 have d:∀X,¬(o.kind=1/\0<=o.index/\o.index<r.length)->branch (o.kind==2) (branch (decide (o.index>=0)) (branch (decide (o.index<((0:Nat):Int))) X (branch (o.kind==3) (K (CV.tup [aV o.value,cB true]) m h) (K (CV.tup [aV zeroV,cB false]) m h))) (branch (o.kind==3) (K (CV.tup [aV o.value,cB true]) m h) (K (CV.tup [aV zeroV,cB false]) m h))) (branch (o.kind==3) (K (CV.tup [aV o.value,cB true]) m h) (K (CV.tup [aV zeroV,cB false]) m h)):=λX g=>
  aB (λ_=>aE (λj=>aE (λn=>absurd n aC) (λ_=>c g)) (λ_=>c g)) (λ_=>c g)
 refine aB (λj=>aE (λn=>aE (λA=>?_) (λA=>d _ aC)) (λn=>d _ aC)) (λj=>d _ (λe=>cg));have j:o.kind=1:=cg
 have B:r[o.index.toNat]? =some (r.getD o.index.toNat zeroV):=by
  grind
 obtain⟨b,off,v,e,rd,ev⟩:=aZ.at u B;have f:=f true (λe=>by cases e);unfold xS at f;rw[if_neg aC,if_pos ⟨j,aC,aC⟩,ev]at f;exact⟨b,off,e,aC,aC,_,.imm rd,f⟩
theorem W3:di 258 bcJ:=by
 refine gO func258 ?_;rintro C m h K ⟨c,a,b,rfl,d⟩;refine⟨dG [(259,LY),(109,LZ)] [] [] [] false,rfl,aD Hu (aD HA aF),Qy c a b m h K,bu,?_⟩;dsimp only[Qy,push_cast];have A:qB c a b=false->K (cB false) m h:=λe=>cg
 refine⟨a,rfl,aB (λn=>A ?_) (λn=>⟨b,rfl,aB (λo=>A ?_) (λo=>aB (λu=>A ?_) (λu=>⟨a,b,rfl,?_⟩))⟩)⟩
 .have n:jF a=false:=cg
  simp[qB,n]
 .have o:jF b=false:=cg
  simp[qB,o]
 .have u:a.kind≠b.kind:=cg
  simp[qB,u]
 .have n:jF a=true:=cg
  have o:jF b=true:=cg
  have u:a.kind=b.kind:=cg
  have D:qB c a b=TH c (jL a b):=by simp[qB,n,o,u]
  rw[D]at d;unfold TH at d;refine aB (λf=>?_) (λf=>aB (λg=>?_) (λg=>aB (λj=>?_) (λj=>aB (λy=>?_) (λy=>aB (λz=>?_) (λz=>aB (λB=>?_) (λB=>?_))))))
  all_goals simp only[beq_iff_eq,beq_eq_false_iff_ne]at*
  .rw[if_pos f]at d;exact d
  .rw[if_neg f,if_pos g]at d;exact d
  .rw[if_neg f,if_neg g,if_pos j]at d;exact d
  .rw[if_neg f,if_neg g,if_neg j,if_pos y]at d;exact d
  .rw[if_neg f,if_neg g,if_neg j,if_neg y,if_pos z]at d;exact d
  .rw[if_neg f,if_neg g,if_neg j,if_neg y,if_neg z,if_pos B]at d;exact d
  .rw[if_neg f,if_neg g,if_neg j,if_neg y,if_neg z,if_neg B]at d;exact d
theorem Va:∀N,di 201 (Tk N)
 |0=>by
  refine eC (fn:=Tryz.f201) (c:=cL Tryz.f201) func201 rfl bz ?_;rintro I m h K ⟨v,s,p,r,rfl,_,_,W,_⟩;omega
 |N+1=>by
  refine gO func201 ?_;rintro I m h K ⟨v,s,p,r,rfl,X,o,W,d⟩;refine⟨aQZ N v s m h,rfl,aD W4 (aD W3 (aD (Va N) aF)),QX N v s m h K,bu,?_⟩;dsimp only[QX,push_cast];have g:=@xA p;obtain⟨op,Y,l,q,ps⟩:=p;obtain⟨rfl,rfl,rfl,rfl,z⟩:=X.parts;have J:=z.slen;have O:=z.len;simp only[Pred.args]at g;simp only[iD]at d;refine aB (λP=>?_) (λP=>aB (λQ=>?_) (λQ=>aB (λR=>?_) (λR=>aB (λS=>?_) (λS=>aB (λZ=>?_) (λZ=>?_)))))
  .rw[if_pos cg]at d;exact d
  all_goals have T:v.op≠1:=cm P
  .rw[if_neg T,if_pos cg]at d;have z1:qB v.cmp zeroV (xS r v.right)=false:=by simp[qB,show jF zeroV=false from rfl]
   have z2:qB v.cmp (xS r v.left) zeroV=false:=by simp[qB,show jF zeroV=false from rfl]
   refine⟨v.left,s,r,rfl,o,λok n=>⟨v.right,s,r,rfl,o,λa' e2=>aB (λG=>aB (λU=>⟨_,_,_,rfl,d⟩) (λU=>?_)) (λG=>?_)⟩⟩
   .rw[show xS r v.right=zeroV from e2 U,z2]at d;exact d
   .rw[show xS r v.left=zeroV from n G,z1]at d;exact d
  all_goals have n3:v.op≠3:=cm Q
  all_goals rw[if_neg T,if_neg n3]at d
  .rw[if_pos cg,Fq]at d;refine⟨λi=>i<=ps.length/\∀j:Nat,j<i->∀x,ps[j]? =some x->iD r x=true,λi=>ps.length-i,⟨0,⟨aC,λj A=>by omega⟩,MT⟩,λi⟨hi,B⟩=>aE (λe=>?_) (λL=>?_)⟩
   .obtain⟨x,f⟩:=eN J e;obtain⟨C,D,u,n,H,E⟩:=z.at f;have:=g (cr f);refine⟨C,D,n,aC,e,u,.imm H,u,s,x,r,rfl,E,o,aC,aB (λM=>?_) (λV=>⟨i+1,⟨aC,λj A y F=>?_⟩,(show ps.length-(i+1)<ps.length-i by omega),MT⟩)⟩
    .have:ps.all (iD r)=false:=by
      grind
     rw[this]at d;exact d
    grind
   .have:ps.all (iD r)=true:=by
     rw[all_eq_true];intro y F;obtain⟨j,A⟩:=getElem?_of_mem F
     grind
    rw[this]at d;exact d
  all_goals have n4:v.op≠4:=cm R
  all_goals rw[if_neg n4]at d
  .rw[if_pos cg,Fo]at d;refine⟨λi=>i<=ps.length/\∀j:Nat,j<i->∀x,ps[j]? =some x->iD r x=false,λi=>ps.length-i,⟨0,⟨aC,λj A=>by omega⟩,MT⟩,λi⟨hi,B⟩=>aE (λe=>?_) (λL=>?_)⟩
   .obtain⟨x,f⟩:=eN J e;obtain⟨C,D,u,n,H,E⟩:=z.at f;have:=g (cr f);refine⟨C,D,n,aC,e,u,.imm H,u,s,x,r,rfl,E,o,aC,aB (λV=>?_) (λM=>⟨i+1,⟨aC,λj A y F=>?_⟩,(show ps.length-(i+1)<ps.length-i by omega),MT⟩)⟩
    .have:ps.any (iD r)=true:=any_eq_true.2 ⟨x,cr f,V⟩;rw[this]at d;exact d
    grind
   .have:ps.any (iD r)=false:=by
     rw[any_eq_false];intro y F;obtain⟨j,A⟩:=getElem?_of_mem F
     grind
    rw[this]at d;exact d
  all_goals have n5:v.op≠5:=cm S
  all_goals rw[if_neg n5]at d
  .rw[if_pos cg]at d;refine aE (λG=>?_) (λG=>?_)
   .obtain⟨x,f⟩:=eN (i:=0) J aC;obtain⟨C,D,u,n,H,E⟩:=z.at f;have:=g (cr f)
    have e7:N3 r ps= !iD r x:=by
     cases ps with
     |nil=>simp at f
     |cons y _=>simp at f;subst f;rfl
    rw[e7]at d;exact⟨C,D,n,aC,aC,u,.imm aC,u,s,x,r,rfl,E,o,aC,d⟩
   .have:ps=[]:=length_eq_zero_iff.1 aC;subst this;exact d
  .rw[if_neg cg]at d;exact d
theorem XJ:di 201 Tl:=jE Va λ_ _ _ _⟨v,s,p,r,e,c,d,f⟩=>⟨SizeOf.sizeOf p+1,v,s,p,r,e,c,d,aC,f⟩
def ZG(N:Nat):Vc.Spec:=λc m h K=>∃v q,c=[aQ v]/\bR h q v/\SizeOf.sizeOf q<N/\nW q<=900000/\∀d h',PH.le h h'->Ints h' d (eE q)->K (cS d) m h'
def a5Z:Vc.Spec:=λc m h K=>∃v q,c=[aQ v]/\bR h q v/\nW q<=900000/\∀d h',PH.le h h'->Ints h' d (eE q)->K (cS d) m h'
def ZR:Vc.Spec:=λc m h K=>∃e d v q,c=[VT e,aQ v]/\CE h e d/\bR h q v/\nW q<=900000/\(∀t∈eE q,0<=t/\t<d.length)/\∀f h',PH.le h h'->Leaves h' f (mM d q)->K (cS f) m h'
noncomputable def aSZ(N:Nat)(v:QV)(m:MH):Ctx:=
 dG [(181,ZG N)] [(5,{A:=Nat×dm×PH,st:=λ⟨i,l,h⟩=>bK 29 30 [(1,.at (.ptr 1 0)),(3,.at (.lst 12)),(15,iv v.args.len),(16,iv i)] [(1,.cells 38 (v.enc.map .val)),(12,.lst 3 1 (l.map eI))] m h})] [(4,{A:=dm×PH,st:=λ⟨l,h⟩=>bK 29 30 [(1,.at (.ptr 1 0)),(3,.at (.lst 12))] [(1,.cells 38 (v.enc.map .val)),(12,.lst 3 1 (l.map eI))] m h})] [] false
noncomputable def aYX(sl:Sl)(m:MH):Ctx:=
 dG [(181,a5Z)] [(3,{A:=Nat×Sl×dq×PH,st:=λ⟨i,s,c,h⟩=>bK 25 27 [(2,.at (.ptr 2 0)),(5,.at (.lst 22)),(9,sv s),(10,iv s.len),(11,iv i)] [(2,.cells 25 [.val (.slice sl.a sl.len sl.cap)]),(22,.lst 53 1 (c.map eS))] m h})] [] [] false
def Q9(N:Nat)(v:QV)(m:MH)(h:PH)(K:dk):Prop:=
  ∃(I:dm×PH->Prop),dJ v.op 1 (aA (gS 8) (gS 1) (∃(x:dm×PH),aA (I x) eY (aA (eL 12) (cG v) (bG (uB (iF (cO v.table)) x.1) (m=m) (h=x.2))))) (∃(x:dm×PH),aA (I x) eY (aA (eL 12) (cG v) (bG (uA x.1) (m=m) (h=x.2))))/\∀(x:dm×PH),I x->∃(I1:Nat×dm×PH->Prop)(g:Nat×dm×PH->Nat),(∃(c:Nat×dm×PH),aA (I1 c) eY (aA (eL 12) (rP v) (aA (aY c.1) (cG v) (aA (uB (fH x.1) c.2.1) (m=m) (bH x.2 c.2.2)))))/\∀(c:Nat×dm×PH),I1 c->aR (↑c.1:Int) (aH v.args) (bT (λb o=>aA (bX v.args.a b o) (0<=(↑c.1:Int)) ((↑c.1:Int)<aH v.args/\∃(y:QV),aK m c.2.2 b (bC o c.1 21) y.enc/\jD (λj q=>aA (DZ (dE y)=DZ (dE j)) (bR c.2.2 q
 j) (aA (lX q N) (Gn q) (jT (λs f=>dD c.2.2 f (Ints f s (eE q)) (∃(d:List dj),aA (cT 1 d) (bN f (bD s) 1 d) (aA (kH (fH c.2.1) d 8) (kC (fH c.2.1) d) (∃(e:Nat×dm×PH),aA (I1 e) (g e<g c) (aA eY (eL 12) (aA (rP v) (aU (aW c.1 1) e.1) (aA (cG v) (uB (fH c.2.1++d) e.2.1) (bE (m=m) f e.2.2)))))))))))))) (oB c.2.2 (fH c.2.1) K m)
def Rz(sl:Sl)(v:QV)(m:MH)(h:PH)(K:dk):Prop:=
  jD (λe q=>aA (uK v e) (bR h q e) (Gn q/\jT (λs d=>dD h d (Ints d s (eE q)) (∃(I:Nat×Sl×dq×PH->Prop)(f:Nat×Sl×dq×PH->Nat),(∃(x:Nat×Sl×dq×PH),aA (I x) dX (aA (eL 22) (bF s (kJ x)) (aA (dA s (kJ x)) (aY x.1) (aA (oC sl) (kN 53 1 (Cy 53 1 x.2.2.1)) (bE (m=m) d (oV x))))))/\∀(x:Nat×Sl×dq×PH),I x->aR (↑x.1:Int) (aH (kJ x)) (eU (kJ x).a 0 (↑x.1:Int) (kJ x) (λb o y=>aK m (oV x) b (bC o x.1 1) (cO y)/\cK sl.a y sl (λj n g=>aA (aK m (oV x) j (cF n y 1) (aM g)) (iS (nE x)) (dH (nE x)/\∃(c:Nat×Sl×dq×PH),aA (I c) (f c<f x) (aA dX (eL 22) (aA (bF (kJ x) (kJ c)) (dA (kJ x) (kJ c)) (aA
 (aU (aW x.1 1) c.1) (oC sl) (bG (cD 53 1 (dY (nE x) (aM g))=Cy 53 1 c.2.2.1) (m=m) (oV x=oV c))))))))) (oB (oV x) (nE x) K m)))))
theorem H5{q:Query}:∀{l:dt},dV (l++[q])=dV l++eE q
 |[]=>by simp[dV]
 |p::l=>by rw[cons_append,dV,H5,dV,append_assoc]
theorem Vh:∀N,di 181 (ZG N)
 |0=>by
  refine eC (fn:=Tryz.f181) (c:=cL Tryz.f181) func181 rfl bz ?_;rintro B m h K ⟨v,q,rfl,S,X,_⟩;omega
 |N+1=>by
  refine gO func181 ?_;rintro B m h K ⟨v,q,rfl,S,X,Y,C⟩;refine⟨aSZ N v m,rfl,aD (Vh N) aF,Q9 N v m h K,bu,?_⟩;dsimp only[Q9,push_cast];have g:=FM q;obtain⟨op,ta,w,co,on,gr,od,li,args⟩:=q;have D:=S.parts;have d:=D.args_;have E:=aZ.slen d;have T:=aZ.len d;have U:v.op=op:=D.op_;have A:v.table=ta:=D.table_;rw[eE]at C g;rw[nW]at Y g;refine⟨λz=>z=(if op=1 then[ta]else[],h),aB (λe=>?_) (λe=>?_),?_⟩
  .have e:op=1:=cg
   exact⟨aC,aC,([ta],h),by rw[if_pos e],by rw[A];exact MT⟩
  .grind
  rintro _ rfl;dsimp only;generalize (if op=1 then[ta]else[])=F at C g;refine⟨λz=>z.1<=args.length/\z.2.1=F++dV (args.take z.1)/\PH.le h z.2.2,λz=>args.length-z.1,⟨(0,F,h),⟨bx,by simp[dV],.refl _⟩,MT⟩,?_⟩;rintro⟨i,l,hx⟩ ⟨Z,V,le⟩;dsimp only at Z V le⊢
  subst V
  have f:∀j,(dV (args.take j)).length<=(dV args).length:=λj=>by
   have h5:∀(a b:dt),(dV a).length<=(dV (a++b)).length:=λa b=>by
    induction a with
    |nil=>simp[dV]
    |cons p a ih=>rw[cons_append,dV,dV,ct,ct];omega
   have:=h5 (args.take j) (args.drop j)
   rwa [take_append_drop]at this
  have W:=f i;rw[ct]at g;refine aE (λG=>?_) (λa'=>?_)
  .obtain⟨p,H⟩:=eN E G;obtain⟨b,o,u,ea,I,J⟩:=aZ.at (Cn.mono d le) H;have n:=cr H
   have L:SizeOf.sizeOf p<N:=by
    have:=sizeOf_lt_of_mem n
    grind
   have a0:=SY n;have M:dV (args.take (i+1))=dV (args.take i)++eE p:=by rw[db,H,Option.toList_some,H5]
   have y:(dV (args.take (i+1))).length<=(dV args).length:=f _;rw[M,ct]at y;refine⟨b,o,ea,aC,aC,u,.imm I,u,p,rfl,J,L,aC,λs h2 O P=>⟨(eE p).map eI,pH _,P.row,?_,?_,(i+1,F++dV (args.take i)++eE p,h2),⟨aC,cg,le.trans O⟩,aC,?_⟩⟩
   .grind
   .grind
   .rw[fP aC]
    grind
  .rw[cu aC]
   exactλs h' Q R=>C s h' (le.trans Q) ⟨R,cg⟩
theorem XU:di 181 a5Z:=jE Vh λ_ _ _ _⟨v,q,e,c,d,f⟩=>⟨SizeOf.sizeOf q+1,v,q,e,c,aC,d,f⟩
structure EE(h:PH)(us:dq)(ls:List dl):Prop where
 len:us.length=ls.length
 at_:∀(j:Nat) l,ls[j]? =some l->∃u,us[j]? =some u/\Rows h u l
theorem EE.mono{us:dq}{ls:List dl}(x:EE h us ls)(le:PH.le h h'):EE h' us ls:=⟨x.len,λj l d=>(x.at_ j l d).imp λ_ c=>⟨c.1,aZ.mono c.2 le λr t e=>bI.mono e le⟩⟩
theorem EE.nil(h:PH):EE h [] []:=⟨rfl,λj x c=>by simp at c⟩
theorem EE.snoc{us:dq}{ls:List dl}(x:EE h us ls){u:Sl}{l:dl}(d:Rows h u l):EE h (us++[u]) (ls++[l]):=by
 refine⟨by simp[x.len],λj r c=>?_⟩;by_cases e:j<ls.length
 .rw[getElem?_append_left e]at c;obtain⟨f,g,n⟩:=x.at_ j r c
  grind
 .rw[getElem?_append_right aC]at c;have:j-ls.length=0:=cg
  rw[this]at c;simp at c;subst c;exact⟨u,by rw[getElem?_append_right (by rw[x.len];omega),x.len,this];rfl,d⟩
theorem EE.leaves{us:dq}{ls:List dl}{s:Sl}(x:EE h us ls)(c:bN h s 1 (us.map eS))(e:ls.length<=8000000):Leaves h s ls:=⟨⟨us,c,x.len.symm,λi l d=>x.at_ i l d⟩,aC⟩
theorem Yg:di 107 ZR:=by
 refine gO func107 ?_;rintro V m h K ⟨O,d,v,q,rfl,B,W,X,e,P⟩;refine⟨aYX O m,rfl,aD XU aF,Rz O v m h K,bu,?_⟩;dsimp only[Rz,push_cast];have C:=FM q;refine⟨v,q,rfl,W,X,λQ A f D=>?_⟩;have g:=D.slen;have c:=B.mono f;have R:=aZ.slen c.lea;have j:mM d q=(eE q).map λt=>d.getD t.toNat []:=rfl;generalize mM d q=L at j P;generalize eE q=ts at D g C e j;have Y:L.length=ts.length:=cg
 refine⟨λz=>z.1<=ts.length/\z.2.1=Q/\z.2.2.2=A/\EE A z.2.2.1 (L.take z.1),λz=>ts.length-z.1,⟨(0,Q,[],A),⟨bx,rfl,rfl,cm (EE.nil A)⟩,MT⟩,?_⟩;rintro⟨i,Z,us,h3⟩ ⟨E,S,T,n⟩;dsimp only at E S T n⊢
 subst S T;have F:=n.len;rw[length_take]at F;refine aE (λG=>?_) (λa'=>?_)
 .obtain⟨t,U⟩:=eN g G;obtain⟨b,o,ea,rd⟩:=D.at' U;have ht:=e t (cr U);have a0:t.toNat<d.length:=by omega
  have e6:d[t.toNat]? =some (d.getD t.toNat []):=cg
  obtain⟨b2,o2,u,H,I,hr⟩:=aZ.at c.lea e6;have J:L[i]? =some (d.getD t.toNat []):=cg
  refine⟨b,o,ea,aC,aC,t,.imm rd,b2,o2,H,ht.1,aC,u,.imm I,cg,cg,(i+1,Z,us++[u],h3),⟨aC,rfl,rfl,by rw[db,J];exact n.snoc hr⟩,aC,?_⟩;rw[fP aC,cv];exact MT
 .rw[cu aC]at n
  exactλs3 h4 y M=>P s3 h4 (f.trans y) ((n.mono y).leaves M aC)
variable{cN:Nat}
def a8Q:Vc.Spec:=λc m h K=>∃v s t q l w,c=[aQ v,cS s,cS t]/\bR h q v/\Rows h s (l.getD 0 [])/\Rows h t (l.getD 1 [])/\2<=v.op/\v.op<=10/\aCQ v.op q l/\jG w (Uf v.op q l)/\(v.op=6->(l.getD 0 []).length+(l.getD 1 []).length<=8000000)/\∀d h',PH.le h h'->Rows h' d (Uf v.op q l)->K (cS d) m h'
def bbX(N:Nat):Vc.Spec:=λd m h K=>∃cN v s q sc c k,d=[aQ v,cS s]/\bR h q v/\SizeOf.sizeOf q<N/\rI cN sc q/\xY sc (cN+1) c k (eE q)/\Leaves h s (c.drop k)/\∀e f h',PH.le h h'->Rows h' e (eD c q k).1->Leaves h' f (c.drop (eD c q k).2)->K (.tup [cS e,cS f]) m h'
def bbZ:Vc.Spec:=λd m h K=>∃cN v s q sc c k,d=[aQ v,cS s]/\bR h q v/\rI cN sc q/\xY sc (cN+1) c k (eE q)/\Leaves h s (c.drop k)/\∀e f h',PH.le h h'->Rows h' e (eD c q k).1->Leaves h' f (c.drop (eD c q k).2)->K (.tup [cS e,cS f]) m h'
def ZX:Vc.Spec:=λd m h K=>∃cN e v c q sc,d=[VT e,aQ v]/\CE h e c/\bR h q v/\rI cN sc q/\nW q<=900000/\mY sc c=0/\(∀l∈c,l.length<=cN+1)/\∀f h',PH.le h h'->Rows h' f (L0 c q)->K (cS f) m h'
noncomputable def aWJ(v:QV)(s t:Sl)(m:MH)(h:PH):Ctx:=dG [(201,Tl),(202,RU),(203,Tu),(55,bcZ),(204,a5X),(205,beQ),(206,VW),(132,ZD)] [(5,{A:=Nat×dq,st:=λ⟨i,c⟩=>bK 105 108 [(3,.at (.ptr 3 0)),(7,.at (.lst 31)),(18,sv s),(19,iv s.len),(20,iv i)] [(3,.cells 38 (v.enc.map .val)),(31,.lst 94 1 (c.map eS))] m h}),
 (14,{A:=Nat×dq×PH,st:=λ⟨i,c,h⟩=>bK 105 108 [(2,sv t),(3,.at (.ptr 3 0)),(7,.at (.lst 64)),(41,sv s),(42,iv s.len),(43,iv i)] [(3,.cells 38 (v.enc.map .val)),(64,.lst 94 1 (c.map eS))] m h}),
 (17,{A:=Nat×Sl×Nat×dq×PH,st:=λ⟨j,x,i,c,h⟩=>bK 105 108 [(2,sv t),(3,.at (.ptr 3 0)),(7,.at (.lst 64)),(11,sv x),(41,sv s),(42,iv s.len),(43,iv i),(47,sv t),(48,iv t.len),(49,iv j)] [(3,.cells 38 (v.enc.map .val)),(64,.lst 94 1 (c.map eS))] m h})] [] [] false
noncomputable def aYZ(N:Nat)(v:QV)(m:MH):Ctx:=dG [(132,ZD),(106,bbX N),(133,a8Q)] [] [(7,{A:=Sl×Sl×Sl×PH,st:=λ⟨a,r,b,h⟩=>bK 45 47 [(2,.at (.ptr 2 0)),(6,sv a),(7,sv r),(8,sv b)] [(2,.cells 38 (v.enc.map .val))] m h})] [] false
noncomputable def boJ:Ctx:=dG [(107,ZR),(106,bbZ)] [] [] [] false
noncomputable abbrev kK(a:Nat×Sl×Nat×dq×PH):Nat×dq×PH:=a.2.2
abbrev Hr(a:dl->dl->Prop):Prop:=∃(x c:dl),a x c
attribute [push_cast] kK Hr
def Rt(v:QV)(s t:Sl)(m:MH)(h:PH)(K:dk):Prop:=
  cH (v.op==2) (IH (λI x=>aA (I x) cA (aA (eL 31) (aG s) (aA (a7 s) (aY x.1) (aA (cG v) (kN 94 1 (pA x.2)) (bE (m=m) h h))))) s m h (λI B x y=>D3 (λz e p r=>aA (D4 v.where_ y=D4 z e) (eA h p z) (bI h e r/\branch (iD r p) (I7 x (λd=>aA (I d) (B d<B x) (aA cA (eL 31) (aA (aG s) (a7 s) (aA (aU (aW x.1 1) d.1) (cG v) (bG (I6 x y d) (m=m) (h=h))))))) (∃(d:Nat×dq),aA (I d) (B d<B x) (aA cA (eL 31) (aA (aG s) (a7 s) (aA (aU (aW x.1 1) d.1) (cG v) (bG (AW x d) (m=m) (h=h))))))))) (λx=>bU h 1 (j7 x.2) (λe f=>yG e f K m))) (v.op==3) (kQ (λe n=>∃(l:dl)(c:dm),aA (fN s v.columns=fN e n) (Rows h e l) (aA
 (Ints h n c) (∀(r:dn),List.Mem r l->lW r c) (aA (iC c) (tG l) (qP h (uR (List.map (fun(r:dn)=>pick r c) l)) K m))))) (cH (v.op==4) (I8 (λI x=>aA (I x) (aG t) (aA cA (eL 64) (aA (aG s) (a7 s) (aA (aY x.1) (cG v) (bG (kN 94 1 (uX x.2)) (m=m) (h=fI x)))))) (λI B x=>I x->aR (↑x.1:Int) (aH s) (cK s.a (↑x.1:Int) s (λb o y=>aK m (fI x) b (bC o x.1 1) (aM y)/\∃(I1:Nat×Sl×Nat×dq×PH->Prop)(G:Nat×Sl×Nat×dq×PH->Nat),(∃(d:Nat×Sl×Nat×dq×PH),aA (I1 d) (aG t) (aA cA (eL 64) (aA (bF y d.2.1) (aG s) (aA (a7 s) (bO x.1 (kK d).1) (aA (aG t) (a7 t) (aA (aY d.1) (cG v) (bG (uX x.2=uX (kK d).2) (m=m) (fI x=fI (kK d)))))))))
 /\∀(d:Nat×Sl×Nat×dq×PH),I1 d->aR (↑d.1:Int) (aH t) (cK t.a (↑d.1:Int) t (λL C A=>aK m (fI (kK d)) L (bC C d.1 1) (aM A)/\kQ (λJ e=>E9 (λn D=>NK (λa H=>∃(r:Bool),aA (fD v.on::fD d.2.1::dW A eW=fD J::fD e::dW n (zU r)) (lE (fI (kK d)) J D) (aA (bI (fI (kK d)) e a) (bI (fI (kK d)) n H) (aA (lW a (fZ D)) (lW H (fU D)) (branch (Bool.and (agree D a H) (Bool.or (!r) (kB (fZ D) a))) (pL (λu E=>aA (p9 d.2.1 u) (bI (fI (kK d)) u E) (rY E/\∃(F:List dj),aA (cT 3 F) (bN (fI (kK d)) (bD A) 3 F) (aA (kH (j6 E) F 32) (kC (j6 E) F) (bU (fI (kK d)) 3 (j6 E++F) (λM f=>aA
 (iS (pV (kK d))) (dH (pV (kK d))) (∃(j:Nat×Sl×Nat×dq×PH),aA (I1 j) (G j<G d) (aA (aG t) cA (aA (eL 64) (bF d.2.1 j.2.1) (aA (aG s) (a7 s) (aA (bO (kK d).1 (kK j).1) (aG t) (aA (a7 t) (aU (aW d.1 1) j.1) (aA (cG v) (uC (pV (kK d)) M (kK j).2) (aA (m=m) (f=fI (kK j)) True)))))))))))))) (∃(j:Nat×Sl×Nat×dq×PH),aA (I1 j) (G j<G d) (aA (aG t) cA (aA (eL 64) (bF d.2.1 j.2.1) (aA (aG s) (a7 s) (aA (bO (kK d).1 (kK j).1) (aG t) (aA (a7 t) (aU (aW d.1 1) j.1) (aA (cG v) (uX (kK d).2=uX (kK j).2) (aA (m=m) (fI (kK d)=fI (kK j)) True)))))))))))))))) (∃(j:Nat×dq×PH),aA (I j) (B j<B x) (aA (aG t)
 cA (aA (eL 64) (aG s) (aA (a7 s) (aU (aW (kK d).1 1) j.1) (Aa (cG v) (uX (kK d).2=uX j.2) (m=m) (fI (kK d)) (fI j)))))))) (bU (fI x) 1 (pV x) (λe f=>yG e f K m)))) (v.op==5) (kQ (λo e=>E9 (λn C=>Hr (λa b=>aA (fD v.on::dW s (fD t)=fD o::dW e (fD n)) (lE h o C) (aA (Rows h e a) (Rows h n b) (aA (sQ a (λx=>lW x (fZ C))) (sQ b (λy=>lW y (fU C))) (aA (tG a) (tG b) (jT (λu f=>dD h f (Rows f u (filter (fun(x:dn)=>List.any b (fun(y:dn)=>agree C x y)) a)) (yG u f K m)))))))))) (cH (v.op==6) (∃(y:List dj),aA (cT 1 y) (bN h (bD s) 1 y) (aA (wT y 24) (wU y) (∃(A:List dj),aA (cT 1 A) (bN
 h (bD t) 1 A) (aA (kH y A 24) (kC y A) (bU h 1 (y++A) (λe f=>yG e f K m)))))) (v.op==7) (kQ (λe n=>∃(i:Bool),Hr (λl k=>aA (fD s::dW t aX=fD e::dW n (zU i)) (Rows h e l) (aA (Rows h n k) (oK k) (tG l/\jT (λu f=>dD h f (Rows f u (filter (fun(x:dn)=>P6 k x==i) l)) (yG u f K m))))))) (cH (v.op==8) (kQ (λe n=>∃(i:Bool),Hr (λl k=>aA (fD s::dW t eW=fD e::dW n (zU i)) (Rows h e l) (aA (Rows h n k) (oK k) (tG l/\jT (λu f=>dD h f (Rows f u (filter (fun(x:dn)=>P6 k x==i) l)) (yG u f K m))))))) (v.op==9) (∃(z:QV),kQ (λe n=>Fa (λg o=>Hr (λa b=>aA (dE v::dW s (fD s)=dE z::dW e (fD n)) (Ints h
 z.group g) (aA (jU h z.order o) (Rows h e a) (aA (Rows h n b) (sQ a (λx=>lW x g)) (aA (sQ b (λy=>lW y g)) (tG a) (tG b/\jT (λu f=>dD h f (Rows f u (tL g o z.limit a b)) (yG u f K m)))))))))) (dJ v.op 10 (∃(z:QV),kQ (λe n=>Fa (λg o=>Hr (λa b=>aA (dE v::dW s (fD t)=dE z::dW e (fD n)) (Ints h z.group g) (aA (jU h z.order o) (Rows h e a) (aA (Rows h n b) (sQ a (λx=>lW x g)) (aA (sQ b (λy=>lW y g)) (tG a) (tG b/\jT (λu f=>dD h f (Rows f u (tL g o z.limit a b)) (yG u f K m)))))))))) (Fe (λe l=>aA (DZ nK=jZ e) (Rows h e l) (aA (tG l) (∀(r:dn),List.Mem r l->rY r) (qP h (uR l) K m))))))))
abbrev MB(a:Nat->QV->Sl->Query->oL->(List dl)->Prop):Prop:=∃(x:Nat)(c:QV),Bq (λd e=>∃(f:oL)(g:List dl),a x c d e f g)
attribute [push_cast] MB
def RA(N:Nat)(v:QV)(s:Sl)(m:MH)(h:PH)(K:dk):Prop:=
  dJ v.op 1 (cK s.a 0 s (λb o y=>aA (aK m h b (cZ o) (aM y)) (Fe (λn l=>aA (jZ y=jZ n) (Rows h n l) (aA (tG l) (∀(r:dn),List.Mem r l->rY r) (jT (λu d=>dD h d (Rows d u (uR l)) (aA (jB d b (cZ o) y) (cC 1) (aA (1<=aH s) (wP s) (∀(j:Sl),tA 1 (bD s) 1 j->K (CV.tup (fN u j)) m d)))))))) (aA (jB h b (cZ o) y) (cC 1) (aA (1<=aH s) (wP s) (∀(n:Sl),tA 1 (bD s) 1 n->Fe (λu l=>aA (jZ y=jZ u) (Rows h u l) (aA (tG l) (∀(r:dn),List.Mem r l->rY r) (jT (λj d=>dD h d (Rows d j (uR l)) (K (CV.tup (fN j n)) m d)))))))))) (MA v 0 (λb o y=>aK m h b (cZ o) y.enc/\MB (λc E n q u l=>∃(k:Nat),aA (jW y s=jW E n) (bR h q
 E) (aA (lX q N) (rI c u q) (aA (xY u (cE c) l k (eE q)) (Leaves h n (List.drop k l)) (∀(j:Sl),jT (λD d=>dD h d (Rows d j (eD l q k).1) (Leaves d D (List.drop (eD l q k).2 l)->∃(I:Sl×Sl×Sl×PH->Prop),eR (aH v.args) 1 (MA v 1 (λL M F=>aK m d L (M+21) F.enc/\MB (λG f A g B e=>∃(C:Nat),aA (jW F D=jW f A) (bR d g f) (aA (lX g N) (rI G B g) (aA (xY B (cE G) e C (eE g)) (Leaves d A (List.drop C e)) (∀(H:Sl),jT (λJ z=>dD d z (Rows z H (eD e g C).1) (Leaves z J (List.drop (eD e g C).2 e)->∃(x:Sl×Sl×Sl×PH),aA (I x) dX (aA (bF j x.1) (bF J x.2.1) (aA (bF H x.2.2.1) (cG v) (aA (m=m) (z=x.2.2.2) True))))))))))) (∃(x:Sl×Sl×Sl×PH),aA (I
 x) dX (aA (bF j x.1) (bF D x.2.1) (aA (sQn=YW x.2.2.1) (cG v) (aA (m=m) (d=x.2.2.2) True))))/\∀(x:Sl×Sl×Sl×PH),I x->∃(f:QV),kQ (λA t=>∃(g:Query)(e:List dl)(w:Nat),aA (dE v::dW x.1 (fD x.2.2.1)=dE f::dW A (fD t)) (bR x.2.2.2 g f) (aA (Rows x.2.2.2 A (Di e 0)) (Rows x.2.2.2 t (Di e 1)) (aA (2<=f.op) (f.op<=10) (aA (aCQ f.op g e) (jG w (Uf f.op g e)) ((f.op=6->(Di e 0).length+(Di e 1).length<=8000000)/\jT (λB z=>dD x.2.2.2 z (Rows z B (Uf f.op g e)) (K (CV.tup (fN B x.2.1)) m z)))))))))))))))
def UR(sl:Sl)(v:QV)(m:MH)(h:PH)(K:dk):Prop:=
  xO (λs g=>jD (λj q=>aA (bJ (lV sl) (dE v)=bJ (lV s) (dE j)) (CE h s g) (aA (bR h q j) (Gn q) ((∀(t:Int),List.Mem t (eE q)->cC t/\t<(↑g.length:Int))/\jT (λn d=>dD h d (Leaves d n (mM g q)) (MB (λc o u e y l=>∃(k:Nat),aA (jW v n=jW o u) (bR d e o) (aA (rI c y e) (xY y (cE c) l k (eE e)) (Leaves d u (List.drop k l)/\∀(z:Sl),jT (λA f=>dD d f (Rows f z (eD l e k).1) (Leaves f A (List.drop (eD l e k).2 l)->K (fD z) m f)))))))))))
theorem avZ{s:Sl}{r:dn}(c:bI h s r):bN h s 3 (r.map VV.enc):=by
 obtain⟨⟨d,f,g,j⟩,n⟩:=c
 have e:d=r:=ext_getElem? λi=>by
  grind
 grind
theorem ayX{α:Type}{s c:Sl}{l:List α}{R:α->Sl->Prop}(x:aZ h 1 eS R s l){n:Nat}(d:tA 1 ⟨s.a,s.len,s.cap⟩ n c)(o:n<=l.length):aZ h 1 eS R c (l.drop n):=by
 obtain⟨⟨f,g,j,u⟩,z⟩:=x;refine⟨⟨f.drop n,by rw[map_drop];exact bN.low g d cg,by simp[j],λi y e=>?_⟩,cg⟩
 grind
theorem ayZ{α β:Type}{enc:β->dj}{R:α->β->Prop}{s:Sl}{l:List α}(x:aZ h sz enc R s l):s.len<=s.cap:=by
 obtain⟨⟨d,c,_⟩,_⟩:=x;exact c.cap
theorem abJ{on:dp}{x y:dn}(h:agree on x y=true):kB (fU on) y=kB (fZ on) x:=by
 rw[A8]at h;unfold kB;rw[h]
theorem WA{on:dp}{b:dl}{x:dn}:jO on b x=(b.filter λy=>agree on x y&&kB (fZ on) x).map (x++ ·):=by
 unfold jO;by_cases h:kB (fZ on) x=true
 .rw[if_pos h];congr 1;refine filter_congr λy _=>?_;rw[h,Bool.and_true];by_cases e:agree on x y=true
  .rw[e,abJ e,h];rfl
  grind
 .have h:kB (fZ on) x=false:=cg
  rw[if_neg aC];rw[filter_eq_nil_iff.2 (λy _=>cg),map_nil]
theorem Ya:di 133 a8Q:=by
 refine gO func133 ?_;rintro d2 m h K ⟨v,s,t,q,l,w,rfl,hq,I,Z,o2,b9,o,H,h6,hK⟩;refine⟨aWJ v s t m h,rfl,aD XJ (aD XI (aD Ou (aD br (aD XH (aD XG (aD XF (aD Hy aF))))))),Rt v s t m h K,bu,?_⟩;dsimp only[Rt,push_cast];obtain⟨op,ta,pw,co,on,gr,od,li,args⟩:=q;have x:=hq.parts;have c':v.op=op:=x.op_;rw[c']at o2 b9 o H hK h6;have S:=aZ.slen I;have a5:=aZ.slen Z
 have fin:∀(A:Sl)(n:PH)(l1:dl),PH.le h n->Rows n A l1->uR l1=Uf op (.mk op ta pw co on gr od li args) l->l1.length<=8000000->(∀r∈l1,r.length<=1000)->∃(O:Sl)(T:dl),[cS A]=[cS O]/\Rows n O T/\T.length<=8000000/\(∀r∈T,r.length<=1000)/\∀(s':Sl)(D:PH),PH.le n D->Rows D s' (uR T)->K (cS s') m D:=
  λA n l1 le u e hl hw=>⟨A,l1,rfl,u,hl,hw,λs' D B a6=>hK s' D (le.trans B) cg⟩
 have d:∀(A:Sl)(n:PH),PH.le h n->Rows n A (Uf op (.mk op ta pw co on gr od li args) l)->∃(O:Sl)(T:dl),[cS A]=[cS O]/\Rows n O T/\T.length<=8000000/\(∀r∈T,r.length<=1000)/\∀(s':Sl)(D:PH),PH.le n D->Rows D s' (uR T)->K (cS s') m D:=
  λA n le u=>fin A n _ le u (JQ H.srt) H.len (λr u=>by have:=(H.row r u).len;omega)
 refine aB (λe=>?_) (λn2=>aB (λe=>?_) (λn3=>aB (λe=>?_) (λn4=>aB (λe=>?_) (λn5=>aB (λe=>?_) (λn6=>aB (λe=>?_) (λn7=>aB (λe=>?_) (λn8=>aB (λe=>?_) (λn9=>aB (λe=>?_) (λd3=>?_)))))))))
 .have e:op=2:=cg
  subst e;obtain⟨n,D⟩:=(o:Ex 1 _ l)
  obtain⟨w0,f⟩:=D _ (cr (Al n));generalize ha:l.getD 0 []=a at I S f;have hf:Uf 2 (.mk 2 ta pw co on gr od li args) l=a.filter λr=>iD r pw:=by rw[<-ha];rfl
  rw[hf]at d;refine⟨λz=>z.1<=a.length/\dT h z.2 ((a.take z.1).filter λr=>iD r pw),λz=>a.length-z.1,⟨(0,[]),⟨bx,cm (dT.nil h)⟩,MT⟩,?_⟩;rintro⟨i,U⟩ ⟨hi,J⟩;dsimp only at hi J;dsimp only;have a9:=J.len;have V:=length_filter_le (λr=>iD r pw) (a.take i);rw[length_take]at V;have c2:=f.len;refine aE (λP=>?_) (λc3=>?_)
  .obtain⟨r,E⟩:=eN S P;obtain⟨b1,o1,Q,e1,a3,W⟩:=aZ.at I E;have X:a.take (i+1)=a.take i++[r]:=by rw[db,E];rfl
   rw[fP aC];refine⟨b1,o1,e1,aC,P,Q,.imm a3,v.where_,Q,pw,r,rfl,x.where_,W,aB (λe=>?_) (λe=>?_)⟩
   .exact⟨cg,cg,(i+1,U++[Q]),⟨aC,by dsimp only;rw[X,filter_append,filter_cons_of_pos (by exact e),filter_nil];exact J.snoc W⟩,aC,by rw[cv];exact MT⟩
   .exact⟨(i+1,U),⟨aC,cg⟩,aC,MT⟩
  .rw[cu aC]at J
   exactλA n c F=>d A n c ((J.mono c).rows F cg)
 .have e:op=3:=cg
  subst e;obtain⟨n,d4,w0,f,hc⟩:=(o:J2 (.mk 3 ta pw co on gr od li args) l)
  exact⟨s,v.columns,_,co,rfl,I,x.columns_,λr u=>by rw[f.wid r u];exact hc,aC,f.len,hK⟩
 .have e:op=4:=cg
  subst e;obtain⟨⟨D,w0,w1,f,M,Y,c1⟩,R⟩:=(o:J3 (.mk 4 ta pw co on gr od li args) l)
  generalize ha:l.getD 0 []=a at I S f R;generalize hb:l.getD 1 []=b at Z a5 M R;have hf:Uf 4 (.mk 4 ta pw co on gr od li args) l=a.flatMap (jO on b):=by rw[<-ha, <-hb];rfl
  rw[hf]at d;have c2:=f.len;have d5:=M.len;refine⟨λz=>z.1<=a.length/\PH.le h z.2.2/\dT z.2.2 z.2.1 ((a.take z.1).flatMap (jO on b)),λz=>a.length-z.1,⟨(0,[],h),⟨bx,.refl _,cm (dT.nil h)⟩,MT⟩,?_⟩;rintro⟨i,U,g1⟩ ⟨hi,c,J⟩;dsimp only at hi c J;dsimp only;have a9:=J.len;have V:((a.take i).flatMap (jO on b)).length<=(a.take i).length*b.length:=vI λx _=>zG;have d0:(a.take i).length*b.length<=a.length*b.length:=Nat.mul_le_mul_right _ cg;refine aE (λP=>?_) (λc3=>?_)
  .obtain⟨r,E⟩:=eN S P;have b':=cr E;obtain⟨b1,o1,Q,e1,a3,W⟩:=aZ.at I E
   have X:(a.take (i+1)).flatMap (jO on b)=(a.take i).flatMap (jO on b)++jO on b r:=by
    rw[db,E,Option.toList_some,flatMap_append,flatMap_singleton]
   generalize c4:(a.take i).flatMap (jO on b)=b0 at J a9 V X;refine⟨b1,o1,e1,aC,P,Q,.imm (a3.mono c),λz=>z.1<=b.length/\∃C g,z.2=(Q,i,C,g)/\PH.le g1 g/\dT g C (b0++((b.take z.1).filter λy=>agree on r y&&kB (fZ on) r).map (r++ ·)),λz=>b.length-z.1,⟨(0,Q,i,U,g1),⟨bx,U,g1,rfl,.refl _,cg⟩,MT⟩,?_⟩;rintro⟨j,z⟩ ⟨hj,C,g,e,B,G⟩;dsimp only at hj e G;subst e;dsimp only;have b3:=G.len;rw[ct,length_map]at b3;have b4:=length_filter_le (λy=>agree on r y&&kB (fZ on) r) (b.take j);rw[length_take]at b4;refine aE (λa'=>?_) (λd1=>?_)
   .obtain⟨y,hy⟩:=eN a5 a';have b5:=cr hy;obtain⟨b2,c5,uy,e2,c6,c7⟩:=aZ.at Z hy;have L:=c.trans B;have a0:=bI.mono W L;have a1:=bI.mono c7 L;have lx:=(f.row r b').len;have ly:=(M.row y b5).len;have b6:b.take (j+1)=b.take j++[y]:=by rw[db,hy];rfl
    have mu:b.length-(j+1)<b.length-j:=by omega
    rw[fP aC];refine⟨b2,c5,e2,aC,a',uy,.imm (c6.mono L),v.on,Q,uy,on,r,y,true,rfl,x.on_.mono L,a0,a1,by rw[f.wid r b'];exact Y,by rw[M.wid y b5];exact c1,aB (λe=>?_) (λe=>?_)⟩
    .have e:(agree on r y&&kB (fZ on) r)=true:=e;refine⟨Q,r,rfl,a0,aC,y.map VV.enc,Bf y,avZ a1,cg,cg,λs3 g3 b7 F=>⟨cg,cg,(j+1,Q,i,C++[s3],g3),⟨aC,C++[s3],g3,rfl,B.trans b7,?_⟩,mu,by rw[cv];exact MT⟩⟩;dsimp only;rw[b6,filter_append,filter_cons_of_pos (by exact e),filter_nil,cv,map_singleton, <-append_assoc];exact(G.mono b7).snoc (Py cg cg)
    .have e:(agree on r y&&kB (fZ on) r)=false:=e;exact⟨(j+1,Q,i,C,g),⟨aC,C,g,rfl,B,cg⟩,mu,MT⟩
   .rw[cu aC, <-WA, <-X]at G;rw[fP aC];exact⟨(i+1,C,g),⟨aC,c.trans B,G⟩,aC,MT⟩
  .rw[cu aC]at J V
   exactλA n B F=>d A n (c.trans B) ((J.mono B).rows F aC)
 .have e:op=5:=cg
  subst e;obtain⟨D,w0,w1,f,M,Y,c1⟩:=(o:bLJ on l)
  exact⟨v.on,s,t,on,_,_,rfl,x.on_,I,Z,λx E=>by rw[f.wid x E];exact Y,λy hy=>by rw[M.wid y hy];exact c1,f.len,M.len,d⟩
 .have e:op=6:=cg
  subst e;obtain⟨D,a2⟩:=(o:Ex 2 _ l)
  obtain⟨w0,f⟩:=a2 _ (cr (Al (show 0<l.length by omega)));obtain⟨w1,M⟩:=a2 _ (cr (Al (show 1<l.length by omega)));have h6:=h6 rfl;obtain⟨⟨U,u,c8,c9⟩,hn⟩:=I;obtain⟨⟨a4,a6,d',b8⟩,d6⟩:=Z;have J:dT h U (l.getD 0 []):=⟨c8.symm,c9⟩
  have G:dT h a4 (l.getD 1 []):=⟨d'.symm,b8⟩
  refine⟨U.map eS,qF U,u,cg,cg,a4.map eS,qF a4,a6,cg,cg,λA n c F=>?_⟩;rw[<-cv]at F
  exact fin A n _ c (((J.app G).mono c).rows F cg) rfl cg λr u=>by
   rcases mem_append.1 u with u|u
   .have:=(f.row r u).len;omega
   .have:=(M.row r u).len;omega
 .have e:op=7:=cg
  subst e;obtain⟨D,w0,f⟩:=(o:zY (.mk 7 ta pw co on gr od li args) l)
  have ra:=f _ (cr (Al (show 0<l.length by omega)));have rb:=f _ (cr (Al (show 1<l.length by omega)));exact⟨s,t,false,_,_,rfl,I,Z,rb.srt,ra.len,d⟩
 .have e:op=8:=cg
  subst e;obtain⟨D,w0,f⟩:=(o:zY (.mk 8 ta pw co on gr od li args) l)
  have ra:=f _ (cr (Al (show 0<l.length by omega)));have rb:=f _ (cr (Al (show 1<l.length by omega)));exact⟨s,t,true,_,_,rfl,I,Z,rb.srt,ra.len,d⟩
 .have e:op=9:=cg
  subst e;obtain⟨n,⟨w0,f,Y⟩,_⟩:=(o:J1 (.mk 9 ta pw co on gr od li args) l)
  refine⟨v,s,s,gr,od,_,_,rfl,x.group_,x.order_,I,I,λx E=>by rw[f.wid x E];exact Y,λx E=>by rw[f.wid x E];exact Y,f.len,f.len,λA n c u=>d A n c ?_⟩;rw[x.limit_]at u;exact u
 .have e:op=10:=cg
  subst e;obtain⟨n,w0,f,M,Y⟩:=(o:CL (.mk 10 ta pw co on gr od li args) l)
  refine⟨v,s,t,gr,od,_,_,rfl,x.group_,x.order_,I,Z,λx E=>by rw[f.wid x E];exact Y,λx E=>by rw[M.wid x E];exact Y,f.len,M.len,λA n c u=>d A n c ?_⟩;rw[x.limit_]at u;exact u
 grind
theorem Vx:∀N,di 106 (bbX N)
 |0=>by
  refine eC (fn:=Tryz.f106) (c:=cL Tryz.f106) func106 rfl bz ?_;rintro a' m h K ⟨cN,v,s,q,sc,ls,k,rfl,_,hN,_⟩;omega
 |N+1=>by
  refine gO func106 ?_;rintro a' m h K ⟨cN,v,s,q,sc,ls,k,rfl,hq,hN,g,D,V,F⟩;refine⟨aYZ N v m,rfl,aD Hy (aD (Vx N) (aD Ya aF)),RA N v s m h K,bu,?_⟩;dsimp only[RA,push_cast];have f:=@tQ q;obtain⟨op,ta,pw,co,on,gr,od,li,args⟩:=q;have x:=hq.parts;have I:v.op=op:=x.op_;have E:=Fw aC g.k D g.bnd;have a4:=aZ.slen x.args_;have d:∀{Y Z:PH}{u:Sl}{l:List dl},PH.le Y Z->Leaves Y u l->Leaves Z u l:=λle C=>aZ.mono C le λl s y=>aZ.mono y le λr t hv=>bI.mono hv le;have J:∀{Y Z:PH}{u:Sl}{l:dl},PH.le Y Z->Rows Y u l->Rows Z u l:=λle C=>aZ.mono C le λr t hv=>bI.mono hv le;rcases g.cases with⟨rfl,rfl⟩|⟨a,rfl,L,hc⟩|⟨a,b,rfl,L,gb,hc⟩
  .have es:eE (.mk 1 ta pw co on gr od li [])=[ta]:=by simp[eE,dV]
   rw[es]at D;obtain⟨l,e1,r1,_⟩:=D.at_ 0 ta rfl;rw[Nat.add_zero]at e1;have a5:=(cn e1);have ed:(ls.drop k)[0]? =some l:=cg
   obtain⟨b,o,u,ea,rd,C⟩:=aZ.at V ed;have a0:=aZ.slen V;rw[length_drop]at a0;have rd:bB h b (o+0) (eS u):=by omega
   have G:=ayZ V;have wl:∀r∈l,r.length<=1000:=λr y=>by have:=(r1.row r y).len;omega
   have ev:eD ls (.mk 1 ta pw co on gr od li []) k=(l,k+1):=by rw[eD,if_pos rfl,getD_eq_getElem?_getD,e1];rfl
   rw[ev]at F
   have low:∀n,tA 1 ⟨s.a,s.len,s.cap⟩ 1 n->Leaves h n (ls.drop (k+1)):=λn l2=>by
    have:=ayX V l2 cg;rw[drop_drop]at this;exact this
   refine aB (λ_=>?_) (λe=>by rw[I]at e;simp at e);refine⟨b,o,ea,aC,aC,u,.imm rd,⟨u,l,rfl,C,r1.len,wl,λM h' le y=>⟨rd.mono le,aC,aC,G,λn l2=>F M n h' le (by rw[JQ r1.srt]at y;exact y) (d le (low n l2))⟩⟩,rd,aC,aC,G,λn l2=>⟨u,l,rfl,C,r1.len,wl,λM h' le y=>F M n h' le (by rw[JQ r1.srt]at y;exact y) (d le (low n l2))⟩⟩
  .have O:op≠1:=by omega
   have A:=PK (ta:=ta) (w:=pw) (co:=co) (on:=on) (gr:=gr) (od:=od) (li:=li) (a:=a) O;rw[A]at D;have nx:(eD ls (.mk op ta pw co on gr od li [a]) k).2=(eD ls a k).2:=by rw[Cf _ k g,Cf _ k L,A]
   have eo:=E.ok;rw[Wo,if_neg O,eG,eG]at eo;have er:=E.rel;rw[bRQ O]at F er;rw[nx]at F;obtain⟨b1,o1,u,ea,rd,C⟩:=aZ.at x.args_ (i:=0) rfl;have:=f (q:=a) (by simp[Query.args]);refine aB (λe=>cg) (λ_=>⟨b1,o1,ea,aC,cg,u,.imm aC,cN,u,s,a,sc,ls,k,rfl,C,aC,L,D,V,λs1 n h1 j P Q=>⟨λz=>z=(s1,n,cJ,h1),aE (λe=>absurd e cg) (λ_=>⟨_,rfl,MT⟩),?_⟩⟩);rintro _ rfl;dsimp only;refine⟨v,s1,cJ,_,[(eD ls a k).1],_,rfl,hq.mono j,P,aZ.nil _ _ _ _,aC,aC,cg,by rw[I];exact er,λe=>by omega,λM h' le y=>F M n h' (j.trans le) cg (d le Q)⟩
  .have O:op≠1:=by omega
   have A:=PJ (ta:=ta) (w:=pw) (co:=co) (on:=on) (gr:=gr) (od:=od) (li:=li) (a:=a) (b:=b) O;rw[A]at D;have na:=Cf (ls:=ls) a k L;have R:=D.right;rw[<-na]at R;have nx:(eD ls (.mk op ta pw co on gr od li [a,b]) k).2=(eD ls b (eD ls a k).2).2:=by rw[Cf _ k g,Cf _ _ gb,na,A,ct,Nat.add_assoc]
   have eo:=E.ok;rw[Wo,if_neg O,eG,eG,eG]at eo;have er:=E.rel;rw[bQJ O]at F er;rw[nx]at F;have Ea:=Fw aC L.k D.left L.bnd;have Eb:=Fw aC gb.k R gb.bnd;have H:=g.bnd;obtain⟨b1,o1,u,ea,rd,C⟩:=aZ.at x.args_ (i:=0) rfl;obtain⟨b2,o2,u2,a1,a2,a3⟩:=aZ.at x.args_ (i:=1) rfl;have:=f (q:=a) (by simp[Query.args]);have:=f (q:=b) (by simp[Query.args]);refine aB (λe=>cg) (λ_=>⟨b1,o1,ea,aC,cg,u,.imm aC,cN,u,s,a,sc,ls,k,rfl,C,aC,L,D.left,V,λs1 n h1 j P Q=>⟨λz=>∃W X S,z=(s1,X,W,S)/\PH.le h1 S/\Rows S W (eD ls b (eD ls a k).2).1/\Leaves S X (ls.drop (eD ls b (eD ls a k).2).2),aE (λ_=>⟨b2,o2,a1,aC,aC,u2,.imm (cm (a2.mono j)),cN,u2,n,b,sc,ls,_,rfl,a3.mono j,aC,gb,R,Q,λW X S B T U=>⟨_,⟨W,X,S,rfl,B,T,U⟩,MT⟩⟩) (λe=>absurd cg e),?_⟩⟩);rintro _ ⟨W,X,S,rfl,B,T,U⟩;dsimp only;refine⟨v,s1,W,_,[(eD ls a k).1,(eD ls b (eD ls a k).2).1],_,rfl,hq.mono (j.trans B),J B P,T,aC,aC,cg,by rw[I];exact er,λe=>?_,λM h' le y=>F M X h' (j.trans (B.trans le)) cg (d le U)⟩;have e:op=6:=by omega
   subst e;have h1:=Ea.bnd;have h2:=Eb.bnd;simp only[mI,xC]at H;rw[if_neg bz,if_neg bz]at H;show(eD ls a k).1.length+(eD ls b (eD ls a k).2).1.length<=8000000;omega
theorem Yh:di 106 bbZ:=jE Vx λ_ _ _ _⟨cN,v,s,q,sc,c,k,e,d,f,g,j,n⟩=>⟨SizeOf.sizeOf q+1,cN,v,s,q,sc,c,k,e,d,aC,f,g,j,n⟩
theorem ajQ:di 62 ZX:=by
 refine gO func62 ?_;rintro C m h K ⟨cN,u,v,y,q,sc,rfl,c,z,g,D,n,A,E⟩;refine⟨boJ,rfl,aD Yg (aD Yh aF),UR u v m h K,bu,?_⟩;dsimp only[UR,push_cast];obtain⟨_,F,_,_⟩:=Nf n;have d:=H4 g.k;have B:=axQ n c.val A aC (Prod.ext rfl g.kinds:bZ sc [] q=((bZ sc [] q).1,0)) g.bnd;refine⟨u,y,v,q,rfl,c,z,D,λt f=>by have:=d t f;omega,λG h' le H=>⟨cN,v,G,q,sc,mM y q,0,rfl,z.mono le,g,⟨λj t e=>?_⟩,H,λI L J o M _=>E I J (le.trans o) cg⟩⟩;have f:=d t (cr e);have:=awZ n c.val f.1 f.2;exact⟨_,by rw[Nat.zero_add];exact Wv e,this.1,A _ this.2⟩
def bZZ:Vc.Spec:=λc m h K=>∃e d,c=[VT e]/\Leaves h e d/\∀b:Bool,(b=true->d.length<=8/\∀l∈d,l.length<=6)->K (cB b) m h
mutual
def Cc:Query->Nat
 |.mk op _ _ _ _ _ _ _ args=>(if op=4 then 1 else 0)+Ah args
def Ah:dt->Nat
 |[]=>0
 |q::qs=>Cc q+Ah qs
end
def baX(N:Nat):Vc.Spec:=λc m h K=>∃(v:QV)(q:Query)(n:Nat),c=[aQ v,cI n]/\bR h q v/\SizeOf.sizeOf q<N/\n<=2/\K (cI ((min 3 (n+Cc q):Nat):Int)) m h
def baZ:Vc.Spec:=λc m h K=>∃(v:QV)(q:Query)(n:Nat),c=[aQ v,cI n]/\bR h q v/\n<=2/\K (cI ((min 3 (n+Cc q):Nat):Int)) m h
def a9X:Vc.Spec:=λc m h K=>∃(v:QV)(q:Query),c=[aQ v]/\bR h q v/\K (cB (decide (Cc q<=2))) m h
noncomputable def bwQ(sl:Sl)(m:MH)(h:PH):Ctx:=dG [] [(4,{A:=Nat,st:=λi=>bK 20 21 [(1,.at (.ptr 1 0)),(10,sv sl),(11,iv sl.len),(12,iv i)] [(1,.cells 25 [.val (.slice sl.a sl.len sl.cap)])] m h})] [] [] false
noncomputable def f56_ctx(N:Nat)(v:QV)(m:MH)(h:PH):Ctx:=dG [(56,baX N)] [(4,{A:=Nat×Nat,st:=λ⟨n,i⟩=>bK 30 32 [(1,iv n),(2,.at (.ptr 2 0)),(5,iv i)] [(2,.cells 38 (v.enc.map .val))] m h})] [] [] false
def Vl(sl:Sl)(m:MH)(h:PH)(K:dk):Prop:=
  eR (aH sl) 8 (K aX m h) (kX (λI x=>aA (I x) eY (aA (aG sl) (a7 sl) (aA (aY x) (oC sl) (aA (m=m) (h=h) True)))) (λI d x=>I x->aR (↑x:Int) (aH sl) (cK sl.a (↑x:Int) sl (λb o y=>aK m h b (bC o x 1) (aM y)/\eR (aH y) 6 (K aX m h) (∃(c:Nat),aA (I c) (d c<d x) (aA eY (aG sl) (aA (a7 sl) (aU (aW x 1) c) (aA (oC sl) (m=m) (bH h h))))))) (K eW m h)))
def az(N:Nat)(v:QV)(n:Nat)(m:MH)(h:PH)(K:dk):Prop:=
  dJ v.op 4 (Gj (λI x=>aA (I x) (aU (aW n 1) x.1) (aA dX (aY x.2) (bG (cG v) (m=m) (h=h)))) (λI e x=>I x->aR (↑x.2:Int) (aH v.args) (Cs (↑x.1:Int) 2 (bT (λb o=>aA (bX v.args.a b o) (0<=(↑x.2:Int)) ((↑x.2:Int)<aH v.args/\∃(y:QV),aK m h b (bC o x.2 21) y.enc/\jD (λf q=>∃(d:Nat),aA (mF (dE y) x.1=mF (dE f) d) (bR h q f) (aA (lX q N) (d<=2) (∃(c:Nat×Nat),aA (I c) (e c<e x) (aA (bO (Min.min 3 (d+Cc q)) c.1) dX (aA (aU (aW x.2 1) c.2) (cG v) (aA (m=m) (h=h) True))))))))) (K (fQ (↑x.1:Int)) m h)) (K (fQ (↑x.1:Int)) m h))) (Gj (λI x=>aA (I x) (bO n x.1) (aA dX (aY x.2) (bG (cG v) (m=m) (h=h)))) (λI e x=>I x->aR (↑x.2:Int) (aH v.args) (Cs
 (↑x.1:Int) 2 (bT (λb o=>aA (bX v.args.a b o) (0<=(↑x.2:Int)) ((↑x.2:Int)<aH v.args/\∃(y:QV),aK m h b (bC o x.2 21) y.enc/\jD (λf q=>∃(d:Nat),aA (mF (dE y) x.1=mF (dE f) d) (bR h q f) (aA (lX q N) (d<=2) (∃(c:Nat×Nat),aA (I c) (e c<e x) (aA (bO (Min.min 3 (d+Cc q)) c.1) dX (aA (aU (aW x.2 1) c.2) (cG v) (aA (m=m) (h=h) True))))))))) (K (fQ (↑x.1:Int)) m h)) (K (fQ (↑x.1:Int)) m h)))
def Vi(v:QV)(m:MH)(h:PH)(K:dk):Prop:=
  jD (λc q=>∃(n:Nat),aA (bA (dE v) 0=mF (dE c) n) (bR h q c) (n<=2/\K (CV.val (Value.bool (decide ((↑(Min.min 3 (n+Cc q)):Int)<=2)))) m h))
theorem N1:∀(l:dt)(i:Nat),Ah (l.take i)<=Ah l
 |[],i=>bx
 |q::l,0=>by simp[Ah]
 |q::l,i+1=>by
  have:=N1 l i;simp only[take_succ_cons,Ah];omega
theorem Y9:∀(l:dt)(q:Query),Ah (l++[q])=Ah l+Cc q
 |[],q=>by simp[Ah]
 |p::l,q=>by rw[cons_append,Ah,Y9 l q,Ah];omega
theorem Us{l:dt}{a:Query}(h:l[i]? =some a):Ah (l.take (i+1))=Ah (l.take i)+Cc a:=by
 rw[db,h];exact Y9 _ _
theorem aqX:di 16 bZZ:=by
 refine gO func16 ?_;rintro B m h K ⟨z,d,rfl,A,g⟩;refine⟨bwQ z m h,rfl,aF,Vl z m h K,bu,?_⟩;dsimp only[Vl,push_cast];have j:=aZ.slen A;refine aE (λ_=>g false (λe=>by cases e)) (λH=>⟨λi=>i<=d.length/\∀l∈d.take i,l.length<=6,λi=>d.length-i,⟨0,⟨aC,bx⟩,MT⟩,?_⟩);rintro i ⟨I,c⟩;refine aE (λn=>?_) (λC=>g true λ_=>⟨aC,by rw[cu aC]at c;exact c⟩);obtain⟨l,y⟩:=eN j n;obtain⟨b,o,u,D,rd,E⟩:=aZ.at A y;have F:=aZ.slen E;refine⟨b,o,D,aC,aC,u,.imm rd,aE (λ_=>g false (λe=>by cases e)) (λJ=>⟨i+1,⟨by have:=(cn y);omega,λG f=>?_⟩,cj,?_⟩)⟩
 .rw[db,y]at f;rcases mem_append.1 f with h|h
  .exact c G h
  .simp at h;subst h;omega
 .rw[fP aC];exact MT
theorem f56_all:∀N,di 56 (baX N)
 |0=>by
  refine eC (fn:=Tryz.f56) (c:=cL Tryz.f56) func56 rfl bz ?_;rintro F m h K ⟨v,q,n,rfl,_,P,_⟩;omega
 |N+1=>by
  refine gO func56 ?_;rintro F m h K ⟨v,q,n,rfl,Q,P,M,g⟩;refine⟨f56_ctx N v m h,rfl,aD (f56_all N) aF,az N v n m h K,bu,?_⟩;dsimp only[az,push_cast];have f:=@tQ q;obtain⟨op,ta,w,co,on,gr,od,li,args⟩:=q;have x:=Q.parts;have C:v.op=op:=x.op_;have D:=aZ.slen x.args_;have O:=aZ.len x.args_;refine aB (λe=>?_) (λe=>?_)
  .have E:Cc (.mk op ta w co on gr od li args)=1+Ah args:=by
    rw[C]at e;rw[Cc,if_pos (cm e)]
   rw[fP aC];obtain⟨d,y,R⟩:∃d,n+1=d/\d<=3:=⟨_,rfl,aC⟩
   rw[y];rw[E, <-Nat.add_assoc,y]at g;clear E y M;refine⟨λz=>z.2<=args.length/\z.1=min 3 (d+Ah (args.take z.2)),λz=>args.length-z.2,⟨(d,0),⟨bx,by simp[Ah];omega⟩,MT⟩,?_⟩;rintro⟨k,i⟩ ⟨G,A⟩;dsimp only at G A⊢
   refine aE (λB=>aE (λH=>?_) (λH=>?_)) (λI=>?_)
   .obtain⟨a,j⟩:=eN D B;obtain⟨b,o,u,J,rd,L⟩:=aZ.at x.args_ j;have:=f (q:=a) (cr j);refine⟨b,o,J,aC,aC,u,.imm rd,u,a,k,rfl,L,aC,aC,(min 3 (k+Cc a),i+1),⟨by have:=(cn j);show i+1<=args.length;omega,?_⟩,cj,?_⟩
    .show min 3 (k+Cc a)=min 3 (d+Ah (args.take (i+1)));rw[Us j];omega
    .rw[fP aC];exact MT
   .have:=N1 args i;rw[show min 3 (d+Ah args)=k by omega]at g;exact g
   .rw[cu aC]at A;rw[<-A]at g;exact g
  .have E:Cc (.mk op ta w co on gr od li args)=Ah args:=by
    rw[C]at e;rw[Cc,if_neg (cm e)];omega
   obtain⟨d,y,R⟩:∃d,n=d/\d<=3:=⟨_,rfl,aC⟩
   rw[y];rw[E,y]at g;clear E y M;refine⟨λz=>z.2<=args.length/\z.1=min 3 (d+Ah (args.take z.2)),λz=>args.length-z.2,⟨(d,0),⟨bx,by simp[Ah];omega⟩,MT⟩,?_⟩;rintro⟨k,i⟩ ⟨G,A⟩;dsimp only at G A⊢
   refine aE (λB=>aE (λH=>?_) (λH=>?_)) (λI=>?_)
   .obtain⟨a,j⟩:=eN D B;obtain⟨b,o,u,J,rd,L⟩:=aZ.at x.args_ j;have:=f (q:=a) (cr j);refine⟨b,o,J,aC,aC,u,.imm rd,u,a,k,rfl,L,aC,aC,(min 3 (k+Cc a),i+1),⟨by have:=(cn j);show i+1<=args.length;omega,?_⟩,cj,?_⟩
    .show min 3 (k+Cc a)=min 3 (d+Ah (args.take (i+1)));rw[Us j];omega
    .rw[fP aC];exact MT
   .have:=N1 args i;rw[show min 3 (d+Ah args)=k by omega]at g;exact g
   .rw[cu aC]at A;rw[<-A]at g;exact g
theorem bt:di 56 baZ:=jE f56_all λ_ _ _ _⟨v,q,n,e,c,d,f⟩=>⟨SizeOf.sizeOf q+1,v,q,n,e,c,aC,d,f⟩
theorem apX:di 17 a9X:=by
 refine gO func17 ?_;rintro c m h K ⟨v,q,rfl,d,f⟩;refine⟨dG [(56,baZ)] [] [] [] false,rfl,aD bt aF,Vi v m h K,bu,?_⟩;dsimp only[Vi,push_cast];refine⟨v,q,0,rfl,d,aC,?_⟩
 have e:decide (((min 3 (0+Cc q):Nat):Int)<=2)=decide (Cc q<=2):=by
  simp only[decide_eq_decide];omega
 rw[e];exact f
def bGX:Vc.Spec:=λc m h K=>∃v s t d r,c=[aS v,cI t,cS d,cI 3]/\iP h s v/\bI h d r/\tJ s t=true/\K (cB (SK s t r)) m h
def ZA:Vc.Spec:=λc m h K=>∃v s e d,c=[aS v,cI 3,VT e]/\iP h s v/\Leaves h e d/\d.length<=1000/\K (cI (mY s d)) m h
noncomputable def aYJ(t:Int)(v:bW)(s:Sl)(m:MH)(h:PH):Ctx:=dG [(180,Lc)] [(4,{A:=Nat,st:=λi=>bK 102 106 [(1,iv t),(3,iv 3),(4,.at (.ptr 4 0)),(40,sv s),(41,iv s.len),(42,iv i)] [(4,.cells 43 (v.enc.map .val))] m h})] [] [] false
noncomputable def bpQ(v:bW)(s:Sl)(m:MH):Ctx:=dG [(86,Ba),(105,bGX),(48,ZW),(65,C4)]
 [(8,{A:=Nat×Int×PH,st:=λ⟨i,n,h⟩=>bK 91 94 [(1,iv 3),(3,.at (.ptr 3 0)),(5,.at (.ptr 5 0)),(8,iv n),(27,sv s),(28,iv s.len),(29,iv i)] [(3,.cells 43 (v.enc.map .val)),(5,.cells 25 [.val (.slice s.a s.len s.cap)])] m h}),
  (17,{A:=Nat×PH,st:=λ⟨i,h⟩=>bK 91 94 [(1,iv 3),(3,.at (.ptr 3 0)),(51,sv s),(52,iv s.len),(53,iv i)] [(3,.cells 43 (v.enc.map .val))] m h}),
  (20,{A:=Nat×Sl×Nat×PH,st:=λ⟨j,u,i,h⟩=>bK 91 94 [(1,iv 3),(3,.at (.ptr 3 0)),(11,iv i),(12,sv u),(51,sv s),(52,iv s.len),(53,iv i),(58,sv u),(59,iv u.len),(60,iv j)] [(3,.cells 43 (v.enc.map .val))] m h})] [] [] false
def KX(v:bW)(t:Int)(s:Sl)(m:MH)(h:PH)(K:dk):Prop:=
  aR t 0 (K aX m h) (fY t (iV v) (K aX m h) (cK (lN v) t v.tables (λb o y=>aK m h b (cE (cF o t 5)) (aM y)/\fW (aH s) (aH y) (K aX m h) (kX (λI x=>aA (I x) (jR t) (aA i6 eV (aA (aG s) (a7 s) (aA (aY x) (bM v) (bE (m=m) h h))))) (λI d x=>I x->aR (↑x:Int) (aH s) (bT (λu z=>aA (bX s.a u z) (0<=(↑x:Int)) ((↑x:Int)<aH s/\∃(e:VV),aK m h u (bC z x 3) e.enc/\∃(A:VV),iX (uJ e A) (!(jP A)) (K aX m h) (cK (lN v) t v.tables (λD E g=>aK m h D (cE (cF E t 5)) (aM g)/\eU g.a 0 (↑x:Int) g (λF G B=>aK m h F (cE (bC G x 2)) (cO B)/\cH (e.kind==B) (∃(c:Nat),aA (I c) (d c<d x) (aA (jR t) i6 (aA eV (aG s) (aA
 (a7 s) (aU (aW x 1) c) (bG (bM v) (m=m) (h=h)))))) (e.kind==2) (eU (lN v) 0 t v.tables (λj n f=>aK m h j (cF n t 5+2) (cO f)/\cH (decide ((↑x:Int)>=f)) (∃(c:Nat),aA (I c) (d c<d x) (aA (jR t) i6 (aA eV (aG s) (aA (a7 s) (aU (aW x 1) c) (bG (bM v) (m=m) (h=h)))))) (e.kind==1) (eU (lN v) 0 t v.tables (λH J C=>aK m h H (cF J t 5+2) (cO C)/\fY (↑x:Int) C (∃(c:Nat),aA (I c) (d c<d x) (aA (jR t) i6 (aA eV (aG s) (aA (a7 s) (aU (aW x 1) c) (bG (bM v) (m=m) (h=h)))))) (K aX m h))) (K aX m h))) (dJ e.kind 1 (eU (lN v) 0 t v.tables (λj n f=>aK m h j (cF n t 5+2) (cO f)/\fY (↑x:Int) f (∃(c:Nat),aA (I c) (d c<d x) (aA
 (jR t) i6 (aA eV (aG s) (aA (a7 s) (aU (aW x 1) c) (bG (bM v) (m=m) (h=h)))))) (K aX m h))) (K aX m h)))))))) (K eW m h))))))
noncomputable abbrev p8(a:Nat×Sl×Nat×PH):Nat:=a.2.2.1
noncomputable abbrev nQ(a:Nat×Sl×Nat×PH):Sl:=a.2.1
noncomputable abbrev uM(a:Nat×Sl×Nat×PH):Nat->Nat->Option Value:=a.2.2.2
noncomputable abbrev Ja(a:Nat×Sl×Nat×PH):Int:=iJ ((↑a.1:Int)-1)
attribute [push_cast] p8 nQ uM Ja
def Of(v:bW)(s:Sl)(m:MH)(h:PH)(K:dk):Prop:=
  IJ v h (λf=>K (fQ (fA f)) m h) (∃(I:Nat×Int×PH->Prop)(B:Nat×Int×PH->Nat),(∃(x:Nat×Int×PH),aA (I x) i6 (aA cA dC (aA (dQ 0 x.2.1) (aG s) (aA (a7 s) (aY x.1) (aA (bM v) (oC s) (aA (m=m) (h=x.2.2) True))))))/\∀(x:Nat×Int×PH),I x->aR (↑x.1:Int) (aH s) (cK s.a (↑x.1:Int) s (λb o y=>aK m x.2.2 b (bC o x.1 1) (aM y)/\eR (aH y) (iJ (512-x.2.1)) (K (fQ 2) m x.2.2) (∃(e:Nat×Int×PH),aA (I e) (B e<B x) (aA i6 cA (aA dC (dQ (iJ (x.2.1+aH y)) e.2.1) (aA (aG s) (a7 s) (aA (aU (aW x.1 1) e.1) (bM v) (aA (oC s) (m=m) (bH x.2.2 e.2.2))))))))) (fW (aH s) (iV v) (K (fQ 80) m x.2.2) (MC (λI1 e=>aA (I1 e) i6 (aA cA (aG s) (aA (a7 s)
 (aY e.1) (aA (bM v) (m=m) (bH x.2.2 e.2))))) (λI1 C e=>I1 e->aR (↑e.1:Int) (aH s) (cK s.a (↑e.1:Int) s (λb o y=>aK m e.2 b (bC o e.1 1) (aM y)/\∃(I2:Nat×Sl×Nat×PH->Prop)(j:Nat×Sl×Nat×PH->Nat),(∃(c:Nat×Sl×Nat×PH),aA (I2 c) i6 (aA cA (bO e.1 (p8 c)) (aA (bF y (nQ c)) (aG s) (aA (a7 s) (bO e.1 (p8 c)) (aA (bF y (nQ c)) (dA y (nQ c)) (aA (aY c.1) (bM v) (bE (m=m) e.2 (uM c))))))))/\∀(c:Nat×Sl×Nat×PH),I2 c->aR (↑c.1:Int) (aH (nQ c)) (cK (nQ c).a (↑c.1:Int) (nQ c) (λL M u=>aK m (uM c) L (bC M c.1 1) (aM u)/\Ae (λD f t=>pL (λE r=>aA (cV v::fQ (↑(p8 c):Int)::bA (fD u) 3=cV D::fQ t
 ::bA (fD E) 3) (iP (uM c) f D) (aA (bI (uM c) E r) (gG (tJ f t)) (cH (!(SK f t r)) (K (fQ 80) m (uM c)) (decide ((↑c.1:Int)>0)) (cK (nQ c).a (Ja c) (nQ c) (λz A n=>aK m (uM c) z (cF A (Ja c) 1) (aM n)/\II v (p8 c) n (uM c) (λO F=>jB F z (cF A (Ja c) 1) n/\II v (p8 c) u F (λP g=>jB g z (cF A (Ja c) 1) n/\∃(G:Sl),pL (λH a=>∃(J:dn),aA (fN O P=fN G H) (bI g G a) (bI g H J/\fY (eJ a J) 0 (K (fQ 80) m g) (∃(d:Nat×Sl×Nat×PH),aA (I2 d) (j d<j c) (aA i6 cA (aA (bO (p8 c) (p8 d)) (bF (nQ c) (nQ d)) (aA (aG s) (a7 s) (aA (bO (p8 c) (p8 d)) (bF (nQ c) (nQ
 d)) (aA (dA (nQ c) (nQ d)) (aU (aW c.1 1) d.1) (bG (bM v) (m=m) (g=uM d)))))))))))))) (∃(d:Nat×Sl×Nat×PH),aA (I2 d) (j d<j c) (aA i6 cA (aA (bO (p8 c) (p8 d)) (bF (nQ c) (nQ d)) (aA (aG s) (a7 s) (aA (bO (p8 c) (p8 d)) (bF (nQ c) (nQ d)) (aA (dA (nQ c) (nQ d)) (aU (aW c.1 1) d.1) (bG (bM v) (m=m) (uM c=uM d)))))))))))))) (∃(d:Nat×PH),aA (I1 d) (C d<C e) (aA i6 cA (aA (aG s) (a7 s) (aA (aU (aW (p8 c) 1) d.1) (bM v) (bE (m=m) (uM c) d.2))))))) (K (fQ 0) m e.2)))))
theorem byX{v:bW}{t:Int}{sl:Sl}{r:dn}(hs:iP h s v)(P:bI h sl r)(e:tJ s t=true)(z:K (cB (SK s t r)) m h):KX v t sl m h K:=by
 dsimp only[KX,push_cast];have a0:=hs.tables.slen;have a1:=aZ.slen P;have a2:=aZ.len P;have B:=e;simp only[tJ,cz,dc]at B;obtain⟨f,F⟩:∃f,s.tables[t.toNat]? =some f:=⟨_,cq aC⟩
 obtain⟨b,o,y,G,rd,Q⟩:=aZ.at hs.tables F;rw[N9 F e]at z;have a3:=aZ.slen Q.columns;have hk:=Q.key;refine aE (λh1=>by omega) (λ_=>aE (λh1=>by omega) (λ_=>⟨b,o,G,B.1,aC,y.columns,.imm (bB.part rd 1 1),aB (λR=>?_) (λR=>?_)⟩))
 .have:Ai f r=false:=by
   cases S:Ai f r with
   |false=>rfl
   |true=>
    have:=(zI.1 S).1;simp at R;omega
  rw[this]at z;exact z
 have T:r.length=f.columns.length:=by simp at R;omega
 have U:∀i,i<r.length->tK f.key (f.columns.getD i ⟨⟨#[]⟩,0⟩).kind i (r.getD i zeroV)=false->K (cB false) m h:=λi hi C=>by
  have:Ai f r=false:=by
   cases S:Ai f r with
   |false=>rfl
   |true=>rw[(zI.1 S).2 i hi]at C;cases C
  rw[this]at z;exact z
 refine⟨λi=>i<=r.length/\∀j,j<i->tK f.key (f.columns.getD j ⟨⟨#[]⟩,0⟩).kind j (r.getD j zeroV)=true,λi=>r.length-i,⟨0,⟨bx,λj V=>by simp at V⟩,MT⟩,?_⟩;rintro i ⟨hi,u⟩;refine aE (λa4=>?_) (λa5=>?_)
 .have H:i<r.length:=by omega
  have hx:r[i]? =some (r.getD i zeroV):=by rw[getD_eq_getElem?_getD,cq H];rfl
  obtain⟨b2,o2,x,W,I,X⟩:=aZ.at P hx;subst X;have hc:f.columns[i]? =some (f.columns.getD i ⟨⟨#[]⟩,0⟩):=by rw[getD_eq_getElem?_getD,cq aC];rfl
  obtain⟨b3,o3,c,Y,Z,a'⟩:=aZ.at Q.columns hc;have d:=U i H
  have n:tK f.key (f.columns.getD i ⟨⟨#[]⟩,0⟩).kind i (r.getD i zeroV)=true->∀j,j<i+1->tK f.key (f.columns.getD j ⟨⟨#[]⟩,0⟩).kind j (r.getD j zeroV)=true:=λC j V=>by
   by_cases A:j=i
   .rw[A];exact C
   .exact u j aC
  generalize r.getD i zeroV=x at d n I hx;rw[a']at d n;refine⟨b2,o2,W,aC,aC,x,.imm I,x,rfl,aB (λev=>d ?_) (λev=>?_)⟩
  .have ev:jP x=false:=cm ev
   simp[tK,ev]
  have ev:jP x=true:=cm ev
  have g:tK f.key c.kind i x=(x.kind==c.kind||((x.kind==2||x.kind==1)&&decide (y.key<=(i:Int)))):=by
   rw[hk];simp only[tK,ev,Bool.true_and]
  refine⟨b,o,G,B.1,aC,y.columns,.imm (bB.part rd 1 1),b3,o3,Y,aC,aC,c.kind,.imm (bB.part Z 1 1),?_⟩;have fin:tK f.key c.kind i x=true->∃k:Nat,(k<=r.length/\∀j,j<k->tK f.key (f.columns.getD j ⟨⟨#[]⟩,0⟩).kind j (r.getD j zeroV)=true)/\r.length-k<r.length-i/\IntKind.i64.wrap ((i:Int)+1)=(k:Int):=λC=>⟨i+1,⟨aC,n C⟩,aC,fP aC⟩
  refine aB (λD=>?_) (λD=>aB (λe4=>⟨b,o,G,B.1,aC,y.key,.imm (bB.part rd 2 1),aE (λJ=>?_) (λJ=>aB (λA=>⟨b,o,G,B.1,aC,y.key,.imm (bB.part rd 2 1),aE (λE=>(J E).elim) (λE=>d ?_)⟩) (λA=>d ?_))⟩) (λe4=>aB (λA=>⟨b,o,G,B.1,aC,y.key,.imm (bB.part rd 2 1),aE (λE=>?_) (λE=>d ?_)⟩) (λA=>d ?_)))
  .obtain⟨k,L,M,O⟩:=fin (by rw[g,D];rfl);exact⟨k,L,M,by rw[O];exact MT⟩
  .obtain⟨k,L,M,O⟩:=fin (by rw[g,e4,decide_eq_true J];simp);exact⟨k,L,M,by rw[O];exact MT⟩
  .rw[g,D,decide_eq_false J];simp
  .rw[g,D,decide_eq_false J];simp
  .obtain⟨k,L,M,O⟩:=fin (by rw[g,A,decide_eq_true E];simp);exact⟨k,L,M,by rw[O];exact MT⟩
  .rw[g,D,decide_eq_false E];simp
  .rw[g,D,e4,A];rfl
 .have:Ai f r=true:=zI.2 ⟨T,λj V=>u j aC⟩;rw[this]at z;exact z
theorem Yi:di 105 bGX:=by
 refine gO func105 ?_;rintro d m h K ⟨v,s,t,c,r,rfl,e,f,g,j⟩;refine⟨aYJ t v c m h,rfl,aD Ox aF,KX v t c m h K,bu,?_⟩;exact byX e f g j
theorem Yp(st:List dl)(i:Nat):mC (st.take i)<=mC st:=by
 induction st generalizing i with
 |nil=>simp[mC]
 |cons a l c=>
  cases i with
  |zero=>
   have:=c 0;simp only[mC,take_zero,map_nil,sum_nil,map_cons,sum_cons]at this⊢
   omega
  |succ i=>
   have:=c i;simp only[mC,take_succ_cons,map_cons,sum_cons]at this⊢
   omega
theorem ajX:di 61 ZA:=by
 refine Ht func61 ?_;rintro c0 m h K ⟨v,s,sl,c,rfl,hs,hl,hn,hK⟩;refine⟨bpQ v sl m,rfl,aD Qd (aD Yi (aD Kr (aD xR aF))),Of v sl m h (lQ h K),bu,?_⟩;show Of v sl m h (lQ h K);dsimp only[Of,push_cast];have c1:=hs.tables.slen;have a3:=aZ.slen hl;have out:∀(g:PH)(x:Int),PH.le h g->mY s c=x->lQ h K (.val (.int .i64 x)) m g:=λg x V e=>.out (Sub.refl m) V (by rw[<-e];exact hK);refine⟨v,s,rfl,hs,aB (λe=>out h _ (.refl _) (by unfold mY;rw[if_pos (cm e)])) (λe=>?_)⟩;have e:fA s=0:=cm e
 have h8:=xI e;refine⟨λz=>h=z.2.2/\z.1<=c.length/\z.2.1=mC (c.take z.1)/\0<=z.2.1/\z.2.1<=512,λz=>c.length-z.1,⟨(0,0,h),⟨rfl,bx,by simp[mC],bx,bx⟩,MT⟩,?_⟩;rintro⟨i,n,_⟩ ⟨rfl,hi,O,n0,n5⟩;dsimp only at hi O n0 n5⊢
 refine aE (λW=>?_) (λa4=>?_)
 .obtain⟨l,g⟩:=eN a3 W;obtain⟨b,o,u,ea,rd,J⟩:=aZ.at hl g;have X:=aZ.slen J;have c2:=aZ.len J;have a9:=OI g;refine⟨b,o,ea,aC,aC,u,.imm rd,?_⟩;rw[dR aC aC];refine aE (λY=>out _ _ (.refl _) ?_) (λY=>⟨(i+1,n+u.len,_),⟨rfl,?_,?_,?_,?_⟩,?_,?_⟩)
  .unfold mY;rw[if_neg aC,if_pos];have:=Yp c (i+1);unfold mC at*
   omega
  .have:=(cn g);exact this
  .show n+(u.len:Int)=mC (c.take (i+1));rw[a9,O,X]
  .show 0<=n+(u.len:Int);omega
  .show n+(u.len:Int)<=512;omega
  .show c.length-(i+1)<c.length-i;omega
  .rw[dR aC aC,fP aC];exact MT
 have Z:¬512<(c.map λl=>(l.length:Int)).sum:=by
  rw[cu aC]at O;unfold mC at O;omega
 refine aB (λe3=>out _ _ (.refl _) ?_) (λe3=>?_)
 .unfold mY;rw[if_neg aC,if_neg Z,if_pos (by simp at e3;omega)]
 have S:c.length=s.tables.length:=by simp at e3;omega
 have ok:Hc s c->mY s c=0:=λY=>by
  unfold mY;rw[if_neg aC,if_neg Z,if_neg (by simp[S]),if_pos Y]
 have b':∀(g:PH),PH.le h g->¬Hc s c->lQ h K (cI 80) m g:=λg V Y=>out g 80 V (by
  unfold mY;rw[if_neg aC,if_neg Z,if_neg (by simp[S]),if_neg Y])
 clear O n0 n5 a4 hi i n;refine⟨λz=>PH.le h z.2/\z.1<=c.length/\∀(j:Nat) t l,j<z.1->s.tables[j]? =some t->c[j]? =some l->PA t l,λz=>c.length-z.1,⟨(0,_),⟨.refl _,bx,λj t l hj=>by simp at hj⟩,MT⟩,?_⟩;rintro⟨i,g⟩ ⟨le,hi,C⟩;dsimp only at le hi C⊢
 refine aE (λW=>?_) (λa4=>?_)
 .obtain⟨l,a'⟩:=eN a3 W;have b0:Leaves g sl c:=aZ.mono hl le λl s J=>aZ.mono J le λr t hv=>bI.mono hv le;obtain⟨b,o,u,ea,rd,J⟩:=aZ.at b0 a';have X:=aZ.slen J;have c3:=aZ.len J;obtain⟨L,d⟩:∃L,s.tables[i]? =some L:=⟨_,cq aC⟩
  have c4:=h8 L (cr d);have P:tJ s (i:Int)=true:=by simp[tJ];omega
  have T:∀f,PH.le h f->¬PA L l->lQ h K (cI 80) m f:=λf le Y=>b' f le λD=>Y (D i L l d a');refine⟨b,o,ea,aC,aC,u,.imm rd,λz=>z.2.2.1=i/\z.2.1=u/\PH.le g z.2.2.2/\z.1<=l.length/\(∀k r,k<z.1->l[k]? =some r->Ai L r=true)/\∀k r r',k+1<z.1->l[k]? =some r->l[k+1]? =some r'->eJ (mA L r) (mA L r')<0,λz=>l.length-z.1,⟨(0,u,i,g),⟨rfl,rfl,.refl _,bx,λk r M=>by simp at M,λk r r' M=>by simp at M⟩,MT⟩,?_⟩;rintro⟨j,u',E,f⟩ ⟨e1,e2,y,hj,A,F⟩;dsimp only at e1 e2 y hj A F⊢
  subst e1 e2;refine aE (λa5=>?_) (λc'=>?_)
  .obtain⟨r,G⟩:=eN X a5;have a6:Go.Ps.Rows f u' l:=aZ.mono J y λr t hv=>bI.mono hv y;obtain⟨b2,o2,w,b1,b4,hv⟩:=aZ.at a6 G;have H:=le.trans y;refine⟨b2,o2,b1,aC,aC,w,.imm b4,v,s,E,w,r,rfl,hs.mono H,hv,P,aB (λef=>T _ H λD=>?_) (λef=>?_)⟩
   .rw[MY d,D.1 r (cr G)]at ef;cases ef
   have hf:Ai L r=true:=by rw[MY d]at ef;simpa using ef
   have I:∀k r,k<j+1->l[k]? =some r->Ai L r=true:=λk r' M a0=>by
    by_cases e5:k=j
    .subst e5;rw[G]at a0;cases a0;exact hf
    .exact A k r' aC a0
   have c5:=(GA hf).1;refine aE (λb5=>?_) (λb5=>?_)
   .have hw:IntKind.i64.wrap ((j:Int)-1)=((j-1:Nat):Int):=by rw[dR aC aC];omega
    obtain⟨r0,Q⟩:∃r0,l[j-1]? =some r0:=⟨_,cq aC⟩
    obtain⟨b3,o3,w3,b6,a1,b7⟩:=aZ.at a6 Q;have c6:=(GA (A (j-1) r0 aC Q)).1;rw[hw];refine⟨b3,o3,b6,aC,aC,w3,.imm a1,v,s,E,w3,r0,rfl,hs.mono H,b7,aC,λs1 h3 B b8=>⟨a1.mono B,v,s,E,w,r,rfl,hs.mono (H.trans B),bI.mono hv B,aC,λs2 h4 R b9=>⟨(a1.mono B).mono R,s1,s2,_,_,rfl,bI.mono b8 R,b9,aE (λO=>T _ ((H.trans B).trans R) λD=>?_) (λO=>?_)⟩⟩⟩
    .rw[y9 d,y9 d]at O;have:=D.2 (j-1) r0 r Q (by rw[show j-1+1=j by omega];exact G);omega
    .rw[y9 d,y9 d]at O;refine⟨(j+1,u',E,h4),⟨rfl,rfl,(y.trans B).trans R,ck,I,λk r1 r2 M U f=>?_⟩,cj,?_⟩
     .by_cases e5:k+1=j
      .have:k=j-1:=by omega
       subst this;rw[Q]at U;rw[e5,G]at f;cases U;cases f;omega
      .exact F k r1 r2 (by have:k+1<j+1:=M;omega) U f
     .dsimp only;rw[fP aC];exact MT
   .refine⟨(j+1,u',E,f),⟨rfl,rfl,y,ck,I,λk r1 r2 M U f=>by have:k+1<j+1:=M;omega⟩,cj,?_⟩;dsimp only;rw[fP aC];exact MT
  .refine⟨(E+1,f),⟨le.trans y,ck,λk t l' M ht a2=>?_⟩,cj,?_⟩
   .by_cases e5:k=E
    .subst e5;rw[d]at ht;cases ht;rw[a']at a2;cases a2;refine⟨λr J=>?_,λk r r' U f=>F k r r' ?_ U f⟩
     .obtain⟨n,hn,rfl⟩:=mem_iff_getElem.1 J;exact A n _ aC (cq hn)
     .have:=(cn f);omega
    .exact C k t l' (by have:k<E+1:=M;omega) ht a2
   .rw[fP aC];exact MT
 .exact out g 0 le (ok λj t l U f=>C j t l (by have:=(cn f);omega) U f)
def VU:Vc.Spec:=λd m h K=>∃v s e c w q,d=[aS v,VT e,aQ w]/\iP h s v/\CE h e c/\bR h q w/\((fR s [] q).2=0->mY s c=0->rI 5 s q/\∀l∈c,l.length<=6)/\∀f h',PH.le h h'->Rows h' f (Ia s c q).1->K (.tup [cS f,cI (Ia s c q).2]) m h'
def Vd(v:bW)(sl:Sl)(w:QV)(m:MH)(h:PH)(K:dk):Prop:=
  F8 (cV v::bJ nK (dE w)) h (λs p q _ d=>fW (fR s p q).2 0 (K (CV.tup (bJ nK (CV.val (fB (fR s p q).2)))) m d) (wG (λo j=>xO (λu e=>aA (cV v::bJ (fQ 3) (lV sl)=cV o::bJ (fQ 3) (lV u)) (iP d j o) (aA (Leaves d u e) (nV e.length) (gR (mY j e !=0) (K (CV.tup (bA nK (mY j e))) m d) (λc=>∃(y:Sl)(z:QV)(f:List dl)(g:Query)(A:oL),aA (bJ (lV sl) (dE w)=bJ (lV y) (dE z)) (CE d y f) (aA (bR d g z) (rI c A g) (aA (Gn g) (mY A f=0) (wF f (λl=>wA l (cE c))/\jT (λB n=>dD d n (Rows n B (L0 f g)) (K (CV.tup (bA (fD B) 0)) m n))))))))))))
mutual
theorem LN:∀(p:Query)(n:Nat),nJ p n=false->Ej p<=n
 |.mk _ _ _ _ _ _ _ _ args,0,h=>by simp[nJ]at h
 |.mk _ _ _ _ _ _ _ _ args,n+1,h=>by
  simp only[nJ]at h;have:=Jw args n h;simp only[Ej];omega
theorem Jw:∀(ps:dt)(n:Nat),tW ps n=false->EA ps<=n
 |[],_,_=>by simp[EA]
 |p::ps,n,h=>by
  simp only[tW,Bool.or_eq_false_iff]at h;have c:=LN p n h.1;have d:=Jw ps n h.2;simp only[EA];omega
end
theorem biQ(h:(fR s [] q).2=0):¬Fat q:=λf=>by
 obtain⟨_,_,c,d⟩:=pJ h;rcases f with f|f|f
 .have:=FL c;omega
 .simp only[uQ,cz,Bool.not_eq_true']at c;have:=LN q 8 c.2;omega
 .exact f (A6 q d).2
theorem abQ{d:oL}{c:Query}(h:(fR s [] q).2=0)(x:QS q c)(h':(fR d [] c).2=0):yZ c<=yZ q:=(x.2 (A6 q (pJ h).2.2.2).2).resolve_right (biQ h')
theorem bOX(h:BF 3 q):yZ q<=8:=Decidable.byContradiction λc=>by
 have d:4^yZ q<=65536:=h.b;have e:4^9<=4^yZ q:=Nat.pow_le_pow_right bz aC;omega
theorem bNZ(h:yZ q<=8):mI 6 q<=8000000:=by
 have d:=a2Q (c:=6) bz q;have e:6^yZ q<=6^8:=Nat.pow_le_pow_right bz h;omega
mutual
theorem aEX:∀q:Query,yZ q<=nW q
 |.mk _ _ _ _ _ _ _ _ args=>by
  have:=Y5 args;simp only[yZ,nW];omega
theorem Y5:∀qs:dt,vL qs<=qH qs
 |[]=>by simp[vL,qH]
 |q::qs=>by
  have c:=aEX q;have d:=Y5 qs;simp only[vL,qH];omega
end
theorem bgJ(a b n:Nat):a^(n+1)+b^(n+1)<=(a+b)^(n+1):=by
 have c:a^n<=(a+b)^n:=Nat.pow_le_pow_left aC n;have d:b^n<=(a+b)^n:=Nat.pow_le_pow_left aC n;rw[Nat.pow_succ,Nat.pow_succ,Nat.pow_succ,Nat.mul_add];exact Nat.add_le_add (Nat.mul_le_mul_right _ c) (Nat.mul_le_mul_right _ d)
theorem S5{c:Nat}(g:2<=c):∀q:Query,O9 q->mI c q<=(c*yZ q)^(Cc q+1)
 |.mk op ta w co on gr od li args,h=>by
  obtain⟨j,d⟩:=CX.1 h;have G:=a2J op
  match args,j,d with
  |[],_,_=>
   have f:c<=c^(Cc (.mk op ta w co on gr od li [])+1):=by
    have:=Nat.pow_le_pow_right (n:=c) aC (show 1<=Cc (.mk op ta w co on gr od li [])+1 by omega)
    rwa [Nat.pow_one]at this
   simp only[mI,xC,uS,yZ,vL];rw[show c*max 1 0=c by simp];split
   .exact f
   .split<;>omega
  |[a],_,d=>
   have I:=S5 g a (d a bx);have H:=Fh a;have L:c<=c*yZ a:=Nat.le_mul_of_pos_right _ H;have o:yZ (.mk op ta w co on gr od li [a])=yZ a:=by simp only[yZ,vL];omega
   have e:Cc a<=Cc (.mk op ta w co on gr od li [a]):=by simp only[Cc,Ah];omega
   have u:=Nat.pow_le_pow_right (n:=c*yZ a) aC (Nat.add_le_add_right e 1);have y:=Nat.pow_le_pow_right (n:=c*yZ a) aC (show 1<=Cc (.mk op ta w co on gr od li [a])+1 by omega);rw[Nat.pow_one]at y;rw[o];simp only[mI,xC,uS,Nat.mul_one,Nat.add_zero];split
   .omega
   .split<;>omega
  |[a,b],_,d=>
   have z:=S5 g a (d a bx);have C:=S5 g b (d b bx);have D:=Fh a;have E:=Fh b;have M:c<=c*yZ a:=Nat.le_mul_of_pos_right _ D;have O:c<=c*yZ b:=Nat.le_mul_of_pos_right _ E
   have o:c*yZ (.mk op ta w co on gr od li [a,b])=c*yZ a+c*yZ b:=by
    rw[<-Nat.mul_add];congr 1;simp only[yZ,vL];omega
   rw[o];have e:Cc (.mk op ta w co on gr od li [a,b])=(if op=4 then 1 else 0)+(Cc a+Cc b):=by simp only[Cc,Ah];omega
   generalize Cc (.mk op ta w co on gr od li [a,b])=J at e;generalize c*yZ a=A at*
   generalize c*yZ b=B at*
   have y:=Nat.pow_le_pow_right (n:=A+B) aC (show 1<=J+1 by omega);rw[Nat.pow_one]at y;simp only[mI,xC,uS,Nat.mul_one,Nat.add_zero];split
   .omega
   .split
    .rename_i F;rw[if_pos F]at e;have f:A^(Cc a+1)<=(A+B)^(Cc a+1):=Nat.pow_le_pow_left aC _;have u:B^(Cc b+1)<=(A+B)^(Cc b+1):=Nat.pow_le_pow_left aC _;rw[show J+1=(Cc a+1)+(Cc b+1)by omega,Nat.pow_add];exact Nat.mul_le_mul (dg z f) (dg C u)
    .rename_i F;rw[if_neg F,Nat.zero_add]at e;have f:A^(Cc a+1)<=A^(J+1):=Nat.pow_le_pow_right aC aC;have u:B^(Cc b+1)<=B^(J+1):=Nat.pow_le_pow_right aC aC;have:=bgJ A B J;omega
  |_::_::_::l,j,_=>simp only[de]at j;omega
 termination_by q=>SizeOf.sizeOf q
 decreasing_by all_goals (subst_vars;simp only[Query.mk.sizeOf_spec,List.cons.sizeOf_spec,List.nil.sizeOf_spec];omega)
theorem adJ(h:(fR s [] q).2=0)(f:Cc q<=2):mI 6 q<=8000000:=by
 obtain⟨_,_,d,e⟩:=pJ h;have g:=S5 (c:=6) bz q (A6 q e).2;have j:=FL d;have n:=aEX q;have o:(6*yZ q)^(Cc q+1)<=144^(Cc q+1):=Nat.pow_le_pow_left aC _;have u:144^(Cc q+1)<=144^3:=Nat.pow_le_pow_right bz aC;omega
theorem afZ(h:(fR s [] q).2=0)(c:QN q)(d:mI 6 q<=8000000):rI 5 s q:=
 ⟨(pJ h).2.2.2,Y7 (s:=s) (ps:=[]) bx q (pJ h).2.2.2 c,d⟩
theorem aoJ:di 19 VU:=by
 refine gO func19 ?_;rintro A m h K ⟨v,s,n,o,w,q,rfl,u,f,y,B,d⟩;refine⟨dG [(37,zR),(61,ZA),(62,ZX)] [] [] [] false,rfl,aD Qi (aD ajX (aD ajQ aF)),Vd v n w m h K,bu,?_⟩;dsimp only[Vd,push_cast];unfold Ia at d;refine⟨v,cJ,w,s,[],q,rfl,u,sB h,y,λC z c _=>aB (λe=>?_) (λe=>?_)⟩
 .rw[if_pos (cm e)]at d;exact d ⟨none,0,0⟩ z c (aZ.nil _ _ _ _)
 have e:(fR s [] q).2=0:=cm e
 rw[if_neg (by simp[e])]at d;refine⟨v,s,n,o,rfl,u.mono c,(f.mono c).lea,f.len,aB (λj=>?_) (λj=>?_)⟩
 .rw[if_pos (cm j)]at d;exact d ⟨none,0,0⟩ z c (aZ.nil _ _ _ _)
 have j:mY s o=0:=cm j
 rw[if_neg (by simp[j])]at d;dsimp only at d;obtain⟨g,D⟩:=B e j;have G:=FL (pJ e).2.2.1;exact⟨5,n,w,o,q,s,rfl,f.mono c,y.mono c,g,aC,j,D,λE h' le F=>d E h' (c.trans le) F⟩
noncomputable def shE(r:Sl)(v:QV):sG:={A:=Nat×bW×QV×Sl×MH×PH,st:=λ⟨cb,sc,u,w,m,h⟩=>bK 77 80 [(4,.at (.ptr 4 0)),(5,.at (.ptr 5 0)),(7,pv cb),(8,.at (.ptr 8 0)),(9,.at (.ptr 9 0)),(10,.at (.ptr 10 0))] [(4,.cells 25 [.val (.slice r.a r.len r.cap)]),(5,.cells 38 (v.enc.map .val)),(8,.cells 43 (sc.enc.map .val)),(9,.cells 38 (u.enc.map .val)),(10,.cells 25 [.val (.slice w.a w.len w.cap)])] m h}
noncomputable def bQQ(r:Sl)(v:QV):Ctx:=
 dG [(8,bYJ),(9,a7Q),(10,YG 1000),(11,StateM),(12,C2),(13,G8),(14,bXQ),(15,bEQ),(16,bZZ),(17,a9X),(18,a6X),(19,VU),(20,beJ),(21,bEX)] []
  [(5,shE r v),(7,shE r v),(9,shE r v),
   (11,{A:=Nat×bW×QV×Sl×MH×PH,st:=λ⟨cb,sc,u,w,m,h⟩=>bK 77 80 [(5,.at (.ptr 5 0)),(7,pv cb),(8,.at (.ptr 8 0)),(9,.at (.ptr 9 0)),(10,.at (.ptr 10 0))] [(5,.cells 38 (v.enc.map .val)),(8,.cells 43 (sc.enc.map .val)),(9,.cells 38 (u.enc.map .val)),(10,.cells 25 [.val (.slice w.a w.len w.cap)])] m h}),
   (13,{A:=bW×QV×Sl×MH×PH,st:=λ⟨sc,u,w,m,h⟩=>bK 77 80 [(8,.at (.ptr 8 0)),(9,.at (.ptr 9 0)),(10,.at (.ptr 10 0))] [(8,.cells 43 (sc.enc.map .val)),(9,.cells 38 (u.enc.map .val)),(10,.cells 25 [.val (.slice w.a w.len w.cap)])] m h})] [] false
abbrev ME(a:Prop)(b:(Nat×bW×QV×Sl×MH×PH)->Prop)(c:(Nat×bW×QV×Sl×MH×PH)->(Nat×bW×QV×Sl×MH×PH->Prop)->Prop):Prop:=a/\∀(x:Nat×bW×QV×Sl×MH×PH),b x->∃(d:Nat×bW×QV×Sl×MH×PH->Prop),c x d
abbrev NO(a:MH)(b:PH)(c:Nat)(d:(Nat×bW×QV×Sl×MH×PH)->Prop):Prop:=j5 a b c (∃(x:Nat×bW×QV×Sl×MH×PH),d x)
noncomputable abbrev nS(a:Nat×bW×QV×Sl×MH×PH):bW:=a.2.1
noncomputable abbrev oW(a:Nat×bW×QV×Sl×MH×PH):QV:=a.2.2.1
noncomputable abbrev nU(a:bW×QV×Sl×MH×PH):Sl×MH×PH:=a.2.2
noncomputable abbrev gM(a:Nat×bW×QV×Sl×MH×PH):Sl×MH×PH:=nU a.2
noncomputable abbrev iH(a:Nat×bW×QV×Sl×MH×PH):Nat->Nat->Option Value:=gJ (gM a)
attribute [push_cast] ME NO nS oW nU gM iH
def SP(s:Sl)(r:Sl)(v:QV)(m:MH)(h:PH)(K:dk):Prop:=
  ∃(s1:Sl)(c:dw)(m1:Nat),aA (bA (fD s) 220=mF (fD s1) m1) (bN h s1 1 (bP c)) (aA (wP s1) (nV m1) (∀(E:Nat),gU (λV W=>dD h W (DX m E) (aT (aL m V E) (aI V W E) (∃(X:Nat),aA (iY (bY E) (bY X)) (aI V W X) (∀(s2:oL)(M:bW),gU (λY Q=>aT (zS s2) (iP Q s2 M) (dD W Q (aL V Y X) (j5 Y Q X (∃(Z:Nat),Hs (λs3 p=>Cz (λs4 p1=>∃(d:Int),aA (bY E::cV M::bA nK 3=bY Z::cV s3::bA (fD p) d) (aI Y Q Z) (aA (iP Q s4 s3) (fA s4=0) (aA (kF (s4.tables=[])) (Ints Q p p1) (aA (iC p1) (gG (Hp p1)) (aA (Int.negSucc 0<=d) (d<=1000) ((d+1).toNat<1000/\Gv (λw q=>gU (λm4 D=>dD Q D (bR D q w) (aT (QW q) (BF
 d.toNat q) (aT ((fR s4 p1 q).2=0) (aL Y m4 Z) (j5 m4 D Z (∃(I:Nat×bW×QV×Sl×MH×PH->Prop),ME (fS E 3 m4 D (λk o=>(∃(y:Nat),Ae (λB z F=>aA (bY E::bA (cV M) (oA k)=bY y::bA (cV B) F) (aI o D y) (aA (iP D z B) (zS z) (∀(A:List dl)(C:Sl),gU (λH u=>dD D u (CE u C A) (aT (OW z A) (aL o H y) (NO H u y (λx=>aA (I x) eV (aA dC (fO E x.1) (aA eZ (eP 9) (aA gQ (oC r) (aA (cG v) (lS M (nS x)) (aA (eB w (oW x)) (z8 (lY C) (gM x)) (bE (gH H (gM x)) u (iH x)))))))))))))))/\∃(y:Nat),Ae (λB z F=>aA (bY E::bA (cV M) (oA k)=bY y::bA (cV B) F) (aI o D y)
 (aA (iP D z B) (zS z) (∀(A:List dl)(C:Sl),gU (λH u=>dD D u (CE u C A) (aT (OW z A) (aL o H y) (NO H u y (λx=>aA (I x) eV (aA dC (fO E x.1) (aA eZ (eP 9) (aA gQ (oC r) (aA (cG v) (lS M (nS x)) (aA (eB w (oW x)) (z8 (lY C) (gM x)) (bE (gH H (gM x)) u (iH x)))))))))))))))/\fS E 3 m4 D (λk o=>∃(y:Nat),Ae (λB z F=>aA (bY E::bA (cV M) (oA k)=bY y::bA (cV B) F) (aI o D y) (aA (iP D z B) (zS z) (∀(A:List dl)(C:Sl),gU (λH u=>dD D u (CE u C A) (aT (OW z A) (aL o H y) (NO H u y (λx=>aA (I x) eV (aA dC (fO E x.1) (aA eZ (eP 9) (aA gQ
 (oC r) (aA (cG v) (lS M (nS x)) (aA (eB w (oW x)) (z8 (lY C) (gM x)) (bE (gH H (gM x)) u (iH x)))))))))))))))) (λx=>I x) (λx I1=>ME (lT x.1 8 (iO (gM x)) (iH x) (λy J=>∀(o:MH),aT (aL (iO (gM x)) o y) (aI o (iH x) y) (branch J (∃(L:Nat),jD (λB G=>aA (bJ (bY x.1) (dE (oW x))=bJ (bY L) (dE B)) (aI o (iH x) L) (aA (bR (iH x) G B) (HM G) (QN G/\∀(O:Query)(S:QV),gU (λF u=>dD (iH x) u (bR u O S) (aT (QS G O) (aL o F L) (NO F u L (λg=>aA (I1 g) eV (aA dC (fO x.1 g.1) (aA eZ (eP 9) (aA gQ (oC r) (aA (cG v) (lS (nS x) (nS g)) (aA (eB S (oW g)) (mL (gM x) (gM g))
 (bE (gH F (gM g)) u (iH g))))))))))))))) (∃(g:Nat×bW×QV×Sl×MH×PH),aA (I1 g) eV (aA dC (fO x.1 g.1) (aA eZ (eP 9) (aA gQ (oC r) (aA (cG v) (lS (nS x) (nS g)) (aA (eB (oW x) (oW g)) (mL (gM x) (gM g)) (bE (gH o (gM g)) (iH x) (iH g))))))))))) (λg=>I1 g) (λg I2=>ME (lT g.1 8 (iO (gM g)) (iH g) (λy J=>∀(o:MH),aT (aL (iO (gM g)) o y) (aI o (iH g) y) (branch J (∃(L:Nat),xO (λz A=>aA (bJ (bY g.1) (lV (gM g).1)=bJ (bY L) (lV z)) (aI o (iH g) L) (aA (Leaves (iH g) z A) (V7 A) (aA (A.length<=900) (wF A (λl=>wA l 900000/\sQ l (λr2=>0<r2.length/\r2.length<=900000))) (∀(C
 :Sl)(P:List dl),gU (λF u=>dD (iH g) u (Leaves u C P) (aT (V7 P) (P.length<=cE A.length) (aT (∀(n:Nat),wF A (λl=>wA l n)->wF P (λl=>wA l (cE n))) (wF P (λl=>sQ l (λr2=>Jc r2))) (aT (aL o F L) (aI F u L) (∃(f:Nat×bW×QV×Sl×MH×PH),aA (I2 f) eV (aA dC (fO g.1 f.1) (aA eZ (eP 9) (aA gQ (oC r) (aA (cG v) (lS (nS g) (nS f)) (aA (eB (oW g) (oW f)) (z8 (lY C) (gM f)) (bE (gH F (gM f)) u (iH f))))))))))))))))) (∃(f:Nat×bW×QV×Sl×MH×PH),aA (I2 f) eV (aA dC (fO g.1 f.1) (aA eZ (eP 9) (aA gQ (oC r) (aA (cG v) (lS (nS g) (nS f)) (aA (eB (oW g) (oW f))
 (mL (gM g) (gM f)) (bE (gH o (gM f)) (iH g) (iH f))))))))))) (λf=>I2 f) (λf I3=>lT f.1 10 (iO (gM f)) (iH f) (λy J=>∀(o:MH),aT (aL (iO (gM f)) o y) (aI o (iH f) y) (branch J (xO (λz A=>aA (iY (lV r) (lV z)) (Leaves (iH f) z A) (∀(b:Bool),hU (gG b->A.length<=8/\wF A (λl=>wA l 6)) b (∃(e:Nat×bW×QV×Sl×MH×PH),aA (I3 e) dC (aA (fO f.1 e.1) eZ (aA (eP 9) gQ (aA (cG v) (lS (nS f) (nS e)) (aA (eB (oW f) (oW e)) (z8 (lY r) (gM e)) (aA (gH o (gM e)) (iH f=iH e) True)))))) (∃(e:Nat×bW×QV×Sl×MH×PH),aA (I3 e) dC (aA (fO f.1 e.1) eZ (aA (eP 9) gQ (aA (cG v) (lS
 (nS f) (nS e)) (aA (eB (oW f) (oW e)) (mL (gM f) (gM e)) (aA (gH o (gM e)) (iH f=iH e) True))))))))) (∃(e:Nat×bW×QV×Sl×MH×PH),aA (I3 e) dC (aA (fO f.1 e.1) eZ (aA (eP 9) gQ (aA (cG v) (lS (nS f) (nS e)) (aA (eB (oW f) (oW e)) (mL (gM f) (gM e)) (aA (gH o (gM e)) (iH f=iH e) True))))))))/\∀(e:Nat×bW×QV×Sl×MH×PH),I3 e->∃(I4:bW×QV×Sl×MH×PH->Prop),lT e.1 10 (iO (gM e)) (iH e) (λy J=>∀(o:MH),aT (aL (iO (gM e)) o y) (aI o (iH e) y) (branch J (jD (λB G=>aA (uK v B) (bR (iH e) G B) (branch (decide (Cc G<=2)) (∃(j:bW×QV×Sl×MH×PH),aA (I4 j) eZ (aA (eP 9) gQ (aA
 (lS (nS e) j.1) (eB v j.2.1) (aA (mL (gM e) (nU j)) (gH o (nU j)) (bH (iH e) (gJ (nU j))))))) (∃(j:bW×QV×Sl×MH×PH),aA (I4 j) eZ (aA (eP 9) gQ (aA (lS (nS e) j.1) (eB (oW e) j.2.1) (aA (mL (gM e) (nU j)) (gH o (nU j)) (bH (iH e) (gJ (nU j)))))))))) (∃(j:bW×QV×Sl×MH×PH),aA (I4 j) eZ (aA (eP 9) gQ (aA (lS (nS e) j.1) (eB (oW e) j.2.1) (aA (mL (gM e) (nU j)) (gH o (nU j)) (bH (iH e) (gJ (nU j)))))))))/\∀(j:bW×QV×Sl×MH×PH),I4 j->wG (λB z=>xO (λA C=>jD (λw1 G=>aA (cV j.1::bJ (lV (nU j).1) (dE j.2.1)=cV B::bJ (lV A) (dE w1)) (iP (gJ (nU j)) z B)
 (aA (CE (gJ (nU j)) A C) (bR (gJ (nU j)) G w1) (aA (jV (iO (nU j))) (MD z G C (beX C G)) (jT (λP u=>dD (gJ (nU j)) u (Rows u P (Ia z C G).1) (wG (λS T=>xO (λa U=>jD (λw2 O=>aA (cV j.1::bJ (lV (nU j).1) (dE j.2.1)=cV S::bJ (lV a) (dE w2)) (iP u T S) (aA (CE u a U) (bR u O w2) (MD T O U (rI 5 T O/\wF U (λl=>wA l 6))/\jT (λa2 R=>dD u R (Rows R a2 (Ia T U O).1) (aA (([]:ei)=[]) (jV (iO (nU j))) (dJ (Ia z C G).2 (Ia T U O).2 (kQ (λa3 t=>Hr (λa4 b=>aA (fN P a2=fN a3 t) (Rows R a3 a4) (Rows R t b/\∀(J:Bool),(gG J↔a4=b)->K (zU J) (iO (nU j)) R)))) (K aX (iO (nU j))
 R)))))))))))))))))))))))))))))))))))))))))))
def b2J:Vc.Spec:=λc m h K=>∃s e r d v q,c=[cS s,VT r,aQ v]/\bN h s 1 (bP e)/\s.len<=s.cap/\Leaves h r d/\V7 d/\bR h q v/\QN q/\jV m/\∀m' h',Sub m m'->K (cB true) m' h'
theorem bVX{s:Sl}{cs:dw}{B:List dl}{wq:Query}(Y:bN h s 1 (bP cs))(a1:s.len<=s.cap)(b5:Leaves h r B)(b6:V7 B)(hq:bR h wq v)(b7:QN wq)(ht:jV m)(hK:∀m' h',Sub m m'->K (cB true) m' h'):SP s r v m h K:=by
 dsimp only[SP,push_cast];refine⟨s,cs,220,rfl,Y,a1,aC,λcb m1 h1 b8 a2 o1 c1=>⟨cb,rfl,c1,λsc sv m2 h2 Z rS b9 o2 c2=>?_⟩⟩;obtain⟨a',c'⟩:=T4 Z;have sub:∀{c},aL m c cb->Sub m c:=fun{c} om b o e=>by rw[om.other b (λe2=>by rw[e2,a2]at e;cases e)];exact e
 refine⟨cb,sv,cJ,sc,[],3,rfl,c2,rS,a',c',b1Z h2,bx,bx,aC,aC,bz,λa qa m3 h3 a3 rq qw fq a4 o3 c3=>?_⟩;have a5:=rS.mono a3;have c0:=bOX fq;refine⟨λz=>∃T w c n,z=(cb,sv,a,w,c,n)/\CE n w T/\OW sc T/\aL m3 c cb/\aI c n cb/\PH.le h3 n,⟨⟨cb,3,rfl,c3,λk m4 _ _ o4 c4=>⟨?_,?_⟩⟩,cb,3,rfl,c3,λk m4 _ _ o4 c4=>?_⟩,?_⟩
 iterate 3
  .exact⟨cb,sv,sc,_,rfl,c4,a5,Z,λT w m5 h5 y a0 f o5 c5=>⟨_,⟨T,w,m5,h5,rfl,a0,f,o4.trans o5,c5,y⟩,MT⟩⟩
 rintro _ ⟨T,w,m5,h5,rfl,a0,f,o5,c5,y⟩;dsimp only;have d':QS qa qa:=⟨qw.num,λ_=>.inl (Nat.le_refl _)⟩
 refine⟨λz=>∃u q c n,z=(cb,sv,u,w,c,n)/\bR n q u/\QS qa q/\aL m3 c cb/\aI c n cb/\PH.le h5 n,⟨cb,8,rfl,aC,aC,c5,λb m6 o6 c6=>aB (λ_=>⟨cb,a,qa,rfl,c6,rq.mono y,bjQ a4,qw.num,λq' u m7 h7 C r7 P o7 c7=>⟨_,⟨u,q',m7,h7,rfl,r7,P,(o5.trans o6).trans o7,c7,C⟩,MT⟩⟩) (λ_=>⟨_,⟨a,qa,m6,h5,rfl,rq.mono y,d',o5.trans o6,c6,.refl _⟩,MT⟩)⟩,?_⟩;rintro _ ⟨u,q,m7,h7,rfl,d0,P,o7,c7,C⟩;dsimp only;have D:=a0.mono C;have h8:=Hh a';have d9:=f.len;have a6:(fR sc [] q).2=0->mI 6 q<=8000000:=λe=>bNZ (dg (abQ a4 P e) c0)
 have a9:∀l∈T,∀r∈l,0<r.length/\r.length<=900000:=λl U r Y=>by
  obtain⟨j,hj⟩:=mem_iff_getElem?.1 U;have e':=(cn hj);have ht:sc.tables[j]? =some sc.tables[j]:=cq aC;have b':=cr ht;have:=(GA ((f.ok j _ l ht hj).1 r Y)).1;have:=PQ Z b';have:=xI a' _ b';omega
 refine⟨λz=>∃d O c n,z=(cb,sv,u,O,c,n)/\CE n O d/\(∀l∈d,l.length<=6)/\aL m3 c cb/\aI c n cb/\PH.le h7 n,⟨cb,8,rfl,aC,aC,c7,λb m8 o8 c8=>aB (λ_=>⟨cb,w,T,rfl,c8,D.lea,D.val,aC,λl U=>⟨by have:=f.few l U;omega,a9 l U⟩,λO d m9 g E d1 d2 n9 F _ o9 c9=>⟨_,⟨d,O,m9,g,rfl,⟨d1,aC,d2⟩,λl U=>by have:=F 4 f.few l U;omega,(o7.trans o8).trans o9,c9,E⟩,MT⟩⟩) (λ_=>⟨_,⟨T,w,m8,h7,rfl,D,λl U=>by have:=f.few l U;omega,o7.trans o8,c8,.refl _⟩,MT⟩)⟩,?_⟩;rintro _ ⟨d3,w1,m9,g,rfl,b0,F,o9,c9,E⟩;dsimp only;have G:=(((b8.trans b9).trans a3).trans y).trans (C.trans E);have V:Leaves g r B:=aZ.mono b5 G λl s Y=>aZ.mono Y G λr t hv=>bI.mono hv G;refine⟨λz=>∃d O c,z=(cb,sv,u,O,c,g)/\CE g O d/\(∀l∈d,l.length<=6)/\aL m3 c cb/\aI c g cb,⟨cb,10,rfl,aC,aC,c9,λb Q H R=>?_⟩,?_⟩
 .have keep:∃z:Nat×bW×QV×Sl×MH×PH,(∃d O c,z=(cb,sv,u,O,c,g)/\CE g O d/\(∀l∈d,l.length<=6)/\aL m3 c cb/\aI c g cb)/\z=(cb,sv,u,w1,Q,g):=⟨_,⟨d3,w1,Q,rfl,b0,F,o9.trans H,R⟩,rfl⟩
  refine aB (λ_=>⟨r,B,rfl,V,λb hb=>aB (λe=>⟨_,⟨B,r,Q,rfl,⟨V,by have:=(hb e).1;omega,b6⟩,(hb e).2,o9.trans H,R⟩,MT⟩) (λ_=>?_)⟩) (λ_=>?_)
  all_goals
   obtain⟨_,k1,rfl⟩:=keep;exact⟨_,k1,MT⟩
 rintro _ ⟨b1,w2,Q,rfl,I,J,H,R⟩;dsimp only;have d4:=d0.mono E;refine⟨λz=>∃W A c,z=(sv,W,w2,c,g)/\bR g A W/\QN A/\((fR sc [] A).2=0->mI 6 A<=8000000)/\aL m3 c cb,⟨cb,10,rfl,aC,aC,R,λb L S e0=>?_⟩,?_⟩
 .have keep:∃z:bW×QV×Sl×MH×PH,(∃W A c,z=(sv,W,w2,c,g)/\bR g A W/\QN A/\((fR sc [] A).2=0->mI 6 A<=8000000)/\aL m3 c cb)/\z=(sv,u,w2,L,g):=⟨_,⟨u,q,L,rfl,d4,P.1,a6,H.trans S⟩,rfl⟩
  refine aB (λ_=>⟨v,wq,rfl,hq.mono G,aE (λhj=>⟨_,⟨v,wq,L,rfl,hq.mono G,b7,λe=>adJ e hj,H.trans S⟩,MT⟩) (λ_=>?_)⟩) (λ_=>?_)
  all_goals
   obtain⟨_,k1,rfl⟩:=keep;exact⟨_,k1,MT⟩
 rintro _ ⟨W,A,L,rfl,b2,d5,b3,S⟩;dsimp only;have om:=((o1.trans o2).trans o3).trans S;have hT:=ht.new a2 om;have b4:=a5.mono (y.trans (C.trans E));refine⟨sv,sc,w2,b1,W,A,rfl,b4,I,b2,hT,λe _=>⟨6,aC,J,b3 e⟩,λs1 e1 M d6=>⟨sv,sc,w2,b1,W,A,rfl,b4.mono M,I.mono M,b2.mono M,λe _=>⟨afZ e d5 (b3 e),J⟩,λs2 d7 X d8=>⟨rfl,hT,aB (λ_=>⟨s1,s2,_,_,rfl,aZ.mono d6 X λr t hv=>bI.mono hv X,d8,λr Y=>by rw[Y.2 rfl];exact hK L d7 (sub om)⟩) (λe=>by simp at e)⟩⟩⟩
theorem aIX:di 3 b2J:=by
 refine gO func3 ?_;rintro g m h K ⟨s,y,r,z,v,q,rfl,j,c,d,e,n,f,o,u⟩;refine⟨bQQ r v,rfl,aD aGJ (aD aGX (aD (Zq 1000) (aD Ye (aD D9 (aD sV (aD aqJ (aD aqZ (aD aqX (aD apX (aD Q6 (aD aoJ (aD aoZ (aD aoX aF))))))))))))),SP s r v m h K,bu,?_⟩;exact bVX j c d e n f o u
open Go.Proofs.YtjpjambjoceofaaGreatDoor.Rows (uptoBulk uptoBulkAll)
def hW(w:World):PH:=λb o=>match w.cell? ⟨b,o,none⟩with|some (.int .u64 _)=>none|x=>x
def noU(v:Value):Prop:=∀n,v≠ .int .u64 n
theorem bNJ{w:World}{o:Nat}{v:Value}(h:hW w b o=some v):w.cell? ⟨b,o,none⟩=some v:=by
 unfold hW at h;split at h
 .cases h
 .exact h
theorem bUQ{w:World}{o:Nat}{v:Value}(h:w.cell? ⟨b,o,none⟩=some v)(c:noU v):hW w b o=some v:=by
 unfold hW;split
 .rename_i n e;rw[h]at e;exact(c _ (Option.some.inj e)).elim
 .exact h
theorem VJ{w:World}{d n:Nat}{a:Addr}{cs:dj}(h:w.cells? d a n=some cs)(B:∀v∈cs,noU v)(C:0<n):
 ∃b o,a=⟨b,o,none⟩/\cs.length=n/\bB (hW w) b o cs:=by
 unfold World.cells? at h;split at h
 .have f:=mapM_some_length h;have y:=λi(g:i<n)=>mapM_some_get h i i (by simp[g]);obtain⟨b,off,e⟩:=a;have z:=y 0 C;have j:0<cs.length:=by simp at f;omega
  rw[cq j]at z;have c:e=none:=by simpa[Addr.add]using World.cell?_spot z
  subst c;refine⟨b,off,rfl,cm f,⟨λi v u=>?_⟩⟩;have g:i<n:=by have:=(cn u);simp at f;omega
  have A:=y i g;rw[u,Go.WideShapes.add_plain]at A;exact bUQ A (B v (cr u))
 .cases h
theorem ON{H:Type}{d:DataW H}:∀{l:List (DataW H)},d∈l->uptoBulk d<=uptoBulkAll l
 |[],h=>by cases h
 |x::r,h=>by
  simp only[uptoBulkAll];rcases mem_cons.1 h with rfl|h
  .omega
  .have:=ON (l:=r) h;omega
theorem a1J{H:Type}:∀(d:DataW H),1<=uptoBulk d
 |.lit (.string _)=>by simp[uptoBulk]
 |.lit (.bool _)=>by simp[uptoBulk]
 |.lit (.int ..)=>by simp[uptoBulk]
 |.lit (.float ..)=>by simp[uptoBulk]
 |.lit .nil=>by simp[uptoBulk]
 |.nil=>by simp[uptoBulk]
 |.ptr _=>by simp[uptoBulk]
 |.slice .. =>by simp[uptoBulk]
 |.agg _=>by simp[uptoBulk]
 |.iface .. =>by simp[uptoBulk]
 |.map _=>by simp[uptoBulk]
 |.held _=>by simp[uptoBulk]
theorem VM{H:Type}:∀(l:List (DataW H)),l.length<=uptoBulkAll l
 |[]=>bx
 |x::r=>by
  simp only[uptoBulkAll,de];have:=a1J x;have:=VM r;omega
section
variable{H:Type}{enc:TypeId×Value->H}{w:World}{base:Nat}{sp:Nat->Bool}{held:Bool}
theorem uT{α β:Type}{T e:TypeId}{sz:Nat}(ht:Tryz.prog.underlying T=some (.slice e))(I:Tryz.prog.cellsOf e=sz)(W:0<sz)(B:β->dj)(C:∀v,∀u∈B v,noU u)(Q:α->β->Prop)
 {f:Nat}{cs:dj}{x:DataW H×List MemPlace}(h:DataW.trod enc Tryz.prog w base sp held f T cs=some x)
 (J:∀(n:Nat)(c:dj)(y:DataW H×List MemPlace),n<f->uptoBulk y.1<=uptoBulk x.1->DataW.trod enc Tryz.prog w base sp held n e c=some y->∃a v,c=B v/\Q a v):
 ∃(s:Sl)(ps:List α)(vs:List β),cs=[.slice s.a s.len s.cap]/\bN (hW w) s sz (vs.map B)/\ps.length=vs.length/\ps.length<=uptoBulk x.1/\∀(i:Nat)(a:α)(v:β),ps[i]? =some a->vs[i]? =some v->Q a v:=by
 rcases DataW.trod_slice ht h with⟨rfl,rfl⟩|⟨a,len,L,d,X,n,rfl,rfl,rfl, -,M, -,Y,Z, -, -⟩
 .exact⟨⟨none,0,0⟩,[],[],rfl,bN.nil _ _,rfl,bx,bx⟩
 .rw[I]at Z
  have key:∀i,i<len->∃(c:dj)(p:α×β),w.cells? base (a.add (i*sz)) sz=some c/\c=B p.2/\Q p.1 p.2:=λi O=>by
   have j:=Z i O;rw[cq aC,Option.bind_eq_some_iff]at j;obtain⟨c,P,z⟩:=j
   obtain⟨p,v,R,h4⟩:=J n c _ (Nat.lt_succ_self n) (by
    simp only[uptoBulk];have:=ON (l:=d.map (·.1)) (mem_map.2 ⟨d[i],getElem_mem aC,rfl⟩);omega) z
   exact⟨c,(p,v),P,R,h4⟩
  have D:∀k,k<=len->∃l:List (α×β),l.length=k/\∀i p,l[i]? =some p->∃c,w.cells? base (a.add (i*sz)) sz=some c/\c=B p.2/\Q p.1 p.2:=by
   intro k
   induction k with
   |zero=>exactλ_=>⟨[],rfl,bx⟩
   |succ k ih=>
    intro hk;obtain⟨l,A,E⟩:=ih aC;obtain⟨c,p,j,z,R⟩:=key k aC;refine⟨l++[p],by simp[A],λi q g=>?_⟩;by_cases O:i<l.length
    .rw[getElem?_append_left O]at g;exact E i q g
    .have:i=l.length:=by have:=(cn g);simp at this;omega
     subst this;simp at g;subst g;rw[A];exact⟨c,j,z,R⟩
  obtain⟨l,A,E⟩:=D len (Nat.le_refl _);refine⟨⟨some a,len,L⟩,l.map (·.1),l.map (·.2),rfl,⟨by simp[A],?_,M⟩,bx,?_,λi p v j z=>?_⟩
  .by_cases h0:len=0
   .rw[h0]at A;exact .inl (by simp[length_eq_zero_iff.1 A])
   .obtain⟨c0,S,e0, -⟩:=E 0 l[0] (cq aC);obtain⟨b,o,ha, -, -⟩:=VJ S (by rw[e0];exact C _) W
    have U:a=⟨b,o,none⟩:=by
     obtain⟨b1,o1,s1⟩:=a;simp only[Addr.add]at ha;simpa using ha
    subst U;refine .inr ⟨b,o,rfl,λi x hx=>?_⟩;simp only[map_map,getElem?_map,Option.map_eq_some_iff]at hx;obtain⟨p,hj,rfl⟩:=hx;obtain⟨c,P,e, -⟩:=E i p hj;obtain⟨b',o',F, -,G⟩:=VJ P (by rw[e];exact C _) W;rw[Go.WideShapes.add_plain]at F;cases F;simp only[Function.comp];rw[<-e];exact G
  .simp only[length_map,uptoBulk];have:=VM (d.map (·.1));simp only[length_map]at this;omega
  .simp only[getElem?_map,Option.map_eq_some_iff]at j z;obtain⟨q,g,rfl⟩:=j;obtain⟨r,G,rfl⟩:=z;rw[g]at G;cases G;obtain⟨c, -, -,V⟩:=E i q g;exact V
end
open Go.Proofs.YtjpjambjoceofaaGreatDoor.Rows (uptoBulk uptoBulkAll)
section
variable{H:Type}{enc:TypeId×Value->H}{w:World}{base:Nat}{sp:Nat->Bool}{held:Bool}
theorem rN{T:TypeId}{d:Array Field}(L:List (TypeId×Nat))(u:Tryz.prog.underlying T=some (.struct d))(z:d.toList.map (λg=>(g.type,g.offset))=L){f:Nat}{cs:dj}{x:DataW H×List MemPlace}(h:DataW.trod enc Tryz.prog w base sp held f T cs=some x):
 ∃n,f=n+1/\cs.length=Tryz.prog.cellsOf T/\∀(i:Nat)(t:TypeId)(o:Nat),L[i]? =some (t,o)->∃y,uptoBulk y.1<=uptoBulk x.1/\DataW.trod enc Tryz.prog w base sp held n t ((cs.drop o).take (Tryz.prog.cellsOf t))=some y:=by
 obtain⟨xs,n,rfl,rfl,A,B,C⟩:=DataW.trod_struct u h;refine⟨n,rfl,A,λi t o c=>?_⟩;rw[<-z,getElem?_map,Option.map_eq_some_iff]at c;obtain⟨g,c,e⟩:=c;simp only[Prod.mk.injEq]at e;obtain⟨rfl,rfl⟩:=e;rw[dd]at c;have j:i<xs.length:=by rw[B];exact(Array.getElem?_eq_some_iff.1 c).1
 refine⟨xs[i],?_,by rw[C i g c,cq j]⟩;simp only[uptoBulk];have:=ON (l:=xs.map (·.1)) (mem_map.2 ⟨xs[i],getElem_mem j,rfl⟩);omega
theorem HG:Tryz.prog.cellsOf 2=1:=bu
theorem FB:Tryz.prog.cellsOf 3=1:=bu
theorem K5:Tryz.prog.cellsOf 4=1:=bu
theorem HF:Tryz.prog.cellsOf 9=1:=bu
theorem A2:Tryz.prog.cellsOf 27=3:=bu
theorem Ek:Tryz.prog.cellsOf 29=5:=bu
theorem GY:Tryz.prog.cellsOf 30=1:=bu
theorem Cj:Tryz.prog.cellsOf 32=13:=bu
theorem GX:Tryz.prog.cellsOf 33=1:=bu
theorem GW:Tryz.prog.cellsOf 34=1:=bu
theorem GV:Tryz.prog.cellsOf 35=1:=bu
theorem GU:Tryz.prog.cellsOf 36=1:=bu
theorem Ci:Tryz.prog.cellsOf 38=21:=bu
theorem zL:Tryz.prog.cellsOf 103=2:=bu
theorem zM:Tryz.prog.cellsOf 101=2:=bu
theorem aBZ{f:Nat}{c:Value}{y:DataW H×List MemPlace}(h:DataW.trod enc Tryz.prog w base sp held f 2 [c]=some y):∃k,c= .int .i64 k/\nL k:=by
 obtain⟨k,e, -,d⟩:=DataW.trod_int Tryz.underlying2 h;exact⟨k,cm e,bounds_i64 d⟩
theorem Bi{f:Nat}{c:Value}{y:DataW H×List MemPlace}(h:DataW.trod enc Tryz.prog w base sp held f 3 [c]=some y):∃k,c= .int .i64 k:=by
 obtain⟨k,e, -⟩:=DataW.trod_int Tryz.underlying3 h;exact⟨k,cm e⟩
theorem bLZ{f:Nat}{c:Value}{y:DataW H×List MemPlace}(h:DataW.trod enc Tryz.prog w base sp held f 4 [c]=some y):∃k,c= .bool k:=by
 obtain⟨k,e, -⟩:=DataW.trod_bool Tryz.underlying4 h;exact⟨k,cm e⟩
theorem aBQ{f:Nat}{c:Value}{y:DataW H×List MemPlace}(h:DataW.trod enc Tryz.prog w base sp held f 9 [c]=some y):∃k,c= .string k:=by
 obtain⟨k,e, -⟩:=DataW.trod_string Tryz.underlying9 h;exact⟨k,cm e⟩
theorem aDJ{l:dj}(h:l.length=3):∃a b c,l=[a,b,c]:=by
 match l,h with|[a,b,c],_=>exact⟨a,b,c,rfl⟩
theorem bTQ{l:dj}(h:l.length=5):∃a b c d e,l=[a,b,c,d,e]:=by
 match l,h with|[a,b,c,d,e],_=>exact⟨a,b,c,d,e,rfl⟩
theorem bRJ{n:Nat}{l:dj}(h:l.length=n+5):∃a b c d e r,l=a::b::c::d::e::r/\r.length=n:=by
 match l,h with|a::b::c::d::e::r,h=>exact⟨a,b,c,d,e,r,rfl,cm h⟩
theorem Wi{f:Nat}{cs:dj}{y:DataW H×List MemPlace}(h:DataW.trod enc Tryz.prog w base sp held f 27 cs=some y):∃v:VV,cs=v.enc/\nL v.int:=by
 obtain⟨n, -,o,d⟩:=rN [(3,0),(2,1),(9,2)] Tryz.underlying27 rfl h;obtain⟨a,b,c,rfl⟩:=aDJ (o.trans A2);obtain⟨_, -,e⟩:=d 0 3 0 rfl;obtain⟨_, -,g⟩:=d 1 2 1 rfl;obtain⟨_, -,j⟩:=d 2 9 2 rfl;simp only[HG,FB,K5,HF,A2,Ek,GY,Cj,GX,GW,GV,GU,Ci,zL,zM,List.drop,List.take]at e g j;obtain⟨k,rfl⟩:=Bi e;obtain⟨i,rfl,u⟩:=aBZ g;obtain⟨s,rfl⟩:=aBQ j;exact⟨⟨k,i,s⟩,rfl,u⟩
theorem Ij{f:Nat}{cs:dj}{y:DataW H×List MemPlace}(h:DataW.trod enc Tryz.prog w base sp held f 29 cs=some y):∃v:OV,cs=v.enc/\nL v.value.int:=by
 obtain⟨n, -,A,g⟩:=rN [(3,0),(3,1),(27,2)] Tryz.underlying29 rfl h;obtain⟨a,b,c,d,e,rfl⟩:=bTQ (A.trans Ek);obtain⟨_, -,j⟩:=g 0 3 0 rfl;obtain⟨_, -,o⟩:=g 1 3 1 rfl;obtain⟨_, -,u⟩:=g 2 27 2 rfl;simp only[HG,FB,K5,HF,A2,Ek,GY,Cj,GX,GW,GV,GU,Ci,zL,zM,List.drop,List.take]at j o u;obtain⟨k,rfl⟩:=Bi j;obtain⟨i,rfl⟩:=Bi o;obtain⟨v,z,B⟩:=Wi u;refine⟨⟨k,i,v⟩,?_,B⟩;simp only[VV.enc,List.cons.injEq,and_true]at z;obtain⟨rfl,rfl,rfl⟩:=z;rfl
theorem T0{h:PH}:∀{ps:dx}{vs:fc},ps.length=vs.length->(∀(i:Nat)(a:Pred)(v:PV),ps[i]? =some a->vs[i]? =some v->eA h a v)->nX h ps vs
 |[],vs,c,_=>length_eq_zero_iff.1 c.symm
 |p::ps,[],c,_=>by simp at c
 |p::ps,v::vs,c,d=>⟨v,vs,rfl,d 0 p v rfl rfl,T0 (cm c) λi a u e f=>d (i+1) a u (cm e) (cm f)⟩
theorem TZ{h:PH}:∀{ps:dt}{vs:eu},ps.length=vs.length->(∀(i:Nat)(a:Query)(v:QV),ps[i]? =some a->vs[i]? =some v->bR h a v)->pD h ps vs
 |[],vs,c,_=>length_eq_zero_iff.1 c.symm
 |p::ps,[],c,_=>by simp at c
 |p::ps,v::vs,c,d=>⟨v,vs,rfl,d 0 p v rfl rfl,TZ (by simpa using c) λi a u e f=>d (i+1) a u (by simpa using e) (by simpa using f)⟩
theorem bMJ(v:PV):∀u∈PV.enc v,noU u:=by
 intro u c n e;simp[PV.enc]at c;rcases c with h|h|h|h|h|h|h|h|h|h|h|h|h<;>(rw[h]at e;cases e)
theorem bMZ(v:QV):∀u∈QV.enc v,noU u:=by
 intro u c n e;simp[QV.enc]at c;rcases c with h|h|h|h|h|h|h|h|h|h|h|h|h|h|h|h|h|h|h|h|h<;>(rw[h]at e;cases e)
theorem adX:∀(f:Nat)(cs:dj)(x:DataW H×List MemPlace),DataW.trod enc Tryz.prog w base sp held f 32 cs=some x->uptoBulk x.1<=1048576->∃p v,cs=PV.enc v/\eA (hW w) p v/\sZ p:=by
 intro f
 induction f using Nat.strongRecOn with
 |ind f X=>
  intro cs x h hb;obtain⟨n,rfl,j,z⟩:=rN [(3,0),(3,1),(29,2),(29,7),(30,12)] Tryz.underlying32 rfl h;have j:cs.length=13:=j.trans Cj
  obtain⟨D,E,F,G,I,J,L,M,O,P,d,e,g,rfl⟩:∃D E F G I J L M O P d e g,cs=[D,E,F,G,I,J,L,M,O,P,d,e,g]:=by
   obtain⟨D,E,F,G,I,a,rfl,o⟩:=bRJ j;obtain⟨J,L,M,O,P,b,rfl,u⟩:=bRJ o;obtain⟨d,e,g,rfl⟩:=aDJ u;exact⟨_,_,_,_,_,_,_,_,_,_,_,_,_,rfl⟩
  obtain⟨_, -,Q⟩:=z 0 3 0 rfl;obtain⟨_, -,o⟩:=z 1 3 1 rfl;obtain⟨_, -,u⟩:=z 2 29 2 rfl;obtain⟨_, -,R⟩:=z 3 29 7 rfl;obtain⟨y4,b4,S⟩:=z 4 30 12 rfl;simp only[HG,FB,K5,HF,A2,Ek,GY,Cj,GX,GW,GV,GU,Ci,zL,zM,List.drop,List.take]at Q o u R S;obtain⟨op,rfl⟩:=Bi Q;obtain⟨A,rfl⟩:=Bi o;obtain⟨l,j,Y⟩:=Ij u;obtain⟨r,T,Z⟩:=Ij R;obtain⟨s,ps,vs,U,B,C,a',V⟩:=uT (w:=w) Tryz.underlying30 Cj aC PV.enc bMJ (λp v=>eA (hW w) p v/\sZ p) S (λm c y hm hy hc=>X m aC c y hc aC);simp only[OV.enc,List.cons.injEq,and_true]at j T U;obtain⟨rfl,rfl,rfl,rfl,rfl⟩:=j;obtain⟨rfl,rfl,rfl,rfl,rfl⟩:=T;subst U
  exact⟨.mk op A l r ps,⟨op,A,l,r,s⟩,rfl,⟨rfl,rfl,rfl,rfl,aC,vs,B,T0 C λi a v o u=>(V i a v o u).1⟩,Y,Z,pP.2 λa ha=>by
   obtain⟨i,W⟩:=mem_iff_getElem?.1 ha;have a0:=(cn W);exact(V i a _ W (cq aC)).2⟩
theorem EZ{f:Nat}{cs:dj}{x:DataW H×List MemPlace}(h:DataW.trod enc Tryz.prog w base sp held f 33 cs=some x)(C:uptoBulk x.1<=1048576):∃(s:Sl)(l:dm),cs=[.slice s.a s.len s.cap]/\Ints (hW w) s l:=by
 obtain⟨s,ps,o,z,d,g,A,D⟩:=uT (w:=w) (α:=Unit) (β:=Int) Tryz.underlying33 FB aC eI (λv u j n e=>by simp[eI]at j;rw[j]at e;cases e) (λ_ _=>True) h (λm c y _ _ B=>by
  obtain⟨k,e, -⟩:=DataW.trod_int Tryz.underlying3 B;exact⟨(),k,e,trivial⟩)
 exact⟨s,o,z,d,aC⟩
theorem bCZ{l:dj}(h:l.length=2):∃a b,l=[a,b]:=by
 match l,h with|[a,b],_=>exact⟨a,b,rfl⟩
theorem Wk{f:Nat}{cs:dj}{x:DataW H×List MemPlace}(h:DataW.trod enc Tryz.prog w base sp held f 35 cs=some x)(I:uptoBulk x.1<=1048576):∃(s:Sl)(l:dr),cs=[.slice s.a s.len s.cap]/\jU (hW w) s l:=by
 obtain⟨s,ps,C,D,g,j,E,J⟩:=uT (w:=w) (α:=Unit) (β:=Int×Bool) Tryz.underlying35 zL aC pO (λv u o n e=>by simp[pO]at o;rcases o with h|h<;>(rw[h]at e;cases e)) (λ_ _=>True) h (λm c y _ _ F=>by
  obtain⟨n, -,G,z⟩:=rN [(3,0),(4,1)] Tryz.underlying103 rfl F;obtain⟨a,b,rfl⟩:=bCZ (G.trans zL);obtain⟨_, -,A⟩:=z 0 3 0 rfl;obtain⟨_, -,B⟩:=z 1 4 1 rfl;simp only[HG,FB,K5,HF,A2,Ek,GY,Cj,GX,GW,GV,GU,Ci,zL,zM,List.drop,List.take]at A B;obtain⟨k,rfl⟩:=Bi A;obtain⟨d,rfl⟩:=bLZ B;exact⟨(),(k,d),rfl,trivial⟩)
 exact⟨s,C,D,g,aC⟩
theorem Wm{f:Nat}{cs:dj}{x:DataW H×List MemPlace}(h:DataW.trod enc Tryz.prog w base sp held f 34 cs=some x)(I:uptoBulk x.1<=1048576):∃(s:Sl)(l:dp),cs=[.slice s.a s.len s.cap]/\lE (hW w) s l:=by
 obtain⟨s,ps,D,z,g,A,E,J⟩:=uT (w:=w) (α:=Unit) (β:=Int×Int) Tryz.underlying34 zM aC mJ (λv u B n e=>by simp[mJ]at B;rcases B with h|h<;>(rw[h]at e;cases e)) (λ_ _=>True) h (λm c y _ _ F=>by
  obtain⟨xs,n, -, -,G,z,C⟩:=DataW.trod_array Tryz.underlying101 F;obtain⟨a,b,rfl⟩:=bCZ (G.trans zM);have j:=C 0 aC;have o:=C 1 aC;rw[cq aC]at j o;simp only[HG,FB,K5,HF,A2,Ek,GY,Cj,GX,GW,GV,GU,Ci,zL,zM,List.drop,List.take,Nat.zero_mul,Nat.one_mul]at j o;obtain⟨k,rfl⟩:=Bi j;obtain⟨d,rfl⟩:=Bi o;exact⟨(),(k,d),rfl,trivial⟩)
 exact⟨s,D,z,g,aC⟩
theorem Wl:∀(f:Nat)(cs:dj)(x:DataW H×List MemPlace),DataW.trod enc Tryz.prog w base sp held f 38 cs=some x->uptoBulk x.1<=1048576->∃q v,cs=QV.enc v/\bR (hW w) q v/\QN q:=by
 intro f
 induction f using Nat.strongRecOn with
 |ind f ih=>
  intro cs x h hb;obtain⟨n,rfl,e,d⟩:=rN [(3,0),(3,1),(32,2),(33,15),(34,16),(33,17),(35,18),(3,19),(36,20)] Tryz.underlying38 rfl h;have e:cs.length=21:=e.trans Ci
  obtain⟨u,z,l,rfl⟩:∃u z l,cs=u::z::l:=by
   obtain⟨u,l,rfl⟩:=exists_cons_of_length_pos (l:=cs) aC;obtain⟨z,l,rfl⟩:=exists_cons_of_length_pos (l:=l) (by simp at e;omega);exact⟨u,z,l,rfl⟩
  have e:l.length=19:=cm e
  obtain⟨_, -,R⟩:=d 0 3 0 rfl;obtain⟨_, -,g⟩:=d 1 3 1 rfl;obtain⟨y2,b2,A⟩:=d 2 32 2 rfl;obtain⟨y3,b3,S⟩:=d 3 33 15 rfl;obtain⟨y4,b4,T⟩:=d 4 34 16 rfl;obtain⟨y5,b5,U⟩:=d 5 33 17 rfl;obtain⟨y6,b6,V⟩:=d 6 35 18 rfl;obtain⟨y7,b7,C⟩:=d 7 3 19 rfl;obtain⟨y8,b8,W⟩:=d 8 36 20 rfl;simp only[HG,FB,K5,HF,A2,Ek,GY,Cj,GX,GW,GV,GU,Ci,zL,zM,List.drop,List.take]at R g A S T U V C W;obtain⟨op,rfl⟩:=Bi R;obtain⟨ta,rfl⟩:=Bi g;obtain⟨p,pv,hp,rp,pn⟩:=adX _ _ _ A aC;obtain⟨co,D,X,r3⟩:=EZ S aC;obtain⟨on,E,Y,r4⟩:=Wm T aC;obtain⟨gr,F,Z,r5⟩:=EZ U aC;obtain⟨od,G,e6,r6⟩:=Wk V aC;obtain⟨s,ps,vs,hs,j,o,a',hq⟩:=uT (w:=w) Tryz.underlying36 Ci aC QV.enc bMZ (λq v=>bR (hW w) q v/\QN q) W (λm c y hm hy hc=>ih m aC c y hc aC);obtain⟨B,I⟩:∃B,l=PV.enc pv++B:=⟨l.drop 13,by rw[<-hp,take_append_drop]⟩
  subst I;have e:B.length=6:=by simpa[PV.enc]using e
  obtain⟨J,L,M,O,P,Q,rfl⟩:∃J L M O P Q,B=[J,L,M,O,P,Q]:=by
   obtain⟨J,L,M,O,P,a,rfl,g⟩:=bRJ (n:=1) e;obtain⟨Q,rfl⟩:=length_eq_one_iff.1 g;exact⟨_,_,_,_,_,_,rfl⟩
  simp[PV.enc]at X Y Z e6 C hs;obtain⟨li,rfl⟩:=Bi C;subst X Y Z e6 hs
  exact⟨.mk op ta p D E F G li ps,⟨op,ta,pv,co,on,gr,od,li,s⟩,rfl,⟨rfl,rfl,rp,r3,r4,r5,r6,rfl,aC,vs,j,TZ o λi a v g A=>(hq i a v g A).1⟩,Hk.2 ⟨pn,λa ha=>by
   obtain⟨i,hi⟩:=mem_iff_getElem?.1 ha;have a0:=(cn hi);exact(hq i a _ hi (cq aC)).2⟩⟩
end
open Go.Proofs.YtjpjambjoceofaaGreatDoor.Rows (uptoBulk uptoBulkAll)
section
variable{H:Type}{enc:TypeId×Value->H}{w:World}{base:Nat}{sp:Nat->Bool}{held:Bool}
theorem J0{α β:Type}{T e:TypeId}{sz:Nat}(D:Tryz.prog.underlying T=some (.slice e))(z:Tryz.prog.cellsOf e=sz)(E:0<sz)(j:β->dj)(A:∀v,∀u∈j v,noU u)(Q:α->β->Prop)
 {f:Nat}{cs:dj}{x:DataW H×List MemPlace}(h:DataW.trod enc Tryz.prog w base sp held f T cs=some x)(M:uptoBulk x.1<=1048576)
 (B:∀(n:Nat)(c:dj)(y:DataW H×List MemPlace),uptoBulk y.1<=1048576->DataW.trod enc Tryz.prog w base sp held n e c=some y->∃a v,c=j v/\Q a v):
 ∃(s:Sl)(ps:List α),cs=[.slice s.a s.len s.cap]/\aZ (hW w) sz j Q s ps/\ps.length<=1048576:=by
 obtain⟨s,ps,o,F,d,g,G,I⟩:=uT D z E j A Q h (λn c y _ O J=>B n c y aC J);refine⟨s,ps,F,⟨⟨o,d,g,λi a C=>?_⟩,aC⟩,aC⟩;have L:=(cn C);have e:o[i]? =some o[i]:=cq aC;exact⟨o[i],e,I i a _ C e⟩
theorem bMX(v:VV):∀u∈VV.enc v,noU u:=by
 intro u c n e;simp[VV.enc]at c;rcases c with h|h|h<;>(rw[h]at e;cases e)
theorem aCJ(s:Sl):∀u∈eS s,noU u:=by
 intro u c n e;simp[eS]at c;rw[c]at e;cases e
theorem bzX:Tryz.prog.cellsOf 94=1:=bu
theorem bzZ:Tryz.prog.cellsOf 53=1:=bu
theorem bAQ:Tryz.prog.cellsOf 23=1:=bu
theorem bzJ:Tryz.prog.cellsOf 25=1:=bu
theorem bhX{f:Nat}{c:Value}{y:DataW H×List MemPlace}(h:DataW.trod enc Tryz.prog w base sp held f 3 [c]=some y):∃k,c= .int .i64 k/\nL k:=by
 obtain⟨k,e, -,d⟩:=DataW.trod_int Tryz.underlying3 h;exact⟨k,cm e,bounds_i64 d⟩
theorem Ua{f:Nat}{cs:dj}{y:DataW H×List MemPlace}(h:DataW.trod enc Tryz.prog w base sp held f 27 cs=some y):∃v:VV,cs=v.enc/\nL v.kind/\nL v.int:=by
 obtain⟨n, -,o,d⟩:=rN [(3,0),(2,1),(9,2)] Tryz.underlying27 rfl h;obtain⟨a,b,c,rfl⟩:=aDJ (o.trans A2);obtain⟨_, -,e⟩:=d 0 3 0 rfl;obtain⟨_, -,g⟩:=d 1 2 1 rfl;obtain⟨_, -,j⟩:=d 2 9 2 rfl;simp only[HG,FB,HF,List.drop,List.take]at e g j;obtain⟨k,rfl,u⟩:=bhX e;obtain⟨i,rfl,z⟩:=aBZ g;obtain⟨s,rfl⟩:=aBQ j;exact⟨⟨k,i,s⟩,rfl,u,z⟩
theorem JY{α β:Type}{d:β->dj}{Q:α->β->Prop}{P:α->Prop}{s:Sl}{l:List α}(x:aZ h sz d (λa b=>Q a b/\P a) s l):aZ h sz d Q s l/\∀a∈l,P a:=by
 obtain⟨⟨j,n,o,f⟩,u⟩:=x;refine⟨⟨⟨j,n,o,λi a e=>?_⟩,u⟩,λa y=>?_⟩
 .obtain⟨v,g,c⟩:=f i a e;exact⟨v,g,c.1⟩
 .obtain⟨i,e⟩:=mem_iff_getElem?.1 y;obtain⟨v,g,c⟩:=f i a e;exact c.2
theorem aBX{f:Nat}{cs:dj}{x:DataW H×List MemPlace}(h:DataW.trod enc Tryz.prog w base sp held f 94 cs=some x)(d:uptoBulk x.1<=1048576):∃(r:dn)(s:Sl),cs=eS s/\bI (hW w) s r/\∀v∈r,nL v.kind/\nL v.int:=by
 obtain⟨s,ps,g,j, -⟩:=J0 (w:=w) Tryz.underlying94 A2 aC VV.enc bMX (λa v=>a=v/\(nL a.kind/\nL a.int)) h d (λn c y _ o=>by
  obtain⟨v,e,u⟩:=Ua o;exact⟨v,v,e,rfl,u⟩)
 obtain⟨z,A⟩:=JY j;exact⟨ps,s,g,z,A⟩
theorem adQ{f:Nat}{cs:dj}{x:DataW H×List MemPlace}(h:DataW.trod enc Tryz.prog w base sp held f 53 cs=some x)(d:uptoBulk x.1<=1048576):∃(l:dl)(s:Sl),cs=eS s/\Go.Ps.Rows (hW w) s l/\∀r∈l,∀v∈r,nL v.kind/\nL v.int:=by
 obtain⟨s,ps,e,g, -⟩:=J0 (w:=w) Tryz.underlying53 bzX aC eS aCJ (λr t=>bI (hW w) t r/\∀v∈r,nL v.kind/\nL v.int) h d (λn c y j o=>aBX o j);obtain⟨u,z⟩:=JY g;exact⟨ps,s,e,u,z⟩
theorem Wj{f:Nat}{cs:dj}{x:DataW H×List MemPlace}(h:DataW.trod enc Tryz.prog w base sp held f 25 cs=some x)(C:uptoBulk x.1<=1048576):∃(st:List dl)(s:Sl),cs=eS s/\Leaves (hW w) s st/\V7 st/\st.length<=1048576:=by
 obtain⟨n, -,d,j⟩:=rN [(23,0)] Tryz.underlying25 rfl h;obtain⟨c,rfl⟩:=length_eq_one_iff.1 (d.trans bzJ);obtain⟨y,e,g⟩:=j 0 23 0 rfl;simp only[bAQ,List.drop,List.take]at g;obtain⟨s,ps,o,u,d⟩:=J0 (w:=w) Tryz.underlying23 bzZ aC eS aCJ (λl t=>Go.Ps.Rows (hW w) t l/\∀r∈l,∀v∈r,nL v.kind/\nL v.int) g aC (λn c y e z=>adQ z e);obtain⟨A,B⟩:=JY u;exact⟨ps,s,o,A,B,d⟩
end
end Go.Ps
