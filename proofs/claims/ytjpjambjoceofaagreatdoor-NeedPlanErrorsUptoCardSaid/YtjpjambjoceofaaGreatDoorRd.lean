/- Own work. -/
import Derived.Test.YtjpjambjoceofaaGreatDoorRc
set_option linter.unusedVariables false
set_option linter.unusedSimpArgs false
namespace Go.Ps
open Go Go.Vc Go.Proofs List Tryz
variable{K:cr}{m:MH}{h:PH}{s:jB}{ps:cq}{cb:Nat}{sc:bW}{v:QV}{p:Pred}{l:cq}{i:Nat}{N:Nat}{m':MH}{h':PH}{co:cq}{gr:cq}{od:cv}{ta:Int}{li:Int}{xs:List cn}{sz:Nat}{ks:List cq}{rs:cq}{r:Sl}{a:cq}{b:Nat}
def cF(h:PH)(s:Sl)(l:cw):Prop:=bZ h 3 VV.enc Eq s l
theorem cF.mono{s:Sl}{l:cw}(x:cF h s l)(le:PH.le h h'):cF h' s l:=bZ.mono x le λ_ _ e=>e
def iC(ps:cw)(o:OV):OV:=if o.kind=2/\0<=o.index/\o.index<ps.length then⟨3,0,ps.getD o.index.toNat zeroV⟩else o
mutual
def Fh(ps:cw):Pred->Pred
 |.mk op c l r args=>.mk op c (iC ps l) (iC ps r) (Ga ps args)
def Ga(ps:cw):dg->dg
 |[]=>[]
 |p::r=>Fh ps p::Ga ps r
end
theorem Ph(ps:cw):∀l,Ga ps l=l.map (Fh ps)
 |[]=>by simp[Ga]
 |p::r=>by simp[Ga,Ph ps r]
theorem aDX(o:OV):iC [] o=o:=by unfold iC;grind
mutual
theorem LP:∀p,Fh [] p=p
 |.mk op c l r args=>by simp only[Fh,aDX,Pg args]
theorem Pg:∀l,Ga [] l=l
 |[]=>by simp[Ga]
 |p::r=>by simp only[Ga,LP p,Pg r]
end
def pU:QV:=⟨0,0,fS,⟨none,0,0⟩,⟨none,0,0⟩,⟨none,0,0⟩,⟨none,0,0⟩,0,⟨none,0,0⟩⟩
def boZ:Vc.Spec:=λc m h K=>∃o s ps,c=[aO o,cS s]/\cF h s ps/\K (aO (iC ps o)) m h
def bUZ(N:Nat):Vc.Spec:=λc m h K=>∃v s p ps,c=[aP v,cS s]/\dO h p v/\cF h s ps/\SizeOf.sizeOf p<N/\∀d h',PH.le h h'->dO h' (Fh ps p) d->K (aP d) m h'
def boJ:Vc.Spec:=λc m h K=>∃v s p ps,c=[aP v,cS s]/\dO h p v/\cF h s ps/\∀d h',PH.le h h'->dO h' (Fh ps p) d->K (aP d) m h'
def bnQ(N:Nat):Vc.Spec:=λc m h K=>∃v q,c=[aQ v]/\cJ h q v/\SizeOf.sizeOf q<N/\∀d h',PH.le h h'->cJ h' q d->K (aQ d) m h'
def bnZ:Vc.Spec:=λc m h K=>∃v q,c=[aQ v]/\cJ h q v/\∀d h',PH.le h h'->cJ h' q d->K (aQ d) m h'
noncomputable def bvJ(N:Nat)(v:PV)(s:Sl)(m:MH)(h:PH):Ctx:=
 dD [(96,bUZ N),(171,boZ)] [(3,{A:=Nat×OV×OV×dr×PH,st:=λ⟨i,l,r,c,h⟩=>bQ 40 42 [(1,sv s),(2,.at (.ptr 2 0)),(4,.at (.ptr 4 0)),(5,.at (.ptr 5 0)),(22,iv v.args.len),(23,iv i)] [(2,.cells 32 (v.enc.map .val)),(4,.cells 32 (fS.enc.map .val)),(5,.cells 32 (([Value.int .i64 v.op,Value.int .i64 v.cmp]++l.enc++r.enc).map .val++[.lst 36])),(36,.lst 32 13 (c.map PV.enc))] m h})] [(2,{A:=OV×OV,st:=λ⟨l,r⟩=>bQ 40 42 [(1,sv s),(2,.at (.ptr 2 0)),(4,.at (.ptr 4 0)),(5,.at (.ptr 5 0))] [(2,.cells 32 (v.enc.map .val)),(4,.cells 32 (fS.enc.map .val)),(5,.cells 32 (([Value.int .i64 v.op,Value.int .i64 v.cmp]++l.enc++r.enc++[Value.slice none 0 0]).map .val))] m h})] [] false
noncomputable def bAZ(N:Nat)(v:QV)(co:cq)(on:cu)(gr:cq)(od:cv)(m:MH):Ctx:=
 dD [(96,boJ),(49,bnQ N)] [(9,{A:=Nat×PV×dn×PH,st:=λ⟨i,w,c,h⟩=>bQ 46 47 [(1,.at (.ptr 1 0)),(2,.at (.ptr 2 0)),(3,.at (.ptr 3 0)),(29,iv v.args.len),(30,iv i)] [(1,.cells 38 (v.enc.map .val)),(2,.cells 38 (pU.enc.map .val)),(3,.cells 38 (([Value.int .i64 v.op,Value.int .i64 v.table]++w.enc).map .val++[.lst 12,.lst 16,.lst 20,.lst 24,.val (.int .i64 v.limit),.lst 42])),(12,.lst 3 1 (co.map eI)),(16,.lst 101 2 (on.map kY)),(20,.lst 3 1 (gr.map eI)),(24,.lst 103 2 (od.map sJ)),(42,.lst 38 21 (c.map QV.enc))] m h})] [] [] false
def Rr(o:OV)(s:Sl)(m:MH)(h:PH)(K:cr):Prop:=
  dW o.kind 2 (gA o.index 0 (aX o.index (aH s) (bI (λb c=>aA (bK s.a b c) (0<=o.index) (o.index<aH s/\∃(y:VV),aU m h b (fT c o.index 3) y.enc/\K (fM (aL (eN 3) cW (aL (eN y.kind) (eN y.int) (lD (Value.string y.text))))) m h))) (K (fM o.enc) m h)) (K (fM o.enc) m h)) (K (fM o.enc) m h)
abbrev qO(a:Sl->cw->Prop):Prop:=∃(x:Sl)(c:cw),a x c
abbrev mE:Prop:=eQ (oQ 32 zP)
abbrev Cv(a b:dj):Prop:=oQ 32 a=oQ 32 b
noncomputable abbrev sI(a:OV):At:=fV a.index
noncomputable abbrev sE(a:OV):At:=fV (A8 a)
noncomputable abbrev sF(a:OV):At:=TE (IT a)
noncomputable abbrev M5(a:PV)(b:OV×OV):dj:=cQ (fV a.op) (fV a.cmp) (cQ (fV b.1.kind) (sI b.1) (cQ (sE b.1) (fV (wO b.1)) (cQ (sF b.1) (fV b.2.kind) (cQ (sI b.2) (sE b.2) (cQ (fV (wO b.2)) (sF b.2) (nL Fq))))))
noncomputable abbrev BY(a:Nat×OV×OV×dr×PH):OV:=a.2.2.1
noncomputable abbrev M6(a:PV)(b:Nat×OV×OV×dr×PH):dj:=cQ (fV a.op) (fV a.cmp) (cQ (fV b.2.1.kind) (sI b.2.1) (cQ (sE b.2.1) (fV (wO b.2.1)) (cQ (sF b.2.1) (fV (BY b).kind) (cQ (sI (BY b)) (sE (BY b)) (cQ (fV (wO (BY b))) (sF (BY b)) (nL (At.lst 36)))))))
noncomputable abbrev Ef(a:Nat×OV×OV×dr×PH):List cn:=List.map PV.enc a.2.2.2.1
noncomputable abbrev CB(a:Nat×OV×OV×dr×PH):Nat->Nat->Option Value:=a.2.2.2.2
abbrev CN(a:PV->Sl->Pred->cw->Prop):Prop:=∃(x:PV)(c:Sl)(d:Pred)(e:cw),a x c d e
abbrev Cy(a:PH)(b:Pred)(c:PV->PH->Prop):Prop:=∀(x:PV)(d:PH),cZ a d (dO d b x) (c x d)
attribute [push_cast] qO mE Cv sI sE sF M5 BY M6 Ef CB CN Cy
def U1(N:Nat)(v:PV)(s:Sl)(m:MH)(h:PH)(K:cr):Prop:=
  ∃(I:OV×OV->Prop),((∃(o:OV),qO (λf p=>aA (fZ (fM (uN v)) s=fZ (fM o.enc) f) (cF h f p) ((∃(e:OV),qO (λg d=>aA (fZ (fM (vA v)) s=fZ (fM e.enc) g) (cF h g d) (∃(x:OV×OV),aA (I x) (aI s) (aA eK iS (aA dN (gM v) (aA mE (Cv (cQ (fV v.op) (fV v.cmp) (cQ (At.val (j4 (iC p o))) (At.val (qC (iC p o))) (cQ (At.val (jY (iC p o))) (At.val (qP (iC p o))) (cQ (At.val (mN (iC p o))) (At.val (j4 (iC d e))) (cQ (At.val (qC (iC d e))) (At.val (jY (iC d e))) (cQ (At.val (qP (iC d e))) (At.val (mN (iC d e))) (nL Fq))))))) (M5 v x)) (bP (m=m) h h)))))))/\∃(e:OV),qO (λg d=>aA (fZ (fM (vA v)) s=fZ (fM e.enc) g) (cF h g d) (∃(x:OV×OV),aA (I
 x) (aI s) (aA eK iS (aA dN (gM v) (aA mE (Cv (cQ (fV v.op) (fV v.cmp) (cQ (At.val (j4 (iC p o))) (At.val (qC (iC p o))) (cQ (At.val (jY (iC p o))) (At.val (qP (iC p o))) (cQ (At.val (mN (iC p o))) (At.val (j4 (iC d e))) (cQ (At.val (qC (iC d e))) (At.val (jY (iC d e))) (cQ (At.val (qP (iC d e))) (At.val (mN (iC d e))) (nL Fq))))))) (M5 v x)) (bP (m=m) h h)))))))))/\∃(o:OV),qO (λf p=>aA (fZ (fM (uN v)) s=fZ (fM o.enc) f) (cF h f p) (∃(e:OV),qO (λg d=>aA (fZ (fM (vA v)) s=fZ (fM e.enc) g) (cF h g d) (∃(x:OV×OV),aA (I x) (aI s) (aA eK iS (aA dN (gM v) (aA mE (Cv (cQ (fV v.op) (fV v.cmp) (cQ (At.val (j4 (iC p o))) (At.val (qC
 (iC p o))) (cQ (At.val (jY (iC p o))) (At.val (qP (iC p o))) (cQ (At.val (mN (iC p o))) (At.val (j4 (iC d e))) (cQ (At.val (qC (iC d e))) (At.val (jY (iC d e))) (cQ (At.val (qP (iC d e))) (At.val (mN (iC d e))) (nL Fq))))))) (M5 v x)) (bP (m=m) h h)))))))))/\∀(x:OV×OV),I x->∃(I1:Nat×OV×OV×dr×PH->Prop)(t:Nat×OV×OV×dr×PH->Nat),(∃(c:Nat×OV×OV×dr×PH),aA (I1 c) (aI s) (aA eK iS (aA dN (uY v) (aA (bB c.1) (gM v) (aA mE (Cv (cQ (fV v.op) (fV v.cmp) (cQ (fV x.1.kind) (sI x.1) (cQ (sE x.1) (fV (wO x.1)) (cQ (sF x.1) (fV x.2.kind) (cQ (sI x.2) (sE x.2) (cQ (fV (wO x.2)) (sF x.2) (nL (At.lst 36)))))))) (M6 v c)) (aA (qG 32 13 (Ef c)) (m
 =m) (bL h (CB c))))))))/\∀(c:Nat×OV×OV×dr×PH),I1 c->aX (↑c.1:Int) (aH v.args) (bI (λb o=>aA (bK v.args.a b o) (0<=(↑c.1:Int)) ((↑c.1:Int)<aH v.args/\∃(y:PV),aU m (CB c) b (bN o c.1 13) y.enc/\CN (λu f p d=>aA (fZ (jU y) s=fZ (jU u) f) (dO (CB c) p u) (aA (cF (CB c) f d) (pB p N) (Cy (CB c) (Fh d p) (λz n=>aA (aU m n b (bN o c.1 13) y.enc) (bM n b (bN o c.1 13) y.enc) (aA (iM (qR (Ef c) 1*136)) (A0 (Ef c)) (∃(j:Nat×OV×OV×dr×PH),aA (I1 j) (t j<t c) (aA (aI s) eK (aA iS dN (aA (uY v) (bD (gG (bF c.1 1)) j.1) (aA (gM v) mE (aA (Cv (M6 v c) (M6 v j)) (Option.some (Own.lst 32 13 (fK
 (Ef c) z.enc))=Option.some (Own.lst 32 13 (Ef j))) (bP (m=m) n (CB j)))))))))))))))) (bU (CB c) 13 (Ef c) (λf n=>K (fM (aL (eN v.op) (eN v.cmp) (aL (j4 c.2.1) (qC c.2.1) (aL (jY c.2.1) (qP c.2.1) (aL (mN c.2.1) (j4 (BY c)) (aL (qC (BY c)) (jY (BY c)) (aL (qP (BY c)) (mN (BY c)) (aY f)))))))) m n))
noncomputable abbrev EL(a:QV):Sl:=gJ a.columns
abbrev eH:Prop:=eQ (oQ 38 zQ)
abbrev Bj(a b:dj):Prop:=oQ 38 a=oQ 38 b
noncomputable abbrev IY(a:QV)(b:PV):dj:=cQ (fV a.op) (pD a) (pQ b (cQ (At.lst 12) (At.lst 16) (cQ (At.lst 20) (At.lst 24) (lL (fV a.limit) (At.lst 42)))))
noncomputable abbrev oE(a:Nat×PV×dn×PH):PV:=a.2.1
abbrev Be(a b:List cn):Prop:=Option.some (Own.lst 3 1 a)=Option.some (Own.lst 3 1 b)
noncomputable abbrev A1(a:cu):List cn:=List.map kY a
noncomputable abbrev Oi(a:cv):List cn:=List.map sJ a
noncomputable abbrev Eg(a:Nat×PV×dn×PH):List cn:=List.map QV.enc a.2.2.1
noncomputable abbrev tE(a:PV):Value:=j4 a.left
noncomputable abbrev tF(a:PV):Value:=qC a.left
noncomputable abbrev sA(a:PV):Value:=qP a.left
noncomputable abbrev sB(a:PV):Value:=mN a.left
noncomputable abbrev sD(a:PV):Value:=j4 a.right
noncomputable abbrev tH(a:PV):Value:=qC a.right
noncomputable abbrev tI(a:PV):Value:=jY a.right
noncomputable abbrev tJ(a:PV):Value:=qP a.right
noncomputable abbrev tK(a:PV):Value:=mN a.right
attribute [push_cast] EL eH Bj IY oE Be A1 Oi Eg tE tF sA sB sD tH tI tJ tK
def OO(N:Nat)(v:QV)(co:cq)(on:cu)(gr:cq)(od:cv)(m:MH)(h:PH)(K:cr):Prop:=
  CN (λt s p u=>aA (gZ (jU v.where_) jQ=fZ (jU t) s) (dO h p t) (cF h s u/\Cy h (Fh u p) (λC e=>∃(y:List cn),jI 1 y (cC e (EL v) 1 y) (iM (y.length*8)) (iM y.length) (∃(f:List cn),jI 2 f (cC e (gJ v.on) 2 f) (iM (f.length*16)) (iM f.length) (∃(g:List cn),jI 1 g (cC e (gJ v.group) 1 g) (iM (g.length*8)) (iM g.length) (∃(j:List cn),jI 2 j (cC e (gJ v.order) 2 j) (iM (j.length*16)) (iM j.length) (∃(I:Nat×PV×dn×PH->Prop)(z:Nat×PV×dn×PH->Nat),(∃(x:Nat×PV×dn×PH),aA (I x) eG (aA eK cG (aA (wA v) (bB x.1) (aA (eY v) eH (aA (Bj (IY v C) (IY v (oE x))) (Be y (jK co)) (aA
 (Option.some (Own.lst 101 2 f)=Option.some (Own.lst 101 2 (A1 on))) (Be g (jK gr)) (aA (Option.some (Own.lst 103 2 j)=Option.some (Own.lst 103 2 (Oi od))) (qG 38 21 (Eg x)) (aA (m=m) (e=x.2.2.2) True))))))))/\∀(x:Nat×PV×dn×PH),I x->aX (↑x.1:Int) (aH v.args) (bI (λb o=>aA (bK v.args.a b o) (0<=(↑x.1:Int)) ((↑x.1:Int)<aH v.args/\∃(n:QV),aU m x.2.2.2 b (bN o x.1 21) n.enc/\qF (λA q=>aA (fP (eC n) (eC A)) (cJ x.2.2.2 q A) (xE q N/\∀(B:QV)(c:PH),cZ x.2.2.2 c (cJ c q B) (aA (aU m c b (bN o x.1 21) n.enc) (bM c b (bN o x.1 21) n.enc) (aA (iM (qR (Eg x) 1*280)) (A0 (Eg x)) (∃(d:Nat×PV×dn×PH),aA (I d) (z d<z x) (aA eG eK (aA cG (wA v) (aA (bD (gG
 (bF x.1 1)) d.1) (eY v) (aA eH (Bj (IY v (oE x)) (IY v (oE d))) (aA (eQ (Option.some (Own.lst 3 1 (jK co)))) (eQ (Option.some (Own.lst 101 2 (A1 on)))) (aA (eQ (Option.some (Own.lst 3 1 (jK gr)))) (eQ (Option.some (Own.lst 103 2 (Oi od)))) (aA (Option.some (Own.lst 38 21 (fK (Eg x) B.enc))=Option.some (Own.lst 38 21 (Eg d))) (m=m) (bL c d.2.2.2)))))))))))))))) (bU x.2.2.2 1 (jK co) (λD c=>bU c 2 (A1 on) (λE F=>bU F 1 (jK gr) (λG H=>bU H 2 (Oi od) (λJ L=>bU L 21 (Eg x) (λM O=>K (fM (aL (eN v.op) (pF v) (aL (eN (oE x).op) (eN (oE x).cmp) (aL (tE (oE x)) (tF (oE x)) (aL (eN (A8 (oE x).left)) (sA (oE x)) (aL (sB (oE x)) (sD (oE x)) (aL (tH
 (oE x)) (tI (oE x)) (aL (tJ (oE x)) (tK (oE x)) (aL (hJ (oE x).args) (hJ D) (aL (hJ E) (hJ G) (aL (hJ J) (BX v) (aY M)))))))))))) m O)))))))))))))
theorem Yb:cm 171 boZ:=by
 refine iH func171 ?_;rintro n m h K ⟨o,s,ps,rfl,f,c⟩;refine⟨dD [] [] [] [] false,rfl,aG,Rr o s m h K,ax,?_⟩;dsimp only[Rr,push_cast];have u:=bZ.slen f;unfold iC at c;refine aC (λd=>aF (λg=>aF (λj=>?_) (λj=>?_)) (λg=>?_)) (λd=>?_)
 .have d:o.kind=2:=bg
  rw[if_pos ⟨d,g,aD⟩]at c
  have t:ps[o.index.toNat]? =some (ps.getD o.index.toNat zeroV):=by
   grind
  obtain⟨b,off,v,e,r,rfl⟩:=bZ.at f t;exact⟨b,off,e,aD,j,_,.imm r,c⟩
 .rw[if_neg (λe=>by omega)]at c;exact c
 .rw[if_neg (λe=>by omega)]at c;exact c
 .have d:o.kind≠2:=bg
  rw[if_neg (λe=>d e.1)]at c;exact c
theorem Qk{α β:Type}{ps:List α}{us:List β}{i:Nat}{R R':α->β->Prop}{q:α}{v:β}(e:i<=ps.length)(c:us.length=i)(f:ps[i]? =some q)(d:∀(j:Nat) x,(ps.take i)[j]? =some x->∃u,us[j]? =some u/\R x u)(g:∀x u,R x u->R' x u)(n:R' q v):
 ∀(j:Nat) x,(ps.take (i+1))[j]? =some x->∃u,(us++[v])[j]? =some u/\R' x u:=by
 grind
theorem ZP:∀N,cm 96 (bUZ N)
 |0=>by
  refine eD (fn:=Tryz.f96) (c:=cA Tryz.f96) func96 rfl az ?_;rintro B m h K ⟨v,s,p,ps,rfl,_,_,P,_⟩;omega
 |N+1=>by
  refine iH func96 ?_;rintro B m h K ⟨v,s,p,ps,rfl,Q,C,P,J⟩;refine⟨bvJ N v s m h,rfl,aE (ZP N) (aE Yb aG),U1 N v s m h K,ax,?_⟩;dsimp only[U1,push_cast];have g:=@vZ p;obtain⟨op,R,l,r,D⟩:=p;obtain⟨rfl,rfl,rfl,rfl,E⟩:=Q.parts;have S:=E.slen;have L:=E.len;simp only[Pred.args]at g;simp only[Fh,Ph]at J;refine⟨λx=>x=(iC ps v.left,iC ps v.right),?_,?_⟩
  .repeat' (first|exact⟨(iC ps v.left,iC ps v.right),rfl,MT⟩|refine⟨v.left,s,ps,rfl,C,?_⟩|refine⟨v.right,s,ps,rfl,C,?_⟩|apply And.intro)
  rintro _ rfl;dsimp only;refine⟨λ⟨i,l,r,o,f⟩=>l=iC ps v.left/\r=iC ps v.right/\i<=D.length/\PH.le h f/\o.length=i/\∀(j:Nat) x,(D.take i)[j]? =some x->∃u,o[j]? =some u/\dO f (Fh ps x) u,λ⟨i,_,_,_,_⟩=>D.length-i,⟨(0,iC ps v.left,iC ps v.right,[],h),⟨rfl,rfl,aD,.refl _,rfl,λj x f=>by simp at f⟩,MT⟩,?_⟩;rintro⟨i,_,_,o,f⟩ ⟨rfl,rfl,T,e,t,n⟩;dsimp only;refine aF (λz=>?_) (λU M h' d A=>J ⟨v.op,v.cmp,iC ps v.left,iC ps v.right,M⟩ h' (e.trans d) (dO.mk (v:=⟨v.op,v.cmp,iC ps v.left,iC ps v.right,M⟩) ⟨⟨o,A,bf,λj x f=>?_⟩,bf⟩))
  .obtain⟨q,O⟩:=eU S z;obtain⟨V,W,u,X,F,G⟩:=(E.mono e).at O;refine⟨V,W,X,aD,z,u,.imm F,u,s,q,ps,rfl,G,C.mono e,?_,λY h' d H=>⟨.imm (F.mono d),F.mono d,bf,bf,(i+1,iC ps v.left,iC ps v.right,o++[Y],h'),⟨rfl,rfl,aD,e.trans d,by simp[t],Qk (R':=λx u=>dO h' (Fh ps x) u) T t O n (λ_ _ I=>I.mono d) H⟩,aD,?_⟩⟩
   .grind
   .rw[bw];exact MT
  .rw[bu aD]at n;rw[getElem?_map,Option.map_eq_some_iff]at f;obtain⟨y,Z,rfl⟩:=f;obtain⟨u,h1,I⟩:=n j y Z;exact⟨u,h1,I.mono d⟩
theorem QE:cm 96 boJ:=iQ ZP λ_ _ _ _⟨v,s,p,ps,e,c,d,f⟩=>⟨SizeOf.sizeOf p+1,v,s,p,ps,e,c,d,aD,f⟩
theorem NR(l:dn):i6 21 (l.map QV.enc):=by
 constructor
 .intro e c;obtain⟨x,_,rfl⟩:=mem_map.1 c;rfl
 .intro e c u d;obtain⟨x,_,rfl⟩:=mem_map.1 c;simp[QV.enc]at d;rcases d with rfl|rfl|rfl|rfl|rfl|rfl|rfl|rfl|rfl|rfl|rfl|rfl|rfl|rfl|rfl|rfl|rfl|rfl|rfl|rfl|rfl<;>rfl
theorem b5X{op:Int}{w:Pred}{on:cu}{args:cz}(x:pJ h op ta w co on gr od li args v)(W:∀q∈args,SizeOf.sizeOf q<N)(X:∀H h',PH.le h h'->cJ h' (.mk op ta w co on gr od li args) H->K (aQ H) m h'):OO N v co on gr od m h K:=by
 dsimp only[OO,push_cast];have Y:=x.args_.slen;have g:=x.args_.len;have Z:=x.columns_.len;have l2:=x.on_.len;have l3:=x.group_.len;have l4:=x.order_.len;refine⟨v.where_,⟨none,0,0⟩,w,[],rfl,x.where_,.nil _ _ _ _,λn M c O=>⟨_,qL co,(x.columns_.mono c).row,bf,bf,_,DQ on,(x.on_.mono c).row,bf,bf,_,qL gr,(x.group_.mono c).row,bf,bf,_,DP od,(x.order_.mono c).row,bf,bf,?_⟩⟩;rw[LP]at O;refine⟨λ⟨i,w',o,t⟩=>w'=n/\i<=args.length/\PH.le M t/\o.length=i/\∀(j:Nat) q,(args.take i)[j]? =some q->∃u,o[j]? =some u/\cJ t q u,λ⟨i,_,_,_⟩=>args.length-i,⟨(0,n,[],M),⟨rfl,aD,.refl _,rfl,λj x t=>by simp at t⟩,MT⟩,?_⟩;rintro⟨i,n,o,t⟩ ⟨rfl,hi,e,y,f⟩;dsimp only;refine aF (λz=>?_) (λa'=>?_)
 .obtain⟨q,A⟩:=eU Y z;obtain⟨b1,o1,u,I,B,J⟩:=(x.args_.mono (c.trans e)).at A;refine⟨b1,o1,I,aD,z,u,.imm B,u,q,rfl,J,W q (br A),λH h' d L=>⟨.imm (B.mono d),B.mono d,bf,bf,(i+1,n,o++[H],h'),⟨rfl,aD,e.trans d,by simp[y],Qk (R':=cJ h') hi y A f (λ_ _ P=>P.mono d) L⟩,aD,?_⟩⟩;rw[bw];exact MT
 .rw[bu aD]at f;intro s1 P C B s2 h3 D r2 s3 h4 E r3 s4 h5 F r4 s5 h6 G r5;have Q:=G;have R:=F.trans Q;have S:=E.trans R;have T:=D.trans S;have U:=C.trans T;have V:=e.trans U
  exact X ⟨v.op,v.table,n,s1,s2,s3,s4,v.limit,s5⟩ h6 (c.trans V) (pJ.rep ⟨x.op_,x.table_,O.mono V,⟨B.mono T,Z⟩,⟨r2.mono S,l2⟩,⟨r3.mono R,l3⟩,⟨r4.mono Q,l4⟩,x.limit_,⟨⟨o,r5,aD,λj q A=>by
   obtain⟨u,I,e2⟩:=f j q A;exact⟨u,I,e2.mono U⟩⟩,g⟩⟩)
theorem ZW:∀N,cm 49 (bnQ N)
 |0=>by
  refine eD (fn:=Tryz.f49) (c:=cA Tryz.f49) func49 rfl az ?_;rintro e m h K ⟨v,q,rfl,_,g,_⟩;omega
 |N+1=>by
  refine iH func49 ?_;rintro e m h K ⟨v,q,rfl,f,g,j⟩;have d:=@vF q;obtain⟨op,ta,w,co,on,gr,od,li,args⟩:=q;refine⟨bAZ N v co on gr od m,rfl,aE QE (aE (ZW N) aG),OO N v co on gr od m h K,ax,?_⟩;exact b5X f.parts (λq f=>by have:=d (q:=q) f;omega) j
theorem QO:cm 49 bnZ:=iQ ZW λ_ _ _ _⟨v,q,e,c,d⟩=>⟨SizeOf.sizeOf q+1,v,q,e,c,aD,d⟩
mutual
def aBJ:Pred->Nat
 |.mk _ _ _ _ args=>1+Kf args
def Kf:dg->Nat
 |[]=>0
 |p::ps=>aBJ p+Kf ps
end
mutual
def YZ:Pred->Nat
 |.mk _ _ _ _ args=>1+Mz args
def Mz:dg->Nat
 |[]=>0
 |p::ps=>max (YZ p) (Mz ps)
end
mutual
theorem N6:∀(p:Pred)(n:Int),p7 p n<=n+aBJ p
 |.mk _ _ _ _ args,n=>by
  have:=Mm args (n+1);simp only[p7,aBJ];omega
theorem Mm:∀(ps:dg)(n:Int),lK ps n<=n+Kf ps
 |[],n=>by simp[lK,Kf]
 |p::ps,n=>by
  have c:=N6 p n;have d:=Mm ps (p7 p n);simp only[lK,Kf];omega
end
mutual
theorem MA:∀(p:Pred)(n:Nat),YZ p<=n->nJ p n=false
 |.mk _ _ _ _ args,0,h=>by simp only[YZ]at h;omega
 |.mk _ _ _ _ args,n+1,h=>by
  simp only[YZ]at h;simp only[nJ];exact Kd args n aD
theorem Kd:∀(ps:dg)(n:Nat),Mz ps<=n->vL ps n=false
 |[],_,_=>rfl
 |p::ps,n,h=>by
  simp only[Mz]at h;simp only[vL,MA p n aD,Kd ps n aD,Bool.or_false]
end
def gF:Nat->Nat
 |0=>1
 |d+1=>1+3*gF d
structure Pr(d:Nat)(p:Pred):Prop where
 n:aBJ p<=gF d
 d:YZ p<=d+1
theorem b3Q:∀d,1<=gF d
 |0=>Nat.le_refl _
 |d+1=>by rw[gF];omega
theorem Pr.leaf(d:Nat){op c:Int}{a b:OV}:Pr d (.mk op c a b []):=⟨by simp[aBJ,Kf,b3Q],by simp[YZ,Mz]⟩
theorem Pr.node{d:Nat}{op c:Int}{a b:OV}{ps:dg}(h:∀p∈ps,Pr d p)(g:ps.length<=3):Pr (d+1) (.mk op c a b ps):=by
 have j:∀l:dg,(∀p∈l,Pr d p)->Kf l<=l.length*gF d/\Mz l<=d+1:=λl=>by
  induction l with
  |nil=>intro _;simp[Kf,Mz]
  |cons p l o=>
   intro f;have t:=o λx u=>f x (mem_cons_of_mem _ u);have e:=f p (mem_cons_self ..);have:=e.n;have:=e.d;simp only[Kf,Mz,ci,Nat.add_mul,Nat.one_mul];omega
 have t:=j ps h;have e:ps.length*gF d<=3*gF d:=Nat.mul_le_mul_right _ g;exact⟨by simp only[aBJ,gF];omega,by simp only[YZ];omega⟩
mutual
def lZ:Query->Nat
 |.mk _ _ _ _ _ _ _ _ args=>1+nC args
def nC:cz->Nat
 |[]=>0
 |q::qs=>lZ q+nC qs
end
mutual
def aBQ:Query->Nat
 |.mk _ _ _ _ _ _ _ _ args=>1+R8 args
def R8:cz->Nat
 |[]=>0
 |q::qs=>max (aBQ q) (R8 qs)
end
mutual
def fE(c:Nat):Query->Nat
 |.mk op _ _ _ _ _ _ _ args=>if op=1 then c else if op=4 then rU c args else rK c args
def rK(c:Nat):cz->Nat
 |[]=>0
 |q::qs=>fE c q+rK c qs
def rU(c:Nat):cz->Nat
 |[]=>1
 |q::qs=>fE c q*rU c qs
end
mutual
theorem N4:∀(p:Query)(n:Int),pZ p n<=n+lZ p/\(pZ p n<=24->pZ p n=n+lZ p)
 |.mk _ _ _ _ _ _ _ _ args,n=>by
  have:=Ml args (n+1);simp only[pZ,lZ];omega
theorem Ml:∀(ps:cz)(n:Int),kZ ps n<=n+nC ps/\(kZ ps n<=24->kZ ps n=n+nC ps)
 |[],n=>by simp[kZ,nC]
 |p::ps,n=>by
  have c:=N4 p n;have d:=Ml ps (pZ p n);simp only[kZ,nC];omega
end
theorem aiQ{q:Query}(h:yU q=true):lZ q<=24:=by
 simp only[yU,bz,ce]at h;have:=(N4 q 0).2 h.1;omega
def gN:Nat->Nat
 |0=>3
 |d+1=>2+2*gN d
def gD:Nat->Nat
 |0=>3
 |d+1=>2+gD d
def gB:Nat->Nat
 |0=>4
 |d+1=>gB d*gB d
structure tB(n d b:Nat)(q:Query):Prop where
 n:lZ q<=n
 d:aBQ q<=d
 b:fE 4 q<=b
def TQ(d:Nat)(q:Query):Prop:=tB (gN d) (gD d) (gB d) q
def Dn:Nat->Query->Prop
 |0,q=>tB 1 1 4 q
 |d+1,q=>tB (1+2*gN d) (1+gD d) (gB d*gB d) q
theorem tB.mono{n d c e f:Nat}{q:Query}(x:tB n d b q)(g:n<=c)(j:d<=e)(o:b<=f):tB c e f q:=⟨cj x.n g,cj x.d j,cj x.b o⟩
theorem ET:∀d,3<=gN d/\3<=gD d/\4<=gB d
 |0=>az
 |d+1=>by
  obtain⟨e,f,c⟩:=ET d;have:4*4<=gB d*gB d:=Nat.mul_le_mul c c;simp only[gN,gD,gB];omega
theorem Dn.arg:∀{d:Nat}{q:Query},Dn d q->TQ d q
 |0,_,x=>tB.mono x az az az
 |d+1,_,x=>tB.mono x (by simp only[gN];omega) (by simp only[gD];omega) (by simp only[gB];omega)
theorem tB.one{n d:Nat}{q:Query}(x:tB n d b q)(c:4<=b){op:Int}{w:Pred}{on:cu}:tB (n+1) (d+1) b (.mk op ta w co on gr od li [q]):=by
 obtain⟨e,f,g⟩:=x;refine⟨by simp only[lZ,nC];omega,by simp only[aBQ,R8];omega,?_⟩;simp only[fE,rU,rK]
 grind
theorem tB.two{n d f g c:Nat}{q p:Query}(x:tB n d b q)(y:tB f g c p)(j:4<=b)(e:4<=c){op:Int}{w:Pred}{on:cu}:tB (1+n+f) (1+max d g) (b*c) (.mk op ta w co on gr od li [q,p]):=by
 obtain⟨u,z,o⟩:=x;obtain⟨A,B,t⟩:=y;have C:b*4<=b*c:=Nat.mul_le_mul_left _ e;have D:4*c<=b*c:=Nat.mul_le_mul_right _ j;have E:fE 4 q*fE 4 p<=b*c:=Nat.mul_le_mul o t;refine⟨by simp only[lZ,nC];omega,by simp only[aBQ,R8];omega,?_⟩;simp only[fE,rU,rK]
 grind
theorem tB.scan{w:Pred}{on:cu}:tB 1 1 4 (.mk 1 ta w co on gr od li []):=⟨by simp[lZ,nC],by simp[aBQ,R8],by simp[fE]⟩
theorem Dn.node{d:Nat}{op:Int}{w:Pred}{on:cu}{args:cz}(h:∀a∈args,TQ d a)(e:args.length<=2):Dn (d+1) (.mk op ta w co on gr od li args):=by
 have c:=(ET d).2.2;have f:gB d*4<=gB d*gB d:=Nat.mul_le_mul_left _ c
 match args,h,e with
 |[],_,_=>exact⟨by simp only[lZ,nC];omega,by simp only[aBQ,R8];omega,by simp only[fE,rU,rK];grind⟩
 |[q],h,_=>exact tB.mono (tB.one (h q ay) c) aD aD aD
 |[q,p],h,_=>exact tB.mono (tB.two (h q ay) (h p ay) c c) aD aD (Nat.le_refl _)
theorem Dn.filter{d:Nat}{q:Query}(x:Dn d q){op:Int}{w:Pred}{on:cu}:TQ d (.mk op ta w co on gr od li [q]):=by
 cases d with
 |zero=>exact tB.mono (tB.one x az) az az az
 |succ d=>
  have c:=(ET d).2.2;have e:gB d*4<=gB d*gB d:=Nat.mul_le_mul_left _ c;exact tB.mono (tB.one x aD) (by simp only[gN];omega) (by simp only[gD];omega) (by simp only[gB];omega)
theorem TQ.three(d:Nat){q:Query}(x:tB 3 3 4 q):TQ d q:=tB.mono x (ET d).1 (ET d).2.1 (ET d).2.2
theorem Dn.mono{q:Query}:∀{d e:Nat},Dn d q->d<=e->Dn e q
 |d,0,x,h=>bg
 |d,e+1,x,h=>by
  by_cases c:d=e+1
  .grind
  .have y:=Dn.arg (x.mono (e:=e) aD);have f:=(ET e).2.2;have g:gB e*1<=gB e*gB e:=Nat.mul_le_mul_left _ aD;exact tB.mono y aD aD aD
abbrev xO(a:MH)(b:PH)(c d:Nat)(e:Sl->Prop):Prop:=∃(x:Sl),aU a b c d (aY x)/\e x
noncomputable abbrev wG(a:Int):Value:=Value.int IntKind.u8 a
abbrev wB(a:Prop):Prop:=a->False
attribute [push_cast] xO wG wB
def VK(cb:Nat)(n:Int)(m:MH)(h:PH)(K:cr):Prop:=
  ∃(y:Int),aU m h cb 1 (bG y)/\∃(f:Sl),aU m h cb 0 (aY f)/\gA y (aH f) (K (eV 0) m h) (aX n 1 (K (eV 0) m h) (Bi m h cb 1 (λt=>j9 (λc E=>aA (E8 m cb (kI c E 0)) (1<c.size) (∀(d:MH),dQ m d cb (xC c 1 (bG (fI (t+1)))) E->xO d h cb 0 (λg=>Bi d h cb 1 (λe=>bI (λb o=>aA (bK g.a b o) (0<=fI (e-1)) (fI (e-1)<aH g/\∃(j:UInt8),aA (aU d h b (fT o (fI (e-1)) 1) (lD (wG (xX j)))) (wB (n=0)) (K (eV (Int.tmod (fI (xX j)) n)) d h))))))))))
theorem b6X(cb:Nat)(n:Int)(m:MH)(h:PH)(K:cr):VK cb n m h K=(tQ (ctx [] [] [] [] false) Tryz.f12 (cA Tryz.f12) (entry 40 [.val (.pointer (some ⟨cb,0,none⟩)),.val (.int .i64 n)] m h) K):=ax
def bLJ:Vc.Spec:=λc m h K=>∃(cb:Nat)(n:Int)(r:di),c=[.val (.pointer (some ⟨cb,0,none⟩)),.val (.int .i64 n)]/\Zp m h cb r/\
 ∀m',bE m m' cb->Zp m' h cb (V2 n r).2->K (.val (.int .i64 (V2 n r).1)) m' h
theorem Qy:cm 12 bLJ:=by
 refine eD (fn:=Tryz.f12) (c:=cA Tryz.f12) func12 rfl az ?_;rintro F m h K ⟨cb,n,r,rfl,⟨s,d,k,x,e,D,f,rfl⟩,t⟩;refine⟨ctx [] [] [] [] false,rfl,aG,?_⟩;show tQ (ctx [] [] [] [] false) Tryz.f12 (cA Tryz.f12) (entry 40 [.val (.pointer (some ⟨cb,0,none⟩)),.val (.int .i64 n)] m h) K;rw[<-b6X];dsimp only[VK,push_cast];have G:s.len=d.length:=by have:=e.len;simpa[bA]using this
 refine⟨k,.of_m x rfl,s,.of_m x rfl,aF (λH=>?_) (λz=>aF (λA=>?_) (λA=>?_))⟩
 .have u:d.drop k=[]:=bf
  rw[u]at t;exact t m ⟨λ_ _=>rfl⟩ ⟨s,d,k,x,e,D,f,by rw[u];rfl⟩
 .have j:k<d.length:=by omega
  have u:d.drop k=d[k]::d.drop (k+1):=drop_eq_getElem_cons j;rw[u]at t;simp only[V2,if_pos A]at t;refine t m ⟨λ_ _=>rfl⟩ ⟨s,d,k,x,e,D,f,u.symm⟩
 .have j:k<d.length:=by omega
  have u:d.drop k=d[k]::d.drop (k+1):=drop_eq_getElem_cons j;rw[u]at t;simp only[V2,if_neg A]at t;have I:IntKind.i64.wrap ((k:Int)+1)=((k+1:Nat):Int):=by rw[dY]<;>omega
  have B:IntKind.i64.wrap (((k+1:Nat):Int)-1)=(k:Int):=by rw[dY]<;>omega
  refine⟨k,.of_m x rfl,_,_,⟨x⟩,ay,λm' E=>?_⟩;have g:=E.at_;rw[I]at g;simp only[splice]at g;obtain y|⟨b,o,J,C⟩:=e.row
  .exfalso;have:=congrArg List.length y;simp[bA]at this
   grind
  refine⟨s,.of_m g rfl,((k+1:Nat):Int),.of_m g rfl,b,o,J,?_⟩;rw[B];refine⟨aD,aD,d[k],.imm ?_,aD,?_⟩
  .have:=C k [.int .u8 d[k].toNat] (by simp[bA,j])
   grind
  .have z:d[k].toNat<256:=d[k].toNat_lt;rw[dY aD aD,Int.tmod_eq_emod_of_nonneg aD];refine t m' ⟨E.other⟩ ⟨s,d,k+1,g,e,aD,f,rfl⟩
def aR(m:MH)(h:PH)(cb:Nat):Prop:=∃r,Zp m h cb r
theorem aR.mono(x:aR m h cb)(le:PH.le h h'):aR m h' cb:=by
 obtain⟨r,s,c,k,d,e,f⟩:=x;exact⟨r,s,c,k,d,e.mono le,f⟩
theorem bE.refl(m:MH)(cb:Nat):bE m m cb:=⟨λ_ _=>rfl⟩
theorem bE.trans{d:MH}(a:bE m m' cb)(b:bE m' d cb):bE m d cb:=⟨λc e=>(b.other c e).trans (a.other c e)⟩
def rN(n:Int):Prop:= -9223372036854775808<=n/\n<=9223372036854775807
structure TH(v:VV):Prop where
 int_:rN v.int
 text_:v.text.size<=64
def KOk(k:Int):Prop:=k=3\/k=4\/k=5
def Wm(k:Int)(v:VV):Prop:=KOk k->lA v=true/\v.kind=k
def Hu:Vc.Spec:=λc m h K=>∃cb n,c=[cP cb,cI n]/\aR m h cb/\∀k m',0<=k->(k<n\/k=0)->bE m m' cb->aR m' h cb->K (cI k) m' h
def PJ:Vc.Spec:=λc m h K=>∃cb n,c=[cP cb,cI n]/\0<=n/\n<=1000/\aR m h cb/\∀r m',bE m m' cb->aR m' h cb->K (cB r) m' h
def acZ:Vc.Spec:=λc m h K=>∃cb,c=[cP cb]/\aR m h cb/\∀k m',rN k->bE m m' cb->aR m' h cb->K (cI k) m' h
def bPX:Vc.Spec:=λc m h K=>∃cb,c=[cP cb]/\aR m h cb/\∀t m',t.size<=64->bE m m' cb->aR m' h cb->K (V1 t) m' h
def TF:Vc.Spec:=λd m h K=>∃cb c,d=[cP cb,cI c]/\aR m h cb/\∀v m',TH v->Wm c v->bE m m' cb->aR m' h cb->K (aV v) m' h
theorem H2:cm 12 Hu:=by
 refine⟨Qy.1,λc d m h w K e f=>Qy.2 c d m h w K ?_ f⟩;obtain⟨cb,n,rfl,⟨r,g⟩,j⟩:=e;refine⟨cb,n,r,rfl,g,λm' o t=>j _ m' ?_ ?_ o ⟨_,t⟩⟩
 .cases r with
  |nil=>simp[V2]
  |cons b r=>
   simp only[V2]
   grind
 .cases r with
  |nil=>simp[V2]
  |cons b r=>
   simp only[V2];split
   .simp
   .exact .inl (Int.emod_lt_of_pos _ aD)
noncomputable def a1Z(h:PH):Ctx:=
 dD [(12,Hu)] [(18,{A:=Nat×ByteArray×MH,st:=λ⟨i,t,m⟩=>bQ 37 38 [(3,vv (.string t)),(4,iv i)] [] m h}),(23,{A:=Nat×ByteArray×MH,st:=λ⟨i,t,m⟩=>bQ 37 38 [(3,vv (.string t)),(5,iv i)] [] m h})] [] [] false
abbrev Oa(a:Nat->Int->Prop):Prop:=∃(x:Nat)(c:Int),a x c
abbrev iR(a:Nat)(b:Int)(c:Nat->Option Obj)(d:Nat->Nat->Option Value)(e:Int->MH->Prop):Prop:=Oa (λx j=>aA (bC (kB a) b=bC (kB x) j) (aR c d x) (∀(f:Int)(g:MH),bV f->f<j\/f=0->bE c g x->aR g d x->e f g))
attribute [push_cast] Oa iR
def VI(cb:Nat)(n:Int)(m:MH)(h:PH)(K:cr):Prop:=
  iR cb n m h (λk c=>K (AQ (k==fI (n-1))) c h)
def Rt(cb:Nat)(m:MH)(h:PH)(K:cr):Prop:=
  iR cb 12 m h (λk c=>cX (k==9) (K (eV (Int.negSucc 0)) c h) (k==10) (K (eV 9223372036854775807) c h) (dW k 11 (K (eV (Int.negSucc 9223372036854775807)) c h) (wB ((4:Int)=0)/\K (eV (Int.tmod k 4)) c h)))
noncomputable abbrev fF(a:Nat)(b:di):di:=OfNat.ofNat a::b
noncomputable abbrev wE(a:Nat):di:=fF a []
attribute [push_cast] fF wE
def Rs(cb:Nat)(m:MH)(h:PH)(K:cr):Prop:=
  iR cb 10 m h (λk d=>cX (k==0) (K (kE (ByteArray.mk (Array.mk (wE 97)))) d h) (k==1) (K (kE (ByteArray.mk (Array.mk (wE 97)))) d h) (cX (k==2) (K (kE (ByteArray.mk (Array.mk (wE 97)))) d h) (k==3) (K (kE (ByteArray.mk (Array.mk (wE 98)))) d h) (cX (k==4) (K (kE (ByteArray.mk (Array.mk (wE 98)))) d h) (k==5) (K (CV.val Wy) d h) (cX (k==6) (K (kE (ByteArray.mk (Array.mk (fF 97 (fF 0 []))))) d h) (k==7) (K (kE (ByteArray.mk (Array.mk (wE 255)))) d h) (dW k 8 (∃(I:Nat×ByteArray×MH->Prop)(e:Nat×ByteArray×MH->Nat),(∃(x:Nat×ByteArray×MH),aA (I x) (SV.at aQz=SV.at (TE x.2.1)) (aA (bB x.1) (d=x.2.2) (bL h h)))/\∀(x:Nat×ByteArray×MH),I x->aX (↑x.1:Int) 64 (x.2.1.size<9223372036854775807/\∃(c:Nat×ByteArray×MH),aA (I
 c) (e c<e x) (aA (SV.at (TE (x.2.1++ByteArray.mk (Array.mk (wE 255))))=SV.at (TE c.2.1)) (bD (gG (bF x.1 1)) c.1) (bP (x.2.2=c.2.2) h h))) (K (kE x.2.1) x.2.2 h)) (∃(I:Nat×ByteArray×MH->Prop)(e:Nat×ByteArray×MH->Nat),(∃(x:Nat×ByteArray×MH),aA (I x) (SV.at aQz=SV.at (TE x.2.1)) (aA (bB x.1) (d=x.2.2) (bL h h)))/\∀(x:Nat×ByteArray×MH),I x->aX (↑x.1:Int) 64 (x.2.1.size<9223372036854775807/\∃(c:Nat×ByteArray×MH),aA (I c) (e c<e x) (aA (SV.at (TE (x.2.1++ByteArray.mk (Array.mk (wE 98))))=SV.at (TE c.2.1)) (bD (gG (bF x.1 1)) c.1) (bP (x.2.2=c.2.2) h h))) (K (kE x.2.1) x.2.2 h)))))))
abbrev vS(a:Nat)(b:Nat->Option Obj)(c:Nat->Nat->Option Value)(d:Nat->Int->Prop):Prop:=∃(x:Nat),aA (fP (kB a) (kB x)) (aR b c x) (∀(e:Int),d x e)
abbrev mK(a:MH)(b:PH)(c:Nat)(d:Prop):Prop:=aR a b c->d
abbrev Jp(a:Nat)(b:MH)(c:PH)(d:Nat->Prop):Prop:=∃(x:Nat),aA (fP (kB a) (kB x)) (aR b c x) (d x)
attribute [push_cast] vS mK Jp
def U2(cb:Nat)(d:Int)(m:MH)(h:PH)(K:cr):Prop:=
  cX (d==3) (iR cb 2 m h (λk e=>K (fM (aL (eN d) (eN k) (lD Wy))) e h)) (d==4) (vS cb m h (λc k=>∀(e:MH),rN k->bE m e c->mK e h c (K (fM (aL (eN d) (eN k) (lD Wy))) e h))) (Jp cb m h (λc=>∀(t:ByteArray)(e:MH),t.size<=64->bE m e c->mK e h c (K (fM (aL (eN 5) cW (lD (Value.string t)))) e h)))
theorem b6Q{n:Int}(d:aR m h cb)(e:∀r m',bE m m' cb->aR m' h cb->K (cB r) m' h):VI cb n m h K:=
 ⟨cb,n,rfl,d,λ_ m' _ _ f c=>e _ m' f c⟩
theorem N7:C6 ⟨#[]⟩=true:=by simp[C6,ByteArray.toList_eq]
theorem bWJ{k:Int}(c:0<=k)(d:k<2\/k=0):lA ⟨3,k,⟨#[]⟩⟩=true:=by
 have:k=0\/k=1:=by omega
 rcases this with rfl|rfl<;>simp[lA,N7]
theorem aGQ(k:Int):lA ⟨4,k,⟨#[]⟩⟩=true:=by simp[lA,N7]
theorem bWZ{t:ByteArray}(h:t.size<=64):lA ⟨5,0,t⟩=true:=by
 simp[lA];omega
theorem BN:cm 13 PJ:=by
 refine iH func13 ?_;rintro c m h K ⟨cb,n,rfl,_,_,d,e⟩;refine⟨dD [(12,Hu)] [] [] [] false,rfl,aE H2 aG,VI cb n m h K,ax,?_⟩;exact b6Q d e
theorem Ye:cm 169 acZ:=by
 refine iH func169 ?_;rintro f m h K ⟨cb,rfl,g,d⟩;refine⟨dD [(12,Hu)] [] [] [] false,rfl,aE H2 aG,Rt cb m h K,ax,?_⟩;dsimp only[Rt,push_cast];refine⟨cb,12,rfl,g,λk m' j n e c=>aC (λ_=>d _ m' ⟨aD,aD⟩ e c) (λ_=>aC (λ_=>d _ m' ⟨aD,aD⟩ e c) (λ_=>aC (λ_=>d _ m' ⟨aD,aD⟩ e c) (λ_=>⟨aD,d _ m' ?_ e c⟩)))⟩;rw[Int.tmod_eq_emod_of_nonneg j];exact⟨aD,aD⟩
theorem Yc:cm 170 bPX:=by
 refine iH func170 ?_;rintro g m h K ⟨cb,rfl,j,d⟩;refine⟨a1Z h,rfl,aE H2 aG,Rs cb m h K,ax,?_⟩;dsimp only[Rs,push_cast];refine⟨cb,10,rfl,j,λk m' x y e c=>?_⟩;refine aC (λ_=>d _ m' az e c) (λ_=>aC (λ_=>d _ m' az e c) (λ_=>aC (λ_=>d _ m' az e c) (λ_=>aC (λ_=>d _ m' az e c) (λ_=>aC (λ_=>d _ m' az e c) (λ_=>aC (λ_=>d _ m' az e c) (λ_=>aC (λ_=>d _ m' az e c) (λ_=>aC (λ_=>d _ m' az e c) (λ_=>aC (λ_=>?_) (λ_=>?_)))))))))
 all_goals
  refine⟨λ⟨i,t,n⟩=>n=m'/\i<=64/\t.size=i,λ⟨i,_,_⟩=>64-i,⟨(0,⟨#[]⟩,m'),⟨rfl,aD,rfl⟩,MT⟩,?_⟩;rintro⟨i,t,m'⟩ ⟨rfl,z,f⟩;dsimp only;refine aF (λo=>⟨?_,(i+1,_,m'),⟨rfl,aD,?_⟩,bi,MT⟩) (λu=>d t m' aD e c)
  .rw[f];show i+1<=_;omega
  .rw[ByteArray.size_append,f];rfl
theorem K6:cm 95 TF:=by
 refine iH func95 ?_;rintro y m h K ⟨cb,c,rfl,j,n⟩;refine⟨dD [(12,Hu),(169,acZ),(170,bPX)] [] [] [] false,rfl,aE H2 (aE Ye (aE Yc aG)),U2 cb c m h K,ax,?_⟩;dsimp only[U2,push_cast];refine aC (λe=>⟨cb,2,rfl,j,λk m' z A g d=>n ⟨c,k,⟨#[]⟩⟩ m' ⟨⟨bg,bg⟩,by show(ByteArray.mk #[]).size<=64;decide⟩ (λ_=>?_) g d⟩) (λo=>aC (λe=>⟨cb,rfl,j,λk m' f g d=>n ⟨c,k,⟨#[]⟩⟩ m' ⟨f,by show(ByteArray.mk #[]).size<=64;decide⟩ (λ_=>?_) g d⟩) (λu=>⟨cb,rfl,j,λt m' x g d=>n ⟨5,0,t⟩ m' ⟨⟨ay,ay⟩,x⟩ (λf=>?_) g d⟩))
 .have e:c=3:=bk e
  subst e;exact⟨bWJ z A,rfl⟩
 .have e:c=4:=bk e
  subst e;exact⟨aGQ k,rfl⟩
 .have o:c≠3:=bg
  have u:c≠4:=bg
  exact⟨bWZ x,by rcases f with f|f|f;exact absurd f o;exact absurd f u;exact f.symm⟩
mutual
def C3:Pred->Prop
 |.mk _ _ l r args=>TH l.value/\TH r.value/\E6 args
def E6:dg->Prop
 |[]=>True
 |p::ps=>C3 p/\E6 ps
end
theorem Pw:∀{l:dg},E6 l↔∀p∈l,C3 p
 |[]=>by simp[E6]
 |p::ps=>by simp[E6,Pw (l:=ps)]
theorem rP:TH zeroV:=⟨⟨az,az⟩,az⟩
structure Wk(cols params:cq)(kind:Int)(o:OV):Prop where
 val:TH o.value
 kind:KOk kind->kindOf cols params o=kind
def MP(l:cq):Prop:=∀k∈l,KOk k
structure PW(cols params:cq)(d:Nat)(p:Pred):Prop where
 vals:C3 p
 valid:MP cols->jG cols params p=true
 siz:Pr d p
def Wj:Vc.Spec:=λf m h K=>∃cb s t e d c,f=[cP cb,cS s,cS t,cI e]/\aR m h cb/\Ints h s d/\Ints h t c/\d.length<=1000/\c.length<=1000/\∀o m',Wk d c e o->bE m m' cb->aR m' h cb->K (aO o) m' h
def KP(K:cr)(m:MH)(h:PH)(cb:Nat)(R:Pred->Prop):Prop:=∀v p m' h',PH.le h h'->dO h' p v->R p->bE m m' cb->aR m' h' cb->K (aP v) m' h'
def beJ(N:Nat):Vc.Spec:=λf m h K=>∃cb s t e c,∃d:Nat,f=[cP cb,cS s,cS t,cI d]/\aR m h cb/\Ints h s e/\Ints h t c/\e.length<=1000/\c.length<=1000/\d<N/\d<=1000/\KP K m h cb (PW e c d)
structure A7(cols params:cq)(d:Nat)(p:Pred):Prop where
 vals:C3 p
 valid:d<=2->MP cols->MP params->fX cols params p=0
def E5:Vc.Spec:=λf m h K=>∃cb s t d c,∃e:Nat,f=[cP cb,cS s,cS t,cI e]/\aR m h cb/\Ints h s d/\Ints h t c/\d.length<=1000/\c.length<=1000/\e<=1000/\KP K m h cb (A7 d c e)
def pv(b:Nat):SV:=vv (.pointer (some ⟨b,0,none⟩))
noncomputable def a2Z(cb:Nat)(s t:Sl)(c:Int)(m:MH)(h:PH):Ctx:=
 dD [(12,Hu),(95,TF)] [(3,{A:=Nat×ef,st:=λ⟨i,d⟩=>bQ 64 68 [(0,pv cb),(2,sv t),(3,iv c),(8,.at (.ptr 8 0)),(9,.at (.lst 29)),(15,sv s),(16,iv s.len),(17,iv i)] [(8,.cells 29 (dG.enc.map .val)),(29,.lst 29 5 (d.map OV.enc))] m h}),
  (9,{A:=Nat×ef,st:=λ⟨i,d⟩=>bQ 64 68 [(0,pv cb),(3,iv c),(8,.at (.ptr 8 0)),(9,.at (.lst 29)),(31,sv t),(32,iv t.len),(33,iv i)] [(8,.cells 29 (dG.enc.map .val)),(29,.lst 29 5 (d.map OV.enc))] m h})] [] [] false
noncomputable def bwX(N:Nat)(cb:Nat)(s t:Sl)(c:Nat)(d:PH):Ctx:=
 dD [(12,Hu),(13,PJ),(165,Wj),(95,TF),(93,beJ N)] [(18,{A:=Int×Int×dr×MH×PH,st:=λ⟨op,n,e,m,h⟩=>bQ 107 111 [(0,pv cb),(1,sv s),(2,sv t),(3,iv c),(8,.at (.ptr 8 0)),(12,.at (.ptr 12 0)),(13,iv n)] [(8,.cells 32 (fS.enc.map .val)),(12,.cells 32 (((⟨op,0,dG,dG,⟨none,0,0⟩⟩:PV).enc.take 12).map .val++[.lst 104])),(104,.lst 32 13 (e.map PV.enc))] m h})] [(3,{A:=Int×Bool×MH,st:=λ⟨k,b,m⟩=>bQ 107 111 [(0,pv cb),(1,sv s),(2,sv t),(3,iv c),(8,.at (.ptr 8 0)),(9,iv k),(16,bv b)] [(8,.cells 32 (fS.enc.map .val))] m d}),
  (5,{A:=Int×Bool×MH,st:=λ⟨k,b,m⟩=>bQ 107 111 [(0,pv cb),(1,sv s),(2,sv t),(3,iv c),(8,.at (.ptr 8 0)),(9,iv k),(27,bv b)] [(8,.cells 32 (fS.enc.map .val))] m d}),
  (8,{A:=Int×MH,st:=λ⟨k,m⟩=>bQ 107 111 [(0,pv cb),(1,sv s),(2,sv t),(8,.at (.ptr 8 0)),(10,iv k)] [(8,.cells 32 (fS.enc.map .val))] m d}),
  (9,{A:=PV×Int×MH,st:=λ⟨p,k,m⟩=>bQ 107 111 [(0,pv cb),(1,sv s),(2,sv t),(8,.at (.ptr 8 0)),(10,iv k),(11,.at (.ptr 11 0))] [(8,.cells 32 (fS.enc.map .val)),(11,.cells 32 (p.enc.map .val))] m d}),
  (11,{A:=PV×MH,st:=λ⟨p,m⟩=>bQ 107 111 [(0,pv cb),(8,.at (.ptr 8 0)),(11,.at (.ptr 11 0))] [(8,.cells 32 (fS.enc.map .val)),(11,.cells 32 (p.enc.map .val))] m d}),
  (13,{A:=PV×MH,st:=λ⟨p,m⟩=>bQ 107 111 [(8,.at (.ptr 8 0)),(11,.at (.ptr 11 0))] [(8,.cells 32 (fS.enc.map .val)),(11,.cells 32 (p.enc.map .val))] m d})] [] false
noncomputable abbrev fD:At:=fV 0
abbrev D4:Prop:=eQ (oQ 29 (cQ fD fD (cQ (fV 0) fD (nL aQz))))
noncomputable abbrev rX(a:Nat×ef):List cn:=List.map OV.enc a.2
abbrev Jt(a b:Nat×ef):Prop:=bD (gG (bF a.1 1)) b.1
abbrev rW(a:Int)(b:Prop)(c:cn->Prop):Prop:=aA (bV a) b (∃(x:cn),c x)
abbrev mI(a:List cn)(b:Int)(c:cn):Prop:=a[b.toNat]? =Option.some c
attribute [push_cast] fD D4 rX Jt rW mI
def Rx(cb:Nat)(s t:Sl)(f:Int)(m:MH)(h:PH)(K:cr):Prop:=
  ∃(I:Nat×ef->Prop)(j:Nat×ef->Nat),(∃(x:Nat×ef),aA (I x) (cR cb) (aA (aI t) (gW f) (aA eX (eL 29) (aA (aI s) (bJ s) (aA (bB x.1) D4 (aA (qG 29 5 (rX x)) (m=m) (bL h h)))))))/\∀(x:Nat×ef),I x->aX (↑x.1:Int) (aH s) (bI (λb o=>aA (bK s.a b o) (0<=(↑x.1:Int)) ((↑x.1:Int)<aH s/\∃(y:Int),aU m h b (bN o x.1 1) (bG y)/\dW y f (mV (rX x) 48 (∃(d:Nat×ef),aA (I d) (j d<j x) (aA (cR cb) (aI t) (aA (gW f) eX (aA (eL 29) (aI s) (aA (bJ s) (Jt x d) (aA D4 (Option.some (Own.lst 29 5 (fK (rX x) (aL (eN 1) (eN (↑x.1:Int)) (aL cW cW (lD Wy)))))=Option.some (Own.lst 29 5 (rX d))) (bP (m=m) h h)))))))) (∃(d:Nat×ef),aA (I d)
 (j d<j x) (aA (cR cb) (aI t) (aA (gW f) eX (aA (eL 29) (aI s) (aA (bJ s) (Jt x d) (aA D4 (Option.some (Own.lst 29 5 (rX x))=Option.some (Own.lst 29 5 (rX d))) (bP (m=m) h h)))))))))) (∃(I1:Nat×ef->Prop)(n:Nat×ef->Nat),(∃(d:Nat×ef),aA (I1 d) (cR cb) (aA (gW f) eX (aA (eL 29) (aI t) (aA (bJ t) (bB d.1) (uZ D4 (Option.some (Own.lst 29 5 (rX x))=Option.some (Own.lst 29 5 (rX d))) (m=m) h h)))))/\∀(d:Nat×ef),I1 d->aX (↑d.1:Int) (aH t) (bI (λb o=>aA (bK t.a b o) (0<=(↑d.1:Int)) ((↑d.1:Int)<aH t/\∃(y:Int),aU m h b (bN o d.1 1) (bG y)/\dW y f (mV (rX d) 48 (∃(g:Nat×ef),aA (I1 g) (n g<n d) (aA (cR cb) (gW f) (aA eX
 (eL 29) (aA (aI t) (bJ t) (aA (Jt d g) D4 (aA (Option.some (Own.lst 29 5 (fK (rX d) (aL (eN 2) (eN (↑d.1:Int)) (aL cW cW (lD Wy)))))=Option.some (Own.lst 29 5 (rX g))) (m=m) (bL h h)))))))) (∃(g:Nat×ef),aA (I1 g) (n g<n d) (aA (cR cb) (gW f) (aA eX (eL 29) (aA (aI t) (bJ t) (aA (Jt d g) D4 (aA (Option.some (Own.lst 29 5 (rX d))=Option.some (Own.lst 29 5 (rX g))) (m=m) (bL h h)))))))))) (iR cb (bF (rX d).length 1) m h (λk u=>aX k (iZ (rX d)) (rW k (k<iZ (rX d)) (λe=>mI (rX d) k e/\∃(y:OV),pN 5 e y.enc/\K (fM y.enc) u h)) (Oa (λc A=>aA (bC (kB cb) f=bC (kB c) A) (aR u h c) (∀(v:VV)(z:MH),TH v->Wm A v->bE u z c->
 aR z h c->K (fM (aL (eN 3) cW (aL (eN v.kind) (eN v.int) (lD (Value.string v.text))))) z h))))))
abbrev oD(a:Nat)(b:Int)(c:MH)(d:PH)(e:Nat->Nat)(g:Nat->Bool->Prop):Prop:=Oa (λx f=>aA (bC (kB a) b=bC (kB x) f) (bV f) (aA (f<=1000) (aR c d (e x)) (∀(j:Bool),g x j)))
abbrev IZ(a:Int×Bool×MH->Prop)(b:Nat)(c d:Sl)(e:Nat)(g:Int)(i:(Int×Bool×MH)->Prop)(j:Nat->Option Obj)(k:PH):Prop:=∃(x:Int×Bool×MH),aA (a x) (cR b) (aA (aI c) (aI d) (aA (eQ (Hs e)) eX (aA (dR g x.1) (i x) (bO mE (j=x.2.2) (k=k)))))
noncomputable abbrev dA(a:Nat)(b:dk):dk:=kB a::b
abbrev lY(a:Nat):Prop:=a<=1000
abbrev fO(a:cq):Prop:=lY a.length
abbrev GD(a:dj)(b:PV):Prop:=oQ 32 a=mZ 32 b.enc
abbrev BB(a:Nat->Sl->Sl->cq->cq->Nat->Prop):Prop:=∃(x:Nat)(c:Sl),y9 (λd e f=>∃(g:Nat),a x c d e f g)
abbrev iB(a:MH->PH->Prop):Prop:=∀(x:MH)(c:PH),a x c
abbrev BA(a:PH)(b:PV->Pred->MH->PH->Prop):Prop:=∀(x:PV)(d:Pred),iB (λe c=>cZ a c (dO c d x) (b x d e c))
abbrev I0(a:dk)(b:MH)(c:PH)(d:Nat)(e:PV->MH->PH->Prop):Prop:=BB (λx o t g j f=>aA (a=dA x (dJ o (hX t (↑f:Int)))) (aR b c x) (aA (Ints c o g) (Ints c t j) (aA (fO g) (fO j) (aA (f<d) (lY f) (BA c (λy z n u=>PW g j f z->bE b n x->mK n u x (e y n u)))))))
noncomputable abbrev GR(a b:Int)(c:At):dj:=cQ (fV a) fD (cQ (fV b) fD (cQ fD fD (cQ aQz fD (cQ fD fD (cQ (fV b) aQz (nL c))))))
noncomputable abbrev GW(a:Int×Int×dr×MH×PH):List cn:=List.map PV.enc a.2.2.1
abbrev bH(a:Nat->Option Obj)(b:MH×PH):Prop:=a=b.1
noncomputable abbrev JK(a:Int×Int×dr×MH×PH):Nat->Nat->Option Value:=a.2.2.2.2
attribute [push_cast] oD IZ dA lY fO GD BB iB BA I0 GR GW bH JK
def U4(N:Nat)(cb:Nat)(s t:Sl)(e:Nat)(m:MH)(h:PH)(K:cr):Prop:=
  iR cb 9 m h (λk H=>∃(I:Int×Bool×MH->Prop),dW k 0 (oD cb 2 H h (λc=>c) (λc r=>∀(f:MH),bE H f c->aR f h c->IZ I cb s t e k (λx=>kV r x.2.1) f h)) (IZ I cb s t e k (λx=>Da x.2.1) H h)/\∀(x:Int×Bool×MH),gQ (I x) x.2.1 (iR cb 2 x.2.2 h (λn f=>K (fM (ED (eN (fI (1+n))) iV)) f h)) (∃(I1:Int×Bool×MH->Prop),aX x.1 6 (IZ I1 cb s t e x.1 (λu=>yY u.2.1) x.2.2 h) (IZ I1 cb s t e x.1 (λu=>kV (decide ((↑e:Int)<1)) u.2.1) x.2.2 h)/\∀(u:Int×Bool×MH),I1 u->cX u.2.1 (∃(I2:Int×MH->Prop),eZ (aH s) 0 (iR cb (aH s) u.2.2 h (λn f=>bI (λb o=>aA (bK s.a b o) (0<=n) (n<aH s/\∃(y:Int),aU f h b (fT o n 1) (bG y)/\∃(d:Int×MH),aA
 (I2 d) (cR cb) (aA (aI s) (aI t) (aA eX (dR y d.1) (aA mE (f=d.2) (bL h h)))))))) (∃(d:Int×MH),aA (I2 d) (cR cb) (aA (aI s) (aI t) (aA eX (dR 4 d.1) (aA mE (u.2.2=d.2) (bL h h)))))/\∀(d:Int×MH),I2 d->∃(I3:PV×Int×MH->Prop),iR cb 6 d.2 h (λn f=>∃(c:Nat),nA (λB E=>∃(J:Int),HZ (λC p=>aA (dA cb (dJ s (hX t d.1))=dA c (dJ B (hX E J))) (aR f h c) (aA (Ints h B C) (Ints h E p) (aA (fO C) (fO p) (∀(o:OV)(z:MH),Wk C p J o->bE f z c->mK z h c (Oa (λD L=>aA (bC (kB cb) d.1=bC (kB D) L) (aR z h D) (∀(v:VV)(F:MH),TH v->Wm L v->bE z F D->aR F h D->∃(g:PV×Int×MH),aA (I3 g) (cR cb) (aA (aI s)
 (aI t) (aA eX (dR d.1 g.2.1) (aA (eP 11) mE (bO (GD (cQ (fV 3) (fV (fI (1+n))) (cQ (fV o.kind) (sI o) (cQ (sE o) (fV (wO o)) (cQ (sF o) (fV 3) (cQ fD (fV v.kind) (cQ (fV v.int) (TE v.text) (nL Fq))))))) g.1) (F=g.2.2) (h=h))))))))))))))/\∀(g:PV×Int×MH),I3 g->∃(I4:PV×MH->Prop),oD cb 3 g.2.2 h (λc=>c) (λc r=>∀(f:MH),bE g.2.2 f c->aR f h c->branch r (∃(C:Nat),nA (λB E=>∃(n:Int),HZ (λD p=>aA (dA cb (dJ s (hX t g.2.1))=dA C (dJ B (hX E n))) (aR f h C) (aA (Ints h B D) (Ints h E p) (aA (fO D) (fO p) (∀(o:OV)(z:MH),Wk D p n o->bE f z C->mK z h C (∃(j:PV×MH),aA (I4 j) (cR cb) (aA eX (eP 11) (aA mE (GD (cQ (fV
 g.1.op) (fV g.1.cmp) (cQ (fV g.1.left.kind) (sI g.1.left) (cQ (sE g.1.left) (fV (wO g.1.left)) (cQ (sF g.1.left) (fV o.kind) (cQ (sI o) (sE o) (cQ (fV (wO o)) (sF o) (nL (vD g.1.args)))))))) j.1) (aA (z=j.2) (h=h) True)))))))))) (∃(j:PV×MH),aA (I4 j) (cR cb) (aA eX (eP 11) (aA mE (mZ 32 g.1.enc=mZ 32 j.1.enc) (aA (f=j.2) (h=h) True)))))/\∀(j:PV×MH),I4 j->∃(I5:PV×MH->Prop),oD cb 6 j.2 h (λc=>c) (λc r=>∀(f:MH),bE j.2 f c->aR f h c->branch r (∃(A:PV×MH),aA (I5 A) eX (aA (eP 11) mE (bO (GD (cQ (fV j.1.op) (fV j.1.cmp) (cQ (fV j.1.right.kind) (sI j.1.right) (cQ (sE j.1.right) (fV (wO j.1.right)) (cQ (sF j.1.right) (fV j.1.left.kind) (cQ (sI j.1.left) (sE
 j.1.left) (cQ (fV (wO j.1.left)) (sF j.1.left) (nL (vD j.1.args)))))))) A.1) (f=A.2) (h=h)))) (∃(A:PV×MH),aA (I5 A) eX (aA (eP 11) mE (bO (mZ 32 j.1.enc=mZ 32 A.1.enc) (f=A.2) (h=h)))))/\∀(A:PV×MH),I5 A->K (fM A.1.enc) A.2 h) (u.1==6) (I0 (dA cb (dJ s (hX t (fI ((↑e:Int)-1))))) u.2.2 h N (λv f G=>bU G 13 (kJ v.enc) (λB M=>K (fM (ED (eN 6) (aY B))) f M))) (iR cb 3 u.2.2 h (λn f=>∃(I2:Int×Int×dr×MH×PH->Prop)(z:Int×Int×dr×MH×PH->Nat),(∃(d:Int×Int×dr×MH×PH),aA (I2 d) (cR cb) (aA (aI s) (aI t) (aA (eQ (Hs e)) eX (aA (eP 12) (dR n d.2.1) (aA mE (Cv (GR (fI (fI (4+u.1)-7)) 0 (At.lst 104)) (GR d.1 0 (At.lst 104))) (aA
 (qG 32 13 (GW d)) (bH f d.2.2.2) (bL h (JK d))))))))/\∀(d:Int×Int×dr×MH×PH),I2 d->gA d.2.1 0 (I0 (dA cb (dJ s (hX t (fI ((↑e:Int)-1))))) d.2.2.2.1 (JK d) N (λv F G=>mV (GW d) 136 (∃(g:Int×Int×dr×MH×PH),aA (I2 g) (z g<z d) (aA (cR cb) (aI s) (aA (aI t) (eQ (Hs e)) (aA eX (eP 12) (aA (dR (fI (d.2.1-1)) g.2.1) mE (aA (Cv (GR d.1 0 (At.lst 104)) (GR g.1 0 (At.lst 104))) (Option.some (Own.lst 32 13 (fK (GW d) v.enc))=Option.some (Own.lst 32 13 (GW g))) (bP (bH F g.2.2.2) G (JK g)))))))))) (bU (JK d) 13 (GW d) (λB G=>K (fM (ED (eN d.1) (aY B))) d.2.2.2.1 G))))))
def Vj(N:Nat)(cb:Nat)(s t:Sl)(d:Nat)(m:MH)(h:PH)(K:cr):Prop:=
  I0 (dA cb (dJ s (hX t (↑d:Int)))) m h N (λv f e=>D9 (dJ s (jA t (jU v))) e (λc p g=>dW (fX c p g) 2 (I0 (dA cb (dJ s (hX t 1))) f e N (λj n o=>K (fM j.enc) n o)) (K (fM v.enc) f e)))
theorem VP:Z4 zeroV zeroV=true:=by simp[Z4]
theorem Cq:FE 0 dG dG=true:=by simp[FE,YX,Z4]
theorem W6{cols params:cq}{x:Int}(h:cols[i]? =some x):kindOf cols params ⟨1,i,zeroV⟩=x:=by
 have d:=(bm h);have e:kindOf cols params ⟨1,i,zeroV⟩=qH cols ⟨1,i,zeroV⟩:=rfl;have c:=VP;rw[e];simp only[qH,c,Bool.not_true,Bool.or_false]
 grind
theorem W5{cols params:cq}{x:Int}(h:params[i]? =some x):kindOf cols params ⟨2,i,zeroV⟩=x:=by
 have d:=(bm h);have e:kindOf cols params ⟨2,i,zeroV⟩=qH params ⟨2,i,zeroV⟩:=rfl;have c:=VP;rw[e];simp only[qH,c,Bool.not_true,Bool.or_false]
 grind
theorem Ux{cols params:cq}{c:Int}{v:VV}(f:TH v)(g:Wm c v):Wk cols params c ⟨3,0,v⟩:=⟨f,λh=>by
 obtain⟨j,d⟩:=g h;have e:kindOf cols params ⟨3,0,v⟩=if((0:Int) !=0|| !nK v)then 0 else v.kind:=rfl
 rw[e,if_neg,d];simp only[nK,j,d];rcases h with rfl|rfl|rfl<;>decide⟩
theorem Yf:cm 165 Wj:=by
 refine iH func165 ?_;rintro U m h K ⟨cb,s,t,d,e,c,rfl,V,P,Q,Z,l2,R⟩;refine⟨a2Z cb s t d m h,rfl,aE H2 (aE K6 aG),Rx cb s t d m h K,ax,?_⟩;dsimp only[Rx,push_cast];have E:=P.slen;have F:=Q.slen;refine⟨λ⟨i,f⟩=>i<=e.length/\f.length<=i/\∀o∈f,Wk e c d o,λ⟨i,_⟩=>e.length-i,⟨(0,[]),⟨aD,ay,ay⟩,MT⟩,?_⟩;rintro⟨i,f⟩ ⟨S,y,g⟩;dsimp only;refine aF (λj=>?_) (λz=>?_)
 .obtain⟨x,A⟩:=eU E j;obtain⟨G,H,I,J⟩:=P.at' A;refine⟨G,H,I,aD,j,x,.imm J,aC (λW=>⟨bf,bf,(i+1,f++[⟨1,i,zeroV⟩]),⟨aD,bf,?_⟩,aD,?_⟩) (λ_=>⟨(i+1,f),⟨aD,bg,g⟩,aD,MT⟩)⟩
  .intro o u;rcases mem_append.1 u with n|n
   .grind
   .simp at n;subst n;exact⟨rP,λ_=>by rw[W6 (bk A)];grind⟩
  .rw[bw];exact MT
 refine⟨λ⟨i,f⟩=>i<=c.length/\f.length<=1000+i/\∀o∈f,Wk e c d o,λ⟨i,_⟩=>c.length-i,⟨(0,f),⟨aD,aD,g⟩,MT⟩,?_⟩;clear S y g z;rintro⟨i,f⟩ ⟨S,y,g⟩;dsimp only;refine aF (λj=>?_) (λz=>?_)
 .obtain⟨x,A⟩:=eU F j;obtain⟨G,H,I,J⟩:=Q.at' A;refine⟨G,H,I,aD,j,x,.imm J,aC (λW=>⟨bf,bf,(i+1,f++[⟨2,i,zeroV⟩]),⟨aD,bf,?_⟩,aD,?_⟩) (λ_=>⟨(i+1,f),⟨aD,bg,g⟩,aD,MT⟩)⟩
  .intro o u;rcases mem_append.1 u with n|n
   .grind
   .simp at n;subst n;exact⟨rP,λ_=>by rw[W5 (bk A)];grind⟩
  .rw[bw];exact MT
 .refine⟨cb,_,rfl,V,λk m' X n u B=>aF (λT=>?_) (λT=>⟨cb,d,rfl,B,λv L Y M O C=>R ⟨3,0,v⟩ L (Ux Y M) (u.trans O) C⟩)⟩;have D:k.toNat<f.length:=bg
  exact⟨X,T,_,by rw[getElem?_map,bo D];rfl,f[k.toNat],rfl,R _ m' (g _ (getElem_mem D)) u B⟩
theorem Ou{h:PH}{v:PV}(c:v.args=⟨none,0,0⟩):dO h (.mk v.op v.cmp v.left v.right []) v:=dO.mk (by rw[c];exact .nil _ _ _ _)
structure boX(cols params:cq)(kd:Int)(p:PV):Prop where
 args_:p.args=⟨none,0,0⟩
 op_:p.op=3
 cmp_:1<=p.cmp/\p.cmp<=6
 left_:Wk cols params kd p.left
 right_:Wk cols params kd p.right
 kind_:MP cols->KOk kd
theorem buX{k:Int}(h:KOk k):k≠0:=by rcases h with rfl|rfl|rfl<;>decide
theorem boX.pw{cols params:cq}{f:Int}{p:PV}(x:boX cols params f p)(d:Nat):PW cols params d (.mk p.op p.cmp p.left p.right []):=by
 refine⟨⟨x.left_.val,x.right_.val,trivial⟩,λg=>?_,Pr.leaf d⟩;have c:=x.kind_ g;have j:=x.left_.kind c;have n:=x.right_.kind c;have o:=buX c;have e:=x.cmp_;rw[x.op_];simp[jG,j,n,o,e.1,e.2]
theorem bYZ{cols params:cq}{d:Nat}(x:PW cols params d p):PW cols params (d+1) (.mk 6 0 dG dG [p]):=
 ⟨⟨rP,rP,x.vals,trivial⟩,λf=>by
  have e:=Cq;simp[jG,wX,e,x.valid f],Pr.node (λq c=>by simp at c;subst c;exact x.siz) ay⟩
theorem bYJ{cols params:cq}{d:Nat}{op:Int}{ps:dg}(f:op=4\/op=5)(x:∀p∈ps,PW cols params d p)(g:ps.length<=3):PW cols params (d+1) (.mk op 0 dG dG ps):=
 ⟨⟨rP,rP,Pw.2 λp c=>(x p c).vals⟩,λj=>by
  have e:=Cq;have n:wX cols params ps=true:=by rw[Fv,all_eq_true];exactλp c=>(x p c).valid j
  rcases f with rfl|rfl<;>simp[jG,e,n],Pr.node (λq o=>(x q o).siz) g⟩
theorem ZQ:∀N,cm 93 (beJ N)
 |0=>by
  refine eD (fn:=Tryz.f93) (c:=cA Tryz.f93) func93 rfl az ?_;rintro a1 m h K ⟨cb,s,t,f,d,g,rfl,_,_,_,_,_,hN,_⟩;omega
 |N+1=>by
  refine iH func93 ?_;rintro a1 m h K ⟨cb,s,t,f,d,g,rfl,hc,O,ht,l1,l2,hN,hd,hK⟩;refine⟨bwX N cb s t g h,rfl,aE H2 (aE BN (aE Yf (aE K6 (aE (ZQ N) aG)))),U4 N cb s t g m h K,ax,?_⟩;dsimp only[U4,push_cast];have a7:=O.slen;refine⟨cb,9,rfl,hc,λk C M P y z=>?_⟩;refine⟨λ⟨k,_,A⟩=>0<=k/\k<=8/\bE m A cb/\aR A h cb,aC (λ_=>⟨cb,2,rfl,aD,aD,z,λr F D E=>⟨(k,r,F),⟨M,aD,y.trans D,E⟩,MT⟩⟩) (λ_=>⟨(k,false,C),⟨M,aD,y,z⟩,MT⟩),?_⟩;clear M P y z k C;rintro⟨k,b,C⟩ ⟨M,P,y,z⟩;dsimp only;refine aC (λ_=>⟨cb,2,rfl,z,λj F S j1 D E=>?_⟩) (λ_=>?_)
  .refine hK ⟨IntKind.i64.wrap (1+j),0,dG,dG,⟨none,0,0⟩⟩ _ F h (.refl _) (Ou rfl) ⟨⟨rP,rP,trivial⟩,λ_=>?_,Pr.leaf _⟩ (y.trans D) E;have hj:j=0\/j=1:=by omega
   have e1:IntKind.i64.wrap 1=1:=az
   have e2:IntKind.i64.wrap 2=2:=az
   rcases hj with rfl|rfl
   .simp[jG,e1,Cq]
   .simp[jG,e2,Cq]
  refine⟨λ⟨k,b,A⟩=>0<=k/\k<=8/\(b=false->6<=k/\1<=g)/\bE m A cb/\aR A h cb,aF (λ_=>⟨(k,true,C),⟨M,P,λe=>(by cases e),y,z⟩,MT⟩) (λhk=>⟨(k,_,C),⟨M,P,λe=>?_,y,z⟩,MT⟩),?_⟩
  .grind
  clear M P y z k C;rintro⟨k,b,C⟩ ⟨M,P,kb,y,z⟩;dsimp only;refine aC (λ_=>?_) (λhb=>?_)
  .refine⟨λ⟨H,A⟩=>(MP f->KOk H)/\bE m A cb/\aR A h cb,aF (λa6=>⟨cb,s.len,rfl,z,λj F S j1 D E=>?_⟩) (λ_=>⟨(4,C),⟨λ_=>.inr (.inl rfl),y,z⟩,MT⟩),?_⟩
   .obtain⟨b1,off,e1,r1⟩:=O.inb (n:=j) S aD
    have hm:f.getD j.toNat 0∈f:=by
     grind
    exact⟨b1,off,e1,S,aD,_,.imm r1,(_,F),⟨λT=>T _ hm,y.trans D,E⟩,MT⟩
   clear y z C;rintro⟨H,C⟩ ⟨U,y,z⟩;dsimp only;refine⟨λ⟨p,H,A⟩=>boX f d H p/\bE m A cb/\aR A h cb,⟨cb,6,rfl,z,λj F S j1 D E=>⟨cb,s,t,H,f,d,rfl,E,O,ht,l1,l2,λo m3 ho V W=>⟨cb,H,rfl,W,λv m4 hv a2 o4 c4=>⟨(⟨3,IntKind.i64.wrap (1+j),o,⟨3,0,v⟩,⟨none,0,0⟩⟩,H,m4),⟨⟨rfl,rfl,?_,ho,Ux hv a2,U⟩,((y.trans D).trans V).trans o4,c4⟩,MT⟩⟩⟩⟩,?_⟩
   .show 1<=IntKind.i64.wrap (1+j)/\IntKind.i64.wrap (1+j)<=6;rw[dY aD aD];omega
   clear y z C U H;rintro⟨p,H,C⟩ ⟨pw,y,z⟩;dsimp only;refine⟨λ⟨p,A⟩=>boX f d H p/\bE m A cb/\aR A h cb,⟨cb,3,rfl,aD,aD,z,λr F D E=>aC (λ_=>⟨cb,s,t,H,f,d,rfl,E,O,ht,l1,l2,λo m3 ho V W=>⟨(⟨p.op,p.cmp,p.left,o,p.args⟩,m3),⟨⟨pw.args_,pw.op_,pw.cmp_,pw.left_,ho,pw.kind_⟩,(y.trans D).trans V,W⟩,MT⟩⟩) (λ_=>⟨(p,F),⟨pw,y.trans D,E⟩,MT⟩)⟩,?_⟩;clear pw y z C p;rintro⟨p,C⟩ ⟨pw,y,z⟩;dsimp only;refine⟨λ⟨p,A⟩=>boX f d H p/\bE m A cb/\aR A h cb,⟨cb,6,rfl,aD,aD,z,λr F D E=>aC (λ_=>⟨(⟨p.op,p.cmp,p.right,p.left,p.args⟩,F),⟨⟨pw.args_,pw.op_,pw.cmp_,pw.right_,pw.left_,pw.kind_⟩,y.trans D,E⟩,MT⟩) (λ_=>⟨(p,F),⟨pw,y.trans D,E⟩,MT⟩)⟩,?_⟩;clear pw y z C p;rintro⟨p,C⟩ ⟨pw,y,z⟩;exact hK p _ C h (.refl _) (Ou pw.args_) (pw.pw g) y z
  have a3:=kb hb;have hw:IntKind.i64.wrap ((g:Int)-1)=((g-1:Nat):Int):=by rw[dY aD aD];omega
  rw[hw];have X:g=g-1+1:=by omega
  refine aC (λ_=>⟨cb,s,t,f,d,g-1,rfl,z,O,ht,l1,l2,aD,aD,λv p F h2 G hr hp D E Y Z I J=>?_⟩) (λa4=>⟨cb,3,rfl,z,λj F S j1 D E=>?_⟩)
  .refine hK ⟨6,0,dG,dG,Y⟩ (.mk 6 0 dG dG [p]) F Z (G.trans I) (dO.mk (v:=⟨6,0,dG,dG,Y⟩) ⟨⟨[v],J,rfl,λi x L=>?_⟩,ay⟩) (by rw[X];exact bYZ hp) (y.trans D) (E.mono I)
   match i,L with
   |0,L=>simp at L;subst L;exact⟨v,rfl,hr.mono I⟩
   |_+1,L=>simp at L
  refine⟨λ⟨op,n,Q,A,L⟩=>(op=4\/op=5)/\ -1<=n/\n<=2/\(Q.length:Int)<=2-n/\PH.le h L/\bE m A cb/\aR A L cb/\∃ps:dg,ps.length=Q.length/\(∀q∈ps,PW f d (g-1) q)/\∀(i:Nat) q,ps[i]? =some q->∃u,Q[i]? =some u/\dO L q u,λ⟨_,n,_,_,_⟩=>(n+1).toNat,⟨(_,j,[],F,h),⟨?_,aD,aD,bf,.refl _,y.trans D,E,[],rfl,ay,λi q R=>by simp at R⟩,MT⟩,?_⟩
  .have a4:k≠6:=bg
   have a5:k=7\/k=8:=by omega
   rcases a5 with rfl|rfl
   .exact .inl az
   .exact .inr az
  rintro⟨op,n,Q,A,L⟩ ⟨a',n0,n1,ul,G,ox,cx,ps,pl,pw,a0⟩;dsimp only;refine aF (λhn=>⟨cb,s,t,f,d,g-1,rfl,cx,O.mono G,ht.mono G,l1,l2,aD,aD,λv p m3 Z B hr hp V W=>⟨bf,bf,(op,n-1,Q++[v],m3,Z),⟨a',bg,bg,bf,G.trans B,ox.trans V,W,ps++[p],by simp[pl],?_,?_⟩,?_,?_⟩⟩) (λhn Y Z B J=>?_)
  .grind
  .intro i q R;by_cases hi:i<ps.length
   .rw[getElem?_append_left hi]at R;obtain⟨u,h1,h2⟩:=a0 i q R;exact⟨u,bg,h2.mono B⟩
   grind
  .grind
  .rw[bw,dY aD aD];exact MT
  .exact hK ⟨op,0,dG,dG,Y⟩ (.mk op 0 dG dG ps) A Z (G.trans B) (dO.mk (v:=⟨op,0,dG,dG,Y⟩) ⟨⟨Q,J,pl,λi q R=>(a0 i q R).imp λu hu=>⟨hu.1,hu.2.mono B⟩⟩,aD⟩) (by rw[X];exact bYJ a' pw aD) ox (cx.mono B)
theorem VW(h:MP l):l.all eT=true:=all_eq_true.2 λk c=>by
 rcases h k c with e|e|e<;>subst e<;>rfl
theorem ZD{cols params:cq}{d:Nat}(x:PW cols params d p)(e:d<=2)(c:MP cols)(f:MP params):fX cols params p=0:=by
 have j:=N6 p 0;have o:=x.siz.n;have g:=MA p 8 (by have:=x.siz.d;omega)
 have t:gF d<=13:=by match d,e with
  |0,_=>decide
  |1,_=>decide
  |2,_=>decide
 unfold fX;rw[VW c,VW f,if_neg ay,g,if_neg bf,x.valid c];rfl
theorem Lc:cm 44 E5:=by
 refine iH func44 ?_;rintro G m h K ⟨cb,s,t,e,c,f,rfl,H,n,o,z,A,I,B⟩;refine⟨dD [(93,beJ 1001),(94,tV)] [] [] [] false,rfl,aE (ZQ 1001) (aE K7 aG),Vj 1001 cb s t f m h K,ax,?_⟩;dsimp only[Vj,push_cast];refine⟨cb,s,t,e,c,f,rfl,H,n,o,z,A,aD,I,λv p J L d C D E F=>⟨s,t,v,e,c,p,rfl,n.mono d,o.mono d,C,aC (λ_=>⟨cb,s,t,e,c,1,rfl,F,n.mono d,o.mono d,z,A,aD,aD,λM O P Q g u j R S=>B M O P Q (d.trans g) u ⟨j.vals,λ_ x y=>ZD j az x y⟩ (E.trans R) S⟩) (λ_=>B v p J L d C ⟨D.vals,λT x y=>ZD D T x y⟩ E F)⟩⟩
def bR:Sl:=⟨none,0,0⟩
def afX:Vc.Spec:=λc m h K=>∃n k,c=[V1 n,cI k]/\K (.val (.agg ⟨(qJ.mk n k).enc⟩)) m h
def bhQ:Vc.Spec:=λc m h K=>∃t,c=[cI t]/\K (aQ ⟨1,t,fS,bR,bR,bR,bR,0,bR⟩) m h
def bMJ(v:QV)(g o:Sl)(k:Int):QV:=⟨v.op,v.table,v.where_,v.columns,v.on,g,o,k,v.args⟩
def bQZ:Vc.Spec:=λd m h K=>∃cb v s c,d=[cP cb,aQ (bMJ v bR bR v.limit),cS s]/\aR m h cb/\Ints h s c/\c.length<=1000/\
 ∀g o k gr od m' h',PH.le h h'->Ints h' g gr->jO h' o od->gr.length<=c.length->od.length<=c.length->0<=k->k<=3->bE m m' cb->aR m' h' cb->K (aQ (bMJ v g o k)) m' h'
noncomputable def bBX(cb:Nat)(v:QV)(s:Sl)(h:PH):Ctx:=
 dD [(12,Hu),(13,PJ)] [(2,{A:=Nat×cq×cv×MH,st:=λ⟨i,gr,od,m⟩=>bQ 37 40 [(0,pv cb),(4,.at (.ptr 4 0)),(6,.at (.ptr 6 0)),(9,iv s.len),(10,iv i)] [(4,.cells 38 ((v.enc.take 17).map .val++[.lst 19,.lst 30,.val (.int .i64 v.limit),.val (.slice v.args.a v.args.len v.args.cap)])),(6,.cells 38 (pU.enc.map .val)),(19,.lst 3 1 (gr.map eI)),(30,.lst 103 2 (od.map sJ))] m h})] [] [] false
def aTQ(n:ByteArray)(k:Int)(m:MH)(h:PH)(K:cr):Prop:=
  K (fM (qD n k)) m h
noncomputable abbrev Bh(a:Int):cn:=u0 (eN 1) (eN a) lI lI lI lI cW iV
attribute [push_cast] Bh
def aUZ(t:Int)(m:MH)(h:PH)(K:cr):Prop:=
  K (fM (Bh t)) m h
abbrev Gw(a:QV):Prop:=eQ (oQ 38 (cQ (fV a.op) (pD a) (sG a (tM a) a.on (At.lst 19) (At.lst 30) (lL (fV a.limit) (AW a)))))
noncomputable abbrev vX(a:Nat×cq×cv×MH):List cn:=jK a.2.1
noncomputable abbrev uM(a:Nat×cq×cv×MH):List cn:=Oi a.2.2.1
abbrev I6(a:Nat×cq×cv×MH->Prop)(b:Nat×cq×cv×MH->Nat)(c:Nat×cq×cv×MH)(d:Nat)(e:Sl)(g:Prop)(i j:(Nat×cq×cv×MH)->Prop)(k:MH)(l:PH):Prop:=∃(x:Nat×cq×cv×MH),aA (a x) (b x<b c) (aA (cR d) iS (aA (eP 6) (bJ e) (aA (bD (gG (bF c.1 1)) x.1) g (aA eH (i x) (aA (j x) (k=x.2.2.2) (bL l l))))))
attribute [push_cast] Gw vX uM I6
def Vk(cb:Nat)(v:QV)(s:Sl)(m:MH)(h:PH)(K:cr):Prop:=
  ∃(I:Nat×cq×cv×MH->Prop)(o:Nat×cq×cv×MH->Nat),(∃(x:Nat×cq×cv×MH),aA (I x) (cR cb) (aA iS (eP 6) (aA (bJ s) (bB x.1) (aA (Gw v) eH (uZ (sL (vX x)) (qG 103 2 (uM x)) (m=x.2.2.2) h h)))))/\∀(x:Nat×cq×cv×MH),I x->aX (↑x.1:Int) (aH s) (oD cb 3 x.2.2.2 h (λc=>c) (λc r=>∀(j:MH),bE x.2.2.2 j c->aR j h c->branch r (mV (vX x) 8 (oD cb 3 j h (λf=>f) (λf t=>∀(e:MH),bE j e f->aR e h f->branch t (oD cb 2 e h (λg=>g) (λg u=>∀(n:MH),bE e n g->aR n h g->mV (uM x) 16 (I6 I o x cb s (Gw v) (λd=>sM (vX x) (↑x.1:Int) (vX d)) (λd=>Option.some
 (Own.lst 103 2 (fK (uM x) (rL (eN (↑x.1:Int)) (Value.bool u))))=Option.some (Own.lst 103 2 (uM d))) n h))) (I6 I o x cb s (Gw v) (λd=>sM (vX x) (↑x.1:Int) (vX d)) (λd=>Option.some (Own.lst 103 2 (uM x))=Option.some (Own.lst 103 2 (uM d))) e h)))) (oD cb 3 j h (λf=>f) (λf t=>∀(e:MH),bE j e f->aR e h f->branch t (oD cb 2 e h (λg=>g) (λg u=>∀(n:MH),bE e n g->aR n h g->mV (uM x) 16 (I6 I o x cb s (Gw v) (λd=>Be (vX x) (vX d)) (λd=>Option.some (Own.lst 103 2 (fK (uM x) (rL (eN (↑x.1:Int)) (Value.bool u))))=Option.some (Own.lst 103 2 (uM d))) n h))) (I6 I o x cb s (Gw v) (λd=>Be (vX x) (vX d)) (λd=>Option.some (Own.lst
 103 2 (uM x))=Option.some (Own.lst 103 2 (uM d))) e h))))) (iR cb 4 x.2.2.2 h (λk j=>bU h 1 (vX x) (λy z=>bU z 2 (uM x) (λA B=>K (fM (vO v v (aL (mN (jR v)) (j4 (fC v)) (aL (qC (fC v)) (jY (fC v)) (aL (qP (fC v)) (mN (fC v)) (aL (B3 v) (B6 v) (aL (hJ v.on) (hJ y) (aL (hJ A) (eN k) (aY v.args))))))))) j B))))
theorem apJ:cm 92 afX:=by
 refine iH func92 ?_;rintro c m h K ⟨n,k,rfl,d⟩;refine⟨dD [] [] [] [] false,rfl,aG,aTQ n k m h K,ax,?_⟩;exact d
theorem QP:cm 40 bhQ:=by
 refine iH func40 ?_;rintro c m h K ⟨t,rfl,d⟩;refine⟨dD [] [] [] [] false,rfl,aG,aUZ t m h K,ax,?_⟩;exact d
theorem atX:cm 43 bQZ:=by
 refine iH func43 ?_;rintro I m h K ⟨cb,v,s,c,rfl,J,L,X,M⟩;refine⟨bBX cb v s h,rfl,aE H2 (aE BN aG),Vk cb v s m h K,ax,?_⟩;dsimp only[Vk,push_cast];have O:=L.slen;refine⟨λ⟨i,gr,od,E⟩=>i<=c.length/\gr.length<=i/\od.length<=i/\bE m E cb/\aR E h cb,λ⟨i,_,_,_⟩=>c.length-i,⟨(0,[],[],m),⟨aD,ay,ay,.refl _ _,J⟩,MT⟩,?_⟩;rintro⟨i,gr,od,Y⟩ ⟨Z,hg,ho,n,F⟩;dsimp only;refine aF (λP=>?_) (λQ=>?_)
 .have fin:∀(f:cq)(g:cv) m',f.length<=i+1->g.length<=i+1->bE m m' cb->aR m' h cb->(i+1<=c.length/\f.length<=i+1/\g.length<=i+1/\bE m m' cb/\aR m' h cb):=λf g m' G A R S=>⟨aD,G,A,R,S⟩
  refine⟨cb,3,rfl,aD,aD,F,λr H j z=>aC (λ_=>⟨bf,bf,cb,3,rfl,aD,aD,z,λB o t u=>aC (λ_=>⟨cb,2,rfl,aD,aD,u,λx y C D=>⟨bf,bf,(i+1,gr++[(i:Int)],od++[((i:Int),x)],y),fin (gr++[(i:Int)]) (od++[((i:Int),x)]) y bf bf (((n.trans j).trans t).trans C) D,aD,?_⟩⟩) (λ_=>⟨(i+1,gr++[(i:Int)],od,o),fin (gr++[(i:Int)]) od o bf aD ((n.trans j).trans t) u,aD,?_⟩)⟩)
   (λ_=>⟨cb,3,rfl,aD,aD,z,λB o t u=>aC (λ_=>⟨cb,2,rfl,aD,aD,u,λx y C D=>⟨bf,bf,(i+1,gr,od++[((i:Int),x)],y),fin gr (od++[((i:Int),x)]) y aD bf (((n.trans j).trans t).trans C) D,aD,?_⟩⟩) (λ_=>⟨(i+1,gr,od,o),fin gr od o aD aD ((n.trans j).trans t) u,aD,MT⟩)⟩)⟩
  .simp only[bw];exact MT
  .simp only[bw];exact MT
  .simp only[bw];exact MT
 .refine⟨cb,4,rfl,F,λk H T k1 j z U G e V W A d B=>?_⟩;exact M U W k gr od H A (e.trans d) ⟨V.mono d,aD⟩ ⟨B,aD⟩ aD aD T aD (n.trans j) (z.mono (e.trans d))
def bjQ:Vc.Spec:=λc m h K=>∃cb s t a b,c=[cP cb,cS s,cS t]/\aR m h cb/\Ints h s a/\Ints h t b/\a.length<=1000/\b.length<=1000/\
 ∀o on m' h',PH.le h h'->iD h' o on->on.length<=10->bE m m' cb->aR m' h' cb->K (cS o) m' h'
noncomputable def bBJ(cb:Nat)(s t:Sl)(h:PH):Ctx:=
 dD [(12,Hu)] [(3,{A:=Int×cu×MH,st:=λ⟨n,on,m⟩=>bQ 77 80 [(0,pv cb),(1,sv s),(2,sv t),(7,.at (.lst 75)),(8,iv n)] [(75,.lst 101 2 (on.map kY))] m h}),
  (8,{A:=Int×Nat×cu×(Int×Int)×Bool×MH,st:=λ⟨n,i,on,p,f,m⟩=>bQ 77 80 [(0,pv cb),(1,sv s),(2,sv t),(7,.at (.lst 75)),(8,iv n),(9,.at (.ptr 9 0)),(10,bv f),(49,.at (.lst 75)),(50,iv on.length),(51,iv i)] [(9,.cells 101 [.val (.int .i64 p.1),.val (.int .i64 p.2)]),(75,.lst 101 2 (on.map kY))] m h})] [] [] false
noncomputable abbrev Bm(a:Int×cu×MH):List cn:=A1 a.2.1
noncomputable abbrev Ei(a:Int×Nat×cu×(Int×Int)×Bool×MH):Bool:=a.2.2.2.2.1
noncomputable abbrev Bl(a:Int×Nat×cu×(Int×Int)×Bool×MH):Nat:=a.2.2.1.length
noncomputable abbrev BW(a:Int×Nat×cu×(Int×Int)×Bool×MH):Int×Int:=a.2.2.2.1
noncomputable abbrev uK(a:Int×Nat×cu×(Int×Int)×Bool×MH):List cn:=A1 a.2.2.1
noncomputable abbrev z6(a:Int×Nat×cu×(Int×Int)×Bool×MH):Nat->Option Obj:=a.2.2.2.2.2
abbrev M7(a:dw->Prop)(b:dw->Nat)(c d:Nat)(e g:Sl)(i:Int×Nat×cu×(Int×Int)×Bool×MH)(j:dw->Int×Nat×cu×(Int×Int)×Bool×MH)(k:dw->Prop):Prop:=∃(x:Int×Nat×cu×(Int×Int)×Bool×MH),aA (a x) (b x<c) (aA (cR d) (aI e) (aA (aI g) (eL 75) (aA (dR i.1 (j x).1) (eP 9) (k x))))
attribute [push_cast] Bm Ei Bl BW uK z6 M7
def Vm(cb:Nat)(s t:Sl)(m:MH)(h:PH)(K:cr):Prop:=
  iR cb 3 m h (λk F=>∃(I:Int×cu×MH->Prop)(n:Int×cu×MH->Nat),(∃(x:Int×cu×MH),aA (I x) (cR cb) (aA (aI s) (aI t) (aA (eL 75) (dR k x.1) (aA (qG 101 2 (Bm x)) (F=x.2.2) (bL h h)))))/\∀(x:Int×cu×MH),I x->eZ x.1 0 (eZ (aH s) 0 (eZ (aH t) 0 (iR cb (aH s) x.2.2 h (λu G=>iR cb (aH t) G h (λz A=>aA (bV 0) ((0:Int)<2) (bI (λb o=>aA (bK s.a b o) (0<=u) (u<aH s/\∃(y:Int),aA (aU A h b (fT o u 1) (bG y)) ((0:Int)<=1) ((1:Int)<2/\bI (λC D=>aA (bK t.a C D) (0<=z) (z<aH t/\∃(E:Int),aU A h C (fT D z 1) (bG E)/\∃(I1:Int×Nat×cu×(Int×Int)×Bool×MH->Prop)(f:Int×Nat×cu
 ×(Int×Int)×Bool×MH->Nat),(∃(c:Int×Nat×cu×(Int×Int)×Bool×MH),aA (I1 c) (cR cb) (aA (aI s) (aI t) (aA (eL 75) (dR x.1 c.1) (aA (eP 9) (kV (y==E) (Ei c)) (aA (eL 75) (cO (Bm x).length (Bl c)) (aA (bB c.2.1) (Eh (lL (fV u) (fV z)) (vT (BW c))) (bO (Option.some (Own.lst 101 2 (Bm x))=Option.some (Own.lst 101 2 (uK c))) (A=z6 c) (h=h))))))))/\∀(c:Int×Nat×cu×(Int×Int)×Bool×MH),I1 c->aX (↑c.2.1:Int) (↑(Bl c):Int) (rW (↑c.2.1:Int) ((↑c.2.1:Int)<iZ (uK c)) (λe=>mI (uK c) (↑c.2.1:Int) e/\∃(B:Int×Int),fH (pN 2 e (uH B)) (Ei c) (aA (bV 0) Bf (aA (bV 0) Bf (dC B.1 (BW c).1 (aA (bV 1) Bg (aA
 (bV 1) Bg (M7 (λd=>I1 d) (λd=>f d) (f c) cb s t c (λd=>d) (λd=>aA (kV (B.2 !=(BW c).2) (Ei d)) (eL 75) (aA (cO (Bl c) (Bl d)) (bD (gG (bF c.2.1 1)) d.2.1) (aA (Eh (vT (BW c)) (vT (BW d))) (Option.some (Own.lst 101 2 (uK c))=Option.some (Own.lst 101 2 (uK d))) (aA (z6 c=z6 d) (h=h) True))))))) (M7 (λd=>I1 d) (λd=>f d) (f c) cb s t c (λd=>d) (λd=>aA (Da (Ei d)) (eL 75) (aA (cO (Bl c) (Bl d)) (bD (gG (bF c.2.1 1)) d.2.1) (aA (Eh (vT (BW c)) (vT (BW d))) (Option.some (Own.lst 101 2 (uK c))=Option.some (Own.lst 101 2 (uK d))) (aA (z6 c=z6 d) (h=h) True)))))))) (M7 (λd=>I1 d) (λd=>f d) (f c)
 cb s t c (λd=>d) (λd=>aA (Da (Ei d)) (eL 75) (aA (cO (Bl c) (Bl d)) (bD (gG (bF c.2.1 1)) d.2.1) (aA (Eh (vT (BW c)) (vT (BW d))) (Option.some (Own.lst 101 2 (uK c))=Option.some (Own.lst 101 2 (uK d))) (aA (z6 c=z6 d) (h=h) True))))))) (branch (Ei c) (mV (uK c) 16 (∃(d:Int×cu×MH),aA (I d) (n d<n x) (aA (cR cb) (aI s) (aA (aI t) (eL 75) (aA (dR (fI (c.1-1)) d.1) (Option.some (Own.lst 101 2 (fK (uK c) (uH (BW c))))=Option.some (Own.lst 101 2 (Bm d))) (bP (z6 c=d.2.2) h h)))))) (∃(d:Int×cu×MH),aA (I d) (n d<n x) (aA (cR cb) (aI s) (aA (aI t) (eL 75) (aA (dR (fI (c.1-1)) d.1) (Option.some (Own.lst 101 2 (uK
 c))=Option.some (Own.lst 101 2 (Bm d))) (bP (z6 c=d.2.2) h h))))))))))))))) (bU h 2 (Bm x) (λg j=>K (Dj g) x.2.2 j))) (bU h 2 (Bm x) (λg j=>K (Dj g) x.2.2 j))) (bU h 2 (Bm x) (λg j=>K (Dj g) x.2.2 j)))
theorem atJ:cm 41 bjQ:=by
 refine iH func41 ?_;rintro L m h K ⟨cb,s,t,a,b,rfl,M,C,D,l1,l2,O⟩;refine⟨bBJ cb s t h,rfl,aE H2 aG,Vm cb s t m h K,ax,?_⟩;dsimp only[Vm,push_cast];have P:=C.slen;have Q:=D.slen;refine⟨cb,3,rfl,M,λk g E R d j=>⟨λ⟨n,on,A⟩=>0<=n/\n<=2/\(on.length:Int)<=2-n/\bE m A cb/\aR A h cb,λ⟨n,_,_⟩=>n.toNat,⟨(k,[],g),⟨E,aD,bf,d,j⟩,MT⟩,?_⟩⟩;clear E R d j g;rintro⟨n,on,g⟩ ⟨n0,n1,S,d,j⟩;dsimp only;have out:∀(e:Sl)(h':PH),PH.le h h'->cC h' e 2 (on.map kY)->K (.val (.slice e.a e.len e.cap)) g h':=λe h' o u=>O e on g h' o ⟨u,aD⟩ aD d (j.mono o);refine aF (λhn=>aF (λhp=>aF (λhq=>?_) (λ_=>out)) (λ_=>out)) (λ_=>out);refine⟨cb,s.len,rfl,j,λx m2 F x1 G T=>⟨cb,t.len,rfl,T,λy c H y1 I J=>?_⟩⟩;obtain⟨U,V,W,X⟩:=C.inb (n:=x) F aD;obtain⟨Y,Z,e2,r2⟩:=D.inb (n:=y) H aD;refine⟨aD,aD,U,V,W,F,aD,_,.imm X,aD,aD,Y,Z,e2,H,aD,_,.imm r2,?_⟩;refine⟨λ⟨n',i,B,p,f,A⟩=>n'=n/\B=on/\A=c/\i<=on.length,λ⟨_,i,_,_,_,_⟩=>on.length-i,⟨(n,0,on,(x,y),a.getD x.toNat 0==b.getD y.toNat 0,c),⟨rfl,rfl,rfl,aD⟩,?_⟩,?_⟩
 .rw[length_map];exact MT
 rintro⟨n,i,on,p,f,c⟩ ⟨rfl,rfl,rfl,hi⟩;dsimp only;refine aF (λa'=>?_) (λa0=>?_)
 .have hl:i<on.length:=by omega
  have z:(on.map kY)[i]? =some (kY on[i]):=bg
  refine⟨aD,bg,_,z,on[i],rfl,aC (λ_=>⟨aD,aD,aD,aD,aC (λ_=>⟨aD,aD,aD,aD,(n,i+1,on,p,_,c),⟨rfl,rfl,rfl,bj⟩,bi,MT⟩) (λ_=>⟨(n,i+1,on,p,_,c),⟨rfl,rfl,rfl,bj⟩,bi,MT⟩)⟩) (λ_=>⟨(n,i+1,on,p,_,c),⟨rfl,rfl,rfl,bj⟩,bi,MT⟩)⟩
 .have hw:IntKind.i64.wrap (n-1)=n-1:=dY aD aD;rw[hw];refine aC (λ_=>⟨bg,bg,(n-1,on++[p],c),⟨aD,aD,bf,(d.trans G).trans I,J⟩,aD,?_⟩) (λ_=>⟨(n-1,on,c),⟨aD,aD,bg,(d.trans G).trans I,J⟩,aD,MT⟩);rw[bw];exact MT
def cfJ:Vc.Spec:=λd m h K=>∃s e,∃c:Nat,d=[cS s,cI c]/\cC h s 1 (bA e)/\s.len<=s.cap/\c<=1000/\∀cb m' h',PH.le h h'->m cb=none->bE m m' cb->aR m' h' cb->K (cP cb) m' h'
abbrev FM(a b:Prop)(c:(List cn)->Prop):Prop:=aA a b (∃(x:List cn),c x)
attribute [push_cast] FM
def ZR(s:Sl)(c:Nat)(m:MH)(h:PH)(K:cr):Prop:=
  FM (bV (ite ((↑c:Int)<aH s) (↑c:Int) (aH s))) (ite ((↑c:Int)<aH s) (↑c:Int) (aH s)<=(↑s.cap:Int)) (λy=>jI 1 y (oP m h (Sl.mk s.a (ite ((↑c:Int)<aH s) (↑c:Int) (aH s)).toNat s.cap) 1 y) (iM (y.length*1)) (iM y.length) (bU h 1 y (λf e=>mH m e (λb d=>dQ m d b (rL (hJ f) cW) 83) (λb d=>K (kB b) d e))))
theorem IG(l:di):i6 1 (bA l):=by
 constructor
 .intro e c;obtain⟨x,_,rfl⟩:=mem_map.1 c;rfl
 .intro e c u d;obtain⟨x,_,rfl⟩:=mem_map.1 c;simp at d;subst d;rfl
theorem cC.cut{s:Sl}(r:cC h s sz xs)(n:Nat)(c:n<=xs.length):cC h ⟨s.a,n,s.cap⟩ sz (xs.take n):=by
 refine⟨bf,?_,by have d:=r.len;have f:=r.cap;grind⟩;rcases r.row with e|⟨b,o,g,k⟩
 .grind
 grind
theorem aTX:cm 8 cfJ:=by
 refine iH func8 ?_;rintro t m h K ⟨s,g,c,rfl,n,z,A,u⟩;refine⟨tR [] [] [] [] [83] [] false,rfl,aG,ZR s c m h K,ax,?_⟩;have B:s.len=g.length:=by have:=n.len;simpa[bA]using this
 dsimp only[ZR,push_cast];have d:(if(c:Int)<(s.len:Int)then(c:Int)else(s.len:Int))=((min c s.len:Nat):Int):=by omega
 rw[d];have e:=cC.cut n (min c s.len) (by simp[bA];omega);refine⟨aD,aD,bA (g.take (min c s.len)),IG _,.imm ?_,by simp[bA];omega,by simp[bA];omega,λx h' j f b m' y o=>?_⟩
 .rw[show bA (g.take (min c s.len))=(bA g).take (min c s.len)by simp[bA,map_take]];exact e
 .exact u b m' h' j y.m_ ⟨o.other⟩ ⟨_,⟨⟨x,_,0,o.at_,f,aD,bf,rfl⟩⟩⟩
def bSX:Vc.Spec:=λc m h K=>∃n:Nat,c=[.val (.slice none 0 0),cI n]/\n<=1000/\K (.lst 3 1 []) m h
noncomputable def a2J(c:Sl)(m:MH)(h:PH):Ctx:=
 dD [(222,bSX)] [(3,{A:=Nat×Nat,st:=λ⟨i,n⟩=>bQ 36 37 [(0,sv c),(3,iv n),(9,sv c),(10,iv c.len),(11,iv i)] [] m h}),
  (11,{A:=Nat×cq,st:=λ⟨i,l⟩=>bQ 36 37 [(6,.at (.lst 24)),(25,sv c),(26,iv c.len),(27,iv i)] [(24,.lst 3 1 (l.map eI))] m h})] [] [] false
abbrev Nf(a:Nat)(b c:Int)(d:cn)(e:Prop):Prop:=eZ (fI ((↑a:Int)-fI (b-b))) 0 (aA (bV b) (bV 0) (aA (b<fI ((↑a:Int)-0)) (fI ((↑a:Int)-0)*c<=140737488355328) (aA (fI ((↑a:Int)-0)<=140737488355328) (0<=b) (bV (iZ (replicate (fI ((↑a:Int)-0)).toNat d))/\e)))) e
attribute [push_cast] Nf
def Q7(n:Nat)(m:MH)(h:PH)(K:cr):Prop:=
  Nf n 0 8 (lD cW) (K (CV.lst 3 1 []) m h)
abbrev JA(a:(Nat×Nat->Prop)->(Nat×Nat)->Prop)(b:(Nat×Nat->Prop)->(Nat×Nat->Nat)->(Nat×Nat)->Prop):Prop:=∃(x:Nat×Nat->Prop)(d:Nat×Nat->Nat),(∃(c:Nat×Nat),a x c)/\∀(c:Nat×Nat),b x d c
noncomputable abbrev Eu(a:Nat):dk:=bC jQ (↑a:Int)
abbrev HY(a:MH)(b:PH)(c d e g:Nat)(i:cn)(j:(List cn)->Prop):Prop:=aU a b c (bN d e g) i/\∃(x:List cn),j x
attribute [push_cast] JA Eu HY
def Ry(d:Sl)(m:MH)(h:PH)(K:cr):Prop:=
  JA (λI x=>aA (I x) (aI d) (aA (bB x.2) (aI d) (aA (bJ d) (bB x.1) (aA (m=m) (h=h) True)))) (λI g x=>I x->aX (↑x.1:Int) (aH d) (eA d.a (↑x.1:Int) d (λb o y=>aU m h b (bN o x.1 1) (aY y)/\aX (bF x.2 (aH y)) 0 False (∃(c:Nat×Nat),aA (I c) (g c<g x) (aA (aI d) (bD (gG (bF x.2 (aH y))) c.2) (aA (aI d) (bJ d) (aA (bD (gG (bF x.1 1)) c.1) (m=m) (bL h h))))))) (∃(n:Nat),aA (Eu x.2=Eu n) (lY n) (Jz (λI1 c=>aA (I1 c) (eL 24) (aA (aI d) (bJ d) (aA (bB c.1) (sL (mW c)) (aA (m=m) (h=h) True)))) (λI1 j c=>I1 c->aX (↑c.1:Int) (aH d) (eA d.a (↑c.1:Int) d (λb o y=>HY m h b o c.1 1 (aY y) (λe=>jI 1 e (cC h (gJ y) 1 e) (nU
 (mW c) e 8) (nP (mW c) e) (∃(f:Nat×cq),aA (I1 f) (j f<j c) (aA (eL 24) (aI d) (aA (bJ d) (bD (gG (bF c.1 1)) f.1) (aA (Be (mW c++e) (mW f)) (m=m) (bL h h)))))))) (vP h (mW c) K m)))))
theorem XL:cm 222 bSX:=by
 refine iH func222 ?_;rintro d m h K ⟨n,rfl,f,c⟩;refine⟨dD [] [] [] [] true,rfl,aG,Q7 n m h K,ax,?_⟩;dsimp only[Q7,push_cast];have e:IntKind.i64.wrap ((n:Int)-0)=n:=by rw[dY aD aD];omega
 have g:IntKind.i64.wrap ((n:Int)-IntKind.i64.wrap (0-0))=n:=by rw[show IntKind.i64.wrap (0-0)=0 from by rw[dY aD aD];rfl,e]
 exact aF (λj=>⟨aD,aD,aD,aD,aD,aD,aD,c⟩) (λ_=>c)
def AR(ks:List cq):Nat:=(ks.map List.length).sum
theorem L4{k:cq}(c:ks[i]? =some k):AR (ks.take (i+1))=AR (ks.take i)+k.length:=by
 unfold AR;rw[cd,c];simp
theorem Kw{ks:List cq}(h:∀k∈ks,k.length<=12):∀i,AR (ks.take i)<=12*i
 |0=>by simp[AR]
 |i+1=>by
  have c:=Kw h i;cases e:ks[i]? with
  |none=>rw[cd,e];grind
  |some k=>rw[L4 e];grind
theorem O3:cm 164 Kt:=by
 refine iH func164 ?_;rintro E m h K ⟨A,ks,rfl,x,L,d,F⟩;refine⟨a2J A m h,rfl,aE XL aG,Ry A m h K,ax,?_⟩;dsimp only[Ry,push_cast];have j:=bZ.slen x;refine⟨λ⟨i,n⟩=>i<=ks.length/\n=AR (ks.take i),λ⟨i,_⟩=>ks.length-i,⟨(0,0),⟨aD,by simp[AR]⟩,MT⟩,?_⟩;rintro⟨i,n⟩ ⟨B,rfl⟩;dsimp only;have G:=Kw d i;refine aF (λc=>?_) (λt=>?_)
 .obtain⟨k,e⟩:=eU j c;obtain⟨b,o,g,y,r,f⟩:=bZ.at x e;have H:=f.slen;have u:=d k (br e)
  have I:IntKind.i64.wrap ((AR (ks.take i):Int)+(g.len:Int))=((AR (ks.take (i+1)):Nat):Int):=by
   rw[L4 e,dY aD aD];omega
  refine⟨b,o,y,aD,c,g,.imm r,?_⟩;rw[I];exact aF (λC=>by omega) (λ_=>⟨(i+1,AR (ks.take (i+1))),⟨aD,rfl⟩,aD,MT⟩)
 .refine⟨AR (ks.take i),rfl,aD,?_⟩;refine⟨λ⟨i,l⟩=>i<=ks.length/\l=(ks.take i).flatten,λ⟨i,_⟩=>ks.length-i,⟨(0,[]),⟨aD,ay⟩,MT⟩,?_⟩;clear G t B;rintro⟨i,l⟩ ⟨B,rfl⟩;dsimp only;have J:(ks.take i).flatten.length<=12*i:=by have:=Kw d i;simpa[AR,length_flatten]using this
  refine aF (λc=>?_) (λt g h' z D=>F g h' z ⟨?_,?_⟩)
  .obtain⟨k,e⟩:=eU j c;obtain⟨b,o,g,y,r,f⟩:=bZ.at x e;have u:=d k (br e);refine⟨b,o,y,aD,c,g,.imm r,k.map eI,qL k,f.row,?_,?_,(i+1,(ks.take (i+1)).flatten),⟨aD,rfl⟩,aD,?_⟩
   .grind
   .grind
   .rw[cd,e,Option.toList_some,flatten_append,bw,flatten_cons,flatten_nil,append_nil];exact MT
  .grind
  grind
theorem apX:∀N,cm 98 (BJ N):=ZO O3
mutual
def wU:Query->Nat->Int->Bool×Int
 |.mk _ _ _ _ _ _ _ _ args,k,n=>if 24<n+1\/k=0 then(false,0)else Fa args (k-1) (n+1)
def Fa:cz->Nat->Int->Bool×Int
 |[],_,n=>(true,n)
 |q::qs,k,n=>match wU q k n with|(false,_)=>(false,0)|(true,c)=>Fa qs k c
end
mutual
def szQ:Query->Int
 |.mk _ _ _ _ _ _ _ _ args=>1+Iw args
def Iw:cz->Int
 |[]=>0
 |p::ps=>szQ p+Iw ps
end
mutual
theorem SH:∀p:Query,1<=szQ p
 |.mk _ _ _ _ _ _ _ _ args=>by have:=Fw args;simp only[szQ];omega
theorem Fw:∀ps:cz,0<=Iw ps
 |[]=>by simp[Iw]
 |p::ps=>by have:=SH p;have:=Fw ps;simp only[Iw];omega
end
mutual
theorem Qs:∀(p:Query)(n:Int),n<=24->(n+szQ p<=24->pZ p n=n+szQ p)/\(24<n+szQ p->pZ p n=25)
 |.mk _ _ _ _ _ _ _ _ args,n,h=>by
  obtain⟨c,d⟩:=N3 args (n+1) aD;simp only[pZ,szQ];omega
theorem N3:∀(ps:cz)(n:Int),n<=25->(n+Iw ps<=24->kZ ps n=n+Iw ps)/\(24<n+Iw ps->kZ ps n=25)
 |[],n,h=>by
  simp only[kZ,Iw];omega
 |p::ps,n,h=>by
  have e:=SH p;have f:=Fw ps;simp only[kZ,Iw];by_cases c:n<=24
  .rw[if_pos c];have g:=Qs p n c;have d:=(DV p n c).2;have j:=N3 ps _ d;omega
  omega
end
mutual
theorem SD:∀(p:Query)(k:Nat)(n:Int),n<=24->((wU p k n).1=true↔n+szQ p<=24/\sX p k=false)/\((wU p k n).1=true->(wU p k n).2=n+szQ p)
 |.mk _ _ _ _ _ _ _ _ args,k,n,h=>by
  have f:=Fw args;simp only[wU,szQ];by_cases c:24<n+1\/k=0
  .rw[if_pos c];refine⟨⟨λe=>(by cases e),λe=>?_⟩,λe=>(by cases e)⟩;rcases c with c|c
   .omega
   .subst c;simp[sX]at e
  .rw[if_neg c];obtain⟨d,rfl⟩:∃d,k=d+1:=⟨k-1,aD⟩
   obtain⟨g,j⟩:=TY args d (n+1) aD;simp only[sX,Nat.add_sub_cancel]
   grind
theorem TY:∀(ps:cz)(k:Nat)(n:Int),n<=24->((Fa ps k n).1=true↔n+Iw ps<=24/\AI ps k=false)/\((Fa ps k n).1=true->(Fa ps k n).2=n+Iw ps)
 |[],k,n,h=>by simp[Fa,Iw,AI,h]
 |p::ps,k,n,h=>by
  obtain⟨c,d⟩:=SD p k n h;have j:=Fw ps;simp only[Fa,Iw,AI];cases e:wU p k n with
  |mk r f=>
   rw[e]at c d;cases r with
   |false=>
    grind
   |true=>
    have g:=d rfl;have c:=c.1 rfl;simp only at g;obtain⟨o,t⟩:=TY ps k f aD
    grind
end
theorem P9(q:Query):(wU q 8 0).1=yU q:=by
 have c:=(SD q 8 0 aD).1;have d:=Qs q 0 aD;rw[Bool.eq_iff_iff,c];simp only[yU,bz,ce,Bool.not_eq_true']
 grind
def IJ:Code->Option (Code×Code)
 |.rangeFunc _ _ a b=>some (a,b)
 |.seq x y=>match IJ x with|some p=>some p|none=>IJ y
 |.block _ c=>IJ c
 |_=>none
noncomputable def rfA:Code:=match IJ (cA Tryz.f57)with|some p=>p.1|none=>.skip
noncomputable def rfB:Code:=match IJ (cA Tryz.f57)with|some p=>p.2|none=>.skip
structure LR where
 fn:FuncId
 tmps:Array Value
 bn:Nat
 b6:Nat
 b7:Nat
 D:Nat
noncomputable def qM(R:LR)(st:LoopState)(c:Option Code):Loop:={state:=st,pending:=c,fn:=R.fn,tmps:=R.tmps,params:= #[37,38],assign:=rfA,body:=rfB,defers:=R.D}
def HG:Obj:=.cells #[.slice none 0 0] 33 (0,0)
def F8(n:Int):Obj:=.cells #[.int .i64 n] 54 (0,0)
structure zI(m:MH)(l:Nat)(R:LR)(n:Int):Prop where
 loop:m l=some (.loop (qM R .ready none))
 n_:m R.bn=some (tS n)
 k_:m R.b6=some HG
 e_:m R.b7=some (F8 0)
 size:R.tmps.size=53
 t11:R.tmps[11]? =some (.pointer (some ⟨R.bn,0,none⟩))
 t6:R.tmps[6]? =some (.pointer (some ⟨R.b6,0,none⟩))
 t7:R.tmps[7]? =some (.pointer (some ⟨R.b7,0,none⟩))
structure Ax(m m':MH)(l:Nat)(R:LR):Prop where
 loop:m' l=some (.loop (qM R .done (some .ret)))
 k_:m' R.b6=some HG
 e_:m' R.b7=some (F8 2)
 n_:∃x,m' R.bn=some x
 other:∀b,b≠l->b≠R.bn->b≠R.b6->b≠R.b7->m' b=m b
theorem zI.ne{l:Nat}{R:LR}{n:Int}(x:zI m l R n):l≠R.bn/\l≠R.b6/\l≠R.b7/\R.b6≠R.bn/\R.b7≠R.bn/\R.b6≠R.b7:=by
 have c:=x.loop;have g:=x.n_;have d:=x.k_;have f:=x.e_;refine⟨λe=>?_,λe=>?_,λe=>?_,λe=>?_,λe=>?_,λe=>?_⟩
 .rw[e,g]at c;cases c
 .rw[e,d]at c;cases c
 .rw[e,f]at c;cases c
 .rw[e,g]at d;cases d
 .rw[e,g]at f;cases f
 .rw[e,f]at d;cases d
theorem zI.next{l:Nat}{R:LR}{n d:Int}(x:zI m l R n)(c:iP m m' R.bn (tS d)):zI m' l R d:=by
 obtain⟨e,j,o,f,g,t⟩:=x.ne;exact⟨by rw[c.other l e];exact x.loop,c.at_,by rw[c.other _ f];exact x.k_,by rw[c.other _ g];exact x.e_,x.size,x.t11,x.t6,x.t7⟩
theorem Ax.from{c:MH}{l:Nat}{R:LR}{e:Int}(f:iP m c R.bn (tS e))(h:Ax c m' l R):Ax m m' l R:=
 ⟨h.loop,h.k_,h.e_,h.n_,λb g d j n=>(h.other b g d j n).trans (f.other b d)⟩
def yv(l:Nat):CV:=.val (.func (.yield l) #[] #[])
def YS:Vc.Spec:=λd m h K=>∃l c v R n,d=[yv l,cI c,aQ v]/\zI m l R n/\0<=n/\n<=24/\
 (∀m',(24<n+1\/8<c)->Ax m m' l R->K (cB false) m' h)/\(∀m',¬(24<n+1\/8<c)->iP m m' R.bn (tS (n+1))->K (cB true) m' h)
def Za(N:Nat):Vc.Spec:=λc m h K=>∃v q,∃k l:Nat,∃R n,c=[aQ v,cI (9-k),yv l]/\cJ h q v/\SizeOf.sizeOf q<N/\k<=9/\zI m l R n/\0<=n/\n<=24/\
 (∀m',(wU q k n).1=false->Ax m m' l R->K (cB false) m' h)/\(∀m',(wU q k n).1=true->iP m m' R.bn (tS (wU q k n).2)->K (cB true) m' h)
def Y5(b:Nat):CV:=.val (.pointer (some ⟨b,0,none⟩))
def cdZ:Vc.Spec:=λc m h K=>∃v q l d R,c=[yv l,Y5 d]/\m d=some (.cells ⟨v.enc⟩ 38 (0,0))/\cJ h q v/\zI m l R 0/\
 (∀m',(wU q 8 0).1=false->Ax m m' l R->K (.tup []) m' h)/\(∀m',(wU q 8 0).1=true->iP m m' R.bn (tS (wU q 8 0).2)->K (.tup []) m' h)
def Sq:Vc.Spec:=λc m h K=>∃v,c=[aQ v]/\∀b m',mL m h b->iP m m' b (.cells ⟨v.enc⟩ 38 (0,0))->K (.val (.func (.func 172) #[] #[.pointer (some ⟨b,0,none⟩)])) m' h
noncomputable def a1X(N:Nat)(v:QV)(k l:Nat)(h:PH):Ctx:=
 {dD [(173,Za N)] [(4,{A:=Nat×MH,st:=λ⟨i,m⟩=>bQ 28 31 [(1,iv (9-k)),(2,vv (.func (.yield l) #[] #[])),(15,sv v.args),(16,iv v.args.len),(17,iv i)] [] m h})] [] [] false with yield:=some YS}
noncomputable abbrev Ej(a:Nat):CV:=CV.val (Value.func (Fn.yield a) yQ yQ)
attribute [push_cast] Ej
def Rq(N:Nat)(v:QV)(k l:Nat)(m:MH)(h:PH)(K:cr):Prop:=
  Pm Proofs.Tryz.prog YS/\Oa (λj t=>∃(B:QV)(R:LR)(n:Int),aA (Ej l::gZ (eV (uB k)) (fM v.enc)=Ej j::gZ (eV t) (fM B.enc)) (zI m j R n) (aA (bV n) (n<=24) ((∀(d:MH),24<n+1\/8<t->Ax m d j R->K aZ d h)/\∀(d:MH),wB (24<n+1\/8<t)->dQ m d R.bn (bG (n+1)) 3->∃(I:Nat×MH->Prop)(z:Nat×MH->Nat),(∃(x:Nat×MH),aA (I x) (gW (uB k)) (aA (eQ (SV.at (At.val (Value.func (Fn.yield l) yQ yQ)))) (aI v.args) (aA (wA v) (bB x.1) (aA (d=x.2) (h=h) True))))/\∀(x:Nat×MH),I x->aX (↑x.1:Int) (aH v.args) (bI (λb o=>aA (bK v.args.a b o) (0<=(↑x.1:Int)) ((↑x.1:Int)<aH v.args/\∃(y:QV),aU x.2 h b (bN o x.1 21) y.enc/\qF (λA q=>bI (λe u=>∃(R1:LR)(c:
 Int),aA (cE y.enc (gZ (eV (fI (uB k+1))) (Ej l))=cE A.enc (gZ (eV (uB e)) (Ej u))) (cJ h q A) (aA (xE q N) (e<=9) (aA (zI x.2 u R1 c) (bV c) (aA (c<=24) (∀(f:MH),(wU q e c).1=false->Ax x.2 f u R1->K aZ f h) (∀(f:MH),gI (wU q e c).1->dQ x.2 f R1.bn (bG (wU q e c).2) 3->∃(g:Nat×MH),aA (I g) (z g<z x) (aA (gW (uB k)) (eQ (SV.at (At.val (Value.func (Fn.yield l) yQ yQ)))) (aA (aI v.args) (bJ v.args) (aA (bD (gG (bF x.1 1)) g.1) (f=g.2) (bL h h))))))))))))) (gO K x.2 h))))
abbrev xF(a:cr)(b:MH)(c:PH):Prop:=a (CV.tup []) b c
attribute [push_cast] xF
def ayX(N:Nat)(l e:Nat)(m:MH)(h:PH)(K:cr):Prop:=
  ∃(y:QV),aU m h e 0 y.enc/\qF (λv q=>bI (λk d=>∃(R:LR)(n:Int),aA (cE y.enc (gZ (eV 1) (Ej l))=cE v.enc (gZ (eV (uB k)) (Ej d))) (cJ h q v) (aA (xE q N) (k<=9) (aA (zI m d R n) (bV n) (aA (n<=24) (∀(c:MH),(wU q k n).1=false->Ax m c d R->xF K c h) (∀(c:MH),gI (wU q k n).1->dQ m c R.bn (bG (wU q k n).2) 3->xF K c h))))))
noncomputable abbrev Bw(a:Nat):cn:=lD (vQp a 0)
attribute [push_cast] Bw
def aSJ(v:QV)(m:MH)(h:PH)(K:cr):Prop:=
  mH m h (λb c=>dQ m c b v.enc 38) (λb c=>K (BZ 172 (Array.mk (Bw b))) c h)
theorem VA(T:Pm Tryz.prog YS):∀N,cm 173 (Za N)
 |0=>by
  refine eD (fn:=Tryz.f173) (c:=cA Tryz.f173) func173 rfl az ?_;rintro G m h K ⟨v,q,k,l,R,n,rfl,_,V,_⟩;omega
 |N+1=>by
  refine iH func173 ?_;rintro G m h K ⟨v,q,k,l,R,n,rfl,W,V,hk,U,X,Y,H,I⟩;refine⟨a1X N v k l h,rfl,aE (VA T N) aG,Rq N v k l m h K,ax,?_⟩;dsimp only[Rq,push_cast];have d:=W.args;have z:=d.slen;have hl:=d.len;refine⟨T,l,9-k,v,R,n,rfl,U,X,Y,λm' J t=>H m' ?_ t,λm' J Z=>?_⟩
  .cases q;simp only[wU];grind
  have J:¬(24<n+1\/8<9-(k:Int)):=J;have L:iP m m' R.bn (tS (n+1)):=Z;have hv:wU q k n=Fa q.args (k-1) (n+1):=by cases q;simp only[wU,Query.args];grind
  rw[hv]at H I;refine⟨λ⟨i,E⟩=>∃g,i<=q.args.length/\0<=g/\g<=24/\iP m E R.bn (tS g)/\Fa (q.args.drop i) (k-1) g=Fa q.args (k-1) (n+1),λ⟨i,_⟩=>q.args.length-i,⟨(0,m'),⟨n+1,aD,aD,aD,L,ay⟩,MT⟩,?_⟩;rintro⟨i,E⟩ ⟨g,hi,M,A,j,B⟩;dsimp only;refine aF (λC=>?_) (λa'=>?_)
  .obtain⟨p,O⟩:=eU z C;obtain⟨b,o,u,ea,P,Q⟩:=d.at O;have hd:=drop_cons O;rw[hd,Fa]at B;refine⟨b,o,ea,aD,C,u,.imm P,u,p,k-1,l,R,g,?_,Q,?_,aD,U.next j,M,A,λF y t=>?_,λF y S=>?_⟩
   .rw[dY aD aD,show(9-((k-1:Nat):Int))=9-(k:Int)+1 by omega]
   .have:=vF (br O);omega
   .refine H F ?_ (t.from j)
    grind
   .have f:iP E F R.bn (tS (wU p (k-1) g).2):=S;have t:=SD p (k-1) g A;have a0:=t.1.1 y;have D:=t.2 y;have a1:=SH p;cases e:wU p (k-1) g with
    |mk r x=>
     rw[e]at y B D f;simp only at y D f;subst y;exact⟨(i+1,F),⟨x,aD,aD,aD,j.trans f,B⟩,aD,MT⟩
  .rw[drop_of_length_le aD,Fa]at B;rw[<-B]at I;exact I E rfl j
theorem Ya(c:Pm Tryz.prog YS):cm 172 cdZ:=by
 refine iH func172 ?_;rintro d m h K ⟨v,q,l,e,R,rfl,f,g,j,n,o⟩;refine⟨dD [(173,Za (SizeOf.sizeOf q+1))] [] [] [] false,rfl,aE (VA c _) aG,ayX (SizeOf.sizeOf q+1) l e m h K,ax,?_⟩;exact⟨v,.of_m f rfl,v,q,8,l,R,0,rfl,g,aD,aD,j,aD,aD,n,o⟩
theorem apZ:cm 97 Sq:=by
 refine iH func97 ?_;rintro c m h K ⟨v,rfl,d⟩;refine⟨dD [] [] [] [] false,rfl,aG,aSJ v m h K,ax,?_⟩;exact d
end Go.Ps
