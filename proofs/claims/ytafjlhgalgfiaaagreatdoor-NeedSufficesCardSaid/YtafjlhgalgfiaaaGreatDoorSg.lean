/- Own work. -/
import Derived.Test.YtafjlhgalgfiaaaGreatDoorSf
set_option linter.unusedVariables false
set_option linter.unusedSimpArgs false
namespace Go.Ps
open Go Go.Vc Go.Proofs List Tryz
variable{K:cn}{m:MH}{h:PH}{s:jP}{ps:cq}{ts:dg}{cb:Nat}{sc:cA}{v:QV}{t:Step}{p:Pred}{l:cq}{i:Nat}{N:Nat}{m':MH}{h':PH}{co:cq}{gr:cq}{od:cv}{ta:Int}{li:Int}{xs:List cr}{sz:Nat}{ks:List cq}{rs:cq}{r:Sl}{a:cq}{b:Nat}
def aCQ:Vc.Spec:=λc m h K=>∃l r:Int,∃o on d cb e ts rs,c=[cP cb,cI l,cI r,cS o]/\jD h o on/\on.length<=1000/\gW d m h cb e ts rs/\eD d/\ts.length<=100000/\
 ∀m' h',PH.le h h'->gW d m' h' cb e (bT (dV l r on) ts).1 rs->K (cI (bT (dV l r on) ts).2) m' h'
def aXX:Vc.Spec:=λc m h K=>∃l r:Int,∃d cb e ts rs,c=[cP cb,cI l,cI r]/\gW d m h cb e ts rs/\eD d/\ts.length<=100000/\
 ∀m' h',PH.le h h'->gW d m' h' cb e (bT (cO l r) ts).1 rs->K (cI (bT (cO l r) ts).2) m' h'
def b5J:Vc.Spec:=λd m h K=>∃l:Int,∃c co e cb f ts rs,d=[cP cb,cI l,cS c]/\Ints h c co/\co.length<=1000/\gW e m h cb f ts rs/\eD e/\ts.length<=100000/\
 ∀m' h',PH.le h h'->gW e m' h' cb f (bT (pA l co) ts).1 rs->K (cI (bT (pA l co) ts).2) m' h'
def cGJ:Vc.Spec:=λc m h K=>∃a n:Int,c=[cI a,cI n]/\0<=a/\0<=n/\a<=1000/\n<=1000/\∀s h',PH.le h h'->Ints h' s (gV a n)->K (cS s) m h'
def cGQ:Vc.Spec:=λc m h K=>∃s on,c=[cS s]/\jD h s on/\on.length<=1000/\∀s h',PH.le h h'->jD h' s (qI on)->K (cS s) m h'
def b9J:Vc.Spec:=λc m h K=>∃s l x,∃i:Nat,c=[cS s,cI x]/\Ints h s l/\l[i]? =some x/\K (cI (l.idxOf x:Nat)) m h
def cbX:Vc.Spec:=λc m h K=>∃s co,c=[cS s]/\Ints h s co/\co.length<=1000/\∀s h',PH.le h h'->jD h' s (oS co)->K (cS s) m h'
def aPN(v:iN):CV:=.val (.agg ⟨v.enc⟩)
def b6Q:Vc.Spec:=λc m h K=>∃v p d f op ta w co on gr od li args e cb g ts rs,c=[cP cb,aPN v,cI d,aQ f]/\pJ h p v/\dK h (.mk op ta w co on gr od li args) f/\gr.length<=1000/\od.length<=1000/\gW e m h cb g ts rs/\eD e/\ts.length<=99999/\
 ∀m' h',PH.le h h'->gW e m' h' cb g (BQ p d gr od li ts).1 rs->K (cI (BQ p d gr od li ts).2) m' h'
noncomputable def clJ a n m h:=
 dJ [] [(3,{A:=Nat×cq,st:=λ⟨i,l⟩=>bZ 19 21 [(0,iv a),(5,.at (.lst 16)),(7,iv n),(8,iv i)] [(16,.lst 3 1 (l.map eI))] m h})] [] [] false
noncomputable def clZ s m h:=
 dJ [] [(3,{A:=Nat×cw,st:=λ⟨i,l⟩=>bZ 22 23 [(3,.at (.lst 19)),(6,sv s),(7,iv s.len),(8,iv i)] [(19,.lst 130 2 (l.map sU))] m h})] [] [] false
noncomputable def bRQ s x m h:=
 dJ [] [(2,{A:=Nat,st:=λi=>bZ 19 21 [(0,sv s),(1,iv x),(7,iv s.len),(8,iv i)] [] m h})] [] [] false
noncomputable def cmQ s m h:=
 dJ [(144,b9J)] [(3,{A:=Nat×cw,st:=λ⟨i,l⟩=>bZ 26 27 [(0,sv s),(3,.at (.lst 23)),(6,sv s),(7,iv s.len),(8,iv i)] [(23,.lst 130 2 (l.map sU))] m h})] [] [] false
noncomputable def clX(v:iN)(c:QV)(cb:Nat)(d:Int)(m:MH)(h:PH):=
 dJ [(81,aCQ),(40,Va)] [(3,{A:=Nat×cw,st:=λ⟨i,l⟩=>bZ 43 47 [(0,pv cb),(2,iv d),(5,.at (.ptr 5 0)),(7,.at (.ptr 7 0)),(9,.at (.lst 24)),(13,sv c.group),(14,iv c.group.len),(15,iv i)] [(5,.cells 97 (v.enc.map .val)),(7,.cells 41 (c.enc.map .val)),(24,.lst 130 2 (l.map sU))] m h})] [] [] false
abbrev J4(a:Nat->Nat->dg->cq->Prop):=bK (λx c=>∃(d:dg)(e:cq),a x c d e)
abbrev LJ(a:dl)(b:Nat->dl)(c d:Prop)(e:Nat->Option Obj)(g:PH)(i:MH->Nat->Nat->dg->cq->Prop):=∃(x:MH),J4 (λf n j o=>aA (a=b f) c (aA d (gW x e g f n j o) (aA (eD x) (j.length<=100000) (i x f n j o))))
abbrev Gb(a:dl)(b:PH)(c:Nat->Option Obj)(d:Step->dg->MH->PH->Prop):=QY (λx e=>LJ a (λf=>gC (jO f) (kE x.enc)) (u0 b e x) (O0 e) c b (λf o u j y=>eX (λn g=>bR b g (gW f n g o u (bT e j).1 y) (d e j n g))))
attribute [push_cast] J4 LJ Gb
def XU(cb:Nat)(l r:Int)(o:Sl)(m:MH)(h:PH)(K:cn):=
  Gb (gC (jO cb) (kE (aX (fV 5) bI (aX bI bI (aX bI bI (aX bI bI (uD pV (uC (dX o) (Ez l r))))))))) h m (λt c d e=>K (gG (↑(bT t c).2:Int)) d e)
def XQ(cb:Nat)(l r:Int)(m:MH)(h:PH)(K:cn):=
  Gb (gC (jO cb) (kE (aX (fV 8) bI (aX bI bI (aX bI bI (aX bI bI (uD pV (uC pV (Ez l r))))))))) h m (λt c d e=>K (gG (↑(bT t c).2:Int)) d e)
def XS(cb:Nat)(l:Int)(c:Sl)(m:MH)(h:PH)(K:cn):=
  Gb (gC (jO cb) (kE (aX (fV 3) bI (aX bI bI (aX bI bI (aX bI bI (uD (dX c) (uC pV (j5 (fV l) bI))))))))) h m (λt d e f=>K (gG (↑(bT t d).2:Int)) e f)
def Rq a n m h K:=
  Lx (λI x=>aA (I x) (fD a) (aA (eL 16) (fD n) (aA (bE x.1) (tG x.2) (aA (m=m) (h=h) True)))) (λI d x=>I x->bA (↑x.1:Int) n (aA (jA (j4 (qO x) 1) 8) (dR (qO x)) (∃(c:Nat×cq),aA (I c) (d c<d x) (aA (fD a) (eL 16) (aA (fD n) (gX (bH x.1 1)=bP c.1) (aA (lS (dN (qO x) (bC (fM (a+(↑x.1:Int))))) c.2) (m=m) (bU h h)))))) (uM h (qO x) K m))
abbrev Px(a:(Nat×cw->Prop)->(Nat×cw)->Prop)(b:(Nat×cw->Prop)->(Nat×cw->Nat)->(Nat×cw)->Prop):=∃(x:Nat×cw->Prop)(d:Nat×cw->Nat),(∃(c:Nat×cw),a x c)/\∀(c:Nat×cw),b x d c
noncomputable abbrev mZ(a:Nat×cw):=EN a.2
attribute [push_cast] Px mZ
def XR(s:Sl)(m:MH)(h:PH)(K:cn):=
  Px (λI x=>aA (I x) (eL 19) (aA (aJ s) (bJ s) (aA (bE x.1) (vD 130 2 (mZ x)) (aA (m=m) (h=h) True)))) (λI d x=>I x->bA (↑x.1:Int) (aG s) (bK (λb o=>aI (aW s.a b o) (0<=(↑x.1:Int)) ((↑x.1:Int)<aG s) (∃(y:Int×Int),aA (aL m h b (o+bM x.1 2) (vY y)) (cM 1) (aA ((1:Int)<2) (cM 0) (aI ((0:Int)<2) (jA (j4 (mZ x) 1) 16) (dR (mZ x)) (∃(c:Nat×cw),aA (I c) (d c<d x) (aA (eL 19) (aJ s) (aA (bJ s) (gX (bH x.1 1)=bP c.1) (aA (bV 130 2 (dN (mZ x) (Ez y.2 y.1))=bV 130 2 (mZ c)) (m=m) (bU h h)))))))))) (cF h 2 (mZ x) (λe f=>K (qW e) m f)))
def NB(s:Sl)(x:Int)(m:MH)(h:PH)(K:cn):=
  p9 (λI c=>aA (I c) (aJ s) (aA (fD x) (bJ s) (dL (bE c) m m h h))) (λI e c=>I c->bA (↑c:Int) (aG s) (bK (λb o=>aI (aW s.a b o) (0<=(↑c:Int)) ((↑c:Int)<aG s) (∃(y:Int),aL m h b (o+bM c 1) (bC y)/\eY x y (K (gG (↑c:Int)) m h) (∃(d:Nat),aA (I d) (e d<e c) (aA (aJ s) (fD x) (aA (bJ s) (gX (bH c 1)=bP d) (aA (m=m) (h=h) True))))))) (K (gG (Int.negSucc 0)) m h))
def XT(s:Sl)(m:MH)(h:PH)(K:cn):=
  Px (λI x=>aA (I x) (aJ s) (aA (eL 23) (aJ s) (aA (bJ s) (bE x.1) (aA (vD 130 2 (mZ x)) (m=m) (bU h h))))) (λI d x=>I x->bA (↑x.1:Int) (aG s) (bK (λb o=>aI (aW s.a b o) (0<=(↑x.1:Int)) ((↑x.1:Int)<aG s) (∃(y:Int),aL m h b (o+bM x.1 1) (bC y)/\sC (λe l=>∃(f:Int)(i:Nat),aI (i6 s y=i6 e f) (Ints h e l) (l[i]? =Option.some f) (eY (↑(idxOf f l):Int) (↑x.1:Int) (aA (jA (j4 (mZ x) 1) 16) (dR (mZ x)) (∃(c:Nat×cw),aA (I c) (d c<d x) (aA (aJ s) (eL 23) (aA (aJ s) (bJ s) (aA (gX (bH x.1 1)=bP c.1) (bV 130 2 (dN (mZ x) (Ez y (↑x.1:Int)))=bV 130 2 (mZ c)) (eG m m h h)))))) (∃(c:Nat×cw),aA (I c) (d c<d x) (aA
 (aJ s) (eL 23) (aA (aJ s) (bJ s) (aA (gX (bH x.1 1)=bP c.1) (bV 130 2 (mZ x)=bV 130 2 (mZ c)) (eG m m h h)))))))))) (cF h 2 (mZ x) (λe g=>K (qW e) m g)))
abbrev Iw(a:Nat)(b c:Int)(d:Sl)(e:PH)(g:Nat->Option Obj)(i:Int->Int->cw->MH->Nat->Nat->dg->cq->Prop):=Hz (λx n=>HB (λo f=>LJ (dA a (gG b::gC (gG c) (qW d))) (λj=>dA j (gG x::gC (gG n) (qW o))) (jD e o f) (nZ f.length) g e (λj u y z A=>i x n f j u y z A)))
noncomputable abbrev ZO:=OV.mk 0 0 (VV.mk 0 0 (ByteArray.mk (Array.mk [])))
noncomputable abbrev LO:=Pred.mk 0 0 ZO ZO []
noncomputable abbrev zG a b c:=Step.mk 5 0 LO [] a [] [] 0 b c
attribute [push_cast] Iw ZO LO zG
def XP(cb:Nat)(v:iN)(d:Int)(e:QV)(m:MH)(h:PH)(K:cn):=
  Px (λI x=>aA (I x) (cT cb) (aA (fD d) eM (aA (eP 7) (eL 24) (aA (aJ e.group) (bJ e.group) (aA (bE x.1) (eQ (sS 97 v.enc)) (aA (eO e) (vD 130 2 (mZ x)) (eG m m h h))))))) (λI j x=>I x->bA (↑x.1:Int) (aG e.group) (bK (λb o=>aI (aW e.group.a b o) (0<=(↑x.1:Int)) ((↑x.1:Int)<aG e.group) (∃(y:Int),aI (aL m h b (o+bM x.1 1) (bC y)) (jA (j4 (mZ x) 1) 16) (dR (mZ x)) (∃(f:Nat×cw),aA (I f) (j f<j x) (aA (cT cb) (fD d) (aA eM (eP 7) (aA (eL 24) (aJ e.group) (aA (bJ e.group) (gX (bH x.1 1)=bP f.1) (aA (eQ (sS 97 v.enc)) (eO e) (dL (bV 130 2 (dN (mZ x) (Ez y y))=bV 130 2 (mZ f)) m m h h)))))))))) (cF h 2 (mZ x) (λs n=>Iw cb
 v.env d s n m (λl r o z c A t B=>eX (λu g=>bR n g (gW z u g c A (bT (zG o l r) t).1 B) (Gb (gC (jO cb) (CV.val (Value.agg (Array.mk (aX (fV 10) bI (aX bI bI (aX bI bI (aX bI bI (uD pV (zN pV e (j5 (rB (bT (zG o l r) t).2) (fV v.rows)))))))))))) g u (λC D E F=>K (gG (↑(bT C D).2:Int)) E F)))))))
theorem cdZ h:fO h fW jI:=⟨rfl,rfl,rfl,rfl,ay,[],dD.nil _ _,rfl⟩
theorem Xy h:Ints h cH []:=⟨dD.nil _ _,ay⟩
theorem cQQ h:jD h cH []:=⟨dD.nil _ _,ay⟩
theorem cOJ h:jC h cH []:=⟨dD.nil _ _,ay⟩
theorem cdJ:(sP fW).length<=1000000000:=by
 have c:=iJ [0,0];have d:=iJ [0];have g:=oY 0;have f:DK ⟨0,0,⟨0,0,⟨#[]⟩⟩⟩=jJ [0,0]++(jJ [0]++(mJ 0++[32])++jJ [0]++[]):=rfl;have e:sP fW=jJ [0,0]++DK ⟨0,0,⟨0,0,⟨#[]⟩⟩⟩++DK ⟨0,0,⟨0,0,⟨#[]⟩⟩⟩++jJ [0]++[]:=rfl
 grind
theorem cTZ{d l r o on m0}(e:jD h o on)(n:on.length<=1000)(c:gW m0 m h cb d ts rs)(f:eD m0)(g:ts.length<=100000)(j:∀m' h',PH.le h h'->gW m0 m' h' cb d (bT (dV l r on) ts).1 rs->K (cI (bT (dV l r on) ts).2) m' h'):XU cb l r o m h K:=
 ⟨⟨5,0,jI,cH,o,cH,cH,0,l,r⟩,dV l r on,m0,cb,d,ts,rs,rfl,⟨rfl,rfl,cdZ h,Xy h,e,Xy h,cOJ h,rfl,rfl,rfl⟩,⟨cdJ,by simp[dV],by simp[dV];omega,by simp[dV],by simp[dV]⟩,c,f,g,j⟩
theorem cSJ{d l r m0}(c:gW m0 m h cb d ts rs)(e:eD m0)(f:ts.length<=100000)(g:∀m' h',PH.le h h'->gW m0 m' h' cb d (bT (cO l r) ts).1 rs->K (cI (bT (cO l r) ts).2) m' h'):XQ cb l r m h K:=
 ⟨⟨8,0,jI,cH,cH,cH,cH,0,l,r⟩,cO l r,m0,cb,d,ts,rs,rfl,⟨rfl,rfl,cdZ h,Xy h,cQQ h,Xy h,cOJ h,rfl,rfl,rfl⟩,⟨cdJ,by simp[cO],by simp[cO],by simp[cO],by simp[cO]⟩,c,e,f,g⟩
theorem cTX{d l s m0}(e:Ints h s co)(n:co.length<=1000)(c:gW m0 m h cb d ts rs)(f:eD m0)(g:ts.length<=100000)(j:∀m' h',PH.le h h'->gW m0 m' h' cb d (bT (pA l co) ts).1 rs->K (cI (bT (pA l co) ts).2) m' h'):XS cb l s m h K:=
 ⟨⟨3,0,jI,s,cH,cH,cH,0,l,0⟩,pA l co,m0,cb,d,ts,rs,rfl,⟨rfl,rfl,cdZ h,e,cQQ h,Xy h,cOJ h,rfl,rfl,rfl⟩,⟨cdJ,by simp[pA];omega,by simp[pA],by simp[pA],by simp[pA]⟩,c,f,g,j⟩
theorem Tw:cm 81 aCQ:=by
 refine iU func81 ?_;rintro d m h K ⟨l,r,o,on,u,cb,y,ts,rs,rfl,e,f,c,g,j,n⟩;refine⟨dJ [(40,Va)] [] [] [] false,rfl,aE Fp aH,XU cb l r o m h K,ax,?_⟩;exact cTZ e f c g j n
theorem baZ:cm 86 aXX:=by
 refine iU func86 ?_;rintro d m h K ⟨l,r,j,cb,n,ts,rs,rfl,c,e,f,g⟩;refine⟨dJ [(40,Va)] [] [] [] false,rfl,aE Fp aH,XQ cb l r m h K,ax,?_⟩;exact cSJ c e f g
theorem bbX:cm 83 b5J:=by
 refine iU func83 ?_;rintro d m h K ⟨l,s,co,o,cb,u,ts,rs,rfl,e,f,c,g,j,n⟩;refine⟨dJ [(40,Va)] [] [] [] false,rfl,aE Fp aH,XS cb l s m h K,ax,?_⟩;exact cTX e f c g j n
theorem cTQ{a n}(y:0<=a)(z:0<=n)(d:a<=1000)(f:n<=1000)(g:∀s h',PH.le h h'->Ints h' s (gV a n)->K (cS s) m h'):Rq a n m h K:=by
 dsimp only[Rq,push_cast];obtain⟨k,rfl⟩:∃k:Nat,n=k:=⟨n.toNat,aC⟩
 refine⟨λ⟨i,l⟩=>i<=k/\l=gV a (i:Nat),λ⟨i,_⟩=>k-i,⟨(0,[]),⟨aC,rfl⟩,MT⟩,?_⟩;rintro⟨i,l⟩ ⟨A,rfl⟩;dsimp only;have c:(gV a (i:Nat)).length=i:=by simp[gV]
 refine aF (λj=>?_) (λo s h' le u=>?_)
 .refine⟨bg,bg,(i+1,gV a ((i+1:Nat):Int)),⟨aC,rfl⟩,aC,?_⟩
  have e:gV a ((i+1:Nat):Int)=gV a (i:Nat)++[IntKind.i64.wrap (a+(i:Int))]:=by
   rw[fG aC aC];simp[gV,range_succ]
  rw[e,bu];exact MT
 .have:i=k:=by omega
  subst this;exact g s h' le ⟨u,aC⟩
theorem bbQ:cm 84 cGJ:=by
 refine iU func84 ?_;rintro c m h K ⟨a,n,rfl,d,e,f,g,j⟩;refine⟨clJ a n m h,rfl,aH,Rq a n m h K,ax,?_⟩;exact cTQ d e f g j
theorem baJ:cm 85 cGQ:=by
 refine iU func85 ?_;rintro u m h K ⟨s,on,rfl,f,A,y⟩;refine⟨clZ s m h,rfl,aH,XR s m h K,ax,?_⟩;dsimp only[XR,push_cast];have d:=f.slen;refine⟨λ⟨i,l⟩=>i<=on.length/\l=qI (on.take i),λ⟨i,_⟩=>on.length-i,⟨(0,[]),⟨aC,rfl⟩,MT⟩,?_⟩;rintro⟨i,l⟩ ⟨B,rfl⟩;dsimp only;have g:(qI (on.take i)).length=i:=by simp[qI];omega
 refine aF (λc=>?_) (λz s h' le j=>?_)
 .obtain⟨x,n⟩:=fF d c;obtain⟨b,o,e,r⟩:=f.at n;refine⟨b,o,e,aC,c,x,.imm r,aC,aC,aC,aC,bg,bg,(i+1,qI (on.take (i+1))),⟨aC,rfl⟩,aC,?_⟩;have e:qI (on.take (i+1))=qI (on.take i)++[(x.2,x.1)]:=by rw[cd,n];simp[qI]
  rw[e,bu];exact MT
 .rw[bt aC]at j;exact y s h' le ⟨j,bg⟩
theorem bDZ{x}(d:l[i]? =some x)(c:∀j y,j<i->l[j]? =some y->x≠y):l.idxOf x=i:=by
 induction l generalizing i with
 |nil=>simp at d
 |cons a l e=>
  cases i with
  |zero=>grind
  |succ i=>
   have f:=c 0 a aC rfl
   grind
theorem czZ{s x}{d:Nat}(g:Ints h s l)(hx:l[d]? =some x)(A:K (cI (l.idxOf x:Nat)) m h):NB s x m h K:=by
 dsimp only[NB,push_cast];have n:=g.slen;have C:=g.len;have F:=(bm hx);refine⟨λi=>i<=d/\∀j y,j<i->l[j]? =some y->x≠y,λi=>d-i,⟨0,⟨aC,λj y D=>by omega⟩,MT⟩,?_⟩;rintro i ⟨G,u⟩;refine aF (λc=>?_) (λE=>by omega);obtain⟨y,B⟩:=fF n c;obtain⟨b,o,e,r⟩:=g.at' B;refine⟨b,o,e,aC,c,y,.imm r,aD (λf=>?_) (λf=>?_)⟩
 .have f:x=y:=bg
  subst f;rw[bDZ B u]at A;exact A
 .have f:x≠y:=bg
  have:i≠d:=λe=>bg
  refine⟨i+1,⟨aC,λj z D H=>?_⟩,bg,MT⟩
  grind
theorem arJ:cm 144 b9J:=by
 refine iU func144 ?_;rintro c m h K ⟨s,l,x,i,rfl,d,e,f⟩;refine⟨bRQ s x m h,rfl,aH,NB s x m h K,ax,?_⟩;exact czZ d e f
def GO(co:cq)(i:Nat):=((List.range i).filter λi=>decide (co.idxOf (co.getD i 0)=i)).map λi=>(co.getD i 0,(i:Int))
theorem Rl co i:(GO co i).length<=i:=by
 have:=length_filter_le (λi=>decide (co.idxOf (co.getD i 0)=i)) (List.range i);simp[GO]at this⊢;omega
theorem bbZ:cm 82 cbX:=by
 refine iU func82 ?_;rintro u m h K ⟨s,co,rfl,f,B,y⟩;refine⟨cmQ s m h,rfl,aE arJ aH,XT s m h K,ax,?_⟩;dsimp only[XT,push_cast];have g:=f.slen;refine⟨λ⟨i,l⟩=>i<=co.length/\l=GO co i,λ⟨i,_⟩=>co.length-i,⟨(0,[]),⟨aC,rfl⟩,MT⟩,?_⟩;rintro⟨i,l⟩ ⟨C,rfl⟩;dsimp only;have n:=Rl co i;refine aF (λc=>?_) (λz s h' le A=>?_)
 .obtain⟨x,j⟩:=fF g c;obtain⟨b,o,e,r⟩:=f.at' j;have D:co.getD i 0=x:=by simp[j]
  have step:GO co (i+1)=GO co i++(if co.idxOf x=i then[(x,(i:Int))]else[]):=by
   simp only[GO,range_succ,filter_append,bu]
   grind
  refine⟨b,o,e,aC,c,x,.imm r,s,co,x,i,rfl,f,j,aD (λd=>⟨bg,bg,(i+1,GO co (i+1)),⟨aC,rfl⟩,aC,?_⟩) (λd=>⟨(i+1,GO co (i+1)),⟨aC,rfl⟩,aC,?_⟩)⟩
  .have d:co.idxOf x=i:=bg
   rw[step,if_pos d,bu];exact MT
  .have d:co.idxOf x≠i:=λe=>bg
   rw[step,if_neg d,append_nil];exact MT
 .have:i=co.length:=by omega
  subst this;exact y s h' le ⟨A,by show(GO co co.length).length<=_;omega⟩
theorem baX:cm 87 b6Q:=by
 refine iU func87 ?_;rintro M m h K ⟨v,p,d,g,op,ta,w,co,on,gr,od,li,args,F,cb,G,ts,rs,rfl,O,P,W,Q,c,H,X,R⟩;refine⟨clX v g cb d m h,rfl,aE Tw (aE Fp aH),XP cb v d g m h K,ax,?_⟩;dsimp only[XP,push_cast];have x:=P.parts;have A:=x.group_.slen;refine⟨λ⟨i,l⟩=>i<=gr.length/\l=sH (gr.take i),λ⟨i,_⟩=>gr.length-i,⟨(0,[]),⟨aC,rfl⟩,MT⟩,?_⟩;rintro⟨i,l⟩ ⟨Y,rfl⟩;dsimp only;have I:(sH (gr.take i)).length=i:=by simp[sH];omega
 refine aF (λj=>?_) (λS s Z n J=>?_)
 .obtain⟨y,L⟩:=fF A j;obtain⟨b,o,e,r⟩:=x.group_.at' L;refine⟨b,o,e,aC,j,y,.imm r,bg,bg,(i+1,sH (gr.take (i+1))),⟨aC,rfl⟩,aC,?_⟩;have e:sH (gr.take (i+1))=sH (gr.take i)++[(y,y)]:=by rw[cd,L];simp[sH]
  rw[e,bu];exact MT
 .rw[bt aC]at J;obtain⟨q,pa,B,z,wd⟩:=p;obtain⟨_,f,u,_⟩:=O;rw[u,f];have T:(sH gr).length<=1000:=bg
  have hx:=dW (dV (z:Int) d (sH gr)) ts;refine⟨(z:Int),d,s,sH gr,F,cb,G,ts,rs,rfl,⟨J,aC⟩,T,c.mono n,H,aC,λm1 C D U=>?_⟩;have le:=n.trans D;exact⟨⟨10,0,jI,cH,cH,g.group,g.order,g.limit,_,_⟩,QC (bT (dV (z:Int) d (sH gr)) ts).2 B gr od li,F,cb,G,_,rs,rfl,⟨rfl,rfl,cdZ C,Xy C,cQQ C,x.group_.mono le,x.order_.mono le,x.limit_,rfl,rfl⟩,⟨cdJ,by simp[QC],by simp[QC],by simp[QC];omega,by simp[QC];omega⟩,U,H,by show(bT (dV (z:Int) d (sH gr)) ts).1.length<=100000;omega,λm' h' E V=>R m' h' (le.trans E) V⟩
def b5Q:Vc.Spec:=λc m h K=>∃op,c=[cI op]/\K (cB (G5 op)) m h
def aVZ:Vc.Spec:=λc m h K=>∃v s op ta w co on gr od li args,∃ks:dj,c=[aQ v,cS s]/\dK h (.mk op ta w co on gr od li args) v/\Ints h s (ks.map fun(k:Nat)=>(k:Int))/\∀d,u0 h (Aw op ta w co on gr od li ks) d->K (aT d) m h
def b1Z:Vc.Spec:=λc m h K=>∃sc v s op ta w co on gr od li args ps d,c=[aS sc,aPN v]/\iK h s sc/\oE s/\dK h (.mk op ta w co on gr od li args) v.query/\dD h v.args 25 (d.map iN.enc)/\mF h ps d/\((ps.length:Int)=arity op)/\0<=arity op/\(∀p∈ps,0<=p.width/\p.width<=1000)/\K (cI (FC s op ta co ps)) m h
def Yc(op:Int)(m:MH)(h:PH)(K:cn):=
  dP (op==7) (K iQ m h) (op==9) (K iQ m h) (K (As (op==10)) m h)
def Ye(v:QV)(s:Sl)(m:MH)(h:PH)(K:cn):=
  qB (decide (aG s>0)) (bK (λb o=>aI (aW s.a b o) ((0:Int)<=0) (0<aG s) (∃(y:Int),aL m h b (o+0) (bC y)/\fZ (aG s) 1 (bK (λc d=>aI (aW s.a c d) ((0:Int)<=1) (1<aG s) (∃(e:Int),aL m h c (d+1) (bC e)/\K (kE (vS v v (vZ v (zN (dX v.on) v (Ez y e))))) m h))) (K (kE (vS v v (vZ v (zN (dX v.on) v (j5 (fV y) bI))))) m h)))) (aG s) 1 (bK (λb o=>aI (aW s.a b o) ((0:Int)<=1) (1<aG s) (∃(y:Int),aL m h b (o+1) (bC y)/\K (kE (vS v v (vZ v (zN (dX v.on) v (j5 bI (fV y)))))) m h))) (K (kE (vS v v (vZ v (zN (dX v.on) v (j5 bI bI))))) m h)
noncomputable abbrev uW(a:iN):=a.query.op
abbrev Gp(a:iN)(b:Int)(c:Nat->Nat->Int->Prop):=bK (λx d=>aI (aW a.args.a x d) (0<=b) (b<aG a.args) (∃(e:Int),c x d e))
attribute [push_cast] uW Gp
def Rx(sc:cA)(v:iN)(m:MH)(h:PH)(K:cn):=
  dP (uW v==1) (A9 sc v.query.table h (λs d=>K (gG (aG s)) m d)) (uW v==3) (K (gG (aG v.query.columns)) m h) (eY (uW v) 4 (Gp v 0 (λb o y=>aL m h b (o+0+24) (bC y)/\Gp v 1 (λe f c=>aL m h e (f+25+24) (bC c)/\K (gG (fM (y+c))) m h))) (Gp v 0 (λb o y=>aL m h b (o+0+24) (bC y)/\K (gG y) m h)))
theorem TE:cm 42 b5Q:=by
 refine iU func42 ?_;rintro f m h K ⟨op,rfl,c⟩;refine⟨dJ [] [] [] [] false,rfl,aH,Yc op m h K,ax,?_⟩;dsimp only[Yc,push_cast];unfold G5 at c;refine aD (λd=>?_) (λd=>aD (λe=>?_) (λe=>?_))
 .rw[d]at c;exact c
 .rw[d,e]at c;exact c
 .rw[d,e]at c;exact c
theorem bgQ:cm 41 aVZ:=by
 refine iU func41 ?_;rintro g m h K ⟨v,s,op,ta,w,co,on,gr,od,li,args,ks,rfl,j,c,n⟩;refine⟨dJ [] [] [] [] false,rfl,aH,Ye v s m h K,ax,?_⟩;dsimp only[Ye,push_cast];have x:=j.parts;have d:=c.slen;rw[length_map]at d;have key:∀l r:Int,l=((ks.getD 0 0:Nat):Int)->r=((ks.getD 1 0:Nat):Int)->K (aT ⟨v.op,v.table,v.where_,v.columns,v.on,v.group,v.order,v.limit,l,r⟩) m h:=λl r u y=>n _ ⟨x.op_,x.table_,x.where_,x.columns_,x.on_,x.group_,x.order_,x.limit_,u,y⟩;have get:∀i,i<ks.length->(ks.map fun(k:Nat)=>(k:Int))[i]? =some ((ks.getD i 0:Nat):Int):=λi z=>by simp[z]
 refine aF (λA=>?_) (λA=>aF (λf=>by omega) (λf=>?_))
 .obtain⟨b,o,e,r⟩:=c.at (get 0 aC);refine⟨b,o,e,aC,aC,_,.imm r,aF (λf=>?_) (λf=>?_)⟩
  .obtain⟨b,o,e,r⟩:=c.at (get 1 aC);exact⟨b,o,e,aC,aC,_,.imm r,key _ _ rfl rfl⟩
  .exact key _ 0 rfl bg
 .exact key 0 0 bg bg
theorem cFQ{s vs ps}(c:dD h s 25 (vs.map iN.enc))(d:mF h ps vs){p}(f:ps[i]? =some p):∃b o v,s.a=some ⟨b,o,none⟩/\cR h b (o+i*25) (iN.enc v)/\pJ h p v:=by
 obtain⟨v,g,j⟩:=d.get f;obtain⟨b,o,e,k⟩:=c.get (i:=i) (e:=iN.enc v) (by simp[g])
 grind
theorem Pl{o v}(r:cR h b o (iN.enc v)):cR h b (o+21) [.slice v.args.a v.args.len v.args.cap]/\cR h b (o+22) [fV v.rows]/\cR h b (o+23) [fV v.env]/\cR h b (o+24) [fV v.width]:=by
 refine⟨⟨λj x e=>?_⟩,⟨λj x e=>?_⟩,⟨λj x e=>?_⟩,⟨λj x e=>?_⟩⟩<;>
  (have c:j=0:=(by have:=(bm e);simpa using this)
   subst c;simp at e;subst e)
 .exact r.rd 21 _ rfl
 .exact r.rd 22 _ rfl
 .exact r.rd 23 _ rfl
 .exact r.rd 24 _ rfl
theorem pJ.width_{p v}(x:pJ h p v):v.width=p.width:=by
 cases p;exact x.2.2.2.1
theorem pJ.rows_{p v}(x:pJ h p v):v.rows=p.rows:=by
 cases p;exact x.2.1
theorem pJ.env_{p v}(x:pJ h p v):v.env=p.env:=by
 cases p;exact x.2.2.1
theorem bgX:cm 39 b1Z:=by
 refine Fh func39 ?_;rintro E m h K ⟨sc,v,s,op,ta,w,co,on,gr,od,li,args,ps,R,rfl,F,G,H,B,C,n,y,D,d⟩;refine⟨dJ [(69,vJ)] [] [] [] false,rfl,aE Fo aH,Rx sc v m h (lW h K),ax,?_⟩;show Rx sc v m h (lW h K);dsimp only[Rx,push_cast];have x:=H.parts;have I:=x.op_;have J:v.args.len=ps.length:=by have:=B.len;rw[length_map,C.length]at this;exact this
 have one:op≠1->1<=ps.length:=λc=>by
  unfold arity at n y
  grind
 unfold FC at d;show branch (v.query.op==1) _ _;rw[I,x.table_]
 have get:∀(i:Nat)(j:i<ps.length),∃b o,v.args.a=some ⟨b,o,none⟩/\cR h b (o+i*25+24) [fV ((ps.map PN.width).getD i 0)]:=λi j=>by
  obtain⟨b,o,u,e,r,L⟩:=cFQ B C (bn j);have M:=(Pl r).2.2.2;rw[L.width_]at M
  grind
 refine aD (λc=>?_) (λc=>aD (λf=>?_) (λf=>aD (λg=>?_) (λg=>?_)))
 .have c:op=1:=bg
  rw[if_pos c]at d;exact⟨sc,s,ta,rfl,F,G,λS h' le j=>.out (Sub.refl m) le (by rw[j.slen];exact d)⟩
 .have c:op≠1:=bg
  have f:op=3:=bg
  rw[if_neg c,if_pos f]at d;exact .here (by rw[x.columns_.slen];exact d)
 .have c:op≠1:=bg
  have f:op≠3:=bg
  have g:op=4:=bg
  rw[if_neg c,if_neg f,if_pos g]at d;have n:(ps.length:Int)=2:=by rw[n,g];rfl
  have z:0<ps.length:=by omega
  have A:1<ps.length:=by omega
  obtain⟨b,o,e,r⟩:=get 0 z;obtain⟨O,P,Q,T⟩:=get 1 A;have U:=D ps[0] (getElem_mem z);have V:=D ps[1] (getElem_mem A);have W:(ps.map PN.width).getD 0 0=ps[0].width:=by simp[z]
  have X:(ps.map PN.width).getD 1 0=ps[1].width:=by simp[A]
  refine⟨b,o,e,aC,aC,(ps.map PN.width).getD 0 0,.imm (bk r),O,P,Q,aC,aC,(ps.map PN.width).getD 1 0,.imm aC,.here ?_⟩;rw[fG aC aC];exact d
 .have c:op≠1:=bg
  have f:op≠3:=bg
  have g:op≠4:=bg
  rw[if_neg c,if_neg f,if_neg g]at d;have:=one c;obtain⟨b,o,e,r⟩:=get 0 aC;exact⟨b,o,e,aC,aC,_,.imm (bk r),.here d⟩
mutual
def lE:PN->Nat
 |.mk _ args _ _ _=>1+sO args
def sO:List PN->Nat
 |[]=>0
 |p::ps=>lE p+sO ps
end
def Jt(p:PN):Prop:=
 match p with
 |.mk (.mk op _ _ co on gr od _ _) args _ _ c=>(args.length:Int)=arity op/\0<=c/\c<=500/\co.length<=1000/\on.length<=1000/\gr.length<=1000/\od.length<=1000/\∀a∈args,Jt a
 termination_by SizeOf.sizeOf p
def c4Q(N:Nat):Vc.Spec:=λc m h K=>∃v p d e cb f ts rs,c=[cP cb,aPN v,cI d]/\pJ h p v/\SizeOf.sizeOf p<N/\Jt p/\gW e m h cb f ts rs/\eD e/\ts.length+5*lE p<=90000/\rs.length+lE p<=90000/\
 ∀m' h',PH.le h h'->gW e m' h' cb f (gM p d ts rs).1 (gM p d ts rs).2->K (.tup []) m' h'
noncomputable def csZ(N cb:Nat)(d:Int)(v:iN)(m:MH)(h:PH):=
 rI [(43,c4Q N),(81,aCQ),(82,cbX),(83,b5J),(84,cGJ),(85,cGQ),(86,aXX),(87,b6Q)] [(13,{A:=Nat×cw×iN×iN,st:=λ⟨i,l,a,b⟩=>bZ 236 239 [(0,pv cb),(2,iv d),(7,.at (.ptr 7 0)),(8,.at (.ptr 8 0)),(9,.at (.lst 82)),(70,iv b.width),(71,iv i)] [(7,.cells 97 (a.enc.map .val)),(8,.cells 97 (b.enc.map .val)),(82,.lst 130 2 (l.map sU))] m h})] [(11,{A:=iN×iN,st:=λ⟨a,b⟩=>bZ 236 239 [(0,pv cb),(2,iv d),(7,.at (.ptr 7 0)),(8,.at (.ptr 8 0))] [(7,.cells 97 (a.enc.map .val)),(8,.cells 97 (b.enc.map .val))] m h}),
  (18,{A:=iN×iN×MH×PH,st:=λ⟨a,b,m,h⟩=>bZ 236 239 [(0,pv cb),(2,iv d),(7,.at (.ptr 7 0)),(8,.at (.ptr 8 0))] [(7,.cells 97 (a.enc.map .val)),(8,.cells 97 (b.enc.map .val))] m h}),
  (21,{A:=iN×iN,st:=λ⟨a,b⟩=>bZ 236 239 [(0,pv cb),(2,iv d),(6,.at (.ptr 6 0)),(11,.at (.ptr 11 0)),(12,.at (.ptr 12 0))] [(6,.cells 41 (v.query.enc.map .val)),(11,.cells 97 (a.enc.map .val)),(12,.cells 97 (b.enc.map .val))] m h}),
  (22,{A:=iN×iN×MH×PH,st:=λ⟨a,b,m,h⟩=>bZ 236 239 [(0,pv cb),(2,iv d),(6,.at (.ptr 6 0)),(12,.at (.ptr 12 0))] [(6,.cells 41 (v.query.enc.map .val)),(12,.cells 97 (b.enc.map .val))] m h}),
  (25,{A:=MH×PH,st:=λ⟨m,h⟩=>bZ 236 239 [(0,pv cb),(2,iv d),(4,.at (.ptr 4 0))] [(4,.cells 97 (v.enc.map .val))] m h}),
  (29,{A:=iN×iN,st:=λ⟨a,b⟩=>bZ 236 239 [(0,pv cb),(2,iv d),(13,.at (.ptr 13 0)),(14,.at (.ptr 14 0))] [(13,.cells 97 (a.enc.map .val)),(14,.cells 97 (b.enc.map .val))] m h}),
  (30,{A:=iN×iN×MH×PH,st:=λ⟨a,b,m,h⟩=>bZ 236 239 [(0,pv cb),(2,iv d),(13,.at (.ptr 13 0)),(14,.at (.ptr 14 0))] [(13,.cells 97 (a.enc.map .val)),(14,.cells 97 (b.enc.map .val))] m h}),
  (35,{A:=MH×PH,st:=λ⟨m,h⟩=>bZ 236 239 [(0,pv cb),(2,iv d),(4,.at (.ptr 4 0)),(6,.at (.ptr 6 0))] [(4,.cells 97 (v.enc.map .val)),(6,.cells 41 (v.query.enc.map .val))] m h})] [] [1036] [] false
abbrev pN(a:iN)(b c:Int)(d:Nat->Nat->iN->Prop):=bK (λx e=>aI (aW a.args.a x e) (b<=c) (c<aG a.args) (∃(f:iN),d x e f))
noncomputable abbrev EG(a:Nat)(b:iN)(c:Int):=dA a (fC (kE b.enc) c)
abbrev rL(a:dl)(b:iN)(c:PH)(d:Nat)(e:MH)(g:Nat)(i:PN->Int->MH->Nat->Nat->dg->cq->Prop):=∃(x:PN)(u:Int)(f:MH),J4 (λj y n o=>aA (a=EG j b u) (pJ c x b) (aA (SizeOf.sizeOf x<d) (Jt x) (aA (gW f e c j y n o) (eD f) (aA (n.length+g*lE x<=90000) (o.length+lE x<=90000) (i x u f j y n o)))))
noncomputable abbrev yA a b:=gC (kE a) (CV.val b)
abbrev mC(a b:iN):=sS 97 a.enc=sS 97 b.enc
noncomputable abbrev Bh(a:Nat×cw×iN×iN):=a.2.2.2
abbrev K4(a:Prop)(b:iN×iN×MH×PH->Prop)(c:(iN×iN×MH×PH)->Prop):=a/\∀(x:iN×iN×MH×PH),b x->c x
noncomputable abbrev Lt a b c d:=Step.mk a b LO c [] [] [] b d b
noncomputable abbrev pS(a:iN×iN×MH×PH):=a.2.2
abbrev PO(a:dl)(b:Nat->Option Obj)(c:Nat->Nat->Option Value)(d:Int->Int->MH->Nat->Nat->dg->cq->Prop):=Hz (λx j=>∃(e:MH),J4 (λf n g o=>aA (a=dA f (fC (gG x) j)) (gW e b c f n g o) (aA (eD e) (g.length<=100000) (d x j e f n g o))))
noncomputable abbrev A5 a b:=Step.mk 8 0 LO [] [] [] [] 0 a b
abbrev K3(a:Nat)(b c:Int)(d:Nat->Option Obj)(e:Nat->Nat->Option Value)(g:Int->Int->dg->MH->PH->Prop):=PO (dA a (fC (gG b) c)) d e (λx j u y z n A=>eX (λo f=>bR e f (gW u o f y z (bT (A5 x j) n).1 A) (g x j n o f)))
abbrev nP:=eP 13
attribute [push_cast] pN EG rL yA mC Bh K4 Lt pS PO A5 K3 nP
def Yb N cb v d m h K:=
  dP (uW v==1) (∃(y:Sl),FW m h cb 1 (aM y) (λx=>aI (cW m (dO y) 3 1 x) (A4 x) (dR x) (jY (λs E=>gK m E (dO y) s 3 1 (dN x (bC d))->tF E cb 1 (aM s) (λF=>yJ K F h))))) (uW v==2) (pN v 0 0 (λb o y=>aL m h b (o+0) y.enc/\∃(G:iN),rL (EG cb y d) G h N m 5 (λp B E c F t r=>eX (λC e=>bR h e (gW E C e c F (gM p B t r).1 (gM p B t r).2) (yJ K C e))))) (dP (uW v==3) (pN v 0 0 (λb o y=>aL m h b (o+0) y.enc/\Gp v 0 (λA u j=>aI (aL m h A (u+0+23) (bC j)) (j8 h b o 0 y.enc) (j8 h A (u+0) 23 (bC j)) (sC (λs c=>aI (fY (qW v.query.columns) (qW s)) (Ints h s c) (gU c) (∀(X:Sl)(e:PH),bR h e (jD e X (oS c)) (j8 e b o 0
 y.enc/\Iw cb j d X e m (λl r Z E L F t H=>eX (λC z=>bR e z (gW E C z L F (bT (zG Z l r) t).1 H) (j8 z A (u+0) 23 (bC j)/\∃(G:iN),rL (dA cb (yA y.enc (rB (bT (zG Z l r) t).2))) G z N C 5 (λp B J R Q D S=>eX (λO M=>bR z M (gW J O M R Q (gM p B D S).1 (gM p B D S).2) (yJ K O M))))))))))))) (uW v==4) (∃(I:iN×iN->Prop),pN v 0 0 (λb o y=>aL m h b (o+0) y.enc/\pN v 0 1 (λA u j=>aA (aL m h A (u+25) j.enc) (aA (aL m h b (o+0) y.enc) (aL m h A (u+25) j.enc) (aA (aL m h b (o+0) y.enc) (aL m h A (u+25) j.enc) (j8 h A u 25 j.enc/\∃(x:iN×iN),aA (I x) (cT cb) (aA (fD d) (eP 7) (aA iM (mC y x.1) (aA (mC j x.2) (m=m) (bU h
 h))))))) (aA (aL m h b (o+0) y.enc) (aL m h A (u+25) j.enc) (aI (aL m h b (o+0) y.enc) (aL m h A (u+25) j.enc) (j8 h A u 25 j.enc) (∃(x:iN×iN),aA (I x) (cT cb) (aA (fD d) (eP 7) (aA iM (mC y x.1) (aA (mC j x.2) (m=m) (bU h h)))))))))/\∀(x:iN×iN),I x->∃(I1:Nat×cw×iN×iN->Prop)(E:Nat×cw×iN×iN->Nat),(∃(f:Nat×cw×iN×iN),aA (I1 f) (cT cb) (aA (fD d) (eP 7) (aA iM (eL 82) (aA (dH x.2.width (Bh f).width) (bE f.1) (aA (mC x.1 f.2.2.1) (mC x.2 (Bh f)) (aA (vD 130 2 (EN f.2.1)) (m=m) (bU h h)))))))/\∀(f:Nat×cw×iN×iN),I1 f->bA (↑f.1:Int) (Bh f).width (aA (jA (j4 (EN f.2.1) 1) 16) (dR (EN f.2.1)) (∃
 (P:Nat×cw×iN×iN),aA (I1 P) (E P<E f) (aA (cT cb) (fD d) (aA (eP 7) iM (aA (eL 82) (dH (Bh f).width (Bh P).width) (aA (gX (bH f.1 1)=bP P.1) (mC f.2.2.1 P.2.2.1) (aA (mC (Bh f) (Bh P)) (bV 130 2 (dN (EN f.2.1) (Ez (fM (f.2.2.1.width+(↑f.1:Int))) (↑f.1:Int)))=bV 130 2 (EN P.2.1)) (eG m m h h)))))))) (∃(I2:iN×iN×MH×PH->Prop),K4 (cF h 2 (EN f.2.1) (λs e=>Iw cb d (Bh f).rows s e m (λl r o F c C t H=>eX (λJ z=>bR e z (gW F J z c C (bT (zG o l r) t).1 H) (Hz (λa n=>aA (fC (gG 0) f.2.2.1.width=fC (gG a) n) (cM a) (aA (cM n) (a<=1000) (n<=1000/\∀(X:Sl)(M:PH),bR z M (Ints M X (gV a n)) (∃(V:Int),sC (λL R
 =>LJ (dA cb (gC (CV.val (rB (bT (zG o l r) t).2)) (qW X))) (λc3=>dA c3 (gC (gG V) (qW L))) (Ints M L R) (gU R) J M (λQ c3 O D S=>eX (λU h4=>bR M h4 (gW Q U h4 c3 O (bT (Lt 3 0 R V) D).1 S) (∃(G:iN),rL (dA cb (yA f.2.2.1.enc (rB (bT (Lt 3 0 R V) D).2))) G h4 N U 5 (λp B m8 c4 m9 T Y=>eX (λa1 h5=>bR h4 h5 (gW m8 a1 h5 c4 m9 (gM p B T Y).1 (gM p B T Y).2) (∃(P:iN×iN×MH×PH),aA (I2 P) (cT cb) (aA (fD d) (eP 7) (aA iM (mC f.2.2.1 P.1) (aA (mC (Bh f) P.2.1) (bW a1 (pS P)) (lF (eH h5 (pS P)))))))))))))))))))))) I2 (λP=>Hz (λa n=>aA (fC (gG P.1.width) P.2.1.width=fC (gG a) n) (cM a) (aA (cM n) (a<=1000) (n<=1000/\∀(s:Sl)(e
 :PH),bR (pS P).2 e (Ints e s (gV a n)) (∃(l:Int),sC (λc L=>LJ (dA cb (gC (gG d) (qW s))) (λR=>dA R (gC (gG l) (qW c))) (Ints e c L) (gU L) (pS P).1 e (λF R C t r=>eX (λJ z=>bR e z (gW F J z R C (bT (Lt 3 0 L l) t).1 r) (∃(G:iN),rL (dA cb (yA P.2.1.enc (rB (bT (Lt 3 0 L l) t).2))) G z N J 5 (λp B Q c3 O D H=>eX (λU M=>bR z M (gW Q U M c3 O (gM p B D H).1 (gM p B D H).2) (yJ K U M)))))))))))))) (dP (uW v==5) (∃(I:iN×iN->Prop),pN v 0 0 (λb o y=>aL m h b (o+0) y.enc/\pN v 0 1 (λA u j=>aA (aL m h A (u+25) j.enc) (aA (aL m h b (o+0) y.enc) (aL m h A (u+25) j.enc) (aA (aL m h b (o+0) y.enc) (aL m h A (u+25) j.enc) (j8 h
 A u 25 j.enc/\∃(x:iN×iN),aA (I x) (cT cb) (aA (fD d) (eP 6) (aA (eP 11) (eP 12) (aA (eO v.query) (mC y x.1) (dL (mC j x.2) m m h h))))))) (aA (aL m h b (o+0) y.enc) (aL m h A (u+25) j.enc) (aI (aL m h b (o+0) y.enc) (aL m h A (u+25) j.enc) (j8 h A u 25 j.enc) (∃(x:iN×iN),aA (I x) (cT cb) (aA (fD d) (eP 6) (aA (eP 11) (eP 12) (aA (eO v.query) (mC y x.1) (dL (mC j x.2) m m h h)))))))))/\∀(x:iN×iN),I x->∃(I1:iN×iN×MH×PH->Prop),K4 (Iw cb d x.2.rows v.query.on h m (λl r o E c F t H=>eX (λC e=>bR h e (gW E C e c F (bT (zG o l r) t).1 H) (∃(G:iN),rL (dA cb (yA x.1.enc (rB (bT (zG o l r) t).2))) G e N C 5 (λp B J L Q D S=>eX (λO z=>bR e z (gW J
 O z L Q (gM p B D S).1 (gM p B D S).2) (∃(f:iN×iN×MH×PH),aA (I1 f) (cT cb) (aA (fD d) (eP 6) (aA (eP 12) (eO v.query) (aA (mC x.2 f.2.1) (bW O (pS f)) (lF (eH z (pS f))))))))))))) I1 (λf=>HB (λs o=>aI (fY (qW v.query.on) (qW s)) (jD (pS f).2 s o) (nZ o.length) (∀(X:Sl)(e:PH),bR (pS f).2 e (jD e X (qI o)) (Iw cb f.2.1.env d X e (pS f).1 (λl r u E c F t H=>eX (λC z=>bR e z (gW E C z c F (bT (zG u l r) t).1 H) (∃(G:iN),rL (dA cb (yA f.2.1.enc (rB (bT (zG u l r) t).2))) G z N C 5 (λp B J L Q D S=>eX (λO M=>bR z M (gW J O M L Q (gM p B D S).1 (gM p B D S).2) (yJ K O M))))))))))) (uW v==6) (∃(I:MH×PH->
 Prop),pN v 0 0 (λb o y=>aL m h b (o+0) y.enc/\Gp v 0 (λA u j=>aA (aL m h A (u+0+23) (bC j)) (j8 h b o 0 y.enc) (K3 cb j d m h (λl r t E e=>j8 e A (u+0) 23 (bC j)/\∃(G:iN),rL (dA cb (yA y.enc (rB (bT (A5 l r) t).2))) G e N E 5 (λp B F c C D H=>eX (λJ z=>bR e z (gW F J z c C (gM p B D H).1 (gM p B D H).2) (∃(x:MH×PH),aA (I x) (cT cb) (aA (fD d) (eP 4) (aI (eQ (sS 97 v.enc)) (bW J x) (eH z x) True)))))))))/\∀(x:MH×PH),I x->pN v 0 1 (λb o y=>aL x.1 x.2 b (o+25) y.enc/\Gp v 1 (λA u j=>aA (aL x.1 x.2 A (u+25+23) (bC j)) (j8 x.2 b o 25 y.enc) (K3 cb j d x.1 x.2 (λl r t E e=>j8 e A (u+25) 23 (bC j)/\∃(G:iN),rL
 (dA cb (yA y.enc (rB (bT (A5 l r) t).2))) G e N E 5 (λp B F c C D H=>eX (λJ z=>bR e z (gW F J z c C (gM p B D H).1 (gM p B D H).2) (yJ K J z)))))))) (dP (uW v==7) (∃(I:iN×iN->Prop),pN v 0 0 (λb o y=>aL m h b (o+0) y.enc/\pN v 0 1 (λA u j=>aA (aL m h A (u+25) j.enc) (aA (aL m h b (o+0) y.enc) (aL m h A (u+25) j.enc) (aA (aL m h b (o+0) y.enc) (aL m h A (u+25) j.enc) (j8 h A u 25 j.enc/\∃(x:iN×iN),aA (I x) (cT cb) (aA (fD d) nP (aA (eP 14) (mC y x.1) (aA (mC j x.2) (m=m) (bU h h))))))) (aA (aL m h b (o+0) y.enc) (aL m h A (u+25) j.enc) (aI (aL m h b (o+0) y.enc) (aL m h A (u+25) j.enc) (j8 h A u 25 j.enc) (∃(x:iN×iN),aA (I x) (cT cb) (aA
 (fD d) nP (aA (eP 14) (mC y x.1) (aA (mC j x.2) (m=m) (bU h h)))))))))/\∀(x:iN×iN),I x->∃(I1:iN×iN×MH×PH->Prop),K4 (∃(G:iN),rL (EG cb x.1 d) G h N m 5 (λp B E c F t r=>eX (λC e=>bR h e (gW E C e c F (gM p B t r).1 (gM p B t r).2) (∃(f:iN×iN×MH×PH),aA (I1 f) (cT cb) (aA (fD d) nP (aA (eP 14) (mC x.1 f.1) (aA (mC x.2 f.2.1) (bW C (pS f)) (lF (eH e (pS f)))))))))) I1 (λf=>K3 cb f.2.1.env d (pS f).1 (pS f).2 (λl r t E e=>PO (dA cb (fC (CV.val (rB (bT (A5 l r) t).2)) f.1.rows)) E e (λV H F c C D S=>eX (λJ z=>bR e z (gW F J z c C (bT (A5 V H) D).1 S) (∃(G:iN),rL (dA cb (yA f.2.1.enc (rB (bT
 (A5 V H) D).2))) G z N J 5 (λp B Q L O T Y=>eX (λU M=>bR z M (gW Q U M L O (gM p B T Y).1 (gM p B T Y).2) (yJ K U M))))))))) (uW v==8) (∃(I:iN×iN->Prop),pN v 0 0 (λb o y=>aL m h b (o+0) y.enc/\pN v 0 1 (λA u j=>aA (aL m h A (u+25) j.enc) (aA (aL m h b (o+0) y.enc) (aL m h A (u+25) j.enc) (aA (aL m h b (o+0) y.enc) (aL m h A (u+25) j.enc) (j8 h A u 25 j.enc/\∃(x:iN×iN),aA (I x) (cT cb) (aA (fD d) nP (aA (eP 14) (mC y x.1) (aA (mC j x.2) (m=m) (bU h h))))))) (aA (aL m h b (o+0) y.enc) (aL m h A (u+25) j.enc) (aI (aL m h b (o+0) y.enc) (aL m h A (u+25) j.enc) (j8 h A u 25 j.enc) (∃(x:iN×iN),aA (I x) (cT cb) (aA (fD d) nP (aA (eP 14) (mC
 y x.1) (aA (mC j x.2) (m=m) (bU h h)))))))))/\∀(x:iN×iN),I x->∃(I1:iN×iN×MH×PH->Prop),K4 (∃(G:iN),rL (EG cb x.1 d) G h N m 5 (λp B E c F t r=>eX (λC e=>bR h e (gW E C e c F (gM p B t r).1 (gM p B t r).2) (∃(f:iN×iN×MH×PH),aA (I1 f) (cT cb) (aA (fD d) nP (aA (eP 14) (mC x.1 f.1) (aA (mC x.2 f.2.1) (bW C (pS f)) (lF (eH e (pS f)))))))))) I1 (λf=>K3 cb f.2.1.env d (pS f).1 (pS f).2 (λl r t E e=>PO (dA cb (fC (CV.val (rB (bT (A5 l r) t).2)) f.1.rows)) E e (λV H F c C D S=>eX (λJ z=>bR e z (gW F J z c C (bT (A5 V H) D).1 S) (∃(G:iN),rL (dA cb (yA f.2.1.enc (rB (bT (A5 V H) D).2))) G z N J 5 (λp
 B Q L O T Y=>eX (λU M=>bR z M (gW Q U M L O (gM p B T Y).1 (gM p B T Y).2) (yJ K U M))))))))) (dP (uW v==9) (pN v 0 0 (λb o y=>aL m h b (o+0) y.enc/\pN v 0 0 (λA u j=>aA (aL m h A (u+0) j.enc) (j8 h b o 0 y.enc) (∃(G:iN)(p:PN)(B:Int)(q:QV),D7 (λZ t w c o3 g W l a=>∃(E:MH),J4 (λL F D r=>aA (dA cb (cE j.enc (vX d v.query))=dA L (cE G.enc (vX B q))) (pJ h p G) (aA (dK h (Query.mk Z t w c o3 g W l a) q) (gU g) (aA (nZ W.length) (gW E m h L F D r) (aA (eD E) (D.length<=99999) (eX (λC e=>bR h e (gW E C e L F (BQ p B g W l D).1 r) (j8 e A u 0 j.enc/\∃(v2:iN),rL (EG cb y (↑(BQ p B g W l D).2:Int)) v2 e N C 5 (λp1 d2 J R Q
 T H=>eX (λO z=>bR e z (gW J O z R Q (gM p1 d2 T H).1 (gM p1 d2 T H).2) (yJ K O z))))))))))))))) (uW v==10) (∃(I:MH×PH->Prop),pN v 0 0 (λb o y=>aL m h b (o+0) y.enc/\∃(G:iN),rL (EG cb y d) G h N m 5 (λp B E c F t r=>eX (λC e=>bR h e (gW E C e c F (gM p B t r).1 (gM p B t r).2) (∃(x:MH×PH),aA (I x) (cT cb) (aA (fD d) (eP 4) (aA (eP 6) (eQ (sS 97 v.enc)) (aA (eO v.query) (bW C x) (lF (eH e x)))))))))/\∀(x:MH×PH),I x->pN v 0 1 (λb o y=>aL x.1 x.2 b (o+25) y.enc/\pN v 0 1 (λA u j=>aA (aL x.1 x.2 A (u+25) j.enc) (j8 x.2 b o 25 y.enc) (∃(G:iN)(p:PN)(B:Int)(q:QV),D7 (λZ t w c o3 g W l a=>∃(E:MH),J4 (λL F D r=>aA (dA cb (cE j.enc
 (vX d v.query))=dA L (cE G.enc (vX B q))) (pJ x.2 p G) (aA (dK x.2 (Query.mk Z t w c o3 g W l a) q) (gU g) (aA (nZ W.length) (gW E x.1 x.2 L F D r) (aA (eD E) (D.length<=99999) (eX (λC e=>bR x.2 e (gW E C e L F (BQ p B g W l D).1 r) (j8 e A u 25 j.enc/\∃(v2:iN),rL (EG cb y (↑(BQ p B g W l D).2:Int)) v2 e N C 5 (λp1 d2 J R Q T H=>eX (λO z=>bR e z (gW J O z R Q (gM p1 d2 T H).1 (gM p1 d2 T H).2) (yJ K O z))))))))))))))) (yJ K m h)))))
theorem FL{α}{l:List α}(h:(l.length:Int)=1):∃a,l=[a]:=by
 match l,h with
 |[a],_=>grind
 |[],h=>simp at h
 |_::_::_,h=>grind
theorem rW{α}{l:List α}(h:(l.length:Int)=2):∃a b,l=[a,b]:=by
 match l,h with
 |[a,b],_=>grind
 |[],h=>simp at h
 |[_],h=>simp at h
 |_::_::_::_,h=>grind
theorem Jt.w{p}(x:Jt p):0<=p.width/\p.width<=500:=by
 obtain⟨⟨op,ta,w,co,on,gr,od,li,c⟩,args,rows,env,d⟩:=p;rw[Jt]at x;exact⟨x.2.1,x.2.2.1⟩
theorem C3 a d gr od li ts:(BQ a d gr od li ts).1.length<=ts.length+2:=by
 unfold BQ;have c:=dW (dV a.env d (sH gr)) ts;have e:=dW (QC (bT (dV a.env d (sH gr)) ts).2 a.rows gr od li) (bT (dV a.env d (sH gr)) ts).1
 grind
theorem iS:∀(p:PN)(d:Int)(ts:dg)(rs:cq),(gM p d ts rs).1.length<=ts.length+5*lE p/\(gM p d ts rs).2.length<=rs.length+lE p
 |.mk (.mk op ta w co on gr od li g) args rows env n,d,ts,rs=>by
  rw[gM.eq_def]
  match args with
  |[]=>dsimp only;split<;>simp[lE,sO]<;>omega
  |[a]=>
   dsimp only;simp only[lE,sO];split
   .have:=iS a d ts rs;omega
   .split
    .have c:=dW (dV a.env d (oS co)) ts;have:=iS a (bT (dV a.env d (oS co)) ts).2 (bT (dV a.env d (oS co)) ts).1 rs;omega
    .split
     .have c:=C3 a d gr od li ts;have:=iS a (BQ a d gr od li ts).2 (BQ a d gr od li ts).1 rs;omega
     grind
  |a::b::r=>
   dsimp only;simp only[lE,sO];split
   .have c:=dW (dV d b.rows (Av a.width b.width)) ts;generalize bT (dV d b.rows (Av a.width b.width)) ts=x at*
    have o:=dW (pA x.2 (gV 0 a.width)) x.1;generalize bT (pA x.2 (gV 0 a.width)) x.1=y at*
    have e:=iS a y.2 y.1 rs;generalize gM a y.2 y.1 rs=z at*
    have j:=dW (pA d (gV a.width b.width)) z.1;generalize bT (pA d (gV a.width b.width)) z.1=u at*
    have f:=iS b u.2 u.1 z.2;omega
   .split
    .have c:=dW (dV d b.rows on) ts;generalize bT (dV d b.rows on) ts=x at*
     have e:=iS a x.2 x.1 rs;generalize gM a x.2 x.1 rs=z at*
     have j:=dW (dV b.env d (qI on)) z.1;generalize bT (dV b.env d (qI on)) z.1=u at*
     have f:=iS b u.2 u.1 z.2;omega
    .split
     .have c:=dW (cO a.env d) ts;generalize bT (cO a.env d) ts=x at*
      have e:=iS a x.2 x.1 rs;generalize gM a x.2 x.1 rs=z at*
      have j:=dW (cO b.env d) z.1;generalize bT (cO b.env d) z.1=u at*
      have f:=iS b u.2 u.1 z.2;omega
     .split
      .have e:=iS a d ts rs;generalize gM a d ts rs=z at*
       have c:=dW (cO b.env d) z.1;generalize bT (cO b.env d) z.1=x at*
       have j:=dW (cO x.2 a.rows) x.1;generalize bT (cO x.2 a.rows) x.1=u at*
       have f:=iS b u.2 u.1 z.2;omega
      .split
       .have e:=iS a d ts rs;generalize gM a d ts rs=z at*
        have c:=C3 b d gr od li z.1;generalize BQ b d gr od li z.1=x at*
        have f:=iS b x.2 x.1 z.2;omega
       grind
 termination_by p=>SizeOf.sizeOf p
theorem a1Z{m0 u d}(c:gW m0 m h cb u ts rs)(hl:rs.length<=90000)(Y:∀m',gW m0 m' h cb u ts (rs++[d])->K (.tup []) m' h):
 ∃y:Sl,aL m h cb 1 [dX y]/\∃xs,cW m (Sl.mk y.a y.len y.cap) 3 1 xs/\(xs.length+1)*8<=140737488355328/\xs.length<140737488355328/\∀(T:Sl)(m':MH),gK m m' (Sl.mk y.a y.len y.cap) T 3 1 (xs++[[fV d]])->∃(cs:Array Value)(E:TypeId),yP m' cb (Obj.cells cs E)/\1<cs.size/\∀(g:MH),lK m' g cb (Obj.cells (Array.mk (splice cs.toList 1 [dX T])) E)->K (CV.tup []) g h:=by
 obtain⟨s,r,A,⟨Z,U,J⟩,f,L,a'⟩:=c.ex;obtain⟨es,cl,M,O⟩:=c.map_.ex;refine⟨r,.of_m A rfl,rs.map eI,f,bg,bg,λB m1 z=>?_⟩
 have P:∀i,r.a≠some ⟨cb,i,none⟩:=λi e=>by
  obtain⟨n,C⟩:=cW.blk f e
  grind
 have Q:∀i,r.a≠some ⟨u,i,none⟩:=λi e=>by
  obtain⟨n,C⟩:=cW.blk f e
  grind
 have V:cb≠u:=λe=>bg
 have D:=z.other cb _ A P;have W:=z.other u _ M Q;refine⟨_,_,⟨D⟩,ay,λR F=>?_⟩;have F:lK m1 R cb (.cells #[.slice s.a s.len s.cap,.slice B.a B.len B.cap,.map (some u)] 93 (0,0)):=F
 have G:∀b o,m b=some o->b≠cb->(∀i,r.a≠some ⟨b,i,none⟩)->R b=some o:=λb o e n1 n3=>by
  rw[F.other b n1];exact z.other b o e n3
 have H:∀b i,B.a=some ⟨b,i,none⟩->b≠cb:=λb i e e2=>by
  obtain⟨n,C⟩:=cW.blk z.row e
  grind
 refine Y R ⟨λb o e=>G b o (c.sub b o e) (λI=>by rw[I,c.cb0]at e;cases e) (λi I=>bg),c.cb0,c.mb0,⟨es,cl,bg,O⟩,c.nodup,s,B,F.at_,⟨Z,?_,J⟩,?_,L,?_⟩
 .refine cW.keep U (λb i e=>?_);obtain⟨n,C⟩:=cW.blk U e;rw[C];refine G b _ C (λI=>?_) (λj I=>?_)
  .grind
  .obtain⟨X,h4⟩:=cW.blk f I
   grind
 .rw[bu];exact cW.keep z.row (λb i e=>by rw[F.other b (H b i e)])
 .intro b i e;rcases z.fresh b i e with S|⟨j,S⟩
  .cases e0:m0 b with
   |none=>rfl
   |some o=>rw[c.sub b o e0]at S;cases S
  grind
theorem pJ.form{p v}(x:pJ h p v):∃q s,v=⟨q,s,p.rows,p.env,p.width⟩:=by
 obtain⟨q,s,r,e,w⟩:=v;have c:=x.rows_;have d:=x.env_;have f:=x.width_
 grind
theorem aOX:∀N,cm 43 (c4Q N)
 |0=>by
  refine fP (fn:=Tryz.f43) (c:=dY Tryz.f43) func43 rfl az ?_;rintro b9 m h K ⟨v,p,d,A,cb,B,ts,rs,rfl,_,hN,_⟩;omega
 |N+1=>by
  refine iU func43 ?_;rintro b9 m h K ⟨v,p,d,A,cb,B,ts,rs,rfl,hp,hN,ok,c,T,l1,l2,L⟩;refine⟨csZ N cb d v m h,rfl,aE (aOX N) (aE Tw (aE bbZ (aE bbX (aE bbQ (aE baJ (aE baZ (aE baX aH))))))),Yb N cb v d m h K,ax,?_⟩;dsimp only[Yb,push_cast];obtain⟨⟨op,ta,w,co,on,gr,od,li,a3⟩,args,rows,env,wd⟩:=p;obtain⟨hq,_,_,_,d0,vs,hr,b3⟩:=hp;rw[Jt]at ok;obtain⟨oa,d1,d2,b4,b5,b6,b7,a6⟩:=ok;have x:=hq.parts;have d':v.args.len=args.length:=by have:=hr.len;rw[length_map,b3.length]at this;exact this
  have at_:∀{hx:PH}(_:PH.le h hx)(i:Nat)(a:PN)(_:args[i]? =some a),∃b o q s,v.args.a=some ⟨b,o,none⟩/\cR hx b (o+i*25) (iN.enc ⟨q,s,a.rows,a.env,a.width⟩)/\pJ hx a ⟨q,s,a.rows,a.env,a.width⟩:=λle i a ha=>by
   obtain⟨b,o,u,e,r,H⟩:=cFQ (hr.mono le) (mF.mono le b3) ha;obtain⟨q,s,rfl⟩:=H.form
   grind
  have small:∀a∈args,SizeOf.sizeOf a<N:=λa ha=>by
   have:=sizeOf_lt_of_mem ha
   grind
  have j:∀{mx:MH}{hx:PH}(a:PN)(u:iN)(dd:Int)(Y:dg)(a0:cq){KK:MH->PH->Prop},a∈args->pJ hx a u->gW A mx hx cb B Y a0->Y.length+5*lE a<=90000->a0.length+lE a<=90000->(∀m' h',PH.le hx h'->gW A m' h' cb B (gM a dd Y a0).1 (gM a dd Y a0).2->KK m' h')->
   ∃(v:iN)(p:PN),∃(a7:Int)(A:MH),∃(a4 B:Nat)(ts:dg)(rs:cq),[cQp cb 0,kE (iN.enc u),gG dd]=[cQp a4 0,kE (iN.enc v),gG a7]/\pJ hx p v/\SizeOf.sizeOf p<N/\Jt p/\gW A mx hx a4 B ts rs/\eD A/\ts.length+5*lE p<=90000/\rs.length+lE p<=90000/\∀(m':MH)(h':PH),hx.le h'->gW A m' h' a4 B (gM p a7 ts rs).1 (gM p a7 ts rs).2->KK m' h':=
   λa u dd Y a0 KK ha H M b1 b2 hk=>⟨u,a,dd,A,cb,B,Y,a0,rfl,H,small a ha,a6 a ha,M,T,b1,b2,hk⟩
  show branch (v.query.op==1) _ _;rw[x.op_];simp only[lE]at l1 l2;refine aD (λe=>?_) (λn1=>aD (λe=>?_) (λn2=>aD (λe=>?_) (λn3=>aD (λe=>?_) (λn4=>aD (λe=>?_) (λn5=>aD (λe=>?_) (λn6=>aD (λe=>?_) (λn7=>aD (λe=>?_) (λn8=>aD (λe=>?_) (λn9=>aD (λe=>?_) (λc0=>?_))))))))))
  .have e:op=1:=bk e
   subst e;obtain rfl:args=[]:=eq_nil_of_length_eq_zero (by have:arity 1=0:=rfl;omega);rw[gM]at L;exact a1Z c aC (λm' c'=>L m' h (.refl _) bg)
  .have e:op=2:=bk e
   subst e;obtain⟨a,rfl⟩:=FL (l:=args) (by rw[oa];rfl);simp only[sO]at l1 l2;simp only[gM,if_true]at L;obtain⟨b,o,P,Q,e,r,H⟩:=at_ (.refl _) 0 a rfl;exact⟨b,o,e,aC,bg,_,.imm r,j a _ d ts rs ay H c aC aC L⟩
  .have e:op=3:=bk e
   subst e;obtain⟨a,rfl⟩:=FL (l:=args) (by rw[oa];rfl);simp only[sO]at l1 l2;simp only[gM,if_true,show((3:Int)=2)=False by simp,if_false]at L;obtain⟨b,o,P,Q,e,r,H⟩:=at_ (.refl _) 0 a rfl;have rc:=(Pl r).2.2.1;have hx:=dW (dV a.env d (oS co)) ts;refine⟨b,o,e,aC,bg,_,.imm r,b,o,e,aC,bg,_,.imm rc,r,rc,v.query.columns,co,rfl,x.columns_,b4,λs h1 R a8=>⟨r.mono R,a.env,d,s,oS co,A,cb,B,ts,rs,rfl,a8,cj (Rl co co.length) b4,c.mono R,T,aC,λm2 h2 C M=>⟨rc.mono (R.trans C),?_⟩⟩⟩;have M:gW A m2 h2 cb B (bT (dV a.env d (oS co)) ts).1 rs:=M;exact j a _ _ _ _ ay (H.mono (R.trans C)) M aC aC (λJ I g E=>L J I ((R.trans C).trans g) E)
  .have e:op=4:=bk e
   subst e;obtain⟨a,f,rfl⟩:=rW (l:=args) (by rw[oa];rfl);simp only[sO]at l1 l2;simp only[gM,if_true]at L;obtain⟨b,o,P,Q,e,r,H⟩:=at_ (.refl _) 0 a rfl;obtain⟨b',o',W,O,e',n,F⟩:=at_ (.refl _) 1 f rfl;have wa:=(a6 a ay).w;have wb:=(a6 f ay).w;have a1:=dW (dV d f.rows (Av a.width f.width)) ts;have c1:=dW (pA (bT (dV d f.rows (Av a.width f.width)) ts).2 (gV 0 a.width)) (bT (dV d f.rows (Av a.width f.width)) ts).1;have a2:=iS a (bT (pA (bT (dV d f.rows (Av a.width f.width)) ts).2 (gV 0 a.width)) (bT (dV d f.rows (Av a.width f.width)) ts).1).2 (bT (pA (bT (dV d f.rows (Av a.width f.width)) ts).2 (gV 0 a.width)) (bT (dV d f.rows (Av a.width f.width)) ts).1).1 rs;generalize hZ:gM a (bT (pA (bT (dV d f.rows (Av a.width f.width)) ts).2 (gV 0 a.width)) (bT (dV d f.rows (Av a.width f.width)) ts).1).2 (bT (pA (bT (dV d f.rows (Av a.width f.width)) ts).2 (gV 0 a.width)) (bT (dV d f.rows (Av a.width f.width)) ts).1).1 rs=Z at*
   have a5:=dW (pA d (gV a.width f.width)) Z.1;refine⟨λx=>x=(⟨P,Q,a.rows,a.env,a.width⟩,⟨W,O,f.rows,f.env,f.width⟩),⟨b,o,e,aC,bg,_,.imm r,b',o',e',aC,bg,_,.imm n,⟨.imm r,.imm n,.imm r,.imm n,n,_,rfl,MT⟩,.imm r,.imm n,.imm r,.imm n,n,_,rfl,MT⟩,?_⟩;rintro _ rfl;obtain⟨k,hk⟩:∃k:Nat,f.width=k:=⟨f.width.toNat,aC⟩
   refine⟨λx=>x.1<=k/\x.2.1=Av a.width (x.1:Nat)/\x.2.2=(⟨P,Q,a.rows,a.env,a.width⟩,⟨W,O,f.rows,f.env,f.width⟩),λx=>k-x.1,⟨(0,[],_,_),⟨aC,rfl,rfl⟩,MT⟩,?_⟩;rintro⟨i,l,yz⟩ ⟨hi,X,e2⟩;dsimp only at hi X e2⊢
   subst X e2;have d3:(Av a.width (i:Nat)).length=i:=by simp[Av]
   refine aF (λc8=>?_) (λc9=>?_)
   .have c8:(i:Int)<(k:Int):=bg
    refine⟨bg,bg,(i+1,Av a.width ((i+1:Nat):Int),_,_),⟨aC,rfl,rfl⟩,aC,?_⟩
    have e:Av a.width ((i+1:Nat):Int)=Av a.width (i:Nat)++[(IntKind.i64.wrap (a.width+(i:Int)),(i:Int))]:=by
     rw[fG aC aC];simp[Av,range_succ]
    rw[e,bu];exact MT
   .have c9:¬(i:Int)<(k:Int):=bg
    obtain rfl:i=k:=by omega
    rw[hk]at a1 c1 a2 hZ;refine⟨λx=>x.2.1=⟨W,O,f.rows,f.env,f.width⟩/\x.1=⟨P,Q,a.rows,a.env,a.width⟩/\PH.le h x.2.2.2/\gW A x.2.2.1 x.2.2.2 cb B Z.1 Z.2,λs h1 R a8=>⟨d,f.rows,s,Av a.width (i:Nat),A,cb,B,ts,rs,rfl,⟨a8,aC⟩,aC,c.mono R,T,aC,λm2 h2 C M=>?_⟩,?_⟩
    .have M:gW A m2 h2 cb B (bT (dV d f.rows (Av a.width (i:Nat))) ts).1 rs:=M;refine⟨0,a.width,rfl,aC,aC,aC,aC,λO I g a9=>⟨_,O,gV 0 a.width,A,cb,B,(bT (dV d f.rows (Av a.width (i:Nat))) ts).1,rs,rfl,a9,?_,M.mono g,T,aC,λm4 h4 U c4=>?_⟩⟩
     .simp[gV];omega
     .have c4:gW A m4 h4 cb B (bT (pA (bT (dV d f.rows (Av a.width (i:Nat))) ts).2 (gV 0 a.width)) (bT (dV d f.rows (Av a.width (i:Nat))) ts).1).1 rs:=c4;have le:=((R.trans C).trans g).trans U;exact j a _ _ _ _ ay (H.mono le) c4 aC aC (λJ I g E=>⟨(_,_,J,I),⟨rfl,rfl,le.trans g,by rw[<-hZ];exact E⟩,MT⟩)
    .rintro⟨y,z,J,I⟩ ⟨X,e2,g,E⟩;dsimp only at X e2 g E⊢
     subst X e2;refine⟨a.width,f.width,rfl,aC,aC,aC,aC,λO h4 U a9=>⟨d,O,gV a.width f.width,A,cb,B,Z.1,Z.2,rfl,a9,by simp[gV];omega,E.mono U,T,aC,λm5 h5 D S=>?_⟩⟩;have S:gW A m5 h5 cb B (bT (pA d (gV a.width f.width)) Z.1).1 Z.2:=S;have le:=(g.trans U).trans D;exact j f _ _ _ _ ay (F.mono le) S aC aC (λm6 h6 G V=>L m6 h6 (le.trans G) V)
  .have e:op=5:=bk e
   subst e;obtain⟨a,f,rfl⟩:=rW (l:=args) (by rw[oa];rfl);simp only[sO]at l1 l2;simp only[gM,if_true,show((5:Int)=4)=False by simp,if_false]at L;obtain⟨b,o,P,Q,e,r,H⟩:=at_ (.refl _) 0 a rfl;obtain⟨b',o',W,O,e',n,F⟩:=at_ (.refl _) 1 f rfl;have a1:=dW (dV d f.rows on) ts;have a2:=iS a (bT (dV d f.rows on) ts).2 (bT (dV d f.rows on) ts).1 rs;generalize hZ:gM a (bT (dV d f.rows on) ts).2 (bT (dV d f.rows on) ts).1 rs=Z at*
   have a5:=dW (dV f.env d (qI on)) Z.1;refine⟨λx=>x=(⟨P,Q,a.rows,a.env,a.width⟩,⟨W,O,f.rows,f.env,f.width⟩),⟨b,o,e,aC,bg,_,.imm r,b',o',e',aC,bg,_,.imm n,⟨.imm r,.imm n,.imm r,.imm n,n,_,rfl,MT⟩,.imm r,.imm n,.imm r,.imm n,n,_,rfl,MT⟩,?_⟩;rintro _ rfl;refine⟨λx=>x.2.1=⟨W,O,f.rows,f.env,f.width⟩/\PH.le h x.2.2.2/\gW A x.2.2.1 x.2.2.2 cb B Z.1 Z.2,⟨d,f.rows,v.query.on,on,A,cb,B,ts,rs,rfl,x.on_,b5,c,T,aC,λm2 h2 C M=>?_⟩,?_⟩
   .have M:gW A m2 h2 cb B (bT (dV d f.rows on) ts).1 rs:=M;exact j a _ _ _ _ ay (H.mono C) M aC aC (λJ I g E=>⟨(⟨P,Q,a.rows,a.env,a.width⟩,_,J,I),⟨rfl,C.trans g,by rw[<-hZ];exact E⟩,MT⟩)
   .rintro⟨y,z,J,I⟩ ⟨X,g,E⟩;dsimp only at X g E⊢
    subst X;refine⟨v.query.on,on,rfl,x.on_.mono g,b5,λs h4 U hs=>⟨f.env,d,s,qI on,A,cb,B,Z.1,Z.2,rfl,hs,by simp[qI];omega,E.mono U,T,aC,λm5 h5 D S=>?_⟩⟩;have S:gW A m5 h5 cb B (bT (dV f.env d (qI on)) Z.1).1 Z.2:=S;have le:=(g.trans U).trans D;exact j f _ _ _ _ ay (F.mono le) S aC aC (λm6 h6 G V=>L m6 h6 (le.trans G) V)
  .have e:op=6:=bk e
   subst e;obtain⟨a,f,rfl⟩:=rW (l:=args) (by rw[oa];rfl);simp only[sO]at l1 l2;simp only[gM,if_true,show((6:Int)=4)=False by simp,show((6:Int)=5)=False by simp,if_false]at L;obtain⟨b,o,P,Q,e,r,H⟩:=at_ (.refl _) 0 a rfl;have rc:=(Pl r).2.2.1;have a1:=dW (cO a.env d) ts;have a2:=iS a (bT (cO a.env d) ts).2 (bT (cO a.env d) ts).1 rs;generalize hZ:gM a (bT (cO a.env d) ts).2 (bT (cO a.env d) ts).1 rs=Z at*
   have a5:=dW (cO f.env d) Z.1;refine⟨λx=>PH.le h x.2/\gW A x.1 x.2 cb B Z.1 Z.2,⟨b,o,e,aC,bg,_,.imm r,b,o,e,aC,bg,_,.imm rc,r,a.env,d,A,cb,B,ts,rs,rfl,c,T,aC,λm2 h2 C M=>⟨rc.mono C,?_⟩⟩,?_⟩
   .have M:gW A m2 h2 cb B (bT (cO a.env d) ts).1 rs:=M;exact j a _ _ _ _ ay (H.mono C) M aC aC (λJ I g E=>⟨(J,I),⟨C.trans g,by rw[<-hZ];exact E⟩,MT⟩)
   .rintro⟨J,I⟩ ⟨g,E⟩;dsimp only at g E⊢
    obtain⟨b',o',W,O,e',n,F⟩:=at_ g 1 f rfl;have b8:=(Pl n).2.2.1;refine⟨b',o',e',aC,bg,_,.imm n,b',o',e',aC,bg,_,.imm b8,n,f.env,d,A,cb,B,Z.1,Z.2,rfl,E,T,aC,λm5 h5 D S=>⟨b8.mono D,?_⟩⟩;have S:gW A m5 h5 cb B (bT (cO f.env d) Z.1).1 Z.2:=S;exact j f _ _ _ _ ay (F.mono D) S aC aC (λm6 h6 G V=>L m6 h6 ((g.trans D).trans G) V)
  .have e:op=7:=bk e
   subst e;obtain⟨a,f,rfl⟩:=rW (l:=args) (by rw[oa];rfl);simp only[sO]at l1 l2;simp only[gM,if_true,show((7:Int)=4)=False by simp,show((7:Int)=5)=False by simp,show((7:Int)=6)=False by simp,if_false,true_or]at L;obtain⟨b,o,P,Q,e,r,H⟩:=at_ (.refl _) 0 a rfl;obtain⟨b',o',W,O,e',n,F⟩:=at_ (.refl _) 1 f rfl;have a2:=iS a d ts rs;generalize hZ:gM a d ts rs=Z at*
   have a1:=dW (cO f.env d) Z.1;have a5:=dW (cO (bT (cO f.env d) Z.1).2 a.rows) (bT (cO f.env d) Z.1).1;refine⟨λx=>x=(⟨P,Q,a.rows,a.env,a.width⟩,⟨W,O,f.rows,f.env,f.width⟩),⟨b,o,e,aC,bg,_,.imm r,b',o',e',aC,bg,_,.imm n,⟨.imm r,.imm n,.imm r,.imm n,n,_,rfl,MT⟩,.imm r,.imm n,.imm r,.imm n,n,_,rfl,MT⟩,?_⟩;rintro _ rfl;refine⟨λx=>x.1=⟨P,Q,a.rows,a.env,a.width⟩/\x.2.1=⟨W,O,f.rows,f.env,f.width⟩/\PH.le h x.2.2.2/\gW A x.2.2.1 x.2.2.2 cb B Z.1 Z.2,j a _ _ _ _ ay H c aC aC (λJ I g E=>⟨(_,_,J,I),⟨rfl,rfl,g,bg⟩,MT⟩),?_⟩;rintro⟨y,z,J,I⟩ ⟨X,e2,g,E⟩;dsimp only at X e2 g E⊢
   subst X e2;refine⟨f.env,d,A,cb,B,Z.1,Z.2,rfl,E,T,aC,λm5 h5 D S=>⟨_,a.rows,A,cb,B,(bT (cO f.env d) Z.1).1,Z.2,rfl,S,T,aC,λm6 h6 G V=>?_⟩⟩;have V:gW A m6 h6 cb B (bT (cO (bT (cO f.env d) Z.1).2 a.rows) (bT (cO f.env d) Z.1).1).1 Z.2:=V;have le:=(g.trans D).trans G;exact j f _ _ _ _ ay (F.mono le) V aC aC (λm7 h7 b0 c7=>L m7 h7 (le.trans b0) c7)
  .have e:op=8:=bk e
   subst e;obtain⟨a,f,rfl⟩:=rW (l:=args) (by rw[oa];rfl);simp only[sO]at l1 l2;simp only[gM,if_true,show((8:Int)=4)=False by simp,show((8:Int)=5)=False by simp,show((8:Int)=6)=False by simp,if_false,or_true]at L;obtain⟨b,o,P,Q,e,r,H⟩:=at_ (.refl _) 0 a rfl;obtain⟨b',o',W,O,e',n,F⟩:=at_ (.refl _) 1 f rfl;have a2:=iS a d ts rs;generalize hZ:gM a d ts rs=Z at*
   have a1:=dW (cO f.env d) Z.1;have a5:=dW (cO (bT (cO f.env d) Z.1).2 a.rows) (bT (cO f.env d) Z.1).1;refine⟨λx=>x=(⟨P,Q,a.rows,a.env,a.width⟩,⟨W,O,f.rows,f.env,f.width⟩),⟨b,o,e,aC,bg,_,.imm r,b',o',e',aC,bg,_,.imm n,⟨.imm r,.imm n,.imm r,.imm n,n,_,rfl,MT⟩,.imm r,.imm n,.imm r,.imm n,n,_,rfl,MT⟩,?_⟩;rintro _ rfl;refine⟨λx=>x.1=⟨P,Q,a.rows,a.env,a.width⟩/\x.2.1=⟨W,O,f.rows,f.env,f.width⟩/\PH.le h x.2.2.2/\gW A x.2.2.1 x.2.2.2 cb B Z.1 Z.2,j a _ _ _ _ ay H c aC aC (λJ I g E=>⟨(_,_,J,I),⟨rfl,rfl,g,bg⟩,MT⟩),?_⟩;rintro⟨y,z,J,I⟩ ⟨X,e2,g,E⟩;dsimp only at X e2 g E⊢
   subst X e2;refine⟨f.env,d,A,cb,B,Z.1,Z.2,rfl,E,T,aC,λm5 h5 D S=>⟨_,a.rows,A,cb,B,(bT (cO f.env d) Z.1).1,Z.2,rfl,S,T,aC,λm6 h6 G V=>?_⟩⟩;have V:gW A m6 h6 cb B (bT (cO (bT (cO f.env d) Z.1).2 a.rows) (bT (cO f.env d) Z.1).1).1 Z.2:=V;have le:=(g.trans D).trans G;exact j f _ _ _ _ ay (F.mono le) V aC aC (λm7 h7 b0 c7=>L m7 h7 (le.trans b0) c7)
  .have e:op=9:=bk e
   subst e;obtain⟨a,rfl⟩:=FL (l:=args) (by rw[oa];rfl);simp only[sO]at l1 l2;simp only[gM,if_true,show((9:Int)=2)=False by simp,show((9:Int)=3)=False by simp,if_false]at L;obtain⟨b,o,P,Q,e,r,H⟩:=at_ (.refl _) 0 a rfl;have hx:=C3 a d gr od li ts;refine⟨b,o,e,aC,bg,_,.imm r,b,o,e,aC,bg,_,.imm r,r,_,a,d,v.query,9,ta,w,co,on,gr,od,li,a3,A,cb,B,ts,rs,rfl,H,hq,b6,b7,c,T,aC,λm2 h2 C M=>⟨r.mono C,j a _ _ _ _ ay (H.mono C) M aC aC (λJ I g E=>L J I (C.trans g) E)⟩⟩
  .have e:op=10:=bk e
   subst e;obtain⟨a,f,rfl⟩:=rW (l:=args) (by rw[oa];rfl);simp only[sO]at l1 l2;simp only[gM,if_true,show((10:Int)=4)=False by simp,show((10:Int)=5)=False by simp,show((10:Int)=6)=False by simp,show((10:Int)=7)=False by simp,show((10:Int)=8)=False by simp,if_false,or_false]at L;obtain⟨b,o,P,Q,e,r,H⟩:=at_ (.refl _) 0 a rfl;have a2:=iS a d ts rs;generalize hZ:gM a d ts rs=Z at*
   have a1:=C3 f d gr od li Z.1;refine⟨λx=>PH.le h x.2/\gW A x.1 x.2 cb B Z.1 Z.2,⟨b,o,e,aC,bg,_,.imm r,j a _ _ _ _ ay H c aC aC (λJ I g E=>⟨(J,I),⟨g,bg⟩,MT⟩)⟩,?_⟩;rintro⟨J,I⟩ ⟨g,E⟩;dsimp only at g E⊢
   obtain⟨b',o',W,O,e',n,F⟩:=at_ g 1 f rfl;exact⟨b',o',e',aC,bg,_,.imm n,b',o',e',aC,bg,_,.imm n,n,_,f,d,v.query,10,ta,w,co,on,gr,od,li,a3,A,cb,B,Z.1,Z.2,rfl,F,hq.mono g,b6,b7,E,T,aC,λm5 h5 D S=>⟨n.mono D,j f _ _ _ _ ay (F.mono D) S aC aC (λm6 h6 G V=>L m6 h6 ((g.trans D).trans G) V)⟩⟩
  .exfalso;have h0:0<=arity op:=by omega
   simp only[beq_eq_false_iff_ne]at n1 n2 n3 n4 n5 n6 n7 n8 n9 c0;unfold arity at h0
   grind
def c4X:Vc.Spec:=λc m h K=>∃v p d e cb f ts rs,c=[cP cb,aPN v,cI d]/\pJ h p v/\Jt p/\gW e m h cb f ts rs/\eD e/\ts.length+5*lE p<=90000/\rs.length+lE p<=90000/\
 ∀m' h',PH.le h h'->gW e m' h' cb f (gM p d ts rs).1 (gM p d ts rs).2->K (.tup []) m' h'
theorem bfJ:cm 43 c4X:=mV aOX λ_ _ _ _⟨v,p,d,c,cb,f,ts,rs,e,g,j,n,o,u,y,z⟩=>⟨SizeOf.sizeOf p+1,v,p,d,c,cb,f,ts,rs,e,g,aC,j,n,o,u,y,z⟩
def RY(r:da)(o:OV):=if o.kind=3 then o.value else if o.kind=1/\0<=o.index/\o.index<r.length then r.getD o.index.toNat zeroV else zeroV
def buJ(d c:Int):=if d=1 then c==0 else if d=2 then c !=0 else if d=3 then decide (c<0)else if d=4 then decide (c<=0)else if d=5 then decide (c>0)else if d=6 then decide (c>=0)else false
def J6 c a b:=pW a&&pW b&&a.kind==b.kind&&buJ c (pI a b)
mutual
def oA(r:da):Pred->Bool
 |.mk op c a b args=>if op=1 then true else if op=3 then J6 c (RY r a) (RY r b)else if op=4 then HN r args else if op=5 then HM r args else if op=6 then XB r args else false
def HN(r:da):di->Bool
 |[]=>true
 |p::ps=>oA r p&&HN r ps
def HM(r:da):di->Bool
 |[]=>false
 |p::ps=>oA r p||HM r ps
def XB(r:da):di->Bool
 |[]=>false
 |p::_=> !oA r p
end
theorem OJ(r:da):∀ps,HN r ps=ps.all (oA r)
 |[]=>by simp[HN]
 |p::ps=>by simp[HN,OJ r ps]
theorem OI(r:da):∀ps,HM r ps=ps.any (oA r)
 |[]=>by simp[HM]
 |p::ps=>by simp[HM,OI r ps]
def DenS:Vc.Spec:=λc m h K=>∃o s r,c=[aO o,cS s,Ft]/\bS h s r/\K (aV (RY r o)) m h
def Pc(p:Int->Bool):Vc.Spec:=λd m h K=>∃c,d=[cI c]/\K (cB (p c)) m h
def cLX:Vc.Spec:=λc m h K=>∃op,c=[cI op]/\
 branch (op==1) (K (fv 202) m h) (branch (op==2) (K (fv 203) m h) (branch (op==3) (K (fv 204) m h) (branch (op==4) (K (fv 205) m h) (branch (op==5) (K (fv 206) m h) (branch (op==6) (K (fv 207) m h) (K (.val .nilFunc) m h))))))
def caX(N:Nat):Vc.Spec:=λc m h K=>∃v s p r,c=[aP v,cS s,Ft]/\fO h p v/\bS h s r/\SizeOf.sizeOf p<N/\K (cB (oA r p)) m h
def aDZ:Vc.Spec:=λc m h K=>∃v s p r,c=[aP v,cS s,Ft]/\fO h p v/\bS h s r/\K (cB (oA r p)) m h
noncomputable def ckQ(N:Nat)(v:PV)(s:Sl)(m:MH)(h:PH):=
 dJ [(157,DenS),(158,UY),(159,cLX),(156,U6),(97,caX N),(202,Pc (λc=>c==0)),(203,Pc (λc=>c !=0)),(204,Pc (λc=>decide (c<0))),(205,Pc (λc=>decide (c<=0))),(206,Pc (λc=>decide (c>0))),(207,Pc (λc=>decide (c>=0)))] [(12,{A:=Nat,st:=λi=>bZ 102 105 [(1,sv s),(2,vv pV),(60,sv v.args),(61,iv v.args.len),(62,iv i)] [] m h}),
  (20,{A:=Nat,st:=λi=>bZ 102 105 [(1,sv s),(2,vv pV),(75,sv v.args),(76,iv v.args.len),(77,iv i)] [] m h})] [(6,{A:=VV×VV,st:=λ⟨a,b⟩=>bZ 102 105 [(3,.at (.ptr 3 0)),(7,.at (.ptr 7 0)),(8,.at (.ptr 8 0))] [(3,.cells 35 (v.enc.map .val)),(7,.cells 30 (a.enc.map .val)),(8,.cells 30 (b.enc.map .val))] m h})] [] false
def Ue(o:OV)(s:Sl)(m:MH)(h:PH)(K:cn):=
  dP (o.kind==3) (K (kE o.value.enc) m h) (o.kind==2) (bA o.index 0 (K (kE zT) m h) (iG o.index 0 (K (kE zT) m h) (bK (λb c=>aI (aW Option.none b c) (0<=o.index) (o.index<0) (∃(y:VV),aL m h b (c+iA o.index 3) y.enc/\K (kE y.enc) m h))))) (eY o.kind 1 (bA o.index 0 (K (kE zT) m h) (iG o.index (aG s) (K (kE zT) m h) (bK (λb c=>aI (aW s.a b c) (0<=o.index) (o.index<aG s) (∃(y:VV),aL m h b (c+iA o.index 3) y.enc/\K (kE y.enc) m h))))) (K (kE zT) m h))
def NA(op:Int)(m:MH)(h:PH)(K:cn):=
  ∀(b:Nat)(e:MH),bF (cK m h b) (bL m e b (aX Value.nilFunc Value.nilFunc (aX Value.nilFunc Value.nilFunc (aX Value.nilFunc Value.nilFunc LL))) 248) (jN (λc E=>aA (yP e b (gO c E 0)) (7<=c.size) (∀(d:MH),bL e d b (aX Value.nilFunc (qN 202) (aX (qN 203) (qN 204) (aX (qN 205) (qN 206) (fE (qN 207) 7 c)))) E->bA op 0 (K (CV.val Value.nilFunc) d h) (iG op 7 (K (CV.val Value.nilFunc) d h) (aA (cM op) (op<7) (∃(y:Option Nat),aL d h b (0+iA op 1) (oW (bYX y))/\K (CV.val (bYX y)) d h))))))
def blZ(c:Int)(m:MH)(h:PH)(K:cn):=
  K (As (c==0)) m h
def blX(c:Int)(m:MH)(h:PH)(K:cn):=
  K (As (c !=0)) m h
def blQ(c:Int)(m:MH)(h:PH)(K:cn):=
  K (As (decide (c<0))) m h
def bkJ(c:Int)(m:MH)(h:PH)(K:cn):=
  K (As (decide (c<=0))) m h
def bkZ(c:Int)(m:MH)(h:PH)(K:cn):=
  K (As (decide (c>0))) m h
def bkX(c:Int)(m:MH)(h:PH)(K:cn):=
  K (As (decide (c>=0))) m h
noncomputable abbrev yI(a:OV)(b:Sl):=cE a.enc (gT b Ft)
abbrev kV(a:da)(b:OV)(c:VV):=oQ 30 (gL (At.val (fV (RY a b).kind)) (At.val (fV (RY a b).int)) (DX (At.val (Value.string (RY a b).text))))=sS 30 c.enc
abbrev zH(a:PV)(b:Sl)(c:PH)(d:VV×VV->Prop)(e:(VV×VV)->Prop)(g:OV->da->(VV×VV)->Prop)(i:MH):=∃(x:OV),pB (λj n=>aA (yI a.right b=yI x j) (bS c j n) (∃(f:VV×VV),aA (d f) jU (aA (eP 7) iM (aA (oG a) (e f) (aA (g x n f) (i=i) (bU c c))))))
abbrev F8(a:VV×VV)(b:Int->Prop):=∃(x c:VV),kH a.1.enc a.2.enc=kH x.enc c.enc/\∃(d:Int),sB (pI x c) d/\b d
abbrev IJ(a:PV->Sl->Pred->da->Prop):=∃(x:PV)(c:Sl)(d:Pred)(e:da),a x c d e
noncomputable abbrev zS(a:PV)(b:Sl):=cE a.enc (gT b Ft)
attribute [push_cast] yI kV zH F8 IJ zS
def XI(N:Nat)(v:PV)(s:Sl)(m:MH)(h:PH)(K:cn):=
  dP (v.op==1) (K iQ m h) (v.op==3) (∃(I:VV×VV->Prop),aI (∃(o:OV),pB (λd r=>aA (yI v.left s=yI o d) (bS h d r) (aA (∃(e:OV),pB (λu f=>aI (yI v.right s=yI e u) (bS h u f) (∃(x:VV×VV),aA (I x) jU (aA (eP 7) iM (aA (oG v) (kV r o x.1) (aA (kV f e x.2) (m=m) (bU h h))))) (∃(x:VV×VV),aA (I x) jU (aA (eP 7) iM (aA (oG v) (kV r o x.1) (aA (kV f e x.2) (m=m) (bU h h))))))) (zH v s h I (λx=>kV r o x.1) (λe f x=>kV f e x.2) m/\zH v s h I (λx=>kV r o x.1) (λe f x=>kV f e x.2) m) (zH v s h I (λx=>kV r o x.1) (λe f x=>kV f e x.2) m/\zH v s h I (λx=>kV r o x.1) (λe f x=>kV f e x.2) m)))) ((∃(o:OV),pB (fun
 d r=>aI (yI v.left s=yI o d) (bS h d r) (zH v s h I (λx=>kV r o x.1) (λe f x=>kV f e x.2) m) (zH v s h I (λx=>kV r o x.1) (λe f x=>kV f e x.2) m)))/\∃(o:OV),pB (λd r=>aA (yI v.left s=yI o d) (bS h d r) (zH v s h I (λx=>kV r o x.1) (λe f x=>kV f e x.2) m))) (∃(o:OV),pB (λd r=>aI (yI v.left s=yI o d) (bS h d r) (zH v s h I (λx=>kV r o x.1) (λe f x=>kV f e x.2) m) (zH v s h I (λx=>kV r o x.1) (λe f x=>kV f e x.2) m))) (∃(o:OV),pB (λd r=>aA (yI v.left s=yI o d) (bS h d r) (zH v s h I (λx=>kV r o x.1) (λe f x=>kV f e x.2) m)))/\∀(x:VV×VV),I x->∃(g:VV),iF (CO x.1 g) (!(pW g)) (K bG m
 h) (∃(z:VV),CO x.2 z/\dP (!(pW z)) (K bG m h) (x.1.kind !=x.2.kind) (K bG m h) (A8 v.cmp (λo=>dP (o==1) (F8 x (λc=>K (As (c==0)) m h)) (o==2) (F8 x (λc=>K (As (c !=0)) m h)) (dP (o==3) (F8 x (λc=>K (As (decide (c<0))) m h)) (o==4) (F8 x (λc=>K (As (decide (c<=0))) m h)) (dP (o==5) (F8 x (λc=>K (As (decide (c>0))) m h)) (o==6) (F8 x (λc=>K (As (decide (c>=0))) m h)) (K bG m h))))))) (dP (v.op==4) (p9 (λI x=>aA (I x) (aJ s) (aA (eQ sQn) (aJ v.args) (aA (bJ v.args) (bE x) (aA (m=m) (h=h) True)))) (λI n x=>I x->bA (↑x:Int) (aG v.args) (bK (λb o=>aI (aW v.args.a b o) (0<=(↑x:Int)) ((↑x:Int)<aG v.args) (∃(y:PV),aL m h b (o+bM x 13) y.enc/\IJ (λg d p r=>aA
 (zS y s=zS g d) (fO h p g) (aA (bS h d r) (sX p N) (oF (oA r p) (K bG m h) (∃(j:Nat),aA (I j) (n j<n x) (aA (aJ s) (eQ sQn) (aA (aJ v.args) (bJ v.args) (aA (gX (bH x 1)=bP j) (m=m) (bU h h))))))))))) (K iQ m h))) (v.op==5) (p9 (λI x=>aA (I x) (aJ s) (aA (eQ sQn) (aJ v.args) (aA (bJ v.args) (bE x) (aA (m=m) (h=h) True)))) (λI n x=>I x->bA (↑x:Int) (aG v.args) (bK (λb o=>aI (aW v.args.a b o) (0<=(↑x:Int)) ((↑x:Int)<aG v.args) (∃(y:PV),aL m h b (o+bM x 13) y.enc/\IJ (λg d p r=>aA (zS y s=zS g d) (fO h p g) (aA (bS h d r) (sX p N) (branch (oA r p) (K iQ m h) (∃(j:Nat),aA (I j) (n j<n x) (aA (aJ s) (eQ sQn) (aA (aJ v.args) (bJ v.args) (aA (gX
 (bH x 1)=bP j) (m=m) (bU h h))))))))))) (K bG m h))) (eY v.op 6 (fZ (uU v) 0 (bK (λb o=>aI (aW v.args.a b o) ((0:Int)<=0) (0<aG v.args) (∃(y:PV),aL m h b (o+0) y.enc/\IJ (λg d p r=>aA (zS y s=zS g d) (fO h p g) (aA (bS h d r) (sX p N) (K (CV.val (Value.bool (!(oA r p)))) m h)))))) (K bG m h)) (K bG m h)))
theorem apQ:cm 157 DenS:=by
 refine iU func157 ?_;rintro z m h K ⟨o,s,r,rfl,n,c⟩;refine⟨dJ [] [] [] [] false,rfl,aH,Ue o s m h K,ax,?_⟩;dsimp only[Ue,push_cast];have A:=bN.slen n;unfold RY at c;refine aD (λd=>?_) (λd=>aD (λu=>?_) (λu=>aD (λf=>?_) (λf=>?_)))
 .rw[if_pos bg]at c;exact c
 .have u:o.kind=2:=bg
  rw[if_neg aC,if_neg aC]at c;exact aF (λ_=>c) (λy=>aF (λ_=>c) (λg=>absurd (show o.index>=((0:Nat):Int)by omega) g))
 .have d:o.kind≠3:=bg
  have f:o.kind=1:=bg
  rw[if_neg d]at c;refine aF (λy=>?_) (λy=>aF (λg=>?_) (λg=>?_))
  .rw[if_neg aC]at c;exact c
  .rw[if_neg aC]at c;exact c
  .rw[if_pos ⟨f,aC,aC⟩]at c
   have B:r[o.index.toNat]? =some (r.getD o.index.toNat zeroV):=by
    grind
   obtain⟨b,j,v,e,rd,rfl⟩:=bN.at n B;exact⟨b,j,e,aC,aC,_,.imm rd,c⟩
 .have d:o.kind≠3:=bg
  have f:o.kind≠1:=bg
  rw[if_neg d,if_neg (λe=>f e.1)]at c;exact c
theorem aoJ:cm 159 cLX:=by
 refine Fh func159 ?_;rintro o m h K ⟨op,rfl,f⟩;refine⟨rI [] [] [] [] [248] [] false,rfl,aH,NA op m h (lW h K),ax,?_⟩;show NA op m h (lW h K);dsimp only[NA,push_cast];intro b G n g;refine⟨_,_,⟨g.at_⟩,az,λu j=>?_⟩;have c:Sub m u:=((Sub.refl m).upd n.m_ g.other).upd n.m_ j.other;have e:=j.at_
 have d:∀k,¬(1<=op/\op<=6)->op=k->K (.val .nilFunc) m h:=λk H _=>by
  have:(op==1)=false/\(op==2)=false/\(op==3)=false/\(op==4)=false/\(op==5)=false/\(op==6)=false:=by
   grind
  obtain⟨y,z,A,B,C,D⟩:=this;rw[y,z,A,B,C,D]at f;exact f
 refine aF (λE=>.sub c (d _ aC rfl)) (λE=>aF (λF=>.sub c (d _ aC rfl)) (λF=>⟨aC,aC,?_⟩));have:op=0\/op=1\/op=2\/op=3\/op=4\/op=5\/op=6:=by omega
 rcases this with rfl|rfl|rfl|rfl|rfl|rfl|rfl
 .exact⟨none,.lent _ _ _ e rfl,.sub c (d 0 aC rfl)⟩
 .exact⟨some 202,.lent _ _ _ e rfl,.sub c f⟩
 .exact⟨some 203,.lent _ _ _ e rfl,.sub c f⟩
 .exact⟨some 204,.lent _ _ _ e rfl,.sub c f⟩
 .exact⟨some 205,.lent _ _ _ e rfl,.sub c f⟩
 .exact⟨some 206,.lent _ _ _ e rfl,.sub c f⟩
 .exact⟨some 207,.lent _ _ _ e rfl,.sub c f⟩
theorem agJ:cm 202 (Pc (λc=>c==0)):=by
 refine iU func202 ?_;rintro d m h K ⟨c,rfl,e⟩;refine⟨dJ [] [] [] [] false,rfl,aH,blZ c m h K,ax,?_⟩;exact e
theorem agZ:cm 203 (Pc (λc=>c !=0)):=by
 refine iU func203 ?_;rintro d m h K ⟨c,rfl,e⟩;refine⟨dJ [] [] [] [] false,rfl,aH,blX c m h K,ax,?_⟩;exact e
theorem agX:cm 204 (Pc (λc=>decide (c<0))):=by
 refine iU func204 ?_;rintro d m h K ⟨c,rfl,e⟩;refine⟨dJ [] [] [] [] false,rfl,aH,blQ c m h K,ax,?_⟩;exact e
theorem agQ:cm 205 (Pc (λc=>decide (c<=0))):=by
 refine iU func205 ?_;rintro d m h K ⟨c,rfl,e⟩;refine⟨dJ [] [] [] [] false,rfl,aH,bkJ c m h K,ax,?_⟩;exact e
theorem afJ:cm 206 (Pc (λc=>decide (c>0))):=by
 refine iU func206 ?_;rintro d m h K ⟨c,rfl,e⟩;refine⟨dJ [] [] [] [] false,rfl,aH,bkZ c m h K,ax,?_⟩;exact e
theorem afZ:cm 207 (Pc (λc=>decide (c>=0))):=by
 refine iU func207 ?_;rintro d m h K ⟨c,rfl,e⟩;refine⟨dJ [] [] [] [] false,rfl,aH,bkX c m h K,ax,?_⟩;exact e
theorem aMX:∀N,cm 97 (caX N)
 |0=>by
  refine fP (fn:=Tryz.f97) (c:=dY Tryz.f97) func97 rfl az ?_;rintro S m h K ⟨v,s,p,r,rfl,_,_,hN,_⟩;omega
 |N+1=>by
  refine iU func97 ?_;rintro S m h K ⟨v,s,p,r,rfl,hp,C,hN,d⟩;refine⟨ckQ N v s m h,rfl,aE apQ (aE GS (aE aoJ (aE J8 (aE (aMX N) (aE agJ (aE agZ (aE agX (aE agQ (aE afJ (aE afZ aH)))))))))),XI N v s m h K,ax,?_⟩;dsimp only[XI,push_cast];have o:=@BJ p;obtain⟨op,a',l,q,ps⟩:=p;obtain⟨rfl,rfl,rfl,rfl,D⟩:=hp.parts;have T:=D.slen;have Y:=D.len;simp only[Pred.args]at o;simp only[oA]at d;refine aD (λZ=>?_) (λZ=>aD (λh3=>?_) (λh3=>aD (λh4=>?_) (λh4=>aD (λh5=>?_) (λh5=>aD (λh6=>?_) (λh6=>?_)))))
  .rw[if_pos bg]at d;exact d
  all_goals have n1:v.op≠1:=bk Z
  .rw[if_neg n1,if_pos bg]at d;refine⟨λx=>x=(RY r v.left,RY r v.right),?_,?_⟩
   .repeat' (first|exact⟨_,rfl,MT⟩|refine⟨v.left,s,r,rfl,C,?_⟩|refine⟨v.right,s,r,rfl,C,?_⟩|refine And.intro ?_ ?_)
   .rintro⟨a,b⟩ E;simp only[Prod.mk.injEq]at E;obtain⟨rfl,rfl⟩:=E;generalize RY r v.left=a at d⊢
    generalize RY r v.right=b at d⊢
    have U:J6 v.cmp a b=false->K (cB false) m h:=λe=>bg
    refine⟨a,rfl,aD (λn=>U ?_) (λn=>⟨b,rfl,aD (λF=>U ?_) (λF=>aD (λG=>U ?_) (λG=>⟨v.cmp,rfl,?_⟩))⟩)⟩
    .have n:pW a=false:=bg
     simp[J6,n]
    .have F:pW b=false:=bg
     simp[J6,F]
    .have G:a.kind≠b.kind:=bg
     simp[J6,G]
    .have n:pW a=true:=bg
     have F:pW b=true:=bg
     have G:a.kind=b.kind:=bg
     have e4:J6 v.cmp a b=buJ v.cmp (pI a b):=by simp[J6,n,F,G]
     rw[e4]at d;unfold buJ at d;refine aD (λz=>?_) (λz=>aD (λA=>?_) (λA=>aD (λB=>?_) (λB=>aD (λH=>?_) (λH=>aD (λQ=>?_) (λQ=>aD (λV=>?_) (λV=>?_))))))
     all_goals simp only[beq_iff_eq,beq_eq_false_iff_ne]at*
     .rw[if_pos z]at d;exact⟨a,b,rfl,_,rfl,d⟩
     .rw[if_neg z,if_pos A]at d;exact⟨a,b,rfl,_,rfl,d⟩
     .rw[if_neg z,if_neg A,if_pos B]at d;exact⟨a,b,rfl,_,rfl,d⟩
     .rw[if_neg z,if_neg A,if_neg B,if_pos H]at d;exact⟨a,b,rfl,_,rfl,d⟩
     .rw[if_neg z,if_neg A,if_neg B,if_neg H,if_pos Q]at d;exact⟨a,b,rfl,_,rfl,d⟩
     .rw[if_neg z,if_neg A,if_neg B,if_neg H,if_neg Q,if_pos V]at d;exact⟨a,b,rfl,_,rfl,d⟩
     .rw[if_neg z,if_neg A,if_neg B,if_neg H,if_neg Q,if_neg V]at d;exact d
  all_goals have n3:v.op≠3:=bk h3
  all_goals rw[if_neg n1,if_neg n3]at d
  .rw[if_pos bg,OJ]at d;refine⟨λi=>i<=ps.length/\∀j:Nat,j<i->∀x,ps[j]? =some x->oA r x=true,λi=>ps.length-i,⟨0,⟨aC,λj I=>by omega⟩,MT⟩,λi⟨hi,J⟩=>aF (λf=>?_) (λW=>?_)⟩
   .obtain⟨x,g⟩:=fF T f;obtain⟨L,M,u,n,R,O⟩:=D.at g;have:=o (bo g);refine⟨L,M,n,aC,f,u,.imm R,u,s,x,r,rfl,O,C,aC,aD (λX=>?_) (λhe=>⟨i+1,⟨aC,λj I y P=>?_⟩,(show ps.length-(i+1)<ps.length-i by omega),MT⟩)⟩
    .have:ps.all (oA r)=false:=by
      grind
     rw[this]at d;exact d
    grind
   .have:ps.all (oA r)=true:=by
     rw[all_eq_true];intro y P;obtain⟨j,I⟩:=getElem?_of_mem P
     grind
    rw[this]at d;exact d
  all_goals have n4:v.op≠4:=bk h4
  all_goals rw[if_neg n4]at d
  .rw[if_pos bg,OI]at d;refine⟨λi=>i<=ps.length/\∀j:Nat,j<i->∀x,ps[j]? =some x->oA r x=false,λi=>ps.length-i,⟨0,⟨aC,λj I=>by omega⟩,MT⟩,λi⟨hi,J⟩=>aF (λf=>?_) (λW=>?_)⟩
   .obtain⟨x,g⟩:=fF T f;obtain⟨L,M,u,n,R,O⟩:=D.at g;have:=o (bo g);refine⟨L,M,n,aC,f,u,.imm R,u,s,x,r,rfl,O,C,aC,aD (λhe=>?_) (λX=>⟨i+1,⟨aC,λj I y P=>?_⟩,(show ps.length-(i+1)<ps.length-i by omega),MT⟩)⟩
    .have:ps.any (oA r)=true:=any_eq_true.2 ⟨x,bo g,he⟩;rw[this]at d;exact d
    grind
   .have:ps.any (oA r)=false:=by
     rw[any_eq_false];intro y P;obtain⟨j,I⟩:=getElem?_of_mem P
     grind
    rw[this]at d;exact d
  all_goals have n5:v.op≠5:=bk h5
  all_goals rw[if_neg n5]at d
  .rw[if_pos bg]at d;refine aF (λh7=>?_) (λh7=>?_)
   .obtain⟨x,g⟩:=fF (i:=0) T aC;obtain⟨L,M,u,n,R,O⟩:=D.at g;have:=o (bo g)
    have e7:XB r ps= !oA r x:=by
     cases ps with
     |nil=>simp at g
     |cons y _=>simp at g;subst g;rfl
    rw[e7]at d;exact⟨L,M,n,aC,aC,u,.imm aC,u,s,x,r,rfl,O,C,aC,d⟩
   .have:ps=[]:=length_eq_zero_iff.1 aC;subst this;exact d
  .rw[if_neg bg]at d;exact d
theorem Tv:cm 97 aDZ:=mV aMX λ_ _ _ _⟨v,s,p,r,e,c,d,f⟩=>⟨SizeOf.sizeOf p+1,v,s,p,r,e,c,d,aC,f⟩
structure SK(h:PH)(b:Nat)(l:ct):Prop where
 ex:∃us,JH h b us/\fA h us l
theorem SK.mono{l}(x:SK h b l)(le:PH.le h h'):SK h' b l:=by
 obtain⟨c,d,e⟩:=x.ex;exact⟨c,d.mono le,e.mono le⟩
structure xD(h:PH)(t:Sl)(bs:dj)(ls:List ct):Prop where
 row:dD h t 1 (bs.map λb=>[SA b])
 len:bs.length=ls.length
 at_:∀(i b:Nat)(l:ct),bs[i]? =some b->ls[i]? =some l->SK h b l
structure iL(w:Nat)(l:ct):Prop where
 row:∀r∈l,Pb r
 wid:∀r∈l,r.length=w
 srt:mG l
 len:l.length<=8000000
def JF(l:ct)(x:da):=l.any λy=>eZ x y==0
theorem Ei{l x}:JF l x=true↔x∈l:=by
 simp only[JF,any_eq_true,beq_iff_eq,lH]
 grind
def WA(ok:Query->List ct->Prop)(f:Query->List ct->ct):Vc.Spec:=λc m h K=>∃v t q g d,c=[aQ v,cS t]/\dK h q v/\xD h t g d/\eD m/\ok q d/\
 ∀e h',PH.le h h'->Rows h' e (f q d)->K (cS e) m h'
def Ww:Vc.Spec:=λd m h K=>∃t i f c w,d=[cS t,cB i]/\xD h t f c/\eD m/\2<=c.length/\(∀l∈c,iL w l)/\
 ∀e h',PH.le h h'->Rows h' e ((c.getD 0 []).filter λx=>JF (c.getD 1 []) x==i)->K (cS e) m h'
noncomputable def bLJ:=V5 [(71,bsZ)] [(6,{A:=Nat×Nat×Sl×Sl×da×MH×PH,st:=λ⟨i,b,e,c,l,m,h⟩=>bZ 40 42 [(5,vv (.pointer (some ⟨b,0,none⟩))),(6,sv e),(7,.at (.lst 17)),(19,sv c),(20,iv c.len),(21,iv i)] [(17,.lst 30 3 (l.map VV.enc))] m h})] [] [200002,200005,1058]
noncomputable abbrev QZ a b:=oW (Value.func (Fn.func a) sR b)
noncomputable abbrev zA a:=QZ 214 (Ca a)
abbrev A6(a:Option Addr)(b c:Int)(d:Sl)(e:MH)(g:Nat->Nat->Option Value)(i:Nat)(j:Nat->(PH->cr->List cr->Prop)->Prop):=bK (λx f=>aI (aW a x f) (b<=c) (c<aG d) (∃(n:Nat),aL e g x (f+i) (zA n)/\∃(o:PH->cr->List cr->Prop),j n o))
attribute [push_cast] QZ zA A6
def Nt(v:QV)(t:Sl)(m:MH)(h:PH)(K:cn):=
  ∀(b:Nat)(o:MH),bF (cK m h b) (bL m o b v.enc 41) (∀(g:Nat)(u:MH),bF (cK o h g) (bL o u g iP 58) (A6 t.a 0 0 t u h 0 (λy S=>xN S h y u (λx I k e=>eX (λf d=>bF (CU x k e) (PH.le h d) (I k f d->∃(j:PV),aL f d b 2 j.enc/\IJ (λB s p r=>aI (zS j e=zS B s) (fO d p B) (bS d s r) (branch (oA r p) (∃(z:Sl),FW f d g 0 (aM z) (λn=>aI (cW f (dO z) 65 1 n) (kP n) (dR n) (jY (λC A=>gK f A (dO z) C 65 1 (dN n (aM e))->jN (λc E=>aA (yP A g (gO c E 0)) (0<c.size) (∀(D:MH),bL A D g (fE (dX C) 1 c) E->I (k+1) D d)))))) (I (k+1) f d)))))) (λf d=>kW f d g 0 (λj=>K (qW j) f d)))))
noncomputable abbrev Bi(a:Nat×Nat×Sl×Sl×da×MH×PH):=a.2.2.2.1
noncomputable abbrev Gq(a:Nat×Nat×Sl×Sl×da×MH×PH):=EM a.2.2.2.2.1
noncomputable abbrev rN(a:Nat×Nat×Sl×Sl×da×MH×PH):=a.2.2.2.2.2
abbrev F5(a b:Sl)(c:Nat->Option Obj)(d:PH)(e:cn):=∃(x:cu)(f:ct),aA (tA a=tA b) (uZ c d b 1 (iC x)) (aA (fA d x f) (f.length<=502633886983) (∀(j:Sl)(g:PH),bR d g (Rows g j (Ew f)) (e (qW j) c g)))
attribute [push_cast] Bi Gq rN F5
def Ns(v:QV)(t:Sl)(m:MH)(h:PH)(K:cn):=
  ∀(b:Nat)(B:MH),bF (cK m h b) (bL m B b v.enc 41) (∀(z:Nat)(C:MH),bF (cK B h z) (bL B C z iP 58) (A6 t.a 0 0 t C h 0 (λy S=>xN S h y C (λx I k e=>Ix x k e h I (λn u g=>aA (aL n u b 15 (aM g)) (cM (aG g)) (aA (aG g<=aG g) (Ah g 32) (Af (aG g)/\∃(D:Sl),aL n u b 15 (aM D)/\∃(I1:Nat×Nat×Sl×Sl×da×MH×PH->Prop)(H:Nat×Nat×Sl×Sl×da×MH×PH->Nat),(∃(d:Nat×Nat×Sl×Sl×da×MH×PH),aA (I1 d) (bY z d.2.1) (aA (aZ e d.2.2.1) (eL 17) (aA (aZ D (Bi d)) (bQ D (Bi d)) (aA (bE d.1) (bV 30 3 (AK (aG g) zT)=bV 30 3 (Gq d)) (aA (bW n (rN d)) (eH u (rN d)) True)))))/\∀(d:Nat×Nat×Sl×Sl×da×MH×
 PH),I1 d->bA (↑d.1:Int) (aG (Bi d)) (bK (λJ o=>aI (aW (Bi d).a J o) (0<=(↑d.1:Int)) ((↑d.1:Int)<aG (Bi d)) (∃(j:Int),aL (rN d).1 (rN d).2 J (o+bM d.1 1) (bC j)/\bK (λL M=>aI (aW d.2.2.1.a L M) (0<=j) (j<aG d.2.2.1) (∃(A:VV),CM (aL (rN d).1 (rN d).2 L (M+iA j 3) A.enc) 0 (↑d.1:Int) (Gq d) (λF=>aA (mQ (Gq d) (pD d.1) F) (3<=F.length) (∃(f:Nat×Nat×Sl×Sl×da×MH×PH),aA (I1 f) (H f<H d) (aA (bY d.2.1 f.2.1) (aZ d.2.2.1 f.2.2.1) (aA (eL 17) (aZ (Bi d) (Bi f)) (aA (bQ (Bi d) (Bi f)) (gX (bH d.1 1)=bP f.1) (aI (bV 30 3 (List.set (Gq d) (pD d.1) (aX (fV A.kind) (fV A.int) (JA (Value.string A.text) 3
 F)))=bV 30 3 (Gq f)) (fH (rN d) (rN f)) (dC (rN d) (rN f)) True))))))))))) (kW (rN d).1 (rN d).2 d.2.1 0 (λj=>w8 (rN d).2 3 (Gq d) (λs Q f=>aI (cW (rN d).1 (dO j) 65 1 f) (kP f) (dR f) (jY (λO G=>gK (rN d).1 G (dO j) O 65 1 (dN f (aM s))->jN (λc E=>aA (yP G d.2.1 (gO c E 0)) (0<c.size) (∀(P:MH),bL G P d.2.1 (fE (dX O) 1 c) E->I (k+1) P Q))))))))))) (λn u=>Gc n u z 0 (λg s=>F5 g s n u K)))))
def Np(v:QV)(t:Sl)(m:MH)(h:PH)(K:cn):=
  bK (λb o=>aI (aW t.a b o) ((0:Int)<=0) (0<aG t) (∃(y:Nat),aL m h b (o+0) (zA y)/\bK (λe f=>aI (aW t.a e f) ((0:Int)<=1) (1<aG t) (∃(g:Nat),aA (aL m h e (f+1) (zA g)) (j8 h e f 1 (zA g)) (LN (λz A=>aA (fY (uO y) (uO z)) (JH h z A) (K5 1 A (λc x d=>m x=Option.some d->c x=Option.some d) (λx=>GG m x) (λs c=>j8 h b o 0 (zA y)/\∃(j:Sl),LN (λB u=>∃(C:cu),aA (gT s (uO g)=gT j (uO B)) (cW c j 65 1 (iC u)) (aA (JH h B C) (u.length<=502633886983) (K5 1 (u++C) (λn x d=>bF (c x=Option.some d) (∀(i:Nat),mS (aW j.a x i)) (n x=Option.some d)) (λx=>GG c x\/∃(i:Nat),aW j.a x i) (λD n=>aA (j8 h b o 0
 (zA y)) (j8 h e f 1 (zA g)) (∃(E:Sl),F5 D E n h K)))))))))))))
noncomputable abbrev EI:=Value.map Option.none
abbrev dM a b c d:=aL a b c 0 (oI d)
abbrev rM(a:Nat->Option Obj)(b:Nat)(c:(Value->Prop)->Prop)(d:Value)(e:db->Prop)(g:db->Value->db->db)(i:db->db->Prop):=ZQ (λx j=>aA (pU a b x) (Ds j) (aA (c j) (Az (Instr.sameBits 10000 d d)) (aA (∀(f:Value×Value),List.Mem f x->j f.1) ((∀(f:Value×Value),bF (List.Mem f x) (f.1=d) False)->e x) (∀(f:db)(o:Value)(n:db),x=g f o n->i f n))))
noncomputable abbrev Jz a:=Value.string (fI a)
attribute [push_cast] EI dM rM Jz
def Nk(t:Sl)(i:Bool)(m:MH)(h:PH)(K:cn):=
  ∀(b:Nat)(U:MH),bF (cK m h b) (bL m U b (uA i) 4) (xO U h (λW V=>∀(o:Nat)(P:MH),bF (cK V h o) (bL V P o (oW EI) 157) (jN (λc E=>aA (yP P o (gO c E 0)) (0<c.size) (∀(Q:MH),bL P Q o (fE (Dt W) 1 c) E->A6 t.a 0 1 t Q h 1 (λy S=>xN S h y Q (λx I k e=>eX (λj g=>bF (CU x k e) (PH.le h g) (I k j g->∃(u:Nat),aA (dM j g o u) (dM j g o u) (pB (λs r=>aA (tA e=tA s) (bS g s r) (aA (Pb r) (eD j) (aL j g o 0 (oI u)/\rM j u (λO=>O (Jz r)) (Jz r) (λD=>∀(n:MH),bF (j6 j n u) (pU n u (GH D (Jz r))) (I (k+1) n g)) (λl v R=>gZ l (Jz r) v R) (λl R=>∀(n:MH),bF (j6 j n u) (pU n u (gZ l (Jz r) Du
 R)) (I (k+1) n g))))))))) (λj g=>∀(z:Nat)(n:MH),bF (cK j g z) (bL j n z iP 58) (A6 t.a 0 0 t n g 0 (λu S1=>xN S1 g u n (λx I k e=>eX (λd f=>bF (CU x k e) (PH.le g f) (I k d f->∃(F:Nat),aL d f o 0 (oI F)/\∃(G:Bool),aI (aL d f b 0 (uA G)) (dM d f o F) (aL d f b 0 (uA G)) (pB (λs r=>aA (tA e=tA s) (bS f s r) (aA (Pb r) (eD d) (aI (dM d f o F) (aL d f b 0 (uA G)) (aL d f b 0 (uA G)) (∃(D:dv)(O:Value->Prop),aA (u6 d F (List.map (fun(p:Value×Bool)=>(p.1,Value.bool p.2)) D)) (Ds O) (aA (O (Jz r)) (∀(M:Value×Bool),List.Mem M D->O M.1) (hX (∀(M:Value×Bool),Gx M D (Jz r)) (false==G) (∃(H:Sl),FW d f z 0
 (aM H) (λA=>aI (cW d (dO H) 65 1 A) (kP A) (dR A) (jY (λJ B=>gK d B (dO H) J 65 1 (dN A (aM e))->jN (λC E1=>aA (yP B z (gO C E1 0)) (0<C.size) (∀(L:MH),bL B L z (fE (dX J) 1 C) E1->I (k+1) L f)))))) (I (k+1) d f)/\∀(H:Bool),hX (List.Mem (Jz r,H) D) (H==G) (∃(T:Sl),FW d f z 0 (aM T) (λA=>aI (cW d (dO T) 65 1 A) (kP A) (dR A) (jY (λJ B=>gK d B (dO T) J 65 1 (dN A (aM e))->jN (λC E1=>aA (yP B z (gO C E1 0)) (0<C.size) (∀(L:MH),bL B L z (fE (dX J) 1 C) E1->I (k+1) L f)))))) (I (k+1) d f))))))))))) (λd f=>kW d f z 0 (λF=>K (qW F) d f)))))))))))
abbrev Ce(a:dj->(List ct)->Prop):=∃(x:dj)(c:List ct),a x c
abbrev Ll(a:List ct)(b:ct->Prop):=∀(x:ct),List.Mem x a->b x
abbrev PR(a:PH)(b:da->Bool)(c:ct)(d:cn)(e:MH):=∀(x:Sl)(f:PH),bR a f (Rows f x (filter b c)) (d (qW x) e f)
attribute [push_cast] Ce Ll PR
def bjJ(v:QV)(t:Sl)(m:MH)(h:PH)(K:cn):=
  ∃(c:Sl)(i:Bool),Ce (λb l=>∃(w:Nat),aA (gT t bG=gT c (As i)) (xD h c b l) (aA (eD m) (2<=l.length) (Ll l (λd=>iL w d)/\PR h (fun(x:da)=>JF (List.getD l 1 []) x==i) (List.getD l 0 []) K m)))
def bjZ(v:QV)(t:Sl)(m:MH)(h:PH)(K:cn):=
  ∃(c:Sl)(i:Bool),Ce (λb l=>∃(w:Nat),aA (gT t iQ=gT c (As i)) (xD h c b l) (aA (eD m) (2<=l.length) (Ll l (λd=>iL w d)/\PR h (fun(x:da)=>JF (List.getD l 1 []) x==i) (List.getD l 0 []) K m)))
abbrev Lc(a:Sl)(b:PH)(c:Sl->Sl->PH->Prop):=HB (λx e=>aA (fY (qW a) (qW x)) (jD b x e) (∀(f g:Sl)(d:PH),bR b d (Ints d f (jH e)) (Ints d g (eU e)->c f g d)))
abbrev AN(a:Sl->da->cq->Prop):=pB (λx c=>∃(d:cq),a x c d)
abbrev AM(a:da)(b:cq):=jM a.length b
noncomputable abbrev dQ a b:=Jz (pick a b)
abbrev D1(a b c:Sl)(d:PH)(e:MH)(g i:Nat)(j k:da->cq->Prop):=AN (λx f n=>aA (cJ a b=cJ c x) (bS d c f) (aA (Ints d x n) (Pb f) (aA (AM f n) (eD e) (aA (dM e d g i) (j f n) (k f n)))))
attribute [push_cast] Lc AN AM dQ D1
def Nq(v:QV)(t:Sl)(m:MH)(h:PH)(K:cn):=
  Lc v.on h (λa b B=>∀(C:Nat)(L:MH),bF (cK m B C) (bL m L C iP 36) (∀(G:Nat)(M:MH),bF (cK L B G) (bL L M G iP 36) (jN (λc E=>aA (yP M C (gO c E 0)) (0<c.size) (∀(P:MH),bL M P C (fE (dX a) 1 c) E->jN (λQ E1=>aA (yP P G (gO Q E1 0)) (0<Q.size) (∀(m4:MH),bL P m4 G (fE (dX b) 1 Q) E1->xO m4 B (λb3 m5=>∀(u:Nat)(R:MH),bF (cK m5 B u) (bL m5 R u (oW EI) 157) (jN (λT E2=>aA (yP R u (gO T E2 0)) (0<T.size) (∀(U:MH),bL R U u (fE (Dt b3) 1 T) E2->A6 t.a 0 1 t U B 1 (λy S=>xN S B y U (λx I k e=>eX (λj d=>bF (CU x k e) (PH.le B d) (I k j d->∃(z:Nat),aL j d u 0 (oI z)/\∃(A:Sl),aA (aL j d G 0 (aM A))
 (dM j d u z) (∃(s:Sl),AN (λt1 r n=>aA (cJ e A=cJ s t1) (bS d s r) (aA (Ints d t1 n) (Pb r) (aI (AM r n) (eD j) (dM j d u z) (rM j z (λO=>O (dQ r n)) (dQ r n) (λD=>∀(o:MH),bF (j6 j o z) (pU o z (GH D (dQ r n))) (I (k+1) o d)) (λl v1 V=>gZ l (dQ r n) v1 V) (λl V=>∀(o:MH),bF (j6 j o z) (pU o z (gZ l (dQ r n) Du V)) (I (k+1) o d)))))))))) (λj d=>∀(F:Nat)(o:MH),bF (cK j d F) (bL j o F iP 58) (A6 t.a 0 0 t o d 0 (λz S1=>xN S1 d z o (λx I k e=>eX (λf g=>bF (CU x k e) (PH.le d g) (I k f g->∃(A:Nat),aL f g u 0 (oI A)/\∃(W:Sl),aA (aL f g C 0 (aM W)) (dM f g u A) (∃(s:Sl),D1 e W s g
 f u A (λ_ _=>aL f g C 0 (aM W)) (λr n=>∃(D:dv)(O:Value->Prop),aA (u6 f A (List.map (fun(p:Value×Bool)=>(p.1,Value.bool p.2)) D)) (Ds O) (aA (O (dQ r n)) (∀(H:Value×Bool),List.Mem H D->O H.1) (((∀(H:Value×Bool),Gx H D (dQ r n))->I (k+1) f g)/\∀(y4:Bool),hX (List.Mem (dQ r n,y4) D) y4 (∃(X:Sl),FW f g F 0 (aM X) (λJ=>aI (cW f (dO X) 65 1 J) (kP J) (dR J) (jY (λs1 Y=>gK f Y (dO X) s1 65 1 (dN J (aM e))->jN (λZ E3=>aA (yP Y F (gO Z E3 0)) (0<Z.size) (∀(a3:MH),bL Y a3 F (fE (dX s1) 1 Z) E3->I (k+1) a3 g)))))) (I (k+1) f g)))))))) (λf g=>kW f g F 0 (λA=>K (qW A) f g)))))))))))))))))
def FA(m c:MH)(b:Nat):=∀x o,m x=some o->x≠b->c x=some o
structure sK(m mx:MH)(b:Nat)(us:cu):Prop where
 ex:∃s:Sl,mx b=some (.cells #[.slice s.a s.len s.cap] 58 (0,0))/\cW mx s 65 1 (us.map eS)/\∀i x,s.a=some ⟨x,i,none⟩->m x=none
theorem sK.new(c:m' b=some (.cells #[pV] 58 (0,0))):sK m m' b []:=⟨⟨none,0,0⟩,c,⟨BM [],.inl ⟨rfl,rfl⟩⟩,λi x e=>by cases e⟩
theorem KL{c s us e}{Q:MH->Prop}(d:∃o,m b=some o)(C:FA m c b)(D:c b=some (.cells #[.slice s.a s.len s.cap] 58 (0,0)))(f:cW c s 65 1 (us.map eS))(F:∀i x,s.a=some ⟨x,i,none⟩->m x=none)(O:us.length<=502633886983)(G:∀m',FA m m' b->sK m m' b (us++[e])->Q m'):
 ∃xs:List cr,cW c (Sl.mk s.a s.len s.cap) 65 1 xs/\(xs.length+1)*24<=140737488355328/\xs.length<140737488355328/\∀(z:Sl)(m':MH),gK c m' (Sl.mk s.a s.len s.cap) z 65 1 (xs++[[dX e]])->
  ∃(cs:Array Value)(E:TypeId),yP m' b (.cells cs E (0,0))/\0<cs.size/\∀m2:MH,lK m' m2 b (.cells (Array.mk (dX z::cs.toList.drop 1)) E (0,0))->Q m2:=by
 obtain⟨P,d⟩:=d;have A:∀i,s.a≠some ⟨b,i,none⟩:=λi g=>bg
 refine⟨us.map eS,f,bg,bg,λz m' n=>⟨_,_,⟨n.other b _ D A⟩,ay,λm2 B=>G m2 ?_ ⟨z,B.at_,?_,?_⟩⟩⟩
 .intro x o H u;rw[B.other x u];exact n.other x o (C x o H u) (λi g=>bg)
 .have I:(us++[e]).map eS=us.map eS++[[dX e]]:=by simp[eS]
  rw[I];refine cW.keep n.row (λx i g=>B.other x (λJ=>?_));subst J;rcases n.fresh x i g with y|⟨j,y⟩
  .grind
  grind
 .intro i x g;rcases n.fresh x i g with y|⟨j,y⟩
  .cases L:m x with
   |none=>rfl
   |some o=>
    by_cases M:x=b
    .grind
    .rw[C x o L M]at y;cases y
  grind
theorem sK.app{c hx us e}{Q:MH->Prop}(f:∃o,m b=some o)(u:FA m c b)(o:sK m c b us)(z:us.length<=502633886983)(A:∀m',FA m m' b->sK m m' b (us++[e])->Q m'):
 ∃y:Sl,aL c hx b 0 [dX y]/\∃xs:List cr,cW c (Sl.mk y.a y.len y.cap) 65 1 xs/\(xs.length+1)*24<=140737488355328/\xs.length<140737488355328/\∀(j:Sl)(m':MH),gK c m' (Sl.mk y.a y.len y.cap) j 65 1 (xs++[[dX e]])->
  ∃(cs:Array Value)(E:TypeId),yP m' b (.cells cs E (0,0))/\0<cs.size/\∀m2:MH,lK m' m2 b (.cells (Array.mk (dX j::cs.toList.drop 1)) E (0,0))->Q m2:=by
 obtain⟨s,n,d,g⟩:=o.ex;exact⟨s,.of_m n rfl,KL f u n d g z A⟩
theorem cQ.sub{hx r}(sub:Sub m m')(le:PH.le h hx)(c:K r m hx):cQ h K r m' hx:=λ_=>⟨m,hx,sub,le,λ_ _ _ e=>.inl e,c⟩
theorem cQ.row{hx s}{us:cu}(sub:Sub m m')(le:PH.le h hx)(n:cW m' s 65 1 (us.map eS))(P:∀i b,s.a=some ⟨b,i,none⟩->m b=none)(o:∀h',PH.le hx h'->dD h' s 1 (us.map eS)->K (cS s) m h'):cQ h K (cS s) m' hx:=by
 intro B;rcases n.ex with⟨rfl,d⟩|⟨b,C,f,rfl,D,E,Q,R,F⟩
 .refine⟨m,hx,sub,le,λb i v e=>.inl e,o hx (.refl _) ?_⟩;rw[d];exact dD.nil _ _
 .have y:∀i,hx b i=none:=B b _ D;refine⟨m,rG hx b f.toList,sub,le.trans (Ej y),λG i v e=>?_,o _ (Ej y) ⟨?_,?_,?_⟩⟩
  .by_cases z:G=b
   .subst z;simp only[rG,if_true]at e
    grind
   .simp only[rG,if_neg z]at e;exact .inl e
  .simp
  .by_cases H:us.map eS=[]
   .exact .inl H
   .refine .inr ⟨b,0,rfl,λi e c=>⟨λj v A=>?_⟩⟩;have I:=n.rows.len e (bo c);have J:j=0:=bg
    subst J;have L:=(bm c)
    have M:((us.map eS).flatten)[i]? =some v:=by
     rw[getElem?_map]at c;cases g:us[i]? with
     |none=>grind
     |some u=>
      rw[g]at c;simp at c;subst c;simp[eS]at A;subst A
      have:∀l:cu,(l.map eS).flatten=l.map λu=>Value.slice u.a u.len u.cap:=λl=>by
       induction l with
       |nil=>rfl
       |cons a l O=>simp only[map_cons,flatten_cons,O];rfl
      grind
    rw[<-F,getElem?_take,if_pos aC]at M;simp only[rG,if_true]
    grind
  .exact E
structure sJ(m:MH)(y:Nat)(ks:List ByteArray):Prop where
 ex:∃kk:List ByteArray,pU m y (kk.map λk=>(Value.string k,Value.bool true))/\∀k,k∈kk↔k∈ks
theorem sJ.keep{y ks}(s:sJ m y ks)(o:m' y=m y):sJ m' y ks:=by
 obtain⟨d,⟨e,c,u,f,g,j⟩,n⟩:=s.ex;exact⟨d,⟨e,c,bg,f,g,j⟩,n⟩
theorem sJ.new{y}(h:m y=some (.map #[] 0)):sJ m y []:=⟨[],⟨#[],0,h,rfl,ay,ay⟩,ay⟩
theorem sJ.get{y ks key}{K:Bool->Prop}(s:sJ m y ks)(g:∀t:Bool,(t=true↔key∈ks)->K t):
 ∃(d:dv)(Ok:Value->Prop),u6 m y (d.map λp=>(p.1,Value.bool p.2))/\KeyLaw Tryz.prog 9 Ok/\Ok (.string key)/\(∀e,List.Mem e d->Ok e.1)/\((∀e,List.Mem e d->e.1=Value.string key->False)->K false)/\∀t,List.Mem (Value.string key,t) d->K t:=by
 obtain⟨j,⟨o,c,u,z,_,_⟩,A⟩:=s.ex;refine⟨j.map λk=>(Value.string k,true),_,⟨o,c,u,by rw[z];simp⟩,Dh,⟨key,rfl⟩,λe B=>?_,λC=>g false ⟨λe=>(by cases e),λf=>?_⟩,λt n=>g t ⟨λ_=>?_,λ_=>?_⟩⟩
 .obtain⟨k,_,rfl⟩:=mem_map.1 (show e∈_ from B)
  grind
 .exact(C (Value.string key,true) (mem_map.2 (⟨key,(A key).2 f,rfl⟩:∃a,a∈j/\(Value.string a,true)=(Value.string key,true))) rfl).elim
 .obtain⟨k,f,e⟩:=mem_map.1 (show(Value.string key,t)∈_ from n)
  grind
 .obtain⟨k,f,e⟩:=mem_map.1 (show(Value.string key,t)∈_ from n)
  grind
theorem WX key:Instr.sameBits 10000 (Value.string key) (Value.string key)=true:=by
 show(key==key)=true;cases key with
 |mk d=>exact beq_self_eq_true d
theorem sJ.put{y ks key}{Q:MH->Prop}(s:sJ m y ks)(u:∀m':MH,j6 m m' y->sJ m' y (key::ks)->Q m'):
 ∃(c:db)(Ok:Value->Prop),pU m y c/\KeyLaw Tryz.prog 9 Ok/\Ok (.string key)/\Instr.sameBits 10000 (Value.string key) (Value.string key)=true/\(∀e,List.Mem e c->Ok e.1)/\((∀e,List.Mem e c->e.1=Value.string key->False)->∀m':MH,j6 m m' y->pU m' y (c++[(Value.string key,Value.bool true)])->Q m')/\
  ∀(g:db)(d:Value)(j:db),c=g++(Value.string key,d)::j->∀m':MH,j6 m m' y->pU m' y (g++(Value.string key,Value.bool true)::j)->Q m':=by
 obtain⟨f,z,B⟩:=s.ex;refine⟨_,_,z,Dh,⟨key,rfl⟩,WX key,λe A=>?_,λC m' n o=>u m' n ⟨f++[key],bg,λk=>?_⟩,λg d j e m' n o=>u m' n ⟨f,?_,λk=>?_⟩⟩
 .obtain⟨k,_,rfl⟩:=mem_map.1 (show e∈_ from A)
  grind
 .grind
 .have:(Value.string key,d)∈f.map λk=>(Value.string k,Value.bool true):=by rw[e];simp
  grind
 .have:(Value.string key,d)∈f.map λk=>(Value.string k,Value.bool true):=by rw[e];simp
  grind
theorem xD.get{t d ls}(a:xD h t d ls){l}(f:ls[i]? =some l):∃b off x,t.a=some ⟨b,off,none⟩/\(i:Int)<(t.len:Int)/\cR h b (off+i) [SA x]/\SK h x l:=by
 have j:=(bm f);have g:d[i]? =some (d[i]'(by rw[a.len];exact j)):=bn _;obtain⟨b,o,e,rd⟩:=a.row.get (i:=i) (e:=[SA (d[i]' bg)]) (by simp[g]);have c:=a.row.len;simp only[length_map]at c;have:=a.len;exact⟨b,o,_,e,aC,bg,a.at_ i _ l g f⟩
theorem fA.at'{us rs}(x:fA h us rs){u}(c:us[i]? =some u):∃r,rs[i]? =some r/\bS h u r:=by
 have d:=(bm c);obtain⟨v,e,f⟩:=x.at_ i _ (bn (by rw[<-x.len];exact d))
 grind
theorem jZ{α}{l:List α}{k x} p(hx:l[k]? =some x):(l.take (k+1)).filter p=(l.take k).filter p++(if p x then[x]else[]):=by
 rw[cd,hx,Option.toList_some,filter_append]
 grind
theorem Sub.x{d f}(h:Sub m d)(g:m b=none)(hx:FA d f b):Sub m f:=λx o c=>hx x o (h x o c) (λe=>bg)
def Jw(n:Nat):Query->List ct->Prop:=λ_ c=>n<=c.length/\∀l∈c,∃w,iL w l
def L2(q:Query)(ls:List ct):=match q with|.mk _ _ w _ _ _ _ _ _=>(ls.getD 0 []).filter λr=>oA r w
theorem Hf{ls:List ct}{i}(h:i<ls.length):ls[i]? =some (ls.getD i []):=by
 grind
theorem JG{f fn}(n:Tryz.prog.funcs[f]? =some fn){S}(j:∀c m h K,S c m h K->∃C:Ctx,C.P=Tryz.prog/\(∀g S,assoc C.specs g=some S->cm g S)/\∃N:Prop,N=aLZ C fn (dY fn) (entry fn.ntmps c m h) (cQ h K)/\N)(o:fn.body=some (dY fn):=by rfl)(d:(fn.name== "runtime.NumGoroutine")=false:=by decide):cm f S:=ZY n o d λc m h K u=>let⟨C,hC,hs,N,e,hn⟩:=j c m h K u;⟨C,hC,hs,e▸hn⟩
theorem aeX:cm 215 (WA (Jw 1) L2):=by
 refine JG func215 ?_;rintro a' m h K ⟨v,t,q,bs,ls,rfl,hq,ha,_,A,M⟩;refine⟨V5 [(97,aDZ)] [] [] [200002,200005,1058],rfl,aE Tv aH,Nt v t m h (cQ h K),ax,?_⟩;show Nt v t m h (cQ h K);dsimp only[Nt,push_cast];intro b m1 O B D P E n;have f:Sub m m1:=(Sub.refl m).upd O.m_ B.other
 have F:m D=none:=by
  cases e:m D with
  |none=>rfl
  |some o=>have G:=f D o e;rw[E.m_]at G;cases G
 have g:Sub m P:=f.upd F n.other;have H:b≠D:=λe=>by have:=E.m_;rw[<-e,B.at_]at this;cases this
 obtain⟨b3,Q,x,ea,a0,rd,Y⟩:=ha.get (Hf (i:=0) (by have:=A.1;omega));obtain⟨Z,u,C⟩:=Y.ex;obtain⟨op,ta,w,co,on,gr,od,li,args⟩:=q;have xq:=hq.parts;obtain⟨wd,z⟩:=A.2 _ (bo (Hf (i:=0) (by have:=A.1;omega)));simp only[L2]at M;generalize ls.getD 0 []=l at u C M z Y;have R:=C.len;have a1:=z.len;refine⟨b3,Q,ea,aC,aC,x,.imm rd,AV,Z,λk L S=>S=h/\FA P L D/\∃c,sK P L D c/\c.length<=k/\fA h c ((l.take k).filter λr=>oA r w),Ak,⟨x,Z,rfl,u,rfl⟩,⟨rfl,λx o e _=>e,[],sK.new n.at_,ay,bk (fA.nil h)⟩,?_,?_⟩
 .rintro k e L S hk-⟨rfl,I,c,d,T,j⟩
  obtain⟨r,hr,hv⟩:=C.at' hk;have a2:=(bm hk);refine⟨v.where_,.of_m (I b _ (by rw[n.other b H];exact B.at_) H) rfl,v.where_,e,w,r,rfl,xq.where_,hv,aD (λht=>?_) (λhf=>?_)⟩
  .refine sK.app ⟨_,n.at_⟩ I d aC (λm' U V=>⟨rfl,U,c++[e],V,bf,?_⟩);rw[jZ _ hr,if_pos ht];exact j.snoc hv
  .refine⟨rfl,I,c,d,aC,?_⟩;rw[jZ _ hr,if_neg (by simp[hf]),append_nil];exact j
 .rintro L S-⟨rfl,I,c,d,T,j⟩
  rw[R,take_length]at j;obtain⟨s,hb,J,W⟩:=d.ex;refine⟨s,.of_m hb rfl,cQ.row (g.x F I) (.refl _) J (λi y e=>?_) (λh' le X=>M s h' le ((j.mono le).rows X bg))⟩;cases e2:m y with
  |none=>rfl
  |some o=>have G:=W i y e;rw[g y o e2]at G;cases G
theorem fA.app{us vs a b}(x:fA h us a)(y:fA h vs b):fA h (us++vs) (a++b):=by
 refine⟨by simp[x.len,y.len],λj r c=>?_⟩;have g:=x.len;by_cases d:j<a.length
 .rw[getElem?_append_left d]at c;obtain⟨u,e,f⟩:=x.at_ j r c
  grind
 .rw[getElem?_append_right aC]at c;obtain⟨u,e,f⟩:=y.at_ _ r c
  grind
def Vg(_:Query)(ls:List ct):=Ew (ls.getD 0 []++ls.getD 1 [])
theorem adX:cm 219 (WA (Jw 2) Vg):=by
 refine Fh func219 ?_;rintro S m h K ⟨v,t,q,bs,ls,rfl,_,O,_,c,T⟩;refine⟨dJ [(250,Zp),(249,Wy),(71,bsZ)] [] [] [] false,rfl,aE aaZ (aE RC (aE Fm aH)),Np v t m h (lW h K),ax,?_⟩;show Np v t m h (lW h K);dsimp only[Np,push_cast];have h2:=c.1;obtain⟨b,D,x,U,V,rd,W⟩:=O.get (Hf (i:=0) aC);obtain⟨X,j,P,E,Q,d,F⟩:=O.get (Hf (i:=1) aC);obtain⟨G,n,u⟩:=W.ex;obtain⟨z,f,A⟩:=F.ex;obtain⟨_,B⟩:=c.2 _ (bo (Hf (i:=0) aC));obtain⟨_,g⟩:=c.2 _ (bo (Hf (i:=1) aC));have l1:=B.len;have l2:=g.len;have l3:=u.len;refine⟨b,D,U,aC,aC,x,.imm rd,X,j,E,aC,aC,P,.imm d,d,x,G,rfl,n,λY m1 H I Z=>⟨rd,Y,P,G,z,rfl,H,f,aC,λs2 m2 J L a'=>⟨rd,d,s2,G++z,_,rfl,J.src,u.app A,bg,λs3 R C M=>?_⟩⟩⟩;refine⟨m,R,λy o hy=>L y o (I y o hy) (λi e=>?_),C,.refl _,T s3 R C M⟩
 grind
def S8(q:Query)(ls:List ct):=match q with|.mk _ _ _ co _ _ _ _ _=>Ew ((ls.getD 0 []).map λr=>pick r co)
def MR(q:Query)(ls:List ct):=match q with|.mk _ _ _ co _ _ _ _ _=>1<=ls.length/\co.length<=12/\∃w,iL w (ls.getD 0 [])/\jM w co
theorem Xe{r y}(d:(pick r co)[i]? =some y)(e:i<co.length):((pick r co).take i++replicate (co.length-i) zeroV).set i y=(pick r co).take (i+1)++replicate (co.length-(i+1)) zeroV:=by
 have c:(pick r co).length=co.length:=by simp[pick]
 rw[set_append,if_neg bf];rw[cd,d,Option.toList_some,append_assoc];congr 1;rw[show co.length-i=(co.length-(i+1))+1 by omega,replicate_succ];simp[c,Nat.min_eq_left (Nat.le_of_lt e)]
theorem Ta{r}(d:i<co.length):(((pick r co).take i++replicate (co.length-i) zeroV).map VV.enc)[i]? =some (VV.enc zeroV):=by
 have c:(pick r co).length=co.length:=by simp[pick]
 grind
theorem aeQ:cm 216 (WA MR S8):=by
 refine JG func216 ?_;rintro b1 m h K ⟨v,t,q,bs,ls,rfl,hq,ha,_,a',hK⟩;refine⟨bLJ,rfl,aE Fm aH,Ns v t m h (cQ h K),ax,?_⟩;show Ns v t m h (cQ h K);dsimp only[Ns,push_cast];obtain⟨op,ta,w,co,on,gr,od,li,args⟩:=q;obtain⟨b6,b7,wd,f,a0⟩:=a';intro b m1 a1 G C m2 M A;have g:Sub m m1:=(Sub.refl m).upd a1.m_ G.other
 have O:m C=none:=by
  cases e:m C with
  |none=>rfl
  |some o=>have P:=g C o e;rw[M.m_]at P;cases P
 have H:Sub m m2:=g.upd O A.other;have Q:b≠C:=λe=>by have:=M.m_;rw[<-e,G.at_]at this;cases this
 obtain⟨b3,a2,x,ea,b8,rd,sq⟩:=ha.get (Hf (i:=0) aC);obtain⟨us,D,I⟩:=sq.ex;have xq:=hq.parts;have a3:=xq.columns_.slen;simp only[S8]at hK;generalize ls.getD 0 []=l at D I hK f sq;have a4:=I.len;have b9:=f.len;refine⟨b3,a2,ea,aC,aC,x,.imm rd,AV,us,λk J E=>PH.le h E/\FA m2 J C/\∃d,sK m2 J C d/\d.length<=k/\fA E d ((l.take k).map λr=>pick r co),Ak,⟨x,us,rfl,D,rfl⟩,⟨.refl _,λx o e _=>e,[],sK.new A.at_,ay,bk (fA.nil h)⟩,?_,?_⟩
 .rintro k e J E hk-⟨le,X,d,j,a5,B⟩
  obtain⟨r,hr,hv⟩:=I.at' hk;have c':=(bm hk);have R:J b=some (.cells ⟨v.enc⟩ 41 (0,0)):=X b _ (by rw[A.other b Q];exact G.at_) Q;have c0:=f.wid r (bo hr);have S:=bS.mono hv le;have c1:=bN.slen S;have c2:(pick r co).length=co.length:=by simp[pick]
  refine⟨v.columns,.of_m R rfl,aC,aC,aC,aC,v.columns,.of_m R rfl,λz=>z.1<=co.length/\z.2.1=C/\z.2.2.1=e/\z.2.2.2.1=v.columns/\z.2.2.2.2.1=(pick r co).take z.1++replicate (co.length-z.1) zeroV/\z.2.2.2.2.2.1=J/\z.2.2.2.2.2.2=E,λz=>co.length-z.1,⟨(0,C,e,v.columns,replicate co.length zeroV,J,E),⟨ay,rfl,rfl,rfl,ay,rfl,rfl⟩,?_⟩,?_⟩
  .dsimp only;rw[map_replicate,show((v.columns.len:Int)).toNat=co.length by omega];exact MT
  .rintro⟨i,bb,ee,cc,cells,my,hy⟩ ⟨hi,P,e2,e3,Y,Z,e6⟩;dsimp only at hi P e2 e3 Y Z e6;subst P e2 e3 Y Z e6;refine aF (λF=>?_) (λa6=>?_)
   .dsimp only at F⊢
    obtain⟨c,T⟩:=fF a3 F;obtain⟨b4,o4,Y,c3⟩:=(xq.columns_.mono le).at T;obtain⟨y,a7,a8,h0,h1⟩:=KI (r:=r) bg T;obtain⟨b5,o5,y',Z,a9,rfl⟩:=bN.at S a7;have U:i<co.length:=by omega
    have V:=Xe a8 U;refine⟨b4,o4,Y,aC,aC,c,.imm bg,b5,o5,Z,h0,aC,y,.imm a9,aC,bf,_,Ta U,by simp[VV.enc],(i+1,bb,ee,v.columns,(pick r co).take (i+1)++replicate (co.length-(i+1)) zeroV,my,hy),⟨aC,rfl,rfl,rfl,rfl,rfl,rfl⟩,aC,?_⟩;dsimp only;refine⟨rfl,rfl,rfl,rfl,rfl,by rw[iY aC],?_,rfl,rfl,trivial⟩;rw[<-V,map_set];rfl
   .dsimp only at a6⊢
    have:i=co.length:=by omega
    subst this;rw[bt aC,Nat.sub_self,replicate_zero,append_nil];obtain⟨s,hb,n,W⟩:=j.ex;refine⟨s,.of_m hb rfl,λs3 h3 u L=>KL ⟨_,A.at_⟩ X hb n W aC (λm' b' b0=>⟨le.trans u,b',d++[s3],b0,bf,?_⟩)⟩
    have e6:(l.take (k+1)).map (λr=>pick r co)=(l.take k).map (λr=>pick r co)++[pick r co]:=by
     rw[cd,hr];simp
    rw[e6];exact(B.mono u).snoc ⟨⟨_,L,rfl,λi x E=>⟨x,E,rfl⟩⟩,aC⟩
 .rintro J E-⟨le,X,d,j,a5,B⟩
  rw[a4,take_length]at B;obtain⟨s,hb,n,W⟩:=j.ex;refine⟨s,.of_m hb rfl,s,d,_,rfl,n.src,B,bf,λs3 h3 u L=>cQ.sub (H.x O X) (le.trans u) (hK s3 h3 (le.trans u) L)⟩
theorem iT{m0 o}(c:Sub m0 m)(g:cK m h b)(j:lK m m' b o):Sub m0 m'/\m0 b=none:=by
 have d:m0 b=none:=by
  cases e:m0 b with
  |none=>rfl
  |some x=>have f:=c b x e;rw[g.m_]at f;cases f
 exact⟨c.upd d j.other,d⟩
theorem mem_keys{l w k x}(f:iL w l)(hx:Pb x)(g:x.length=w):fI x∈(l.take k).map fI↔x∈l.take k:=by
 constructor
 .intro h;obtain⟨y,d,e⟩:=mem_map.1 h;have c:=mem_of_mem_take d;rw[(Rb (by rw[f.wid y c,g]) (f.row y c).val hx.val).1 e]at d;exact d
 grind
theorem RB:cm 251 Ww:=by
 refine JG func251 ?_;rintro d0 m h K ⟨t,i,bs,ls,w,rfl,ha,hT,h2,a0,hK⟩;refine⟨V5 [(263,aXQ)] [] [] [200003,200005,200007,1058,400000,0],rfl,aE Z8 aH,Nk t i m h (cQ h K),ax,?_⟩;show Nk t i m h (cQ h K);dsimp only[Nk,push_cast];intro u m1 b2 M d m2 a1 G C m3 U O;obtain⟨s1,n3⟩:=iT (Sub.refl m) b2 M;obtain⟨s2,ny⟩:=iT s1 a1 G;obtain⟨s3,n5⟩:=iT s2 U O;refine⟨_,_,⟨O.at_⟩,ay,λm4 P=>?_⟩;have s4:Sub m m4:=s3.upd n5 P.other;have f:d≠C:=λe=>by have:=U.m_;rw[<-e,G.at_]at this;cases this
 have R:u≠C:=λe=>by have:=U.m_;rw[<-e,G.other u (λD=>by omega),M.at_]at this;cases this
 have V:u≠d:=λD=>by have:=a1.m_;rw[<-D,M.at_]at this;cases this
 have b4:m4 d=some (.map #[] 0):=by rw[P.other d f,O.other d f];exact G.at_
 have a2:m4 u=some (.cells #[.bool i] 4 (0,0)):=by rw[P.other u R,O.other u R,G.other u V];exact M.at_
 have W:m4 C=some (.cells #[.map (some d)] 157 (0,0)):=P.at_;obtain⟨b,b8,x,ea,d1,rd,sq⟩:=ha.get (Hf (i:=1) aC);obtain⟨a3,X,H⟩:=sq.ex;have A:=a0 _ (bo (Hf (i:=1) aC));have g:=a0 _ (bo (Hf (i:=0) aC));obtain⟨b6,a4,x6,b9,d',c',a5⟩:=ha.get (Hf (i:=0) aC);obtain⟨us,a6,Y⟩:=a5.ex;generalize ls.getD 1 []=S at H A hK sq;generalize ls.getD 0 []=l at Y g hK a5;have c0:=Y.len;have d2:=g.len;have a7:=H.len;refine⟨b,b8,ea,aC,aC,x,.imm rd,AV,a3,λk Z hx=>hx=h/\(∀z o,m4 z=some o->z≠d->Z z=some o)/\sJ Z d ((S.take k).map fI),Ak,⟨x,a3,rfl,X,rfl⟩,⟨rfl,λz o e _=>e,bk (sJ.new b4)⟩,?_,?_⟩
 .rintro k e Z hx hk-⟨rfl,T,I⟩
  obtain⟨r,hr,hv⟩:=H.at' hk;have J:=bo hr;have r5:aL Z hx C 0 [Value.map (some d)]:=.of_m (T C _ W (Ne.symm f)) rfl;refine⟨d,r5,r5,e,r,rfl,hv,A.row r J,hT.sub (λz o D=>T z o (s4 z o D) (λe3=>bg)),r5,I.put (λm' a' a8=>⟨rfl,λz o D c1=>by rw[a'.other z c1];grind,?_⟩)⟩;obtain⟨kk,h5,h6⟩:=a8.ex;exact⟨kk,h5,λq=>by rw[h6,cd,hr];grind⟩
 .rintro Z hx-⟨rfl,T,I⟩ b7 m5 a9 F;rw[a7,take_length]at I;have s5:Sub m Z:=λz o D=>T z o (s4 z o D) (λe3=>bg);obtain⟨s6,n7⟩:=iT s5 a9 F;have Q:∀z o,Z z=some o->z≠b7:=λz o D e3=>by rw[e3,a9.m_]at D;cases D
  have y7:d≠b7:=by
   obtain⟨kk,⟨es,c,h1,_⟩,_⟩:=I.ex
   grind
  have c2:m5 C=some (.cells #[.map (some d)] 157 (0,0)):=by rw[F.other C (Q C _ (T C _ W (Ne.symm f)))];grind
  have c3:m5 u=some (.cells #[.bool i] 4 (0,0)):=by rw[F.other u (Q u _ (T u _ a2 V))];grind
  have b':sJ m5 d (S.map fI):=I.keep (F.other d y7);have c4:C≠b7:=Q C _ (T C _ W (Ne.symm f));have c5:u≠b7:=Q u _ (T u _ a2 V);refine⟨b6,a4,b9,aC,aC,x6,.imm c',AV,us,λk my hy=>hy=hx/\FA m5 my b7/\∃B,sK m5 my b7 B/\B.length<=k/\fA hx B ((l.take k).filter λz=>JF S z==i),Ak,⟨x6,us,rfl,a6,rfl⟩,⟨rfl,λz o e _=>e,[],sK.new F.at_,ay,bk (fA.nil hx)⟩,?_,?_⟩
  .rintro k e my hy hk-⟨rfl,n,B,E,c6,L⟩
   obtain⟨r,hr,hv⟩:=Y.at' hk;have d3:=(bm hk);have J:=bo hr;have r5:aL my hy C 0 [Value.map (some d)]:=.of_m (n C _ c2 c4) rfl;have r3:aL my hy u 0 [Value.bool i]:=.of_m (n u _ c3 c5) rfl
   have b0:sJ my d (S.map fI):=by
    obtain⟨kk,⟨es,c,h1,h2,h3,h4⟩,h5⟩:=b'.ex;exact⟨kk,⟨es,c,n d _ h1 y7,h2,h3,h4⟩,h5⟩
   have key:∀t:Bool,(t=true↔fI r∈S.map fI)->t=JF S r:=λt ht=>by
    have h1:=mem_keys (k:=S.length) A (g.row r J) (g.wid r J);rw[take_length]at h1;rw[h1]at ht;cases t
    .cases D:JF S r with
     |false=>rfl
     |true=>exact ht.2 (Ei.1 D)
    .exact(Ei.2 (ht.1 rfl)).symm
   refine⟨d,r5,i,r3,r5,r3,e,r,rfl,hv,g.row r J,hT.sub (s6.x n7 n),r5,r3,r3,b0.get (K:=λt=>branch (t==i) _ _) (λt ht=>?_)⟩;have e3:=key t ht;refine aD (λh1=>?_) (λh1=>?_)
   .refine sK.app ⟨_,F.at_⟩ n E aC (λm' a' c7=>⟨rfl,a',B++[e],c7,bf,?_⟩);rw[jZ _ hr,if_pos bg];exact L.snoc hv
   .refine⟨rfl,n,B,E,aC,?_⟩;rw[jZ _ hr,if_neg bg,append_nil];exact L
  .rintro my hy-⟨rfl,n,B,E,c6,L⟩
   rw[c0,take_length]at L;obtain⟨s,hb,b1,c8⟩:=E.ex;refine⟨s,.of_m hb rfl,cQ.row (s6.x n7 n) (.refl _) b1 (λj y e=>?_) (λh' le c9=>hK s h' le ((L.mono le).rows c9 bg))⟩;cases D:m y with
   |none=>rfl
   |some o=>have e1:=c8 j y e;rw[s6 y o D]at e1;cases e1
def B8(_:Query)(ls:List ct):=2<=ls.length/\∃w,∀l∈ls,iL w l
def VG(_:Query)(ls:List ct):=(ls.getD 0 []).filter λx=>JF (ls.getD 1 []) x==false
def Rf(_:Query)(ls:List ct):=(ls.getD 0 []).filter λx=>JF (ls.getD 1 []) x==true
theorem adQ:cm 220 (WA B8 VG):=by
 refine iU func220 ?_;rintro d m h K ⟨v,t,q,e,f,rfl,_,g,j,⟨n,w,c⟩,o⟩;refine⟨dJ [(251,Ww)] [] [] [] false,rfl,aE RB aH,bjJ v t m h K,ax,?_⟩;exact⟨t,false,e,f,w,rfl,g,j,n,c,o⟩
theorem acJ:cm 221 (WA B8 Rf):=by
 refine iU func221 ?_;rintro d m h K ⟨v,t,q,e,f,rfl,_,g,j,⟨n,w,c⟩,o⟩;refine⟨dJ [(251,Ww)] [] [] [] false,rfl,aE RB aH,bjZ v t m h K,ax,?_⟩;exact⟨t,true,e,f,w,rfl,g,j,n,c,o⟩
def jR:cv->da->da->Int
 |[],a,b=>eZ a b
 |(c,d)::r,a,b=>if 0<=c/\c<a.length/\c<b.length then(if pI (a.getD c.toNat zeroV) (b.getD c.toNat zeroV)≠0 then(if d then-pI (a.getD c.toNat zeroV) (b.getD c.toNat zeroV)else pI (a.getD c.toNat zeroV) (b.getD c.toNat zeroV))else jR r a b)else jR r a b
def H9:Vc.Spec:=λc m h K=>∃o s t od a b,c=[cS o,cS s,cS t]/\jC h o od/\bS h s a/\bS h t b/\K (cI (jR od a b)) m h
def U3:Vc.Spec:=λc m h K=>∃s t d v od a b,c=[cS s,cS t,cP d]/\m d=some (.cells ⟨QV.enc v⟩ 41 (0,0))/\jC h v.order od/\bS h s a/\bS h t b/\K (cI (jR od a b)) m h
def cEX:Vc.Spec:=λc m h K=>∃i:Nat,∃d e f v od g s rs r x,c=[cI i,cP d,cP e,cP f]/\m d=some (.cells ⟨QV.enc v⟩ 41 (0,0))/\m e=some (.cells #[Sl.val g] 58 (0,0))/\m f=some (.cells #[Sl.val s] 65 (0,0))/\jC h v.order od/\Rows h g rs/\bS h s r/\rs[i]? =some x/\
 K (cB (decide (jR od x r>=0))) m h
def b3Z:Vc.Spec:=λd m h K=>∃(s:Sl)(e:Nat)(v:QV)(od:cv)(w:Nat)(ps:dm),d=[cS s,.val (.func (.func 264) #[] #[.pointer (some ⟨e,0,none⟩)])]/\m e=some (.cells ⟨QV.enc v⟩ 41 (0,0))/\(∀i,s.a≠some ⟨e,i,none⟩)/\jC h v.order od/\cW m s 65 1 (ps.map λp=>eS p.1)/\(∀p∈ps,bS h p.1 p.2)/\(∀p∈ps,p.2.length=w)/\ps.length<=140737488355328/\
 ∀(c:dm)(m':MH),c.Perm ps->c.Pairwise (λp q=>¬jR od q.2 p.2<0)->cW m' s 65 1 (c.map λp=>eS p.1)->(∀b,(∀i,s.a≠some ⟨b,i,none⟩)->m' b=m b)->K (.tup []) m' h
noncomputable def bVJ o s t m h:=
 dJ [(156,U6),(93,JI)] [(2,{A:=Nat,st:=λi=>bZ 55 58 [(1,sv s),(2,sv t),(10,sv o),(11,iv o.len),(12,iv i)] [] m h})] [] [] false
def UF(o s t:Sl)(m:MH)(h:PH)(K:cn):=
  p9 (λI x=>aA (I x) (aJ s) (aA (aJ t) (aJ o) (aA (bJ o) (bE x) (aA (m=m) (h=h) True)))) (λI d x=>I x->bA (↑x:Int) (aG o) (bK (λb f=>aI (aW o.a b f) (0<=(↑x:Int)) ((↑x:Int)<aG o) (∃(y:Int×Bool),aL m h b (f+bM x 2) (Bl y)/\bA y.1 0 (∃(c:Nat),aA (I c) (d c<d x) (aA (aJ s) (aJ t) (aA (aJ o) (bJ o) (aA (gX (bH x 1)=bP c) (m=m) (bU h h))))) (dP (decide (y.1>=aG s)) (∃(c:Nat),aA (I c) (d c<d x) (aA (aJ s) (aJ t) (aA (aJ o) (bJ o) (aA (gX (bH x 1)=bP c) (m=m) (bU h h))))) (decide (y.1>=aG t)) (∃(c:Nat),aA (I c) (d c<d x) (aA (aJ s) (aJ t) (aA (aJ o) (bJ o) (aA (gX (bH x 1)=bP c) (m=m) (bU h h))))) (bK (λg j=>aI (aW s.a g j) (0<=
 y.1) (y.1<aG s) (∃(n:VV),aL m h g (j+iA y.1 3) n.enc/\bK (λu z=>aI (aW t.a u z) (0<=y.1) (y.1<aG t) (∃(A:VV),aL m h u (z+iA y.1 3) A.enc/\∃(a e:VV),kH n.enc A.enc=kH a.enc e.enc/\dP (pI a e==0) (∃(c:Nat),aA (I c) (d c<d x) (aA (aJ s) (aJ t) (aA (aJ o) (bJ o) (aA (gX (bH x 1)=bP c) (m=m) (bU h h))))) y.2 (K (gG (fM (0-pI a e))) m h) (K (gG (pI a e)) m h)))))))))) (∃(B:Sl),pB (λC a=>∃(b:da),aI (cJ s t=cJ B C) (bS h B a) (bS h C b) (K (gG (eZ a b)) m h))))
abbrev Lb(a b c:Sl)(d:PH)(e:cv->da->da->Prop):=sG (λx f=>∃(g:Sl)(j:cv)(n o:da),aA (dE a (cJ b c)=dE x (cJ f g)) (jC d x j) (aA (bS d f n) (bS d g o) (e j n o)))
attribute [push_cast] Lb
def biX(s t:Sl)(c:Nat)(m:MH)(h:PH)(K:cn):=
  kW m h c 18 (λy=>Lb y s t h (λo a b=>K (gG (jR o a b)) m h))
def TN(i g d j:Nat)(m:MH)(h:PH)(K:cn):=
  Gc m h g 18 (λy c=>aL m h d 0 (aM c)/\bK (λb o=>aI (aW c.a b o) (0<=(↑i:Int)) ((↑i:Int)<aG c) (∃(e:Sl),aL m h b (o+bM i 1) (aM e)/\∃(f:Sl),aA (aL m h j 0 (aM f)) (aL m h d 0 (aM c)) (Lb y e f h (λn a u=>aL m h d 0 (aM c)/\K (As (decide (jR n a u>=0))) m h)))))
theorem ayZ a b: -1<=pI a b/\pI a b<=1:=by
 have c:∀x y:Int, -1<=DL x y/\DL x y<=1:=λx y=>by unfold DL;omega
 have d:=(Q6 a.text.data.toList b.text.data.toList).2;have e: -1<=SI a.text b.text/\SI a.text b.text<=1:=by unfold SI;omega
 have f:=c a.kind b.kind;have g:=c a.int b.int;unfold pI;omega
theorem brQ{c d r a b}(h:¬(0<=c/\c<a.length/\c<b.length)):jR ((c,d)::r) a b=jR r a b:=by
 rw[jR,if_neg h]
theorem cCZ{c d r a b x y}(e:0<=c)(hx:a[c.toNat]? =some x)(f:b[c.toNat]? =some y):jR ((c,d)::r) a b=if pI x y≠0 then(if d then-pI x y else pI x y)else jR r a b:=by
 have g:=(bm hx);have j:=(bm f);rw[jR,if_pos ⟨e,aC,aC⟩]
 grind
theorem GV:cm 110 H9:=by
 refine iU func110 ?_;rintro L m h K ⟨o,s,t,od,a,b,rfl,C,D,E,g⟩;refine⟨bVJ o s t m h,rfl,aE J8 (aE Fl aH),UF o s t m h K,ax,?_⟩;dsimp only[UF,push_cast];have F:=C.slen;have M:=C.len;have O:=bN.slen D;have P:=bN.slen E;refine⟨λi=>i<=od.length/\jR od a b=jR (od.drop i) a b,λi=>od.length-i,⟨0,⟨aC,ay⟩,MT⟩,λi⟨hi,j⟩=>aF (λn=>?_) (λQ=>?_)⟩
 .obtain⟨⟨c,B⟩,G⟩:=fF F n;obtain⟨R,S,T,U⟩:=C.row.get (i:=i) (e:=DT (c,B)) (by simp[G]);rw[drop_cons G]at j
  have skip:¬(0<=c/\c<a.length/\c<b.length)->∃d:Nat,(λi=>i<=od.length/\jR od a b=jR (od.drop i) a b) d/\(λi=>od.length-i) d<(λi=>od.length-i) i/\eQ (sQs s)/\eQ (sQs t)/\eQ (sQs o)/\eQ (gX ↑o.len)/\gX (IntKind.i64.wrap ((i:Int)+1))=gX ↑d/\m=m/\h=h/\True:=λV=>
   ⟨i+1,⟨aC,by rw[j,brQ V]⟩,(show od.length-(i+1)<od.length-i by omega),MT⟩
  refine⟨R,S,T,aC,n,(c,B),.imm U,aF (λH=>skip (λe=>by omega)) (λH=>aF (λI=>skip (λe=>by omega)) (λI=>aF (λJ=>skip (λe=>by omega)) (λJ=>?_)))⟩;dsimp only at H I J⊢
  obtain⟨x,z⟩:∃x,a[c.toNat]? =some x:=⟨_,bn aC⟩
  obtain⟨y,A⟩:∃y,b[c.toNat]? =some y:=⟨_,bn aC⟩
  obtain⟨W,X,u,Y,Z,rfl⟩:=bN.at D z;obtain⟨b3,o3,u,e3,r3,rfl⟩:=bN.at E A;rw[cCZ aC z A]at j;have a':=ayZ x y;refine⟨W,X,Y,aC,aC,x,.imm Z,b3,o3,e3,aC,aC,y,.imm r3,x,y,rfl,aD (λh4=>⟨i+1,⟨aC,?_⟩,(show od.length-(i+1)<od.length-i by omega),MT⟩) (λh4=>aD (λf=>?_) (λf=>?_))⟩
  .grind
  .have f:B=true:=f;rw[j,if_pos bg,if_pos f]at g;rw[fG aC aC,Int.zero_sub];exact g
  .have f:B=false:=f;rw[j,if_pos bg,if_neg (by simp[f])]at g;exact g
 .rw[j,drop_eq_nil_of_le aC,jR]at g;exact⟨s,t,a,b,rfl,D,E,g⟩
theorem Z7:cm 264 U3:=by
 refine iU func264 ?_;rintro c m h K ⟨s,t,d,v,od,a,b,rfl,e,f,g,j,n⟩;refine⟨rI [(110,H9)] [] [] [] [0] [] false,rfl,aE GV aH,biX s t d m h K,ax,?_⟩;exact⟨v.order,.of_m e rfl,v.order,s,t,od,a,b,rfl,f,g,j,n⟩
theorem aaX:cm 253 cEX:=by
 refine iU func253 ?_;rintro j m h K ⟨i,n,e,o,v,od,g,s,rs,r,x,rfl,y,z,A,B,c,C,f,D⟩;refine⟨rI [(110,H9)] [] [] [] [0] [] false,rfl,aE GV aH,TN i n e o m h K,ax,?_⟩;dsimp only[TN,push_cast];have J:=bN.slen c;have L:=(bm f);obtain⟨E,F,u,G,H,I⟩:=bN.at c f;have d:aL m h e 0 [dX g]:=.of_m z rfl;exact⟨v.order,.of_m y rfl,g,d,E,F,G,aC,aC,u,.imm H,s,.of_m A rfl,d,v.order,u,s,od,x,r,rfl,B,I,C,d,D⟩
def Mi(w:Nat):cv->da->da->Int
 |[],a,b=>eZ a b
 |(c,d)::r,a,b=>if 0<=c/\c<w then(if(if d then-pI (a.getD c.toNat zeroV) (b.getD c.toNat zeroV)else pI (a.getD c.toNat zeroV) (b.getD c.toNat zeroV))≠0 then(if d then-pI (a.getD c.toNat zeroV) (b.getD c.toNat zeroV)else pI (a.getD c.toNat zeroV) (b.getD c.toNat zeroV))else Mi w r a b)else Mi w r a b
theorem Ao{w:Nat}:∀{od:cv}{a b:da},a.length=w->b.length=w->jR od a b=Mi w od a b
 |[],_,_,_,_=>rfl
 |(c,f)::r,a,b,d,e=>by
  rw[jR,Mi,d,e,Ao (od:=r) d e];omega
theorem U7.neg{α}{c:α->α->Int}(h:U7 c):U7 (λx y=> -c x y):=by
 refine⟨λx y=>by have:=h.anti x y;omega,λx y z d e=>?_⟩;have f:=h.anti x y;have g:=h.anti y z;have j:=h.anti x z;have:=h.trans z y x aC aC;omega
theorem HX(w:Nat):∀od,U7 (Mi w od)
 |[]=>HY
 |(c,d)::r=>by
  have f:=HX w r;have g:U7 (λa b:da=>pI (a.getD c.toNat zeroV) (b.getD c.toNat zeroV)):=Mj.of λa:da=>a.getD c.toNat zeroV;by_cases h:0<=c/\c<w
  .have e:Mi w ((c,d)::r)=λa b=>if(if d then-pI (a.getD c.toNat zeroV) (b.getD c.toNat zeroV)else pI (a.getD c.toNat zeroV) (b.getD c.toNat zeroV))≠0 then(if d then-pI (a.getD c.toNat zeroV) (b.getD c.toNat zeroV)else pI (a.getD c.toNat zeroV) (b.getD c.toNat zeroV))else Mi w r a b:=by
    funext a b;rw[Mi,if_pos h]
   rw[e];cases d
   .exact g.lex f
   .exact g.neg.lex f
  .have e:Mi w ((c,d)::r)=Mi w r:=by funext a b;rw[Mi,if_neg h]
   grind
theorem YW{w} od:Sort.SWO (Go.Proofs.ltOf (fun(x y:H5 h (λl=>l.length=w))=>jR od x.l y.l)):=by
 have e:(fun(x y:H5 h (λl=>l.length=w))=>jR od x.l y.l)=λx y=>Mi w od x.l y.l:=by
  funext x y;exact Ao x.pr_ y.pr_
 rw[e];exact(HX w od).swo
theorem YF:cm 135 b3Z:=by
 refine⟨⟨Tryz.f135,func135,rfl,az⟩,?_⟩;rintro j f m h w K ⟨s,c,v,od,n,ps,rfl,I,u,z,A,B,C,D,E⟩ d
 obtain⟨F,e,rfl⟩:∃v e,f=[v,e]:=by
  have:=(rJ d.args).1
  match f,this with
  |[v,e],_=>grind
 have G:F=s.val:=d.args.1;have H:e= .func (.func 264) #[] #[.pointer (some ⟨c,0,none⟩)]:=d.args.2.1;subst G H;refine MB (R:=λl=>l.length=n) (g:=264) (cb:=[.pointer (some ⟨c,0,none⟩)]) (m2:=λb=>if b=c then m c else none) (cf:=jR od) rfl d ⟨Tryz.f264,func264,rfl,az⟩ A B C D (YW od) ⟨U3,Z7,λx y=>⟨x.s,y.s,c,v,od,x.l,y.l,rfl,bg,z,x.ok,y.ok,rfl,rfl,rfl⟩⟩ (λb o J=>?_) E
 grind
noncomputable def bLZ:=V5 [(246,NZ),(248,b8Z),(247,Mu),(161,Su)] [(13,{A:=Nat×Nat×Sl×Sl×MH×PH,st:=λ⟨i,b,e,g,m,h⟩=>bZ 66 68 [(10,vv (.pointer (some ⟨b,0,none⟩))),(11,sv e),(51,sv g),(52,iv g.len),(53,iv i)] [] m h})] [] [200005,200006,200007,200010,1058,400000,0]
noncomputable abbrev LI a b:=List.all (pick a b) pW
abbrev tJ(a:MH)(b:Nat)(c:(Value->Prop)->Prop)(d:Value)(e:Prop)(g:Sl->Prop):=∃(x:List (Value×Sl))(j:Value->Prop),aA (u6 a b (List.map (fun(f:Value×Sl)=>(f.1,dX f.2)) x)) (Ds j) (aA (c j) (∀(f:Value×Sl),List.Mem f x->j f.1) (((∀(f:Value×Sl),bF (List.Mem f x) (f.1=d) False)->e)/\∀(f:Sl),List.Mem (d,f) x->g f))
abbrev F3(a:Nat->Option Obj)(b:List cr)(c:Sl)(d:Sl->MH->Prop):=aI (cW a (Sl.mk Option.none 0 0) 65 1 b) (kP b) (dR b) (jY (λx e=>gK a e (Sl.mk Option.none 0 0) x 65 1 (dN b (aM c))->d x e))
noncomputable abbrev nA(a:Nat×Nat×Sl×Sl×MH×PH):=a.2.1
noncomputable abbrev Cy(a:Nat×Nat×Sl×Sl×MH×PH):=a.2.2.1
noncomputable abbrev oK(a:Nat×Nat×Sl×Sl×MH×PH):=a.2.2.2.1
noncomputable abbrev iH(a:Sl×Sl×MH×PH):=a.2.2
noncomputable abbrev Cz(a:Nat×Nat×Sl×Sl×MH×PH):=iH a.2.2
noncomputable abbrev oL(a:Nat×Nat×Sl×Sl×MH×PH):=(iH a.2.2).1
noncomputable abbrev vW(a:Nat×Nat×Sl×Sl×MH×PH):=(iH a.2.2).2
abbrev La(a:Nat->Nat->Option Value)(b c:Sl)(d:Sl->PH->Prop):=cF a 1 (mE (aM b) (aM c)) (λx j=>∃(n:Sl)(f:ct),aA (tA x=tA n) (Rows j n f) (aA (f.length<=10) (∀(e:da),List.Mem e f->e.length<=12) (∀(e:Sl)(g:PH),bR j g (bS g e f.flatten) (d e g))))
attribute [push_cast] LI tJ F3 nA Cy oK iH Cz oL vW La
def Nr(v:QV)(t:Sl)(m:MH)(h:PH)(K:cn):=
  Lc v.on h (λa b P=>∀(Q:Nat)(m1:MH),bF (cK m P Q) (bL m m1 Q iP 36) (∀(b2:Nat)(m2:MH),bF (cK m1 P b2) (bL m1 m2 b2 iP 36) (jN (λc E=>aA (yP m2 Q (gO c E 0)) (0<c.size) (∀(m3:MH),bL m2 m3 Q (fE (dX a) 1 c) E->jN (λc1 E1=>aA (yP m3 b2 (gO c1 E1 0)) (0<c1.size) (∀(m4:MH),bL m3 m4 b2 (fE (dX b) 1 c1) E1->xO m4 P (λb3 m5=>∀(n:Nat)(m6:MH),bF (cK m5 P n) (bL m5 m6 n (oW EI) 160) (jN (λc2 E2=>aA (yP m6 n (gO c2 E2 0)) (0<c2.size) (∀(m7:MH),bL m6 m7 n (fE (Dt b3) 1 c2) E2->A6 t.a 0 1 t m7 P 1 (λy S=>xN S P y m7 (λx I k e=>Ix x k e P I (λu f y1=>aL u f b2 0 (aM y1)/\∃(s:Sl),AN (λt1 r R=>aA (cJ e y1=cJ s t1) (bS f s r) (aA (Ints
 f t1 R) (AM r R) (branch (LI r R) (∃(T:Sl),aL u f b2 0 (aM T)/\∃(s1:Sl),AN (λt2 z A=>aA (cJ e T=cJ s1 t2) (bS f s1 z) (aA (Ints f t2 A) (Pb z) (aA (AM z A) (eD u) (∃(j:Nat),aL u f n 0 (oI j)/\∃(D:Nat),aA (dM u f n D) (aL u f n 0 (oI j)/\tJ u D (λO=>O (dQ z A)) (dQ z A) (aA (dM u f n j) (dM u f n D) (aA (dM u f n j) (dM u f n D) (∃(d:List cr),F3 u d e (λF B=>aA (dM B f n j) (dM B f n D) (rM B j (λO=>O (dQ z A)) (dQ z A) (λU=>∀(g:MH),bF (j6 B g j) (pU g j (gZ U (dQ z A) (dX F) [])) (I (k+1) g f)) (λl V G=>gZ l (dQ z A) V G) (λl G=>∀(g:MH),bF (j6 B g j) (pU g j
 (gZ l (dQ z A) (dX F) G)) (I (k+1) g f))))))) (λJ=>aA (dM u f n j) (dM u f n D) (aA (dM u f n j) (dM u f n D) (∃(d:List cr),aI (cW u (dO J) 65 1 d) (kP d) (dR d) (jY (λF B=>gK u B (dO J) F 65 1 (dN d (aM e))->aA (dM B f n j) (dM B f n D) (rM B j (λO=>O (dQ z A)) (dQ z A) (λU=>∀(g:MH),bF (j6 B g j) (pU g j (gZ U (dQ z A) (dX F) [])) (I (k+1) g f)) (λl V G=>gZ l (dQ z A) V G) (λl G=>∀(g:MH),bF (j6 B g j) (pU g j (gZ l (dQ z A) (dX F) G)) (I (k+1) g f))))))))) (aA (dM u f n j) (dM u f n D) (aL u f n 0 (oI j)/\tJ u D (λO=>O (dQ z A)) (dQ z A) (Dv (dM u f n j)
 (dM u f n D) (λd=>F3 u d e (λF B=>aA (dM B f n j) (dM B f n D) (rM B j (λO=>O (dQ z A)) (dQ z A) (λU=>∀(g:MH),bF (j6 B g j) (pU g j (gZ U (dQ z A) (dX F) [])) (I (k+1) g f)) (λl V G=>gZ l (dQ z A) V G) (λl G=>∀(g:MH),bF (j6 B g j) (pU g j (gZ l (dQ z A) (dX F) G)) (I (k+1) g f)))))) (λJ=>Dv (dM u f n j) (dM u f n D) (λd=>aI (cW u (dO J) 65 1 d) (kP d) (dR d) (jY (λF B=>gK u B (dO J) F 65 1 (dN d (aM e))->aA (dM B f n j) (dM B f n D) (rM B j (λO=>O (dQ z A)) (dQ z A) (λU=>∀(g:MH),bF (j6 B g j) (pU g j (gZ U (dQ z A) (dX F) [])) (I (k+1) g f)) (λl V
 G=>gZ l (dQ z A) V G) (λl G=>∀(g:MH),bF (j6 B g j) (pU g j (gZ l (dQ z A) (dX F) G)) (I (k+1) g f)))))))))))))) (I (k+1) u f)))))) (λu f=>∀(b5:Nat)(B:MH),bF (cK u f b5) (bL u B b5 iP 58) (A6 t.a 0 0 t B f 0 (λy1 S1=>xN S1 f y1 B (λx I k e=>Ix x k e f I (λg H T=>aL g H Q 0 (aM T)/\∃(s:Sl),AN (λt1 r R=>aA (cJ e T=cJ s t1) (bS H s r) (aA (Ints H t1 R) (AM r R) (oF (LI r R) (I (k+1) g H) (∃(j:Nat),aL g H n 0 (oI j)/\∃(D:Sl),aA (aL g H Q 0 (aM D)) (dM g H n j) (∃(s1:Sl),D1 e D s1 H g n j (λ_ _=>aL g H Q 0 (aM D)) (λz A=>tJ g j (λO=>O (dQ z A)) (dQ z A) (∃(I1:Nat×Nat×Sl×Sl×MH×PH->Prop)(a2
 :Nat×Nat×Sl×Sl×MH×PH->Nat),(∃(d:Nat×Nat×Sl×Sl×MH×PH),aA (I1 d) (bY b5 (nA d)) (aA (aZ e (Cy d)) (sQn=sQs (oK d)) (aA (bE (oK d).len) (bE d.1) (aA (bW g (Cz d)) (eH H (Cz d)) True))))/\∀(d:Nat×Nat×Sl×Sl×MH×PH),I1 d->bA (↑d.1:Int) (aG (oK d)) (bK (λb6 o=>aI (aW (oK d).a b6 o) (0<=(↑d.1:Int)) ((↑d.1:Int)<aG (oK d)) (∃(J:Sl),aL (oL d) (vW d) b6 (o+bM d.1 1) (aM J)/\∃(L:Sl),aI (aL (oL d) (vW d) (nA d) 0 (aM L)) (aL (oL d) (vW d) (nA d) 0 (aM L)) (aL (oL d) (vW d) (nA d) 0 (aM L)) (La (vW d) (Cy d) J (λF W=>Dv (aL (oL d) W (nA d) 0 (aM L)) (aL (oL d) W
 (nA d) 0 (aM L)) (λM=>aI (cW (oL d) (dO L) 65 1 M) (kP M) (dR M) (jY (λs3 X=>gK (oL d) X (dO L) s3 65 1 (dN M (aM F))->jN (λY E3=>aA (yP X (nA d) (gO Y E3 0)) (0<Y.size) (∀(a4:MH),bL X a4 (nA d) (fE (dX s3) 1 Y) E3->∃(C:Nat×Nat×Sl×Sl×MH×PH),aA (I1 C) (a2 C<a2 d) (aA (bY (nA d) (nA C)) (aZ (Cy d) (Cy C)) (aA (aZ (oK d) (oK C)) (bQ (oK d) (oK C)) (aA (gX (bH d.1 1)=bP C.1) (bW a4 (Cz C)) (lF (eH W (Cz C)))))))))))))))) (I (k+1) (oL d) (vW d))) (λJ=>∃(I1:Nat×Nat×Sl×Sl×MH×PH->Prop)(a2:Nat×Nat×Sl×Sl×MH×PH->Nat),(∃(d:Nat×Nat×Sl×Sl×MH×PH),aA (I1 d) (bY b5 (nA d)) (aA
 (aZ e (Cy d)) (aZ J (oK d)) (aA (bQ J (oK d)) (bE d.1) (aA (bW g (Cz d)) (eH H (Cz d)) True))))/\∀(d:Nat×Nat×Sl×Sl×MH×PH),I1 d->bA (↑d.1:Int) (aG (oK d)) (bK (λb6 o=>aI (aW (oK d).a b6 o) (0<=(↑d.1:Int)) ((↑d.1:Int)<aG (oK d)) (∃(L:Sl),aL (oL d) (vW d) b6 (o+bM d.1 1) (aM L)/\∃(Z:Sl),aI (aL (oL d) (vW d) (nA d) 0 (aM Z)) (aL (oL d) (vW d) (nA d) 0 (aM Z)) (aL (oL d) (vW d) (nA d) 0 (aM Z)) (La (vW d) (Cy d) L (λF W=>Dv (aL (oL d) W (nA d) 0 (aM Z)) (aL (oL d) W (nA d) 0 (aM Z)) (λM=>aI (cW (oL d) (dO Z) 65 1 M) (kP M) (dR M) (jY (λs3 X=>
 gK (oL d) X (dO Z) s3 65 1 (dN M (aM F))->jN (λY E3=>aA (yP X (nA d) (gO Y E3 0)) (0<Y.size) (∀(a4:MH),bL X a4 (nA d) (fE (dX s3) 1 Y) E3->∃(C:Nat×Nat×Sl×Sl×MH×PH),aA (I1 C) (a2 C<a2 d) (aA (bY (nA d) (nA C)) (aZ (Cy d) (Cy C)) (aA (aZ (oK d) (oK C)) (bQ (oK d) (oK C)) (aA (gX (bH d.1 1)=bP C.1) (bW a4 (Cz C)) (lF (eH W (Cz C)))))))))))))))) (I (k+1) (oL d) (vW d))))))))))) (λg H=>kW g H b5 0 (λT=>K (qW T) g H)))))))))))))))))
def cgJ(on:cw)(ls:List ct):=2<=ls.length/\∃w c,iL w (ls.getD 0 [])/\iL c (ls.getD 1 [])/\jM w (jH on)/\jM c (eU on)
def MP(q:Query)(ls:List ct):=match q with|.mk _ _ _ _ on _ _ _ _=>cgJ on ls
def agree on x y:=eZ (pick x (jH on)) (pick y (eU on))==0
def SY(q:Query)(ls:List ct):=match q with|.mk _ _ _ _ on _ _ _ _=>(ls.getD 0 []).filter λx=>(ls.getD 1 []).any λy=>agree on x y
theorem Fw{on x y}:agree on x y=true↔pick x (jH on)=pick y (eU on):=by
 simp only[agree,beq_iff_eq,lH]
theorem KH{r cols}(c:Pb r)(d:jM r.length cols):∀v∈pick r cols,Zs v:=λv e=>c.val v (QG d e)
theorem C6{κ}(c:aDX κ){on x y}(hx:Pb x)(d:Pb y)(e:jM x.length (jH on))(f:jM y.length (eU on)):κ (pick x (jH on))=κ (pick y (eU on))↔agree on x y=true:=by
 rw[Fw];exact c.inj (by simp[pick,jH,eU]) (KH hx e) (KH d f)
structure Start(m m7:MH)(sa sb:Sl)(T:TypeId)(b1 b2 y b7:Nat):Prop where
 sub:Sub m m7
 a_:m7 b1=some (.cells #[.slice sa.a sa.len sa.cap] 36 (0,0))
 b_:m7 b2=some (.cells #[.slice sb.a sb.len sb.cap] 36 (0,0))
 y_:m7 y=some (.map #[] 0)
 c_:m7 b7=some (.cells #[.map (some y)] T (0,0))
 ya:b1≠y
 yb:b2≠y
 yc:b7≠y
 free:m y=none
theorem WQ{S U T}{Q:Nat->Nat->Nat->Nat->MH->Prop}(hK:∀c d y n P,Start m P S U T c d y n->Q c d y n P):
 ∀(c:Nat)(Z:MH),cK m h c->lK m Z c (.cells #[pV] 36 (0,0))->∀(d:Nat)(m2:MH),cK Z h d->lK Z m2 d (.cells #[pV] 36 (0,0))->
  ∃(cs:Array Value)(E:TypeId),yP m2 c (.cells cs E (0,0))/\0<cs.size/\∀V:MH,lK m2 V c (.cells (Array.mk (dX S::cs.toList.drop 1)) E (0,0))->
  ∃(cs:Array Value)(E:TypeId),yP V d (.cells cs E (0,0))/\0<cs.size/\∀F:MH,lK V F d (.cells (Array.mk (dX U::cs.toList.drop 1)) E (0,0))->
  ∀(y:Nat)(R:MH),cK F h y->lK F R y (.map (Array.mk []) 0)->∀(n:Nat)(m6:MH),cK R h n->lK R m6 n (.cells (Array.mk [.map none]) T (0,0))->
  ∃(cs:Array Value)(E:TypeId),yP m6 n (.cells cs E (0,0))/\0<cs.size/\∀P:MH,lK m6 P n (.cells (Array.mk (.map (some y)::cs.toList.drop 1)) E (0,0))->Q c d y n P:=by
 intro c Z a' G d m2 W H;obtain⟨s1,n1⟩:=iT (Sub.refl m) a' G;obtain⟨s2,n2⟩:=iT s1 W H;have I:c≠d:=λe=>by have:=W.m_;rw[<-e,G.at_]at this;cases this
 refine⟨_,_,⟨by rw[H.other c I];exact G.at_⟩,ay,λV J=>?_⟩;have s3:Sub m V:=s2.upd n1 J.other;refine⟨_,_,⟨by rw[J.other d (Ne.symm I)];exact H.at_⟩,ay,λF L y R X u n m6 Y g=>?_⟩;have s4:Sub m F:=s3.upd n2 L.other;have M:F c=some (.cells #[.slice S.a S.len S.cap] 36 (0,0)):=by rw[L.other c I];exact J.at_
 have O:F d=some (.cells #[.slice U.a U.len U.cap] 36 (0,0)):=L.at_;obtain⟨s5,ny⟩:=iT s4 X u;obtain⟨s6,n7⟩:=iT s5 Y g;have A:∀{z o},F z=some o->z≠y:=fun{z o} e e2=>by rw[e2,X.m_]at e;cases e
 have f:∀{z o},R z=some o->z≠n:=fun{z o} e e2=>by rw[e2,Y.m_]at e;cases e
 have B:=M;rw[<-u.other c (A M)]at B;have C:=O;rw[<-u.other d (A O)]at C;have D:R y=some (.map #[] 0):=u.at_;refine⟨_,_,⟨g.at_⟩,ay,λP j=>hK _ _ _ _ _ ⟨s6.upd n7 j.other,?_,?_,?_,j.at_,A M,A O,Ne.symm (f D),ny⟩⟩
 .rw[j.other c (f B),g.other c (f B)];exact B
 .rw[j.other d (f C),g.other d (f C)];exact C
 .rw[j.other y (f D),g.other y (f D)];exact D
theorem adZ:cm 218 (WA MP SY):=by
 refine JG func218 ?_;rintro c8 m h K ⟨v,t,q,bs,ls,rfl,hq,ha,hT,a9,hK⟩;refine⟨V5 [(246,NZ),(248,b8Z)] [] [] [200005,200006,200007,200009,1058,400000,0],rfl,aE RD (aE GR aH),Nq v t m h (cQ h K),ax,?_⟩;show Nq v t m h (cQ h K);dsimp only[Nq,push_cast];obtain⟨op,ta,w,co,on,gr,od,li,args⟩:=q;obtain⟨h2,wa,wb,f,d,b',L⟩:=a9;refine⟨v.on,on,rfl,hq.parts.on_,λsa sb M C b0 b3=>WQ λb1 b2 y Y m7 D=>?_⟩;obtain⟨b,b4,x,ea,c9,rd,sq⟩:=ha.get (Hf (i:=1) aC);obtain⟨b6,Z,x6,b5,c7,b8,a'⟩:=ha.get (Hf (i:=0) aC);obtain⟨a0,O,E⟩:=(sq.mono C).ex;obtain⟨us,a1,P⟩:=(a'.mono C).ex;simp only[SY]at hK;generalize ls.getD 1 []=Q at E d hK sq;generalize ls.getD 0 []=l at P f hK a';have c':=P.len;have d':=f.len;have a2:=E.len;have s7:=D.sub;have ny:=D.free;refine⟨b,b4,ea,aC,aC,x,.imm (rd.mono C),AV,a0,λk I J=>J=M/\(∀z o,m7 z=some o->z≠y->I z=some o)/\sJ I y ((Q.take k).map λz=>fI (pick z (eU on))),Ak,⟨x,a0,rfl,O,rfl⟩,⟨rfl,λz o e _=>e,bk (sJ.new D.y_)⟩,?_,?_⟩
 .rintro k e I J hk-⟨rfl,R,F⟩
  obtain⟨r,X,hv⟩:=E.at' hk;have n:=bo X;have S:aL I J Y 0 [Value.map (some y)]:=.of_m (R Y _ D.c_ D.yc) rfl;have rb:aL I J b2 0 [dX sb]:=.of_m (R b2 _ D.b_ D.yb) rfl;refine⟨y,S,sb,rb,S,e,sb,r,eU on,rfl,hv,b3,d.row r n,by rw[d.wid r n];exact L,hT.sub (λz o A=>R z o (s7 z o A) (λe3=>bg)),S,F.put (λm' T a3=>⟨rfl,λz o A c0=>by rw[T.other z c0];grind,?_⟩)⟩;obtain⟨kk,h5,h6⟩:=a3.ex;exact⟨kk,h5,λq=>by rw[h6,cd,X];grind⟩
 .rintro I J-⟨rfl,R,F⟩ b9 m5 a4 G;rw[a2,take_length]at F;have s5:Sub m I:=λz o A=>R z o (s7 z o A) (λe3=>bg);obtain⟨s6,n7⟩:=iT s5 a4 G
  have a5:∀{z o},I z=some o->m5 z=some o/\z≠b9:=fun{z o} A=>by
   have:z≠b9:=λe3=>by rw[e3,a4.m_]at A;cases A
   exact⟨by rw[G.other z this];exact A,this⟩
  obtain⟨c1,na⟩:=a5 (R b1 _ D.a_ D.ya);obtain⟨c2,nc⟩:=a5 (R Y _ D.c_ D.yc)
  have y7:y≠b9:=by
   obtain⟨kk,⟨es,c,M,_⟩,_⟩:=F.ex
   grind
  have a6:=F.keep (G.other y y7);refine⟨b6,Z,b5,aC,aC,x6,.imm (b8.mono C),AV,us,λk U hy=>hy=J/\FA m5 U b9/\∃u,sK m5 U b9 u/\u.length<=k/\fA J u ((l.take k).filter λz=>Q.any λy=>agree on z y),Ak,⟨x6,us,rfl,a1,rfl⟩,⟨rfl,λz o e _=>e,[],sK.new G.at_,ay,bk (fA.nil J)⟩,?_,?_⟩
  .rintro k e U hy hk-⟨rfl,g,u,B,c3,H⟩
   obtain⟨r,X,hv⟩:=P.at' hk;have d0:=(bm hk);have n:=bo X;have S:aL U hy Y 0 [Value.map (some y)]:=.of_m (g Y _ c2 nc) rfl;have r3:aL U hy b1 0 [dX sa]:=.of_m (g b1 _ c1 na) rfl
   have a7:sJ U y (Q.map λz=>fI (pick z (eU on))):=by
    obtain⟨kk,⟨es,c,M,h2,h3,h4⟩,h5⟩:=a6.ex;exact⟨kk,⟨es,c,g y _ M y7,h2,h3,h4⟩,h5⟩
   have V:jM r.length (jH on):=by rw[f.wid r n];exact b'
   have key:∀t:Bool,(t=true↔fI (pick r (jH on))∈Q.map λz=>fI (pick z (eU on)))->t=Q.any λy=>agree on r y:=λt ht=>by
    have M:(fI (pick r (jH on))∈Q.map λz=>fI (pick z (eU on)))↔(Q.any λy=>agree on r y)=true:=by
     rw[mem_map,any_eq_true];constructor
     .rintro⟨z,W,A⟩;exact⟨z,W,(C6 Rc (f.row r n) (d.row z W) V (by rw[d.wid z W];exact L)).1 A.symm⟩
     .rintro⟨z,W,A⟩;exact⟨z,W,((C6 Rc (f.row r n) (d.row z W) V (by rw[d.wid z W];exact L)).2 A).symm⟩
    grind
   refine⟨y,S,sa,r3,S,e,sa,r,jH on,rfl,hv,b0,f.row r n,V,hT.sub (s6.x n7 g),S,r3,a7.get (K:=λt=>branch t _ _) (λt ht=>?_)⟩;have e3:=key t ht;refine aD (λM=>?_) (λM=>?_)
   .refine sK.app ⟨_,G.at_⟩ g B aC (λm' T c4=>⟨rfl,T,u++[e],c4,bf,?_⟩);rw[jZ _ X,if_pos bg];exact H.snoc hv
   .refine⟨rfl,g,u,B,aC,?_⟩;rw[jZ _ X,if_neg bg,append_nil];exact H
  .rintro U hy-⟨rfl,g,u,B,c3,H⟩
   rw[c',take_length]at H;obtain⟨s,hb,a8,c5⟩:=B.ex;refine⟨s,.of_m hb rfl,cQ.row (s6.x n7 g) C a8 (λj z e=>?_) (λh' le c6=>hK s h' (C.trans le) ((H.mono le).rows c6 bg))⟩;cases A:m z with
   |none=>rfl
   |some o=>have e1:=c5 j z e;rw[s6 z o A]at e1;cases e1
structure nK(m0 m:MH)(y:Nat)(kk:dr)(us:ByteArray->cu):Prop where
 map_:pU m y (kk.map λp=>(Value.string p.1,dX p.2))
 nodup:(kk.map Prod.fst).Nodup
 row:∀p∈kk,cW m p.2 65 1 ((us p.1).map eS)
 fresh:∀p∈kk,∀x i,p.2.a=some ⟨x,i,none⟩->m0 x=none
 apart:∀p∈kk,∀q∈kk,p.1≠q.1->∀x i j,p.2.a=some ⟨x,i,none⟩->q.2.a≠some ⟨x,j,none⟩
 none_:∀k,k∉kk.map Prod.fst->us k=[]
 old:∀x o,m0 x=some o->x≠y->m x=some o
def DH(kk:dr)(key:ByteArray)(s:Sl):=(s=⟨none,0,0⟩/\key∉kk.map Prod.fst)\/(key,s)∈kk
theorem nK.new{y}(h:m y=some (.map #[] 0)):nK m m y [] λ_=>[]:=⟨⟨#[],0,h,rfl,ay,ay⟩,ay,ay,ay,ay,λ_ _=>rfl,λ_ _ e _=>e⟩
theorem DH.row{m0 y kk us key s}(g:nK m0 m y kk us)(d:DH kk key s):cW m s 65 1 ((us key).map eS)/\∀x i,s.a=some ⟨x,i,none⟩->m0 x=none:=by
 rcases d with⟨rfl,f⟩|c
 .rw[g.none_ key f];exact⟨⟨BM [],.inl ⟨rfl,rfl⟩⟩,λx i e=>by cases e⟩
 .exact⟨g.row _ c,g.fresh _ c⟩
theorem nK.keep{m0 y kk us}(g:nK m0 m y kk us)(f:∀x o,m x=some o->m' x=some o):nK m0 m' y kk us:=by
 obtain⟨j,c,d,e,n,u⟩:=g.map_;refine⟨⟨j,c,f _ _ d,e,n,u⟩,g.nodup,λp z=>?_,g.fresh,g.apart,g.none_,λx o d e=>f x o (g.old x o d e)⟩;obtain⟨A,B⟩:=g.row p z;refine⟨A,B.imp id ?_⟩
 grind
def O3(us:ByteArray->cu)(key:ByteArray)(e:Sl):=λk=>if k=key then us k++[e]else us k
theorem nK.core{m0 U:MH}{y:Nat}{kk A us key s E e}(g:nK m0 m y kk us)(H:∃o,m0 y=some o)(I:DH kk key s)(F:gK m U s E 65 1 ((us key).map eS++[[dX e]]))(V:pU m' y (A.map λp=>(Value.string p.1,dX p.2)))(u:j6 U m' y)(J:(A.map Prod.fst).Nodup)(z:∀p∈A,p=(key,E)\/(p∈kk/\p.1≠key))(G:(key,E)∈A)(L:∀k,k∈kk.map Prod.fst->k∈A.map Prod.fst):nK m0 m' y A (O3 us key e):=by
 obtain⟨oy,H⟩:=H;obtain⟨W,a'⟩:=I.row g;obtain⟨es,c,h1,_⟩:=g.map_;have a0:∀i,s.a≠some ⟨y,i,none⟩:=λi f=>bg
 have X:∀x,m x=none->m0 x=none:=λx M=>by
  cases O:m0 x with
  |none=>rfl
  |some o=>
   by_cases P:x=y
   .grind
   .rw[g.old x o O P]at M;cases M
 have Y:∀x i,E.a=some ⟨x,i,none⟩->m0 x=none:=λx i f=>by
  rcases F.fresh x i f with h|⟨j,h⟩
  .grind
  grind
 have D:∀p∈kk,∀x i,p.2.a=some ⟨x,i,none⟩->∃o,m x=some o:=λp B x i f=>by
  rcases(g.row p B).ex with⟨h,_⟩|⟨b,a1,a2,h,V,_⟩
  .grind
  grind
 have Q:∀p∈kk,p.1≠key->∀x i j,p.2.a=some ⟨x,i,none⟩->s.a≠some ⟨x,j,none⟩:=λp B d x i j f C=>by
  rcases I with⟨rfl,_⟩|I
  .cases C
  .exact g.apart p B _ I d x i j f C
 refine⟨V,J,λp B=>?_,λp B x i f=>?_,λp B q hq d x i j f C=>?_,λk Z=>?_,λx o O d=>?_⟩
 .rcases z p B with rfl|⟨n,d⟩
  .have R:(O3 us key e key).map eS=(us key).map eS++[[dX e]]:=by simp[O3,eS]
   rw[R];exact cW.keep F.row λb i f=>u.other b (λC=>bg)
  .have R:O3 us key e p.1=us p.1:=if_neg d;rw[R];refine cW.keep (g.row p n) λb i f=>?_;obtain⟨o,ho⟩:=D p n b i f;rw[u.other b (λC=>by rw[C]at f;rw[g.fresh p n y i f]at H;cases H),ho];exact F.other b o ho (λj=>Q p n d b i j f)
 .rcases z p B with rfl|⟨n,_⟩
  .grind
  .exact g.fresh p n x i f
 .have M:∀p∈kk,p.1≠key->∀i j,p.2.a=some ⟨x,i,none⟩->E.a≠some ⟨x,j,none⟩:=λp B d i j f C=>by
   rcases F.fresh x j C with h|⟨j',h⟩
   .grind
   grind
  rcases z p B with rfl|⟨n,a3⟩<;>rcases z q hq with rfl|⟨S,a4⟩
  .exact d rfl
  .grind
  .grind
  .exact g.apart p n q S d x i j f C
 .have T:k≠key:=λf=>Z (mem_map.2 ⟨_,G,f.symm⟩);simp only[O3,if_neg T];exact g.none_ k λh=>Z (L k h)
 .rw[u.other x d];exact F.other x o (g.old x o O d) (λi f=>bg)
theorem nK.put{m0 B y kk us key s u e}{Q:MH->Prop}(g:nK m0 m y kk us)(C:∃o,m0 y=some o)(D:DH kk key s)(E:gK m B s u 65 1 ((us key).map eS++[[dX e]]))(L:∀m' F,nK m0 m' y F (O3 us key e)->Q m'):
 ∃(j:db)(Ok:Value->Prop),pU B y j/\KeyLaw Tryz.prog 9 Ok/\Ok (.string key)/\Instr.sameBits 10000 (Value.string key) (Value.string key)=true/\(∀e,List.Mem e j->Ok e.1)/\((∀e,List.Mem e j->e.1=Value.string key->False)->∀m':MH,j6 B m' y->pU m' y (j++[(Value.string key,dX u)])->Q m')/\
  ∀(G:db)(M:Value)(H:db),j=G++(Value.string key,M)::H->∀m':MH,j6 B m' y->pU m' y (G++(Value.string key,dX u)::H)->Q m':=by
 have I:∀i,s.a≠some ⟨y,i,none⟩:=λi n=>by
  obtain⟨o,O⟩:=C;rw[(D.row g).2 y i n]at O;cases O
 obtain⟨S,c,T,U,V,W⟩:=g.map_;refine⟨kk.map λp=>(Value.string p.1,dX p.2),_,⟨S,c,E.other _ _ T I,U,V,W⟩,Dh,⟨key,rfl⟩,WX key,λe X=>?_,λY m' d J=>?_,λG M H Z m' d J=>?_⟩
 .obtain⟨k,_,rfl⟩:=mem_map.1 (show e∈_ from X)
  grind
 .have a':key∉kk.map Prod.fst:=λh=>by
   obtain⟨p,hp,n⟩:=mem_map.1 h;subst n;exact Y _ (mem_map_of_mem (f:=λp:ByteArray×Sl=>(Value.string p.1,dX p.2)) hp) rfl
  refine L m' (kk++[(key,u)]) (g.core C D E bg d ?_ ?_ ay (λk hk=>bg))
  .rw[bu,nodup_append];refine⟨g.nodup,ay,λa ha b hb n=>?_⟩
   grind
  grind
 .obtain⟨k1,a0,e1,n,e3⟩:=map_eq_append_iff.1 Z;obtain⟨p,k2,e4,P,e6⟩:=map_eq_cons_iff.1 e3;subst e1 e4 n e6;simp only[Prod.mk.injEq,Value.string.injEq]at P;have z:=g.nodup;rw[bu,map_cons,P.1]at z;have A:=nodup_append.1 z;have R:=nodup_cons.1 A.2.1;refine L m' (k1++(key,u)::k2) (g.core C D E bg d bg ?_ ay (λk hk=>bg))
  grind
theorem nK.app{m0:MH}{hx:PH}{y c T kk us key s e}{Q:MH->Prop}(g:nK m0 m y kk us)(D:∃o,m0 y=some o)(E:∃o,m0 c=some o)(F:m c=some (.cells #[.map (some y)] T (0,0)))(J:(us key).length<=502633886983)(G:∀m' u,nK m0 m' y u (O3 us key e)->Q m')(z:DH kk key s):
 ∃xs:List cr,cW m (Sl.mk s.a s.len s.cap) 65 1 xs/\(xs.length+1)*24<=140737488355328/\xs.length<140737488355328/\∀(n:Sl)(f:MH),gK m f (Sl.mk s.a s.len s.cap) n 65 1 (xs++[[dX e]])->
  aL f hx c 0 [Value.map (some y)]/\aL f hx c 0 [Value.map (some y)]/\
 ∃(d:db)(Ok:Value->Prop),pU f y d/\KeyLaw Tryz.prog 9 Ok/\Ok (.string key)/\Instr.sameBits 10000 (Value.string key) (Value.string key)=true/\(∀e,List.Mem e d->Ok e.1)/\((∀e,List.Mem e d->e.1=Value.string key->False)->∀m':MH,j6 f m' y->pU m' y (d++[(Value.string key,dX n)])->Q m')/\
  ∀(A:db)(H:Value)(B:db),d=A++(Value.string key,H)::B->∀m':MH,j6 f m' y->pU m' y (A++(Value.string key,dX n)::B)->Q m':=by
 obtain⟨j,I⟩:=z.row g;refine⟨_,j,bf,bf,λn f C=>?_⟩
 have r:aL f hx c 0 [Value.map (some y)]:=.of_m (C.other c _ F λi L=>by
  grind) rfl
 exact⟨r,r,g.put D z C G⟩
theorem nK.get2{m0 y kk us key K0}{K:Sl->Prop}(g:nK m0 m y kk us)(n:DH kk key ⟨none,0,0⟩->K0)(o:∀s,DH kk key s->K s):
 ∃(d:List (Value×Sl))(Ok:Value->Prop),u6 m y (d.map λp=>(p.1,dX p.2))/\KeyLaw Tryz.prog 9 Ok/\Ok (.string key)/\(∀e,List.Mem e d->Ok e.1)/\((∀e,List.Mem e d->e.1=Value.string key->False)->K0)/\∀t,List.Mem (Value.string key,t) d->K t:=by
 obtain⟨u,c,z,A,_,_⟩:=g.map_;refine⟨kk.map λp=>(.string p.1,p.2),_,⟨u,c,z,by rw[A];simp⟩,Dh,⟨key,rfl⟩,λe B=>?_,λC=>n (.inl ⟨rfl,λh=>?_⟩),λt D=>o t (.inr ?_)⟩
 .obtain⟨k,_,rfl⟩:=mem_map.1 (show e∈_ from B)
  grind
 .obtain⟨p,j,e⟩:=mem_map.1 h;subst e;exact C (.string p.1,p.2) (mem_map_of_mem (f:=λp:ByteArray×Sl=>(Value.string p.1,p.2)) j) rfl
 .obtain⟨p,j,e⟩:=mem_map.1 (show(Value.string key,t)∈_ from D)
  grind
structure N4(m0 m:MH)(h:PH)(y:Nat)(f:ByteArray->ct):Prop where
 ex:∃kk us,nK m0 m y kk us/\∀k,fA h (us k) (f k)
theorem N4.upd{m0 y kk us}{f:ByteArray->ct}{c key e r}(g:nK m0 m' y kk (O3 us key e))(j:∀k,fA h (us k) (f k))(n:bS h e r)(o:c key=f key++[r])(u:∀k,k≠key->c k=f k):N4 m0 m' h y c:=by
 refine⟨kk,_,g,λk=>?_⟩;by_cases d:k=key
 .subst d;rw[o];have:O3 us k e k=us k++[e]:=if_pos rfl;rw[this];exact(j k).snoc n
 .rw[u k d];have:O3 us key e k=us k:=if_neg d
  grind
def wN cols r:=(pick r cols).all pW
def kL(on:cw)(b:ct)(x:da):=
 if wN (jH on) x then(b.filter λy=>wN (eU on) y&&agree on x y).map (x++ ·)else[]
def Xv(q:Query)(ls:List ct):=match q with|.mk _ _ _ _ on _ _ _ _=>(ls.getD 0 []).flatMap (kL on (ls.getD 1 []))
def MS(q:Query)(ls:List ct):=match q with|.mk _ _ _ _ on _ _ _ _=>cgJ on ls/\(ls.getD 0 []).length*(ls.getD 1 []).length<=8000000
theorem vF{α β:Type}{f:α->List β}{n:Nat}:∀{l:List α},(∀x∈l,(f x).length<=n)->(l.flatMap f).length<=l.length*n
 |[],_=>ay
 |a::l,h=>by
  have d:=h a (mem_cons_self ..);have e:=vF (l:=l) λx c=>h x (mem_cons_of_mem _ c);simp only[flatMap_cons,br,ci,Nat.add_mul,Nat.one_mul];omega
theorem tS{α β}{l:List α}{k x}(f:α->List β)(hx:l[k]? =some x):(l.take (k+1)).flatMap f=(l.take k).flatMap f++f x:=by
 rw[cd,hx];simp
theorem yR{on b x}:(kL on b x).length<=b.length:=by
 unfold kL;grind
def under(κ:da->ByteArray)(cols:cq)(l:ct)(key:ByteArray):=l.filter λz=>wN cols z&&decide (κ (pick z cols)=key)
theorem AH{κ cols}{l:ct}{k r}(c:l[k]? =some r) key:under κ cols (l.take (k+1)) key=under κ cols (l.take k) key++(if wN cols r&&decide (κ (pick r cols)=key)then[r]else[]):=jZ _ c
theorem adJ:cm 217 (WA MS Xv):=by
 refine JG func217 ?_;rintro f4 m h K ⟨v,t,q,bs,ls,rfl,hq,ha,hT,d9,hK⟩;refine⟨bLZ,rfl,aE RD (aE GR (aE aaJ (aE RL aH))),Nr v t m h (cQ h K),ax,?_⟩;show Nr v t m h (cQ h K);dsimp only[Nr,push_cast];obtain⟨op,ta,w,co,on,gr,od,li,args⟩:=q;obtain⟨⟨h2,wa,wb,F,d,e',c4⟩,c5⟩:=d9;refine⟨v.on,on,rfl,hq.parts.on_,λsa sb h1 R c6 c7=>WQ λb1 b2 y b7 m7 S=>?_⟩;obtain⟨b,e0,x,ea,f5,rd,sq⟩:=ha.get (Hf (i:=1) aC);obtain⟨b6,c8,x6,e4,f1,e5,c9⟩:=ha.get (Hf (i:=0) aC);obtain⟨d',b4,a'⟩:=(sq.mono R).ex;obtain⟨us,d0,b5⟩:=(c9.mono R).ex;simp only[Xv]at hK;generalize ls.getD 1 []=C at a' d hK sq c5;generalize ls.getD 0 []=l at b5 F hK c9 c5;have e6:=b5.len;have f6:=F.len;have f2:=d.len;have d1:=a'.len;have s7:=S.sub;have ny:=S.free;have b3:∀{Y kk us},nK m7 Y y kk us->Sub m Y:=λg z o D=>g.old z o (s7 z o D) (λe3=>bg);refine⟨b,e0,ea,aC,aC,x,.imm (rd.mono R),AV,d',λk Y hx=>hx=h1/\N4 m7 Y h1 y (under fI (eU on) (C.take k)),Ak,⟨x,d',rfl,b4,rfl⟩,⟨rfl,⟨[],_,nK.new S.y_,λk=>by simpa[under]using fA.nil h1⟩⟩,?_,?_⟩
 .rintro k e Y hx hk-⟨rfl,⟨kk,uk,g,hg⟩⟩
  obtain⟨r,hr,hv⟩:=a'.at' hk;have L:=bo hr;have T:jM r.length (eU on):=by rw[d.wid r L];exact c4
  have mc:=g.old b7 _ S.c_ S.yc;have E:aL Y hx b7 0 [Value.map (some y)]:=.of_m mc rfl;have rb:aL Y hx b2 0 [dX sb]:=.of_m (g.old b2 _ S.b_ S.yb) rfl;refine⟨sb,rb,e,sb,r,eU on,rfl,hv,c7,T,aD (λc=>?_) (λc=>?_)⟩
  .have hl:(uk (fI (pick r (eU on)))).length<=502633886983:=by
    have h5:=(hg (fI (pick r (eU on)))).len;have h6:(under fI (eU on) (C.take k) (fI (pick r (eU on)))).length<=(C.take k).length:=length_filter_le _ _
    grind
   have app:=fun{s:Sl}=>g.app (hx:=hx) (e:=e) (s:=s) (Q:=λm'=>hx=hx/\N4 m7 m' hx y (under fI (eU on) (C.take (k+1)))) ⟨_,S.y_⟩ ⟨_,S.c_⟩ mc hl (λm' f7 g'=>⟨rfl,N4.upd g' hg hv (by rw[AH hr,if_pos];simpa[wN]using c) (λk2 f8=>by rw[AH hr,if_neg,append_nil];grind)⟩);exact⟨sb,rb,e,sb,r,eU on,rfl,hv,c7,d.row r L,T,hT.sub (b3 g),y,E,y,E,⟨E,g.get2 (λU=>⟨E,E,E,E,app U⟩) (λs U=>⟨E,E,E,E,app U⟩)⟩,E,E,E,g.get2 (λU=>⟨E,E,app U⟩) (λs U=>⟨E,E,app U⟩)⟩
  .refine⟨rfl,⟨kk,uk,g,λk2=>?_⟩⟩;rw[AH hr,if_neg,append_nil]
   .exact hg k2
   .simp[wN,c]
 .rintro Y hx-⟨rfl,gr⟩ Z m5 d2 a0;rw[d1,take_length]at gr
  have V:∀{z o},Y z=some o->m5 z=some o/\z≠Z:=fun{z o} D=>by
   have:z≠Z:=λe3=>by rw[e3,d2.m_]at D;cases D
   exact⟨by rw[a0.other z this];exact D,this⟩
  have s5:Sub m Y:=by
   obtain⟨kk,uk,g,_⟩:=gr.ex;exact b3 g
  obtain⟨s6,n7⟩:=iT s5 d2 a0;obtain⟨kk,uk,g,hg⟩:=gr.ex;refine⟨b6,c8,e4,aC,aC,x6,.imm (e5.mono R),AV,us,λk my hy=>PH.le hx hy/\FA m5 my Z/\∃M,sK m5 my Z M/\fA hy M ((l.take k).flatMap (kL on C)),Ak,⟨x6,us,rfl,d0,rfl⟩,⟨.refl _,λz o e _=>e,[],sK.new a0.at_,bk (fA.nil hx)⟩,?_,?_⟩
  .rintro k e my hy hk-⟨le,O,M,J,a6⟩
   obtain⟨r,hr,hv⟩:=b5.at' hk;have f9:=(bm hk);have L:=bo hr;have d3:∀z o,Y z=some o->my z=some o:=λz o D=>O z o (V D).1 (V D).2;have g7:=g.keep d3;have E:aL my hy b7 0 [Value.map (some y)]:=.of_m (g7.old b7 _ S.c_ S.yc) rfl;have r3:aL my hy b1 0 [dX sa]:=.of_m (g7.old b1 _ S.a_ S.ya) rfl;have T:jM r.length (jH on):=by rw[F.wid r L];exact e'
   have c':=bS.mono hv le;refine⟨sa,r3,e,sa,r,jH on,rfl,c',c6.mono le,T,aD (λc=>?_) (λc=>?_)⟩
   .refine⟨le,O,M,J,?_⟩;have:kL on C r=[]:=if_neg (by simpa[wN]using c);rw[tS _ hr,this,append_nil];exact a6
   .have c:(pick r (jH on)).all pW=true:=bg
    have e9:under fI (eU on) C (fI (pick r (jH on)))=C.filter λy=>wN (eU on) y&&agree on r y:=by
     refine filter_congr λz hz=>?_;congr 1;have h5:=C6 Rc (F.row r L) (d.row z hz) T (by rw[d.wid z hz];exact c4)
     grind
    have a7:kL on C r=(under fI (eU on) C (fI (pick r (jH on)))).map (r++ ·):=by rw[e9];exact if_pos (by simpa[wN]using c)
    have d4:((l.take k).flatMap (kL on C)).length+(under fI (eU on) C (fI (pick r (jH on)))).length<=8000000:=by
     have h5:((l.take (k+1)).flatMap (kL on C)).length<=(l.take (k+1)).length*C.length:=vF λx _=>yR;rw[tS _ hr,br,a7,length_map]at h5;have h6:(l.take (k+1)).length*C.length<=l.length*C.length:=Nat.mul_le_mul_right _ bg;omega
    have f3:∀s,DH kk (fI (pick r (jH on))) s->cW Y s 65 1 ((uk (fI (pick r (jH on)))).map eS):=λs U=>(U.row g).1;generalize hG:under fI (eU on) C (fI (pick r (jH on)))=G at a7 d4;have a8:=hg (fI (pick r (jH on)));rw[hG]at a8;have d5:=a8.len;refine⟨y,E,sa,r3,E,e,sa,r,jH on,rfl,c',c6.mono le,F.row r L,T,hT.sub (s6.x n7 O),E,r3,g7.get2 (λU=>?_) (λs U=>?_)⟩
    .refine⟨λz=>z.1<=G.length/\z.2.1=Z/\z.2.2.1=e/\z.2.2.2.1=(⟨none,0,0⟩:Sl)/\PH.le hy z.2.2.2.2.2/\FA m5 z.2.2.2.2.1 Z/\∃n,sK m5 z.2.2.2.2.1 Z n/\fA z.2.2.2.2.2 n ((l.take k).flatMap (kL on C)++(G.take z.1).map (r++ ·)),λz=>G.length-z.1,⟨(0,Z,e,(⟨none,0,0⟩:Sl),my,hy),⟨ay,rfl,rfl,rfl,.refl _,O,M,J,bg⟩,MT⟩,?_⟩;rintro⟨i,bb,ee,gg,mz,hz⟩ ⟨hi,e1,D,e3,H,I,n,f,W⟩;dsimp only at hi e1 D e3 H I f W;subst e1 D e3;have gz:=g.keep (λz o D=>I z o (V D).1 (V D).2);have A:=(U.row gz).1;have c0:=A.slen;rw[length_map,d5]at c0;refine aF (λa1=>?_) (λc1=>?_)
     .dsimp only at a1⊢
      have a9:i<G.length:=by omega
      obtain⟨u,hu,d6⟩:=a8.at_ i _ (bn a9);obtain⟨b8,e8,f'⟩:=A.rd (h:=hz) (i:=i) (e:=[dX u]) aC;obtain⟨so,a2,P,a3⟩:=f.ex;have B:∀hh,aL mz hh bb 0 [dX so]:=λhh=>.of_m a2 rfl;have a4:=W.len;simp only[br,length_map,length_take]at a4;refine⟨b8,0,e8,aC,aC,u,aC,so,B _,B _,B _,λs2 h3 X b'=>⟨s2,[r,G[i]],rfl,?_,ay,?_,λsl h4 b0 d7=>⟨B _,B _,KL ⟨_,a0.at_⟩ I a2 P a3 aC (λm' c2 c3=>⟨(i+1,bb,ee,⟨none,0,0⟩,m',h4),⟨aC,rfl,rfl,rfl,H.trans (X.trans b0),c2,n++[sl],c3,?_⟩,aC,?_⟩)⟩⟩⟩
      .omega
      .omega
      .omega
      omega
     .dsimp only at c1⊢
      have:i=G.length:=bg
      subst this;refine⟨le.trans H,I,n,f,?_⟩;rw[tS _ hr,a7]
      grind
    .refine⟨λz=>z.1<=G.length/\z.2.1=Z/\z.2.2.1=e/\z.2.2.2.1=s/\PH.le hy z.2.2.2.2.2/\FA m5 z.2.2.2.2.1 Z/\∃n,sK m5 z.2.2.2.2.1 Z n/\fA z.2.2.2.2.2 n ((l.take k).flatMap (kL on C)++(G.take z.1).map (r++ ·)),λz=>G.length-z.1,⟨(0,Z,e,s,my,hy),⟨ay,rfl,rfl,rfl,.refl _,O,M,J,bg⟩,MT⟩,?_⟩;rintro⟨i,bb,ee,gg,mz,hz⟩ ⟨hi,e1,D,e3,H,I,n,f,W⟩;dsimp only at hi e1 D e3 H I f W;subst e1 D e3;have gz:=g.keep (λz o D=>I z o (V D).1 (V D).2);have A:=(U.row gz).1;have c0:=A.slen;rw[length_map,d5]at c0;refine aF (λa1=>?_) (λc1=>?_)
     .dsimp only at a1⊢
      have a9:i<G.length:=by omega
      obtain⟨u,hu,d6⟩:=a8.at_ i _ (bn a9);obtain⟨b8,e8,f'⟩:=A.rd (h:=hz) (i:=i) (e:=[dX u]) (by rw[getElem?_map,hu];rfl);obtain⟨so,a2,P,a3⟩:=f.ex;have B:∀hh,aL mz hh bb 0 [dX so]:=λhh=>.of_m a2 rfl;have a4:=W.len;simp only[br,length_map,length_take]at a4;refine⟨b8,0,e8,aC,aC,u,bg,so,B _,B _,B _,λs2 h3 X b'=>⟨s2,[r,G[i]],rfl,?_,ay,?_,λsl h4 b0 d7=>⟨B _,B _,KL ⟨_,a0.at_⟩ I a2 P a3 aC (λm' c2 c3=>⟨(i+1,bb,ee,gg,m',h4),⟨aC,rfl,rfl,rfl,H.trans (X.trans b0),c2,n++[sl],c3,?_⟩,aC,?_⟩)⟩⟩⟩
      .refine fA.rows (us:=[ee,u]) ?_ b' ay;refine⟨rfl,λj z hj=>?_⟩
       match j,hj with
       |0,hj=>
        simp at hj;subst hj;exact⟨ee,rfl,bS.mono c' (H.trans X)⟩
       |1,hj=>
        simp at hj;subst hj;exact⟨u,rfl,bS.mono d6 (le.trans (H.trans X))⟩
      .intro z a5;have a5:z∈[r,G[i]]:=a5;rcases mem_cons.1 a5 with rfl|a5
       .exact(F.row _ L).len
       .have e7:=mem_singleton.1 a5
        have:z∈C:=by
         grind
        exact(d.row _ this).len
      .have e7:(G.take (i+1)).map (r++ ·)=(G.take i).map (r++ ·)++[r++G[i]]:=by rw[cd,bn a9,bu];rfl
       rw[e7, <-append_assoc];exact(W.mono (X.trans b0)).snoc bg
      .dsimp only;exact⟨rfl,rfl,rfl,rfl,by rw[iY aC],rfl,rfl,trivial⟩
     .dsimp only at c1⊢
      have:i=G.length:=by omega
      subst this;refine⟨le.trans H,I,n,f,?_⟩;rw[tS _ hr,a7]
      grind
  .rintro my hy g0 ⟨le,O,M,J,a6⟩;rw[e6,take_length]at a6;obtain⟨s,hb,A,f0⟩:=J.ex;refine⟨s,.of_m hb rfl,cQ.row (s6.x n7 O) (R.trans le) A (λj z e=>?_) (λh' d8 b'=>hK s h' (R.trans (le.trans d8)) ((a6.mono d8).rows b' ?_))⟩
   .cases D:m z with
    |none=>rfl
    |some o=>have e1:=f0 j z e;rw[s6 z o D]at e1;cases e1
   .have h5:(l.flatMap (kL on C)).length<=l.length*C.length:=vF λx _=>yR;omega
noncomputable def bJJ:=V5 [(248,b8Z),(135,b3Z)] [(7,{A:=Nat×Nat×Nat×MH×PH,st:=λ⟨b,c,r,m,h⟩=>bZ 35 37 [(2,vv (.pointer (some ⟨b,0,none⟩))),(5,vv (.pointer (some ⟨c,0,none⟩))),(26,vv (.pointer (some ⟨r,0,none⟩)))] [] m h})] [] [200002,200005,1058,400000,0]
abbrev Lf(a:MH)(b:Nat)(c:PH)(d:Nat->MH->Prop):=∃(x:db),lC (pU a b x) (λe=>∀(f:MH),bF (cK a c e) (j6 a f e) (mL f b e x x->d e f))
abbrev PG(a:(Nat×Nat×Nat×MH×PH->Prop)->(Nat×Nat×Nat×MH×PH)->Prop)(b:(Nat×Nat×Nat×MH×PH->Prop)->(Nat×Nat×Nat×MH×PH->Nat)->(Nat×Nat×Nat×MH×PH)->Prop):=∃(x:Nat×Nat×Nat×MH×PH->Prop)(d:Nat×Nat×Nat×MH×PH->Nat),(∃(c:Nat×Nat×Nat×MH×PH),a x c)/\∀(c:Nat×Nat×Nat×MH×PH),b x d c
noncomputable abbrev fT(a:Nat×Nat×Nat×MH×PH):=a.2.1
noncomputable abbrev fS(a:Nat×Nat×Nat×MH×PH):=a.2.2.1
noncomputable abbrev fK(a:Nat×Nat×Nat×MH×PH):=a.2.2.2
abbrev ZP(a:Nat->db->db->Prop):=∃(x:Nat)(c d:db),a x c d
abbrev Le(a:Prop)(b:Nat->Option Obj)(c:Nat)(d:Prop)(e:MH->Prop):=a->ZP (λx j f=>aA (mL b x c j f) (f=[]->d) (∀(n:db)(o:Value×Value)(u:db),f=n++o::u->∀(g:MH),bF (j6 b g c) (Es g x c j (n++u) o) (e g)))
noncomputable abbrev lM a:=(fK a).1
noncomputable abbrev jV a:=(fK a).2
abbrev QT(a:Nat->db->db->(Value×Value)->Prop):=ZP (λx c d=>∃(e:Value×Value),a x c d e)
attribute [push_cast] Lf PG fT fS fK ZP Le lM jV QT
def Nj(v:QV)(u:Nat)(m:MH)(h:PH)(K:cn):=
  ∀(b:Nat)(V:MH),bF (cK m h b) (bL m V b v.enc 41) (xO V h (λY W=>∀(j:Nat)(Q:MH),bF (cK W h j) (bL W Q j (oW EI) 160) (jN (λc E=>aA (yP Q j (gO c E 0)) (0<c.size) (∀(X:MH),bL Q X j (fE (Dt Y) 1 c) E->∃(S:PH->cr->List cr->Prop),xN S h u X (λx I k e=>Ix x k e h I (λn d y=>aL n d b 17 (aM y)/\∃(s:Sl),AN (λt r A=>aA (cJ e y=cJ s t) (bS d s r) (aA (Ints d t A) (Pb r) (aA (AM r A) (eD n) (∃(f:Nat),aL n d j 0 (oI f)/\∃(D:Nat),aA (dM n d j D) (aL n d j 0 (oI f)/\tJ n D (λO=>O (dQ r A)) (dQ r A) (aA (dM n d j f) (dM n d j D) (aA (dM n d j f) (dM n d j D) (∃(B:List cr),F3 n B
 e (λF z=>aA (dM z d j f) (dM z d j D) (rM z f (λO=>O (dQ r A)) (dQ r A) (λJ=>∀(g:MH),bF (j6 z g f) (pU g f (gZ J (dQ r A) (dX F) [])) (I (k+1) g d)) (λl G C=>gZ l (dQ r A) G C) (λl C=>∀(g:MH),bF (j6 z g f) (pU g f (gZ l (dQ r A) (dX F) C)) (I (k+1) g d))))))) (λM=>aA (dM n d j f) (dM n d j D) (aA (dM n d j f) (dM n d j D) (∃(B:List cr),aI (cW n (dO M) 65 1 B) (kP B) (dR B) (jY (λF z=>gK n z (dO M) F 65 1 (dN B (aM e))->aA (dM z d j f) (dM z d j D) (rM z f (λO=>O (dQ r A)) (dQ r A) (λJ=>∀(g:MH),bF (j6 z g f) (pU g f (gZ J (dQ r A) (dX F) [])) (I (k+1) g d))
 (λl G C=>gZ l (dQ r A) G C) (λl C=>∀(g:MH),bF (j6 z g f) (pU g f (gZ l (dQ r A) (dX F) C)) (I (k+1) g d))))))))) (aA (dM n d j f) (dM n d j D) (aL n d j 0 (oI f)/\tJ n D (λO=>O (dQ r A)) (dQ r A) (Dv (dM n d j f) (dM n d j D) (λB=>F3 n B e (λF z=>aA (dM z d j f) (dM z d j D) (rM z f (λO=>O (dQ r A)) (dQ r A) (λJ=>∀(g:MH),bF (j6 z g f) (pU g f (gZ J (dQ r A) (dX F) [])) (I (k+1) g d)) (λl G C=>gZ l (dQ r A) G C) (λl C=>∀(g:MH),bF (j6 z g f) (pU g f (gZ l (dQ r A) (dX F) C)) (I (k+1) g d)))))) (λM=>Dv (dM n d j f) (dM n d j D) (λB=>aI (cW n (dO M) 65 1 B) (kP
 B) (dR B) (jY (λF z=>gK n z (dO M) F 65 1 (dN B (aM e))->aA (dM z d j f) (dM z d j D) (rM z f (λO=>O (dQ r A)) (dQ r A) (λJ=>∀(g:MH),bF (j6 z g f) (pU g f (gZ J (dQ r A) (dX F) [])) (I (k+1) g d)) (λl G C=>gZ l (dQ r A) G C) (λl C=>∀(g:MH),bF (j6 z g f) (pU g f (gZ l (dQ r A) (dX F) C)) (I (k+1) g d))))))))))))))) (λn d=>∃(y:Nat),aL n d j 0 (oI y)/\Lf n y d (λr z=>PG (λI x=>aA (I x) (bY b x.1) (aA (bY j (fT x)) (bY r (fS x)) (aA (bW z (fK x)) (eH d (fK x)) True))) (λI g x=>Le (I x) (lM x) (fS x) (∃(f:Nat),aL (lM x) (jV x) (fT x) 0 (oI f)/\K (CV.val (Dt f)) (lM x) (jV x))
 (λP=>QT (λZ k l B=>Es P Z (fS x) k l B/\∃(s:Sl)(R:Nat)(G:QV)(o:cv)(w:Nat)(p:dm),aA (gC (CV.val B.2) (mR 264 (Ca x.1))=gT s (mR 264 (Ca R))) (P R=Option.some (gO (Array.mk G.enc) 41 0)) (aA (∀(i:Nat),mS (aW s.a R i)) (jC (jV x) G.order o) (aA (F2 P s p) (∀(H:Sl×da),List.Mem H p->bS (jV x) H.1 H.2) (aA (∀(H:Sl×da),List.Mem H p->H.2.length=w) (oC p.length) (∀(H:dm)(T:MH),bF (List.Perm H p) (List.Pairwise (fun(p2:Sl×da)=>fun(q:Sl×da)=>¬(jR o q.2 p2.2<0)) H) (bF (F2 T s H) (∀(U:Nat),(∀(i:Nat),mS (aW s.a U i))->T U=P U) (∃(L:Nat×Nat×Nat×MH×PH),aA (I L) (g L<g x) (aA (bY x.1 L.1)
 (bY (fT x) (fT L)) (aI (bY (fS x) (fS L)) (bW T (fK L)) (dC (fK x) (fK L)) True))))))))))))))))))
def mK(κ:da->ByteArray)(gr:cq)(l:ct)(k:ByteArray):=l.filter λz=>decide (κ (pick z gr)=k)
def tU(od:cv)(l:ct):=l.Pairwise λa b=>¬jR od b a<0
structure sM(κ:da->ByteArray)(m:MH)(h:PH)(y:Nat)(gr:cq)(od:cv)(l:ct)(kk:dr)(g:ByteArray->ct):Prop where
 map_:pU m y (kk.map λp=>(Value.string p.1,dX p.2))
 nodup:(kk.map Prod.fst).Nodup
 rows:∀p∈kk,Rows h p.2 (g p.1)
 none_:∀k,k∉kk.map Prod.fst->g k=[]
 perm:∀k,(g k).Perm (mK κ gr l k)
 sort:∀k,tU od (g k)
def Wq:Vc.Spec:=λc m h K=>∃v u gr od l w,c=[aQ v,.val (.func (.func 214) #[] #[.pointer (some ⟨u,0,none⟩)])]/\Ints h v.group gr/\jC h v.order od/\SK h u l/\iL w l/\jM w gr/\eD m/\
 ∀y d e f g,m y=none->(∀b,b≠y->d b=m b)->PH.le h e->sM fI d e y gr od l f g->K (.val (.map (some y))) d e
structure caZ(m:MH)(h:PH)(od:cv)(p:ByteArray×Sl)(f:ByteArray->ct)(st:Prop):Prop where
 ex:∃ps:dm,cW m p.2 65 1 (ps.map λq=>eS q.1)/\(∀q∈ps,bS h q.1 q.2)/\(ps.map Prod.snd).Perm (f p.1)/\(st->tU od (ps.map Prod.snd))
noncomputable def leftOf(m:MH)(r:Nat):Nat:=match m r with
 |some (.mapIter (some b) _ c _)=>(match m b with|some (.map d _)=>(d.toList.filter λe=> !c.contains e.born).length|_=>0)
 |_=>0
theorem mL.left_{r d left}(i:mL m b r d left):leftOf m r=left.length:=by
 obtain⟨n,c,e,f,o,g,_,_,_,j,_,_,_,u⟩:=i.ex;simp only[leftOf,j,g]
 grind
theorem mL.mem{r d left}(i:mL m b r d left){x}(hx:x∈left):x∈d:=by
 obtain⟨g,c,e,f,j,n,o,_,_,u,_,_,_,y⟩:=i.ex
 grind
theorem mL.keep{r e left}(i:mL m b r e left)(n:m' b=m b)(o:m' r=m r):mL m' b r e left:=by
 obtain⟨g,c,d,f,j,u,y⟩:=i.ex;exact⟨g,c,d,f,j,bg,bg⟩
theorem mL.nodup{r d left}(i:mL m b r d left)(g:d.Nodup):left.Nodup:=by
 obtain⟨j,c,e,f,n,o,u,_,_,y,_,_,_,z⟩:=i.ex
 grind
theorem cEZ{us rs}(c:fA h us rs):∃ps:dm,ps.map Prod.fst=us/\ps.map Prod.snd=rs/\∀q∈ps,bS h q.1 q.2:=by
 refine⟨us.zip rs,map_fst_zip (Nat.le_of_eq c.len),map_snd_zip (Nat.le_of_eq c.len.symm),λq e=>?_⟩;obtain⟨i,d⟩:=mem_iff_getElem?.1 e;rw[getElem?_zip_eq_some]at d;obtain⟨u,f,g⟩:=c.at_ i _ d.2
 grind
theorem cW.ice{s}{us:cu}(n:cW m s 65 1 (us.map eS))(F:∀b c,s.a=some ⟨b,0,none⟩->m b=some (.cells c 65 (0,0))->∀i,h b i=c[i]?):dD h s 1 (us.map eS):=by
 rcases n.ex with⟨rfl,f⟩|⟨b,y,c,rfl,G,z,H,I,J⟩
 .rw[f];exact dD.nil _ _
 .refine⟨ay,?_,z⟩;by_cases A:us.map eS=[]
  .exact .inl A
  .refine .inr ⟨b,0,rfl,λi e d=>⟨λj v o=>?_⟩⟩;have B:=n.rows.len e (bo d);have C:j=0:=bg
   subst C;have D:=(bm d)
   have L:((us.map eS).flatten)[i]? =some v:=by
    rw[getElem?_map]at d;cases g:us[i]? with
    |none=>grind
    |some u=>
     rw[g]at d;simp at d;subst d;simp[eS]at o;subst o
     have:∀l:cu,(l.map eS).flatten=l.map λu=>Value.slice u.a u.len u.cap:=λl=>by
      induction l with
      |nil=>rfl
      |cons a l E=>simp only[map_cons,flatten_cons,E];rfl
     grind
   grind
theorem VT{kk:dr}(d:(kk.map Prod.fst).Nodup){p q}(c:p∈kk)(f:q∈kk)(e:p.1=q.1):p=q:=by
 induction kk with
 |nil=>cases c
 |cons a kk g=>
  grind
theorem OL{κ:da->ByteArray}{M Q:MH}{E u y r l kk X}(R:Sub m M)(ny:m y=none)(m4y:M y=some (.map #[] 0))(g:nK M Q y kk X)(hg:∀k,fA u (X k) (mK κ gr l k))(le:PH.le h u)(a0:l.length<=8000000)(S:∀b o,Q b=some o->(∀p∈kk,∀i,p.2.a≠some ⟨b,i,none⟩)->E b=some o)(T:mL E y r (kk.map λp=>(Value.string p.1,dX p.2)) [])(A:∀p∈kk,caZ E u od p (mK κ gr l) ((Value.string p.1,dX p.2)∉([]:db)))(hK:∀y m2 d kk g,m y=none->(∀b,b≠y->m2 b=m b)->PH.le h d->sM κ m2 d y gr od l kk g->K (.val (.map (some y))) m2 d):cQ h K (.val (.map (some y))) E u:=by
 intro hd;have C:∀b o,M b=some o->∀p∈kk,∀i,p.2.a≠some ⟨b,i,none⟩:=λb o e p f i H=>by rw[g.fresh p f b i H]at e;cases e
 have J:Sub m Q:=λz o H=>g.old z o (R z o H) (λe3=>bg)
 classical
 let B:Nat->Prop:=λb=>∃p∈kk,p.2.a=some ⟨b,0,none⟩
 have hB:∀b,B b->m b=none/\b≠y/\∀i,u b i=none:=by
  rintro b ⟨p,f,e⟩;obtain⟨ps,I,_⟩:=(A p f).ex;refine⟨?_,λH=>?_,hd b _ (I.blk e).choose_spec⟩
  .cases H:m b with
   |none=>rfl
   |some o=>exact(C b o (R b o H) p f 0 e).elim
  grind
 let d:PH:=λb i=>if B b then(match E b with|some (.cells cs _ _)=>cs[i]? |_=>none)else u b i
 have F:PH.le u d:=⟨λb i v e=>by
  grind⟩
 have a1:∀p∈kk,∃G,Rows d p.2 G/\G.Perm (mK κ gr l p.1)/\tU od G:=λp f=>by
  obtain⟨ps,I,Y,Z,L⟩:=(A p f).ex;refine⟨ps.map Prod.snd,?_,Z,L ay⟩;have e5:(ps.map λq=>eS q.1)=(ps.map Prod.fst).map eS:=by rw[map_map];rfl
  rw[e5]at I
  have U:dD d p.2 1 ((ps.map Prod.fst).map eS):=cW.ice I λb a2 ea hm i=>by
   show(if B b then _ else u b i)=_;rw[if_pos ⟨p,f,ea⟩,hm]
  refine fA.rows (us:=ps.map Prod.fst) ⟨ay,λj x O=>?_⟩ U ?_
  .rw[getElem?_map]at O;cases P:ps[j]? with
   |none=>grind
   |some q=>
    rw[P]at O;have O:q.2=x:=bg
    exact⟨q.1,bg,O▸bS.mono (Y q (bo P)) F⟩
  .have:=Z.length_eq;have h6:(mK κ gr l p.1).length<=l.length:=length_filter_le _ _;omega
 let G:ByteArray->ct:=λk=>if e:∃p G,p∈kk/\p.1=k/\Rows d p.2 G/\G.Perm (mK κ gr l p.1)/\tU od G then e.choose_spec.choose else[]
 have hG:∀p∈kk,Rows d p.2 (G p.1)/\(G p.1).Perm (mK κ gr l p.1)/\tU od (G p.1):=λp f=>by
  have V:∃n G,n∈kk/\n.1=p.1/\Rows d n.2 G/\G.Perm (mK κ gr l n.1)/\tU od G:=by
   grind
  have P:G p.1=V.choose_spec.choose:=dif_pos V;rw[P];obtain⟨L,h6,h7⟩:=V.choose_spec.choose_spec
  have tr:∀n G',n∈kk->n.1=p.1->(Rows d n.2 G'/\G'.Perm (mK κ gr l n.1)/\tU od G')->Rows d p.2 G'/\G'.Perm (mK κ gr l p.1)/\tU od G':=λn G' I d Y=>by
   have e7:=VT g.nodup I f d
   grind
  exact tr _ _ L h6 h7
 have hN:∀k,k∉kk.map Prod.fst->G k=[]/\mK κ gr l k=[]:=λk D=>by
  refine⟨dif_neg ?_,?_⟩
  .grind
  .have L:=(hg k).len;rw[g.none_ k D]at L
   grind
 obtain⟨es,c,W,a',c0,i1,i2,i3,i4,_⟩:=T.ex;refine⟨λb=>if b=y then E y else m b,d,λb o e=>?_,le.trans F,λb i v' e=>?_,hK y _ d kk G ny (λb hb=>if_neg hb) (le.trans F) ⟨⟨es,c,(if_pos rfl).trans i1,i2,i3,i4⟩,g.nodup,λp f=>(hG p f).1,λk D=>(hN k D).1,λk=>?_,λk=>?_⟩⟩
 .have e:(if b=y then E y else m b)=some o:=e;split at e
  .grind
  .exact S b o (J b o e) (C b o (R b o e))
 .have e:(if B b then _ else u b i)=some v':=e;split at e
  .grind
  grind
 .by_cases D:k∈kk.map Prod.fst
  .obtain⟨p,f,rfl⟩:=mem_map.1 D
   grind
  grind
 .by_cases D:k∈kk.map Prod.fst
  .obtain⟨p,f,rfl⟩:=mem_map.1 D
   grind
  .rw[(hN k D).1];exact List.Pairwise.nil
theorem OK{κ:da->ByteArray}{W L M O:MH}{Y:PH}{y r w:Nat}{gr:cq}{od:cv}{l kk uk left Z l2 x}(m4y:W y=some (.map #[] 0))(g:nK W L y kk uk)(P:iL w l)(a5:L r=none)(a6:∀b o,L b=some o->(∀p∈kk,∀i,p.2.a≠some ⟨b,i,none⟩)->M b=some o)(Q:mL M y r (kk.map λp=>(Value.string p.1,dX p.2)) left)(D:∀p∈kk,caZ M Y od p (mK κ gr l) ((Value.string p.1,dX p.2)∉left))(a':left=Z++x::l2)(C:j6 M O r)(a0:Es O y r (kk.map λp=>(Value.string p.1,dX p.2)) (Z++l2) x):
 ∃(c:ByteArray×Sl)(ps:dm),x=(Value.string c.1,dX c.2)/\(∀b o,W b=some o->b≠y->O b=some o/\∀i,c.2.a≠some ⟨b,i,none⟩)/\cW O c.2 65 1 (ps.map λp:Sl×da=>eS p.1)/\(∀p∈ps,bS Y p.1 p.2)/\(∀p∈ps,p.2.length=w)/\ps.length<=l.length/\
  ∀(n:dm)(E:MH),n.Perm ps->n.Pairwise (λp q=>¬jR od q.2 p.2<0)->cW E c.2 65 1 (n.map λp=>eS p.1)->(∀b,(∀i,c.2.a≠some ⟨b,i,none⟩)->E b=O b)->
   (∀b o,L b=some o->(∀p∈kk,∀i,p.2.a≠some ⟨b,i,none⟩)->E b=some o)/\(∃left,mL E y r (kk.map λp=>(Value.string p.1,dX p.2)) left/\∀p∈kk,caZ E Y od p (mK κ gr l) ((Value.string p.1,dX p.2)∉left))/\leftOf E r<leftOf M r:=by
 have G:∀p∈kk,∀x i,p.2.a=some ⟨x,i,none⟩->∃o,L x=some o:=λp B x i X=>⟨_,((g.row p B).blk X).choose_spec⟩
 have H:∀{z o},L z=some o->z≠r:=fun{z o} X e3=>bg
 have a1:x∈left:=bg
 obtain⟨c,d,rfl⟩:=mem_map.1 (mL.mem Q a1);obtain⟨ps,h1,h3,h4,h5⟩:=(D c d).ex;have F:∀b o,W b=some o->∀p∈kk,∀i,p.2.a≠some ⟨b,i,none⟩:=λb o e p B i X=>by rw[g.fresh p B b i X]at e;cases e
 have u:∀p∈kk,∀b i,p.2.a=some ⟨b,i,none⟩->b≠r:=λp B b i e=>H (G p B b i e).choose_spec;have R:=h4.length_eq;have a2:(mK κ gr l c.1).length<=l.length:=length_filter_le _ _;rw[length_map]at R;refine⟨c,ps,rfl,λb o e a3=>⟨?_,F b o e c d⟩,cW.keep h1 λb i e=>C.other b (u c d b i e),h3,λq hq=>?_,aC,λn E A I J f=>?_⟩
 .have mb:=g.old b o e a3;rw[C.other b (H mb)]
  grind
 .have:q.2∈mK κ gr l c.1:=h4.mem_iff.1 (mem_map_of_mem hq);exact P.wid _ (mem_filter.1 this).1
 .have S:∀i,c.2.a≠some ⟨y,i,none⟩:=F y _ m4y c d;have T:∀i,c.2.a≠some ⟨r,i,none⟩:=λi e=>u c d r i e rfl;have U:mL E y r (kk.map λp=>(Value.string p.1,dX p.2)) (Z++l2):=mL.keep a0.it (f y S) (f r T);refine⟨λb o e hb=>?_,⟨_,U,λp B=>?_⟩,?_⟩
  .rw[f b (hb c d),C.other b (H e)]
   grind
  .by_cases V:p=c
   .subst V;refine⟨n,J,λq hq=>h3 q (A.mem_iff.1 hq),(A.map _).trans h4,λ_=>?_⟩;rw[tU,pairwise_map];exact I
   .have a4:p.1≠c.1:=λe=>V (VT g.nodup B d e);obtain⟨qs,g1,g3,g4,g5⟩:=(D p B).ex;refine⟨qs,cW.keep g1 λb i e=>?_,g3,g4,λhn=>g5 λhl=>hn ?_⟩
    .rw[f b (λj=>g.apart p B c d a4 b i j e),C.other b (u p B b i e)]
    grind
  .rw[mL.left_ U,mL.left_ Q,a'];simp
theorem RA:cm 252 Wq:=by
 refine JG func252 ?_;rintro c8 m h K ⟨v,u,gr,od,l,w,rfl,b8,b9,sq,d,S,hT,hK⟩;refine⟨bJJ,rfl,aE GR (aE YF aH),Nj v u m h (cQ h K),ax,?_⟩;show Nj v u m h (cQ h K);dsimp only[Nj,push_cast];intro n m1 a3 F y m2 T A P m3 G B;obtain⟨s1,nq⟩:=iT (Sub.refl m) a3 F;obtain⟨s2,ny⟩:=iT s1 T A;obtain⟨s3,nc⟩:=iT s2 G B;have H:n≠y:=λe=>by have:=T.m_;rw[<-e,F.at_]at this;cases this
 have a4:m2 n=some (.cells ⟨QV.enc v⟩ 41 (0,0)):=by rw[A.other n H];exact F.at_
 have a5:n≠P:=λe=>by have:=G.m_;grind
 have I:y≠P:=λe=>by have:=G.m_;rw[<-e,A.at_]at this;cases this
 refine⟨_,_,⟨B.at_⟩,ay,λR C=>?_⟩;have s4:Sub m R:=s3.upd nc C.other;have U:R n=some (.cells ⟨QV.enc v⟩ 41 (0,0)):=by rw[C.other n a5,B.other n a5];exact a4
 have m4y:R y=some (.map #[] 0):=by rw[C.other y I,B.other y I];exact A.at_
 have J:R P=some (.cells #[.map (some y)] 160 (0,0)):=C.at_;obtain⟨us,a6,a7⟩:=sq.ex;have c':=a7.len;have c0:=d.len;clear F A B C a3 T G s1 s2 s3 a4;have a8:∀{j L us},nK R j y L us->Sub m j:=λg z o D=>g.old z o (s4 z o D) (λe3=>bg);refine⟨AV,us,λk j hx=>hx=h/\N4 R j h y (mK fI gr (l.take k)),Ak,⟨u,us,rfl,a6,rfl⟩,⟨rfl,⟨[],_,nK.new m4y,λk=>by simpa[mK]using fA.nil h⟩⟩,?_,?_⟩
 .rintro k e j hx hk-⟨rfl,⟨L,uk,g,hg⟩⟩
  obtain⟨r,hr,hv⟩:=a7.at' hk;have a9:=bo hr;have mc:=g.old P _ J (Ne.symm I);have c:aL j hx P 0 [Value.map (some y)]:=.of_m mc rfl;have rq:aL j hx n 17 [dX v.group]:=.of_m (g.old n _ U H) rfl
  have hl:(uk (fI (pick r gr))).length<=502633886983:=by
   have h5:=(hg (fI (pick r gr))).len;have h6:(mK fI gr (l.take k) (fI (pick r gr))).length<=(l.take k).length:=length_filter_le _ _
   grind
  have app:=fun{s:Sl}=>g.app (hx:=hx) (e:=e) (s:=s) (Q:=λm'=>hx=hx/\N4 R m' hx y (mK fI gr (l.take (k+1)))) ⟨_,m4y⟩ ⟨_,J⟩ mc hl (λm' c9 g'=>⟨rfl,N4.upd g' hg hv (by rw[mK,jZ _ hr,if_pos ay];rfl) (λk2 d'=>by rw[mK,jZ _ hr,if_neg bg,append_nil];rfl)⟩);exact⟨v.group,rq,e,v.group,r,gr,rfl,hv,b8,d.row r a9,by rw[d.wid r a9];exact S,hT.sub (a8 g),y,c,y,c,⟨c,g.get2 (λV=>⟨c,c,c,c,app V⟩) (λs V=>⟨c,c,c,c,app V⟩)⟩,c,c,c,g.get2 (λV=>⟨c,c,app V⟩) (λs V=>⟨c,c,app V⟩)⟩
 .rintro j hx-⟨rfl,⟨L,uk,g,hg⟩⟩
  rw[c',take_length]at hg;have mc:=g.old P _ J (Ne.symm I);have mq:=g.old n _ U H;refine⟨y,.of_m mc rfl,_,g.map_,λr m5 c1 c2 it=>?_⟩;have c3:j r=none:=c1.m_
  have b':∀{z o},j z=some o->m5 z=j z/\z≠r:=fun{z o} D=>by
   have:z≠r:=λe3=>bg
   exact⟨c2.other z this,this⟩
  have W:∀p∈L,∀x i,p.2.a=some ⟨x,i,none⟩->∃o,j x=some o:=λp X x i D=>⟨_,((g.row p X).blk D).choose_spec⟩
  have c4:(L.map λp=>(Value.string p.1,dX p.2)).Nodup:=by
   have h5:=g.nodup
   grind
  refine⟨λz=>z.1=n/\z.2.1=P/\z.2.2.1=r/\z.2.2.2.2=hx/\(∀b o,j b=some o->(∀p∈L,∀i,p.2.a≠some ⟨b,i,none⟩)->z.2.2.2.1 b=some o)/\∃left,mL z.2.2.2.1 y r (L.map λp=>(Value.string p.1,dX p.2)) left/\∀p∈L,caZ z.2.2.2.1 hx od p (mK fI gr l) ((Value.string p.1,dX p.2)∉left),λz=>leftOf z.2.2.2.1 z.2.2.1,⟨(n,P,r,m5,hx),⟨rfl,rfl,rfl,rfl,λb o e _=>(b' e).1.trans e,_,it,λp X=>?_⟩,MT⟩,?_⟩
  .obtain⟨ps,e1,D,e3⟩:=cEZ (hg p.1);refine⟨ps,?_,e3,by rw[D],λhn=>(hn (mem_map_of_mem (f:=λp:ByteArray×Sl=>(Value.string p.1,dX p.2)) X)).elim⟩;have e5:(ps.map λq=>eS q.1)=(uk p.1).map eS:=by rw[<-e1,map_map];rfl
   rw[e5];exact cW.keep (g.row p X) λb i e=>(b' (W p X b i e).choose_spec).1
  .rintro⟨b1,b2,b3,mz,hz⟩ ⟨e1,D,e3,e4,M,left,O,E⟩;dsimp only at e1 D e3 e4 M O E⊢
   subst e1 D e3 e4;refine⟨y,_,left,O,λY=>?_,λl1 x l2 c5 m6 c6 b0=>?_⟩
   .have b4:∀b o,R b=some o->∀p∈L,∀i,p.2.a≠some ⟨b,i,none⟩:=λb o e p X i D=>by rw[g.fresh p X b i D]at e;cases e
    subst Y;exact⟨y,.of_m (M b2 _ mc (b4 b2 _ J)) rfl,OL s4 ny m4y g hg (.refl _) c0 M O E hK⟩
   .obtain⟨p0,ps,rfl,b5,b6,hv,hw,d0,Z⟩:=OK (m4y:=m4y) g d c3 M O E c5 c6 b0;have hb:=b5 b1 _ U H;refine⟨y,_,_,_,b0,p0.2,b1,v,od,w,ps,rfl,hb.1,hb.2,b9,b6,hv,hw,aC,λc7 m7 a' a0 a1 b7=>?_⟩;obtain⟨k1,⟨a2,k2,k3⟩,k4⟩:=Z c7 m7 a' a0 a1 b7;exact⟨(b1,b2,b3,m7,hz),⟨rfl,rfl,rfl,rfl,k1,a2,k2,k3⟩,k4,rfl,rfl,rfl,rfl,rfl,trivial⟩
end Go.Ps
