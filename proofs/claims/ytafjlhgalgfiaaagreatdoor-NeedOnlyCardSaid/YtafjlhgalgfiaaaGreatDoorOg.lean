/- Own work. -/
import Derived.Test.YtafjlhgalgfiaaaGreatDoorOf
set_option linter.unusedVariables false
set_option linter.unusedSimpArgs false
namespace Go.Ps
open Go Go.Vc Go.Proofs List Tryz
variable{K:cq}{m:MH}{h:PH}{s:jZ}{ps:cn}{ts:de}{cb:Nat}{sc:bT}{v:QV}{t:Step}{p:Pred}{l:cn}{i:Nat}{N:Nat}{m':MH}{h':PH}{co:cn}{gr:cn}{od:cv}{ta:Int}{li:Int}{xs:List cr}{sz:Nat}{ks:List cn}{rs:cn}{r:Sl}{a:cn}{b:Nat}
def axQ:Vc.Spec:=λc m h K=>∃l r:Int,∃o on d cb e ts rs,c=[cP cb,cI l,cI r,cS o]/\jD h o on/\on.length<=1000/\iG d m h cb e ts rs/\eK d/\ts.length<=100000/\
 ∀m' h',PH.le h h'->iG d m' h' cb e (bZ (dX l r on) ts).1 rs->K (cI (bZ (dX l r on) ts).2) m' h'
def aSQ:Vc.Spec:=λc m h K=>∃l r:Int,∃d cb e ts rs,c=[cP cb,cI l,cI r]/\iG d m h cb e ts rs/\eK d/\ts.length<=100000/\
 ∀m' h',PH.le h h'->iG d m' h' cb e (bZ (cQ l r) ts).1 rs->K (cI (bZ (cQ l r) ts).2) m' h'
def b0J:Vc.Spec:=λd m h K=>∃l:Int,∃c co e cb f ts rs,d=[cP cb,cI l,cS c]/\Ints h c co/\co.length<=1000/\iG e m h cb f ts rs/\eK e/\ts.length<=100000/\
 ∀m' h',PH.le h h'->iG e m' h' cb f (bZ (pH l co) ts).1 rs->K (cI (bZ (pH l co) ts).2) m' h'
def cCJ:Vc.Spec:=λc m h K=>∃a n:Int,c=[cI a,cI n]/\0<=a/\0<=n/\a<=1000/\n<=1000/\∀s h',PH.le h h'->Ints h' s (iE a n)->K (cS s) m h'
def cCQ:Vc.Spec:=λc m h K=>∃s on,c=[cS s]/\jD h s on/\on.length<=1000/\∀s h',PH.le h h'->jD h' s (qI on)->K (cS s) m h'
def b5Q:Vc.Spec:=λc m h K=>∃s l x,∃i:Nat,c=[cS s,cI x]/\Ints h s l/\l[i]? =some x/\K (cI (l.idxOf x:Nat)) m h
def b6Z:Vc.Spec:=λc m h K=>∃s co,c=[cS s]/\Ints h s co/\co.length<=1000/\∀s h',PH.le h h'->jD h' s (oY co)->K (cS s) m h'
def aPN(v:iR):CV:=.val (.agg ⟨v.enc⟩)
def b1Q:Vc.Spec:=λc m h K=>∃v p d f op ta w co on gr od li args e cb g ts rs,c=[cP cb,aPN v,cI d,aQ f]/\pO h p v/\dO h (.mk op ta w co on gr od li args) f/\gr.length<=1000/\od.length<=1000/\iG e m h cb g ts rs/\eK e/\ts.length<=99999/\
 ∀m' h',PH.le h h'->iG e m' h' cb g (BQ p d gr od li ts).1 rs->K (cI (BQ p d gr od li ts).2) m' h'
noncomputable def chJ a n m h:=
 dK [] [(3,{A:=Nat×cn,st:=λ⟨i,l⟩=>bY 19 21 [(0,iv a),(5,.at (.lst 16)),(7,iv n),(8,iv i)] [(16,.lst 3 1 (l.map eI))] m h})] [] [] false
noncomputable def chZ s m h:=
 dK [] [(3,{A:=Nat×cu,st:=λ⟨i,l⟩=>bY 22 23 [(3,.at (.lst 19)),(6,sv s),(7,iv s.len),(8,iv i)] [(19,.lst 130 2 (l.map sM))] m h})] [] [] false
noncomputable def bLZ s x m h:=
 dK [] [(2,{A:=Nat,st:=λi=>bY 19 21 [(0,sv s),(1,iv x),(7,iv s.len),(8,iv i)] [] m h})] [] [] false
noncomputable def ciQ s m h:=
 dK [(144,b5Q)] [(3,{A:=Nat×cu,st:=λ⟨i,l⟩=>bY 26 27 [(0,sv s),(3,.at (.lst 23)),(6,sv s),(7,iv s.len),(8,iv i)] [(23,.lst 130 2 (l.map sM))] m h})] [] [] false
noncomputable def chX(v:iR)(c:QV)(cb:Nat)(d:Int)(m:MH)(h:PH):=
 dK [(81,axQ),(40,UU)] [(3,{A:=Nat×cu,st:=λ⟨i,l⟩=>bY 43 47 [(0,pv cb),(2,iv d),(5,.at (.ptr 5 0)),(7,.at (.ptr 7 0)),(9,.at (.lst 24)),(13,sv c.group),(14,iv c.group.len),(15,iv i)] [(5,.cells 97 (v.enc.map .val)),(7,.cells 41 (c.enc.map .val)),(24,.lst 130 2 (l.map sM))] m h})] [] [] false
abbrev JP(a:Nat->Nat->de->cn->Prop):=bK (λx c=>∃(d:de)(e:cn),a x c d e)
abbrev Lm(a:dk)(b:Nat->dk)(c d:Prop)(e:Nat->Option Obj)(g:PH)(i:MH->Nat->Nat->de->cn->Prop):=∃(x:MH),JP (λf n j o=>aA (a=b f) c (aA d (iG x e g f n j o) (aA (eK x) (j.length<=100000) (i x f n j o))))
abbrev uJ a b:=tN (OP a 0) b
abbrev FW(a:dk)(b:PH)(c:Nat->Option Obj)(d:Step->de->MH->PH->Prop):=QC (λx e=>Lm a (λf=>uJ f (jO x.enc)) (uW b e x) (OH e) c b (λf o u j y=>fD (λn g=>bS b g (iG f n g o u (bZ e j).1 y) (d e j n g))))
attribute [push_cast] JP Lm uJ FW
def XC(cb:Nat)(l r:Int)(o:Sl)(m:MH)(h:PH)(K:cq):=
  FW (uJ cb (jO (bG (gZ 5) bF (bG bF bF (bG bF bF (bG bF bF (tY pF (tX (dW o) (BD l r))))))))) h m (λt c d e=>K (jA (↑(bZ t c).2:Int)) d e)
def Xy(cb:Nat)(l r:Int)(m:MH)(h:PH)(K:cq):=
  FW (uJ cb (jO (bG (gZ 8) bF (bG bF bF (bG bF bF (bG bF bF (tY pF (tX pF (BD l r))))))))) h m (λt c d e=>K (jA (↑(bZ t c).2:Int)) d e)
def XA(cb:Nat)(l:Int)(c:Sl)(m:MH)(h:PH)(K:cq):=
  FW (uJ cb (jO (bG (gZ 3) bF (bG bF bF (bG bF bF (bG bF bF (tY (dW c) (tX pF (kC (gZ l) bF))))))))) h m (λt d e f=>K (jA (↑(bZ t d).2:Int)) e f)
def Ra a n m h K:=
  Lf (λI x=>aA (I x) (fI a) (aA (eL 16) (fI n) (aA (bA x.1) (sU x.2) (aA (m=m) (h=h) True)))) (λI d x=>I x->aY (↑x.1:Int) n (aA (jN (kB (qP x) 1) 8) (eA (qP x)) (∃(c:Nat×cn),aA (I c) (d c<d x) (aA (fI a) (eL 16) (aA (fI n) (iH (bE x.1 1)=bP c.1) (aA (lW (dP (qP x) (bC (iF (a+(↑x.1:Int))))) c.2) (m=m) (bU h h)))))) (vU h (qP x) K m))
abbrev Pf(a:(Nat×cu->Prop)->(Nat×cu)->Prop)(b:(Nat×cu->Prop)->(Nat×cu->Nat)->(Nat×cu)->Prop):=∃(x:Nat×cu->Prop)(d:Nat×cu->Nat),(∃(c:Nat×cu),a x c)/\∀(c:Nat×cu),b x d c
abbrev nE(a:Nat×cu):=Ez a.2
attribute [push_cast] Pf nE
def Xz(s:Sl)(m:MH)(h:PH)(K:cq):=
  Pf (λI x=>aA (I x) (eL 19) (aA (aI s) (bI s) (aA (bA x.1) (vB 130 2 (nE x)) (aA (m=m) (h=h) True)))) (λI d x=>I x->aY (↑x.1:Int) (aG s) (bK (λb o=>aA (aR s.a b o) (0<=(↑x.1:Int)) ((↑x.1:Int)<aG s/\∃(y:Int×Int),aA (aK m h b (bL o x.1 2) (vZ y)) (cN 1) (aA ((1:Int)<2) (cN 0) (aA ((0:Int)<2) (jN (kB (nE x) 1) 16) (eA (nE x)/\∃(c:Nat×cu),aA (I c) (d c<d x) (aA (eL 19) (aI s) (aA (bI s) (iH (bE x.1 1)=bP c.1) (aA (bW 130 2 (dP (nE x) (BD y.2 y.1))=bW 130 2 (nE c)) (m=m) (bU h h)))))))))) (cK h 2 (nE x) (λe f=>K (nW e) m f)))
def Nl(s:Sl)(x:Int)(m:MH)(h:PH)(K:cq):=
  nI (λI c=>aA (I c) (aI s) (aA (fI x) (bI s) (dJ (bA c) m m h h))) (λI e c=>I c->aY (↑c:Int) (aG s) (bK (λb o=>aA (aR s.a b o) (0<=(↑c:Int)) ((↑c:Int)<aG s/\∃(y:Int),aK m h b (bL o c 1) (bC y)/\fC x y (K (jA (↑c:Int)) m h) (∃(d:Nat),aA (I d) (e d<e c) (aA (aI s) (fI x) (aA (bI s) (iH (bE c 1)=bP d) (aA (m=m) (h=h) True))))))) (K (jA (Int.negSucc 0)) m h))
def XB(s:Sl)(m:MH)(h:PH)(K:cq):=
  Pf (λI x=>aA (I x) (aI s) (aA (eL 23) (aI s) (aA (bI s) (bA x.1) (aA (vB 130 2 (nE x)) (m=m) (bU h h))))) (λI d x=>I x->aY (↑x.1:Int) (aG s) (bK (λb o=>aA (aR s.a b o) (0<=(↑x.1:Int)) ((↑x.1:Int)<aG s/\∃(y:Int),aK m h b (bL o x.1 1) (bC y)/\rY (λe l=>∃(f:Int)(i:Nat),aA (j3 s y=j3 e f) (Ints h e l) (l[i]? =Option.some f/\fC (↑(idxOf f l):Int) (↑x.1:Int) (aA (jN (kB (nE x) 1) 16) (eA (nE x)) (∃(c:Nat×cu),aA (I c) (d c<d x) (aA (aI s) (eL 23) (aA (aI s) (bI s) (aA (iH (bE x.1 1)=bP c.1) (bW 130 2 (dP (nE x) (BD y (↑x.1:Int)))=bW 130 2 (nE c)) (eM m m h h)))))) (∃(c:Nat×cu),aA (I c) (d c<d x) (aA (aI
 s) (eL 23) (aA (aI s) (bI s) (aA (iH (bE x.1 1)=bP c.1) (bW 130 2 (nE x)=bW 130 2 (nE c)) (eM m m h h)))))))))) (cK h 2 (nE x) (λe g=>K (nW e) m g)))
abbrev Ic(a:Nat)(b c:Int)(d:Sl)(e:PH)(g:Nat->Option Obj)(i:Int->Int->cu->MH->Nat->Nat->de->cn->Prop):=Hn (λx n=>Dl (λo f=>Lm (dE a (jA b::gJ c (nW d))) (λj=>dE j (jA x::gJ n (nW o))) (jD e o f) (mY f.length) g e (λj u y z A=>i x n f j u y z A)))
abbrev Zu:=OV.mk 0 0 (VV.mk 0 0 (ByteArray.mk (Array.mk [])))
abbrev Lr:=Pred.mk 0 0 Zu Zu []
abbrev zK a b c:=Step.mk 5 0 Lr [] a [] [] 0 b c
attribute [push_cast] Ic Zu Lr zK
def Xx(cb:Nat)(v:iR)(d:Int)(e:QV)(m:MH)(h:PH)(K:cq):=
  Pf (λI x=>aA (I x) (cX cb) (aA (fI d) fT (aA (eP 7) (eL 24) (aA (aI e.group) (bI e.group) (aA (bA x.1) (eQ (qM 97 v.enc)) (aA (fU e) (vB 130 2 (nE x)) (eM m m h h))))))) (λI j x=>I x->aY (↑x.1:Int) (aG e.group) (bK (λb o=>aA (aR e.group.a b o) (0<=(↑x.1:Int)) ((↑x.1:Int)<aG e.group/\∃(y:Int),aA (aK m h b (bL o x.1 1) (bC y)) (jN (kB (nE x) 1) 16) (eA (nE x)/\∃(f:Nat×cu),aA (I f) (j f<j x) (aA (cX cb) (fI d) (aA fT (eP 7) (aA (eL 24) (aI e.group) (aA (bI e.group) (iH (bE x.1 1)=bP f.1) (aA (eQ (qM 97 v.enc)) (fU e) (dJ (bW 130 2 (dP (nE x) (BD y y))=bW 130 2 (nE f)) m m h h)))))))))) (cK h 2 (nE x) (λs n=>Ic cb
 v.env d s n m (λl r o z c A t B=>fD (λu g=>bS n g (iG z u g c A (bZ (zK o l r) t).1 B) (FW (uJ cb (CV.val (Value.agg (Array.mk (bG (gZ 10) bF (bG bF bF (bG bF bF (bG bF bF (tY pF (bG pF (yO e) (bG (yP e) (uT e) (kC (gZ (↑(bZ (zK o l r) t).2:Int)) (gZ v.rows))))))))))))) g u (λC D E F=>K (jA (↑(bZ C D).2:Int)) E F)))))))
theorem b8J h:fP h gG jT:=⟨rfl,rfl,rfl,rfl,ay,[],dH.nil _ _,rfl⟩
theorem Xh h:Ints h cH []:=⟨dH.nil _ _,ay⟩
theorem cLJ h:jD h cH []:=⟨dH.nil _ _,ay⟩
theorem cKZ h:jP h cH []:=⟨dH.nil _ _,ay⟩
theorem b9Q:(sH gG).length<=1000000000:=by
 have c:=iQ [0,0];have d:=iQ [0];have g:=pE 0;have f:DC ⟨0,0,⟨0,0,⟨#[]⟩⟩⟩=jU [0,0]++(jU [0]++(mP 0++[32])++jU [0]++[]):=rfl;have e:sH gG=jU [0,0]++DC ⟨0,0,⟨0,0,⟨#[]⟩⟩⟩++DC ⟨0,0,⟨0,0,⟨#[]⟩⟩⟩++jU [0]++[]:=rfl
 grind
theorem cPX{d l r o on m0}(e:jD h o on)(n:on.length<=1000)(c:iG m0 m h cb d ts rs)(f:eK m0)(g:ts.length<=100000)(j:∀m' h',PH.le h h'->iG m0 m' h' cb d (bZ (dX l r on) ts).1 rs->K (cI (bZ (dX l r on) ts).2) m' h'):XC cb l r o m h K:=
 ⟨⟨5,0,jT,cH,o,cH,cH,0,l,r⟩,dX l r on,m0,cb,d,ts,rs,rfl,⟨rfl,rfl,b8J h,Xh h,e,Xh h,cKZ h,rfl,rfl,rfl⟩,⟨b9Q,by simp[dX],by simp[dX];omega,by simp[dX],by simp[dX]⟩,c,f,g,j⟩
theorem cOZ{d l r m0}(c:iG m0 m h cb d ts rs)(e:eK m0)(f:ts.length<=100000)(g:∀m' h',PH.le h h'->iG m0 m' h' cb d (bZ (cQ l r) ts).1 rs->K (cI (bZ (cQ l r) ts).2) m' h'):Xy cb l r m h K:=
 ⟨⟨8,0,jT,cH,cH,cH,cH,0,l,r⟩,cQ l r,m0,cb,d,ts,rs,rfl,⟨rfl,rfl,b8J h,Xh h,cLJ h,Xh h,cKZ h,rfl,rfl,rfl⟩,⟨b9Q,by simp[cQ],by simp[cQ],by simp[cQ],by simp[cQ]⟩,c,e,f,g⟩
theorem cPQ{d l s m0}(e:Ints h s co)(n:co.length<=1000)(c:iG m0 m h cb d ts rs)(f:eK m0)(g:ts.length<=100000)(j:∀m' h',PH.le h h'->iG m0 m' h' cb d (bZ (pH l co) ts).1 rs->K (cI (bZ (pH l co) ts).2) m' h'):XA cb l s m h K:=
 ⟨⟨3,0,jT,s,cH,cH,cH,0,l,0⟩,pH l co,m0,cb,d,ts,rs,rfl,⟨rfl,rfl,b8J h,e,cLJ h,Xh h,cKZ h,rfl,rfl,rfl⟩,⟨b9Q,by simp[pH];omega,by simp[pH],by simp[pH],by simp[pH]⟩,c,f,g,j⟩
theorem Tg:cm 81 axQ:=by
 refine jC func81 ?_;rintro d m h K ⟨l,r,o,on,u,cb,y,ts,rs,rfl,e,f,c,g,j,n⟩;refine⟨dK [(40,UU)] [] [] [] false,rfl,aE E5 aH,XC cb l r o m h K,ax,?_⟩;exact cPX e f c g j n
theorem a5Q:cm 86 aSQ:=by
 refine jC func86 ?_;rintro d m h K ⟨l,r,j,cb,n,ts,rs,rfl,c,e,f,g⟩;refine⟨dK [(40,UU)] [] [] [] false,rfl,aE E5 aH,Xy cb l r m h K,ax,?_⟩;exact cOZ c e f g
theorem a5J:cm 83 b0J:=by
 refine jC func83 ?_;rintro d m h K ⟨l,s,co,o,cb,u,ts,rs,rfl,e,f,c,g,j,n⟩;refine⟨dK [(40,UU)] [] [] [] false,rfl,aE E5 aH,XA cb l s m h K,ax,?_⟩;exact cPQ e f c g j n
theorem cOJ{a n}(y:0<=a)(z:0<=n)(d:a<=1000)(f:n<=1000)(g:∀s h',PH.le h h'->Ints h' s (iE a n)->K (cS s) m h'):Ra a n m h K:=by
 dsimp only[Ra,push_cast];obtain⟨k,rfl⟩:∃k:Nat,n=k:=⟨n.toNat,aC⟩
 refine⟨λ⟨i,l⟩=>i<=k/\l=iE a (i:Nat),λ⟨i,_⟩=>k-i,⟨(0,[]),⟨aC,rfl⟩,MT⟩,?_⟩;rintro⟨i,l⟩ ⟨A,rfl⟩;dsimp only;have c:(iE a (i:Nat)).length=i:=by simp[iE]
 refine aF (λj=>?_) (λo s h' le u=>?_)
 .refine⟨bg,bg,(i+1,iE a ((i+1:Nat):Int)),⟨aC,rfl⟩,aC,?_⟩
  have e:iE a ((i+1:Nat):Int)=iE a (i:Nat)++[IntKind.i64.wrap (a+(i:Int))]:=by
   rw[fL aC aC];simp[iE,range_succ]
  rw[e,bu];exact MT
 .have:i=k:=by omega
  subst this;exact g s h' le ⟨u,aC⟩
theorem a5Z:cm 84 cCJ:=by
 refine jC func84 ?_;rintro c m h K ⟨a,n,rfl,d,e,f,g,j⟩;refine⟨chJ a n m h,rfl,aH,Ra a n m h K,ax,?_⟩;exact cOJ d e f g j
theorem a5X:cm 85 cCQ:=by
 refine jC func85 ?_;rintro u m h K ⟨s,on,rfl,f,A,y⟩;refine⟨chZ s m h,rfl,aH,Xz s m h K,ax,?_⟩;dsimp only[Xz,push_cast];have d:=f.slen;refine⟨λ⟨i,l⟩=>i<=on.length/\l=qI (on.take i),λ⟨i,_⟩=>on.length-i,⟨(0,[]),⟨aC,rfl⟩,MT⟩,?_⟩;rintro⟨i,l⟩ ⟨B,rfl⟩;dsimp only;have g:(qI (on.take i)).length=i:=by simp[qI];omega
 refine aF (λc=>?_) (λz s h' le j=>?_)
 .obtain⟨x,n⟩:=fK d c;obtain⟨b,o,e,r⟩:=f.at n;refine⟨b,o,e,aC,c,x,.imm r,aC,aC,aC,aC,bg,bg,(i+1,qI (on.take (i+1))),⟨aC,rfl⟩,aC,?_⟩;have e:qI (on.take (i+1))=qI (on.take i)++[(x.2,x.1)]:=by rw[cd,n];simp[qI]
  rw[e,bu];exact MT
 .rw[bt aC]at j;exact y s h' le ⟨j,bg⟩
theorem byQ{x}(d:l[i]? =some x)(c:∀j y,j<i->l[j]? =some y->x≠y):l.idxOf x=i:=by
 induction l generalizing i with
 |nil=>simp at d
 |cons a l e=>
  cases i with
  |zero=>grind
  |succ i=>
   have f:=c 0 a aC rfl
   grind
theorem cvZ{s x}{d:Nat}(g:Ints h s l)(hx:l[d]? =some x)(A:K (cI (l.idxOf x:Nat)) m h):Nl s x m h K:=by
 dsimp only[Nl,push_cast];have n:=g.slen;have C:=g.len;have F:=(bm hx);refine⟨λi=>i<=d/\∀j y,j<i->l[j]? =some y->x≠y,λi=>d-i,⟨0,⟨aC,λj y D=>by omega⟩,MT⟩,?_⟩;rintro i ⟨G,u⟩;refine aF (λc=>?_) (λE=>by omega);obtain⟨y,B⟩:=fK n c;obtain⟨b,o,e,r⟩:=g.at' B;refine⟨b,o,e,aC,c,y,.imm r,aD (λf=>?_) (λf=>?_)⟩
 .have f:x=y:=bg
  subst f;rw[byQ B u]at A;exact A
 .have f:x≠y:=bg
  have:i≠d:=λe=>bg
  refine⟨i+1,⟨aC,λj z D H=>?_⟩,bg,MT⟩
  grind
theorem amJ:cm 144 b5Q:=by
 refine jC func144 ?_;rintro c m h K ⟨s,l,x,i,rfl,d,e,f⟩;refine⟨bLZ s x m h,rfl,aH,Nl s x m h K,ax,?_⟩;exact cvZ d e f
def GA(co:cn)(i:Nat):=((List.range i).filter λi=>decide (co.idxOf (co.getD i 0)=i)).map λi=>(co.getD i 0,(i:Int))
theorem Q5 co i:(GA co i).length<=i:=by
 have:=length_filter_le (λi=>decide (co.idxOf (co.getD i 0)=i)) (List.range i);simp[GA]at this⊢;omega
theorem a6Q:cm 82 b6Z:=by
 refine jC func82 ?_;rintro u m h K ⟨s,co,rfl,f,B,y⟩;refine⟨ciQ s m h,rfl,aE amJ aH,XB s m h K,ax,?_⟩;dsimp only[XB,push_cast];have g:=f.slen;refine⟨λ⟨i,l⟩=>i<=co.length/\l=GA co i,λ⟨i,_⟩=>co.length-i,⟨(0,[]),⟨aC,rfl⟩,MT⟩,?_⟩;rintro⟨i,l⟩ ⟨C,rfl⟩;dsimp only;have n:=Q5 co i;refine aF (λc=>?_) (λz s h' le A=>?_)
 .obtain⟨x,j⟩:=fK g c;obtain⟨b,o,e,r⟩:=f.at' j;have D:co.getD i 0=x:=by simp[j]
  have step:GA co (i+1)=GA co i++(if co.idxOf x=i then[(x,(i:Int))]else[]):=by
   simp only[GA,range_succ,filter_append,bu]
   grind
  refine⟨b,o,e,aC,c,x,.imm r,s,co,x,i,rfl,f,j,aD (λd=>⟨bg,bg,(i+1,GA co (i+1)),⟨aC,rfl⟩,aC,?_⟩) (λd=>⟨(i+1,GA co (i+1)),⟨aC,rfl⟩,aC,?_⟩)⟩
  .have d:co.idxOf x=i:=bg
   rw[step,if_pos d,bu];exact MT
  .have d:co.idxOf x≠i:=λe=>bg
   rw[step,if_neg d,append_nil];exact MT
 .have:i=co.length:=by omega
  subst this;exact y s h' le ⟨A,by show(GA co co.length).length<=_;omega⟩
theorem a4J:cm 87 b1Q:=by
 refine jC func87 ?_;rintro M m h K ⟨v,p,d,g,op,ta,w,co,on,gr,od,li,args,F,cb,G,ts,rs,rfl,O,P,W,Q,c,H,X,R⟩;refine⟨chX v g cb d m h,rfl,aE Tg (aE E5 aH),Xx cb v d g m h K,by kernel_rfl,?_⟩;dsimp only[Xx,push_cast];have x:=P.parts;have A:=x.group_.slen;refine⟨λ⟨i,l⟩=>i<=gr.length/\l=sA (gr.take i),λ⟨i,_⟩=>gr.length-i,⟨(0,[]),⟨aC,rfl⟩,MT⟩,?_⟩;rintro⟨i,l⟩ ⟨Y,rfl⟩;dsimp only;have I:(sA (gr.take i)).length=i:=by simp[sA];omega
 refine aF (λj=>?_) (λS s Z n J=>?_)
 .obtain⟨y,L⟩:=fK A j;obtain⟨b,o,e,r⟩:=x.group_.at' L;refine⟨b,o,e,aC,j,y,.imm r,by grind,by grind,(i+1,sA (gr.take (i+1))),⟨aC,rfl⟩,aC,?_⟩;have e:sA (gr.take (i+1))=sA (gr.take i)++[(y,y)]:=by rw[take_add_one,L];simp[sA]
  rw[e,map_append];exact MT
 .rw[take_of_length_le aC]at J;obtain⟨q,pa,B,z,wd⟩:=p;obtain⟨_,f,u,_⟩:=O;rw[u,f];have T:(sA gr).length<=1000:=by grind
  have hx:=dZ (dX (z:Int) d (sA gr)) ts;refine⟨(z:Int),d,s,sA gr,F,cb,G,ts,rs,rfl,⟨J,aC⟩,T,c.mono n,H,aC,λm1 C D U=>?_⟩;have le:=n.trans D;exact⟨⟨10,0,jT,cH,cH,g.group,g.order,g.limit,_,_⟩,Ql (bZ (dX (z:Int) d (sA gr)) ts).2 B gr od li,F,cb,G,_,rs,rfl,⟨rfl,rfl,b8J C,Xh C,cLJ C,x.group_.mono le,x.order_.mono le,x.limit_,rfl,rfl⟩,⟨b9Q,by simp[Ql],by simp[Ql],by simp[Ql];omega,by simp[Ql];omega⟩,U,H,by show(bZ (dX (z:Int) d (sA gr)) ts).1.length<=100000;omega,λm' h' E V=>R m' h' (le.trans E) V⟩
def b0Q:Vc.Spec:=λc m h K=>∃op,c=[cI op]/\K (cB (GQ op)) m h
def aQZ:Vc.Spec:=λc m h K=>∃v s op ta w co on gr od li args,∃ks:di,c=[aQ v,cS s]/\dO h (.mk op ta w co on gr od li args) v/\Ints h s (ks.map fun(k:Nat)=>(k:Int))/\∀d,uW h (Az op ta w co on gr od li ks) d->K (aT d) m h
def bWQ:Vc.Spec:=λc m h K=>∃sc v s op ta w co on gr od li args ps d,c=[aS sc,aPN v]/\iU h s sc/\oM s/\dO h (.mk op ta w co on gr od li args) v.query/\dH h v.args 25 (d.map iR.enc)/\mL h ps d/\((ps.length:Int)=arity op)/\0<=arity op/\(∀p∈ps,0<=p.width/\p.width<=1000)/\K (cI (Fj s op ta co ps)) m h
def XT(op:Int)(m:MH)(h:PH)(K:cq):=
  dQ (op==7) (K jF m h) (op==9) (K jF m h) (K (Aw (op==10)) m h)
def XU(v:QV)(s:Sl)(m:MH)(h:PH)(K:cq):=
  qC (decide (aG s>0)) (bK (λb o=>aA (aR s.a b o) ((0:Int)<=0) (0<aG s/\∃(y:Int),aK m h b (o+0) (bC y)/\gA (aG s) 1 (bK (λc d=>aA (aR s.a c d) ((0:Int)<=1) (1<aG s/\∃(e:Int),aK m h c (d+1) (bC e)/\K (jO (vT v v (v7 v (bG (dW v.on) (yO v) (bG (yP v) (uT v) (BD y e)))))) m h))) (K (jO (vT v v (v7 v (bG (dW v.on) (yO v) (bG (yP v) (uT v) (kC (gZ y) bF)))))) m h)))) (aG s) 1 (bK (λb o=>aA (aR s.a b o) ((0:Int)<=1) (1<aG s/\∃(y:Int),aK m h b (o+1) (bC y)/\K (jO (vT v v (v7 v (bG (dW v.on) (yO v) (bG (yP v) (uT v) (kC bF (gZ y))))))) m h))) (K (jO (vT v v (v7 v (bG (dW v.on) (yO v) (bG (yP v) (uT v) (kC bF bF)))))) m
 h)
abbrev uS(a:iR):=a.query.op
attribute [push_cast] uS
def Ri(sc:bT)(v:iR)(m:MH)(h:PH)(K:cq):=
  dQ (uS v==1) (Cr (cT (jO (cC sc)) v.query.table) h (λs f=>K (jA (aG s)) m f)) (uS v==3) (K (jA (aG v.query.columns)) m h) (fC (uS v) 4 (bK (λb o=>aA (aR v.args.a b o) ((0:Int)<=0) (0<aG v.args/\∃(y:Int),aK m h b (o+0+24) (bC y)/\bK (λc d=>aA (aR v.args.a c d) ((0:Int)<=1) (1<aG v.args/\∃(e:Int),aK m h c (d+25+24) (bC e)/\K (jA (iF (y+e))) m h))))) (bK (λb o=>aA (aR v.args.a b o) ((0:Int)<=0) (0<aG v.args/\∃(y:Int),aK m h b (o+0+24) (bC y)/\K (jA y) m h))))
theorem Tn:cm 42 b0Q:=by
 refine jC func42 ?_;rintro f m h K ⟨op,rfl,c⟩;refine⟨dK [] [] [] [] false,rfl,aH,XT op m h K,ax,?_⟩;dsimp only[XT,push_cast];unfold GQ at c;refine aD (λd=>?_) (λd=>aD (λe=>?_) (λe=>?_))
 .rw[d]at c;exact c
 .rw[d,e]at c;exact c
 .rw[d,e]at c;exact c
theorem baZ:cm 41 aQZ:=by
 refine jC func41 ?_;rintro g m h K ⟨v,s,op,ta,w,co,on,gr,od,li,args,ks,rfl,j,c,n⟩;refine⟨dK [] [] [] [] false,rfl,aH,XU v s m h K,ax,?_⟩;dsimp only[XU,push_cast];have x:=j.parts;have d:=c.slen;rw[length_map]at d;have key:∀l r:Int,l=((ks.getD 0 0:Nat):Int)->r=((ks.getD 1 0:Nat):Int)->K (aT ⟨v.op,v.table,v.where_,v.columns,v.on,v.group,v.order,v.limit,l,r⟩) m h:=λl r u y=>n _ ⟨x.op_,x.table_,x.where_,x.columns_,x.on_,x.group_,x.order_,x.limit_,u,y⟩;have get:∀i,i<ks.length->(ks.map fun(k:Nat)=>(k:Int))[i]? =some ((ks.getD i 0:Nat):Int):=λi z=>by simp[z]
 refine aF (λA=>?_) (λA=>aF (λf=>by omega) (λf=>?_))
 .obtain⟨b,o,e,r⟩:=c.at (get 0 aC);refine⟨b,o,e,aC,aC,_,.imm r,aF (λf=>?_) (λf=>?_)⟩
  .obtain⟨b,o,e,r⟩:=c.at (get 1 aC);exact⟨b,o,e,aC,aC,_,.imm r,key _ _ rfl rfl⟩
  .exact key _ 0 rfl bg
 .exact key 0 0 bg bg
theorem cBQ{s vs ps}(c:dH h s 25 (vs.map iR.enc))(d:mL h ps vs){p}(f:ps[i]? =some p):∃b o v,s.a=some ⟨b,o,none⟩/\cO h b (o+i*25) (iR.enc v)/\pO h p v:=by
 obtain⟨v,g,j⟩:=d.get f;obtain⟨b,o,e,k⟩:=c.get (i:=i) (e:=iR.enc v) (by simp[g])
 grind
theorem O4{o v}(r:cO h b o (iR.enc v)):cO h b (o+21) [.slice v.args.a v.args.len v.args.cap]/\cO h b (o+22) [gZ v.rows]/\cO h b (o+23) [gZ v.env]/\cO h b (o+24) [gZ v.width]:=by
 refine⟨⟨λj x e=>?_⟩,⟨λj x e=>?_⟩,⟨λj x e=>?_⟩,⟨λj x e=>?_⟩⟩<;>
  (have c:j=0:=(by have:=(bm e);simpa using this)
   subst c;simp at e;subst e)
 .exact r.rd 21 _ rfl
 .exact r.rd 22 _ rfl
 .exact r.rd 23 _ rfl
 .exact r.rd 24 _ rfl
theorem pO.width_{p v}(x:pO h p v):v.width=p.width:=by
 cases p;exact x.2.2.2.1
theorem pO.rows_{p v}(x:pO h p v):v.rows=p.rows:=by
 cases p;exact x.2.1
theorem pO.env_{p v}(x:pO h p v):v.env=p.env:=by
 cases p;exact x.2.2.1
theorem baJ:cm 39 bWQ:=by
 refine EY func39 ?_;rintro E m h K ⟨sc,v,s,op,ta,w,co,on,gr,od,li,args,ps,R,rfl,F,G,H,B,C,n,y,D,d⟩;refine⟨dK [(69,xL)] [] [] [] false,rfl,aE IM aH,Ri sc v m h (lZ h K),ax,?_⟩;show Ri sc v m h (lZ h K);dsimp only[Ri,push_cast];have x:=H.parts;have I:=x.op_;have J:v.args.len=ps.length:=by have:=B.len;rw[length_map,C.length]at this;exact this
 have one:op≠1->1<=ps.length:=λc=>by
  unfold arity at n y
  grind
 unfold Fj at d;show branch (v.query.op==1) _ _;rw[I,x.table_]
 have get:∀(i:Nat)(j:i<ps.length),∃b o,v.args.a=some ⟨b,o,none⟩/\cO h b (o+i*25+24) [gZ ((ps.map PN.width).getD i 0)]:=λi j=>by
  obtain⟨b,o,u,e,r,L⟩:=cBQ B C (bn j);have M:=(O4 r).2.2.2;rw[L.width_]at M
  grind
 refine aD (λc=>?_) (λc=>aD (λf=>?_) (λf=>aD (λg=>?_) (λg=>?_)))
 .have c:op=1:=bg
  rw[if_pos c]at d;exact⟨sc,s,ta,rfl,F,G,λS h' le j=>.out (Sub.refl m) le (by rw[j.slen];exact d)⟩
 .have c:op≠1:=bg
  have f:op=3:=bg
  rw[if_neg c,if_pos f]at d;exact .here (by rw[x.columns_.slen];exact d)
 .have c:op≠1:=bg
  have f:op≠3:=bg
  have g:op=4:=bg
  rw[if_neg c,if_neg f,if_pos g]at d;have n:(ps.length:Int)=2:=by rw[n,g];rfl
  have z:0<ps.length:=by omega
  have A:1<ps.length:=by omega
  obtain⟨b,o,e,r⟩:=get 0 z;obtain⟨O,P,Q,T⟩:=get 1 A;have U:=D ps[0] (getElem_mem z);have V:=D ps[1] (getElem_mem A);have W:(ps.map PN.width).getD 0 0=ps[0].width:=by simp[z]
  have X:(ps.map PN.width).getD 1 0=ps[1].width:=by simp[A]
  refine⟨b,o,e,aC,aC,(ps.map PN.width).getD 0 0,.imm (bk r),O,P,Q,aC,aC,(ps.map PN.width).getD 1 0,.imm aC,.here ?_⟩;rw[fL aC aC];exact d
 .have c:op≠1:=bg
  have f:op≠3:=bg
  have g:op≠4:=bg
  rw[if_neg c,if_neg f,if_neg g]at d;have:=one c;obtain⟨b,o,e,r⟩:=get 0 aC;exact⟨b,o,e,aC,aC,_,.imm (bk r),.here d⟩
mutual
def lE:PN->Nat
 |.mk _ args _ _ _=>1+sG args
def sG:List PN->Nat
 |[]=>0
 |p::ps=>lE p+sG ps
end
def Jg(p:PN):Prop:=
 match p with
 |.mk (.mk op _ _ co on gr od _ _) args _ _ c=>(args.length:Int)=arity op/\0<=c/\c<=500/\co.length<=1000/\on.length<=1000/\gr.length<=1000/\od.length<=1000/\∀a∈args,Jg a
 termination_by SizeOf.sizeOf p
def cZJ(N:Nat):Vc.Spec:=λc m h K=>∃v p d e cb f ts rs,c=[cP cb,aPN v,cI d]/\pO h p v/\SizeOf.sizeOf p<N/\Jg p/\iG e m h cb f ts rs/\eK e/\ts.length+5*lE p<=90000/\rs.length+lE p<=90000/\
 ∀m' h',PH.le h h'->iG e m' h' cb f (gV p d ts rs).1 (gV p d ts rs).2->K (.tup []) m' h'
noncomputable def coX(N cb:Nat)(d:Int)(v:iR)(m:MH)(h:PH):=
 qD [(43,cZJ N),(81,axQ),(82,b6Z),(83,b0J),(84,cCJ),(85,cCQ),(86,aSQ),(87,b1Q)] [(13,{A:=Nat×cu×iR×iR,st:=λ⟨i,l,a,b⟩=>bY 236 239 [(0,pv cb),(2,iv d),(7,.at (.ptr 7 0)),(8,.at (.ptr 8 0)),(9,.at (.lst 82)),(70,iv b.width),(71,iv i)] [(7,.cells 97 (a.enc.map .val)),(8,.cells 97 (b.enc.map .val)),(82,.lst 130 2 (l.map sM))] m h})] [(11,{A:=iR×iR,st:=λ⟨a,b⟩=>bY 236 239 [(0,pv cb),(2,iv d),(7,.at (.ptr 7 0)),(8,.at (.ptr 8 0))] [(7,.cells 97 (a.enc.map .val)),(8,.cells 97 (b.enc.map .val))] m h}),
  (18,{A:=iR×iR×MH×PH,st:=λ⟨a,b,m,h⟩=>bY 236 239 [(0,pv cb),(2,iv d),(7,.at (.ptr 7 0)),(8,.at (.ptr 8 0))] [(7,.cells 97 (a.enc.map .val)),(8,.cells 97 (b.enc.map .val))] m h}),
  (21,{A:=iR×iR,st:=λ⟨a,b⟩=>bY 236 239 [(0,pv cb),(2,iv d),(6,.at (.ptr 6 0)),(11,.at (.ptr 11 0)),(12,.at (.ptr 12 0))] [(6,.cells 41 (v.query.enc.map .val)),(11,.cells 97 (a.enc.map .val)),(12,.cells 97 (b.enc.map .val))] m h}),
  (22,{A:=iR×iR×MH×PH,st:=λ⟨a,b,m,h⟩=>bY 236 239 [(0,pv cb),(2,iv d),(6,.at (.ptr 6 0)),(12,.at (.ptr 12 0))] [(6,.cells 41 (v.query.enc.map .val)),(12,.cells 97 (b.enc.map .val))] m h}),
  (25,{A:=MH×PH,st:=λ⟨m,h⟩=>bY 236 239 [(0,pv cb),(2,iv d),(4,.at (.ptr 4 0))] [(4,.cells 97 (v.enc.map .val))] m h}),
  (29,{A:=iR×iR,st:=λ⟨a,b⟩=>bY 236 239 [(0,pv cb),(2,iv d),(13,.at (.ptr 13 0)),(14,.at (.ptr 14 0))] [(13,.cells 97 (a.enc.map .val)),(14,.cells 97 (b.enc.map .val))] m h}),
  (30,{A:=iR×iR×MH×PH,st:=λ⟨a,b,m,h⟩=>bY 236 239 [(0,pv cb),(2,iv d),(13,.at (.ptr 13 0)),(14,.at (.ptr 14 0))] [(13,.cells 97 (a.enc.map .val)),(14,.cells 97 (b.enc.map .val))] m h}),
  (35,{A:=MH×PH,st:=λ⟨m,h⟩=>bY 236 239 [(0,pv cb),(2,iv d),(4,.at (.ptr 4 0)),(6,.at (.ptr 6 0))] [(4,.cells 97 (v.enc.map .val)),(6,.cells 41 (v.query.enc.map .val))] m h})] [] [1036] [] false
abbrev Bt(a:iR)(b:Int)(c:Nat->Nat->iR->Prop):=bK (λx d=>aA (aR a.args.a x d) (0<=b) (b<aG a.args/\∃(e:iR),c x d e))
abbrev A1(a:iR)(b:MH)(c:PH)(d:Nat->Nat->iR->Prop):=Bt a 0 (λx e f=>aK b c x (e+0) f.enc/\d x e f)
abbrev Es(a:Nat)(b:iR)(c:Int):=dE a (cT (jO b.enc) c)
abbrev rJ(a:dk)(b:iR)(c:PH)(d:Nat)(e:MH)(g:Nat)(i:PN->Int->MH->Nat->Nat->de->cn->Prop):=∃(x:PN)(u:Int)(f:MH),JP (λj y n o=>aA (a=Es j b u) (pO c x b) (aA (SizeOf.sizeOf x<d) (Jg x) (aA (iG f e c j y n o) (eK f) (aA (n.length+g*lE x<=90000) (o.length+lE x<=90000) (i x u f j y n o)))))
abbrev vY a b:=CV.val (gZ (↑(bZ a b).2:Int))
abbrev mF(a b:iR):=qM 97 a.enc=qM 97 b.enc
abbrev Bf(a:Nat×cu×iR×iR):=a.2.2.2
abbrev KI(a:Prop)(b:iR×iR×MH×PH->Prop)(c:(iR×iR×MH×PH)->Prop):=a/\∀(x:iR×iR×MH×PH),b x->c x
abbrev La a b c d:=Step.mk a b Lr c [] [] [] b d b
abbrev pT(a:iR×iR×MH×PH):=a.2.2
abbrev Py(a:dk)(b:Nat->Option Obj)(c:Nat->Nat->Option Value)(d:Int->Int->MH->Nat->Nat->de->cn->Prop):=Hn (λx j=>∃(e:MH),JP (λf n g o=>aA (a=dE f (cT (jA x) j)) (iG e b c f n g o) (aA (eK e) (g.length<=100000) (d x j e f n g o))))
abbrev A6 a b:=Step.mk 8 0 Lr [] [] [] [] 0 a b
abbrev KH(a:Nat)(b c:Int)(d:Nat->Option Obj)(e:Nat->Nat->Option Value)(g:Int->Int->de->MH->PH->Prop):=Py (dE a (cT (jA b) c)) d e (λx j u y z n A=>fD (λo f=>bS e f (iG u o f y z (bZ (A6 x j) n).1 A) (g x j n o f)))
abbrev nZ:=eP 13
attribute [push_cast] Bt A1 Es rJ vY mF Bf KI La pT Py A6 KH nZ
def XS N cb v d m h K:=
  dQ (uS v==1) (∃(y:Sl),aK m h cb 1 (aL y)/\∃(x:List cr),aA (cL m (dL y) 3 1 x) (A5 x) (eA x/\jW (λs D=>gK m D (dL y) s 3 1 (dP x (bC d))->gT (λc E=>aA (sL D cb (fA c E 0)) (1<c.size) (∀(G:MH),bJ D G cb (splice c.toList 1 (aL s)) E->yK K G h))))) (uS v==2) (A1 v m h (λ_ _ y=>∃(H:iR),rJ (Es cb y d) H h N m 5 (λp B D c G t r=>fD (λC e=>bS h e (iG D C e c G (gV p B t r).1 (gV p B t r).2) (yK K C e))))) (dQ (uS v==3) (A1 v m h (λb o y=>bK (λz u=>aA (aR v.args.a z u) ((0:Int)<=0) (0<aG v.args/\∃(j:Int),aA (aK m h z (u+0+23) (bC j)) (kU h b o 0 y.enc) (kU h z (u+0) 23 (bC j)/\rY (λs c=>aA (eY (nW
 v.query.columns) (nW s)) (Ints h s c) (iB c/\∀(Y:Sl)(e:PH),bS h e (jD e Y (oY c)) (kU e b o 0 y.enc/\Ic cb j d Y e m (λl r o2 D M G t J=>fD (λC A=>bS e A (iG D C A M G (bZ (zK o2 l r) t).1 J) (kU A z (u+0) 23 (bC j)/\∃(H:iR),rJ (dE cb (eU y.enc (vY (zK o2 l r) t))) H A N C 5 (λp B L S R F T=>fD (λP O=>bS A O (iG L P O S R (gV p B F T).1 (gV p B F T).2) (yK K P O)))))))))))))) (uS v==4) (∃(I:iR×iR->Prop),A1 v m h (λb o y=>Bt v 1 (λz u j=>aA (aK m h z (u+25) j.enc) (aA (aK m h b (o+0) y.enc) (aK m h z (u+25) j.enc) (aA (aK m h b (o+0) y.enc) (aK m h z (u+25) j.enc) (kU h z u 25 j.enc/\∃(x:iR×iR),aA (I x) (cX cb) (aA
 (fI d) (eP 7) (aA iT (mF y x.1) (aA (mF j x.2) (m=m) (bU h h))))))) (aA (aK m h b (o+0) y.enc) (aK m h z (u+25) j.enc) (aA (aK m h b (o+0) y.enc) (aK m h z (u+25) j.enc) (kU h z u 25 j.enc/\∃(x:iR×iR),aA (I x) (cX cb) (aA (fI d) (eP 7) (aA iT (mF y x.1) (aA (mF j x.2) (m=m) (bU h h)))))))))/\∀(x:iR×iR),I x->∃(I1:Nat×cu×iR×iR->Prop)(D:Nat×cu×iR×iR->Nat),(∃(f:Nat×cu×iR×iR),aA (I1 f) (cX cb) (aA (fI d) (eP 7) (aA iT (eL 82) (aA (dA x.2.width (Bf f).width) (bA f.1) (aA (mF x.1 f.2.2.1) (mF x.2 (Bf f)) (aA (vB 130 2 (Ez f.2.1)) (m=m) (bU h h)))))))/\∀(f:Nat×cu×iR×iR),I1 f->aY (↑f.1:Int)
 (Bf f).width (aA (jN (kB (Ez f.2.1) 1) 16) (eA (Ez f.2.1)) (∃(Q:Nat×cu×iR×iR),aA (I1 Q) (D Q<D f) (aA (cX cb) (fI d) (aA (eP 7) iT (aA (eL 82) (dA (Bf f).width (Bf Q).width) (aA (iH (bE f.1 1)=bP Q.1) (mF f.2.2.1 Q.2.2.1) (aA (mF (Bf f) (Bf Q)) (bW 130 2 (dP (Ez f.2.1) (BD (iF (f.2.2.1.width+(↑f.1:Int))) (↑f.1:Int)))=bW 130 2 (Ez Q.2.1)) (eM m m h h)))))))) (∃(I2:iR×iR×MH×PH->Prop),KI (cK h 2 (Ez f.2.1) (λs e=>Ic cb d (Bf f).rows s e m (λl r o G c C t J=>fD (λL A=>bS e A (iG G L A c C (bZ (zK o l r) t).1 J) (Hn (λa n=>aA (cT (jA 0) f.2.2.1.width=cT (jA a) n) (cN a) (aA (cN n) (a<=1000) (n<=1000/\
 ∀(Y:Sl)(O:PH),bS A O (Ints O Y (iE a n)) (∃(W:Int),rY (λM S=>Lm (dE cb (tN (vY (zK o l r) t) (nW Y))) (λc3=>dE c3 (gJ W (nW M))) (Ints O M S) (iB S) L O (λR c3 P F T=>fD (λV h4=>bS O h4 (iG R V h4 c3 P (bZ (La 3 0 S W) F).1 T) (∃(H:iR),rJ (dE cb (eU f.2.2.1.enc (vY (La 3 0 S W) F))) H h4 N V 5 (λp B m8 c4 m9 U Z=>fD (λa1 h5=>bS h4 h5 (iG m8 a1 h5 c4 m9 (gV p B U Z).1 (gV p B U Z).2) (∃(Q:iR×iR×MH×PH),aA (I2 Q) (cX cb) (aA (fI d) (eP 7) (aA iT (mF f.2.2.1 Q.1) (aA (mF (Bf f) Q.2.1) (bO a1 (pT Q)) (kY (cF h5 (pT Q)))))))))))))))))))))) I2 (λQ=>Hn (λa n=>aA (cT (jA Q.1.width) Q.2.1.width=cT (jA a) n)
 (cN a) (aA (cN n) (a<=1000) (n<=1000/\∀(s:Sl)(e:PH),bS (pT Q).2 e (Ints e s (iE a n)) (∃(l:Int),rY (λc M=>Lm (dE cb (gJ d (nW s))) (λS=>dE S (gJ l (nW c))) (Ints e c M) (iB M) (pT Q).1 e (λG S C t r=>fD (λL A=>bS e A (iG G L A S C (bZ (La 3 0 M l) t).1 r) (∃(H:iR),rJ (dE cb (eU Q.2.1.enc (vY (La 3 0 M l) t))) H A N L 5 (λp B R c3 P F J=>fD (λV O=>bS A O (iG R V O c3 P (gV p B F J).1 (gV p B F J).2) (yK K V O)))))))))))))) (dQ (uS v==5) (∃(I:iR×iR->Prop),A1 v m h (λb o y=>Bt v 1 (λz u j=>aA (aK m h z (u+25) j.enc) (aA (aK m h b (o+0) y.enc) (aK m h z (u+25) j.enc) (aA (aK m h b (o+0) y.enc) (aK m h z (u+
 25) j.enc) (kU h z u 25 j.enc/\∃(x:iR×iR),aA (I x) (cX cb) (aA (fI d) lK (aA nA (eP 12) (aA (fU v.query) (mF y x.1) (dJ (mF j x.2) m m h h))))))) (aA (aK m h b (o+0) y.enc) (aK m h z (u+25) j.enc) (aA (aK m h b (o+0) y.enc) (aK m h z (u+25) j.enc) (kU h z u 25 j.enc/\∃(x:iR×iR),aA (I x) (cX cb) (aA (fI d) lK (aA nA (eP 12) (aA (fU v.query) (mF y x.1) (dJ (mF j x.2) m m h h)))))))))/\∀(x:iR×iR),I x->∃(I1:iR×iR×MH×PH->Prop),KI (Ic cb d x.2.rows v.query.on h m (λl r o D c G t J=>fD (λC e=>bS h e (iG D C e c G (bZ (zK o l r) t).1 J) (∃(H:iR),rJ (dE cb (eU x.1.enc (vY (zK o l r) t))) H e N C 5 (λp B L M R F T=>fD (λP A=>bS e
 A (iG L P A M R (gV p B F T).1 (gV p B F T).2) (∃(f:iR×iR×MH×PH),aA (I1 f) (cX cb) (aA (fI d) lK (aA (eP 12) (fU v.query) (aA (mF x.2 f.2.1) (bO P (pT f)) (kY (cF A (pT f))))))))))))) I1 (λf=>Dl (λs o=>aA (eY (nW v.query.on) (nW s)) (jD (pT f).2 s o) (mY o.length/\∀(Y:Sl)(e:PH),bS (pT f).2 e (jD e Y (qI o)) (Ic cb f.2.1.env d Y e (pT f).1 (λl r u D c G t J=>fD (λC A=>bS e A (iG D C A c G (bZ (zK u l r) t).1 J) (∃(H:iR),rJ (dE cb (eU f.2.1.enc (vY (zK u l r) t))) H A N C 5 (λp B L M R F T=>fD (λP O=>bS A O (iG L P O M R (gV p B F T).1 (gV p B F T).2) (yK K P O))))))))))) (uS v==6) (∃(I:MH×PH->
 Prop),A1 v m h (λb o y=>bK (λz u=>aA (aR v.args.a z u) ((0:Int)<=0) (0<aG v.args/\∃(j:Int),aA (aK m h z (u+0+23) (bC j)) (kU h b o 0 y.enc) (KH cb j d m h (λl r t D e=>kU e z (u+0) 23 (bC j)/\∃(H:iR),rJ (dE cb (eU y.enc (vY (A6 l r) t))) H e N D 5 (λp B G c C F J=>fD (λL A=>bS e A (iG G L A c C (gV p B F J).1 (gV p B F J).2) (∃(x:MH×PH),aA (I x) (cX cb) (aA (fI d) (eP 4) (aA (eQ (qM 97 v.enc)) (bO L x) (cF A x/\True)))))))))))/\∀(x:MH×PH),I x->Bt v 1 (λb o y=>aK x.1 x.2 b (o+25) y.enc/\bK (λz u=>aA (aR v.args.a z u) ((0:Int)<=1) (1<aG v.args/\∃(j:Int),aA (aK x.1 x.2 z (u+25+23) (bC j)) (kU x.2 b o 25 y.enc) (KH
 cb j d x.1 x.2 (λl r t D e=>kU e z (u+25) 23 (bC j)/\∃(H:iR),rJ (dE cb (eU y.enc (vY (A6 l r) t))) H e N D 5 (λp B G c C F J=>fD (λL A=>bS e A (iG G L A c C (gV p B F J).1 (gV p B F J).2) (yK K L A))))))))) (dQ (uS v==7) (∃(I:iR×iR->Prop),A1 v m h (λb o y=>Bt v 1 (λz u j=>aA (aK m h z (u+25) j.enc) (aA (aK m h b (o+0) y.enc) (aK m h z (u+25) j.enc) (aA (aK m h b (o+0) y.enc) (aK m h z (u+25) j.enc) (kU h z u 25 j.enc/\∃(x:iR×iR),aA (I x) (cX cb) (aA (fI d) nZ (aA (eP 14) (mF y x.1) (aA (mF j x.2) (m=m) (bU h h))))))) (aA (aK m h b (o+0) y.enc) (aK m h z (u+25) j.enc) (aA (aK m h b (o+0) y.enc) (aK m h z (u+25) j.enc) (kU h z u
 25 j.enc/\∃(x:iR×iR),aA (I x) (cX cb) (aA (fI d) nZ (aA (eP 14) (mF y x.1) (aA (mF j x.2) (m=m) (bU h h)))))))))/\∀(x:iR×iR),I x->∃(I1:iR×iR×MH×PH->Prop),KI (∃(H:iR),rJ (Es cb x.1 d) H h N m 5 (λp B D c G t r=>fD (λC e=>bS h e (iG D C e c G (gV p B t r).1 (gV p B t r).2) (∃(f:iR×iR×MH×PH),aA (I1 f) (cX cb) (aA (fI d) nZ (aA (eP 14) (mF x.1 f.1) (aA (mF x.2 f.2.1) (bO C (pT f)) (kY (cF e (pT f)))))))))) I1 (λf=>KH cb f.2.1.env d (pT f).1 (pT f).2 (λl r t D e=>Py (dE cb (cT (vY (A6 l r) t) f.1.rows)) D e (λW J G c C F T=>fD (λL A=>bS e A (iG G L A c C (bZ (A6 W J) F).1 T) (∃(H:iR),rJ
 (dE cb (eU f.2.1.enc (vY (A6 W J) F))) H A N L 5 (λp B R M P U Z=>fD (λV O=>bS A O (iG R V O M P (gV p B U Z).1 (gV p B U Z).2) (yK K V O))))))))) (uS v==8) (∃(I:iR×iR->Prop),A1 v m h (λb o y=>Bt v 1 (λz u j=>aA (aK m h z (u+25) j.enc) (aA (aK m h b (o+0) y.enc) (aK m h z (u+25) j.enc) (aA (aK m h b (o+0) y.enc) (aK m h z (u+25) j.enc) (kU h z u 25 j.enc/\∃(x:iR×iR),aA (I x) (cX cb) (aA (fI d) nZ (aA (eP 14) (mF y x.1) (aA (mF j x.2) (m=m) (bU h h))))))) (aA (aK m h b (o+0) y.enc) (aK m h z (u+25) j.enc) (aA (aK m h b (o+0) y.enc) (aK m h z (u+25) j.enc) (kU h z u 25 j.enc/\∃(x:iR×iR),aA (I x) (cX cb) (aA (fI d) nZ (aA (eP 14)
 (mF y x.1) (aA (mF j x.2) (m=m) (bU h h)))))))))/\∀(x:iR×iR),I x->∃(I1:iR×iR×MH×PH->Prop),KI (∃(H:iR),rJ (Es cb x.1 d) H h N m 5 (λp B D c G t r=>fD (λC e=>bS h e (iG D C e c G (gV p B t r).1 (gV p B t r).2) (∃(f:iR×iR×MH×PH),aA (I1 f) (cX cb) (aA (fI d) nZ (aA (eP 14) (mF x.1 f.1) (aA (mF x.2 f.2.1) (bO C (pT f)) (kY (cF e (pT f)))))))))) I1 (λf=>KH cb f.2.1.env d (pT f).1 (pT f).2 (λl r t D e=>Py (dE cb (cT (vY (A6 l r) t) f.1.rows)) D e (λW J G c C F T=>fD (λL A=>bS e A (iG G L A c C (bZ (A6 W J) F).1 T) (∃(H:iR),rJ (dE cb (eU f.2.1.enc (vY (A6 W J) F))) H A N L 5 (λp B R M P U Z
 =>fD (λV O=>bS A O (iG R V O M P (gV p B U Z).1 (gV p B U Z).2) (yK K V O))))))))) (dQ (uS v==9) (A1 v m h (λb o y=>Bt v 0 (λz u j=>aA (aK m h z (u+0) j.enc) (kU h b o 0 y.enc) (∃(H:iR)(p:PN)(B:Int)(q:QV),D2 (λo2 t w c o3 g X l a=>∃(D:MH),JP (λM G F r=>aA (dE cb (cE j.enc (gJ d (cM v.query)))=dE M (cE H.enc (gJ B (cM q)))) (pO h p H) (aA (dO h (Query.mk o2 t w c o3 g X l a) q) (iB g) (aA (mY X.length) (iG D m h M G F r) (aA (eK D) (F.length<=99999) (fD (λC e=>bS h e (iG D C e M G (BQ p B g X l F).1 r) (kU e z u 0 j.enc/\∃(v2:iR),rJ (Es cb y (↑(BQ p B g X l F).2:Int)) v2 e N C 5 (λp1 d2 L S R U J=>fD (λP A=>
 bS e A (iG L P A S R (gV p1 d2 U J).1 (gV p1 d2 U J).2) (yK K P A))))))))))))))) (uS v==10) (∃(I:MH×PH->Prop),A1 v m h (λ_ _ y=>∃(H:iR),rJ (Es cb y d) H h N m 5 (λp B D c G t r=>fD (λC e=>bS h e (iG D C e c G (gV p B t r).1 (gV p B t r).2) (∃(x:MH×PH),aA (I x) (cX cb) (aA (fI d) (eP 4) (aA lK (eQ (qM 97 v.enc)) (aA (fU v.query) (bO C x) (kY (cF e x)))))))))/\∀(x:MH×PH),I x->Bt v 1 (λb o y=>aK x.1 x.2 b (o+25) y.enc/\Bt v 1 (λz u j=>aA (aK x.1 x.2 z (u+25) j.enc) (kU x.2 b o 25 y.enc) (∃(H:iR)(p:PN)(B:Int)(q:QV),D2 (λo2 t w c o3 g X l a=>∃(D:MH),JP (λM G F r=>aA (dE cb (cE j.enc (gJ d (cM v.query)))=dE M (cE H.enc
 (gJ B (cM q)))) (pO x.2 p H) (aA (dO x.2 (Query.mk o2 t w c o3 g X l a) q) (iB g) (aA (mY X.length) (iG D x.1 x.2 M G F r) (aA (eK D) (F.length<=99999) (fD (λC e=>bS x.2 e (iG D C e M G (BQ p B g X l F).1 r) (kU e z u 25 j.enc/\∃(v2:iR),rJ (Es cb y (↑(BQ p B g X l F).2:Int)) v2 e N C 5 (λp1 d2 L S R U J=>fD (λP A=>bS e A (iG L P A S R (gV p1 d2 U J).1 (gV p1 d2 U J).2) (yK K P A))))))))))))))) (yK K m h)))))
theorem Fv{α}{l:List α}(h:(l.length:Int)=1):∃a,l=[a]:=by
 match l,h with
 |[a],_=>grind
 |[],h=>simp at h
 |_::_::_,h=>grind
theorem rU{α}{l:List α}(h:(l.length:Int)=2):∃a b,l=[a,b]:=by
 match l,h with
 |[a,b],_=>grind
 |[],h=>simp at h
 |[_],h=>simp at h
 |_::_::_::_,h=>grind
theorem Jg.w{p}(x:Jg p):0<=p.width/\p.width<=500:=by
 obtain⟨⟨op,ta,w,co,on,gr,od,li,c⟩,args,rows,env,d⟩:=p;rw[Jg]at x;exact⟨x.2.1,x.2.2.1⟩
theorem CT a d gr od li ts:(BQ a d gr od li ts).1.length<=ts.length+2:=by
 unfold BQ;have c:=dZ (dX a.env d (sA gr)) ts;have e:=dZ (Ql (bZ (dX a.env d (sA gr)) ts).2 a.rows gr od li) (bZ (dX a.env d (sA gr)) ts).1
 grind
theorem i7:∀(p:PN)(d:Int)(ts:de)(rs:cn),(gV p d ts rs).1.length<=ts.length+5*lE p/\(gV p d ts rs).2.length<=rs.length+lE p
 |.mk (.mk op ta w co on gr od li g) args rows env n,d,ts,rs=>by
  rw[gV.eq_def]
  match args with
  |[]=>dsimp only;split<;>simp[lE,sG]<;>omega
  |[a]=>
   dsimp only;simp only[lE,sG];split
   .have:=i7 a d ts rs;omega
   .split
    .have c:=dZ (dX a.env d (oY co)) ts;have:=i7 a (bZ (dX a.env d (oY co)) ts).2 (bZ (dX a.env d (oY co)) ts).1 rs;omega
    .split
     .have c:=CT a d gr od li ts;have:=i7 a (BQ a d gr od li ts).2 (BQ a d gr od li ts).1 rs;omega
     grind
  |a::b::r=>
   dsimp only;simp only[lE,sG];split
   .have c:=dZ (dX d b.rows (Ay a.width b.width)) ts;generalize bZ (dX d b.rows (Ay a.width b.width)) ts=x at*
    have o:=dZ (pH x.2 (iE 0 a.width)) x.1;generalize bZ (pH x.2 (iE 0 a.width)) x.1=y at*
    have e:=i7 a y.2 y.1 rs;generalize gV a y.2 y.1 rs=z at*
    have j:=dZ (pH d (iE a.width b.width)) z.1;generalize bZ (pH d (iE a.width b.width)) z.1=u at*
    have f:=i7 b u.2 u.1 z.2;omega
   .split
    .have c:=dZ (dX d b.rows on) ts;generalize bZ (dX d b.rows on) ts=x at*
     have e:=i7 a x.2 x.1 rs;generalize gV a x.2 x.1 rs=z at*
     have j:=dZ (dX b.env d (qI on)) z.1;generalize bZ (dX b.env d (qI on)) z.1=u at*
     have f:=i7 b u.2 u.1 z.2;omega
    .split
     .have c:=dZ (cQ a.env d) ts;generalize bZ (cQ a.env d) ts=x at*
      have e:=i7 a x.2 x.1 rs;generalize gV a x.2 x.1 rs=z at*
      have j:=dZ (cQ b.env d) z.1;generalize bZ (cQ b.env d) z.1=u at*
      have f:=i7 b u.2 u.1 z.2;omega
     .split
      .have e:=i7 a d ts rs;generalize gV a d ts rs=z at*
       have c:=dZ (cQ b.env d) z.1;generalize bZ (cQ b.env d) z.1=x at*
       have j:=dZ (cQ x.2 a.rows) x.1;generalize bZ (cQ x.2 a.rows) x.1=u at*
       have f:=i7 b u.2 u.1 z.2;omega
      .split
       .have e:=i7 a d ts rs;generalize gV a d ts rs=z at*
        have c:=CT b d gr od li z.1;generalize BQ b d gr od li z.1=x at*
        have f:=i7 b x.2 x.1 z.2;omega
       grind
 termination_by p=>SizeOf.sizeOf p
theorem aWX{m0 u d}(c:iG m0 m h cb u ts rs)(hl:rs.length<=90000)(Y:∀m',iG m0 m' h cb u ts (rs++[d])->K (.tup []) m' h):
 ∃y:Sl,aK m h cb 1 [dW y]/\∃xs,cL m (Sl.mk y.a y.len y.cap) 3 1 xs/\(xs.length+1)*8<=140737488355328/\xs.length<140737488355328/\∀(T:Sl)(m':MH),gK m m' (Sl.mk y.a y.len y.cap) T 3 1 (xs++[[gZ d]])->∃(cs:Array Value)(E:TypeId),sL m' cb (Obj.cells cs E)/\1<cs.size/\∀(g:MH),lI m' g cb (Obj.cells (Array.mk (splice cs.toList 1 [dW T])) E)->K (CV.tup []) g h:=by
 obtain⟨s,r,A,⟨Z,U,J⟩,f,L,a'⟩:=c.ex;obtain⟨es,cl,M,O⟩:=c.map_.ex;refine⟨r,.of_m A rfl,rs.map eI,f,bg,bg,λB m1 z=>?_⟩
 have P:∀i,r.a≠some ⟨cb,i,none⟩:=λi e=>by
  obtain⟨n,C⟩:=cL.blk f e
  grind
 have Q:∀i,r.a≠some ⟨u,i,none⟩:=λi e=>by
  obtain⟨n,C⟩:=cL.blk f e
  grind
 have V:cb≠u:=λe=>bg
 have D:=z.other cb _ A P;have W:=z.other u _ M Q;refine⟨_,_,⟨D⟩,ay,λR F=>?_⟩;have F:lI m1 R cb (.cells #[.slice s.a s.len s.cap,.slice B.a B.len B.cap,.map (some u)] 93 (0,0)):=F
 have G:∀b o,m b=some o->b≠cb->(∀i,r.a≠some ⟨b,i,none⟩)->R b=some o:=λb o e n1 n3=>by
  rw[F.other b n1];exact z.other b o e n3
 have H:∀b i,B.a=some ⟨b,i,none⟩->b≠cb:=λb i e e2=>by
  obtain⟨n,C⟩:=cL.blk z.row e
  grind
 refine Y R ⟨λb o e=>G b o (c.sub b o e) (λI=>by rw[I,c.cb0]at e;cases e) (λi I=>bg),c.cb0,c.mb0,⟨es,cl,bg,O⟩,c.nodup,s,B,F.at_,⟨Z,?_,J⟩,?_,L,?_⟩
 .refine cL.keep U (λb i e=>?_);obtain⟨n,C⟩:=cL.blk U e;rw[C];refine G b _ C (λI=>?_) (λj I=>?_)
  .grind
  .obtain⟨X,h4⟩:=cL.blk f I
   grind
 .rw[bu];exact cL.keep z.row (λb i e=>by rw[F.other b (H b i e)])
 .intro b i e;rcases z.fresh b i e with S|⟨j,S⟩
  .cases e0:m0 b with
   |none=>rfl
   |some o=>rw[c.sub b o e0]at S;cases S
  grind
theorem pO.form{p v}(x:pO h p v):∃q s,v=⟨q,s,p.rows,p.env,p.width⟩:=by
 obtain⟨q,s,r,e,w⟩:=v;have c:=x.rows_;have d:=x.env_;have f:=x.width_
 grind
theorem aJQ:∀N,cm 43 (cZJ N)
 |0=>by
  refine fW (fn:=Tryz.f43) (c:=eD Tryz.f43) func43 rfl az ?_;rintro b9 m h K ⟨v,p,d,A,cb,B,ts,rs,rfl,_,hN,_⟩;omega
 |N+1=>by
  refine jC func43 ?_;rintro b9 m h K ⟨v,p,d,A,cb,B,ts,rs,rfl,hp,hN,ok,c,T,l1,l2,L⟩;refine⟨coX N cb d v m h,rfl,aE (aJQ N) (aE Tg (aE a6Q (aE a5J (aE a5Z (aE a5X (aE a5Q (aE a4J aH))))))),XS N cb v d m h K,ax,?_⟩;dsimp only[XS,push_cast];obtain⟨⟨op,ta,w,co,on,gr,od,li,a3⟩,args,rows,env,wd⟩:=p;obtain⟨hq,_,_,_,d0,vs,hr,b3⟩:=hp;rw[Jg]at ok;obtain⟨oa,d1,d2,b4,b5,b6,b7,a6⟩:=ok;have x:=hq.parts;have d':v.args.len=args.length:=by have:=hr.len;rw[length_map,b3.length]at this;exact this
  have at_:∀{hx:PH}(_:PH.le h hx)(i:Nat)(a:PN)(_:args[i]? =some a),∃b o q s,v.args.a=some ⟨b,o,none⟩/\cO hx b (o+i*25) (iR.enc ⟨q,s,a.rows,a.env,a.width⟩)/\pO hx a ⟨q,s,a.rows,a.env,a.width⟩:=λle i a ha=>by
   obtain⟨b,o,u,e,r,H⟩:=cBQ (hr.mono le) (mL.mono le b3) ha;obtain⟨q,s,rfl⟩:=H.form
   grind
  have small:∀a∈args,SizeOf.sizeOf a<N:=λa ha=>by
   have:=sizeOf_lt_of_mem ha
   grind
  have j:∀{mx:MH}{hx:PH}(a:PN)(u:iR)(dd:Int)(Y:de)(a0:cn){KK:MH->PH->Prop},a∈args->pO hx a u->iG A mx hx cb B Y a0->Y.length+5*lE a<=90000->a0.length+lE a<=90000->(∀m' h',PH.le hx h'->iG A m' h' cb B (gV a dd Y a0).1 (gV a dd Y a0).2->KK m' h')->
   ∃(v:iR)(p:PN),∃(a7:Int)(A:MH),∃(a4 B:Nat)(ts:de)(rs:cn),[OP cb 0,jO (iR.enc u),jA dd]=[OP a4 0,jO (iR.enc v),jA a7]/\pO hx p v/\SizeOf.sizeOf p<N/\Jg p/\iG A mx hx a4 B ts rs/\eK A/\ts.length+5*lE p<=90000/\rs.length+lE p<=90000/\∀(m':MH)(h':PH),hx.le h'->iG A m' h' a4 B (gV p a7 ts rs).1 (gV p a7 ts rs).2->KK m' h':=
   λa u dd Y a0 KK ha H M b1 b2 hk=>⟨u,a,dd,A,cb,B,Y,a0,rfl,H,small a ha,a6 a ha,M,T,b1,b2,hk⟩
  show branch (v.query.op==1) _ _;rw[x.op_];simp only[lE]at l1 l2;refine aD (λe=>?_) (λn1=>aD (λe=>?_) (λn2=>aD (λe=>?_) (λn3=>aD (λe=>?_) (λn4=>aD (λe=>?_) (λn5=>aD (λe=>?_) (λn6=>aD (λe=>?_) (λn7=>aD (λe=>?_) (λn8=>aD (λe=>?_) (λn9=>aD (λe=>?_) (λc0=>?_))))))))))
  .have e:op=1:=bk e
   subst e;obtain rfl:args=[]:=eq_nil_of_length_eq_zero (by have:arity 1=0:=rfl;omega);rw[gV]at L;exact aWX c aC (λm' c'=>L m' h (.refl _) bg)
  .have e:op=2:=bk e
   subst e;obtain⟨a,rfl⟩:=Fv (l:=args) (by rw[oa];rfl);simp only[sG]at l1 l2;simp only[gV,if_true]at L;obtain⟨b,o,P,Q,e,r,H⟩:=at_ (.refl _) 0 a rfl;exact⟨b,o,e,aC,bg,_,.imm r,j a _ d ts rs ay H c aC aC L⟩
  .have e:op=3:=bk e
   subst e;obtain⟨a,rfl⟩:=Fv (l:=args) (by rw[oa];rfl);simp only[sG]at l1 l2;simp only[gV,if_true,show((3:Int)=2)=False by simp,if_false]at L;obtain⟨b,o,P,Q,e,r,H⟩:=at_ (.refl _) 0 a rfl;have rc:=(O4 r).2.2.1;have hx:=dZ (dX a.env d (oY co)) ts;refine⟨b,o,e,aC,bg,_,.imm r,b,o,e,aC,bg,_,.imm rc,r,rc,v.query.columns,co,rfl,x.columns_,b4,λs h1 R a8=>⟨r.mono R,a.env,d,s,oY co,A,cb,B,ts,rs,rfl,a8,cj (Q5 co co.length) b4,c.mono R,T,aC,λm2 h2 C M=>⟨rc.mono (R.trans C),?_⟩⟩⟩;have M:iG A m2 h2 cb B (bZ (dX a.env d (oY co)) ts).1 rs:=M;exact j a _ _ _ _ ay (H.mono (R.trans C)) M aC aC (λJ I g E=>L J I ((R.trans C).trans g) E)
  .have e:op=4:=bk e
   subst e;obtain⟨a,f,rfl⟩:=rU (l:=args) (by rw[oa];rfl);simp only[sG]at l1 l2;simp only[gV,if_true]at L;obtain⟨b,o,P,Q,e,r,H⟩:=at_ (.refl _) 0 a rfl;obtain⟨b',o',W,O,e',n,F⟩:=at_ (.refl _) 1 f rfl;have wa:=(a6 a ay).w;have wb:=(a6 f ay).w;have a1:=dZ (dX d f.rows (Ay a.width f.width)) ts;have c1:=dZ (pH (bZ (dX d f.rows (Ay a.width f.width)) ts).2 (iE 0 a.width)) (bZ (dX d f.rows (Ay a.width f.width)) ts).1;have a2:=i7 a (bZ (pH (bZ (dX d f.rows (Ay a.width f.width)) ts).2 (iE 0 a.width)) (bZ (dX d f.rows (Ay a.width f.width)) ts).1).2 (bZ (pH (bZ (dX d f.rows (Ay a.width f.width)) ts).2 (iE 0 a.width)) (bZ (dX d f.rows (Ay a.width f.width)) ts).1).1 rs;generalize hZ:gV a (bZ (pH (bZ (dX d f.rows (Ay a.width f.width)) ts).2 (iE 0 a.width)) (bZ (dX d f.rows (Ay a.width f.width)) ts).1).2 (bZ (pH (bZ (dX d f.rows (Ay a.width f.width)) ts).2 (iE 0 a.width)) (bZ (dX d f.rows (Ay a.width f.width)) ts).1).1 rs=Z at*
   have a5:=dZ (pH d (iE a.width f.width)) Z.1;refine⟨λx=>x=(⟨P,Q,a.rows,a.env,a.width⟩,⟨W,O,f.rows,f.env,f.width⟩),⟨b,o,e,aC,bg,_,.imm r,b',o',e',aC,bg,_,.imm n,⟨.imm r,.imm n,.imm r,.imm n,n,_,rfl,MT⟩,.imm r,.imm n,.imm r,.imm n,n,_,rfl,MT⟩,?_⟩;rintro _ rfl;obtain⟨k,hk⟩:∃k:Nat,f.width=k:=⟨f.width.toNat,aC⟩
   refine⟨λx=>x.1<=k/\x.2.1=Ay a.width (x.1:Nat)/\x.2.2=(⟨P,Q,a.rows,a.env,a.width⟩,⟨W,O,f.rows,f.env,f.width⟩),λx=>k-x.1,⟨(0,[],_,_),⟨aC,rfl,rfl⟩,MT⟩,?_⟩;rintro⟨i,l,yz⟩ ⟨hi,X,e2⟩;dsimp only at hi X e2⊢
   subst X e2;have d3:(Ay a.width (i:Nat)).length=i:=by simp[Ay]
   refine aF (λc8=>?_) (λc9=>?_)
   .have c8:(i:Int)<(k:Int):=bg
    refine⟨bg,bg,(i+1,Ay a.width ((i+1:Nat):Int),_,_),⟨aC,rfl,rfl⟩,aC,?_⟩
    have e:Ay a.width ((i+1:Nat):Int)=Ay a.width (i:Nat)++[(IntKind.i64.wrap (a.width+(i:Int)),(i:Int))]:=by
     rw[fL aC aC];simp[Ay,range_succ]
    rw[e,bu];exact MT
   .have c9:¬(i:Int)<(k:Int):=bg
    obtain rfl:i=k:=by omega
    rw[hk]at a1 c1 a2 hZ;refine⟨λx=>x.2.1=⟨W,O,f.rows,f.env,f.width⟩/\x.1=⟨P,Q,a.rows,a.env,a.width⟩/\PH.le h x.2.2.2/\iG A x.2.2.1 x.2.2.2 cb B Z.1 Z.2,λs h1 R a8=>⟨d,f.rows,s,Ay a.width (i:Nat),A,cb,B,ts,rs,rfl,⟨a8,aC⟩,aC,c.mono R,T,aC,λm2 h2 C M=>?_⟩,?_⟩
    .have M:iG A m2 h2 cb B (bZ (dX d f.rows (Ay a.width (i:Nat))) ts).1 rs:=M;refine⟨0,a.width,rfl,aC,aC,aC,aC,λO I g a9=>⟨_,O,iE 0 a.width,A,cb,B,(bZ (dX d f.rows (Ay a.width (i:Nat))) ts).1,rs,rfl,a9,?_,M.mono g,T,aC,λm4 h4 U c4=>?_⟩⟩
     .simp[iE];omega
     .have c4:iG A m4 h4 cb B (bZ (pH (bZ (dX d f.rows (Ay a.width (i:Nat))) ts).2 (iE 0 a.width)) (bZ (dX d f.rows (Ay a.width (i:Nat))) ts).1).1 rs:=c4;have le:=((R.trans C).trans g).trans U;exact j a _ _ _ _ ay (H.mono le) c4 aC aC (λJ I g E=>⟨(_,_,J,I),⟨rfl,rfl,le.trans g,by rw[<-hZ];exact E⟩,MT⟩)
    .rintro⟨y,z,J,I⟩ ⟨X,e2,g,E⟩;dsimp only at X e2 g E⊢
     subst X e2;refine⟨a.width,f.width,rfl,aC,aC,aC,aC,λO h4 U a9=>⟨d,O,iE a.width f.width,A,cb,B,Z.1,Z.2,rfl,a9,by simp[iE];omega,E.mono U,T,aC,λm5 h5 D S=>?_⟩⟩;have S:iG A m5 h5 cb B (bZ (pH d (iE a.width f.width)) Z.1).1 Z.2:=S;have le:=(g.trans U).trans D;exact j f _ _ _ _ ay (F.mono le) S aC aC (λm6 h6 G V=>L m6 h6 (le.trans G) V)
  .have e:op=5:=bk e
   subst e;obtain⟨a,f,rfl⟩:=rU (l:=args) (by rw[oa];rfl);simp only[sG]at l1 l2;simp only[gV,if_true,show((5:Int)=4)=False by simp,if_false]at L;obtain⟨b,o,P,Q,e,r,H⟩:=at_ (.refl _) 0 a rfl;obtain⟨b',o',W,O,e',n,F⟩:=at_ (.refl _) 1 f rfl;have a1:=dZ (dX d f.rows on) ts;have a2:=i7 a (bZ (dX d f.rows on) ts).2 (bZ (dX d f.rows on) ts).1 rs;generalize hZ:gV a (bZ (dX d f.rows on) ts).2 (bZ (dX d f.rows on) ts).1 rs=Z at*
   have a5:=dZ (dX f.env d (qI on)) Z.1;refine⟨λx=>x=(⟨P,Q,a.rows,a.env,a.width⟩,⟨W,O,f.rows,f.env,f.width⟩),⟨b,o,e,aC,bg,_,.imm r,b',o',e',aC,bg,_,.imm n,⟨.imm r,.imm n,.imm r,.imm n,n,_,rfl,MT⟩,.imm r,.imm n,.imm r,.imm n,n,_,rfl,MT⟩,?_⟩;rintro _ rfl;refine⟨λx=>x.2.1=⟨W,O,f.rows,f.env,f.width⟩/\PH.le h x.2.2.2/\iG A x.2.2.1 x.2.2.2 cb B Z.1 Z.2,⟨d,f.rows,v.query.on,on,A,cb,B,ts,rs,rfl,x.on_,b5,c,T,aC,λm2 h2 C M=>?_⟩,?_⟩
   .have M:iG A m2 h2 cb B (bZ (dX d f.rows on) ts).1 rs:=M;exact j a _ _ _ _ ay (H.mono C) M aC aC (λJ I g E=>⟨(⟨P,Q,a.rows,a.env,a.width⟩,_,J,I),⟨rfl,C.trans g,by rw[<-hZ];exact E⟩,MT⟩)
   .rintro⟨y,z,J,I⟩ ⟨X,g,E⟩;dsimp only at X g E⊢
    subst X;refine⟨v.query.on,on,rfl,x.on_.mono g,b5,λs h4 U hs=>⟨f.env,d,s,qI on,A,cb,B,Z.1,Z.2,rfl,hs,by simp[qI];omega,E.mono U,T,aC,λm5 h5 D S=>?_⟩⟩;have S:iG A m5 h5 cb B (bZ (dX f.env d (qI on)) Z.1).1 Z.2:=S;have le:=(g.trans U).trans D;exact j f _ _ _ _ ay (F.mono le) S aC aC (λm6 h6 G V=>L m6 h6 (le.trans G) V)
  .have e:op=6:=bk e
   subst e;obtain⟨a,f,rfl⟩:=rU (l:=args) (by rw[oa];rfl);simp only[sG]at l1 l2;simp only[gV,if_true,show((6:Int)=4)=False by simp,show((6:Int)=5)=False by simp,if_false]at L;obtain⟨b,o,P,Q,e,r,H⟩:=at_ (.refl _) 0 a rfl;have rc:=(O4 r).2.2.1;have a1:=dZ (cQ a.env d) ts;have a2:=i7 a (bZ (cQ a.env d) ts).2 (bZ (cQ a.env d) ts).1 rs;generalize hZ:gV a (bZ (cQ a.env d) ts).2 (bZ (cQ a.env d) ts).1 rs=Z at*
   have a5:=dZ (cQ f.env d) Z.1;refine⟨λx=>PH.le h x.2/\iG A x.1 x.2 cb B Z.1 Z.2,⟨b,o,e,aC,bg,_,.imm r,b,o,e,aC,bg,_,.imm rc,r,a.env,d,A,cb,B,ts,rs,rfl,c,T,aC,λm2 h2 C M=>⟨rc.mono C,?_⟩⟩,?_⟩
   .have M:iG A m2 h2 cb B (bZ (cQ a.env d) ts).1 rs:=M;exact j a _ _ _ _ ay (H.mono C) M aC aC (λJ I g E=>⟨(J,I),⟨C.trans g,by rw[<-hZ];exact E⟩,MT⟩)
   .rintro⟨J,I⟩ ⟨g,E⟩;dsimp only at g E⊢
    obtain⟨b',o',W,O,e',n,F⟩:=at_ g 1 f rfl;have b8:=(O4 n).2.2.1;refine⟨b',o',e',aC,bg,_,.imm n,b',o',e',aC,bg,_,.imm b8,n,f.env,d,A,cb,B,Z.1,Z.2,rfl,E,T,aC,λm5 h5 D S=>⟨b8.mono D,?_⟩⟩;have S:iG A m5 h5 cb B (bZ (cQ f.env d) Z.1).1 Z.2:=S;exact j f _ _ _ _ ay (F.mono D) S aC aC (λm6 h6 G V=>L m6 h6 ((g.trans D).trans G) V)
  .have e:op=7:=bk e
   subst e;obtain⟨a,f,rfl⟩:=rU (l:=args) (by rw[oa];rfl);simp only[sG]at l1 l2;simp only[gV,if_true,show((7:Int)=4)=False by simp,show((7:Int)=5)=False by simp,show((7:Int)=6)=False by simp,if_false,true_or]at L;obtain⟨b,o,P,Q,e,r,H⟩:=at_ (.refl _) 0 a rfl;obtain⟨b',o',W,O,e',n,F⟩:=at_ (.refl _) 1 f rfl;have a2:=i7 a d ts rs;generalize hZ:gV a d ts rs=Z at*
   have a1:=dZ (cQ f.env d) Z.1;have a5:=dZ (cQ (bZ (cQ f.env d) Z.1).2 a.rows) (bZ (cQ f.env d) Z.1).1;refine⟨λx=>x=(⟨P,Q,a.rows,a.env,a.width⟩,⟨W,O,f.rows,f.env,f.width⟩),⟨b,o,e,aC,bg,_,.imm r,b',o',e',aC,bg,_,.imm n,⟨.imm r,.imm n,.imm r,.imm n,n,_,rfl,MT⟩,.imm r,.imm n,.imm r,.imm n,n,_,rfl,MT⟩,?_⟩;rintro _ rfl;refine⟨λx=>x.1=⟨P,Q,a.rows,a.env,a.width⟩/\x.2.1=⟨W,O,f.rows,f.env,f.width⟩/\PH.le h x.2.2.2/\iG A x.2.2.1 x.2.2.2 cb B Z.1 Z.2,j a _ _ _ _ ay H c aC aC (λJ I g E=>⟨(_,_,J,I),⟨rfl,rfl,g,bg⟩,MT⟩),?_⟩;rintro⟨y,z,J,I⟩ ⟨X,e2,g,E⟩;dsimp only at X e2 g E⊢
   subst X e2;refine⟨f.env,d,A,cb,B,Z.1,Z.2,rfl,E,T,aC,λm5 h5 D S=>⟨_,a.rows,A,cb,B,(bZ (cQ f.env d) Z.1).1,Z.2,rfl,S,T,aC,λm6 h6 G V=>?_⟩⟩;have V:iG A m6 h6 cb B (bZ (cQ (bZ (cQ f.env d) Z.1).2 a.rows) (bZ (cQ f.env d) Z.1).1).1 Z.2:=V;have le:=(g.trans D).trans G;exact j f _ _ _ _ ay (F.mono le) V aC aC (λm7 h7 b0 c7=>L m7 h7 (le.trans b0) c7)
  .have e:op=8:=bk e
   subst e;obtain⟨a,f,rfl⟩:=rU (l:=args) (by rw[oa];rfl);simp only[sG]at l1 l2;simp only[gV,if_true,show((8:Int)=4)=False by simp,show((8:Int)=5)=False by simp,show((8:Int)=6)=False by simp,if_false,or_true]at L;obtain⟨b,o,P,Q,e,r,H⟩:=at_ (.refl _) 0 a rfl;obtain⟨b',o',W,O,e',n,F⟩:=at_ (.refl _) 1 f rfl;have a2:=i7 a d ts rs;generalize hZ:gV a d ts rs=Z at*
   have a1:=dZ (cQ f.env d) Z.1;have a5:=dZ (cQ (bZ (cQ f.env d) Z.1).2 a.rows) (bZ (cQ f.env d) Z.1).1;refine⟨λx=>x=(⟨P,Q,a.rows,a.env,a.width⟩,⟨W,O,f.rows,f.env,f.width⟩),⟨b,o,e,aC,bg,_,.imm r,b',o',e',aC,bg,_,.imm n,⟨.imm r,.imm n,.imm r,.imm n,n,_,rfl,MT⟩,.imm r,.imm n,.imm r,.imm n,n,_,rfl,MT⟩,?_⟩;rintro _ rfl;refine⟨λx=>x.1=⟨P,Q,a.rows,a.env,a.width⟩/\x.2.1=⟨W,O,f.rows,f.env,f.width⟩/\PH.le h x.2.2.2/\iG A x.2.2.1 x.2.2.2 cb B Z.1 Z.2,j a _ _ _ _ ay H c aC aC (λJ I g E=>⟨(_,_,J,I),⟨rfl,rfl,g,bg⟩,MT⟩),?_⟩;rintro⟨y,z,J,I⟩ ⟨X,e2,g,E⟩;dsimp only at X e2 g E⊢
   subst X e2;refine⟨f.env,d,A,cb,B,Z.1,Z.2,rfl,E,T,aC,λm5 h5 D S=>⟨_,a.rows,A,cb,B,(bZ (cQ f.env d) Z.1).1,Z.2,rfl,S,T,aC,λm6 h6 G V=>?_⟩⟩;have V:iG A m6 h6 cb B (bZ (cQ (bZ (cQ f.env d) Z.1).2 a.rows) (bZ (cQ f.env d) Z.1).1).1 Z.2:=V;have le:=(g.trans D).trans G;exact j f _ _ _ _ ay (F.mono le) V aC aC (λm7 h7 b0 c7=>L m7 h7 (le.trans b0) c7)
  .have e:op=9:=bk e
   subst e;obtain⟨a,rfl⟩:=Fv (l:=args) (by rw[oa];rfl);simp only[sG]at l1 l2;simp only[gV,if_true,show((9:Int)=2)=False by simp,show((9:Int)=3)=False by simp,if_false]at L;obtain⟨b,o,P,Q,e,r,H⟩:=at_ (.refl _) 0 a rfl;have hx:=CT a d gr od li ts;refine⟨b,o,e,aC,bg,_,.imm r,b,o,e,aC,bg,_,.imm r,r,_,a,d,v.query,9,ta,w,co,on,gr,od,li,a3,A,cb,B,ts,rs,rfl,H,hq,b6,b7,c,T,aC,λm2 h2 C M=>⟨r.mono C,j a _ _ _ _ ay (H.mono C) M aC aC (λJ I g E=>L J I (C.trans g) E)⟩⟩
  .have e:op=10:=bk e
   subst e;obtain⟨a,f,rfl⟩:=rU (l:=args) (by rw[oa];rfl);simp only[sG]at l1 l2;simp only[gV,if_true,show((10:Int)=4)=False by simp,show((10:Int)=5)=False by simp,show((10:Int)=6)=False by simp,show((10:Int)=7)=False by simp,show((10:Int)=8)=False by simp,if_false,or_false]at L;obtain⟨b,o,P,Q,e,r,H⟩:=at_ (.refl _) 0 a rfl;have a2:=i7 a d ts rs;generalize hZ:gV a d ts rs=Z at*
   have a1:=CT f d gr od li Z.1;refine⟨λx=>PH.le h x.2/\iG A x.1 x.2 cb B Z.1 Z.2,⟨b,o,e,aC,bg,_,.imm r,j a _ _ _ _ ay H c aC aC (λJ I g E=>⟨(J,I),⟨g,bg⟩,MT⟩)⟩,?_⟩;rintro⟨J,I⟩ ⟨g,E⟩;dsimp only at g E⊢
   obtain⟨b',o',W,O,e',n,F⟩:=at_ g 1 f rfl;exact⟨b',o',e',aC,bg,_,.imm n,b',o',e',aC,bg,_,.imm n,n,_,f,d,v.query,10,ta,w,co,on,gr,od,li,a3,A,cb,B,Z.1,Z.2,rfl,F,hq.mono g,b6,b7,E,T,aC,λm5 h5 D S=>⟨n.mono D,j f _ _ _ _ ay (F.mono D) S aC aC (λm6 h6 G V=>L m6 h6 ((g.trans D).trans G) V)⟩⟩
  .exfalso;have h0:0<=arity op:=by omega
   simp only[beq_eq_false_iff_ne]at n1 n2 n3 n4 n5 n6 n7 n8 n9 c0;unfold arity at h0
   grind
def c0Q:Vc.Spec:=λc m h K=>∃v p d e cb f ts rs,c=[cP cb,aPN v,cI d]/\pO h p v/\Jg p/\iG e m h cb f ts rs/\eK e/\ts.length+5*lE p<=90000/\rs.length+lE p<=90000/\
 ∀m' h',PH.le h h'->iG e m' h' cb f (gV p d ts rs).1 (gV p d ts rs).2->K (.tup []) m' h'
theorem baX:cm 43 c0Q:=mZ aJQ λ_ _ _ _⟨v,p,d,c,cb,f,ts,rs,e,g,j,n,o,u,y,z⟩=>⟨SizeOf.sizeOf p+1,v,p,d,c,cb,f,ts,rs,e,g,aC,j,n,o,u,y,z⟩
def RJ(r:cz)(o:OV):=if o.kind=3 then o.value else if o.kind=1/\0<=o.index/\o.index<r.length then r.getD o.index.toNat zeroV else zeroV
def bpQ(d c:Int):=if d=1 then c==0 else if d=2 then c !=0 else if d=3 then decide (c<0)else if d=4 then decide (c<=0)else if d=5 then decide (c>0)else if d=6 then decide (c>=0)else false
def JQ c a b:=pW a&&pW b&&a.kind==b.kind&&bpQ c (pN a b)
mutual
def oJ(r:cz):Pred->Bool
 |.mk op c a b args=>if op=1 then true else if op=3 then JQ c (RJ r a) (RJ r b)else if op=4 then Hz r args else if op=5 then Hy r args else if op=6 then Xk r args else false
def Hz(r:cz):dh->Bool
 |[]=>true
 |p::ps=>oJ r p&&Hz r ps
def Hy(r:cz):dh->Bool
 |[]=>false
 |p::ps=>oJ r p||Hy r ps
def Xk(r:cz):dh->Bool
 |[]=>false
 |p::_=> !oJ r p
end
theorem Oo(r:cz):∀ps,Hz r ps=ps.all (oJ r)
 |[]=>by simp[Hz]
 |p::ps=>by simp[Hz,Oo r ps]
theorem On(r:cz):∀ps,Hy r ps=ps.any (oJ r)
 |[]=>by simp[Hy]
 |p::ps=>by simp[Hy,On r ps]
def DenS:Vc.Spec:=λc m h K=>∃o s r,c=[aO o,cS s,EH]/\bQ h s r/\K (aV (RJ r o)) m h
def OT(p:Int->Bool):Vc.Spec:=λd m h K=>∃c,d=[cI c]/\K (cB (p c)) m h
def cHQ:Vc.Spec:=λc m h K=>∃op,c=[cI op]/\
 branch (op==1) (K (fv 202) m h) (branch (op==2) (K (fv 203) m h) (branch (op==3) (K (fv 204) m h) (branch (op==4) (K (fv 205) m h) (branch (op==5) (K (fv 206) m h) (branch (op==6) (K (fv 207) m h) (K (.val .nilFunc) m h))))))
def b5Z(N:Nat):Vc.Spec:=λc m h K=>∃v s p r,c=[aP v,cS s,EH]/\fP h p v/\bQ h s r/\SizeOf.sizeOf p<N/\K (cB (oJ r p)) m h
def ayX:Vc.Spec:=λc m h K=>∃v s p r,c=[aP v,cS s,EH]/\fP h p v/\bQ h s r/\K (cB (oJ r p)) m h
noncomputable def cgQ(N:Nat)(v:PV)(s:Sl)(m:MH)(h:PH):=
 dK [(157,DenS),(158,UH),(159,cHQ),(156,UP),(97,b5Z N),(202,OT (λc=>c==0)),(203,OT (λc=>c !=0)),(204,OT (λc=>decide (c<0))),(205,OT (λc=>decide (c<=0))),(206,OT (λc=>decide (c>0))),(207,OT (λc=>decide (c>=0)))] [(12,{A:=Nat,st:=λi=>bY 102 105 [(1,sv s),(2,vv pF),(60,sv v.args),(61,iv v.args.len),(62,iv i)] [] m h}),
  (20,{A:=Nat,st:=λi=>bY 102 105 [(1,sv s),(2,vv pF),(75,sv v.args),(76,iv v.args.len),(77,iv i)] [] m h})] [(6,{A:=VV×VV,st:=λ⟨a,b⟩=>bY 102 105 [(3,.at (.ptr 3 0)),(7,.at (.ptr 7 0)),(8,.at (.ptr 8 0))] [(3,.cells 35 (v.enc.map .val)),(7,.cells 30 (a.enc.map .val)),(8,.cells 30 (b.enc.map .val))] m h})] [] false
def TX(o:OV)(s:Sl)(m:MH)(h:PH)(K:cq):=
  dQ (o.kind==3) (K (jO o.value.enc) m h) (o.kind==2) (aY o.index 0 (K (jO zY) m h) (iO o.index 0 (K (jO zY) m h) (bK (λb c=>aA (aR Option.none b c) (0<=o.index) (o.index<0/\∃(y:VV),aK m h b (gH c o.index 3) y.enc/\K (jO y.enc) m h))))) (fC o.kind 1 (aY o.index 0 (K (jO zY) m h) (iO o.index (aG s) (K (jO zY) m h) (bK (λb c=>aA (aR s.a b c) (0<=o.index) (o.index<aG s/\∃(y:VV),aK m h b (gH c o.index 3) y.enc/\K (jO y.enc) m h))))) (K (jO zY) m h))
def Nk(op:Int)(m:MH)(h:PH)(K:cq):=
  ∀(b:Nat)(e:MH),bH (cW m h b) (bJ m e b (bG Value.nilFunc Value.nilFunc (bG Value.nilFunc Value.nilFunc (bG Value.nilFunc Value.nilFunc Lo))) 248) (gT (λc E=>aA (sL e b (fA c E 0)) (7<=c.size) (∀(d:MH),bJ e d b (bG Value.nilFunc (qO 202) (bG (qO 203) (qO 204) (bG (qO 205) (qO 206) (iC (qO 207) 7 c)))) E->aY op 0 (K (CV.val Value.nilFunc) d h) (iO op 7 (K (CV.val Value.nilFunc) d h) (aA (cN op) (op<7) (∃(y:Option Nat),aK d h b (gH 0 op 1) (pD (bSJ y))/\K (CV.val (bSJ y)) d h))))))
def bgQ(c:Int)(m:MH)(h:PH)(K:cq):=
  K (Aw (c==0)) m h
def bfJ(c:Int)(m:MH)(h:PH)(K:cq):=
  K (Aw (c !=0)) m h
def bfZ(c:Int)(m:MH)(h:PH)(K:cq):=
  K (Aw (decide (c<0))) m h
def bfX(c:Int)(m:MH)(h:PH)(K:cq):=
  K (Aw (decide (c<=0))) m h
def bfQ(c:Int)(m:MH)(h:PH)(K:cq):=
  K (Aw (decide (c>0))) m h
def beJ(c:Int)(m:MH)(h:PH)(K:cq):=
  K (Aw (decide (c>=0))) m h
abbrev yJ(a:OV)(b:Sl):=cE a.enc (gO b EH)
abbrev kX(a:cz)(b:OV)(c:VV):=oQ 30 (gU (At.val (gZ (RJ a b).kind)) (At.val (gZ (RJ a b).int)) (uH (At.val (Value.string (RJ a b).text))))=qM 30 c.enc
abbrev zL(a:PV)(b:Sl)(c:PH)(d:VV×VV->Prop)(e:(VV×VV)->Prop)(g:OV->cz->(VV×VV)->Prop)(i:MH):=∃(x:OV),pX (λj n=>aA (yJ a.right b=yJ x j) (bQ c j n) (∃(f:VV×VV),aA (d f) j8 (aA (eP 7) iT (aA (oN a) (e f) (aA (g x n f) (i=i) (bU c c))))))
abbrev FR(a:VV×VV)(b:Int->Prop):=∃(x c:VV),eU a.1.enc (lV a.2)=eU x.enc (lV c)/\∃(d:Int),mG (pN x c) d/\b d
abbrev It(a:PV->Sl->Pred->cz->Prop):=∃(x:PV)(c:Sl)(d:Pred)(e:cz),a x c d e
abbrev zX(a:PV)(b:Sl):=cE a.enc (gO b EH)
attribute [push_cast] yJ kX zL FR It zX
def Xq(N:Nat)(v:PV)(s:Sl)(m:MH)(h:PH)(K:cq):=
  dQ (v.op==1) (K jF m h) (v.op==3) (∃(I:VV×VV->Prop),aA (∃(o:OV),pX (λd r=>aA (yJ v.left s=yJ o d) (bQ h d r) (aA (∃(e:OV),pX (λu f=>aA (yJ v.right s=yJ e u) (bQ h u f) ((∃(x:VV×VV),aA (I x) j8 (aA (eP 7) iT (aA (oN v) (kX r o x.1) (aA (kX f e x.2) (m=m) (bU h h)))))/\∃(x:VV×VV),aA (I x) j8 (aA (eP 7) iT (aA (oN v) (kX r o x.1) (aA (kX f e x.2) (m=m) (bU h h))))))) (zL v s h I (λx=>kX r o x.1) (λe f x=>kX f e x.2) m/\zL v s h I (λx=>kX r o x.1) (λe f x=>kX f e x.2) m) (zL v s h I (λx=>kX r o x.1) (λe f x=>kX f e x.2) m/\zL v s h I (λx=>kX r o x.1) (λe f x=>kX f e x.2) m)))) ((∃(o:OV),pX (fun
 d r=>aA (yJ v.left s=yJ o d) (bQ h d r) (zL v s h I (λx=>kX r o x.1) (λe f x=>kX f e x.2) m/\zL v s h I (λx=>kX r o x.1) (λe f x=>kX f e x.2) m)))/\∃(o:OV),pX (λd r=>aA (yJ v.left s=yJ o d) (bQ h d r) (zL v s h I (λx=>kX r o x.1) (λe f x=>kX f e x.2) m))) ((∃(o:OV),pX (λd r=>aA (yJ v.left s=yJ o d) (bQ h d r) (zL v s h I (λx=>kX r o x.1) (λe f x=>kX f e x.2) m/\zL v s h I (λx=>kX r o x.1) (λe f x=>kX f e x.2) m)))/\∃(o:OV),pX (λd r=>aA (yJ v.left s=yJ o d) (bQ h d r) (zL v s h I (λx=>kX r o x.1) (λe f x=>kX f e x.2) m)))/\∀(x:VV×VV),I x->∃(g:VV),gX (eY (lV x.1) (lV g))
 (!(pW g)) (K bD m h) (∃(z:VV),eY (lV x.2) (lV z)/\dQ (!(pW z)) (K bD m h) (x.1.kind !=x.2.kind) (K bD m h) (∃(o:Int),mG v.cmp o/\dQ (o==1) (FR x (λc=>K (Aw (c==0)) m h)) (o==2) (FR x (λc=>K (Aw (c !=0)) m h)) (dQ (o==3) (FR x (λc=>K (Aw (decide (c<0))) m h)) (o==4) (FR x (λc=>K (Aw (decide (c<=0))) m h)) (dQ (o==5) (FR x (λc=>K (Aw (decide (c>0))) m h)) (o==6) (FR x (λc=>K (Aw (decide (c>=0))) m h)) (K bD m h)))))) (dQ (v.op==4) (nI (λI x=>aA (I x) (aI s) (aA (eQ sQn) (aI v.args) (aA (bI v.args) (bA x) (aA (m=m) (h=h) True)))) (λI n x=>I x->aY (↑x:Int) (aG v.args) (bK (λb o=>aA (aR v.args.a b o) (0<=(↑x:Int)) ((↑x:Int)<aG v.args/\∃(y:PV),aK m h b (bL
 o x 13) y.enc/\It (λg d p r=>aA (zX y s=zX g d) (fP h p g) (aA (bQ h d r) (sP p N) (pI (oJ r p) (K bD m h) (∃(j:Nat),aA (I j) (n j<n x) (aA (aI s) (eQ sQn) (aA (aI v.args) (bI v.args) (aA (iH (bE x 1)=bP j) (m=m) (bU h h))))))))))) (K jF m h))) (v.op==5) (nI (λI x=>aA (I x) (aI s) (aA (eQ sQn) (aI v.args) (aA (bI v.args) (bA x) (aA (m=m) (h=h) True)))) (λI n x=>I x->aY (↑x:Int) (aG v.args) (bK (λb o=>aA (aR v.args.a b o) (0<=(↑x:Int)) ((↑x:Int)<aG v.args/\∃(y:PV),aK m h b (bL o x 13) y.enc/\It (λg d p r=>aA (zX y s=zX g d) (fP h p g) (aA (bQ h d r) (sP p N) (branch (oJ r p) (K jF m h) (∃(j:Nat),aA (I j) (n j<n x) (aA (aI s) (eQ sQn)
 (aA (aI v.args) (bI v.args) (aA (iH (bE x 1)=bP j) (m=m) (bU h h))))))))))) (K bD m h))) (fC v.op 6 (gA (aG v.args) 0 (bK (λb o=>aA (aR v.args.a b o) ((0:Int)<=0) (0<aG v.args/\∃(y:PV),aK m h b (o+0) y.enc/\It (λg d p r=>aA (zX y s=zX g d) (fP h p g) (aA (bQ h d r) (sP p N) (K (CV.val (Value.bool (!(oJ r p)))) m h)))))) (K bD m h)) (K bD m h)))
theorem akQ:cm 157 DenS:=by
 refine jC func157 ?_;rintro z m h K ⟨o,s,r,rfl,n,c⟩;refine⟨dK [] [] [] [] false,rfl,aH,TX o s m h K,ax,?_⟩;dsimp only[TX,push_cast];have A:=bM.slen n;unfold RJ at c;refine aD (λd=>?_) (λd=>aD (λu=>?_) (λu=>aD (λf=>?_) (λf=>?_)))
 .rw[if_pos bg]at c;exact c
 .have u:o.kind=2:=bg
  rw[if_neg aC,if_neg aC]at c;exact aF (λ_=>c) (λy=>aF (λ_=>c) (λg=>absurd (show o.index>=((0:Nat):Int)by omega) g))
 .have d:o.kind≠3:=bg
  have f:o.kind=1:=bg
  rw[if_neg d]at c;refine aF (λy=>?_) (λy=>aF (λg=>?_) (λg=>?_))
  .rw[if_neg aC]at c;exact c
  .rw[if_neg aC]at c;exact c
  .rw[if_pos ⟨f,aC,aC⟩]at c
   have B:r[o.index.toNat]? =some (r.getD o.index.toNat zeroV):=by
    grind
   obtain⟨b,j,v,e,rd,rfl⟩:=bM.at n B;exact⟨b,j,e,aC,aC,_,.imm rd,c⟩
 .have d:o.kind≠3:=bg
  have f:o.kind≠1:=bg
  rw[if_neg d,if_neg (λe=>f e.1)]at c;exact c
theorem ajJ:cm 159 cHQ:=by
 refine EY func159 ?_;rintro o m h K ⟨op,rfl,f⟩;refine⟨qD [] [] [] [] [248] [] false,rfl,aH,Nk op m h (lZ h K),ax,?_⟩;show Nk op m h (lZ h K);dsimp only[Nk,push_cast];intro b G n g;refine⟨_,_,⟨g.at_⟩,az,λu j=>?_⟩;have c:Sub m u:=((Sub.refl m).upd n.m_ g.other).upd n.m_ j.other;have e:=j.at_
 have d:∀k,¬(1<=op/\op<=6)->op=k->K (.val .nilFunc) m h:=λk H _=>by
  have:(op==1)=false/\(op==2)=false/\(op==3)=false/\(op==4)=false/\(op==5)=false/\(op==6)=false:=by
   grind
  obtain⟨y,z,A,B,C,D⟩:=this;rw[y,z,A,B,C,D]at f;exact f
 refine aF (λE=>.sub c (d _ aC rfl)) (λE=>aF (λF=>.sub c (d _ aC rfl)) (λF=>⟨aC,aC,?_⟩));have:op=0\/op=1\/op=2\/op=3\/op=4\/op=5\/op=6:=by omega
 rcases this with rfl|rfl|rfl|rfl|rfl|rfl|rfl
 .exact⟨none,.lent _ _ _ e rfl,.sub c (d 0 aC rfl)⟩
 .exact⟨some 202,.lent _ _ _ e rfl,.sub c f⟩
 .exact⟨some 203,.lent _ _ _ e rfl,.sub c f⟩
 .exact⟨some 204,.lent _ _ _ e rfl,.sub c f⟩
 .exact⟨some 205,.lent _ _ _ e rfl,.sub c f⟩
 .exact⟨some 206,.lent _ _ _ e rfl,.sub c f⟩
 .exact⟨some 207,.lent _ _ _ e rfl,.sub c f⟩
theorem abJ:cm 202 (OT (λc=>c==0)):=by
 refine jC func202 ?_;rintro d m h K ⟨c,rfl,e⟩;refine⟨dK [] [] [] [] false,rfl,aH,bgQ c m h K,ax,?_⟩;exact e
theorem abZ:cm 203 (OT (λc=>c !=0)):=by
 refine jC func203 ?_;rintro d m h K ⟨c,rfl,e⟩;refine⟨dK [] [] [] [] false,rfl,aH,bfJ c m h K,ax,?_⟩;exact e
theorem abX:cm 204 (OT (λc=>decide (c<0))):=by
 refine jC func204 ?_;rintro d m h K ⟨c,rfl,e⟩;refine⟨dK [] [] [] [] false,rfl,aH,bfZ c m h K,ax,?_⟩;exact e
theorem abQ:cm 205 (OT (λc=>decide (c<=0))):=by
 refine jC func205 ?_;rintro d m h K ⟨c,rfl,e⟩;refine⟨dK [] [] [] [] false,rfl,aH,bfX c m h K,ax,?_⟩;exact e
theorem aaJ:cm 206 (OT (λc=>decide (c>0))):=by
 refine jC func206 ?_;rintro d m h K ⟨c,rfl,e⟩;refine⟨dK [] [] [] [] false,rfl,aH,bfQ c m h K,ax,?_⟩;exact e
theorem aaZ:cm 207 (OT (λc=>decide (c>=0))):=by
 refine jC func207 ?_;rintro d m h K ⟨c,rfl,e⟩;refine⟨dK [] [] [] [] false,rfl,aH,beJ c m h K,ax,?_⟩;exact e
theorem aHQ:∀N,cm 97 (b5Z N)
 |0=>by
  refine fW (fn:=Tryz.f97) (c:=eD Tryz.f97) func97 rfl az ?_;rintro S m h K ⟨v,s,p,r,rfl,_,_,hN,_⟩;omega
 |N+1=>by
  refine jC func97 ?_;rintro S m h K ⟨v,s,p,r,rfl,hp,C,hN,d⟩;refine⟨cgQ N v s m h,rfl,aE akQ (aE GD (aE ajJ (aE JT (aE (aHQ N) (aE abJ (aE abZ (aE abX (aE abQ (aE aaJ (aE aaZ aH)))))))))),Xq N v s m h K,ax,?_⟩;dsimp only[Xq,push_cast];have o:=@BK p;obtain⟨op,a',l,q,ps⟩:=p;obtain⟨rfl,rfl,rfl,rfl,D⟩:=hp.parts;have T:=D.slen;have Y:=D.len;simp only[Pred.args]at o;simp only[oJ]at d;refine aD (λZ=>?_) (λZ=>aD (λh3=>?_) (λh3=>aD (λh4=>?_) (λh4=>aD (λh5=>?_) (λh5=>aD (λh6=>?_) (λh6=>?_)))))
  .rw[if_pos bg]at d;exact d
  all_goals have n1:v.op≠1:=bk Z
  .rw[if_neg n1,if_pos bg]at d;refine⟨λx=>x=(RJ r v.left,RJ r v.right),?_,?_⟩
   .repeat' (first|exact⟨_,rfl,MT⟩|refine⟨v.left,s,r,rfl,C,?_⟩|refine⟨v.right,s,r,rfl,C,?_⟩|refine And.intro ?_ ?_)
   .rintro⟨a,b⟩ E;simp only[Prod.mk.injEq]at E;obtain⟨rfl,rfl⟩:=E;generalize RJ r v.left=a at d⊢
    generalize RJ r v.right=b at d⊢
    have U:JQ v.cmp a b=false->K (cB false) m h:=λe=>bg
    refine⟨a,rfl,aD (λn=>U ?_) (λn=>⟨b,rfl,aD (λF=>U ?_) (λF=>aD (λG=>U ?_) (λG=>⟨v.cmp,rfl,?_⟩))⟩)⟩
    .have n:pW a=false:=bg
     simp[JQ,n]
    .have F:pW b=false:=bg
     simp[JQ,F]
    .have G:a.kind≠b.kind:=bg
     simp[JQ,G]
    .have n:pW a=true:=bg
     have F:pW b=true:=bg
     have G:a.kind=b.kind:=bg
     have e4:JQ v.cmp a b=bpQ v.cmp (pN a b):=by simp[JQ,n,F,G]
     rw[e4]at d;unfold bpQ at d;refine aD (λz=>?_) (λz=>aD (λA=>?_) (λA=>aD (λB=>?_) (λB=>aD (λH=>?_) (λH=>aD (λQ=>?_) (λQ=>aD (λV=>?_) (λV=>?_))))))
     all_goals simp only[beq_iff_eq,beq_eq_false_iff_ne]at*
     .rw[if_pos z]at d;exact⟨a,b,rfl,_,rfl,d⟩
     .rw[if_neg z,if_pos A]at d;exact⟨a,b,rfl,_,rfl,d⟩
     .rw[if_neg z,if_neg A,if_pos B]at d;exact⟨a,b,rfl,_,rfl,d⟩
     .rw[if_neg z,if_neg A,if_neg B,if_pos H]at d;exact⟨a,b,rfl,_,rfl,d⟩
     .rw[if_neg z,if_neg A,if_neg B,if_neg H,if_pos Q]at d;exact⟨a,b,rfl,_,rfl,d⟩
     .rw[if_neg z,if_neg A,if_neg B,if_neg H,if_neg Q,if_pos V]at d;exact⟨a,b,rfl,_,rfl,d⟩
     .rw[if_neg z,if_neg A,if_neg B,if_neg H,if_neg Q,if_neg V]at d;exact d
  all_goals have n3:v.op≠3:=bk h3
  all_goals rw[if_neg n1,if_neg n3]at d
  .rw[if_pos bg,Oo]at d;refine⟨λi=>i<=ps.length/\∀j:Nat,j<i->∀x,ps[j]? =some x->oJ r x=true,λi=>ps.length-i,⟨0,⟨aC,λj I=>by omega⟩,MT⟩,λi⟨hi,J⟩=>aF (λf=>?_) (λW=>?_)⟩
   .obtain⟨x,g⟩:=fK T f;obtain⟨L,M,u,n,R,O⟩:=D.at g;have:=o (bo g);refine⟨L,M,n,aC,f,u,.imm R,u,s,x,r,rfl,O,C,aC,aD (λX=>?_) (λhe=>⟨i+1,⟨aC,λj I y P=>?_⟩,(show ps.length-(i+1)<ps.length-i by omega),MT⟩)⟩
    .have:ps.all (oJ r)=false:=by
      grind
     rw[this]at d;exact d
    grind
   .have:ps.all (oJ r)=true:=by
     rw[all_eq_true];intro y P;obtain⟨j,I⟩:=getElem?_of_mem P
     grind
    rw[this]at d;exact d
  all_goals have n4:v.op≠4:=bk h4
  all_goals rw[if_neg n4]at d
  .rw[if_pos bg,On]at d;refine⟨λi=>i<=ps.length/\∀j:Nat,j<i->∀x,ps[j]? =some x->oJ r x=false,λi=>ps.length-i,⟨0,⟨aC,λj I=>by omega⟩,MT⟩,λi⟨hi,J⟩=>aF (λf=>?_) (λW=>?_)⟩
   .obtain⟨x,g⟩:=fK T f;obtain⟨L,M,u,n,R,O⟩:=D.at g;have:=o (bo g);refine⟨L,M,n,aC,f,u,.imm R,u,s,x,r,rfl,O,C,aC,aD (λhe=>?_) (λX=>⟨i+1,⟨aC,λj I y P=>?_⟩,(show ps.length-(i+1)<ps.length-i by omega),MT⟩)⟩
    .have:ps.any (oJ r)=true:=any_eq_true.2 ⟨x,bo g,he⟩;rw[this]at d;exact d
    grind
   .have:ps.any (oJ r)=false:=by
     rw[any_eq_false];intro y P;obtain⟨j,I⟩:=getElem?_of_mem P
     grind
    rw[this]at d;exact d
  all_goals have n5:v.op≠5:=bk h5
  all_goals rw[if_neg n5]at d
  .rw[if_pos bg]at d;refine aF (λh7=>?_) (λh7=>?_)
   .obtain⟨x,g⟩:=fK (i:=0) T aC;obtain⟨L,M,u,n,R,O⟩:=D.at g;have:=o (bo g)
    have e7:Xk r ps= !oJ r x:=by
     cases ps with
     |nil=>simp at g
     |cons y _=>simp at g;subst g;rfl
    rw[e7]at d;exact⟨L,M,n,aC,aC,u,.imm aC,u,s,x,r,rfl,O,C,aC,d⟩
   .have:ps=[]:=length_eq_zero_iff.1 aC;subst this;exact d
  .rw[if_neg bg]at d;exact d
theorem Tf:cm 97 ayX:=mZ aHQ λ_ _ _ _⟨v,s,p,r,e,c,d,f⟩=>⟨SizeOf.sizeOf p+1,v,s,p,r,e,c,d,aC,f⟩
structure Su(h:PH)(b:Nat)(l:ct):Prop where
 ex:∃us,Js h b us/\fE h us l
theorem Su.mono{l}(x:Su h b l)(le:PH.le h h'):Su h' b l:=by
 obtain⟨c,d,e⟩:=x.ex;exact⟨c,d.mono le,e.mono le⟩
structure w9(h:PH)(t:Sl)(bs:di)(ls:List ct):Prop where
 row:dH h t 1 (bs.map λb=>[Sh b])
 len:bs.length=ls.length
 at_:∀(i b:Nat)(l:ct),bs[i]? =some b->ls[i]? =some l->Su h b l
structure iV(w:Nat)(l:ct):Prop where
 row:∀r∈l,OS r
 wid:∀r∈l,r.length=w
 srt:lJ l
 len:l.length<=8000000
def Gy(l:ct)(x:cz):=l.any λy=>fG x y==0
theorem BG{l x}:Gy l x=true↔x∈l:=by
 simp only[Gy,any_eq_true,beq_iff_eq,lG]
 grind
def Wj(ok:Query->List ct->Prop)(f:Query->List ct->ct):Vc.Spec:=λc m h K=>∃v t q g d,c=[aQ v,cS t]/\dO h q v/\w9 h t g d/\eK m/\ok q d/\
 ∀e h',PH.le h h'->Rows h' e (f q d)->K (cS e) m h'
def Wf:Vc.Spec:=λd m h K=>∃t i f c w,d=[cS t,cB i]/\w9 h t f c/\eK m/\2<=c.length/\(∀l∈c,iV w l)/\
 ∀e h',PH.le h h'->Rows h' e ((c.getD 0 []).filter λx=>Gy (c.getD 1 []) x==i)->K (cS e) m h'
noncomputable def bGX:=VO [(71,bYZ)] [(6,{A:=Nat×Nat×Sl×Sl×cz×MH×PH,st:=λ⟨i,b,e,c,l,m,h⟩=>bY 40 42 [(5,vv (.pointer (some ⟨b,0,none⟩))),(6,sv e),(7,.at (.lst 17)),(19,sv c),(20,iv c.len),(21,iv i)] [(17,.lst 30 3 (l.map VV.enc))] m h})] [] [200002,200005,1058]
abbrev QE a b:=pD (Value.func (Fn.func a) sJ b)
abbrev zH a:=QE 214 (B5 a)
abbrev Ll(a:Option Addr)(b c:Int)(d:Sl)(e:MH)(g:Nat->Nat->Option Value)(i:Nat->Nat)(j:Nat->(PH->cr->List cr->Prop)->Prop):=bK (λx f=>aA (aR a x f) (b<=c) (c<aG d/\∃(n:Nat),aK e g x (i f) (zH n)/\∃(o:PH->cr->List cr->Prop),j n o))
abbrev FK(a:Nat->Option Obj)(b:Nat->Nat->Option Value)(c:Sl)(d:Nat->MH->Nat->(PH->cr->List cr->Prop)->Prop):=∀(x:Nat)(e:MH),bH (cW a b x) (bJ a e x gW 58) (Ll c.a 0 0 c e b (λf=>f+0) (λf g=>d x e f g))
abbrev KL(a:MH)(b:PH)(c d:Nat)(e:Sl->(List cr)->Prop):=∃(x:Sl),aK a b c d (aL x)/\∃(f:List cr),aA (cL a (dL x) 65 1 f) (lL f) (eA f/\e x f)
attribute [push_cast] QE zH Ll FK KL
def Nc(v:QV)(t:Sl)(m:MH)(h:PH)(K:cq):=
  ∀(b:Nat)(n:MH),bH (cW m h b) (bJ m n b v.enc 41) (FK n h t (λg B y S=>xM S h y B (λI k e f d=>I k f d->∃(o:PV),aK f d b 2 o.enc/\It (λu s p r=>aA (zX o e=zX u s) (fP d p u) (bQ d s r/\branch (oJ r p) (KL f d g 0 (λC x=>jW (λz j=>gK f j (dL C) z 65 1 (dP x (aL e))->gT (λc E=>aA (sL j g (fA c E 0)) (0<c.size) (∀(A:MH),bJ j A g (iC (dW z) 1 c) E->I (k+1) A d))))) (I (k+1) f d)))) (λx I=>FV h I x g K)))
abbrev Bg(a:Nat×Nat×Sl×Sl×cz×MH×PH):=a.2.2.2.1
abbrev Gb(a:Nat×Nat×Sl×Sl×cz×MH×PH):=Ey a.2.2.2.2.1
abbrev rM(a:Nat×Nat×Sl×Sl×cz×MH×PH):=a.2.2.2.2.2
abbrev yA(a:PH)(b:ct)(c:cq)(d:Nat->Option Obj):=∀(x:Sl)(e:PH),bS a e (Rows e x b) (c (nW x) d e)
abbrev FO a b c d e:=∃(x:cw)(f:ct),aA (vA a=vA b) (vI c d b 1 (fJ x)) (aA (fE d x f) (f.length<=502633886983) (yA d (Fp f) e c))
attribute [push_cast] Bg Gb rM yA FO
def Nb(v:QV)(t:Sl)(m:MH)(h:PH)(K:cq):=
  ∀(b:Nat)(C:MH),bH (cW m h b) (bJ m C b v.enc 41) (FK C h t (λD O y S=>xM S h y O (λI k e j g=>I k j g->∃(f:Sl),aA (aK j g b 15 (aL f)) (cN (aG f)) (aA (aG f<=aG f) (Ah f 32) (Ae (aG f)/\∃(z:Sl),aK j g b 15 (aL z)/\∃(I1:Nat×Nat×Sl×Sl×cz×MH×PH->Prop)(F:Nat×Nat×Sl×Sl×cz×MH×PH->Nat),(∃(x:Nat×Nat×Sl×Sl×cz×MH×PH),aA (I1 x) (cA D x.2.1) (aA (aW e x.2.2.1) (eL 17) (aA (aW z (Bg x)) (bN z (Bg x)) (aA (bA x.1) (bW 30 3 (tW (aG f) zY)=bW 30 3 (Gb x)) (aA (bO j (rM x)) (cF g (rM x)) True)))))/\∀(x:Nat×Nat×Sl×Sl×cz×MH×PH),I1 x->aY (↑x.1:Int) (aG (Bg x)) (bK (λG o=>aA (aR (Bg x).a
 G o) (0<=(↑x.1:Int)) ((↑x.1:Int)<aG (Bg x)/\∃(n:Int),aK (rM x).1 (rM x).2 G (bL o x.1 1) (bC n)/\bK (λH J=>aA (aR x.2.2.1.a H J) (0<=n) (n<aG x.2.2.1/\∃(u:VV),aA (aK (rM x).1 (rM x).2 H (gH J n 3) u.enc) (0<=(↑x.1:Int)) ((↑x.1:Int)<nN (Gb x)/\∃(A:cr),aA (mH (Gb x) (nL x.1) A) (3<=A.length) (∃(d:Nat×Nat×Sl×Sl×cz×MH×PH),aA (I1 d) (F d<F x) (aA (cA x.2.1 d.2.1) (aW x.2.2.1 d.2.2.1) (aA (eL 17) (aW (Bg x) (Bg d)) (aA (bN (Bg x) (Bg d)) (iH (bE x.1 1)=bP d.1) (aA (bW 30 3 (List.set (Gb x) (nL x.1) (bG (gZ u.kind) (gZ u.int) (GS (Value.string u.text) 3 A)))=bW 30 3 (Gb d)) (iJ (rM x) (rM d)) (eO (rM x)
 (rM d)/\True)))))))))))) (∃(n:Sl),aK (rM x).1 (rM x).2 x.2.1 0 (aL n)/\vC (rM x).2 3 (Gb x) (λs P d=>aA (cL (rM x).1 (dL n) 65 1 d) (lL d) (eA d/\jW (λL B=>gK (rM x).1 B (dL n) L 65 1 (dP d (aL s))->gT (λc E=>aA (sL B x.2.1 (fA c E 0)) (0<c.size) (∀(M:MH),bJ B M x.2.1 (iC (dW L) 1 c) E->I (k+1) M P))))))))) (λx I=>fD (λj g=>bS h g (I x.length j g) (∃(f:Sl),aK j g D 0 (aL f)/\∃(s:Sl),FO f s j g K)))))
def M8(v:QV)(t:Sl)(m:MH)(h:PH)(K:cq):=
  bK (λb o=>aA (aR t.a b o) ((0:Int)<=0) (0<aG t/\∃(y:Nat),aK m h b (o+0) (zH y)/\bK (λe f=>aA (aR t.a e f) ((0:Int)<=1) (1<aG t/\∃(g:Nat),aA (aK m h e (f+1) (zH g)) (kU h e f 1 (zH g)) (Lq (λz A=>aA (eY (uM y) (uM z)) (Js h z A) (KJ 1 A (λc x d=>m x=Option.some d->c x=Option.some d) (λs c=>(∀(x i:Nat),aR s.a x i->Gr m x)->kU h b o 0 (zH y)/\∃(j:Sl),Lq (λB u=>∃(C:cw),aA (gO s (uM g)=gO j (uM B)) (cL c j 65 1 (fJ u)) (aA (Js h B C) (u.length<=502633886983) (KJ 1 (u++C) (λn x d=>bH (c x=Option.some d) (∀(i:Nat),mW (aR j.a x i)) (n x=Option.some d)) (λD n=>(∀(x i:Nat),aR D.a x i->Gr c x\/
 ∃(E:Nat),aR j.a x E)->aA (kU h b o 0 (zH y)) (kU h e f 1 (zH g)) (∃(F:Sl),FO D F n h K)))))))))))))
abbrev Eu:=Value.map Option.none
abbrev dM a b c d:=aK a b c 0 (oP d)
abbrev rK(a:Nat->Option Obj)(b:Nat)(c:(Value->Prop)->Prop)(d:Value)(e:da->Prop)(g:da->Value->da->da)(i:da->da->Prop):=Zw (λx j=>aA (pV a b x) (Di j) (aA (c j) (iX (Instr.sameBits 10000 d d)) (aA (∀(f:Value×Value),List.Mem f x->j f.1) ((∀(f:Value×Value),bH (List.Mem f x) (f.1=d) False)->e x) (∀(f:da)(o:Value)(n:da),x=g f o n->i f n))))
abbrev Jm a:=Value.string (fN a)
attribute [push_cast] Eu dM rK Jm
def M4 t i m h K:=
  ∀(b:Nat)(U:MH),bH (cW m h b) (bJ m U b (tU i) 4) (xN U h (λW V=>∀(n:Nat)(Q:MH),bH (cW V h n) (bJ V Q n (pD Eu) 157) (gT (λc E=>aA (sL Q n (fA c E 0)) (0<c.size) (∀(R:MH),bJ Q R n (iC (Dj W) 1 c) E->Ll t.a 0 1 t R h (λo=>o+1) (λy S=>xM S h y R (λI k e j g=>I k j g->∃(u:Nat),aA (dM j g n u) (dM j g n u) (pX (λs r=>aA (vA e=vA s) (bQ g s r) (aA (OS r) (eK j) (aK j g n 0 (oP u)/\rK j u (λO=>O (Jm r)) (Jm r) (λD=>∀(z:MH),bH (kD j z u) (pV z u (Gt D (Jm r))) (I (k+1) z g)) (λl v T=>iK l (Jm r) v T) (λl T=>∀(z:MH),bH (kD j z u) (pV z u (iK l (Jm r) Dk T)) (I (k+1) z g))))))) (λx I
 =>fD (λj g=>bS h g (I x.length j g) (FK j g t (λA z u S1=>xM S1 g u z (λI1 k e d f=>I1 k d f->∃(L:Nat),aK d f n 0 (oP L)/\∃(F:Bool),aA (aK d f b 0 (tU F)) (dM d f n L) (aK d f b 0 (tU F)/\pX (λs r=>aA (vA e=vA s) (bQ f s r) (aA (OS r) (eK d) (aA (dM d f n L) (aK d f b 0 (tU F)) (aK d f b 0 (tU F)/\∃(D:dw)(O:Value->Prop),aA (uX d L (List.map (fun(p:Value×Bool)=>(p.1,Value.bool p.2)) D)) (Di O) (aA (O (Jm r)) (∀(M:Value×Bool),List.Mem M D->O M.1) (gS (∀(M:Value×Bool),Gh M D (Jm r)) (false==F) (KL d f A 0 (λP G=>jW (λH B=>gK d B (dL P) H 65 1 (dP G (aL e))->gT (λC E1=>aA (sL B A (fA
 C E1 0)) (0<C.size) (∀(J:MH),bJ B J A (iC (dW H) 1 C) E1->I1 (k+1) J f))))) (I1 (k+1) d f)/\∀(P:Bool),gS (List.Mem (Jm r,P) D) (P==F) (KL d f A 0 (λX G=>jW (λH B=>gK d B (dL X) H 65 1 (dP G (aL e))->gT (λC E1=>aA (sL B A (fA C E1 0)) (0<C.size) (∀(J:MH),bJ B J A (iC (dW H) 1 C) E1->I1 (k+1) J f))))) (I1 (k+1) d f))))))))) (λG I1=>FV g I1 G A K)))))))))))
abbrev Cb(a:di->(List ct)->Prop):=∃(x:di)(c:List ct),a x c
abbrev F0(a:List ct)(b:ct->Prop):=∀(x:ct),List.Mem x a->b x
abbrev Pz(a:PH)(b:cz->Bool)(c:ct)(d:cq)(e:MH):=∀(x:Sl)(f:PH),bS a f (Rows f x (filter b c)) (d (nW x) e f)
attribute [push_cast] Cb F0 Pz
def beX(v:QV)(t:Sl)(m:MH)(h:PH)(K:cq):=
  ∃(c:Sl)(i:Bool),Cb (λb l=>∃(w:Nat),aA (gO t bD=gO c (Aw i)) (w9 h c b l) (aA (eK m) (2<=l.length) (F0 l (λd=>iV w d)/\Pz h (fun(x:cz)=>Gy (List.getD l 1 []) x==i) (List.getD l 0 []) K m)))
def beQ(v:QV)(t:Sl)(m:MH)(h:PH)(K:cq):=
  ∃(c:Sl)(i:Bool),Cb (λb l=>∃(w:Nat),aA (gO t jF=gO c (Aw i)) (w9 h c b l) (aA (eK m) (2<=l.length) (F0 l (λd=>iV w d)/\Pz h (fun(x:cz)=>Gy (List.getD l 1 []) x==i) (List.getD l 0 []) K m)))
abbrev AL(a:Sl->cz->cn->Prop):=pX (λx c=>∃(d:cn),a x c d)
abbrev AK(a:cz)(b:cn):=jY a.length b
abbrev dT a b:=Jm (pick a b)
abbrev DV(a b c:Sl)(d:PH)(e:MH)(g i:Nat)(j k:cz->cn->Prop):=AL (λx f n=>aA (cD a b=cD c x) (bQ d c f) (aA (Ints d x n) (OS f) (aA (AK f n) (eK e) (aA (dM e d g i) (j f n) (k f n)))))
attribute [push_cast] AL AK dT DV
def M9(v:QV)(t:Sl)(m:MH)(h:PH)(K:cq):=
  Dl (λs o=>aA (eY (nW v.on) (nW s)) (jD h s o) (∀(a b:Sl)(n:PH),bS h n (Ints n a (jG o)) (Ints n b (eG o)->∀(D:Nat)(M:MH),bH (cW m n D) (bJ m M D gW 36) (∀(G:Nat)(P:MH),bH (cW M n G) (bJ M P G gW 36) (gT (λc E=>aA (sL P D (fA c E 0)) (0<c.size) (∀(Q:MH),bJ P Q D (iC (dW a) 1 c) E->gT (λR E1=>aA (sL Q G (fA R E1 0)) (0<R.size) (∀(m4:MH),bJ Q m4 G (iC (dW b) 1 R) E1->xN m4 n (λb3 m5=>∀(u:Nat)(T:MH),bH (cW m5 n u) (bJ m5 T u (pD Eu) 157) (gT (λU E2=>aA (sL T u (fA U E2 0)) (0<U.size) (∀(V:MH),bJ T V u (iC (Dj b3) 1 U) E2->Ll t.a 0 1 t V n (λo1=>o1+1) (λy S=>xM S n y V (λI k e f d=>I k f d->∃(z:
 Nat),aK f d u 0 (oP z)/\∃(C:Sl),aA (aK f d G 0 (aL C)) (dM f d u z) (∃(H:Sl),AL (λt1 r g=>aA (cD e C=cD H t1) (bQ d H r) (aA (Ints d t1 g) (OS r) (aA (AK r g) (eK f) (dM f d u z/\rK f z (λO=>O (dT r g)) (dT r g) (λF=>∀(B:MH),bH (kD f B z) (pV B z (Gt F (dT r g))) (I (k+1) B d)) (λl v1 W=>iK l (dT r g) v1 W) (λl W=>∀(B:MH),bH (kD f B z) (pV B z (iK l (dT r g) Dk W)) (I (k+1) B d)))))))) (λx I=>fD (λf d=>bS n d (I x.length f d) (FK f d t (λJ B z S1=>xM S1 d z B (λI1 k e j A=>I1 k j A->∃(C:Nat),aK j A u 0 (oP C)/\∃(X:Sl),aA (aK j A D 0 (aL X)) (dM j A u C) (∃(H:Sl),DV e X H
 A j u C (λ_ _=>aK j A D 0 (aL X)) (λr g=>∃(F:dw)(O:Value->Prop),aA (uX j C (List.map (fun(p:Value×Bool)=>(p.1,Value.bool p.2)) F)) (Di O) (aA (O (dT r g)) (∀(L:Value×Bool),List.Mem L F->O L.1) (((∀(L:Value×Bool),Gh L F (dT r g))->I1 (k+1) j A)/\∀(y4:Bool),gS (List.Mem (dT r g,y4) F) y4 (KL j A J 0 (λy5 Y=>jW (λs2 Z=>gK j Z (dL y5) s2 65 1 (dP Y (aL e))->gT (λc4 E3=>aA (sL Z J (fA c4 E3 0)) (0<c4.size) (∀(a3:MH),bJ Z a3 J (iC (dW s2) 1 c4) E3->I1 (k+1) a3 A))))) (I1 (k+1) j A)))))) (λY I1=>FV d I1 Y J K)))))))))))))))))))
def Ff(m c:MH)(b:Nat):=∀x o,m x=some o->x≠b->c x=some o
structure sD(m mx:MH)(b:Nat)(us:cw):Prop where
 ex:∃s:Sl,mx b=some (.cells #[.slice s.a s.len s.cap] 58 (0,0))/\cL mx s 65 1 (us.map eS)/\∀i x,s.a=some ⟨x,i,none⟩->m x=none
theorem sD.new(c:m' b=some (.cells #[pF] 58 (0,0))):sD m m' b []:=⟨⟨none,0,0⟩,c,⟨BN [],.inl ⟨rfl,rfl⟩⟩,λi x e=>by cases e⟩
theorem Kv{c s us e}{Q:MH->Prop}(d:∃o,m b=some o)(C:Ff m c b)(D:c b=some (.cells #[.slice s.a s.len s.cap] 58 (0,0)))(f:cL c s 65 1 (us.map eS))(F:∀i x,s.a=some ⟨x,i,none⟩->m x=none)(O:us.length<=502633886983)(G:∀m',Ff m m' b->sD m m' b (us++[e])->Q m'):
 ∃xs:List cr,cL c (Sl.mk s.a s.len s.cap) 65 1 xs/\(xs.length+1)*24<=140737488355328/\xs.length<140737488355328/\∀(z:Sl)(m':MH),gK c m' (Sl.mk s.a s.len s.cap) z 65 1 (xs++[[dW e]])->
  ∃(cs:Array Value)(E:TypeId),sL m' b (.cells cs E (0,0))/\0<cs.size/\∀m2:MH,lI m' m2 b (.cells (Array.mk (dW z::cs.toList.drop 1)) E (0,0))->Q m2:=by
 obtain⟨P,d⟩:=d;have A:∀i,s.a≠some ⟨b,i,none⟩:=λi g=>bg
 refine⟨us.map eS,f,bg,bg,λz m' n=>⟨_,_,⟨n.other b _ D A⟩,ay,λm2 B=>G m2 ?_ ⟨z,B.at_,?_,?_⟩⟩⟩
 .intro x o H u;rw[B.other x u];exact n.other x o (C x o H u) (λi g=>bg)
 .have I:(us++[e]).map eS=us.map eS++[[dW e]]:=by simp[eS]
  rw[I];refine cL.keep n.row (λx i g=>B.other x (λJ=>?_));subst J;rcases n.fresh x i g with y|⟨j,y⟩
  .grind
  grind
 .intro i x g;rcases n.fresh x i g with y|⟨j,y⟩
  .cases L:m x with
   |none=>rfl
   |some o=>
    by_cases M:x=b
    .grind
    .rw[C x o L M]at y;cases y
  grind
theorem sD.app{c hx us e}{Q:MH->Prop}(f:∃o,m b=some o)(u:Ff m c b)(o:sD m c b us)(z:us.length<=502633886983)(A:∀m',Ff m m' b->sD m m' b (us++[e])->Q m'):
 ∃y:Sl,aK c hx b 0 [dW y]/\∃xs:List cr,cL c (Sl.mk y.a y.len y.cap) 65 1 xs/\(xs.length+1)*24<=140737488355328/\xs.length<140737488355328/\∀(j:Sl)(m':MH),gK c m' (Sl.mk y.a y.len y.cap) j 65 1 (xs++[[dW e]])->
  ∃(cs:Array Value)(E:TypeId),sL m' b (.cells cs E (0,0))/\0<cs.size/\∀m2:MH,lI m' m2 b (.cells (Array.mk (dW j::cs.toList.drop 1)) E (0,0))->Q m2:=by
 obtain⟨s,n,d,g⟩:=o.ex;exact⟨s,.of_m n rfl,Kv f u n d g z A⟩
theorem cR.sub{hx r}(sub:Sub m m')(le:PH.le h hx)(c:K r m hx):cR h K r m' hx:=λ_=>⟨m,hx,sub,le,λ_ _ _ e=>.inl e,c⟩
theorem cR.row{hx s}{us:cw}(sub:Sub m m')(le:PH.le h hx)(n:cL m' s 65 1 (us.map eS))(P:∀i b,s.a=some ⟨b,i,none⟩->m b=none)(o:∀h',PH.le hx h'->dH h' s 1 (us.map eS)->K (cS s) m h'):cR h K (cS s) m' hx:=by
 intro B;rcases n.ex with⟨rfl,d⟩|⟨b,C,f,rfl,D,E,Q,R,F⟩
 .refine⟨m,hx,sub,le,λb i v e=>.inl e,o hx (.refl _) ?_⟩;rw[d];exact dH.nil _ _
 .have y:∀i,hx b i=none:=B b _ D;refine⟨m,rF hx b f.toList,sub,le.trans (Eb y),λG i v e=>?_,o _ (Eb y) ⟨?_,?_,?_⟩⟩
  .by_cases z:G=b
   .subst z;simp only[rF,if_true]at e
    grind
   .simp only[rF,if_neg z]at e;exact .inl e
  .simp
  .by_cases H:us.map eS=[]
   .exact .inl H
   .refine .inr ⟨b,0,rfl,λi e c=>⟨λj v A=>?_⟩⟩;have I:=n.rows.len e (bo c);have J:j=0:=bg
    subst J;have L:=(bm c)
    have M:((us.map eS).flatten)[i]? =some v:=by
     rw[getElem?_map]at c;cases g:us[i]? with
     |none=>grind
     |some u=>
      rw[g]at c;simp at c;subst c;simp[eS]at A;subst A
      have:∀l:cw,(l.map eS).flatten=l.map λu=>Value.slice u.a u.len u.cap:=λl=>by
       induction l with
       |nil=>rfl
       |cons a l O=>simp only[map_cons,flatten_cons,O];rfl
      grind
    rw[<-F,getElem?_take,if_pos aC]at M;simp only[rF,if_true]
    grind
  .exact E
structure sC(m:MH)(y:Nat)(ks:List ByteArray):Prop where
 ex:∃kk:List ByteArray,pV m y (kk.map λk=>(Value.string k,Value.bool true))/\∀k,k∈kk↔k∈ks
theorem sC.keep{y ks}(s:sC m y ks)(o:m' y=m y):sC m' y ks:=by
 obtain⟨d,⟨e,c,u,f,g,j⟩,n⟩:=s.ex;exact⟨d,⟨e,c,bg,f,g,j⟩,n⟩
theorem sC.new{y}(h:m y=some (.map #[] 0)):sC m y []:=⟨[],⟨#[],0,h,rfl,ay,ay⟩,ay⟩
theorem sC.get{y ks key}{K:Bool->Prop}(s:sC m y ks)(g:∀t:Bool,(t=true↔key∈ks)->K t):
 ∃(d:dw)(Ok:Value->Prop),uX m y (d.map λp=>(p.1,Value.bool p.2))/\KeyLaw Tryz.prog 9 Ok/\Ok (.string key)/\(∀e,List.Mem e d->Ok e.1)/\((∀e,List.Mem e d->e.1=Value.string key->False)->K false)/\∀t,List.Mem (Value.string key,t) d->K t:=by
 obtain⟨j,⟨o,c,u,z,_,_⟩,A⟩:=s.ex;refine⟨j.map λk=>(Value.string k,true),_,⟨o,c,u,by rw[z];simp⟩,C7,⟨key,rfl⟩,λe B=>?_,λC=>g false ⟨λe=>(by cases e),λf=>?_⟩,λt n=>g t ⟨λ_=>?_,λ_=>?_⟩⟩
 .obtain⟨k,_,rfl⟩:=mem_map.1 (show e∈_ from B)
  grind
 .exact(C (Value.string key,true) (mem_map.2 (⟨key,(A key).2 f,rfl⟩:∃a,a∈j/\(Value.string a,true)=(Value.string key,true))) rfl).elim
 .obtain⟨k,f,e⟩:=mem_map.1 (show(Value.string key,t)∈_ from n)
  grind
 .obtain⟨k,f,e⟩:=mem_map.1 (show(Value.string key,t)∈_ from n)
  grind
theorem WE key:Instr.sameBits 10000 (Value.string key) (Value.string key)=true:=by
 show(key==key)=true;cases key with
 |mk d=>exact beq_self_eq_true d
theorem sC.put{y ks key}{Q:MH->Prop}(s:sC m y ks)(u:∀m':MH,kD m m' y->sC m' y (key::ks)->Q m'):
 ∃(c:da)(Ok:Value->Prop),pV m y c/\KeyLaw Tryz.prog 9 Ok/\Ok (.string key)/\Instr.sameBits 10000 (Value.string key) (Value.string key)=true/\(∀e,List.Mem e c->Ok e.1)/\((∀e,List.Mem e c->e.1=Value.string key->False)->∀m':MH,kD m m' y->pV m' y (c++[(Value.string key,Value.bool true)])->Q m')/\
  ∀(g:da)(d:Value)(j:da),c=g++(Value.string key,d)::j->∀m':MH,kD m m' y->pV m' y (g++(Value.string key,Value.bool true)::j)->Q m':=by
 obtain⟨f,z,B⟩:=s.ex;refine⟨_,_,z,C7,⟨key,rfl⟩,WE key,λe A=>?_,λC m' n o=>u m' n ⟨f++[key],bg,λk=>?_⟩,λg d j e m' n o=>u m' n ⟨f,?_,λk=>?_⟩⟩
 .obtain⟨k,_,rfl⟩:=mem_map.1 (show e∈_ from A)
  grind
 .grind
 .have:(Value.string key,d)∈f.map λk=>(Value.string k,Value.bool true):=by rw[e];simp
  grind
 .have:(Value.string key,d)∈f.map λk=>(Value.string k,Value.bool true):=by rw[e];simp
  grind
theorem w9.get{t d ls}(a:w9 h t d ls){l}(f:ls[i]? =some l):∃b off x,t.a=some ⟨b,off,none⟩/\(i:Int)<(t.len:Int)/\cO h b (off+i) [Sh x]/\Su h x l:=by
 have j:=(bm f);have g:d[i]? =some (d[i]'(by rw[a.len];exact j)):=bn _;obtain⟨b,o,e,rd⟩:=a.row.get (i:=i) (e:=[Sh (d[i]' bg)]) (by simp[g]);have c:=a.row.len;simp only[length_map]at c;have:=a.len;exact⟨b,o,_,e,aC,bg,a.at_ i _ l g f⟩
theorem fE.at'{us rs}(x:fE h us rs){u}(c:us[i]? =some u):∃r,rs[i]? =some r/\bQ h u r:=by
 have d:=(bm c);obtain⟨v,e,f⟩:=x.at_ i _ (bn (by rw[<-x.len];exact d))
 grind
theorem jS{α}{l:List α}{k x} p(hx:l[k]? =some x):(l.take (k+1)).filter p=(l.take k).filter p++(if p x then[x]else[]):=by
 rw[cd,hx,Option.toList_some,filter_append]
 grind
theorem Sub.x{d f}(h:Sub m d)(g:m b=none)(hx:Ff d f b):Sub m f:=λx o c=>hx x o (h x o c) (λe=>bg)
def Jj(n:Nat):Query->List ct->Prop:=λ_ c=>n<=c.length/\∀l∈c,∃w,iV w l
def LH(q:Query)(ls:List ct):=match q with|.mk _ _ w _ _ _ _ _ _=>(ls.getD 0 []).filter λr=>oJ r w
theorem G4{ls:List ct}{i}(h:i<ls.length):ls[i]? =some (ls.getD i []):=by
 grind
theorem Jr{f fn}(n:Tryz.prog.funcs[f]? =some fn){S}(j:∀c m h K,S c m h K->∃C:Ctx,C.P=Tryz.prog/\(∀g S,assoc C.specs g=some S->cm g S)/\∃N:Prop,N=aGX C fn (eD fn) (entry fn.ntmps c m h) (cR h K)/\N)(o:fn.body=some (eD fn):=by rfl)(d:(fn.name== "runtime.NumGoroutine")=false:=by decide):cm f S:=ZE n o d λc m h K u=>let⟨C,hC,hs,N,e,hn⟩:=j c m h K u;⟨C,hC,hs,e▸hn⟩
theorem Z7:cm 215 (Wj (Jj 1) LH):=by
 refine Jr func215 ?_;rintro a' m h K ⟨v,t,q,bs,ls,rfl,hq,ha,_,A,M⟩;refine⟨VO [(97,ayX)] [] [] [200002,200005,1058],rfl,aE Tf aH,Nc v t m h (cR h K),ax,?_⟩;show Nc v t m h (cR h K);dsimp only[Nc,push_cast];intro b m1 O B D P E n;have f:Sub m m1:=(Sub.refl m).upd O.m_ B.other
 have F:m D=none:=by
  cases e:m D with
  |none=>rfl
  |some o=>have G:=f D o e;rw[E.m_]at G;cases G
 have g:Sub m P:=f.upd F n.other;have H:b≠D:=λe=>by have:=E.m_;rw[<-e,B.at_]at this;cases this
 obtain⟨b3,Q,x,ea,a0,rd,Y⟩:=ha.get (G4 (i:=0) (by have:=A.1;omega));obtain⟨Z,u,C⟩:=Y.ex;obtain⟨op,ta,w,co,on,gr,od,li,args⟩:=q;have xq:=hq.parts;obtain⟨wd,z⟩:=A.2 _ (bo (G4 (i:=0) (by have:=A.1;omega)));simp only[LH]at M;generalize ls.getD 0 []=l at u C M z Y;have R:=C.len;have a1:=z.len;refine⟨b3,Q,ea,aC,aC,x,.imm rd,AT,Z,λk L S=>S=h/\Ff P L D/\∃c,sD P L D c/\c.length<=k/\fE h c ((l.take k).filter λr=>oJ r w),Al,⟨x,Z,rfl,u,rfl⟩,⟨rfl,λx o e _=>e,[],sD.new n.at_,ay,bk (fE.nil h)⟩,?_,?_⟩
 .rintro k e L S hk-⟨rfl,I,c,d,T,j⟩
  obtain⟨r,hr,hv⟩:=C.at' hk;have a2:=(bm hk);refine⟨v.where_,.of_m (I b _ (by rw[n.other b H];exact B.at_) H) rfl,v.where_,e,w,r,rfl,xq.where_,hv,aD (λht=>?_) (λhf=>?_)⟩
  .refine sD.app ⟨_,n.at_⟩ I d aC (λm' U V=>⟨rfl,U,c++[e],V,bf,?_⟩);rw[jS _ hr,if_pos ht];exact j.snoc hv
  .refine⟨rfl,I,c,d,aC,?_⟩;rw[jS _ hr,if_neg (by simp[hf]),append_nil];exact j
 .rintro L S-⟨rfl,I,c,d,T,j⟩
  rw[R,take_length]at j;obtain⟨s,hb,J,W⟩:=d.ex;refine⟨s,.of_m hb rfl,cR.row (g.x F I) (.refl _) J (λi y e=>?_) (λh' le X=>M s h' le ((j.mono le).rows X bg))⟩;cases e2:m y with
  |none=>rfl
  |some o=>have G:=W i y e;rw[g y o e2]at G;cases G
theorem fE.app{us vs a b}(x:fE h us a)(y:fE h vs b):fE h (us++vs) (a++b):=by
 refine⟨by simp[x.len,y.len],λj r c=>?_⟩;have g:=x.len;by_cases d:j<a.length
 .rw[getElem?_append_left d]at c;obtain⟨u,e,f⟩:=x.at_ j r c
  grind
 .rw[getElem?_append_right aC]at c;obtain⟨u,e,f⟩:=y.at_ _ r c
  grind
def U0(_:Query)(ls:List ct):=Fp (ls.getD 0 []++ls.getD 1 [])
theorem Z3:cm 219 (Wj (Jj 2) U0):=by
 refine EY func219 ?_;rintro S m h K ⟨v,t,q,bs,ls,rfl,_,O,_,c,T⟩;refine⟨dK [(250,Y8),(249,Wh),(71,bYZ)] [] [] [] false,rfl,aE ZS (aE Rn (aE IL aH)),M8 v t m h (lZ h K),ax,?_⟩;show M8 v t m h (lZ h K);dsimp only[M8,push_cast];have h2:=c.1;obtain⟨b,D,x,U,V,rd,W⟩:=O.get (G4 (i:=0) aC);obtain⟨X,j,P,E,Q,d,F⟩:=O.get (G4 (i:=1) aC);obtain⟨G,n,u⟩:=W.ex;obtain⟨z,f,A⟩:=F.ex;obtain⟨_,B⟩:=c.2 _ (bo (G4 (i:=0) aC));obtain⟨_,g⟩:=c.2 _ (bo (G4 (i:=1) aC));have l1:=B.len;have l2:=g.len;have l3:=u.len;refine⟨b,D,U,aC,aC,x,.imm rd,X,j,E,aC,aC,P,.imm d,d,x,G,rfl,n,λY m1 H I Z=>⟨rd,Y,P,G,z,rfl,H,f,aC,λs2 m2 J L a'=>⟨rd,d,s2,G++z,_,rfl,J.src,u.app A,bg,λs3 R C M=>?_⟩⟩⟩;refine⟨m,R,λy o hy=>L y o (I y o hy) (λi e=>?_),C,.refl _,T s3 R C M⟩
 grind
def SL(q:Query)(ls:List ct):=match q with|.mk _ _ _ co _ _ _ _ _=>Fp ((ls.getD 0 []).map λr=>pick r co)
def Mz(q:Query)(ls:List ct):=match q with|.mk _ _ _ co _ _ _ _ _=>1<=ls.length/\co.length<=12/\∃w,iV w (ls.getD 0 [])/\jY w co
theorem WW{r y}(d:(pick r co)[i]? =some y)(e:i<co.length):((pick r co).take i++replicate (co.length-i) zeroV).set i y=(pick r co).take (i+1)++replicate (co.length-(i+1)) zeroV:=by
 have c:(pick r co).length=co.length:=by simp[pick]
 rw[set_append,if_neg bf];rw[cd,d,Option.toList_some,append_assoc];congr 1;rw[show co.length-i=(co.length-(i+1))+1 by omega,replicate_succ];simp[c,Nat.min_eq_left (Nat.le_of_lt e)]
theorem SN{r}(d:i<co.length):(((pick r co).take i++replicate (co.length-i) zeroV).map VV.enc)[i]? =some (VV.enc zeroV):=by
 have c:(pick r co).length=co.length:=by simp[pick]
 grind
theorem Z6:cm 216 (Wj Mz SL):=by
 refine Jr func216 ?_;rintro b1 m h K ⟨v,t,q,bs,ls,rfl,hq,ha,_,a',hK⟩;refine⟨bGX,rfl,aE IL aH,Nb v t m h (cR h K),ax,?_⟩;show Nb v t m h (cR h K);dsimp only[Nb,push_cast];obtain⟨op,ta,w,co,on,gr,od,li,args⟩:=q;obtain⟨b6,b7,wd,f,a0⟩:=a';intro b m1 a1 G C m2 M A;have g:Sub m m1:=(Sub.refl m).upd a1.m_ G.other
 have O:m C=none:=by
  cases e:m C with
  |none=>rfl
  |some o=>have P:=g C o e;rw[M.m_]at P;cases P
 have H:Sub m m2:=g.upd O A.other;have Q:b≠C:=λe=>by have:=M.m_;rw[<-e,G.at_]at this;cases this
 obtain⟨b3,a2,x,ea,b8,rd,sq⟩:=ha.get (G4 (i:=0) aC);obtain⟨us,D,I⟩:=sq.ex;have xq:=hq.parts;have a3:=xq.columns_.slen;simp only[SL]at hK;generalize ls.getD 0 []=l at D I hK f sq;have a4:=I.len;have b9:=f.len;refine⟨b3,a2,ea,aC,aC,x,.imm rd,AT,us,λk J E=>PH.le h E/\Ff m2 J C/\∃d,sD m2 J C d/\d.length<=k/\fE E d ((l.take k).map λr=>pick r co),Al,⟨x,us,rfl,D,rfl⟩,⟨.refl _,λx o e _=>e,[],sD.new A.at_,ay,bk (fE.nil h)⟩,?_,?_⟩
 .rintro k e J E hk-⟨le,X,d,j,a5,B⟩
  obtain⟨r,hr,hv⟩:=I.at' hk;have c':=(bm hk);have R:J b=some (.cells ⟨v.enc⟩ 41 (0,0)):=X b _ (by rw[A.other b Q];exact G.at_) Q;have c0:=f.wid r (bo hr);have S:=bQ.mono hv le;have c1:=bM.slen S;have c2:(pick r co).length=co.length:=by simp[pick]
  refine⟨v.columns,.of_m R rfl,aC,aC,aC,aC,v.columns,.of_m R rfl,λz=>z.1<=co.length/\z.2.1=C/\z.2.2.1=e/\z.2.2.2.1=v.columns/\z.2.2.2.2.1=(pick r co).take z.1++replicate (co.length-z.1) zeroV/\z.2.2.2.2.2.1=J/\z.2.2.2.2.2.2=E,λz=>co.length-z.1,⟨(0,C,e,v.columns,replicate co.length zeroV,J,E),⟨ay,rfl,rfl,rfl,ay,rfl,rfl⟩,?_⟩,?_⟩
  .dsimp only;rw[map_replicate,show((v.columns.len:Int)).toNat=co.length by omega];exact MT
  .rintro⟨i,bb,ee,cc,cells,my,hy⟩ ⟨hi,P,e2,e3,Y,Z,e6⟩;dsimp only at hi P e2 e3 Y Z e6;subst P e2 e3 Y Z e6;refine aF (λF=>?_) (λa6=>?_)
   .dsimp only at F⊢
    obtain⟨c,T⟩:=fK a3 F;obtain⟨b4,o4,Y,c3⟩:=(xq.columns_.mono le).at T;obtain⟨y,a7,a8,h0,h1⟩:=Kt (r:=r) bg T;obtain⟨b5,o5,y',Z,a9,rfl⟩:=bM.at S a7;have U:i<co.length:=by omega
    have V:=WW a8 U;refine⟨b4,o4,Y,aC,aC,c,.imm bg,b5,o5,Z,h0,aC,y,.imm a9,aC,bf,_,SN U,by simp[VV.enc],(i+1,bb,ee,v.columns,(pick r co).take (i+1)++replicate (co.length-(i+1)) zeroV,my,hy),⟨aC,rfl,rfl,rfl,rfl,rfl,rfl⟩,aC,?_⟩;dsimp only;refine⟨rfl,rfl,rfl,rfl,rfl,by rw[jK aC],?_,rfl,rfl,trivial⟩;rw[<-V,map_set];rfl
   .dsimp only at a6⊢
    have:i=co.length:=by omega
    subst this;rw[bt aC,Nat.sub_self,replicate_zero,append_nil];obtain⟨s,hb,n,W⟩:=j.ex;refine⟨s,.of_m hb rfl,λs3 h3 u L=>Kv ⟨_,A.at_⟩ X hb n W aC (λm' b' b0=>⟨le.trans u,b',d++[s3],b0,bf,?_⟩)⟩
    have e6:(l.take (k+1)).map (λr=>pick r co)=(l.take k).map (λr=>pick r co)++[pick r co]:=by
     rw[cd,hr];simp
    rw[e6];exact(B.mono u).snoc ⟨⟨_,L,rfl,λi x E=>⟨x,E,rfl⟩⟩,aC⟩
 .rintro J E-⟨le,X,d,j,a5,B⟩
  rw[a4,take_length]at B;obtain⟨s,hb,n,W⟩:=j.ex;refine⟨s,.of_m hb rfl,s,d,_,rfl,n.src,B,bf,λs3 h3 u L=>cR.sub (H.x O X) (le.trans u) (hK s3 h3 (le.trans u) L)⟩
theorem jB{m0 o}(c:Sub m0 m)(g:cW m h b)(j:lI m m' b o):Sub m0 m'/\m0 b=none:=by
 have d:m0 b=none:=by
  cases e:m0 b with
  |none=>rfl
  |some x=>have f:=c b x e;rw[g.m_]at f;cases f
 exact⟨c.upd d j.other,d⟩
theorem mem_keys{l w k x}(f:iV w l)(hx:OS x)(g:x.length=w):fN x∈(l.take k).map fN↔x∈l.take k:=by
 constructor
 .intro h;obtain⟨y,d,e⟩:=mem_map.1 h;have c:=mem_of_mem_take d;rw[(QT (by rw[f.wid y c,g]) (f.row y c).val hx.val).1 e]at d;exact d
 grind
theorem Rm:cm 251 Wf:=by
 refine Jr func251 ?_;rintro d0 m h K ⟨t,i,bs,ls,w,rfl,ha,hT,h2,a0,hK⟩;refine⟨VO [(263,aRJ)] [] [] [200003,200005,200007,1058,400000,0],rfl,aE ZO aH,M4 t i m h (cR h K),ax,?_⟩;show M4 t i m h (cR h K);dsimp only[M4,push_cast];intro u m1 b2 M d m2 a1 G C m3 U O;obtain⟨s1,n3⟩:=jB (Sub.refl m) b2 M;obtain⟨s2,ny⟩:=jB s1 a1 G;obtain⟨s3,n5⟩:=jB s2 U O;refine⟨_,_,⟨O.at_⟩,ay,λm4 P=>?_⟩;have s4:Sub m m4:=s3.upd n5 P.other;have f:d≠C:=λe=>by have:=U.m_;rw[<-e,G.at_]at this;cases this
 have R:u≠C:=λe=>by have:=U.m_;rw[<-e,G.other u (λD=>by omega),M.at_]at this;cases this
 have V:u≠d:=λD=>by have:=a1.m_;rw[<-D,M.at_]at this;cases this
 have b4:m4 d=some (.map #[] 0):=by rw[P.other d f,O.other d f];exact G.at_
 have a2:m4 u=some (.cells #[.bool i] 4 (0,0)):=by rw[P.other u R,O.other u R,G.other u V];exact M.at_
 have W:m4 C=some (.cells #[.map (some d)] 157 (0,0)):=P.at_;obtain⟨b,b8,x,ea,d1,rd,sq⟩:=ha.get (G4 (i:=1) aC);obtain⟨a3,X,H⟩:=sq.ex;have A:=a0 _ (bo (G4 (i:=1) aC));have g:=a0 _ (bo (G4 (i:=0) aC));obtain⟨b6,a4,x6,b9,d',c',a5⟩:=ha.get (G4 (i:=0) aC);obtain⟨us,a6,Y⟩:=a5.ex;generalize ls.getD 1 []=S at H A hK sq;generalize ls.getD 0 []=l at Y g hK a5;have c0:=Y.len;have d2:=g.len;have a7:=H.len;refine⟨b,b8,ea,aC,aC,x,.imm rd,AT,a3,λk Z hx=>hx=h/\(∀z o,m4 z=some o->z≠d->Z z=some o)/\sC Z d ((S.take k).map fN),Al,⟨x,a3,rfl,X,rfl⟩,⟨rfl,λz o e _=>e,bk (sC.new b4)⟩,?_,?_⟩
 .rintro k e Z hx hk-⟨rfl,T,I⟩
  obtain⟨r,hr,hv⟩:=H.at' hk;have J:=bo hr;have r5:aK Z hx C 0 [Value.map (some d)]:=.of_m (T C _ W (Ne.symm f)) rfl;refine⟨d,r5,r5,e,r,rfl,hv,A.row r J,hT.sub (λz o D=>T z o (s4 z o D) (λe3=>bg)),r5,I.put (λm' a' a8=>⟨rfl,λz o D c1=>by rw[a'.other z c1];grind,?_⟩)⟩;obtain⟨kk,h5,h6⟩:=a8.ex;exact⟨kk,h5,λq=>by rw[h6,cd,hr];grind⟩
 .rintro Z hx-⟨rfl,T,I⟩ b7 m5 a9 F;rw[a7,take_length]at I;have s5:Sub m Z:=λz o D=>T z o (s4 z o D) (λe3=>bg);obtain⟨s6,n7⟩:=jB s5 a9 F;have Q:∀z o,Z z=some o->z≠b7:=λz o D e3=>by rw[e3,a9.m_]at D;cases D
  have y7:d≠b7:=by
   obtain⟨kk,⟨es,c,h1,_⟩,_⟩:=I.ex
   grind
  have c2:m5 C=some (.cells #[.map (some d)] 157 (0,0)):=by rw[F.other C (Q C _ (T C _ W (Ne.symm f)))];grind
  have c3:m5 u=some (.cells #[.bool i] 4 (0,0)):=by rw[F.other u (Q u _ (T u _ a2 V))];grind
  have b':sC m5 d (S.map fN):=I.keep (F.other d y7);have c4:C≠b7:=Q C _ (T C _ W (Ne.symm f));have c5:u≠b7:=Q u _ (T u _ a2 V);refine⟨b6,a4,b9,aC,aC,x6,.imm c',AT,us,λk my hy=>hy=hx/\Ff m5 my b7/\∃B,sD m5 my b7 B/\B.length<=k/\fE hx B ((l.take k).filter λz=>Gy S z==i),Al,⟨x6,us,rfl,a6,rfl⟩,⟨rfl,λz o e _=>e,[],sD.new F.at_,ay,bk (fE.nil hx)⟩,?_,?_⟩
  .rintro k e my hy hk-⟨rfl,n,B,E,c6,L⟩
   obtain⟨r,hr,hv⟩:=Y.at' hk;have d3:=(bm hk);have J:=bo hr;have r5:aK my hy C 0 [Value.map (some d)]:=.of_m (n C _ c2 c4) rfl;have r3:aK my hy u 0 [Value.bool i]:=.of_m (n u _ c3 c5) rfl
   have b0:sC my d (S.map fN):=by
    obtain⟨kk,⟨es,c,h1,h2,h3,h4⟩,h5⟩:=b'.ex;exact⟨kk,⟨es,c,n d _ h1 y7,h2,h3,h4⟩,h5⟩
   have key:∀t:Bool,(t=true↔fN r∈S.map fN)->t=Gy S r:=λt ht=>by
    have h1:=mem_keys (k:=S.length) A (g.row r J) (g.wid r J);rw[take_length]at h1;rw[h1]at ht;cases t
    .cases D:Gy S r with
     |false=>rfl
     |true=>exact ht.2 (BG.1 D)
    .exact(BG.2 (ht.1 rfl)).symm
   refine⟨d,r5,i,r3,r5,r3,e,r,rfl,hv,g.row r J,hT.sub (s6.x n7 n),r5,r3,r3,b0.get (K:=λt=>branch (t==i) _ _) (λt ht=>?_)⟩;have e3:=key t ht;refine aD (λh1=>?_) (λh1=>?_)
   .refine sD.app ⟨_,F.at_⟩ n E aC (λm' a' c7=>⟨rfl,a',B++[e],c7,bf,?_⟩);rw[jS _ hr,if_pos bg];exact L.snoc hv
   .refine⟨rfl,n,B,E,aC,?_⟩;rw[jS _ hr,if_neg bg,append_nil];exact L
  .rintro my hy-⟨rfl,n,B,E,c6,L⟩
   rw[c0,take_length]at L;obtain⟨s,hb,b1,c8⟩:=E.ex;refine⟨s,.of_m hb rfl,cR.row (s6.x n7 n) (.refl _) b1 (λj y e=>?_) (λh' le c9=>hK s h' le ((L.mono le).rows c9 bg))⟩;cases D:m y with
   |none=>rfl
   |some o=>have e1:=c8 j y e;rw[s6 y o D]at e1;cases e1
def B4(_:Query)(ls:List ct):=2<=ls.length/\∃w,∀l∈ls,iV w l
def Vq(_:Query)(ls:List ct):=(ls.getD 0 []).filter λx=>Gy (ls.getD 1 []) x==false
def QY(_:Query)(ls:List ct):=(ls.getD 0 []).filter λx=>Gy (ls.getD 1 []) x==true
theorem Z2:cm 220 (Wj B4 Vq):=by
 refine jC func220 ?_;rintro d m h K ⟨v,t,q,e,f,rfl,_,g,j,⟨n,w,c⟩,o⟩;refine⟨dK [(251,Wf)] [] [] [] false,rfl,aE Rm aH,beX v t m h K,ax,?_⟩;exact⟨t,false,e,f,w,rfl,g,j,n,c,o⟩
theorem Z1:cm 221 (Wj B4 QY):=by
 refine jC func221 ?_;rintro d m h K ⟨v,t,q,e,f,rfl,_,g,j,⟨n,w,c⟩,o⟩;refine⟨dK [(251,Wf)] [] [] [] false,rfl,aE Rm aH,beQ v t m h K,ax,?_⟩;exact⟨t,true,e,f,w,rfl,g,j,n,c,o⟩
def j5:cv->cz->cz->Int
 |[],a,b=>fG a b
 |(c,d)::r,a,b=>if 0<=c/\c<a.length/\c<b.length then(if pN (a.getD c.toNat zeroV) (b.getD c.toNat zeroV)≠0 then(if d then-pN (a.getD c.toNat zeroV) (b.getD c.toNat zeroV)else pN (a.getD c.toNat zeroV) (b.getD c.toNat zeroV))else j5 r a b)else j5 r a b
def HR:Vc.Spec:=λc m h K=>∃o s t od a b,c=[cS o,cS s,cS t]/\jP h o od/\bQ h s a/\bQ h t b/\K (cI (j5 od a b)) m h
def UM:Vc.Spec:=λc m h K=>∃s t d v od a b,c=[cS s,cS t,cP d]/\m d=some (.cells ⟨QV.enc v⟩ 41 (0,0))/\jP h v.order od/\bQ h s a/\bQ h t b/\K (cI (j5 od a b)) m h
def cAX:Vc.Spec:=λc m h K=>∃i:Nat,∃d e f v od g s rs r x,c=[cI i,cP d,cP e,cP f]/\m d=some (.cells ⟨QV.enc v⟩ 41 (0,0))/\m e=some (.cells #[Sl.val g] 58 (0,0))/\m f=some (.cells #[Sl.val s] 65 (0,0))/\jP h v.order od/\Rows h g rs/\bQ h s r/\rs[i]? =some x/\
 K (cB (decide (j5 od x r>=0))) m h
def bYQ:Vc.Spec:=λd m h K=>∃(s:Sl)(e:Nat)(v:QV)(od:cv)(w:Nat)(ps:dl),d=[cS s,.val (.func (.func 264) #[] #[.pointer (some ⟨e,0,none⟩)])]/\m e=some (.cells ⟨QV.enc v⟩ 41 (0,0))/\(∀i,s.a≠some ⟨e,i,none⟩)/\jP h v.order od/\cL m s 65 1 (ps.map λp=>eS p.1)/\(∀p∈ps,bQ h p.1 p.2)/\(∀p∈ps,p.2.length=w)/\ps.length<=140737488355328/\
 ∀(c:dl)(m':MH),c.Perm ps->c.Pairwise (λp q=>¬j5 od q.2 p.2<0)->cL m' s 65 1 (c.map λp=>eS p.1)->(∀b,(∀i,s.a≠some ⟨b,i,none⟩)->m' b=m b)->K (.tup []) m' h
noncomputable def bQX o s t m h:=
 dK [(156,UP),(93,Jv)] [(2,{A:=Nat,st:=λi=>bY 55 58 [(1,sv s),(2,sv t),(10,sv o),(11,iv o.len),(12,iv i)] [] m h})] [] [] false
def Up(o s t:Sl)(m:MH)(h:PH)(K:cq):=
  nI (λI x=>aA (I x) (aI s) (aA (aI t) (aI o) (aA (bI o) (bA x) (aA (m=m) (h=h) True)))) (λI d x=>I x->aY (↑x:Int) (aG o) (bK (λb f=>aA (aR o.a b f) (0<=(↑x:Int)) ((↑x:Int)<aG o/\∃(y:Int×Bool),aK m h b (bL f x 2) (Bi y)/\aY y.1 0 (∃(c:Nat),aA (I c) (d c<d x) (aA (aI s) (aI t) (aA (aI o) (bI o) (aA (iH (bE x 1)=bP c) (m=m) (bU h h))))) (dQ (decide (y.1>=aG s)) (∃(c:Nat),aA (I c) (d c<d x) (aA (aI s) (aI t) (aA (aI o) (bI o) (aA (iH (bE x 1)=bP c) (m=m) (bU h h))))) (decide (y.1>=aG t)) (∃(c:Nat),aA (I c) (d c<d x) (aA (aI s) (aI t) (aA (aI o) (bI o) (aA (iH (bE x 1)=bP c) (m=m) (bU h h))))) (bK (λg j=>aA (aR s.a g j) (0<=
 y.1) (y.1<aG s/\∃(n:VV),aK m h g (gH j y.1 3) n.enc/\bK (λu z=>aA (aR t.a u z) (0<=y.1) (y.1<aG t/\∃(A:VV),aK m h u (gH z y.1 3) A.enc/\∃(a e:VV),eU n.enc (lV A)=eU a.enc (lV e)/\dQ (pN a e==0) (∃(c:Nat),aA (I c) (d c<d x) (aA (aI s) (aI t) (aA (aI o) (bI o) (aA (iH (bE x 1)=bP c) (m=m) (bU h h))))) y.2 (K (jA (iF (0-pN a e))) m h) (K (jA (pN a e)) m h)))))))))) (∃(B:Sl),pX (λC a=>∃(b:cz),aA (cD s t=cD B C) (bQ h B a) (bQ h C b/\K (jA (fG a b)) m h))))
abbrev KV(a b c d e g:Sl)(i:PH)(j:cv)(k:cz->cz->Prop):=∃(x f:cz),aA (dC a (cD b c)=dC d (cD e g)) (jP i d j) (aA (bQ i e x) (bQ i g f) (k x f))
attribute [push_cast] KV
def bcZ(s t:Sl)(d:Nat)(m:MH)(h:PH)(K:cq):=
  xP m h d 18 (λy o=>rC (λe f=>∃(c:cv),KV y s t o e f h c (λa b=>K (jA (j5 c a b)) m h)))
def Tw(i j d n:Nat)(m:MH)(h:PH)(K:cq):=
  xP m h j 18 (λy c=>aK m h d 0 (aL c)/\bK (λb o=>aA (aR c.a b o) (0<=(↑i:Int)) ((↑i:Int)<aG c/\∃(e:Sl),aK m h b (bL o i 1) (aL e)/\∃(f:Sl),aA (aK m h n 0 (aL f)) (aK m h d 0 (aL c)) (rC (λu s=>PD (λt g=>KV y e f u s t h g (λa z=>aK m h d 0 (aL c)/\K (Aw (decide (j5 g a z>=0))) m h)))))))
theorem atZ a b: -1<=pN a b/\pN a b<=1:=by
 have c:∀x y:Int, -1<=DD x y/\DD x y<=1:=λx y=>by unfold DD;omega
 have d:=(QO a.text.data.toList b.text.data.toList).2;have e: -1<=Sr a.text b.text/\Sr a.text b.text<=1:=by unfold Sr;omega
 have f:=c a.kind b.kind;have g:=c a.int b.int;unfold pN;omega
theorem blZ{c d r a b}(h:¬(0<=c/\c<a.length/\c<b.length)):j5 ((c,d)::r) a b=j5 r a b:=by
 rw[j5,if_neg h]
theorem cyZ{c d r a b x y}(e:0<=c)(hx:a[c.toNat]? =some x)(f:b[c.toNat]? =some y):j5 ((c,d)::r) a b=if pN x y≠0 then(if d then-pN x y else pN x y)else j5 r a b:=by
 have g:=(bm hx);have j:=(bm f);rw[j5,if_pos ⟨e,aC,aC⟩]
 grind
theorem GG:cm 110 HR:=by
 refine jC func110 ?_;rintro L m h K ⟨o,s,t,od,a,b,rfl,C,D,E,g⟩;refine⟨bQX o s t m h,rfl,aE JT (aE E4 aH),Up o s t m h K,ax,?_⟩;dsimp only[Up,push_cast];have F:=C.slen;have M:=C.len;have O:=bM.slen D;have P:=bM.slen E;refine⟨λi=>i<=od.length/\j5 od a b=j5 (od.drop i) a b,λi=>od.length-i,⟨0,⟨aC,ay⟩,MT⟩,λi⟨hi,j⟩=>aF (λn=>?_) (λQ=>?_)⟩
 .obtain⟨⟨c,B⟩,G⟩:=fK F n;obtain⟨R,S,T,U⟩:=C.row.get (i:=i) (e:=DM (c,B)) (by simp[G]);rw[drop_cons G]at j
  have skip:¬(0<=c/\c<a.length/\c<b.length)->∃d:Nat,(λi=>i<=od.length/\j5 od a b=j5 (od.drop i) a b) d/\(λi=>od.length-i) d<(λi=>od.length-i) i/\eQ (sQs s)/\eQ (sQs t)/\eQ (sQs o)/\eQ (iH ↑o.len)/\iH (IntKind.i64.wrap ((i:Int)+1))=iH ↑d/\m=m/\h=h/\True:=λV=>
   ⟨i+1,⟨aC,by rw[j,blZ V]⟩,(show od.length-(i+1)<od.length-i by omega),MT⟩
  refine⟨R,S,T,aC,n,(c,B),.imm U,aF (λH=>skip (λe=>by omega)) (λH=>aF (λI=>skip (λe=>by omega)) (λI=>aF (λJ=>skip (λe=>by omega)) (λJ=>?_)))⟩;dsimp only at H I J⊢
  obtain⟨x,z⟩:∃x,a[c.toNat]? =some x:=⟨_,bn aC⟩
  obtain⟨y,A⟩:∃y,b[c.toNat]? =some y:=⟨_,bn aC⟩
  obtain⟨W,X,u,Y,Z,rfl⟩:=bM.at D z;obtain⟨b3,o3,u,e3,r3,rfl⟩:=bM.at E A;rw[cyZ aC z A]at j;have a':=atZ x y;refine⟨W,X,Y,aC,aC,x,.imm Z,b3,o3,e3,aC,aC,y,.imm r3,x,y,rfl,aD (λh4=>⟨i+1,⟨aC,?_⟩,(show od.length-(i+1)<od.length-i by omega),MT⟩) (λh4=>aD (λf=>?_) (λf=>?_))⟩
  .grind
  .have f:B=true:=f;rw[j,if_pos bg,if_pos f]at g;rw[fL aC aC,Int.zero_sub];exact g
  .have f:B=false:=f;rw[j,if_pos bg,if_neg (by simp[f])]at g;exact g
 .rw[j,drop_eq_nil_of_le aC,j5]at g;exact⟨s,t,a,b,rfl,D,E,g⟩
theorem ZN:cm 264 UM:=by
 refine jC func264 ?_;rintro c m h K ⟨s,t,d,v,od,a,b,rfl,e,f,g,j,n⟩;refine⟨qD [(110,HR)] [] [] [] [0] [] false,rfl,aE GG aH,bcZ s t d m h K,ax,?_⟩;exact⟨v.order,.of_m e rfl,v.order,s,t,od,a,b,rfl,f,g,j,n⟩
theorem ZR:cm 253 cAX:=by
 refine jC func253 ?_;rintro j m h K ⟨i,n,e,o,v,od,g,s,rs,r,x,rfl,y,z,A,B,c,C,f,D⟩;refine⟨qD [(110,HR)] [] [] [] [0] [] false,rfl,aE GG aH,Tw i n e o m h K,ax,?_⟩;dsimp only[Tw,push_cast];have J:=bM.slen c;have L:=(bm f);obtain⟨E,F,u,G,H,I⟩:=bM.at c f;have d:aK m h e 0 [dW g]:=.of_m z rfl;exact⟨v.order,.of_m y rfl,g,d,E,F,G,aC,aC,u,.imm H,s,.of_m A rfl,d,v.order,u,s,od,x,r,rfl,B,I,C,d,D⟩
def LZ(w:Nat):cv->cz->cz->Int
 |[],a,b=>fG a b
 |(c,d)::r,a,b=>if 0<=c/\c<w then(if(if d then-pN (a.getD c.toNat zeroV) (b.getD c.toNat zeroV)else pN (a.getD c.toNat zeroV) (b.getD c.toNat zeroV))≠0 then(if d then-pN (a.getD c.toNat zeroV) (b.getD c.toNat zeroV)else pN (a.getD c.toNat zeroV) (b.getD c.toNat zeroV))else LZ w r a b)else LZ w r a b
theorem Aq{w:Nat}:∀{od:cv}{a b:cz},a.length=w->b.length=w->j5 od a b=LZ w od a b
 |[],_,_,_,_=>rfl
 |(c,f)::r,a,b,d,e=>by
  rw[j5,LZ,d,e,Aq (od:=r) d e];omega
theorem UQ.neg{α}{c:α->α->Int}(h:UQ c):UQ (λx y=> -c x y):=by
 refine⟨λx y=>by have:=h.anti x y;omega,λx y z d e=>?_⟩;have f:=h.anti x y;have g:=h.anti y z;have j:=h.anti x z;have:=h.trans z y x aC aC;omega
theorem HJ(w:Nat):∀od,UQ (LZ w od)
 |[]=>HK
 |(c,d)::r=>by
  have f:=HJ w r;have g:UQ (λa b:cz=>pN (a.getD c.toNat zeroV) (b.getD c.toNat zeroV)):=L0.of λa:cz=>a.getD c.toNat zeroV;by_cases h:0<=c/\c<w
  .have e:LZ w ((c,d)::r)=λa b=>if(if d then-pN (a.getD c.toNat zeroV) (b.getD c.toNat zeroV)else pN (a.getD c.toNat zeroV) (b.getD c.toNat zeroV))≠0 then(if d then-pN (a.getD c.toNat zeroV) (b.getD c.toNat zeroV)else pN (a.getD c.toNat zeroV) (b.getD c.toNat zeroV))else LZ w r a b:=by
    funext a b;rw[LZ,if_pos h]
   rw[e];cases d
   .exact g.lex f
   .exact g.neg.lex f
  .have e:LZ w ((c,d)::r)=LZ w r:=by funext a b;rw[LZ,if_neg h]
   grind
theorem YE{w} od:Sort.SWO (Go.Proofs.ltOf (fun(x y:HO h (λl=>l.length=w))=>j5 od x.l y.l)):=by
 have e:(fun(x y:HO h (λl=>l.length=w))=>j5 od x.l y.l)=λx y=>LZ w od x.l y.l:=by
  funext x y;exact Aq x.pr_ y.pr_
 rw[e];exact(HJ w od).swo
theorem Yn:cm 135 bYQ:=by
 refine⟨⟨Tryz.f135,func135,rfl,az⟩,?_⟩;rintro j f m h w K ⟨s,c,v,od,n,ps,rfl,I,u,z,A,B,C,D,E⟩ d
 obtain⟨F,e,rfl⟩:∃v e,f=[v,e]:=by
  have:=(rH d.args).1
  match f,this with
  |[v,e],_=>grind
 have G:F=s.val:=d.args.1;have H:e= .func (.func 264) #[] #[.pointer (some ⟨c,0,none⟩)]:=d.args.2.1;subst G H;refine Mk (R:=λl=>l.length=n) (g:=264) (cb:=[.pointer (some ⟨c,0,none⟩)]) (m2:=λb=>if b=c then m c else none) (cf:=j5 od) rfl d ⟨Tryz.f264,func264,rfl,az⟩ A B C D (YE od) ⟨UM,ZN,λx y=>⟨x.s,y.s,c,v,od,x.l,y.l,rfl,bg,z,x.ok,y.ok,rfl,rfl,rfl⟩⟩ (λb o J=>?_) E
 grind
noncomputable def bGQ:=VO [(246,NI),(248,b3J),(247,Md),(161,Sc)] [(13,{A:=Nat×Nat×Sl×Sl×MH×PH,st:=λ⟨i,b,e,g,m,h⟩=>bY 66 68 [(10,vv (.pointer (some ⟨b,0,none⟩))),(11,sv e),(51,sv g),(52,iv g.len),(53,iv i)] [] m h})] [] [200005,200006,200007,200010,1058,400000,0]
abbrev Lk a b:=List.all (pick a b) pW
abbrev sX(a:MH)(b:Nat)(c:(Value->Prop)->Prop)(d:Value)(e:Prop)(g:Sl->Prop):=∃(x:List (Value×Sl))(j:Value->Prop),aA (uX a b (List.map (fun(f:Value×Sl)=>(f.1,dW f.2)) x)) (Di j) (aA (c j) (∀(f:Value×Sl),List.Mem f x->j f.1) (((∀(f:Value×Sl),bH (List.Mem f x) (f.1=d) False)->e)/\∀(f:Sl),List.Mem (d,f) x->g f))
abbrev FM(a:Nat->Option Obj)(b:List cr)(c:Sl)(d:Sl->MH->Prop):=aA (cL a (Sl.mk Option.none 0 0) 65 1 b) (lL b) (eA b/\jW (λx e=>gK a e (Sl.mk Option.none 0 0) x 65 1 (dP b (aL c))->d x e))
abbrev nF(a:Nat×Nat×Sl×Sl×MH×PH):=a.2.1
abbrev lC(a:Nat×Nat×Sl×Sl×MH×PH):=a.2.2
abbrev fF(a:Sl×Sl×MH×PH):=a.2.1
abbrev oS a:=fF (lC a)
abbrev iW(a:Sl×Sl×MH×PH):=a.2.2
abbrev fM a:=(iW a).1
abbrev oT a:=fM (lC a)
abbrev dD a:=(iW a).2
abbrev QH(a:Sl->ct->Prop):=∃(x:Sl)(c:ct),a x c
abbrev KU(a:Nat->Nat->Option Value)(b c:Sl)(d:Sl->PH->Prop):=cK a 1 (mJ (aL b) (aL c)) (λx j=>QH (λn f=>aA (vA x=vA n) (Rows j n f) (aA (f.length<=10) (∀(e:cz),List.Mem e f->e.length<=12) (∀(e:Sl)(g:PH),bS j g (bQ g e f.flatten) (d e g)))))
abbrev tF(a b:Sl×Sl×MH×PH):=aW a.1 b.1
attribute [push_cast] Lk sX FM nF lC fF oS iW fM oT dD QH KU tF
def Na(v:QV)(t:Sl)(m:MH)(h:PH)(K:cq):=
  Dl (λs o=>aA (eY (nW v.on) (nW s)) (jD h s o) (∀(a b:Sl)(L:PH),bS h L (Ints L a (jG o)) (Ints L b (eG o)->∀(Q:Nat)(m1:MH),bH (cW m L Q) (bJ m m1 Q gW 36) (∀(b2:Nat)(m2:MH),bH (cW m1 L b2) (bJ m1 m2 b2 gW 36) (gT (λc E=>aA (sL m2 Q (fA c E 0)) (0<c.size) (∀(m3:MH),bJ m2 m3 Q (iC (dW a) 1 c) E->gT (λc1 E1=>aA (sL m3 b2 (fA c1 E1 0)) (0<c1.size) (∀(m4:MH),bJ m3 m4 b2 (iC (dW b) 1 c1) E1->xN m4 L (λb3 m5=>∀(u:Nat)(m6:MH),bH (cW m5 L u) (bJ m5 m6 u (pD Eu) 160) (gT (λc2 E2=>aA (sL m6 u (fA c2 E2 0)) (0<c2.size) (∀(m7:MH),bJ m6 m7 u (iC (Dj b3) 1 c2) E2->Ll t.a 0 1 t m7 L (λR=>R+1) (λy S=>xM S L y m7 (λI k e n f=>I k n f->∃(y1:
 Sl),aK n f b2 0 (aL y1)/\∃(s1:Sl),AL (λt1 r T=>aA (cD e y1=cD s1 t1) (bQ f s1 r) (aA (Ints f t1 T) (AK r T) (branch (Lk r T) (xP n f b2 0 (λy2 s2=>AL (λt2 z A=>aA (cD e y2=cD s2 t2) (bQ f s2 z) (aA (Ints f t2 A) (OS z) (aA (AK z A) (eK n) (∃(j:Nat),aK n f u 0 (oP j)/\∃(D:Nat),aA (dM n f u D) (aK n f u 0 (oP j)/\sX n D (λO=>O (dT z A)) (dT z A) (aA (dM n f u j) (dM n f u D) (aA (dM n f u j) (dM n f u D) (∃(x:List cr),FM n x e (λF B=>aA (dM B f u j) (dM B f u D) (rK B j (λO=>O (dT z A)) (dT z A) (λU=>∀(g:MH),bH (kD B g j) (pV g j (iK U (dT z A) (dW F) [])) (I (k+1) g f))
 (λl V G=>iK l (dT z A) V G) (λl G=>∀(g:MH),bH (kD B g j) (pV g j (iK l (dT z A) (dW F) G)) (I (k+1) g f))))))) (λJ=>aA (dM n f u j) (dM n f u D) (aA (dM n f u j) (dM n f u D) (∃(x:List cr),aA (cL n (dL J) 65 1 x) (lL x) (eA x/\jW (λF B=>gK n B (dL J) F 65 1 (dP x (aL e))->aA (dM B f u j) (dM B f u D) (rK B j (λO=>O (dT z A)) (dT z A) (λU=>∀(g:MH),bH (kD B g j) (pV g j (iK U (dT z A) (dW F) [])) (I (k+1) g f)) (λl V G=>iK l (dT z A) V G) (λl G=>∀(g:MH),bH (kD B g j) (pV g j (iK l (dT z A) (dW F) G)) (I (k+1) g f))))))))) (aA (dM n f u j) (dM n f u D) (aK n f u
 0 (oP j)/\sX n D (λO=>O (dT z A)) (dT z A) (Ca (dM n f u j) (dM n f u D) (λx=>FM n x e (λF B=>aA (dM B f u j) (dM B f u D) (rK B j (λO=>O (dT z A)) (dT z A) (λU=>∀(g:MH),bH (kD B g j) (pV g j (iK U (dT z A) (dW F) [])) (I (k+1) g f)) (λl V G=>iK l (dT z A) V G) (λl G=>∀(g:MH),bH (kD B g j) (pV g j (iK l (dT z A) (dW F) G)) (I (k+1) g f)))))) (λJ=>Ca (dM n f u j) (dM n f u D) (λx=>aA (cL n (dL J) 65 1 x) (lL x) (eA x/\jW (λF B=>gK n B (dL J) F 65 1 (dP x (aL e))->aA (dM B f u j) (dM B f u D) (rK B j (λO=>O (dT z A)) (dT z A) (λU=>∀(g:MH),bH
 (kD B g j) (pV g j (iK U (dT z A) (dW F) [])) (I (k+1) g f)) (λl V G=>iK l (dT z A) V G) (λl G=>∀(g:MH),bH (kD B g j) (pV g j (iK l (dT z A) (dW F) G)) (I (k+1) g f))))))))))))))) (I (k+1) n f))))) (λx I=>fD (λn f=>bS L f (I x.length n f) (FK n f t (λb5 B y1 S1=>xM S1 f y1 B (λI1 k e g H=>I1 k g H->∃(y2:Sl),aK g H Q 0 (aL y2)/\∃(s1:Sl),AL (λt1 r T=>aA (cD e y2=cD s1 t1) (bQ H s1 r) (aA (Ints H t1 T) (AK r T) (pI (Lk r T) (I1 (k+1) g H) (∃(j:Nat),aK g H u 0 (oP j)/\∃(D:Sl),aA (aK g H Q 0 (aL D)) (dM g H u j) (∃(s2:Sl),DV e D s2 H g u j (λ_ _=>aK g H Q 0 (aL D)) (λz A=>sX g j (λO=>O (dT z
 A)) (dT z A) (∃(I2:Nat×Nat×Sl×Sl×MH×PH->Prop)(a2:Nat×Nat×Sl×Sl×MH×PH->Nat),(∃(d:Nat×Nat×Sl×Sl×MH×PH),aA (I2 d) (cA b5 (nF d)) (aA (aW e (lC d).1) (sQn=sQs (oS d)) (aA (bA (oS d).len) (bA d.1) (aA (bO g (iW (lC d))) (cF H (iW (lC d))) True))))/\∀(d:Nat×Nat×Sl×Sl×MH×PH),I2 d->aY (↑d.1:Int) (aG (oS d)) (bK (λb6 R=>aA (aR (oS d).a b6 R) (0<=(↑d.1:Int)) ((↑d.1:Int)<aG (oS d)/\∃(J:Sl),aK (oT d) (dD (lC d)) b6 (bL R d.1 1) (aL J)/\∃(M:Sl),aA (aK (oT d) (dD (lC d)) (nF d) 0 (aL M)) (aK (oT d) (dD (lC d)) (nF d) 0 (aL M)) (aK (oT d) (dD (lC d)) (nF d) 0 (aL M)/\KU (dD
 (lC d)) (lC d).1 J (λF W=>Ca (aK (oT d) W (nF d) 0 (aL M)) (aK (oT d) W (nF d) 0 (aL M)) (λP=>aA (cL (oT d) (dL M) 65 1 P) (lL P) (eA P/\jW (λs4 X=>gK (oT d) X (dL M) s4 65 1 (dP P (aL F))->gT (λY E3=>aA (sL X (nF d) (fA Y E3 0)) (0<Y.size) (∀(a4:MH),bJ X a4 (nF d) (iC (dW s4) 1 Y) E3->∃(C:Nat×Nat×Sl×Sl×MH×PH),aA (I2 C) (a2 C<a2 d) (aA (cA (nF d) (nF C)) (tF (lC d) (lC C)) (aA (aW (oS d) (oS C)) (bN (oS d) (oS C)) (aA (iH (bE d.1 1)=bP C.1) (bO a4 (iW (lC C))) (kY (cF W (iW (lC C))))))))))))))))) (I1 (k+1) (oT d) (dD (lC d)))) (λJ=>∃(I2:Nat×Nat×Sl×Sl×
 MH×PH->Prop)(a2:Nat×Nat×Sl×Sl×MH×PH->Nat),(∃(d:Nat×Nat×Sl×Sl×MH×PH),aA (I2 d) (cA b5 (nF d)) (aA (aW e (lC d).1) (aW J (oS d)) (aA (bN J (oS d)) (bA d.1) (aA (bO g (iW (lC d))) (cF H (iW (lC d))) True))))/\∀(d:Nat×Nat×Sl×Sl×MH×PH),I2 d->aY (↑d.1:Int) (aG (oS d)) (bK (λb6 R=>aA (aR (oS d).a b6 R) (0<=(↑d.1:Int)) ((↑d.1:Int)<aG (oS d)/\∃(M:Sl),aK (oT d) (dD (lC d)) b6 (bL R d.1 1) (aL M)/\∃(Z:Sl),aA (aK (oT d) (dD (lC d)) (nF d) 0 (aL Z)) (aK (oT d) (dD (lC d)) (nF d) 0 (aL Z)) (aK (oT d) (dD (lC d)) (nF d) 0 (aL Z)/\KU (dD (lC d)) (lC d).1 M (λF W=>Ca
 (aK (oT d) W (nF d) 0 (aL Z)) (aK (oT d) W (nF d) 0 (aL Z)) (λP=>aA (cL (oT d) (dL Z) 65 1 P) (lL P) (eA P/\jW (λs4 X=>gK (oT d) X (dL Z) s4 65 1 (dP P (aL F))->gT (λY E3=>aA (sL X (nF d) (fA Y E3 0)) (0<Y.size) (∀(a4:MH),bJ X a4 (nF d) (iC (dW s4) 1 Y) E3->∃(C:Nat×Nat×Sl×Sl×MH×PH),aA (I2 C) (a2 C<a2 d) (aA (cA (nF d) (nF C)) (tF (lC d) (lC C)) (aA (aW (oS d) (oS C)) (bN (oS d) (oS C)) (aA (iH (bE d.1 1)=bP C.1) (bO a4 (iW (lC C))) (kY (cF W (iW (lC C))))))))))))))))) (I1 (k+1) (oT d) (dD (lC d))))))))))) (λd I1=>FV f I1 d b5 K)))))))))))))))))))
def ccZ(on:cu)(ls:List ct):=2<=ls.length/\∃w c,iV w (ls.getD 0 [])/\iV c (ls.getD 1 [])/\jY w (jG on)/\jY c (eG on)
def Mx(q:Query)(ls:List ct):=match q with|.mk _ _ _ _ on _ _ _ _=>ccZ on ls
def agree on x y:=fG (pick x (jG on)) (pick y (eG on))==0
def SF(q:Query)(ls:List ct):=match q with|.mk _ _ _ _ on _ _ _ _=>(ls.getD 0 []).filter λx=>(ls.getD 1 []).any λy=>agree on x y
theorem Fb{on x y}:agree on x y=true↔pick x (jG on)=pick y (eG on):=by
 simp only[agree,beq_iff_eq,lG]
theorem Ks{r cols}(c:OS r)(d:jY r.length cols):∀v∈pick r cols,Zb v:=λv e=>c.val v (Qo d e)
theorem CX{κ}(c:ayQ κ){on x y}(hx:OS x)(d:OS y)(e:jY x.length (jG on))(f:jY y.length (eG on)):κ (pick x (jG on))=κ (pick y (eG on))↔agree on x y=true:=by
 rw[Fb];exact c.inj (by simp[pick,jG,eG]) (Ks hx e) (Ks d f)
structure Start(m m7:MH)(sa sb:Sl)(T:TypeId)(b1 b2 y b7:Nat):Prop where
 sub:Sub m m7
 a_:m7 b1=some (.cells #[.slice sa.a sa.len sa.cap] 36 (0,0))
 b_:m7 b2=some (.cells #[.slice sb.a sb.len sb.cap] 36 (0,0))
 y_:m7 y=some (.map #[] 0)
 c_:m7 b7=some (.cells #[.map (some y)] T (0,0))
 ya:b1≠y
 yb:b2≠y
 yc:b7≠y
 free:m y=none
theorem Wx{S U T}{Q:Nat->Nat->Nat->Nat->MH->Prop}(hK:∀c d y n P,Start m P S U T c d y n->Q c d y n P):
 ∀(c:Nat)(Z:MH),cW m h c->lI m Z c (.cells #[pF] 36 (0,0))->∀(d:Nat)(m2:MH),cW Z h d->lI Z m2 d (.cells #[pF] 36 (0,0))->
  ∃(cs:Array Value)(E:TypeId),sL m2 c (.cells cs E (0,0))/\0<cs.size/\∀V:MH,lI m2 V c (.cells (Array.mk (dW S::cs.toList.drop 1)) E (0,0))->
  ∃(cs:Array Value)(E:TypeId),sL V d (.cells cs E (0,0))/\0<cs.size/\∀F:MH,lI V F d (.cells (Array.mk (dW U::cs.toList.drop 1)) E (0,0))->
  ∀(y:Nat)(R:MH),cW F h y->lI F R y (.map (Array.mk []) 0)->∀(n:Nat)(m6:MH),cW R h n->lI R m6 n (.cells (Array.mk [.map none]) T (0,0))->
  ∃(cs:Array Value)(E:TypeId),sL m6 n (.cells cs E (0,0))/\0<cs.size/\∀P:MH,lI m6 P n (.cells (Array.mk (.map (some y)::cs.toList.drop 1)) E (0,0))->Q c d y n P:=by
 intro c Z a' G d m2 W H;obtain⟨s1,n1⟩:=jB (Sub.refl m) a' G;obtain⟨s2,n2⟩:=jB s1 W H;have I:c≠d:=λe=>by have:=W.m_;rw[<-e,G.at_]at this;cases this
 refine⟨_,_,⟨by rw[H.other c I];exact G.at_⟩,ay,λV J=>?_⟩;have s3:Sub m V:=s2.upd n1 J.other;refine⟨_,_,⟨by rw[J.other d (Ne.symm I)];exact H.at_⟩,ay,λF L y R X u n m6 Y g=>?_⟩;have s4:Sub m F:=s3.upd n2 L.other;have M:F c=some (.cells #[.slice S.a S.len S.cap] 36 (0,0)):=by rw[L.other c I];exact J.at_
 have O:F d=some (.cells #[.slice U.a U.len U.cap] 36 (0,0)):=L.at_;obtain⟨s5,ny⟩:=jB s4 X u;obtain⟨s6,n7⟩:=jB s5 Y g;have A:∀{z o},F z=some o->z≠y:=fun{z o} e e2=>by rw[e2,X.m_]at e;cases e
 have f:∀{z o},R z=some o->z≠n:=fun{z o} e e2=>by rw[e2,Y.m_]at e;cases e
 have B:=M;rw[<-u.other c (A M)]at B;have C:=O;rw[<-u.other d (A O)]at C;have D:R y=some (.map #[] 0):=u.at_;refine⟨_,_,⟨g.at_⟩,ay,λP j=>hK _ _ _ _ _ ⟨s6.upd n7 j.other,?_,?_,?_,j.at_,A M,A O,Ne.symm (f D),ny⟩⟩
 .rw[j.other c (f B),g.other c (f B)];exact B
 .rw[j.other d (f C),g.other d (f C)];exact C
 .rw[j.other y (f D),g.other y (f D)];exact D
theorem Z4:cm 218 (Wj Mx SF):=by
 refine Jr func218 ?_;rintro c8 m h K ⟨v,t,q,bs,ls,rfl,hq,ha,hT,a9,hK⟩;refine⟨VO [(246,NI),(248,b3J)] [] [] [200005,200006,200007,200009,1058,400000,0],rfl,aE Ro (aE GC aH),M9 v t m h (cR h K),ax,?_⟩;show M9 v t m h (cR h K);dsimp only[M9,push_cast];obtain⟨op,ta,w,co,on,gr,od,li,args⟩:=q;obtain⟨h2,wa,wb,f,d,b',L⟩:=a9;refine⟨v.on,on,rfl,hq.parts.on_,λsa sb M C b0 b3=>Wx λb1 b2 y Y m7 D=>?_⟩;obtain⟨b,b4,x,ea,c9,rd,sq⟩:=ha.get (G4 (i:=1) aC);obtain⟨b6,Z,x6,b5,c7,b8,a'⟩:=ha.get (G4 (i:=0) aC);obtain⟨a0,O,E⟩:=(sq.mono C).ex;obtain⟨us,a1,P⟩:=(a'.mono C).ex;simp only[SF]at hK;generalize ls.getD 1 []=Q at E d hK sq;generalize ls.getD 0 []=l at P f hK a';have c':=P.len;have d':=f.len;have a2:=E.len;have s7:=D.sub;have ny:=D.free;refine⟨b,b4,ea,aC,aC,x,.imm (rd.mono C),AT,a0,λk I J=>J=M/\(∀z o,m7 z=some o->z≠y->I z=some o)/\sC I y ((Q.take k).map λz=>fN (pick z (eG on))),Al,⟨x,a0,rfl,O,rfl⟩,⟨rfl,λz o e _=>e,bk (sC.new D.y_)⟩,?_,?_⟩
 .rintro k e I J hk-⟨rfl,R,F⟩
  obtain⟨r,X,hv⟩:=E.at' hk;have n:=bo X;have S:aK I J Y 0 [Value.map (some y)]:=.of_m (R Y _ D.c_ D.yc) rfl;have rb:aK I J b2 0 [dW sb]:=.of_m (R b2 _ D.b_ D.yb) rfl;refine⟨y,S,sb,rb,S,e,sb,r,eG on,rfl,hv,b3,d.row r n,by rw[d.wid r n];exact L,hT.sub (λz o A=>R z o (s7 z o A) (λe3=>bg)),S,F.put (λm' T a3=>⟨rfl,λz o A c0=>by rw[T.other z c0];grind,?_⟩)⟩;obtain⟨kk,h5,h6⟩:=a3.ex;exact⟨kk,h5,λq=>by rw[h6,cd,X];grind⟩
 .rintro I J-⟨rfl,R,F⟩ b9 m5 a4 G;rw[a2,take_length]at F;have s5:Sub m I:=λz o A=>R z o (s7 z o A) (λe3=>bg);obtain⟨s6,n7⟩:=jB s5 a4 G
  have a5:∀{z o},I z=some o->m5 z=some o/\z≠b9:=fun{z o} A=>by
   have:z≠b9:=λe3=>by rw[e3,a4.m_]at A;cases A
   exact⟨by rw[G.other z this];exact A,this⟩
  obtain⟨c1,na⟩:=a5 (R b1 _ D.a_ D.ya);obtain⟨c2,nc⟩:=a5 (R Y _ D.c_ D.yc)
  have y7:y≠b9:=by
   obtain⟨kk,⟨es,c,M,_⟩,_⟩:=F.ex
   grind
  have a6:=F.keep (G.other y y7);refine⟨b6,Z,b5,aC,aC,x6,.imm (b8.mono C),AT,us,λk U hy=>hy=J/\Ff m5 U b9/\∃u,sD m5 U b9 u/\u.length<=k/\fE J u ((l.take k).filter λz=>Q.any λy=>agree on z y),Al,⟨x6,us,rfl,a1,rfl⟩,⟨rfl,λz o e _=>e,[],sD.new G.at_,ay,bk (fE.nil J)⟩,?_,?_⟩
  .rintro k e U hy hk-⟨rfl,g,u,B,c3,H⟩
   obtain⟨r,X,hv⟩:=P.at' hk;have d0:=(bm hk);have n:=bo X;have S:aK U hy Y 0 [Value.map (some y)]:=.of_m (g Y _ c2 nc) rfl;have r3:aK U hy b1 0 [dW sa]:=.of_m (g b1 _ c1 na) rfl
   have a7:sC U y (Q.map λz=>fN (pick z (eG on))):=by
    obtain⟨kk,⟨es,c,M,h2,h3,h4⟩,h5⟩:=a6.ex;exact⟨kk,⟨es,c,g y _ M y7,h2,h3,h4⟩,h5⟩
   have V:jY r.length (jG on):=by rw[f.wid r n];exact b'
   have key:∀t:Bool,(t=true↔fN (pick r (jG on))∈Q.map λz=>fN (pick z (eG on)))->t=Q.any λy=>agree on r y:=λt ht=>by
    have M:(fN (pick r (jG on))∈Q.map λz=>fN (pick z (eG on)))↔(Q.any λy=>agree on r y)=true:=by
     rw[mem_map,any_eq_true];constructor
     .rintro⟨z,W,A⟩;exact⟨z,W,(CX QU (f.row r n) (d.row z W) V (by rw[d.wid z W];exact L)).1 A.symm⟩
     .rintro⟨z,W,A⟩;exact⟨z,W,((CX QU (f.row r n) (d.row z W) V (by rw[d.wid z W];exact L)).2 A).symm⟩
    grind
   refine⟨y,S,sa,r3,S,e,sa,r,jG on,rfl,hv,b0,f.row r n,V,hT.sub (s6.x n7 g),S,r3,a7.get (K:=λt=>branch t _ _) (λt ht=>?_)⟩;have e3:=key t ht;refine aD (λM=>?_) (λM=>?_)
   .refine sD.app ⟨_,G.at_⟩ g B aC (λm' T c4=>⟨rfl,T,u++[e],c4,bf,?_⟩);rw[jS _ X,if_pos bg];exact H.snoc hv
   .refine⟨rfl,g,u,B,aC,?_⟩;rw[jS _ X,if_neg bg,append_nil];exact H
  .rintro U hy-⟨rfl,g,u,B,c3,H⟩
   rw[c',take_length]at H;obtain⟨s,hb,a8,c5⟩:=B.ex;refine⟨s,.of_m hb rfl,cR.row (s6.x n7 g) C a8 (λj z e=>?_) (λh' le c6=>hK s h' (C.trans le) ((H.mono le).rows c6 bg))⟩;cases A:m z with
   |none=>rfl
   |some o=>have e1:=c5 j z e;rw[s6 z o A]at e1;cases e1
structure nU(m0 m:MH)(y:Nat)(kk:dt)(us:ByteArray->cw):Prop where
 map_:pV m y (kk.map λp=>(Value.string p.1,dW p.2))
 nodup:(kk.map Prod.fst).Nodup
 row:∀p∈kk,cL m p.2 65 1 ((us p.1).map eS)
 fresh:∀p∈kk,∀x i,p.2.a=some ⟨x,i,none⟩->m0 x=none
 apart:∀p∈kk,∀q∈kk,p.1≠q.1->∀x i j,p.2.a=some ⟨x,i,none⟩->q.2.a≠some ⟨x,j,none⟩
 none_:∀k,k∉kk.map Prod.fst->us k=[]
 old:∀x o,m0 x=some o->x≠y->m x=some o
def Dz(kk:dt)(key:ByteArray)(s:Sl):=(s=⟨none,0,0⟩/\key∉kk.map Prod.fst)\/(key,s)∈kk
theorem nU.new{y}(h:m y=some (.map #[] 0)):nU m m y [] λ_=>[]:=⟨⟨#[],0,h,rfl,ay,ay⟩,ay,ay,ay,ay,λ_ _=>rfl,λ_ _ e _=>e⟩
theorem Dz.row{m0 y kk us key s}(g:nU m0 m y kk us)(d:Dz kk key s):cL m s 65 1 ((us key).map eS)/\∀x i,s.a=some ⟨x,i,none⟩->m0 x=none:=by
 rcases d with⟨rfl,f⟩|c
 .rw[g.none_ key f];exact⟨⟨BN [],.inl ⟨rfl,rfl⟩⟩,λx i e=>by cases e⟩
 .exact⟨g.row _ c,g.fresh _ c⟩
theorem nU.keep{m0 y kk us}(g:nU m0 m y kk us)(f:∀x o,m x=some o->m' x=some o):nU m0 m' y kk us:=by
 obtain⟨j,c,d,e,n,u⟩:=g.map_;refine⟨⟨j,c,f _ _ d,e,n,u⟩,g.nodup,λp z=>?_,g.fresh,g.apart,g.none_,λx o d e=>f x o (g.old x o d e)⟩;obtain⟨A,B⟩:=g.row p z;refine⟨A,B.imp id ?_⟩
 grind
def OJ(us:ByteArray->cw)(key:ByteArray)(e:Sl):=λk=>if k=key then us k++[e]else us k
theorem nU.core{m0 U:MH}{y:Nat}{kk A us key s E e}(g:nU m0 m y kk us)(H:∃o,m0 y=some o)(I:Dz kk key s)(F:gK m U s E 65 1 ((us key).map eS++[[dW e]]))(V:pV m' y (A.map λp=>(Value.string p.1,dW p.2)))(u:kD U m' y)(J:(A.map Prod.fst).Nodup)(z:∀p∈A,p=(key,E)\/(p∈kk/\p.1≠key))(G:(key,E)∈A)(L:∀k,k∈kk.map Prod.fst->k∈A.map Prod.fst):nU m0 m' y A (OJ us key e):=by
 obtain⟨oy,H⟩:=H;obtain⟨W,a'⟩:=I.row g;obtain⟨es,c,h1,_⟩:=g.map_;have a0:∀i,s.a≠some ⟨y,i,none⟩:=λi f=>bg
 have X:∀x,m x=none->m0 x=none:=λx M=>by
  cases O:m0 x with
  |none=>rfl
  |some o=>
   by_cases P:x=y
   .grind
   .rw[g.old x o O P]at M;cases M
 have Y:∀x i,E.a=some ⟨x,i,none⟩->m0 x=none:=λx i f=>by
  rcases F.fresh x i f with h|⟨j,h⟩
  .grind
  grind
 have D:∀p∈kk,∀x i,p.2.a=some ⟨x,i,none⟩->∃o,m x=some o:=λp B x i f=>by
  rcases(g.row p B).ex with⟨h,_⟩|⟨b,a1,a2,h,V,_⟩
  .grind
  grind
 have Q:∀p∈kk,p.1≠key->∀x i j,p.2.a=some ⟨x,i,none⟩->s.a≠some ⟨x,j,none⟩:=λp B d x i j f C=>by
  rcases I with⟨rfl,_⟩|I
  .cases C
  .exact g.apart p B _ I d x i j f C
 refine⟨V,J,λp B=>?_,λp B x i f=>?_,λp B q hq d x i j f C=>?_,λk Z=>?_,λx o O d=>?_⟩
 .rcases z p B with rfl|⟨n,d⟩
  .have R:(OJ us key e key).map eS=(us key).map eS++[[dW e]]:=by simp[OJ,eS]
   rw[R];exact cL.keep F.row λb i f=>u.other b (λC=>bg)
  .have R:OJ us key e p.1=us p.1:=if_neg d;rw[R];refine cL.keep (g.row p n) λb i f=>?_;obtain⟨o,ho⟩:=D p n b i f;rw[u.other b (λC=>by rw[C]at f;rw[g.fresh p n y i f]at H;cases H),ho];exact F.other b o ho (λj=>Q p n d b i j f)
 .rcases z p B with rfl|⟨n,_⟩
  .grind
  .exact g.fresh p n x i f
 .have M:∀p∈kk,p.1≠key->∀i j,p.2.a=some ⟨x,i,none⟩->E.a≠some ⟨x,j,none⟩:=λp B d i j f C=>by
   rcases F.fresh x j C with h|⟨j',h⟩
   .grind
   grind
  rcases z p B with rfl|⟨n,a3⟩<;>rcases z q hq with rfl|⟨S,a4⟩
  .exact d rfl
  .grind
  .grind
  .exact g.apart p n q S d x i j f C
 .have T:k≠key:=λf=>Z (mem_map.2 ⟨_,G,f.symm⟩);simp only[OJ,if_neg T];exact g.none_ k λh=>Z (L k h)
 .rw[u.other x d];exact F.other x o (g.old x o O d) (λi f=>bg)
theorem nU.put{m0 B y kk us key s u e}{Q:MH->Prop}(g:nU m0 m y kk us)(C:∃o,m0 y=some o)(D:Dz kk key s)(E:gK m B s u 65 1 ((us key).map eS++[[dW e]]))(L:∀m' F,nU m0 m' y F (OJ us key e)->Q m'):
 ∃(j:da)(Ok:Value->Prop),pV B y j/\KeyLaw Tryz.prog 9 Ok/\Ok (.string key)/\Instr.sameBits 10000 (Value.string key) (Value.string key)=true/\(∀e,List.Mem e j->Ok e.1)/\((∀e,List.Mem e j->e.1=Value.string key->False)->∀m':MH,kD B m' y->pV m' y (j++[(Value.string key,dW u)])->Q m')/\
  ∀(G:da)(M:Value)(H:da),j=G++(Value.string key,M)::H->∀m':MH,kD B m' y->pV m' y (G++(Value.string key,dW u)::H)->Q m':=by
 have I:∀i,s.a≠some ⟨y,i,none⟩:=λi n=>by
  obtain⟨o,O⟩:=C;rw[(D.row g).2 y i n]at O;cases O
 obtain⟨S,c,T,U,V,W⟩:=g.map_;refine⟨kk.map λp=>(Value.string p.1,dW p.2),_,⟨S,c,E.other _ _ T I,U,V,W⟩,C7,⟨key,rfl⟩,WE key,λe X=>?_,λY m' d J=>?_,λG M H Z m' d J=>?_⟩
 .obtain⟨k,_,rfl⟩:=mem_map.1 (show e∈_ from X)
  grind
 .have a':key∉kk.map Prod.fst:=λh=>by
   obtain⟨p,hp,n⟩:=mem_map.1 h;subst n;exact Y _ (mem_map_of_mem (f:=λp:ByteArray×Sl=>(Value.string p.1,dW p.2)) hp) rfl
  refine L m' (kk++[(key,u)]) (g.core C D E bg d ?_ ?_ ay (λk hk=>bg))
  .rw[bu,nodup_append];refine⟨g.nodup,ay,λa ha b hb n=>?_⟩
   grind
  grind
 .obtain⟨k1,a0,e1,n,e3⟩:=map_eq_append_iff.1 Z;obtain⟨p,k2,e4,P,e6⟩:=map_eq_cons_iff.1 e3;subst e1 e4 n e6;simp only[Prod.mk.injEq,Value.string.injEq]at P;have z:=g.nodup;rw[bu,map_cons,P.1]at z;have A:=nodup_append.1 z;have R:=nodup_cons.1 A.2.1;refine L m' (k1++(key,u)::k2) (g.core C D E bg d bg ?_ ay (λk hk=>bg))
  grind
theorem nU.app{m0:MH}{hx:PH}{y c T kk us key s e}{Q:MH->Prop}(g:nU m0 m y kk us)(D:∃o,m0 y=some o)(E:∃o,m0 c=some o)(F:m c=some (.cells #[.map (some y)] T (0,0)))(J:(us key).length<=502633886983)(G:∀m' u,nU m0 m' y u (OJ us key e)->Q m')(z:Dz kk key s):
 ∃xs:List cr,cL m (Sl.mk s.a s.len s.cap) 65 1 xs/\(xs.length+1)*24<=140737488355328/\xs.length<140737488355328/\∀(n:Sl)(f:MH),gK m f (Sl.mk s.a s.len s.cap) n 65 1 (xs++[[dW e]])->
  aK f hx c 0 [Value.map (some y)]/\aK f hx c 0 [Value.map (some y)]/\
 ∃(d:da)(Ok:Value->Prop),pV f y d/\KeyLaw Tryz.prog 9 Ok/\Ok (.string key)/\Instr.sameBits 10000 (Value.string key) (Value.string key)=true/\(∀e,List.Mem e d->Ok e.1)/\((∀e,List.Mem e d->e.1=Value.string key->False)->∀m':MH,kD f m' y->pV m' y (d++[(Value.string key,dW n)])->Q m')/\
  ∀(A:da)(H:Value)(B:da),d=A++(Value.string key,H)::B->∀m':MH,kD f m' y->pV m' y (A++(Value.string key,dW n)::B)->Q m':=by
 obtain⟨j,I⟩:=z.row g;refine⟨_,j,bf,bf,λn f C=>?_⟩
 have r:aK f hx c 0 [Value.map (some y)]:=.of_m (C.other c _ F λi L=>by
  grind) rfl
 exact⟨r,r,g.put D z C G⟩
theorem nU.get2{m0 y kk us key K0}{K:Sl->Prop}(g:nU m0 m y kk us)(n:Dz kk key ⟨none,0,0⟩->K0)(o:∀s,Dz kk key s->K s):
 ∃(d:List (Value×Sl))(Ok:Value->Prop),uX m y (d.map λp=>(p.1,dW p.2))/\KeyLaw Tryz.prog 9 Ok/\Ok (.string key)/\(∀e,List.Mem e d->Ok e.1)/\((∀e,List.Mem e d->e.1=Value.string key->False)->K0)/\∀t,List.Mem (Value.string key,t) d->K t:=by
 obtain⟨u,c,z,A,_,_⟩:=g.map_;refine⟨kk.map λp=>(.string p.1,p.2),_,⟨u,c,z,by rw[A];simp⟩,C7,⟨key,rfl⟩,λe B=>?_,λC=>n (.inl ⟨rfl,λh=>?_⟩),λt D=>o t (.inr ?_)⟩
 .obtain⟨k,_,rfl⟩:=mem_map.1 (show e∈_ from B)
  grind
 .obtain⟨p,j,e⟩:=mem_map.1 h;subst e;exact C (.string p.1,p.2) (mem_map_of_mem (f:=λp:ByteArray×Sl=>(Value.string p.1,p.2)) j) rfl
 .obtain⟨p,j,e⟩:=mem_map.1 (show(Value.string key,t)∈_ from D)
  grind
structure NM(m0 m:MH)(h:PH)(y:Nat)(f:ByteArray->ct):Prop where
 ex:∃kk us,nU m0 m y kk us/\∀k,fE h (us k) (f k)
theorem NM.upd{m0 y kk us}{f:ByteArray->ct}{c key e r}(g:nU m0 m' y kk (OJ us key e))(j:∀k,fE h (us k) (f k))(n:bQ h e r)(o:c key=f key++[r])(u:∀k,k≠key->c k=f k):NM m0 m' h y c:=by
 refine⟨kk,_,g,λk=>?_⟩;by_cases d:k=key
 .subst d;rw[o];have:OJ us k e k=us k++[e]:=if_pos rfl;rw[this];exact(j k).snoc n
 .rw[u k d];have:OJ us key e k=us k:=if_neg d
  grind
def wP cols r:=(pick r cols).all pW
def kQ(on:cu)(b:ct)(x:cz):=
 if wP (jG on) x then(b.filter λy=>wP (eG on) y&&agree on x y).map (x++ ·)else[]
def Xe(q:Query)(ls:List ct):=match q with|.mk _ _ _ _ on _ _ _ _=>(ls.getD 0 []).flatMap (kQ on (ls.getD 1 []))
def MA(q:Query)(ls:List ct):=match q with|.mk _ _ _ _ on _ _ _ _=>ccZ on ls/\(ls.getD 0 []).length*(ls.getD 1 []).length<=8000000
theorem vE{α β:Type}{f:α->List β}{n:Nat}:∀{l:List α},(∀x∈l,(f x).length<=n)->(l.flatMap f).length<=l.length*n
 |[],_=>ay
 |a::l,h=>by
  have d:=h a (mem_cons_self ..);have e:=vE (l:=l) λx c=>h x (mem_cons_of_mem _ c);simp only[flatMap_cons,br,ci,Nat.add_mul,Nat.one_mul];omega
theorem tK{α β}{l:List α}{k x}(f:α->List β)(hx:l[k]? =some x):(l.take (k+1)).flatMap f=(l.take k).flatMap f++f x:=by
 rw[cd,hx];simp
theorem yW{on b x}:(kQ on b x).length<=b.length:=by
 unfold kQ;grind
def under(κ:cz->ByteArray)(cols:cn)(l:ct)(key:ByteArray):=l.filter λz=>wP cols z&&decide (κ (pick z cols)=key)
theorem AH{κ cols}{l:ct}{k r}(c:l[k]? =some r) key:under κ cols (l.take (k+1)) key=under κ cols (l.take k) key++(if wP cols r&&decide (κ (pick r cols)=key)then[r]else[]):=jS _ c
theorem Z5:cm 217 (Wj MA Xe):=by
 refine Jr func217 ?_;rintro f4 m h K ⟨v,t,q,bs,ls,rfl,hq,ha,hT,d9,hK⟩;refine⟨bGQ,rfl,aE Ro (aE GC (aE ZT (aE Rv aH))),Na v t m h (cR h K),ax,?_⟩;show Na v t m h (cR h K);dsimp only[Na,push_cast];obtain⟨op,ta,w,co,on,gr,od,li,args⟩:=q;obtain⟨⟨h2,wa,wb,F,d,e',c4⟩,c5⟩:=d9;refine⟨v.on,on,rfl,hq.parts.on_,λsa sb h1 R c6 c7=>Wx λb1 b2 y b7 m7 S=>?_⟩;obtain⟨b,e0,x,ea,f5,rd,sq⟩:=ha.get (G4 (i:=1) aC);obtain⟨b6,c8,x6,e4,f1,e5,c9⟩:=ha.get (G4 (i:=0) aC);obtain⟨d',b4,a'⟩:=(sq.mono R).ex;obtain⟨us,d0,b5⟩:=(c9.mono R).ex;simp only[Xe]at hK;generalize ls.getD 1 []=C at a' d hK sq c5;generalize ls.getD 0 []=l at b5 F hK c9 c5;have e6:=b5.len;have f6:=F.len;have f2:=d.len;have d1:=a'.len;have s7:=S.sub;have ny:=S.free;have b3:∀{Y kk us},nU m7 Y y kk us->Sub m Y:=λg z o D=>g.old z o (s7 z o D) (λe3=>bg);refine⟨b,e0,ea,aC,aC,x,.imm (rd.mono R),AT,d',λk Y hx=>hx=h1/\NM m7 Y h1 y (under fN (eG on) (C.take k)),Al,⟨x,d',rfl,b4,rfl⟩,⟨rfl,⟨[],_,nU.new S.y_,λk=>by simpa[under]using fE.nil h1⟩⟩,?_,?_⟩
 .rintro k e Y hx hk-⟨rfl,⟨kk,uk,g,hg⟩⟩
  obtain⟨r,hr,hv⟩:=a'.at' hk;have L:=bo hr;have T:jY r.length (eG on):=by rw[d.wid r L];exact c4
  have mc:=g.old b7 _ S.c_ S.yc;have E:aK Y hx b7 0 [Value.map (some y)]:=.of_m mc rfl;have rb:aK Y hx b2 0 [dW sb]:=.of_m (g.old b2 _ S.b_ S.yb) rfl;refine⟨sb,rb,e,sb,r,eG on,rfl,hv,c7,T,aD (λc=>?_) (λc=>?_)⟩
  .have hl:(uk (fN (pick r (eG on)))).length<=502633886983:=by
    have h5:=(hg (fN (pick r (eG on)))).len;have h6:(under fN (eG on) (C.take k) (fN (pick r (eG on)))).length<=(C.take k).length:=length_filter_le _ _
    grind
   have app:=fun{s:Sl}=>g.app (hx:=hx) (e:=e) (s:=s) (Q:=λm'=>hx=hx/\NM m7 m' hx y (under fN (eG on) (C.take (k+1)))) ⟨_,S.y_⟩ ⟨_,S.c_⟩ mc hl (λm' f7 g'=>⟨rfl,NM.upd g' hg hv (by rw[AH hr,if_pos];simpa[wP]using c) (λk2 f8=>by rw[AH hr,if_neg,append_nil];grind)⟩);exact⟨sb,rb,e,sb,r,eG on,rfl,hv,c7,d.row r L,T,hT.sub (b3 g),y,E,y,E,⟨E,g.get2 (λU=>⟨E,E,E,E,app U⟩) (λs U=>⟨E,E,E,E,app U⟩)⟩,E,E,E,g.get2 (λU=>⟨E,E,app U⟩) (λs U=>⟨E,E,app U⟩)⟩
  .refine⟨rfl,⟨kk,uk,g,λk2=>?_⟩⟩;rw[AH hr,if_neg,append_nil]
   .exact hg k2
   .simp[wP,c]
 .rintro Y hx-⟨rfl,gr⟩ Z m5 d2 a0;rw[d1,take_length]at gr
  have V:∀{z o},Y z=some o->m5 z=some o/\z≠Z:=fun{z o} D=>by
   have:z≠Z:=λe3=>by rw[e3,d2.m_]at D;cases D
   exact⟨by rw[a0.other z this];exact D,this⟩
  have s5:Sub m Y:=by
   obtain⟨kk,uk,g,_⟩:=gr.ex;exact b3 g
  obtain⟨s6,n7⟩:=jB s5 d2 a0;obtain⟨kk,uk,g,hg⟩:=gr.ex;refine⟨b6,c8,e4,aC,aC,x6,.imm (e5.mono R),AT,us,λk my hy=>PH.le hx hy/\Ff m5 my Z/\∃M,sD m5 my Z M/\fE hy M ((l.take k).flatMap (kQ on C)),Al,⟨x6,us,rfl,d0,rfl⟩,⟨.refl _,λz o e _=>e,[],sD.new a0.at_,bk (fE.nil hx)⟩,?_,?_⟩
  .rintro k e my hy hk-⟨le,O,M,J,a6⟩
   obtain⟨r,hr,hv⟩:=b5.at' hk;have f9:=(bm hk);have L:=bo hr;have d3:∀z o,Y z=some o->my z=some o:=λz o D=>O z o (V D).1 (V D).2;have g7:=g.keep d3;have E:aK my hy b7 0 [Value.map (some y)]:=.of_m (g7.old b7 _ S.c_ S.yc) rfl;have r3:aK my hy b1 0 [dW sa]:=.of_m (g7.old b1 _ S.a_ S.ya) rfl;have T:jY r.length (jG on):=by rw[F.wid r L];exact e'
   have c':=bQ.mono hv le;refine⟨sa,r3,e,sa,r,jG on,rfl,c',c6.mono le,T,aD (λc=>?_) (λc=>?_)⟩
   .refine⟨le,O,M,J,?_⟩;have:kQ on C r=[]:=if_neg (by simpa[wP]using c);rw[tK _ hr,this,append_nil];exact a6
   .have c:(pick r (jG on)).all pW=true:=bg
    have e9:under fN (eG on) C (fN (pick r (jG on)))=C.filter λy=>wP (eG on) y&&agree on r y:=by
     refine filter_congr λz hz=>?_;congr 1;have h5:=CX QU (F.row r L) (d.row z hz) T (by rw[d.wid z hz];exact c4)
     grind
    have a7:kQ on C r=(under fN (eG on) C (fN (pick r (jG on)))).map (r++ ·):=by rw[e9];exact if_pos (by simpa[wP]using c)
    have d4:((l.take k).flatMap (kQ on C)).length+(under fN (eG on) C (fN (pick r (jG on)))).length<=8000000:=by
     have h5:((l.take (k+1)).flatMap (kQ on C)).length<=(l.take (k+1)).length*C.length:=vE λx _=>yW;rw[tK _ hr,br,a7,length_map]at h5;have h6:(l.take (k+1)).length*C.length<=l.length*C.length:=Nat.mul_le_mul_right _ bg;omega
    have f3:∀s,Dz kk (fN (pick r (jG on))) s->cL Y s 65 1 ((uk (fN (pick r (jG on)))).map eS):=λs U=>(U.row g).1;generalize hG:under fN (eG on) C (fN (pick r (jG on)))=G at a7 d4;have a8:=hg (fN (pick r (jG on)));rw[hG]at a8;have d5:=a8.len;refine⟨y,E,sa,r3,E,e,sa,r,jG on,rfl,c',c6.mono le,F.row r L,T,hT.sub (s6.x n7 O),E,r3,g7.get2 (λU=>?_) (λs U=>?_)⟩
    .refine⟨λz=>z.1<=G.length/\z.2.1=Z/\z.2.2.1=e/\z.2.2.2.1=(⟨none,0,0⟩:Sl)/\PH.le hy z.2.2.2.2.2/\Ff m5 z.2.2.2.2.1 Z/\∃n,sD m5 z.2.2.2.2.1 Z n/\fE z.2.2.2.2.2 n ((l.take k).flatMap (kQ on C)++(G.take z.1).map (r++ ·)),λz=>G.length-z.1,⟨(0,Z,e,(⟨none,0,0⟩:Sl),my,hy),⟨ay,rfl,rfl,rfl,.refl _,O,M,J,bg⟩,MT⟩,?_⟩;rintro⟨i,bb,ee,gg,mz,hz⟩ ⟨hi,e1,D,e3,H,I,n,f,W⟩;dsimp only at hi e1 D e3 H I f W;subst e1 D e3;have gz:=g.keep (λz o D=>I z o (V D).1 (V D).2);have A:=(U.row gz).1;have c0:=A.slen;rw[length_map,d5]at c0;refine aF (λa1=>?_) (λc1=>?_)
     .dsimp only at a1⊢
      have a9:i<G.length:=by omega
      obtain⟨u,hu,d6⟩:=a8.at_ i _ (bn a9);obtain⟨b8,e8,f'⟩:=A.rd (h:=hz) (i:=i) (e:=[dW u]) aC;obtain⟨so,a2,P,a3⟩:=f.ex;have B:∀hh,aK mz hh bb 0 [dW so]:=λhh=>.of_m a2 rfl;have a4:=W.len;simp only[br,length_map,length_take]at a4;refine⟨b8,0,e8,aC,aC,u,aC,so,B _,B _,B _,λs2 h3 X b'=>⟨s2,[r,G[i]],rfl,?_,ay,?_,λsl h4 b0 d7=>⟨B _,B _,Kv ⟨_,a0.at_⟩ I a2 P a3 aC (λm' c2 c3=>⟨(i+1,bb,ee,⟨none,0,0⟩,m',h4),⟨aC,rfl,rfl,rfl,H.trans (X.trans b0),c2,n++[sl],c3,?_⟩,aC,?_⟩)⟩⟩⟩
      .omega
      .omega
      .omega
      omega
     .dsimp only at c1⊢
      have:i=G.length:=bg
      subst this;refine⟨le.trans H,I,n,f,?_⟩;rw[tK _ hr,a7]
      grind
    .refine⟨λz=>z.1<=G.length/\z.2.1=Z/\z.2.2.1=e/\z.2.2.2.1=s/\PH.le hy z.2.2.2.2.2/\Ff m5 z.2.2.2.2.1 Z/\∃n,sD m5 z.2.2.2.2.1 Z n/\fE z.2.2.2.2.2 n ((l.take k).flatMap (kQ on C)++(G.take z.1).map (r++ ·)),λz=>G.length-z.1,⟨(0,Z,e,s,my,hy),⟨ay,rfl,rfl,rfl,.refl _,O,M,J,bg⟩,MT⟩,?_⟩;rintro⟨i,bb,ee,gg,mz,hz⟩ ⟨hi,e1,D,e3,H,I,n,f,W⟩;dsimp only at hi e1 D e3 H I f W;subst e1 D e3;have gz:=g.keep (λz o D=>I z o (V D).1 (V D).2);have A:=(U.row gz).1;have c0:=A.slen;rw[length_map,d5]at c0;refine aF (λa1=>?_) (λc1=>?_)
     .dsimp only at a1⊢
      have a9:i<G.length:=by omega
      obtain⟨u,hu,d6⟩:=a8.at_ i _ (bn a9);obtain⟨b8,e8,f'⟩:=A.rd (h:=hz) (i:=i) (e:=[dW u]) (by rw[getElem?_map,hu];rfl);obtain⟨so,a2,P,a3⟩:=f.ex;have B:∀hh,aK mz hh bb 0 [dW so]:=λhh=>.of_m a2 rfl;have a4:=W.len;simp only[br,length_map,length_take]at a4;refine⟨b8,0,e8,aC,aC,u,bg,so,B _,B _,B _,λs2 h3 X b'=>⟨s2,[r,G[i]],rfl,?_,ay,?_,λsl h4 b0 d7=>⟨B _,B _,Kv ⟨_,a0.at_⟩ I a2 P a3 aC (λm' c2 c3=>⟨(i+1,bb,ee,gg,m',h4),⟨aC,rfl,rfl,rfl,H.trans (X.trans b0),c2,n++[sl],c3,?_⟩,aC,?_⟩)⟩⟩⟩
      .refine fE.rows (us:=[ee,u]) ?_ b' ay;refine⟨rfl,λj z hj=>?_⟩
       match j,hj with
       |0,hj=>
        simp at hj;subst hj;exact⟨ee,rfl,bQ.mono c' (H.trans X)⟩
       |1,hj=>
        simp at hj;subst hj;exact⟨u,rfl,bQ.mono d6 (le.trans (H.trans X))⟩
      .intro z a5;have a5:z∈[r,G[i]]:=a5;rcases mem_cons.1 a5 with rfl|a5
       .exact(F.row _ L).len
       .have e7:=mem_singleton.1 a5
        have:z∈C:=by
         grind
        exact(d.row _ this).len
      .have e7:(G.take (i+1)).map (r++ ·)=(G.take i).map (r++ ·)++[r++G[i]]:=by rw[cd,bn a9,bu];rfl
       rw[e7, <-append_assoc];exact(W.mono (X.trans b0)).snoc bg
      .dsimp only;exact⟨rfl,rfl,rfl,rfl,by rw[jK aC],rfl,rfl,trivial⟩
     .dsimp only at c1⊢
      have:i=G.length:=by omega
      subst this;refine⟨le.trans H,I,n,f,?_⟩;rw[tK _ hr,a7]
      grind
  .rintro my hy g0 ⟨le,O,M,J,a6⟩;rw[e6,take_length]at a6;obtain⟨s,hb,A,f0⟩:=J.ex;refine⟨s,.of_m hb rfl,cR.row (s6.x n7 O) (R.trans le) A (λj z e=>?_) (λh' d8 b'=>hK s h' (R.trans (le.trans d8)) ((a6.mono d8).rows b' ?_))⟩
   .cases D:m z with
    |none=>rfl
    |some o=>have e1:=f0 j z e;rw[s6 z o D]at e1;cases e1
   .have h5:(l.flatMap (kQ on C)).length<=l.length*C.length:=vE λx _=>yW;omega
noncomputable def bEX:=VO [(248,b3J),(135,bYQ)] [(7,{A:=Nat×Nat×Nat×MH×PH,st:=λ⟨b,c,r,m,h⟩=>bY 35 37 [(2,vv (.pointer (some ⟨b,0,none⟩))),(5,vv (.pointer (some ⟨c,0,none⟩))),(26,vv (.pointer (some ⟨r,0,none⟩)))] [] m h})] [] [200002,200005,1058,400000,0]
abbrev KX(a:MH)(b:Nat)(c:PH)(d:Nat->MH->Prop):=∃(x:da),lD (pV a b x) (λe=>∀(f:MH),bH (cW a c e) (kD a f e) (mR f b e x x->d e f))
abbrev Pp(a:(Nat×Nat×Nat×MH×PH->Prop)->(Nat×Nat×Nat×MH×PH)->Prop)(b:(Nat×Nat×Nat×MH×PH->Prop)->(Nat×Nat×Nat×MH×PH->Nat)->(Nat×Nat×Nat×MH×PH)->Prop):=∃(x:Nat×Nat×Nat×MH×PH->Prop)(d:Nat×Nat×Nat×MH×PH->Nat),(∃(c:Nat×Nat×Nat×MH×PH),a x c)/\∀(c:Nat×Nat×Nat×MH×PH),b x d c
abbrev fZ(a:Nat×Nat×Nat×MH×PH):=a.2.1
abbrev fY(a:Nat×Nat×Nat×MH×PH):=a.2.2.1
abbrev fQ(a:Nat×Nat×Nat×MH×PH):=a.2.2.2
abbrev Zv(a:Nat->da->da->Prop):=∃(x:Nat)(c d:da),a x c d
abbrev KW(a:Prop)(b:Nat->Option Obj)(c:Nat)(d:Prop)(e:MH->Prop):=a->Zv (λx j f=>aA (mR b x c j f) (f=[]->d) (∀(n:da)(o:Value×Value)(u:da),f=n++o::u->∀(g:MH),bH (kD b g c) (Ej g x c j (n++u) o) (e g)))
abbrev lU a:=(fQ a).1
abbrev j9 a:=(fQ a).2
abbrev Lt(a:Nat->da->da->(Value×Value)->Prop):=Zv (λx c d=>∃(e:Value×Value),a x c d e)
attribute [push_cast] KX Pp fZ fY fQ Zv KW lU j9 Lt
def M3(v:QV)(u:Nat)(m:MH)(h:PH)(K:cq):=
  ∀(b:Nat)(V:MH),bH (cW m h b) (bJ m V b v.enc 41) (xN V h (λZ W=>∀(n:Nat)(Q:MH),bH (cW W h n) (bJ W Q n (pD Eu) 160) (gT (λc E=>aA (sL Q n (fA c E 0)) (0<c.size) (∀(X:MH),bJ Q X n (iC (Dj Z) 1 c) E->∃(S:PH->cr->List cr->Prop),xM S h u X (λI k e j d=>I k j d->∃(y:Sl),aK j d b 17 (aL y)/\∃(s:Sl),AL (λt r A=>aA (cD e y=cD s t) (bQ d s r) (aA (Ints d t A) (OS r) (aA (AK r A) (eK j) (∃(f:Nat),aK j d n 0 (oP f)/\∃(D:Nat),aA (dM j d n D) (aK j d n 0 (oP f)/\sX j D (λO=>O (dT r A)) (dT r A) (aA (dM j d n f) (dM j d n D) (aA (dM j d n f) (dM j d n D) (∃(x:List cr),FM j x e (fun
 F z=>aA (dM z d n f) (dM z d n D) (rK z f (λO=>O (dT r A)) (dT r A) (λJ=>∀(g:MH),bH (kD z g f) (pV g f (iK J (dT r A) (dW F) [])) (I (k+1) g d)) (λl G C=>iK l (dT r A) G C) (λl C=>∀(g:MH),bH (kD z g f) (pV g f (iK l (dT r A) (dW F) C)) (I (k+1) g d))))))) (λM=>aA (dM j d n f) (dM j d n D) (aA (dM j d n f) (dM j d n D) (∃(x:List cr),aA (cL j (dL M) 65 1 x) (lL x) (eA x/\jW (λF z=>gK j z (dL M) F 65 1 (dP x (aL e))->aA (dM z d n f) (dM z d n D) (rK z f (λO=>O (dT r A)) (dT r A) (λJ=>∀(g:MH),bH (kD z g f) (pV g f (iK J (dT r A) (dW F) [])) (I (k+1) g d)) (λl G C
 =>iK l (dT r A) G C) (λl C=>∀(g:MH),bH (kD z g f) (pV g f (iK l (dT r A) (dW F) C)) (I (k+1) g d))))))))) (aA (dM j d n f) (dM j d n D) (aK j d n 0 (oP f)/\sX j D (λO=>O (dT r A)) (dT r A) (Ca (dM j d n f) (dM j d n D) (λx=>FM j x e (λF z=>aA (dM z d n f) (dM z d n D) (rK z f (λO=>O (dT r A)) (dT r A) (λJ=>∀(g:MH),bH (kD z g f) (pV g f (iK J (dT r A) (dW F) [])) (I (k+1) g d)) (λl G C=>iK l (dT r A) G C) (λl C=>∀(g:MH),bH (kD z g f) (pV g f (iK l (dT r A) (dW F) C)) (I (k+1) g d)))))) (λM=>Ca (dM j d n f) (dM j d n D) (λx=>aA (cL j (dL M) 65 1 x) (lL x) (eA x/\
 jW (λF z=>gK j z (dL M) F 65 1 (dP x (aL e))->aA (dM z d n f) (dM z d n D) (rK z f (λO=>O (dT r A)) (dT r A) (λJ=>∀(g:MH),bH (kD z g f) (pV g f (iK J (dT r A) (dW F) [])) (I (k+1) g d)) (λl G C=>iK l (dT r A) G C) (λl C=>∀(g:MH),bH (kD z g f) (pV g f (iK l (dT r A) (dW F) C)) (I (k+1) g d)))))))))))))) (λx I=>fD (λj d=>bS h d (I x.length j d) (∃(y:Nat),aK j d n 0 (oP y)/\KX j y d (λr z=>Pp (λI1 B=>aA (I1 B) (cA b B.1) (aA (cA n (fZ B)) (cA r (fY B)) (aA (bO z (fQ B)) (cF d (fQ B)) True))) (λI1 g B=>KW (I1 B) (lU B) (fY B) (∃(f:Nat),aK (lU B) (j9 B) (fZ B) 0 (oP
 f)/\K (CV.val (Dj f)) (lU B) (j9 B)) (λP=>Lt (λb3 k l Y=>Ej P b3 (fY B) k l Y/\∃(s:Sl)(R:Nat)(G:QV)(o:cv)(w:Nat)(p:dl),aA (tN (CV.val Y.2) (mV 264 (B5 B.1))=gO s (mV 264 (B5 R))) (P R=Option.some (fA (Array.mk G.enc) 41 0)) (aA (∀(i:Nat),mW (aR s.a R i)) (jP (j9 B) G.order o) (aA (FL P s p) (∀(H:Sl×cz),List.Mem H p->bQ (j9 B) H.1 H.2) (aA (∀(H:Sl×cz),List.Mem H p->H.2.length=w) (oK p.length) (∀(H:dl)(T:MH),bH (List.Perm H p) (List.Pairwise (fun(p2:Sl×cz)=>fun(q:Sl×cz)=>¬(j5 o q.2 p2.2<0)) H) (bH (FL T s H) (∀(U:Nat),(∀(i:Nat),mW (aR s.a U i))->T U=P U) (∃(L:Nat×Nat×Nat×MH×
 PH),aA (I1 L) (g L<g B) (aA (cA B.1 L.1) (cA (fZ B) (fZ L)) (aA (cA (fY B) (fY L)) (bO T (fQ L)) (eO (fQ B) (fQ L)/\True)))))))))))))))))))))
def mQ(κ:cz->ByteArray)(gr:cn)(l:ct)(k:ByteArray):=l.filter λz=>decide (κ (pick z gr)=k)
def tM(od:cv)(l:ct):=l.Pairwise λa b=>¬j5 od b a<0
structure sF(κ:cz->ByteArray)(m:MH)(h:PH)(y:Nat)(gr:cn)(od:cv)(l:ct)(kk:dt)(g:ByteArray->ct):Prop where
 map_:pV m y (kk.map λp=>(Value.string p.1,dW p.2))
 nodup:(kk.map Prod.fst).Nodup
 rows:∀p∈kk,Rows h p.2 (g p.1)
 none_:∀k,k∉kk.map Prod.fst->g k=[]
 perm:∀k,(g k).Perm (mQ κ gr l k)
 sort:∀k,tM od (g k)
def V8:Vc.Spec:=λc m h K=>∃v u gr od l w,c=[aQ v,.val (.func (.func 214) #[] #[.pointer (some ⟨u,0,none⟩)])]/\Ints h v.group gr/\jP h v.order od/\Su h u l/\iV w l/\jY w gr/\eK m/\
 ∀y d e f g,m y=none->(∀b,b≠y->d b=m b)->PH.le h e->sF fN d e y gr od l f g->K (.val (.map (some y))) d e
structure b5J(m:MH)(h:PH)(od:cv)(p:ByteArray×Sl)(f:ByteArray->ct)(st:Prop):Prop where
 ex:∃ps:dl,cL m p.2 65 1 (ps.map λq=>eS q.1)/\(∀q∈ps,bQ h q.1 q.2)/\(ps.map Prod.snd).Perm (f p.1)/\(st->tM od (ps.map Prod.snd))
noncomputable def leftOf(m:MH)(r:Nat):Nat:=match m r with
 |some (.mapIter (some b) _ c _)=>(match m b with|some (.map d _)=>(d.toList.filter λe=> !c.contains e.born).length|_=>0)
 |_=>0
theorem mR.left_{r d left}(i:mR m b r d left):leftOf m r=left.length:=by
 obtain⟨n,c,e,f,o,g,_,_,_,j,_,_,_,u⟩:=i.ex;simp only[leftOf,j,g]
 grind
theorem mR.mem{r d left}(i:mR m b r d left){x}(hx:x∈left):x∈d:=by
 obtain⟨g,c,e,f,j,n,o,_,_,u,_,_,_,y⟩:=i.ex
 grind
theorem mR.keep{r e left}(i:mR m b r e left)(n:m' b=m b)(o:m' r=m r):mR m' b r e left:=by
 obtain⟨g,c,d,f,j,u,y⟩:=i.ex;exact⟨g,c,d,f,j,bg,bg⟩
theorem mR.nodup{r d left}(i:mR m b r d left)(g:d.Nodup):left.Nodup:=by
 obtain⟨j,c,e,f,n,o,u,_,_,y,_,_,_,z⟩:=i.ex
 grind
theorem cAZ{us rs}(c:fE h us rs):∃ps:dl,ps.map Prod.fst=us/\ps.map Prod.snd=rs/\∀q∈ps,bQ h q.1 q.2:=by
 refine⟨us.zip rs,map_fst_zip (Nat.le_of_eq c.len),map_snd_zip (Nat.le_of_eq c.len.symm),λq e=>?_⟩;obtain⟨i,d⟩:=mem_iff_getElem?.1 e;rw[getElem?_zip_eq_some]at d;obtain⟨u,f,g⟩:=c.at_ i _ d.2
 grind
theorem cL.ice{s}{us:cw}(n:cL m s 65 1 (us.map eS))(F:∀b c,s.a=some ⟨b,0,none⟩->m b=some (.cells c 65 (0,0))->∀i,h b i=c[i]?):dH h s 1 (us.map eS):=by
 rcases n.ex with⟨rfl,f⟩|⟨b,y,c,rfl,G,z,H,I,J⟩
 .rw[f];exact dH.nil _ _
 .refine⟨ay,?_,z⟩;by_cases A:us.map eS=[]
  .exact .inl A
  .refine .inr ⟨b,0,rfl,λi e d=>⟨λj v o=>?_⟩⟩;have B:=n.rows.len e (bo d);have C:j=0:=bg
   subst C;have D:=(bm d)
   have L:((us.map eS).flatten)[i]? =some v:=by
    rw[getElem?_map]at d;cases g:us[i]? with
    |none=>grind
    |some u=>
     rw[g]at d;simp at d;subst d;simp[eS]at o;subst o
     have:∀l:cw,(l.map eS).flatten=l.map λu=>Value.slice u.a u.len u.cap:=λl=>by
      induction l with
      |nil=>rfl
      |cons a l E=>simp only[map_cons,flatten_cons,E];rfl
     grind
   grind
theorem VE{kk:dt}(d:(kk.map Prod.fst).Nodup){p q}(c:p∈kk)(f:q∈kk)(e:p.1=q.1):p=q:=by
 induction kk with
 |nil=>cases c
 |cons a kk g=>
  grind
theorem Ot{κ:cz->ByteArray}{M Q:MH}{E u y r l kk X}(R:Sub m M)(ny:m y=none)(m4y:M y=some (.map #[] 0))(g:nU M Q y kk X)(hg:∀k,fE u (X k) (mQ κ gr l k))(le:PH.le h u)(a0:l.length<=8000000)(S:∀b o,Q b=some o->(∀p∈kk,∀i,p.2.a≠some ⟨b,i,none⟩)->E b=some o)(T:mR E y r (kk.map λp=>(Value.string p.1,dW p.2)) [])(A:∀p∈kk,b5J E u od p (mQ κ gr l) ((Value.string p.1,dW p.2)∉([]:da)))(hK:∀y m2 d kk g,m y=none->(∀b,b≠y->m2 b=m b)->PH.le h d->sF κ m2 d y gr od l kk g->K (.val (.map (some y))) m2 d):cR h K (.val (.map (some y))) E u:=by
 intro hd;have C:∀b o,M b=some o->∀p∈kk,∀i,p.2.a≠some ⟨b,i,none⟩:=λb o e p f i H=>by rw[g.fresh p f b i H]at e;cases e
 have J:Sub m Q:=λz o H=>g.old z o (R z o H) (λe3=>bg)
 classical
 let B:Nat->Prop:=λb=>∃p∈kk,p.2.a=some ⟨b,0,none⟩
 have hB:∀b,B b->m b=none/\b≠y/\∀i,u b i=none:=by
  rintro b ⟨p,f,e⟩;obtain⟨ps,I,_⟩:=(A p f).ex;refine⟨?_,λH=>?_,hd b _ (I.blk e).choose_spec⟩
  .cases H:m b with
   |none=>rfl
   |some o=>exact(C b o (R b o H) p f 0 e).elim
  grind
 let d:PH:=λb i=>if B b then(match E b with|some (.cells cs _ _)=>cs[i]? |_=>none)else u b i
 have F:PH.le u d:=⟨λb i v e=>by
  grind⟩
 have a1:∀p∈kk,∃G,Rows d p.2 G/\G.Perm (mQ κ gr l p.1)/\tM od G:=λp f=>by
  obtain⟨ps,I,Y,Z,L⟩:=(A p f).ex;refine⟨ps.map Prod.snd,?_,Z,L ay⟩;have e5:(ps.map λq=>eS q.1)=(ps.map Prod.fst).map eS:=by rw[map_map];rfl
  rw[e5]at I
  have U:dH d p.2 1 ((ps.map Prod.fst).map eS):=cL.ice I λb a2 ea hm i=>by
   show(if B b then _ else u b i)=_;rw[if_pos ⟨p,f,ea⟩,hm]
  refine fE.rows (us:=ps.map Prod.fst) ⟨ay,λj x O=>?_⟩ U ?_
  .rw[getElem?_map]at O;cases P:ps[j]? with
   |none=>grind
   |some q=>
    rw[P]at O;have O:q.2=x:=bg
    exact⟨q.1,bg,O▸bQ.mono (Y q (bo P)) F⟩
  .have:=Z.length_eq;have h6:(mQ κ gr l p.1).length<=l.length:=length_filter_le _ _;omega
 let G:ByteArray->ct:=λk=>if e:∃p G,p∈kk/\p.1=k/\Rows d p.2 G/\G.Perm (mQ κ gr l p.1)/\tM od G then e.choose_spec.choose else[]
 have hG:∀p∈kk,Rows d p.2 (G p.1)/\(G p.1).Perm (mQ κ gr l p.1)/\tM od (G p.1):=λp f=>by
  have V:∃n G,n∈kk/\n.1=p.1/\Rows d n.2 G/\G.Perm (mQ κ gr l n.1)/\tM od G:=by
   grind
  have P:G p.1=V.choose_spec.choose:=dif_pos V;rw[P];obtain⟨L,h6,h7⟩:=V.choose_spec.choose_spec
  have tr:∀n G',n∈kk->n.1=p.1->(Rows d n.2 G'/\G'.Perm (mQ κ gr l n.1)/\tM od G')->Rows d p.2 G'/\G'.Perm (mQ κ gr l p.1)/\tM od G':=λn G' I d Y=>by
   have e7:=VE g.nodup I f d
   grind
  exact tr _ _ L h6 h7
 have hN:∀k,k∉kk.map Prod.fst->G k=[]/\mQ κ gr l k=[]:=λk D=>by
  refine⟨dif_neg ?_,?_⟩
  .grind
  .have L:=(hg k).len;rw[g.none_ k D]at L
   grind
 obtain⟨es,c,W,a',c0,i1,i2,i3,i4,_⟩:=T.ex;refine⟨λb=>if b=y then E y else m b,d,λb o e=>?_,le.trans F,λb i v' e=>?_,hK y _ d kk G ny (λb hb=>if_neg hb) (le.trans F) ⟨⟨es,c,(if_pos rfl).trans i1,i2,i3,i4⟩,g.nodup,λp f=>(hG p f).1,λk D=>(hN k D).1,λk=>?_,λk=>?_⟩⟩
 .have e:(if b=y then E y else m b)=some o:=e;split at e
  .grind
  .exact S b o (J b o e) (C b o (R b o e))
 .have e:(if B b then _ else u b i)=some v':=e;split at e
  .grind
  grind
 .by_cases D:k∈kk.map Prod.fst
  .obtain⟨p,f,rfl⟩:=mem_map.1 D
   grind
  grind
 .by_cases D:k∈kk.map Prod.fst
  .obtain⟨p,f,rfl⟩:=mem_map.1 D
   grind
  .rw[(hN k D).1];exact List.Pairwise.nil
theorem Oq{κ:cz->ByteArray}{W L M O:MH}{Y:PH}{y r w:Nat}{gr:cn}{od:cv}{l kk uk left Z l2 x}(m4y:W y=some (.map #[] 0))(g:nU W L y kk uk)(P:iV w l)(a5:L r=none)(a6:∀b o,L b=some o->(∀p∈kk,∀i,p.2.a≠some ⟨b,i,none⟩)->M b=some o)(Q:mR M y r (kk.map λp=>(Value.string p.1,dW p.2)) left)(D:∀p∈kk,b5J M Y od p (mQ κ gr l) ((Value.string p.1,dW p.2)∉left))(a':left=Z++x::l2)(C:kD M O r)(a0:Ej O y r (kk.map λp=>(Value.string p.1,dW p.2)) (Z++l2) x):
 ∃(c:ByteArray×Sl)(ps:dl),x=(Value.string c.1,dW c.2)/\(∀b o,W b=some o->b≠y->O b=some o/\∀i,c.2.a≠some ⟨b,i,none⟩)/\cL O c.2 65 1 (ps.map λp:Sl×cz=>eS p.1)/\(∀p∈ps,bQ Y p.1 p.2)/\(∀p∈ps,p.2.length=w)/\ps.length<=l.length/\
  ∀(n:dl)(E:MH),n.Perm ps->n.Pairwise (λp q=>¬j5 od q.2 p.2<0)->cL E c.2 65 1 (n.map λp=>eS p.1)->(∀b,(∀i,c.2.a≠some ⟨b,i,none⟩)->E b=O b)->
   (∀b o,L b=some o->(∀p∈kk,∀i,p.2.a≠some ⟨b,i,none⟩)->E b=some o)/\(∃left,mR E y r (kk.map λp=>(Value.string p.1,dW p.2)) left/\∀p∈kk,b5J E Y od p (mQ κ gr l) ((Value.string p.1,dW p.2)∉left))/\leftOf E r<leftOf M r:=by
 have G:∀p∈kk,∀x i,p.2.a=some ⟨x,i,none⟩->∃o,L x=some o:=λp B x i X=>⟨_,((g.row p B).blk X).choose_spec⟩
 have H:∀{z o},L z=some o->z≠r:=fun{z o} X e3=>bg
 have a1:x∈left:=bg
 obtain⟨c,d,rfl⟩:=mem_map.1 (mR.mem Q a1);obtain⟨ps,h1,h3,h4,h5⟩:=(D c d).ex;have F:∀b o,W b=some o->∀p∈kk,∀i,p.2.a≠some ⟨b,i,none⟩:=λb o e p B i X=>by rw[g.fresh p B b i X]at e;cases e
 have u:∀p∈kk,∀b i,p.2.a=some ⟨b,i,none⟩->b≠r:=λp B b i e=>H (G p B b i e).choose_spec;have R:=h4.length_eq;have a2:(mQ κ gr l c.1).length<=l.length:=length_filter_le _ _;rw[length_map]at R;refine⟨c,ps,rfl,λb o e a3=>⟨?_,F b o e c d⟩,cL.keep h1 λb i e=>C.other b (u c d b i e),h3,λq hq=>?_,aC,λn E A I J f=>?_⟩
 .have mb:=g.old b o e a3;rw[C.other b (H mb)]
  grind
 .have:q.2∈mQ κ gr l c.1:=h4.mem_iff.1 (mem_map_of_mem hq);exact P.wid _ (mem_filter.1 this).1
 .have S:∀i,c.2.a≠some ⟨y,i,none⟩:=F y _ m4y c d;have T:∀i,c.2.a≠some ⟨r,i,none⟩:=λi e=>u c d r i e rfl;have U:mR E y r (kk.map λp=>(Value.string p.1,dW p.2)) (Z++l2):=mR.keep a0.it (f y S) (f r T);refine⟨λb o e hb=>?_,⟨_,U,λp B=>?_⟩,?_⟩
  .rw[f b (hb c d),C.other b (H e)]
   grind
  .by_cases V:p=c
   .subst V;refine⟨n,J,λq hq=>h3 q (A.mem_iff.1 hq),(A.map _).trans h4,λ_=>?_⟩;rw[tM,pairwise_map];exact I
   .have a4:p.1≠c.1:=λe=>V (VE g.nodup B d e);obtain⟨qs,g1,g3,g4,g5⟩:=(D p B).ex;refine⟨qs,cL.keep g1 λb i e=>?_,g3,g4,λhn=>g5 λhl=>hn ?_⟩
    .rw[f b (λj=>g.apart p B c d a4 b i j e),C.other b (u p B b i e)]
    grind
  .rw[mR.left_ U,mR.left_ Q,a'];simp
theorem Rl:cm 252 V8:=by
 refine Jr func252 ?_;rintro c8 m h K ⟨v,u,gr,od,l,w,rfl,b8,b9,sq,d,S,hT,hK⟩;refine⟨bEX,rfl,aE GC (aE Yn aH),M3 v u m h (cR h K),ax,?_⟩;show M3 v u m h (cR h K);dsimp only[M3,push_cast];intro n m1 a3 F y m2 T A P m3 G B;obtain⟨s1,nq⟩:=jB (Sub.refl m) a3 F;obtain⟨s2,ny⟩:=jB s1 T A;obtain⟨s3,nc⟩:=jB s2 G B;have H:n≠y:=λe=>by have:=T.m_;rw[<-e,F.at_]at this;cases this
 have a4:m2 n=some (.cells ⟨QV.enc v⟩ 41 (0,0)):=by rw[A.other n H];exact F.at_
 have a5:n≠P:=λe=>by have:=G.m_;grind
 have I:y≠P:=λe=>by have:=G.m_;rw[<-e,A.at_]at this;cases this
 refine⟨_,_,⟨B.at_⟩,ay,λR C=>?_⟩;have s4:Sub m R:=s3.upd nc C.other;have U:R n=some (.cells ⟨QV.enc v⟩ 41 (0,0)):=by rw[C.other n a5,B.other n a5];exact a4
 have m4y:R y=some (.map #[] 0):=by rw[C.other y I,B.other y I];exact A.at_
 have J:R P=some (.cells #[.map (some y)] 160 (0,0)):=C.at_;obtain⟨us,a6,a7⟩:=sq.ex;have c':=a7.len;have c0:=d.len;clear F A B C a3 T G s1 s2 s3 a4;have a8:∀{j L us},nU R j y L us->Sub m j:=λg z o D=>g.old z o (s4 z o D) (λe3=>bg);refine⟨AT,us,λk j hx=>hx=h/\NM R j h y (mQ fN gr (l.take k)),Al,⟨u,us,rfl,a6,rfl⟩,⟨rfl,⟨[],_,nU.new m4y,λk=>by simpa[mQ]using fE.nil h⟩⟩,?_,?_⟩
 .rintro k e j hx hk-⟨rfl,⟨L,uk,g,hg⟩⟩
  obtain⟨r,hr,hv⟩:=a7.at' hk;have a9:=bo hr;have mc:=g.old P _ J (Ne.symm I);have c:aK j hx P 0 [Value.map (some y)]:=.of_m mc rfl;have rq:aK j hx n 17 [dW v.group]:=.of_m (g.old n _ U H) rfl
  have hl:(uk (fN (pick r gr))).length<=502633886983:=by
   have h5:=(hg (fN (pick r gr))).len;have h6:(mQ fN gr (l.take k) (fN (pick r gr))).length<=(l.take k).length:=length_filter_le _ _
   grind
  have app:=fun{s:Sl}=>g.app (hx:=hx) (e:=e) (s:=s) (Q:=λm'=>hx=hx/\NM R m' hx y (mQ fN gr (l.take (k+1)))) ⟨_,m4y⟩ ⟨_,J⟩ mc hl (λm' c9 g'=>⟨rfl,NM.upd g' hg hv (by rw[mQ,jS _ hr,if_pos ay];rfl) (λk2 d'=>by rw[mQ,jS _ hr,if_neg bg,append_nil];rfl)⟩);exact⟨v.group,rq,e,v.group,r,gr,rfl,hv,b8,d.row r a9,by rw[d.wid r a9];exact S,hT.sub (a8 g),y,c,y,c,⟨c,g.get2 (λV=>⟨c,c,c,c,app V⟩) (λs V=>⟨c,c,c,c,app V⟩)⟩,c,c,c,g.get2 (λV=>⟨c,c,app V⟩) (λs V=>⟨c,c,app V⟩)⟩
 .rintro j hx-⟨rfl,⟨L,uk,g,hg⟩⟩
  rw[c',take_length]at hg;have mc:=g.old P _ J (Ne.symm I);have mq:=g.old n _ U H;refine⟨y,.of_m mc rfl,_,g.map_,λr m5 c1 c2 it=>?_⟩;have c3:j r=none:=c1.m_
  have b':∀{z o},j z=some o->m5 z=j z/\z≠r:=fun{z o} D=>by
   have:z≠r:=λe3=>bg
   exact⟨c2.other z this,this⟩
  have W:∀p∈L,∀x i,p.2.a=some ⟨x,i,none⟩->∃o,j x=some o:=λp X x i D=>⟨_,((g.row p X).blk D).choose_spec⟩
  have c4:(L.map λp=>(Value.string p.1,dW p.2)).Nodup:=by
   have h5:=g.nodup
   grind
  refine⟨λz=>z.1=n/\z.2.1=P/\z.2.2.1=r/\z.2.2.2.2=hx/\(∀b o,j b=some o->(∀p∈L,∀i,p.2.a≠some ⟨b,i,none⟩)->z.2.2.2.1 b=some o)/\∃left,mR z.2.2.2.1 y r (L.map λp=>(Value.string p.1,dW p.2)) left/\∀p∈L,b5J z.2.2.2.1 hx od p (mQ fN gr l) ((Value.string p.1,dW p.2)∉left),λz=>leftOf z.2.2.2.1 z.2.2.1,⟨(n,P,r,m5,hx),⟨rfl,rfl,rfl,rfl,λb o e _=>(b' e).1.trans e,_,it,λp X=>?_⟩,MT⟩,?_⟩
  .obtain⟨ps,e1,D,e3⟩:=cAZ (hg p.1);refine⟨ps,?_,e3,by rw[D],λhn=>(hn (mem_map_of_mem (f:=λp:ByteArray×Sl=>(Value.string p.1,dW p.2)) X)).elim⟩;have e5:(ps.map λq=>eS q.1)=(uk p.1).map eS:=by rw[<-e1,map_map];rfl
   rw[e5];exact cL.keep (g.row p X) λb i e=>(b' (W p X b i e).choose_spec).1
  .rintro⟨b1,b2,b3,mz,hz⟩ ⟨e1,D,e3,e4,M,left,O,E⟩;dsimp only at e1 D e3 e4 M O E⊢
   subst e1 D e3 e4;refine⟨y,_,left,O,λY=>?_,λl1 x l2 c5 m6 c6 b0=>?_⟩
   .have b4:∀b o,R b=some o->∀p∈L,∀i,p.2.a≠some ⟨b,i,none⟩:=λb o e p X i D=>by rw[g.fresh p X b i D]at e;cases e
    subst Y;exact⟨y,.of_m (M b2 _ mc (b4 b2 _ J)) rfl,Ot s4 ny m4y g hg (.refl _) c0 M O E hK⟩
   .obtain⟨p0,ps,rfl,b5,b6,hv,hw,d0,Z⟩:=Oq (m4y:=m4y) g d c3 M O E c5 c6 b0;have hb:=b5 b1 _ U H;refine⟨y,_,_,_,b0,p0.2,b1,v,od,w,ps,rfl,hb.1,hb.2,b9,b6,hv,hw,aC,λc7 m7 a' a0 a1 b7=>?_⟩;obtain⟨k1,⟨a2,k2,k3⟩,k4⟩:=Z c7 m7 a' a0 a1 b7;exact⟨(b1,b2,b3,m7,hz),⟨rfl,rfl,rfl,rfl,k1,a2,k2,k3⟩,k4,rfl,rfl,rfl,rfl,rfl,trivial⟩
end Go.Ps
