/- Own work. -/
import Derived.Test.YtafjlhgalgfiaaaGreatDoorCf
set_option linter.unusedVariables false
set_option linter.unusedSimpArgs false
namespace Go.Ps
open Go Go.Vc Go.Proofs List Tryz
variable{K:bo}{m:MH}{h:PH}{s:jQ}{ps:bn}{ts:cg}{cb:Nat}{sc:bZ}{v:QV}{t:Step}{p:Pred}{l:bn}{i:Nat}{N:Nat}{m':MH}{h':PH}{co:bn}{gr:bn}{od:bz}{ta:Int}{li:Int}{xs:List bt}{sz:Nat}{ks:List bn}{rs:bn}{r:Sl}{a:bn}{b:Nat}
def aqJ:Vc.Spec:=λc m h K=>∃l r:Int,∃o on d cb e ts rs,c=[cP cb,cI l,cI r,cS o]/\jC h o on/\on.length<=1000/\gT d m h cb e ts rs/\eA d/\ts.length<=100000/\
 ∀m' h',PH.le h h'->gT d m' h' cb e (bV (dU l r on) ts).1 rs->K (cI (bV (dU l r on) ts).2) m' h'
def aMQ:Vc.Spec:=λc m h K=>∃l r:Int,∃d cb e ts rs,c=[cP cb,cI l,cI r]/\gT d m h cb e ts rs/\eA d/\ts.length<=100000/\
 ∀m' h',PH.le h h'->gT d m' h' cb e (bV (cM l r) ts).1 rs->K (cI (bV (cM l r) ts).2) m' h'
def bVX:Vc.Spec:=λd m h K=>∃l:Int,∃c co e cb f ts rs,d=[cP cb,cI l,cS c]/\Ints h c co/\co.length<=1000/\gT e m h cb f ts rs/\eA e/\ts.length<=100000/\
 ∀m' h',PH.le h h'->gT e m' h' cb f (bV (oR l co) ts).1 rs->K (cI (bV (oR l co) ts).2) m' h'
def cwZ:Vc.Spec:=λc m h K=>∃a n:Int,c=[cI a,cI n]/\0<=a/\0<=n/\a<=1000/\n<=1000/\∀s h',PH.le h h'->Ints h' s (iV a n)->K (cS s) m h'
def cvJ:Vc.Spec:=λc m h K=>∃s on,c=[cS s]/\jC h s on/\on.length<=1000/\∀s h',PH.le h h'->jC h' s (rM on)->K (cS s) m h'
def bZQ:Vc.Spec:=λc m h K=>∃s l x,∃i:Nat,c=[cS s,cI x]/\Ints h s l/\l[i]? =some x/\K (cI (l.idxOf x:Nat)) m h
def b0Z:Vc.Spec:=λc m h K=>∃s co,c=[cS s]/\Ints h s co/\co.length<=1000/\∀s h',PH.le h h'->jC h' s (pR co)->K (cS s) m h'
def aPN(v:iK):CV:=.val (.agg ⟨v.enc⟩)
def bVZ:Vc.Spec:=λc m h K=>∃v p d f op ta w co on gr od li args e cb g ts rs,c=[cP cb,aPN v,cI d,aQ f]/\pA h p v/\dG h (.mk op ta w co on gr od li args) f/\gr.length<=1000/\od.length<=1000/\gT e m h cb g ts rs/\eA e/\ts.length<=99999/\
 ∀m' h',PH.le h h'->gT e m' h' cb g (Bx p d gr od li ts).1 rs->K (cI (Bx p d gr od li ts).2) m' h'
noncomputable def caJ(a n:Int)(m:MH)(h:PH):Ctx:=
 dE [] [(3,{A:=Nat×bn,st:=λ⟨i,l⟩=>bU 19 21 [(0,iv a),(5,.at (.lst 16)),(7,iv n),(8,iv i)] [(16,.lst 3 1 (l.map eI))] m h})] [] [] false
noncomputable def caZ(s:Sl)(m:MH)(h:PH):Ctx:=
 dE [] [(3,{A:=Nat×bu,st:=λ⟨i,l⟩=>bU 22 23 [(3,.at (.lst 19)),(6,sv s),(7,iv s.len),(8,iv i)] [(19,.lst 130 2 (l.map sH))] m h})] [] [] false
noncomputable def bIQ(s:Sl)(x:Int)(m:MH)(h:PH):Ctx:=
 dE [] [(2,{A:=Nat,st:=λi=>bU 19 21 [(0,sv s),(1,iv x),(7,iv s.len),(8,iv i)] [] m h})] [] [] false
noncomputable def cbQ(s:Sl)(m:MH)(h:PH):Ctx:=
 dE [(144,bZQ)] [(3,{A:=Nat×bu,st:=λ⟨i,l⟩=>bU 26 27 [(0,sv s),(3,.at (.lst 23)),(6,sv s),(7,iv s.len),(8,iv i)] [(23,.lst 130 2 (l.map sH))] m h})] [] [] false
noncomputable def caX(v:iK)(c:QV)(cb:Nat)(d:Int)(m:MH)(h:PH):Ctx:=
 dE [(81,aqJ),(40,Uq)] [(3,{A:=Nat×bu,st:=λ⟨i,l⟩=>bU 43 47 [(0,pv cb),(2,iv d),(5,.at (.ptr 5 0)),(7,.at (.ptr 7 0)),(9,.at (.lst 24)),(13,sv c.group),(14,iv c.group.len),(15,iv i)] [(5,.cells 97 (v.enc.map .val)),(7,.cells 41 (c.enc.map .val)),(24,.lst 130 2 (l.map sH))] m h})] [] [] false
abbrev Js(a:Nat->Nat->cg->bn->Prop):Prop:=bJ (λx c=>∃(d:cg)(e:bn),a x c d e)
abbrev KY(a:cr)(b:Nat->cr)(c d:Prop)(e:Nat->Option Obj)(g:PH)(i:MH->Nat->Nat->cg->bn->Prop):Prop:=∃(x:MH),Js (λf n j o=>aA (a=b f) c (aA d (gT x e g f n j o) (aA (eA x) (j.length<=100000) (i x f n j o))))
abbrev tX(a:Nat)(b:CV):cr:=tO (Oo a 0) b
abbrev FH(a:cr)(b:PH)(c:Nat->Option Obj)(d:Step->cg->MH->PH->Prop):Prop:=Qf (λx e=>KY a (λf=>tX f (kQ x.enc)) (uO b e x) (Oe e) c b (λf o u j y=>eT (λn g=>bQ b g (gT f n g o u (bV e j).1 y) (d e j n g))))
abbrev xK(a:Int)(b:bt):bt:=bF (fV a) cL (bF cL cL (bF cL cL (bF cL cL b)))
attribute [push_cast] Js KY tX FH xK
def Xh(cb:Nat)(l r:Int)(o:Sl)(m:MH)(h:PH)(K:bo):Prop:=
  FH (tX cb (kQ (xK 5 (tQ oM (tP (dP o) (Ed l r)))))) h m (λt c d e=>K (iR (↑(bV t c).2:Int)) d e)
def Xd(cb:Nat)(l r:Int)(m:MH)(h:PH)(K:bo):Prop:=
  FH (tX cb (kQ (xK 8 (tQ oM (tP oM (Ed l r)))))) h m (λt c d e=>K (iR (↑(bV t c).2:Int)) d e)
def Xf(cb:Nat)(l:Int)(c:Sl)(m:MH)(h:PH)(K:bo):Prop:=
  FH (tX cb (kQ (xK 3 (tQ (dP c) (tP oM (jX (fV l) cL)))))) h m (λt d e f=>K (iR (↑(bV t d).2:Int)) e f)
def QH(a n:Int)(m:MH)(h:PH)(K:bo):Prop:=
  KN (λI x=>aA (I x) (iI a) (aA (eL 16) (iI n) (aA (bA x.1) (sS x.2) (aA (m=m) (h=h) True)))) (λI d x=>I x->aY (↑x.1:Int) n (aA (i7 (jW (p9 x) 1) 8) (dO (p9 x)) (∃(c:Nat×bn),aA (I c) (d c<d x) (aA (iI a) (eL 16) (aA (iI n) (gK (bE x.1 1)=bO c.1) (aA (lK (dL (p9 x) (bB (fG (a+(↑x.1:Int))))) c.2) (m=m) (bT h h)))))) (tZ h (p9 x) K m))
abbrev ON(a:(Nat×bu->Prop)->(Nat×bu)->Prop)(b:(Nat×bu->Prop)->(Nat×bu->Nat)->(Nat×bu)->Prop):Prop:=∃(x:Nat×bu->Prop)(d:Nat×bu->Nat),(∃(c:Nat×bu),a x c)/\∀(c:Nat×bu),b x d c
abbrev qI(a:Nat×bu):List bt:=Er a.2
attribute [push_cast] ON qI
def Xe(s:Sl)(m:MH)(h:PH)(K:bo):Prop:=
  ON (λI x=>aA (I x) (eL 19) (aA (aJ s) (bI s) (aA (bA x.1) (uW 130 2 (qI x)) (aA (m=m) (h=h) True)))) (λI d x=>I x->aY (↑x.1:Int) (aH s) (bJ (λb o=>aI (aW s.a b o) (0<=(↑x.1:Int)) ((↑x.1:Int)<aH s) (∃(y:Int×Int),aA (aK m h b (o+bM x.1 2) (vO y)) (cH 1) (aA ((1:Int)<2) (cH 0) (aI ((0:Int)<2) (i7 (jW (qI x) 1) 16) (dO (qI x)) (∃(c:Nat×bu),aA (I c) (d c<d x) (aA (eL 19) (aJ s) (aA (bI s) (gK (bE x.1 1)=bO c.1) (aA (bR 130 2 (dL (qI x) (Ed y.2 y.1))=bR 130 2 (qI c)) (m=m) (bT h h)))))))))) (bY h 2 (qI x) (λe f=>K (mQ e) m f)))
def MW(s:Sl)(x:Int)(m:MH)(h:PH)(K:bo):Prop:=
  pN (λI c=>aA (I c) (aJ s) (aA (iI x) (bI s) (cZ (bA c) m m h h))) (λI e c=>I c->aY (↑c:Int) (aH s) (bJ (λb o=>aI (aW s.a b o) (0<=(↑c:Int)) ((↑c:Int)<aH s) (∃(y:Int),aK m h b (o+bM c 1) (bB y)/\eU x y (K (iR (↑c:Int)) m h) (∃(d:Nat),aA (I d) (e d<e c) (aA (aJ s) (iI x) (aA (bI s) (gK (bE c 1)=bO d) (aA (m=m) (h=h) True))))))) (K (iR (Int.negSucc 0)) m h))
def Xg(s:Sl)(m:MH)(h:PH)(K:bo):Prop:=
  ON (λI x=>aA (I x) (aJ s) (aA (eL 23) (aJ s) (aA (bI s) (bA x.1) (aA (uW 130 2 (qI x)) (m=m) (bT h h))))) (λI d x=>I x->aY (↑x.1:Int) (aH s) (bJ (λb o=>aI (aW s.a b o) (0<=(↑x.1:Int)) ((↑x.1:Int)<aH s) (∃(y:Int),aK m h b (o+bM x.1 1) (bB y)/\rT (λe l=>∃(f:Int)(i:Nat),aI (iZ s y=iZ e f) (Ints h e l) (l[i]? =Option.some f) (eU (↑(idxOf f l):Int) (↑x.1:Int) (aA (i7 (jW (qI x) 1) 16) (dO (qI x)) (∃(c:Nat×bu),aA (I c) (d c<d x) (aA (aJ s) (eL 23) (aA (aJ s) (bI s) (aA (gK (bE x.1 1)=bO c.1) (bR 130 2 (dL (qI x) (Ed y (↑x.1:Int)))=bR 130 2 (qI c)) (dY m m h h)))))) (∃(c:Nat×bu),aA (I c) (d c<d x) (aA (aJ s)
 (eL 23) (aA (aJ s) (bI s) (aA (gK (bE x.1 1)=bO c.1) (bR 130 2 (qI x)=bR 130 2 (qI c)) (dY m m h h)))))))))) (bY h 2 (qI x) (λe g=>K (mQ e) m g)))
abbrev HR(a:Nat)(b c:Int)(d:Sl)(e:PH)(g:Nat->Option Obj)(i:Int->Int->bu->MH->Nat->Nat->cg->bn->Prop):Prop:=G5 (λx n=>G6 (λo f=>KY (cY a (iR b::fQ c (mQ d))) (λj=>cY j (iR x::fQ n (mQ o))) (jC e o f) (nO f.length) g e (λj u y z A=>i x n f j u y z A)))
abbrev Y8:OV:=OV.mk 0 0 (VV.mk 0 0 (ByteArray.mk (Array.mk [])))
abbrev K6:Pred:=Pred.mk 0 0 Y8 Y8 []
abbrev yU(a:bu)(b c:Int):Step:=Step.mk 5 0 K6 [] a [] [] 0 b c
attribute [push_cast] HR Y8 K6 yU
def Xc(cb:Nat)(v:iK)(d:Int)(e:QV)(m:MH)(h:PH)(K:bo):Prop:=
  ON (λI x=>aA (I x) (cQ cb) (aA (iI d) eN (aA (eP 7) (eL 24) (aA (aJ e.group) (bI e.group) (aA (bA x.1) (eQ (pZ 97 v.enc)) (aA (eJ e) (uW 130 2 (qI x)) (dY m m h h))))))) (λI j x=>I x->aY (↑x.1:Int) (aH e.group) (bJ (λb o=>aI (aW e.group.a b o) (0<=(↑x.1:Int)) ((↑x.1:Int)<aH e.group) (∃(y:Int),aI (aK m h b (o+bM x.1 1) (bB y)) (i7 (jW (qI x) 1) 16) (dO (qI x)) (∃(f:Nat×bu),aA (I f) (j f<j x) (aA (cQ cb) (iI d) (aA eN (eP 7) (aA (eL 24) (aJ e.group) (aA (bI e.group) (gK (bE x.1 1)=bO f.1) (aA (eQ (pZ 97 v.enc)) (eJ e) (cZ (bR 130 2 (dL (qI x) (Ed y y))=bR 130 2 (qI f)) m m h h)))))))))) (bY h 2 (qI x) (λs n=>HR cb v.env d s
 n m (λl r o z c A t B=>eT (λu g=>bQ n g (gT z u g c A (bV (yU o l r) t).1 B) (FH (tX cb (CV.val (Value.agg (Array.mk (xK 10 (tQ oM (bF oM (xW e) (bF (xX e) (uL e) (jX (fV (↑(bV (yU o l r) t).2:Int)) (fV v.rows)))))))))) g u (λC D E F=>K (iR (↑(bV C D).2:Int)) E F)))))))
theorem b3Q(h:PH):fH h fO jG:=⟨rfl,rfl,rfl,rfl,ay,[],dC.nil _ _,rfl⟩
theorem WT(h:PH):Ints h cE []:=⟨dC.nil _ _,ay⟩
theorem cFJ(h:PH):jC h cE []:=⟨dC.nil _ _,ay⟩
theorem cEZ(h:PH):jB h cE []:=⟨dC.nil _ _,ay⟩
theorem b3X:(sD fO).length<=1000000000:=by
 have c:=iD [0,0];have d:=iD [0];have g:=oO 0;have f:Dp ⟨0,0,⟨0,0,⟨#[]⟩⟩⟩=jH [0,0]++(jH [0]++(mC 0++[32])++jH [0]++[]):=rfl;have e:sD fO=jH [0,0]++Dp ⟨0,0,⟨0,0,⟨#[]⟩⟩⟩++Dp ⟨0,0,⟨0,0,⟨#[]⟩⟩⟩++jH [0]++[]:=rfl
 grind
theorem cJQ{d:Nat}{l r:Int}{o:Sl}{on:bu}{m0:MH}(e:jC h o on)(n:on.length<=1000)(c:gT m0 m h cb d ts rs)(f:eA m0)(g:ts.length<=100000)
 (j:∀m' h',PH.le h h'->gT m0 m' h' cb d (bV (dU l r on) ts).1 rs->K (cI (bV (dU l r on) ts).2) m' h'):Xh cb l r o m h K:=
 ⟨⟨5,0,jG,cE,o,cE,cE,0,l,r⟩,dU l r on,m0,cb,d,ts,rs,rfl,⟨rfl,rfl,b3Q h,WT h,e,WT h,cEZ h,rfl,rfl,rfl⟩,⟨b3X,by simp[dU],by simp[dU];omega,by simp[dU],by simp[dU]⟩,c,f,g,j⟩
theorem cIX{d:Nat}{l r:Int}{m0:MH}(c:gT m0 m h cb d ts rs)(e:eA m0)(f:ts.length<=100000)
 (g:∀m' h',PH.le h h'->gT m0 m' h' cb d (bV (cM l r) ts).1 rs->K (cI (bV (cM l r) ts).2) m' h'):Xd cb l r m h K:=
 ⟨⟨8,0,jG,cE,cE,cE,cE,0,l,r⟩,cM l r,m0,cb,d,ts,rs,rfl,⟨rfl,rfl,b3Q h,WT h,cFJ h,WT h,cEZ h,rfl,rfl,rfl⟩,⟨b3X,by simp[cM],by simp[cM],by simp[cM],by simp[cM]⟩,c,e,f,g⟩
theorem cIJ{d:Nat}{l:Int}{s:Sl}{m0:MH}(e:Ints h s co)(n:co.length<=1000)(c:gT m0 m h cb d ts rs)(f:eA m0)(g:ts.length<=100000)
 (j:∀m' h',PH.le h h'->gT m0 m' h' cb d (bV (oR l co) ts).1 rs->K (cI (bV (oR l co) ts).2) m' h'):Xf cb l s m h K:=
 ⟨⟨3,0,jG,s,cE,cE,cE,0,l,0⟩,oR l co,m0,cb,d,ts,rs,rfl,⟨rfl,rfl,b3Q h,e,cFJ h,WT h,cEZ h,rfl,rfl,rfl⟩,⟨b3X,by simp[oR];omega,by simp[oR],by simp[oR],by simp[oR]⟩,c,f,g,j⟩
theorem SH:bm 81 aqJ:=by
 refine iQ func81 ?_;rintro d m h K ⟨l,r,o,on,u,cb,y,ts,rs,rfl,e,f,c,g,j,n⟩;refine⟨dE [(40,Uq)] [] [] [] false,rfl,aE EV aG,Xh cb l r o m h K,ax,?_⟩;exact cJQ e f c g j n
theorem aZX:bm 86 aMQ:=by
 refine iQ func86 ?_;rintro d m h K ⟨l,r,j,cb,n,ts,rs,rfl,c,e,f,g⟩;refine⟨dE [(40,Uq)] [] [] [] false,rfl,aE EV aG,Xd cb l r m h K,ax,?_⟩;exact cIX c e f g
theorem a0Q:bm 83 bVX:=by
 refine iQ func83 ?_;rintro d m h K ⟨l,s,co,o,cb,u,ts,rs,rfl,e,f,c,g,j,n⟩;refine⟨dE [(40,Uq)] [] [] [] false,rfl,aE EV aG,Xf cb l s m h K,ax,?_⟩;exact cIJ e f c g j n
theorem cIZ{a n:Int}(y:0<=a)(z:0<=n)(d:a<=1000)(f:n<=1000)(g:∀s h',PH.le h h'->Ints h' s (iV a n)->K (cS s) m h'):QH a n m h K:=by
 dsimp only[QH,push_cast];obtain⟨k,rfl⟩:∃k:Nat,n=k:=⟨n.toNat,aC⟩
 refine⟨λ⟨i,l⟩=>i<=k/\l=iV a (i:Nat),λ⟨i,_⟩=>k-i,⟨(0,[]),⟨aC,rfl⟩,MT⟩,?_⟩;rintro⟨i,l⟩ ⟨A,rfl⟩;dsimp only;have c:(iV a (i:Nat)).length=i:=by simp[iV]
 refine aF (λj=>?_) (λo s h' le u=>?_)
 .refine⟨bg,bg,(i+1,iV a ((i+1:Nat):Int)),⟨aC,rfl⟩,aC,?_⟩
  have e:iV a ((i+1:Nat):Int)=iV a (i:Nat)++[IntKind.i64.wrap (a+(i:Int))]:=by
   rw[fB aC aC];simp[iV,range_succ]
  rw[e,map_append];exact MT
 .have:i=k:=by omega
  subst this;exact g s h' le ⟨u,aC⟩
theorem aZJ:bm 84 cwZ:=by
 refine iQ func84 ?_;rintro c m h K ⟨a,n,rfl,d,e,f,g,j⟩;refine⟨caJ a n m h,rfl,aG,QH a n m h K,ax,?_⟩;exact cIZ d e f g j
theorem aZZ:bm 85 cvJ:=by
 refine iQ func85 ?_;rintro u m h K ⟨s,on,rfl,f,A,y⟩;refine⟨caZ s m h,rfl,aG,Xe s m h K,ax,?_⟩;dsimp only[Xe,push_cast];have d:=f.slen;refine⟨λ⟨i,l⟩=>i<=on.length/\l=rM (on.take i),λ⟨i,_⟩=>on.length-i,⟨(0,[]),⟨aC,rfl⟩,MT⟩,?_⟩;rintro⟨i,l⟩ ⟨B,rfl⟩;dsimp only;have g:(rM (on.take i)).length=i:=by simp[rM];omega
 refine aF (λc=>?_) (λz s h' le j=>?_)
 .obtain⟨x,n⟩:=eV d c;obtain⟨b,o,e,r⟩:=f.at n;refine⟨b,o,e,aC,c,x,.imm r,aC,aC,aC,aC,bg,bg,(i+1,rM (on.take (i+1))),⟨aC,rfl⟩,aC,?_⟩;have e:rM (on.take (i+1))=rM (on.take i)++[(x.2,x.1)]:=by rw[take_add_one,n];simp[rM]
  rw[e,map_append];exact MT
 .rw[take_of_length_le aC]at j;exact y s h' le ⟨j,bg⟩
theorem bvQ{x:Int}(d:l[i]? =some x)(c:∀j y,j<i->l[j]? =some y->x≠y):l.idxOf x=i:=by
 induction l generalizing i with
 |nil=>simp at d
 |cons a l e=>
  cases i with
  |zero=>grind
  |succ i=>
   have f:=c 0 a aC rfl
   grind
theorem cpX{s:Sl}{x:Int}{d:Nat}(g:Ints h s l)(hx:l[d]? =some x)(A:K (cI (l.idxOf x:Nat)) m h):MW s x m h K:=by
 dsimp only[MW,push_cast];have n:=g.slen;have C:=g.len;have F:=(List.getElem?_eq_some_iff.1 hx).1;refine⟨λi=>i<=d/\∀j y,j<i->l[j]? =some y->x≠y,λi=>d-i,⟨0,⟨aC,λj y D=>by omega⟩,MT⟩,?_⟩;rintro i ⟨G,u⟩;refine aF (λc=>?_) (λE=>by omega);obtain⟨y,B⟩:=eV n c;obtain⟨b,o,e,r⟩:=g.at' B;refine⟨b,o,e,aC,c,y,.imm r,aD (λf=>?_) (λf=>?_)⟩
 .have f:x=y:=bg
  subst f;rw[bvQ B u]at A;exact A
 .have f:x≠y:=bg
  have:i≠d:=λe=>bg
  refine⟨i+1,⟨aC,λj z D H=>?_⟩,bg,MT⟩
  grind
theorem ahZ:bm 144 bZQ:=by
 refine iQ func144 ?_;rintro c m h K ⟨s,l,x,i,rfl,d,e,f⟩;refine⟨bIQ s x m h,rfl,aG,MW s x m h K,ax,?_⟩;exact cpX d e f
def Gg(co:bn)(i:Nat):bu:=((List.range i).filter λi=>decide (co.idxOf (co.getD i 0)=i)).map λi=>(co.getD i 0,(i:Int))
theorem QB(co:bn)(i:Nat):(Gg co i).length<=i:=by
 have:=length_filter_le (λi=>decide (co.idxOf (co.getD i 0)=i)) (List.range i);simp[Gg]at this⊢;omega
theorem a0X:bm 82 b0Z:=by
 refine iQ func82 ?_;rintro u m h K ⟨s,co,rfl,f,B,y⟩;refine⟨cbQ s m h,rfl,aE ahZ aG,Xg s m h K,ax,?_⟩;dsimp only[Xg,push_cast];have g:=f.slen;refine⟨λ⟨i,l⟩=>i<=co.length/\l=Gg co i,λ⟨i,_⟩=>co.length-i,⟨(0,[]),⟨aC,rfl⟩,MT⟩,?_⟩;rintro⟨i,l⟩ ⟨C,rfl⟩;dsimp only;have n:=QB co i;refine aF (λc=>?_) (λz s h' le A=>?_)
 .obtain⟨x,j⟩:=eV g c;obtain⟨b,o,e,r⟩:=f.at' j;have D:co.getD i 0=x:=by simp[j]
  have step:Gg co (i+1)=Gg co i++(if co.idxOf x=i then[(x,(i:Int))]else[]):=by
   simp only[Gg,range_succ,filter_append,map_append]
   grind
  refine⟨b,o,e,aC,c,x,.imm r,s,co,x,i,rfl,f,j,aD (λd=>⟨bg,bg,(i+1,Gg co (i+1)),⟨aC,rfl⟩,aC,?_⟩) (λd=>⟨(i+1,Gg co (i+1)),⟨aC,rfl⟩,aC,?_⟩)⟩
  .have d:co.idxOf x=i:=bg
   rw[step,if_pos d,map_append];exact MT
  .have d:co.idxOf x≠i:=λe=>bg
   rw[step,if_neg d,append_nil];exact MT
 .have:i=co.length:=by omega
  subst this;exact y s h' le ⟨A,by show(Gg co co.length).length<=_;omega⟩
theorem aZQ:bm 87 bVZ:=by
 refine iQ func87 ?_;rintro M m h K ⟨v,p,d,g,op,ta,w,co,on,gr,od,li,args,F,cb,G,ts,rs,rfl,O,P,W,Q,c,H,X,R⟩;refine⟨caX v g cb d m h,rfl,aE SH (aE EV aG),Xc cb v d g m h K,ax,?_⟩;dsimp only[Xc,push_cast];have x:=P.parts;have A:=x.group_.slen;refine⟨λ⟨i,l⟩=>i<=gr.length/\l=uQ (gr.take i),λ⟨i,_⟩=>gr.length-i,⟨(0,[]),⟨aC,rfl⟩,MT⟩,?_⟩;rintro⟨i,l⟩ ⟨Y,rfl⟩;dsimp only;have I:(uQ (gr.take i)).length=i:=by simp[uQ];omega
 refine aF (λj=>?_) (λS s Z n J=>?_)
 .obtain⟨y,L⟩:=eV A j;obtain⟨b,o,e,r⟩:=x.group_.at' L;refine⟨b,o,e,aC,j,y,.imm r,bg,bg,(i+1,uQ (gr.take (i+1))),⟨aC,rfl⟩,aC,?_⟩;have e:uQ (gr.take (i+1))=uQ (gr.take i)++[(y,y)]:=by rw[take_add_one,L];simp[uQ]
  rw[e,map_append];exact MT
 .rw[take_of_length_le aC]at J;obtain⟨q,pa,B,z,wd⟩:=p;obtain⟨_,f,u,_⟩:=O;rw[u,f];have T:(uQ gr).length<=1000:=bg
  have hx:=dV (dU (z:Int) d (uQ gr)) ts;refine⟨(z:Int),d,s,uQ gr,F,cb,G,ts,rs,rfl,⟨J,aC⟩,T,c.mono n,H,aC,λm1 C D U=>?_⟩;have le:=n.trans D;exact⟨⟨10,0,jG,cE,cE,g.group,g.order,g.limit,_,_⟩,PX (bV (dU (z:Int) d (uQ gr)) ts).2 B gr od li,F,cb,G,_,rs,rfl,⟨rfl,rfl,b3Q C,WT C,cFJ C,x.group_.mono le,x.order_.mono le,x.limit_,rfl,rfl⟩,⟨b3X,by simp[PX],by simp[PX],by simp[PX];omega,by simp[PX];omega⟩,U,H,by show(bV (dU (z:Int) d (uQ gr)) ts).1.length<=100000;omega,λm' h' E V=>R m' h' (le.trans E) V⟩
def bUZ:Vc.Spec:=λc m h K=>∃op,c=[cI op]/\K (cB (DB op)) m h
def aKQ:Vc.Spec:=λc m h K=>∃v s op ta w co on gr od li args,∃ks:cm,c=[aQ v,cS s]/\dG h (.mk op ta w co on gr od li args) v/\Ints h s (ks.map fun(k:Nat)=>(k:Int))/\∀d,uO h (Ag op ta w co on gr od li ks) d->K (aT d) m h
def bRQ:Vc.Spec:=λc m h K=>∃sc v s op ta w co on gr od li args ps d,c=[aS sc,aPN v]/\iF h s sc/\nU s/\dG h (.mk op ta w co on gr od li args) v.query/\dC h v.args 25 (d.map iK.enc)/\mA h ps d/\((ps.length:Int)=arity op)/\0<=arity op/\(∀p∈ps,0<=p.width/\p.width<=1000)/\K (cI (E8 s op ta co ps)) m h
def XA(op:Int)(m:MH)(h:PH)(K:bo):Prop:=
  dR (op==7) (K iM m h) (op==9) (K iM m h) (K (Af (op==10)) m h)
def XB(v:QV)(s:Sl)(m:MH)(h:PH)(K:bo):Prop:=
  pP (decide (aH s>0)) (bJ (λb o=>aI (aW s.a b o) ((0:Int)<=0) (0<aH s) (∃(y:Int),aK m h b (o+0) (bB y)/\fR (aH s) 1 (bJ (λc d=>aI (aW s.a c d) ((0:Int)<=1) (1<aH s) (∃(e:Int),aK m h c (d+1) (bB e)/\K (kQ (vI v v (vP v (bF (dP v.on) (xW v) (bF (xX v) (uL v) (Ed y e)))))) m h))) (K (kQ (vI v v (vP v (bF (dP v.on) (xW v) (bF (xX v) (uL v) (jX (fV y) cL)))))) m h)))) (aH s) 1 (bJ (λb o=>aI (aW s.a b o) ((0:Int)<=1) (1<aH s) (∃(y:Int),aK m h b (o+1) (bB y)/\K (kQ (vI v v (vP v (bF (dP v.on) (xW v) (bF (xX v) (uL v) (jX cL (fV y))))))) m h))) (K (kQ (vI v v (vP v (bF (dP v.on) (xW v) (bF (xX v) (uL v) (jX cL cL)))))) m
 h)
abbrev uK(a:iK):Int:=a.query.op
abbrev FV(a:iK)(b:Int)(c:Nat->Nat->Int->Prop):Prop:=bJ (λx d=>aI (aW a.args.a x d) (0<=b) (b<aH a.args) (∃(e:Int),c x d e))
attribute [push_cast] uK FV
def QQ(sc:bZ)(v:iK)(m:MH)(h:PH)(K:bo):Prop:=
  dR (uK v==1) (AQ sc v.query.table h (λs d=>K (iR (aH s)) m d)) (uK v==3) (K (iR (aH v.query.columns)) m h) (eU (uK v) 4 (FV v 0 (λb o y=>aK m h b (o+0+24) (bB y)/\FV v 1 (λe f c=>aK m h e (f+25+24) (bB c)/\K (iR (fG (y+c))) m h))) (FV v 0 (λb o y=>aK m h b (o+0+24) (bB y)/\K (iR y) m h)))
theorem SO:bm 42 bUZ:=by
 refine iQ func42 ?_;rintro f m h K ⟨op,rfl,c⟩;refine⟨dE [] [] [] [] false,rfl,aG,XA op m h K,ax,?_⟩;dsimp only[XA,push_cast];unfold DB at c;refine aD (λd=>?_) (λd=>aD (λe=>?_) (λe=>?_))
 .rw[d]at c;exact c
 .rw[d,e]at c;exact c
 .rw[d,e]at c;exact c
theorem a5Q:bm 41 aKQ:=by
 refine iQ func41 ?_;rintro g m h K ⟨v,s,op,ta,w,co,on,gr,od,li,args,ks,rfl,j,c,n⟩;refine⟨dE [] [] [] [] false,rfl,aG,XB v s m h K,ax,?_⟩;dsimp only[XB,push_cast];have x:=j.parts;have d:=c.slen;rw[length_map]at d;have key:∀l r:Int,l=((ks.getD 0 0:Nat):Int)->r=((ks.getD 1 0:Nat):Int)->K (aT ⟨v.op,v.table,v.where_,v.columns,v.on,v.group,v.order,v.limit,l,r⟩) m h:=λl r u y=>n _ ⟨x.op_,x.table_,x.where_,x.columns_,x.on_,x.group_,x.order_,x.limit_,u,y⟩;have get:∀i,i<ks.length->(ks.map fun(k:Nat)=>(k:Int))[i]? =some ((ks.getD i 0:Nat):Int):=λi z=>by simp[z]
 refine aF (λA=>?_) (λA=>aF (λf=>by omega) (λf=>?_))
 .obtain⟨b,o,e,r⟩:=c.at (get 0 aC);refine⟨b,o,e,aC,aC,_,.imm r,aF (λf=>?_) (λf=>?_)⟩
  .obtain⟨b,o,e,r⟩:=c.at (get 1 aC);exact⟨b,o,e,aC,aC,_,.imm r,key _ _ rfl rfl⟩
  .exact key _ 0 rfl bg
 .exact key 0 0 bg bg
theorem cuJ{s:Sl}{vs:List iK}{ps:dp}(c:dC h s 25 (vs.map iK.enc))(d:mA h ps vs){p:PN}(f:ps[i]? =some p):∃b o v,s.a=some ⟨b,o,none⟩/\cO h b (o+i*25) (iK.enc v)/\pA h p v:=by
 obtain⟨v,g,j⟩:=d.get f;obtain⟨b,o,e,k⟩:=c.get (i:=i) (e:=iK.enc v) (by simp[g])
 grind
theorem OC{o:Nat}{v:iK}(r:cO h b o (iK.enc v)):cO h b (o+21) [.slice v.args.a v.args.len v.args.cap]/\cO h b (o+22) [fV v.rows]/\cO h b (o+23) [fV v.env]/\cO h b (o+24) [fV v.width]:=by
 refine⟨⟨λj x e=>?_⟩,⟨λj x e=>?_⟩,⟨λj x e=>?_⟩,⟨λj x e=>?_⟩⟩<;>
  (have c:j=0:=(by have:=(List.getElem?_eq_some_iff.1 e).1;simpa using this)
   subst c;simp at e;subst e)
 .exact r.rd 21 _ rfl
 .exact r.rd 22 _ rfl
 .exact r.rd 23 _ rfl
 .exact r.rd 24 _ rfl
theorem pA.width_{p:PN}{v:iK}(x:pA h p v):v.width=p.width:=by
 cases p;exact x.2.2.2.1
theorem pA.rows_{p:PN}{v:iK}(x:pA h p v):v.rows=p.rows:=by
 cases p;exact x.2.1
theorem pA.env_{p:PN}{v:iK}(x:pA h p v):v.env=p.env:=by
 cases p;exact x.2.2.1
theorem a5X:bm 39 bRQ:=by
 refine EN func39 ?_;rintro E m h K ⟨sc,v,s,op,ta,w,co,on,gr,od,li,args,ps,R,rfl,F,G,H,B,C,n,y,D,d⟩;refine⟨dE [(69,u7)] [] [] [] false,rfl,aE EU aG,QQ sc v m h (lR h K),ax,?_⟩;show QQ sc v m h (lR h K);dsimp only[QQ,push_cast];have x:=H.parts;have I:=x.op_;have J:v.args.len=ps.length:=by have:=B.len;rw[length_map,C.length]at this;exact this
 have one:op≠1->1<=ps.length:=λc=>by
  unfold arity at n y
  grind
 unfold E8 at d;show branch (v.query.op==1) _ _;rw[I,x.table_]
 have get:∀(i:Nat)(j:i<ps.length),∃b o,v.args.a=some ⟨b,o,none⟩/\cO h b (o+i*25+24) [fV ((ps.map PN.width).getD i 0)]:=λi j=>by
  obtain⟨b,o,u,e,r,L⟩:=cuJ B C (getElem?_eq_getElem j);have M:=(OC r).2.2.2;rw[L.width_]at M
  grind
 refine aD (λc=>?_) (λc=>aD (λf=>?_) (λf=>aD (λg=>?_) (λg=>?_)))
 .have c:op=1:=bg
  rw[if_pos c]at d;exact⟨sc,s,ta,rfl,F,G,λS h' le j=>.out (Sub.refl m) le (by rw[j.slen];exact d)⟩
 .have c:op≠1:=bg
  have f:op=3:=bg
  rw[if_neg c,if_pos f]at d;exact .here (by rw[x.columns_.slen];exact d)
 .have c:op≠1:=bg
  have f:op≠3:=bg
  have g:op=4:=bg
  rw[if_neg c,if_neg f,if_pos g]at d;have n:(ps.length:Int)=2:=by rw[n,g];rfl
  have z:0<ps.length:=by omega
  have A:1<ps.length:=by omega
  obtain⟨b,o,e,r⟩:=get 0 z;obtain⟨O,P,Q,T⟩:=get 1 A;have U:=D ps[0] (getElem_mem z);have V:=D ps[1] (getElem_mem A);have W:(ps.map PN.width).getD 0 0=ps[0].width:=by simp[z]
  have X:(ps.map PN.width).getD 1 0=ps[1].width:=by simp[A]
  refine⟨b,o,e,aC,aC,(ps.map PN.width).getD 0 0,.imm (bk r),O,P,Q,aC,aC,(ps.map PN.width).getD 1 0,.imm aC,.here ?_⟩;rw[fB aC aC];exact d
 .have c:op≠1:=bg
  have f:op≠3:=bg
  have g:op≠4:=bg
  rw[if_neg c,if_neg f,if_neg g]at d;have:=one c;obtain⟨b,o,e,r⟩:=get 0 aC;exact⟨b,o,e,aC,aC,_,.imm (bk r),.here d⟩
mutual
def kY:PN->Nat
 |.mk _ args _ _ _=>1+sC args
def sC:dp->Nat
 |[]=>0
 |p::ps=>kY p+sC ps
end
def IN(p:PN):Prop:=
 match p with
 |.mk (.mk op _ _ co on gr od _ _) args _ _ c=>(args.length:Int)=arity op/\0<=c/\c<=500/\co.length<=1000/\on.length<=1000/\gr.length<=1000/\od.length<=1000/\∀a∈args,IN a
 termination_by SizeOf.sizeOf p
def cUZ(N:Nat):Vc.Spec:=λc m h K=>∃v p d e cb f ts rs,c=[cP cb,aPN v,cI d]/\pA h p v/\SizeOf.sizeOf p<N/\IN p/\gT e m h cb f ts rs/\eA e/\ts.length+5*kY p<=90000/\rs.length+kY p<=90000/\
 ∀m' h',PH.le h h'->gT e m' h' cb f (gC p d ts rs).1 (gC p d ts rs).2->K (.tup []) m' h'
noncomputable def chJ(N cb:Nat)(d:Int)(v:iK)(m:MH)(h:PH):Ctx:=
 qV [(43,cUZ N),(81,aqJ),(82,b0Z),(83,bVX),(84,cwZ),(85,cvJ),(86,aMQ),(87,bVZ)] [(13,{A:=Nat×bu×iK×iK,st:=λ⟨i,l,a,b⟩=>bU 236 239 [(0,pv cb),(2,iv d),(7,.at (.ptr 7 0)),(8,.at (.ptr 8 0)),(9,.at (.lst 82)),(70,iv b.width),(71,iv i)] [(7,.cells 97 (a.enc.map .val)),(8,.cells 97 (b.enc.map .val)),(82,.lst 130 2 (l.map sH))] m h})] [(11,{A:=iK×iK,st:=λ⟨a,b⟩=>bU 236 239 [(0,pv cb),(2,iv d),(7,.at (.ptr 7 0)),(8,.at (.ptr 8 0))] [(7,.cells 97 (a.enc.map .val)),(8,.cells 97 (b.enc.map .val))] m h}),
  (18,{A:=iK×iK×MH×PH,st:=λ⟨a,b,m,h⟩=>bU 236 239 [(0,pv cb),(2,iv d),(7,.at (.ptr 7 0)),(8,.at (.ptr 8 0))] [(7,.cells 97 (a.enc.map .val)),(8,.cells 97 (b.enc.map .val))] m h}),
  (21,{A:=iK×iK,st:=λ⟨a,b⟩=>bU 236 239 [(0,pv cb),(2,iv d),(6,.at (.ptr 6 0)),(11,.at (.ptr 11 0)),(12,.at (.ptr 12 0))] [(6,.cells 41 (v.query.enc.map .val)),(11,.cells 97 (a.enc.map .val)),(12,.cells 97 (b.enc.map .val))] m h}),
  (22,{A:=iK×iK×MH×PH,st:=λ⟨a,b,m,h⟩=>bU 236 239 [(0,pv cb),(2,iv d),(6,.at (.ptr 6 0)),(12,.at (.ptr 12 0))] [(6,.cells 41 (v.query.enc.map .val)),(12,.cells 97 (b.enc.map .val))] m h}),
  (25,{A:=MH×PH,st:=λ⟨m,h⟩=>bU 236 239 [(0,pv cb),(2,iv d),(4,.at (.ptr 4 0))] [(4,.cells 97 (v.enc.map .val))] m h}),
  (29,{A:=iK×iK,st:=λ⟨a,b⟩=>bU 236 239 [(0,pv cb),(2,iv d),(13,.at (.ptr 13 0)),(14,.at (.ptr 14 0))] [(13,.cells 97 (a.enc.map .val)),(14,.cells 97 (b.enc.map .val))] m h}),
  (30,{A:=iK×iK×MH×PH,st:=λ⟨a,b,m,h⟩=>bU 236 239 [(0,pv cb),(2,iv d),(13,.at (.ptr 13 0)),(14,.at (.ptr 14 0))] [(13,.cells 97 (a.enc.map .val)),(14,.cells 97 (b.enc.map .val))] m h}),
  (35,{A:=MH×PH,st:=λ⟨m,h⟩=>bU 236 239 [(0,pv cb),(2,iv d),(4,.at (.ptr 4 0)),(6,.at (.ptr 6 0))] [(4,.cells 97 (v.enc.map .val)),(6,.cells 41 (v.query.enc.map .val))] m h})] [] [1036] [] false
abbrev pC(a:iK)(b c:Int)(d:Nat->Nat->iK->Prop):Prop:=bJ (λx e=>aI (aW a.args.a x e) (b<=c) (c<aH a.args) (∃(f:iK),d x e f))
abbrev Ek(a:Nat)(b:iK)(c:Int):cr:=cY a (eZ (kQ b.enc) c)
abbrev qY(a:cr)(b:iK)(c:PH)(d:Nat)(e:MH)(g:Nat)(i:PN->Int->MH->Nat->Nat->cg->bn->Prop):Prop:=∃(x:PN)(u:Int)(f:MH),Js (λj y n o=>aA (a=Ek j b u) (pA c x b) (aA (SizeOf.sizeOf x<d) (IN x) (aA (gT f e c j y n o) (eA f) (aA (n.length+g*kY x<=90000) (o.length+kY x<=90000) (i x u f j y n o)))))
abbrev vM(a:Step)(b:cg):CV:=CV.val (fV (↑(bV a b).2:Int))
abbrev lV(a b:iK):Prop:=pZ 97 a.enc=pZ 97 b.enc
abbrev AZ(a:Nat×bu×iK×iK):iK:=a.2.2.2
abbrev Km(a:Prop)(b:iK×iK×MH×PH->Prop)(c:(iK×iK×MH×PH)->Prop):Prop:=a/\∀(x:iK×iK×MH×PH),b x->c x
abbrev KI(a b:Int)(c:bn)(d:Int):Step:=Step.mk a b K6 c [] [] [] b d b
abbrev pF(a:iK×iK×MH×PH):MH×PH:=a.2.2
abbrev O7(a:cr)(b:Nat->Option Obj)(c:Nat->Nat->Option Value)(d:Int->Int->MH->Nat->Nat->cg->bn->Prop):Prop:=G5 (λx j=>∃(e:MH),Js (λf n g o=>aA (a=cY f (eZ (iR x) j)) (gT e b c f n g o) (aA (eA e) (g.length<=100000) (d x j e f n g o))))
abbrev AM(a b:Int):Step:=Step.mk 8 0 K6 [] [] [] [] 0 a b
abbrev Kl(a:Nat)(b c:Int)(d:Nat->Option Obj)(e:Nat->Nat->Option Value)(g:Int->Int->cg->MH->PH->Prop):Prop:=O7 (cY a (eZ (iR b) c)) d e (λx j u y z n A=>eT (λo f=>bQ e f (gT u o f y z (bV (AM x j) n).1 A) (g x j n o f)))
abbrev nF:Prop:=eP 13
attribute [push_cast] pC Ek qY vM lV AZ Km KI pF O7 AM Kl nF
def Xz(N cb:Nat)(v:iK)(d:Int)(m:MH)(h:PH)(K:bo):Prop:=
  dR (uK v==1) (∃(y:Sl),Fq m h cb 1 (aR y) (λx=>aI (cT m (dN y) 3 1 x) (AL x) (dO x) (jU (λs E=>fY m E (dN y) s 3 1 (dL x (bB d))->sR E cb 1 (aR s) (λF=>xT K F h))))) (uK v==2) (pC v 0 0 (λb o y=>aK m h b (o+0) y.enc/\∃(G:iK),qY (Ek cb y d) G h N m 5 (λp B E c F t r=>eT (λC e=>bQ h e (gT E C e c F (gC p B t r).1 (gC p B t r).2) (xT K C e))))) (dR (uK v==3) (pC v 0 0 (λb o y=>aK m h b (o+0) y.enc/\FV v 0 (λA u j=>aI (aK m h A (u+0+23) (bB j)) (j3 h b o 0 y.enc) (j3 h A (u+0) 23 (bB j)) (rT (λs c=>aI (eO (mQ v.query.columns) (mQ s)) (Ints h s c) (gS c) (∀(X:Sl)(e:PH),bQ h e (jC e X (pR c)) (j3 e b o 0
 y.enc/\HR cb j d X e m (λl r Z E L F t H=>eT (λC z=>bQ e z (gT E C z L F (bV (yU Z l r) t).1 H) (j3 z A (u+0) 23 (bB j)/\∃(G:iK),qY (cY cb (eF y.enc (vM (yU Z l r) t))) G z N C 5 (λp B J R Q D S=>eT (λO M=>bQ z M (gT J O M R Q (gC p B D S).1 (gC p B D S).2) (xT K O M))))))))))))) (uK v==4) (∃(I:iK×iK->Prop),pC v 0 0 (λb o y=>aK m h b (o+0) y.enc/\pC v 0 1 (λA u j=>aA (aK m h A (u+25) j.enc) (aA (aK m h b (o+0) y.enc) (aK m h A (u+25) j.enc) (aA (aK m h b (o+0) y.enc) (aK m h A (u+25) j.enc) (j3 h A u 25 j.enc/\∃(x:iK×iK),aA (I x) (cQ cb) (aA (iI d) (eP 7) (aA iH (lV y x.1) (aA (lV j x.2) (m=m) (bT h h)))))))
 (aA (aK m h b (o+0) y.enc) (aK m h A (u+25) j.enc) (aI (aK m h b (o+0) y.enc) (aK m h A (u+25) j.enc) (j3 h A u 25 j.enc) (∃(x:iK×iK),aA (I x) (cQ cb) (aA (iI d) (eP 7) (aA iH (lV y x.1) (aA (lV j x.2) (m=m) (bT h h)))))))))/\∀(x:iK×iK),I x->∃(I1:Nat×bu×iK×iK->Prop)(E:Nat×bu×iK×iK->Nat),(∃(f:Nat×bu×iK×iK),aA (I1 f) (cQ cb) (aA (iI d) (eP 7) (aA iH (eL 82) (aA (dH x.2.width (AZ f).width) (bA f.1) (aA (lV x.1 f.2.2.1) (lV x.2 (AZ f)) (aA (uW 130 2 (Er f.2.1)) (m=m) (bT h h)))))))/\∀(f:Nat×bu×iK×iK),I1 f->aY (↑f.1:Int) (AZ f).width (aA (i7 (jW (Er f.2.1) 1) 16) (dO (Er f.2.1)) (∃(P:Nat
 ×bu×iK×iK),aA (I1 P) (E P<E f) (aA (cQ cb) (iI d) (aA (eP 7) iH (aA (eL 82) (dH (AZ f).width (AZ P).width) (aA (gK (bE f.1 1)=bO P.1) (lV f.2.2.1 P.2.2.1) (aA (lV (AZ f) (AZ P)) (bR 130 2 (dL (Er f.2.1) (Ed (fG (f.2.2.1.width+(↑f.1:Int))) (↑f.1:Int)))=bR 130 2 (Er P.2.1)) (dY m m h h)))))))) (∃(I2:iK×iK×MH×PH->Prop),Km (bY h 2 (Er f.2.1) (λs e=>HR cb d (AZ f).rows s e m (λl r o F c C t H=>eT (λJ z=>bQ e z (gT F J z c C (bV (yU o l r) t).1 H) (G5 (λa n=>aA (eZ (iR 0) f.2.2.1.width=eZ (iR a) n) (cH a) (aA (cH n) (a<=1000) (n<=1000/\∀(X:Sl)(M:PH),bQ z M (Ints M X (iV a n)) (∃(V:Int),rT (λL R=>
 KY (cY cb (tO (vM (yU o l r) t) (mQ X))) (λc3=>cY c3 (fQ V (mQ L))) (Ints M L R) (gS R) J M (λQ c3 O D S=>eT (λU h4=>bQ M h4 (gT Q U h4 c3 O (bV (KI 3 0 R V) D).1 S) (∃(G:iK),qY (cY cb (eF f.2.2.1.enc (vM (KI 3 0 R V) D))) G h4 N U 5 (λp B m8 c4 m9 T Y=>eT (λa1 h5=>bQ h4 h5 (gT m8 a1 h5 c4 m9 (gC p B T Y).1 (gC p B T Y).2) (∃(P:iK×iK×MH×PH),aA (I2 P) (cQ cb) (aA (iI d) (eP 7) (aA iH (lV f.2.2.1 P.1) (aA (lV (AZ f) P.2.1) (dJ a1 (pF P)) (kZ (fC h5 (pF P)))))))))))))))))))))) I2 (λP=>G5 (λa n=>aA (eZ (iR P.1.width) P.2.1.width=eZ (iR a) n) (cH a) (aA (cH n) (a<=1000) (n<=1000/\∀(s:Sl)(e:PH),bQ (pF P).2 e
 (Ints e s (iV a n)) (∃(l:Int),rT (λc L=>KY (cY cb (fQ d (mQ s))) (λR=>cY R (fQ l (mQ c))) (Ints e c L) (gS L) (pF P).1 e (λF R C t r=>eT (λJ z=>bQ e z (gT F J z R C (bV (KI 3 0 L l) t).1 r) (∃(G:iK),qY (cY cb (eF P.2.1.enc (vM (KI 3 0 L l) t))) G z N J 5 (λp B Q c3 O D H=>eT (λU M=>bQ z M (gT Q U M c3 O (gC p B D H).1 (gC p B D H).2) (xT K U M)))))))))))))) (dR (uK v==5) (∃(I:iK×iK->Prop),pC v 0 0 (λb o y=>aK m h b (o+0) y.enc/\pC v 0 1 (λA u j=>aA (aK m h A (u+25) j.enc) (aA (aK m h b (o+0) y.enc) (aK m h A (u+25) j.enc) (aA (aK m h b (o+0) y.enc) (aK m h A (u+25) j.enc) (j3 h A u 25 j.enc/\∃(x:iK×iK),aA (I x)
 (cQ cb) (aA (iI d) (eP 6) (aA (eP 11) (eP 12) (aA (eJ v.query) (lV y x.1) (cZ (lV j x.2) m m h h))))))) (aA (aK m h b (o+0) y.enc) (aK m h A (u+25) j.enc) (aI (aK m h b (o+0) y.enc) (aK m h A (u+25) j.enc) (j3 h A u 25 j.enc) (∃(x:iK×iK),aA (I x) (cQ cb) (aA (iI d) (eP 6) (aA (eP 11) (eP 12) (aA (eJ v.query) (lV y x.1) (cZ (lV j x.2) m m h h)))))))))/\∀(x:iK×iK),I x->∃(I1:iK×iK×MH×PH->Prop),Km (HR cb d x.2.rows v.query.on h m (λl r o E c F t H=>eT (λC e=>bQ h e (gT E C e c F (bV (yU o l r) t).1 H) (∃(G:iK),qY (cY cb (eF x.1.enc (vM (yU o l r) t))) G e N C 5 (λp B J L Q D S=>eT (λO z=>bQ e z (gT J O z L Q (gC p B D S).1 (gC p B D S).2) (∃
 (f:iK×iK×MH×PH),aA (I1 f) (cQ cb) (aA (iI d) (eP 6) (aA (eP 12) (eJ v.query) (aA (lV x.2 f.2.1) (dJ O (pF f)) (kZ (fC z (pF f))))))))))))) I1 (λf=>G6 (λs o=>aI (eO (mQ v.query.on) (mQ s)) (jC (pF f).2 s o) (nO o.length) (∀(X:Sl)(e:PH),bQ (pF f).2 e (jC e X (rM o)) (HR cb f.2.1.env d X e (pF f).1 (λl r u E c F t H=>eT (λC z=>bQ e z (gT E C z c F (bV (yU u l r) t).1 H) (∃(G:iK),qY (cY cb (eF f.2.1.enc (vM (yU u l r) t))) G z N C 5 (λp B J L Q D S=>eT (λO M=>bQ z M (gT J O M L Q (gC p B D S).1 (gC p B D S).2) (xT K O M))))))))))) (uK v==6) (∃(I:MH×PH->Prop),pC v 0 0 (λb o y=>aK m h b (o+0) y.enc/\FV
 v 0 (λA u j=>aA (aK m h A (u+0+23) (bB j)) (j3 h b o 0 y.enc) (Kl cb j d m h (λl r t E e=>j3 e A (u+0) 23 (bB j)/\∃(G:iK),qY (cY cb (eF y.enc (vM (AM l r) t))) G e N E 5 (λp B F c C D H=>eT (λJ z=>bQ e z (gT F J z c C (gC p B D H).1 (gC p B D H).2) (∃(x:MH×PH),aA (I x) (cQ cb) (aA (iI d) (eP 4) (aI (eQ (pZ 97 v.enc)) (dJ J x) (fC z x) True)))))))))/\∀(x:MH×PH),I x->pC v 0 1 (λb o y=>aK x.1 x.2 b (o+25) y.enc/\FV v 1 (λA u j=>aA (aK x.1 x.2 A (u+25+23) (bB j)) (j3 x.2 b o 25 y.enc) (Kl cb j d x.1 x.2 (λl r t E e=>j3 e A (u+25) 23 (bB j)/\∃(G:iK),qY (cY cb (eF y.enc (vM (AM l r) t))) G e N E 5 (λp B F c C D
 H=>eT (λJ z=>bQ e z (gT F J z c C (gC p B D H).1 (gC p B D H).2) (xT K J z)))))))) (dR (uK v==7) (∃(I:iK×iK->Prop),pC v 0 0 (λb o y=>aK m h b (o+0) y.enc/\pC v 0 1 (λA u j=>aA (aK m h A (u+25) j.enc) (aA (aK m h b (o+0) y.enc) (aK m h A (u+25) j.enc) (aA (aK m h b (o+0) y.enc) (aK m h A (u+25) j.enc) (j3 h A u 25 j.enc/\∃(x:iK×iK),aA (I x) (cQ cb) (aA (iI d) nF (aA (eP 14) (lV y x.1) (aA (lV j x.2) (m=m) (bT h h))))))) (aA (aK m h b (o+0) y.enc) (aK m h A (u+25) j.enc) (aI (aK m h b (o+0) y.enc) (aK m h A (u+25) j.enc) (j3 h A u 25 j.enc) (∃(x:iK×iK),aA (I x) (cQ cb) (aA (iI d) nF (aA (eP 14) (lV y x.1) (aA (lV j x.2) (m=m) (bT h
 h)))))))))/\∀(x:iK×iK),I x->∃(I1:iK×iK×MH×PH->Prop),Km (∃(G:iK),qY (Ek cb x.1 d) G h N m 5 (λp B E c F t r=>eT (λC e=>bQ h e (gT E C e c F (gC p B t r).1 (gC p B t r).2) (∃(f:iK×iK×MH×PH),aA (I1 f) (cQ cb) (aA (iI d) nF (aA (eP 14) (lV x.1 f.1) (aA (lV x.2 f.2.1) (dJ C (pF f)) (kZ (fC e (pF f)))))))))) I1 (λf=>Kl cb f.2.1.env d (pF f).1 (pF f).2 (λl r t E e=>O7 (cY cb (eZ (vM (AM l r) t) f.1.rows)) E e (λV H F c C D S=>eT (λJ z=>bQ e z (gT F J z c C (bV (AM V H) D).1 S) (∃(G:iK),qY (cY cb (eF f.2.1.enc (vM (AM V H) D))) G z N J 5 (λp B Q L O T Y=>eT (λU M=>bQ z M (gT Q U M L O
 (gC p B T Y).1 (gC p B T Y).2) (xT K U M))))))))) (uK v==8) (∃(I:iK×iK->Prop),pC v 0 0 (λb o y=>aK m h b (o+0) y.enc/\pC v 0 1 (λA u j=>aA (aK m h A (u+25) j.enc) (aA (aK m h b (o+0) y.enc) (aK m h A (u+25) j.enc) (aA (aK m h b (o+0) y.enc) (aK m h A (u+25) j.enc) (j3 h A u 25 j.enc/\∃(x:iK×iK),aA (I x) (cQ cb) (aA (iI d) nF (aA (eP 14) (lV y x.1) (aA (lV j x.2) (m=m) (bT h h))))))) (aA (aK m h b (o+0) y.enc) (aK m h A (u+25) j.enc) (aI (aK m h b (o+0) y.enc) (aK m h A (u+25) j.enc) (j3 h A u 25 j.enc) (∃(x:iK×iK),aA (I x) (cQ cb) (aA (iI d) nF (aA (eP 14) (lV y x.1) (aA (lV j x.2) (m=m) (bT h h)))))))))/\∀(x:iK×iK),I x->∃(I1:iK×iK×MH×PH->
 Prop),Km (∃(G:iK),qY (Ek cb x.1 d) G h N m 5 (λp B E c F t r=>eT (λC e=>bQ h e (gT E C e c F (gC p B t r).1 (gC p B t r).2) (∃(f:iK×iK×MH×PH),aA (I1 f) (cQ cb) (aA (iI d) nF (aA (eP 14) (lV x.1 f.1) (aA (lV x.2 f.2.1) (dJ C (pF f)) (kZ (fC e (pF f)))))))))) I1 (λf=>Kl cb f.2.1.env d (pF f).1 (pF f).2 (λl r t E e=>O7 (cY cb (eZ (vM (AM l r) t) f.1.rows)) E e (λV H F c C D S=>eT (λJ z=>bQ e z (gT F J z c C (bV (AM V H) D).1 S) (∃(G:iK),qY (cY cb (eF f.2.1.enc (vM (AM V H) D))) G z N J 5 (λp B Q L O T Y=>eT (λU M=>bQ z M (gT Q U M L O (gC p B T Y).1 (gC p B T Y).2) (xT K U M)))))))))
 (dR (uK v==9) (pC v 0 0 (λb o y=>aK m h b (o+0) y.enc/\pC v 0 0 (λA u j=>aA (aK m h A (u+0) j.enc) (j3 h b o 0 y.enc) (∃(G:iK)(p:PN)(B:Int)(q:QV),DP (λZ t w c o3 g W l a=>∃(E:MH),Js (λL F D r=>aA (cY cb (cC j.enc (fQ d (cA v.query)))=cY L (cC G.enc (fQ B (cA q)))) (pA h p G) (aA (dG h (Query.mk Z t w c o3 g W l a) q) (gS g) (aA (nO W.length) (gT E m h L F D r) (aA (eA E) (D.length<=99999) (eT (λC e=>bQ h e (gT E C e L F (Bx p B g W l D).1 r) (j3 e A u 0 j.enc/\∃(v2:iK),qY (Ek cb y (↑(Bx p B g W l D).2:Int)) v2 e N C 5 (λp1 d2 J R Q T H=>eT (λO z=>bQ e z (gT J O z R Q (gC p1 d2 T H).1 (gC p1 d2 T H).2) (xT K O
 z))))))))))))))) (uK v==10) (∃(I:MH×PH->Prop),pC v 0 0 (λb o y=>aK m h b (o+0) y.enc/\∃(G:iK),qY (Ek cb y d) G h N m 5 (λp B E c F t r=>eT (λC e=>bQ h e (gT E C e c F (gC p B t r).1 (gC p B t r).2) (∃(x:MH×PH),aA (I x) (cQ cb) (aA (iI d) (eP 4) (aA (eP 6) (eQ (pZ 97 v.enc)) (aA (eJ v.query) (dJ C x) (kZ (fC e x)))))))))/\∀(x:MH×PH),I x->pC v 0 1 (λb o y=>aK x.1 x.2 b (o+25) y.enc/\pC v 0 1 (λA u j=>aA (aK x.1 x.2 A (u+25) j.enc) (j3 x.2 b o 25 y.enc) (∃(G:iK)(p:PN)(B:Int)(q:QV),DP (λZ t w c o3 g W l a=>∃(E:MH),Js (λL F D r=>aA (cY cb (cC j.enc (fQ d (cA v.query)))=cY L (cC G.enc (fQ B (cA q)))) (pA x.2 p G) (aA (dG x.2
 (Query.mk Z t w c o3 g W l a) q) (gS g) (aA (nO W.length) (gT E x.1 x.2 L F D r) (aA (eA E) (D.length<=99999) (eT (λC e=>bQ x.2 e (gT E C e L F (Bx p B g W l D).1 r) (j3 e A u 25 j.enc/\∃(v2:iK),qY (Ek cb y (↑(Bx p B g W l D).2:Int)) v2 e N C 5 (λp1 d2 J R Q T H=>eT (λO z=>bQ e z (gT J O z R Q (gC p1 d2 T H).1 (gC p1 d2 T H).2) (xT K O z))))))))))))))) (xT K m h)))))
theorem Fh{α:Type}{l:List α}(h:(l.length:Int)=1):∃a,l=[a]:=by
 match l,h with
 |[a],_=>grind
 |[],h=>simp at h
 |_::_::_,h=>grind
theorem rL{α:Type}{l:List α}(h:(l.length:Int)=2):∃a b,l=[a,b]:=by
 match l,h with
 |[a,b],_=>grind
 |[],h=>simp at h
 |[_],h=>simp at h
 |_::_::_::_,h=>grind
theorem IN.w{p:PN}(x:IN p):0<=p.width/\p.width<=500:=by
 obtain⟨⟨op,ta,w,co,on,gr,od,li,c⟩,args,rows,env,d⟩:=p;rw[IN]at x;exact⟨x.2.1,x.2.2.1⟩
theorem CM(a:PN)(d:Int)(gr:bn)(od:bz)(li:Int)(ts:cg):(Bx a d gr od li ts).1.length<=ts.length+2:=by
 unfold Bx;have c:=dV (dU a.env d (uQ gr)) ts;have e:=dV (PX (bV (dU a.env d (uQ gr)) ts).2 a.rows gr od li) (bV (dU a.env d (uQ gr)) ts).1
 grind
theorem iP:∀(p:PN)(d:Int)(ts:cg)(rs:bn),(gC p d ts rs).1.length<=ts.length+5*kY p/\(gC p d ts rs).2.length<=rs.length+kY p
 |.mk (.mk op ta w co on gr od li g) args rows env n,d,ts,rs=>by
  rw[gC.eq_def]
  match args with
  |[]=>dsimp only;split<;>simp[kY,sC]<;>omega
  |[a]=>
   dsimp only;simp only[kY,sC];split
   .have:=iP a d ts rs;omega
   .split
    .have c:=dV (dU a.env d (pR co)) ts;have:=iP a (bV (dU a.env d (pR co)) ts).2 (bV (dU a.env d (pR co)) ts).1 rs;omega
    .split
     .have c:=CM a d gr od li ts;have:=iP a (Bx a d gr od li ts).2 (Bx a d gr od li ts).1 rs;omega
     grind
  |a::b::r=>
   dsimp only;simp only[kY,sC];split
   .have c:=dV (dU d b.rows (BO a.width b.width)) ts;generalize bV (dU d b.rows (BO a.width b.width)) ts=x at*
    have o:=dV (oR x.2 (iV 0 a.width)) x.1;generalize bV (oR x.2 (iV 0 a.width)) x.1=y at*
    have e:=iP a y.2 y.1 rs;generalize gC a y.2 y.1 rs=z at*
    have j:=dV (oR d (iV a.width b.width)) z.1;generalize bV (oR d (iV a.width b.width)) z.1=u at*
    have f:=iP b u.2 u.1 z.2;omega
   .split
    .have c:=dV (dU d b.rows on) ts;generalize bV (dU d b.rows on) ts=x at*
     have e:=iP a x.2 x.1 rs;generalize gC a x.2 x.1 rs=z at*
     have j:=dV (dU b.env d (rM on)) z.1;generalize bV (dU b.env d (rM on)) z.1=u at*
     have f:=iP b u.2 u.1 z.2;omega
    .split
     .have c:=dV (cM a.env d) ts;generalize bV (cM a.env d) ts=x at*
      have e:=iP a x.2 x.1 rs;generalize gC a x.2 x.1 rs=z at*
      have j:=dV (cM b.env d) z.1;generalize bV (cM b.env d) z.1=u at*
      have f:=iP b u.2 u.1 z.2;omega
     .split
      .have e:=iP a d ts rs;generalize gC a d ts rs=z at*
       have c:=dV (cM b.env d) z.1;generalize bV (cM b.env d) z.1=x at*
       have j:=dV (cM x.2 a.rows) x.1;generalize bV (cM x.2 a.rows) x.1=u at*
       have f:=iP b u.2 u.1 z.2;omega
      .split
       .have e:=iP a d ts rs;generalize gC a d ts rs=z at*
        have c:=CM b d gr od li z.1;generalize Bx b d gr od li z.1=x at*
        have f:=iP b x.2 x.1 z.2;omega
       grind
 termination_by p=>SizeOf.sizeOf p
theorem aQX{m0:MH}{u:Nat}{d:Int}(c:gT m0 m h cb u ts rs)(hl:rs.length<=90000)(Y:∀m',gT m0 m' h cb u ts (rs++[d])->K (.tup []) m' h):
 ∃y:Sl,aK m h cb 1 [dP y]/\∃xs,cT m (Sl.mk y.a y.len y.cap) 3 1 xs/\(xs.length+1)*8<=140737488355328/\xs.length<140737488355328/\∀(T:Sl)(m':MH),fY m m' (Sl.mk y.a y.len y.cap) T 3 1 (xs++[[fV d]])->∃(cs:Array Value)(E:TypeId),yA m' cb (Obj.cells cs E)/\1<cs.size/\∀(g:MH),lF m' g cb (Obj.cells (Array.mk (splice cs.toList 1 [dP T])) E)->K (CV.tup []) g h:=by
 obtain⟨s,r,A,⟨Z,U,J⟩,f,L,a'⟩:=c.ex;obtain⟨es,cl,M,O⟩:=c.map_.ex;refine⟨r,.of_m A rfl,rs.map eI,f,bg,bg,λB m1 z=>?_⟩
 have P:∀i,r.a≠some ⟨cb,i,none⟩:=λi e=>by
  obtain⟨n,C⟩:=cT.blk f e
  grind
 have Q:∀i,r.a≠some ⟨u,i,none⟩:=λi e=>by
  obtain⟨n,C⟩:=cT.blk f e
  grind
 have V:cb≠u:=λe=>bg
 have D:=z.other cb _ A P;have W:=z.other u _ M Q;refine⟨_,_,⟨D⟩,ay,λR F=>?_⟩;have F:lF m1 R cb (.cells #[.slice s.a s.len s.cap,.slice B.a B.len B.cap,.map (some u)] 93 (0,0)):=F
 have G:∀b o,m b=some o->b≠cb->(∀i,r.a≠some ⟨b,i,none⟩)->R b=some o:=λb o e n1 n3=>by
  rw[F.other b n1];exact z.other b o e n3
 have H:∀b i,B.a=some ⟨b,i,none⟩->b≠cb:=λb i e e2=>by
  obtain⟨n,C⟩:=cT.blk z.row e
  grind
 refine Y R ⟨λb o e=>G b o (c.sub b o e) (λI=>by rw[I,c.cb0]at e;cases e) (λi I=>bg),c.cb0,c.mb0,⟨es,cl,bg,O⟩,c.nodup,s,B,F.at_,⟨Z,?_,J⟩,?_,L,?_⟩
 .refine cT.keep U (λb i e=>?_);obtain⟨n,C⟩:=cT.blk U e;rw[C];refine G b _ C (λI=>?_) (λj I=>?_)
  .grind
  .obtain⟨X,h4⟩:=cT.blk f I
   grind
 .rw[map_append];exact cT.keep z.row (λb i e=>by rw[F.other b (H b i e)])
 .intro b i e;rcases z.fresh b i e with S|⟨j,S⟩
  .cases e0:m0 b with
   |none=>rfl
   |some o=>rw[c.sub b o e0]at S;cases S
  grind
theorem pA.form{p:PN}{v:iK}(x:pA h p v):∃q s,v=⟨q,s,p.rows,p.env,p.width⟩:=by
 obtain⟨q,s,r,e,w⟩:=v;have c:=x.rows_;have d:=x.env_;have f:=x.width_
 grind
theorem aDQ:∀N,bm 43 (cUZ N)
 |0=>by
  refine fK (fn:=Tryz.f43) (c:=dX Tryz.f43) func43 rfl az ?_;rintro b9 m h K ⟨v,p,d,A,cb,B,ts,rs,rfl,_,hN,_⟩;omega
 |N+1=>by
  refine iQ func43 ?_;rintro b9 m h K ⟨v,p,d,A,cb,B,ts,rs,rfl,hp,hN,ok,c,T,l1,l2,L⟩;refine⟨chJ N cb d v m h,rfl,aE (aDQ N) (aE SH (aE a0X (aE a0Q (aE aZJ (aE aZZ (aE aZX (aE aZQ aG))))))),Xz N cb v d m h K,ax,?_⟩;dsimp only[Xz,push_cast];obtain⟨⟨op,ta,w,co,on,gr,od,li,a3⟩,args,rows,env,wd⟩:=p;obtain⟨hq,_,_,_,d0,vs,hr,b3⟩:=hp;rw[IN]at ok;obtain⟨oa,d1,d2,b4,b5,b6,b7,a6⟩:=ok;have x:=hq.parts;have d':v.args.len=args.length:=by have:=hr.len;rw[length_map,b3.length]at this;exact this
  have at_:∀{hx:PH}(_:PH.le h hx)(i:Nat)(a:PN)(_:args[i]? =some a),∃b o q s,v.args.a=some ⟨b,o,none⟩/\cO hx b (o+i*25) (iK.enc ⟨q,s,a.rows,a.env,a.width⟩)/\pA hx a ⟨q,s,a.rows,a.env,a.width⟩:=λle i a ha=>by
   obtain⟨b,o,u,e,r,H⟩:=cuJ (hr.mono le) (mA.mono le b3) ha;obtain⟨q,s,rfl⟩:=H.form
   grind
  have small:∀a∈args,SizeOf.sizeOf a<N:=λa ha=>by
   have:=sizeOf_lt_of_mem ha
   grind
  have j:∀{mx:MH}{hx:PH}(a:PN)(u:iK)(dd:Int)(Y:cg)(a0:bn){KK:MH->PH->Prop},a∈args->pA hx a u->gT A mx hx cb B Y a0->Y.length+5*kY a<=90000->a0.length+kY a<=90000->(∀m' h',PH.le hx h'->gT A m' h' cb B (gC a dd Y a0).1 (gC a dd Y a0).2->KK m' h')->
   ∃(v:iK)(p:PN),∃(a7:Int)(A:MH),∃(a4 B:Nat)(ts:cg)(rs:bn),[Oo cb 0,kQ (iK.enc u),iR dd]=[Oo a4 0,kQ (iK.enc v),iR a7]/\pA hx p v/\SizeOf.sizeOf p<N/\IN p/\gT A mx hx a4 B ts rs/\eA A/\ts.length+5*kY p<=90000/\rs.length+kY p<=90000/\∀(m':MH)(h':PH),hx.le h'->gT A m' h' a4 B (gC p a7 ts rs).1 (gC p a7 ts rs).2->KK m' h':=
   λa u dd Y a0 KK ha H M b1 b2 hk=>⟨u,a,dd,A,cb,B,Y,a0,rfl,H,small a ha,a6 a ha,M,T,b1,b2,hk⟩
  show branch (v.query.op==1) _ _;rw[x.op_];simp only[kY]at l1 l2;refine aD (λe=>?_) (λn1=>aD (λe=>?_) (λn2=>aD (λe=>?_) (λn3=>aD (λe=>?_) (λn4=>aD (λe=>?_) (λn5=>aD (λe=>?_) (λn6=>aD (λe=>?_) (λn7=>aD (λe=>?_) (λn8=>aD (λe=>?_) (λn9=>aD (λe=>?_) (λc0=>?_))))))))))
  .have e:op=1:=bk e
   subst e;obtain rfl:args=[]:=eq_nil_of_length_eq_zero (by have:arity 1=0:=rfl;omega);rw[gC]at L;exact aQX c aC (λm' c'=>L m' h (.refl _) bg)
  .have e:op=2:=bk e
   subst e;obtain⟨a,rfl⟩:=Fh (l:=args) (by rw[oa];rfl);simp only[sC]at l1 l2;simp only[gC,if_true]at L;obtain⟨b,o,P,Q,e,r,H⟩:=at_ (.refl _) 0 a rfl;exact⟨b,o,e,aC,bg,_,.imm r,j a _ d ts rs ay H c aC aC L⟩
  .have e:op=3:=bk e
   subst e;obtain⟨a,rfl⟩:=Fh (l:=args) (by rw[oa];rfl);simp only[sC]at l1 l2;simp only[gC,if_true,show((3:Int)=2)=False by simp,if_false]at L;obtain⟨b,o,P,Q,e,r,H⟩:=at_ (.refl _) 0 a rfl;have rc:=(OC r).2.2.1;have hx:=dV (dU a.env d (pR co)) ts;refine⟨b,o,e,aC,bg,_,.imm r,b,o,e,aC,bg,_,.imm rc,r,rc,v.query.columns,co,rfl,x.columns_,b4,λs h1 R a8=>⟨r.mono R,a.env,d,s,pR co,A,cb,B,ts,rs,rfl,a8,Nat.le_trans (QB co co.length) b4,c.mono R,T,aC,λm2 h2 C M=>⟨rc.mono (R.trans C),?_⟩⟩⟩;have M:gT A m2 h2 cb B (bV (dU a.env d (pR co)) ts).1 rs:=M;exact j a _ _ _ _ ay (H.mono (R.trans C)) M aC aC (λJ I g E=>L J I ((R.trans C).trans g) E)
  .have e:op=4:=bk e
   subst e;obtain⟨a,f,rfl⟩:=rL (l:=args) (by rw[oa];rfl);simp only[sC]at l1 l2;simp only[gC,if_true]at L;obtain⟨b,o,P,Q,e,r,H⟩:=at_ (.refl _) 0 a rfl;obtain⟨b',o',W,O,e',n,F⟩:=at_ (.refl _) 1 f rfl;have wa:=(a6 a ay).w;have wb:=(a6 f ay).w;have a1:=dV (dU d f.rows (BO a.width f.width)) ts;have c1:=dV (oR (bV (dU d f.rows (BO a.width f.width)) ts).2 (iV 0 a.width)) (bV (dU d f.rows (BO a.width f.width)) ts).1;have a2:=iP a (bV (oR (bV (dU d f.rows (BO a.width f.width)) ts).2 (iV 0 a.width)) (bV (dU d f.rows (BO a.width f.width)) ts).1).2 (bV (oR (bV (dU d f.rows (BO a.width f.width)) ts).2 (iV 0 a.width)) (bV (dU d f.rows (BO a.width f.width)) ts).1).1 rs;generalize hZ:gC a (bV (oR (bV (dU d f.rows (BO a.width f.width)) ts).2 (iV 0 a.width)) (bV (dU d f.rows (BO a.width f.width)) ts).1).2 (bV (oR (bV (dU d f.rows (BO a.width f.width)) ts).2 (iV 0 a.width)) (bV (dU d f.rows (BO a.width f.width)) ts).1).1 rs=Z at*
   have a5:=dV (oR d (iV a.width f.width)) Z.1;refine⟨λx=>x=(⟨P,Q,a.rows,a.env,a.width⟩,⟨W,O,f.rows,f.env,f.width⟩),⟨b,o,e,aC,bg,_,.imm r,b',o',e',aC,bg,_,.imm n,⟨.imm r,.imm n,.imm r,.imm n,n,_,rfl,MT⟩,.imm r,.imm n,.imm r,.imm n,n,_,rfl,MT⟩,?_⟩;rintro _ rfl;obtain⟨k,hk⟩:∃k:Nat,f.width=k:=⟨f.width.toNat,aC⟩
   refine⟨λx=>x.1<=k/\x.2.1=BO a.width (x.1:Nat)/\x.2.2=(⟨P,Q,a.rows,a.env,a.width⟩,⟨W,O,f.rows,f.env,f.width⟩),λx=>k-x.1,⟨(0,[],_,_),⟨aC,rfl,rfl⟩,MT⟩,?_⟩;rintro⟨i,l,yz⟩ ⟨hi,X,e2⟩;dsimp only at hi X e2⊢
   subst X e2;have d3:(BO a.width (i:Nat)).length=i:=by simp[BO]
   refine aF (λc8=>?_) (λc9=>?_)
   .have c8:(i:Int)<(k:Int):=bg
    refine⟨bg,bg,(i+1,BO a.width ((i+1:Nat):Int),_,_),⟨aC,rfl,rfl⟩,aC,?_⟩
    have e:BO a.width ((i+1:Nat):Int)=BO a.width (i:Nat)++[(IntKind.i64.wrap (a.width+(i:Int)),(i:Int))]:=by
     rw[fB aC aC];simp[BO,range_succ]
    rw[e,map_append];exact MT
   .have c9:¬(i:Int)<(k:Int):=bg
    obtain rfl:i=k:=by omega
    rw[hk]at a1 c1 a2 hZ;refine⟨λx=>x.2.1=⟨W,O,f.rows,f.env,f.width⟩/\x.1=⟨P,Q,a.rows,a.env,a.width⟩/\PH.le h x.2.2.2/\gT A x.2.2.1 x.2.2.2 cb B Z.1 Z.2,λs h1 R a8=>⟨d,f.rows,s,BO a.width (i:Nat),A,cb,B,ts,rs,rfl,⟨a8,aC⟩,aC,c.mono R,T,aC,λm2 h2 C M=>?_⟩,?_⟩
    .have M:gT A m2 h2 cb B (bV (dU d f.rows (BO a.width (i:Nat))) ts).1 rs:=M;refine⟨0,a.width,rfl,aC,aC,aC,aC,λO I g a9=>⟨_,O,iV 0 a.width,A,cb,B,(bV (dU d f.rows (BO a.width (i:Nat))) ts).1,rs,rfl,a9,?_,M.mono g,T,aC,λm4 h4 U c4=>?_⟩⟩
     .simp[iV];omega
     .have c4:gT A m4 h4 cb B (bV (oR (bV (dU d f.rows (BO a.width (i:Nat))) ts).2 (iV 0 a.width)) (bV (dU d f.rows (BO a.width (i:Nat))) ts).1).1 rs:=c4;have le:=((R.trans C).trans g).trans U;exact j a _ _ _ _ ay (H.mono le) c4 aC aC (λJ I g E=>⟨(_,_,J,I),⟨rfl,rfl,le.trans g,by rw[<-hZ];exact E⟩,MT⟩)
    .rintro⟨y,z,J,I⟩ ⟨X,e2,g,E⟩;dsimp only at X e2 g E⊢
     subst X e2;refine⟨a.width,f.width,rfl,aC,aC,aC,aC,λO h4 U a9=>⟨d,O,iV a.width f.width,A,cb,B,Z.1,Z.2,rfl,a9,by simp[iV];omega,E.mono U,T,aC,λm5 h5 D S=>?_⟩⟩;have S:gT A m5 h5 cb B (bV (oR d (iV a.width f.width)) Z.1).1 Z.2:=S;have le:=(g.trans U).trans D;exact j f _ _ _ _ ay (F.mono le) S aC aC (λm6 h6 G V=>L m6 h6 (le.trans G) V)
  .have e:op=5:=bk e
   subst e;obtain⟨a,f,rfl⟩:=rL (l:=args) (by rw[oa];rfl);simp only[sC]at l1 l2;simp only[gC,if_true,show((5:Int)=4)=False by simp,if_false]at L;obtain⟨b,o,P,Q,e,r,H⟩:=at_ (.refl _) 0 a rfl;obtain⟨b',o',W,O,e',n,F⟩:=at_ (.refl _) 1 f rfl;have a1:=dV (dU d f.rows on) ts;have a2:=iP a (bV (dU d f.rows on) ts).2 (bV (dU d f.rows on) ts).1 rs;generalize hZ:gC a (bV (dU d f.rows on) ts).2 (bV (dU d f.rows on) ts).1 rs=Z at*
   have a5:=dV (dU f.env d (rM on)) Z.1;refine⟨λx=>x=(⟨P,Q,a.rows,a.env,a.width⟩,⟨W,O,f.rows,f.env,f.width⟩),⟨b,o,e,aC,bg,_,.imm r,b',o',e',aC,bg,_,.imm n,⟨.imm r,.imm n,.imm r,.imm n,n,_,rfl,MT⟩,.imm r,.imm n,.imm r,.imm n,n,_,rfl,MT⟩,?_⟩;rintro _ rfl;refine⟨λx=>x.2.1=⟨W,O,f.rows,f.env,f.width⟩/\PH.le h x.2.2.2/\gT A x.2.2.1 x.2.2.2 cb B Z.1 Z.2,⟨d,f.rows,v.query.on,on,A,cb,B,ts,rs,rfl,x.on_,b5,c,T,aC,λm2 h2 C M=>?_⟩,?_⟩
   .have M:gT A m2 h2 cb B (bV (dU d f.rows on) ts).1 rs:=M;exact j a _ _ _ _ ay (H.mono C) M aC aC (λJ I g E=>⟨(⟨P,Q,a.rows,a.env,a.width⟩,_,J,I),⟨rfl,C.trans g,by rw[<-hZ];exact E⟩,MT⟩)
   .rintro⟨y,z,J,I⟩ ⟨X,g,E⟩;dsimp only at X g E⊢
    subst X;refine⟨v.query.on,on,rfl,x.on_.mono g,b5,λs h4 U hs=>⟨f.env,d,s,rM on,A,cb,B,Z.1,Z.2,rfl,hs,by simp[rM];omega,E.mono U,T,aC,λm5 h5 D S=>?_⟩⟩;have S:gT A m5 h5 cb B (bV (dU f.env d (rM on)) Z.1).1 Z.2:=S;have le:=(g.trans U).trans D;exact j f _ _ _ _ ay (F.mono le) S aC aC (λm6 h6 G V=>L m6 h6 (le.trans G) V)
  .have e:op=6:=bk e
   subst e;obtain⟨a,f,rfl⟩:=rL (l:=args) (by rw[oa];rfl);simp only[sC]at l1 l2;simp only[gC,if_true,show((6:Int)=4)=False by simp,show((6:Int)=5)=False by simp,if_false]at L;obtain⟨b,o,P,Q,e,r,H⟩:=at_ (.refl _) 0 a rfl;have rc:=(OC r).2.2.1;have a1:=dV (cM a.env d) ts;have a2:=iP a (bV (cM a.env d) ts).2 (bV (cM a.env d) ts).1 rs;generalize hZ:gC a (bV (cM a.env d) ts).2 (bV (cM a.env d) ts).1 rs=Z at*
   have a5:=dV (cM f.env d) Z.1;refine⟨λx=>PH.le h x.2/\gT A x.1 x.2 cb B Z.1 Z.2,⟨b,o,e,aC,bg,_,.imm r,b,o,e,aC,bg,_,.imm rc,r,a.env,d,A,cb,B,ts,rs,rfl,c,T,aC,λm2 h2 C M=>⟨rc.mono C,?_⟩⟩,?_⟩
   .have M:gT A m2 h2 cb B (bV (cM a.env d) ts).1 rs:=M;exact j a _ _ _ _ ay (H.mono C) M aC aC (λJ I g E=>⟨(J,I),⟨C.trans g,by rw[<-hZ];exact E⟩,MT⟩)
   .rintro⟨J,I⟩ ⟨g,E⟩;dsimp only at g E⊢
    obtain⟨b',o',W,O,e',n,F⟩:=at_ g 1 f rfl;have b8:=(OC n).2.2.1;refine⟨b',o',e',aC,bg,_,.imm n,b',o',e',aC,bg,_,.imm b8,n,f.env,d,A,cb,B,Z.1,Z.2,rfl,E,T,aC,λm5 h5 D S=>⟨b8.mono D,?_⟩⟩;have S:gT A m5 h5 cb B (bV (cM f.env d) Z.1).1 Z.2:=S;exact j f _ _ _ _ ay (F.mono D) S aC aC (λm6 h6 G V=>L m6 h6 ((g.trans D).trans G) V)
  .have e:op=7:=bk e
   subst e;obtain⟨a,f,rfl⟩:=rL (l:=args) (by rw[oa];rfl);simp only[sC]at l1 l2;simp only[gC,if_true,show((7:Int)=4)=False by simp,show((7:Int)=5)=False by simp,show((7:Int)=6)=False by simp,if_false,true_or]at L;obtain⟨b,o,P,Q,e,r,H⟩:=at_ (.refl _) 0 a rfl;obtain⟨b',o',W,O,e',n,F⟩:=at_ (.refl _) 1 f rfl;have a2:=iP a d ts rs;generalize hZ:gC a d ts rs=Z at*
   have a1:=dV (cM f.env d) Z.1;have a5:=dV (cM (bV (cM f.env d) Z.1).2 a.rows) (bV (cM f.env d) Z.1).1;refine⟨λx=>x=(⟨P,Q,a.rows,a.env,a.width⟩,⟨W,O,f.rows,f.env,f.width⟩),⟨b,o,e,aC,bg,_,.imm r,b',o',e',aC,bg,_,.imm n,⟨.imm r,.imm n,.imm r,.imm n,n,_,rfl,MT⟩,.imm r,.imm n,.imm r,.imm n,n,_,rfl,MT⟩,?_⟩;rintro _ rfl;refine⟨λx=>x.1=⟨P,Q,a.rows,a.env,a.width⟩/\x.2.1=⟨W,O,f.rows,f.env,f.width⟩/\PH.le h x.2.2.2/\gT A x.2.2.1 x.2.2.2 cb B Z.1 Z.2,j a _ _ _ _ ay H c aC aC (λJ I g E=>⟨(_,_,J,I),⟨rfl,rfl,g,bg⟩,MT⟩),?_⟩;rintro⟨y,z,J,I⟩ ⟨X,e2,g,E⟩;dsimp only at X e2 g E⊢
   subst X e2;refine⟨f.env,d,A,cb,B,Z.1,Z.2,rfl,E,T,aC,λm5 h5 D S=>⟨_,a.rows,A,cb,B,(bV (cM f.env d) Z.1).1,Z.2,rfl,S,T,aC,λm6 h6 G V=>?_⟩⟩;have V:gT A m6 h6 cb B (bV (cM (bV (cM f.env d) Z.1).2 a.rows) (bV (cM f.env d) Z.1).1).1 Z.2:=V;have le:=(g.trans D).trans G;exact j f _ _ _ _ ay (F.mono le) V aC aC (λm7 h7 b0 c7=>L m7 h7 (le.trans b0) c7)
  .have e:op=8:=bk e
   subst e;obtain⟨a,f,rfl⟩:=rL (l:=args) (by rw[oa];rfl);simp only[sC]at l1 l2;simp only[gC,if_true,show((8:Int)=4)=False by simp,show((8:Int)=5)=False by simp,show((8:Int)=6)=False by simp,if_false,or_true]at L;obtain⟨b,o,P,Q,e,r,H⟩:=at_ (.refl _) 0 a rfl;obtain⟨b',o',W,O,e',n,F⟩:=at_ (.refl _) 1 f rfl;have a2:=iP a d ts rs;generalize hZ:gC a d ts rs=Z at*
   have a1:=dV (cM f.env d) Z.1;have a5:=dV (cM (bV (cM f.env d) Z.1).2 a.rows) (bV (cM f.env d) Z.1).1;refine⟨λx=>x=(⟨P,Q,a.rows,a.env,a.width⟩,⟨W,O,f.rows,f.env,f.width⟩),⟨b,o,e,aC,bg,_,.imm r,b',o',e',aC,bg,_,.imm n,⟨.imm r,.imm n,.imm r,.imm n,n,_,rfl,MT⟩,.imm r,.imm n,.imm r,.imm n,n,_,rfl,MT⟩,?_⟩;rintro _ rfl;refine⟨λx=>x.1=⟨P,Q,a.rows,a.env,a.width⟩/\x.2.1=⟨W,O,f.rows,f.env,f.width⟩/\PH.le h x.2.2.2/\gT A x.2.2.1 x.2.2.2 cb B Z.1 Z.2,j a _ _ _ _ ay H c aC aC (λJ I g E=>⟨(_,_,J,I),⟨rfl,rfl,g,bg⟩,MT⟩),?_⟩;rintro⟨y,z,J,I⟩ ⟨X,e2,g,E⟩;dsimp only at X e2 g E⊢
   subst X e2;refine⟨f.env,d,A,cb,B,Z.1,Z.2,rfl,E,T,aC,λm5 h5 D S=>⟨_,a.rows,A,cb,B,(bV (cM f.env d) Z.1).1,Z.2,rfl,S,T,aC,λm6 h6 G V=>?_⟩⟩;have V:gT A m6 h6 cb B (bV (cM (bV (cM f.env d) Z.1).2 a.rows) (bV (cM f.env d) Z.1).1).1 Z.2:=V;have le:=(g.trans D).trans G;exact j f _ _ _ _ ay (F.mono le) V aC aC (λm7 h7 b0 c7=>L m7 h7 (le.trans b0) c7)
  .have e:op=9:=bk e
   subst e;obtain⟨a,rfl⟩:=Fh (l:=args) (by rw[oa];rfl);simp only[sC]at l1 l2;simp only[gC,if_true,show((9:Int)=2)=False by simp,show((9:Int)=3)=False by simp,if_false]at L;obtain⟨b,o,P,Q,e,r,H⟩:=at_ (.refl _) 0 a rfl;have hx:=CM a d gr od li ts;refine⟨b,o,e,aC,bg,_,.imm r,b,o,e,aC,bg,_,.imm r,r,_,a,d,v.query,9,ta,w,co,on,gr,od,li,a3,A,cb,B,ts,rs,rfl,H,hq,b6,b7,c,T,aC,λm2 h2 C M=>⟨r.mono C,j a _ _ _ _ ay (H.mono C) M aC aC (λJ I g E=>L J I (C.trans g) E)⟩⟩
  .have e:op=10:=bk e
   subst e;obtain⟨a,f,rfl⟩:=rL (l:=args) (by rw[oa];rfl);simp only[sC]at l1 l2;simp only[gC,if_true,show((10:Int)=4)=False by simp,show((10:Int)=5)=False by simp,show((10:Int)=6)=False by simp,show((10:Int)=7)=False by simp,show((10:Int)=8)=False by simp,if_false,or_false]at L;obtain⟨b,o,P,Q,e,r,H⟩:=at_ (.refl _) 0 a rfl;have a2:=iP a d ts rs;generalize hZ:gC a d ts rs=Z at*
   have a1:=CM f d gr od li Z.1;refine⟨λx=>PH.le h x.2/\gT A x.1 x.2 cb B Z.1 Z.2,⟨b,o,e,aC,bg,_,.imm r,j a _ _ _ _ ay H c aC aC (λJ I g E=>⟨(J,I),⟨g,bg⟩,MT⟩)⟩,?_⟩;rintro⟨J,I⟩ ⟨g,E⟩;dsimp only at g E⊢
   obtain⟨b',o',W,O,e',n,F⟩:=at_ g 1 f rfl;exact⟨b',o',e',aC,bg,_,.imm n,b',o',e',aC,bg,_,.imm n,n,_,f,d,v.query,10,ta,w,co,on,gr,od,li,a3,A,cb,B,Z.1,Z.2,rfl,F,hq.mono g,b6,b7,E,T,aC,λm5 h5 D S=>⟨n.mono D,j f _ _ _ _ ay (F.mono D) S aC aC (λm6 h6 G V=>L m6 h6 ((g.trans D).trans G) V)⟩⟩
  .exfalso;have h0:0<=arity op:=by omega
   simp only[beq_eq_false_iff_ne]at n1 n2 n3 n4 n5 n6 n7 n8 n9 c0;unfold arity at h0
   grind
def cUJ:Vc.Spec:=λc m h K=>∃v p d e cb f ts rs,c=[cP cb,aPN v,cI d]/\pA h p v/\IN p/\gT e m h cb f ts rs/\eA e/\ts.length+5*kY p<=90000/\rs.length+kY p<=90000/\
 ∀m' h',PH.le h h'->gT e m' h' cb f (gC p d ts rs).1 (gC p d ts rs).2->K (.tup []) m' h'
theorem a4J:bm 43 cUJ:=mM aDQ λ_ _ _ _⟨v,p,d,c,cb,f,ts,rs,e,g,j,n,o,u,y,z⟩=>⟨SizeOf.sizeOf p+1,v,p,d,c,cb,f,ts,rs,e,g,aC,j,n,o,u,y,z⟩
def Ri(r:ca)(o:OV):VV:=if o.kind=3 then o.value else if o.kind=1/\0<=o.index/\o.index<r.length then r.getD o.index.toNat zeroV else zeroV
def blQ(d c:Int):Bool:=if d=1 then c==0 else if d=2 then c !=0 else if d=3 then decide (c<0)else if d=4 then decide (c<=0)else if d=5 then decide (c>0)else if d=6 then decide (c>=0)else false
def Jt(c:Int)(a b:VV):Bool:=pI a&&pI b&&a.kind==b.kind&&blQ c (oZ a b)
mutual
def nP(r:ca):Pred->Bool
 |.mk op c a b args=>if op=1 then true else if op=3 then Jt c (Ri r a) (Ri r b)else if op=4 then Hi r args else if op=5 then Hh r args else if op=6 then WW r args else false
def Hi(r:ca):cn->Bool
 |[]=>true
 |p::ps=>nP r p&&Hi r ps
def Hh(r:ca):cn->Bool
 |[]=>false
 |p::ps=>nP r p||Hh r ps
def WW(r:ca):cn->Bool
 |[]=>false
 |p::_=> !nP r p
end
theorem NZ(r:ca):∀ps,Hi r ps=ps.all (nP r)
 |[]=>by simp[Hi]
 |p::ps=>by simp[Hi,NZ r ps]
theorem NY(r:ca):∀ps,Hh r ps=ps.any (nP r)
 |[]=>by simp[Hh]
 |p::ps=>by simp[Hh,NY r ps]
def DenS:Vc.Spec:=λc m h K=>∃o s r,c=[aO o,cS s,EZ]/\bS h s r/\K (aV (Ri r o)) m h
def Ou(p:Int->Bool):Vc.Spec:=λd m h K=>∃c,d=[cI c]/\K (cB (p c)) m h
def cBQ:Vc.Spec:=λc m h K=>∃op,c=[cI op]/\
 branch (op==1) (K (fv 202) m h) (branch (op==2) (K (fv 203) m h) (branch (op==3) (K (fv 204) m h) (branch (op==4) (K (fv 205) m h) (branch (op==5) (K (fv 206) m h) (branch (op==6) (K (fv 207) m h) (K (.val .nilFunc) m h))))))
def bZZ(N:Nat):Vc.Spec:=λc m h K=>∃v s p r,c=[aP v,cS s,EZ]/\fH h p v/\bS h s r/\SizeOf.sizeOf p<N/\K (cB (nP r p)) m h
def asX:Vc.Spec:=λc m h K=>∃v s p r,c=[aP v,cS s,EZ]/\fH h p v/\bS h s r/\K (cB (nP r p)) m h
noncomputable def b9Q(N:Nat)(v:PV)(s:Sl)(m:MH)(h:PH):Ctx:=
 dE [(157,DenS),(158,Ud),(159,cBQ),(156,Um),(97,bZZ N),(202,Ou (λc=>c==0)),(203,Ou (λc=>c !=0)),(204,Ou (λc=>decide (c<0))),(205,Ou (λc=>decide (c<=0))),(206,Ou (λc=>decide (c>0))),(207,Ou (λc=>decide (c>=0)))] [(12,{A:=Nat,st:=λi=>bU 102 105 [(1,sv s),(2,vv oM),(60,sv v.args),(61,iv v.args.len),(62,iv i)] [] m h}),
  (20,{A:=Nat,st:=λi=>bU 102 105 [(1,sv s),(2,vv oM),(75,sv v.args),(76,iv v.args.len),(77,iv i)] [] m h})] [(6,{A:=VV×VV,st:=λ⟨a,b⟩=>bU 102 105 [(3,.at (.ptr 3 0)),(7,.at (.ptr 7 0)),(8,.at (.ptr 8 0))] [(3,.cells 35 (v.enc.map .val)),(7,.cells 30 (a.enc.map .val)),(8,.cells 30 (b.enc.map .val))] m h})] [] false
def Tu(o:OV)(s:Sl)(m:MH)(h:PH)(K:bo):Prop:=
  dR (o.kind==3) (K (j4 o.value) m h) (o.kind==2) (aY o.index 0 (K (kQ zD) m h) (iA o.index 0 (K (kQ zD) m h) (bJ (λb c=>aI (aW Option.none b c) (0<=o.index) (o.index<0) (∃(y:VV),aK m h b (c+gY o.index 3) y.enc/\K (j4 y) m h))))) (eU o.kind 1 (aY o.index 0 (K (kQ zD) m h) (iA o.index (aH s) (K (kQ zD) m h) (bJ (λb c=>aI (aW s.a b c) (0<=o.index) (o.index<aH s) (∃(y:VV),aK m h b (c+gY o.index 3) y.enc/\K (j4 y) m h))))) (K (kQ zD) m h))
def MV(op:Int)(m:MH)(h:PH)(K:bo):Prop:=
  ∀(b:Nat)(e:MH),bG (cF m h b) (bK m e b (bF Value.nilFunc Value.nilFunc (bF Value.nilFunc Value.nilFunc (bF Value.nilFunc Value.nilFunc K3))) 248) (jN (λc E=>aA (yA e b (gG c E 0)) (7<=c.size) (∀(d:MH),bK e d b (bF Value.nilFunc (p8 202) (bF (p8 203) (p8 204) (bF (p8 205) (p8 206) (fA (p8 207) 7 c)))) E->aY op 0 (K (CV.val Value.nilFunc) d h) (iA op 7 (K (CV.val Value.nilFunc) d h) (aA (cH op) (op<7) (∃(y:Option Nat),aK d h b (0+gY op 1) (oN (bOZ y))/\K (CV.val (bOZ y)) d h))))))
def baJ(c:Int)(m:MH)(h:PH)(K:bo):Prop:=
  K (Af (c==0)) m h
def baZ(c:Int)(m:MH)(h:PH)(K:bo):Prop:=
  K (Af (c !=0)) m h
def baX(c:Int)(m:MH)(h:PH)(K:bo):Prop:=
  K (Af (decide (c<0))) m h
def baQ(c:Int)(m:MH)(h:PH)(K:bo):Prop:=
  K (Af (decide (c<=0))) m h
def a9J(c:Int)(m:MH)(h:PH)(K:bo):Prop:=
  K (Af (decide (c>0))) m h
def a9Z(c:Int)(m:MH)(h:PH)(K:bo):Prop:=
  K (Af (decide (c>=0))) m h
abbrev xS(a:OV)(b:Sl):cr:=cC a.enc (fZ b EZ)
abbrev kR(a:ca)(b:OV)(c:VV):Prop:=oQ 30 (gA (At.val (fV (Ri a b).kind)) (At.val (fV (Ri a b).int)) (wA (At.val (Value.string (Ri a b).text))))=pZ 30 c.enc
abbrev yV(a:PV)(b:Sl)(c:PH)(d:VV×VV->Prop)(e:(VV×VV)->Prop)(g:OV->ca->(VV×VV)->Prop)(i:MH):Prop:=∃(x:OV),oS (λj n=>aA (xS a.right b=xS x j) (bS c j n) (∃(f:VV×VV),aA (d f) jR (aA (eP 7) iH (aA (nY a) (e f) (aA (g x n f) (i=i) (bT c c))))))
abbrev FE(a:VV×VV)(b:Int->Prop):Prop:=∃(x c:VV),eF a.1.enc (j4 a.2)=eF x.enc (j4 c)/\∃(d:Int),rR (oZ x c) d/\b d
abbrev H6(a:PV->Sl->Pred->ca->Prop):Prop:=∃(x:PV)(c:Sl)(d:Pred)(e:ca),a x c d e
abbrev zC(a:PV)(b:Sl):cr:=cC a.enc (fZ b EZ)
attribute [push_cast] xS kR yV FE H6 zC
def W5(N:Nat)(v:PV)(s:Sl)(m:MH)(h:PH)(K:bo):Prop:=
  dR (v.op==1) (K iM m h) (v.op==3) (∃(I:VV×VV->Prop),aI (∃(o:OV),oS (λd r=>aA (xS v.left s=xS o d) (bS h d r) (aA (∃(e:OV),oS (λu f=>aI (xS v.right s=xS e u) (bS h u f) (∃(x:VV×VV),aA (I x) jR (aA (eP 7) iH (aA (nY v) (kR r o x.1) (aA (kR f e x.2) (m=m) (bT h h))))) (∃(x:VV×VV),aA (I x) jR (aA (eP 7) iH (aA (nY v) (kR r o x.1) (aA (kR f e x.2) (m=m) (bT h h))))))) (yV v s h I (λx=>kR r o x.1) (λe f x=>kR f e x.2) m/\yV v s h I (λx=>kR r o x.1) (λe f x=>kR f e x.2) m) (yV v s h I (λx=>kR r o x.1) (λe f x=>kR f e x.2) m/\yV v s h I (λx=>kR r o x.1) (λe f x=>kR f e x.2) m)))) ((∃(o:OV),oS (fun
 d r=>aI (xS v.left s=xS o d) (bS h d r) (yV v s h I (λx=>kR r o x.1) (λe f x=>kR f e x.2) m) (yV v s h I (λx=>kR r o x.1) (λe f x=>kR f e x.2) m)))/\∃(o:OV),oS (λd r=>aA (xS v.left s=xS o d) (bS h d r) (yV v s h I (λx=>kR r o x.1) (λe f x=>kR f e x.2) m))) (∃(o:OV),oS (λd r=>aI (xS v.left s=xS o d) (bS h d r) (yV v s h I (λx=>kR r o x.1) (λe f x=>kR f e x.2) m) (yV v s h I (λx=>kR r o x.1) (λe f x=>kR f e x.2) m))) (∃(o:OV),oS (λd r=>aA (xS v.left s=xS o d) (bS h d r) (yV v s h I (λx=>kR r o x.1) (λe f x=>kR f e x.2) m)))/\∀(x:VV×VV),I x->∃(g:VV),hX (eO (j4 x.1) (j4 g))
 (!(pI g)) (K bH m h) (∃(z:VV),eO (j4 x.2) (j4 z)/\dR (!(pI z)) (K bH m h) (x.1.kind !=x.2.kind) (K bH m h) (AP v.cmp (λo=>dR (o==1) (FE x (λc=>K (Af (c==0)) m h)) (o==2) (FE x (λc=>K (Af (c !=0)) m h)) (dR (o==3) (FE x (λc=>K (Af (decide (c<0))) m h)) (o==4) (FE x (λc=>K (Af (decide (c<=0))) m h)) (dR (o==5) (FE x (λc=>K (Af (decide (c>0))) m h)) (o==6) (FE x (λc=>K (Af (decide (c>=0))) m h)) (K bH m h))))))) (dR (v.op==4) (pN (λI x=>aA (I x) (aJ s) (aA (eQ sQn) (aJ v.args) (aA (bI v.args) (bA x) (aA (m=m) (h=h) True)))) (λI n x=>I x->aY (↑x:Int) (aH v.args) (bJ (λb o=>aI (aW v.args.a b o) (0<=(↑x:Int)) ((↑x:Int)<aH v.args) (∃(y:PV),aK m h b (o+bM x
 13) y.enc/\H6 (λg d p r=>aA (zC y s=zC g d) (fH h p g) (aA (bS h d r) (sJ p N) (nX (nP r p) (K bH m h) (∃(j:Nat),aA (I j) (n j<n x) (aA (aJ s) (eQ sQn) (aA (aJ v.args) (bI v.args) (aA (gK (bE x 1)=bO j) (m=m) (bT h h))))))))))) (K iM m h))) (v.op==5) (pN (λI x=>aA (I x) (aJ s) (aA (eQ sQn) (aJ v.args) (aA (bI v.args) (bA x) (aA (m=m) (h=h) True)))) (λI n x=>I x->aY (↑x:Int) (aH v.args) (bJ (λb o=>aI (aW v.args.a b o) (0<=(↑x:Int)) ((↑x:Int)<aH v.args) (∃(y:PV),aK m h b (o+bM x 13) y.enc/\H6 (λg d p r=>aA (zC y s=zC g d) (fH h p g) (aA (bS h d r) (sJ p N) (branch (nP r p) (K iM m h) (∃(j:Nat),aA (I j) (n j<n x) (aA (aJ s) (eQ sQn) (aA
 (aJ v.args) (bI v.args) (aA (gK (bE x 1)=bO j) (m=m) (bT h h))))))))))) (K bH m h))) (eU v.op 6 (fR (uI v) 0 (bJ (λb o=>aI (aW v.args.a b o) ((0:Int)<=0) (0<aH v.args) (∃(y:PV),aK m h b (o+0) y.enc/\H6 (λg d p r=>aA (zC y s=zC g d) (fH h p g) (aA (bS h d r) (sJ p N) (K (CV.val (Value.bool (!(nP r p)))) m h)))))) (K bH m h)) (K bH m h)))
theorem aeJ:bm 157 DenS:=by
 refine iQ func157 ?_;rintro z m h K ⟨o,s,r,rfl,n,c⟩;refine⟨dE [] [] [] [] false,rfl,aG,Tu o s m h K,ax,?_⟩;dsimp only[Tu,push_cast];have A:=bL.slen n;unfold Ri at c;refine aD (λd=>?_) (λd=>aD (λu=>?_) (λu=>aD (λf=>?_) (λf=>?_)))
 .rw[if_pos bg]at c;exact c
 .have u:o.kind=2:=bg
  rw[if_neg aC,if_neg aC]at c;exact aF (λ_=>c) (λy=>aF (λ_=>c) (λg=>absurd (show o.index>=((0:Nat):Int)by omega) g))
 .have d:o.kind≠3:=bg
  have f:o.kind=1:=bg
  rw[if_neg d]at c;refine aF (λy=>?_) (λy=>aF (λg=>?_) (λg=>?_))
  .rw[if_neg aC]at c;exact c
  .rw[if_neg aC]at c;exact c
  .rw[if_pos ⟨f,aC,aC⟩]at c
   have B:r[o.index.toNat]? =some (r.getD o.index.toNat zeroV):=by
    grind
   obtain⟨b,j,v,e,rd,rfl⟩:=bL.at n B;exact⟨b,j,e,aC,aC,_,.imm rd,c⟩
 .have d:o.kind≠3:=bg
  have f:o.kind≠1:=bg
  rw[if_neg d,if_neg (λe=>f e.1)]at c;exact c
theorem aeZ:bm 159 cBQ:=by
 refine EN func159 ?_;rintro o m h K ⟨op,rfl,f⟩;refine⟨qV [] [] [] [] [248] [] false,rfl,aG,MV op m h (lR h K),ax,?_⟩;show MV op m h (lR h K);dsimp only[MV,push_cast];intro b G n g;refine⟨_,_,⟨g.at_⟩,az,λu j=>?_⟩;have c:Sub m u:=((Sub.refl m).upd n.m_ g.other).upd n.m_ j.other;have e:=j.at_
 have d:∀k,¬(1<=op/\op<=6)->op=k->K (.val .nilFunc) m h:=λk H _=>by
  have:(op==1)=false/\(op==2)=false/\(op==3)=false/\(op==4)=false/\(op==5)=false/\(op==6)=false:=by
   grind
  obtain⟨y,z,A,B,C,D⟩:=this;rw[y,z,A,B,C,D]at f;exact f
 refine aF (λE=>.sub c (d _ aC rfl)) (λE=>aF (λF=>.sub c (d _ aC rfl)) (λF=>⟨aC,aC,?_⟩));have:op=0\/op=1\/op=2\/op=3\/op=4\/op=5\/op=6:=by omega
 rcases this with rfl|rfl|rfl|rfl|rfl|rfl|rfl
 .exact⟨none,.lent _ _ _ e rfl,.sub c (d 0 aC rfl)⟩
 .exact⟨some 202,.lent _ _ _ e rfl,.sub c f⟩
 .exact⟨some 203,.lent _ _ _ e rfl,.sub c f⟩
 .exact⟨some 204,.lent _ _ _ e rfl,.sub c f⟩
 .exact⟨some 205,.lent _ _ _ e rfl,.sub c f⟩
 .exact⟨some 206,.lent _ _ _ e rfl,.sub c f⟩
 .exact⟨some 207,.lent _ _ _ e rfl,.sub c f⟩
theorem ZV:bm 202 (Ou (λc=>c==0)):=by
 refine iQ func202 ?_;rintro d m h K ⟨c,rfl,e⟩;refine⟨dE [] [] [] [] false,rfl,aG,baJ c m h K,ax,?_⟩;exact e
theorem ZU:bm 203 (Ou (λc=>c !=0)):=by
 refine iQ func203 ?_;rintro d m h K ⟨c,rfl,e⟩;refine⟨dE [] [] [] [] false,rfl,aG,baZ c m h K,ax,?_⟩;exact e
theorem ZT:bm 204 (Ou (λc=>decide (c<0))):=by
 refine iQ func204 ?_;rintro d m h K ⟨c,rfl,e⟩;refine⟨dE [] [] [] [] false,rfl,aG,baX c m h K,ax,?_⟩;exact e
theorem ZS:bm 205 (Ou (λc=>decide (c<=0))):=by
 refine iQ func205 ?_;rintro d m h K ⟨c,rfl,e⟩;refine⟨dE [] [] [] [] false,rfl,aG,baQ c m h K,ax,?_⟩;exact e
theorem ZR:bm 206 (Ou (λc=>decide (c>0))):=by
 refine iQ func206 ?_;rintro d m h K ⟨c,rfl,e⟩;refine⟨dE [] [] [] [] false,rfl,aG,a9J c m h K,ax,?_⟩;exact e
theorem ZQ:bm 207 (Ou (λc=>decide (c>=0))):=by
 refine iQ func207 ?_;rintro d m h K ⟨c,rfl,e⟩;refine⟨dE [] [] [] [] false,rfl,aG,a9Z c m h K,ax,?_⟩;exact e
theorem aBQ:∀N,bm 97 (bZZ N)
 |0=>by
  refine fK (fn:=Tryz.f97) (c:=dX Tryz.f97) func97 rfl az ?_;rintro S m h K ⟨v,s,p,r,rfl,_,_,hN,_⟩;omega
 |N+1=>by
  refine iQ func97 ?_;rintro S m h K ⟨v,s,p,r,rfl,hp,C,hN,d⟩;refine⟨b9Q N v s m h,rfl,aE aeJ (aE Gl (aE aeZ (aE Jv (aE (aBQ N) (aE ZV (aE ZU (aE ZT (aE ZS (aE ZR (aE ZQ aG)))))))))),W5 N v s m h K,ax,?_⟩;dsimp only[W5,push_cast];have o:=@Bq p;obtain⟨op,a',l,q,ps⟩:=p;obtain⟨rfl,rfl,rfl,rfl,D⟩:=hp.parts;have T:=D.slen;have Y:=D.len;simp only[Pred.args]at o;simp only[nP]at d;refine aD (λZ=>?_) (λZ=>aD (λh3=>?_) (λh3=>aD (λh4=>?_) (λh4=>aD (λh5=>?_) (λh5=>aD (λh6=>?_) (λh6=>?_)))))
  .rw[if_pos bg]at d;exact d
  all_goals have n1:v.op≠1:=bk Z
  .rw[if_neg n1,if_pos bg]at d;refine⟨λx=>x=(Ri r v.left,Ri r v.right),?_,?_⟩
   .repeat' (first|exact⟨_,rfl,MT⟩|refine⟨v.left,s,r,rfl,C,?_⟩|refine⟨v.right,s,r,rfl,C,?_⟩|refine And.intro ?_ ?_)
   .rintro⟨a,b⟩ E;simp only[Prod.mk.injEq]at E;obtain⟨rfl,rfl⟩:=E;generalize Ri r v.left=a at d⊢
    generalize Ri r v.right=b at d⊢
    have U:Jt v.cmp a b=false->K (cB false) m h:=λe=>bg
    refine⟨a,rfl,aD (λn=>U ?_) (λn=>⟨b,rfl,aD (λF=>U ?_) (λF=>aD (λG=>U ?_) (λG=>⟨v.cmp,rfl,?_⟩))⟩)⟩
    .have n:pI a=false:=bg
     simp[Jt,n]
    .have F:pI b=false:=bg
     simp[Jt,F]
    .have G:a.kind≠b.kind:=bg
     simp[Jt,G]
    .have n:pI a=true:=bg
     have F:pI b=true:=bg
     have G:a.kind=b.kind:=bg
     have e4:Jt v.cmp a b=blQ v.cmp (oZ a b):=by simp[Jt,n,F,G]
     rw[e4]at d;unfold blQ at d;refine aD (λz=>?_) (λz=>aD (λA=>?_) (λA=>aD (λB=>?_) (λB=>aD (λH=>?_) (λH=>aD (λQ=>?_) (λQ=>aD (λV=>?_) (λV=>?_))))))
     all_goals simp only[beq_iff_eq,beq_eq_false_iff_ne]at*
     .rw[if_pos z]at d;exact⟨a,b,rfl,_,rfl,d⟩
     .rw[if_neg z,if_pos A]at d;exact⟨a,b,rfl,_,rfl,d⟩
     .rw[if_neg z,if_neg A,if_pos B]at d;exact⟨a,b,rfl,_,rfl,d⟩
     .rw[if_neg z,if_neg A,if_neg B,if_pos H]at d;exact⟨a,b,rfl,_,rfl,d⟩
     .rw[if_neg z,if_neg A,if_neg B,if_neg H,if_pos Q]at d;exact⟨a,b,rfl,_,rfl,d⟩
     .rw[if_neg z,if_neg A,if_neg B,if_neg H,if_neg Q,if_pos V]at d;exact⟨a,b,rfl,_,rfl,d⟩
     .rw[if_neg z,if_neg A,if_neg B,if_neg H,if_neg Q,if_neg V]at d;exact d
  all_goals have n3:v.op≠3:=bk h3
  all_goals rw[if_neg n1,if_neg n3]at d
  .rw[if_pos bg,NZ]at d;refine⟨λi=>i<=ps.length/\∀j:Nat,j<i->∀x,ps[j]? =some x->nP r x=true,λi=>ps.length-i,⟨0,⟨aC,λj I=>by omega⟩,MT⟩,λi⟨hi,J⟩=>aF (λf=>?_) (λW=>?_)⟩
   .obtain⟨x,g⟩:=eV T f;obtain⟨L,M,u,n,R,O⟩:=D.at g;have:=o (mem_of_getElem? g);refine⟨L,M,n,aC,f,u,.imm R,u,s,x,r,rfl,O,C,aC,aD (λX=>?_) (λhe=>⟨i+1,⟨aC,λj I y P=>?_⟩,(show ps.length-(i+1)<ps.length-i by omega),MT⟩)⟩
    .have:ps.all (nP r)=false:=by
      grind
     rw[this]at d;exact d
    grind
   .have:ps.all (nP r)=true:=by
     rw[all_eq_true];intro y P;obtain⟨j,I⟩:=getElem?_of_mem P
     grind
    rw[this]at d;exact d
  all_goals have n4:v.op≠4:=bk h4
  all_goals rw[if_neg n4]at d
  .rw[if_pos bg,NY]at d;refine⟨λi=>i<=ps.length/\∀j:Nat,j<i->∀x,ps[j]? =some x->nP r x=false,λi=>ps.length-i,⟨0,⟨aC,λj I=>by omega⟩,MT⟩,λi⟨hi,J⟩=>aF (λf=>?_) (λW=>?_)⟩
   .obtain⟨x,g⟩:=eV T f;obtain⟨L,M,u,n,R,O⟩:=D.at g;have:=o (mem_of_getElem? g);refine⟨L,M,n,aC,f,u,.imm R,u,s,x,r,rfl,O,C,aC,aD (λhe=>?_) (λX=>⟨i+1,⟨aC,λj I y P=>?_⟩,(show ps.length-(i+1)<ps.length-i by omega),MT⟩)⟩
    .have:ps.any (nP r)=true:=any_eq_true.2 ⟨x,mem_of_getElem? g,he⟩;rw[this]at d;exact d
    grind
   .have:ps.any (nP r)=false:=by
     rw[any_eq_false];intro y P;obtain⟨j,I⟩:=getElem?_of_mem P
     grind
    rw[this]at d;exact d
  all_goals have n5:v.op≠5:=bk h5
  all_goals rw[if_neg n5]at d
  .rw[if_pos bg]at d;refine aF (λh7=>?_) (λh7=>?_)
   .obtain⟨x,g⟩:=eV (i:=0) T aC;obtain⟨L,M,u,n,R,O⟩:=D.at g;have:=o (mem_of_getElem? g)
    have e7:WW r ps= !nP r x:=by
     cases ps with
     |nil=>simp at g
     |cons y _=>simp at g;subst g;rfl
    rw[e7]at d;exact⟨L,M,n,aC,aC,u,.imm aC,u,s,x,r,rfl,O,C,aC,d⟩
   .have:ps=[]:=length_eq_zero_iff.1 aC;subst this;exact d
  .rw[if_neg bg]at d;exact d
theorem SG:bm 97 asX:=mM aBQ λ_ _ _ _⟨v,s,p,r,e,c,d,f⟩=>⟨SizeOf.sizeOf p+1,v,s,p,r,e,c,d,aC,f⟩
structure RZ(h:PH)(b:Nat)(l:br):Prop where
 ex:∃us,I7 h b us/\eX h us l
theorem RZ.mono{l:br}(x:RZ h b l)(le:PH.le h h'):RZ h' b l:=by
 obtain⟨c,d,e⟩:=x.ex;exact⟨c,d.mono le,e.mono le⟩
structure wP(h:PH)(t:Sl)(bs:cm)(ls:List br):Prop where
 row:dC h t 1 (bs.map λb=>[RP b])
 len:bs.length=ls.length
 at_:∀(i b:Nat)(l:br),bs[i]? =some b->ls[i]? =some l->RZ h b l
structure iG(w:Nat)(l:br):Prop where
 row:∀r∈l,Ot r
 wid:∀r∈l,r.length=w
 srt:lN l
 len:l.length<=8000000
def GO(l:br)(x:ca):Bool:=l.any λy=>eW x y==0
theorem D0{l:br}{x:ca}:GO l x=true↔x∈l:=by
 simp only[GO,any_eq_true,beq_iff_eq,lB]
 grind
def VS(ok:Query->List br->Prop)(f:Query->List br->br):Vc.Spec:=λc m h K=>∃v t q g d,c=[aQ v,cS t]/\dG h q v/\wP h t g d/\eA m/\ok q d/\
 ∀e h',PH.le h h'->Rows h' e (f q d)->K (cS e) m h'
def VO:Vc.Spec:=λd m h K=>∃t i f c w,d=[cS t,cB i]/\wP h t f c/\eA m/\2<=c.length/\(∀l∈c,iG w l)/\
 ∀e h',PH.le h h'->Rows h' e ((c.getD 0 []).filter λx=>GO (c.getD 1 []) x==i)->K (cS e) m h'
noncomputable def bCJ:Ctx:=Vl [(71,bjQ)] [(6,{A:=Nat×Nat×Sl×Sl×ca×MH×PH,st:=λ⟨i,b,e,c,l,m,h⟩=>bU 40 42 [(5,vv (.pointer (some ⟨b,0,none⟩))),(6,sv e),(7,.at (.lst 17)),(19,sv c),(20,iv c.len),(21,iv i)] [(17,.lst 30 3 (l.map VV.enc))] m h})] [] [200002,200005,1058]
abbrev Qg(a:Nat)(b:Array Value):bt:=oN (Value.func (Fn.func a) sF b)
abbrev yP(a:Nat):bt:=Qg 214 (BS a)
abbrev AN(a:Option Addr)(b c:Int)(d:Sl)(e:MH)(g:Nat->Nat->Option Value)(i:Nat)(j:Nat->(PH->bt->List bt->Prop)->Prop):Prop:=bJ (λx f=>aI (aW a x f) (b<=c) (c<aH d) (∃(n:Nat),aK e g x (f+i) (yP n)/\∃(o:PH->bt->List bt->Prop),j n o))
attribute [push_cast] Qg yP AN
def MN(v:QV)(t:Sl)(m:MH)(h:PH)(K:bo):Prop:=
  ∀(b:Nat)(o:MH),bG (cF m h b) (bK m o b v.enc 41) (∀(g:Nat)(u:MH),bG (cF o h g) (bK o u g fW 58) (AN t.a 0 0 t u h 0 (λy S=>w8 S h y u (λx I k e=>eT (λf d=>bG (CD x k e) (PH.le h d) (I k f d->∃(j:PV),aK f d b 2 j.enc/\H6 (λB s p r=>aI (zC j e=zC B s) (fH d p B) (bS d s r) (branch (nP r p) (∃(z:Sl),Fq f d g 0 (aR z) (λn=>aI (cT f (dN z) 65 1 n) (kB n) (dO n) (jU (λC A=>fY f A (dN z) C 65 1 (dL n (aR e))->jN (λc E=>aA (yA A g (gG c E 0)) (0<c.size) (∀(D:MH),bK A D g (fA (dP C) 1 c) E->I (k+1) D d)))))) (I (k+1) f d)))))) (λf d=>kS f d g 0 (λj=>K (mQ j) f d)))))
abbrev A0(a:Nat×Nat×Sl×Sl×ca×MH×PH):Sl:=a.2.2.2.1
abbrev FW(a:Nat×Nat×Sl×Sl×ca×MH×PH):List bt:=Ep a.2.2.2.2.1
abbrev rC(a:Nat×Nat×Sl×Sl×ca×MH×PH):MH×PH:=a.2.2.2.2.2
abbrev FB(a b:Sl)(c:Nat->Option Obj)(d:PH)(e:bo):Prop:=∃(x:bx)(f:br),aA (vG (mQ a)=vG (mQ b)) (uN c d b 1 (gH x)) (aA (eX d x f) (f.length<=502633886983) (∀(j:Sl)(g:PH),bQ d g (Rows g j (Eb f)) (e (mQ j) c g)))
attribute [push_cast] A0 FW rC FB
def ML(v:QV)(t:Sl)(m:MH)(h:PH)(K:bo):Prop:=
  ∀(b:Nat)(B:MH),bG (cF m h b) (bK m B b v.enc 41) (∀(z:Nat)(C:MH),bG (cF B h z) (bK B C z fW 58) (AN t.a 0 0 t C h 0 (λy S=>w8 S h y C (λx I k e=>HS x k e h I (λn u g=>aA (aK n u b 15 (aR g)) (cH (aH g)) (aA (aH g<=aH g) (zX g 32) (zU (aH g)/\∃(D:Sl),aK n u b 15 (aR D)/\∃(I1:Nat×Nat×Sl×Sl×ca×MH×PH->Prop)(H:Nat×Nat×Sl×Sl×ca×MH×PH->Nat),(∃(d:Nat×Nat×Sl×Sl×ca×MH×PH),aA (I1 d) (dM z d.2.1) (aA (aZ e d.2.2.1) (eL 17) (aA (aZ D (A0 d)) (bN D (A0 d)) (aA (bA d.1) (bR 30 3 (wG (aH g) zD)=bR 30 3 (FW d)) (aA (dJ n (rC d)) (fC u (rC d)) True)))))/\∀(d:Nat×Nat×Sl×Sl×ca×MH×PH),
 I1 d->aY (↑d.1:Int) (aH (A0 d)) (bJ (λJ o=>aI (aW (A0 d).a J o) (0<=(↑d.1:Int)) ((↑d.1:Int)<aH (A0 d)) (∃(j:Int),aK (rC d).1 (rC d).2 J (o+bM d.1 1) (bB j)/\bJ (λL M=>aI (aW d.2.2.1.a L M) (0<=j) (j<aH d.2.2.1) (∃(A:VV),Cy (aK (rC d).1 (rC d).2 L (M+gY j 3) A.enc) 0 (↑d.1:Int) (FW d) (λF=>aA (mI (FW d) (lD d.1) F) (3<=F.length) (∃(f:Nat×Nat×Sl×Sl×ca×MH×PH),aA (I1 f) (H f<H d) (aA (dM d.2.1 f.2.1) (aZ d.2.2.1 f.2.2.1) (aA (eL 17) (aZ (A0 d) (A0 f)) (aA (bN (A0 d) (A0 f)) (gK (bE d.1 1)=bO f.1) (aI (bR 30 3 (List.set (FW d) (lD d.1) (bF (fV A.kind) (fV A.int) (By (Value.string A.text) 3
 F)))=bR 30 3 (FW f)) (fJ (rC d) (rC f)) (dA (rC d) (rC f)) True))))))))))) (kS (rC d).1 (rC d).2 d.2.1 0 (λj=>wM (rC d).2 3 (FW d) (λs Q f=>aI (cT (rC d).1 (dN j) 65 1 f) (kB f) (dO f) (jU (λO G=>fY (rC d).1 G (dN j) O 65 1 (dL f (aR s))->jN (λc E=>aA (yA G d.2.1 (gG c E 0)) (0<c.size) (∀(P:MH),bK G P d.2.1 (fA (dP O) 1 c) E->I (k+1) P Q))))))))))) (λn u=>FI n u z 0 (λg s=>FB g s n u K)))))
def MI(v:QV)(t:Sl)(m:MH)(h:PH)(K:bo):Prop:=
  bJ (λb o=>aI (aW t.a b o) ((0:Int)<=0) (0<aH t) (∃(y:Nat),aK m h b (o+0) (yP y)/\bJ (λe f=>aI (aW t.a e f) ((0:Int)<=1) (1<aH t) (∃(g:Nat),aA (aK m h e (f+1) (yP g)) (j3 h e f 1 (yP g)) (K5 (λz A=>aA (eO (uB y) (uB z)) (I7 h z A) (Kn 1 A (λc x d=>m x=Option.some d->c x=Option.some d) (λx=>F9 m x) (λs c=>j3 h b o 0 (yP y)/\∃(j:Sl),K5 (λB u=>∃(C:bx),aA (fZ s (uB g)=fZ j (uB B)) (cT c j 65 1 (gH u)) (aA (I7 h B C) (u.length<=502633886983) (Kn 1 (u++C) (λn x d=>bG (c x=Option.some d) (∀(i:Nat),mK (aW j.a x i)) (n x=Option.some d)) (λx=>F9 c x\/∃(i:Nat),aW j.a x i) (λD n=>aA (j3 h b o 0
 (yP y)) (j3 h e f 1 (yP g)) (∃(E:Sl),FB D E n h K)))))))))))))
abbrev Em:Value:=Value.map Option.none
abbrev dK(a:MH)(b:PH)(c d:Nat):Prop:=aK a b c 0 (oA d)
abbrev qZ(a:Nat->Option Obj)(b:Nat)(c:(Value->Prop)->Prop)(d:Value)(e:cd->Prop)(g:cd->Value->cd->cd)(i:cd->cd->Prop):Prop:=Za (λx j=>aA (pH a b x) (C6 j) (aA (c j) (iE (Instr.sameBits 10000 d d)) (aA (∀(f:Value×Value),List.Mem f x->j f.1) ((∀(f:Value×Value),bG (List.Mem f x) (f.1=d) False)->e x) (∀(f:cd)(o:Value)(n:cd),x=g f o n->i f n))))
abbrev IW(a:ca):Value:=Value.string (fD a)
attribute [push_cast] Em dK qZ IW
def MD(t:Sl)(i:Bool)(m:MH)(h:PH)(K:bo):Prop:=
  ∀(b:Nat)(U:MH),bG (cF m h b) (bK m U b (tM i) 4) (w9 U h (λW V=>∀(o:Nat)(P:MH),bG (cF V h o) (bK V P o (oN Em) 157) (jN (λc E=>aA (yA P o (gG c E 0)) (0<c.size) (∀(Q:MH),bK P Q o (fA (C8 W) 1 c) E->AN t.a 0 1 t Q h 1 (λy S=>w8 S h y Q (λx I k e=>eT (λj g=>bG (CD x k e) (PH.le h g) (I k j g->∃(u:Nat),aA (dK j g o u) (dK j g o u) (oS (λs r=>aA (vG (mQ e)=vG (mQ s)) (bS g s r) (aA (Ot r) (eA j) (aK j g o 0 (oA u)/\qZ j u (λO=>O (IW r)) (IW r) (λD=>∀(n:MH),bG (jY j n u) (pH n u (Ga D (IW r))) (I (k+1) n g)) (λl v R=>gV l (IW r) v R) (λl R=>∀(n:MH),bG (jY j n u) (pH n u (gV l (IW r)
 C9 R)) (I (k+1) n g))))))))) (λj g=>∀(z:Nat)(n:MH),bG (cF j g z) (bK j n z fW 58) (AN t.a 0 0 t n g 0 (λu S1=>w8 S1 g u n (λx I k e=>eT (λd f=>bG (CD x k e) (PH.le g f) (I k d f->∃(F:Nat),aK d f o 0 (oA F)/\∃(G:Bool),aI (aK d f b 0 (tM G)) (dK d f o F) (aK d f b 0 (tM G)) (oS (λs r=>aA (vG (mQ e)=vG (mQ s)) (bS f s r) (aA (Ot r) (eA d) (aI (dK d f o F) (aK d f b 0 (tM G)) (aK d f b 0 (tM G)) (∃(D:dc)(O:Value->Prop),aA (uP d F (List.map (fun(p:Value×Bool)=>(p.1,Value.bool p.2)) D)) (C6 O) (aA (O (IW r)) (∀(M:Value×Bool),List.Mem M D->O M.1) (gX (∀(M:Value×Bool),F2 M D (IW r)) (false==G) (∃(H:Sl),
 Fq d f z 0 (aR H) (λA=>aI (cT d (dN H) 65 1 A) (kB A) (dO A) (jU (λJ B=>fY d B (dN H) J 65 1 (dL A (aR e))->jN (λC E1=>aA (yA B z (gG C E1 0)) (0<C.size) (∀(L:MH),bK B L z (fA (dP J) 1 C) E1->I (k+1) L f)))))) (I (k+1) d f)/\∀(H:Bool),gX (List.Mem (IW r,H) D) (H==G) (∃(T:Sl),Fq d f z 0 (aR T) (λA=>aI (cT d (dN T) 65 1 A) (kB A) (dO A) (jU (λJ B=>fY d B (dN T) J 65 1 (dL A (aR e))->jN (λC E1=>aA (yA B z (gG C E1 0)) (0<C.size) (∀(L:MH),bK B L z (fA (dP J) 1 C) E1->I (k+1) L f)))))) (I (k+1) d f))))))))))) (λd f=>kS d f z 0 (λF=>K (mQ F) d f)))))))))))
abbrev BW(a:cm->(List br)->Prop):Prop:=∃(x:cm)(c:List br),a x c
attribute [push_cast] BW
def a9Q(v:QV)(t:Sl)(m:MH)(h:PH)(K:bo):Prop:=
  ∃(d:Sl)(i:Bool),BW (λb l=>∃(w:Nat),aA (fZ t bH=fZ d (Af i)) (wP h d b l) (aA (eA m) (2<=l.length) ((∀(e:br),List.Mem e l->iG w e)/\∀(s:Sl)(c:PH),bQ h c (Rows c s (filter (fun(x:ca)=>GO (List.getD l 1 []) x==i) (List.getD l 0 []))) (K (mQ s) m c))))
def a8J(v:QV)(t:Sl)(m:MH)(h:PH)(K:bo):Prop:=
  ∃(d:Sl)(i:Bool),BW (λb l=>∃(w:Nat),aA (fZ t iM=fZ d (Af i)) (wP h d b l) (aA (eA m) (2<=l.length) ((∀(e:br),List.Mem e l->iG w e)/\∀(s:Sl)(c:PH),bQ h c (Rows c s (filter (fun(x:ca)=>GO (List.getD l 1 []) x==i) (List.getD l 0 []))) (K (mQ s) m c))))
abbrev Ku(a:Sl)(b:PH)(c:Sl->Sl->PH->Prop):Prop:=G6 (λx e=>aA (eO (mQ a) (mQ x)) (jC b x e) (∀(f g:Sl)(d:PH),bQ b d (Ints d f (kE e)) (Ints d g (fM e)->c f g d)))
abbrev Av(a:Sl->ca->bn->Prop):Prop:=oS (λx c=>∃(d:bn),a x c d)
abbrev As(a:ca)(b:bn):Prop:=jM a.length b
abbrev dQ(a:ca)(b:bn):Value:=IW (pick a b)
abbrev DI(a b c:Sl)(d:PH)(e:MH)(g i:Nat)(j k:ca->bn->Prop):Prop:=Av (λx f n=>aA (cJ a b=cJ c x) (bS d c f) (aA (Ints d x n) (Ot f) (aA (As f n) (eA e) (aA (dK e d g i) (j f n) (k f n)))))
attribute [push_cast] Ku Av As dQ DI
def MJ(v:QV)(t:Sl)(m:MH)(h:PH)(K:bo):Prop:=
  Ku v.on h (λa b B=>∀(C:Nat)(L:MH),bG (cF m B C) (bK m L C fW 36) (∀(G:Nat)(M:MH),bG (cF L B G) (bK L M G fW 36) (jN (λc E=>aA (yA M C (gG c E 0)) (0<c.size) (∀(P:MH),bK M P C (fA (dP a) 1 c) E->jN (λQ E1=>aA (yA P G (gG Q E1 0)) (0<Q.size) (∀(m4:MH),bK P m4 G (fA (dP b) 1 Q) E1->w9 m4 B (λb3 m5=>∀(u:Nat)(R:MH),bG (cF m5 B u) (bK m5 R u (oN Em) 157) (jN (λT E2=>aA (yA R u (gG T E2 0)) (0<T.size) (∀(U:MH),bK R U u (fA (C8 b3) 1 T) E2->AN t.a 0 1 t U B 1 (λy S=>w8 S B y U (λx I k e=>eT (λj d=>bG (CD x k e) (PH.le B d) (I k j d->∃(z:Nat),aK j d u 0 (oA z)/\∃(A:Sl),aA (aK j d G 0 (aR A))
 (dK j d u z) (∃(s:Sl),Av (λt1 r n=>aA (cJ e A=cJ s t1) (bS d s r) (aA (Ints d t1 n) (Ot r) (aI (As r n) (eA j) (dK j d u z) (qZ j z (λO=>O (dQ r n)) (dQ r n) (λD=>∀(o:MH),bG (jY j o z) (pH o z (Ga D (dQ r n))) (I (k+1) o d)) (λl v1 V=>gV l (dQ r n) v1 V) (λl V=>∀(o:MH),bG (jY j o z) (pH o z (gV l (dQ r n) C9 V)) (I (k+1) o d)))))))))) (λj d=>∀(F:Nat)(o:MH),bG (cF j d F) (bK j o F fW 58) (AN t.a 0 0 t o d 0 (λz S1=>w8 S1 d z o (λx I k e=>eT (λf g=>bG (CD x k e) (PH.le d g) (I k f g->∃(A:Nat),aK f g u 0 (oA A)/\∃(W:Sl),aA (aK f g C 0 (aR W)) (dK f g u A) (∃(s:Sl),DI e W s g
 f u A (λ_ _=>aK f g C 0 (aR W)) (λr n=>∃(D:dc)(O:Value->Prop),aA (uP f A (List.map (fun(p:Value×Bool)=>(p.1,Value.bool p.2)) D)) (C6 O) (aA (O (dQ r n)) (∀(H:Value×Bool),List.Mem H D->O H.1) (((∀(H:Value×Bool),F2 H D (dQ r n))->I (k+1) f g)/\∀(y4:Bool),gX (List.Mem (dQ r n,y4) D) y4 (∃(X:Sl),Fq f g F 0 (aR X) (λJ=>aI (cT f (dN X) 65 1 J) (kB J) (dO J) (jU (λs1 Y=>fY f Y (dN X) s1 65 1 (dL J (aR e))->jN (λZ E3=>aA (yA Y F (gG Z E3 0)) (0<Z.size) (∀(a3:MH),bK Y a3 F (fA (dP s1) 1 Z) E3->I (k+1) a3 g)))))) (I (k+1) f g)))))))) (λf g=>kS f g F 0 (λA=>K (mQ A) f g)))))))))))))))))
def E6(m c:MH)(b:Nat):Prop:=∀x o,m x=some o->x≠b->c x=some o
structure rZ(m mx:MH)(b:Nat)(us:bx):Prop where
 ex:∃s:Sl,mx b=some (.cells #[.slice s.a s.len s.cap] 58 (0,0))/\cT mx s 65 1 (us.map eS)/\∀i x,s.a=some ⟨x,i,none⟩->m x=none
theorem rZ.new(c:m' b=some (.cells #[oM] 58 (0,0))):rZ m m' b []:=⟨⟨none,0,0⟩,c,⟨Bt [],.inl ⟨rfl,rfl⟩⟩,λi x e=>by cases e⟩
theorem J8{c:MH}{s:Sl}{us:bx}{e:Sl}{Q:MH->Prop}(d:∃o,m b=some o)(C:E6 m c b)(D:c b=some (.cells #[.slice s.a s.len s.cap] 58 (0,0)))(f:cT c s 65 1 (us.map eS))(F:∀i x,s.a=some ⟨x,i,none⟩->m x=none)(O:us.length<=502633886983)(G:∀m',E6 m m' b->rZ m m' b (us++[e])->Q m'):
 ∃xs:List bt,cT c (Sl.mk s.a s.len s.cap) 65 1 xs/\(xs.length+1)*24<=140737488355328/\xs.length<140737488355328/\∀(z:Sl)(m':MH),fY c m' (Sl.mk s.a s.len s.cap) z 65 1 (xs++[[dP e]])->
  ∃(cs:Array Value)(E:TypeId),yA m' b (.cells cs E (0,0))/\0<cs.size/\∀m2:MH,lF m' m2 b (.cells (Array.mk (dP z::cs.toList.drop 1)) E (0,0))->Q m2:=by
 obtain⟨P,d⟩:=d;have A:∀i,s.a≠some ⟨b,i,none⟩:=λi g=>bg
 refine⟨us.map eS,f,bg,bg,λz m' n=>⟨_,_,⟨n.other b _ D A⟩,ay,λm2 B=>G m2 ?_ ⟨z,B.at_,?_,?_⟩⟩⟩
 .intro x o H u;rw[B.other x u];exact n.other x o (C x o H u) (λi g=>bg)
 .have I:(us++[e]).map eS=us.map eS++[[dP e]]:=by simp[eS]
  rw[I];refine cT.keep n.row (λx i g=>B.other x (λJ=>?_));subst J;rcases n.fresh x i g with y|⟨j,y⟩
  .grind
  grind
 .intro i x g;rcases n.fresh x i g with y|⟨j,y⟩
  .cases L:m x with
   |none=>rfl
   |some o=>
    by_cases M:x=b
    .grind
    .rw[C x o L M]at y;cases y
  grind
theorem rZ.app{c:MH}{hx:PH}{us:bx}{e:Sl}{Q:MH->Prop}(f:∃o,m b=some o)(u:E6 m c b)(o:rZ m c b us)(z:us.length<=502633886983)(A:∀m',E6 m m' b->rZ m m' b (us++[e])->Q m'):
 ∃y:Sl,aK c hx b 0 [dP y]/\∃xs:List bt,cT c (Sl.mk y.a y.len y.cap) 65 1 xs/\(xs.length+1)*24<=140737488355328/\xs.length<140737488355328/\∀(j:Sl)(m':MH),fY c m' (Sl.mk y.a y.len y.cap) j 65 1 (xs++[[dP e]])->
  ∃(cs:Array Value)(E:TypeId),yA m' b (.cells cs E (0,0))/\0<cs.size/\∀m2:MH,lF m' m2 b (.cells (Array.mk (dP j::cs.toList.drop 1)) E (0,0))->Q m2:=by
 obtain⟨s,n,d,g⟩:=o.ex;exact⟨s,.of_m n rfl,J8 f u n d g z A⟩
theorem cN.sub{hx:PH}{r:CV}(sub:Sub m m')(le:PH.le h hx)(c:K r m hx):cN h K r m' hx:=λ_=>⟨m,hx,sub,le,λ_ _ _ e=>.inl e,c⟩
theorem cN.row{hx:PH}{s:Sl}{us:bx}(sub:Sub m m')(le:PH.le h hx)(n:cT m' s 65 1 (us.map eS))(P:∀i b,s.a=some ⟨b,i,none⟩->m b=none)(o:∀h',PH.le hx h'->dC h' s 1 (us.map eS)->K (cS s) m h'):cN h K (cS s) m' hx:=by
 intro B;rcases n.ex with⟨rfl,d⟩|⟨b,C,f,rfl,D,E,Q,R,F⟩
 .refine⟨m,hx,sub,le,λb i v e=>.inl e,o hx (.refl _) ?_⟩;rw[d];exact dC.nil _ _
 .have y:∀i,hx b i=none:=B b _ D;refine⟨m,qS hx b f.toList,sub,le.trans (D1 y),λG i v e=>?_,o _ (D1 y) ⟨?_,?_,?_⟩⟩
  .by_cases z:G=b
   .subst z;simp only[qS,if_true]at e
    grind
   .simp only[qS,if_neg z]at e;exact .inl e
  .simp
  .by_cases H:us.map eS=[]
   .exact .inl H
   .refine .inr ⟨b,0,rfl,λi e c=>⟨λj v A=>?_⟩⟩;have I:=n.rows.len e (mem_of_getElem? c);have J:j=0:=bg
    subst J;have L:=(List.getElem?_eq_some_iff.1 c).1
    have M:((us.map eS).flatten)[i]? =some v:=by
     rw[getElem?_map]at c;cases g:us[i]? with
     |none=>grind
     |some u=>
      rw[g]at c;simp at c;subst c;simp[eS]at A;subst A
      have:∀l:bx,(l.map eS).flatten=l.map λu=>Value.slice u.a u.len u.cap:=λl=>by
       induction l with
       |nil=>rfl
       |cons a l O=>simp only[map_cons,flatten_cons,O];rfl
      grind
    rw[<-F,getElem?_take,if_pos aC]at M;simp only[qS,if_true]
    grind
  .exact E
structure rY(m:MH)(y:Nat)(ks:dh):Prop where
 ex:∃kk:dh,pH m y (kk.map λk=>(Value.string k,Value.bool true))/\∀k,k∈kk↔k∈ks
theorem rY.keep{y:Nat}{ks:dh}(s:rY m y ks)(o:m' y=m y):rY m' y ks:=by
 obtain⟨d,⟨e,c,u,f,g,j⟩,n⟩:=s.ex;exact⟨d,⟨e,c,bg,f,g,j⟩,n⟩
theorem rY.new{y:Nat}(h:m y=some (.map #[] 0)):rY m y []:=⟨[],⟨#[],0,h,rfl,ay,ay⟩,ay⟩
theorem rY.get{y:Nat}{ks:dh}{key:ByteArray}{K:Bool->Prop}(s:rY m y ks)(g:∀t:Bool,(t=true↔key∈ks)->K t):
 ∃(d:dc)(Ok:Value->Prop),uP m y (d.map λp=>(p.1,Value.bool p.2))/\KeyLaw Tryz.prog 9 Ok/\Ok (.string key)/\(∀e,List.Mem e d->Ok e.1)/\((∀e,List.Mem e d->e.1=Value.string key->False)->K false)/\∀t,List.Mem (Value.string key,t) d->K t:=by
 obtain⟨j,⟨o,c,u,z,_,_⟩,A⟩:=s.ex;refine⟨j.map λk=>(Value.string k,true),_,⟨o,c,u,by rw[z];simp⟩,CZ,⟨key,rfl⟩,λe B=>?_,λC=>g false ⟨λe=>(by cases e),λf=>?_⟩,λt n=>g t ⟨λ_=>?_,λ_=>?_⟩⟩
 .obtain⟨k,_,rfl⟩:=mem_map.1 (show e∈_ from B)
  grind
 .exact(C (Value.string key,true) (mem_map.2 (⟨key,(A key).2 f,rfl⟩:∃a,a∈j/\(Value.string a,true)=(Value.string key,true))) rfl).elim
 .obtain⟨k,f,e⟩:=mem_map.1 (show(Value.string key,t)∈_ from n)
  grind
 .obtain⟨k,f,e⟩:=mem_map.1 (show(Value.string key,t)∈_ from n)
  grind
theorem Wg(key:ByteArray):Instr.sameBits 10000 (Value.string key) (Value.string key)=true:=by
 show(key==key)=true;cases key with
 |mk d=>exact beq_self_eq_true d
theorem rY.put{y:Nat}{ks:dh}{key:ByteArray}{Q:MH->Prop}(s:rY m y ks)(u:∀m':MH,jY m m' y->rY m' y (key::ks)->Q m'):
 ∃(c:cd)(Ok:Value->Prop),pH m y c/\KeyLaw Tryz.prog 9 Ok/\Ok (.string key)/\Instr.sameBits 10000 (Value.string key) (Value.string key)=true/\(∀e,List.Mem e c->Ok e.1)/\((∀e,List.Mem e c->e.1=Value.string key->False)->∀m':MH,jY m m' y->pH m' y (c++[(Value.string key,Value.bool true)])->Q m')/\
  ∀(g:cd)(d:Value)(j:cd),c=g++(Value.string key,d)::j->∀m':MH,jY m m' y->pH m' y (g++(Value.string key,Value.bool true)::j)->Q m':=by
 obtain⟨f,z,B⟩:=s.ex;refine⟨_,_,z,CZ,⟨key,rfl⟩,Wg key,λe A=>?_,λC m' n o=>u m' n ⟨f++[key],bg,λk=>?_⟩,λg d j e m' n o=>u m' n ⟨f,?_,λk=>?_⟩⟩
 .obtain⟨k,_,rfl⟩:=mem_map.1 (show e∈_ from A)
  grind
 .grind
 .have:(Value.string key,d)∈f.map λk=>(Value.string k,Value.bool true):=by rw[e];simp
  grind
 .have:(Value.string key,d)∈f.map λk=>(Value.string k,Value.bool true):=by rw[e];simp
  grind
theorem wP.get{t:Sl}{d:cm}{ls:List br}(a:wP h t d ls){l:br}(f:ls[i]? =some l):∃b off x,t.a=some ⟨b,off,none⟩/\(i:Int)<(t.len:Int)/\cO h b (off+i) [RP x]/\RZ h x l:=by
 have j:=(List.getElem?_eq_some_iff.1 f).1;have g:d[i]? =some (d[i]'(by rw[a.len];exact j)):=getElem?_eq_getElem _;obtain⟨b,o,e,rd⟩:=a.row.get (i:=i) (e:=[RP (d[i]' bg)]) (by simp[g]);have c:=a.row.len;simp only[length_map]at c;have:=a.len;exact⟨b,o,_,e,aC,bg,a.at_ i _ l g f⟩
theorem eX.at'{us:bx}{rs:br}(x:eX h us rs){u:Sl}(c:us[i]? =some u):∃r,rs[i]? =some r/\bS h u r:=by
 have d:=(List.getElem?_eq_some_iff.1 c).1;obtain⟨v,e,f⟩:=x.at_ i _ (getElem?_eq_getElem (by rw[<-x.len];exact d))
 grind
theorem jF{α:Type}{l:List α}{k:Nat}{x:α}(p:α->Bool)(hx:l[k]? =some x):(l.take (k+1)).filter p=(l.take k).filter p++(if p x then[x]else[]):=by
 rw[take_add_one,hx,Option.toList_some,filter_append]
 grind
theorem Sub.x{d f:MH}(h:Sub m d)(g:m b=none)(hx:E6 d f b):Sub m f:=λx o c=>hx x o (h x o c) (λe=>bg)
def IT(n:Nat):Query->List br->Prop:=λ_ c=>n<=c.length/\∀l∈c,∃w,iG w l
def Lk(q:Query)(ls:List br):br:=match q with|.mk _ _ w _ _ _ _ _ _=>(ls.getD 0 []).filter λr=>nP r w
theorem GJ{ls:List br}{i:Nat}(h:i<ls.length):ls[i]? =some (ls.getD i []):=by
 grind
theorem I6{f:FuncId}{fn:Func}(n:Tryz.prog.funcs[f]? =some fn){S:Vc.Spec}(j:∀c m h K,S c m h K->∃C:Ctx,C.P=Tryz.prog/\(∀g S,assoc C.specs g=some S->bm g S)/\∃N:Prop,N=aAX C fn (dX fn) (entry fn.ntmps c m h) (cN h K)/\N)(o:fn.body=some (dX fn):=by rfl)(d:(fn.name== "runtime.NumGoroutine")=false:=by decide):bm f S:=Zj n o d λc m h K u=>let⟨C,hC,hs,N,e,hn⟩:=j c m h K u;⟨C,hC,hs,e▸hn⟩
theorem ZL:bm 215 (VS (IT 1) Lk):=by
 refine I6 func215 ?_;rintro a' m h K ⟨v,t,q,bs,ls,rfl,hq,ha,_,A,M⟩;refine⟨Vl [(97,asX)] [] [] [200002,200005,1058],rfl,aE SG aG,MN v t m h (cN h K),ax,?_⟩;show MN v t m h (cN h K);dsimp only[MN,push_cast];intro b m1 O B D P E n;have f:Sub m m1:=(Sub.refl m).upd O.m_ B.other
 have F:m D=none:=by
  cases e:m D with
  |none=>rfl
  |some o=>have G:=f D o e;rw[E.m_]at G;cases G
 have g:Sub m P:=f.upd F n.other;have H:b≠D:=λe=>by have:=E.m_;rw[<-e,B.at_]at this;cases this
 obtain⟨b3,Q,x,ea,a0,rd,Y⟩:=ha.get (GJ (i:=0) (by have:=A.1;omega));obtain⟨Z,u,C⟩:=Y.ex;obtain⟨op,ta,w,co,on,gr,od,li,args⟩:=q;have xq:=hq.parts;obtain⟨wd,z⟩:=A.2 _ (mem_of_getElem? (GJ (i:=0) (by have:=A.1;omega)));simp only[Lk]at M;generalize ls.getD 0 []=l at u C M z Y;have R:=C.len;have a1:=z.len;refine⟨b3,Q,ea,aC,aC,x,.imm rd,AD,Z,λk L S=>S=h/\E6 P L D/\∃c,rZ P L D c/\c.length<=k/\eX h c ((l.take k).filter λr=>nP r w),z6,⟨x,Z,rfl,u,rfl⟩,⟨rfl,λx o e _=>e,[],rZ.new n.at_,ay,bk (eX.nil h)⟩,?_,?_⟩
 .rintro k e L S hk-⟨rfl,I,c,d,T,j⟩
  obtain⟨r,hr,hv⟩:=C.at' hk;have a2:=(List.getElem?_eq_some_iff.1 hk).1;refine⟨v.where_,.of_m (I b _ (by rw[n.other b H];exact B.at_) H) rfl,v.where_,e,w,r,rfl,xq.where_,hv,aD (λht=>?_) (λhf=>?_)⟩
  .refine rZ.app ⟨_,n.at_⟩ I d aC (λm' U V=>⟨rfl,U,c++[e],V,bf,?_⟩);rw[jF _ hr,if_pos ht];exact j.snoc hv
  .refine⟨rfl,I,c,d,aC,?_⟩;rw[jF _ hr,if_neg (by simp[hf]),append_nil];exact j
 .rintro L S-⟨rfl,I,c,d,T,j⟩
  rw[R,take_length]at j;obtain⟨s,hb,J,W⟩:=d.ex;refine⟨s,.of_m hb rfl,cN.row (g.x F I) (.refl _) J (λi y e=>?_) (λh' le X=>M s h' le ((j.mono le).rows X bg))⟩;cases e2:m y with
  |none=>rfl
  |some o=>have G:=W i y e;rw[g y o e2]at G;cases G
theorem eX.app{us vs:bx}{a b:br}(x:eX h us a)(y:eX h vs b):eX h (us++vs) (a++b):=by
 refine⟨by simp[x.len,y.len],λj r c=>?_⟩;have g:=x.len;by_cases d:j<a.length
 .rw[getElem?_append_left d]at c;obtain⟨u,e,f⟩:=x.at_ j r c
  grind
 .rw[getElem?_append_right aC]at c;obtain⟨u,e,f⟩:=y.at_ _ r c
  grind
def Uv(_:Query)(ls:List br):br:=Eb (ls.getD 0 []++ls.getD 1 [])
theorem ZH:bm 219 (VS (IT 2) Uv):=by
 refine EN func219 ?_;rintro S m h K ⟨v,t,q,bs,ls,rfl,_,O,_,c,T⟩;refine⟨dE [(250,YL),(249,VQ),(71,bjQ)] [] [] [] false,rfl,aE Zw (aE QX (aE ET aG)),MI v t m h (lR h K),ax,?_⟩;show MI v t m h (lR h K);dsimp only[MI,push_cast];have h2:=c.1;obtain⟨b,D,x,U,V,rd,W⟩:=O.get (GJ (i:=0) aC);obtain⟨X,j,P,E,Q,d,F⟩:=O.get (GJ (i:=1) aC);obtain⟨G,n,u⟩:=W.ex;obtain⟨z,f,A⟩:=F.ex;obtain⟨_,B⟩:=c.2 _ (mem_of_getElem? (GJ (i:=0) aC));obtain⟨_,g⟩:=c.2 _ (mem_of_getElem? (GJ (i:=1) aC));have l1:=B.len;have l2:=g.len;have l3:=u.len;refine⟨b,D,U,aC,aC,x,.imm rd,X,j,E,aC,aC,P,.imm d,d,x,G,rfl,n,λY m1 H I Z=>⟨rd,Y,P,G,z,rfl,H,f,aC,λs2 m2 J L a'=>⟨rd,d,s2,G++z,_,rfl,J.src,u.app A,bg,λs3 R C M=>?_⟩⟩⟩;refine⟨m,R,λy o hy=>L y o (I y o hy) (λi e=>?_),C,.refl _,T s3 R C M⟩
 grind
def Ws(q:Query)(ls:List br):br:=match q with|.mk _ _ _ co _ _ _ _ _=>Eb ((ls.getD 0 []).map λr=>pick r co)
def Me(q:Query)(ls:List br):Prop:=match q with|.mk _ _ _ co _ _ _ _ _=>1<=ls.length/\co.length<=12/\∃w,iG w (ls.getD 0 [])/\jM w co
theorem Ww{r:ca}{y:VV}(d:(pick r co)[i]? =some y)(e:i<co.length):((pick r co).take i++replicate (co.length-i) zeroV).set i y=(pick r co).take (i+1)++replicate (co.length-(i+1)) zeroV:=by
 have c:(pick r co).length=co.length:=by simp[pick]
 rw[set_append,if_neg bf];rw[take_add_one,d,Option.toList_some,append_assoc];congr 1;rw[show co.length-i=(co.length-(i+1))+1 by omega,replicate_succ];simp[c,Nat.min_eq_left (Nat.le_of_lt e)]
theorem Sj{r:ca}(d:i<co.length):(((pick r co).take i++replicate (co.length-i) zeroV).map VV.enc)[i]? =some (VV.enc zeroV):=by
 have c:(pick r co).length=co.length:=by simp[pick]
 grind
theorem ZK:bm 216 (VS Me Ws):=by
 refine I6 func216 ?_;rintro b1 m h K ⟨v,t,q,bs,ls,rfl,hq,ha,_,a',hK⟩;refine⟨bCJ,rfl,aE ET aG,ML v t m h (cN h K),ax,?_⟩;show ML v t m h (cN h K);dsimp only[ML,push_cast];obtain⟨op,ta,w,co,on,gr,od,li,args⟩:=q;obtain⟨b6,b7,wd,f,a0⟩:=a';intro b m1 a1 G C m2 M A;have g:Sub m m1:=(Sub.refl m).upd a1.m_ G.other
 have O:m C=none:=by
  cases e:m C with
  |none=>rfl
  |some o=>have P:=g C o e;rw[M.m_]at P;cases P
 have H:Sub m m2:=g.upd O A.other;have Q:b≠C:=λe=>by have:=M.m_;rw[<-e,G.at_]at this;cases this
 obtain⟨b3,a2,x,ea,b8,rd,sq⟩:=ha.get (GJ (i:=0) aC);obtain⟨us,D,I⟩:=sq.ex;have xq:=hq.parts;have a3:=xq.columns_.slen;simp only[Ws]at hK;generalize ls.getD 0 []=l at D I hK f sq;have a4:=I.len;have b9:=f.len;refine⟨b3,a2,ea,aC,aC,x,.imm rd,AD,us,λk J E=>PH.le h E/\E6 m2 J C/\∃d,rZ m2 J C d/\d.length<=k/\eX E d ((l.take k).map λr=>pick r co),z6,⟨x,us,rfl,D,rfl⟩,⟨.refl _,λx o e _=>e,[],rZ.new A.at_,ay,bk (eX.nil h)⟩,?_,?_⟩
 .rintro k e J E hk-⟨le,X,d,j,a5,B⟩
  obtain⟨r,hr,hv⟩:=I.at' hk;have c':=(List.getElem?_eq_some_iff.1 hk).1;have R:J b=some (.cells ⟨v.enc⟩ 41 (0,0)):=X b _ (by rw[A.other b Q];exact G.at_) Q;have c0:=f.wid r (mem_of_getElem? hr);have S:=bS.mono hv le;have c1:=bL.slen S;have c2:(pick r co).length=co.length:=by simp[pick]
  refine⟨v.columns,.of_m R rfl,aC,aC,aC,aC,v.columns,.of_m R rfl,λz=>z.1<=co.length/\z.2.1=C/\z.2.2.1=e/\z.2.2.2.1=v.columns/\z.2.2.2.2.1=(pick r co).take z.1++replicate (co.length-z.1) zeroV/\z.2.2.2.2.2.1=J/\z.2.2.2.2.2.2=E,λz=>co.length-z.1,⟨(0,C,e,v.columns,replicate co.length zeroV,J,E),⟨ay,rfl,rfl,rfl,ay,rfl,rfl⟩,?_⟩,?_⟩
  .dsimp only;rw[map_replicate,show((v.columns.len:Int)).toNat=co.length by omega];exact MT
  .rintro⟨i,bb,ee,cc,cells,my,hy⟩ ⟨hi,P,e2,e3,Y,Z,e6⟩;dsimp only at hi P e2 e3 Y Z e6;subst P e2 e3 Y Z e6;refine aF (λF=>?_) (λa6=>?_)
   .dsimp only at F⊢
    obtain⟨c,T⟩:=eV a3 F;obtain⟨b4,o4,Y,c3⟩:=(xq.columns_.mono le).at T;obtain⟨y,a7,a8,h0,h1⟩:=J6 (r:=r) bg T;obtain⟨b5,o5,y',Z,a9,rfl⟩:=bL.at S a7;have U:i<co.length:=by omega
    have V:=Ww a8 U;refine⟨b4,o4,Y,aC,aC,c,.imm bg,b5,o5,Z,h0,aC,y,.imm a9,aC,bf,_,Sj U,by simp[VV.enc],(i+1,bb,ee,v.columns,(pick r co).take (i+1)++replicate (co.length-(i+1)) zeroV,my,hy),⟨aC,rfl,rfl,rfl,rfl,rfl,rfl⟩,aC,?_⟩;dsimp only;refine⟨rfl,rfl,rfl,rfl,rfl,by rw[iS aC],?_,rfl,rfl,trivial⟩;rw[<-V,map_set];rfl
   .dsimp only at a6⊢
    have:i=co.length:=by omega
    subst this;rw[take_of_length_le aC,Nat.sub_self,replicate_zero,append_nil];obtain⟨s,hb,n,W⟩:=j.ex;refine⟨s,.of_m hb rfl,λs3 h3 u L=>J8 ⟨_,A.at_⟩ X hb n W aC (λm' b' b0=>⟨le.trans u,b',d++[s3],b0,bf,?_⟩)⟩
    have e6:(l.take (k+1)).map (λr=>pick r co)=(l.take k).map (λr=>pick r co)++[pick r co]:=by
     rw[take_add_one,hr];simp
    rw[e6];exact(B.mono u).snoc ⟨⟨_,L,rfl,λi x E=>⟨x,E,rfl⟩⟩,aC⟩
 .rintro J E-⟨le,X,d,j,a5,B⟩
  rw[a4,take_length]at B;obtain⟨s,hb,n,W⟩:=j.ex;refine⟨s,.of_m hb rfl,s,d,_,rfl,n.src,B,bf,λs3 h3 u L=>cN.sub (H.x O X) (le.trans u) (hK s3 h3 (le.trans u) L)⟩
theorem iT{m0:MH}{o:Obj}(c:Sub m0 m)(g:cF m h b)(j:lF m m' b o):Sub m0 m'/\m0 b=none:=by
 have d:m0 b=none:=by
  cases e:m0 b with
  |none=>rfl
  |some x=>have f:=c b x e;rw[g.m_]at f;cases f
 exact⟨c.upd d j.other,d⟩
theorem mem_keys{l:br}{w k:Nat}{x:ca}(f:iG w l)(hx:Ot x)(g:x.length=w):fD x∈(l.take k).map fD↔x∈l.take k:=by
 constructor
 .intro h;obtain⟨y,d,e⟩:=mem_map.1 h;have c:=mem_of_mem_take d;rw[(Qs (by rw[f.wid y c,g]) (f.row y c).val hx.val).1 e]at d;exact d
 grind
theorem QU:bm 251 VO:=by
 refine I6 func251 ?_;rintro d0 m h K ⟨t,i,bs,ls,w,rfl,ha,hT,h2,a0,hK⟩;refine⟨Vl [(263,aLJ)] [] [] [200003,200005,200007,1058,400000,0],rfl,aE Zs aG,MD t i m h (cN h K),ax,?_⟩;show MD t i m h (cN h K);dsimp only[MD,push_cast];intro u m1 b2 M d m2 a1 G C m3 U O;obtain⟨s1,n3⟩:=iT (Sub.refl m) b2 M;obtain⟨s2,ny⟩:=iT s1 a1 G;obtain⟨s3,n5⟩:=iT s2 U O;refine⟨_,_,⟨O.at_⟩,ay,λm4 P=>?_⟩;have s4:Sub m m4:=s3.upd n5 P.other;have f:d≠C:=λe=>by have:=U.m_;rw[<-e,G.at_]at this;cases this
 have R:u≠C:=λe=>by have:=U.m_;rw[<-e,G.other u (λD=>by omega),M.at_]at this;cases this
 have V:u≠d:=λD=>by have:=a1.m_;rw[<-D,M.at_]at this;cases this
 have b4:m4 d=some (.map #[] 0):=by rw[P.other d f,O.other d f];exact G.at_
 have a2:m4 u=some (.cells #[.bool i] 4 (0,0)):=by rw[P.other u R,O.other u R,G.other u V];exact M.at_
 have W:m4 C=some (.cells #[.map (some d)] 157 (0,0)):=P.at_;obtain⟨b,b8,x,ea,d1,rd,sq⟩:=ha.get (GJ (i:=1) aC);obtain⟨a3,X,H⟩:=sq.ex;have A:=a0 _ (mem_of_getElem? (GJ (i:=1) aC));have g:=a0 _ (mem_of_getElem? (GJ (i:=0) aC));obtain⟨b6,a4,x6,b9,d',c',a5⟩:=ha.get (GJ (i:=0) aC);obtain⟨us,a6,Y⟩:=a5.ex;generalize ls.getD 1 []=S at H A hK sq;generalize ls.getD 0 []=l at Y g hK a5;have c0:=Y.len;have d2:=g.len;have a7:=H.len;refine⟨b,b8,ea,aC,aC,x,.imm rd,AD,a3,λk Z hx=>hx=h/\(∀z o,m4 z=some o->z≠d->Z z=some o)/\rY Z d ((S.take k).map fD),z6,⟨x,a3,rfl,X,rfl⟩,⟨rfl,λz o e _=>e,bk (rY.new b4)⟩,?_,?_⟩
 .rintro k e Z hx hk-⟨rfl,T,I⟩
  obtain⟨r,hr,hv⟩:=H.at' hk;have J:=mem_of_getElem? hr;have r5:aK Z hx C 0 [Value.map (some d)]:=.of_m (T C _ W (Ne.symm f)) rfl;refine⟨d,r5,r5,e,r,rfl,hv,A.row r J,hT.sub (λz o D=>T z o (s4 z o D) (λe3=>bg)),r5,I.put (λm' a' a8=>⟨rfl,λz o D c1=>by rw[a'.other z c1];grind,?_⟩)⟩;obtain⟨kk,h5,h6⟩:=a8.ex;exact⟨kk,h5,λq=>by rw[h6,take_add_one,hr];grind⟩
 .rintro Z hx-⟨rfl,T,I⟩ b7 m5 a9 F;rw[a7,take_length]at I;have s5:Sub m Z:=λz o D=>T z o (s4 z o D) (λe3=>bg);obtain⟨s6,n7⟩:=iT s5 a9 F;have Q:∀z o,Z z=some o->z≠b7:=λz o D e3=>by rw[e3,a9.m_]at D;cases D
  have y7:d≠b7:=by
   obtain⟨kk,⟨es,c,h1,_⟩,_⟩:=I.ex
   grind
  have c2:m5 C=some (.cells #[.map (some d)] 157 (0,0)):=by rw[F.other C (Q C _ (T C _ W (Ne.symm f)))];grind
  have c3:m5 u=some (.cells #[.bool i] 4 (0,0)):=by rw[F.other u (Q u _ (T u _ a2 V))];grind
  have b':rY m5 d (S.map fD):=I.keep (F.other d y7);have c4:C≠b7:=Q C _ (T C _ W (Ne.symm f));have c5:u≠b7:=Q u _ (T u _ a2 V);refine⟨b6,a4,b9,aC,aC,x6,.imm c',AD,us,λk my hy=>hy=hx/\E6 m5 my b7/\∃B,rZ m5 my b7 B/\B.length<=k/\eX hx B ((l.take k).filter λz=>GO S z==i),z6,⟨x6,us,rfl,a6,rfl⟩,⟨rfl,λz o e _=>e,[],rZ.new F.at_,ay,bk (eX.nil hx)⟩,?_,?_⟩
  .rintro k e my hy hk-⟨rfl,n,B,E,c6,L⟩
   obtain⟨r,hr,hv⟩:=Y.at' hk;have d3:=(List.getElem?_eq_some_iff.1 hk).1;have J:=mem_of_getElem? hr;have r5:aK my hy C 0 [Value.map (some d)]:=.of_m (n C _ c2 c4) rfl;have r3:aK my hy u 0 [Value.bool i]:=.of_m (n u _ c3 c5) rfl
   have b0:rY my d (S.map fD):=by
    obtain⟨kk,⟨es,c,h1,h2,h3,h4⟩,h5⟩:=b'.ex;exact⟨kk,⟨es,c,n d _ h1 y7,h2,h3,h4⟩,h5⟩
   have key:∀t:Bool,(t=true↔fD r∈S.map fD)->t=GO S r:=λt ht=>by
    have h1:=mem_keys (k:=S.length) A (g.row r J) (g.wid r J);rw[take_length]at h1;rw[h1]at ht;cases t
    .cases D:GO S r with
     |false=>rfl
     |true=>exact ht.2 (D0.1 D)
    .exact(D0.2 (ht.1 rfl)).symm
   refine⟨d,r5,i,r3,r5,r3,e,r,rfl,hv,g.row r J,hT.sub (s6.x n7 n),r5,r3,r3,b0.get (K:=λt=>branch (t==i) _ _) (λt ht=>?_)⟩;have e3:=key t ht;refine aD (λh1=>?_) (λh1=>?_)
   .refine rZ.app ⟨_,F.at_⟩ n E aC (λm' a' c7=>⟨rfl,a',B++[e],c7,bf,?_⟩);rw[jF _ hr,if_pos bg];exact L.snoc hv
   .refine⟨rfl,n,B,E,aC,?_⟩;rw[jF _ hr,if_neg bg,append_nil];exact L
  .rintro my hy-⟨rfl,n,B,E,c6,L⟩
   rw[c0,take_length]at L;obtain⟨s,hb,b1,c8⟩:=E.ex;refine⟨s,.of_m hb rfl,cN.row (s6.x n7 n) (.refl _) b1 (λj y e=>?_) (λh' le c9=>hK s h' le ((L.mono le).rows c9 bg))⟩;cases D:m y with
   |none=>rfl
   |some o=>have e1:=c8 j y e;rw[s6 y o D]at e1;cases e1
def BP(_:Query)(ls:List br):Prop:=2<=ls.length/\∃w,∀l∈ls,iG w l
def UU(_:Query)(ls:List br):br:=(ls.getD 0 []).filter λx=>GO (ls.getD 1 []) x==false
def U3(_:Query)(ls:List br):br:=(ls.getD 0 []).filter λx=>GO (ls.getD 1 []) x==true
theorem ZG:bm 220 (VS BP UU):=by
 refine iQ func220 ?_;rintro d m h K ⟨v,t,q,e,f,rfl,_,g,j,⟨n,w,c⟩,o⟩;refine⟨dE [(251,VO)] [] [] [] false,rfl,aE QU aG,a9Q v t m h K,ax,?_⟩;exact⟨t,false,e,f,w,rfl,g,j,n,c,o⟩
theorem ZF:bm 221 (VS BP U3):=by
 refine iQ func221 ?_;rintro d m h K ⟨v,t,q,e,f,rfl,_,g,j,⟨n,w,c⟩,o⟩;refine⟨dE [(251,VO)] [] [] [] false,rfl,aE QU aG,a8J v t m h K,ax,?_⟩;exact⟨t,true,e,f,w,rfl,g,j,n,c,o⟩
def lE:bz->ca->ca->Int
 |[],a,b=>eW a b
 |(c,d)::r,a,b=>if 0<=c/\c<a.length/\c<b.length then(if oZ (a.getD c.toNat zeroV) (b.getD c.toNat zeroV)≠0 then(if d then-oZ (a.getD c.toNat zeroV) (b.getD c.toNat zeroV)else oZ (a.getD c.toNat zeroV) (b.getD c.toNat zeroV))else lE r a b)else lE r a b
def HA:Vc.Spec:=λc m h K=>∃o s t od a b,c=[cS o,cS s,cS t]/\jB h o od/\bS h s a/\bS h t b/\K (cI (lE od a b)) m h
def Uj:Vc.Spec:=λc m h K=>∃s t d v od a b,c=[cS s,cS t,cP d]/\m d=some (.cells ⟨QV.enc v⟩ 41 (0,0))/\jB h v.order od/\bS h s a/\bS h t b/\K (cI (lE od a b)) m h
def cuQ:Vc.Spec:=λc m h K=>∃i:Nat,∃d e f v od g s rs r x,c=[cI i,cP d,cP e,cP f]/\m d=some (.cells ⟨QV.enc v⟩ 41 (0,0))/\m e=some (.cells #[Sl.val g] 58 (0,0))/\m f=some (.cells #[Sl.val s] 65 (0,0))/\jB h v.order od/\Rows h g rs/\bS h s r/\rs[i]? =some x/\
 K (cB (decide (lE od x r>=0))) m h
def bTX:Vc.Spec:=λd m h K=>∃(s:Sl)(e:Nat)(v:QV)(od:bz)(w:Nat)(ps:cu),d=[cS s,.val (.func (.func 264) #[] #[.pointer (some ⟨e,0,none⟩)])]/\m e=some (.cells ⟨QV.enc v⟩ 41 (0,0))/\(∀i,s.a≠some ⟨e,i,none⟩)/\jB h v.order od/\cT m s 65 1 (ps.map λp=>eS p.1)/\(∀p∈ps,bS h p.1 p.2)/\(∀p∈ps,p.2.length=w)/\ps.length<=140737488355328/\
 ∀(c:cu)(m':MH),c.Perm ps->c.Pairwise (λp q=>¬lE od q.2 p.2<0)->cT m' s 65 1 (c.map λp=>eS p.1)->(∀b,(∀i,s.a≠some ⟨b,i,none⟩)->m' b=m b)->K (.tup []) m' h
noncomputable def bMZ(o s t:Sl)(m:MH)(h:PH):Ctx:=
 dE [(156,Um),(93,I8)] [(2,{A:=Nat,st:=λi=>bU 55 58 [(1,sv s),(2,sv t),(10,sv o),(11,iv o.len),(12,iv i)] [] m h})] [] [] false
def TV(o s t:Sl)(m:MH)(h:PH)(K:bo):Prop:=
  pN (λI x=>aA (I x) (aJ s) (aA (aJ t) (aJ o) (aA (bI o) (bA x) (aA (m=m) (h=h) True)))) (λI d x=>I x->aY (↑x:Int) (aH o) (bJ (λb f=>aI (aW o.a b f) (0<=(↑x:Int)) ((↑x:Int)<aH o) (∃(y:Int×Bool),aK m h b (f+bM x 2) (A4 y)/\aY y.1 0 (∃(c:Nat),aA (I c) (d c<d x) (aA (aJ s) (aJ t) (aA (aJ o) (bI o) (aA (gK (bE x 1)=bO c) (m=m) (bT h h))))) (dR (decide (y.1>=aH s)) (∃(c:Nat),aA (I c) (d c<d x) (aA (aJ s) (aJ t) (aA (aJ o) (bI o) (aA (gK (bE x 1)=bO c) (m=m) (bT h h))))) (decide (y.1>=aH t)) (∃(c:Nat),aA (I c) (d c<d x) (aA (aJ s) (aJ t) (aA (aJ o) (bI o) (aA (gK (bE x 1)=bO c) (m=m) (bT h h))))) (bJ (λg j=>aI (aW s.a g j) (0<=
 y.1) (y.1<aH s) (∃(n:VV),aK m h g (j+gY y.1 3) n.enc/\bJ (λu z=>aI (aW t.a u z) (0<=y.1) (y.1<aH t) (∃(A:VV),aK m h u (z+gY y.1 3) A.enc/\∃(a e:VV),eF n.enc (j4 A)=eF a.enc (j4 e)/\dR (oZ a e==0) (∃(c:Nat),aA (I c) (d c<d x) (aA (aJ s) (aJ t) (aA (aJ o) (bI o) (aA (gK (bE x 1)=bO c) (m=m) (bT h h))))) y.2 (K (iR (fG (0-oZ a e))) m h) (K (iR (oZ a e)) m h)))))))))) (∃(B:Sl),oS (λC a=>∃(b:ca),aI (cJ s t=cJ B C) (bS h B a) (bS h C b) (K (iR (eW a b)) m h))))
abbrev Kt(a b c:Sl)(d:PH)(e:bz->ca->ca->Prop):Prop:=qP (λx f=>∃(g:Sl)(j:bz)(n o:ca),aA (cX a (cJ b c)=cX x (cJ f g)) (jB d x j) (aA (bS d f n) (bS d g o) (e j n o)))
attribute [push_cast] Kt
def a7X(s t:Sl)(c:Nat)(m:MH)(h:PH)(K:bo):Prop:=
  kS m h c 18 (λy=>Kt y s t h (λo a b=>K (iR (lE o a b)) m h))
def S5(i:Nat)(g d j:Nat)(m:MH)(h:PH)(K:bo):Prop:=
  FI m h g 18 (λy c=>aK m h d 0 (aR c)/\bJ (λb o=>aI (aW c.a b o) (0<=(↑i:Int)) ((↑i:Int)<aH c) (∃(e:Sl),aK m h b (o+bM i 1) (aR e)/\∃(f:Sl),aA (aK m h j 0 (aR f)) (aK m h d 0 (aR c)) (Kt y e f h (λn a u=>aK m h d 0 (aR c)/\K (Af (decide (lE n a u>=0))) m h)))))
theorem aoQ(a b:VV): -1<=oZ a b/\oZ a b<=1:=by
 have c:∀x y:Int, -1<=Dr x y/\Dr x y<=1:=λx y=>by unfold Dr;omega
 have d:=(Qn a.text.data.toList b.text.data.toList).2;have e: -1<=RX a.text b.text/\RX a.text b.text<=1:=by unfold RX;omega
 have f:=c a.kind b.kind;have g:=c a.int b.int;unfold oZ;omega
theorem bhX{c:Int}{d:Bool}{r:bz}{a b:ca}(h:¬(0<=c/\c<a.length/\c<b.length)):lE ((c,d)::r) a b=lE r a b:=by
 rw[lE,if_neg h]
theorem csX{c:Int}{d:Bool}{r:bz}{a b:ca}{x y:VV}(e:0<=c)(hx:a[c.toNat]? =some x)(f:b[c.toNat]? =some y):lE ((c,d)::r) a b=if oZ x y≠0 then(if d then-oZ x y else oZ x y)else lE r a b:=by
 have g:=(List.getElem?_eq_some_iff.1 hx).1;have j:=(List.getElem?_eq_some_iff.1 f).1;rw[lE,if_pos ⟨e,aC,aC⟩]
 grind
theorem Gn:bm 110 HA:=by
 refine iQ func110 ?_;rintro L m h K ⟨o,s,t,od,a,b,rfl,C,D,E,g⟩;refine⟨bMZ o s t m h,rfl,aE Jv (aE ES aG),TV o s t m h K,ax,?_⟩;dsimp only[TV,push_cast];have F:=C.slen;have M:=C.len;have O:=bL.slen D;have P:=bL.slen E;refine⟨λi=>i<=od.length/\lE od a b=lE (od.drop i) a b,λi=>od.length-i,⟨0,⟨aC,ay⟩,MT⟩,λi⟨hi,j⟩=>aF (λn=>?_) (λQ=>?_)⟩
 .obtain⟨⟨c,B⟩,G⟩:=eV F n;obtain⟨R,S,T,U⟩:=C.row.get (i:=i) (e:=Dz (c,B)) (by simp[G]);rw[drop_cons G]at j
  have skip:¬(0<=c/\c<a.length/\c<b.length)->∃d:Nat,(λi=>i<=od.length/\lE od a b=lE (od.drop i) a b) d/\(λi=>od.length-i) d<(λi=>od.length-i) i/\eQ (sQs s)/\eQ (sQs t)/\eQ (sQs o)/\eQ (gK ↑o.len)/\gK (IntKind.i64.wrap ((i:Int)+1))=gK ↑d/\m=m/\h=h/\True:=λV=>
   ⟨i+1,⟨aC,by rw[j,bhX V]⟩,(show od.length-(i+1)<od.length-i by omega),MT⟩
  refine⟨R,S,T,aC,n,(c,B),.imm U,aF (λH=>skip (λe=>by omega)) (λH=>aF (λI=>skip (λe=>by omega)) (λI=>aF (λJ=>skip (λe=>by omega)) (λJ=>?_)))⟩;dsimp only at H I J⊢
  obtain⟨x,z⟩:∃x,a[c.toNat]? =some x:=⟨_,getElem?_eq_getElem aC⟩
  obtain⟨y,A⟩:∃y,b[c.toNat]? =some y:=⟨_,getElem?_eq_getElem aC⟩
  obtain⟨W,X,u,Y,Z,rfl⟩:=bL.at D z;obtain⟨b3,o3,u,e3,r3,rfl⟩:=bL.at E A;rw[csX aC z A]at j;have a':=aoQ x y;refine⟨W,X,Y,aC,aC,x,.imm Z,b3,o3,e3,aC,aC,y,.imm r3,x,y,rfl,aD (λh4=>⟨i+1,⟨aC,?_⟩,(show od.length-(i+1)<od.length-i by omega),MT⟩) (λh4=>aD (λf=>?_) (λf=>?_))⟩
  .grind
  .have f:B=true:=f;rw[j,if_pos bg,if_pos f]at g;rw[fB aC aC,Int.zero_sub];exact g
  .have f:B=false:=f;rw[j,if_pos bg,if_neg (by simp[f])]at g;exact g
 .rw[j,drop_eq_nil_of_le aC,lE]at g;exact⟨s,t,a,b,rfl,D,E,g⟩
theorem Zr:bm 264 Uj:=by
 refine iQ func264 ?_;rintro c m h K ⟨s,t,d,v,od,a,b,rfl,e,f,g,j,n⟩;refine⟨qV [(110,HA)] [] [] [] [0] [] false,rfl,aE Gn aG,a7X s t d m h K,ax,?_⟩;exact⟨v.order,.of_m e rfl,v.order,s,t,od,a,b,rfl,f,g,j,n⟩
theorem Zv:bm 253 cuQ:=by
 refine iQ func253 ?_;rintro j m h K ⟨i,n,e,o,v,od,g,s,rs,r,x,rfl,y,z,A,B,c,C,f,D⟩;refine⟨qV [(110,HA)] [] [] [] [0] [] false,rfl,aE Gn aG,S5 i n e o m h K,ax,?_⟩;dsimp only[S5,push_cast];have J:=bL.slen c;have L:=(List.getElem?_eq_some_iff.1 f).1;obtain⟨E,F,u,G,H,I⟩:=bL.at c f;have d:aK m h e 0 [dP g]:=.of_m z rfl;exact⟨v.order,.of_m y rfl,g,d,E,F,G,aC,aC,u,.imm H,s,.of_m A rfl,d,v.order,u,s,od,x,r,rfl,B,I,C,d,D⟩
def LF(w:Nat):bz->ca->ca->Int
 |[],a,b=>eW a b
 |(c,d)::r,a,b=>if 0<=c/\c<w then(if(if d then-oZ (a.getD c.toNat zeroV) (b.getD c.toNat zeroV)else oZ (a.getD c.toNat zeroV) (b.getD c.toNat zeroV))≠0 then(if d then-oZ (a.getD c.toNat zeroV) (b.getD c.toNat zeroV)else oZ (a.getD c.toNat zeroV) (b.getD c.toNat zeroV))else LF w r a b)else LF w r a b
theorem D2{w:Nat}:∀{od:bz}{a b:ca},a.length=w->b.length=w->lE od a b=LF w od a b
 |[],_,_,_,_=>rfl
 |(c,f)::r,a,b,d,e=>by
  rw[lE,LF,d,e,D2 (od:=r) d e];omega
theorem Un.neg{α:Type}{c:α->α->Int}(h:Un c):Un (λx y=> -c x y):=by
 refine⟨λx y=>by have:=h.anti x y;omega,λx y z d e=>?_⟩;have f:=h.anti x y;have g:=h.anti y z;have j:=h.anti x z;have:=h.trans z y x aC aC;omega
theorem LD(w:Nat):∀od,Un (LF w od)
 |[]=>Hq
 |(c,d)::r=>by
  have f:=LD w r;have g:Un (λa b:ca=>oZ (a.getD c.toNat zeroV) (b.getD c.toNat zeroV)):=LG.of λa:ca=>a.getD c.toNat zeroV;by_cases h:0<=c/\c<w
  .have e:LF w ((c,d)::r)=λa b=>if(if d then-oZ (a.getD c.toNat zeroV) (b.getD c.toNat zeroV)else oZ (a.getD c.toNat zeroV) (b.getD c.toNat zeroV))≠0 then(if d then-oZ (a.getD c.toNat zeroV) (b.getD c.toNat zeroV)else oZ (a.getD c.toNat zeroV) (b.getD c.toNat zeroV))else LF w r a b:=by
    funext a b;rw[LF,if_pos h]
   rw[e];cases d
   .exact g.lex f
   .exact g.neg.lex f
  .have e:LF w ((c,d)::r)=LF w r:=by funext a b;rw[LF,if_neg h]
   grind
theorem Ym{w:Nat}(od:bz):Sort.SWO (Go.Proofs.ltOf (fun(x y:Hu h (λl=>l.length=w))=>lE od x.l y.l)):=by
 have e:(fun(x y:Hu h (λl=>l.length=w))=>lE od x.l y.l)=λx y=>LF w od x.l y.l:=by
  funext x y;exact D2 x.pr_ y.pr_
 rw[e];exact(LD w od).swo
theorem X4:bm 135 bTX:=by
 refine⟨⟨Tryz.f135,func135,rfl,az⟩,?_⟩;rintro j f m h w K ⟨s,c,v,od,n,ps,rfl,I,u,z,A,B,C,D,E⟩ d
 obtain⟨F,e,rfl⟩:∃v e,f=[v,e]:=by
  have:=(qW d.args).1
  match f,this with
  |[v,e],_=>grind
 have G:F=s.val:=d.args.1;have H:e= .func (.func 264) #[] #[.pointer (some ⟨c,0,none⟩)]:=d.args.2.1;subst G H;refine L0 (R:=λl=>l.length=n) (g:=264) (cb:=[.pointer (some ⟨c,0,none⟩)]) (m2:=λb=>if b=c then m c else none) (cf:=lE od) rfl d ⟨Tryz.f264,func264,rfl,az⟩ A B C D (Ym od) ⟨Uj,Zr,λx y=>⟨x.s,y.s,c,v,od,x.l,y.l,rfl,bg,z,x.ok,y.ok,rfl,rfl,rfl⟩⟩ (λb o J=>?_) E
 grind
noncomputable def bCZ:Ctx:=Vl [(246,Ni),(248,bYQ),(247,LS),(161,RH)] [(13,{A:=Nat×Nat×Sl×Sl×MH×PH,st:=λ⟨i,b,e,g,m,h⟩=>bU 66 68 [(10,vv (.pointer (some ⟨b,0,none⟩))),(11,sv e),(51,sv g),(52,iv g.len),(53,iv i)] [] m h})] [] [200005,200006,200007,200010,1058,400000,0]
abbrev KX(a:ca)(b:bn):Bool:=List.all (pick a b) pI
abbrev sV(a:MH)(b:Nat)(c:(Value->Prop)->Prop)(d:Value)(e:Prop)(g:Sl->Prop):Prop:=∃(x:List (Value×Sl))(j:Value->Prop),aA (uP a b (List.map (fun(f:Value×Sl)=>(f.1,dP f.2)) x)) (C6 j) (aA (c j) (∀(f:Value×Sl),List.Mem f x->j f.1) (((∀(f:Value×Sl),bG (List.Mem f x) (f.1=d) False)->e)/\∀(f:Sl),List.Mem (d,f) x->g f))
abbrev Fy(a:Nat->Option Obj)(b:List bt)(c:Sl)(d:Sl->MH->Prop):Prop:=aI (cT a (Sl.mk Option.none 0 0) 65 1 b) (kB b) (dO b) (jU (λx e=>fY a e (Sl.mk Option.none 0 0) x 65 1 (dL b (aR c))->d x e))
abbrev qJ(a:Nat×Nat×Sl×Sl×MH×PH):Nat:=a.2.1
abbrev Cj(a:Nat×Nat×Sl×Sl×MH×PH):Sl:=a.2.2.1
abbrev oD(a:Nat×Nat×Sl×Sl×MH×PH):Sl:=a.2.2.2.1
abbrev iB(a:Sl×Sl×MH×PH):MH×PH:=a.2.2
abbrev Ck(a:Nat×Nat×Sl×Sl×MH×PH):MH×PH:=iB a.2.2
abbrev oE(a:Nat×Nat×Sl×Sl×MH×PH):Nat->Option Obj:=(iB a.2.2).1
abbrev vN(a:Nat×Nat×Sl×Sl×MH×PH):Nat->Nat->Option Value:=(iB a.2.2).2
abbrev Ks(a:Nat->Nat->Option Value)(b c:Sl)(d:Sl->PH->Prop):Prop:=bY a 1 (lY (aR b) (aR c)) (λx j=>∃(n:Sl)(f:br),aA (vG (mQ x)=vG (mQ n)) (Rows j n f) (aA (f.length<=10) (∀(e:ca),List.Mem e f->e.length<=12) (∀(e:Sl)(g:PH),bQ j g (bS g e f.flatten) (d e g))))
attribute [push_cast] KX sV Fy qJ Cj oD iB Ck oE vN Ks
def MK(v:QV)(t:Sl)(m:MH)(h:PH)(K:bo):Prop:=
  Ku v.on h (λa b P=>∀(Q:Nat)(m1:MH),bG (cF m P Q) (bK m m1 Q fW 36) (∀(b2:Nat)(m2:MH),bG (cF m1 P b2) (bK m1 m2 b2 fW 36) (jN (λc E=>aA (yA m2 Q (gG c E 0)) (0<c.size) (∀(m3:MH),bK m2 m3 Q (fA (dP a) 1 c) E->jN (λc1 E1=>aA (yA m3 b2 (gG c1 E1 0)) (0<c1.size) (∀(m4:MH),bK m3 m4 b2 (fA (dP b) 1 c1) E1->w9 m4 P (λb3 m5=>∀(n:Nat)(m6:MH),bG (cF m5 P n) (bK m5 m6 n (oN Em) 160) (jN (λc2 E2=>aA (yA m6 n (gG c2 E2 0)) (0<c2.size) (∀(m7:MH),bK m6 m7 n (fA (C8 b3) 1 c2) E2->AN t.a 0 1 t m7 P 1 (λy S=>w8 S P y m7 (λx I k e=>HS x k e P I (λu f y1=>aK u f b2 0 (aR y1)/\∃(s:Sl),Av (λt1 r R=>aA (cJ e y1=cJ s t1) (bS f s r) (aA (Ints
 f t1 R) (As r R) (branch (KX r R) (∃(T:Sl),aK u f b2 0 (aR T)/\∃(s1:Sl),Av (λt2 z A=>aA (cJ e T=cJ s1 t2) (bS f s1 z) (aA (Ints f t2 A) (Ot z) (aA (As z A) (eA u) (∃(j:Nat),aK u f n 0 (oA j)/\∃(D:Nat),aA (dK u f n D) (aK u f n 0 (oA j)/\sV u D (λO=>O (dQ z A)) (dQ z A) (aA (dK u f n j) (dK u f n D) (aA (dK u f n j) (dK u f n D) (∃(d:List bt),Fy u d e (λF B=>aA (dK B f n j) (dK B f n D) (qZ B j (λO=>O (dQ z A)) (dQ z A) (λU=>∀(g:MH),bG (jY B g j) (pH g j (gV U (dQ z A) (dP F) [])) (I (k+1) g f)) (λl V G=>gV l (dQ z A) V G) (λl G=>∀(g:MH),bG (jY B g j) (pH g j
 (gV l (dQ z A) (dP F) G)) (I (k+1) g f))))))) (λJ=>aA (dK u f n j) (dK u f n D) (aA (dK u f n j) (dK u f n D) (∃(d:List bt),aI (cT u (dN J) 65 1 d) (kB d) (dO d) (jU (λF B=>fY u B (dN J) F 65 1 (dL d (aR e))->aA (dK B f n j) (dK B f n D) (qZ B j (λO=>O (dQ z A)) (dQ z A) (λU=>∀(g:MH),bG (jY B g j) (pH g j (gV U (dQ z A) (dP F) [])) (I (k+1) g f)) (λl V G=>gV l (dQ z A) V G) (λl G=>∀(g:MH),bG (jY B g j) (pH g j (gV l (dQ z A) (dP F) G)) (I (k+1) g f))))))))) (aA (dK u f n j) (dK u f n D) (aK u f n 0 (oA j)/\sV u D (λO=>O (dQ z A)) (dQ z A) (Da (dK u f n j)
 (dK u f n D) (λd=>Fy u d e (λF B=>aA (dK B f n j) (dK B f n D) (qZ B j (λO=>O (dQ z A)) (dQ z A) (λU=>∀(g:MH),bG (jY B g j) (pH g j (gV U (dQ z A) (dP F) [])) (I (k+1) g f)) (λl V G=>gV l (dQ z A) V G) (λl G=>∀(g:MH),bG (jY B g j) (pH g j (gV l (dQ z A) (dP F) G)) (I (k+1) g f)))))) (λJ=>Da (dK u f n j) (dK u f n D) (λd=>aI (cT u (dN J) 65 1 d) (kB d) (dO d) (jU (λF B=>fY u B (dN J) F 65 1 (dL d (aR e))->aA (dK B f n j) (dK B f n D) (qZ B j (λO=>O (dQ z A)) (dQ z A) (λU=>∀(g:MH),bG (jY B g j) (pH g j (gV U (dQ z A) (dP F) [])) (I (k+1) g f)) (λl V
 G=>gV l (dQ z A) V G) (λl G=>∀(g:MH),bG (jY B g j) (pH g j (gV l (dQ z A) (dP F) G)) (I (k+1) g f)))))))))))))) (I (k+1) u f)))))) (λu f=>∀(b5:Nat)(B:MH),bG (cF u f b5) (bK u B b5 fW 58) (AN t.a 0 0 t B f 0 (λy1 S1=>w8 S1 f y1 B (λx I k e=>HS x k e f I (λg H T=>aK g H Q 0 (aR T)/\∃(s:Sl),Av (λt1 r R=>aA (cJ e T=cJ s t1) (bS H s r) (aA (Ints H t1 R) (As r R) (nX (KX r R) (I (k+1) g H) (∃(j:Nat),aK g H n 0 (oA j)/\∃(D:Sl),aA (aK g H Q 0 (aR D)) (dK g H n j) (∃(s1:Sl),DI e D s1 H g n j (λ_ _=>aK g H Q 0 (aR D)) (λz A=>sV g j (λO=>O (dQ z A)) (dQ z A) (∃(I1:Nat×Nat×Sl×Sl×MH×PH->Prop)(a2
 :Nat×Nat×Sl×Sl×MH×PH->Nat),(∃(d:Nat×Nat×Sl×Sl×MH×PH),aA (I1 d) (dM b5 (qJ d)) (aA (aZ e (Cj d)) (sQn=sQs (oD d)) (aA (bA (oD d).len) (bA d.1) (aA (dJ g (Ck d)) (fC H (Ck d)) True))))/\∀(d:Nat×Nat×Sl×Sl×MH×PH),I1 d->aY (↑d.1:Int) (aH (oD d)) (bJ (λb6 o=>aI (aW (oD d).a b6 o) (0<=(↑d.1:Int)) ((↑d.1:Int)<aH (oD d)) (∃(J:Sl),aK (oE d) (vN d) b6 (o+bM d.1 1) (aR J)/\∃(L:Sl),aI (aK (oE d) (vN d) (qJ d) 0 (aR L)) (aK (oE d) (vN d) (qJ d) 0 (aR L)) (aK (oE d) (vN d) (qJ d) 0 (aR L)) (Ks (vN d) (Cj d) J (λF W=>Da (aK (oE d) W (qJ d) 0 (aR L)) (aK (oE d) W (qJ d)
 0 (aR L)) (λM=>aI (cT (oE d) (dN L) 65 1 M) (kB M) (dO M) (jU (λs3 X=>fY (oE d) X (dN L) s3 65 1 (dL M (aR F))->jN (λY E3=>aA (yA X (qJ d) (gG Y E3 0)) (0<Y.size) (∀(a4:MH),bK X a4 (qJ d) (fA (dP s3) 1 Y) E3->∃(C:Nat×Nat×Sl×Sl×MH×PH),aA (I1 C) (a2 C<a2 d) (aA (dM (qJ d) (qJ C)) (aZ (Cj d) (Cj C)) (aA (aZ (oD d) (oD C)) (bN (oD d) (oD C)) (aA (gK (bE d.1 1)=bO C.1) (dJ a4 (Ck C)) (kZ (fC W (Ck C)))))))))))))))) (I (k+1) (oE d) (vN d))) (λJ=>∃(I1:Nat×Nat×Sl×Sl×MH×PH->Prop)(a2:Nat×Nat×Sl×Sl×MH×PH->Nat),(∃(d:Nat×Nat×Sl×Sl×MH×PH),aA (I1 d) (dM b5 (qJ d)) (aA (aZ e (Cj
 d)) (aZ J (oD d)) (aA (bN J (oD d)) (bA d.1) (aA (dJ g (Ck d)) (fC H (Ck d)) True))))/\∀(d:Nat×Nat×Sl×Sl×MH×PH),I1 d->aY (↑d.1:Int) (aH (oD d)) (bJ (λb6 o=>aI (aW (oD d).a b6 o) (0<=(↑d.1:Int)) ((↑d.1:Int)<aH (oD d)) (∃(L:Sl),aK (oE d) (vN d) b6 (o+bM d.1 1) (aR L)/\∃(Z:Sl),aI (aK (oE d) (vN d) (qJ d) 0 (aR Z)) (aK (oE d) (vN d) (qJ d) 0 (aR Z)) (aK (oE d) (vN d) (qJ d) 0 (aR Z)) (Ks (vN d) (Cj d) L (λF W=>Da (aK (oE d) W (qJ d) 0 (aR Z)) (aK (oE d) W (qJ d) 0 (aR Z)) (λM=>aI (cT (oE d) (dN Z) 65 1 M) (kB M) (dO M) (jU (λs3 X=>fY (oE d) X
 (dN Z) s3 65 1 (dL M (aR F))->jN (λY E3=>aA (yA X (qJ d) (gG Y E3 0)) (0<Y.size) (∀(a4:MH),bK X a4 (qJ d) (fA (dP s3) 1 Y) E3->∃(C:Nat×Nat×Sl×Sl×MH×PH),aA (I1 C) (a2 C<a2 d) (aA (dM (qJ d) (qJ C)) (aZ (Cj d) (Cj C)) (aA (aZ (oD d) (oD C)) (bN (oD d) (oD C)) (aA (gK (bE d.1 1)=bO C.1) (dJ a4 (Ck C)) (kZ (fC W (Ck C)))))))))))))))) (I (k+1) (oE d) (vN d))))))))))) (λg H=>kS g H b5 0 (λT=>K (mQ T) g H)))))))))))))))))
def b5J(on:bu)(ls:List br):Prop:=2<=ls.length/\∃w c,iG w (ls.getD 0 [])/\iG c (ls.getD 1 [])/\jM w (kE on)/\jM c (fM on)
def Mc(q:Query)(ls:List br):Prop:=match q with|.mk _ _ _ _ on _ _ _ _=>b5J on ls
def agree(on:bu)(x y:ca):Bool:=eW (pick x (kE on)) (pick y (fM on))==0
def We(q:Query)(ls:List br):br:=match q with|.mk _ _ _ _ on _ _ _ _=>(ls.getD 0 []).filter λx=>(ls.getD 1 []).any λy=>agree on x y
theorem biZ{on:bu}{x y:ca}:agree on x y=true↔pick x (kE on)=pick y (fM on):=by
 simp only[agree,beq_iff_eq,lB]
theorem J5{r:ca}{cols:bn}(c:Ot r)(d:jM r.length cols):∀v∈pick r cols,YN v:=λv e=>c.val v (P0 d e)
theorem CN{κ:ca->ByteArray}(c:asQ κ){on:bu}{x y:ca}(hx:Ot x)(d:Ot y)(e:jM x.length (kE on))(f:jM y.length (fM on)):κ (pick x (kE on))=κ (pick y (fM on))↔agree on x y=true:=by
 rw[biZ];exact c.inj (by simp[pick,kE,fM]) (J5 hx e) (J5 d f)
structure Start(m m7:MH)(sa sb:Sl)(T:TypeId)(b1 b2 y b7:Nat):Prop where
 sub:Sub m m7
 a_:m7 b1=some (.cells #[.slice sa.a sa.len sa.cap] 36 (0,0))
 b_:m7 b2=some (.cells #[.slice sb.a sb.len sb.cap] 36 (0,0))
 y_:m7 y=some (.map #[] 0)
 c_:m7 b7=some (.cells #[.map (some y)] T (0,0))
 ya:b1≠y
 yb:b2≠y
 yc:b7≠y
 free:m y=none
theorem V8{S U:Sl}{T:TypeId}{Q:Nat->Nat->Nat->Nat->MH->Prop}(hK:∀c d y n P,Start m P S U T c d y n->Q c d y n P):
 ∀(c:Nat)(Z:MH),cF m h c->lF m Z c (.cells #[oM] 36 (0,0))->∀(d:Nat)(m2:MH),cF Z h d->lF Z m2 d (.cells #[oM] 36 (0,0))->
  ∃(cs:Array Value)(E:TypeId),yA m2 c (.cells cs E (0,0))/\0<cs.size/\∀V:MH,lF m2 V c (.cells (Array.mk (dP S::cs.toList.drop 1)) E (0,0))->
  ∃(cs:Array Value)(E:TypeId),yA V d (.cells cs E (0,0))/\0<cs.size/\∀F:MH,lF V F d (.cells (Array.mk (dP U::cs.toList.drop 1)) E (0,0))->
  ∀(y:Nat)(R:MH),cF F h y->lF F R y (.map (Array.mk []) 0)->∀(n:Nat)(m6:MH),cF R h n->lF R m6 n (.cells (Array.mk [.map none]) T (0,0))->
  ∃(cs:Array Value)(E:TypeId),yA m6 n (.cells cs E (0,0))/\0<cs.size/\∀P:MH,lF m6 P n (.cells (Array.mk (.map (some y)::cs.toList.drop 1)) E (0,0))->Q c d y n P:=by
 intro c Z a' G d m2 W H;obtain⟨s1,n1⟩:=iT (Sub.refl m) a' G;obtain⟨s2,n2⟩:=iT s1 W H;have I:c≠d:=λe=>by have:=W.m_;rw[<-e,G.at_]at this;cases this
 refine⟨_,_,⟨by rw[H.other c I];exact G.at_⟩,ay,λV J=>?_⟩;have s3:Sub m V:=s2.upd n1 J.other;refine⟨_,_,⟨by rw[J.other d (Ne.symm I)];exact H.at_⟩,ay,λF L y R X u n m6 Y g=>?_⟩;have s4:Sub m F:=s3.upd n2 L.other;have M:F c=some (.cells #[.slice S.a S.len S.cap] 36 (0,0)):=by rw[L.other c I];exact J.at_
 have O:F d=some (.cells #[.slice U.a U.len U.cap] 36 (0,0)):=L.at_;obtain⟨s5,ny⟩:=iT s4 X u;obtain⟨s6,n7⟩:=iT s5 Y g;have A:∀{z o},F z=some o->z≠y:=fun{z o} e e2=>by rw[e2,X.m_]at e;cases e
 have f:∀{z o},R z=some o->z≠n:=fun{z o} e e2=>by rw[e2,Y.m_]at e;cases e
 have B:=M;rw[<-u.other c (A M)]at B;have C:=O;rw[<-u.other d (A O)]at C;have D:R y=some (.map #[] 0):=u.at_;refine⟨_,_,⟨g.at_⟩,ay,λP j=>hK _ _ _ _ _ ⟨s6.upd n7 j.other,?_,?_,?_,j.at_,A M,A O,Ne.symm (f D),ny⟩⟩
 .rw[j.other c (f B),g.other c (f B)];exact B
 .rw[j.other d (f C),g.other d (f C)];exact C
 .rw[j.other y (f D),g.other y (f D)];exact D
theorem ZI:bm 218 (VS Mc We):=by
 refine I6 func218 ?_;rintro c8 m h K ⟨v,t,q,bs,ls,rfl,hq,ha,hT,a9,hK⟩;refine⟨Vl [(246,Ni),(248,bYQ)] [] [] [200005,200006,200007,200009,1058,400000,0],rfl,aE QY (aE Gj aG),MJ v t m h (cN h K),ax,?_⟩;show MJ v t m h (cN h K);dsimp only[MJ,push_cast];obtain⟨op,ta,w,co,on,gr,od,li,args⟩:=q;obtain⟨h2,wa,wb,f,d,b',L⟩:=a9;refine⟨v.on,on,rfl,hq.parts.on_,λsa sb M C b0 b3=>V8 λb1 b2 y Y m7 D=>?_⟩;obtain⟨b,b4,x,ea,c9,rd,sq⟩:=ha.get (GJ (i:=1) aC);obtain⟨b6,Z,x6,b5,c7,b8,a'⟩:=ha.get (GJ (i:=0) aC);obtain⟨a0,O,E⟩:=(sq.mono C).ex;obtain⟨us,a1,P⟩:=(a'.mono C).ex;simp only[We]at hK;generalize ls.getD 1 []=Q at E d hK sq;generalize ls.getD 0 []=l at P f hK a';have c':=P.len;have d':=f.len;have a2:=E.len;have s7:=D.sub;have ny:=D.free;refine⟨b,b4,ea,aC,aC,x,.imm (rd.mono C),AD,a0,λk I J=>J=M/\(∀z o,m7 z=some o->z≠y->I z=some o)/\rY I y ((Q.take k).map λz=>fD (pick z (fM on))),z6,⟨x,a0,rfl,O,rfl⟩,⟨rfl,λz o e _=>e,bk (rY.new D.y_)⟩,?_,?_⟩
 .rintro k e I J hk-⟨rfl,R,F⟩
  obtain⟨r,X,hv⟩:=E.at' hk;have n:=mem_of_getElem? X;have S:aK I J Y 0 [Value.map (some y)]:=.of_m (R Y _ D.c_ D.yc) rfl;have rb:aK I J b2 0 [dP sb]:=.of_m (R b2 _ D.b_ D.yb) rfl;refine⟨y,S,sb,rb,S,e,sb,r,fM on,rfl,hv,b3,d.row r n,by rw[d.wid r n];exact L,hT.sub (λz o A=>R z o (s7 z o A) (λe3=>bg)),S,F.put (λm' T a3=>⟨rfl,λz o A c0=>by rw[T.other z c0];grind,?_⟩)⟩;obtain⟨kk,h5,h6⟩:=a3.ex;exact⟨kk,h5,λq=>by rw[h6,take_add_one,X];grind⟩
 .rintro I J-⟨rfl,R,F⟩ b9 m5 a4 G;rw[a2,take_length]at F;have s5:Sub m I:=λz o A=>R z o (s7 z o A) (λe3=>bg);obtain⟨s6,n7⟩:=iT s5 a4 G
  have a5:∀{z o},I z=some o->m5 z=some o/\z≠b9:=fun{z o} A=>by
   have:z≠b9:=λe3=>by rw[e3,a4.m_]at A;cases A
   exact⟨by rw[G.other z this];exact A,this⟩
  obtain⟨c1,na⟩:=a5 (R b1 _ D.a_ D.ya);obtain⟨c2,nc⟩:=a5 (R Y _ D.c_ D.yc)
  have y7:y≠b9:=by
   obtain⟨kk,⟨es,c,M,_⟩,_⟩:=F.ex
   grind
  have a6:=F.keep (G.other y y7);refine⟨b6,Z,b5,aC,aC,x6,.imm (b8.mono C),AD,us,λk U hy=>hy=J/\E6 m5 U b9/\∃u,rZ m5 U b9 u/\u.length<=k/\eX J u ((l.take k).filter λz=>Q.any λy=>agree on z y),z6,⟨x6,us,rfl,a1,rfl⟩,⟨rfl,λz o e _=>e,[],rZ.new G.at_,ay,bk (eX.nil J)⟩,?_,?_⟩
  .rintro k e U hy hk-⟨rfl,g,u,B,c3,H⟩
   obtain⟨r,X,hv⟩:=P.at' hk;have d0:=(List.getElem?_eq_some_iff.1 hk).1;have n:=mem_of_getElem? X;have S:aK U hy Y 0 [Value.map (some y)]:=.of_m (g Y _ c2 nc) rfl;have r3:aK U hy b1 0 [dP sa]:=.of_m (g b1 _ c1 na) rfl
   have a7:rY U y (Q.map λz=>fD (pick z (fM on))):=by
    obtain⟨kk,⟨es,c,M,h2,h3,h4⟩,h5⟩:=a6.ex;exact⟨kk,⟨es,c,g y _ M y7,h2,h3,h4⟩,h5⟩
   have V:jM r.length (kE on):=by rw[f.wid r n];exact b'
   have key:∀t:Bool,(t=true↔fD (pick r (kE on))∈Q.map λz=>fD (pick z (fM on)))->t=Q.any λy=>agree on r y:=λt ht=>by
    have M:(fD (pick r (kE on))∈Q.map λz=>fD (pick z (fM on)))↔(Q.any λy=>agree on r y)=true:=by
     rw[mem_map,any_eq_true];constructor
     .rintro⟨z,W,A⟩;exact⟨z,W,(CN Qt (f.row r n) (d.row z W) V (by rw[d.wid z W];exact L)).1 A.symm⟩
     .rintro⟨z,W,A⟩;exact⟨z,W,((CN Qt (f.row r n) (d.row z W) V (by rw[d.wid z W];exact L)).2 A).symm⟩
    grind
   refine⟨y,S,sa,r3,S,e,sa,r,kE on,rfl,hv,b0,f.row r n,V,hT.sub (s6.x n7 g),S,r3,a7.get (K:=λt=>branch t _ _) (λt ht=>?_)⟩;have e3:=key t ht;refine aD (λM=>?_) (λM=>?_)
   .refine rZ.app ⟨_,G.at_⟩ g B aC (λm' T c4=>⟨rfl,T,u++[e],c4,bf,?_⟩);rw[jF _ X,if_pos bg];exact H.snoc hv
   .refine⟨rfl,g,u,B,aC,?_⟩;rw[jF _ X,if_neg bg,append_nil];exact H
  .rintro U hy-⟨rfl,g,u,B,c3,H⟩
   rw[c',take_length]at H;obtain⟨s,hb,a8,c5⟩:=B.ex;refine⟨s,.of_m hb rfl,cN.row (s6.x n7 g) C a8 (λj z e=>?_) (λh' le c6=>hK s h' (C.trans le) ((H.mono le).rows c6 bg))⟩;cases A:m z with
   |none=>rfl
   |some o=>have e1:=c5 j z e;rw[s6 z o A]at e1;cases e1
structure nB(m0 m:MH)(y:Nat)(kk:cj)(us:ByteArray->bx):Prop where
 map_:pH m y (kk.map λp=>(Value.string p.1,dP p.2))
 nodup:(kk.map Prod.fst).Nodup
 row:∀p∈kk,cT m p.2 65 1 ((us p.1).map eS)
 fresh:∀p∈kk,∀x i,p.2.a=some ⟨x,i,none⟩->m0 x=none
 apart:∀p∈kk,∀q∈kk,p.1≠q.1->∀x i j,p.2.a=some ⟨x,i,none⟩->q.2.a≠some ⟨x,j,none⟩
 none_:∀k,k∉kk.map Prod.fst->us k=[]
 old:∀x o,m0 x=some o->x≠y->m x=some o
def Dl(kk:cj)(key:ByteArray)(s:Sl):Prop:=(s=⟨none,0,0⟩/\key∉kk.map Prod.fst)\/(key,s)∈kk
theorem nB.new{y:Nat}(h:m y=some (.map #[] 0)):nB m m y [] λ_=>[]:=⟨⟨#[],0,h,rfl,ay,ay⟩,ay,ay,ay,ay,λ_ _=>rfl,λ_ _ e _=>e⟩
theorem Dl.row{m0:MH}{y:Nat}{kk:cj}{us:ByteArray->bx}{key:ByteArray}{s:Sl}(g:nB m0 m y kk us)(d:Dl kk key s):cT m s 65 1 ((us key).map eS)/\∀x i,s.a=some ⟨x,i,none⟩->m0 x=none:=by
 rcases d with⟨rfl,f⟩|c
 .rw[g.none_ key f];exact⟨⟨Bt [],.inl ⟨rfl,rfl⟩⟩,λx i e=>by cases e⟩
 .exact⟨g.row _ c,g.fresh _ c⟩
theorem nB.keep{m0:MH}{y:Nat}{kk:cj}{us:ByteArray->bx}(g:nB m0 m y kk us)(f:∀x o,m x=some o->m' x=some o):nB m0 m' y kk us:=by
 obtain⟨j,c,d,e,n,u⟩:=g.map_;refine⟨⟨j,c,f _ _ d,e,n,u⟩,g.nodup,λp z=>?_,g.fresh,g.apart,g.none_,λx o d e=>f x o (g.old x o d e)⟩;obtain⟨A,B⟩:=g.row p z;refine⟨A,B.imp id ?_⟩
 grind
def Og(us:ByteArray->bx)(key:ByteArray)(e:Sl):ByteArray->bx:=λk=>if k=key then us k++[e]else us k
theorem nB.core{m0 U:MH}{y:Nat}{kk A:cj}{us:ByteArray->bx}{key:ByteArray}{s E e:Sl}(g:nB m0 m y kk us)(H:∃o,m0 y=some o)(I:Dl kk key s)(F:fY m U s E 65 1 ((us key).map eS++[[dP e]]))
 (V:pH m' y (A.map λp=>(Value.string p.1,dP p.2)))(u:jY U m' y)(J:(A.map Prod.fst).Nodup)(z:∀p∈A,p=(key,E)\/(p∈kk/\p.1≠key))(G:(key,E)∈A)(L:∀k,k∈kk.map Prod.fst->k∈A.map Prod.fst):nB m0 m' y A (Og us key e):=by
 obtain⟨oy,H⟩:=H;obtain⟨W,a'⟩:=I.row g;obtain⟨es,c,h1,_⟩:=g.map_;have a0:∀i,s.a≠some ⟨y,i,none⟩:=λi f=>bg
 have X:∀x,m x=none->m0 x=none:=λx M=>by
  cases O:m0 x with
  |none=>rfl
  |some o=>
   by_cases P:x=y
   .grind
   .rw[g.old x o O P]at M;cases M
 have Y:∀x i,E.a=some ⟨x,i,none⟩->m0 x=none:=λx i f=>by
  rcases F.fresh x i f with h|⟨j,h⟩
  .grind
  grind
 have D:∀p∈kk,∀x i,p.2.a=some ⟨x,i,none⟩->∃o,m x=some o:=λp B x i f=>by
  rcases(g.row p B).ex with⟨h,_⟩|⟨b,a1,a2,h,V,_⟩
  .grind
  grind
 have Q:∀p∈kk,p.1≠key->∀x i j,p.2.a=some ⟨x,i,none⟩->s.a≠some ⟨x,j,none⟩:=λp B d x i j f C=>by
  rcases I with⟨rfl,_⟩|I
  .cases C
  .exact g.apart p B _ I d x i j f C
 refine⟨V,J,λp B=>?_,λp B x i f=>?_,λp B q hq d x i j f C=>?_,λk Z=>?_,λx o O d=>?_⟩
 .rcases z p B with rfl|⟨n,d⟩
  .have R:(Og us key e key).map eS=(us key).map eS++[[dP e]]:=by simp[Og,eS]
   rw[R];exact cT.keep F.row λb i f=>u.other b (λC=>bg)
  .have R:Og us key e p.1=us p.1:=if_neg d;rw[R];refine cT.keep (g.row p n) λb i f=>?_;obtain⟨o,ho⟩:=D p n b i f;rw[u.other b (λC=>by rw[C]at f;rw[g.fresh p n y i f]at H;cases H),ho];exact F.other b o ho (λj=>Q p n d b i j f)
 .rcases z p B with rfl|⟨n,_⟩
  .grind
  .exact g.fresh p n x i f
 .have M:∀p∈kk,p.1≠key->∀i j,p.2.a=some ⟨x,i,none⟩->E.a≠some ⟨x,j,none⟩:=λp B d i j f C=>by
   rcases F.fresh x j C with h|⟨j',h⟩
   .grind
   grind
  rcases z p B with rfl|⟨n,a3⟩<;>rcases z q hq with rfl|⟨S,a4⟩
  .exact d rfl
  .grind
  .grind
  .exact g.apart p n q S d x i j f C
 .have T:k≠key:=λf=>Z (mem_map.2 ⟨_,G,f.symm⟩);simp only[Og,if_neg T];exact g.none_ k λh=>Z (L k h)
 .rw[u.other x d];exact F.other x o (g.old x o O d) (λi f=>bg)
theorem nB.put{m0 B:MH}{y:Nat}{kk:cj}{us:ByteArray->bx}{key:ByteArray}{s u e:Sl}{Q:MH->Prop}(g:nB m0 m y kk us)(C:∃o,m0 y=some o)(D:Dl kk key s)(E:fY m B s u 65 1 ((us key).map eS++[[dP e]]))
 (L:∀m' F,nB m0 m' y F (Og us key e)->Q m'):
 ∃(j:cd)(Ok:Value->Prop),pH B y j/\KeyLaw Tryz.prog 9 Ok/\Ok (.string key)/\Instr.sameBits 10000 (Value.string key) (Value.string key)=true/\(∀e,List.Mem e j->Ok e.1)/\((∀e,List.Mem e j->e.1=Value.string key->False)->∀m':MH,jY B m' y->pH m' y (j++[(Value.string key,dP u)])->Q m')/\
  ∀(G:cd)(M:Value)(H:cd),j=G++(Value.string key,M)::H->∀m':MH,jY B m' y->pH m' y (G++(Value.string key,dP u)::H)->Q m':=by
 have I:∀i,s.a≠some ⟨y,i,none⟩:=λi n=>by
  obtain⟨o,O⟩:=C;rw[(D.row g).2 y i n]at O;cases O
 obtain⟨S,c,T,U,V,W⟩:=g.map_;refine⟨kk.map λp=>(Value.string p.1,dP p.2),_,⟨S,c,E.other _ _ T I,U,V,W⟩,CZ,⟨key,rfl⟩,Wg key,λe X=>?_,λY m' d J=>?_,λG M H Z m' d J=>?_⟩
 .obtain⟨k,_,rfl⟩:=mem_map.1 (show e∈_ from X)
  grind
 .have a':key∉kk.map Prod.fst:=λh=>by
   obtain⟨p,hp,n⟩:=mem_map.1 h;subst n;exact Y _ (mem_map_of_mem (f:=λp:ByteArray×Sl=>(Value.string p.1,dP p.2)) hp) rfl
  refine L m' (kk++[(key,u)]) (g.core C D E bg d ?_ ?_ ay (λk hk=>bg))
  .rw[map_append,nodup_append];refine⟨g.nodup,ay,λa ha b hb n=>?_⟩
   grind
  grind
 .obtain⟨k1,a0,e1,n,e3⟩:=map_eq_append_iff.1 Z;obtain⟨p,k2,e4,P,e6⟩:=map_eq_cons_iff.1 e3;subst e1 e4 n e6;simp only[Prod.mk.injEq,Value.string.injEq]at P;have z:=g.nodup;rw[map_append,map_cons,P.1]at z;have A:=nodup_append.1 z;have R:=nodup_cons.1 A.2.1;refine L m' (k1++(key,u)::k2) (g.core C D E bg d bg ?_ ay (λk hk=>bg))
  grind
theorem nB.app{m0:MH}{hx:PH}{y c:Nat}{T:TypeId}{kk:cj}{us:ByteArray->bx}{key:ByteArray}{s e:Sl}{Q:MH->Prop}(g:nB m0 m y kk us)(D:∃o,m0 y=some o)(E:∃o,m0 c=some o)(F:m c=some (.cells #[.map (some y)] T (0,0)))(J:(us key).length<=502633886983)
 (G:∀m' u,nB m0 m' y u (Og us key e)->Q m')(z:Dl kk key s):
 ∃xs:List bt,cT m (Sl.mk s.a s.len s.cap) 65 1 xs/\(xs.length+1)*24<=140737488355328/\xs.length<140737488355328/\∀(n:Sl)(f:MH),fY m f (Sl.mk s.a s.len s.cap) n 65 1 (xs++[[dP e]])->
  aK f hx c 0 [Value.map (some y)]/\aK f hx c 0 [Value.map (some y)]/\
 ∃(d:cd)(Ok:Value->Prop),pH f y d/\KeyLaw Tryz.prog 9 Ok/\Ok (.string key)/\Instr.sameBits 10000 (Value.string key) (Value.string key)=true/\(∀e,List.Mem e d->Ok e.1)/\((∀e,List.Mem e d->e.1=Value.string key->False)->∀m':MH,jY f m' y->pH m' y (d++[(Value.string key,dP n)])->Q m')/\
  ∀(A:cd)(H:Value)(B:cd),d=A++(Value.string key,H)::B->∀m':MH,jY f m' y->pH m' y (A++(Value.string key,dP n)::B)->Q m':=by
 obtain⟨j,I⟩:=z.row g;refine⟨_,j,bf,bf,λn f C=>?_⟩
 have r:aK f hx c 0 [Value.map (some y)]:=.of_m (C.other c _ F λi L=>by
  grind) rfl
 exact⟨r,r,g.put D z C G⟩
theorem nB.get2{m0:MH}{y:Nat}{kk:cj}{us:ByteArray->bx}{key:ByteArray}{K0:Prop}{K:Sl->Prop}(g:nB m0 m y kk us)(n:Dl kk key ⟨none,0,0⟩->K0)(o:∀s,Dl kk key s->K s):
 ∃(d:List (Value×Sl))(Ok:Value->Prop),uP m y (d.map λp=>(p.1,dP p.2))/\KeyLaw Tryz.prog 9 Ok/\Ok (.string key)/\(∀e,List.Mem e d->Ok e.1)/\((∀e,List.Mem e d->e.1=Value.string key->False)->K0)/\∀t,List.Mem (Value.string key,t) d->K t:=by
 obtain⟨u,c,z,A,_,_⟩:=g.map_;refine⟨kk.map λp=>(.string p.1,p.2),_,⟨u,c,z,by rw[A];simp⟩,CZ,⟨key,rfl⟩,λe B=>?_,λC=>n (.inl ⟨rfl,λh=>?_⟩),λt D=>o t (.inr ?_)⟩
 .obtain⟨k,_,rfl⟩:=mem_map.1 (show e∈_ from B)
  grind
 .obtain⟨p,j,e⟩:=mem_map.1 h;subst e;exact C (.string p.1,p.2) (mem_map_of_mem (f:=λp:ByteArray×Sl=>(Value.string p.1,p.2)) j) rfl
 .obtain⟨p,j,e⟩:=mem_map.1 (show(Value.string key,t)∈_ from D)
  grind
structure Nn(m0 m:MH)(h:PH)(y:Nat)(f:ByteArray->br):Prop where
 ex:∃kk us,nB m0 m y kk us/\∀k,eX h (us k) (f k)
theorem Nn.upd{m0:MH}{y:Nat}{kk:cj}{us:ByteArray->bx}{f c:ByteArray->br}{key:ByteArray}{e:Sl}{r:ca}(g:nB m0 m' y kk (Og us key e))(j:∀k,eX h (us k) (f k))(n:bS h e r)(o:c key=f key++[r])(u:∀k,k≠key->c k=f k):Nn m0 m' h y c:=by
 refine⟨kk,_,g,λk=>?_⟩;by_cases d:k=key
 .subst d;rw[o];have:Og us k e k=us k++[e]:=if_pos rfl;rw[this];exact(j k).snoc n
 .rw[u k d];have:Og us key e k=us k:=if_neg d
  grind
def wD(cols:bn)(r:ca):Bool:=(pick r cols).all pI
def kF(on:bu)(b:br)(x:ca):br:=
 if wD (kE on) x then(b.filter λy=>wD (fM on) y&&agree on x y).map (x++ ·)else[]
def WQ(q:Query)(ls:List br):br:=match q with|.mk _ _ _ _ on _ _ _ _=>(ls.getD 0 []).flatMap (kF on (ls.getD 1 []))
def Mf(q:Query)(ls:List br):Prop:=match q with|.mk _ _ _ _ on _ _ _ _=>b5J on ls/\(ls.getD 0 []).length*(ls.getD 1 []).length<=8000000
theorem uY{α β:Type}{f:α->List β}{n:Nat}:∀{l:List α},(∀x∈l,(f x).length<=n)->(l.flatMap f).length<=l.length*n
 |[],_=>ay
 |a::l,h=>by
  have d:=h a (mem_cons_self ..);have e:=uY (l:=l) λx c=>h x (mem_cons_of_mem _ c);simp only[flatMap_cons,length_append,length_cons,Nat.add_mul,Nat.one_mul];omega
theorem tD{α β:Type}{l:List α}{k:Nat}{x:α}(f:α->List β)(hx:l[k]? =some x):(l.take (k+1)).flatMap f=(l.take k).flatMap f++f x:=by
 rw[take_add_one,hx];simp
theorem yC{on:bu}{b:br}{x:ca}:(kF on b x).length<=b.length:=by
 unfold kF;grind
def under(κ:ca->ByteArray)(cols:bn)(l:br)(key:ByteArray):br:=l.filter λz=>wD cols z&&decide (κ (pick z cols)=key)
theorem Ap{κ:ca->ByteArray}{cols:bn}{l:br}{k:Nat}{r:ca}(c:l[k]? =some r)(key:ByteArray):under κ cols (l.take (k+1)) key=under κ cols (l.take k) key++(if wD cols r&&decide (κ (pick r cols)=key)then[r]else[]):=jF _ c
theorem ZJ:bm 217 (VS Mf WQ):=by
 refine I6 func217 ?_;rintro f4 m h K ⟨v,t,q,bs,ls,rfl,hq,ha,hT,d9,hK⟩;refine⟨bCZ,rfl,aE QY (aE Gj (aE Zx (aE Q4 aG))),MK v t m h (cN h K),ax,?_⟩;show MK v t m h (cN h K);dsimp only[MK,push_cast];obtain⟨op,ta,w,co,on,gr,od,li,args⟩:=q;obtain⟨⟨h2,wa,wb,F,d,e',c4⟩,c5⟩:=d9;refine⟨v.on,on,rfl,hq.parts.on_,λsa sb h1 R c6 c7=>V8 λb1 b2 y b7 m7 S=>?_⟩;obtain⟨b,e0,x,ea,f5,rd,sq⟩:=ha.get (GJ (i:=1) aC);obtain⟨b6,c8,x6,e4,f1,e5,c9⟩:=ha.get (GJ (i:=0) aC);obtain⟨d',b4,a'⟩:=(sq.mono R).ex;obtain⟨us,d0,b5⟩:=(c9.mono R).ex;simp only[WQ]at hK;generalize ls.getD 1 []=C at a' d hK sq c5;generalize ls.getD 0 []=l at b5 F hK c9 c5;have e6:=b5.len;have f6:=F.len;have f2:=d.len;have d1:=a'.len;have s7:=S.sub;have ny:=S.free;have b3:∀{Y kk us},nB m7 Y y kk us->Sub m Y:=λg z o D=>g.old z o (s7 z o D) (λe3=>bg);refine⟨b,e0,ea,aC,aC,x,.imm (rd.mono R),AD,d',λk Y hx=>hx=h1/\Nn m7 Y h1 y (under fD (fM on) (C.take k)),z6,⟨x,d',rfl,b4,rfl⟩,⟨rfl,⟨[],_,nB.new S.y_,λk=>by simpa[under]using eX.nil h1⟩⟩,?_,?_⟩
 .rintro k e Y hx hk-⟨rfl,⟨kk,uk,g,hg⟩⟩
  obtain⟨r,hr,hv⟩:=a'.at' hk;have L:=mem_of_getElem? hr;have T:jM r.length (fM on):=by rw[d.wid r L];exact c4
  have mc:=g.old b7 _ S.c_ S.yc;have E:aK Y hx b7 0 [Value.map (some y)]:=.of_m mc rfl;have rb:aK Y hx b2 0 [dP sb]:=.of_m (g.old b2 _ S.b_ S.yb) rfl;refine⟨sb,rb,e,sb,r,fM on,rfl,hv,c7,T,aD (λc=>?_) (λc=>?_)⟩
  .have hl:(uk (fD (pick r (fM on)))).length<=502633886983:=by
    have h5:=(hg (fD (pick r (fM on)))).len;have h6:(under fD (fM on) (C.take k) (fD (pick r (fM on)))).length<=(C.take k).length:=length_filter_le _ _
    grind
   have app:=fun{s:Sl}=>g.app (hx:=hx) (e:=e) (s:=s) (Q:=λm'=>hx=hx/\Nn m7 m' hx y (under fD (fM on) (C.take (k+1)))) ⟨_,S.y_⟩ ⟨_,S.c_⟩ mc hl (λm' f7 g'=>⟨rfl,Nn.upd g' hg hv (by rw[Ap hr,if_pos];simpa[wD]using c) (λk2 f8=>by rw[Ap hr,if_neg,append_nil];grind)⟩);exact⟨sb,rb,e,sb,r,fM on,rfl,hv,c7,d.row r L,T,hT.sub (b3 g),y,E,y,E,⟨E,g.get2 (λU=>⟨E,E,E,E,app U⟩) (λs U=>⟨E,E,E,E,app U⟩)⟩,E,E,E,g.get2 (λU=>⟨E,E,app U⟩) (λs U=>⟨E,E,app U⟩)⟩
  .refine⟨rfl,⟨kk,uk,g,λk2=>?_⟩⟩;rw[Ap hr,if_neg,append_nil]
   .exact hg k2
   .simp[wD,c]
 .rintro Y hx-⟨rfl,gr⟩ Z m5 d2 a0;rw[d1,take_length]at gr
  have V:∀{z o},Y z=some o->m5 z=some o/\z≠Z:=fun{z o} D=>by
   have:z≠Z:=λe3=>by rw[e3,d2.m_]at D;cases D
   exact⟨by rw[a0.other z this];exact D,this⟩
  have s5:Sub m Y:=by
   obtain⟨kk,uk,g,_⟩:=gr.ex;exact b3 g
  obtain⟨s6,n7⟩:=iT s5 d2 a0;obtain⟨kk,uk,g,hg⟩:=gr.ex;refine⟨b6,c8,e4,aC,aC,x6,.imm (e5.mono R),AD,us,λk my hy=>PH.le hx hy/\E6 m5 my Z/\∃M,rZ m5 my Z M/\eX hy M ((l.take k).flatMap (kF on C)),z6,⟨x6,us,rfl,d0,rfl⟩,⟨.refl _,λz o e _=>e,[],rZ.new a0.at_,bk (eX.nil hx)⟩,?_,?_⟩
  .rintro k e my hy hk-⟨le,O,M,J,a6⟩
   obtain⟨r,hr,hv⟩:=b5.at' hk;have f9:=(List.getElem?_eq_some_iff.1 hk).1;have L:=mem_of_getElem? hr;have d3:∀z o,Y z=some o->my z=some o:=λz o D=>O z o (V D).1 (V D).2;have g7:=g.keep d3;have E:aK my hy b7 0 [Value.map (some y)]:=.of_m (g7.old b7 _ S.c_ S.yc) rfl;have r3:aK my hy b1 0 [dP sa]:=.of_m (g7.old b1 _ S.a_ S.ya) rfl;have T:jM r.length (kE on):=by rw[F.wid r L];exact e'
   have c':=bS.mono hv le;refine⟨sa,r3,e,sa,r,kE on,rfl,c',c6.mono le,T,aD (λc=>?_) (λc=>?_)⟩
   .refine⟨le,O,M,J,?_⟩;have:kF on C r=[]:=if_neg (by simpa[wD]using c);rw[tD _ hr,this,append_nil];exact a6
   .have c:(pick r (kE on)).all pI=true:=bg
    have e9:under fD (fM on) C (fD (pick r (kE on)))=C.filter λy=>wD (fM on) y&&agree on r y:=by
     refine filter_congr λz hz=>?_;congr 1;have h5:=CN Qt (F.row r L) (d.row z hz) T (by rw[d.wid z hz];exact c4)
     grind
    have a7:kF on C r=(under fD (fM on) C (fD (pick r (kE on)))).map (r++ ·):=by rw[e9];exact if_pos (by simpa[wD]using c)
    have d4:((l.take k).flatMap (kF on C)).length+(under fD (fM on) C (fD (pick r (kE on)))).length<=8000000:=by
     have h5:((l.take (k+1)).flatMap (kF on C)).length<=(l.take (k+1)).length*C.length:=uY λx _=>yC;rw[tD _ hr,length_append,a7,length_map]at h5;have h6:(l.take (k+1)).length*C.length<=l.length*C.length:=Nat.mul_le_mul_right _ bg;omega
    have f3:∀s,Dl kk (fD (pick r (kE on))) s->cT Y s 65 1 ((uk (fD (pick r (kE on)))).map eS):=λs U=>(U.row g).1;generalize hG:under fD (fM on) C (fD (pick r (kE on)))=G at a7 d4;have a8:=hg (fD (pick r (kE on)));rw[hG]at a8;have d5:=a8.len;refine⟨y,E,sa,r3,E,e,sa,r,kE on,rfl,c',c6.mono le,F.row r L,T,hT.sub (s6.x n7 O),E,r3,g7.get2 (λU=>?_) (λs U=>?_)⟩
    .refine⟨λz=>z.1<=G.length/\z.2.1=Z/\z.2.2.1=e/\z.2.2.2.1=(⟨none,0,0⟩:Sl)/\PH.le hy z.2.2.2.2.2/\E6 m5 z.2.2.2.2.1 Z/\∃n,rZ m5 z.2.2.2.2.1 Z n/\eX z.2.2.2.2.2 n ((l.take k).flatMap (kF on C)++(G.take z.1).map (r++ ·)),λz=>G.length-z.1,⟨(0,Z,e,(⟨none,0,0⟩:Sl),my,hy),⟨ay,rfl,rfl,rfl,.refl _,O,M,J,bg⟩,MT⟩,?_⟩;rintro⟨i,bb,ee,gg,mz,hz⟩ ⟨hi,e1,D,e3,H,I,n,f,W⟩;dsimp only at hi e1 D e3 H I f W;subst e1 D e3;have gz:=g.keep (λz o D=>I z o (V D).1 (V D).2);have A:=(U.row gz).1;have c0:=A.slen;rw[length_map,d5]at c0;refine aF (λa1=>?_) (λc1=>?_)
     .dsimp only at a1⊢
      have a9:i<G.length:=by omega
      obtain⟨u,hu,d6⟩:=a8.at_ i _ (getElem?_eq_getElem a9);obtain⟨b8,e8,f'⟩:=A.rd (h:=hz) (i:=i) (e:=[dP u]) aC;obtain⟨so,a2,P,a3⟩:=f.ex;have B:∀hh,aK mz hh bb 0 [dP so]:=λhh=>.of_m a2 rfl;have a4:=W.len;simp only[length_append,length_map,length_take]at a4;refine⟨b8,0,e8,aC,aC,u,aC,so,B _,B _,B _,λs2 h3 X b'=>⟨s2,[r,G[i]],rfl,?_,ay,?_,λsl h4 b0 d7=>⟨B _,B _,J8 ⟨_,a0.at_⟩ I a2 P a3 aC (λm' c2 c3=>⟨(i+1,bb,ee,⟨none,0,0⟩,m',h4),⟨aC,rfl,rfl,rfl,H.trans (X.trans b0),c2,n++[sl],c3,?_⟩,aC,?_⟩)⟩⟩⟩
      .omega
      .omega
      .omega
      omega
     .dsimp only at c1⊢
      have:i=G.length:=bg
      subst this;refine⟨le.trans H,I,n,f,?_⟩;rw[tD _ hr,a7]
      grind
    .refine⟨λz=>z.1<=G.length/\z.2.1=Z/\z.2.2.1=e/\z.2.2.2.1=s/\PH.le hy z.2.2.2.2.2/\E6 m5 z.2.2.2.2.1 Z/\∃n,rZ m5 z.2.2.2.2.1 Z n/\eX z.2.2.2.2.2 n ((l.take k).flatMap (kF on C)++(G.take z.1).map (r++ ·)),λz=>G.length-z.1,⟨(0,Z,e,s,my,hy),⟨ay,rfl,rfl,rfl,.refl _,O,M,J,bg⟩,MT⟩,?_⟩;rintro⟨i,bb,ee,gg,mz,hz⟩ ⟨hi,e1,D,e3,H,I,n,f,W⟩;dsimp only at hi e1 D e3 H I f W;subst e1 D e3;have gz:=g.keep (λz o D=>I z o (V D).1 (V D).2);have A:=(U.row gz).1;have c0:=A.slen;rw[length_map,d5]at c0;refine aF (λa1=>?_) (λc1=>?_)
     .dsimp only at a1⊢
      have a9:i<G.length:=by omega
      obtain⟨u,hu,d6⟩:=a8.at_ i _ (getElem?_eq_getElem a9);obtain⟨b8,e8,f'⟩:=A.rd (h:=hz) (i:=i) (e:=[dP u]) (by rw[getElem?_map,hu];rfl);obtain⟨so,a2,P,a3⟩:=f.ex;have B:∀hh,aK mz hh bb 0 [dP so]:=λhh=>.of_m a2 rfl;have a4:=W.len;simp only[length_append,length_map,length_take]at a4;refine⟨b8,0,e8,aC,aC,u,bg,so,B _,B _,B _,λs2 h3 X b'=>⟨s2,[r,G[i]],rfl,?_,ay,?_,λsl h4 b0 d7=>⟨B _,B _,J8 ⟨_,a0.at_⟩ I a2 P a3 aC (λm' c2 c3=>⟨(i+1,bb,ee,gg,m',h4),⟨aC,rfl,rfl,rfl,H.trans (X.trans b0),c2,n++[sl],c3,?_⟩,aC,?_⟩)⟩⟩⟩
      .refine eX.rows (us:=[ee,u]) ?_ b' ay;refine⟨rfl,λj z hj=>?_⟩
       match j,hj with
       |0,hj=>
        simp at hj;subst hj;exact⟨ee,rfl,bS.mono c' (H.trans X)⟩
       |1,hj=>
        simp at hj;subst hj;exact⟨u,rfl,bS.mono d6 (le.trans (H.trans X))⟩
      .intro z a5;have a5:z∈[r,G[i]]:=a5;rcases mem_cons.1 a5 with rfl|a5
       .exact(F.row _ L).len
       .have e7:=mem_singleton.1 a5
        have:z∈C:=by
         grind
        exact(d.row _ this).len
      .have e7:(G.take (i+1)).map (r++ ·)=(G.take i).map (r++ ·)++[r++G[i]]:=by rw[take_add_one,getElem?_eq_getElem a9,map_append];rfl
       rw[e7, <-append_assoc];exact(W.mono (X.trans b0)).snoc bg
      .dsimp only;exact⟨rfl,rfl,rfl,rfl,by rw[iS aC],rfl,rfl,trivial⟩
     .dsimp only at c1⊢
      have:i=G.length:=by omega
      subst this;refine⟨le.trans H,I,n,f,?_⟩;rw[tD _ hr,a7]
      grind
  .rintro my hy g0 ⟨le,O,M,J,a6⟩;rw[e6,take_length]at a6;obtain⟨s,hb,A,f0⟩:=J.ex;refine⟨s,.of_m hb rfl,cN.row (s6.x n7 O) (R.trans le) A (λj z e=>?_) (λh' d8 b'=>hK s h' (R.trans (le.trans d8)) ((a6.mono d8).rows b' ?_))⟩
   .cases D:m z with
    |none=>rfl
    |some o=>have e1:=f0 j z e;rw[s6 z o D]at e1;cases e1
   .have h5:(l.flatMap (kF on C)).length<=l.length*C.length:=uY λx _=>yC;omega
noncomputable def bAJ:Ctx:=Vl [(248,bYQ),(135,bTX)] [(7,{A:=Nat×Nat×Nat×MH×PH,st:=λ⟨b,c,r,m,h⟩=>bU 35 37 [(2,vv (.pointer (some ⟨b,0,none⟩))),(5,vv (.pointer (some ⟨c,0,none⟩))),(26,vv (.pointer (some ⟨r,0,none⟩)))] [] m h})] [] [200002,200005,1058,400000,0]
abbrev Kw(a:MH)(b:Nat)(c:PH)(d:Nat->MH->Prop):Prop:=∃(x:cd),kX (pH a b x) (λe=>∀(f:MH),bG (cF a c e) (jY a f e) (mE f b e x x->d e f))
abbrev OX(a:(Nat×Nat×Nat×MH×PH->Prop)->(Nat×Nat×Nat×MH×PH)->Prop)(b:(Nat×Nat×Nat×MH×PH->Prop)->(Nat×Nat×Nat×MH×PH->Nat)->(Nat×Nat×Nat×MH×PH)->Prop):Prop:=∃(x:Nat×Nat×Nat×MH×PH->Prop)(d:Nat×Nat×Nat×MH×PH->Nat),(∃(c:Nat×Nat×Nat×MH×PH),a x c)/\∀(c:Nat×Nat×Nat×MH×PH),b x d c
abbrev gR(a:Nat×Nat×Nat×MH×PH):Nat:=a.2.1
abbrev gQ(a:Nat×Nat×Nat×MH×PH):Nat:=a.2.2.1
abbrev iJ(a:Nat×Nat×Nat×MH×PH):MH×PH:=a.2.2.2
abbrev DH(a:Nat×Nat×Nat×MH×PH->Prop)(b:Nat×Nat×Nat×MH×PH)(c d e:Nat)(g:MH)(i:PH):Prop:=aA (a b) (dM c b.1) (aA (dM d (gR b)) (dM e (gQ b)) (aA (dJ g (iJ b)) (fC i (iJ b)) True))
abbrev Y9(a:Nat->cd->cd->Prop):Prop:=∃(x:Nat)(c d:cd),a x c d
abbrev Kv(a:Prop)(b:Nat->Option Obj)(c:Nat)(d:Prop)(e:MH->Prop):Prop:=a->Y9 (λx j f=>aA (mE b x c j f) (f=[]->d) (∀(n:cd)(o:Value×Value)(u:cd),f=n++o::u->∀(g:MH),bG (jY b g c) (D8 g x c j (n++u) o) (e g)))
abbrev lH(a:Nat×Nat×Nat×MH×PH):Nat->Option Obj:=(iJ a).1
abbrev jS(a:Nat×Nat×Nat×MH×PH):Nat->Nat->Option Value:=(iJ a).2
abbrev Qb(a:Nat->cd->cd->(Value×Value)->Prop):Prop:=Y9 (λx c d=>∃(e:Value×Value),a x c d e)
abbrev zB(a b:Nat×Nat×Nat×MH×PH):Prop:=dM a.1 b.1
attribute [push_cast] Kw OX gR gQ iJ DH Y9 Kv lH jS Qb zB
def MC(v:QV)(u:Nat)(m:MH)(h:PH)(K:bo):Prop:=
  ∀(b:Nat)(V:MH),bG (cF m h b) (bK m V b v.enc 41) (w9 V h (λY W=>∀(j:Nat)(Q:MH),bG (cF W h j) (bK W Q j (oN Em) 160) (jN (λc E=>aA (yA Q j (gG c E 0)) (0<c.size) (∀(X:MH),bK Q X j (fA (C8 Y) 1 c) E->∃(S:PH->bt->List bt->Prop),w8 S h u X (λx I k e=>HS x k e h I (λn d y=>aK n d b 17 (aR y)/\∃(s:Sl),Av (λt r A=>aA (cJ e y=cJ s t) (bS d s r) (aA (Ints d t A) (Ot r) (aA (As r A) (eA n) (∃(f:Nat),aK n d j 0 (oA f)/\∃(D:Nat),aA (dK n d j D) (aK n d j 0 (oA f)/\sV n D (λO=>O (dQ r A)) (dQ r A) (aA (dK n d j f) (dK n d j D) (aA (dK n d j f) (dK n d j D) (∃(B:List bt),Fy n B
 e (λF z=>aA (dK z d j f) (dK z d j D) (qZ z f (λO=>O (dQ r A)) (dQ r A) (λJ=>∀(g:MH),bG (jY z g f) (pH g f (gV J (dQ r A) (dP F) [])) (I (k+1) g d)) (λl G C=>gV l (dQ r A) G C) (λl C=>∀(g:MH),bG (jY z g f) (pH g f (gV l (dQ r A) (dP F) C)) (I (k+1) g d))))))) (λM=>aA (dK n d j f) (dK n d j D) (aA (dK n d j f) (dK n d j D) (∃(B:List bt),aI (cT n (dN M) 65 1 B) (kB B) (dO B) (jU (λF z=>fY n z (dN M) F 65 1 (dL B (aR e))->aA (dK z d j f) (dK z d j D) (qZ z f (λO=>O (dQ r A)) (dQ r A) (λJ=>∀(g:MH),bG (jY z g f) (pH g f (gV J (dQ r A) (dP F) [])) (I (k+1) g d))
 (λl G C=>gV l (dQ r A) G C) (λl C=>∀(g:MH),bG (jY z g f) (pH g f (gV l (dQ r A) (dP F) C)) (I (k+1) g d))))))))) (aA (dK n d j f) (dK n d j D) (aK n d j 0 (oA f)/\sV n D (λO=>O (dQ r A)) (dQ r A) (Da (dK n d j f) (dK n d j D) (λB=>Fy n B e (λF z=>aA (dK z d j f) (dK z d j D) (qZ z f (λO=>O (dQ r A)) (dQ r A) (λJ=>∀(g:MH),bG (jY z g f) (pH g f (gV J (dQ r A) (dP F) [])) (I (k+1) g d)) (λl G C=>gV l (dQ r A) G C) (λl C=>∀(g:MH),bG (jY z g f) (pH g f (gV l (dQ r A) (dP F) C)) (I (k+1) g d)))))) (λM=>Da (dK n d j f) (dK n d j D) (λB=>aI (cT n (dN M) 65 1 B) (kB
 B) (dO B) (jU (λF z=>fY n z (dN M) F 65 1 (dL B (aR e))->aA (dK z d j f) (dK z d j D) (qZ z f (λO=>O (dQ r A)) (dQ r A) (λJ=>∀(g:MH),bG (jY z g f) (pH g f (gV J (dQ r A) (dP F) [])) (I (k+1) g d)) (λl G C=>gV l (dQ r A) G C) (λl C=>∀(g:MH),bG (jY z g f) (pH g f (gV l (dQ r A) (dP F) C)) (I (k+1) g d))))))))))))))) (λn d=>∃(y:Nat),aK n d j 0 (oA y)/\Kw n y d (λr z=>OX (λI x=>DH I x b j r z d) (λI g x=>Kv (I x) (lH x) (gQ x) (∃(f:Nat),aK (lH x) (jS x) (gR x) 0 (oA f)/\K (CV.val (C8 f)) (lH x) (jS x)) (λP=>Qb (λZ k l B=>D8 P Z (gQ x) k l B/\∃(s:Sl)(R:Nat)(G:QV)(o:
 bz)(w:Nat)(p:cu),aA (tO (CV.val B.2) (mJ 264 (BS x.1))=fZ s (mJ 264 (BS R))) (P R=Option.some (gG (Array.mk G.enc) 41 0)) (aA (∀(i:Nat),mK (aW s.a R i)) (jB (jS x) G.order o) (aA (Fx P s p) (∀(H:Sl×ca),List.Mem H p->bS (jS x) H.1 H.2) (aA (∀(H:Sl×ca),List.Mem H p->H.2.length=w) (nT p.length) (∀(H:cu)(T:MH),bG (List.Perm H p) (List.Pairwise (fun(p2:Sl×ca)=>fun(q:Sl×ca)=>¬(lE o q.2 p2.2<0)) H) (bG (Fx T s H) (∀(U:Nat),(∀(i:Nat),mK (aW s.a U i))->T U=P U) (∃(L:Nat×Nat×Nat×MH×PH),aA (I L) (g L<g x) (aA (zB x L) (dM (gR x) (gR L)) (aI (dM (gQ x) (gQ L)) (dJ T (iJ L)) (dA (iJ x)
 (iJ L)) True))))))))))))))))))
def mD(κ:ca->ByteArray)(gr:bn)(l:br)(k:ByteArray):br:=l.filter λz=>decide (κ (pick z gr)=k)
def tF(od:bz)(l:br):Prop:=l.Pairwise λa b=>¬lE od b a<0
structure sB(κ:ca->ByteArray)(m:MH)(h:PH)(y:Nat)(gr:bn)(od:bz)(l:br)(kk:cj)(g:ByteArray->br):Prop where
 map_:pH m y (kk.map λp=>(Value.string p.1,dP p.2))
 nodup:(kk.map Prod.fst).Nodup
 rows:∀p∈kk,Rows h p.2 (g p.1)
 none_:∀k,k∉kk.map Prod.fst->g k=[]
 perm:∀k,(g k).Perm (mD κ gr l k)
 sort:∀k,tF od (g k)
def VH:Vc.Spec:=λc m h K=>∃v u gr od l w,c=[aQ v,.val (.func (.func 214) #[] #[.pointer (some ⟨u,0,none⟩)])]/\Ints h v.group gr/\jB h v.order od/\RZ h u l/\iG w l/\jM w gr/\eA m/\
 ∀y d e f g,m y=none->(∀b,b≠y->d b=m b)->PH.le h e->sB fD d e y gr od l f g->K (.val (.map (some y))) d e
structure bZJ(m:MH)(h:PH)(od:bz)(p:ByteArray×Sl)(f:ByteArray->br)(st:Prop):Prop where
 ex:∃ps:cu,cT m p.2 65 1 (ps.map λq=>eS q.1)/\(∀q∈ps,bS h q.1 q.2)/\(ps.map Prod.snd).Perm (f p.1)/\(st->tF od (ps.map Prod.snd))
noncomputable def leftOf(m:MH)(r:Nat):Nat:=match m r with
 |some (.mapIter (some b) _ c _)=>(match m b with|some (.map d _)=>(d.toList.filter λe=> !c.contains e.born).length|_=>0)
 |_=>0
theorem mE.left_{r:Nat}{d left:cd}(i:mE m b r d left):leftOf m r=left.length:=by
 obtain⟨n,c,e,f,o,g,_,_,_,j,_,_,_,u⟩:=i.ex;simp only[leftOf,j,g]
 grind
theorem mE.mem{r:Nat}{d left:cd}(i:mE m b r d left){x:Value×Value}(hx:x∈left):x∈d:=by
 obtain⟨g,c,e,f,j,n,o,_,_,u,_,_,_,y⟩:=i.ex
 grind
theorem mE.keep{r:Nat}{e left:cd}(i:mE m b r e left)(n:m' b=m b)(o:m' r=m r):mE m' b r e left:=by
 obtain⟨g,c,d,f,j,u,y⟩:=i.ex;exact⟨g,c,d,f,j,bg,bg⟩
theorem mE.nodup{r:Nat}{d left:cd}(i:mE m b r d left)(g:d.Nodup):left.Nodup:=by
 obtain⟨j,c,e,f,n,o,u,_,_,y,_,_,_,z⟩:=i.ex
 grind
theorem cuX{us:bx}{rs:br}(c:eX h us rs):∃ps:cu,ps.map Prod.fst=us/\ps.map Prod.snd=rs/\∀q∈ps,bS h q.1 q.2:=by
 refine⟨us.zip rs,map_fst_zip (Nat.le_of_eq c.len),map_snd_zip (Nat.le_of_eq c.len.symm),λq e=>?_⟩;obtain⟨i,d⟩:=mem_iff_getElem?.1 e;rw[getElem?_zip_eq_some]at d;obtain⟨u,f,g⟩:=c.at_ i _ d.2
 grind
theorem cT.ice{s:Sl}{us:bx}(n:cT m s 65 1 (us.map eS))(F:∀b c,s.a=some ⟨b,0,none⟩->m b=some (.cells c 65 (0,0))->∀i,h b i=c[i]?):dC h s 1 (us.map eS):=by
 rcases n.ex with⟨rfl,f⟩|⟨b,y,c,rfl,G,z,H,I,J⟩
 .rw[f];exact dC.nil _ _
 .refine⟨ay,?_,z⟩;by_cases A:us.map eS=[]
  .exact .inl A
  .refine .inr ⟨b,0,rfl,λi e d=>⟨λj v o=>?_⟩⟩;have B:=n.rows.len e (mem_of_getElem? d);have C:j=0:=bg
   subst C;have D:=(List.getElem?_eq_some_iff.1 d).1
   have L:((us.map eS).flatten)[i]? =some v:=by
    rw[getElem?_map]at d;cases g:us[i]? with
    |none=>grind
    |some u=>
     rw[g]at d;simp at d;subst d;simp[eS]at o;subst o
     have:∀l:bx,(l.map eS).flatten=l.map λu=>Value.slice u.a u.len u.cap:=λl=>by
      induction l with
      |nil=>rfl
      |cons a l E=>simp only[map_cons,flatten_cons,E];rfl
     grind
   grind
theorem U9{kk:cj}(d:(kk.map Prod.fst).Nodup){p q:ByteArray×Sl}(c:p∈kk)(f:q∈kk)(e:p.1=q.1):p=q:=by
 induction kk with
 |nil=>cases c
 |cons a kk g=>
  grind
theorem N1{κ:ca->ByteArray}{M Q E:MH}{u:PH}{y r:Nat}{l:br}{kk:cj}{X:ByteArray->bx}(R:Sub m M)(ny:m y=none)(m4y:M y=some (.map #[] 0))(g:nB M Q y kk X)(hg:∀k,eX u (X k) (mD κ gr l k))(le:PH.le h u)(a0:l.length<=8000000)
 (S:∀b o,Q b=some o->(∀p∈kk,∀i,p.2.a≠some ⟨b,i,none⟩)->E b=some o)(T:mE E y r (kk.map λp=>(Value.string p.1,dP p.2)) [])(A:∀p∈kk,bZJ E u od p (mD κ gr l) ((Value.string p.1,dP p.2)∉([]:cd)))
 (hK:∀y m2 d kk g,m y=none->(∀b,b≠y->m2 b=m b)->PH.le h d->sB κ m2 d y gr od l kk g->K (.val (.map (some y))) m2 d):cN h K (.val (.map (some y))) E u:=by
 intro hd;have C:∀b o,M b=some o->∀p∈kk,∀i,p.2.a≠some ⟨b,i,none⟩:=λb o e p f i H=>by rw[g.fresh p f b i H]at e;cases e
 have J:Sub m Q:=λz o H=>g.old z o (R z o H) (λe3=>bg)
 classical
 let B:Nat->Prop:=λb=>∃p∈kk,p.2.a=some ⟨b,0,none⟩
 have hB:∀b,B b->m b=none/\b≠y/\∀i,u b i=none:=by
  rintro b ⟨p,f,e⟩;obtain⟨ps,I,_⟩:=(A p f).ex;refine⟨?_,λH=>?_,hd b _ (I.blk e).choose_spec⟩
  .cases H:m b with
   |none=>rfl
   |some o=>exact(C b o (R b o H) p f 0 e).elim
  grind
 let d:PH:=λb i=>if B b then(match E b with|some (.cells cs _ _)=>cs[i]? |_=>none)else u b i
 have F:PH.le u d:=⟨λb i v e=>by
  grind⟩
 have a1:∀p∈kk,∃G,Rows d p.2 G/\G.Perm (mD κ gr l p.1)/\tF od G:=λp f=>by
  obtain⟨ps,I,Y,Z,L⟩:=(A p f).ex;refine⟨ps.map Prod.snd,?_,Z,L ay⟩;have e5:(ps.map λq=>eS q.1)=(ps.map Prod.fst).map eS:=by rw[map_map];rfl
  rw[e5]at I
  have U:dC d p.2 1 ((ps.map Prod.fst).map eS):=cT.ice I λb a2 ea hm i=>by
   show(if B b then _ else u b i)=_;rw[if_pos ⟨p,f,ea⟩,hm]
  refine eX.rows (us:=ps.map Prod.fst) ⟨ay,λj x O=>?_⟩ U ?_
  .rw[getElem?_map]at O;cases P:ps[j]? with
   |none=>grind
   |some q=>
    rw[P]at O;have O:q.2=x:=bg
    exact⟨q.1,bg,O▸bS.mono (Y q (mem_of_getElem? P)) F⟩
  .have:=Z.length_eq;have h6:(mD κ gr l p.1).length<=l.length:=length_filter_le _ _;omega
 let G:ByteArray->br:=λk=>if e:∃p G,p∈kk/\p.1=k/\Rows d p.2 G/\G.Perm (mD κ gr l p.1)/\tF od G then e.choose_spec.choose else[]
 have hG:∀p∈kk,Rows d p.2 (G p.1)/\(G p.1).Perm (mD κ gr l p.1)/\tF od (G p.1):=λp f=>by
  have V:∃n G,n∈kk/\n.1=p.1/\Rows d n.2 G/\G.Perm (mD κ gr l n.1)/\tF od G:=by
   grind
  have P:G p.1=V.choose_spec.choose:=dif_pos V;rw[P];obtain⟨L,h6,h7⟩:=V.choose_spec.choose_spec
  have tr:∀n G',n∈kk->n.1=p.1->(Rows d n.2 G'/\G'.Perm (mD κ gr l n.1)/\tF od G')->Rows d p.2 G'/\G'.Perm (mD κ gr l p.1)/\tF od G':=λn G' I d Y=>by
   have e7:=U9 g.nodup I f d
   grind
  exact tr _ _ L h6 h7
 have hN:∀k,k∉kk.map Prod.fst->G k=[]/\mD κ gr l k=[]:=λk D=>by
  refine⟨dif_neg ?_,?_⟩
  .grind
  .have L:=(hg k).len;rw[g.none_ k D]at L
   grind
 obtain⟨es,c,W,a',c0,i1,i2,i3,i4,_⟩:=T.ex;refine⟨λb=>if b=y then E y else m b,d,λb o e=>?_,le.trans F,λb i v' e=>?_,hK y _ d kk G ny (λb hb=>if_neg hb) (le.trans F) ⟨⟨es,c,(if_pos rfl).trans i1,i2,i3,i4⟩,g.nodup,λp f=>(hG p f).1,λk D=>(hN k D).1,λk=>?_,λk=>?_⟩⟩
 .have e:(if b=y then E y else m b)=some o:=e;split at e
  .grind
  .exact S b o (J b o e) (C b o (R b o e))
 .have e:(if B b then _ else u b i)=some v':=e;split at e
  .grind
  grind
 .by_cases D:k∈kk.map Prod.fst
  .obtain⟨p,f,rfl⟩:=mem_map.1 D
   grind
  grind
 .by_cases D:k∈kk.map Prod.fst
  .obtain⟨p,f,rfl⟩:=mem_map.1 D
   grind
  .rw[(hN k D).1];exact List.Pairwise.nil
theorem N0{κ:ca->ByteArray}{W L M O:MH}{Y:PH}{y r w:Nat}{gr:bn}{od:bz}{l:br}{kk:cj}{uk:ByteArray->bx}{left Z l2:cd}{x:Value×Value}(m4y:W y=some (.map #[] 0))(g:nB W L y kk uk)(P:iG w l)(a5:L r=none)
 (a6:∀b o,L b=some o->(∀p∈kk,∀i,p.2.a≠some ⟨b,i,none⟩)->M b=some o)(Q:mE M y r (kk.map λp=>(Value.string p.1,dP p.2)) left)(D:∀p∈kk,bZJ M Y od p (mD κ gr l) ((Value.string p.1,dP p.2)∉left))(a':left=Z++x::l2)(C:jY M O r)(a0:D8 O y r (kk.map λp=>(Value.string p.1,dP p.2)) (Z++l2) x):
 ∃(c:ByteArray×Sl)(ps:cu),x=(Value.string c.1,dP c.2)/\(∀b o,W b=some o->b≠y->O b=some o/\∀i,c.2.a≠some ⟨b,i,none⟩)/\cT O c.2 65 1 (ps.map λp:Sl×ca=>eS p.1)/\(∀p∈ps,bS Y p.1 p.2)/\(∀p∈ps,p.2.length=w)/\ps.length<=l.length/\
  ∀(n:cu)(E:MH),n.Perm ps->n.Pairwise (λp q=>¬lE od q.2 p.2<0)->cT E c.2 65 1 (n.map λp=>eS p.1)->(∀b,(∀i,c.2.a≠some ⟨b,i,none⟩)->E b=O b)->
   (∀b o,L b=some o->(∀p∈kk,∀i,p.2.a≠some ⟨b,i,none⟩)->E b=some o)/\(∃left,mE E y r (kk.map λp=>(Value.string p.1,dP p.2)) left/\∀p∈kk,bZJ E Y od p (mD κ gr l) ((Value.string p.1,dP p.2)∉left))/\leftOf E r<leftOf M r:=by
 have G:∀p∈kk,∀x i,p.2.a=some ⟨x,i,none⟩->∃o,L x=some o:=λp B x i X=>⟨_,((g.row p B).blk X).choose_spec⟩
 have H:∀{z o},L z=some o->z≠r:=fun{z o} X e3=>bg
 have a1:x∈left:=bg
 obtain⟨c,d,rfl⟩:=mem_map.1 (mE.mem Q a1);obtain⟨ps,h1,h3,h4,h5⟩:=(D c d).ex;have F:∀b o,W b=some o->∀p∈kk,∀i,p.2.a≠some ⟨b,i,none⟩:=λb o e p B i X=>by rw[g.fresh p B b i X]at e;cases e
 have u:∀p∈kk,∀b i,p.2.a=some ⟨b,i,none⟩->b≠r:=λp B b i e=>H (G p B b i e).choose_spec;have R:=h4.length_eq;have a2:(mD κ gr l c.1).length<=l.length:=length_filter_le _ _;rw[length_map]at R;refine⟨c,ps,rfl,λb o e a3=>⟨?_,F b o e c d⟩,cT.keep h1 λb i e=>C.other b (u c d b i e),h3,λq hq=>?_,aC,λn E A I J f=>?_⟩
 .have mb:=g.old b o e a3;rw[C.other b (H mb)]
  grind
 .have:q.2∈mD κ gr l c.1:=h4.mem_iff.1 (mem_map_of_mem hq);exact P.wid _ (mem_filter.1 this).1
 .have S:∀i,c.2.a≠some ⟨y,i,none⟩:=F y _ m4y c d;have T:∀i,c.2.a≠some ⟨r,i,none⟩:=λi e=>u c d r i e rfl;have U:mE E y r (kk.map λp=>(Value.string p.1,dP p.2)) (Z++l2):=mE.keep a0.it (f y S) (f r T);refine⟨λb o e hb=>?_,⟨_,U,λp B=>?_⟩,?_⟩
  .rw[f b (hb c d),C.other b (H e)]
   grind
  .by_cases V:p=c
   .subst V;refine⟨n,J,λq hq=>h3 q (A.mem_iff.1 hq),(A.map _).trans h4,λ_=>?_⟩;rw[tF,pairwise_map];exact I
   .have a4:p.1≠c.1:=λe=>V (U9 g.nodup B d e);obtain⟨qs,g1,g3,g4,g5⟩:=(D p B).ex;refine⟨qs,cT.keep g1 λb i e=>?_,g3,g4,λhn=>g5 λhl=>hn ?_⟩
    .rw[f b (λj=>g.apart p B c d a4 b i j e),C.other b (u p B b i e)]
    grind
  .rw[mE.left_ U,mE.left_ Q,a'];simp
theorem QT:bm 252 VH:=by
 refine I6 func252 ?_;rintro c8 m h K ⟨v,u,gr,od,l,w,rfl,b8,b9,sq,d,S,hT,hK⟩;refine⟨bAJ,rfl,aE Gj (aE X4 aG),MC v u m h (cN h K),ax,?_⟩;show MC v u m h (cN h K);dsimp only[MC,push_cast];intro n m1 a3 F y m2 T A P m3 G B;obtain⟨s1,nq⟩:=iT (Sub.refl m) a3 F;obtain⟨s2,ny⟩:=iT s1 T A;obtain⟨s3,nc⟩:=iT s2 G B;have H:n≠y:=λe=>by have:=T.m_;rw[<-e,F.at_]at this;cases this
 have a4:m2 n=some (.cells ⟨QV.enc v⟩ 41 (0,0)):=by rw[A.other n H];exact F.at_
 have a5:n≠P:=λe=>by have:=G.m_;grind
 have I:y≠P:=λe=>by have:=G.m_;rw[<-e,A.at_]at this;cases this
 refine⟨_,_,⟨B.at_⟩,ay,λR C=>?_⟩;have s4:Sub m R:=s3.upd nc C.other;have U:R n=some (.cells ⟨QV.enc v⟩ 41 (0,0)):=by rw[C.other n a5,B.other n a5];exact a4
 have m4y:R y=some (.map #[] 0):=by rw[C.other y I,B.other y I];exact A.at_
 have J:R P=some (.cells #[.map (some y)] 160 (0,0)):=C.at_;obtain⟨us,a6,a7⟩:=sq.ex;have c':=a7.len;have c0:=d.len;clear F A B C a3 T G s1 s2 s3 a4;have a8:∀{j L us},nB R j y L us->Sub m j:=λg z o D=>g.old z o (s4 z o D) (λe3=>bg);refine⟨AD,us,λk j hx=>hx=h/\Nn R j h y (mD fD gr (l.take k)),z6,⟨u,us,rfl,a6,rfl⟩,⟨rfl,⟨[],_,nB.new m4y,λk=>by simpa[mD]using eX.nil h⟩⟩,?_,?_⟩
 .rintro k e j hx hk-⟨rfl,⟨L,uk,g,hg⟩⟩
  obtain⟨r,hr,hv⟩:=a7.at' hk;have a9:=mem_of_getElem? hr;have mc:=g.old P _ J (Ne.symm I);have c:aK j hx P 0 [Value.map (some y)]:=.of_m mc rfl;have rq:aK j hx n 17 [dP v.group]:=.of_m (g.old n _ U H) rfl
  have hl:(uk (fD (pick r gr))).length<=502633886983:=by
   have h5:=(hg (fD (pick r gr))).len;have h6:(mD fD gr (l.take k) (fD (pick r gr))).length<=(l.take k).length:=length_filter_le _ _
   grind
  have app:=fun{s:Sl}=>g.app (hx:=hx) (e:=e) (s:=s) (Q:=λm'=>hx=hx/\Nn R m' hx y (mD fD gr (l.take (k+1)))) ⟨_,m4y⟩ ⟨_,J⟩ mc hl (λm' c9 g'=>⟨rfl,Nn.upd g' hg hv (by rw[mD,jF _ hr,if_pos ay];rfl) (λk2 d'=>by rw[mD,jF _ hr,if_neg bg,append_nil];rfl)⟩);exact⟨v.group,rq,e,v.group,r,gr,rfl,hv,b8,d.row r a9,by rw[d.wid r a9];exact S,hT.sub (a8 g),y,c,y,c,⟨c,g.get2 (λV=>⟨c,c,c,c,app V⟩) (λs V=>⟨c,c,c,c,app V⟩)⟩,c,c,c,g.get2 (λV=>⟨c,c,app V⟩) (λs V=>⟨c,c,app V⟩)⟩
 .rintro j hx-⟨rfl,⟨L,uk,g,hg⟩⟩
  rw[c',take_length]at hg;have mc:=g.old P _ J (Ne.symm I);have mq:=g.old n _ U H;refine⟨y,.of_m mc rfl,_,g.map_,λr m5 c1 c2 it=>?_⟩;have c3:j r=none:=c1.m_
  have b':∀{z o},j z=some o->m5 z=j z/\z≠r:=fun{z o} D=>by
   have:z≠r:=λe3=>bg
   exact⟨c2.other z this,this⟩
  have W:∀p∈L,∀x i,p.2.a=some ⟨x,i,none⟩->∃o,j x=some o:=λp X x i D=>⟨_,((g.row p X).blk D).choose_spec⟩
  have c4:(L.map λp=>(Value.string p.1,dP p.2)).Nodup:=by
   have h5:=g.nodup
   grind
  refine⟨λz=>z.1=n/\z.2.1=P/\z.2.2.1=r/\z.2.2.2.2=hx/\(∀b o,j b=some o->(∀p∈L,∀i,p.2.a≠some ⟨b,i,none⟩)->z.2.2.2.1 b=some o)/\∃left,mE z.2.2.2.1 y r (L.map λp=>(Value.string p.1,dP p.2)) left/\∀p∈L,bZJ z.2.2.2.1 hx od p (mD fD gr l) ((Value.string p.1,dP p.2)∉left),λz=>leftOf z.2.2.2.1 z.2.2.1,⟨(n,P,r,m5,hx),⟨rfl,rfl,rfl,rfl,λb o e _=>(b' e).1.trans e,_,it,λp X=>?_⟩,MT⟩,?_⟩
  .obtain⟨ps,e1,D,e3⟩:=cuX (hg p.1);refine⟨ps,?_,e3,by rw[D],λhn=>(hn (mem_map_of_mem (f:=λp:ByteArray×Sl=>(Value.string p.1,dP p.2)) X)).elim⟩;have e5:(ps.map λq=>eS q.1)=(uk p.1).map eS:=by rw[<-e1,map_map];rfl
   rw[e5];exact cT.keep (g.row p X) λb i e=>(b' (W p X b i e).choose_spec).1
  .rintro⟨b1,b2,b3,mz,hz⟩ ⟨e1,D,e3,e4,M,left,O,E⟩;dsimp only at e1 D e3 e4 M O E⊢
   subst e1 D e3 e4;refine⟨y,_,left,O,λY=>?_,λl1 x l2 c5 m6 c6 b0=>?_⟩
   .have b4:∀b o,R b=some o->∀p∈L,∀i,p.2.a≠some ⟨b,i,none⟩:=λb o e p X i D=>by rw[g.fresh p X b i D]at e;cases e
    subst Y;exact⟨y,.of_m (M b2 _ mc (b4 b2 _ J)) rfl,N1 s4 ny m4y g hg (.refl _) c0 M O E hK⟩
   .obtain⟨p0,ps,rfl,b5,b6,hv,hw,d0,Z⟩:=N0 (m4y:=m4y) g d c3 M O E c5 c6 b0;have hb:=b5 b1 _ U H;refine⟨y,_,_,_,b0,p0.2,b1,v,od,w,ps,rfl,hb.1,hb.2,b9,b6,hv,hw,aC,λc7 m7 a' a0 a1 b7=>?_⟩;obtain⟨k1,⟨a2,k2,k3⟩,k4⟩:=Z c7 m7 a' a0 a1 b7;exact⟨(b1,b2,b3,m7,hz),⟨rfl,rfl,rfl,rfl,k1,a2,k2,k3⟩,k4,rfl,rfl,rfl,rfl,rfl,trivial⟩
end Go.Ps
