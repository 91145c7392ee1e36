/- Own work. -/
import Derived.ChangeArms
import Derived.OpenShut
import Derived.ChangeOld
import Derived.WideShapes
import Derived.Test.YtjpjambjoceofaaGreatDoorRows
import Derived.Test.YtjpjambjoceofaaGreatDoorRi
set_option linter.unusedVariables false
set_option linter.unusedSimpArgs false
namespace Go.Ps
open Go Go.Vc Go.Proofs List Tryz
variable{K:cr}{m:MH}{h:PH}{s:jB}{ps:cq}{ts:de}{cb:Nat}{sc:bW}{v:QV}{t:Step}{p:Pred}{l:cq}{i:Nat}{N:Nat}{m':MH}{h':PH}{co:cq}{gr:cq}{od:cv}{ta:Int}{li:Int}{xs:List cn}{sz:Nat}{ks:List cq}{rs:cq}{r:Sl}{a:cq}{b:Nat}
def Sm:Vc.Spec:=λd m h K=>∃sc e v s c q,d=[aS sc,aSt e,aQ v]/\iA h s sc/\Pq h e c/\cJ h q v/\fU m/\((dU s [] q).2=0->adX s q)/\mM s c=0/\(∀l∈c,l.length<=4)/\
 ∀f h',PH.le h h'->((dU s [] q).2=0->Leaves h' f ((pI (wT s) q (gR q)).map (uW c)))->K (.tup [cS f,cI (dU s [] q).2]) m h'
theorem Xd:cm 33 Sm:=Gm auX λ_ m h K⟨sc,o,v,s,f,q,e,u,c,y,z,d,g,j,n⟩=>⟨sc,o,v,s,f,q,e,u,c,y,z,λh=>(d h).ok h,
 λh=>⟨(d h).valid,λ_=>let x:=(d h).run f g c.val j;⟨x.1,x.2.1⟩⟩,λh h' le=>n bR h' le (λe=>(h e).elim),λ_ h=>(h g).elim,λh _ A h' le B=>by
  have:=n A h' le (λ_=>by rw[<-((d h).run f g c.val j).2.2];exact B)
  grind⟩
def bpX:Vc.Spec:=λc m h K=>c=[]/\fU m/\K (cB true) m h
noncomputable abbrev Ni(a:Int):cn:=u0 (eN a) cW lI lI lI lI cW iV
attribute [push_cast] Ni
def OS(m:MH)(h:PH)(K:cr):Prop:=
  bU h 2 (jV (qD JE 4) (qD Jj 4)) (λs h1=>bU h1 2 (jV (qD JE 4) (qD Jj 4)) (λs1 h2=>∃(n:Int),kU 1 n/\∃(B:Int),kU 7 B/\∃(C:Int),kU 2 C/\∃(D:Int),kU 7 D/\∃(E:Int),kU 3 E/\∃(F:Int),kU 7 F/\bU h2 3 (jV (zO n) (zO B)) (λu h3=>bU h3 3 (jV (zO C) (zO D)) (λG h4=>bU h4 3 (jV (zO E) (zO F)) (λs4 h5=>∃(H:Int),kU 9 H/\∃(I:Int),kU 7 I/\bU h5 3 (jV (zO H) (zO I)) (λs5 h6=>bU h6 1 (aY u::jV (aY G) (aY s4)) (λs6 h7=>bU h7 1 (jV (aY u) (aY s5)) (λs7 h8=>bU h8 21 (jV (Ni 1) (Bh 1)) (λs8 h9=>bU h9 5 (jV (aL (Value.string (Nh 97 (wE 115))) (hJ s) (aL (eN 1) lI
 iV)) (aL (Value.string (ByteArray.mk (Array.mk (fF 97 (fF 114 (fF 99 (fF 104 (fF 105 (fF 118 (fF 101 (fF 100 []))))))))))) (hJ s1) (aL (eN 1) lI iV))) (λJ a=>bU a 1 (jV (aY s6) (aY s7)) (λa1 a2=>bU a2 1 (kJ (bG 1)) (λL a4=>bU a4 21 (kJ (u0 (eN 7) cW lI lI lI lI cW (aY s8))) (λM x=>D2 (λO P=>∃(v:QV)(d:jB)(b:List ct)(q:Query),aA (cE (rL cW (hJ J)) (fW (aY a1) (u0 (eN 9) cW lI lI (hJ L) lI (eN 1) (aY M)))=cE (cD O) (fW (aY P) v.enc)) (iA x d O) (aA (Pq x P b) (cJ x q v) (aA (fU m) (xG d q=0->adX d q) (aA (mM d b=0) (∀(l:ct),List.Mem l b->l.length<=4) (jJ (λe f=>cZ x f (xG d q=0->Leaves f e (List.map
 (uW b) (pI (wT d) q (gR q)))) (Nk (λQ R S z=>aA (fW (rL cW (hJ J)) (u0 (eN 9) cW lI lI (hJ L) lI (eN 1) (aY M))=fW (cD Q) R.enc) (iA f S Q) (aA (cJ f z R) (xG S z=0) (Jk f z (λT g=>gQ (T.op=opE z) (xG d q==0) (dW T.op 1 (dW (aH e) 2 (eA e.a 0 e (λb6 o y=>aU m g b6 (o+0) (aY y)/\bU g 1 (jV (aY u) (aY G)) (λb7 j=>Oc (λU t c V=>aA (cV y b7=cV U t) (Rows j U c) (Rows j t V/\∀(r:Bool),gQ (gI r↔c=V) r (eA e.a 1 e (λc2 o1 W=>aU m j c2 (o1+1) (aY W)/\bU j 1 (kJ (aY u)) (λc3 A=>Oc (λX Y Z c7=>aA (cV W c3=cV X Y) (Rows A X Z) (Rows A Y c7/\∀(r1:Bool),(gI r1↔Z=c7)->K (AQ r1) m A))))) (K aZ m
 j)))))) (K aZ m g)) (K aZ m g)) (K aZ m g)))))))))))))))))))))))))
def nV(n:Int):VV:=⟨4,n,⟨#[]⟩⟩
def Qu:List qJ:=[⟨⟨⟨[105,100]⟩⟩,4⟩,⟨⟨⟨[112,114,111,106,101,99,116]⟩⟩,4⟩]
def nT1:C1:=⟨⟨⟨[116,97,115,107,115]⟩⟩,Qu,1,[],[]⟩
def nT2:C1:=⟨⟨⟨[97,114,99,104,105,118,101,100]⟩⟩,Qu,1,[],[]⟩
def nS:jB:=⟨0,[nT1,nT2]⟩
def nR1:ct:=[[nV 1,nV 7],[nV 2,nV 7],[nV 3,nV 7]]
def nR2:ct:=[[nV 1,nV 7],[nV 9,nV 7]]
def WX:List ct:=[nR1,nR2]
def yO(t:Int):Query:=.mk 1 t eJ [] [] [] [] 0 []
def nM:Query:=.mk 7 0 eJ [] [] [] [] 0 [yO 0,yO 1]
def nQ:Query:=.mk 9 0 eJ [] [] [1] [] 1 [nM]
theorem aOQ:dH nS=0:=aHX az (λt c=>by simp[nS]at c;rcases c with rfl|rfl<;>exact⟨az,rfl,rfl⟩) az az (by
 refine Au ⟨⟨?_,?_,?_,?_,Au ⟨⟨?_,?_,?_⟩,⟨?_,?_,?_⟩,trivial⟩⟩,⟨?_,?_,?_,?_,Au ⟨⟨?_,?_,?_⟩,⟨?_,?_,?_⟩,trivial⟩⟩,trivial⟩
 all_goals first|rfl|(simp[nT1,nT2,Qu];done)|decide)
theorem Mn{t:Int}(c:0<=t)(d:t<2):aJ nS [] (yO t)=([4,4],0):=by
 have e:jL nS t=[4,4]:=by
  have:t=0\/t=1:=by omega
  rcases this with rfl|rfl<;>rfl
 have:=Ov (s:=nS) (ps:=[]) (t:=t) c (by show t<2;exact d) bg;rw[e]at this;exact this
theorem aOZ:aJ nS [] nM=([4,4],0):=by
 unfold nM;rw[amJ az (Mn (t:=0) az az) (Mn (t:=1) az az)];unfold dV;rw[if_neg (by simp[arity,cH])];dsimp only;rw[if_neg az,if_neg az,if_neg az,if_neg az,if_neg az,if_neg az,if_neg az,if_pos rfl,JU az]
theorem Oj:aJ nS [] nQ=([4,4],0):=by
 unfold nQ;rw[KX az aOZ];unfold dV;rw[if_neg (by simp[arity,cH])];dsimp only;rw[if_neg az,if_neg az,if_neg az,if_neg az,if_neg az,if_pos rfl,if_pos ⟨Au ⟨⟨az,ay⟩,trivial⟩,Au trivial,az,az,az⟩,JU az]
theorem b9J:dU nS [] nQ=([4,4],0):=by
 unfold dU;rw[if_pos aOQ,if_pos (by rfl),if_pos (by rfl),Oj]
theorem aNJ(t:Int):QW (yO t):=IK t
theorem b9Z:QW nQ:=KJ.2 ⟨oS,λa c=>by
 simp at c;subst c;exact KJ.2 ⟨oS,λb d=>by simp at d;rcases d with rfl|rfl<;>exact aNJ _⟩⟩
theorem btX:gY 3 nS nQ:=⟨by rw[Oj],buQ (s:=nS) (ps:=[]) ay nQ (by rw[Oj]) b9Z,az⟩
theorem btQ:adX nS nQ:=alJ (B:=8) aOQ btX az az az
theorem b0J:mM nS WX=0:=by
 unfold mM;rw[if_neg (by simp[aOQ]),if_neg az,if_neg az,if_pos];have j:∀n,H4 1 4 0 (nV n)=true/\H4 1 4 1 (nV n)=true:=λn=>by simp[H4,nV,aGQ]
 have x:∀t,t=nT1\/t=nT2->∀a b,F2 t [nV a,nV b]=true:=λt e a b=>J1.2 ⟨by rcases e with rfl|rfl<;>rfl,λi o=>by
  have d:t.key=1:=by rcases e with rfl|rfl<;>rfl
  have c:t.columns=Qu:=by rcases e with rfl|rfl<;>rfl
  rw[d,c]
  match i,o with
  |0,_=>exact(j _).1
  |1,_=>exact(j _).2
  |i+2,o=>grind⟩
 intro i t l e f
 match i,e,f with
 |0,e,f=>
  simp[nS]at e;simp[WX]at f;subst e f;refine⟨λr g=>?_,λi r u d c=>?_⟩
  .simp[nR1]at g
   grind
  .match i,d,c with
   |0,d,c=>simp[nR1]at d c;subst d c;decide
   |1,d,c=>simp[nR1]at d c;subst d c;decide
   |i+2,d,c=>simp[nR1]at c
 |1,e,f=>
  simp[nS]at e;simp[WX]at f;subst e f;refine⟨λr g=>?_,λi r u d c=>?_⟩
  .simp[nR2]at g
   grind
  .match i,d,c with
   |0,d,c=>simp[nR2]at d c;subst d c;decide
   |i+1,d,c=>simp[nR2]at c
 |i+2,e,f=>simp[nS]at e
theorem b1Z(c:Query->Int)(D:Query):pI c nQ D=[Fe (lB (yO 0) D (tA [1])) nM [1] [] 1,jM (jM (yO 1) (Fe (lB (yO 0) D (tA [1])) nM [1] [] 1)) (yO 0)]:=by
 have d:gR nM=yO 0:=by rfl
 have e:gR (yO 1)=yO 1:=by rfl
 have s:∀t E,pI c (yO t) E=[E]:=λt E=>by unfold yO;rw[pI.eq_def];grind
 have m:∀E,pI c nM E=pI c (yO 0) E++pI c (yO 1) (jM (jM (gR (yO 1)) E) (yO 0)):=λE=>by
  unfold nM;rw[pI.eq_def];grind
 unfold nQ;rw[pI.eq_def]
 grind
theorem aOX:gR nQ=yO 0:=by rfl
theorem b1Q:(pI (wT nS) nQ (gR nQ)).map (uW WX)=[[[nV 1,nV 7],[nV 2,nV 7]],[[nV 1,nV 7]]]:=by
 rw[b1Z,aOX];rfl
theorem b1X:opE nQ=1:=by rw[opE,aOX];rfl
theorem MQ{s:Sl}{l:cw}(r:cC h s 3 (l.map VV.enc))(d:l.length<=1000):cF h s l:=⟨⟨l,r,rfl,λi x c=>⟨x,c,rfl⟩⟩,aD⟩
theorem MR{h:PH}{s:Sl}{us:da}{l:ct}(r:cC h s 1 (us.map eS))(c:us.length=l.length)(d:∀(i:Nat)(x:cw),l[i]? =some x->∃u,us[i]? =some u/\cF h u x)(e:l.length<=1000):Rows h s l:=⟨⟨us,r,c.symm,d⟩,aD⟩
theorem auZ:cm 32 bpX:=by
 refine Fm func32 ?_;rintro a2 m h K ⟨rfl,ht,hK⟩;refine⟨dD [(77,cfZ),(33,Sm),(29,aeJ),(21,bQQ)] [] [] [] false,rfl,aE arZ (aE Xd (aE auJ (aE axZ aG))),OS m h (kX h K),ax,?_⟩;show OS m h (kX h K);dsimp only[OS,push_cast];intro c1 h1 G r1 c2 h2 H r2;refine⟨1,rfl,7,rfl,2,rfl,7,rfl,3,rfl,7,rfl,λz h3 I r3 J h4 L r4 rc h5 M r5=>⟨9,rfl,7,rfl,?_⟩⟩;intro rd h6 O r6 ta h7 P r7 tb h8 Q r8 qs h9 R r9 tabs ha S xa A hb T xb gr hc U xc qm c B xd;have lc:=U.trans B;have lb:=T.trans lc;have la:=S.trans lb;have l9:=R.trans la;have l8:=Q.trans l9;have l7:=P.trans l8;have l6:=O.trans l7;have l5:=M.trans l6;have l4:=L.trans l5;have l3:=I.trans l4;have l2:=H.trans l3;have va:cF c z [nV 1,nV 7]:=MQ (r3.mono l4) ay;have vb:cF c J [nV 2,nV 7]:=MQ (r4.mono l5) ay;have vc:cF c rc [nV 3,nV 7]:=MQ (r5.mono l6) ay;have vd:cF c rd [nV 9,nV 7]:=MQ (r6.mono l7) ay
 have rq:cJ c nQ ⟨9,0,fS,bR,bR,gr,bR,1,qm⟩:=pJ.rep ⟨rfl,rfl,Dq c,rM c,tY c,⟨xc.mono B,ay⟩,tX c,rfl,Dt (v:=⟨7,0,fS,bR,bR,bR,bR,0,qs⟩) xd (pJ.rep ⟨rfl,rfl,Dq c,rM c,tY c,rM c,tX c,rfl,⟨⟨[⟨1,0,fS,bR,bR,bR,bR,0,bR⟩,⟨1,1,fS,bR,bR,bR,bR,0,bR⟩],r9.mono la,rfl,λi x e=>by
  match i,e with
  |0,e=>simp at e;subst e;exact⟨_,rfl,Ay c 0⟩
  |1,e=>simp at e;subst e;exact⟨_,rfl,Ay c 1⟩
  |i+2,e=>simp at e⟩,ay⟩⟩)⟩
 have rS:iA c nS ⟨0,tabs⟩:=⟨rfl,⟨⟨[⟨nT1.name,c1,1,bR,bR⟩,⟨nT2.name,c2,1,bR,bR⟩],xa.mono lb,rfl,λi x e=>by
  match i,e with
  |0,e=>simp[nS]at e;subst e;exact⟨_,rfl,⟨rfl,Hi (l:=Qu) (r1.mono l2) az,rfl,bZ.nil _ _ _ _,bZ.nil _ _ _ _⟩⟩
  |1,e=>simp[nS]at e;subst e;exact⟨_,rfl,⟨rfl,Hi (l:=Qu) (r2.mono l3) az,rfl,bZ.nil _ _ _ _,bZ.nil _ _ _ _⟩⟩
  |i+2,e=>simp[nS]at e⟩,by simp[nS]⟩⟩
 have t1:Rows c ta nR1:=MR (us:=[z,J,rc]) (r7.mono l8) rfl (λi x e=>by
  match i,e with
  |0,e=>simp[nR1]at e;grind
  |1,e=>simp[nR1]at e;grind
  |2,e=>simp[nR1]at e;grind
  |i+3,e=>simp[nR1]at e) az
 have t2:Rows c tb nR2:=MR (us:=[z,rd]) (r8.mono l9) rfl (λi x e=>by
  match i,e with
  |0,e=>simp[nR2]at e;grind
  |1,e=>simp[nR2]at e;grind
  |i+2,e=>simp[nR2]at e) az
 have V:Pq c A WX:=⟨⟨⟨[ta,tb],xb.mono lc,rfl,λi x e=>by
  match i,e with
  |0,e=>simp[WX]at e;grind
  |1,e=>simp[WX]at e;grind
  |i+2,e=>simp[WX]at e⟩,by simp[WX]⟩,by simp[WX],λl f r C v F=>by
   have:∃n,v=nV n:=by
    simp[WX]at f;rcases f with rfl|rfl<;>simp[nR1,nR2]at C
    .grind
    grind
   have hn:rN v.kind/\rN v.int:=by
    simp[WX]at f;rcases f with rfl|rfl<;>simp[nR1,nR2]at C
    .rcases C with rfl|rfl|rfl<;>simp at F<;>rcases F with rfl|rfl<;>exact⟨by constructor<;>decide,by constructor<;>decide⟩
    .rcases C with rfl|rfl<;>simp at F<;>rcases F with rfl|rfl<;>exact⟨by constructor<;>decide,by constructor<;>decide⟩
   exact hn⟩
 have D:(dU nS [] nQ).2=0:=by rw[b9J]
 refine⟨⟨0,tabs⟩,A,⟨9,0,fS,bR,bR,gr,bR,1,qm⟩,nS,WX,nQ,rfl,rS,V,rq,ht,λ_=>btQ,b0J,λl f=>by
  have f:l∈WX:=f;simp[WX]at f;rcases f with rfl|rfl<;>decide,λs' he o f=>⟨⟨0,tabs⟩,⟨9,0,fS,bR,bR,gr,bR,1,qm⟩,nS,nQ,rfl,rS.mono o,rq.mono o,D,λv' hf g _ ho=>?_⟩⟩
 have f:=f D;rw[b1Q]at f;have f:=bZ.mono f g λ_ _ x=>bZ.mono x g λ_ _ y=>cF.mono y g;have E:=bZ.slen f;have E:s'.len=2:=E;obtain⟨b1,o1,u1,W,X,Y⟩:=bZ.at f (i:=0) rfl;obtain⟨b2,o2,u2,Z,a',a0⟩:=bZ.at f (i:=1) rfl;have j:=o.trans g
 refine aC (λ_=>aC (λ_=>aC (λ_=>⟨b1,o1,W,aD,aD,u1,.imm (by simpa[eS]using X),λs1 hg d rg=>⟨u1,s1,[[nV 1,nV 7],[nV 2,nV 7]],[[nV 1,nV 7],[nV 2,nV 7]],rfl,bZ.mono Y d λ_ _ y=>cF.mono y d,MR (us:=[z,J]) rg rfl (λi x e=>by
  match i,e with
  |0,e=>simp at e;subst e;exact⟨_,rfl,va.mono (j.trans d)⟩
  |1,e=>simp at e;subst e;exact⟨_,rfl,vb.mono (j.trans d)⟩
  |i+2,e=>simp at e) az,λr C=>aC (λ_=>⟨b2,o2,Z,aD,aD,u2,.imm (by simpa[eS]using a'.mono d),λs2 hh u rh=>⟨u2,s2,[[nV 1,nV 7]],[[nV 1,nV 7]],rfl,bZ.mono a0 (d.trans u) λ_ _ y=>cF.mono y (d.trans u),MR (us:=[z]) rh rfl (λi x e=>by
   match i,e with
   |0,e=>simp at e;subst e;exact⟨_,rfl,va.mono ((j.trans d).trans u)⟩
   |i+1,e=>simp at e) az,λr2 a1=>?_⟩⟩) (λe=>?_)⟩⟩) (λe=>?_)) (λe=>?_)) (λe=>?_)
 .rw[a1.2 rfl];exact .out (Sub.refl m) (((((G.trans l2).trans o).trans g).trans d).trans u) hK
 .grind
 .grind
 .rw[ho,b1X]at e;cases e
 .grind
def Zc:Vc.Spec:=λc m h K=>∃cb,c=[cP cb]/\aR m h cb/\∀n m',bE m m' cb->aR m' h cb->K (cI n) m' h
def ciQ:Vc.Spec:=λc m h K=>∃cb,c=[cP cb]/\aR m h cb/\∀v m',rN v.int->bE m m' cb->aR m' h cb->K (aV v) m' h
def LU(p:Pred):Prop:=(mU p).length<=1000000000
def ceX(N:Nat):Vc.Spec:=λc m h K=>∃cb v p,c=[cP cb,aP v]/\aR m h cb/\dO h p v/\LU p/\uU p/\SizeOf.sizeOf p<N/\∀d e m' h',PH.le h h'->dO h' d e->uU d->bE m m' cb->aR m' h' cb->K (aP e) m' h'
def ceZ:Vc.Spec:=λc m h K=>∃cb v p,c=[cP cb,aP v]/\aR m h cb/\dO h p v/\LU p/\uU p/\∀d e m' h',PH.le h h'->dO h' d e->uU d->bE m m' cb->aR m' h' cb->K (aP e) m' h'
noncomputable def f51_ctx(N:Nat)(cb:Nat)(v:PV)(h:PH):Ctx:=
 tR [(12,Hu),(13,PJ),(50,Zc),(54,ciQ),(51,ceX N)]
  [(28,{A:=Nat×PV×MH×PH,st:=λ⟨i,w,m,h⟩=>bQ 111 113 [(3,.at (.ptr 3 0)),(4,.at (.ptr 4 0)),(7,iv i)] [(3,.cells 32 (w.enc.map .val)),(4,.cells 32 (fS.enc.map .val))] m h}),
   (9,{A:=Nat×PV×MH×PH,st:=λ⟨i,w,m,h⟩=>bQ 111 113 [(3,.at (.ptr 3 0)),(4,.at (.ptr 4 0)),(8,iv i)] [(3,.cells 32 (w.enc.map .val)),(4,.cells 32 (fS.enc.map .val))] m h})]
  [(7,{A:=Nat×MH,st:=λ⟨_,m⟩=>bQ 111 113 [(0,pv cb),(3,.at (.ptr 3 0)),(4,.at (.ptr 4 0))] [(3,.cells 32 (v.enc.map .val)),(4,.cells 32 (fS.enc.map .val))] m h})] [] [3030,100056,100108] [] false
def ah(cb:Nat)(m:MH)(h:PH)(K:cr):Prop:=
  iR cb 6 m h (λk c=>cX (k==0) (K (eV (Int.negSucc 0)) c h) (k==1) (K (eV 9223372036854775807) c h) (cX (k==2) (K (eV (Int.negSucc 9223372036854775807)) c h) (k==3) (iR cb 3 c h (λd e=>K (eV (fI (100+d))) e h)) (iR cb 6 c h (λd e=>K (eV d) e h))))
def ai(cb:Nat)(m:MH)(h:PH)(K:cr):Prop:=
  iR cb 5 m h (λk d=>aX (fI (1+k)) 3 (K (fM (aL (eN (fI (1+k))) cW (lD Wy))) d h) (Oa (λc f=>aA (bC (kB cb) (fI (1+k))=bC (kB c) f) (aR d h c) (∀(v:VV)(e:MH),TH v->Wm f v->bE d e c->aR e h c->K (fM v.enc) e h))))
noncomputable abbrev jT(a:Nat×PV×MH×PH):PV:=a.2.1
noncomputable abbrev Al(a:Nat×PV×MH×PH):Nat->Nat->Option Value:=a.2.2.2
attribute [push_cast] jT Al
def aj(N:Nat)(cb:Nat)(v:PV)(m:MH)(h:PH)(K:cr):Prop:=
  ∃(I:Nat×MH->Prop),eZ (mX v) 0 (oD cb 2 m h (λc=>c) (λc r=>∀(g:MH),bE m g c->aR g h c->branch r (AZ ((0:Nat)=0) (λx=>FM (i6 13 x) (cC h oC 13 x) (λy=>jI 13 y (oP g h (gJ v.args) 13 y) ((none:Option Addr)=Option.none\/0<y.length) (nU x y 136) (nP x y/\iR cb (iZ (x++y)) g h (λk f=>rW k (k<iZ (x++y)) (λe=>mI (x++y) k e/\∃(E:PV),pN 13 e E.enc/\∃(B:Nat),pE (λz p=>aA (gZ (kB cb) (fM E.enc)=gZ (kB B) (fM z.enc)) (aR f h B) (aA (dO h p z) (LU p) (aA (uU p) (pB p N) (∀(F:Pred)(j:PV),iB (λC u=>cZ h u (dO u F j) (uU F->bE f C B->mK C u B (rW k (k<iZ (x++y)) (λD=>aA (mI (x++y) k D) (13<=D.length)
 (bU u 13 (List.set (x++y) k.toNat (aL (eN j.op) (eN j.cmp) (aL (tE j) (tF j) (aL (jY j.left) (sA j) (aL (sB j) (sD j) (aL (tH j) (tI j) (aL (tJ j) (tK j) (kW (hJ j.args) 13 D)))))))) (λs G=>K (fM (aL (eN v.op) (eN v.cmp) (aL (tE v) (tF v) (aL (jY v.left) (sA v) (aL (sB v) (sD v) (aL (tH v) (tI v) (aL (tJ v) (tK v) (aY s)))))))) C G)))))))))))))))) (∃(x:Nat×MH),aA (I x) (cR cb) (aA cG iS (aA (gM v) mE (aA (g=x.2) (h=h) True)))))) (∃(x:Nat×MH),aA (I x) (cR cb) (aA cG iS (aA (gM v) mE (aA (m=x.2) (h=h) True))))/\∀(x:Nat×MH),I x->iR cb 9 x.2 h (λk g=>cX (k==0) (vS cb g h (λc n=>∀(f:MH),bE g f c->aR f h c->K (fM (aL
 (eN n) (eN v.cmp) (aL (tE v) (tF v) (aL (jY v.left) (sA v) (aL (sB v) (sD v) (aL (tH v) (tI v) (aL (tJ v) (tK v) (aY v.args)))))))) f h)) (k==1) (vS cb g h (λc n=>∀(f:MH),bE g f c->aR f h c->K (fM (aL (eN v.op) (eN n) (aL (tE v) (tF v) (aL (jY v.left) (sA v) (aL (sB v) (sD v) (aL (tH v) (tI v) (aL (tJ v) (tK v) (aY v.args)))))))) f h)) (cX (k==2) (vS cb g h (λc n=>∀(f:MH),bE g f c->aR f h c->K (fM (aL (eN v.op) (eN v.cmp) (aL (eN n) (tF v) (aL (jY v.left) (sA v) (aL (sB v) (sD v) (aL (tH v) (tI v) (aL (tJ v) (tK v) (aY v.args)))))))) f h)) (k==3) (vS cb g h (λc n=>∀(f:MH),bE g f c->aR f h c->K (fM (aL (eN v.op) (eN
 v.cmp) (aL (tE v) (eN n) (aL (jY v.left) (sA v) (aL (sB v) (sD v) (aL (tH v) (tI v) (aL (tJ v) (tK v) (aY v.args)))))))) f h)) (cX (k==4) (Jp cb g h (λc=>∀(z:VV)(f:MH),rN z.int->bE g f c->mK f h c (K (fM (aL (eN v.op) (eN v.cmp) (aL (tE v) (tF v) (aL (jY v.left) (sA v) (aL (sB v) (sD v) (aL (tH v) (eN z.kind) (aL (eN z.int) (Value.string z.text) (aY v.args)))))))) f h))) (k==5) (vS cb g h (λc n=>∀(f:MH),bE g f c->aR f h c->K (fM (aL (eN v.op) (eN v.cmp) (aL (tE v) (tF v) (aL (jY v.left) (sA v) (aL (sB v) (sD v) (aL (eN n) (tI v) (aL (tJ v) (tK v) (aY v.args)))))))) f h)) (cX (k==6) (AZ ((0:Nat)=0) (λd=>FM (i6 13 d) (cC h
 oC 13 d) (λy=>jI 13 y (oP g h (gJ v.args) 13 y) ((none:Option Addr)=Option.none\/0<y.length) (nU d y 136) (oZ (nP d y) (d++y) 136 (bU h 13 (fK (d++y) (ED (eN 1) iV)) (λs u=>K (fM (aL (eN v.op) (eN v.cmp) (aL (tE v) (tF v) (aL (jY v.left) (sA v) (aL (sB v) (sD v) (aL (tH v) (tI v) (aL (tJ v) (tK v) (aY s)))))))) g u)))))) (k==7) (∃(I1:Nat×PV×MH×PH->Prop)(f:Nat×PV×MH×PH->Nat),(∃(d:Nat×PV×MH×PH),aA (I1 d) cG (aA iS (bB d.1) (aA (mZ 32 v.enc=mZ 32 (jT d).enc) mE (aA (bH g d.2.2) (h=Al d) True))))/\∀(d:Nat×PV×MH×PH),I1 d->aX (↑d.1:Int) 8 (bU (Al d) 13 (kJ (jT d).enc) (λs u=>∃(o:Nat×PV×MH×PH),aA (I1 o) (f o<f
 d) (aA cG iS (aA (bD (gG (bF d.1 1)) o.1) (GD (GR 6 0 (vD s)) (jT o)) (aA mE (bH d.2.2.1 o.2.2) (bL u (Al o))))))) (K (fM (jT d).enc) d.2.2.1 (Al d))) (∃(I1:Nat×PV×MH×PH->Prop)(f:Nat×PV×MH×PH->Nat),(∃(d:Nat×PV×MH×PH),aA (I1 d) cG (aA iS (bB d.1) (aA (mZ 32 v.enc=mZ 32 (jT d).enc) mE (aA (bH g d.2.2) (h=Al d) True))))/\∀(d:Nat×PV×MH×PH),I1 d->aX (↑d.1:Int) 24 (aA (bV (mX (jT d))) (mX (jT d)<=mX (jT d)) (aA (mX (jT d)<=(↑(jT d).args.cap:Int)) ((mX (jT d)).toNat=(mX (jT d)).toNat) (∃(o:List cn),jI 13 o (cC (Al d) (Sl.mk (jT d).args.a (mX (jT d)).toNat (mX (jT d)).toNat) 13 o) ((jT
 d).args.a=Option.none\/(0:Nat)<1) (iM (qR o 1*136)) (A0 o/\bU (Al d) 13 (fK o (ED (eN 2) iV)) (λs u=>∃(A:Nat×PV×MH×PH),aA (I1 A) (f A<f d) (aA cG iS (aA (bD (gG (bF d.1 1)) A.1) (GD (cQ (fV (jT d).op) (fV (jT d).cmp) (cQ (fV (jT d).left.kind) (sI (jT d).left) (cQ (sE (jT d).left) (fV (wO (jT d).left)) (cQ (sF (jT d).left) (fV (jT d).right.kind) (cQ (sI (jT d).right) (sE (jT d).right) (cQ (fV (wO (jT d).right)) (sF (jT d).right) (nL (vD s)))))))) (jT A)) (aA mE (bH d.2.2.1 A.2.2) (bL u (Al A)))))))))) (K (fM (jT d).enc) d.2.2.1 (Al d)))))))
theorem NX:∀l:dg,l.length<=(lC l).length
 |[]=>ay
 |.mk op c l r args::ps=>by
  have:=NX ps;have d:1<=(hU [op,c]).length:=by simp[hU];omega
  simp only[lC,mU,ci,bt];omega
theorem NY{a:Pred}:∀{l:dg},a∈l->(mU a).length<=(lC l).length
 |p::ps,h=>by
  simp only[lC,bt];rcases mem_cons.1 h with rfl|h
  .omega
  .have:=NY h;omega
theorem LU.len{op c:Int}{l r:OV}{args:dg}(h:LU (.mk op c l r args)):args.length<=1000000000:=by
 have:=NX args;unfold LU at h;simp only[mU,bt]at h;omega
theorem LU.arg{op c:Int}{l r:OV}{args:dg}(h:LU (.mk op c l r args)){a:Pred}(d:a∈args):LU a:=by
 have:=NY d;unfold LU at h⊢
 simp only[mU,bt]at h;omega
theorem pK.snoc{ps:dg}{vs:dr}(x:pK h ps vs){u:PV}(d:dO h p u):pK h (ps++[p]) (vs++[u]):=by
 induction ps generalizing vs with
 |nil=>obtain rfl:vs=[]:=x;exact⟨u,[],rfl,d,rfl⟩
 |cons q ps e=>
  obtain⟨y,c,rfl,f,g⟩:=x;exact⟨y,c++[u],rfl,f,e g⟩
theorem pK.set{ps:dg}{vs:dr}(x:pK h ps vs){u:PV}(f:dO h p u):pK h (ps.set i p) (vs.set i u):=by
 induction ps generalizing vs i with
 |nil=>have e:vs=[]:=x;subst e;rfl
 |cons q ps g=>
  obtain⟨y,c,rfl,j,d⟩:=x;cases i with
  |zero=>exact⟨u,c,rfl,f,d⟩
  |succ i=>exact⟨y,c.set i u,rfl,j,g d⟩
theorem KF(l:dr):i6 13 (l.map PV.enc):=by
 refine⟨λx c=>?_,λx c v d=>?_⟩<;>obtain⟨p,_,rfl⟩:=mem_map.1 c
 .rfl
 .simp[PV.enc]at d;rcases d with h|h|h|h|h|h|h|h|h|h|h|h|h<;>(rw[h];rfl)
theorem ak:cm 50 Zc:=by
 refine iH func50 ?_;rintro j m h K ⟨cb,rfl,n,c⟩;refine⟨dD [(12,Hu)] [] [] [] false,rfl,aE H2 aG,ah cb m h K,ax,?_⟩;dsimp only[ah,push_cast];refine⟨cb,6,rfl,n,λk u _ _ d e=>?_⟩;exact aC (λ_=>c _ _ d e) (λ_=>aC (λ_=>c _ _ d e) (λ_=>aC (λ_=>c _ _ d e) (λ_=>aC (λ_=>⟨cb,3,rfl,e,λk o _ _ f g=>c _ _ (d.trans f) g⟩) (λ_=>⟨cb,6,rfl,e,λk o _ _ f g=>c _ _ (d.trans f) g⟩))))
theorem av:cm 54 ciQ:=by
 refine iH func54 ?_;rintro f m h K ⟨cb,rfl,g,c⟩;refine⟨dD [(12,Hu),(95,TF)] [] [] [] false,rfl,aE H2 (aE K6 aG),ai cb m h K,ax,?_⟩;dsimp only[ai,push_cast];refine⟨cb,5,rfl,g,λk x _ _ d e=>?_⟩;exact aC (λ_=>c ⟨_,0,⟨⟨[]⟩⟩⟩ _ wP d e) (λ_=>⟨cb,_,rfl,e,λv j n _ o u=>c v j n.int_ (d.trans o) u⟩)
theorem f51_all:∀N,cm 51 (ceX N)
 |0=>by
  refine eD (fn:=Tryz.f51) (c:=cA Tryz.f51) func51 rfl az ?_;rintro a4 m h K ⟨cb,v,p,rfl,_,_,_,_,hN,_⟩;omega
 |N+1=>by
  refine iH func51 ?_;rintro a4 m h K ⟨cb,v,p,rfl,hc,hr,hl,hn,hN,I⟩;refine⟨f51_ctx N cb v h,rfl,aE H2 (aE BN (aE ak (aE av (aE (f51_all N) aG)))),aj N cb v m h K,ax,?_⟩;dsimp only[aj,push_cast];have L:=@vZ p;obtain⟨op,y,l,r,args⟩:=p;obtain⟨h1,h2,Q,R,h5,E,row,rep⟩:=hr;have a6:=hl.len;obtain⟨S,T,F⟩:=hn;have z:rN v.left.value.int:=by rw[Q];exact S
  have G:rN v.right.value.int:=by rw[R];exact T
  have a7:=rep.length;have a8:v.args.len=args.length:=by have:=row.len;simp at this;omega
  have O:∀(o c:Int)(U V:OV),dO h (.mk o c U V args) ⟨o,c,U,V,v.args⟩:=λ_ _ _ _=>⟨rfl,rfl,rfl,rfl,h5,E,row,rep⟩
  refine⟨λx=>bE m x.2 cb/\aR x.2 h cb,aF (λW=>⟨cb,2,rfl,aD,aD,hc,λr1 m1 X Y=>aC (λ_=>?_) (λ_=>⟨(0,m1),⟨X,Y⟩,MT⟩)⟩) (λ_=>⟨(0,m),⟨.refl _ _,hc⟩,MT⟩),?_⟩
  .refine⟨rfl,[],⟨ay,ay⟩,cC.nil _ _,E.map PV.enc,KF E,.imm row,.inl rfl,bf,bf,cb,_,rfl,Y,λk P k0 k1 A H=>?_⟩;have hk:k.toNat<args.length:=by simp at k1;omega
   obtain⟨a,ha⟩:∃a,args[k.toNat]? =some a:=⟨_,bo hk⟩
   obtain⟨u,hu,ru⟩:=rep.get ha;have hm:=br ha;have:=L (q:=a) hm;have he:([]++E.map PV.enc)[k.toNat]? =some (PV.enc u):=by rw[nil_append,getElem?_map,hu];rfl
   have Z:k<((([]:List cn)++E.map PV.enc).length:Int):=bf
   refine⟨k0,Z,_,he,u,rfl,cb,u,a,rfl,H,ru,hl.arg hm,qW.1 F a hm,aD,λp' v' B hA a' r3 n3 C D=>⟨k0,Z,_,he,by simp[PV.enc],λs M d rs=>?_⟩⟩;refine I (.mk op y l r (args.set k.toNat p')) ⟨v.op,v.cmp,v.left,v.right,s⟩ B M (a'.trans d) ⟨h1,h2,Q,R,bf,E.set k.toNat v',by rw[map_set];exact rs,(pK.mono (a'.trans d) rep).set (r3.mono d)⟩ ⟨S,T,qW.2 λb hb=>(mem_or_eq_of_mem_set hb).elim (λh=>qW.1 F b h) (λe=>e▸n3)⟩ ((X.trans A).trans C) (D.mono d)
  .rintro⟨_,m1⟩ ⟨X,Y⟩;dsimp only at X Y⊢
   refine⟨cb,9,rfl,Y,λk P _ _ A H=>?_⟩;have A:=X.trans A;refine aC (λ_=>⟨cb,rfl,H,λn B C D=>I _ _ B h (.refl _) (O n v.cmp v.left v.right) ⟨z,G,F⟩ (A.trans C) D⟩) (λ_=>?_);refine aC (λ_=>⟨cb,rfl,H,λn B C D=>I _ _ B h (.refl _) (O v.op n v.left v.right) ⟨z,G,F⟩ (A.trans C) D⟩) (λ_=>?_);refine aC (λ_=>⟨cb,rfl,H,λn B C D=>I _ _ B h (.refl _) (O v.op v.cmp ⟨n,v.left.index,v.left.value⟩ v.right) ⟨z,G,F⟩ (A.trans C) D⟩) (λ_=>?_);refine aC (λ_=>⟨cb,rfl,H,λn B C D=>I _ _ B h (.refl _) (O v.op v.cmp ⟨v.left.kind,n,v.left.value⟩ v.right) ⟨z,G,F⟩ (A.trans C) D⟩) (λ_=>?_);refine aC (λ_=>⟨cb,rfl,H,λn B ni C D=>I _ _ B h (.refl _) (O v.op v.cmp v.left ⟨v.right.kind,v.right.index,n⟩) ⟨z,ni,F⟩ (A.trans C) D⟩) (λ_=>?_);refine aC (λ_=>⟨cb,rfl,H,λn B C D=>I _ _ B h (.refl _) (O v.op v.cmp v.left ⟨v.right.kind,n,v.right.value⟩) ⟨z,G,F⟩ (A.trans C) D⟩) (λ_=>?_);refine aC (λ_=>?_) (λ_=>aC (λ_=>?_) (λ_=>?_))
   .refine⟨rfl,[],⟨ay,ay⟩,cC.nil _ _,E.map PV.enc,KF E,.imm row,.inl rfl,bf,bf,bf,bf,λs M d rs=>?_⟩;exact I (.mk op y l r (args++[.mk 1 0 dG dG []])) ⟨v.op,v.cmp,v.left,v.right,s⟩ P M d ⟨h1,h2,Q,R,bf,E++[⟨1,0,dG,dG,bR⟩],by rw[bw];exact rs,(pK.mono d rep).snoc (p:=.mk 1 0 dG dG []) (u:=⟨1,0,dG,dG,bR⟩) ⟨rfl,rfl,rfl,rfl,ay,[],cC.nil _ _,rfl⟩⟩ ⟨S,T,qW.2 λb hb=>(mem_append.1 hb).elim (λh=>qW.1 F b h) (λe=>(mem_singleton.1 e)▸⟨wP,wP,trivial⟩)⟩ A (H.mono d)
   .refine⟨λx=>x.1<=8/\∃q,(dO x.2.2.2 q x.2.1/\uU q)/\x.2.2.1=P/\PH.le h x.2.2.2,λx=>8-x.1,⟨(0,v,P,h),⟨ay,.mk op y l r args,⟨⟨h1,h2,Q,R,h5,E,row,rep⟩,S,T,F⟩,rfl,.refl _⟩,MT⟩,?_⟩;rintro⟨i,w,mx,hx⟩ ⟨hi,q,⟨rq,nq⟩,rfl,lex⟩;dsimp only at hi rq lex⊢
    refine aF (λW=>λs M d rs=>?_) (λ_=>I q w mx hx lex rq nq A (H.mono lex));rw[kR aD];exact⟨(i+1,⟨6,0,dG,dG,s⟩,mx,M),⟨bj,(.mk 6 0 dG dG [q]),⟨⟨rfl,rfl,rfl,rfl,ay,[w],rs,w,[],rfl,rq.mono d,rfl⟩,⟨wP,wP,nq,trivial⟩⟩,rfl,lex.trans d⟩,bi,MT⟩
   .refine⟨λx=>x.1<=24/\(∃op y l r args,(dO x.2.2.2 (.mk op y l r args) x.2.1/\uU (.mk op y l r args))/\args.length<=1000000000+x.1)/\x.2.2.1=P/\PH.le h x.2.2.2,λx=>24-x.1,⟨(0,v,P,h),⟨ay,⟨_,_,_,_,_,⟨⟨h1,h2,Q,R,h5,E,row,rep⟩,S,T,F⟩,bf⟩,rfl,.refl _⟩,MT⟩,?_⟩;rintro⟨i,w,mx,hx⟩ ⟨hi,⟨a0,J,U,V,g,⟨⟨g1,g2,g3,g4,g5,us,f,j⟩,a1,a2,a3⟩,a5⟩,rfl,lex⟩;dsimp only at hi f j a5 lex g1 g2 g3 g4⊢
    have a9:=j.length;have b':w.args.len=g.length:=by have:=f.len;simp at this;omega
    refine aF (λW=>?_) (λ_=>I (.mk a0 J U V g) w mx hx lex ⟨g1,g2,g3,g4,g5,us,f,j⟩ ⟨a1,a2,a3⟩ A (H.mono lex));refine⟨aD,aD,by have:=f.cap;omega,rfl,us.map PV.enc,KF us,⟨by have:=f.len;simp at this⊢;omega,f.row,Nat.le_refl _⟩,.inr aD,bf,bf,λs M d rs=>?_⟩;rw[kR aD];exact⟨(i+1,⟨w.op,w.cmp,w.left,w.right,s⟩,mx,M),⟨bj,⟨a0,J,U,V,g++[.mk 2 0 dG dG []],⟨⟨g1,g2,g3,g4,bf,us++[⟨2,0,dG,dG,bR⟩],by rw[bw];exact rs,(pK.mono d j).snoc (p:=.mk 2 0 dG dG []) (u:=⟨2,0,dG,dG,bR⟩) ⟨rfl,rfl,rfl,rfl,ay,[],cC.nil _ _,rfl⟩⟩,a1,a2,qW.2 λb hb=>(mem_append.1 hb).elim (λh=>qW.1 a3 b h) (λe=>(mem_singleton.1 e)▸⟨wP,wP,trivial⟩)⟩,bf⟩,rfl,lex.trans d⟩,bi,MT⟩
theorem aw:cm 51 ceZ:=iQ f51_all λ_ _ _ _⟨cb,v,p,e,c,d,f,g,j⟩=>⟨SizeOf.sizeOf p+1,cb,v,p,e,c,d,f,g,aD,j⟩
structure pL(m0 m:MH)(h:PH)(w:Pred)(co:cq)(on:cu)(gr:cq)(od:cv)(args:cz)(v:QV)(us:dn):Prop where
 where_:dO h w v.where_
 columns_:jE m0 m v.columns 3 1 (co.map eI)
 on_:jE m0 m v.on 101 2 (on.map kY)
 group_:jE m0 m v.group 3 1 (gr.map eI)
 order_:jE m0 m v.order 103 2 (od.map sJ)
 args_:jE m0 m v.args 38 21 (us.map QV.enc)
 apart:∀b i j,v.columns.a=some ⟨b,i,none⟩->v.group.a≠some ⟨b,j,none⟩
 rep:qU h args us
 lco:co.length<=2000000000
 lon:on.length<=2000000000
 lgr:gr.length<=2000000000
 lod:od.length<=2000000000
 lar:args.length<=2000000000
theorem jE.off{m0:MH}{s t g:Sl}{E E':TypeId}{c:Nat}{n:List cn}(r:jE m0 m s E sz xs)(x:eF m m' t g E' c n)(d:∀b i j,s.a=some ⟨b,i,none⟩->t.a≠some ⟨b,j,none⟩):jE m0 m' s E sz xs:=by
 refine⟨dE.keep r.row (λb i e=>?_),r.fresh⟩;obtain⟨o,f⟩:=dE.blk r.row e;rw[f];exact x.other b _ f (λj=>d b i j e)
theorem jE.ne{m0:MH}{s t:Sl}{E E':TypeId}{c:Nat}{g:List cn}(r:jE m0 m s E sz xs)(q:jE m0 m t E' c g)(n:E≠E'):∀b i j,s.a=some ⟨b,i,none⟩->t.a≠some ⟨b,j,none⟩:=λb i j e o=>by
 obtain⟨u,x⟩:=dE.blk r.row e;obtain⟨f,d⟩:=dE.blk q.row o;rw[x]at d;simp only[bx,Obj.cells.injEq]at d;exact n d.2.1
theorem jE.up{m0:MH}{s d:Sl}{E:TypeId}{f:List cn}(r:jE m0 m s E sz xs)(x:eF m m' s d E sz f)(k:∀b o,m0 b=some o->m b=some o\/∃o',m b=some o'):jE m0 m' d E sz f:=
 ⟨x.row,λb i e=>by
  rcases x.fresh b i e with c|⟨j,c⟩
  .cases g:m0 b with
   |none=>rfl
   |some o=>rcases k b o g with h|⟨_,h⟩<;>(rw[c]at h;cases h)
  .exact r.fresh b j c⟩
def Hv(m0 m:MH):Prop:=∀b o,m0 b=some o->∃c,m b=some c
theorem Hv.grown{m0:MH}{s d:Sl}{E:TypeId}{f:List cn}(k:Hv m0 m)(x:eF m m' s d E sz f)(r:jE m0 m s E sz xs):Hv m0 m':=λb o e=>by
 obtain⟨c,h⟩:=k b o e;exact⟨c,x.other b c h λi g=>by rw[r.fresh b i g]at e;cases e⟩
theorem Kept.held{m0:MH}(k:Kept m0 m cb)(c:aR m h cb):Hv m0 m:=λb o e=>by
 by_cases d:b=cb
 .obtain⟨g,f⟩:=c.blk;exact⟨_,by rw[d];exact f⟩
 .exact⟨o,k b o e d⟩
theorem jE.put{m0 n:MH}{w:Sl}{us:dn}{t:Nat}(x:jE m0 n w 38 21 (us.map QV.enc))(B:t<us.length):∃b,w.a=some ⟨b,0,none⟩/\t<w.len/\(∃c,n b=some (.cells c 38 (0,0)))/\∃(cs:Array Value)(F:TypeId),E8 n b (.cells cs F (0,0))/\0+t*21+21<=cs.size/\∀u m',iP n m' b (.cells ⟨splice cs.toList (0+t*21) (QV.enc u)⟩ F (0,0))->jE m0 m' w 38 21 ((us.set t u).map QV.enc):=by
 have d:∀u:QV,(QV.enc u).length=21:=λu=>rfl;rcases x.row.ex with⟨rfl,e⟩|⟨b,f,c,rfl,C,o,y,z,g⟩
 .have D:=congrArg List.length e;rw[length_map,length_nil]at D;omega
 .rw[length_map]at o;have A:c.toList.length=f*21:=by rw[Array.length_toList];exact z
  refine⟨b,rfl,by show t<(us.map QV.enc).length;rw[length_map];exact B,⟨c,C⟩,c,38,⟨C⟩,aD,λu m' E=>⟨⟨NR _,.inr ⟨b,f,⟨splice c.toList (0+t*21) (QV.enc u)⟩,ay,E.at_,bf,y,?_,?_⟩⟩,x.fresh⟩⟩
  .show(splice c.toList (0+t*21) (QV.enc u)).length=f*21;rw[zL _ _ _ (by rw[d];omega)];exact A
  .show(splice c.toList (0+t*21) (QV.enc u)).take _=_;rw[length_map,length_set,L1 _ _ _ _ (by rw[d];omega) aD];rw[length_map]at g;have G:(us.map QV.enc)[t]? =some (QV.enc us[t]):=by rw[getElem?_map,bo B];rfl
   have j:=Go.Vc.flatten_set (off:=0) (l:=QV.enc u) (NR us).len G (by rw[d,d];omega);rw[Nat.add_zero,show splice (QV.enc us[t]) 0 (QV.enc u)=QV.enc u from rfl]at j;rw[g,Nat.zero_add,map_set];exact j
theorem jE.upd{m0:MH}{s:Sl}{E E':TypeId}{c:Array Value}{o:Obj}(r:jE m0 m s E sz xs)(g:m b=some (.cells c E' (0,0)))(j:iP m m' b o)(n:E≠E'):jE m0 m' s E sz xs:=
 ⟨dE.keep r.row λu i e=>j.other u λx=>by
  obtain⟨f,d⟩:=dE.blk r.row e;rw[x,g]at d;simp only[bx,Obj.cells.injEq]at d;exact n d.2.1.symm,r.fresh⟩
section
variable{m0 m m':MH}{h h':PH}{cb:Nat}{w:Pred}{co gr:cq}{on:cu}{od:cv}{args:cz}{v:QV}{us:dn}
theorem pL.mono(x:pL m0 m h w co on gr od args v us)(le:PH.le h h'):pL m0 m h' w co on gr od args v us:=
 {x with where_:=x.where_.mono le,rep:=qU.mono le x.rep}
theorem pL.move(x:pL m0 m h w co on gr od args v us)(o:bE m m' cb)(c:aR m h' cb):pL m0 m' h w co on gr od args v us:=
 {x with columns_:=x.columns_.on o c az,on_:=x.on_.on o c az,group_:=x.group_.on o c az,order_:=x.order_.on o c az,args_:=x.args_.on o c az}
theorem pL.ice(x:pL m0 m h w co on gr od args v us)(d:yK m h):cJ (oN m0 m h) (.mk v.op v.table w co on gr od v.limit args) v:=
 ⟨rfl,rfl,x.where_.mono (zE d),⟨x.columns_.ice,by have:=x.lco;omega⟩,⟨x.on_.ice,by have:=x.lon;omega⟩,⟨x.group_.ice,by have:=x.lgr;omega⟩,⟨x.order_.ice,by have:=x.lod;omega⟩,rfl,by have:=x.lar;omega,us,x.args_.ice,qU.mono (zE d) x.rep⟩
theorem pL.columns(x:pL m0 m h w co on gr od args v us)(k:Hv m0 m){s:Sl}{n:Int}(c:eF m m' v.columns s 3 1 (co.map eI++[eI n]))(A:co.length<=1000000000):pL m0 m' h w (co++[n]) on gr od args {v with columns:=s} us/\Hv m0 m':=by
 have u:∀b i j,s.a=some ⟨b,i,none⟩->v.group.a≠some ⟨b,j,none⟩:=by
  intro b i j e d;rcases c.fresh b i e with f|⟨y,f⟩
  .obtain⟨z,g⟩:=dE.blk x.group_.row d;rw[f]at g;cases g
  .exact x.apart b y j f d
 exact⟨{x with columns_:=by rw[bw];exact x.columns_.up c (λb o e=>.inr (k b o e)),on_:=x.on_.off c (x.on_.ne x.columns_ az),group_:=x.group_.off c (λb i j e d=>x.apart b j i d e),order_:=x.order_.off c (x.order_.ne x.columns_ az),args_:=x.args_.off c (x.args_.ne x.columns_ az),lco:=bf,apart:=u},k.grown c x.columns_⟩
theorem pL.group(x:pL m0 m h w co on gr od args v us)(k:Hv m0 m){s:Sl}{n:Int}(c:eF m m' v.group s 3 1 (gr.map eI++[eI n]))(A:gr.length<=1000000000):pL m0 m' h w co on (gr++[n]) od args {v with group:=s} us/\Hv m0 m':=by
 have g:∀b i j,v.columns.a=some ⟨b,i,none⟩->s.a≠some ⟨b,j,none⟩:=by
  intro b i j e u;rcases c.fresh b j u with d|⟨y,d⟩
  .obtain⟨z,f⟩:=dE.blk x.columns_.row e;rw[d]at f;cases f
  .exact x.apart b i y e d
 exact⟨{x with group_:=by rw[bw];exact x.group_.up c (λb o e=>.inr (k b o e)),on_:=x.on_.off c (x.on_.ne x.group_ az),columns_:=x.columns_.off c x.apart,order_:=x.order_.off c (x.order_.ne x.group_ az),args_:=x.args_.off c (x.args_.ne x.group_ az),lgr:=bf,apart:=g},k.grown c x.group_⟩
theorem pL.onE(x:pL m0 m h w co on gr od args v us)(k:Hv m0 m){s:Sl}{p:Int×Int}(c:eF m m' v.on s 101 2 (on.map kY++[kY p]))(d:on.length<=1000000000):pL m0 m' h w co (on++[p]) gr od args {v with on:=s} us/\Hv m0 m':=
 ⟨{x with on_:=by rw[bw];exact x.on_.up c (λb o e=>.inr (k b o e)),columns_:=x.columns_.off c (x.columns_.ne x.on_ az),group_:=x.group_.off c (x.group_.ne x.on_ az),order_:=x.order_.off c (x.order_.ne x.on_ az),args_:=x.args_.off c (x.args_.ne x.on_ az),lon:=bf},k.grown c x.on_⟩
theorem pL.orderE(x:pL m0 m h w co on gr od args v us)(k:Hv m0 m){s:Sl}{p:Int×Bool}(c:eF m m' v.order s 103 2 (od.map sJ++[sJ p]))(d:od.length<2000000000):pL m0 m' h w co on gr (od++[p]) args {v with order:=s} us/\Hv m0 m':=
 ⟨{x with order_:=by rw[bw];exact x.order_.up c (λb o e=>.inr (k b o e)),columns_:=x.columns_.off c (x.columns_.ne x.order_ az),group_:=x.group_.off c (x.group_.ne x.order_ az),on_:=x.on_.off c (x.on_.ne x.order_ az),args_:=x.args_.off c (x.args_.ne x.order_ az),lod:=bf},k.grown c x.order_⟩
theorem qU.snoc{ps:cz}{vs:dn}(x:qU h ps vs){p:Query}{u:QV}(d:cJ h p u):qU h (ps++[p]) (vs++[u]):=by
 induction ps generalizing vs with
 |nil=>obtain rfl:vs=[]:=x;exact⟨u,[],rfl,d,rfl⟩
 |cons q ps e=>
  obtain⟨y,c,rfl,f,g⟩:=x;exact⟨y,c++[u],rfl,f,e g⟩
theorem pL.argsE(x:pL m0 m h w co on gr od args v us)(k:Hv m0 m){s:Sl}{p:Query}{u:QV}(d:cJ h p u)(c:eF m m' v.args s 38 21 (us.map QV.enc++[QV.enc u]))(f:args.length<=1000000000):pL m0 m' h w co on gr od (args++[p]) {v with args:=s} (us++[u])/\Hv m0 m':=
 ⟨{x with args_:=by rw[bw];exact x.args_.up c (λb o e=>.inr (k b o e)),columns_:=x.columns_.off c (x.columns_.ne x.args_ az),group_:=x.group_.off c (x.group_.ne x.args_ az),on_:=x.on_.off c (x.on_.ne x.args_ az),order_:=x.order_.off c (x.order_.ne x.args_ az),rep:=x.rep.snoc d,lar:=bf},k.grown c x.args_⟩
theorem qU.set{ps:cz}{vs:dn}(x:qU h ps vs){p:Query}{u:QV}(f:cJ h p u):qU h (ps.set i p) (vs.set i u):=by
 induction ps generalizing vs i with
 |nil=>have e:vs=[]:=x;subst e;rfl
 |cons q ps g=>
  obtain⟨y,c,rfl,j,d⟩:=x;cases i with
  |zero=>exact⟨u,c,rfl,f,d⟩
  |succ i=>exact⟨y,c.set i u,rfl,j,g d⟩
theorem pL.put(x:pL m0 m h w co on gr od args v us)(k:Hv m0 m)(j:i<args.length):∃b,v.args.a=some ⟨b,0,none⟩/\i<v.args.len/\∃(cs:Array Value)(F:TypeId),E8 m b (.cells cs F (0,0))/\0+i*21+21<=cs.size/\∀q u m',cJ h q u->iP m m' b (.cells ⟨splice cs.toList (0+i*21) (QV.enc u)⟩ F (0,0))->pL m0 m' h w co on gr od (args.set i q) v (us.set i u)/\∀d o,m0 d=some o->m' d=m d:=by
 obtain⟨b,g,n,⟨y,f⟩,cs,F,z,A,B⟩:=x.args_.put (t:=i) (by rw[x.rep.length];exact j);refine⟨b,g,n,cs,F,z,A,λq u m' C c=>⟨{x with columns_:=x.columns_.upd f c az,on_:=x.on_.upd f c az,group_:=x.group_.upd f c az,order_:=x.order_.upd f c az,args_:=B u m' c,rep:=x.rep.set C,lar:=by have:=x.lar;simp;omega},λd o e=>c.other d λD=>?_⟩⟩;rw[D,x.args_.fresh b 0 g]at e;cases e
theorem pL.nums(x:pL m0 m h w co on gr od args v us)(a b c:Int):pL m0 m h w co on gr od args {v with op:=a,table:=b,limit:=c} us:={x with}
theorem pL.wher(x:pL m0 m h w co on gr od args v us){u:PV}(c:dO h p u):pL m0 m h p co on gr od args {v with where_:=u} us:={x with where_:=c}
theorem pL.none(x:pL m0 m h w co on gr od args v us):pL m0 m h w co on gr od [] {v with args:=bR} []:=
 {x with args_:=jE.nil m0 m 38 21,rep:=rfl,lar:=by simp}
end
def Im(q:Query):Prop:=match q with|.mk _ _ w co on gr od _ args=>LU w/\co.length<=1000000000/\on.length<=1000000000/\gr.length<=1000000000/\od.length<=1000000000/\args.length<=1000000000/\∀a∈args,Im a
 termination_by SizeOf.sizeOf q
theorem Ot{op:Int}{w:Pred}{on:cu}{args:cz}:
 Im (.mk op ta w co on gr od li args)↔LU w/\co.length<=1000000000/\on.length<=1000000000/\gr.length<=1000000000/\od.length<=1000000000/\args.length<=1000000000/\∀a∈args,Im a:=by rw[Im.eq_def]
def acQ(b:Bool)(m:MH)(q:Query)(c:QV)(m':MH)(h':PH):Prop:=match b,q with
 |false,q=>cJ h' q c/\m'=m
 |true,.mk op ta w co on gr od li args=>c.op=op/\c.table=ta/\c.limit=li/\(∃us,pL m m' h' w co on gr od args c us)/\∀b o,m b=some o->m' b=some o
def bnX:Vc.Spec:=λc m h K=>∃(b:Bool)(v:QV)(q:Query),c=[aQ v]/\cJ h q v/\(b=true->Im q)/\∀d m' h',PH.le h h'->acQ b m q d m' h'->K (aQ d) m' h'
def cdJ(N:Nat):Vc.Spec:=λc m h K=>∃cb v q,c=[cP cb,aQ v]/\aR m h cb/\cJ h q v/\Im q/\QN q/\SizeOf.sizeOf q<N/\∀d e m' h',PH.le h h'->cJ h' d e->QN d->bE m m' cb->aR m' h' cb->K (aQ e) m' h'
def ceQ:Vc.Spec:=λc m h K=>∃cb v q,c=[cP cb,aQ v]/\aR m h cb/\cJ h q v/\Im q/\QN q/\∀d e m' h',PH.le h h'->cJ h' d e->QN d->bE m m' cb->aR m' h' cb->K (aQ e) m' h'
noncomputable def aUX(v:QV):Ctx:=
 tR [(96,boJ),(49,bnZ)] [(9,{A:=Nat×QV×MH×PH,st:=λ⟨i,w,m,h⟩=>bQ 46 47 [(1,.at (.ptr 1 0)),(2,.at (.ptr 2 0)),(3,.at (.ptr 3 0)),(29,iv v.args.len),(30,iv i)] [(1,.cells 38 (v.enc.map .val)),(2,.cells 38 (pU.enc.map .val)),(3,.cells 38 (w.enc.map .val))] m h})] [] [] [1033,1034,1035,1036] [] false
noncomputable def bIX(N:Nat)(cb:Nat):Ctx:=
 tR [(12,Hu),(13,PJ),(49,bnX),(50,Zc),(51,ceZ),(14,cdJ N)]
  [(25,{A:=Nat×QV×MH×PH,st:=λ⟨i,w,m,h⟩=>bQ 139 141 [(0,pv cb),(3,.at (.ptr 3 0)),(4,.at (.ptr 4 0)),(6,iv i)] [(3,.cells 38 (w.enc.map .val)),(4,.cells 38 (pU.enc.map .val))] m h}),
   (36,{A:=Nat×QV×MH×PH,st:=λ⟨i,w,m,h⟩=>bQ 139 141 [(3,.at (.ptr 3 0)),(4,.at (.ptr 4 0)),(7,iv i)] [(3,.cells 38 (w.enc.map .val)),(4,.cells 38 (pU.enc.map .val))] m h}),
   (8,{A:=Nat×QV×MH×PH,st:=λ⟨i,w,m,h⟩=>bQ 139 141 [(3,.at (.ptr 3 0)),(4,.at (.ptr 4 0)),(8,iv i)] [(3,.cells 38 (w.enc.map .val)),(4,.cells 38 (pU.enc.map .val))] m h})]
  [(6,{A:=QV×MH×PH,st:=λ⟨w,m,h⟩=>bQ 139 141 [(0,pv cb),(3,.at (.ptr 3 0)),(4,.at (.ptr 4 0))] [(3,.cells 38 (w.enc.map .val)),(4,.cells 38 (pU.enc.map .val))] m h}),
   (5,{A:=QV×MH×PH,frz:=true,st:=λ⟨w,m,h⟩=>bQ 139 141 [(3,.at (.ptr 3 0)),(4,.at (.ptr 4 0))] [(3,.cells 38 (w.enc.map .val)),(4,.cells 38 (pU.enc.map .val))] m h}),
   (36,{A:=Nat×QV×MH×PH,frz:=true,st:=λ⟨i,w,m,h⟩=>bQ 139 141 [(3,.at (.ptr 3 0)),(4,.at (.ptr 4 0)),(7,iv i)] [(3,.cells 38 (w.enc.map .val)),(4,.cells 38 (pU.enc.map .val))] m h}),
   (8,{A:=Nat×QV×MH×PH,frz:=true,st:=λ⟨i,w,m,h⟩=>bQ 139 141 [(3,.at (.ptr 3 0)),(4,.at (.ptr 4 0)),(8,iv i)] [(3,.cells 38 (w.enc.map .val)),(4,.cells 38 (pU.enc.map .val))] m h}),
   (39,{A:=QV×MH×PH,frz:=true,st:=λ⟨w,m,h⟩=>bQ 139 141 [(3,.at (.ptr 3 0)),(4,.at (.ptr 4 0))] [(3,.cells 38 (w.enc.map .val)),(4,.cells 38 (pU.enc.map .val))] m h})] [] [1033,1034,1035,1036,100136,100045] [] false
abbrev JF(a:(Nat×QV×MH×PH->Prop)->(Nat×QV×MH×PH)->Prop)(b:(Nat×QV×MH×PH->Prop)->(Nat×QV×MH×PH->Nat)->(Nat×QV×MH×PH)->Prop):Prop:=∃(x:Nat×QV×MH×PH->Prop)(d:Nat×QV×MH×PH->Nat),(∃(c:Nat×QV×MH×PH),a x c)/\∀(c:Nat×QV×MH×PH),b x d c
noncomputable abbrev iY(a:Nat×QV×MH×PH):QV:=a.2.1
noncomputable abbrev kN(a:Nat×QV×MH×PH):Nat->Nat->Option Value:=dX a.2
noncomputable abbrev tC(a:Nat×QV×MH×PH):Nat->Option Obj:=kP a.2
abbrev Of(a:Prop)(b:(Nat×QV×MH×PH)->Prop):Prop:=a->∃(x:Nat×QV×MH×PH),b x
attribute [push_cast] JF iY kN tC Of
def K9(v:QV)(m:MH)(h:PH)(K:cr):Prop:=
  CN (λG s p H=>aA (gZ (jU v.where_) jQ=fZ (jU G) s) (dO h p G) (cF h s H/\Cy h (Fh H p) (λV e=>∃(x:List cn),AZ (dE m oC 3 1 x) (λy=>jI 1 y (oP m e (EL v) 1 y) (nU x y 8) (nP x y) (lE (λJ u=>yZ (eF m u oC J 3 1 (x++y)) (λz=>AZ (dE u oC 101 2 z) (λf=>jI 2 f (oP u e (gJ v.on) 2 f) (nU z f 16) (nP z f) (lE (λL A=>yZ (eF u A oC L 101 2 (z++f)) (λB=>AZ (dE A oC 3 1 B) (λg=>jI 1 g (oP A e (gJ v.group) 1 g) (nU B g 8) (nP B g) (lE (λM C=>yZ (eF A C oC M 3 1 (B++g)) (λD=>AZ (dE C oC 103 2 D) (λj=>jI 2 j (oP C e (gJ v.order) 2 j) (nU D j 16) (nP D j)
 (lE (λO P=>eF C P oC O 103 2 (D++j)->JF (λI c=>aA (I c) eG (aA eK cG (aA (wA v) (bB c.1) (aA (eY v) eH (bO (nN (cQ (fV v.op) (pD v) (pQ V (cQ (vD J) (vD L) (cQ (vD M) (vD O) (lL (fV v.limit) Fq))))) (iY c)) (bH P c.2.2) (e=kN c)))))) (λI Q c=>I c->aX (↑c.1:Int) (aH v.args) (bI (λb o=>aA (bK v.args.a b o) (0<=(↑c.1:Int)) ((↑c.1:Int)<aH v.args/\∃(E:QV),aU (tC c) (kN c) b (bN o c.1 21) E.enc/\qF (λR q=>aA (fP (eC E) (eC R)) (cJ (kN c) q R) (∀(S:QV)(n:PH),cZ (kN c) n (cJ n q S) (FM (aU (tC c) n b (bN o c.1 21) E.enc) (bM n b (bN o c.1 21) E.enc) (λF=>oZ (dE (tC c) (uP (iY c)) 38 21 F)
 F 280 (lE (λT U=>Of (eF (tC c) U (uP (iY c)) T 38 21 (fK F S.enc)) (λd=>aA (I d) (Q d<Q c) (aA eG eK (aA cG (wA v) (aA (bD (gG (bF c.1 1)) d.1) (eY v) (uZ eH (nN (qQ (iY c) (vD T)) (iY d)) (bH U d.2.2) n (kN d))))))))))))))) (K (eC (iY c)) (tC c) (kN c)))))))))))))))))))))
abbrev Nj(a:(QV×MH×PH->Prop)->Prop)(b:(QV×MH×PH->Prop)->(QV×MH×PH)->Prop)(c:(QV×MH×PH)->Prop):Prop:=∃(x:QV×MH×PH->Prop),a x/\∀(d:QV×MH×PH),b x d->c d
abbrev uQ(a b c:Prop):Prop:=aA a cG (aA iS b c)
abbrev Jm(a:MH)(b:QV×MH×PH)(c:QV×MH×PH->Prop)(d:dj):Prop:=yK a (dX b)->∃(x:QV×MH×PH),uQ (c x) (nN d x.1) (aA eH (sZ a (dX b) (kP x) (dX x)) True)
noncomputable abbrev GS(a:QV×MH×PH):dj:=lL (fV a.1.limit) (AW a.1)
abbrev Jl(a:Nat)(b:Nat->Option Obj)(c:Nat->Nat->Option Value)(d:Int->MH->(List cn)->Prop):Prop:=vS a b c (λx f=>∀(e:MH),bE b e x->aR e c x->∃(g:List cn),d f e g)
attribute [push_cast] Nj uQ Jm GS Jl
def VH(N:Nat)(cb:Nat)(v:QV)(m:MH)(h:PH)(K:cr):Prop:=
  ∃(b:Bool),qF (λQ q=>aA (fP (eC v) (eC Q)) (cJ h q Q) ((gI b->Im q)/\∀(B:QV),iB (λJ A=>cZ h A (acQ b m q B J A) (Nj (λI=>eZ (aH B.args) 0 (oD cb 2 J A (λc=>c) (λc r=>∀(j:MH),bE J j c->aR j A c->branch r (iR cb (aH B.args) j A (λk f=>Nj (λI1=>bI (λH o=>aA (bK B.args.a H o) (0<=k) (k<aH B.args/\∃(y:QV),aU f A H (fT o k 21) y.enc/\∃(L:Nat),qF (λD F=>aA (gZ (kB cb) (fM y.enc)=gZ (kB L) (fM D.enc)) (aR f A L) (aA (cJ A F D) (Im F) (aA (QN F) (xE F N) (∀(R:Query)(G:QV),iB (λu z=>cZ A z (cJ z R G) (QN R->bE f u L->mK u z L (bI (λM O=>aA (bK B.args.a M O) (0<=k) (k<aH B.args/\
 j9 (λP E=>aA (E8 u M (kI P E 0)) (fT O k 21+21<=P.size) (∀(C:MH),dQ u C M (xC P (fT O k 21) G.enc) E->yK C z->∃(x:QV×MH×PH),uQ (I1 x) (gU B x.1) (aA eH (sZ C z (kP x) (dX x)) True))))))))))))))) (λI1 x=>I1 x) (λx=>K (eC x.1) (kP x) (dX x)))) (∃(x:QV×MH×PH),aA (I x) (cR cb) (aA cG iS (aA (gU B x.1) eH (aA (bH j x.2) (A=dX x) True)))))) (∃(x:QV×MH×PH),aA (I x) (cR cb) (aA cG iS (aA (gU B x.1) eH (aA (bH J x.2) (A=dX x) True))))) (λI x=>I x) (λx=>Nj (λI=>iR cb 12 (kP x) (dX x) (λk j=>cX (k==0) (vS cb j (dX x) (λc n=>∀(f:MH),bE j f c->aR f (dX x) c->Jm f x I (cQ (fV n) (pD x.1) (sG
 x.1 (tM x.1) x.1.on (wC x.1) (wD x.1) (GS x))))) (k==1) (vS cb j (dX x) (λc n=>∀(f:MH),bE j f c->aR f (dX x) c->Jm f x I (cQ (fV x.1.op) (fV n) (sG x.1 (tM x.1) x.1.on (wC x.1) (wD x.1) (GS x))))) (cX (k==2) (∃(c:Nat),pE (λD p=>aA (gZ (kB cb) (fM x.1.where_.enc)=gZ (kB c) (fM D.enc)) (aR j (dX x) c) (aA (dO (dX x) p D) (LU p) (uU p/\∀(S:Pred)(G:PV),iB (λf z=>cZ (dX x) z (dO z S G) (uU S->bE j f c->aR f z c->yK f z->∃(d:QV×MH×PH),uQ (I d) (nN (cQ (fV x.1.op) (pD x.1) (pQ G (cQ (tM x.1) (vD x.1.on) (cQ (wC x.1) (wD x.1) (GS x))))) d.1) (aA eH (sZ f z (kP d) (dX d)) True))))))) (k==3) (Jl cb j (dX x)
 (λn f d=>oZ (dE f (EL x.1) 3 1 d) d 8 (∀(s:Sl)(u:MH),eF f u (EL x.1) s 3 1 (fK d (bG n))->yK u (dX x)->∃(e:QV×MH×PH),uQ (I e) (nN (cQ (fV x.1.op) (pD x.1) (sG x.1 (vD s) x.1.on (wC x.1) (wD x.1) (GS x))) e.1) (aA eH (sZ u (dX x) (kP e) (dX e)) True)))) (cX (k==4) (vS cb j (dX x) (λc n=>∀(f:MH),bE j f c->aR f (dX x) c->Jl cb f (dX x) (λU u d=>oZ (dE u (gJ x.1.on) 101 2 d) d 16 (∀(s:Sl)(C:MH),eF u C (gJ x.1.on) s 101 2 (fK d (AV n U))->yK C (dX x)->∃(e:QV×MH×PH),uQ (I e) (nN (cQ (fV x.1.op) (pD x.1) (sG x.1 (tM x.1) s (wC x.1) (wD x.1) (GS x))) e.1) (aA eH (sZ C (dX x) (kP e) (dX
 e)) True))))) (k==5) (Jl cb j (dX x) (λn f d=>oZ (dE f (gJ x.1.group) 3 1 d) d 8 (∀(s:Sl)(u:MH),eF f u (gJ x.1.group) s 3 1 (fK d (bG n))->yK u (dX x)->∃(e:QV×MH×PH),uQ (I e) (nN (cQ (fV x.1.op) (pD x.1) (sG x.1 (tM x.1) x.1.on (vD s) (wD x.1) (lL (fV x.1.limit) (AW x.1)))) e.1) (aA eH (sZ u (dX x) (kP e) (dX e)) True)))) (cX (k==6) (iR cb 2 j (dX x) (λV f=>JF (λI1 d=>aA (I1 d) (cR cb) (aA cG iS (aA (bD (gG (fI (1+fI (12*V)))) d.1) (gU x.1 (iY d)) (aA eH (bH f d.2.2) (bL (dX x) (kN d)))))) (λI1 u d=>I1 d->eZ (↑d.1:Int) 0 (Jl cb (tC d) (kN d) (λn C e=>oZ (dE C (gJ (iY d).order) 103 2 e) e 16
 (lE (λs T=>Of (eF C T (gJ (iY d).order) s 103 2 (fK e (rL (eN n) tO))) (λg=>aA (I1 g) (u g<u d) (aA (cR cb) cG (aA iS (bD (gG (fI ((↑d.1:Int)-1))) g.1) (aA (nN (cQ (fV (iY d).op) (pD (iY d)) (sG (iY d) (tM (iY d)) (iY d).on (wC (iY d)) (vD s) (lL (fV (iY d).limit) (AW (iY d))))) (iY g)) eH (bP (bH T g.2.2) (kN d) (kN g)))))))))) (yK (tC d) (kN d)->∃(e:QV×MH×PH),uQ (I e) (gU (iY d) e.1) (aA eH (sZ (tC d) (kN d) (kP e) (dX e)) True))))) (k==7) (vS cb j (dX x) (λc n=>∀(f:MH),bE j f c->aR f (dX x) c->Jm f x I (cQ (fV x.1.op) (pD x.1) (sG x.1 (tM x.1) x.1.on (wC x.1) (wD
 x.1) (lL (fV n) (AW x.1)))))) (cX (k==8) (∃(d:List cn),oZ (dE j (uP x.1) 38 21 d) d 280 (∀(s:Sl)(f:MH),eF j f (uP x.1) s 38 21 (fK d (Ni 1))->yK f (dX x)->∃(e:QV×MH×PH),uQ (I e) (nN (qQ x.1 (vD s)) e.1) (aA eH (sZ f (dX x) (kP e) (dX e)) True))) (k==9) (Jm j x I (qQ x.1 Fq)) (dW k 10 (∃(I1:Nat×QV×MH×PH->Prop),Of (yK j (dX x)) (λd=>uQ (I1 d) (bB d.1) (bO (gU x.1 (iY d)) eH (sZ j (dX x) (kP d.2) (kN d))))/\∀(d:Nat×QV×MH×PH),I1 d->JF (λI2 e=>aA (I2 e) cG (aA iS (cO d.1 e.1) (aA (gU (iY d) (iY e)) eH (aA (bH (tC d) e.2.2) (kN d=kN e) True)))) (λI2 f e=>I2 e->aX (↑e.1:Int) 8
 (bU (kN e) 21 (jV (iY e).enc (Ni 1)) (λs z=>∃(g:Nat×QV×MH×PH),aA (I2 g) (f g<f e) (aA cG iS (aA (bD (gG (bF e.1 1)) g.1) (nN (cQ (fV 6) fD (cQ (fV 0) fD (GU 0 (nL (vD s))))) (iY g)) (aA eH (bH (tC e) g.2.2) (bL z (kN g))))))) (yK (tC e) (kN e)->∃(g:QV×MH×PH),uQ (I g) (gU (iY e) g.1) (aA eH (sZ (tC e) (kN e) (kP g) (dX g)) True)))) (∃(I1:Nat×QV×MH×PH->Prop),Of (yK j (dX x)) (λd=>uQ (I1 d) (bB d.1) (bO (gU x.1 (iY d)) eH (sZ j (dX x) (kP d.2) (kN d))))/\∀(d:Nat×QV×MH×PH),I1 d->JF (λI2 e=>aA (I2 e) cG (aA iS (cO d.1 e.1) (aA (gU (iY d) (iY e)) eH (aA (bH
 (tC d) e.2.2) (kN d=kN e) True)))) (λI2 f e=>I2 e->aX (↑e.1:Int) 4 (∃(H:Bool),qF (λD F=>aA (fP (eC (iY e)) (eC D)) (cJ (kN e) F D) ((gI H->Im F)/\∀(G:QV),iB (λu z=>cZ (kN e) z (acQ H (tC e) F G u z) (bU z 21 (jV (iY e).enc G.enc) (λs W=>∃(g:Nat×QV×MH×PH),aA (I2 g) (f g<f e) (aA cG iS (aA (bD (gG (bF e.1 1)) g.1) (nN (cQ (fV 6) fD (cQ (fV 0) fD (GU 0 (nL (vD s))))) (iY g)) (aA eH (bH u g.2.2) (bL W (kN g))))))))))) (yK (tC e) (kN e)->∃(g:QV×MH×PH),uQ (I g) (gU (iY e) g.1) (aA eH (sZ (tC e) (kN e) (kP g) (dX g)) True))))))))))) (λI d=>I d) (λd=>K (eC d.1) (kP d)
 (dX d)))))))
def Kp(m m':MH):Prop:=∀b o,m b=some o->m' b=some o
theorem Kp.held(k:Kp m m'):Hv m m':=λb o e=>⟨o,k b o e⟩
theorem Kp.grown{c:MH}{s d:Sl}{E:TypeId}{f:List cn}(k:Kp m c)(x:eF c m' s d E sz f)(r:jE m c s E sz xs):Kp m m':=λb o e=>x.other b o (k b o e) λi g=>by rw[r.fresh b i g]at e;cases e
theorem bAX{op:Int}{w:Pred}{on:cu}{args:cz}(x:pJ h op ta w co on gr od li args v)(hl:Im (.mk op ta w co on gr od li args))
 (hK:∀f us m' h',PH.le h h'->f.op=op->f.table=ta->f.limit=li->pL m m' h' w co on gr od args f us->(∀b o,m b=some o->m' b=some o)->K (aQ f) m' h'):K9 v m h K:=by
 dsimp only[K9,push_cast];obtain⟨_,l1,l2,l3,l4,l5,_⟩:=Ot.1 hl;have R:=x.args_.slen;refine⟨v.where_,⟨none,0,0⟩,w,[],rfl,x.where_,.nil _ _ _ _,λwv S c hw=>⟨[],dE.nil _ _ _,_,qL co,.imm (x.columns_.mono c).row,bf,bf,λs1 m1 T=>⟨[],dE.nil _ _ _,_,DQ on,.imm (x.on_.mono c).row,bf,bf,λs2 m2 L=>⟨[],dE.nil _ _ _,_,qL gr,.imm (x.group_.mono c).row,bf,bf,λs3 m3 B=>⟨[],dE.nil _ _ _,_,DP od,.imm (x.order_.mono c).row,bf,bf,λs4 M C=>?_⟩⟩⟩⟩⟩;rw[LP]at hw;rw[nil_append]at T L B C;have D:Kp m m:=λ_ _ e=>e;have k1:Kp m m1:=D.grown T (jE.nil m m 3 1);have k2:Kp m m2:=k1.grown L (jE.nil m m1 101 2);have k3:Kp m m3:=k2.grown B (jE.nil m m2 3 1);have k4:Kp m M:=k3.grown C (jE.nil m m3 103 2);have up:∀{n F:MH}{s:Sl}{E:TypeId}{sz:Nat}{O:List cn},Kp m n->eF n F bR s E sz O->jE m F s E sz O:=λk g=>(jE.nil m _ _ _).up g λb o e=>.inr (k.held b o e);have of:∀{n F:MH}{s t:Sl}{E E':TypeId}{sz U:Nat}{xs O:List cn},jE m n s E sz xs->eF n F bR t E' U O->jE m F s E sz xs:=λr g=>r.off g λ_ _ _ _ e=>by cases e
 have c1:=up D T;have c2:=of c1 L
 have G:pL m M S w co on gr od [] ⟨v.op,v.table,wv,s1,s2,s3,s4,v.limit,bR⟩ []:=
  {where_:=hw,columns_:=of (of c2 B) C,on_:=of (of (up k1 L) B) C,group_:=of (up k2 B) C,order_:=up k3 C,args_:=jE.nil m M 38 21,rep:=rfl,lco:=aD,lon:=aD,lgr:=aD,lod:=aD,lar:=ay,
   apart:=λb i j e H=>(by
    obtain⟨a1,h2⟩:=dE.blk c2.row e;rcases B.fresh b j H with P|⟨_,P⟩
    .rw[h2]at P;cases P
    .cases P)}
 refine⟨λz=>z.1<=args.length/\∃us,pL m z.2.2.1 z.2.2.2 w co on gr od (args.take z.1) z.2.1 us/\Kp m z.2.2.1/\PH.le S z.2.2.2/\z.2.1.op=op/\z.2.1.table=ta/\z.2.1.limit=li,λz=>args.length-z.1,⟨(0,_,M,S),⟨ay,[],G,k4,.refl _,x.op_,x.table_,x.limit_⟩,MT⟩,?_⟩;rintro⟨i,u,n,hx⟩ ⟨hi,us,A,Q,lex,V,H,W⟩;dsimp only at hi A Q lex V H W⊢
 have X:=A.rep.length;rw[length_take]at X;refine aF (λI=>?_) (λa2=>?_)
 .obtain⟨q,Y⟩:=eU R I;have a3:=(bm Y);obtain⟨b1,o1,y,ey,Z,a'⟩:=(x.args_.mono (c.trans lex)).at Y;refine⟨b1,o1,ey,aD,I,y,.imm Z,y,q,rfl,a',λf h' d a0=>⟨.imm (Z.mono d),Z.mono d,us.map QV.enc,A.args_.row,bd,bd,λs' m' hg=>?_⟩⟩;rw[kR aD];have J:=(A.mono d).argsE Q.held a0 hg bf;rw[show args.take i++[q]=args.take (i+1)by rw[cd,Y];rfl]at J;exact⟨(i+1,{u with args:=s'},m',h'),⟨bj,us++[f],J.1,Q.grown hg A.args_,lex.trans d,V,H,W⟩,bi,MT⟩
 .rw[bu aD]at A;exact hK u us n hx (c.trans lex) V H W A Q
theorem W9:cm 49 bnX:=by
 have n:cm 49 (λc m h K=>∃v q,c=[aQ v]/\cJ h q v/\Im q/\∀d m' h',PH.le h h'->acQ true m q d m' h'->K (aQ d) m' h'):=by
  refine iH func49 ?_;rintro c m h K ⟨v,q,rfl,f,j,g⟩;obtain⟨op,ta,w,co,on,gr,od,li,args⟩:=q;refine⟨aUX v,rfl,aE QE (aE QO aG),K9 v m h K,ax,?_⟩;exact bAX f.parts j λd us m' h' le x y z A k=>g d m' h' le ⟨x,y,z,⟨us,A⟩,k⟩
 refine⟨n.1,λc o m h w K B u=>?_⟩;obtain⟨b,v,q,e,f,j,g⟩:=B;cases b with
 |true=>exact n.2 c o m h w K ⟨v,q,e,f,j rfl,g⟩ u
 |false=>exact QO.2 c o m h w K ⟨v,q,e,f,λd h' le r=>g d m h' le ⟨r,rfl⟩⟩ u
theorem Zs:uU eJ:=⟨wP,wP,trivial⟩
theorem aHJ(t:Int):QN (.mk 1 t eJ [] [] [] [] 0 []):=HP.2 ⟨Zs,λ_ h=>by cases h⟩
theorem aKQ{q p:Query}(c:QN q)(d:QN p):QN (.mk 6 0 eJ [] [] [] [] 0 [q,p]):=HP.2 ⟨Zs,λa h=>by
 simp at h;rcases h with rfl|rfl
 .exact c
 .exact d⟩
theorem OD(m:MH)(h:PH):sZ m h m h:=⟨λ_ _ e=>e,.refl _,λ_ _ _ e=>.inl e⟩
theorem Uw{q p:Query}{w u:QV}{s:Sl}(c:cJ h q w)(d:cJ h p u)(le:PH.le h h')(rs:cC h' s 21 [QV.enc w,QV.enc u]):cJ h' (.mk 6 0 eJ [] [] [] [] 0 [q,p]) ⟨6,0,fS,bR,bR,bR,bR,0,s⟩:=
 ⟨rfl,rfl,⟨rfl,rfl,rfl,rfl,ay,[],cC.nil _ _,rfl⟩,⟨cC.nil _ _,ay⟩,⟨cC.nil _ _,ay⟩,⟨cC.nil _ _,ay⟩,⟨cC.nil _ _,ay⟩,rfl,ay,[w,u],rs,w,[u],rfl,c.mono le,u,[],rfl,d.mono le,rfl⟩
theorem Z1:∀N,cm 14 (cdJ N)
 |0=>by
  refine eD (fn:=Tryz.f14) (c:=cA Tryz.f14) func14 rfl az ?_;rintro a2 m h K ⟨cb,v,q,rfl,_,_,_,_,hN,_⟩;omega
 |N+1=>by
  refine iH func14 ?_;rintro a2 m h K ⟨cb,v,q,rfl,hc,hr,hl,a3,hN,hK⟩;refine⟨bIX N cb,rfl,aE H2 (aE BN (aE W9 (aE ak (aE aw (aE (Z1 N) aG))))),VH N cb v m h K,ax,?_⟩;dsimp only[VH,push_cast];have a':=@vF q;obtain⟨op,ta,w,co,on,gr,od,li,args⟩:=q;obtain⟨lw,l1,l2,l3,l4,l5,lq⟩:=Ot.1 hl;obtain⟨O,P⟩:=HP.1 a3;refine⟨true,v,_,rfl,hr,λ_=>hl,λA m1 j C Q=>?_⟩;obtain⟨e1,e2,e3,⟨us,hn⟩,kp⟩:=Q;obtain⟨b1,X⟩:=hc.blk;have a4:m cb≠none:=by rw[X];simp
  have c1:aR m1 j cb:=hc.keep (by rw[X];exact kp cb _ X) C;have k1:Kept m m1 cb:=λb o e _=>kp b o e;have b3:=hn.rep.length;have b4:A.args.len=args.length:=by have:=dE.slen hn.args_.row;simp at this;omega
  have fin:∀{D:MH}{H:PH}{w:Pred}{co gr:cq}{on:cu}{od:cv}{args:cz}{u:QV}{us:dn},pL m D H w co on gr od args u us->uU w->(∀a∈args,QN a)->Kept m D cb->aR D H cb->PH.le h H->yK D H->(∃f,cJ (oN m D H) f u/\QN f)/\bE m (lN m D) cb/\aR (lN m D) (oN m D H) cb/\PH.le h (oN m D H):=λx pn an k c le d=>⟨⟨_,x.ice d,HP.2 ⟨pn,an⟩⟩,keep_other k,Qx c a4 d,le.trans (zE d)⟩
  refine⟨λz=>A=z.1/\j=z.2.2/\pL m z.2.1 j w co on gr od args A us/\Kept m z.2.1 cb/\aR z.2.1 j cb,aF (λa0=>⟨cb,2,rfl,aD,aD,c1,λr m2 o2 c2=>aC (λ_=>?_) (λ_=>⟨(A,m2,j),⟨rfl,rfl,hn.move o2 c1,k1.on o2,c2⟩,MT⟩)⟩) (λ_=>⟨(A,m1,j),⟨rfl,rfl,hn,k1,c1⟩,MT⟩),?_⟩
  .have n2:=hn.move o2 c1;have R:=k1.on o2;refine⟨cb,_,rfl,c2,λk Z k0 kn o3 G=>?_⟩;have J:=n2.move o3 c2;have M:=R.on o3;have hk:k.toNat<args.length:=by omega
   obtain⟨a,ha⟩:∃a,args[k.toNat]? =some a:=⟨_,bo hk⟩
   have hm:=br ha;have:=a' (q:=a) hm;obtain⟨u,hu,ru⟩:=J.rep.get ha;obtain⟨b,eb,rd⟩:=dE.rd (h:=j) J.args_.row (i:=k.toNat) (e:=QV.enc u) (by rw[getElem?_map,hu];rfl);refine⟨λz=>(∃f,cJ z.2.2 f z.1/\QN f)/\bE m z.2.1 cb/\aR z.2.1 z.2.2 cb/\PH.le h z.2.2,⟨b,0,eb,k0,aD,u,by rw[Nat.zero_add];exact rd,cb,u,a,rfl,G,ru,lq a hm,P a hm,aD,λf v' g h4 y r4 a5 B E=>?_⟩,?_⟩
   .have S:=(J.mono y).move B G;have k4:=M.on B;obtain⟨b2,a6,b0,cs,F,ma,a7,put⟩:=S.put (k4.held E) (i:=k.toNat) hk;refine⟨b2,0,a6,k0,aD,cs,F,ma,a7,λT hu d=>?_⟩;obtain⟨U,V⟩:=put f v' T r4 hu;exact⟨(A,lN m T,oN m T h4),fin U O (λb hb=>(mem_or_eq_of_mem_set hb).elim (P b) (λe=>e▸a5)) (λb' o e ne=>by rw[V b' o e];exact k4 b' o e ne) (E.keep (V cb _ X) (.refl _)) (C.trans y) d,FT⟩
   .rintro⟨u,D,H⟩ ⟨⟨f,L,W⟩,o,c,le⟩;exact hK f u D H le L W o c
  .rintro⟨_,m2,_⟩ ⟨rfl,rfl,n2,R,c2⟩;dsimp only at n2 R c2⊢
   refine⟨λz=>(∃f,cJ z.2.2 f z.1/\QN f)/\bE m z.2.1 cb/\aR z.2.1 z.2.2 cb/\PH.le h z.2.2,⟨cb,12,rfl,c2,λk Z k0 kn o3 G=>?_⟩,?_⟩
   .have J:=n2.move o3 c2;have M:=R.on o3;have num:∀(a b c:Int){g:MH}(_:bE Z g cb)(_:aR g j cb)(d:yK g j),(∃f,cJ (oN m g j) f {A with op:=a,table:=b,limit:=c}/\QN f)/\bE m (lN m g) cb/\aR (lN m g) (oN m g j) cb/\PH.le h (oN m g j):=λa b c _ B E d=>fin ((J.move B G).nums a b c) O P (M.on B) E C d;refine aC (λ_=>⟨cb,rfl,G,λn g B E d=>⟨({A with op:=n},lN m g,oN m g j),num n A.table A.limit B E d,FT⟩⟩) (λ_=>?_);refine aC (λ_=>⟨cb,rfl,G,λn g B E d=>⟨({A with table:=n},lN m g,oN m g j),num A.op n A.limit B E d,FT⟩⟩) (λ_=>?_);refine aC (λ_=>⟨cb,A.where_,w,rfl,G,J.where_,lw,O,λp' w' g h4 y r4 a8 B E d=>⟨({A with where_:=w'},lN m g,oN m g h4),fin (((J.mono y).move B G).wher r4) a8 P (M.on B) E (C.trans y) d,FT⟩⟩) (λ_=>?_);refine aC (λ_=>⟨cb,rfl,G,λn g B E=>?_⟩) (λ_=>?_)
    .have S:=J.move B G;have k4:=M.on B;exact⟨_,S.columns_.row,bf,bf,λs T I d=>⟨({A with columns:=s},lN m T,oN m T j),fin (S.columns (k4.held E) I l1).1 O P (k4.grown S.columns_ I) (E.keep (eF.at_cb I S.columns_ E az) (.refl _)) C d,FT⟩⟩
    refine aC (λ_=>⟨cb,rfl,G,λn g B E=>⟨cb,rfl,E,λn2 T o5 c5=>?_⟩⟩) (λ_=>?_)
    .have U:=(J.move B G).move o5 E;have k5:=(M.on B).on o5;exact⟨_,U.on_.row,bf,bf,λs m6 I d=>⟨({A with on:=s},lN m m6,oN m m6 j),fin (U.onE (p:=(n,n2)) (k5.held c5) I l2).1 O P (k5.grown U.on_ I) (c5.keep (eF.at_cb I U.on_ c5 az) (.refl _)) C d,FT⟩⟩
    refine aC (λ_=>⟨cb,rfl,G,λn g B E=>?_⟩) (λ_=>?_)
    .have S:=J.move B G;have k4:=M.on B;exact⟨_,S.group_.row,bf,bf,λs T I d=>⟨({A with group:=s},lN m T,oN m T j),fin (S.group (k4.held E) I l3).1 O P (k4.grown S.group_ I) (E.keep (eF.at_cb I S.group_ E az) (.refl _)) C d,FT⟩⟩
    refine aC (λ_=>⟨cb,2,rfl,G,λR g k0 kn B E=>?_⟩) (λ_=>?_)
    .have ek:IntKind.i64.wrap (1+IntKind.i64.wrap (12*R))=(((1+12*R).toNat:Nat):Int):=by
      rw[dY (n:=12*R) aD aD,dY aD aD];omega
     rw[ek];refine⟨λz=>z.1<=13/\j=z.2.2.2/\∃Y,pL m z.2.2.1 j w co on gr Y args z.2.1 us/\Kept m z.2.2.1 cb/\aR z.2.2.1 j cb/\Y.length+z.1<=1000000013,λz=>z.1,⟨((1+12*R).toNat,A,g,j),⟨by show(1+12*R).toNat<=13;omega,rfl,od,J.move B G,M.on B,E,bj⟩,MT⟩,?_⟩;rintro⟨i,u,D,_⟩ ⟨hi,rfl,Y,nx,kx,cx,a9⟩;dsimp only at hi nx kx cx a9⊢
     refine aF (λa0=>⟨cb,rfl,cx,λn T o5 c5=>?_⟩) (λ_ d=>⟨(u,lN m D,oN m D j),fin nx O P kx cx C d,FT⟩);have U:=nx.move o5 cx;have k5:=kx.on o5
     have hw:IntKind.i64.wrap ((i:Int)-1)=((i-1:Nat):Int):=by
      rw[show(i:Int)-1=((i-1:Nat):Int)by omega];exact dY aD aD
     rw[hw];refine⟨_,U.order_.row,bf,bf,λs m6 I=>⟨(i-1,{u with order:=s},m6,j),⟨bj,rfl,Y++[(n,false)],(U.orderE (p:=(n,false)) (k5.held c5) I aD).1,k5.grown U.order_ I,c5.keep (eF.at_cb I U.order_ c5 az) (.refl _),bf⟩,bj,MT⟩⟩
    refine aC (λ_=>⟨cb,rfl,G,λn g B E d=>⟨({A with limit:=n},lN m g,oN m g j),num A.op A.table n B E d,FT⟩⟩) (λ_=>?_);refine aC (λ_=>?_) (λ_=>?_)
    .exact⟨_,J.args_.row,bf,bf,λs g I d=>⟨({A with args:=s},lN m g,oN m g j),fin (J.argsE (u:=⟨1,0,fS,bR,bR,bR,bR,0,bR⟩) (M.held G) (Ay j 0) I l5).1 O (λb hb=>(mem_append.1 hb).elim (P b) (λe=>(mem_singleton.1 e)▸aHJ 0)) (M.grown J.args_ I) (G.keep (eF.at_cb I J.args_ G az) (.refl _)) C d,FT⟩⟩
    refine aC (λ_ d=>⟨({A with args:=bR},lN m Z,oN m Z j),fin J.none O (λ_ h=>by cases h) M G C d,FT⟩) (λ_=>?_);refine aC (λ_=>?_) (λ_=>?_)
    .refine⟨λz=>z.1=0/\(∃f,cJ z.2.2.2 f z.2.1/\QN f)/\bE m z.2.2.1 cb/\aR z.2.2.1 z.2.2.2 cb/\PH.le h z.2.2.2,λd=>⟨(0,A,lN m Z,oN m Z j),⟨rfl,fin J O P M G C d⟩,FT⟩,?_⟩;rintro⟨_,u,D,H⟩ ⟨rfl,L,o,c,le⟩;refine⟨λz=>z.1<=8/\(∃f,cJ z.2.2.2 f z.2.1/\QN f)/\bE m z.2.2.1 cb/\aR z.2.2.1 z.2.2.2 cb/\PH.le h z.2.2.2,λz=>8-z.1,⟨(0,u,D,H),⟨ay,L,o,c,le⟩,MT⟩,?_⟩;rintro⟨i,u,D,H⟩ ⟨hi,⟨f,L,W⟩,o,c,le⟩;dsimp only at hi L o c le⊢
     refine aF (λa0=>λs h4 y rs=>?_) (λ_ d=>⟨(u,D,H),⟨⟨f,L,W⟩,o,c,le⟩,by repeat' (first|exact OD _ _|exact trivial|refine⟨?_,?_⟩|rfl)⟩);rw[kR aD];exact⟨(i+1,_,D,h4),⟨bj,⟨_,Uw L (Ay H 0) y rs,aKQ W (aHJ 0)⟩,o,c.mono y,le.trans y⟩,bi,MT⟩
    .refine⟨λz=>z.1=0/\(∃f,cJ z.2.2.2 f z.2.1/\QN f)/\bE m z.2.2.1 cb/\aR z.2.2.1 z.2.2.2 cb/\PH.le h z.2.2.2,λd=>⟨(0,A,lN m Z,oN m Z j),⟨rfl,fin J O P M G C d⟩,FT⟩,?_⟩;rintro⟨_,u,D,H⟩ ⟨rfl,L,o,c,le⟩;refine⟨λz=>z.1<=4/\(∃f,cJ z.2.2.2 f z.2.1/\QN f)/\bE m z.2.2.1 cb/\aR z.2.2.1 z.2.2.2 cb/\PH.le h z.2.2.2,λz=>4-z.1,⟨(0,u,D,H),⟨ay,L,o,c,le⟩,MT⟩,?_⟩;rintro⟨i,u,D,H⟩ ⟨hi,⟨f,L,W⟩,o,c,le⟩;dsimp only at hi L o c le⊢
     refine aF (λa0=>⟨false,u,f,rfl,L,λe=>(by cases e),λv2 g h3 a1 Q s h4 y rs=>?_⟩) (λ_ d=>⟨(u,D,H),⟨⟨f,L,W⟩,o,c,le⟩,by repeat' (first|exact OD _ _|exact trivial|refine⟨?_,?_⟩|rfl)⟩);obtain⟨r2,rfl⟩:=Q;rw[kR aD];exact⟨(i+1,_,_,h4),⟨bj,⟨_,Uw (L.mono a1) r2 y rs,aKQ W W⟩,o,(c.mono a1).mono y,(le.trans a1).trans y⟩,bi,MT⟩
   .rintro⟨u,D,H⟩ ⟨⟨f,L,W⟩,o,c,le⟩;exact hK f u D H le L W o c
theorem ayZ:cm 14 ceQ:=iQ Z1 λ_ _ _ _⟨cb,v,q,e,c,d,f,g,j⟩=>⟨SizeOf.sizeOf q+1,cb,v,q,e,c,d,f,g,aD,j⟩
theorem fU.new(c:fU m)(f:m cb=none)(o:bE m m' cb):fU m':=by
 obtain⟨T,d,e⟩:=c;refine⟨T,d,?_⟩;rw[o.other 1 (λg=>bg)];exact e
theorem UI:∀q:Query,zH q->Wr q->Im q
 |.mk op ta w co on gr od li args,h,a=>by
  rw[zH.eq_def]at h;rw[Wr.eq_def]at a;obtain⟨k,d⟩:=h;obtain⟨f,e⟩:=a;have:arity op<=2:=by unfold arity;repeat' split<;>omega
  exact Ot.2 ⟨k.wher,k.columns,k.on,k.group,k.order,aD,λb c=>UI b (d b c) (e b c)⟩
 termination_by q=>SizeOf.sizeOf q
 decreasing_by
  have:=sizeOf_lt_of_mem c;simp only[Query.mk.sizeOf_spec];omega
theorem btJ{q:Query}(h:(dU s ps q).2=0):Im q:=by
 have:=Dw q (FD h).2.2.2;exact UI q this.1 this.2
def Sp:Vc.Spec:=λc m h K=>∃sc v s q,c=[aS sc,aQ v]/\iA h s sc/\cJ h q v/\fU m/\Gf s q/\∀p r h',PH.le h h'->((dU s [] q).2=0->lR h' p r (i7 s q).1 (i7 s q).2)->((dU s [] q).2≠0->p=bR/\r=bR)->K (.tup [aPl p r,cI (dU s [] q).2]) m h'
theorem Xc:cm 36 Sp:=Gm QS λ_ m h K⟨sc,v,s,q,e,f,g,j,n,d⟩=>⟨sc,v,s,q,e,f,g,j,n,λc=>d _ _ h (.refl _) (λe=>(c e).elim) (λ_=>⟨rfl,rfl⟩),λc p r h' le o=>by have:=d p r h' le (λ_=>o) (λe=>(e c).elim);rw[c]at this;exact this⟩
noncomputable def b4X:Ctx:=
 dD [(8,cfJ),(9,biZ),(10,Zh 1000),(14,ceQ),(36,Sp),(37,wR),(38,Ij),(32,bpX)]
  [(5,{A:=Nat×bW×QV×QV×QV×MH×PH,st:=λ⟨i,sc,a,b,c,m,h⟩=>bQ 75 77 [(6,.at (.ptr 6 0)),(28,.at (.lst 28)),(29,iv 3),(30,iv i)] [(6,.cells 43 (sc.enc.map .val)),(28,.lst 38 21 [QV.enc a,QV.enc b,QV.enc c])] m h})] [] [] false
noncomputable abbrev FJ(a:Nat×bW×QV×QV×QV×MH×PH):bW:=a.2.1
noncomputable abbrev JM(a:Nat×bW×QV×QV×QV×MH×PH):List cn:=a.2.2.1.enc::jV a.2.2.2.1.enc a.2.2.2.2.1.enc
noncomputable abbrev EJ(a:Nat×bW×QV×QV×QV×MH×PH):Nat->Nat->Option Value:=dX a.2.2.2.2
noncomputable abbrev BC(a:Nat×bW×QV×QV×QV×MH×PH):Nat->Option Obj:=kP a.2.2.2.2
abbrev Jo(a:Nat×bW×QV×QV×QV×MH×PH->Prop)(b:Nat×bW×QV×QV×QV×MH×PH->Nat)(c:Nat×bW×QV×QV×QV×MH×PH)(d:(Nat×bW×QV×QV×QV×MH×PH)->Prop)(e:PH):Prop:=∃(x:Nat×bW×QV×QV×QV×MH×PH),aA (a x) (b x<b c) (aA (eP 6) (eL 28) (aA pO (bD (gG (bF c.1 1)) x.1) (aA (uE (FJ c) (FJ x)) (d x) (bP (bH (BC c) x.2.2.2.2.2) e (EJ x)))))
abbrev Jn(a b:Nat×bW×QV×QV×QV×MH×PH):Prop:=Option.some (Own.lst 38 21 (JM a))=Option.some (Own.lst 38 21 (JM b))
attribute [push_cast] FJ JM EJ BC Jo Jn
def Tp(s:Sl)(v:QV)(m:MH)(h:PH)(K:cr):Prop:=
  ∃(F:Sl)(c:di)(Y:Nat),aA (hX s 200=hX F (↑Y:Int)) (cC h F 1 (bA c)) (aA (F.len<=F.cap) (lY Y) (∀(u:Nat),iB (λG H=>cZ h H (m u=Option.none) (bE m G u->aR G H u->Jp u G H (λZ=>∀(s2:jB)(U:bW),iB (λJ n=>Py s2->iA n s2 U->cZ H n (bE G J Z) (mK J n Z (∃(L:Nat),D2 (λs3 p=>HB (λM O=>∃(d:Int),aA (dA u (cE (cD U) (bC jQ 3))=dA L (cE (cD s3) (hX p d))) (aR J n L) (aA (iA n M s3) (dH M=0) (aA (wB (M.tables=[])) (Ints n p O) (aA (fO O) (gI (Dc O)) (aA (Int.negSucc 0<=d) (d<=1000) ((d+1).toNat<1000/\GF n (λw q P Q=>QW q->Dn d.toNat q->(dU M O q).2=0->bE J P L->mK P Q L (∃
 (R:Nat),qF (λv2 V=>aA (gZ (kB u) (fM w.enc)=gZ (kB R) (fM v2.enc)) (aR P Q R) (aA (cJ Q V v2) (Im V) (QN V/\∀(q2:Query)(v3:QV),iB (λW S=>cZ Q S (cJ S q2 v3) (QN q2->bE P W R->mK W S R (∃(I:Nat×bW×QV×QV×QV×MH×PH->Prop)(T:Nat×bW×QV×QV×QV×MH×PH->Nat),(∃(x:Nat×bW×QV×QV×QV×MH×PH),aA (I x) (eP 6) (aA (eL 28) pO (aA (bB x.1) (uE U (FJ x)) (aA (Option.some (Own.lst 38 21 (w.enc::jV v3.enc v.enc))=Option.some (Own.lst 38 21 (JM x))) (bH W x.2.2.2.2.2) (bL S (EJ x))))))/\∀(x:Nat×bW×QV×QV×QV×MH×PH),I x->aX (↑x.1:Int) 3 (rW (↑x.1:Int) ((↑x.1:Int)<3) (λe=>mI (JM x) (↑x.1:Int) e/\∃(y:QV),pN 21 e y.enc/\Nk (λs5 v4 g j=>aA
 (fW (cD (FJ x)) y.enc=fW (cD s5) v4.enc) (iA (EJ x) g s5) (aA (cJ (EJ x) j v4) (fU (BC x)) (Gf g j/\∀(z:Sl),jJ (λr X=>cZ (EJ x) X (xG g j=0->lR X z r (i7 g j).1 (i7 g j).2) ((wB (xG g j=0)->z=oC/\r=oC)->Ec (cE (cD (FJ x)) (gZ jQ (fM y.enc))) X (λs7 p3 q4 _ f=>cX (xG g j !=(dU s7 p3 q4).2) (K aZ (BC x) f) (xG g j !=0) (cX (decide (fI (aH z+aH r)>0)) (K aZ (BC x) f) (xG g j==0) (∃(A:bW),nA (λB C=>∃(D:jB),FI (λt E=>aA (fW (cD (FJ x)) (rV z r)=fW (cD A) (rV B C)) (iA f D A) (lR f B C t E/\∀(_:Sl),dC (gH D t E) 0 (K aZ (BC x) f) (Jo I T x (λo=>
 Jn x o) f))))) (Jo I T x (λo=>Jn x o) f)) (dW (xG g j) 0 (∃(A:bW),nA (λB C=>∃(D:jB),FI (λt E=>aA (fW (cD (FJ x)) (rV z r)=fW (cD A) (rV B C)) (iA f D A) (lR f B C t E/\∀(_:Sl),dC (gH D t E) 0 (K aZ (BC x) f) (Jo I T x (λo=>Jn x o) f))))) (Jo I T x (λo=>Jn x o) f)))))))))) (aA (([]:dk)=[]) (fU (BC x)) (gO K (BC x) (EJ x))))))))))))))))))))))))))
theorem bLQ:∀q:Query,Wr q->fE 1 q<=2^((lZ q-1)/2)
 |.mk op ta w co on gr od li args,h=>by
  obtain⟨f,d⟩:=V8.1 h;have x:arity op<=2:=by unfold arity;repeat' split<;>omega
  have c:∀a:Query,1<=lZ a:=λa=>by cases a;simp only[lZ];omega
  have e:∀n:Nat,1<=2^n:=λn=>Nat.one_le_two_pow
  match args,f,d with
  |[],_,_=>
   rw[fE];have:=e ((lZ (.mk op ta w co on gr od li [])-1)/2);split
   .exact this
   .split
    .simpa[rU]using this
    .simp[rK]
  |[a],_,d=>
   have y:=bLQ a (d a ay);have o:2^((lZ a-1)/2)<=2^((lZ (.mk op ta w co on gr od li [a])-1)/2):=Nat.pow_le_pow_right aD (by simp only[lZ,nC];have:=c a;omega);rw[fE];split
   .exact e _
   .split
    .simp only[rU,Nat.mul_one];omega
    .simp only[rK,Nat.add_zero];omega
  |[a,b],_,d=>
   have g:=bLQ a (d a ay);have j:=bLQ b (d b ay);have z:=c a;have A:=c b;have o:2^((lZ a-1)/2+(lZ b-1)/2+1)<=2^((lZ (.mk op ta w co on gr od li [a,b])-1)/2):=Nat.pow_le_pow_right aD (by simp only[lZ,nC];omega);have u:fE 1 a*fE 1 b<=2^((lZ a-1)/2)*2^((lZ b-1)/2):=Nat.mul_le_mul g j;rw[Nat.pow_succ,Nat.pow_add]at o;have B:2^((lZ a-1)/2)<=2^((lZ a-1)/2)*2^((lZ b-1)/2):=Nat.le_mul_of_pos_right _ (e _);have C:2^((lZ b-1)/2)<=2^((lZ a-1)/2)*2^((lZ b-1)/2):=Nat.le_mul_of_pos_left _ (e _);generalize 2^((lZ a-1)/2)*2^((lZ b-1)/2)=X at*
   rw[fE];split
   .exact e _
   .split
    .simp only[rU,Nat.mul_one];omega
    .simp only[rK,Nat.add_zero];omega
  |_::_::_::l,f,_=>simp only[ci]at f;omega
 termination_by q=>SizeOf.sizeOf q
 decreasing_by all_goals (subst_vars;simp only[Query.mk.sizeOf_spec,List.cons.sizeOf_spec,List.nil.sizeOf_spec];omega)
theorem V9{q:Query}(h:(dU s [] q).2=0)(o:QN q):Gf s q/\gH s (i7 s q).1 (i7 s q).2=0:=by
 obtain⟨c,_,e,f⟩:=FD h;have u:=aiQ e;have x:=bLQ q (Dw q f).2;have y:fE (0+1) q<=2048:=cj x (cj (Nat.pow_le_pow_right aD (show(lZ q-1)/2<=11 by omega)) (by decide));have g:gY 0 s q:=⟨f,Ta (s:=s) (ps:=[]) ay q f o,aD⟩
 obtain⟨D,C,E,z,F⟩:=Us c g u y aD;obtain⟨G,j,A,H⟩:=D.ex;rw[nil_append]at j;refine⟨λh=>⟨Ql h,z,aD,aD⟩,Mi D.inv c aD aD λr n=>?_⟩;rw[j]at n;obtain⟨d,B,rfl⟩:=mem_map.1 n;have:=A d B;omega
theorem aNZ{q:Query}(c:QN q):Gf s q:=λh=>(V9 h c).1 h
def cjJ:Vc.Spec:=λc m h K=>∃s d v q,c=[cS s,aQ v]/\cC h s 1 (bA d)/\s.len<=s.cap/\cJ h q v/\QN q/\fU m/\∀m' h',Sub m m'->K (cB true) m' h'
theorem ccZ{s:Sl}{cs:di}{F:Query}(hr:cC h s 1 (bA cs))(n:s.len<=s.cap)(hq:cJ h F v)(G:QN F)(ht:fU m)(hK:∀m' h',Sub m m'->K (cB true) m' h'):Tp s v m h K:=by
 dsimp only[Tp,push_cast];refine⟨s,cs,200,rfl,hr,n,aD,λcb m1 h1 H x o1 c1=>⟨cb,rfl,c1,λsc sv m2 h2 I T J o2 c2=>?_⟩⟩;obtain⟨L,M⟩:=aJZ I;have sub:∀{O},bE m O cb->Sub m O:=fun{O} E b o e=>by rw[E.other b (λy=>by rw[y,x]at e;cases e)];exact e
 refine⟨cb,sv,bR,sc,[],3,rfl,c2,T,L,M,PY h2,ay,ay,aD,aD,az,λa U m3 h3 A V W fq P o3 c3=>⟨cb,a,U,rfl,c3,V,btJ P,W.num,λq' b B X g rb nb o4 c4=>?_⟩⟩;have E:=((o1.trans o2).trans o3).trans o4;have j:=T.mono (A.trans g);have Q:=V.mono g;have R:=hq.mono (((H.trans J).trans A).trans g);have C:=ht.new x E;refine⟨λz=>z.1<=3/\sv=z.2.1/\a=z.2.2.1/\b=z.2.2.2.1/\v=z.2.2.2.2.1/\B=z.2.2.2.2.2.1/\PH.le X z.2.2.2.2.2.2,λz=>3-z.1,⟨(0,sv,a,b,v,B,X),⟨ay,rfl,rfl,rfl,rfl,rfl,.refl _⟩,MT⟩,?_⟩;rintro⟨i,_,_,_,_,_,Y⟩ ⟨hi,rfl,rfl,rfl,rfl,rfl,lex⟩;dsimp only at hi lex⊢
 refine aF (λD=>?_) (λ_=>⟨rfl,C,hK B Y (sub E)⟩)
 obtain⟨u,q,f,Z,qn⟩:∃(u:QV)(q:Query),[QV.enc a,QV.enc b,QV.enc v][i]? =some (QV.enc u)/\cJ Y q u/\QN q:=by
  have D:i<3:=by omega
  match i,D with
  |0,_=>exact⟨a,U,rfl,Q.mono lex,W.num⟩
  |1,_=>exact⟨b,q',rfl,rb.mono lex,nb⟩
  |2,_=>exact⟨v,F,rfl,R.mono lex,G⟩
 refine⟨aD,aD,QV.enc u,f,u,rfl,sv,u,sc,q,rfl,j.mono lex,Z,C,aNZ qn,λp r h5 c r5 S=>⟨sv,bR,u,sc,[],q,rfl,(j.mono lex).mono c,PY h5,Z.mono c,λsl h6 d _=>?_⟩⟩;rw[kR aD];refine aC (λe=>by simp at e) (λ_=>aC (λe=>?_) (λe=>?_))
 .have f:(dU sc [] q).2≠0:=bk e
  obtain⟨rfl,rfl⟩:=S f;refine aF (λh9=>?_) (λ_=>aC (λy=>(f (bk y)).elim) (λ_=>?_))
  .exact absurd h9 az
  .exact⟨(i+1,sv,a,b,v,B,h6),⟨bj,rfl,rfl,rfl,rfl,rfl,(lex.trans c).trans d⟩,bi,MT⟩
 .have f:(dU sc [] q).2=0:=bk e
  refine aC (λ_=>⟨sv,p,r,sc,_,_,rfl,((j.mono lex).mono c).mono d,(r5 f).mono d,λkk=>aC (λe3=>?_) (λ_=>?_)⟩) (λy=>by simp[f]at y)
  .rw[(V9 f qn).2]at e3;cases e3
  .exact⟨(i+1,sv,a,b,v,B,h6),⟨bj,rfl,rfl,rfl,rfl,rfl,(lex.trans c).trans d⟩,bi,MT⟩
theorem aTZ:cm 7 cjJ:=by
 refine iH func7 ?_;rintro e m h K ⟨s,o,v,q,rfl,f,c,g,d,j,n⟩;refine⟨b4X,rfl,aE aTX (aE aSZ (aE (Z2 1000) (aE ayZ (aE Xc (aE QR (aE QQ (aE auZ aG))))))),Tp s v m h K,ax,?_⟩;exact ccZ f c g d j n
open Go.Proofs.YtjpjambjoceofaaGreatDoor.Rows (uptoBulk uptoBulkAll)
def hW(w:World):PH:=λb o=>match w.cell? ⟨b,o,none⟩with|some (.int .u64 _)=>none|x=>x
def noU(v:Value):Prop:=∀n,v≠ .int .u64 n
theorem b2J{w:World}{o:Nat}{v:Value}(h:hW w b o=some v):w.cell? ⟨b,o,none⟩=some v:=by
 unfold hW at h;split at h
 .cases h
 .exact h
theorem cbX{w:World}{o:Nat}{v:Value}(h:w.cell? ⟨b,o,none⟩=some v)(c:noU v):hW w b o=some v:=by
 unfold hW;split
 .rename_i n e;rw[h]at e;exact(c _ (Option.some.inj e)).elim
 .exact h
theorem VY{w:World}{d n:Nat}{a:Addr}{cs:cn}(h:w.cells? d a n=some cs)(A:∀v∈cs,noU v)(B:0<n):
 ∃b o,a=⟨b,o,none⟩/\cs.length=n/\bM (hW w) b o cs:=by
 unfold World.cells? at h;split at h
 .have f:=mapM_some_length h;have x:=λi(g:i<n)=>mapM_some_get h i i (by simp[g]);obtain⟨b,off,e⟩:=a;have y:=x 0 B;have j:0<cs.length:=by simp at f;omega
  rw[bo j]at y;have c:e=none:=by simpa[Addr.add]using World.cell?_spot y
  subst c;refine⟨b,off,rfl,bk f,⟨λi v u=>?_⟩⟩;have g:i<n:=by have:=(bm u);simp at f;omega
  have z:=x i g;rw[u,Go.WideShapes.add_plain]at z;exact cbX z (A v (br u))
 .cases h
theorem Pf{H:Type}{d:DataW H}:∀{l:List (DataW H)},d∈l->uptoBulk d<=uptoBulkAll l
 |[],h=>by cases h
 |x::r,h=>by
  simp only[uptoBulkAll];rcases mem_cons.1 h with rfl|h
  .omega
  .have:=Pf (l:=r) h;omega
theorem bdJ{H:Type}:∀(d:DataW H),1<=uptoBulk d
 |.lit (.string _)=>by simp[uptoBulk]
 |.lit (.bool _)=>by simp[uptoBulk]
 |.lit (.int ..)=>by simp[uptoBulk]
 |.lit (.float ..)=>by simp[uptoBulk]
 |.lit .nil=>by simp[uptoBulk]
 |.nil=>by simp[uptoBulk]
 |.ptr _=>by simp[uptoBulk]
 |.slice .. =>by simp[uptoBulk]
 |.agg _=>by simp[uptoBulk]
 |.iface .. =>by simp[uptoBulk]
 |.map _=>by simp[uptoBulk]
 |.held _=>by simp[uptoBulk]
theorem V3{H:Type}:∀(l:List (DataW H)),l.length<=uptoBulkAll l
 |[]=>ay
 |x::r=>by
  simp only[uptoBulkAll,ci];have:=bdJ x;have:=V3 r;omega
section
variable{H:Type}{enc:TypeId×Value->H}{w:World}{base:Nat}{sp:Nat->Bool}{held:Bool}
theorem yW{α β:Type}{T e:TypeId}{sz:Nat}(ht:Tryz.prog.underlying T=some (.slice e))(I:Tryz.prog.cellsOf e=sz)(W:0<sz)(B:β->cn)(C:∀v,∀u∈B v,noU u)(Q:α->β->Prop)
 {f:Nat}{cs:cn}{x:DataW H×List MemPlace}(h:DataW.trod enc Tryz.prog w base sp held f T cs=some x)
 (J:∀(n:Nat)(c:cn)(y:DataW H×List MemPlace),n<f->uptoBulk y.1<=uptoBulk x.1->DataW.trod enc Tryz.prog w base sp held n e c=some y->∃a v,c=B v/\Q a v):
 ∃(s:Sl)(ps:List α)(vs:List β),cs=[.slice s.a s.len s.cap]/\cC (hW w) s sz (vs.map B)/\ps.length=vs.length/\ps.length<=uptoBulk x.1/\∀(i:Nat)(a:α)(v:β),ps[i]? =some a->vs[i]? =some v->Q a v:=by
 rcases DataW.trod_slice ht h with⟨rfl,rfl⟩|⟨a,len,L,d,X,n,rfl,rfl,rfl, -,M, -,Y,Z, -, -⟩
 .exact⟨⟨none,0,0⟩,[],[],rfl,cC.nil _ _,rfl,ay,ay⟩
 .rw[I]at Z
  have key:∀i,i<len->∃(c:cn)(p:α×β),w.cells? base (a.add (i*sz)) sz=some c/\c=B p.2/\Q p.1 p.2:=λi O=>by
   have j:=Z i O;rw[bo aD,Option.bind_eq_some_iff]at j;obtain⟨c,P,z⟩:=j
   obtain⟨p,v,R,h4⟩:=J n c _ (Nat.lt_succ_self n) (by
    simp only[uptoBulk];have:=Pf (l:=d.map (·.1)) (mem_map.2 ⟨d[i],getElem_mem aD,rfl⟩);omega) z
   exact⟨c,(p,v),P,R,h4⟩
  have D:∀k,k<=len->∃l:List (α×β),l.length=k/\∀i p,l[i]? =some p->∃c,w.cells? base (a.add (i*sz)) sz=some c/\c=B p.2/\Q p.1 p.2:=by
   intro k
   induction k with
   |zero=>exactλ_=>⟨[],rfl,ay⟩
   |succ k ih=>
    intro hk;obtain⟨l,A,E⟩:=ih aD;obtain⟨c,p,j,z,R⟩:=key k aD;refine⟨l++[p],by simp[A],λi q g=>?_⟩;by_cases O:i<l.length
    .rw[getElem?_append_left O]at g;exact E i q g
    .have:i=l.length:=by have:=(bm g);simp at this;omega
     subst this;simp at g;subst g;rw[A];exact⟨c,j,z,R⟩
  obtain⟨l,A,E⟩:=D len (Nat.le_refl _);refine⟨⟨some a,len,L⟩,l.map (·.1),l.map (·.2),rfl,⟨by simp[A],?_,M⟩,ay,?_,λi p v j z=>?_⟩
  .by_cases h0:len=0
   .rw[h0]at A;exact .inl (by simp[length_eq_zero_iff.1 A])
   .obtain⟨c0,S,e0, -⟩:=E 0 l[0] (bo aD);obtain⟨b,o,ha, -, -⟩:=VY S (by rw[e0];exact C _) W
    have U:a=⟨b,o,none⟩:=by
     obtain⟨b1,o1,s1⟩:=a;simp only[Addr.add]at ha;simpa using ha
    subst U;refine .inr ⟨b,o,rfl,λi x hx=>?_⟩;simp only[map_map,getElem?_map,Option.map_eq_some_iff]at hx;obtain⟨p,hj,rfl⟩:=hx;obtain⟨c,P,e, -⟩:=E i p hj;obtain⟨b',o',F, -,G⟩:=VY P (by rw[e];exact C _) W;rw[Go.WideShapes.add_plain]at F;cases F;simp only[Function.comp];rw[<-e];exact G
  .simp only[length_map,uptoBulk];have:=V3 (d.map (·.1));simp only[length_map]at this;omega
  .simp only[getElem?_map,Option.map_eq_some_iff]at j z;obtain⟨q,g,rfl⟩:=j;obtain⟨r,G,rfl⟩:=z;rw[g]at G;cases G;obtain⟨c, -, -,V⟩:=E i q g;exact V
end
open Go.Proofs.YtjpjambjoceofaaGreatDoor.Rows (uptoBulk uptoBulkAll)
section
variable{H:Type}{enc:TypeId×Value->H}{w:World}{base:Nat}{sp:Nat->Bool}{held:Bool}
theorem AB{T:TypeId}{d:Array Field}(L:List (TypeId×Nat))(u:Tryz.prog.underlying T=some (.struct d))(z:d.toList.map (λg=>(g.type,g.offset))=L){f:Nat}{cs:cn}{x:DataW H×List MemPlace}(h:DataW.trod enc Tryz.prog w base sp held f T cs=some x):
 ∃n,f=n+1/\cs.length=Tryz.prog.cellsOf T/\∀(i:Nat)(t:TypeId)(o:Nat),L[i]? =some (t,o)->∃y,uptoBulk y.1<=uptoBulk x.1/\DataW.trod enc Tryz.prog w base sp held n t ((cs.drop o).take (Tryz.prog.cellsOf t))=some y:=by
 obtain⟨xs,n,rfl,rfl,A,B,C⟩:=DataW.trod_struct u h;refine⟨n,rfl,A,λi t o c=>?_⟩;rw[<-z,getElem?_map,Option.map_eq_some_iff]at c;obtain⟨g,c,e⟩:=c;simp only[Prod.mk.injEq]at e;obtain⟨rfl,rfl⟩:=e;rw[cg]at c;have j:i<xs.length:=by rw[B];exact(Array.getElem?_eq_some_iff.1 c).1
 refine⟨xs[i],?_,by rw[C i g c,bo j]⟩;simp only[uptoBulk];have:=Pf (l:=xs.map (·.1)) (mem_map.2 ⟨xs[i],getElem_mem j,rfl⟩);omega
theorem LM:Tryz.prog.cellsOf 2=1:=ax
theorem Ie:Tryz.prog.cellsOf 3=1:=ax
theorem LL:Tryz.prog.cellsOf 4=1:=ax
theorem LK:Tryz.prog.cellsOf 9=1:=ax
theorem E3:Tryz.prog.cellsOf 27=3:=ax
theorem E0:Tryz.prog.cellsOf 29=5:=ax
theorem Hp:Tryz.prog.cellsOf 30=1:=ax
theorem CZ:Tryz.prog.cellsOf 32=13:=ax
theorem Ho:Tryz.prog.cellsOf 33=1:=ax
theorem Hn:Tryz.prog.cellsOf 34=1:=ax
theorem Hm:Tryz.prog.cellsOf 35=1:=ax
theorem Hl:Tryz.prog.cellsOf 36=1:=ax
theorem CY:Tryz.prog.cellsOf 38=21:=ax
theorem AJ:Tryz.prog.cellsOf 103=2:=ax
theorem AK:Tryz.prog.cellsOf 101=2:=ax
theorem bZJ{f:Nat}{c:Value}{y:DataW H×List MemPlace}(h:DataW.trod enc Tryz.prog w base sp held f 2 [c]=some y):∃k,c= .int .i64 k/\rN k:=by
 obtain⟨k,e, -,d⟩:=DataW.trod_int Tryz.underlying2 h;exact⟨k,bk e,bounds_i64 d⟩
theorem BV{f:Nat}{c:Value}{y:DataW H×List MemPlace}(h:DataW.trod enc Tryz.prog w base sp held f 3 [c]=some y):∃k,c= .int .i64 k:=by
 obtain⟨k,e, -⟩:=DataW.trod_int Tryz.underlying3 h;exact⟨k,bk e⟩
theorem b0Q{f:Nat}{c:Value}{y:DataW H×List MemPlace}(h:DataW.trod enc Tryz.prog w base sp held f 4 [c]=some y):∃k,c= .bool k:=by
 obtain⟨k,e, -⟩:=DataW.trod_bool Tryz.underlying4 h;exact⟨k,bk e⟩
theorem bZZ{f:Nat}{c:Value}{y:DataW H×List MemPlace}(h:DataW.trod enc Tryz.prog w base sp held f 9 [c]=some y):∃k,c= .string k:=by
 obtain⟨k,e, -⟩:=DataW.trod_string Tryz.underlying9 h;exact⟨k,bk e⟩
theorem bNZ{l:cn}(h:l.length=3):∃a b c,l=[a,b,c]:=by
 match l,h with|[a,b,c],_=>exact⟨a,b,c,rfl⟩
theorem caQ{l:cn}(h:l.length=5):∃a b c d e,l=[a,b,c,d,e]:=by
 match l,h with|[a,b,c,d,e],_=>exact⟨a,b,c,d,e,rfl⟩
theorem b7Q{n:Nat}{l:cn}(h:l.length=n+5):∃a b c d e r,l=a::b::c::d::e::r/\r.length=n:=by
 match l,h with|a::b::c::d::e::r,h=>exact⟨a,b,c,d,e,r,rfl,bk h⟩
theorem WL{f:Nat}{cs:cn}{y:DataW H×List MemPlace}(h:DataW.trod enc Tryz.prog w base sp held f 27 cs=some y):∃v:VV,cs=v.enc/\rN v.int:=by
 obtain⟨n, -,o,d⟩:=AB [(3,0),(2,1),(9,2)] Tryz.underlying27 rfl h;obtain⟨a,b,c,rfl⟩:=bNZ (o.trans E3);obtain⟨_, -,e⟩:=d 0 3 0 rfl;obtain⟨_, -,g⟩:=d 1 2 1 rfl;obtain⟨_, -,j⟩:=d 2 9 2 rfl;simp only[LM,Ie,LL,LK,E3,E0,Hp,CZ,Ho,Hn,Hm,Hl,CY,AJ,AK,List.drop,List.take]at e g j;obtain⟨k,rfl⟩:=BV e;obtain⟨i,rfl,u⟩:=bZJ g;obtain⟨s,rfl⟩:=bZZ j;exact⟨⟨k,i,s⟩,rfl,u⟩
theorem IP{f:Nat}{cs:cn}{y:DataW H×List MemPlace}(h:DataW.trod enc Tryz.prog w base sp held f 29 cs=some y):∃v:OV,cs=v.enc/\rN v.value.int:=by
 obtain⟨n, -,z,g⟩:=AB [(3,0),(3,1),(27,2)] Tryz.underlying29 rfl h;obtain⟨a,b,c,d,e,rfl⟩:=caQ (z.trans E0);obtain⟨_, -,j⟩:=g 0 3 0 rfl;obtain⟨_, -,o⟩:=g 1 3 1 rfl;obtain⟨_, -,u⟩:=g 2 27 2 rfl;simp only[LM,Ie,LL,LK,E3,E0,Hp,CZ,Ho,Hn,Hm,Hl,CY,AJ,AK,List.drop,List.take]at j o u;obtain⟨k,rfl⟩:=BV j;obtain⟨i,rfl⟩:=BV o;obtain⟨v,x,A⟩:=WL u;refine⟨⟨k,i,v⟩,?_,A⟩;simp only[VV.enc,List.cons.injEq,and_true]at x;obtain⟨rfl,rfl,rfl⟩:=x;rfl
theorem Un{h:PH}:∀{ps:dg}{vs:dr},ps.length=vs.length->(∀(i:Nat)(a:Pred)(v:PV),ps[i]? =some a->vs[i]? =some v->dO h a v)->pK h ps vs
 |[],vs,c,_=>length_eq_zero_iff.1 c.symm
 |p::ps,[],c,_=>by simp at c
 |p::ps,v::vs,c,d=>⟨v,vs,rfl,d 0 p v rfl rfl,Un (bk c) λi a u e f=>d (i+1) a u (bk e) (bk f)⟩
theorem Um{h:PH}:∀{ps:cz}{vs:dn},ps.length=vs.length->(∀(i:Nat)(a:Query)(v:QV),ps[i]? =some a->vs[i]? =some v->cJ h a v)->qU h ps vs
 |[],vs,c,_=>length_eq_zero_iff.1 c.symm
 |p::ps,[],c,_=>by simp at c
 |p::ps,v::vs,c,d=>⟨v,vs,rfl,d 0 p v rfl rfl,Um (bk c) λi a u e f=>d (i+1) a u (bk e) (bk f)⟩
theorem b0Z(v:PV):∀u∈PV.enc v,noU u:=by
 intro u c n e;simp[PV.enc]at c;rcases c with h|h|h|h|h|h|h|h|h|h|h|h|h<;>(rw[h]at e;cases e)
theorem b0X(v:QV):∀u∈QV.enc v,noU u:=by
 intro u c n e;simp[QV.enc]at c;rcases c with h|h|h|h|h|h|h|h|h|h|h|h|h|h|h|h|h|h|h|h|h<;>(rw[h]at e;cases e)
theorem akX:∀(f:Nat)(cs:cn)(x:DataW H×List MemPlace),DataW.trod enc Tryz.prog w base sp held f 32 cs=some x->uptoBulk x.1<=1048576->∃p v,cs=PV.enc v/\dO (hW w) p v/\uU p:=by
 intro f
 induction f using Nat.strongRecOn with
 |ind f X=>
  intro cs x h hb;obtain⟨n,rfl,j,z⟩:=AB [(3,0),(3,1),(29,2),(29,7),(30,12)] Tryz.underlying32 rfl h;have j:cs.length=13:=j.trans CZ
  obtain⟨D,E,F,G,I,J,L,M,O,P,d,e,g,rfl⟩:∃D E F G I J L M O P d e g,cs=[D,E,F,G,I,J,L,M,O,P,d,e,g]:=by
   obtain⟨D,E,F,G,I,a,rfl,o⟩:=b7Q j;obtain⟨J,L,M,O,P,b,rfl,u⟩:=b7Q o;obtain⟨d,e,g,rfl⟩:=bNZ u;exact⟨_,_,_,_,_,_,_,_,_,_,_,_,_,rfl⟩
  obtain⟨_, -,Q⟩:=z 0 3 0 rfl;obtain⟨_, -,o⟩:=z 1 3 1 rfl;obtain⟨_, -,u⟩:=z 2 29 2 rfl;obtain⟨_, -,R⟩:=z 3 29 7 rfl;obtain⟨y4,b4,S⟩:=z 4 30 12 rfl;simp only[LM,Ie,LL,LK,E3,E0,Hp,CZ,Ho,Hn,Hm,Hl,CY,AJ,AK,List.drop,List.take]at Q o u R S;obtain⟨op,rfl⟩:=BV Q;obtain⟨A,rfl⟩:=BV o;obtain⟨l,j,Y⟩:=IP u;obtain⟨r,T,Z⟩:=IP R;obtain⟨s,ps,vs,U,B,C,a',V⟩:=yW (w:=w) Tryz.underlying30 CZ aD PV.enc b0Z (λp v=>dO (hW w) p v/\uU p) S (λm c y hm hy hc=>X m aD c y hc aD);simp only[OV.enc,List.cons.injEq,and_true]at j T U;obtain⟨rfl,rfl,rfl,rfl,rfl⟩:=j;obtain⟨rfl,rfl,rfl,rfl,rfl⟩:=T;subst U
  exact⟨.mk op A l r ps,⟨op,A,l,r,s⟩,rfl,⟨rfl,rfl,rfl,rfl,aD,vs,B,Un C λi a v o u=>(V i a v o u).1⟩,Y,Z,qW.2 λa ha=>by
   obtain⟨i,W⟩:=mem_iff_getElem?.1 ha;have a0:=(bm W);exact(V i a _ W (bo aD)).2⟩
theorem FH{f:Nat}{cs:cn}{x:DataW H×List MemPlace}(h:DataW.trod enc Tryz.prog w base sp held f 33 cs=some x)(C:uptoBulk x.1<=1048576):∃(s:Sl)(l:cq),cs=[.slice s.a s.len s.cap]/\Ints (hW w) s l:=by
 obtain⟨s,ps,o,z,d,g,A,D⟩:=yW (w:=w) (α:=Unit) (β:=Int) Tryz.underlying33 Ie aD eI (λv u j n e=>by simp[eI]at j;rw[j]at e;cases e) (λ_ _=>True) h (λm c y _ _ B=>by
  obtain⟨k,e, -⟩:=DataW.trod_int Tryz.underlying3 B;exact⟨(),k,e,trivial⟩)
 exact⟨s,o,z,d,aD⟩
theorem bNJ{l:cn}(h:l.length=2):∃a b,l=[a,b]:=by
 match l,h with|[a,b],_=>exact⟨a,b,rfl⟩
theorem WM{f:Nat}{cs:cn}{x:DataW H×List MemPlace}(h:DataW.trod enc Tryz.prog w base sp held f 35 cs=some x)(I:uptoBulk x.1<=1048576):∃(s:Sl)(l:cv),cs=[.slice s.a s.len s.cap]/\jO (hW w) s l:=by
 obtain⟨s,ps,C,D,g,j,E,J⟩:=yW (w:=w) (α:=Unit) (β:=Int×Bool) Tryz.underlying35 AJ aD sJ (λv u o n e=>by simp[sJ]at o;rcases o with h|h<;>(rw[h]at e;cases e)) (λ_ _=>True) h (λm c y _ _ F=>by
  obtain⟨n, -,G,z⟩:=AB [(3,0),(4,1)] Tryz.underlying103 rfl F;obtain⟨a,b,rfl⟩:=bNJ (G.trans AJ);obtain⟨_, -,A⟩:=z 0 3 0 rfl;obtain⟨_, -,B⟩:=z 1 4 1 rfl;simp only[LM,Ie,LL,LK,E3,E0,Hp,CZ,Ho,Hn,Hm,Hl,CY,AJ,AK,List.drop,List.take]at A B;obtain⟨k,rfl⟩:=BV A;obtain⟨d,rfl⟩:=b0Q B;exact⟨(),(k,d),rfl,trivial⟩)
 exact⟨s,C,D,g,aD⟩
theorem WO{f:Nat}{cs:cn}{x:DataW H×List MemPlace}(h:DataW.trod enc Tryz.prog w base sp held f 34 cs=some x)(I:uptoBulk x.1<=1048576):∃(s:Sl)(l:cu),cs=[.slice s.a s.len s.cap]/\iD (hW w) s l:=by
 obtain⟨s,ps,D,z,g,A,E,J⟩:=yW (w:=w) (α:=Unit) (β:=Int×Int) Tryz.underlying34 AK aD kY (λv u B n e=>by simp[kY]at B;rcases B with h|h<;>(rw[h]at e;cases e)) (λ_ _=>True) h (λm c y _ _ F=>by
  obtain⟨xs,n, -, -,G,z,C⟩:=DataW.trod_array Tryz.underlying101 F;obtain⟨a,b,rfl⟩:=bNJ (G.trans AK);have j:=C 0 aD;have o:=C 1 aD;rw[bo aD]at j o;simp only[LM,Ie,LL,LK,E3,E0,Hp,CZ,Ho,Hn,Hm,Hl,CY,AJ,AK,List.drop,List.take,Nat.zero_mul,Nat.one_mul]at j o;obtain⟨k,rfl⟩:=BV j;obtain⟨d,rfl⟩:=BV o;exact⟨(),(k,d),rfl,trivial⟩)
 exact⟨s,D,z,g,aD⟩
theorem WN:∀(f:Nat)(cs:cn)(x:DataW H×List MemPlace),DataW.trod enc Tryz.prog w base sp held f 38 cs=some x->uptoBulk x.1<=1048576->∃q v,cs=QV.enc v/\cJ (hW w) q v/\QN q:=by
 intro f
 induction f using Nat.strongRecOn with
 |ind f ih=>
  intro cs x h hb;obtain⟨n,rfl,e,d⟩:=AB [(3,0),(3,1),(32,2),(33,15),(34,16),(33,17),(35,18),(3,19),(36,20)] Tryz.underlying38 rfl h;have e:cs.length=21:=e.trans CY
  obtain⟨u,z,l,rfl⟩:∃u z l,cs=u::z::l:=by
   obtain⟨u,l,rfl⟩:=exists_cons_of_length_pos (l:=cs) aD;obtain⟨z,l,rfl⟩:=exists_cons_of_length_pos (l:=l) (by simp at e;omega);exact⟨u,z,l,rfl⟩
  have e:l.length=19:=bk e
  obtain⟨_, -,R⟩:=d 0 3 0 rfl;obtain⟨_, -,g⟩:=d 1 3 1 rfl;obtain⟨y2,b2,A⟩:=d 2 32 2 rfl;obtain⟨y3,b3,S⟩:=d 3 33 15 rfl;obtain⟨y4,b4,T⟩:=d 4 34 16 rfl;obtain⟨y5,b5,U⟩:=d 5 33 17 rfl;obtain⟨y6,b6,V⟩:=d 6 35 18 rfl;obtain⟨y7,b7,C⟩:=d 7 3 19 rfl;obtain⟨y8,b8,W⟩:=d 8 36 20 rfl;simp only[LM,Ie,LL,LK,E3,E0,Hp,CZ,Ho,Hn,Hm,Hl,CY,AJ,AK,List.drop,List.take]at R g A S T U V C W;obtain⟨op,rfl⟩:=BV R;obtain⟨ta,rfl⟩:=BV g;obtain⟨p,pv,hp,rp,pn⟩:=akX _ _ _ A aD;obtain⟨co,D,X,r3⟩:=FH S aD;obtain⟨on,E,Y,r4⟩:=WO T aD;obtain⟨gr,F,Z,r5⟩:=FH U aD;obtain⟨od,G,e6,r6⟩:=WM V aD;obtain⟨s,ps,vs,hs,j,o,a',hq⟩:=yW (w:=w) Tryz.underlying36 CY aD QV.enc b0X (λq v=>cJ (hW w) q v/\QN q) W (λm c y hm hy hc=>ih m aD c y hc aD);obtain⟨B,I⟩:∃B,l=PV.enc pv++B:=⟨l.drop 13,by rw[<-hp,take_append_drop]⟩
  subst I;have e:B.length=6:=by simpa[PV.enc]using e
  obtain⟨J,L,M,O,P,Q,rfl⟩:∃J L M O P Q,B=[J,L,M,O,P,Q]:=by
   obtain⟨J,L,M,O,P,a,rfl,g⟩:=b7Q (n:=1) e;obtain⟨Q,rfl⟩:=length_eq_one_iff.1 g;exact⟨_,_,_,_,_,_,rfl⟩
  simp[PV.enc]at X Y Z e6 C hs;obtain⟨li,rfl⟩:=BV C;subst X Y Z e6 hs
  exact⟨.mk op ta p D E F G li ps,⟨op,ta,pv,co,on,gr,od,li,s⟩,rfl,⟨rfl,rfl,rp,r3,r4,r5,r6,rfl,aD,vs,j,Um o λi a v g A=>(hq i a v g A).1⟩,HP.2 ⟨pn,λa ha=>by
   obtain⟨i,hi⟩:=mem_iff_getElem?.1 ha;have a0:=(bm hi);exact(hq i a _ hi (bo aD)).2⟩⟩
end
end Go.Ps
