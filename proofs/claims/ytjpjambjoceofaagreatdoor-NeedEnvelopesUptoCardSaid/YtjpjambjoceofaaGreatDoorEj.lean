/- Own work. -/
import Derived.ChangeArms
import Derived.OpenShut
import Derived.ChangeOld
import Derived.WideShapes
import Derived.Test.YtjpjambjoceofaaGreatDoorRows
import Derived.Test.YtjpjambjoceofaaGreatDoorEi
set_option linter.unusedVariables false
set_option linter.unusedSimpArgs false
namespace Go.Ps
open Go Go.Vc Go.Proofs List Tryz
variable{K:bz}{m:MH}{h:PH}{s:jE}{ps:ca}{ts:cq}{cb:Nat}{sc:cE}{v:QV}{t:Step}{p:Pred}{l:ca}{i:Nat}{N:Nat}{m':MH}{h':PH}{co:ca}{gr:ca}{od:cg}{ta:Int}{li:Int}{xs:List bx}{sz:Nat}{ks:List ca}{rs:ca}{r:Sl}{a:ca}{b:Nat}
def TA:Vc.Spec:=λd m h K=>∃sc e v s c q,d=[aS sc,aSt e,aQ v]/\gZ h s sc/\Qw h e c/\bU h q v/\nC q=true/\gJ m/\((dZ s [] q).2=0->axZ s q)/\mV s c=0/\(∀l∈c,l.length<=4)/\
 ∀f h',PH.le h h'->((dZ s [] q).2=0->Leaves h' f ((pZ (xT s) q (fL q)).map (vO c)))->K (.tup [cS f,cI (dZ s [] q).2]) m h'
theorem Yn:bu 33 TA:=Lr aPX λ_ m h K⟨sc,u,v,s,f,q,e,y,c,z,g,A,d,j,n,o⟩=>⟨sc,u,v,s,f,q,e,y,c,z,g,A,λh=>(d h).ok h,
 λh=>⟨(d h).valid,λ_=>let x:=(d h).run f j c.val n;⟨x.1,x.2.1⟩⟩,λh h' le=>o bR h' le (λe=>(h e).elim),λ_ h=>(h j).elim,λh _ B h' le C=>by
  have:=o B h' le (λ_=>by rw[<-((d h).run f j c.val n).2.2];exact C)
  grind⟩
def bLX:Vc.Spec:=λc m h K=>c=[]/\gJ m/\K (cB true) m h
noncomputable abbrev Oc(a:Int):bx:=vR (eF a) dE lF lF lF lF dE iS
attribute [push_cast] Oc
def PS(m:MH)(h:PH)(K:bz):Prop:=
  bO h 2 (j4 (rX Kk 4) (rX J1 4)) (λs V=>bO V 2 (j4 (rX Kk 4) (rX J1 4)) (λW X=>lA 1 (λn=>lA 7 (λY=>lA 2 (λZ=>lA 7 (λn3=>lA 3 (λn4=>lA 7 (λn5=>bO X 3 (j4 (Ag n) (Ag Y)) (λu h3=>bO h3 3 (j4 (Ag Z) (Ag n3)) (λB h4=>bO h4 3 (j4 (Ag n4) (Ag n5)) (λs4 h5=>lA 9 (λn6=>lA 7 (λn7=>bO h5 3 (j4 (Ag n6) (Ag n7)) (λs5 h6=>bO h6 1 (bA u::j4 (bA B) (bA s4)) (λs6 h7=>bO h7 1 (j4 (bA u) (bA s5)) (λs7 h8=>bO h8 21 (j4 (Oc 1) (BD 1)) (λs8 h9=>bO h9 5 (j4 (aM (Value.string (Ob 97 (xE 115))) (fK s) (aM (eF 1) lF iS)) (aM (Value.string (ByteArray.mk (Array.mk (fE 97 (fE 114
 (fE 99 (fE 104 (fE 105 (fE 118 (fE 101 (fE 100 []))))))))))) (fK W) (aM (eF 1) lF iS))) (λC a=>bO a 1 (j4 (bA s6) (bA s7)) (λa1 a2=>bO a2 1 (kP (bG 1)) (λD a4=>bO a4 21 (kP (vR (eF 7) dE lF lF lF lF dE (bA s8))) (λE x=>Ev (λF G=>∃(v:QV)(d:jE)(b:List cd)(q:Query),aA (lS (jK dE (fK C))::cV (lS (bA a1)) (lS (vR (eF 9) dE lF lF (fK D) lF (eF 1) (bA E)))=cJ F::cV (lS (bA G)) (cN v)) (gZ x d F) (aA (Qw x G b) (bU x q v) (aA (fV (nC q)) (gJ m) (aA (Dx d q=0->axZ d q) (mV d b=0) ((∀(l:cd),List.Mem l b->l.length<=4)/\iR (λe f=>cC x f (Dx d q=0->Leaves f e (List.map (vO b) (pZ (xT d) q (fL q))))
 (Ko (λH I J z=>aA (cV (lS (jK dE (fK C))) (lS (vR (eF 9) dE lF lF (fK D) lF (eF 1) (bA E)))=cV (cJ H) (cN I)) (gZ f J H) (aA (bU f z I) (Dx J z=0) (HF f z (λL g=>iU (L.op=opE z) (Dx d q==0) (eO L.op 1 (eO (aH e) 2 (eK e.a 0 e (λb6 o y=>aU m g b6 (o+0) (bA y)/\bO g 1 (j4 (bA u) (bA B)) (λb7 j=>Pd (λM t c O=>mC (dT y b7) (dT M t) (Rows j M c) (Rows j t O) (λr=>iU (fV r↔c=O) r (eK e.a 1 e (λc2 o1 P=>aU m j c2 (o1+1) (bA P)/\bO j 1 (kP (bA u)) (λc3 A=>Pd (λQ R S T=>mC (dT P c3) (dT Q R) (Rows A Q S) (Rows A R T) (λU=>(fV U↔S=T)->K (Bc U) m A))))) (K aX m j)))))) (K aX m g)) (K aX
 m g)) (K aX m g)))))))))))))))))))))))))))))))))
def nV(n:Int):VV:=⟨4,n,⟨#[]⟩⟩
def RE:List rF:=[⟨⟨⟨[105,100]⟩⟩,4⟩,⟨⟨⟨[112,114,111,106,101,99,116]⟩⟩,4⟩]
def nT1:Dr:=⟨⟨⟨[116,97,115,107,115]⟩⟩,RE,1,[],[]⟩
def nT2:Dr:=⟨⟨⟨[97,114,99,104,105,118,101,100]⟩⟩,RE,1,[],[]⟩
def nS:jE:=⟨0,[nT1,nT2]⟩
def nR1:cd:=[[nV 1,nV 7],[nV 2,nV 7],[nV 3,nV 7]]
def nR2:cd:=[[nV 1,nV 7],[nV 9,nV 7]]
def X4:List cd:=[nR1,nR2]
def zM(t:Int):Query:=.mk 1 t eW [] [] [] [] 0 []
def nM:Query:=.mk 7 0 eW [] [] [] [] 0 [zM 0,zM 1]
def nQ:Query:=.mk 9 0 eW [] [] [1] [] 1 [nM]
theorem a9X:dK nS=0:=a2J bg (λt c=>by simp[nS]at c;rcases c with rfl|rfl<;>exact⟨bg,rfl,rfl⟩) bg bg (by
 refine AM ⟨⟨?_,?_,?_,?_,AM ⟨⟨?_,?_,?_⟩,⟨?_,?_,?_⟩,trivial⟩⟩,⟨?_,?_,?_,?_,AM ⟨⟨?_,?_,?_⟩,⟨?_,?_,?_⟩,trivial⟩⟩,trivial⟩
 all_goals first|rfl|(simp[nT1,nT2,RE];done)|decide)
theorem Nb{t:Int}(c:0<=t)(d:t<2):aJ nS [] (zM t)=([4,4],0):=by
 have e:jR nS t=[4,4]:=by
  have:t=0\/t=1:=by omega
  rcases this with rfl|rfl<;>rfl
 have:=Pq (s:=nS) (ps:=[]) (t:=t) c (by show t<2;exact d) bk;rw[e]at this;exact this
theorem a9J:aJ nS [] nM=([4,4],0):=by
 unfold nM;rw[aHZ bg (Nb (t:=0) bg bg) (Nb (t:=1) bg bg)];unfold dY;rw[if_neg (by simp[arity,cH])];dsimp only;rw[if_neg bg,if_neg bg,if_neg bg,if_neg bg,if_neg bg,if_neg bg,if_neg bg,if_pos rfl,KF bg]
theorem Pj:aJ nS [] nQ=([4,4],0):=by
 unfold nQ;rw[LN bg a9J];unfold dY;rw[if_neg (by simp[arity,cH])];dsimp only;rw[if_neg bg,if_neg bg,if_neg bg,if_neg bg,if_neg bg,if_pos rfl,if_pos ⟨AM ⟨⟨bg,bf⟩,trivial⟩,AM trivial,bg,bg,bg⟩,KF bg]
theorem cyZ:dZ nS [] nQ=([4,4],0):=by
 unfold dZ;rw[if_pos a9X,if_pos (by rfl),if_pos (by rfl),Pj]
theorem a9Q(t:Int):QW (zM t):=Jz t
theorem cyX:QW nQ:=LD.2 ⟨pK,λa c=>by
 simp at c;subst c;exact LD.2 ⟨pK,λb d=>by simp at d;rcases d with rfl|rfl<;>exact a9Q _⟩⟩
theorem bPZ:iB nS nQ:=⟨by rw[Pj],alZ (s:=nS) (ps:=[]) bf nQ (by rw[Pj]) cyX,bg⟩
theorem bPX:axZ nS nQ:=aGZ (B:=8) a9X bPZ bg bg bg
theorem cpQ:mV nS X4=0:=by
 unfold mV;rw[if_neg (by simp[a9X]),if_neg bg,if_neg bg,if_pos];have j:∀n,IN 1 4 0 (nV n)=true/\IN 1 4 1 (nV n)=true:=λn=>by simp[IN,nV,a1X]
 have x:∀t,t=nT1\/t=nT2->∀a b,Gz t [nV a,nV b]=true:=λt e a b=>KN.2 ⟨by rcases e with rfl|rfl<;>rfl,λi o=>by
  have d:t.key=1:=by rcases e with rfl|rfl<;>rfl
  have c:t.columns=RE:=by rcases e with rfl|rfl<;>rfl
  rw[d,c]
  match i,o with
  |0,_=>exact(j _).1
  |1,_=>exact(j _).2
  |i+2,o=>grind⟩
 intro i t l e f
 match i,e,f with
 |0,e,f=>
  simp[nS]at e;simp[X4]at f;subst e f;refine⟨λr g=>?_,λi r u d c=>?_⟩
  .simp[nR1]at g
   grind
  .match i,d,c with
   |0,d,c=>simp[nR1]at d c;subst d c;decide
   |1,d,c=>simp[nR1]at d c;subst d c;decide
   |i+2,d,c=>simp[nR1]at c
 |1,e,f=>
  simp[nS]at e;simp[X4]at f;subst e f;refine⟨λr g=>?_,λi r u d c=>?_⟩
  .simp[nR2]at g
   grind
  .match i,d,c with
   |0,d,c=>simp[nR2]at d c;subst d c;decide
   |i+1,d,c=>simp[nR2]at c
 |i+2,e,f=>simp[nS]at e
theorem cpJ(c:Query->Int)(D:Query):pZ c nQ D=[FI (lI (zM 0) D (uD [1])) nM [1] [] 1,jS (jS (zM 1) (FI (lI (zM 0) D (uD [1])) nM [1] [] 1)) (zM 0)]:=by
 have d:fL nM=zM 0:=by rfl
 have e:fL (zM 1)=zM 1:=by rfl
 have s:∀t E,pZ c (zM t) E=[E]:=λt E=>by unfold zM;rw[pZ.eq_def];grind
 have m:∀E,pZ c nM E=pZ c (zM 0) E++pZ c (zM 1) (jS (jS (fL (zM 1)) E) (zM 0)):=λE=>by
  unfold nM;rw[pZ.eq_def];grind
 unfold nQ;rw[pZ.eq_def]
 grind
theorem a9Z:fL nQ=zM 0:=by rfl
theorem cpX:(pZ (xT nS) nQ (fL nQ)).map (vO X4)=[[[nV 1,nV 7],[nV 2,nV 7]],[[nV 1,nV 7]]]:=by
 rw[cpJ,a9Z];rfl
theorem cpZ:opE nQ=1:=by rw[opE,a9Z];rfl
theorem NL{s:Sl}{l:cj}(r:cD h s 3 (l.map VV.enc))(d:l.length<=1000):cF h s l:=⟨⟨l,r,rfl,λi x c=>⟨x,c,rfl⟩⟩,aD⟩
theorem NM{h:PH}{s:Sl}{us:ck}{l:cd}(r:cD h s 1 (us.map eS))(c:us.length=l.length)(d:∀(i:Nat)(x:cj),l[i]? =some x->∃u,us[i]? =some u/\cF h u x)(e:l.length<=1000):Rows h s l:=⟨⟨us,r,c.symm,d⟩,aD⟩
theorem aPZ:bu 32 bLX:=by
 refine FR func32 ?_;rintro a2 m h K ⟨rfl,ht,hK⟩;refine⟨dA [(77,cEX),(33,TA),(29,azQ),(21,ceX)] [] [] [] false,rfl,aE aMZ (aE Yn (aE aQX (aE aTQ aG))),PS m h (lE h K),bd,?_⟩;show PS m h (lE h K);dsimp only[PS,push_cast];intro c1 h1 G r1 c2 h2 H r2;refine⟨1,rfl,7,rfl,2,rfl,7,rfl,3,rfl,7,rfl,λz h3 I r3 J h4 L r4 rc h5 M r5=>⟨9,rfl,7,rfl,?_⟩⟩;intro rd h6 O r6 ta h7 P r7 tb h8 Q r8 qs h9 R r9 tabs ha S xa A hb T xb gr hc U xc qm c B xd;have lc:=U.trans B;have lb:=T.trans lc;have la:=S.trans lb;have l9:=R.trans la;have l8:=Q.trans l9;have l7:=P.trans l8;have l6:=O.trans l7;have l5:=M.trans l6;have l4:=L.trans l5;have l3:=I.trans l4;have l2:=H.trans l3;have va:cF c z [nV 1,nV 7]:=NL (r3.mono l4) bf;have vb:cF c J [nV 2,nV 7]:=NL (r4.mono l5) bf;have vc:cF c rc [nV 3,nV 7]:=NL (r5.mono l6) bf;have vd:cF c rd [nV 9,nV 7]:=NL (r6.mono l7) bf
 have rq:bU c nQ ⟨9,0,fT,bR,bR,gr,bR,1,qm⟩:=kW.rep ⟨rfl,rfl,DN c,pF c,uT c,⟨xc.mono B,bf⟩,uS c,rfl,DS (v:=⟨7,0,fT,bR,bR,bR,bR,0,qs⟩) xd (kW.rep ⟨rfl,rfl,DN c,pF c,uT c,pF c,uS c,rfl,⟨⟨[⟨1,0,fT,bR,bR,bR,bR,0,bR⟩,⟨1,1,fT,bR,bR,bR,bR,0,bR⟩],r9.mono la,rfl,λi x e=>by
  match i,e with
  |0,e=>simp at e;subst e;exact⟨_,rfl,AS c 0⟩
  |1,e=>simp at e;subst e;exact⟨_,rfl,AS c 1⟩
  |i+2,e=>simp at e⟩,bf⟩⟩)⟩
 have rS:gZ c nS ⟨0,tabs⟩:=⟨rfl,⟨⟨[⟨nT1.name,c1,1,bR,bR⟩,⟨nT2.name,c2,1,bR,bR⟩],xa.mono lb,rfl,λi x e=>by
  match i,e with
  |0,e=>simp[nS]at e;subst e;exact⟨_,rfl,⟨rfl,HY (l:=RE) (r1.mono l2) bg,rfl,bY.nil _ _ _ _,bY.nil _ _ _ _⟩⟩
  |1,e=>simp[nS]at e;subst e;exact⟨_,rfl,⟨rfl,HY (l:=RE) (r2.mono l3) bg,rfl,bY.nil _ _ _ _,bY.nil _ _ _ _⟩⟩
  |i+2,e=>simp[nS]at e⟩,by simp[nS]⟩⟩
 have t1:Rows c ta nR1:=NM (us:=[z,J,rc]) (r7.mono l8) rfl (λi x e=>by
  match i,e with
  |0,e=>simp[nR1]at e;grind
  |1,e=>simp[nR1]at e;grind
  |2,e=>simp[nR1]at e;grind
  |i+3,e=>simp[nR1]at e) bg
 have t2:Rows c tb nR2:=NM (us:=[z,rd]) (r8.mono l9) rfl (λi x e=>by
  match i,e with
  |0,e=>simp[nR2]at e;grind
  |1,e=>simp[nR2]at e;grind
  |i+2,e=>simp[nR2]at e) bg
 have V:Qw c A X4:=⟨⟨⟨[ta,tb],xb.mono lc,rfl,λi x e=>by
  match i,e with
  |0,e=>simp[X4]at e;grind
  |1,e=>simp[X4]at e;grind
  |i+2,e=>simp[X4]at e⟩,by simp[X4]⟩,by simp[X4],λl f r C v F=>by
   have:∃n,v=nV n:=by
    simp[X4]at f;rcases f with rfl|rfl<;>simp[nR1,nR2]at C
    .grind
    grind
   have hn:vZ v.kind/\vZ v.int:=by
    simp[X4]at f;rcases f with rfl|rfl<;>simp[nR1,nR2]at C
    .rcases C with rfl|rfl|rfl<;>simp at F<;>rcases F with rfl|rfl<;>exact⟨by constructor<;>decide,by constructor<;>decide⟩
    .rcases C with rfl|rfl<;>simp at F<;>rcases F with rfl|rfl<;>exact⟨by constructor<;>decide,by constructor<;>decide⟩
   exact hn⟩
 have D:(dZ nS [] nQ).2=0:=by rw[cyZ]
 refine⟨⟨0,tabs⟩,A,⟨9,0,fT,bR,bR,gr,bR,1,qm⟩,nS,X4,nQ,rfl,rS,V,rq,rfl,ht,λ_=>bPX,cpQ,λl f=>by
  have f:l∈X4:=f;simp[X4]at f;rcases f with rfl|rfl<;>decide,λs' he o f=>⟨⟨0,tabs⟩,⟨9,0,fT,bR,bR,gr,bR,1,qm⟩,nS,nQ,rfl,rS.mono o,rq.mono o,D,λv' hf g _ ho=>?_⟩⟩
 have f:=f D;rw[cpX]at f;have f:=bY.mono f g λ_ _ x=>bY.mono x g λ_ _ y=>cF.mono y g;have E:=bY.slen f;have E:s'.len=2:=E;obtain⟨b1,o1,u1,W,X,Y⟩:=bY.at f (i:=0) rfl;obtain⟨b2,o2,u2,Z,a',a0⟩:=bY.at f (i:=1) rfl;have j:=o.trans g
 refine aC (λ_=>aC (λ_=>aC (λ_=>⟨b1,o1,W,aD,aD,u1,.imm (by simpa[eS]using X),λs1 hg d rg=>⟨u1,s1,[[nV 1,nV 7],[nV 2,nV 7]],[[nV 1,nV 7],[nV 2,nV 7]],rfl,bY.mono Y d λ_ _ y=>cF.mono y d,NM (us:=[z,J]) rg rfl (λi x e=>by
  match i,e with
  |0,e=>simp at e;subst e;exact⟨_,rfl,va.mono (j.trans d)⟩
  |1,e=>simp at e;subst e;exact⟨_,rfl,vb.mono (j.trans d)⟩
  |i+2,e=>simp at e) bg,λr C=>aC (λ_=>⟨b2,o2,Z,aD,aD,u2,.imm (by simpa[eS]using a'.mono d),λs2 hh u rh=>⟨u2,s2,[[nV 1,nV 7]],[[nV 1,nV 7]],rfl,bY.mono a0 (d.trans u) λ_ _ y=>cF.mono y (d.trans u),NM (us:=[z]) rh rfl (λi x e=>by
   match i,e with
   |0,e=>simp at e;subst e;exact⟨_,rfl,va.mono ((j.trans d).trans u)⟩
   |i+1,e=>simp at e) bg,λr2 a1=>?_⟩⟩) (λe=>?_)⟩⟩) (λe=>?_)) (λe=>?_)) (λe=>?_)
 .rw[a1.2 rfl];exact .out (Sub.refl m) (((((G.trans l2).trans o).trans g).trans d).trans u) hK
 .grind
 .grind
 .rw[ho,cpZ]at e;cases e
 .grind
def adX:Vc.Spec:=λc m h K=>∃cb,c=[cP cb]/\aL m h cb/\∀n m',bF m m' cb->aL m' h cb->K (cI n) m' h
def cGQ:Vc.Spec:=λc m h K=>∃cb,c=[cP cb]/\aL m h cb/\∀v m',bF m m' cb->aL m' h cb->K (aV v) m' h
def MJ(p:Pred):Prop:=(nF p).length<=1000000000
def cDQ(N:Nat):Vc.Spec:=λc m h K=>∃cb v p,c=[cP cb,aP v]/\aL m h cb/\dD h p v/\MJ p/\SizeOf.sizeOf p<N/\∀e d m' h',PH.le h h'->dD h' e d->bF m m' cb->aL m' h' cb->K (aP d) m' h'
def cDX:Vc.Spec:=λc m h K=>∃cb v p,c=[cP cb,aP v]/\aL m h cb/\dD h p v/\MJ p/\∀e d m' h',PH.le h h'->dD h' e d->bF m m' cb->aL m' h' cb->K (aP d) m' h'
noncomputable def f51_ctx(N:Nat)(cb:Nat)(v:PV)(h:PH):Ctx:=
 sN [(12,Ic),(13,QX),(50,adX),(54,cGQ),(51,cDQ N)]
  [(28,{A:=Nat×PV×MH×PH,st:=λ⟨i,w,m,h⟩=>bQ 111 113 [(3,.at (.ptr 3 0)),(4,.at (.ptr 4 0)),(7,iv i)] [(3,.cells 32 (w.enc.map .val)),(4,.cells 32 (fT.enc.map .val))] m h}),
   (9,{A:=Nat×PV×MH×PH,st:=λ⟨i,w,m,h⟩=>bQ 111 113 [(3,.at (.ptr 3 0)),(4,.at (.ptr 4 0)),(8,iv i)] [(3,.cells 32 (w.enc.map .val)),(4,.cells 32 (fT.enc.map .val))] m h})]
  [(7,{A:=Nat×MH,st:=λ⟨_,m⟩=>bQ 111 113 [(0,pv cb),(3,.at (.ptr 3 0)),(4,.at (.ptr 4 0))] [(3,.cells 32 (v.enc.map .val)),(4,.cells 32 (fT.enc.map .val))] m h})] [] [3030,100056,100108] [] false
def aj(cb:Nat)(m:MH)(h:PH)(K:bz):Prop:=
  iZ cb 6 m h (λk c=>cW (k==0) (K (fX (Int.negSucc 0)) c h) (k==1) (K (fX 9223372036854775807) c h) (cW (k==2) (K (fX (Int.negSucc 9223372036854775807)) c h) (k==3) (iZ cb 3 c h (λd e=>K (fX (fH (100+d))) e h)) (iZ cb 6 c h (λd e=>K (fX d) e h))))
def ak(cb:Nat)(m:MH)(h:PH)(K:bz):Prop:=
  iZ cb 5 m h (λk d=>aZ (fH (1+k)) 3 (K (lS (aM (eF (fH (1+k))) dE (oK XH))) d h) (IK (λc f=>aA (aW (iD cb) (fH (1+k))=aW (iD c) f) (aL d h c) (∀(v:VV)(e:MH),Re v->Xy f v->bF d e c->aL e h c->K (mF v) e h))))
noncomputable abbrev jZ(a:Nat×PV×MH×PH):PV:=a.2.1
noncomputable abbrev AE(a:Nat×PV×MH×PH):Nat->Nat->Option Value:=a.2.2.2
attribute [push_cast] jZ AE
def am(N:Nat)(cb:Nat)(v:PV)(m:MH)(h:PH)(K:bz):Prop:=
  ∃(I:Nat×MH->Prop),fA (nI v) 0 (oV cb 2 m h (λc=>c) (λc r=>∀(g:MH),bF m g c->aL g h c->branch r (Bm ((0:Nat)=0) (λx=>EA (jI 13 x) (cD h sA 13 x) (λy=>j6 13 y (mJ g h (iA v.args.a v.args) 13 y) ((none:Option Addr)=Option.none\/0<y.length) (oL x y 136) (oF x y/\iZ cb (jH (x++y)) g h (λk f=>nZ k (k<jH (x++y)) (λe=>mQ (x++y) k e/\∃(E:PV),qB 13 e E.enc/\∃(B:Nat),pV (λz p=>aA (cV (iD cb) (cQ E)=cV (iD B) (cQ z)) (aL f h B) (aA (dD h p z) (MJ p) (pS p N/\∀(F:Pred)(j:PV),gA (λC u=>cC h u (dD u F j) (bF f C B->aL C u B->nZ k (k<jH (x++y)) (λD=>aA (mQ (x++y) k D) (13<=D.length) (bO u 13
 (List.set (x++y) k.toNat (aM (eF j.op) (eF j.cmp) (aM (sW j) (sX j) (aM (j7 j.left) (rU j) (aM (rV j) (rW j) (aM (tA j) (tB j) (aM (tC j) (tD j) (uK (fK j.args) 13 D)))))))) (λs G=>K (lS (aM (eF v.op) (eF v.cmp) (aM (sW v) (sX v) (aM (j7 v.left) (rU v) (aM (rV v) (rW v) (aM (tA v) (tB v) (aM (tC v) (tD v) (bA s)))))))) C G)))))))))))))) (∃(x:Nat×MH),aA (I x) (cR cb) (aA bV i6 (aA (gS v) mN (aA (g=x.2) (h=h) True)))))) (∃(x:Nat×MH),aA (I x) (cR cb) (aA bV i6 (aA (gS v) mN (aA (m=x.2) (h=h) True))))/\∀(x:Nat×MH),I x->iZ cb 9 x.2 h (λk g=>cW (k==0) (wS cb g h (λc n=>∀(f:MH),bF g f c->aL f h c->K (lS (aM (eF n) (eF
 v.cmp) (aM (sW v) (sX v) (aM (j7 v.left) (rU v) (aM (rV v) (rW v) (aM (tA v) (tB v) (aM (tC v) (tD v) (bA v.args)))))))) f h)) (k==1) (wS cb g h (λc n=>∀(f:MH),bF g f c->aL f h c->K (lS (aM (eF v.op) (eF n) (aM (sW v) (sX v) (aM (j7 v.left) (rU v) (aM (rV v) (rW v) (aM (tA v) (tB v) (aM (tC v) (tD v) (bA v.args)))))))) f h)) (cW (k==2) (wS cb g h (λc n=>∀(f:MH),bF g f c->aL f h c->K (lS (aM (eF v.op) (eF v.cmp) (aM (eF n) (sX v) (aM (j7 v.left) (rU v) (aM (rV v) (rW v) (aM (tA v) (tB v) (aM (tC v) (tD v) (bA v.args)))))))) f h)) (k==3) (wS cb g h (λc n=>∀(f:MH),bF g f c->aL f h c->K (lS (aM (eF v.op) (eF v.cmp) (aM
 (sW v) (eF n) (aM (j7 v.left) (rU v) (aM (rV v) (rW v) (aM (tA v) (tB v) (aM (tC v) (tD v) (bA v.args)))))))) f h)) (cW (k==4) (∃(c:Nat),aA (oB (iD cb)=oB (iD c)) (aL g h c) (∀(z:VV)(f:MH),bF g f c->aL f h c->K (lS (aM (eF v.op) (eF v.cmp) (aM (sW v) (sX v) (aM (j7 v.left) (rU v) (aM (rV v) (rW v) (aM (tA v) (eF z.kind) (aM (eF z.int) (Value.string z.text) (bA v.args)))))))) f h)) (k==5) (wS cb g h (λc n=>∀(f:MH),bF g f c->aL f h c->K (lS (aM (eF v.op) (eF v.cmp) (aM (sW v) (sX v) (aM (j7 v.left) (rU v) (aM (rV v) (rW v) (aM (eF n) (tB v) (aM (tC v) (tD v) (bA v.args)))))))) f h)) (cW (k==6) (Bm ((0:Nat)=0) (λd=>EA (jI 13
 d) (cD h sA 13 d) (λy=>j6 13 y (mJ g h (iA v.args.a v.args) 13 y) ((none:Option Addr)=Option.none\/0<y.length) (oL d y 136) (aA (oF d y) (fC (iY (d++y) 1*136)) (jQ (d++y)/\bO h 13 (eN (d++y) (Fb (eF 1) iS)) (λs u=>K (lS (aM (eF v.op) (eF v.cmp) (aM (sW v) (sX v) (aM (j7 v.left) (rU v) (aM (rV v) (rW v) (aM (tA v) (tB v) (aM (tC v) (tD v) (bA s)))))))) g u)))))) (k==7) (∃(I1:Nat×PV×MH×PH->Prop)(f:Nat×PV×MH×PH->Nat),(∃(d:Nat×PV×MH×PH),aA (I1 d) bV (aA i6 (bB d.1) (aA (nL 32 v.enc=nL 32 (jZ d).enc) mN (aA (bH g d.2.2) (h=AE d) True))))/\∀(d:Nat×PV×MH×PH),I1 d->aZ (↑d.1:Int) 8 (bO (AE d) 13 (kP (jZ d).enc) (λs u
 =>∃(o:Nat×PV×MH×PH),aA (I1 o) (f o<f d) (aA bV i6 (aA (bD (fZ (bE d.1 1)) o.1) (He (Hq 6 0 (vK s)) (jZ o)) (aA mN (bH d.2.2.1 o.2.2) (bN u (AE o))))))) (K (cQ (jZ d)) d.2.2.1 (AE d))) (∃(I1:Nat×PV×MH×PH->Prop)(f:Nat×PV×MH×PH->Nat),(∃(d:Nat×PV×MH×PH),aA (I1 d) bV (aA i6 (bB d.1) (aA (nL 32 v.enc=nL 32 (jZ d).enc) mN (aA (bH g d.2.2) (h=AE d) True))))/\∀(d:Nat×PV×MH×PH),I1 d->aZ (↑d.1:Int) 24 (aA (bZ (nI (jZ d))) (nI (jZ d)<=nI (jZ d)) (aA (nI (jZ d)<=(↑(jZ d).args.cap:Int)) ((nI (jZ d)).toNat=(nI (jZ d)).toNat) (∃(o:List bx),j6 13 o (cD (AE d) (Sl.mk (jZ d).args.a (nI (jZ
 d)).toNat (nI (jZ d)).toNat) 13 o) ((jZ d).args.a=Option.none\/(0:Nat)<1) (fC (iY o 1*136)) (jQ o/\bO (AE d) 13 (eN o (Fb (eF 2) iS)) (λs u=>∃(A:Nat×PV×MH×PH),aA (I1 A) (f A<f d) (aA bV i6 (aA (bD (fZ (bE d.1 1)) A.1) (He (cO (gC (jZ d).op) (gC (jZ d).cmp) (cO (gC (jZ d).left.kind) (tJ (jZ d).left) (cO (tE (jZ d).left) (gC (xP (jZ d).left)) (cO (tF (jZ d).left) (gC (jZ d).right.kind) (cO (tJ (jZ d).right) (tE (jZ d).right) (cO (gC (xP (jZ d).right)) (tF (jZ d).right) (oD (vK s)))))))) (jZ A)) (aA mN (bH d.2.2.1 A.2.2) (bN u (AE A)))))))))) (K (cQ (jZ d)) d.2.2.1 (AE d)))))))
theorem OY:∀l:cr,l.length<=(lJ l).length
 |[]=>bf
 |.mk op c l r args::ps=>by
  have:=OY ps;have d:1<=(hX [op,c]).length:=by simp[hX];omega
  simp only[lJ,nF,length_cons,length_append];omega
theorem OZ{a:Pred}:∀{l:cr},a∈l->(nF a).length<=(lJ l).length
 |p::ps,h=>by
  simp only[lJ,length_append];rcases mem_cons.1 h with rfl|h
  .omega
  .have:=OZ h;omega
theorem MJ.len{op c:Int}{l r:OV}{args:cr}(h:MJ (.mk op c l r args)):args.length<=1000000000:=by
 have:=OY args;unfold MJ at h;simp only[nF,length_append]at h;omega
theorem MJ.arg{op c:Int}{l r:OV}{args:cr}(h:MJ (.mk op c l r args)){a:Pred}(d:a∈args):MJ a:=by
 have:=OZ d;unfold MJ at h⊢
 simp only[nF,length_append]at h;omega
theorem p8.snoc{ps:cr}{vs:dg}(x:p8 h ps vs){u:PV}(d:dD h p u):p8 h (ps++[p]) (vs++[u]):=by
 induction ps generalizing vs with
 |nil=>obtain rfl:vs=[]:=x;exact⟨u,[],rfl,d,rfl⟩
 |cons q ps e=>
  obtain⟨y,c,rfl,f,g⟩:=x;exact⟨y,c++[u],rfl,f,e g⟩
theorem p8.set{ps:cr}{vs:dg}(x:p8 h ps vs){u:PV}(f:dD h p u):p8 h (ps.set i p) (vs.set i u):=by
 induction ps generalizing vs i with
 |nil=>have e:vs=[]:=x;subst e;rfl
 |cons q ps g=>
  obtain⟨y,c,rfl,j,d⟩:=x;cases i with
  |zero=>exact⟨u,c,rfl,f,d⟩
  |succ i=>exact⟨y,c.set i u,rfl,j,g d⟩
theorem LA(l:dg):jI 13 (l.map PV.enc):=by
 refine⟨λx c=>?_,λx c v d=>?_⟩<;>obtain⟨p,_,rfl⟩:=mem_map.1 c
 .rfl
 .simp[PV.enc]at d;rcases d with h|h|h|h|h|h|h|h|h|h|h|h|h<;>(rw[h];rfl)
theorem an:bu 50 adX:=by
 refine hU func50 ?_;rintro j m h K ⟨cb,rfl,n,c⟩;refine⟨dA [(12,Ic)] [] [] [] false,rfl,aE IL aG,aj cb m h K,bd,?_⟩;dsimp only[aj,push_cast];refine⟨cb,6,rfl,n,λk u _ _ d e=>?_⟩;exact aC (λ_=>c _ _ d e) (λ_=>aC (λ_=>c _ _ d e) (λ_=>aC (λ_=>c _ _ d e) (λ_=>aC (λ_=>⟨cb,3,rfl,e,λk o _ _ f g=>c _ _ (d.trans f) g⟩) (λ_=>⟨cb,6,rfl,e,λk o _ _ f g=>c _ _ (d.trans f) g⟩))))
theorem ax:bu 54 cGQ:=by
 refine hU func54 ?_;rintro f m h K ⟨cb,rfl,g,c⟩;refine⟨dA [(12,Ic),(95,UK)] [] [] [] false,rfl,aE IL (aE LY aG),ak cb m h K,bd,?_⟩;dsimp only[ak,push_cast];refine⟨cb,5,rfl,g,λk u _ _ d e=>?_⟩;exact aC (λ_=>c ⟨_,0,⟨⟨[]⟩⟩⟩ _ d e) (λ_=>⟨cb,_,rfl,e,λv j _ _ n o=>c v j (d.trans n) o⟩)
theorem f51_all:∀N,bu 51 (cDQ N)
 |0=>by
  refine dU (fn:=Tryz.f51) (c:=bW Tryz.f51) func51 rfl bg ?_;rintro a' m h K ⟨cb,v,p,rfl,_,_,_,hN,_⟩;omega
 |N+1=>by
  refine hU func51 ?_;rintro a' m h K ⟨cb,v,p,rfl,hc,hr,hl,hN,E⟩;refine⟨f51_ctx N cb v h,rfl,aE IL (aE Cb (aE an (aE ax (aE (f51_all N) aG)))),am N cb v m h K,bd,?_⟩;dsimp only[am,push_cast];have G:=@wX p;obtain⟨op,B,l,r,args⟩:=p;obtain⟨V,W,X,Y,h5,C,row,rep⟩:=hr;have a1:=hl.len;have a2:=rep.length;have a3:v.args.len=args.length:=by have:=row.len;simp at this;omega
  have I:∀(o c:Int)(L M:OV),dD h (.mk o c L M args) ⟨o,c,L,M,v.args⟩:=λ_ _ _ _=>⟨rfl,rfl,rfl,rfl,h5,C,row,rep⟩
  refine⟨λx=>bF m x.2 cb/\aL x.2 h cb,aF (λO=>⟨cb,2,rfl,aD,aD,hc,λr1 m1 P Q=>aC (λ_=>?_) (λ_=>⟨(0,m1),⟨P,Q⟩,MT⟩)⟩) (λ_=>⟨(0,m),⟨.refl _ _,hc⟩,MT⟩),?_⟩
  .refine⟨rfl,[],⟨bf,bf⟩,cD.nil _ _,C.map PV.enc,LA C,.imm row,.inl rfl,bj,bj,cb,_,rfl,Q,λk J k0 k1 j D=>?_⟩;have hk:k.toNat<args.length:=by simp at k1;omega
   obtain⟨a,ha⟩:∃a,args[k.toNat]? =some a:=⟨_,getElem?_eq_getElem hk⟩
   obtain⟨u,hu,ru⟩:=rep.get ha;have hm:=mem_of_getElem? ha;have:=G (q:=a) hm;have he:([]++C.map PV.enc)[k.toNat]? =some (PV.enc u):=by rw[nil_append,getElem?_map,hu];rfl
   have R:k<((([]:List bx)++C.map PV.enc).length:Int):=bj
   refine⟨k0,R,_,he,u,rfl,cb,u,a,rfl,D,ru,hl.arg hm,aD,λp' v' y hA S r3 z A=>⟨k0,R,_,he,by simp[PV.enc],λs H d rs=>?_⟩⟩;refine E (.mk op B l r (args.set k.toNat p')) ⟨v.op,v.cmp,v.left,v.right,s⟩ y H (S.trans d) ⟨V,W,X,Y,bj,C.set k.toNat v',by rw[map_set];exact rs,(p8.mono (S.trans d) rep).set (r3.mono d)⟩ ((P.trans j).trans z) (A.mono d)
  .rintro⟨_,m1⟩ ⟨P,Q⟩;dsimp only at P Q⊢
   refine⟨cb,9,rfl,Q,λk J _ _ j D=>?_⟩;have j:=P.trans j;refine aC (λ_=>⟨cb,rfl,D,λn y z A=>E _ _ y h (.refl _) (I n v.cmp v.left v.right) (j.trans z) A⟩) (λ_=>?_);refine aC (λ_=>⟨cb,rfl,D,λn y z A=>E _ _ y h (.refl _) (I v.op n v.left v.right) (j.trans z) A⟩) (λ_=>?_);refine aC (λ_=>⟨cb,rfl,D,λn y z A=>E _ _ y h (.refl _) (I v.op v.cmp ⟨n,v.left.index,v.left.value⟩ v.right) (j.trans z) A⟩) (λ_=>?_);refine aC (λ_=>⟨cb,rfl,D,λn y z A=>E _ _ y h (.refl _) (I v.op v.cmp ⟨v.left.kind,n,v.left.value⟩ v.right) (j.trans z) A⟩) (λ_=>?_);refine aC (λ_=>⟨cb,rfl,D,λn y z A=>E _ _ y h (.refl _) (I v.op v.cmp v.left ⟨v.right.kind,v.right.index,n⟩) (j.trans z) A⟩) (λ_=>?_);refine aC (λ_=>⟨cb,rfl,D,λn y z A=>E _ _ y h (.refl _) (I v.op v.cmp v.left ⟨v.right.kind,n,v.right.value⟩) (j.trans z) A⟩) (λ_=>?_);refine aC (λ_=>?_) (λ_=>aC (λ_=>?_) (λ_=>?_))
   .refine⟨rfl,[],⟨bf,bf⟩,cD.nil _ _,C.map PV.enc,LA C,.imm row,.inl rfl,bj,bj,bj,bj,λs H d rs=>?_⟩;exact E (.mk op B l r (args++[.mk 1 0 dH dH []])) ⟨v.op,v.cmp,v.left,v.right,s⟩ J H d ⟨V,W,X,Y,bj,C++[⟨1,0,dH,dH,bR⟩],by rw[map_append];exact rs,(p8.mono d rep).snoc (p:=.mk 1 0 dH dH []) (u:=⟨1,0,dH,dH,bR⟩) ⟨rfl,rfl,rfl,rfl,bf,[],cD.nil _ _,rfl⟩⟩ j (D.mono d)
   .refine⟨λx=>x.1<=8/\∃q,dD x.2.2.2 q x.2.1/\x.2.2.1=J/\PH.le h x.2.2.2,λx=>8-x.1,⟨(0,v,J,h),⟨bf,.mk op B l r args,⟨V,W,X,Y,h5,C,row,rep⟩,rfl,.refl _⟩,MT⟩,?_⟩;rintro⟨i,w,T,hx⟩ ⟨hi,q,rq,rfl,lex⟩;dsimp only at hi rq lex⊢
    refine aF (λO=>λs H d rs=>?_) (λ_=>E q w T hx lex rq j (D.mono lex));rw[jO aD];exact⟨(i+1,⟨6,0,dH,dH,s⟩,T,H),⟨br,.mk 6 0 dH dH [q],⟨rfl,rfl,rfl,rfl,bf,[w],rs,w,[],rfl,rq.mono d,rfl⟩,rfl,lex.trans d⟩,bo,MT⟩
   .refine⟨λx=>x.1<=24/\(∃op B l r args,dD x.2.2.2 (.mk op B l r args) x.2.1/\args.length<=1000000000+x.1)/\x.2.2.1=J/\PH.le h x.2.2.2,λx=>24-x.1,⟨(0,v,J,h),⟨bf,⟨_,_,_,_,_,⟨V,W,X,Y,h5,C,row,rep⟩,bj⟩,rfl,.refl _⟩,MT⟩,?_⟩;rintro⟨i,w,T,hx⟩ ⟨hi,⟨U,F,L,M,f,⟨g1,g2,g3,g4,g5,Z,e,g⟩,a0⟩,rfl,lex⟩;dsimp only at hi e g a0 lex g1 g2 g3 g4⊢
    have a4:=g.length;have a5:w.args.len=f.length:=by have:=e.len;simp at this;omega
    refine aF (λO=>?_) (λ_=>E (.mk U F L M f) w T hx lex ⟨g1,g2,g3,g4,g5,Z,e,g⟩ j (D.mono lex));refine⟨aD,aD,by have:=e.cap;omega,rfl,Z.map PV.enc,LA Z,⟨by have:=e.len;simp at this⊢;omega,e.row,Nat.le_refl _⟩,.inr aD,bj,bj,λs H d rs=>?_⟩;rw[jO aD];exact⟨(i+1,⟨w.op,w.cmp,w.left,w.right,s⟩,T,H),⟨br,⟨U,F,L,M,f++[.mk 2 0 dH dH []],⟨g1,g2,g3,g4,bj,Z++[⟨2,0,dH,dH,bR⟩],by rw[map_append];exact rs,(p8.mono d g).snoc (p:=.mk 2 0 dH dH []) (u:=⟨2,0,dH,dH,bR⟩) ⟨rfl,rfl,rfl,rfl,bf,[],cD.nil _ _,rfl⟩⟩,bj⟩,rfl,lex.trans d⟩,bo,MT⟩
theorem ay:bu 51 cDX:=gW f51_all λ_ _ _ _⟨cb,v,p,e,c,d,f,g⟩=>⟨SizeOf.sizeOf p+1,cb,v,p,e,c,d,f,aD,g⟩
structure p9(m0 m:MH)(h:PH)(w:Pred)(co:ca)(on:ce)(gr:ca)(od:cg)(args:ci)(v:QV)(us:db):Prop where
 where_:dD h w v.where_
 columns_:jJ m0 m v.columns 3 1 (co.map eI)
 on_:jJ m0 m v.on 101 2 (on.map kX)
 group_:jJ m0 m v.group 3 1 (gr.map eI)
 order_:jJ m0 m v.order 103 2 (od.map rN)
 args_:jJ m0 m v.args 38 21 (us.map QV.enc)
 apart:∀b i j,v.columns.a=some ⟨b,i,none⟩->v.group.a≠some ⟨b,j,none⟩
 rep:rD h args us
 lco:co.length<=2000000000
 lon:on.length<=2000000000
 lgr:gr.length<=2000000000
 lod:od.length<=2000000000
 lar:args.length<=2000000000
theorem jJ.off{m0:MH}{s t g:Sl}{E E':TypeId}{c:Nat}{n:List bx}(r:jJ m0 m s E sz xs)(x:eD m m' t g E' c n)(d:∀b i j,s.a=some ⟨b,i,none⟩->t.a≠some ⟨b,j,none⟩):jJ m0 m' s E sz xs:=by
 refine⟨dC.keep r.row (λb i e=>?_),r.fresh⟩;obtain⟨o,f⟩:=dC.blk r.row e;rw[f];exact x.other b _ f (λj=>d b i j e)
theorem jJ.ne{m0:MH}{s t:Sl}{E E':TypeId}{c:Nat}{g:List bx}(r:jJ m0 m s E sz xs)(q:jJ m0 m t E' c g)(n:E≠E'):∀b i j,s.a=some ⟨b,i,none⟩->t.a≠some ⟨b,j,none⟩:=λb i j e o=>by
 obtain⟨u,x⟩:=dC.blk r.row e;obtain⟨f,d⟩:=dC.blk q.row o;rw[x]at d;simp only[Option.some.injEq,Obj.cells.injEq]at d;exact n d.2.1
theorem jJ.up{m0:MH}{s d:Sl}{E:TypeId}{f:List bx}(r:jJ m0 m s E sz xs)(x:eD m m' s d E sz f)(k:∀b o,m0 b=some o->m b=some o\/∃o',m b=some o'):jJ m0 m' d E sz f:=
 ⟨x.row,λb i e=>by
  rcases x.fresh b i e with c|⟨j,c⟩
  .cases g:m0 b with
   |none=>rfl
   |some o=>rcases k b o g with h|⟨_,h⟩<;>(rw[c]at h;cases h)
  .exact r.fresh b j c⟩
def Ie(m0 m:MH):Prop:=∀b o,m0 b=some o->∃c,m b=some c
theorem Ie.grown{m0:MH}{s d:Sl}{E:TypeId}{f:List bx}(k:Ie m0 m)(x:eD m m' s d E sz f)(r:jJ m0 m s E sz xs):Ie m0 m':=λb o e=>by
 obtain⟨c,h⟩:=k b o e;exact⟨c,x.other b c h λi g=>by rw[r.fresh b i g]at e;cases e⟩
theorem Kept.held{m0:MH}(k:Kept m0 m cb)(c:aL m h cb):Ie m0 m:=λb o e=>by
 by_cases d:b=cb
 .obtain⟨g,f⟩:=c.blk;exact⟨_,by rw[d];exact f⟩
 .exact⟨o,k b o e d⟩
theorem jJ.put{m0 n:MH}{w:Sl}{us:db}{t:Nat}(x:jJ m0 n w 38 21 (us.map QV.enc))(B:t<us.length):∃b,w.a=some ⟨b,0,none⟩/\t<w.len/\(∃c,n b=some (.cells c 38 (0,0)))/\∃(cs:Array Value)(F:TypeId),Ib n b (.cells cs F (0,0))/\0+t*21+21<=cs.size/\∀u m',iL n m' b (.cells ⟨splice cs.toList (0+t*21) (QV.enc u)⟩ F (0,0))->jJ m0 m' w 38 21 ((us.set t u).map QV.enc):=by
 have d:∀u:QV,(QV.enc u).length=21:=λu=>rfl;rcases x.row.ex with⟨rfl,e⟩|⟨b,f,c,rfl,C,o,y,z,g⟩
 .have D:=congrArg List.length e;rw[length_map,length_nil]at D;omega
 .rw[length_map]at o;have A:c.toList.length=f*21:=by rw[Array.length_toList];exact z
  refine⟨b,rfl,by show t<(us.map QV.enc).length;rw[length_map];exact B,⟨c,C⟩,c,38,⟨C⟩,aD,λu m' E=>⟨⟨F7 _,.inr ⟨b,f,⟨splice c.toList (0+t*21) (QV.enc u)⟩,bf,E.at_,bj,y,?_,?_⟩⟩,x.fresh⟩⟩
  .show(splice c.toList (0+t*21) (QV.enc u)).length=f*21;rw[wC _ _ _ (by rw[d];omega)];exact A
  .show(splice c.toList (0+t*21) (QV.enc u)).take _=_;rw[length_map,length_set,F0 _ _ _ _ (by rw[d];omega) aD];rw[length_map]at g;have G:(us.map QV.enc)[t]? =some (QV.enc us[t]):=by rw[getElem?_map,getElem?_eq_getElem B];rfl
   have j:=Go.Vc.flatten_set (off:=0) (l:=QV.enc u) (F7 us).len G (by rw[d,d];omega);rw[Nat.add_zero,show splice (QV.enc us[t]) 0 (QV.enc u)=QV.enc u from rfl]at j;rw[g,Nat.zero_add,map_set];exact j
theorem jJ.upd{m0:MH}{s:Sl}{E E':TypeId}{c:Array Value}{o:Obj}(r:jJ m0 m s E sz xs)(g:m b=some (.cells c E' (0,0)))(j:iL m m' b o)(n:E≠E'):jJ m0 m' s E sz xs:=
 ⟨dC.keep r.row λu i e=>j.other u λx=>by
  obtain⟨f,d⟩:=dC.blk r.row e;rw[x,g]at d;simp only[Option.some.injEq,Obj.cells.injEq]at d;exact n d.2.1.symm,r.fresh⟩
section
variable{m0 m m':MH}{h h':PH}{cb:Nat}{w:Pred}{co gr:ca}{on:ce}{od:cg}{args:ci}{v:QV}{us:db}
theorem p9.mono(x:p9 m0 m h w co on gr od args v us)(le:PH.le h h'):p9 m0 m h' w co on gr od args v us:=
 {x with where_:=x.where_.mono le,rep:=rD.mono le x.rep}
theorem p9.move(x:p9 m0 m h w co on gr od args v us)(o:bF m m' cb)(c:aL m h' cb):p9 m0 m' h w co on gr od args v us:=
 {x with columns_:=x.columns_.on o c bg,on_:=x.on_.on o c bg,group_:=x.group_.on o c bg,order_:=x.order_.on o c bg,args_:=x.args_.on o c bg}
theorem p9.ice(x:p9 m0 m h w co on gr od args v us)(d:Bs m h):bU (oO m0 m h) (.mk v.op v.table w co on gr od v.limit args) v:=
 ⟨rfl,rfl,x.where_.mono (zB d),⟨x.columns_.ice,by have:=x.lco;omega⟩,⟨x.on_.ice,by have:=x.lon;omega⟩,⟨x.group_.ice,by have:=x.lgr;omega⟩,⟨x.order_.ice,by have:=x.lod;omega⟩,rfl,by have:=x.lar;omega,us,x.args_.ice,rD.mono (zB d) x.rep⟩
theorem p9.columns(x:p9 m0 m h w co on gr od args v us)(k:Ie m0 m){s:Sl}{n:Int}(c:eD m m' v.columns s 3 1 (co.map eI++[eI n]))(A:co.length<=1000000000):p9 m0 m' h w (co++[n]) on gr od args {v with columns:=s} us/\Ie m0 m':=by
 have u:∀b i j,s.a=some ⟨b,i,none⟩->v.group.a≠some ⟨b,j,none⟩:=by
  intro b i j e d;rcases c.fresh b i e with f|⟨y,f⟩
  .obtain⟨z,g⟩:=dC.blk x.group_.row d;rw[f]at g;cases g
  .exact x.apart b y j f d
 exact⟨{x with columns_:=by rw[map_append];exact x.columns_.up c (λb o e=>.inr (k b o e)),on_:=x.on_.off c (x.on_.ne x.columns_ bg),group_:=x.group_.off c (λb i j e d=>x.apart b j i d e),order_:=x.order_.off c (x.order_.ne x.columns_ bg),args_:=x.args_.off c (x.args_.ne x.columns_ bg),lco:=bj,apart:=u},k.grown c x.columns_⟩
theorem p9.group(x:p9 m0 m h w co on gr od args v us)(k:Ie m0 m){s:Sl}{n:Int}(c:eD m m' v.group s 3 1 (gr.map eI++[eI n]))(A:gr.length<=1000000000):p9 m0 m' h w co on (gr++[n]) od args {v with group:=s} us/\Ie m0 m':=by
 have g:∀b i j,v.columns.a=some ⟨b,i,none⟩->s.a≠some ⟨b,j,none⟩:=by
  intro b i j e u;rcases c.fresh b j u with d|⟨y,d⟩
  .obtain⟨z,f⟩:=dC.blk x.columns_.row e;rw[d]at f;cases f
  .exact x.apart b i y e d
 exact⟨{x with group_:=by rw[map_append];exact x.group_.up c (λb o e=>.inr (k b o e)),on_:=x.on_.off c (x.on_.ne x.group_ bg),columns_:=x.columns_.off c x.apart,order_:=x.order_.off c (x.order_.ne x.group_ bg),args_:=x.args_.off c (x.args_.ne x.group_ bg),lgr:=bj,apart:=g},k.grown c x.group_⟩
theorem p9.onE(x:p9 m0 m h w co on gr od args v us)(k:Ie m0 m){s:Sl}{p:Int×Int}(c:eD m m' v.on s 101 2 (on.map kX++[kX p]))(d:on.length<=1000000000):p9 m0 m' h w co (on++[p]) gr od args {v with on:=s} us/\Ie m0 m':=
 ⟨{x with on_:=by rw[map_append];exact x.on_.up c (λb o e=>.inr (k b o e)),columns_:=x.columns_.off c (x.columns_.ne x.on_ bg),group_:=x.group_.off c (x.group_.ne x.on_ bg),order_:=x.order_.off c (x.order_.ne x.on_ bg),args_:=x.args_.off c (x.args_.ne x.on_ bg),lon:=bj},k.grown c x.on_⟩
theorem p9.orderE(x:p9 m0 m h w co on gr od args v us)(k:Ie m0 m){s:Sl}{p:Int×Bool}(c:eD m m' v.order s 103 2 (od.map rN++[rN p]))(d:od.length<2000000000):p9 m0 m' h w co on gr (od++[p]) args {v with order:=s} us/\Ie m0 m':=
 ⟨{x with order_:=by rw[map_append];exact x.order_.up c (λb o e=>.inr (k b o e)),columns_:=x.columns_.off c (x.columns_.ne x.order_ bg),group_:=x.group_.off c (x.group_.ne x.order_ bg),on_:=x.on_.off c (x.on_.ne x.order_ bg),args_:=x.args_.off c (x.args_.ne x.order_ bg),lod:=bj},k.grown c x.order_⟩
theorem rD.snoc{ps:ci}{vs:db}(x:rD h ps vs){p:Query}{u:QV}(d:bU h p u):rD h (ps++[p]) (vs++[u]):=by
 induction ps generalizing vs with
 |nil=>obtain rfl:vs=[]:=x;exact⟨u,[],rfl,d,rfl⟩
 |cons q ps e=>
  obtain⟨y,c,rfl,f,g⟩:=x;exact⟨y,c++[u],rfl,f,e g⟩
theorem p9.argsE(x:p9 m0 m h w co on gr od args v us)(k:Ie m0 m){s:Sl}{p:Query}{u:QV}(d:bU h p u)(c:eD m m' v.args s 38 21 (us.map QV.enc++[QV.enc u]))(f:args.length<=1000000000):p9 m0 m' h w co on gr od (args++[p]) {v with args:=s} (us++[u])/\Ie m0 m':=
 ⟨{x with args_:=by rw[map_append];exact x.args_.up c (λb o e=>.inr (k b o e)),columns_:=x.columns_.off c (x.columns_.ne x.args_ bg),group_:=x.group_.off c (x.group_.ne x.args_ bg),on_:=x.on_.off c (x.on_.ne x.args_ bg),order_:=x.order_.off c (x.order_.ne x.args_ bg),rep:=x.rep.snoc d,lar:=bj},k.grown c x.args_⟩
theorem rD.set{ps:ci}{vs:db}(x:rD h ps vs){p:Query}{u:QV}(f:bU h p u):rD h (ps.set i p) (vs.set i u):=by
 induction ps generalizing vs i with
 |nil=>have e:vs=[]:=x;subst e;rfl
 |cons q ps g=>
  obtain⟨y,c,rfl,j,d⟩:=x;cases i with
  |zero=>exact⟨u,c,rfl,f,d⟩
  |succ i=>exact⟨y,c.set i u,rfl,j,g d⟩
theorem p9.put(x:p9 m0 m h w co on gr od args v us)(k:Ie m0 m)(j:i<args.length):∃b,v.args.a=some ⟨b,0,none⟩/\i<v.args.len/\∃(cs:Array Value)(F:TypeId),Ib m b (.cells cs F (0,0))/\0+i*21+21<=cs.size/\∀q u m',bU h q u->iL m m' b (.cells ⟨splice cs.toList (0+i*21) (QV.enc u)⟩ F (0,0))->p9 m0 m' h w co on gr od (args.set i q) v (us.set i u)/\∀d o,m0 d=some o->m' d=m d:=by
 obtain⟨b,g,n,⟨y,f⟩,cs,F,z,A,B⟩:=x.args_.put (t:=i) (by rw[x.rep.length];exact j);refine⟨b,g,n,cs,F,z,A,λq u m' C c=>⟨{x with columns_:=x.columns_.upd f c bg,on_:=x.on_.upd f c bg,group_:=x.group_.upd f c bg,order_:=x.order_.upd f c bg,args_:=B u m' c,rep:=x.rep.set C,lar:=by have:=x.lar;simp;omega},λd o e=>c.other d λD=>?_⟩⟩;rw[D,x.args_.fresh b 0 g]at e;cases e
theorem p9.nums(x:p9 m0 m h w co on gr od args v us)(a b c:Int):p9 m0 m h w co on gr od args {v with op:=a,table:=b,limit:=c} us:={x with}
theorem p9.wher(x:p9 m0 m h w co on gr od args v us){u:PV}(c:dD h p u):p9 m0 m h p co on gr od args {v with where_:=u} us:={x with where_:=c}
theorem p9.none(x:p9 m0 m h w co on gr od args v us):p9 m0 m h w co on gr od [] {v with args:=bR} []:=
 {x with args_:=jJ.nil m0 m 38 21,rep:=rfl,lar:=by simp}
end
def Ja(q:Query):Prop:=match q with|.mk _ _ w co on gr od _ args=>MJ w/\co.length<=1000000000/\on.length<=1000000000/\gr.length<=1000000000/\od.length<=1000000000/\args.length<=1000000000/\∀a∈args,Ja a
 termination_by SizeOf.sizeOf q
theorem Po{op:Int}{w:Pred}{on:ce}{args:ci}:
 Ja (.mk op ta w co on gr od li args)↔MJ w/\co.length<=1000000000/\on.length<=1000000000/\gr.length<=1000000000/\od.length<=1000000000/\args.length<=1000000000/\∀a∈args,Ja a:=by rw[Ja.eq_def]
def awX(b:Bool)(m:MH)(q:Query)(c:QV)(m':MH)(h':PH):Prop:=match b,q with
 |false,q=>bU h' q c/\m'=m
 |true,.mk op ta w co on gr od li args=>c.op=op/\c.table=ta/\c.limit=li/\(∃us,p9 m m' h' w co on gr od args c us)/\∀b o,m b=some o->m' b=some o
def bJJ:Vc.Spec:=λc m h K=>∃(b:Bool)(v:QV)(q:Query),c=[aQ v]/\bU h q v/\(b=true->Ja q)/\∀d m' h',PH.le h h'->awX b m q d m' h'->K (aQ d) m' h'
def cCZ(N:Nat):Vc.Spec:=λc m h K=>∃cb v q,c=[cP cb,aQ v]/\aL m h cb/\bU h q v/\Ja q/\SizeOf.sizeOf q<N/\∀e d m' h',PH.le h h'->bU h' e d->bF m m' cb->aL m' h' cb->K (aQ d) m' h'
def cCJ:Vc.Spec:=λc m h K=>∃cb v q,c=[cP cb,aQ v]/\aL m h cb/\bU h q v/\Ja q/\∀e d m' h',PH.le h h'->bU h' e d->bF m m' cb->aL m' h' cb->K (aQ d) m' h'
noncomputable def bfX(v:QV):Ctx:=
 sN [(96,aAZ),(49,agQ)] [(9,{A:=Nat×QV×MH×PH,st:=λ⟨i,w,m,h⟩=>bQ 46 47 [(1,.at (.ptr 1 0)),(2,.at (.ptr 2 0)),(3,.at (.ptr 3 0)),(29,iv v.args.len),(30,iv i)] [(1,.cells 38 (v.enc.map .val)),(2,.cells 38 (lH.enc.map .val)),(3,.cells 38 (w.enc.map .val))] m h})] [] [] [1033,1034,1035,1036] [] false
noncomputable def b5J(N:Nat)(cb:Nat):Ctx:=
 sN [(12,Ic),(13,QX),(49,bJJ),(50,adX),(51,cDX),(14,cCZ N)]
  [(25,{A:=Nat×QV×MH×PH,st:=λ⟨i,w,m,h⟩=>bQ 139 141 [(0,pv cb),(3,.at (.ptr 3 0)),(4,.at (.ptr 4 0)),(6,iv i)] [(3,.cells 38 (w.enc.map .val)),(4,.cells 38 (lH.enc.map .val))] m h}),
   (36,{A:=Nat×QV×MH×PH,st:=λ⟨i,w,m,h⟩=>bQ 139 141 [(3,.at (.ptr 3 0)),(4,.at (.ptr 4 0)),(7,iv i)] [(3,.cells 38 (w.enc.map .val)),(4,.cells 38 (lH.enc.map .val))] m h}),
   (8,{A:=Nat×QV×MH×PH,st:=λ⟨i,w,m,h⟩=>bQ 139 141 [(3,.at (.ptr 3 0)),(4,.at (.ptr 4 0)),(8,iv i)] [(3,.cells 38 (w.enc.map .val)),(4,.cells 38 (lH.enc.map .val))] m h})]
  [(6,{A:=QV×MH×PH,st:=λ⟨w,m,h⟩=>bQ 139 141 [(0,pv cb),(3,.at (.ptr 3 0)),(4,.at (.ptr 4 0))] [(3,.cells 38 (w.enc.map .val)),(4,.cells 38 (lH.enc.map .val))] m h}),
   (5,{A:=QV×MH×PH,frz:=true,st:=λ⟨w,m,h⟩=>bQ 139 141 [(3,.at (.ptr 3 0)),(4,.at (.ptr 4 0))] [(3,.cells 38 (w.enc.map .val)),(4,.cells 38 (lH.enc.map .val))] m h}),
   (36,{A:=Nat×QV×MH×PH,frz:=true,st:=λ⟨i,w,m,h⟩=>bQ 139 141 [(3,.at (.ptr 3 0)),(4,.at (.ptr 4 0)),(7,iv i)] [(3,.cells 38 (w.enc.map .val)),(4,.cells 38 (lH.enc.map .val))] m h}),
   (8,{A:=Nat×QV×MH×PH,frz:=true,st:=λ⟨i,w,m,h⟩=>bQ 139 141 [(3,.at (.ptr 3 0)),(4,.at (.ptr 4 0)),(8,iv i)] [(3,.cells 38 (w.enc.map .val)),(4,.cells 38 (lH.enc.map .val))] m h}),
   (39,{A:=QV×MH×PH,frz:=true,st:=λ⟨w,m,h⟩=>bQ 139 141 [(3,.at (.ptr 3 0)),(4,.at (.ptr 4 0))] [(3,.cells 38 (w.enc.map .val)),(4,.cells 38 (lH.enc.map .val))] m h})] [] [1033,1034,1035,1036,100136,100045] [] false
abbrev Hv(a:(Nat×QV×MH×PH->Prop)->(Nat×QV×MH×PH)->Prop)(b:(Nat×QV×MH×PH->Prop)->(Nat×QV×MH×PH->Nat)->(Nat×QV×MH×PH)->Prop):Prop:=∃(x:Nat×QV×MH×PH->Prop)(d:Nat×QV×MH×PH->Nat),(∃(c:Nat×QV×MH×PH),a x c)/\∀(c:Nat×QV×MH×PH),b x d c
noncomputable abbrev gG(a:Nat×QV×MH×PH):QV:=a.2.1
noncomputable abbrev jA(a:Nat×QV×MH×PH):Nat->Nat->Option Value:=dL a.2
noncomputable abbrev oG(a:Nat×QV×MH×PH):Nat->Option Obj:=jC a.2
attribute [push_cast] Hv gG jA oG
def L0(v:QV)(m:MH)(h:PH)(K:bz):Prop:=
  BX (λG s p H=>aA (cV (yG v) j8=cV (cQ G) (fJ s)) (dD h p G) (cF h s H/\Eo (λJ d=>cC h d (dD d (D4 H p) J) (∃(x:List bx),Bm (dC m sA 3 1 x) (λy=>j6 1 y (mJ m d (Dd v) 1 y) (oL x y 8) (oF x y) (lD (λL n=>zU (eD m n sA L 3 1 (x++y)) (λu=>Bm (dC n sA 101 2 u) (λf=>j6 2 f (mJ n d (iA v.on.a v.on) 2 f) (oL u f 16) (oF u f) (lD (λM z=>zU (eD n z sA M 101 2 (u++f)) (λA=>Bm (dC z sA 3 1 A) (λg=>j6 1 g (mJ z d (HD v) 1 g) (oL A g 8) (oF A g) (lD (λO B=>zU (eD z B sA O 3 1 (A++g)) (λC=>Bm (dC B sA 103 2 C) (λj=>j6 2 j (mJ B d (HE v) 2 j) (oL C j 16)
 (oF C j) (lD (λP Q=>eD B Q sA P 103 2 (C++j)->Hv (λI c=>Kl (I c) (qV v) c.1 v (bP (oE (cO (gC v.op) (pU v) (pQ J (cO (vK L) (vK M) (cO (vK O) (vK P) (lV (gC v.limit) FU))))) (gG c)) (bH Q c.2.2) (d=jA c))) (λI R c=>I c->aZ (↑c.1:Int) (aH v.args) (bJ (λb o=>aA (bM v.args.a b o) (0<=(↑c.1:Int)) ((↑c.1:Int)<aH v.args/\∃(D:QV),aU (oG c) (jA c) b (bK o c.1 21) D.enc/\mU (λS q=>aA (kG D=kG S) (bU (jA c) q S) (Hf (jA c) q (λV F=>EA (aU (oG c) F b (bK o c.1 21) D.enc) (bL F b (bK o c.1 21) D.enc) (λE=>aA (dC (oG c) (vC (gG c)) 38 21 E) (fC (iY E 1*280)) (jQ E/\lD (λT U=>eD (oG c) U
 (vC (gG c)) T 38 21 (eN E V.enc)->∃(e:Nat×QV×MH×PH),aA (I e) (R e<R c) (aA eM dQ (aA bV (qV v) (aA (bD (fZ (bE c.1 1)) e.1) (dM v) (tI eG (oE (qQ (gG c) (vK T)) (gG e)) (bH U e.2.2) F (jA e)))))))))))))) (K (cN (gG c)) (oG c) (jA c))))))))))))))))))))))
abbrev J5(a:(QV×MH×PH->Prop)->Prop)(b:(QV×MH×PH)->Prop):Prop:=∃(x:QV×MH×PH->Prop),a x/\∀(c:QV×MH×PH),x c->b c
abbrev vG(a b c:Prop):Prop:=aA a bV (aA i6 b c)
abbrev Fi(a:MH)(b:Nat->Nat->Option Value)(c:(QV×MH×PH)->Prop):Prop:=Bs a b->∃(x:QV×MH×PH),c x
abbrev J3(a:MH)(b:QV×MH×PH)(c:QV×MH×PH->Prop)(d:cw):Prop:=Fi a (dL b) (λx=>vG (c x) (oE d x.1) (aA eG (sP a (dL b) (jC x) (dL x)) True))
noncomputable abbrev Hr(a:QV×MH×PH):cw:=lV (gC a.1.limit) (Bj a.1)
abbrev J2(a:Nat)(b:Nat->Option Obj)(c:Nat->Nat->Option Value)(d:Int->MH->(List bx)->Prop):Prop:=wS a b c (λx f=>∀(e:MH),bF b e x->aL e c x->∃(g:List bx),d f e g)
attribute [push_cast] J5 vG Fi J3 Hr J2
def WV(N:Nat)(cb:Nat)(v:QV)(m:MH)(h:PH)(K:bz):Prop:=
  ∃(b:Bool),mU (λQ q=>aA (kG v=kG Q) (bU h q Q) ((fV b->Ja q)/\∀(C:QV),gA (λH A=>cC h A (awX b m q C H A) (J5 (λI=>fA (aH C.args) 0 (oV cb 2 H A (λc=>c) (λc r=>∀(j:MH),bF H j c->aL j A c->branch r (iZ cb (aH C.args) j A (λk f=>J5 (λI1=>Hu C 0 k (λJ o y=>aU f A J (fU o k 21) y.enc/\∃(L:Nat),mU (λD G=>aA (cV (iD cb) (cN y)=cV (iD L) (cN D)) (aL f A L) (aA (bU A G D) (Ja G) (vV G N/\∀(S:Query)(F:QV),gA (λu z=>cC A z (bU z S F) (bF f u L->aL u z L->bJ (λM O=>aA (bM C.args.a M O) (0<=k) (k<aH C.args/\wD (λP E=>aA (Ib u M (oU P E 0)) (fU O k 21+21<=P.size) (∀(B:MH),
 eA u B M (w9 P (fU O k 21) F.enc) E->Bs B z->∃(x:QV×MH×PH),vG (I1 x) (gL C x.1) (aA eG (sP B z (jC x) (dL x)) True)))))))))))) (λx=>K (cN x.1) (jC x) (dL x)))) (∃(x:QV×MH×PH),aA (I x) (cR cb) (aA bV i6 (aA (gL C x.1) eG (aA (bH j x.2) (A=dL x) True)))))) (∃(x:QV×MH×PH),aA (I x) (cR cb) (aA bV i6 (aA (gL C x.1) eG (aA (bH H x.2) (A=dL x) True))))) (λx=>J5 (λI=>iZ cb 12 (jC x) (dL x) (λk j=>cW (k==0) (wS cb j (dL x) (λc n=>∀(f:MH),bF j f c->aL f (dL x) c->J3 f x I (cO (gC n) (pU x.1) (tG x.1 (uH x.1) x.1.on (xA x.1) (xB x.1) (Hr x))))) (k==1) (wS cb j (dL x) (λc n=>∀(f:MH),bF j f
 c->aL f (dL x) c->J3 f x I (cO (gC x.1.op) (gC n) (tG x.1 (uH x.1) x.1.on (xA x.1) (xB x.1) (Hr x))))) (cW (k==2) (∃(c:Nat),pV (λD p=>aA (cV (iD cb) (yG x.1)=cV (iD c) (cQ D)) (aL j (dL x) c) (aA (dD (dL x) p D) (MJ p) (∀(T:Pred)(F:PV),gA (λf z=>cC (dL x) z (dD z T F) (bF j f c->aL f z c->Fi f z (λd=>vG (I d) (oE (cO (gC x.1.op) (pU x.1) (pQ F (cO (uH x.1) (vK x.1.on) (cO (xA x.1) (xB x.1) (Hr x))))) d.1) (aA eG (sP f z (jC d) (dL d)) True)))))))) (k==3) (J2 cb j (dL x) (λn f d=>aA (dC f (Dd x.1) 3 1 d) (fC (iY d 1*8)) (jQ d/\∀(s:Sl)(u:MH),eD f u (Dd x.1) s 3 1 (eN d (bG n))->Bs u
 (dL x)->∃(e:QV×MH×PH),vG (I e) (oE (cO (gC x.1.op) (pU x.1) (tG x.1 (vK s) x.1.on (xA x.1) (xB x.1) (Hr x))) e.1) (aA eG (sP u (dL x) (jC e) (dL e)) True)))) (cW (k==4) (wS cb j (dL x) (λc n=>∀(f:MH),bF j f c->aL f (dL x) c->J2 cb f (dL x) (λU u d=>aA (dC u (iA x.1.on.a x.1.on) 101 2 d) (fC (iY d 1*16)) (jQ d/\∀(s:Sl)(B:MH),eD u B (iA x.1.on.a x.1.on) s 101 2 (eN d (Bi n U))->Bs B (dL x)->∃(e:QV×MH×PH),vG (I e) (oE (cO (gC x.1.op) (pU x.1) (tG x.1 (uH x.1) s (xA x.1) (xB x.1) (Hr x))) e.1) (aA eG (sP B (dL x) (jC e) (dL e)) True))))) (k==5) (J2 cb j (dL x) (λn f d=>aA (dC f (HD x.1) 3 1 d)
 (fC (iY d 1*8)) (jQ d/\∀(s:Sl)(u:MH),eD f u (HD x.1) s 3 1 (eN d (bG n))->Bs u (dL x)->∃(e:QV×MH×PH),vG (I e) (oE (cO (gC x.1.op) (pU x.1) (tG x.1 (uH x.1) x.1.on (vK s) (xB x.1) (lV (gC x.1.limit) (Bj x.1)))) e.1) (aA eG (sP u (dL x) (jC e) (dL e)) True)))) (cW (k==6) (iZ cb 2 j (dL x) (λV f=>Hv (λI1 d=>aA (I1 d) (cR cb) (aA bV i6 (aA (bD (fZ (fH (1+fH (12*V)))) d.1) (gL x.1 (gG d)) (aA eG (bH f d.2.2) (bN (dL x) (jA d)))))) (λI1 u d=>I1 d->fA (↑d.1:Int) 0 (J2 cb (oG d) (jA d) (λn B e=>aA (dC B (HE (gG d)) 103 2 e) (fC (iY e 1*16)) (jQ e/\lD (λs R=>eD B R (HE (gG d)) s
 103 2 (eN e (jK (eF n) uJ))->∃(g:Nat×QV×MH×PH),aA (I1 g) (u g<u d) (aA (cR cb) bV (aA i6 (bD (fZ (fH ((↑d.1:Int)-1))) g.1) (aA (oE (cO (gC (gG d).op) (pU (gG d)) (tG (gG d) (uH (gG d)) (gG d).on (xA (gG d)) (vK s) (lV (gC (gG d).limit) (Bj (gG d))))) (gG g)) eG (aA (bH R g.2.2) (jA d=jA g) True)))))))) (Fi (oG d) (jA d) (λe=>vG (I e) (gL (gG d) e.1) (aA eG (sP (oG d) (jA d) (jC e) (dL e)) True)))))) (k==7) (wS cb j (dL x) (λc n=>∀(f:MH),bF j f c->aL f (dL x) c->J3 f x I (cO (gC x.1.op) (pU x.1) (tG x.1 (uH x.1) x.1.on (xA x.1) (xB x.1) (lV (gC n) (Bj x.1)))))) (cW (k==8) (∃(d
 :List bx),aA (dC j (vC x.1) 38 21 d) (fC (iY d 1*280)) (jQ d/\∀(s:Sl)(f:MH),eD j f (vC x.1) s 38 21 (eN d (Oc 1))->Bs f (dL x)->∃(e:QV×MH×PH),vG (I e) (oE (qQ x.1 (vK s)) e.1) (aA eG (sP f (dL x) (jC e) (dL e)) True))) (k==9) (J3 j x I (qQ x.1 FU)) (eO k 10 (∃(I1:Nat×QV×MH×PH->Prop),(Bs j (dL x)->∃(d:Nat×QV×MH×PH),vG (I1 d) (bB d.1) (bP (gL x.1 (gG d)) eG (sP j (dL x) (jC d.2) (jA d))))/\∀(d:Nat×QV×MH×PH),I1 d->Hv (λI2 e=>aA (I2 e) bV (aA i6 (cM d.1 e.1) (aA (gL (gG d) (gG e)) eG (aA (bH (oG d) e.2.2) (jA d=jA e) True)))) (λI2 f e=>I2 e->aZ (↑e.1:Int) 8 (bO (jA e)
 21 (j4 (gG e).enc (Oc 1)) (λs z=>∃(g:Nat×QV×MH×PH),aA (I2 g) (f g<f e) (aA bV i6 (aA (bD (fZ (bE e.1 1)) g.1) (oE (cO (gC 6) fD (cO (gC 0) fD (Hs 0 (oD (vK s))))) (gG g)) (aA eG (bH (oG e) g.2.2) (bN z (jA g))))))) (Fi (oG e) (jA e) (λg=>vG (I g) (gL (gG e) g.1) (aA eG (sP (oG e) (jA e) (jC g) (dL g)) True))))) (∃(I1:Nat×QV×MH×PH->Prop),(Bs j (dL x)->∃(d:Nat×QV×MH×PH),vG (I1 d) (bB d.1) (bP (gL x.1 (gG d)) eG (sP j (dL x) (jC d.2) (jA d))))/\∀(d:Nat×QV×MH×PH),I1 d->Hv (λI2 e=>aA (I2 e) bV (aA i6 (cM d.1 e.1) (aA (gL (gG d) (gG e)) eG (aA (bH (oG d) e.2.2)
 (jA d=jA e) True)))) (λI2 f e=>I2 e->aZ (↑e.1:Int) 4 (∃(J:Bool),mU (λD G=>aA (kG (gG e)=kG D) (bU (jA e) G D) ((fV J->Ja G)/\∀(F:QV),gA (λu z=>cC (jA e) z (awX J (oG e) G F u z) (bO z 21 (j4 (gG e).enc F.enc) (λs W=>∃(g:Nat×QV×MH×PH),aA (I2 g) (f g<f e) (aA bV i6 (aA (bD (fZ (bE e.1 1)) g.1) (oE (cO (gC 6) fD (cO (gC 0) fD (Hs 0 (oD (vK s))))) (gG g)) (aA eG (bH u g.2.2) (bN W (jA g))))))))))) (Fi (oG e) (jA e) (λg=>vG (I g) (gL (gG e) g.1) (aA eG (sP (oG e) (jA e) (jC g) (dL g)) True)))))))))))) (λd=>K (cN d.1) (jC d) (dL d)))))))
def Kp(m m':MH):Prop:=∀b o,m b=some o->m' b=some o
theorem Kp.held(k:Kp m m'):Ie m m':=λb o e=>⟨o,k b o e⟩
theorem Kp.grown{c:MH}{s d:Sl}{E:TypeId}{f:List bx}(k:Kp m c)(x:eD c m' s d E sz f)(r:jJ m c s E sz xs):Kp m m':=λb o e=>x.other b o (k b o e) λi g=>by rw[r.fresh b i g]at e;cases e
theorem bXQ{op:Int}{w:Pred}{on:ce}{args:ci}(x:kW h op ta w co on gr od li args v)(hl:Ja (.mk op ta w co on gr od li args))
 (hK:∀f us m' h',PH.le h h'->f.op=op->f.table=ta->f.limit=li->p9 m m' h' w co on gr od args f us->(∀b o,m b=some o->m' b=some o)->K (aQ f) m' h'):L0 v m h K:=by
 dsimp only[L0,push_cast];obtain⟨_,l1,l2,l3,l4,l5,_⟩:=Po.1 hl;have R:=x.args_.slen;refine⟨v.where_,⟨none,0,0⟩,w,[],rfl,x.where_,.nil _ _ _ _,λwv S c hw=>⟨[],dC.nil _ _ _,_,mW co,.imm (x.columns_.mono c).row,bj,bj,λs1 m1 T=>⟨[],dC.nil _ _ _,_,BA on,.imm (x.on_.mono c).row,bj,bj,λs2 m2 L=>⟨[],dC.nil _ _ _,_,mW gr,.imm (x.group_.mono c).row,bj,bj,λs3 m3 B=>⟨[],dC.nil _ _ _,_,Bz od,.imm (x.order_.mono c).row,bj,bj,λs4 M C=>?_⟩⟩⟩⟩⟩;rw[H7]at hw;rw[nil_append]at T L B C;have D:Kp m m:=λ_ _ e=>e;have k1:Kp m m1:=D.grown T (jJ.nil m m 3 1);have k2:Kp m m2:=k1.grown L (jJ.nil m m1 101 2);have k3:Kp m m3:=k2.grown B (jJ.nil m m2 3 1);have k4:Kp m M:=k3.grown C (jJ.nil m m3 103 2);have up:∀{n F:MH}{s:Sl}{E:TypeId}{sz:Nat}{O:List bx},Kp m n->eD n F bR s E sz O->jJ m F s E sz O:=λk g=>(jJ.nil m _ _ _).up g λb o e=>.inr (k.held b o e);have of:∀{n F:MH}{s t:Sl}{E E':TypeId}{sz U:Nat}{xs O:List bx},jJ m n s E sz xs->eD n F bR t E' U O->jJ m F s E sz xs:=λr g=>r.off g λ_ _ _ _ e=>by cases e
 have c1:=up D T;have c2:=of c1 L
 have G:p9 m M S w co on gr od [] ⟨v.op,v.table,wv,s1,s2,s3,s4,v.limit,bR⟩ []:=
  {where_:=hw,columns_:=of (of c2 B) C,on_:=of (of (up k1 L) B) C,group_:=of (up k2 B) C,order_:=up k3 C,args_:=jJ.nil m M 38 21,rep:=rfl,lco:=aD,lon:=aD,lgr:=aD,lod:=aD,lar:=bf,
   apart:=λb i j e H=>(by
    obtain⟨a1,h2⟩:=dC.blk c2.row e;rcases B.fresh b j H with P|⟨_,P⟩
    .rw[h2]at P;cases P
    .cases P)}
 refine⟨λz=>z.1<=args.length/\∃us,p9 m z.2.2.1 z.2.2.2 w co on gr od (args.take z.1) z.2.1 us/\Kp m z.2.2.1/\PH.le S z.2.2.2/\z.2.1.op=op/\z.2.1.table=ta/\z.2.1.limit=li,λz=>args.length-z.1,⟨(0,_,M,S),⟨bf,[],G,k4,.refl _,x.op_,x.table_,x.limit_⟩,MT⟩,?_⟩;rintro⟨i,u,n,hx⟩ ⟨hi,us,A,Q,lex,V,H,W⟩;dsimp only at hi A Q lex V H W⊢
 have X:=A.rep.length;rw[length_take]at X;refine aF (λI=>?_) (λa2=>?_)
 .obtain⟨q,Y⟩:=eT R I;have a3:=(List.getElem?_eq_some_iff.1 Y).1;obtain⟨b1,o1,y,ey,Z,a'⟩:=(x.args_.mono (c.trans lex)).at Y;refine⟨b1,o1,ey,aD,I,y,.imm Z,y,q,rfl,a',λf h' d a0=>⟨.imm (Z.mono d),Z.mono d,us.map QV.enc,A.args_.row,bi,bi,λs' m' hg=>?_⟩⟩;rw[jO aD];have J:=(A.mono d).argsE Q.held a0 hg bj;rw[show args.take i++[q]=args.take (i+1)by rw[take_add_one,Y];rfl]at J;exact⟨(i+1,{u with args:=s'},m',h'),⟨br,us++[f],J.1,Q.grown hg A.args_,lex.trans d,V,H,W⟩,bo,MT⟩
 .rw[take_of_length_le aD]at A;exact hK u us n hx (c.trans lex) V H W A Q
theorem Yj:bu 49 bJJ:=by
 have n:bu 49 (λc m h K=>∃v q,c=[aQ v]/\bU h q v/\Ja q/\∀d m' h',PH.le h h'->awX true m q d m' h'->K (aQ d) m' h'):=by
  refine hU func49 ?_;rintro c m h K ⟨v,q,rfl,f,j,g⟩;obtain⟨op,ta,w,co,on,gr,od,li,args⟩:=q;refine⟨bfX v,rfl,aE LX (aE L2 aG),L0 v m h K,bd,?_⟩;exact bXQ f.parts j λd us m' h' le x y z A k=>g d m' h' le ⟨x,y,z,⟨us,A⟩,k⟩
 refine⟨n.1,λc o m h w K B u=>?_⟩;obtain⟨b,v,q,e,f,j,g⟩:=B;cases b with
 |true=>exact n.2 c o m h w K ⟨v,q,e,f,j rfl,g⟩ u
 |false=>exact L2.2 c o m h w K ⟨v,q,e,f,λd h' le r=>g d m h' le ⟨r,rfl⟩⟩ u
theorem Pz(m:MH)(h:PH):sP m h m h:=⟨λ_ _ e=>e,.refl _,λ_ _ _ e=>.inl e⟩
theorem VF{q p:Query}{w u:QV}{s:Sl}(c:bU h q w)(d:bU h p u)(le:PH.le h h')(rs:cD h' s 21 [QV.enc w,QV.enc u]):bU h' (.mk 6 0 eW [] [] [] [] 0 [q,p]) ⟨6,0,fT,bR,bR,bR,bR,0,s⟩:=
 ⟨rfl,rfl,⟨rfl,rfl,rfl,rfl,bf,[],cD.nil _ _,rfl⟩,⟨cD.nil _ _,bf⟩,⟨cD.nil _ _,bf⟩,⟨cD.nil _ _,bf⟩,⟨cD.nil _ _,bf⟩,rfl,bf,[w,u],rs,w,[u],rfl,c.mono le,u,[],rfl,d.mono le,rfl⟩
theorem arJ:∀N,bu 14 (cCZ N)
 |0=>by
  refine dU (fn:=Tryz.f14) (c:=bW Tryz.f14) func14 rfl bg ?_;rintro a1 m h K ⟨cb,v,q,rfl,_,_,_,hN,_⟩;omega
 |N+1=>by
  refine hU func14 ?_;rintro a1 m h K ⟨cb,v,q,rfl,hc,hr,hl,hN,hK⟩;refine⟨b5J N cb,rfl,aE IL (aE Cb (aE Yj (aE an (aE ay (aE (arJ N) aG))))),WV N cb v m h K,bd,?_⟩;dsimp only[WV,push_cast];have Y:=@sL q;obtain⟨op,ta,w,co,on,gr,od,li,args⟩:=q;obtain⟨lw,l1,l2,l3,l4,l5,lq⟩:=Po.1 hl;refine⟨true,v,_,rfl,hr,λ_=>hl,λy m1 g C O=>?_⟩;obtain⟨e1,e2,e3,⟨us,hn⟩,kp⟩:=O;obtain⟨a7,U⟩:=hc.blk;have a2:m cb≠none:=by rw[U];simp
  have c1:aL m1 g cb:=hc.keep (by rw[U];exact kp cb _ U) C;have k1:Kept m m1 cb:=λb o e _=>kp b o e;have a8:=hn.rep.length;have a9:y.args.len=args.length:=by have:=dC.slen hn.args_.row;simp at this;omega
  have fin:∀{D:MH}{H:PH}{w:Pred}{co gr:ca}{on:ce}{od:cg}{args:ci}{u:QV}{us:db},p9 m D H w co on gr od args u us->Kept m D cb->aL D H cb->PH.le h H->Bs D H->(∃A,bU (oO m D H) A u)/\bF m (kZ m D) cb/\aL (kZ m D) (oO m D H) cb/\PH.le h (oO m D H):=λx k c le d=>⟨⟨_,x.ice d⟩,keep_other k,RH c a2 d,le.trans (zB d)⟩
  refine⟨λz=>y=z.1/\g=z.2.2/\p9 m z.2.1 g w co on gr od args y us/\Kept m z.2.1 cb/\aL z.2.1 g cb,aF (λZ=>⟨cb,2,rfl,aD,aD,c1,λr m2 o2 c2=>aC (λ_=>?_) (λ_=>⟨(y,m2,g),⟨rfl,rfl,hn.move o2 c1,k1.on o2,c2⟩,MT⟩)⟩) (λ_=>⟨(y,m1,g),⟨rfl,rfl,hn,k1,c1⟩,MT⟩),?_⟩
  .have n2:=hn.move o2 c1;have P:=k1.on o2;refine⟨cb,_,rfl,c2,λk W k0 kn o3 G=>?_⟩;have J:=n2.move o3 c2;have M:=P.on o3;have hk:k.toNat<args.length:=by omega
   obtain⟨a,ha⟩:∃a,args[k.toNat]? =some a:=⟨_,getElem?_eq_getElem hk⟩
   have hm:=mem_of_getElem? ha;have:=Y (q:=a) hm;obtain⟨u,hu,ru⟩:=J.rep.get ha;obtain⟨b,eb,rd⟩:=dC.rd (h:=g) J.args_.row (i:=k.toNat) (e:=QV.enc u) (by rw[getElem?_map,hu];rfl);refine⟨λz=>(∃A,bU z.2.2 A z.1)/\bF m z.2.1 cb/\aL z.2.1 z.2.2 cb/\PH.le h z.2.2,⟨b,0,eb,k0,aD,u,by rw[Nat.zero_add];exact rd,cb,u,a,rfl,G,ru,lq a hm,aD,λA v' f h4 j r4 B E=>?_⟩,?_⟩
   .have Q:=(J.mono j).move B G;have X:=M.on B;obtain⟨b2,a3,a6,cs,F,ma,a4,put⟩:=Q.put (X.held E) (i:=k.toNat) hk;refine⟨b2,0,a3,k0,aD,cs,F,ma,a4,λR hu d=>?_⟩;obtain⟨S,T⟩:=put A v' R r4 hu;exact⟨(y,kZ m R,oO m R h4),fin S (λb' o e ne=>by rw[T b' o e];exact X b' o e ne) (E.keep (T cb _ U) (.refl _)) (C.trans j) d,FT⟩
   .rintro⟨u,D,H⟩ ⟨⟨A,L⟩,o,c,le⟩;exact hK A u D H le L o c
  .rintro⟨_,m2,_⟩ ⟨rfl,rfl,n2,P,c2⟩;dsimp only at n2 P c2⊢
   refine⟨λz=>(∃A,bU z.2.2 A z.1)/\bF m z.2.1 cb/\aL z.2.1 z.2.2 cb/\PH.le h z.2.2,⟨cb,12,rfl,c2,λk W k0 kn o3 G=>?_⟩,?_⟩
   .have J:=n2.move o3 c2;have M:=P.on o3;have a':∀(a b c:Int){f:MH}(_:bF W f cb)(_:aL f g cb)(d:Bs f g),(∃A,bU (oO m f g) A {y with op:=a,table:=b,limit:=c})/\bF m (kZ m f) cb/\aL (kZ m f) (oO m f g) cb/\PH.le h (oO m f g):=λa b c _ B E d=>fin ((J.move B G).nums a b c) (M.on B) E C d;refine aC (λ_=>⟨cb,rfl,G,λn f B E d=>⟨({y with op:=n},kZ m f,oO m f g),a' n y.table y.limit B E d,FT⟩⟩) (λ_=>?_);refine aC (λ_=>⟨cb,rfl,G,λn f B E d=>⟨({y with table:=n},kZ m f,oO m f g),a' y.op n y.limit B E d,FT⟩⟩) (λ_=>?_);refine aC (λ_=>⟨cb,y.where_,w,rfl,G,J.where_,lw,λp' w' f h4 j r4 B E d=>⟨({y with where_:=w'},kZ m f,oO m f h4),fin (((J.mono j).move B G).wher r4) (M.on B) E (C.trans j) d,FT⟩⟩) (λ_=>?_);refine aC (λ_=>⟨cb,rfl,G,λn f B E=>?_⟩) (λ_=>?_)
    .have Q:=J.move B G;have X:=M.on B;exact⟨_,Q.columns_.row,bj,bj,λs R I d=>⟨({y with columns:=s},kZ m R,oO m R g),fin (Q.columns (X.held E) I l1).1 (X.grown Q.columns_ I) (E.keep (eD.at_cb I Q.columns_ E bg) (.refl _)) C d,FT⟩⟩
    refine aC (λ_=>⟨cb,rfl,G,λn f B E=>⟨cb,rfl,E,λn2 R o5 c5=>?_⟩⟩) (λ_=>?_)
    .have S:=(J.move B G).move o5 E;have k5:=(M.on B).on o5;exact⟨_,S.on_.row,bj,bj,λs m6 I d=>⟨({y with on:=s},kZ m m6,oO m m6 g),fin (S.onE (p:=(n,n2)) (k5.held c5) I l2).1 (k5.grown S.on_ I) (c5.keep (eD.at_cb I S.on_ c5 bg) (.refl _)) C d,FT⟩⟩
    refine aC (λ_=>⟨cb,rfl,G,λn f B E=>?_⟩) (λ_=>?_)
    .have Q:=J.move B G;have X:=M.on B;exact⟨_,Q.group_.row,bj,bj,λs R I d=>⟨({y with group:=s},kZ m R,oO m R g),fin (Q.group (X.held E) I l3).1 (X.grown Q.group_ I) (E.keep (eD.at_cb I Q.group_ E bg) (.refl _)) C d,FT⟩⟩
    refine aC (λ_=>⟨cb,2,rfl,G,λP f k0 kn B E=>?_⟩) (λ_=>?_)
    .have ek:IntKind.i64.wrap (1+IntKind.i64.wrap (12*P))=(((1+12*P).toNat:Nat):Int):=by
      rw[eH (n:=12*P) aD aD,eH aD aD];omega
     rw[ek];refine⟨λz=>z.1<=13/\g=z.2.2.2/\∃V,p9 m z.2.2.1 g w co on gr V args z.2.1 us/\Kept m z.2.2.1 cb/\aL z.2.2.1 g cb/\V.length+z.1<=1000000013,λz=>z.1,⟨((1+12*P).toNat,y,f,g),⟨by show(1+12*P).toNat<=13;omega,rfl,od,J.move B G,M.on B,E,br⟩,MT⟩,?_⟩;rintro⟨i,u,D,_⟩ ⟨hi,rfl,V,nx,kx,cx,a5⟩;dsimp only at hi nx kx cx a5⊢
     refine aF (λZ=>⟨cb,rfl,cx,λn R o5 c5=>?_⟩) (λ_ d=>⟨(u,kZ m D,oO m D g),fin nx kx cx C d,FT⟩);have S:=nx.move o5 cx;have k5:=kx.on o5
     have hw:IntKind.i64.wrap ((i:Int)-1)=((i-1:Nat):Int):=by
      rw[show(i:Int)-1=((i-1:Nat):Int)by omega];exact eH aD aD
     rw[hw];refine⟨_,S.order_.row,bj,bj,λs m6 I=>⟨(i-1,{u with order:=s},m6,g),⟨br,rfl,V++[(n,false)],(S.orderE (p:=(n,false)) (k5.held c5) I aD).1,k5.grown S.order_ I,c5.keep (eD.at_cb I S.order_ c5 bg) (.refl _),bj⟩,br,MT⟩⟩
    refine aC (λ_=>⟨cb,rfl,G,λn f B E d=>⟨({y with limit:=n},kZ m f,oO m f g),a' y.op y.table n B E d,FT⟩⟩) (λ_=>?_);refine aC (λ_=>?_) (λ_=>?_)
    .exact⟨_,J.args_.row,bj,bj,λs f I d=>⟨({y with args:=s},kZ m f,oO m f g),fin (J.argsE (u:=⟨1,0,fT,bR,bR,bR,bR,0,bR⟩) (M.held G) (AS g 0) I l5).1 (M.grown J.args_ I) (G.keep (eD.at_cb I J.args_ G bg) (.refl _)) C d,FT⟩⟩
    refine aC (λ_ d=>⟨({y with args:=bR},kZ m W,oO m W g),fin J.none M G C d,FT⟩) (λ_=>?_);refine aC (λ_=>?_) (λ_=>?_)
    .refine⟨λz=>z.1=0/\(∃A,bU z.2.2.2 A z.2.1)/\bF m z.2.2.1 cb/\aL z.2.2.1 z.2.2.2 cb/\PH.le h z.2.2.2,λd=>⟨(0,y,kZ m W,oO m W g),⟨rfl,fin J M G C d⟩,FT⟩,?_⟩;rintro⟨_,u,D,H⟩ ⟨rfl,L,o,c,le⟩;refine⟨λz=>z.1<=8/\(∃A,bU z.2.2.2 A z.2.1)/\bF m z.2.2.1 cb/\aL z.2.2.1 z.2.2.2 cb/\PH.le h z.2.2.2,λz=>8-z.1,⟨(0,u,D,H),⟨bf,L,o,c,le⟩,MT⟩,?_⟩;rintro⟨i,u,D,H⟩ ⟨hi,⟨A,L⟩,o,c,le⟩;dsimp only at hi L o c le⊢
     refine aF (λZ=>λs h4 j rs=>?_) (λ_ d=>⟨(u,D,H),⟨⟨A,L⟩,o,c,le⟩,by repeat' (first|exact Pz _ _|exact trivial|refine⟨?_,?_⟩|rfl)⟩);rw[jO aD];exact⟨(i+1,_,D,h4),⟨br,⟨_,VF L (AS H 0) j rs⟩,o,c.mono j,le.trans j⟩,bo,MT⟩
    .refine⟨λz=>z.1=0/\(∃A,bU z.2.2.2 A z.2.1)/\bF m z.2.2.1 cb/\aL z.2.2.1 z.2.2.2 cb/\PH.le h z.2.2.2,λd=>⟨(0,y,kZ m W,oO m W g),⟨rfl,fin J M G C d⟩,FT⟩,?_⟩;rintro⟨_,u,D,H⟩ ⟨rfl,L,o,c,le⟩;refine⟨λz=>z.1<=4/\(∃A,bU z.2.2.2 A z.2.1)/\bF m z.2.2.1 cb/\aL z.2.2.1 z.2.2.2 cb/\PH.le h z.2.2.2,λz=>4-z.1,⟨(0,u,D,H),⟨bf,L,o,c,le⟩,MT⟩,?_⟩;rintro⟨i,u,D,H⟩ ⟨hi,⟨A,L⟩,o,c,le⟩;dsimp only at hi L o c le⊢
     refine aF (λZ=>⟨false,u,A,rfl,L,λe=>(by cases e),λv2 f h3 a0 O s h4 j rs=>?_⟩) (λ_ d=>⟨(u,D,H),⟨⟨A,L⟩,o,c,le⟩,by repeat' (first|exact Pz _ _|exact trivial|refine⟨?_,?_⟩|rfl)⟩);obtain⟨r2,rfl⟩:=O;rw[jO aD];exact⟨(i+1,_,_,h4),⟨br,⟨_,VF (L.mono a0) r2 j rs⟩,o,(c.mono a0).mono j,(le.trans a0).trans j⟩,bo,MT⟩
   .rintro⟨u,D,H⟩ ⟨⟨A,L⟩,o,c,le⟩;exact hK A u D H le L o c
theorem aUX:bu 14 cCJ:=gW arJ λ_ _ _ _⟨cb,v,q,e,c,d,f,g⟩=>⟨SizeOf.sizeOf q+1,cb,v,q,e,c,d,f,aD,g⟩
noncomputable def b0Q(N:Nat)(v w:QV)(o o':ce)(s c:cg)(ps d:ci)(m:MH)(h:PH):Ctx:=
 ctx [(31,caX N),(75,A8),(76,bJQ)] [Di 4 (λi=>bQ 133 135 [(2,.at (.ptr 2 0)),(3,.at (.ptr 3 0)),(80,iv v.on.len),(81,iv i)] [(2,.cells 38 (v.enc.map .val)),(3,.cells 38 (w.enc.map .val))] m h) (λi=>i<=o.length/\∀j:Nat,j<i->o[j]? =o'[j]?) (λi=>o.length-i),
  Di 10 (λi=>bQ 133 135 [(2,.at (.ptr 2 0)),(3,.at (.ptr 3 0)),(98,iv v.order.len),(99,iv i)] [(2,.cells 38 (v.enc.map .val)),(3,.cells 38 (w.enc.map .val))] m h) (λi=>i<=s.length/\∀j:Nat,j<i->s[j]? =c[j]?) (λi=>s.length-i),
  Di 16 (λi=>bQ 133 135 [(2,.at (.ptr 2 0)),(3,.at (.ptr 3 0)),(116,iv v.args.len),(117,iv i)] [(2,.cells 38 (v.enc.map .val)),(3,.cells 38 (w.enc.map .val))] m h) (λi=>i<=ps.length/\∀j:Nat,j<i->ps[j]? =d[j]?) (λi=>ps.length-i)] [] [] false
def PT(N:Nat)(v w:QV)(o o':ce)(s z:cg)(ps A:ci)(m:MH)(h:PH)(K:bz):Prop:=
  cW (v.op !=w.op) (K aX m h) (v.table !=w.table) (K aX m h) (cW (v.limit !=w.limit) (K aX m h) (aH v.on !=aH w.on) (K aX m h) (cW (aH v.order !=aH w.order) (K aX m h) (aH v.args !=aH w.args) (K aX m h) (J4 v.columns w.columns h (K aX m h) (J4 v.group w.group h (K aX m h) (Ht (λC D p q=>mC (cV (yG v) (yG w)) (cV (cQ C) (cQ D)) (dD h p C) (dD h q D) (λr=>iU (fV r↔p=q) (!r) (K aX m h) (p7 (∃(x:Nat),aA (EG x o o') dQ (aA bV (bI v.on) (aA (bB x) (dM v) (aA (dM w) (m=m) (bN h h))))) (λx=>EG x o o'->aZ (↑x:Int) (aH v.on) (bJ (λb f=>aA (bM v.on.a b f) (0<=(↑x:Int)) ((↑x:Int)<aH v.on/\∃(y:Int×Int),aU m h b (bK f x 2) (pB y)/\bJ (λj n=>aA (bM
 w.on.a j n) (0<=(↑x:Int)) ((↑x:Int)<aH w.on/\∃(g:Int×Int),aU m h j (bK n x 2) (pB g)/\nU 101 (pB y) (pB g) (λu=>iV (!u) (K aX m h) (λe=>aA (EG e o o') (o.length-e<o.length-x) (aA dQ bV (aA (bI v.on) (bD (fZ (bE x 1)) e) (aA (dM v) (dM w) (aA (m=m) (h=h) True))))))))))) (p7 (∃(c:Nat),aA (EH c s z) dQ (aA bV (bI v.order) (aA (bB c) (dM v) (aA (dM w) (m=m) (bN h h))))) (λc=>EH c s z->aZ (↑c:Int) (aH v.order) (bJ (λb f=>aA (bM v.order.a b f) (0<=(↑c:Int)) ((↑c:Int)<aH v.order/\∃(y:Int×Bool),aU m h b (bK f c 2) (tS y)/\bJ (λj n=>aA (bM w.order.a j n) (0<=(↑c:Int)) ((↑c:Int)<aH w.order/\∃(g:Int×Bool),aU m
 h j (bK n c 2) (tS g)/\nU 103 (tS y) (tS g) (λu=>iV (!u) (K aX m h) (λe=>aA (EH e s z) (s.length-e<s.length-c) (aA dQ bV (aA (bI v.order) (bD (fZ (bE c 1)) e) (aA (dM v) (dM w) (aA (m=m) (h=h) True))))))))))) (p7 (∃(d:Nat),aA (EI d ps A) dQ (aA bV (qV v) (aA (bB d) (dM v) (aA (dM w) (m=m) (bN h h))))) (λd=>EI d ps A->aZ (↑d:Int) (aH v.args) (bJ (λb f=>aA (bM v.args.a b f) (0<=(↑d:Int)) ((↑d:Int)<aH v.args/\∃(y:QV),aU m h b (bK f d 21) y.enc/\Oh w.args.a d w.args (λj n g=>aU m h j (bK n d 21) g.enc/\Kn (λE F B G=>aA (cV (cN y) (cN g)=cV (cN E) (cN F)) (bU h B E) (aA (bU h G F) (vV B N) (∀
 (u:Bool),(fV u↔B=G)->iV (!u) (K aX m h) (λe=>aA (EI e ps A) (ps.length-e<ps.length-d) (aA dQ bV (aA (qV v) (bD (fZ (bE d 1)) e) (aA (dM v) (dM w) (aA (m=m) (h=h) True)))))))))))) (gK K m h))))))))))))))
theorem ctX{w:QV}{op D E:Int}{wh H:Pred}{I J:ca}{on f:ce}{g:cg}{F:Int}{ps P:ci}(a:kW h op ta wh co on gr od li ps v)(b:kW h D E H I f J g F P w)
 (hN:∀q∈ps,SizeOf.sizeOf q<N)(hK:∀r:Bool,(r=true↔Query.mk op ta wh co on gr od li ps= .mk D E H I f J g F P)->K (cB r) m h):PT N v w on f od g ps P m h K:=by
 dsimp only[PT,push_cast];have o:Query.mk op ta wh co on gr od li ps≠ .mk D E H I f J g F P->K (cB false) m h:=λh=>hK false ⟨λe=>(by cases e),λe=>(h e).elim⟩;have oa:=a.on_.slen;have ob:=b.on_.slen;have ol:=a.on_.len;have sa:=a.order_.slen;have sb:=b.order_.slen;have sl:=a.order_.len;have qa:=a.args_.slen;have qb:=b.args_.slen;have ql:=a.args_.len;refine aC (λQ=>o λe=>?_) (λQ=>aC (λR=>o λe=>?_) (λR=>aC (λS=>o λe=>?_) (λS=>aC (λh4=>o λe=>?_) (λh4=>aC (λh5=>o λe=>?_) (λh5=>aC (λh6=>o λe=>?_) (λh6=>⟨_,_,_,_,rfl,a.columns_,b.columns_,λr7 h7=>aC (λg7=>o λe=>?_) (λg7=>⟨_,_,_,_,rfl,a.group_,b.group_,λr8 h8=>aC (λg8=>o λe=>?_) (λg8=>⟨_,_,_,_,rfl,a.where_,b.where_,λr9 h9=>aC (λg9=>o λe=>?_) (λg9=>?_)⟩)⟩)⟩))))))
 .injection e with e _ _ _ _ _ _ _ _;rw[a.op_,b.op_,e]at Q;simp at Q
 .injection e with _ e _ _ _ _ _ _ _;rw[a.table_,b.table_,e]at R;simp at R
 .injection e with _ _ _ _ _ _ _ e _;rw[a.limit_,b.limit_,e]at S;simp at S
 .injection e with _ _ _ _ e _ _ _ _;exact Gm oa ob h4 (by rw[e])
 .injection e with _ _ _ _ _ _ e _ _;exact Gm sa sb h5 (by rw[e])
 .injection e with _ _ _ _ _ _ _ _ e;exact Gm qa qb h6 (by rw[e])
 .injection e with _ _ _ e _ _ _ _ _;rw[h7.2 e]at g7;cases g7
 .injection e with _ _ _ _ _ e _ _ _;rw[h8.2 e]at g8;cases g8
 .injection e with _ _ e _ _ _ _ _ _;rw[h9.2 e]at g9;cases g9
 .have L:op=D:=by rw[a.op_,b.op_]at Q;simpa using Q
  have M:ta=E:=by rw[a.table_,b.table_]at R;simpa using R
  have e3:li=F:=by rw[a.limit_,b.limit_]at S;simpa using S
  have e7:=h7.1 (bt g7);have e8:=h8.1 (bt g8);have e9:=h9.1 (bt g9);subst L M e3 e7 e8 e9;have l4:=Fk oa ob h4;have l5:=Fk sa sb h5;have l6:=Fk qa qb h6;have f1:on≠f->K (cB false) m h:=λc=>o λe=>c (by injection e);have f2:od≠g->K (cB false) m h:=λc=>o λe=>c (by injection e);have O:ps≠P->K (cB false) m h:=λc=>o λe=>c (by injection e);refine⟨⟨0,⟨aD,λj hj=>by omega⟩,MT⟩,λi C=>aF (λd=>?_) (λG=>?_)⟩
  .obtain⟨x,A⟩:=eT oa d;obtain⟨y,B⟩:∃y,f[i]? =some y:=eT (n:=v.on.len) aD d;obtain⟨T,U,L,V⟩:=a.on_.at A;obtain⟨W,X,M,Y⟩:=b.on_.at B;refine⟨T,U,L,aD,d,x,.imm V,W,X,M,aD,aD,y,.imm Y,_,W7 x y,aC (λc=>f1 (JF A B (λe=>?_))) (λZ=>?_)⟩
   .rw[KX.2 e]at c;cases c
   .exact⟨i+1,⟨aD,sI A B (KX.1 (bt Z)) C.2⟩,aD,MT⟩
  .have e4:=vJ l4 aD C.2;clear C G;refine⟨⟨0,⟨aD,λj hj=>by omega⟩,MT⟩,λi C=>aF (λd=>?_) (λG=>?_)⟩
   .obtain⟨x,A⟩:=eT sa d;obtain⟨y,B⟩:∃y,g[i]? =some y:=eT (n:=v.order.len) aD d;obtain⟨T,U,L,V⟩:=a.order_.at A;obtain⟨W,X,M,Y⟩:=b.order_.at B;refine⟨T,U,L,aD,d,x,.imm V,W,X,M,aD,aD,y,.imm Y,_,W6 x y,aC (λc=>f2 (JF A B (λe=>?_))) (λZ=>?_)⟩
    .rw[KW.2 e]at c;cases c
    .exact⟨i+1,⟨aD,sI A B (KW.1 (bt Z)) C.2⟩,aD,MT⟩
   .have e5:=vJ l5 aD C.2;clear C G;refine⟨⟨0,⟨aD,λj hj=>by omega⟩,MT⟩,λi C=>aF (λd=>?_) (λG=>?_)⟩
    .obtain⟨x,A⟩:=eT qa d;obtain⟨y,B⟩:∃y,P[i]? =some y:=eT (n:=v.args.len) aD d;obtain⟨T,U,u,L,V,ru⟩:=a.args_.at A;obtain⟨W,X,z,M,Y,rz⟩:=b.args_.at B;refine⟨T,U,L,aD,d,u,.imm V,W,X,M,aD,aD,z,.imm Y,u,z,x,y,rfl,ru,rz,hN x (mem_of_getElem? A),λr hr=>aC (λc=>O (JF A B (λe=>?_))) (λZ=>?_)⟩
     .have:=hr.2 e;subst this;cases c
     .have a':r=true:=bt Z
      exact⟨i+1,⟨aD,sI A B (hr.1 a') C.2⟩,aD,MT⟩
    .exact hK true ⟨λ_=>by rw[e4,e5,vJ l6 aD C.2],λ_=>rfl⟩
theorem aqJ:∀N,bu 31 (caX N)
 |0=>by
  refine dU (fn:=Tryz.f31) (c:=bW Tryz.f31) func31 rfl bg ?_;rintro g m h K ⟨v,w,p,q,rfl,n,_,u,_⟩;omega
 |N+1=>by
  refine hU func31 ?_;rintro g m h K ⟨v,w,p,q,rfl,n,j,u,x⟩;have d:=@sL p;obtain⟨op,ta,E,co,on,gr,od,li,ps⟩:=p;obtain⟨y,z,A,B,e,C,f,D,o⟩:=q;refine⟨b0Q N v w on e od f ps o m h,rfl,aE (aqJ N) (aE RW (aE RV aG)),PT N v w on e od f ps o m h K,bd,?_⟩;exact ctX n.parts j.parts (λq j=>by have:=d (q:=q) j;omega) x
theorem aPJ:bu 31 caZ:=gW aqJ λ_ _ _ _⟨v,w,p,q,e,c,d,f⟩=>⟨SizeOf.sizeOf p+1,v,w,p,q,e,c,d,aD,f⟩
def bCX(h:PH)(q:Query)(v:QV):Prop:=match q with|.mk op ta w co on gr od li _=>kW h op ta w co on gr od li [] {v with args:=bR}
structure Dv(m:MH)(s:Sl)(us:db)(m':MH):Prop where
 row:dC m' s 38 21 (us.map QV.enc)
 fresh:∀b i,s.a=some ⟨b,i,none⟩->m b=none
 keep:∀b o,m b=some o->m' b=some o
def bJZ:Vc.Spec:=λc m h K=>∃v q,c=[aQ v]/\bU h q v/\∀d us m' h',PH.le h h'->bCX h' q d->Dv m d.args us m'->us.length=q.args.length->K (aQ d) m' h'
def bGQ(N:Nat):Vc.Spec:=λc m h K=>∃v q sc,c=[aQ v]/\bU h q v/\SizeOf.sizeOf q<N/\(aJ sc [] q).2=0/\∀d h',PH.le h h'->bU h' (fL q) d->K (aQ d) m h'
def bGX:Vc.Spec:=λc m h K=>∃v q sc,c=[aQ v]/\bU h q v/\(aJ sc [] q).2=0/\∀d h',PH.le h h'->bU h' (fL q) d->K (aQ d) m h'
noncomputable def bfZ(v:QV)(co:ca)(on:ce)(gr:ca)(od:cg):Ctx:=
 sN [(96,aAZ),(49,agQ)] [(9,{A:=Nat×PV×Sl×MH×PH,st:=λ⟨i,w,t,m,h⟩=>bQ 46 47 [(1,.at (.ptr 1 0)),(2,.at (.ptr 2 0)),(3,.at (.ptr 3 0)),(29,iv v.args.len),(30,iv i)] [(1,.cells 38 (v.enc.map .val)),(2,.cells 38 (lH.enc.map .val)),(3,.cells 38 (([Value.int .i64 v.op,Value.int .i64 v.table]++w.enc).map .val++[.lst 12,.lst 16,.lst 20,.lst 24,.val (.int .i64 v.limit),.val (.slice t.a t.len t.cap)])),(12,.lst 3 1 (co.map eI)),(16,.lst 101 2 (on.map kX)),(20,.lst 3 1 (gr.map eI)),(24,.lst 103 2 (od.map rN))] m h})] [] [] [1036] [] false
noncomputable def bVZ(N:Nat)(v:QV):Ctx:=
 sN [(74,bGQ N),(49,bJZ)] [(5,{A:=Nat×QV×MH×PH,st:=λ⟨i,w,m,h⟩=>bQ 43 44 [(1,.at (.ptr 1 0)),(2,.at (.ptr 2 0)),(3,.at (.ptr 3 0)),(27,iv w.args.len),(28,iv i)] [(1,.cells 38 (v.enc.map .val)),(2,.cells 38 (lH.enc.map .val)),(3,.cells 38 (w.enc.map .val))] m h})] [(9,{A:=QV×MH×PH,frz:=true,st:=λ⟨w,m,h⟩=>bQ 43 44 [(2,.at (.ptr 2 0)),(3,.at (.ptr 3 0))] [(2,.cells 38 (lH.enc.map .val)),(3,.cells 38 (w.enc.map .val))] m h})] [] [] [] false
def cbJ:Query:=.mk 0 0 eW [] [] [] [] 0 []
noncomputable def Uw(s:jE)(q:Query):Query:=if(dZ s [] q).2=0 then fL q else cbJ
def Oy:Vc.Spec:=λc m h K=>∃sc v s q,c=[aS sc,aQ v]/\gZ h s sc/\bU h q v/\∀d h',PH.le h h'->bU h' (Uw s q) d->K (.tup [aQ d,cI (dZ s [] q).2]) m h'
noncomputable abbrev pC(a:Nat×PV×Sl×MH×PH):PV:=a.2.1
noncomputable abbrev Da(a:Nat×PV×Sl×MH×PH):Sl:=a.2.2.1
attribute [push_cast] pC Da
def L1(v:QV)(co:ca)(on:ce)(gr:ca)(od:cg)(m:MH)(h:PH)(K:bz):Prop:=
  BX (λA s p B=>aA (cV (yG v) j8=cV (cQ A) (fJ s)) (dD h p A) (cF h s B/\Eo (λC c=>cC h c (dD c (D4 B p) C) (∃(y:List bx),Fc 1 y (mJ m c (Dd v) 1 y) 8 (λu=>Fc 2 u (mJ m c (iA v.on.a v.on) 2 u) 16 (λz=>Fc 1 z (mJ m c (HD v) 1 z) 8 (λe=>j6 2 e (mJ m c (HE v) 2 e) (fC (e.length*16)) (fC e.length) (∃(I:Nat×PV×Sl×MH×PH->Prop)(D:Nat×PV×Sl×MH×PH->Nat),(∃(x:Nat×PV×Sl×MH×PH),Kl (I x) (qV v) x.1 v (aA (yO (BF v C FU) (BF v (pC x) (vK (Da x)))) (jV y co) (aA (BE u (xH on)) (jV z gr) (bP (Option.some (Own.lst 103 2 e)=Option.some (Own.lst 103 2 (Gh od))) (bH m x.2.2.2) (c=fP x.2.2)))))/\∀(x:Nat×PV×Sl×MH×
 PH),I x->aZ (↑x.1:Int) (aH v.args) (bJ (λb o=>aA (bM v.args.a b o) (0<=(↑x.1:Int)) ((↑x.1:Int)<aH v.args/\∃(g:QV),aU (eU x.2.2) (fP x.2.2) b (bK o x.1 21) g.enc/\mU (λE q=>aA (kG g=kG E) (bU (fP x.2.2) q E) (Hf (fP x.2.2) q (λG f=>EA (aU (eU x.2.2) f b (bK o x.1 21) g.enc) (bL f b (bK o x.1 21) g.enc) (λj=>aA (dC (eU x.2.2) (iA (Da x).a (Da x)) 38 21 j) (fC (iY j 1*280)) (jQ j/\lD (λn F=>eD (eU x.2.2) F (iA (Da x).a (Da x)) n 38 21 (eN j G.enc)->∃(d:Nat×PV×Sl×MH×PH),aA (I d) (D d<D x) (aA eM dQ (aA bV (qV v) (aA (bD (fZ (bE x.1 1)) d.1) (dM v) (aA eG (yO (BF v (pC x) (vK n)) (BF v (pC
 d) (vK (Da d)))) (aA (eQ (Option.some (Own.lst 3 1 (cZ co)))) (eQ (Option.some (Own.lst 101 2 (xH on)))) (aA (eQ (Option.some (Own.lst 3 1 (cZ gr)))) (eQ (Option.some (Own.lst 103 2 (Gh od)))) (aA (bH F d.2.2.2) (f=fP d.2.2) True)))))))))))))))) (bO (fP x.2.2) 1 (cZ co) (λn f=>bO f 2 (xH on) (λH J=>bO J 1 (cZ gr) (λL M=>bO M 2 (Gh od) (λO P=>K (lS (aM (eF v.op) (oN v) (aM (eF (pC x).op) (eF (pC x).cmp) (aM (sW (pC x)) (sX (pC x)) (aM (eF (AY (pC x).left)) (rU (pC x)) (aM (rV (pC x)) (rW (pC x)) (aM (tA (pC x)) (tB (pC x)) (aM (tC (pC x)) (tD (pC x)) (aM (fK (pC x).args) (fK n) (aM (fK H) (fK L) (aM (fK O) (Bh v) (bA (Da
 x))))))))))))) (eU x.2.2) P)))))))))))))
def Wo(N:Nat)(v:QV)(m:MH)(h:PH)(K:bz):Prop:=
  cW (v.op==7) (Hu v 0 0 (λb o y=>aU m h b (o+0) y.enc/\EJ y h N (λ_ f e=>K (cN f) m e))) (v.op==9) (Hu v 0 0 (λb o y=>aU m h b (o+0) y.enc/\EJ y h N (λ_ f e=>K (cN f) m e))) (eO v.op 10 (Hu v 0 0 (λb o y=>aU m h b (o+0) y.enc/\EJ y h N (λ_ f e=>K (cN f) m e))) (mU (λf q=>aA (kG v=kG f) (bU h q f) (∀(g:QV)(u:db),gA (λz e=>cC h e (bCX e q g) (Dv m g.args u z->u.length=q.args.length->J5 (λI=>Hv (λI1 x=>Kl (I1 x) (cG g.args (gG x).args) x.1 v (bP (gL g (gG x)) (bH z x.2.2) (e=jA x))) (λI1 A x=>I1 x->aZ (↑x.1:Int) (aH (gG x).args) (bJ (λb o=>aA (bM v.args.a b o) (0<=(↑x.1:Int)) ((↑x.1:Int)<aH v.args/\∃(y:QV),
 aU (oG x) (jA x) b (bK o x.1 21) y.enc/\EJ y (jA x) N (λ_ C D=>bJ (λj n=>aA (bM (gG x).args.a j n) (0<=(↑x.1:Int)) ((↑x.1:Int)<aH (gG x).args/\wD (λc E=>aA (Ib (oG x) j (oU c E 0)) (bK n x.1 21+21<=c.size) (∀(B:MH),eA (oG x) B j (w9 c (bK n x.1 21) C.enc) E->∃(d:Nat×QV×MH×PH),aA (I1 d) (A d<A x) (aA eM dQ (aA bV (cG (gG x).args (gG d).args) (aA (bD (fZ (bE x.1 1)) d.1) (dM v) (tI eG (gL (gG x) (gG d)) (bH B d.2.2) D (jA d))))))))))))) (Fi (oG x) (jA x) (λd=>aA (I d) dQ (aA bV eG (aA (gL (gG x) d.1) (sP (oG x) (jA x) (jC d) (dL d)) True)))))) (λx=>K (cN x.1) (jC x) (dL x))))))))
def R7(sc:cE)(v:QV)(m:MH)(h:PH)(K:bz):Prop:=
  CS (cJ sc::cV j8 (cN v)) h (λs p q=>iR (λg c=>cC h c (Ints c g (dZ s p q).1) (eC (yJ s p q) 0 (K (CV.tup (cV (lS zV) (CV.val (eF (yJ s p q))))) m c) (mU (λe d=>∃(j:jE),aA (kG v=kG e) (bU c d e) (Kx j d/\HF c d (λf n=>f.op=opE d->K (CV.tup (aW (cN f) 0)) m n)))))))
def WB(sc:cE)(v:QV)(m:MH)(h:PH)(K:bz):Prop:=
  CS (cJ sc::cV j8 (cN v)) h (λs p q=>iR (λf c=>cC h c (Ints c f (dZ s p q).1) (eC (yJ s p q) 0 (K (CV.tup (cV (lS zV) (CV.val (eF (yJ s p q))))) m c) (mU (λe d=>∃(g:jE),aA (kG v=kG e) (bU c d e) (Kx g d/\HF c d (λj n=>K (CV.tup (aW (cN j) 0)) m n)))))))
theorem Dv.grow{f:MH}{t g:Sl}{us:db}{u:QV}(x:Dv m t us f)(d:eD f m' t g 38 21 (us.map QV.enc++[QV.enc u])):Dv m g (us++[u]) m':=
 ⟨by rw[map_append];exact d.row,λb i e=>by
  rcases d.fresh b i e with c|⟨j,c⟩
  .cases n:m b with
   |none=>rfl
   |some o=>rw[x.keep b o n]at c;cases c
  .exact x.fresh b j c,λb o e=>d.other b o (x.keep b o e) λi y=>by rw[x.fresh b i y]at e;cases e⟩
theorem Dv.back{c:MH}{t:Sl}{us:db}(x:Dv m t us c):kZ m c=m:=funext λb=>by
 unfold kZ;cases e:m b with
 |none=>rfl
 |some o=>exact x.keep b o e
theorem Dv.put{n:MH}{w:Sl}{us:db}{t:Nat}(x:Dv m w us n)(E:t<us.length):∃b,w.a=some ⟨b,0,none⟩/\t<w.len/\∃(cs:Array Value)(F:TypeId),Ib n b (.cells cs F (0,0))/\0+t*21+21<=cs.size/\∀u m',iL n m' b (.cells ⟨splice cs.toList (0+t*21) (QV.enc u)⟩ F (0,0))->Dv m w (us.set t u) m':=by
 have d:∀u:QV,(QV.enc u).length=21:=λu=>rfl;rcases x.row.ex with⟨rfl,e⟩|⟨b,f,c,rfl,I,y,z,A,g⟩
 .have B:=congrArg List.length e;rw[length_map,length_nil]at B;omega
 .rw[length_map]at y;have C:c.toList.length=f*21:=by rw[Array.length_toList];exact A
  have D:=x.fresh b 0 rfl;refine⟨b,rfl,by show t<(us.map QV.enc).length;rw[length_map];exact E,c,38,⟨I⟩,aD,λu m' G=>⟨⟨F7 _,.inr ⟨b,f,⟨splice c.toList (0+t*21) (QV.enc u)⟩,bf,G.at_,bj,z,?_,?_⟩⟩,x.fresh,λH o e=>?_⟩⟩
  .show(splice c.toList (0+t*21) (QV.enc u)).length=f*21;rw[wC _ _ _ (by rw[d];omega)];exact C
  .show(splice c.toList (0+t*21) (QV.enc u)).take _=_;rw[length_map,length_set,F0 _ _ _ _ (by rw[d];omega) aD];rw[length_map]at g;have J:(us.map QV.enc)[t]? =some (QV.enc us[t]):=by rw[getElem?_map,getElem?_eq_getElem E];rfl
   have j:=Go.Vc.flatten_set (off:=0) (l:=QV.enc u) (F7 us).len J (by rw[d,d];omega);rw[Nat.add_zero,show splice (QV.enc us[t]) 0 (QV.enc u)=QV.enc u from rfl]at j;rw[g,Nat.zero_add,map_set];exact j
  .rw[G.other H (λB=>by rw[B,D]at e;cases e)];exact x.keep H o e
theorem bXX{op:Int}{w:Pred}{on:ce}{args:ci}(x:kW h op ta w co on gr od li args v)(U:∀g us m' h',PH.le h h'->kW h' op ta w co on gr od li [] {g with args:=bR}->Dv m g.args us m'->us.length=args.length->K (aQ g) m' h'):L1 v co on gr od m h K:=by
 dsimp only[L1,push_cast];have V:=x.args_.slen;have L:=x.args_.len;have W:=x.columns_.len;have X:=x.on_.len;have Y:=x.group_.len;have Z:=x.order_.len;refine⟨v.where_,⟨none,0,0⟩,w,[],rfl,x.where_,.nil _ _ _ _,λE G c M=>⟨_,mW co,.imm (x.columns_.mono c).row,bj,bj,_,BA on,.imm (x.on_.mono c).row,bj,bj,_,mW gr,.imm (x.group_.mono c).row,bj,bj,_,Bz od,.imm (x.order_.mono c).row,bj,bj,?_⟩⟩;rw[H7]at M;refine⟨λz=>z.1<=args.length/\∃t F H us,z.2=(E,t,F,H)/\PH.le G H/\Dv m t us F/\us.length=z.1,λz=>args.length-z.1,⟨(0,E,bR,m,G),⟨bf,bR,m,G,[],rfl,.refl _,⟨dC.nil _ _ _,λb i e=>(by cases e),λb o e=>e⟩,rfl⟩,MT⟩,?_⟩;rintro⟨i,z⟩ ⟨hi,t,F,H,us,e,f,I,j⟩;dsimp only at hi e j;subst e;dsimp only;refine aF (λn=>?_) (λa'=>?_)
 .obtain⟨q,O⟩:=eT V n;have a5:=(List.getElem?_eq_some_iff.1 O).1;obtain⟨b1,o1,u,e1,y,J⟩:=(x.args_.mono (c.trans f)).at O;refine⟨b1,o1,e1,aD,n,u,.imm y,u,q,rfl,J,λg h' d a6=>⟨.imm (y.mono d),y.mono d,us.map QV.enc,I.row,bi,bi,λP m' hg=>?_⟩⟩;rw[jO aD];exact⟨(i+1,E,P,m',h'),⟨br,P,m',h',us++[g],rfl,f.trans d,I.grow hg,by simp[j]⟩,bo,MT⟩
 .intro s1 h2 A y s2 h3 B r2 s3 h4 C r3 s4 h5 D r4;have Q:=D;have R:=C.trans Q;have S:=B.trans R;have a1:=A.trans S;have T:=f.trans a1;exact U ⟨v.op,v.table,E,s1,s2,s3,s4,v.limit,t⟩ us F h5 (c.trans T) ⟨x.op_,x.table_,M.mono T,⟨y.mono S,W⟩,⟨r2.mono R,X⟩,⟨r3.mono Q,Y⟩,⟨r4,Z⟩,x.limit_,bY.nil _ _ _ _⟩ I aD
theorem Yk:bu 49 bJZ:=by
 refine hU func49 ?_;rintro c m h K ⟨v,q,rfl,d,e⟩;obtain⟨op,ta,w,co,on,gr,od,li,args⟩:=q;refine⟨bfZ v co on gr od,rfl,aE LX (aE L2 aG),L1 v co on gr od m h K,bd,?_⟩;exact bXX d.parts λf us m' h' le x g j=>e f us m' h' le x g j
theorem b8Q{op:Int}{w:Pred}{on:ce}{a:Query}{l:ci}(h:Bt op=true):fL (.mk op ta w co on gr od li (a::l))=fL a:=by
 rw[fL,if_pos h,FK];rfl
theorem bxQ{op:Int}{w:Pred}{on:ce}{args:ci}(h:Bt op=false):fL (.mk op ta w co on gr od li args)= .mk op ta w co on gr od li (args.map fL):=by
 rw[fL,if_neg (by simp[h]),D1]
theorem apJ:∀N,bu 74 (bGQ N)
 |0=>by
  refine dU (fn:=Tryz.f74) (c:=bW Tryz.f74) func74 rfl (by decide) ?_;rintro a' m h K ⟨v,q,sc,rfl,_,hN,_⟩;omega
 |N+1=>by
  refine hU func74 ?_;rintro a' m h K ⟨v,q,sc,rfl,hq,hN,g,hK⟩;refine⟨bVZ N v,rfl,aE (apJ N) (aE Yk aG),Wo N v m h K,by kernel_rfl,?_⟩;dsimp only[Wo,push_cast];have A:=@sL q;obtain⟨op,ta,pw,co,on,gr,od,li,args⟩:=q;have x:=hq.parts;have C:v.op=op:=x.op_;have S:=bY.slen x.args_;have a9:=bY.len x.args_
  have one:Bt op=true->∃(b off:Nat),v.args.a=some ⟨b,off,none⟩/\(0:Int)<=0/\(0:Int)<(v.args.len:Int)/\∃y:QV,aU m h b (off+0) (QV.enc y)/\∃(v1:QV)(q:Query)(sc:jE),[aQ y]=[aQ v1]/\bU h q v1/\SizeOf.sizeOf q<N/\(aJ sc [] q).2=0/\∀(f:QV)(h':PH),PH.le h h'->bU h' (fL q) f->K (aQ f) m h':=λT=>by
   have a0:∃a r,args=a::r:=by
    have a1:=(iJ g).2.1;cases args with
    |nil=>
     simp only[Bt,Bool.or_eq_true,beq_iff_eq]at T;rcases T with(rfl|rfl)|rfl<;>simp[arity]at a1
    |cons a r=>exact⟨a,r,rfl⟩
   obtain⟨a,r,rfl⟩:=a0;obtain⟨b1,o1,u,ea,rd,hu⟩:=bY.at x.args_ (i:=0) rfl;have:=A (q:=a) (by simp[Query.args]);rw[b8Q T]at hK;exact⟨b1,o1,ea,aD,by rw[S];simp,u,.imm (by simpa using rd),u,a,sc,rfl,hu,aD,(iJ g).1 a (by simp),hK⟩
  refine aC (λe=>one (by rw[<-C,show v.op=7 by simpa using e];rfl)) (λn7=>aC (λe=>one (by rw[<-C,show v.op=9 by simpa using e];rfl)) (λn9=>aC (λe=>one (by rw[<-C,show v.op=10 by simpa using e];rfl)) (λH=>?_)))
  have a2:Bt op=false:=by
   simp only[beq_eq_false_iff_ne,ne_eq]at n7 n9 H;rw[C]at n7 n9 H;simp[Bt,n7,n9,H]
  rw[bxQ a2]at hK;refine⟨v,_,rfl,hq,λf us m1 h1 U I J B=>?_⟩;have I:kW h1 op ta pw co on gr od li [] {f with args:=bR}:=I;have B:us.length=args.length:=B;have a3:=dC.slen J.row;rw[length_map]at a3;refine⟨λz=>∃V,z=(f,m,V)/\PH.le h V/\bU V (.mk op ta pw co on gr od li (args.map fL)) f,?_,?_⟩
  .refine⟨λz=>z.1<=args.length/\∃us Q R,z.2=(f,Q,R)/\PH.le h1 R/\Dv m f.args us Q/\us.length=args.length/\∀(j:Nat) q,j<z.1->args[j]? =some q->∃u,us[j]? =some u/\bU R (fL q) u,λz=>args.length-z.1,⟨(0,f,m1,h1),⟨by simp,us,m1,h1,rfl,.refl _,J,B,λj q M=>by simp at M⟩,MT⟩,?_⟩;rintro⟨i,z⟩ ⟨hi,us,Q,R,e,lex,J,B,O⟩;dsimp only at hi e O;subst e;dsimp only;refine aF (λb0=>?_) (λb2 d=>?_)
   .obtain⟨q,D⟩:=eT (n:=v.args.len) S (i:=i) aD;have b3:=(List.getElem?_eq_some_iff.1 D).1;have E:=mem_of_getElem? D;obtain⟨b1,o1,u,W,r1,a4⟩:=bY.at x.args_ D;have:=A (q:=q) E;have L:=U.trans lex;refine⟨b1,o1,W,aD,aD,u,.imm (r1.mono L),u,q,sc,rfl,a4.mono L,aD,(iJ g).1 q E,λv2 h2 X a5=>?_⟩;obtain⟨b,eb,b',cs,F,Y,a6,a7⟩:=Dv.put J (t:=i) aD;rw[jO aD];refine⟨b,0,eb,aD,aD,cs,F,Y,a6,λm' hm=>⟨(i+1,f,m',h2),⟨by show i+1<=_;omega,us.set i v2,m',h2,rfl,lex.trans X,a7 v2 m' hm,by rw[length_set];exact B,λj q' M o=>?_⟩,by show args.length-(i+1)<args.length-i;omega,MT⟩⟩;by_cases Z:j=i
    .subst Z;rw[D]at o;cases o;exact⟨v2,by rw[getElem?_set_self aD],a5⟩
    .obtain⟨u',W,e2⟩:=O j q' (by have M:j<i+1:=M;omega) o;exact⟨u',by rw[getElem?_set_ne (Ne.symm Z)];exact W,e2.mono X⟩
   .have a8:=jJ.ice (m0:=m) (m:=Q) (h:=R) (s:=f.args) ⟨J.row,J.fresh⟩;have P:=zB (m0:=m) d;have G:=I;refine⟨(f,kZ m Q,oO m Q R),⟨_,by rw[J.back],(U.trans lex).trans P,kW.rep ⟨G.op_,G.table_,G.where_.mono (lex.trans P),G.columns_.mono (lex.trans P),G.on_.mono (lex.trans P),G.group_.mono (lex.trans P),G.order_.mono (lex.trans P),G.limit_,⟨⟨us,a8,by rw[length_map];omega,λj q M=>?_⟩,by rw[length_map];omega⟩⟩⟩,FT⟩;rw[getElem?_map,Option.map_eq_some_iff]at M;obtain⟨q',o,rfl⟩:=M;obtain⟨u,W,e2⟩:=O j q' (by have:=(List.getElem?_eq_some_iff.1 o).1;omega) o;exact⟨u,W,e2.mono P⟩
  .rintro _ ⟨V,rfl,le,T⟩;exact hK f V le T
theorem aMJ:bu 74 bGX:=gW apJ λ_ _ _ _⟨v,q,sc,e,c,d,f⟩=>⟨SizeOf.sizeOf q+1,v,q,sc,e,c,aD,d,f⟩
theorem RB(h:PH):bU h cbJ lH:=OA ⟨cD.nil _ _,bf⟩
theorem b0Z{q:Query}(o:gZ h s sc)(j:bU h q v)(f:∀d h',PH.le h h'->bU h' (Uw s q) d->K (.tup [aQ d,cI (dZ s [] q).2]) m h'):R7 sc v m h K:=
 ⟨sc,bR,v,s,[],q,rfl,o,Pv h,j,λ_ n c _=>aC (λe=>f lH n c (by rw[Uw,if_neg (by simpa using e)];exact RB n)) (λe=>by
  have g:(dZ s [] q).2=0:=by simpa using e
  rw[Uw,if_pos g,g]at f;exact⟨v,q,s,rfl,j.mono c,(CJ g).1,λd h' le u _=>f d h' (c.trans le) u⟩)⟩
theorem Yu:bu 29 Oy:=by
 refine hU func29 ?_;rintro c m h K ⟨sc,v,s,q,rfl,d,e,f⟩;refine⟨dA [(57,Ba),(73,cwZ)] [] [] [] false,rfl,aE av (aE RX aG),R7 sc v m h K,bd,?_⟩;exact b0Z d e f
theorem ctZ{q:Query}(o:gZ h s sc)(j:bU h q v)(f:∀d h',PH.le h h'->bU h' (Uw s q) d->K (.tup [aQ d,cI (dZ s [] q).2]) m h'):WB sc v m h K:=
 ⟨sc,bR,v,s,[],q,rfl,o,Pv h,j,λ_ n c _=>aC (λe=>f lH n c (by rw[Uw,if_neg (bt e)];exact RB n)) (λe=>by
  have g:(dZ s [] q).2=0:=bt e
  rw[Uw,if_pos g,g]at f;exact⟨v,q,s,rfl,j.mono c,(CJ g).1,λd h' le u=>f d h' (c.trans le) u⟩)⟩
theorem aQQ:bu 30 Oy:=by
 refine hU func30 ?_;rintro c m h K ⟨sc,v,s,q,rfl,d,e,f⟩;refine⟨dA [(37,Ba),(74,bGX)] [] [] [] false,rfl,aE R0 (aE aMJ aG),WB sc v m h K,bd,?_⟩;exact ctZ d e f
theorem gJ.new(c:gJ m)(f:m cb=none)(o:bF m m' cb):gJ m':=by
 obtain⟨T,d,e⟩:=c;refine⟨T,d,?_⟩;rw[o.other 1 (λg=>bk)];exact e
def cIQ:Vc.Spec:=λc m h K=>∃s d v q,c=[cS s,aQ v]/\cD h s 1 (bC d)/\s.len<=s.cap/\bU h q v/\gJ m/\∀m' h',Sub m m'->K (cB true) m' h'
noncomputable def f5_ctx:Ctx:=
 dA [(8,cEZ),(9,bEX),(10,aeZ 1000),(14,cCJ),(29,Oy),(30,Oy),(31,caZ),(32,bLX)]
  [(5,{A:=Nat×cE×QV×QV×QV×MH×PH,st:=λ⟨i,sc,a,b,c,m,h⟩=>bQ 55 57 [(6,.at (.ptr 6 0)),(26,.at (.lst 26)),(27,iv 3),(28,iv i)] [(6,.cells 43 (sc.enc.map .val)),(26,.lst 38 21 [QV.enc a,QV.enc b,QV.enc c])] m h})] [] [] false
noncomputable abbrev sE(a:Nat×cE×QV×QV×QV×MH×PH):QV×MH×PH:=a.2.2.2.2
noncomputable abbrev Km(a:Nat×cE×QV×QV×QV×MH×PH):List bx:=a.2.2.1.enc::j4 a.2.2.2.1.enc (sE a).1.enc
attribute [push_cast] sE Km
def ae(s:Sl)(v:QV)(m:MH)(h:PH)(K:bz):Prop:=
  ∃(o:Sl)(c:cu)(T:Nat),aA (iO s 200=iO o (↑T:Int)) (cD h o 1 (bC c)) (aA (o.len<=o.cap) (mG T) (∀(j:Nat),gA (λu z=>cC h z (m j=Option.none) (bF m u j->aL u z j->∃(A:Nat),aA (oB (iD j)=oB (iD A)) (aL u z A) (∀(U:jE)(L:cE),gA (λB f=>QG U->gZ f U L->cC z f (bF u B A) (aL B f A->∃(C:Nat),Ev (λV p=>Ik (λD E=>∃(d:Int),aA (cT j (cJ L::aW j8 3)=cT C (cJ V::iO p d)) (aL B f C) (aA (gZ f D V) (dK D=0) (aA (yF (D.tables=[])) (Ints f p E) (aA (fO E) (fV (DC E)) (aA (Int.negSucc 0<=d) (d<=1000) ((d+1).toNat<1000/\Hg f (λw q F G=>QW q->DM d.toNat q->yJ D E q=0->bF B
 F C->aL F G C->∃(H:Nat),mU (λW X=>aA (cV (iD j) (cN w)=cV (iD H) (cN W)) (aL F G H) (aA (bU G X W) (Ja X) (∀(q2:Query)(Y:QV),gA (λM J=>cC G J (bU J q2 Y) (bF F M H->aL M J H->∃(I:Nat×cE×QV×QV×QV×MH×PH->Prop)(Z:Nat×cE×QV×QV×QV×MH×PH->Nat),(∃(x:Nat×cE×QV×QV×QV×MH×PH),aA (I x) (eP 6) (aA (eL 26) qC (aA (bB x.1) (u0 L x.2.1) (aA (Option.some (Own.lst 38 21 (w.enc::j4 Y.enc v.enc))=Option.some (Own.lst 38 21 (Km x))) (bH M (sE x).2) (bN J (dL (sE x)))))))/\∀(x:Nat×cE×QV×QV×QV×MH×PH),I x->aZ (↑x.1:Int) 3 (nZ (↑x.1:Int) ((↑x.1:Int)<3) (λe=>mQ (Km x) (↑x.1:Int) e/\∃(y:QV),qB 21 e y.enc/\Ko (λs5
 v4 O P=>aA (cV (cJ x.2.1) (cN y)=cV (cJ s5) (cN v4)) (gZ (dL (sE x)) O s5) (bU (dL (sE x)) P v4/\Hf (dL (sE x)) (Uw O P) (λv5 Q=>Ko (λs7 v6 R S=>aA (cV (cJ x.2.1) (cN y)=cV (cJ s7) (cN v6)) (gZ Q R s7) (bU Q S v6/\Hf Q (Uw R S) (λv7 n=>eC (Dx O P) (Dx R S) (K aX (jC (sE x)) n) (Kn (λv8 w1 p2 q5=>mC (cV (cN v5) (cN v7)) (cV (cN v8) (cN w1)) (bU n p2 v8) (bU n q5 w1) (λr=>iU (fV r↔p2=q5) (!r) (K aX (jC (sE x)) n) (∃(g:Nat×cE×QV×QV×QV×MH×PH),aA (I g) (Z g<Z x) (aA (eP 6) (eL 26) (aA qC (bD (fZ (bE x.1 1)) g.1) (aA (u0 x.2.1 g.2.1) (Option.some (Own.lst 38 21 (Km x))=Option.some (Own.lst 38 21 (Km g)))
 (aA (bH (jC (sE x)) (sE g).2) (n=dL (sE g)) True)))))))))))))))) (aA (([]:cz)=[]) (gJ (jC (sE x))) (gK K (jC (sE x)) (dL (sE x))))))))))))))))))))))))
theorem VS:∀q:Query,z8 q->agJ q->Ja q
 |.mk op ta w co on gr od li args,h,a=>by
  rw[z8.eq_def]at h;rw[agJ.eq_def]at a;obtain⟨k,d⟩:=h;obtain⟨f,e⟩:=a;have:arity op<=2:=by unfold arity;repeat' split<;>omega
  exact Po.2 ⟨k.wher,k.columns,k.on,k.group,k.order,aD,λb c=>VS b (d b c) (e b c)⟩
 termination_by q=>SizeOf.sizeOf q
 decreasing_by
  have:=sizeOf_lt_of_mem c;simp only[Query.mk.sizeOf_spec];omega
theorem bQQ{q:Query}(h:(dZ s ps q).2=0):Ja q:=by
 have:=HI q (F8 h).2.2.2;exact VS q this.1 this.2
theorem az{s:Sl}{cs:cu}{O:Query}(C:cD h s 1 (bC cs))(f:s.len<=s.cap)(V:bU h O v)(W:gJ m)(X:∀m' h',Sub m m'->K (cB true) m' h'):ae s v m h K:=by
 dsimp only[ae,push_cast];refine⟨s,cs,200,rfl,C,f,aD,λcb m1 h1 D g Y Z=>⟨cb,rfl,Z,λsc sv m2 h2 E P F o2 c2=>?_⟩⟩;obtain⟨G,H⟩:=a5X E;have sub:∀{I},bF m I cb->Sub m I:=fun{I} A b o e=>by rw[A.other b (λe2=>by rw[e2,g]at e;cases e)];exact e
 refine⟨cb,sv,bR,sc,[],3,rfl,c2,P,G,H,Pv h2,bf,bf,aD,aD,bg,λa Q m3 h3 j R qw fq J o3 c3=>⟨cb,a,Q,rfl,c3,R,bQQ J,λq' b B S c rb o4 c4=>?_⟩⟩;have A:=((Y.trans o2).trans o3).trans o4;have n:=P.mono (j.trans c);have L:=R.mono c;have M:=V.mono (((D.trans F).trans j).trans c);refine⟨λz=>z.1<=3/\sv=z.2.1/\a=z.2.2.1/\b=z.2.2.2.1/\v=z.2.2.2.2.1/\B=z.2.2.2.2.2.1/\PH.le S z.2.2.2.2.2.2,λz=>3-z.1,⟨(0,sv,a,b,v,B,S),⟨bf,rfl,rfl,rfl,rfl,rfl,.refl _⟩,MT⟩,?_⟩;rintro⟨i,_,_,_,_,_,T⟩ ⟨hi,rfl,rfl,rfl,rfl,rfl,lex⟩;dsimp only at hi lex⊢
 refine aF (λx=>?_) (λ_=>⟨rfl,W.new g A,X B T (sub A)⟩)
 obtain⟨u,q,he,U⟩:∃(u:QV)(q:Query),[QV.enc a,QV.enc b,QV.enc v][i]? =some (QV.enc u)/\bU T q u:=by
  have x:i<3:=by omega
  match i,x with
  |0,_=>exact⟨a,Q,rfl,L.mono lex⟩
  |1,_=>exact⟨b,q',rfl,rb.mono lex⟩
  |2,_=>exact⟨v,O,rfl,M.mono lex⟩
 refine⟨aD,aD,QV.enc u,he,u,rfl,sv,u,sc,q,rfl,n.mono lex,U,λv1 h5 d r5=>⟨sv,u,sc,q,rfl,(n.mono lex).mono d,U.mono d,λv2 h6 y r6=>?_⟩⟩;refine aC (λe=>by simp at e) (λ_=>⟨v1,v2,_,_,rfl,r5.mono y,r6,λr C=>aC (λe=>by rw[C.2 rfl]at e;cases e) (λ_=>?_)⟩);rw[jO aD];exact⟨(i+1,sv,a,b,v,B,h6),⟨br,rfl,rfl,rfl,rfl,rfl,(lex.trans d).trans y⟩,bo,MT⟩
theorem aB:bu 5 cIQ:=by
 refine hU func5 ?_;rintro d m h K ⟨s,n,v,q,rfl,e,c,f,g,j⟩;refine⟨f5_ctx,rfl,aE beZ (aE beQ (aE (asQ 1000) (aE aUX (aE Yu (aE aQQ (aE aPJ (aE aPZ aG))))))),ae s v m h K,bd,?_⟩;exact az e c f g j
open
  Go.Proofs.YtjpjambjoceofaaGreatDoor.Rows (uptoBulk uptoBulkAll)
def hW(w:World):PH:=λb o=>match w.cell? ⟨b,o,none⟩with|some (.int .u64 _)=>none|x=>x
def noU(v:Value):Prop:=∀n,v≠ .int .u64 n
theorem cqJ{w:World}{o:Nat}{v:Value}(h:hW w b o=some v):w.cell? ⟨b,o,none⟩=some v:=by
 unfold hW at h;split at h
 .cases h
 .exact h
theorem cAQ{w:World}{o:Nat}{v:Value}(h:w.cell? ⟨b,o,none⟩=some v)(c:noU v):hW w b o=some v:=by
 unfold hW;split
 .rename_i n e;rw[h]at e;exact(c _ (Option.some.inj e)).elim
 .exact h
theorem Xc{w:World}{d n:Nat}{a:Addr}{cs:bx}(h:w.cells? d a n=some cs)(A:∀v∈cs,noU v)(B:0<n):
 ∃b o,a=⟨b,o,none⟩/\cs.length=n/\bL (hW w) b o cs:=by
 unfold World.cells? at h;split at h
 .have f:=mapM_some_length h;have x:=λi(g:i<n)=>mapM_some_get h i i (by simp[g]);obtain⟨b,off,e⟩:=a;have y:=x 0 B;have j:0<cs.length:=by simp at f;omega
  rw[getElem?_eq_getElem j]at y;have c:e=none:=by simpa[Addr.add]using World.cell?_spot y
  subst c;refine⟨b,off,rfl,bt f,⟨λi v u=>?_⟩⟩;have g:i<n:=by have:=(List.getElem?_eq_some_iff.1 u).1;simp at f;omega
  have z:=x i g;rw[u,Go.WideShapes.add_plain]at z;exact cAQ z (A v (mem_of_getElem? u))
 .cases h
theorem Qm{H:Type}{d:DataW H}:∀{l:List (DataW H)},d∈l->uptoBulk d<=uptoBulkAll l
 |[],h=>by cases h
 |x::r,h=>by
  simp only[uptoBulkAll];rcases mem_cons.1 h with rfl|h
  .omega
  .have:=Qm (l:=r) h;omega
theorem bzQ{H:Type}:∀(d:DataW H),1<=uptoBulk d
 |.lit (.string _)=>by simp[uptoBulk]
 |.lit (.bool _)=>by simp[uptoBulk]
 |.lit (.int ..)=>by simp[uptoBulk]
 |.lit (.float ..)=>by simp[uptoBulk]
 |.lit .nil=>by simp[uptoBulk]
 |.nil=>by simp[uptoBulk]
 |.ptr _=>by simp[uptoBulk]
 |.slice .. =>by simp[uptoBulk]
 |.agg _=>by simp[uptoBulk]
 |.iface .. =>by simp[uptoBulk]
 |.map _=>by simp[uptoBulk]
 |.held _=>by simp[uptoBulk]
theorem Xh{H:Type}:∀(l:List (DataW H)),l.length<=uptoBulkAll l
 |[]=>bf
 |x::r=>by
  simp only[uptoBulkAll,length_cons];have:=bzQ x;have:=Xh r;omega
section
variable{H:Type}{enc:TypeId×Value->H}{w:World}{base:Nat}{sp:Nat->Bool}{held:Bool}
theorem zS{α β:Type}{T e:TypeId}{sz:Nat}(ht:Tryz.prog.underlying T=some (.slice e))(I:Tryz.prog.cellsOf e=sz)(W:0<sz)(B:β->bx)(C:∀v,∀u∈B v,noU u)(Q:α->β->Prop)
 {f:Nat}{cs:bx}{x:DataW H×List MemPlace}(h:DataW.trod enc Tryz.prog w base sp held f T cs=some x)
 (J:∀(n:Nat)(c:bx)(y:DataW H×List MemPlace),n<f->uptoBulk y.1<=uptoBulk x.1->DataW.trod enc Tryz.prog w base sp held n e c=some y->∃a v,c=B v/\Q a v):
 ∃(s:Sl)(ps:List α)(vs:List β),cs=[.slice s.a s.len s.cap]/\cD (hW w) s sz (vs.map B)/\ps.length=vs.length/\ps.length<=uptoBulk x.1/\∀(i:Nat)(a:α)(v:β),ps[i]? =some a->vs[i]? =some v->Q a v:=by
 rcases DataW.trod_slice ht h with⟨rfl,rfl⟩|⟨a,len,L,d,X,n,rfl,rfl,rfl, -,M, -,Y,Z, -, -⟩
 .exact⟨⟨none,0,0⟩,[],[],rfl,cD.nil _ _,rfl,bf,bf⟩
 .rw[I]at Z
  have key:∀i,i<len->∃(c:bx)(p:α×β),w.cells? base (a.add (i*sz)) sz=some c/\c=B p.2/\Q p.1 p.2:=λi O=>by
   have j:=Z i O;rw[getElem?_eq_getElem aD,Option.bind_eq_some_iff]at j;obtain⟨c,P,z⟩:=j
   obtain⟨p,v,R,h4⟩:=J n c _ (Nat.lt_succ_self n) (by
    simp only[uptoBulk];have:=Qm (l:=d.map (·.1)) (mem_map.2 ⟨d[i],getElem_mem aD,rfl⟩);omega) z
   exact⟨c,(p,v),P,R,h4⟩
  have D:∀k,k<=len->∃l:List (α×β),l.length=k/\∀i p,l[i]? =some p->∃c,w.cells? base (a.add (i*sz)) sz=some c/\c=B p.2/\Q p.1 p.2:=by
   intro k
   induction k with
   |zero=>exactλ_=>⟨[],rfl,bf⟩
   |succ k ih=>
    intro hk;obtain⟨l,A,E⟩:=ih aD;obtain⟨c,p,j,z,R⟩:=key k aD;refine⟨l++[p],by simp[A],λi q g=>?_⟩;by_cases O:i<l.length
    .rw[getElem?_append_left O]at g;exact E i q g
    .have:i=l.length:=by have:=(List.getElem?_eq_some_iff.1 g).1;simp at this;omega
     subst this;simp at g;subst g;rw[A];exact⟨c,j,z,R⟩
  obtain⟨l,A,E⟩:=D len (Nat.le_refl _);refine⟨⟨some a,len,L⟩,l.map (·.1),l.map (·.2),rfl,⟨by simp[A],?_,M⟩,bf,?_,λi p v j z=>?_⟩
  .by_cases h0:len=0
   .rw[h0]at A;exact .inl (by simp[length_eq_zero_iff.1 A])
   .obtain⟨c0,S,e0, -⟩:=E 0 l[0] (getElem?_eq_getElem aD);obtain⟨b,o,ha, -, -⟩:=Xc S (by rw[e0];exact C _) W
    have U:a=⟨b,o,none⟩:=by
     obtain⟨b1,o1,s1⟩:=a;simp only[Addr.add]at ha;simpa using ha
    subst U;refine .inr ⟨b,o,rfl,λi x hx=>?_⟩;simp only[map_map,getElem?_map,Option.map_eq_some_iff]at hx;obtain⟨p,hj,rfl⟩:=hx;obtain⟨c,P,e, -⟩:=E i p hj;obtain⟨b',o',F, -,G⟩:=Xc P (by rw[e];exact C _) W;rw[Go.WideShapes.add_plain]at F;cases F;simp only[Function.comp];rw[<-e];exact G
  .simp only[length_map,uptoBulk];have:=Xh (d.map (·.1));simp only[length_map]at this;omega
  .simp only[getElem?_map,Option.map_eq_some_iff]at j z;obtain⟨q,g,rfl⟩:=j;obtain⟨r,G,rfl⟩:=z;rw[g]at G;cases G;obtain⟨c, -, -,V⟩:=E i q g;exact V
end
open
  Go.Proofs.YtjpjambjoceofaaGreatDoor.Rows (uptoBulk uptoBulkAll)
section
variable{H:Type}{enc:TypeId×Value->H}{w:World}{base:Nat}{sp:Nat->Bool}{held:Bool}
theorem AX{T:TypeId}{d:Array Field}(L:List (TypeId×Nat))(u:Tryz.prog.underlying T=some (.struct d))(z:d.toList.map (λg=>(g.type,g.offset))=L){f:Nat}{cs:bx}{x:DataW H×List MemPlace}(h:DataW.trod enc Tryz.prog w base sp held f T cs=some x):
 ∃n,f=n+1/\cs.length=Tryz.prog.cellsOf T/\∀(i:Nat)(t:TypeId)(o:Nat),L[i]? =some (t,o)->∃y,uptoBulk y.1<=uptoBulk x.1/\DataW.trod enc Tryz.prog w base sp held n t ((cs.drop o).take (Tryz.prog.cellsOf t))=some y:=by
 obtain⟨xs,n,rfl,rfl,A,B,C⟩:=DataW.trod_struct u h;refine⟨n,rfl,A,λi t o c=>?_⟩;rw[<-z,getElem?_map,Option.map_eq_some_iff]at c;obtain⟨g,c,e⟩:=c;simp only[Prod.mk.injEq]at e;obtain⟨rfl,rfl⟩:=e;rw[Array.getElem?_toList]at c;have j:i<xs.length:=by rw[B];exact(Array.getElem?_eq_some_iff.1 c).1
 refine⟨xs[i],?_,by rw[C i g c,getElem?_eq_getElem j]⟩;simp only[uptoBulk];have:=Qm (l:=xs.map (·.1)) (mem_map.2 ⟨xs[i],getElem_mem j,rfl⟩);omega
theorem MC:Tryz.prog.cellsOf 2=1:=bd
theorem IZ:Tryz.prog.cellsOf 3=1:=bd
theorem MB:Tryz.prog.cellsOf 4=1:=bd
theorem MA:Tryz.prog.cellsOf 9=1:=bd
theorem FA:Tryz.prog.cellsOf 27=3:=bd
theorem Fy:Tryz.prog.cellsOf 29=5:=bd
theorem H6:Tryz.prog.cellsOf 30=1:=bd
theorem Dp:Tryz.prog.cellsOf 32=13:=bd
theorem H5:Tryz.prog.cellsOf 33=1:=bd
theorem H4:Tryz.prog.cellsOf 34=1:=bd
theorem H3:Tryz.prog.cellsOf 35=1:=bd
theorem H2:Tryz.prog.cellsOf 36=1:=bd
theorem Dn:Tryz.prog.cellsOf 38=21:=bd
theorem A5:Tryz.prog.cellsOf 103=2:=bd
theorem A6:Tryz.prog.cellsOf 101=2:=bd
theorem coQ{f:Nat}{c:Value}{y:DataW H×List MemPlace}(h:DataW.trod enc Tryz.prog w base sp held f 2 [c]=some y):∃k,c= .int .i64 k:=by
 obtain⟨k,e, -⟩:=DataW.trod_int Tryz.underlying2 h;exact⟨k,bt e⟩
theorem Ci{f:Nat}{c:Value}{y:DataW H×List MemPlace}(h:DataW.trod enc Tryz.prog w base sp held f 3 [c]=some y):∃k,c= .int .i64 k:=by
 obtain⟨k,e, -⟩:=DataW.trod_int Tryz.underlying3 h;exact⟨k,bt e⟩
theorem coX{f:Nat}{c:Value}{y:DataW H×List MemPlace}(h:DataW.trod enc Tryz.prog w base sp held f 4 [c]=some y):∃k,c= .bool k:=by
 obtain⟨k,e, -⟩:=DataW.trod_bool Tryz.underlying4 h;exact⟨k,bt e⟩
theorem cnJ{f:Nat}{c:Value}{y:DataW H×List MemPlace}(h:DataW.trod enc Tryz.prog w base sp held f 9 [c]=some y):∃k,c= .string k:=by
 obtain⟨k,e, -⟩:=DataW.trod_string Tryz.underlying9 h;exact⟨k,bt e⟩
theorem ccQ{l:bx}(h:l.length=3):∃a b c,l=[a,b,c]:=by
 match l,h with|[a,b,c],_=>exact⟨a,b,c,rfl⟩
theorem cyJ{l:bx}(h:l.length=5):∃a b c d e,l=[a,b,c,d,e]:=by
 match l,h with|[a,b,c,d,e],_=>exact⟨a,b,c,d,e,rfl⟩
theorem cvX{n:Nat}{l:bx}(h:l.length=n+5):∃a b c d e r,l=a::b::c::d::e::r/\r.length=n:=by
 match l,h with|a::b::c::d::e::r,h=>exact⟨a,b,c,d,e,r,rfl,bt h⟩
theorem XT{f:Nat}{cs:bx}{y:DataW H×List MemPlace}(h:DataW.trod enc Tryz.prog w base sp held f 27 cs=some y):∃v:VV,cs=v.enc:=by
 obtain⟨n, -,o,d⟩:=AX [(3,0),(2,1),(9,2)] Tryz.underlying27 rfl h;obtain⟨a,b,c,rfl⟩:=ccQ (o.trans FA);obtain⟨_, -,e⟩:=d 0 3 0 rfl;obtain⟨_, -,g⟩:=d 1 2 1 rfl;obtain⟨_, -,j⟩:=d 2 9 2 rfl;simp only[MC,IZ,MB,MA,FA,Fy,H6,Dp,H5,H4,H3,H2,Dn,A5,A6,List.drop,List.take]at e g j;obtain⟨k,rfl⟩:=Ci e;obtain⟨i,rfl⟩:=coQ g;obtain⟨s,rfl⟩:=cnJ j;exact⟨⟨k,i,s⟩,rfl⟩
theorem JD{f:Nat}{cs:bx}{y:DataW H×List MemPlace}(h:DataW.trod enc Tryz.prog w base sp held f 29 cs=some y):∃v:OV,cs=v.enc:=by
 obtain⟨n, -,z,g⟩:=AX [(3,0),(3,1),(27,2)] Tryz.underlying29 rfl h;obtain⟨a,b,c,d,e,rfl⟩:=cyJ (z.trans Fy);obtain⟨_, -,j⟩:=g 0 3 0 rfl;obtain⟨_, -,o⟩:=g 1 3 1 rfl;obtain⟨_, -,u⟩:=g 2 27 2 rfl;simp only[MC,IZ,MB,MA,FA,Fy,H6,Dp,H5,H4,H3,H2,Dn,A5,A6,List.drop,List.take]at j o u;obtain⟨k,rfl⟩:=Ci j;obtain⟨i,rfl⟩:=Ci o;obtain⟨v,x⟩:=XT u;refine⟨⟨k,i,v⟩,?_⟩;simp only[VV.enc,List.cons.injEq,and_true]at x;obtain⟨rfl,rfl,rfl⟩:=x;rfl
theorem Vu{h:PH}:∀{ps:cr}{vs:dg},ps.length=vs.length->(∀(i:Nat)(a:Pred)(v:PV),ps[i]? =some a->vs[i]? =some v->dD h a v)->p8 h ps vs
 |[],vs,c,_=>length_eq_zero_iff.1 c.symm
 |p::ps,[],c,_=>by simp at c
 |p::ps,v::vs,c,d=>⟨v,vs,rfl,d 0 p v rfl rfl,Vu (bt c) λi a u e f=>d (i+1) a u (bt e) (bt f)⟩
theorem Vt{h:PH}:∀{ps:ci}{vs:db},ps.length=vs.length->(∀(i:Nat)(a:Query)(v:QV),ps[i]? =some a->vs[i]? =some v->bU h a v)->rD h ps vs
 |[],vs,c,_=>length_eq_zero_iff.1 c.symm
 |p::ps,[],c,_=>by simp at c
 |p::ps,v::vs,c,d=>⟨v,vs,rfl,d 0 p v rfl rfl,Vt (bt c) λi a u e f=>d (i+1) a u (bt e) (bt f)⟩
theorem coJ(v:PV):∀u∈PV.enc v,noU u:=by
 intro u c n e;simp[PV.enc]at c;rcases c with h|h|h|h|h|h|h|h|h|h|h|h|h<;>(rw[h]at e;cases e)
theorem coZ(v:QV):∀u∈QV.enc v,noU u:=by
 intro u c n e;simp[QV.enc]at c;rcases c with h|h|h|h|h|h|h|h|h|h|h|h|h|h|h|h|h|h|h|h|h<;>(rw[h]at e;cases e)
theorem aFQ:∀(f:Nat)(cs:bx)(x:DataW H×List MemPlace),DataW.trod enc Tryz.prog w base sp held f 32 cs=some x->uptoBulk x.1<=1048576->∃p v,cs=PV.enc v/\dD (hW w) p v:=by
 intro f
 induction f using Nat.strongRecOn with
 |ind f V=>
  intro cs x h hb;obtain⟨n,rfl,j,o⟩:=AX [(3,0),(3,1),(29,2),(29,7),(30,12)] Tryz.underlying32 rfl h;have j:cs.length=13:=j.trans Dp
  obtain⟨D,E,F,G,I,J,L,M,O,P,d,e,g,rfl⟩:∃D E F G I J L M O P d e g,cs=[D,E,F,G,I,J,L,M,O,P,d,e,g]:=by
   obtain⟨D,E,F,G,I,a,rfl,B⟩:=cvX j;obtain⟨J,L,M,O,P,b,rfl,C⟩:=cvX B;obtain⟨d,e,g,rfl⟩:=ccQ C;exact⟨_,_,_,_,_,_,_,_,_,_,_,_,_,rfl⟩
  obtain⟨_, -,Q⟩:=o 0 3 0 rfl;obtain⟨_, -,B⟩:=o 1 3 1 rfl;obtain⟨_, -,C⟩:=o 2 29 2 rfl;obtain⟨_, -,R⟩:=o 3 29 7 rfl;obtain⟨y4,b4,S⟩:=o 4 30 12 rfl;simp only[MC,IZ,MB,MA,FA,Fy,H6,Dp,H5,H4,H3,H2,Dn,A5,A6,List.drop,List.take]at Q B C R S;obtain⟨op,rfl⟩:=Ci Q;obtain⟨u,rfl⟩:=Ci B;obtain⟨l,j⟩:=JD C;obtain⟨r,T⟩:=JD R;obtain⟨s,ps,W,U,z,A,X,Y⟩:=zS (w:=w) Tryz.underlying30 Dp aD PV.enc coJ (dD (hW w)) S (λm c y hm hy Z=>V m aD c y Z aD);simp only[OV.enc,List.cons.injEq,and_true]at j T U;obtain⟨rfl,rfl,rfl,rfl,rfl⟩:=j;obtain⟨rfl,rfl,rfl,rfl,rfl⟩:=T;subst U;exact⟨.mk op u l r ps,⟨op,u,l,r,s⟩,rfl,rfl,rfl,rfl,rfl,aD,W,z,Vu A Y⟩
theorem Gc{f:Nat}{cs:bx}{x:DataW H×List MemPlace}(h:DataW.trod enc Tryz.prog w base sp held f 33 cs=some x)(C:uptoBulk x.1<=1048576):∃(s:Sl)(l:ca),cs=[.slice s.a s.len s.cap]/\Ints (hW w) s l:=by
 obtain⟨s,ps,o,z,d,g,A,D⟩:=zS (w:=w) (α:=Unit) (β:=Int) Tryz.underlying33 IZ aD eI (λv u j n e=>by simp[eI]at j;rw[j]at e;cases e) (λ_ _=>True) h (λm c y _ _ B=>by
  obtain⟨k,e, -⟩:=DataW.trod_int Tryz.underlying3 B;exact⟨(),k,e,trivial⟩)
 exact⟨s,o,z,d,aD⟩
theorem ccX{l:bx}(h:l.length=2):∃a b,l=[a,b]:=by
 match l,h with|[a,b],_=>exact⟨a,b,rfl⟩
theorem XU{f:Nat}{cs:bx}{x:DataW H×List MemPlace}(h:DataW.trod enc Tryz.prog w base sp held f 35 cs=some x)(I:uptoBulk x.1<=1048576):∃(s:Sl)(l:cg),cs=[.slice s.a s.len s.cap]/\jT (hW w) s l:=by
 obtain⟨s,ps,C,D,g,j,E,J⟩:=zS (w:=w) (α:=Unit) (β:=Int×Bool) Tryz.underlying35 A5 aD rN (λv u o n e=>by simp[rN]at o;rcases o with h|h<;>(rw[h]at e;cases e)) (λ_ _=>True) h (λm c y _ _ F=>by
  obtain⟨n, -,G,z⟩:=AX [(3,0),(4,1)] Tryz.underlying103 rfl F;obtain⟨a,b,rfl⟩:=ccX (G.trans A5);obtain⟨_, -,A⟩:=z 0 3 0 rfl;obtain⟨_, -,B⟩:=z 1 4 1 rfl;simp only[MC,IZ,MB,MA,FA,Fy,H6,Dp,H5,H4,H3,H2,Dn,A5,A6,List.drop,List.take]at A B;obtain⟨k,rfl⟩:=Ci A;obtain⟨d,rfl⟩:=coX B;exact⟨(),(k,d),rfl,trivial⟩)
 exact⟨s,C,D,g,aD⟩
theorem XW{f:Nat}{cs:bx}{x:DataW H×List MemPlace}(h:DataW.trod enc Tryz.prog w base sp held f 34 cs=some x)(I:uptoBulk x.1<=1048576):∃(s:Sl)(l:ce),cs=[.slice s.a s.len s.cap]/\iF (hW w) s l:=by
 obtain⟨s,ps,D,z,g,A,E,J⟩:=zS (w:=w) (α:=Unit) (β:=Int×Int) Tryz.underlying34 A6 aD kX (λv u B n e=>by simp[kX]at B;rcases B with h|h<;>(rw[h]at e;cases e)) (λ_ _=>True) h (λm c y _ _ F=>by
  obtain⟨xs,n, -, -,G,z,C⟩:=DataW.trod_array Tryz.underlying101 F;obtain⟨a,b,rfl⟩:=ccX (G.trans A6);have j:=C 0 aD;have o:=C 1 aD;rw[getElem?_eq_getElem aD]at j o;simp only[MC,IZ,MB,MA,FA,Fy,H6,Dp,H5,H4,H3,H2,Dn,A5,A6,List.drop,List.take,Nat.zero_mul,Nat.one_mul]at j o;obtain⟨k,rfl⟩:=Ci j;obtain⟨d,rfl⟩:=Ci o;exact⟨(),(k,d),rfl,trivial⟩)
 exact⟨s,D,z,g,aD⟩
theorem XV:∀(f:Nat)(cs:bx)(x:DataW H×List MemPlace),DataW.trod enc Tryz.prog w base sp held f 38 cs=some x->uptoBulk x.1<=1048576->∃q v,cs=QV.enc v/\bU (hW w) q v:=by
 intro f
 induction f using Nat.strongRecOn with
 |ind f ih=>
  intro cs x h hb;obtain⟨n,rfl,e,d⟩:=AX [(3,0),(3,1),(32,2),(33,15),(34,16),(33,17),(35,18),(3,19),(36,20)] Tryz.underlying38 rfl h;have e:cs.length=21:=e.trans Dn
  obtain⟨o,u,l,rfl⟩:∃o u l,cs=o::u::l:=by
   obtain⟨o,l,rfl⟩:=exists_cons_of_length_pos (l:=cs) aD;obtain⟨u,l,rfl⟩:=exists_cons_of_length_pos (l:=l) (by simp at e;omega);exact⟨o,u,l,rfl⟩
  have e:l.length=19:=bt e
  obtain⟨_, -,Q⟩:=d 0 3 0 rfl;obtain⟨_, -,z⟩:=d 1 3 1 rfl;obtain⟨y2,b2,R⟩:=d 2 32 2 rfl;obtain⟨y3,b3,S⟩:=d 3 33 15 rfl;obtain⟨y4,b4,T⟩:=d 4 34 16 rfl;obtain⟨y5,b5,U⟩:=d 5 33 17 rfl;obtain⟨y6,b6,V⟩:=d 6 35 18 rfl;obtain⟨y7,b7,B⟩:=d 7 3 19 rfl;obtain⟨y8,b8,W⟩:=d 8 36 20 rfl;simp only[MC,IZ,MB,MA,FA,Fy,H6,Dp,H5,H4,H3,H2,Dn,A5,A6,List.drop,List.take]at Q z R S T U V B W;obtain⟨op,rfl⟩:=Ci Q;obtain⟨ta,rfl⟩:=Ci z;obtain⟨p,pv,hp,rp⟩:=aFQ _ _ _ R aD;obtain⟨co,C,X,r3⟩:=Gc S aD;obtain⟨on,D,Y,r4⟩:=XW T aD;obtain⟨gr,E,Z,r5⟩:=Gc U aD;obtain⟨od,F,e6,r6⟩:=XU V aD;obtain⟨s,ps,vs,hs,g,j,a',hq⟩:=zS (w:=w) Tryz.underlying36 Dn aD QV.enc coZ (bU (hW w)) W (λm c y hm hy hc=>ih m aD c y hc aD);obtain⟨A,G⟩:∃A,l=PV.enc pv++A:=⟨l.drop 13,by rw[<-hp,take_append_drop]⟩
  subst G;have e:A.length=6:=by simpa[PV.enc]using e
  obtain⟨I,J,L,M,O,P,rfl⟩:∃I J L M O P,A=[I,J,L,M,O,P]:=by
   obtain⟨I,J,L,M,O,a,rfl,z⟩:=cvX (n:=1) e;obtain⟨P,rfl⟩:=length_eq_one_iff.1 z;exact⟨_,_,_,_,_,_,rfl⟩
  simp[PV.enc]at X Y Z e6 B hs;obtain⟨li,rfl⟩:=Ci B;subst X Y Z e6 hs;exact⟨.mk op ta p C D E F li ps,⟨op,ta,pv,co,on,gr,od,li,s⟩,rfl,rfl,rfl,rp,r3,r4,r5,r6,rfl,aD,vs,g,Vt j hq⟩
end
end Go.Ps
