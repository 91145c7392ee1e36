/- Own work. -/
import Derived.Test.YtafjlhgalgfiaaaGreatDoorSj
set_option linter.unusedVariables false
set_option linter.unusedSimpArgs false
namespace Go.Ps
open Go Go.Vc Go.Proofs List Tryz
variable{K:cn}{m:MH}{h:PH}{s:jP}{ps:cq}{ts:dg}{cb:Nat}{sc:cA}{v:QV}{t:Step}{p:Pred}{l:cq}{i:Nat}{N:Nat}{m':MH}{h':PH}{co:cq}{gr:cq}{od:cv}{ta:Int}{li:Int}{xs:List cr}{sz:Nat}{ks:List cq}{rs:cq}{r:Sl}{a:cq}{b:Nat}
def N1:Vc.Spec:=λd m h K=>∃sc e v s c q,d=[aS sc,aSt e,aQ v]/\iK h s sc/\H2 h e c/\dK h q v/\pY q=true/\eD m/\((gH s [] q).2=0->OY s q)/\jG s c=0/\(∀l∈c,l.length<=4)/\
 ∀f h',PH.le h h'->((gH s [] q).2=0->Leaves h' f ((mU (qX s) q (eC q)).map (eA c)))->K (.tup [cS f,cI (gH s [] q).2]) m h'
theorem RH:cm 18 N1:=Ic bmX λ_ m h K⟨sc,u,v,s,f,q,e,y,c,z,g,A,d,j,n,o⟩=>⟨sc,u,v,s,f,q,e,y,c,z,g,A,λh=>(d h).ok h,
 λh=>⟨(d h).valid,λ_=>let x:=(d h).run f j c.val n;⟨x.1,x.2.1⟩⟩,λh h' le=>o cH h' le (λe=>(h e).elim),λ_ h=>(h j).elim,λh _ B h' le C=>by
  have:=o B h' le (λ_=>by rw[<-((d h).run f j c.val n).2.2];exact C)
  grind⟩
def cdQ:Vc.Spec:=λc m h K=>c=[]/\eD m/\K (cB true) m h
def RJ(m:MH)(h:PH)(K:cn):=
  cF h 2 (mE (sA (ByteArray.mk (Array.mk LB)) 4) (sA (ByteArray.mk (Array.mk (gJ 112 (gJ 114 (gJ 111 (gJ 106 Lj)))))) 4)) (λs h1=>cF h1 2 (mE (sA (ByteArray.mk (Array.mk LB)) 4) (sA (ByteArray.mk (Array.mk (gJ 112 (gJ 114 (gJ 111 (gJ 106 Lj)))))) 4)) (λs1 h2=>∃(n:Int),sB 1 n/\∃(D:Int),sB 7 D/\∃(E:Int),sB 2 E/\∃(F:Int),sB 7 F/\∃(G:Int),sB 3 G/\∃(H:Int),sB 7 H/\cF h2 3 (mE (A3 n) (A3 D)) (λu h3=>cF h3 3 (mE (A3 E) (A3 F)) (λI h4=>cF h4 3 (mE (A3 G) (A3 H)) (λs4 h5=>∃(J:Int),sB 9 J/\∃(L:Int),sB 7 L/\cF h5 3 (mE (A3 J) (A3 L)) (λs5 h6=>cF h6 1 (aM u::mE (aM I) (aM s4)) (λs6 h7=>
 cF h7 1 (mE (aM u) (aM s5)) (λs7 h8=>cF h8 21 (mE (aX (fV 1) bI (aX bI bI (aX bI bI (aX bI bI (uD pV (uC pV iP)))))) (Ct 1)) (λs8 h9=>cF h9 5 (mE (GC 116 97 115 107 (yK 115) s 1) (GC 97 114 99 104 (IW 105 118 101 100) s1 1)) (λM a=>cF a 1 (mE (aM s6) (aM s7)) (λa1 a2=>cF a2 1 (lY (bC 1)) (λO a4=>cF a4 21 (lY (aX (fV 7) bI (aX bI bI (aX bI bI (aX bI bI (uD pV (uC pV (aM s8)))))))) (λP z=>EL (λQ R=>∃(v:QV),VA (λd b=>∃(q:Query),aA (cE (j5 bI (dX M)) (kH (aM a1) (aX (fV 9) bI (aX bI bI (aX bI bI (aX bI bI (uD pV (aX pV (dX O) (aX pV (fV 1) (aM P)))))))))=cE (cN Q) (gC (kE
 (aM R)) (cZ v))) (iK z d Q) (aA (H2 z R b) (dK z q v) (aA (Az (pY q)) (eD m) (aA (AL d q=0->OY d q) (jG d b=0) (Ll b (λl=>l.length<=4)/\∀(f:Sl)(g:PH),bR z g (AL d q=0->Leaves g f (List.map (eA b) (mU (qX d) q (eC q)))) (∃(S:cA)(T:QV)(U:jP)(A:Query),aA (kH (j5 bI (dX M)) (aX (fV 9) bI (aX bI bI (aX bI bI (aX bI bI (uD pV (aX pV (dX O) (aX pV (fV 1) (aM P))))))))=gC (kE (cN S)) (cZ T)) (iK g U S) (aA (dK g A T) (AL U A=0) (∀(B:QV)(e:PH),bR g e (dK e (eC A) B) (hX (B.op=opE A) (AL d q==0) (eY B.op 1 (eY (aG f) 2 (bK (λV o=>aI (aW f.a V o) ((0:Int)<=0) (0<aG f) (∃(y:Sl),aL m e V (o+0) (aM
 y)/\cF e 1 (mE (aM u) (aM I)) (λb7 j=>MX (λW t c X=>aI (cJ y b7=cJ W t) (Rows j W c) (Rows j t X) (∀(r:Bool),hX (iD r (c=X)) r (bK (λY Z=>aI (aW f.a Y Z) ((0:Int)<=1) (1<aG f) (∃(y1:Sl),aL m j Y (Z+1) (aM y1)/\cF j 1 (lY (aM u)) (λc3 C=>MX (λc5 t1 c6 c7=>aI (cJ y1 c3=cJ c5 t1) (Rows C c5 c6) (Rows C t1 c7) (∀(r1:Bool),iD r1 (c6=c7)->K (As r1) m C)))))) (K bG m j))))))) (K bG m e)) (K bG m e)) (K bG m e))))))))))))))))))))))))
def nV(n:Int):VV:=⟨4,n,⟨#[]⟩⟩
def Tg:List qE:=[⟨⟨⟨[105,100]⟩⟩,4⟩,⟨⟨⟨[112,114,111,106,101,99,116]⟩⟩,4⟩]
def nT1:AE:=⟨⟨⟨[116,97,115,107,115]⟩⟩,Tg,1,[],[]⟩
def nT2:AE:=⟨⟨⟨[97,114,99,104,105,118,101,100]⟩⟩,Tg,1,[],[]⟩
def nS:jP:=⟨0,[nT1,nT2]⟩
def nR1:=[[nV 1,nV 7],[nV 2,nV 7],[nV 3,nV 7]]
def nR2:=[[nV 1,nV 7],[nV 9,nV 7]]
def ZN:=[nR1,nR2]
def Ay(t:Int):Query:=.mk 1 t fW [] [] [] [] 0 []
def nM:Query:=.mk 7 0 fW [] [] [] [] 0 [Ay 0,Ay 1]
def nQ:Query:=.mk 9 0 fW [] [] [1] [] 1 [nM]
theorem bAJ:eK nS=0:=bwQ (by decide) (λt c=>by simp[nS]at c;rcases c with rfl|rfl<;>exact⟨by decide,rfl,rfl⟩) (by decide) (by decide) (by
 refine BG ⟨⟨?_,?_,?_,?_,BG ⟨⟨?_,?_,?_⟩,⟨?_,?_,?_⟩,trivial⟩⟩,⟨?_,?_,?_,?_,BG ⟨⟨?_,?_,?_⟩,⟨?_,?_,?_⟩,trivial⟩⟩,trivial⟩
 all_goals first|rfl|(simp[nT1,nT2,Tg];done)|decide)
theorem Oy{t}(c:0<=t)(d:t<2):aK nS [] (Ay t)=([4,4],0):=by
 have e:jB nS t=[4,4]:=by
  have:t=0\/t=1:=by omega
  rcases this with rfl|rfl<;>rfl
 have:=Q9 (s:=nS) (ps:=[]) (t:=t) c (by show t<2;exact d) bg;rw[e]at this;exact this
theorem bBX:aK nS [] nM=([4,4],0):=by
 unfold nM;rw[a5Z az (Oy (t:=0) az az) (Oy (t:=1) az az)];unfold eT;rw[if_neg (by simp[arity,cV])];dsimp only;rw[if_neg az,if_neg az,if_neg az,if_neg az,if_neg az,if_neg az,if_neg az,if_pos rfl,LV az]
theorem Q2:aK nS [] nQ=([4,4],0):=by
 unfold nQ;rw[M1 az bBX];unfold eT;rw[if_neg (by simp[arity,cV])];dsimp only;rw[if_neg az,if_neg az,if_neg az,if_neg az,if_neg az,if_pos rfl,if_pos ⟨BG ⟨⟨az,ay⟩,trivial⟩,BG trivial,az,az,az⟩,LV az]
theorem cXJ:gH nS [] nQ=([4,4],0):=by
 unfold gH;rw[if_pos bAJ,if_pos (by rfl),if_pos (by rfl),Q2]
theorem bAZ t:QW (Ay t):=KF t
theorem cXZ:QW nQ:=MN.2 ⟨qY,λa c=>by
 simp at c;subst c;exact MN.2 ⟨qY,λb d=>by simp at d;rcases d with rfl|rfl<;>exact bAZ _⟩⟩
theorem chZ:fR nS nQ:=⟨by rw[Q2],VM (s:=nS) (ps:=[]) ay nQ (by rw[Q2]) cXZ,az⟩
theorem chX:OY nS nQ:=Te (B:=8) bAJ chZ az az az
theorem cQZ:jG nS ZN=0:=by
 unfold jG;rw[if_neg (by simp[bAJ]),if_neg az,if_neg az,if_pos];have j:∀n,Cf 1 4 0 (nV n)=true/\Cf 1 4 1 (nV n)=true:=λn=>by simp[Cf,nV,buX]
 have y:∀t,t=nT1\/t=nT2->∀a b,Fi t [nV a,nV b]=true:=λt e a b=>HR.2 ⟨by rcases e with rfl|rfl<;>rfl,λi o=>by
  have d:t.key=1:=by rcases e with rfl|rfl<;>rfl
  have c:t.columns=Tg:=by rcases e with rfl|rfl<;>rfl
  rw[d,c]
  match i,o with
  |0,_=>exact(j _).1
  |1,_=>exact(j _).2
  |i+2,o=>grind⟩
 intro i t l e f
 match i,e,f with
 |0,e,f=>
  simp[nS]at e;simp[ZN]at f;subst e f;refine⟨λr g=>?_,λi r u d c=>?_⟩
  .simp[nR1]at g
   grind
  .match i,d,c with
   |0,d,c=>simp[nR1]at d c;subst d c;decide
   |1,d,c=>simp[nR1]at d c;subst d c;decide
   |i+2,d,c=>simp[nR1]at c
 |1,e,f=>
  simp[nS]at e;simp[ZN]at f;subst e f;refine⟨λr g=>?_,λi r u d c=>?_⟩
  .simp[nR2]at g
   grind
  .match i,d,c with
   |0,d,c=>simp[nR2]at d c;subst d c;decide
   |i+1,d,c=>simp[nR2]at c
 |i+2,e,f=>simp[nS]at e
theorem cRX wd D:mU wd nQ D=[DU (mH (Ay 0) D (sH [1])) nM [1] [] 1,kB (kB (Ay 1) (DU (mH (Ay 0) D (sH [1])) nM [1] [] 1)) (Ay 0)]:=by
 have c:eC nM=Ay 0:=by rfl
 have d:eC (Ay 1)=Ay 1:=by rfl
 have s:∀t E,mU wd (Ay t) E=[E]:=λt E=>by unfold Ay;rw[mU.eq_def];grind
 have m:∀E,mU wd nM E=mU wd (Ay 0) E++mU wd (Ay 1) (kB (kB (eC (Ay 1)) E) (Ay 0)):=λE=>by
  unfold nM;rw[mU.eq_def];grind
 unfold nQ;rw[mU.eq_def]
 grind
theorem bBQ:eC nQ=Ay 0:=by rfl
theorem cQJ:(mU (qX nS) nQ (eC nQ)).map (eA ZN)=[[[nV 1,nV 7],[nV 2,nV 7]],[[nV 1,nV 7]]]:=by
 rw[cRX,bBQ];rfl
theorem cRQ:opE nQ=1:=by rw[opE,bBQ];rfl
theorem Pe{s l}(r:dD h s 3 (l.map VV.enc))(d:l.length<=1000):bS h s l:=⟨⟨l,r,rfl,λi x c=>⟨x,c,rfl⟩⟩,aC⟩
theorem Pf{h s}{us:cu}{l}(r:dD h s 1 (us.map eS))(c:us.length=l.length)(hx:∀(i:Nat)(x:da),l[i]? =some x->∃u,us[i]? =some u/\bS h u x)(d:l.length<=1000):Rows h s l:=⟨⟨us,r,c.symm,hx⟩,aC⟩
theorem bmZ:cm 17 cdQ:=by
 refine Fh func17 ?_;rintro a2 m h K ⟨rfl,ht,hK⟩;refine⟨dJ [(56,c1J),(18,N1),(29,aYQ),(16,b4J)] [] [] [] false,rfl,aE aw (aE RH (aE bhJ (aE T8 aH))),RJ m h (lW h K),ax,?_⟩;show RJ m h (lW h K);dsimp only[RJ,push_cast];intro c1 h1 G r1 c2 h2 H r2;refine⟨1,rfl,7,rfl,2,rfl,7,rfl,3,rfl,7,rfl,λz h3 I r3 J h4 L r4 rc h5 M r5=>⟨9,rfl,7,rfl,?_⟩⟩;intro rd h6 O r6 ta h7 P r7 tb h8 Q r8 qs h9 R r9 tabs ha S xa A hb T xb gr hc U xc qm c B xd;have lc:=U.trans B;have lb:=T.trans lc;have la:=S.trans lb;have l9:=R.trans la;have l8:=Q.trans l9;have l7:=P.trans l8;have l6:=O.trans l7;have l5:=M.trans l6;have l4:=L.trans l5;have l3:=I.trans l4;have l2:=H.trans l3;have va:bS c z [nV 1,nV 7]:=Pe (r3.mono l4) ay;have vb:bS c J [nV 2,nV 7]:=Pe (r4.mono l5) ay;have vc:bS c rc [nV 3,nV 7]:=Pe (r5.mono l6) ay;have vd:bS c rd [nV 9,nV 7]:=Pe (r6.mono l7) ay
 have rq:dK c nQ ⟨9,0,jI,cH,cH,gr,cH,1,qm⟩:=uH.rep ⟨rfl,rfl,EX c,nG c,vM c,⟨xc.mono B,ay⟩,vK c,rfl,E9 (v:=⟨7,0,jI,cH,cH,cH,cH,0,qs⟩) xd (uH.rep ⟨rfl,rfl,EX c,nG c,vM c,nG c,vK c,rfl,⟨⟨[⟨1,0,jI,cH,cH,cH,cH,0,cH⟩,⟨1,1,jI,cH,cH,cH,cH,0,cH⟩],r9.mono la,rfl,λi x e=>by
  match i,e with
  |0,e=>simp at e;subst e;exact⟨_,rfl,E7 c 0⟩
  |1,e=>simp at e;subst e;exact⟨_,rfl,E7 c 1⟩
  |i+2,e=>simp at e⟩,ay⟩⟩)⟩
 have rS:iK c nS ⟨0,tabs⟩:=⟨rfl,⟨⟨[⟨nT1.name,c1,1,cH,cH⟩,⟨nT2.name,c2,1,cH,cH⟩],xa.mono lb,rfl,λi x e=>by
  match i,e with
  |0,e=>simp[nS]at e;subst e;exact⟨_,rfl,⟨rfl,Jo (l:=Tg) (r1.mono l2) az,rfl,bN.nil _ _ _ _,bN.nil _ _ _ _⟩⟩
  |1,e=>simp[nS]at e;subst e;exact⟨_,rfl,⟨rfl,Jo (l:=Tg) (r2.mono l3) az,rfl,bN.nil _ _ _ _,bN.nil _ _ _ _⟩⟩
  |i+2,e=>simp[nS]at e⟩,by simp[nS]⟩⟩
 have t1:Rows c ta nR1:=Pf (us:=[z,J,rc]) (r7.mono l8) rfl (λi x e=>by
  match i,e with
  |0,e=>simp[nR1]at e;grind
  |1,e=>simp[nR1]at e;grind
  |2,e=>simp[nR1]at e;grind
  |i+3,e=>simp[nR1]at e) az
 have t2:Rows c tb nR2:=Pf (us:=[z,rd]) (r8.mono l9) rfl (λi x e=>by
  match i,e with
  |0,e=>simp[nR2]at e;grind
  |1,e=>simp[nR2]at e;grind
  |i+2,e=>simp[nR2]at e) az
 have V:H2 c A ZN:=⟨⟨⟨[ta,tb],xb.mono lc,rfl,λi x e=>by
  match i,e with
  |0,e=>simp[ZN]at e;grind
  |1,e=>simp[ZN]at e;grind
  |i+2,e=>simp[ZN]at e⟩,by simp[ZN]⟩,by simp[ZN],λl f r C v F=>by
   have:∃n,v=nV n:=by
    simp[ZN]at f;rcases f with rfl|rfl<;>simp[nR1,nR2]at C
    .grind
    grind
   have hn:u7 v.kind/\u7 v.int:=by
    simp[ZN]at f;rcases f with rfl|rfl<;>simp[nR1,nR2]at C
    .rcases C with rfl|rfl|rfl<;>simp at F<;>rcases F with rfl|rfl<;>exact⟨by constructor<;>decide,by constructor<;>decide⟩
    .rcases C with rfl|rfl<;>simp at F<;>rcases F with rfl|rfl<;>exact⟨by constructor<;>decide,by constructor<;>decide⟩
   exact hn⟩
 have D:(gH nS [] nQ).2=0:=by rw[cXJ]
 refine⟨⟨0,tabs⟩,A,⟨9,0,jI,cH,cH,gr,cH,1,qm⟩,nS,ZN,nQ,rfl,rS,V,rq,rfl,ht,λ_=>chX,cQZ,λl f=>by
  have f:l∈ZN:=f;simp[ZN]at f;rcases f with rfl|rfl<;>decide,λs' he o f=>⟨⟨0,tabs⟩,⟨9,0,jI,cH,cH,gr,cH,1,qm⟩,nS,nQ,rfl,rS.mono o,rq.mono o,D,λv' hf g _ ho=>?_⟩⟩
 have f:=f D;rw[cQJ]at f;have f:=bN.mono f g λ_ _ x=>bN.mono x g λ_ _ y=>bS.mono y g;have E:=bN.slen f;have E:s'.len=2:=E;obtain⟨b1,o1,u1,W,X,Y⟩:=bN.at f (i:=0) rfl;obtain⟨b2,o2,u2,Z,a',a0⟩:=bN.at f (i:=1) rfl;have j:=o.trans g
 refine aD (λ_=>aD (λ_=>aD (λ_=>⟨b1,o1,W,aC,aC,u1,.imm (by simpa[eS]using X),λs1 hg d rg=>⟨u1,s1,[[nV 1,nV 7],[nV 2,nV 7]],[[nV 1,nV 7],[nV 2,nV 7]],rfl,bN.mono Y d λ_ _ y=>bS.mono y d,Pf (us:=[z,J]) rg rfl (λi x e=>by
  match i,e with
  |0,e=>simp at e;subst e;exact⟨_,rfl,va.mono (j.trans d)⟩
  |1,e=>simp at e;subst e;exact⟨_,rfl,vb.mono (j.trans d)⟩
  |i+2,e=>simp at e) az,λr C=>aD (λ_=>⟨b2,o2,Z,aC,aC,u2,.imm (by simpa[eS]using a'.mono d),λs2 hh u rh=>⟨u2,s2,[[nV 1,nV 7]],[[nV 1,nV 7]],rfl,bN.mono a0 (d.trans u) λ_ _ y=>bS.mono y (d.trans u),Pf (us:=[z]) rh rfl (λi x e=>by
   match i,e with
   |0,e=>simp at e;subst e;exact⟨_,rfl,va.mono ((j.trans d).trans u)⟩
   |i+1,e=>simp at e) az,λr2 a1=>?_⟩⟩) (λe=>?_)⟩⟩) (λe=>?_)) (λe=>?_)) (λe=>?_)
 .rw[a1.2 rfl];exact .out (Sub.refl m) (((((G.trans l2).trans o).trans g).trans d).trans u) hK
 .grind
 .grind
 .rw[ho,cRQ]at e;cases e
 .grind
theorem QO:∀{A B:Rel},A.Nodup->(∀x∈A,x∈B)->A.length<=B.length
 |[],B,_,_=>Nat.zero_le _
 |a::A,B,f,c=>by
  classical
  have n:a∈B:=c a ay;obtain⟨g,j⟩:=nodup_cons.1 f;have o:=QO (B:=B.erase a) j λx d=>(mem_erase_of_ne (show x≠a fromλe=>g (e▸d))).2 (c x (by simp[d]))
  grind
theorem bZZ{p}{A B:Rel}(c:A.Nodup)(h:∀x∈A,p x=true->x∈B):A.countP p<=B.countP p:=by
 rw[countP_eq_length_filter,countP_eq_length_filter]
 exact QO (c.filter _) λx d=>by
  grind
theorem bZX{p q:da->Bool}{y:da}(e:q y=true)(f:p y=false):∀{A:Rel},(∀z∈A,p z=true->q z=true)->y∈A->A.countP p<A.countP q
 |[],_,h=>by simp at h
 |a::A,h,c=>by
  have g:A.countP p<=A.countP q:=countP_mono_left λz d=>h z (by simp[d]);rw[countP_cons,countP_cons];rcases mem_cons.1 c with rfl|c
  .grind
  .have j:=bZX e f (λz d=>h z (by simp[d])) c
   grind
def Fu(gr:cq)(od:cv)(b:Rel)(x:da):=b.countP λy=>uI gr x y&&decide (jR od y x<0)
theorem cCX{w a b c}(d:a.length=w)(f:b.length=w)(g:c.length=w)(j:jR od a b<0)(n:jR od b c<0):jR od a c<0:=by
 have:=ayJ (w:=w) (od:=od) d f g aC aC;rcases Int.lt_or_eq_of_le this with h|h
 .exact h
 .have e:=UN d g h;subst e;have:=AT (od:=od) d f;omega
theorem b0X{w a}(c:a.length=w):¬jR od a a<0:=by
 have:=AT (od:=od) c c;omega
theorem azJ{w}{b:Rel}(d:∀r∈b,r.length=w){x y}(hx:x.length=w)(f:y.length=w)(c:uI gr x y=true)(g:jR od y x<0):∀z∈b,(uI gr y z&&decide (jR od z y<0))=true->(uI gr x z&&decide (jR od z x<0))=true:=λz j e=>by
 simp only[bz,ce,E8]at e c⊢
 exact⟨c.trans e.1,cCX (d z j) f hx e.2 g⟩
theorem Y4{w gr od li E S}{V:Rel}(C:E.Nodup)(D:S.Nodup)(F:∀x∈E,x∈V)(G:∀x∈S,x∈V)(B:∀r∈V,r.length=w){o}(H:∀z∈V,uI gr z o=true->((Fu gr od S z:Nat):Int)<li->(z∈E↔z∈S)):∀(n:Nat)(x:da),Fu gr od S x=n->x.length=w->uI gr x o=true->(((Fu gr od E x:Nat):Int)<li↔((Fu gr od S x:Nat):Int)<li):=by
 have I:∀r∈E,r.length=w:=λr h=>B r (F r h);have u:∀r∈S,r.length=w:=λr h=>B r (G r h);intro n
 induction n using Nat.strongRecOn with
 |_ n J=>
  intro x O A P;have L:∀{y:da},uI gr x y=true->uI gr y o=true:=fun{y} h=>by rw[E8]at*;grind
  have mono:∀{y:da},y.length=w->uI gr x y=true->jR od y x<0->Fu gr od S y<=Fu gr od S x:=fun{y} d f g=>countP_mono_left (azJ u A d f g);by_cases j:((Fu gr od S x:Nat):Int)<li
  .refine iff_of_true ?_ j
   have:Fu gr od E x<=Fu gr od S x:=bZZ C λy d e=>by
    grind
   omega
  .refine iff_of_false ?_ j;by_cases M:∃y∈S,uI gr x y=true/\jR od y x<0/\li<=((Fu gr od S y:Nat):Int)
   .obtain⟨y,d,f,g,Q⟩:=M;have c:=u y d;have R:Fu gr od S y<Fu gr od S x:=bZX (y:=y) (by simp[f,g]) (by simp[b0X c]) (azJ u A c f g) d;have T:=J _ aC y rfl c (L f);have U:Fu gr od E y<=Fu gr od E x:=countP_mono_left (azJ I A c f g);omega
   .have:Fu gr od S x<=Fu gr od E x:=bZZ D λy d e=>by
     grind
    omega
theorem bXX{ls op w on a k}(h:op≠1):(fN ls (.mk op ta w co on gr od li [a]) k).1=Fb op (.mk op ta w co on gr od li [a]) [(fN ls a k).1]:=by
 rw[fN,if_neg h,gI,gI]
theorem bXQ{ls op w on a b k}(h:op≠1):(fN ls (.mk op ta w co on gr od li [a,b]) k).1=Fb op (.mk op ta w co on gr od li [a,b]) [(fN ls a k).1,(fN ls b (fN ls a k).2).1]:=by
 rw[fN,if_neg h,gI,gI,gI]
theorem Qo{st op w on a}(h:op≠1):eA st (.mk op ta w co on gr od li [a])=Fb op (.mk op ta w co on gr od li [a]) [eA st a]:=by
 rw[eA,if_neg h,Au,Au]
theorem Dj{st op w on a b}(h:op≠1):eA st (.mk op ta w co on gr od li [a,b])=Fb op (.mk op ta w co on gr od li [a,b]) [eA st a,eA st b]:=by
 rw[eA,if_neg h,Au,Au,Au]
def b9X on y z:=wN (jH on) y=true/\(wN (eU on) z&&agree on y z)=true
section
variable{ta:Int}{w:Pred}{co:cq}{on:cw}{gr:cq}{od:cv}{li:Int}{zs:dc}{A B:Rel}{x:da}
theorem op2:x∈Fb 2 (.mk 2 ta w co on gr od li zs) [A]↔x∈A/\oA x w=true:=by
 rw[Fb,if_pos rfl];exact mem_filter
theorem op3:x∈Fb 3 (.mk 3 ta w co on gr od li zs) [A]↔∃r∈A,pick r co=x:=by
 rw[Fb,if_neg az,if_pos rfl];show x∈Ew _↔_;rw[Dk,mem_map];rfl
theorem op4:x∈Fb 4 (.mk 4 ta w co on gr od li zs) [A,B]↔∃y∈A,∃z∈B,b9X on y z/\y++z=x:=by
 rw[Fb,if_neg az,if_neg az,if_pos rfl];show x∈A.flatMap (kL on B)↔_;rw[mem_flatMap];refine exists_congr λy=>and_congr_right λc=>?_;unfold kL;split
 .rename_i h;rw[mem_map];refine exists_congr λz=>?_;rw[mem_filter];exact⟨λe=>⟨e.1.1,⟨h,e.1.2⟩,e.2⟩,λe=>⟨⟨e.1,e.2.1.2⟩,e.2.2⟩⟩
 .rename_i h;exact⟨λe=>by simp at e,λ⟨z,_,e,_⟩=>absurd e.1 h⟩
theorem op5:x∈Fb 5 (.mk 5 ta w co on gr od li zs) [A,B]↔x∈A/\∃y∈B,agree on x y=true:=by
 rw[Fb,if_neg az,if_neg az,if_neg az,if_pos rfl];show x∈A.filter (λx=>B.any λy=>agree on x y)↔_
 grind
theorem op6:x∈Fb 6 (.mk 6 ta w co on gr od li zs) [A,B]↔x∈A\/x∈B:=by
 simp only[Fb,show((6:Int)=2)=False by simp,show((6:Int)=3)=False by simp,show((6:Int)=4)=False by simp,show((6:Int)=5)=False by simp,if_false,if_true];exact chJ
theorem op7:x∈Fb 7 (.mk 7 ta w co on gr od li zs) [A,B]↔x∈A/\x∉B:=by
 simp only[Fb,show((7:Int)=2)=False by simp,show((7:Int)=3)=False by simp,show((7:Int)=4)=False by simp,show((7:Int)=5)=False by simp,show((7:Int)=6)=False by simp,if_false,if_true];exact ciQ
theorem op8:x∈Fb 8 (.mk 8 ta w co on gr od li zs) [A,B]↔x∈A/\x∈B:=by
 simp only[Fb,show((8:Int)=2)=False by simp,show((8:Int)=3)=False by simp,show((8:Int)=4)=False by simp,show((8:Int)=5)=False by simp,show((8:Int)=6)=False by simp,show((8:Int)=7)=False by simp,if_false,if_true];exact ciX
theorem op9:x∈Fb 9 (.mk 9 ta w co on gr od li zs) [A]↔x∈A/\((Fu gr od A x:Nat):Int)<li:=by
 simp only[Fb,show((9:Int)=2)=False by simp,show((9:Int)=3)=False by simp,show((9:Int)=4)=False by simp,show((9:Int)=5)=False by simp,show((9:Int)=6)=False by simp,show((9:Int)=7)=False by simp,show((9:Int)=8)=False by simp,if_false,if_true];show x∈yN gr od li A A↔_;rw[yN,mem_filter,ce];rfl
theorem cQX:x∈Fb 10 (.mk 10 ta w co on gr od li zs) [A,B]↔x∈A/\((Fu gr od B x:Nat):Int)<li:=by
 simp only[Fb,show((10:Int)=2)=False by simp,show((10:Int)=3)=False by simp,show((10:Int)=4)=False by simp,show((10:Int)=5)=False by simp,show((10:Int)=6)=False by simp,show((10:Int)=7)=False by simp,show((10:Int)=8)=False by simp,show((10:Int)=9)=False by simp,if_false];show x∈yN gr od li A B↔_;rw[yN,mem_filter,ce];rfl
end
theorem fR.cases{op w on args}(g:fR s (.mk op ta w co on gr od li args)):
 (op=1/\args=[])\/(∃a,args=[a]/\fR s a/\(op=2\/op=3\/op=9))\/(∃a b,args=[a,b]/\fR s a/\fR s b/\(op=4\/op=5\/op=6\/op=7\/op=8\/op=10)):=by
 obtain⟨n,e,c,f⟩:=g.node;have d:op=1\/(op=2\/op=3\/op=9)\/(op=4\/op=5\/op=6\/op=7\/op=8\/op=10):=by omega
 rcases d with rfl|h|h
 .exact .inl ⟨rfl,eq_nil_of_length_eq_zero (by have:arity 1=0:=rfl;omega)⟩
 .obtain⟨a,rfl⟩:=FL (l:=args) (by rw[c];rcases h with rfl|rfl|rfl<;>rfl)
  grind
 .obtain⟨a,b,rfl⟩:=rW (l:=args) (by rw[c];rcases h with rfl|rfl|rfl|rfl|rfl|rfl<;>rfl)
  grind
theorem E5{op ta w co on gr od li a}(h:op≠1):cD (.mk op ta w co on gr od li [a])=cD a:=by
 simp[cD,dT,h]
theorem E4{op ta w co on gr od li a b}(h:op≠1):cD (.mk op ta w co on gr od li [a,b])=cD a++cD b:=by
 simp[cD,dT,h]
theorem L7{s:jP}{ls:List Rel}:∀(q:Query)(k:Nat),fR s q->(fN ls q k).2=k+(cD q).length
 |.mk op ta w co on gr od li args,k,g=>by
  rcases g.cases with⟨rfl,rfl⟩|⟨a,rfl,d,h⟩|⟨a,b,rfl,d,e,h⟩
  .rw[fN,if_pos rfl];simp[cD,dT]
  .have c:op≠1:=by omega
   rw[fN,if_neg c,gI,gI,E5 c];exact L7 a k d
  .have c:op≠1:=by omega
   rw[fN,if_neg c,gI,gI,gI,E4 c,br];dsimp only;rw[L7 b _ e,L7 a k d];omega
theorem Ek{op w on a l}(h:G5 op=true):eC (.mk op ta w co on gr od li (a::l))=eC a:=by
 rw[eC,if_pos h,G9];rfl
theorem nI{op w on args}(h:G5 op=false):eC (.mk op ta w co on gr od li args)= .mk op ta w co on gr od li (args.map eC):=by
 rw[eC,if_neg (by simp[h]),Fq]
structure DG(st ls:List Rel)(k:Nat)(ts:cq):Prop where
 at_:∀(j:Nat)(t:Int),ts[j]? =some t->∀x∈ls.getD (k+j) [],x∈st.getD t.toNat []
theorem DG.left{st ls k b}(x:DG st ls k (a++b)):DG st ls k a:=
 ⟨λj t h=>x.at_ j t bg⟩
theorem DG.right{st ls k b}(x:DG st ls k (a++b)):DG st ls (k+a.length) b:=
 ⟨λj t h=>by
  have:=x.at_ (a.length+j) t bg
  grind⟩
theorem cover{s:jP}{st ls:List Rel}:∀(q:Query)(k:Nat),fR s q->DG st ls k (cD q)->∀x∈(fN ls q k).1,x∈eA st (eC q)
 |.mk op ta w co on gr od li args,k,g,d=>by
  rcases g.cases with⟨rfl,rfl⟩|⟨a,rfl,e,h⟩|⟨a,b,rfl,e,f,h⟩
  .rw[nI rfl,fN,if_pos rfl,map_nil,eA,if_pos rfl];have:=d.at_ 0 ta (by simp[cD,dT]);omega
  .rw[E5 aC]at d;have j:=cover a k e d;intro x c;rw[bXX aC]at c;rcases h with rfl|rfl|rfl
   .rw[nI rfl,map_cons,map_nil,Qo az,op2];rw[op2]at c
    grind
   .rw[nI rfl,map_cons,map_nil,Qo az,op3];rw[op3]at c
    grind
   .rw[Ek rfl];rw[op9]at c
    grind
  .rw[E4 aC]at d;have j:=cover a k e d.left;have n:=cover b _ f d.right;intro x c;rw[bXQ aC,L7 a k e]at c;rcases h with rfl|rfl|rfl|rfl|rfl|rfl
   .rw[nI rfl,map_cons,map_cons,map_nil,Dj az,op4];rw[op4]at c
    grind
   .rw[nI rfl,map_cons,map_cons,map_nil,Dj az,op5];rw[op5]at c
    grind
   .rw[nI rfl,map_cons,map_cons,map_nil,Dj az,op6];rw[op6]at c
    grind
   .rw[Ek rfl];rw[op7]at c
    grind
   .rw[nI rfl,map_cons,map_cons,map_nil,Dj az,op8];rw[op8]at c
    grind
   .rw[Ek rfl];rw[cQX]at c
    grind
theorem jT{s:jP}{wd:Query->Int}:∀(q D:Query),fR s q->(mU wd q D).length=(cD q).length
 |.mk op ta w co on gr od li args,D,g=>by
  rw[mU.eq_def];rcases g.cases with⟨rfl,rfl⟩|⟨a,rfl,c,h⟩|⟨a,b,rfl,c,d,h⟩
  .simp[cD,dT]
  .rw[E5 aC];dsimp only;rcases h with rfl|rfl|rfl
   .rw[if_pos rfl];exact jT a _ c
   .rw[if_neg az,if_pos rfl];exact jT a _ c
   .rw[if_neg az,if_neg az,if_pos rfl];exact jT a _ c
  .rw[E4 aC,br];dsimp only;rcases h with rfl|rfl|rfl|rfl|rfl|rfl
   .rw[if_pos rfl,br,jT a _ c,jT b _ d]
   .rw[if_neg az,if_pos rfl,br,jT a _ c,jT b _ d]
   .rw[if_neg az,if_neg az,if_pos rfl,br,jT a _ c,jT b _ d]
   .rw[if_neg az,if_neg az,if_neg az,if_pos az,br,jT a _ c,jT b _ d]
   .rw[if_neg az,if_neg az,if_neg az,if_pos az,br,jT a _ c,jT b _ d]
   .rw[if_neg az,if_neg az,if_neg az,if_neg az,if_pos rfl,br,jT a _ c,jT b _ d]
theorem S9{r:da}{a n}(h:a+n<=r.length):pick r (gV a n)=(r.drop a).take n:=by
 refine ext_getElem? λi=>?_;simp only[pick,gV,Int.toNat_natCast,map_map]
 grind
theorem Ii{y z}:pick (y++z) (gV 0 (y.length:Nat))=y:=by
 have:=S9 (r:=y++z) (a:=0) (n:=y.length) ay
 grind
theorem FJ{y z}:pick (y++z) (gV (y.length:Nat) (z.length:Nat))=z:=by
 rw[S9 ay];simp
theorem Y9{y z u}(h:u.length=z.length):agree (Av (y.length:Nat) (z.length:Nat)) (y++z) u=true↔u=z:=by
 have c:jH (Av (y.length:Nat) (z.length:Nat))=gV (y.length:Nat) (z.length:Nat):=by simp[jH,Av,gV,map_map,Function.comp]
 have d:eU (Av (y.length:Nat) (z.length:Nat))=gV 0 (u.length:Nat):=by simp[eU,Av,gV,map_map,Function.comp,h]
 rw[Fw,c,d,FJ];have:=Ii (y:=u) (z:=[])
 grind
theorem US{x y}:agree (sH gr) x y=uI gr x y:=by
 have c:jH (sH gr)=gr:=by simp[jH,sH,map_map,Function.comp_def]
 have d:eU (sH gr)=gr:=by simp[eU,sH,map_map,Function.comp_def]
 rw[agree,uI,c,d]
theorem aAZ{on x y}:agree (qI on) y x=true↔agree on x y=true:=by
 rw[Fw,Fw];simp only[qI,jH,eU,map_map,Function.comp_def];exact eq_comm
theorem Za{z}:agree (oS co) z (pick z co)=true:=by
 rw[Fw];simp only[oS,jH,eU,map_map,pick];refine map_congr_left λi c=>?_
 grind
structure OZ(st ls:List Rel)(k:Nat)(ts:cq)(ds:dc):Prop where
 at_:∀(j:Nat)(t:Int) E,ts[j]? =some t->ds[j]? =some E->∀x∈eA st E,x∈ls.getD (k+j) []
theorem OZ.left{st ls k b d e}(x:OZ st ls k (a++b) (d++e)):OZ st ls k a d:=
 ⟨λj t E c f=>x.at_ j t E bg bg⟩
theorem OZ.right{st ls k b d e}(h:d.length=a.length)(x:OZ st ls k (a++b) (d++e)):OZ st ls (k+a.length) b e:=
 ⟨λj t E c f=>by
  have:=x.at_ (a.length+j) t E bg bg
  grind⟩
structure c6J(s:jP)(st ls:List Rel)(q:Query)(k:Nat):Prop where
 wid:∀r∈eA st (eC q),r.length=(aK s [] q).1.length
 eV:∀r∈(fN ls q k).1,r∈eA st (eC q)
 sV:∀r∈eA st q,r∈eA st (eC q)
 eN:(fN ls q k).1.Nodup
 sN:(eA st q).Nodup
theorem a5Q{st q}:G0 st (iX st q) 0 (cD q):=⟨λj t h=>by
 rw[getD_eq_getElem?_getD,iX,getElem?_map,Nat.zero_add,h];rfl⟩
theorem aHQ{st q}(g:fR s q):∀r∈eA st q,r∈eA st (eC q):=λr d=>by
 have l:=a5Q (st:=st) (q:=q);refine cover (ls:=iX st q) q 0 g ⟨λj t h x c=>by rw[l.at_ j t h]at c;exact c⟩ r ?_;rw[NN g.k l];exact d
theorem cWQ{st ls q k}(c:jG s st=0)(d:StV st)(e:∀l∈st,l.length<=4)(g:fR s q)(f:Cm s 4 ls k (cD q))(li:DG st ls k (cD q)):c6J s st ls q k:=by
 have ev:=Am q g;have x:=Ex c d e aC ev.1.k ev.1.bnd;have y:=Ex c d e aC g.k g.bnd;exact⟨λr j=>by rw[x.2.2.1.wid r j,ev.2.1],cover q k g li,aHQ g,Ev (HT aC g.k f g.bnd).rel.srt,Ev y.2.2.1.srt⟩
set_option maxHeartbeats 32000000 in
theorem Zr{s:jP}{st ls:List Rel}(F:jG s st=0)(G:StV st)(H:∀l∈st,l.length<=4):∀(q D:Query)(k:Nat),fR s q->Sa st D (eC q)->Cm s 4 ls k (cD q)->DG st ls k (cD q)->OZ st ls k (cD q) (mU (qX s) q D)->∀x∈eA st D,(x∈(fN ls q k).1↔x∈eA st q)
 |.mk op ta w co on gr od li args,D,k,g,U,C,lin,c,x,I=>by
  have Y:=U x I;rw[mU.eq_def]at c;rcases g.cases with⟨rfl,rfl⟩|⟨a,rfl,E,h⟩|⟨a,b,rfl,E,W,h⟩
  .have e:cD (.mk 1 ta w co on gr od li [])=[ta]:=by simp[cD,dT]
   rw[e]at c;dsimp only at c;rw[if_pos rfl]at c;have hm:=c.at_ 0 ta D rfl rfl x I;rw[Nat.add_zero]at hm;rw[fN,if_pos rfl];refine iff_of_true hm ?_;rw[nI rfl,map_nil]at Y;exact Y
  .have M:op≠1:=by omega
   rw[E5 M]at C lin c;dsimp only at c;have d:=cWQ F G H E C lin;rw[bXX M,Qo M];rcases h with rfl|rfl|rfl
   .rw[if_pos rfl]at c
    have sub:Sa st D (eC a):=λy f=>by
     have:=U y f;rw[nI rfl,map_cons,map_nil,Qo az,op2]at this;exact this.1
    rw[op2,op2,Zr F G H a D k E sub C lin c x I]
   .rw[if_neg az,if_pos rfl]at c;have ih:=Zr F G H a _ k E (λy f=>by rw[mI]at f;exact f.1) C lin c
    have key:∀z∈eA st (eC a),pick z co=x->(z∈(fN ls a k).1↔z∈eA st a):=λz J e=>ih z (by
     rw[mI,any_eq_true];exact⟨J,x,I,by rw[<-e];exact Za⟩)
    rw[op3,op3];exact⟨λ⟨z,J,e⟩=>⟨z,(key z (d.eV z J) e).1 J,e⟩,λ⟨z,J,e⟩=>⟨z,(key z (d.sV z J) e).2 J,e⟩⟩
   .rw[if_neg az,if_neg az,if_pos rfl]at c;rw[Ek rfl]at Y;have ih:=Zr F G H a _ k E (λy f=>by rw[C5,mI]at f;exact f.1.1) C lin c
    have key:∀z∈eA st (eC a),uI gr z x=true->((Fu gr od (eA st a) z:Nat):Int)<li->(z∈(fN ls a k).1↔z∈eA st a):=λz J L h3=>ih z (by
     rw[C5,mI,any_eq_true,ce];exact⟨⟨J,x,I,by rw[US];exact L⟩,h3⟩)
    have a':uI gr x x=true:=E8.2 rfl;have hc:=Y4 (w:=(aK s [] a).1.length) d.eN d.sN d.eV d.sV d.wid key _ x rfl (d.wid x Y) a';rw[op9,op9,hc]
    grind
  .have M:op≠1:=by omega
   rw[E4 M]at C lin c;dsimp only at c;have X:=cWQ F G H E C.left lin.left;have O:=cWQ F G H W C.right lin.right;rw[bXQ M,Dj M,L7 a k E];rcases h with rfl|rfl|rfl|rfl|rfl|rfl
   .rw[if_pos rfl]at c
    have split:∀r∈eA st D,∃y∈eA st (eC a),∃z∈eA st (eC b),y++z=r/\y.length=(aK s [] a).1.length/\z.length=(aK s [] b).1.length:=λr Z=>by
     have:=U r Z;rw[nI rfl,map_cons,map_cons,map_nil,Dj az,op4]at this;obtain⟨y,f,z,J,_,e⟩:=this;exact⟨y,f,z,J,e,X.wid y f,O.wid z J⟩
    have wa:qX s a=((aK s [] a).1.length:Nat):=rfl;have wb:qX s b=((aK s [] b).1.length:Nat):=rfl;rw[wa,wb]at c;have Q:=c.left;have R:=c.right (jT a _ E)
    have j:=Zr F G H b _ _ W (λu o=>by
     rw[C4]at o;obtain⟨r,Z,e⟩:=o;obtain⟨y,f,z,J,e2,V,l2⟩:=split r Z;rw[<-e2, <-V, <-l2,FJ]at e
     grind) C.right lin.right R
    have S:=Zr F G H a _ k E (λu o=>by
     rw[C4]at o;obtain⟨r,Z,e⟩:=o;rw[mI]at Z;obtain⟨y,f,z,J,e2,V,l2⟩:=split r Z.1;rw[<-e2, <-V,Ii]at e
     grind) C.left lin.left Q
    obtain⟨y,f,z,J,e,V,l2⟩:=split x I
    have P:z∈(fN ls b (k+(cD a).length)).1↔z∈eA st b:=j z (by
     rw[C4];exact⟨x,I,by rw[<-e, <-V, <-l2,FJ]⟩)
    have T:z∈eA st b->(y∈(fN ls a k).1↔y∈eA st a):=λhb=>S y (by
     rw[C4];refine⟨x,?_,by rw[<-e, <-V,Ii]⟩;rw[mI,any_eq_true];exact⟨I,z,hb,by rw[<-e, <-V, <-l2];exact(Y9 rfl).2 rfl⟩)
    have one:∀{A B:Rel},(∀r∈A,r∈eA st (eC a))->((∃y'∈A,∃z'∈B,b9X on y' z'/\y'++z'=x)↔(y∈A/\z∈B/\b9X on y z)):=fun{A B} hA=>by
     constructor
     .rintro⟨y',a0,z',a1,hj,e'⟩;have:=append_inj (e'.trans e.symm) (by rw[V,X.wid y' (hA y' a0)])
      grind
     grind
    rw[op4,op4,one X.eV,one X.sV,P]
    grind
   .rw[if_neg az,if_pos rfl]at c;have Q:=c.left;have R:=c.right (jT a _ E)
    have sub:Sa st D (eC a):=λy f=>by
     have:=U y f;rw[nI rfl,map_cons,map_cons,map_nil,Dj az,op5]at this;exact this.1
    have S:=Zr F G H a _ k E (λu o=>by rw[mI]at o;exact sub u o.1) C.left lin.left Q;have j:=Zr F G H b _ _ W (λu o=>by rw[mI]at o;exact o.1) C.right lin.right R
    have P:∀y∈eA st (eC b),agree on x y=true->(y∈(fN ls b (k+(cD a).length)).1↔y∈eA st b):=λy f e=>j y (by
     rw[mI,any_eq_true];exact⟨f,x,I,aAZ.2 e⟩)
    have T:(∃y∈eA st b,agree on x y=true)->(x∈(fN ls a k).1↔x∈eA st a):=λ⟨y,f,e⟩=>S x (by
     rw[mI,any_eq_true]
     grind)
    rw[op5,op5];constructor
    .rintro⟨M,y,f,e⟩;have a2:=(P y (O.eV y f) e).1 f
     grind
    .rintro⟨M,y,f,e⟩;exact⟨(T ⟨y,f,e⟩).2 M,y,(P y (O.sV y f) e).2 f,e⟩
   .rw[if_neg az,if_neg az,if_pos rfl]at c;have Q:=c.left;have R:=c.right (jT a _ E);have S:=Zr F G H a _ k E (λu o=>(jL.1 o).1) C.left lin.left Q;have j:=Zr F G H b _ _ W (λu o=>(jL.1 o).1) C.right lin.right R;have T:x∈eA st (eC a)->(x∈(fN ls a k).1↔x∈eA st a):=λh=>S x (jL.2 ⟨h,I⟩);have P:x∈eA st (eC b)->(x∈(fN ls b (k+(cD a).length)).1↔x∈eA st b):=λh=>j x (jL.2 ⟨h,I⟩);rw[op6,op6];exact⟨Or.imp (λh=>(T (X.eV x h)).1 h) (λh=>(P (O.eV x h)).1 h),Or.imp (λh=>(T (X.sV x h)).2 h) (λh=>(P (O.sV x h)).2 h)⟩
   .rw[if_neg az,if_neg az,if_neg az,if_pos az]at c;have Q:=c.left;have R:=c.right (jT a _ E);rw[Ek rfl]at U;have T:=Zr F G H a D k E U C.left lin.left Q x I;have j:=Zr F G H b _ _ W (λu o=>(jL.1 (jL.1 o).1).1) C.right lin.right R;have P:x∈eA st a->x∈eA st (eC b)->(x∈(fN ls b (k+(cD a).length)).1↔x∈eA st b):=λM h=>j x (jL.2 ⟨jL.2 ⟨h,I⟩,M⟩);rw[op7,op7,T];exact and_congr_right λh=>not_congr ⟨λL=>(P h (O.eV x L)).1 L,λL=>(P h (O.sV x L)).2 L⟩
   .rw[if_neg az,if_neg az,if_neg az,if_pos az]at c;have Q:=c.left;have R:=c.right (jT a _ E)
    have sub:Sa st D (eC a):=λy f=>by
     have:=U y f;rw[nI rfl,map_cons,map_cons,map_nil,Dj az,op8]at this;exact this.1
    have T:=Zr F G H a D k E sub C.left lin.left Q x I;have j:=Zr F G H b _ _ W (λu o=>(jL.1 (jL.1 o).1).1) C.right lin.right R;have P:x∈eA st a->x∈eA st (eC b)->(x∈(fN ls b (k+(cD a).length)).1↔x∈eA st b):=λM h=>j x (jL.2 ⟨jL.2 ⟨h,I⟩,M⟩);rw[op8,op8,T];exact and_congr_right λh=>⟨λL=>(P h (O.eV x L)).1 L,λL=>(P h (O.sV x L)).2 L⟩
   .rw[if_neg az,if_neg az,if_neg az,if_neg az,if_pos rfl]at c;have Q:=c.left;have R:=c.right (jT a _ E);rw[Ek rfl]at U Y;have T:=Zr F G H a D k E U C.left lin.left Q x I;have j:=Zr F G H b _ _ W (λu o=>by rw[C5,mI]at o;exact o.1.1) C.right lin.right R
    have key:∀z∈eA st (eC b),uI gr z x=true->((Fu gr od (eA st b) z:Nat):Int)<li->(z∈(fN ls b (k+(cD a).length)).1↔z∈eA st b):=λz J L h3=>j z (by
     rw[C5,mI,any_eq_true,ce];exact⟨⟨J,x,I,by rw[US];exact L⟩,h3⟩)
    have hw:x.length=(aK s [] b).1.length:=by
     rw[X.wid x Y];obtain⟨n,_⟩:=g.node;exact congrArg List.length (n.same (.inr (.inr (.inr rfl))))
    have hc:=Y4 (w:=(aK s [] b).1.length) O.eN O.sN O.eV O.sV O.wid key _ x rfl hw (E8.2 rfl);rw[cQX,cQX,hc,T]
structure Zo(st:List Rel)(ts:cq)(ds:dc):Prop where
 at_:∀(j:Nat)(t:Int) E,ts[j]? =some t->ds[j]? =some E->∀x∈eA st E,x∈st.getD t.toNat []
theorem Zo.app{st b d e}(h:d.length=a.length)(x:Zo st a d)(y:Zo st b e):Zo st (a++b) (d++e):=⟨λj t E c f=>by
 by_cases g:j<a.length
 .rw[getElem?_append_left g]at c;rw[getElem?_append_left aC]at f;exact x.at_ j t E c f
 .rw[getElem?_append_right aC]at c;rw[getElem?_append_right aC,h]at f;exact y.at_ _ t E c f⟩
theorem Ku{st op w on a b D}(h:op=5\/op=7\/op=8\/op=10)(c:Sa st D (eC (.mk op ta w co on gr od li [a,b]))):Sa st D (eC a):=λy d=>by
 have:=c y d;rcases h with rfl|rfl|rfl|rfl
 .rw[nI rfl,map_cons,map_cons,map_nil,Dj az,op5]at this;exact this.1
 .rw[Ek rfl]at this;exact this
 .rw[nI rfl,map_cons,map_cons,map_nil,Dj az,op8]at this;exact this.1
 .rw[Ek rfl]at this;exact this
theorem xB{s:jP}{st:List Rel}(d:jG s st=0)(f:StV st)(n:∀l∈st,l.length<=4):∀(q D:Query),fR s q->Sa st D (eC q)->Zo st (cD q) (mU (qX s) q D)
 |.mk op ta w co on gr od li args,D,g,F=>by
  rw[mU.eq_def];rcases g.cases with⟨rfl,rfl⟩|⟨a,rfl,o,h⟩|⟨a,b,rfl,o,G,h⟩
  .have e:cD (.mk 1 ta w co on gr od li [])=[ta]:=by simp[cD,dT]
   rw[e];dsimp only;rw[if_pos rfl];refine⟨λj t E I J x S=>?_⟩
   match j,I,J with
   |0,I,J=>
    simp at I J;subst I J;have:=F x S;rw[nI rfl,map_nil]at this;exact this
  .rw[E5 aC];dsimp only;rcases h with rfl|rfl|rfl
   .rw[if_pos rfl]
    exact xB d f n a D o λy C=>by
     have:=F y C;rw[nI rfl,map_cons,map_nil,Qo az,op2]at this;exact this.1
   .rw[if_neg az,if_pos rfl];exact xB d f n a _ o λy C=>by rw[mI]at C;exact C.1
   .rw[if_neg az,if_neg az,if_pos rfl];exact xB d f n a _ o λy C=>by rw[C5,mI]at C;exact C.1.1
  .rw[E4 aC];dsimp only;rcases h with rfl|rfl|rfl|rfl|rfl|rfl
   .have M:=Am a o;have O:=Am b G;have T:=Ex d f n aC M.1.k M.1.bnd;have U:=Ex d f n aC O.1.k O.1.bnd
    have split:∀r∈eA st D,∃y∈eA st (eC a),∃z∈eA st (eC b),y++z=r/\y.length=(aK s [] a).1.length/\z.length=(aK s [] b).1.length:=λr H=>by
     have:=F r H;rw[nI rfl,map_cons,map_cons,map_nil,Dj az,op4]at this;obtain⟨y,C,z,L,_,e⟩:=this;exact⟨y,C,z,L,e,by rw[T.2.2.1.wid y C,M.2.1],by rw[U.2.2.1.wid z L,O.2.1]⟩
    have V:qX s a=((aK s [] a).1.length:Nat):=rfl;have W:qX s b=((aK s [] b).1.length:Nat):=rfl;rw[if_pos rfl,V,W];refine(xB d f n a _ o λu c=>?_).app (jT a _ o) (xB d f n b _ G λu c=>?_)
    .rw[C4]at c;obtain⟨r,H,e⟩:=c;rw[mI]at H;obtain⟨y,C,z,L,P,Q,R⟩:=split r H.1;rw[<-P, <-Q,Ii]at e
     grind
    .rw[C4]at c;obtain⟨r,H,e⟩:=c;obtain⟨y,C,z,L,P,Q,R⟩:=split r H;rw[<-P, <-Q, <-R,FJ]at e
     grind
   .rw[if_neg az,if_pos rfl];exact(xB d f n a _ o λu c=>by rw[mI]at c;exact Ku (.inl rfl) F u c.1).app (jT a _ o) (xB d f n b _ G λu c=>by rw[mI]at c;exact c.1)
   .rw[if_neg az,if_neg az,if_pos rfl];exact(xB d f n a _ o λu c=>(jL.1 c).1).app (jT a _ o) (xB d f n b _ G λu c=>(jL.1 c).1)
   .rw[if_neg az,if_neg az,if_neg az,if_pos az];exact(xB d f n a _ o (Ku (.inr (.inl rfl)) F)).app (jT a _ o) (xB d f n b _ G λu c=>(jL.1 (jL.1 c).1).1)
   .rw[if_neg az,if_neg az,if_neg az,if_pos az];exact(xB d f n a _ o (Ku (.inr (.inr (.inl rfl))) F)).app (jT a _ o) (xB d f n b _ G λu c=>(jL.1 (jL.1 c).1).1)
   .rw[if_neg az,if_neg az,if_neg az,if_neg az,if_pos rfl];exact(xB d f n a _ o (Ku (.inr (.inr (.inr rfl))) F)).app (jT a _ o) (xB d f n b _ G λu c=>by rw[C5,mI]at c;exact c.1.1)
theorem ceJ{st ls q}(c:jG s st=0)(d:StV st)(e:∀l∈st,l.length<=4)(g:fR s q)(f:Cm s 4 ls 0 (cD q))(lin:DG st ls 0 (cD q))(j:OZ st ls 0 (cD q) (mU (qX s) q (eC q))):(fN ls q 0).1=eA st q:=by
 have y:=Ex c d e aC g.k g.bnd;have x:=(HT aC g.k f g.bnd).rel;have H:=Zr c d e q (eC q) 0 g (Sa.refl _) f lin j;exact JL x.srt y.2.2.1.srt λr=>⟨λh=>(H r (cover q 0 g lin r h)).1 h,λh=>(H r (aHQ g r h)).2 h⟩
theorem iL.sub{w l d}(x:iL w l)(h:d.Sublist l):iL w d:=
 ⟨λr c=>x.row r (h.subset c),λr c=>x.wid r (h.subset c),List.Pairwise.sublist h x.srt,cj h.length_le x.len⟩
structure H4(ls L:List Rel)(i:Nat):Prop where
 len:ls.length=i
 at_:∀(j:Nat) l,ls[j]? =some l->∃x,L[j]? =some x/\l.Sublist x
theorem H4.snoc{ls L}(x:H4 ls L i){l y}(f:L[i]? =some y)(h:l.Sublist y):H4 (ls++[l]) L (i+1):=by
 refine⟨by simp[x.len],λj r c=>?_⟩;by_cases d:j<ls.length
 .rw[getElem?_append_left d]at c;exact x.at_ j r c
 .rw[getElem?_append_right aC]at c;have e:j-ls.length=0:=bg
  rw[e]at c;simp at c;subst c;have:j=i:=by have:=x.len;omega
  grind
theorem OB st q:(iX st q).length=(cD q).length:=by rw[iX,length_map]
theorem J5{st q}{j:Nat}{t}(h:(cD q)[j]? =some t):(iX st q)[j]? =some (st.getD t.toNat []):=by
 rw[iX,getElem?_map,h];rfl
theorem H4.lin{ls st q}(x:H4 ls (iX st q) (iX st q).length):DG st ls 0 (cD q):=⟨λj t h r c=>by
 rw[Nat.zero_add,getD_eq_getElem?_getD]at c;cases e:ls[j]? with
 |none=>grind
 |some l=>
  rw[e]at c;obtain⟨y,d,f⟩:=x.at_ j l e;rw[J5 h]at d
  grind⟩
theorem H4.ok{ls st q}(n:jG s st=0)(o:StV st)(u:∀l∈st,l.length<=4)(g:fR s q)(x:H4 ls (iX st q) (iX st q).length):Cm s 4 ls 0 (cD q):=⟨λj t h=>by
 have z:=(bm h);have c:ls[0+j]? =some (ls[j]'(by rw[x.len,OB];exact z)):=bg
 refine⟨_,c,?_⟩;rw[Nat.zero_add]at c;obtain⟨y,d,e⟩:=x.at_ j _ c;rw[J5 h]at d;cases d;have f:=Dm g.k t (bo h);have r:=Zv n o f.1 f.2;exact⟨r.1.sub e,cj e.length_le (u _ r.2)⟩⟩
theorem ceZ{s ls st q}(c:jG s st=0)(d:StV st)(e:∀l∈st,l.length<=4)(g:fR s q)(x:H4 ls (iX st q) (iX st q).length)(u:∀(j:Nat)(t:Int) E,(cD q)[j]? =some t->(mU (qX s) q (eC q))[j]? =some E->∀r∈st.getD t.toNat [],r∈eA st E->r∈ls.getD j []):(fN ls q 0).1=eA st q:=
 ceJ c d e g (x.ok c d e g) x.lin ⟨λj t E f n r o=>by
  rw[Nat.zero_add];exact u j t E f n r ((xB c d e q (eC q) g (Sa.refl _)).at_ j t E f n r o) o⟩
theorem XD{st}(e:B3 s)(h:Wk s st):jG s st=0:=by
 obtain⟨c,f⟩:=QF e;have j:=JO c;have g:=h.len
 have d:∀l:List ct,(∀x∈l,x.length<=4)->(l.map λx=>(x.length:Int)).sum<=4*(l.length:Int):=λl=>by
  induction l with
  |nil=>intro _;simp
  |cons a l n=>
   grind
 have:=d st h.few;unfold jG;rw[if_neg (by simp[c]),if_neg aC,if_neg (by simp[g]),if_pos h.ok]
theorem eD.new(c:eD m)(f:m cb=none)(o:bO m m' cb):eD m':=by
 obtain⟨T,d,e⟩:=c;refine⟨T,d,?_⟩;rw[o.other 1 (λg=>bg)];exact e
def aTZ(N:Nat):Vc.Spec:=λc m h K=>∃v q,c=[aQ v]/\dK h q v/\SizeOf.sizeOf q<N/\oD q<=900000/\∀d h',PH.le h h'->Ints h' d (cD q)->K (cS d) m h'
def b4X:Vc.Spec:=λc m h K=>∃v q,c=[aQ v]/\dK h q v/\oD q<=900000/\∀d h',PH.le h h'->Ints h' d (cD q)->K (cS d) m h'
def aXJ:Vc.Spec:=λc m h K=>∃s r n,c=[cS s,cI n]/\bS h s r/\K (cB (decide ((r.length:Int)=n)&&r.all kG)) m h
structure Sj(s:jP)(c:Nat)(ls:List ct)(ts:cq):Prop where
 len:ls.length=ts.length
 at_:∀(j:Nat)(t:Int) l,ts[j]? =some t->ls[j]? =some l->iL (jB s t).length l/\l.length<=c/\∀r∈l,r.all kG=true
def cIX:Vc.Spec:=λd m h K=>∃v s f e w q c,d=[aS v,cS f,aQ w]/\iK h s v/\Leaves h f e/\dK h q w/\(gH s [] q).2=0/\1<=c/\Sj s c e (cD q)/\gP c q<=8000000/\eD m/\∀g h',PH.le h h'->Rows h' g (fN e q 0).1->K (.tup [cS g,cI 0]) m h'
noncomputable def cAX(N:Nat)(v:QV)(m:MH):=
 dJ [(12,aTZ N)] [(5,{A:=Nat×cq×PH,st:=λ⟨i,l,h⟩=>bZ 29 30 [(1,.at (.ptr 1 0)),(3,.at (.lst 12)),(15,iv v.args.len),(16,iv i)] [(1,.cells 41 (v.enc.map .val)),(12,.lst 3 1 (l.map eI))] m h})] [(4,{A:=cq×PH,st:=λ⟨l,h⟩=>bZ 29 30 [(1,.at (.ptr 1 0)),(3,.at (.lst 12))] [(1,.cells 41 (v.enc.map .val)),(12,.lst 3 1 (l.map eI))] m h})] [] false
noncomputable def cpQ s m h:=
 dJ [(133,NX)] [(4,{A:=Nat,st:=λi=>bZ 21 23 [(11,sv s),(12,iv s.len),(13,iv i)] [] m h})] [] [] false
noncomputable def cuX(v:cA)(sl:Sl)(w:QV):=
 dJ [(37,B0),(59,aCX),(69,vJ),(70,aXJ),(71,bsZ),(60,Wl)] [(8,{A:=Nat×Sl×MH×PH,st:=λ⟨i,s,m,h⟩=>bZ 80 83 [(1,sv sl),(3,.at (.ptr 3 0)),(5,.at (.ptr 5 0)),(35,sv s),(36,iv s.len),(37,iv i)] [(3,.cells 27 (v.enc.map .val)),(5,.cells 41 (w.enc.map .val))] m h}),
  (12,{A:=Nat×Int×Sl×Nat×Sl×MH×PH,st:=λ⟨j,n,l,i,s,m,h⟩=>bZ 80 83 [(1,sv sl),(3,.at (.ptr 3 0)),(5,.at (.ptr 5 0)),(13,iv n),(35,sv s),(36,iv s.len),(37,iv i),(49,sv l),(50,iv l.len),(51,iv j)] [(3,.cells 27 (v.enc.map .val)),(5,.cells 41 (w.enc.map .val))] m h}),
  (20,{A:=Nat×cu×MH×PH,st:=λ⟨i,c,m,h⟩=>bZ 80 83 [(5,.at (.ptr 5 0)),(16,.at (.lst 63)),(64,sv sl),(65,iv sl.len),(66,iv i)] [(5,.cells 41 (w.enc.map .val)),(63,.lst 58 1 (c.map eS))] m h})] [] [] false
def YI N v m h K:=
  ∃(I:cq×PH->Prop),eY v.op 1 (aA (oC 8) (oC 1) (∃(x:cq×PH),aA (I x) eW (aA (eL 12) (eO v) (dL (lS (lY (bC v.table)) x.1) m m h x.2)))) (∃(x:cq×PH),aA (I x) eW (aA (eL 12) (eO v) (dL (tG x.1) m m h x.2)))/\∀(x:cq×PH),I x->∃(I1:Nat×cq×PH->Prop)(g:Nat×cq×PH->Nat),(∃(c:Nat×cq×PH),aA (I1 c) eW (aA (eL 12) (wF v) (aA (bE c.1) (eO v) (aA (lS (hU x.1) c.2.1) (m=m) (bU x.2 c.2.2)))))/\∀(c:Nat×cq×PH),I1 c->bA (↑c.1:Int) (aG v.args) (bK (λb o=>aI (aW v.args.a b o) (0<=(↑c.1:Int)) ((↑c.1:Int)<aG v.args) (∃(y:QV),aL m c.2.2 b (o+bM c.1 21) y.enc/\qC (λj q=>aA (HA (cZ y)=HA (cZ j)) (dK c.2.2 q j) (aA
 (yH q N) (oD q<=900000) (∀(s:Sl)(f:PH),bR c.2.2 f (Ints f s (cD q)) (∃(d:List cr),aA (fU 1 d) (dD f (dO s) 1 d) (aA (sY (hU c.2.1) d 8) (sZ (hU c.2.1) d) (∃(e:Nat×cq×PH),aA (I1 e) (g e<g c) (aA eW (eL 12) (aA (bJ v.args) (gX (bH c.1 1)=bP e.1) (aA (eO v) (lS (hU c.2.1++d) e.2.1) (eG m m f e.2.2))))))))))))) (uM c.2.2 (hU c.2.1) K m)
def XY(s:Sl)(n:Int)(m:MH)(h:PH)(K:cn):=
  cX (aG s) n (K bG m h) (p9 (λI x=>aA (I x) (aJ s) (aA (bJ s) (bE x) (eG m m h h))) (λI d x=>I x->bA (↑x:Int) (aG s) (bK (λb o=>aI (aW s.a b o) (0<=(↑x:Int)) ((↑x:Int)<aG s) (∃(y:VV),aL m h b (o+bM x 3) y.enc/\∃(v:VV),iF (CO y v) (!(kG v)) (K bG m h) (∃(c:Nat),aA (I c) (d c<d x) (aA (aJ s) (bJ s) (dL (gX (bH x 1)=bP c) m m h h)))))) (K iQ m h)))
noncomputable abbrev nD(a:Nat×Int×Sl×Nat×Sl×MH×PH):=a.2.2.2
noncomputable abbrev Bs(a:Nat×Int×Sl×Nat×Sl×MH×PH):=a.2.2.1
attribute [push_cast] nD Bs
def Yk v sl w m h K:=
  Lk v w h (λs p q G=>cX (zD s p q) 0 (K (CV.tup (gC Ft (CV.val (fV (zD s p q))))) m G) (qC (λM H=>aI (fY (cZ w) (cZ M)) (dK G H M) (oD H<=900000) (∀(E:Sl)(F:PH),bR G F (Ints F E (cD H)) (cX (aG sl) (aG E) (cC K 1 m F) (LC (λI x=>aA (I x) (aJ sl) (aA (eP 3) eM (aA (aZ E (kR x)) (bQ E (kR x)) (aA (bE x.1) (cL v) (aI (eO w) (bW m (jX x)) (eH F (jX x)) True))))) (λI O x=>I x->bA (↑x.1:Int) (aG (kR x)) (bK (λb o=>aI (aW (kR x).a b o) (0<=(↑x.1:Int)) ((↑x.1:Int)<aG (kR x)) (∃(y:Int),aL (qR x) (qS x) b (o+bM x.1 1) (bC y)/\A9 v y (qS x) (λj f=>bK (λP Q=>aI (aW sl.a P Q) (0<=(↑x.1:Int)) ((↑x.1:Int)<aG
 sl) (∃(J:Sl),aL (qR x) f P (Q+bM x.1 1) (aM J)/\∃(I1:Nat×Int×Sl×Nat×Sl×MH×PH->Prop)(z:Nat×Int×Sl×Nat×Sl×MH×PH->Nat),(∃(c:Nat×Int×Sl×Nat×Sl×MH×PH),aA (I1 c) (aJ sl) (aA (eP 3) eM (aA (bP j.len=gX c.2.1) (aZ (kR x) (kR (nD c))) (aA (bQ (kR x) (kR (nD c))) (cG x.1 (nD c).1) (aA (aZ J (Bs c)) (bQ J (Bs c)) (aA (bE c.1) (cL v) (aI (eO w) (fH (jX x) (jX (nD c))) (eH f (jX (nD c))) True)))))))/\∀(c:Nat×Int×Sl×Nat×Sl×MH×PH),I1 c->bA (↑c.1:Int) (aG (Bs c)) (bK (λR S=>aI (aW (Bs c).a R S) (0<=(↑c.1:Int)) ((↑c.1:Int)<aG (Bs c)) (∃(T:Sl),aL (qR (nD c)) (qS (nD c)) R (S+bM c.1 1)
 (aM T)/\pB (λg r=>∃(n:Int),aA (i6 T c.2.1=i6 g n) (bS (qS (nD c)) g r) (oF (Bool.and (decide ((↑r.length:Int)=n)) (List.all r kG)) (cC K 71 (qR (nD c)) (qS (nD c))) (∃(d:Nat×Int×Sl×Nat×Sl×MH×PH),aA (I1 d) (z d<z c) (aA (aJ sl) jU (aA eM (dH c.2.1 d.2.1) (aA (aZ (kR (nD c)) (kR (nD d))) (bQ (kR (nD c)) (kR (nD d))) (aA (cG (nD c).1 (nD d).1) (aZ (Bs c) (Bs d)) (aA (bQ (Bs c) (Bs d)) (gX (bH c.1 1)=bP d.1) (aA (cL v) (eO w) (aA (fH (jX (nD c)) (jX (nD d))) (dC (jX (nD c)) (jX (nD d))) True))))))))))))) (∃(d:Nat×Sl×MH×PH),aA (I d) (O d<O x) (aA (aJ sl) jU (aA eM (aZ
 (kR (nD c)) (kR d)) (aA (bQ (kR (nD c)) (kR d)) (gX (bH (nD c).1 1)=bP d.1) (aA (cL v) (eO w) (aA (fH (jX (nD c)) (jX d)) (dC (jX (nD c)) (jX d)) True)))))))))))) (Bt sl 24 (∃(I1:Nat×cu×MH×PH->Prop)(z:Nat×cu×MH×PH->Nat),(∃(c:Nat×cu×MH×PH),aA (I1 c) eM (aA (eL 63) (aJ sl) (aA (bJ sl) (bE c.1) (aA (eO w) (bV 58 1 (Ea sl)=CP c) (aA (fH (jX x) (kX c)) (dC (jX x) (kX c)) True)))))/\∀(c:Nat×cu×MH×PH),I1 c->bA (↑c.1:Int) (aG sl) (bK (λb o=>aI (aW sl.a b o) (0<=(↑c.1:Int)) ((↑c.1:Int)<aG sl) (∃(y:Sl),aL (kX c).1 (tQ c) b (o+bM c.1 1) (aM y)/\∃(j:Sl)(u:cu)(l:ct),aA
 (tA y=tA j) (uZ (kX c).1 (tQ c) j 1 (iC u)) (aA (fA (tQ c) u l) (l.length<=502633886983) (∀(g:Sl)(f:PH),bR (tQ c) f (Rows f g (Ew l)) (pP (↑c.1:Int) (rZ c) (λe=>PL c e (λd=>aA (I1 d) (z d<z c) (aA eM (eL 63) (aA (aJ sl) (bJ sl) (aA (gX (bH c.1 1)=bP d.1) (eO w) (aI (CQ 58 1 (rZ c) c.1 g e (CP d)) (fH (kX c) (kX d)) (eH f (kX d)) True)))))))))))) (cF (tQ c) 1 (rZ c) (λj f=>∃(l:Sl)(U:QV)(C:List ct)(D:Query),aA (gT j (cZ w)=gT l (cZ U)) (Leaves f l C) (aA (dK f D U) (ZG C D 0) (aI (eD (kX c).1) (Cb (fN C D 0).1) (IB (fN C D 0).1 (λr=>ED r)) (∀(g:Sl)(L:PH),bR f L (Rows L g (fN
 C D 0).1) (lO K g 0 (kX c).1 L)))))))))))))))
theorem KA{q:Query}:∀{l:dc},dT (l++[q])=dT l++cD q
 |[]=>by simp[dT]
 |p::l=>by rw[cons_append,dT,KA,dT,append_assoc]
theorem aQQ:∀N,cm 12 (aTZ N)
 |0=>by
  refine fP (fn:=Tryz.f12) (c:=dY Tryz.f12) func12 rfl az ?_;rintro D m h K ⟨v,q,rfl,U,Z,_⟩;omega
 |N+1=>by
  refine iU func12 ?_;rintro D m h K ⟨v,q,rfl,U,Z,hc,E⟩;refine⟨cAX N v m,rfl,aE (aQQ N) aH,YI N v m h K,ax,?_⟩;dsimp only[YI,push_cast];have g:=E6 q;obtain⟨op,ta,w,co,on,gr,od,li,args⟩:=q;have F:=U.parts;have d:=F.args_;have G:=bN.slen d;have V:=bN.len d;have W:v.op=op:=F.op_;have C:v.table=ta:=F.table_;rw[cD]at E g;rw[oD]at hc g;refine⟨λz=>z=(if op=1 then[ta]else[],h),aD (λe=>?_) (λe=>?_),?_⟩
  .have e:op=1:=bg
   exact⟨aC,aC,([ta],h),by rw[if_pos e],by rw[C];exact MT⟩
  .grind
  rintro _ rfl;dsimp only;generalize (if op=1 then[ta]else[])=H at E g;refine⟨λz=>z.1<=args.length/\z.2.1=H++dT (args.take z.1)/\PH.le h z.2.2,λz=>args.length-z.1,⟨(0,H,h),⟨ay,by simp[dT],.refl _⟩,MT⟩,?_⟩;rintro⟨i,l,hx⟩ ⟨hi,X,le⟩;dsimp only at hi X le⊢
  subst X
  have f:∀j,(dT (args.take j)).length<=(dT args).length:=λj=>by
   have h5:∀(a b:dc),(dT a).length<=(dT (a++b)).length:=λa b=>by
    induction a with
    |nil=>simp[dT]
    |cons p a ih=>rw[cons_append,dT,dT,br,br];omega
   have:=h5 (args.take j) (args.drop j)
   rwa [take_append_drop]at this
  have Y:=f i;rw[br]at g;refine aF (λI=>?_) (λa'=>?_)
  .obtain⟨p,J⟩:=fF G I;obtain⟨b,o,u,ea,L,M⟩:=bN.at (En.mono d le) J;have n:=bo J
   have O:SizeOf.sizeOf p<N:=by
    have:=sizeOf_lt_of_mem n
    grind
   have a0:=V8 n;have P:dT (args.take (i+1))=dT (args.take i)++cD p:=by rw[cd,J,Option.toList_some,KA]
   have y:(dT (args.take (i+1))).length<=(dT args).length:=f _;rw[P,br]at y;refine⟨b,o,ea,aC,aC,u,.imm L,u,p,rfl,M,O,aC,λs h2 Q R=>⟨(cD p).map eI,BL _,R.row,?_,?_,(i+1,H++dT (args.take i)++cD p,h2),⟨aC,bg,le.trans Q⟩,aC,?_⟩⟩
   .grind
   .grind
   .rw[iY aC]
    grind
  .rw[bt aC]
   exactλs h' S T=>E s h' (le.trans S) ⟨T,bg⟩
theorem bnJ:cm 12 b4X:=mV aQQ λ_ _ _ _⟨v,q,e,c,d,f⟩=>⟨SizeOf.sizeOf q+1,v,q,e,c,aC,d,f⟩
structure Eo(h:PH)(us:cu)(ls:List ct):Prop where
 len:us.length=ls.length
 at_:∀(j:Nat) l,ls[j]? =some l->∃u,us[j]? =some u/\Rows h u l
theorem Eo.mono{us ls}(x:Eo h us ls)(le:PH.le h h'):Eo h' us ls:=⟨x.len,λj l d=>(x.at_ j l d).imp λ_ c=>⟨c.1,bN.mono c.2 le λr t e=>bS.mono e le⟩⟩
theorem Eo.nil h:Eo h [] []:=⟨rfl,λj x c=>by simp at c⟩
theorem Eo.snoc{us ls}(x:Eo h us ls){u l}(d:Rows h u l):Eo h (us++[u]) (ls++[l]):=by
 refine⟨by simp[x.len],λj r c=>?_⟩;by_cases e:j<ls.length
 .rw[getElem?_append_left e]at c;obtain⟨f,g,n⟩:=x.at_ j r c
  grind
 .rw[getElem?_append_right aC]at c;have:j-ls.length=0:=bg
  rw[this]at c;simp at c;subst c;exact⟨u,by rw[getElem?_append_right (by rw[x.len];omega),x.len,this];rfl,d⟩
theorem Eo.leaves{us ls s}(x:Eo h us ls)(c:dD h s 1 (us.map eS))(e:ls.length<=8000000):Leaves h s ls:=⟨⟨us,c,x.len.symm,λi l d=>x.at_ i l d⟩,aC⟩
theorem beX:cm 70 aXJ:=by
 refine iU func70 ?_;rintro E m h K ⟨s,r,n,rfl,f,c⟩;refine⟨cpQ s m h,rfl,aE Kb aH,XY s n m h K,ax,?_⟩;dsimp only[XY,push_cast];have g:=bN.slen f;have H:=bN.len f;refine aD (λe=>?_) (λe=>?_)
 .have e:¬(r.length:Int)=n:=bg
  rw[decide_eq_false e,Bool.false_and]at c;exact c
 have e:(r.length:Int)=n:=bg
 rw[decide_eq_true e,Bool.true_and]at c;refine⟨λi=>i<=r.length/\(r.take i).all kG=true,λi=>r.length-i,⟨0,⟨aC,ay⟩,MT⟩,λi C=>aF (λd=>?_) (λF=>?_)⟩
 .obtain⟨y,D⟩:=fF g d;obtain⟨b,o,u,G,rd,j⟩:=bN.at f D;have j:y=u:=j;subst j;refine⟨b,o,G,aC,d,y,.imm rd,y,rfl,aD (λz=>?_) (λz=>?_)⟩
  .have:r.all kG=false:=by
    grind
   rw[this]at c;exact c
  .have z:kG y=true:=bg
   rw[iY aC];exact⟨i+1,⟨aC,by rw[cd,D,all_append,C.2];simp[z]⟩,bg,MT⟩
 .have:=C.2;rw[bt aC]at this;rw[this]at c;exact c
theorem bhZ:cm 31 cIX:=by
 refine iU func31 ?_;rintro c6 m h K ⟨v,s,sl,ls,w,q,c,rfl,hs,P,hq,he,c1,y,hb,hT,hK⟩;refine⟨cuX v sl w,rfl,aE GQ (aE aj (aE Fo (aE beX (aE Fm (aE TA aH))))),Yk v sl w m h K,ax,?_⟩;dsimp only[Yk,push_cast];obtain⟨a7,_,Q,a8⟩:=BP he;have R:aK s [] q=((aK s [] q).1,0):=Prod.ext rfl a8;have c4:=Ie Q;have a9:=E6 q;have b':=Dm R;have h8:=AI a7
 have H:=HT c1 (ls:=ls) (k:=0) R ⟨λj t hj=>by
  have c7:=(bm hj);have S:=y.len;have D:ls[j]? =some ls[j]:=bn aC;have:=y.at_ j t _ hj D
  grind⟩ hb
 have c5:=bN.slen P;have T:=y.len;refine⟨v,cH,w,s,[],q,rfl,hs,nG h,hq,Q,λc8 h1 U _=>aD (λe=>?_) (λ_=>?_)⟩
 .grind
 refine⟨w,q,rfl,hq.mono U,aC,λs' h2 b0 hi=>aD (λe=>?_) (λ_=>?_)⟩
 .have:=hi.slen
  grind
 have V:=hi.slen;have g:=U.trans b0;have n:=y.at_;generalize cD q=ts at hi V a9 b' n T;have W:∀{I},PH.le h I->Leaves I sl ls:=fun{I} le=>bN.mono P le λl s E=>bN.mono E le λr t hv=>bS.mono hv le;refine⟨λz=>z.1<=ts.length/\z.2.1=s'/\z.2.2.1=m/\PH.le h2 z.2.2.2,λz=>ts.length-z.1,⟨(0,s',m,h2),⟨ay,rfl,rfl,.refl _⟩,MT⟩,?_⟩;rintro⟨i,s2,O,I⟩ ⟨b1,e3,X,lex⟩;dsimp only at b1 e3 X lex⊢
 subst e3 X;refine aF (λb4=>?_) (λc9=>?_)
 .obtain⟨t,ht⟩:=fF V b4;obtain⟨b,o,ea,rd⟩:=(hi.mono lex).at' ht;have D:ls[i]? =some ls[i]:=bn aC;obtain⟨d,_,Y⟩:=n i t _ ht D;refine⟨b,o,ea,aC,aC,t,.imm rd,v,s,t,rfl,hs.mono (g.trans lex),h8,λsk h3 Z hk=>?_⟩;obtain⟨b2,o2,u,J,L,E⟩:=bN.at (W (g.trans (lex.trans Z))) D;have b5:=hk.slen;have M:=bN.slen E;refine⟨b2,o2,J,aC,aC,u,.imm L,λz=>z.1<=ls[i].length/\z.2=(((jB s t).length:Int),u,i,s2,O,h3),λz=>ls[i].length-z.1,⟨(0,((jB s t).length:Int),u,i,s2,O,h3),⟨ay,rfl⟩,by rw[b5];exact MT⟩,?_⟩;rintro⟨j,z⟩ ⟨hj,e⟩;dsimp only at hj e;subst e;dsimp only;refine aF (λF=>?_) (λa'=>?_)
  .obtain⟨r,a0⟩:=fF M F;obtain⟨b3,o3,ur,b6,b7,hv⟩:=bN.at E a0;have a1:=bo a0;have b8:=d.len;refine⟨b3,o3,b6,aC,aC,ur,.imm b7,ur,r,_,rfl,hv,aD (λe=>?_) (λ_=>?_)⟩
   .rw[Y r a1,d.wid r a1]at e;simp at e
   .rw[iY aC];exact⟨(j+1,((jB s t).length:Int),u,i,s2,O,h3),⟨aC,rfl⟩,aC,MT⟩
  .rw[iY aC];exact⟨(i+1,s2,O,h3),⟨aC,rfl,rfl,lex.trans Z⟩,aC,MT⟩
 .refine⟨aC,aC,aC,aC,λz=>z.1<=ls.length/\z.2.2.1=O/\PH.le I z.2.2.2/\∃us,z.2.1=us++replicate (ls.length-z.1) ⟨none,0,0⟩/\Eo z.2.2.2 us (ls.take z.1),λz=>ls.length-z.1,⟨(0,replicate ls.length ⟨none,0,0⟩,O,I),⟨ay,rfl,.refl _,[],ay,bk (Eo.nil I)⟩,?_⟩,?_⟩
  .rw[show((sl.len:Int)).toNat=ls.length by omega];dsimp only;rw[map_replicate];exact MT
  rintro⟨f,l,m3,hy⟩ ⟨b9,X,C,us,S,hu⟩;dsimp only at b9 X C S hu⊢
  subst X;have M:=hu.len;rw[length_take]at M;refine aF (λF=>?_) (λa'=>?_)
  .have D:ls[f]? =some ls[f]:=bn aC;have et:ts[f]? =some ts[f]:=bn aC;obtain⟨d,_,_⟩:=n f _ _ et D;have a2:=g.trans (lex.trans C);obtain⟨b2,o2,u,J,L,E⟩:=bN.at (W a2) D;obtain⟨rs,h7,h8,h9⟩:=E.ex;have b8:=d.len;have c':l.length=ls.length:=bg
   have a3:l[f]? =some ⟨none,0,0⟩:=by
    grind
   refine⟨b2,o2,J,aC,aC,u,.imm L,u,rs,ls[f],rfl,.imm h7,⟨h8.symm,h9⟩,aC,λs5 h5 a4 a5=>⟨aC,bg,[pV],by rw[getElem?_map,show((f:Int)).toNat=f from rfl,a3];rfl,ay,(f+1,l.set f s5,m3,h5),⟨aC,rfl,C.trans a4,us++[s5],?_,?_⟩,aC,?_⟩⟩
   .dsimp only;rw[S,set_append,if_neg aC,append_assoc];congr 1;rw[show ls.length-f=(ls.length-(f+1))+1 by omega,replicate_succ,show f-us.length=0 by omega];rfl
   .dsimp only;rw[cd,D];rw[a1X d.srt]at a5;exact(hu.mono a4).snoc a5
   .dsimp only
    have e9:((l.map eS).set ((f:Int)).toNat (dX s5::List.drop 1 [pV]))=(l.set f s5).map eS:=by
     rw[map_set];rfl
    rw[e9,iY aC];exact MT
  .have:f=ls.length:=by omega
   subst this;rw[Nat.sub_self,replicate_zero,append_nil]at S;subst S;rw[take_length]at hu;intro s6 h6 a6 c0;have G:=(g.trans (lex.trans C)).trans a6;exact⟨s6,w,ls,q,rfl,(hu.mono a6).leaves c0 aC,hq.mono G,H.ok,hT,cj H.bnd hb,λr E=>by have:=(H.rel.row r E).len;omega,λs7 h7 c2 c3=>hK s7 h7 (G.trans c2) c3⟩
def c6X:Vc.Spec:=λc m h K=>∃s d,c=[cS s]/\dD h s 1 (aY d)/\s.len<=s.cap/\eD m/\∀m' h',Sub m m'->K (cB true) m' h'
def aTJ:Vc.Spec:=λd m h K=>∃v s e c w q,d=[aS v,aSt e,aQ w]/\iK h s v/\H2 h e c/\dK h q w/\pY q=true/\eD m/\(gH s [] q).2=0/\jG s c=0/\ccZ c q/\∀f h',PH.le h h'->Rows h' f (eA c q)->K (.tup [cS f,cI 0]) m h'
theorem cZZ:cm 23 aTJ:=Ic bjX λ_ _ _ _⟨v,s,d,c,w,q,e,f,g,j,n,o,y,z,u,C⟩=>⟨v,s,d,c,w,q,e,f,g,j,n,o,λ_ _=>u,by
 have:bxX s c q=(eA c q,0):=by unfold bxX;grind
 grind⟩
noncomputable def cTJ:=
 dJ [(8,c2Q),(9,b6X),(10,aCZ 1000),(13,aSQ),(18,N1),(12,b4X),(25,Sw),(21,c2X),(31,cIX),(23,aTJ),(17,cdQ),(16,b4J)]
  [(12,{A:=Nat×Nat×cA×QV×Sl×Sl×Bool×Sl×cu×MH×PH,st:=λ⟨i,cb,sc,a,st,l,c,s,d,m,h⟩=>bZ 119 120 [(3,pv cb),(4,.at (.ptr 4 0)),(5,.at (.ptr 5 0)),(6,.at (.ptr 6 0)),(7,sv l),(10,bv c),(11,.at (.lst 89)),(50,sv s),(51,iv s.len),(52,iv i)] [(4,.cells 27 (sc.enc.map .val)),(5,.cells 41 (a.enc.map .val)),(6,.cells 52 [.val (.slice st.a st.len st.cap)]),(89,.lst 58 1 (d.map eS))] m h}),
   (16,{A:=Nat×cu×Sl×Nat×Nat×cA×QV×Sl×Sl×Bool×Sl×cu×MH×PH,st:=λ⟨j,rs,u,i,cb,sc,a,st,l,c,s,d,m,h⟩=>bZ 119 120 [(3,pv cb),(4,.at (.ptr 4 0)),(5,.at (.ptr 5 0)),(6,.at (.ptr 6 0)),(7,sv l),(10,bv c),(11,.at (.lst 89)),(12,iv i),(14,.at (.lst 84)),(50,sv s),(51,iv s.len),(52,iv i),(61,sv u),(62,iv u.len),(63,iv j)] [(4,.cells 27 (sc.enc.map .val)),(5,.cells 41 (a.enc.map .val)),(6,.cells 52 [.val (.slice st.a st.len st.cap)]),(84,.lst 65 1 (rs.map eS)),(89,.lst 58 1 (d.map eS))] m h})] [] [] false
noncomputable abbrev lJ(a:Nat×Nat×cA×QV×Sl×Sl×Bool×Sl×cu×MH×PH):=a.2.2.2.2.2.2.2
noncomputable abbrev J2(a:Nat×Nat×cA×QV×Sl×Sl×Bool×Sl×cu×MH×PH):=a.2.2.1
noncomputable abbrev rR(a:Nat×Nat×cA×QV×Sl×Sl×Bool×Sl×cu×MH×PH):=a.2.2.2.1
noncomputable abbrev lD(a:Nat×cu×Sl×Nat×Nat×cA×QV×Sl×Sl×Bool×Sl×cu×MH×PH):=a.2.2.2
noncomputable abbrev GI a:=(lD a).2.2.2.2.2.1
noncomputable abbrev IV a:=(lD a).2.2.2.2.2.2.1
noncomputable abbrev kI a:=lJ (lD a)
noncomputable abbrev EC(a:Nat×cu×Sl×Nat×Nat×cA×QV×Sl×Sl×Bool×Sl×cu×MH×PH):=a.2.2.1
noncomputable abbrev Dr a:=J2 (lD a)
noncomputable abbrev zY a:=pG (lD a).2.2.2.2.1
noncomputable abbrev pR a:=lT (kI a)
abbrev Lm(a:Nat×cu×Sl×Nat×Nat×cA×QV×Sl×Sl×Bool×Sl×cu×MH×PH->Prop)(b:Nat×cu×Sl×Nat×Nat×cA×QV×Sl×Sl×Bool×Sl×cu×MH×PH->Nat)(c:Nat×cu×Sl×Nat×Nat×cA×QV×Sl×Sl×Bool×Sl×cu×MH×PH)(d:(Nat×cu×Sl×Nat×Nat×cA×QV×Sl×Sl×Bool×Sl×cu×MH×PH)->Prop):=∃(x:Nat×cu×Sl×Nat×Nat×cA×QV×Sl×Sl×Bool×Sl×cu×MH×PH),aA (a x) (b x<b c) (aA (bY (lD c).2.1 (lD x).2.1) (eP 4) (aA eM (eP 6) (aA (aZ (GI c) (GI x)) (jQ (IV c) (IV x)) (d x))))
abbrev Ln a b c:=aA (eL 89) (cG (lD a).1 (lD b).1) (aA (eL 84) (aZ (kI a).1 (kI b).1) (aA (bQ (kI a).1 (kI b).1) (cG (lD a).1 (lD b).1) (aA (aZ (EC a) (EC b)) (bQ (EC a) (EC b)) c)))
abbrev LD(a b:Nat×cu×Sl×Nat×Nat×cA×QV×Sl×Sl×Bool×Sl×cu×MH×PH):=gX (bH a.1 1)=bP b.1
attribute [push_cast] lJ J2 rR lD GI IV kI EC Dr zY pR Lm Ln LD
def aMJ(s:Sl)(m:MH)(h:PH)(K:cn):=
  ∃(S:Sl)(c:dh)(m1:Nat),aA (i6 s 260=i6 S (↑m1:Int)) (dD h S 1 (aY c)) (aA (S.len<=S.cap) (nZ m1) (∀(g:Nat),eX (λT U=>bR h U (GG m g) (bF (bO m T g) (bB T U g) (∃(V:Nat),aA (fY (jO g) (jO V)) (bB T U V) (∀(s2:jP)(v:cA),eX (λW n=>bF (B3 s2) (iK n s2 v) (bR U n (bO T W V) (pF W n V (∃(X:Nat),EL (λs3 p=>EO (λY Z=>∃(d:Int),aA (dA g (cE (cN v) (fC Ft 3))=dA X (cE (cN s3) (i6 p d))) (bB W n X) (aA (iK n Y s3) (eK Y=0) (aA (mS (Y.tables=[])) (Ints n p Z) (aA (gU Z) (Az (EJ Z)) (aI (Int.negSucc 0<=d) (d<=1000) ((d+1).toNat<1000) (IX (λw q=>eX (λm4 D=>bR n D (dK D q w) (bF
 (QW q) (DO d.toNat q) (bF (zD Y Z q=0) (bO W m4 X) (pF m4 D X (∃(c4:Nat),rE (λv1 s5=>aA (dA g (fC (kE (cN v)) 2)=dA c4 (fC (kE (cN v1)) 2)) (bB m4 D c4) (aA (iK D s5 v1) (B3 s5) (∀(s6:List ct)(s7:Sl),eX (λu z=>bR D z (H2 z s7 s6) (bF (Wk s5 s6) (bO m4 u c4) (pF u z c4 (EL (λs8 s9=>∃(v2:QV),VA (λa a1=>∃(j:Query),aA (cE (cN v) (gC (kE (aM s7)) (cZ w))=cE (cN s8) (gC (kE (aM s9)) (cZ v2))) (iK z a s8) (aA (H2 z s9 a1) (dK z j v2) (aA (Az (pY j)) (eD u) (aA (AL a j=0->OY a j) (jG a a1=0) (Ll a1 (λl=>l.length<=4)/\∀(a2:Sl)(h5:PH),bR z h5 (AL a j=0->Leaves h5 a2 (List.map (eA a1) (mU (qX a) j (eC j))))
 (qC (λv3 q2=>aI (fY (cZ w) (cZ v3)) (dK h5 q2 v3) (oD q2<=900000) (∀(a3:Sl)(C:PH),bR h5 C (Ints C a3 (cD q2)) (dP (AL a j !=0) (K bG u C) (aG a2 !=aG a3) (K bG u C) (pM g 4 u C (λc5 r=>∀(m6:MH),bF (bO u m6 c5) (bB m6 C c5) (∃(I:Nat×Nat×cA×QV×Sl×Sl×Bool×Sl×cu×MH×PH->Prop)(m7:Nat×Nat×cA×QV×Sl×Sl×Bool×Sl×cu×MH×PH->Nat),(∃(x:Nat×Nat×cA×QV×Sl×Sl×Bool×Sl×cu×MH×PH),aA (I x) (bY g x.2.1) (aA (eP 4) eM (aA (eP 6) (aZ a2 x.2.2.2.2.2.1) (aA (jQ r x.2.2.2.2.2.2.1) (eL 89) (aA (aZ a3 (lJ x).1) (bQ a3 (lJ x).1) (aA (bE x.1) (pL v (J2 x)) (aA (jW w (rR x)) (xS (pG s7) (pG x.2.2.2.2.1)) (aA (J1 58 1 (oR (lJ x)))
 (bW m6 (lT (lJ x))) (lF (eH C (lT (lJ x))))))))))))/\∀(x:Nat×Nat×cA×QV×Sl×Sl×Bool×Sl×cu×MH×PH),I x->bA (↑x.1:Int) (aG (lJ x).1) (bK (λb o=>aI (aW (lJ x).1.a b o) (0<=(↑x.1:Int)) ((↑x.1:Int)<aG (lJ x).1) (∃(y:Int),aL (mO (lJ x)) (kQ (lJ x)) b (o+bM x.1 1) (bC y)/\bK (λJ o1=>aI (aW x.2.2.2.2.1.a J o1) (0<=y) (y<aG x.2.2.2.2.1) (∃(y1:Sl),aL (mO (lJ x)) (kQ (lJ x)) J (o1+iA y 1) (aM y1)/\∃(I1:Nat×cu×Sl×Nat×Nat×cA×QV×Sl×Sl×Bool×Sl×cu×MH×PH->Prop)(m8:Nat×cu×Sl×Nat×Nat×cA×QV×Sl×Sl×Bool×Sl×cu×MH×PH->Nat),(∃(e:Nat×cu×Sl×Nat×Nat×cA×QV×Sl×Sl×Bool×Sl×cu×MH×PH),aA (I1 e) (bY
 x.2.1 (lD e).2.1) (aA (eP 4) eM (aA (eP 6) (aZ x.2.2.2.2.2.1 (GI e)) (aA (jQ x.2.2.2.2.2.2.1 (IV e)) (eL 89) (aA (cG x.1 (lD e).1) (eL 84) (aA (aZ (lJ x).1 (kI e).1) (bQ (lJ x).1 (kI e).1) (aA (cG x.1 (lD e).1) (aZ y1 (EC e)) (aA (bQ y1 (EC e)) (bE e.1) (aA (pL (J2 x) (Dr e)) (jW (rR x) (rR (lD e))) (aA (xS (pG x.2.2.2.2.1) (zY e)) (F6 e.2.1) (aI (oR (lJ x)=oR (kI e)) (fH (lT (lJ x)) (pR e)) (dC (lT (lJ x)) (pR e)) True)))))))))))/\∀(e:Nat×cu×Sl×Nat×Nat×cA×QV×Sl×Sl×Bool×Sl×cu×MH×PH),I1 e->bA (↑e.1:Int) (aG (EC e)) (bK (λL o2=>aI (aW (EC e).a L o2) (0<=(↑e.1:Int)) ((↑e.1:Int)<
 aG (EC e)) (∃(y2:Sl),aL (mO (kI e)) (kQ (kI e)) L (o2+bM e.1 1) (aM y2)/\bK (λM o3=>aI (aW (GI e).a M o3) (0<=(↑(lD e).1:Int)) ((↑(lD e).1:Int)<aG (GI e)) (∃(y3:Sl),aL (mO (kI e)) (kQ (kI e)) M (o3+bM (lD e).1 1) (aM y3)/\J0 (λE t l O=>aA (cJ y3 y2=cJ E t) (Rows (kQ (kI e)) E l) (aA (bS (kQ (kI e)) t O) (mG l) (dP (JF l O) (aA (kP (iC e.2.1)) (dR (iC e.2.1)) (Lm I1 m8 e (λf=>Ln e f (aA (LD e f) (pL (Dr e) (Dr f)) (aA (jW (rR (lD e)) (rR (lD f))) (xS (zY e) (zY f)) (aA (Cu (iC e.2.1) y2 f.2.1) (oR (kI e)=oR (kI f)) (aA (fH (pR e) (pR f)) (dC
 (pR e) (pR f)) True))))))) (!(IV e)) (pM (lD e).2.1 2 (mO (kI e)) (kQ (kI e)) (λF r2=>∀(m9:MH),bF (bO (mO (kI e)) m9 F) (bB m9 (kQ (kI e)) F) (branch r2 (aA (kP (iC e.2.1)) (dR (iC e.2.1)) (Lm I1 m8 e (λf=>Ln e f (aA (LD e f) (pL (Dr e) (Dr f)) (aA (jW (rR (lD e)) (rR (lD f))) (xS (zY e) (zY f)) (aA (Cu (iC e.2.1) y2 f.2.1) (oR (kI e)=oR (kI f)) (aA (bW m9 (pR f)) (dC (pR e) (pR f)) True))))))) (Lm I1 m8 e (λf=>Ln e f (aA (LD e f) (pL (Dr e) (Dr f)) (aA (jW (rR (lD e)) (rR (lD f))) (xS (zY e) (zY f)) (aA (Bu e.2.1 f.2.1) (oR (kI e)=
 oR (kI f)) (aA (bW m9 (pR f)) (dC (pR e) (pR f)) True))))))))) (Lm I1 m8 e (λf=>Ln e f (aA (LD e f) (pL (Dr e) (Dr f)) (aA (jW (rR (lD e)) (rR (lD f))) (xS (zY e) (zY f)) (aA (Bu e.2.1 f.2.1) (oR (kI e)=oR (kI f)) (aA (fH (pR e) (pR f)) (dC (pR e) (pR f)) True)))))))))))))) (cF (kQ (kI e)) 1 (iC e.2.1) (λE G=>aA (kP (nO (kI e))) (dR (nO (kI e))) (∃(f:Nat×Nat×cA×QV×Sl×Sl×Bool×Sl×cu×MH×PH),aA (I f) (m7 f<m7 x) (aA (bY (lD e).2.1 f.2.1) (eP 4) (aA eM (eP 6) (aA (aZ (GI e) f.2.2.2.2.2.1) (jQ (IV e) f.2.2.2.2.2.2.1) (aA (eL 89) (aZ (kI e).1 (lJ f).1) (aA
 (bQ (kI e).1 (lJ f).1) (gX (bH (lD e).1 1)=bP f.1) (aA (pL (Dr e) (J2 f)) (jW (rR (lD e)) (rR f)) (aA (xS (zY e) (pG f.2.2.2.2.1)) (bV 58 1 (dN (nO (kI e)) (aM E))=oR (lJ f)) (aA (fH (pR e) (lT (lJ f))) (eH G (lT (lJ f))) True)))))))))))))))) (cF (kQ (lJ x)) 1 (nO (lJ x)) (λE G=>rE (λv4 a5=>Hy (λa6 l=>qC (λw1 P=>∃(F:Nat),aA (cE (cN (J2 x)) (gT E (cZ (rR x)))=cE (cN v4) (gT a6 (cZ w1))) (iK G a5 v4) (aA (Leaves G a6 l) (dK G P w1) (aA (AL a5 P=0) (1<=F) (aA (Sj a5 F l (cD P)) (gP F P<=8000000) (eD (mO (lJ x))/\∀(a7:Sl)(H:PH),bR G H (Rows H a7 (fN l P 0).1) (rE (fun
 v5 a8=>Hy (λa9 b=>qC (λw2 Q=>aA (cE (cN (J2 x)) (gC (kE (aM x.2.2.2.2.1)) (cZ (rR x)))=cE (cN v5) (gC (kE (aM a9)) (cZ w2))) (iK H a8 v5) (aA (H2 H a9 b) (dK H Q w2) (aA (Az (pY Q)) (eD (mO (lJ x))) (aA (AL a8 Q=0) (jG a8 b=0) (ccZ b Q/\∀(J:Sl)(R:PH),bR H R (Rows R J (eA b Q)) (aA (([]:dl)=[]) (eD (mO (lJ x))) (MX (λL t M b4=>aI (cJ a7 J=cJ L t) (Rows R L M) (Rows R t b4) (∀(O:Bool),iD O (M=b4)->K (As O) (mO (lJ x)) R))))))))))))))))))))))))))))))))))))))))))))))))))))))))))))))))
theorem OY.good{s q B}(c:eK s=0)(g:fR s q)(j:oD q<=24)(n:gP 4 q<=B)(e:B*60<=8000000){E}(f:E∈mU (qX s) q (eC q)):fR s E:=by
 obtain⟨D, -⟩:=Xc c g j n e;obtain⟨z,_,o,u⟩:=D.ex;rw[<-u]at f;obtain⟨d,y,rfl⟩:=mem_map.1 f;exact D.inv.good d (o d y)
theorem bEQ{st q}(c:jG s st=0)(d:StV st)(e:∀l∈st,l.length<=4)(g:fR s q):mG (eA st q)/\(eA st q).length<=8000000:=by
 have x:=Ex c d e aC (Prod.ext rfl g.kinds:aK s [] q=((aK s [] q).1,0)) g.bnd;exact⟨x.2.2.1.srt,x.2.2.2⟩
theorem a7X{t r}(h:Fi t r=true):r.all kG=true:=by
 rw[all_eq_true];intro v d;obtain⟨i,e⟩:=getElem?_of_mem d;have c:=(bm e);unfold Fi at h;rw[bz,all_eq_true]at h;have:=h.2 i (mem_range.2 c);unfold Cf at this
 grind
theorem ZE{st q}(n:B3 s)(c:Wk s st)(d:∀t∈cD q,0<=t/\t<s.tables.length):Sj s 4 (iX st q) (cD q):=by
 refine⟨by rw[iX,length_map],λj t l g e=>?_⟩;rw[iX,getElem?_map,g]at e;simp only[Option.map_some,bx]at e;subst e;obtain⟨o,u⟩:=d t (bo g);obtain⟨y,z⟩:=Zv (XD n c) c.val o u;refine⟨y,c.few _ z,λr f=>?_⟩;have E:=c.len;have C:s.tables[t.toNat]? =some s.tables[t.toNat]:=bn aC;have D:st[t.toNat]? =some (st.getD t.toNat []):=bg
 exact a7X ((c.ok _ _ _ C D).1 r f)
theorem H4.over{c ls L ts}(x:H4 ls L L.length)(h:Sj s c L ts):Sj s c ls ts:=by
 refine⟨by rw[x.len,h.len],λj t l e f=>?_⟩;obtain⟨y,g,d⟩:=x.at_ j l f;obtain⟨n,o,u⟩:=h.at_ j t y e g;exact⟨n.sub d,cj d.length_le o,λr z=>u r (d.subset z)⟩
def aVJ(st:List ct)(ts:cq)(ds:dc)(ls:List ct):=∀(j:Nat)(t:Int) E,j<ls.length->ts[j]? =some t->ds[j]? =some E->∀r∈st.getD t.toNat [],r∈eA st E->r∈ls.getD j []
theorem aVJ.snoc{st ts ds ls}(n:aVJ st ts ds ls){l t E}(u:ts[ls.length]? =some t)(y:ds[ls.length]? =some E)(h:∀r∈st.getD t.toNat [],r∈eA st E->r∈l):aVJ st ts ds (ls++[l]):=λj d E' z e f r g o=>by
 rw[getD_eq_getElem?_getD];by_cases c:j<ls.length
 .rw[getElem?_append_left c, <-getD_eq_getElem?_getD];exact n j d E' c e f r g o
 grind
theorem bHQ:cm 7 c6X:=by
 refine iU func7 ?_;rintro f0 m h K ⟨s,cs,rfl,hr,b1,ht,hK⟩;refine⟨cTJ,rfl,aE bGJ (aE bGQ (aE (aQX 1000) (aE asZ (aE RH (aE bnJ (aE Db (aE bkQ (aE bhZ (aE cZZ (aE bmZ (aE T8 aH))))))))))),aMJ s m h K,ax,?_⟩;dsimp only[aMJ,push_cast];refine⟨s,cs,260,rfl,hr,b1,aC,λcb m1 h1 f4 b5 o1 c1=>⟨cb,rfl,c1,λsc v m2 h2 P rS f5 o2 c2=>?_⟩⟩;obtain⟨a2,d1⟩:=QF P;have sub:∀{D},bO m D cb->Sub m D:=fun{D} om b o e=>by rw[om.other b (λe2=>bg)];exact e
 refine⟨cb,v,cH,sc,[],3,rfl,c2,rS,a2,d1,nG _,ay,ay,aC,aC,az,λa c m3 h3 b6 rq qw fq hq o3 c3=>⟨cb,v,sc,rfl,c3,rS.mono b6,P,λst J m7 h7 b7 H good o7 c0=>?_⟩⟩;have fq:DO 3 c:=fq;obtain⟨_,_,a3,qk⟩:=BP hq;have qc:=Ie a3;have qb:gP 4 c<=65536:=cj (uG.b fq) az;have gq:fR sc c:=⟨qk,VM (s:=sc) (ps:=[]) ay c qk qw,aC⟩
 have nq:OY sc c:=Te (B:=65536) a2 gq qc qb az;have F:=XD P good;have om:=((o1.trans o2).trans o3).trans o7;have d2:=ht.new b5 om;have a4:=rS.mono (b6.trans b7);have Q:=rq.mono b7;refine⟨v,J,a,sc,st,c,rfl,a4,H,Q,a3,d2,λ_=>nq,F,good.few,λl h8 R hl=>⟨a,c,rfl,Q.mono R,aC,λS h9 I b8=>?_⟩⟩;have hl:=hl hq;have b9:=jT (wd:=qX sc) c (eC c) gq;have c':=Dm gq.k;have Y:∀E∈mU (qX sc) c (eC c),mG (eA st E):=λE hE=>(bEQ F H.val good.few (OY.good (B:=65536) a2 gq qc qb az hE)).1;have Z:=fun(ls:List ct) hp hn=>ceZ (ls:=ls) F H.val good.few gq hp hn;generalize mU (qX sc) c (eC c)=ds at hl b9 Y Z;have c4:=bN.slen hl;rw[length_map]at c4;have d3:=b8.slen;have d4:=E6 c;have f6:=OB st c;have e8:=bN.slen H.lea;have e9:=good.len;have d5:=ZE P good c';refine aD (λe=>by rw[hq]at e;cases e) (λ_=>aD (λe=>by rw[c4,d3,b9]at e;simp at e) (λ_=>⟨cb,4,rfl,aC,aC,c0.mono (R.trans I),λT c5 d6 d7=>?_⟩));refine⟨λz=>z.1<=(cD c).length/\∃L D y,z.2=(cb,v,a,J,l,T,S,L,D,y)/\bB D y cb/\bO m7 D cb/\PH.le h9 y/\∃ls,Eo y L ls/\H4 ls (iX st c) z.1/\aVJ st (cD c) ds ls,λz=>(cD c).length-z.1,⟨(0,cb,v,a,J,l,T,S,[],c5,h9),⟨ay,[],c5,h9,rfl,d7,d6,.refl _,[],Eo.nil h9,⟨rfl,λj l h=>by simp at h⟩,λj t E hj=>by simp at hj⟩,MT⟩,?_⟩;rintro⟨i,z⟩ ⟨hi,L,D,y,e,cx,ox,lex,ls,hu,hp,hn⟩;dsimp only at hi e hp;subst e;dsimp only;have f7:=hu.len;have a':=hp.len;refine aF (λf8=>?_) (λf9=>?_)
 .have a5:i<(cD c).length:=by omega
  have et:(cD c)[i]? =some ((cD c)[i]'a5):=bn a5;have ed:ds[i]? =some (ds[i]'(by omega)):=bn aC;have c6:=Y _ (bo ed);generalize (cD c)[i]'a5=t at et;generalize ds[i]'(by omega)=E at ed c6;obtain⟨t0,t1⟩:=c' t (bo et);have eL:=J5 (st:=st) et;have c7:st[t.toNat]? =some (st.getD t.toNat []):=by rw[getD_eq_getElem?_getD,bn aC];rfl
  have c8:=good.few _ (bo c7);obtain⟨b,o,ea,rd⟩:=b8.at et;obtain⟨b2,o2,u,d8,d9,M⟩:=bN.at H.lea c7;have a6:=(R.trans I).trans lex;have a0:=bN.slen M;obtain⟨b3,e',ue,e0,e1,a7⟩:=bN.at hl (i:=i) (x:=eA st E) (by rw[getElem?_map,ed];rfl);have a7:=bN.mono a7 (I.trans lex) λr t hv=>bS.mono hv (I.trans lex);have M:=bN.mono M a6 λr t hv=>bS.mono hv a6;generalize c9:st.getD t.toNat []=G at eL c8 a0 M;refine⟨b,o,ea,aC,aC,t,.imm (bk (rd.mono lex)),b2,o2,d8,t0,aC,u,.imm (by simpa[eS]using d9.mono a6),λz=>z.1<=G.length/\∃rs part C,z.2=(rs,u,i,cb,v,a,J,l,T,S,L,C,y)/\bB C y cb/\bO D C cb/\fA y rs part/\part.Sublist (G.take z.1)/\∀r∈G.take z.1,r∈eA st E->r∈part,λz=>G.length-z.1,⟨(0,[],u,i,cb,v,a,J,l,T,S,L,D,y),⟨ay,[],[],D,rfl,cx,bO.refl _ _,fA.nil y,ay,ay⟩,MT⟩,?_⟩;rintro⟨j,z⟩ ⟨hj,rs,part,C,e,cy,oy,U,f,O⟩;dsimp only at hj e f O;subst e;dsimp only;have g':=U.len;have d':=f.length_le;rw[length_take]at d';refine aF (λd0=>?_) (λf'=>?_)
  .obtain⟨r,a8⟩:=fF a0 d0;obtain⟨b4,o4,ur,e3,e4,hv⟩:=bN.at M a8;have V:G.take (j+1)=G.take j++[r]:=by rw[cd,a8];rfl
   have g0:=(bm a8)
   have app:∀n,bB n y cb->bO D n cb->(λz:Nat×cu×Sl×Nat×Nat×cA×QV×Sl×Sl×Bool×Sl×cu×MH×PH=>z.1<=G.length/\∃rs part C,z.2=(rs,u,i,cb,v,a,J,l,T,S,L,C,y)/\bB C y cb/\bO D C cb/\fA y rs part/\part.Sublist (G.take z.1)/\∀r∈G.take z.1,r∈eA st E->r∈part) (j+1,rs++[ur],u,i,cb,v,a,J,l,T,S,L,n,y):=λn a9 b'=>⟨bj,rs++[ur],part++[r],n,rfl,a9,b',U.snoc hv,by dsimp only;rw[V];exact f.append (.refl _),λx g he=>by
    dsimp only at g;rw[V,mem_append]at g;rcases g with g|g
    .exact mem_append_left _ (O x g he)
    .exact mem_append_right _ g⟩
   have skip:∀n,bB n y cb->bO D n cb->r∉eA st E->(λz:Nat×cu×Sl×Nat×Nat×cA×QV×Sl×Sl×Bool×Sl×cu×MH×PH=>z.1<=G.length/\∃rs part C,z.2=(rs,u,i,cb,v,a,J,l,T,S,L,C,y)/\bB C y cb/\bO D C cb/\fA y rs part/\part.Sublist (G.take z.1)/\∀r∈G.take z.1,r∈eA st E->r∈part) (j+1,rs,u,i,cb,v,a,J,l,T,S,L,n,y):=λn a9 b' W=>⟨bj,rs,part,n,rfl,a9,b',U,by dsimp only;rw[V];exact f.trans (sublist_append_left _ _),λx g he=>by
    dsimp only at g;rw[V,mem_append,mem_singleton]at g;rcases g with g|rfl
    .exact O x g he
    .exact absurd he W⟩
   have big:((rs.map eS).length+1)*24<=140737488355328/\(rs.map eS).length<140737488355328:=bd
   have mu:G.length-(j+1)<G.length-j:=by omega
   rw[iY aC];refine⟨b4,o4,e3,aC,aC,ur,.imm (by simpa[eS]using e4),b3,e',e0,aC,aC,ue,.imm (by simpa[eS]using e1.mono (I.trans lex)),ue,ur,eA st E,r,rfl,a7,hv,c6,aD (λ_=>?_) (λW=>aD (λ_=>⟨cb,2,rfl,aC,aC,cy,λd mz oz cz=>aD (λ_=>?_) (λ_=>?_)⟩) (λ_=>?_))⟩
   .exact⟨big.1,big.2,_,app C cy oy,mu,by rw[bu];exact MT⟩
   .exact⟨big.1,big.2,_,app mz cz (oy.trans oz),mu,by rw[bu];exact MT⟩
   .exact⟨_,skip mz cz (oy.trans oz) (PY.1 W),mu,MT⟩
   .exact⟨_,skip C cy oy (PY.1 W),mu,MT⟩
  .rw[bt aC]at f O;intro sp hy X e5;have e6:Rows hy sp part:=(U.mono X).rows e5 aC;rw[iY aC];refine⟨bd,bd,(i+1,cb,v,a,J,l,T,S,L++[sp],C,hy),⟨bj,L++[sp],C,hy,rfl,cy.mono X,ox.trans oy,lex.trans X,ls++[part],(hu.mono X).snoc e6,hp.snoc eL f,hn.snoc (by rw[a'];exact et) (by rw[a'];exact ed) (by rw[c9];exact O)⟩,by show(cD c).length-(i+1)<(cD c).length-i;omega,?_⟩;rw[bu];exact MT
 .have a5:i=(iX st c).length:=by omega
  subst a5;have oX:=om.trans ox;have b0:=ht.new b5 oX;have lx:PH.le h7 y:=(R.trans I).trans lex;intro s3 g1 f1 e7;refine⟨v,sc,s3,ls,a,c,4,rfl,a4.mono (lx.trans f1),(hu.mono f1).leaves e7 aC,Q.mono (lx.trans f1),hq,aC,hp.over d5,aC,b0,λt1 g2 f2 q1=>?_⟩;have l2:=lx.trans (f1.trans f2);refine⟨v,sc,J,st,a,c,rfl,a4.mono l2,H.mono l2,Q.mono l2,a3,b0,hq,F,⟨4,aC,good.few,gq.bnd⟩,λt2 g3 f3 q2=>?_⟩;have a1:(fN ls c 0).1=eA st c:=Z ls hp λj t E h1 h2 r hr he=>hn j t E (by have:=(bm h1);omega) h1 h2 r hr he;refine⟨rfl,b0,?_⟩;have r1:Rows g3 t1 (fN ls c 0).1:=bN.mono q1 f3 λr t hv=>bS.mono hv f3
  first
   |exact⟨t1,t2,_,_,rfl,r1,q2,λr hr=>by rw[hr.2 a1];exact hK _ _ (sub oX)⟩
   |refine aD (λ_=>?_) (λe=>by simp at e)
    exact⟨t1,t2,_,_,rfl,r1,q2,λr hr=>by rw[hr.2 a1];exact hK _ _ (sub oX)⟩
end Go.Ps
