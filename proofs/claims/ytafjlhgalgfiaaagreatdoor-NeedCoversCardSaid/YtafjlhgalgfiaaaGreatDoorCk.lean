/- Own work. -/
import Derived.Test.YtafjlhgalgfiaaaGreatDoorCj
set_option linter.unusedVariables false
set_option linter.unusedSimpArgs false
namespace Go.Ps
open Go Go.Vc Go.Proofs List Tryz
variable{K:bo}{m:MH}{h:PH}{s:jQ}{ps:bn}{ts:cg}{cb:Nat}{sc:bZ}{v:QV}{t:Step}{p:Pred}{l:bn}{i:Nat}{N:Nat}{m':MH}{h':PH}{co:bn}{gr:bn}{od:bz}{ta:Int}{li:Int}{xs:List bt}{sz:Nat}{ks:List bn}{rs:bn}{r:Sl}{a:bn}{b:Nat}
def Ug:Vc.Spec:=λd m h K=>∃sc e v s c q,d=[aS sc,aSt e,aQ v]/\iF h s sc/\GK h e c/\dG h q v/\nI q=true/\eA m/\((fI s [] q).2=0->aKX s q)/\kJ s c=0/\(∀l∈c,l.length<=4)/\
 ∀f h',PH.le h h'->((fI s [] q).2=0->Leaves h' f ((qU (yF s) q (fX q)).map (nW c)))->K (.tup [cS f,cI (fI s [] q).2]) m h'
theorem Z7:bm 18 Ug:=HD bbZ λ_ m h K⟨sc,u,v,s,f,q,e,y,c,z,g,A,d,j,n,o⟩=>⟨sc,u,v,s,f,q,e,y,c,z,g,A,λh=>(d h).ok h,
 λh=>⟨(d h).valid,λ_=>let x:=(d h).run f j c.val n;⟨x.1,x.2.1⟩⟩,λh h' le=>o cE h' le (λe=>(h e).elim),λ_ h=>(h j).elim,λh _ B h' le C=>by
  have:=o B h' le (λ_=>by rw[<-((d h).run f j c.val n).2.2];exact C)
  grind⟩
def b2Z:Vc.Spec:=λc m h K=>c=[]/\eA m/\K (cB true) m h
def Q3(m:MH)(h:PH)(K:bo):Prop:=
  bY h 2 (lY (rQ (ByteArray.mk (Array.mk KS)) 4) (rQ (ByteArray.mk (Array.mk (fT 112 (fT 114 (fT 111 (fT 106 KA)))))) 4)) (λs h1=>bY h1 2 (lY (rQ (ByteArray.mk (Array.mk KS)) 4) (rQ (ByteArray.mk (Array.mk (fT 112 (fT 114 (fT 111 (fT 106 KA)))))) 4)) (λs1 h2=>∃(n:Int),rR 1 n/\∃(D:Int),rR 7 D/\∃(E:Int),rR 2 E/\∃(F:Int),rR 7 F/\∃(G:Int),rR 3 G/\∃(H:Int),rR 7 H/\bY h2 3 (lY (AK n) (AK D)) (λu h3=>bY h3 3 (lY (AK E) (AK F)) (λI h4=>bY h4 3 (lY (AK G) (AK H)) (λs4 h5=>∃(J:Int),rR 9 J/\∃(L:Int),rR 7 L/\bY h5 3 (lY (AK J) (AK L)) (λs5 h6=>bY h6 1 (aR u::lY (aR I) (aR s4)) (λs6 h7=>bY h7 1
 (lY (aR u) (aR s5)) (λs7 h8=>bY h8 21 (lY (xK 1 (tQ oM (tP oM fW))) (Cd 1)) (λs8 h9=>bY h9 5 (lY (bF (Value.string (ByteArray.mk (Array.mk (fT 116 (fT 97 (fT 115 (fT 107 (xU 115)))))))) (dP s) (bF (fV 1) oM fW)) (bF (Value.string (ByteArray.mk (Array.mk (fT 97 (fT 114 (fT 99 (fT 104 (Ik 105 118 101 100)))))))) (dP s1) (bF (fV 1) oM fW))) (λM a=>bY a 1 (lY (aR s6) (aR s7)) (λa1 a2=>bY a2 1 (lT (bB 1)) (λO a4=>bY a4 21 (lT (xK 7 (tQ oM (tP oM (aR s8))))) (λP z=>Fp (λQ R=>∃(v:QV)(d:jQ),Pa (λb q=>aA (cC (jX cL (dP M)) (eF (aR a1) (kQ (xK 9 (tQ oM (bF oM (dP O) (bF oM (fV 1) (aR P)))))))=cC (cK Q) (eF (aR R)
 (cA v))) (iF z d Q) (aA (GK z R b) (dG z q v) (aA (iE (nI q)) (eA m) (aA (C5 d q=0->aKX d q) (kJ d b=0) ((∀(l:br),List.Mem l b->l.length<=4)/\∀(f:Sl)(g:PH),bQ z g (C5 d q=0->Leaves g f (List.map (nW b) (qU (yF d) q (fX q)))) (O5 (λS T U A=>aA (eF (jX cL (dP M)) (kQ (xK 9 (tQ oM (bF oM (dP O) (bF oM (fV 1) (aR P))))))=eF (cK S) (cA T)) (iF g U S) (aA (dG g A T) (C5 U A=0) (∀(B:QV)(e:PH),bQ g e (dG e (fX A) B) (gX (B.op=opE A) (C5 d q==0) (eU B.op 1 (eU (aH f) 2 (bJ (λV o=>aI (aW f.a V o) ((0:Int)<=0) (0<aH f) (∃(y:Sl),aK m e V (o+0) (aR y)/\bY e 1 (lY (aR u) (aR I)) (λb7 j=>Qc (λW
 t c X=>aI (cJ y b7=cJ W t) (Rows j W c) (Rows j t X) (∀(r:Bool),gX (iE r↔c=X) r (bJ (λY Z=>aI (aW f.a Y Z) ((0:Int)<=1) (1<aH f) (∃(y1:Sl),aK m j Y (Z+1) (aR y1)/\bY j 1 (lT (aR u)) (λc3 C=>Qc (λc5 t1 c6 c7=>aI (cJ y1 c3=cJ c5 t1) (Rows C c5 c6) (Rows C t1 c7) (∀(r1:Bool),(iE r1↔c6=c7)->K (Af r1) m C)))))) (K bH m j))))))) (K bH m e)) (K bH m e)) (K bH m e)))))))))))))))))))))))))
def nV(n:Int):VV:=⟨4,n,⟨#[]⟩⟩
def Sq:List pS:=[⟨⟨⟨[105,100]⟩⟩,4⟩,⟨⟨⟨[112,114,111,106,101,99,116]⟩⟩,4⟩]
def nT1:Am:=⟨⟨⟨[116,97,115,107,115]⟩⟩,Sq,1,[],[]⟩
def nT2:Am:=⟨⟨⟨[97,114,99,104,105,118,101,100]⟩⟩,Sq,1,[],[]⟩
def nS:jQ:=⟨0,[nT1,nT2]⟩
def nR1:br:=[[nV 1,nV 7],[nV 2,nV 7],[nV 3,nV 7]]
def nR2:br:=[[nV 1,nV 7],[nV 9,nV 7]]
def Y7:List br:=[nR1,nR2]
def Ai(t:Int):Query:=.mk 1 t fO [] [] [] [] 0 []
def nM:Query:=.mk 7 0 fO [] [] [] [] 0 [Ai 0,Ai 1]
def nQ:Query:=.mk 9 0 fO [] [] [1] [] 1 [nM]
theorem bsX:eH nS=0:=bnQ az (λt c=>by simp[nS]at c;rcases c with rfl|rfl<;>exact⟨az,rfl,rfl⟩) az az (by
 refine Bn ⟨⟨?_,?_,?_,?_,Bn ⟨⟨?_,?_,?_⟩,⟨?_,?_,?_⟩,trivial⟩⟩,⟨?_,?_,?_,?_,Bn ⟨⟨?_,?_,?_⟩,⟨?_,?_,?_⟩,trivial⟩⟩,trivial⟩
 all_goals first|rfl|(simp[nT1,nT2,Sq];done)|decide)
theorem NO{t:Int}(c:0<=t)(d:t<2):aL nS [] (Ai t)=([4,4],0):=by
 have e:jA nS t=[4,4]:=by
  have:t=0\/t=1:=by omega
  rcases this with rfl|rfl<;>rfl
 have:=Qq (s:=nS) (ps:=[]) (t:=t) c (by show t<2;exact d) bg;rw[e]at this;exact this
theorem bsJ:aL nS [] nM=([4,4],0):=by
 unfold nM;rw[aUX az (NO (t:=0) az az) (NO (t:=1) az az)];unfold eK;rw[if_neg (by simp[arity,cR])];dsimp only;rw[if_neg az,if_neg az,if_neg az,if_neg az,if_neg az,if_neg az,if_neg az,if_pos rfl,Lc az]
theorem Qj:aL nS [] nQ=([4,4],0):=by
 unfold nQ;rw[Mm az bsJ];unfold eK;rw[if_neg (by simp[arity,cR])];dsimp only;rw[if_neg az,if_neg az,if_neg az,if_neg az,if_neg az,if_pos rfl,if_pos ⟨Bn ⟨⟨az,ay⟩,trivial⟩,Bn trivial,az,az,az⟩,Lc az]
theorem cNZ:fI nS [] nQ=([4,4],0):=by
 unfold fI;rw[if_pos bsX,if_pos (by rfl),if_pos (by rfl),Qj]
theorem bsQ(t:Int):QW (Ai t):=J2 t
theorem cNX:QW nQ:=Ma.2 ⟨qG,λa c=>by
 simp at c;subst c;exact Ma.2 ⟨qG,λb d=>by simp at d;rcases d with rfl|rfl<;>exact bsQ _⟩⟩
theorem b6Z:gO nS nQ:=⟨by rw[Qj],U1 (s:=nS) (ps:=[]) ay nQ (by rw[Qj]) cNX,az⟩
theorem b6X:aKX nS nQ:=aTX (B:=8) bsX b6Z az az az
theorem cGQ:kJ nS Y7=0:=by
 unfold kJ;rw[if_neg (by simp[bsX]),if_neg az,if_neg az,if_pos];have j:∀n,BY 1 4 0 (nV n)=true/\BY 1 4 1 (nV n)=true:=λn=>by simp[BY,nV,bkJ]
 have y:∀t,t=nT1\/t=nT2->∀a b,EO t [nV a,nV b]=true:=λt e a b=>Hm.2 ⟨by rcases e with rfl|rfl<;>rfl,λi o=>by
  have d:t.key=1:=by rcases e with rfl|rfl<;>rfl
  have c:t.columns=Sq:=by rcases e with rfl|rfl<;>rfl
  rw[d,c]
  match i,o with
  |0,_=>exact(j _).1
  |1,_=>exact(j _).2
  |i+2,o=>grind⟩
 intro i t l e f
 match i,e,f with
 |0,e,f=>
  simp[nS]at e;simp[Y7]at f;subst e f;refine⟨λr g=>?_,λi r u d c=>?_⟩
  .simp[nR1]at g
   grind
  .match i,d,c with
   |0,d,c=>simp[nR1]at d c;subst d c;decide
   |1,d,c=>simp[nR1]at d c;subst d c;decide
   |i+2,d,c=>simp[nR1]at c
 |1,e,f=>
  simp[nS]at e;simp[Y7]at f;subst e f;refine⟨λr g=>?_,λi r u d c=>?_⟩
  .simp[nR2]at g
   grind
  .match i,d,c with
   |0,d,c=>simp[nR2]at d c;subst d c;decide
   |i+1,d,c=>simp[nR2]at c
 |i+2,e,f=>simp[nS]at e
theorem cGJ(c:Query->Int)(D:Query):qU c nQ D=[Gy (mR (Ai 0) D (uQ [1])) nM [1] [] 1,kP (kP (Ai 1) (Gy (mR (Ai 0) D (uQ [1])) nM [1] [] 1)) (Ai 0)]:=by
 have d:fX nM=Ai 0:=by rfl
 have e:fX (Ai 1)=Ai 1:=by rfl
 have s:∀t E,qU c (Ai t) E=[E]:=λt E=>by unfold Ai;rw[qU.eq_def];grind
 have m:∀E,qU c nM E=qU c (Ai 0) E++qU c (Ai 1) (kP (kP (fX (Ai 1)) E) (Ai 0)):=λE=>by
  unfold nM;rw[qU.eq_def];grind
 unfold nQ;rw[qU.eq_def]
 grind
theorem bsZ:fX nQ=Ai 0:=by rfl
theorem cGX:(qU (yF nS) nQ (fX nQ)).map (nW Y7)=[[[nV 1,nV 7],[nV 2,nV 7]],[[nV 1,nV 7]]]:=by
 rw[cGJ,bsZ];rfl
theorem cGZ:opE nQ=1:=by rw[opE,bsZ];rfl
theorem Ow{s:Sl}{l:ca}(r:dC h s 3 (l.map VV.enc))(d:l.length<=1000):bS h s l:=⟨⟨l,r,rfl,λi x c=>⟨x,c,rfl⟩⟩,aC⟩
theorem Ox{h:PH}{s:Sl}{us:bx}{l:br}(r:dC h s 1 (us.map eS))(c:us.length=l.length)(hx:∀(i:Nat)(x:ca),l[i]? =some x->∃u,us[i]? =some u/\bS h u x)(d:l.length<=1000):Rows h s l:=⟨⟨us,r,c.symm,hx⟩,aC⟩
theorem bbJ:bm 17 b2Z:=by
 refine EN func17 ?_;rintro a2 m h K ⟨rfl,ht,hK⟩;refine⟨dE [(56,cSQ),(18,Ug),(29,VL),(16,cwJ)] [] [] [] false,rfl,aE aw (aE Z7 (aE SR (aE bcX aG))),Q3 m h (lR h K),ax,?_⟩;show Q3 m h (lR h K);dsimp only[Q3,push_cast];intro c1 h1 G r1 c2 h2 H r2;refine⟨1,rfl,7,rfl,2,rfl,7,rfl,3,rfl,7,rfl,λz h3 I r3 J h4 L r4 rc h5 M r5=>⟨9,rfl,7,rfl,?_⟩⟩;intro rd h6 O r6 ta h7 P r7 tb h8 Q r8 qs h9 R r9 tabs ha S xa A hb T xb gr hc U xc qm c B xd;have lc:=U.trans B;have lb:=T.trans lc;have la:=S.trans lb;have l9:=R.trans la;have l8:=Q.trans l9;have l7:=P.trans l8;have l6:=O.trans l7;have l5:=M.trans l6;have l4:=L.trans l5;have l3:=I.trans l4;have l2:=H.trans l3;have va:bS c z [nV 1,nV 7]:=Ow (r3.mono l4) ay;have vb:bS c J [nV 2,nV 7]:=Ow (r4.mono l5) ay;have vc:bS c rc [nV 3,nV 7]:=Ow (r5.mono l6) ay;have vd:bS c rd [nV 9,nV 7]:=Ow (r6.mono l7) ay
 have rq:dG c nQ ⟨9,0,jG,cE,cE,gr,cE,1,qm⟩:=tU.rep ⟨rfl,rfl,EA c,mY c,vB c,⟨xc.mono B,ay⟩,u9 c,rfl,EH (v:=⟨7,0,jG,cE,cE,cE,cE,0,qs⟩) xd (tU.rep ⟨rfl,rfl,EA c,mY c,vB c,mY c,u9 c,rfl,⟨⟨[⟨1,0,jG,cE,cE,cE,cE,0,cE⟩,⟨1,1,jG,cE,cE,cE,cE,0,cE⟩],r9.mono la,rfl,λi x e=>by
  match i,e with
  |0,e=>simp at e;subst e;exact⟨_,rfl,EG c 0⟩
  |1,e=>simp at e;subst e;exact⟨_,rfl,EG c 1⟩
  |i+2,e=>simp at e⟩,ay⟩⟩)⟩
 have rS:iF c nS ⟨0,tabs⟩:=⟨rfl,⟨⟨[⟨nT1.name,c1,1,cE,cE⟩,⟨nT2.name,c2,1,cE,cE⟩],xa.mono lb,rfl,λi x e=>by
  match i,e with
  |0,e=>simp[nS]at e;subst e;exact⟨_,rfl,⟨rfl,II (l:=Sq) (r1.mono l2) az,rfl,bL.nil _ _ _ _,bL.nil _ _ _ _⟩⟩
  |1,e=>simp[nS]at e;subst e;exact⟨_,rfl,⟨rfl,II (l:=Sq) (r2.mono l3) az,rfl,bL.nil _ _ _ _,bL.nil _ _ _ _⟩⟩
  |i+2,e=>simp[nS]at e⟩,by simp[nS]⟩⟩
 have t1:Rows c ta nR1:=Ox (us:=[z,J,rc]) (r7.mono l8) rfl (λi x e=>by
  match i,e with
  |0,e=>simp[nR1]at e;grind
  |1,e=>simp[nR1]at e;grind
  |2,e=>simp[nR1]at e;grind
  |i+3,e=>simp[nR1]at e) az
 have t2:Rows c tb nR2:=Ox (us:=[z,rd]) (r8.mono l9) rfl (λi x e=>by
  match i,e with
  |0,e=>simp[nR2]at e;grind
  |1,e=>simp[nR2]at e;grind
  |i+2,e=>simp[nR2]at e) az
 have V:GK c A Y7:=⟨⟨⟨[ta,tb],xb.mono lc,rfl,λi x e=>by
  match i,e with
  |0,e=>simp[Y7]at e;grind
  |1,e=>simp[Y7]at e;grind
  |i+2,e=>simp[Y7]at e⟩,by simp[Y7]⟩,by simp[Y7],λl f r C v F=>by
   have:∃n,v=nV n:=by
    simp[Y7]at f;rcases f with rfl|rfl<;>simp[nR1,nR2]at C
    .grind
    grind
   have hn:uR v.kind/\uR v.int:=by
    simp[Y7]at f;rcases f with rfl|rfl<;>simp[nR1,nR2]at C
    .rcases C with rfl|rfl|rfl<;>simp at F<;>rcases F with rfl|rfl<;>exact⟨by constructor<;>decide,by constructor<;>decide⟩
    .rcases C with rfl|rfl<;>simp at F<;>rcases F with rfl|rfl<;>exact⟨by constructor<;>decide,by constructor<;>decide⟩
   exact hn⟩
 have D:(fI nS [] nQ).2=0:=by rw[cNZ]
 refine⟨⟨0,tabs⟩,A,⟨9,0,jG,cE,cE,gr,cE,1,qm⟩,nS,Y7,nQ,rfl,rS,V,rq,rfl,ht,λ_=>b6X,cGQ,λl f=>by
  have f:l∈Y7:=f;simp[Y7]at f;rcases f with rfl|rfl<;>decide,λs' he o f=>⟨⟨0,tabs⟩,⟨9,0,jG,cE,cE,gr,cE,1,qm⟩,nS,nQ,rfl,rS.mono o,rq.mono o,D,λv' hf g _ ho=>?_⟩⟩
 have f:=f D;rw[cGX]at f;have f:=bL.mono f g λ_ _ x=>bL.mono x g λ_ _ y=>bS.mono y g;have E:=bL.slen f;have E:s'.len=2:=E;obtain⟨b1,o1,u1,W,X,Y⟩:=bL.at f (i:=0) rfl;obtain⟨b2,o2,u2,Z,a',a0⟩:=bL.at f (i:=1) rfl;have j:=o.trans g
 refine aD (λ_=>aD (λ_=>aD (λ_=>⟨b1,o1,W,aC,aC,u1,.imm (by simpa[eS]using X),λs1 hg d rg=>⟨u1,s1,[[nV 1,nV 7],[nV 2,nV 7]],[[nV 1,nV 7],[nV 2,nV 7]],rfl,bL.mono Y d λ_ _ y=>bS.mono y d,Ox (us:=[z,J]) rg rfl (λi x e=>by
  match i,e with
  |0,e=>simp at e;subst e;exact⟨_,rfl,va.mono (j.trans d)⟩
  |1,e=>simp at e;subst e;exact⟨_,rfl,vb.mono (j.trans d)⟩
  |i+2,e=>simp at e) az,λr C=>aD (λ_=>⟨b2,o2,Z,aC,aC,u2,.imm (by simpa[eS]using a'.mono d),λs2 hh u rh=>⟨u2,s2,[[nV 1,nV 7]],[[nV 1,nV 7]],rfl,bL.mono a0 (d.trans u) λ_ _ y=>bS.mono y (d.trans u),Ox (us:=[z]) rh rfl (λi x e=>by
   match i,e with
   |0,e=>simp at e;subst e;exact⟨_,rfl,va.mono ((j.trans d).trans u)⟩
   |i+1,e=>simp at e) az,λr2 a1=>?_⟩⟩) (λe=>?_)⟩⟩) (λe=>?_)) (λe=>?_)) (λe=>?_)
 .rw[a1.2 rfl];exact .out (Sub.refl m) (((((G.trans l2).trans o).trans g).trans d).trans u) hK
 .grind
 .grind
 .rw[ho,cGZ]at e;cases e
 .grind
def cQX(gr:bn)(od:bz)(b:Rel)(x:ca):Nat:=b.countP λy=>JX gr x y&&decide (lE od y x<0)
theorem cLX{ls:dm}{op:Int}{w:Pred}{on:bu}{a:Query}{k:Nat}(h:op≠1):(iO ls (.mk op ta w co on gr od li [a]) k).1=GH op (.mk op ta w co on gr od li [a]) [(iO ls a k).1]:=by
 rw[iO,if_neg h,fU,fU]
theorem cLQ{ls:dm}{op:Int}{w:Pred}{on:bu}{a b:Query}{k:Nat}(h:op≠1):(iO ls (.mk op ta w co on gr od li [a,b]) k).1=GH op (.mk op ta w co on gr od li [a,b]) [(iO ls a k).1,(iO ls b (iO ls a k).2).1]:=by
 rw[iO,if_neg h,fU,fU,fU]
theorem bmZ{st:dm}{op:Int}{w:Pred}{on:bu}{a:Query}(h:op≠1):nW st (.mk op ta w co on gr od li [a])=GH op (.mk op ta w co on gr od li [a]) [nW st a]:=by
 rw[nW,if_neg h,DA,DA]
theorem UD{st:dm}{op:Int}{w:Pred}{on:bu}{a b:Query}(h:op≠1):nW st (.mk op ta w co on gr od li [a,b])=GH op (.mk op ta w co on gr od li [a,b]) [nW st a,nW st b]:=by
 rw[nW,if_neg h,DA,DA,DA]
def cSZ(on:bu)(y z:ca):Prop:=wD (kE on) y=true/\(wD (fM on) z&&agree on y z)=true
section
variable{ta:Int}{w:Pred}{co:bn}{on:bu}{gr:bn}{od:bz}{li:Int}{zs:ce}{A B:Rel}{x:ca}
theorem op2:x∈GH 2 (.mk 2 ta w co on gr od li zs) [A]↔x∈A/\nP x w=true:=by
 rw[GH,if_pos rfl];exact mem_filter
theorem op3:x∈GH 3 (.mk 3 ta w co on gr od li zs) [A]↔∃r∈A,pick r co=x:=by
 rw[GH,if_neg az,if_pos rfl];show x∈Eb _↔_;rw[ED,mem_map];rfl
theorem op4:x∈GH 4 (.mk 4 ta w co on gr od li zs) [A,B]↔∃y∈A,∃z∈B,cSZ on y z/\y++z=x:=by
 rw[GH,if_neg az,if_neg az,if_pos rfl];show x∈A.flatMap (kF on B)↔_;rw[mem_flatMap];refine exists_congr λy=>and_congr_right λc=>?_;unfold kF;split
 .rename_i h;rw[mem_map];refine exists_congr λz=>?_;rw[mem_filter];exact⟨λe=>⟨e.1.1,⟨h,e.1.2⟩,e.2⟩,λe=>⟨⟨e.1,e.2.1.2⟩,e.2.2⟩⟩
 .rename_i h;exact⟨λe=>by simp at e,λ⟨z,_,e,_⟩=>absurd e.1 h⟩
theorem op5:x∈GH 5 (.mk 5 ta w co on gr od li zs) [A,B]↔x∈A/\∃y∈B,agree on x y=true:=by
 rw[GH,if_neg az,if_neg az,if_neg az,if_pos rfl];show x∈A.filter (λx=>B.any λy=>agree on x y)↔_
 grind
theorem op6:x∈GH 6 (.mk 6 ta w co on gr od li zs) [A,B]↔x∈A\/x∈B:=by
 simp only[GH,show((6:Int)=2)=False by simp,show((6:Int)=3)=False by simp,show((6:Int)=4)=False by simp,show((6:Int)=5)=False by simp,if_false,if_true];exact b6J
theorem op7:x∈GH 7 (.mk 7 ta w co on gr od li zs) [A,B]↔x∈A/\x∉B:=by
 simp only[GH,show((7:Int)=2)=False by simp,show((7:Int)=3)=False by simp,show((7:Int)=4)=False by simp,show((7:Int)=5)=False by simp,show((7:Int)=6)=False by simp,if_false,if_true];exact b7Q
theorem op8:x∈GH 8 (.mk 8 ta w co on gr od li zs) [A,B]↔x∈A/\x∈B:=by
 simp only[GH,show((8:Int)=2)=False by simp,show((8:Int)=3)=False by simp,show((8:Int)=4)=False by simp,show((8:Int)=5)=False by simp,show((8:Int)=6)=False by simp,show((8:Int)=7)=False by simp,if_false,if_true];exact b7X
theorem op9:x∈GH 9 (.mk 9 ta w co on gr od li zs) [A]↔x∈A/\((cQX gr od A x:Nat):Int)<li:=by
 simp only[GH,show((9:Int)=2)=False by simp,show((9:Int)=3)=False by simp,show((9:Int)=4)=False by simp,show((9:Int)=5)=False by simp,show((9:Int)=6)=False by simp,show((9:Int)=7)=False by simp,show((9:Int)=8)=False by simp,if_false,if_true];show x∈z8 gr od li A A↔_;rw[z8,mem_filter,decide_eq_true_eq];rfl
theorem cVJ:x∈GH 10 (.mk 10 ta w co on gr od li zs) [A,B]↔x∈A/\((cQX gr od B x:Nat):Int)<li:=by
 simp only[GH,show((10:Int)=2)=False by simp,show((10:Int)=3)=False by simp,show((10:Int)=4)=False by simp,show((10:Int)=5)=False by simp,show((10:Int)=6)=False by simp,show((10:Int)=7)=False by simp,show((10:Int)=8)=False by simp,show((10:Int)=9)=False by simp,if_false];show x∈z8 gr od li A B↔_;rw[z8,mem_filter,decide_eq_true_eq];rfl
end
theorem gO.cases{op:Int}{w:Pred}{on:bu}{args:ce}(g:gO s (.mk op ta w co on gr od li args)):
 (op=1/\args=[])\/(∃a,args=[a]/\gO s a/\(op=2\/op=3\/op=9))\/(∃a b,args=[a,b]/\gO s a/\gO s b/\(op=4\/op=5\/op=6\/op=7\/op=8\/op=10)):=by
 obtain⟨n,e,c,f⟩:=g.node;have d:op=1\/(op=2\/op=3\/op=9)\/(op=4\/op=5\/op=6\/op=7\/op=8\/op=10):=by omega
 rcases d with rfl|h|h
 .exact .inl ⟨rfl,eq_nil_of_length_eq_zero (by have:arity 1=0:=rfl;omega)⟩
 .obtain⟨a,rfl⟩:=Fh (l:=args) (by rw[c];rcases h with rfl|rfl|rfl<;>rfl)
  grind
 .obtain⟨a,b,rfl⟩:=rL (l:=args) (by rw[c];rcases h with rfl|rfl|rfl|rfl|rfl|rfl<;>rfl)
  grind
theorem Se{op ta:Int}{w:Pred}{co:bn}{on:bu}{gr:bn}{od:bz}{li:Int}{a:Query}(h:op≠1):dW (.mk op ta w co on gr od li [a])=dW a:=by
 simp[dW,eD,h]
theorem Sd{op ta:Int}{w:Pred}{co:bn}{on:bu}{gr:bn}{od:bz}{li:Int}{a b:Query}(h:op≠1):dW (.mk op ta w co on gr od li [a,b])=dW a++dW b:=by
 simp[dW,eD,h]
theorem Pe{s:jQ}{ls:dm}:∀(q:Query)(k:Nat),gO s q->(iO ls q k).2=k+(dW q).length
 |.mk op ta w co on gr od li args,k,g=>by
  rcases g.cases with⟨rfl,rfl⟩|⟨a,rfl,d,h⟩|⟨a,b,rfl,d,e,h⟩
  .rw[iO,if_pos rfl];simp[dW,eD]
  .have c:op≠1:=by omega
   rw[iO,if_neg c,fU,fU,Se c];exact Pe a k d
  .have c:op≠1:=by omega
   rw[iO,if_neg c,fU,fU,fU,Sd c,length_append];dsimp only;rw[Pe b _ e,Pe a k d];omega
theorem Lt{op:Int}{w:Pred}{on:bu}{a:Query}{l:ce}(h:DB op=true):fX (.mk op ta w co on gr od li (a::l))=fX a:=by
 rw[fX,if_pos h,GB];rfl
theorem wY{op:Int}{w:Pred}{on:bu}{args:ce}(h:DB op=false):fX (.mk op ta w co on gr od li args)= .mk op ta w co on gr od li (args.map fX):=by
 rw[fX,if_neg (by simp[h]),EW]
structure Hx(st ls:dm)(k:Nat)(ts:bn):Prop where
 at_:∀(j:Nat)(t:Int),ts[j]? =some t->∀x∈ls.getD (k+j) [],x∈st.getD t.toNat []
theorem Hx.left{st ls:dm}{k:Nat}{b:bn}(x:Hx st ls k (a++b)):Hx st ls k a:=
 ⟨λj t h=>x.at_ j t bg⟩
theorem Hx.right{st ls:dm}{k:Nat}{b:bn}(x:Hx st ls k (a++b)):Hx st ls (k+a.length) b:=
 ⟨λj t h=>by
  have:=x.at_ (a.length+j) t bg
  grind⟩
theorem cover{s:jQ}{st ls:dm}:∀(q:Query)(k:Nat),gO s q->Hx st ls k (dW q)->∀x∈(iO ls q k).1,x∈nW st (fX q)
 |.mk op ta w co on gr od li args,k,g,d=>by
  rcases g.cases with⟨rfl,rfl⟩|⟨a,rfl,e,h⟩|⟨a,b,rfl,e,f,h⟩
  .rw[wY rfl,iO,if_pos rfl,map_nil,nW,if_pos rfl];have:=d.at_ 0 ta (by simp[dW,eD]);omega
  .rw[Se aC]at d;have j:=cover a k e d;intro x c;rw[cLX aC]at c;rcases h with rfl|rfl|rfl
   .rw[wY rfl,map_cons,map_nil,bmZ az,op2];rw[op2]at c
    grind
   .rw[wY rfl,map_cons,map_nil,bmZ az,op3];rw[op3]at c
    grind
   .rw[Lt rfl];rw[op9]at c
    grind
  .rw[Sd aC]at d;have j:=cover a k e d.left;have n:=cover b _ f d.right;intro x c;rw[cLQ aC,Pe a k e]at c;rcases h with rfl|rfl|rfl|rfl|rfl|rfl
   .rw[wY rfl,map_cons,map_cons,map_nil,UD az,op4];rw[op4]at c
    grind
   .rw[wY rfl,map_cons,map_cons,map_nil,UD az,op5];rw[op5]at c
    grind
   .rw[wY rfl,map_cons,map_cons,map_nil,UD az,op6];rw[op6]at c
    grind
   .rw[Lt rfl];rw[op7]at c
    grind
   .rw[wY rfl,map_cons,map_cons,map_nil,UD az,op8];rw[op8]at c
    grind
   .rw[Lt rfl];rw[cVJ]at c
    grind
theorem iG.sub{w:Nat}{l d:Rel}(x:iG w l)(h:d.Sublist l):iG w d:=
 ⟨λr c=>x.row r (h.subset c),λr c=>x.wid r (h.subset c),List.Pairwise.sublist h x.srt,Nat.le_trans h.length_le x.len⟩
structure LQ(ls L:dm)(i:Nat):Prop where
 len:ls.length=i
 at_:∀(j:Nat) l,ls[j]? =some l->∃x,L[j]? =some x/\l.Sublist x
theorem LQ.snoc{ls L:dm}(x:LQ ls L i){l y:Rel}(f:L[i]? =some y)(h:l.Sublist y):LQ (ls++[l]) L (i+1):=by
 refine⟨by simp[x.len],λj r c=>?_⟩;by_cases d:j<ls.length
 .rw[getElem?_append_left d]at c;exact x.at_ j r c
 .rw[getElem?_append_right aC]at c;have e:j-ls.length=0:=bg
  rw[e]at c;simp at c;subst c;have:j=i:=by have:=x.len;omega
  grind
theorem WK(st:dm)(q:Query):(jO st q).length=(dW q).length:=by rw[jO,length_map]
theorem Zd{st:dm}{q:Query}{j:Nat}{t:Int}(h:(dW q)[j]? =some t):(jO st q)[j]? =some (st.getD t.toNat []):=by
 rw[jO,getElem?_map,h];rfl
theorem LQ.lin{ls st:dm}{q:Query}(x:LQ ls (jO st q) (jO st q).length):Hx st ls 0 (dW q):=⟨λj t h r c=>by
 rw[Nat.zero_add,getD_eq_getElem?_getD]at c;cases e:ls[j]? with
 |none=>grind
 |some l=>
  rw[e]at c;obtain⟨y,d,f⟩:=x.at_ j l e;rw[Zd h]at d
  grind⟩
theorem bgQ{s:jQ}{ls st:dm}{q:Query}(g:gO s q)(x:LQ ls (jO st q) (jO st q).length):((iO ls q 0).1.filter λr=>GO (nW st (fX q)) r==false)=[]:=
 filter_eq_nil_iff.2 λr c=>by rw[D0.2 (cover q 0 g x.lin r c)];simp
theorem boZ{q:Query}{k:bn}(c:eH s=0)(h:nI q=true)(d:aL s [] q=(k,0)):fI s [] q=(k,0):=by
 unfold fI
 grind
theorem WY{st:List br}(e:BJ s)(h:VA s st):kJ s st=0:=by
 obtain⟨c,f⟩:=PZ e;have j:=Jd c;have g:=h.len
 have d:∀l:List br,(∀x∈l,x.length<=4)->(l.map λx=>(x.length:Int)).sum<=4*(l.length:Int):=λl=>by
  induction l with
  |nil=>intro _;simp
  |cons a l n=>
   grind
 have:=d st h.few;unfold kJ;rw[if_neg (by simp[c]),if_neg aC,if_neg (by simp[g]),if_pos h.ok]
theorem eA.new(c:eA m)(f:m cb=none)(o:bP m m' cb):eA m':=by
 obtain⟨T,d,e⟩:=c;refine⟨T,d,?_⟩;rw[o.other 1 (λg=>bg)];exact e
def aIQ(N:Nat):Vc.Spec:=λc m h K=>∃v q,c=[aQ v]/\dG h q v/\SizeOf.sizeOf q<N/\lO q<=900000/\∀d h',PH.le h h'->Ints h' d (dW q)->K (cS d) m h'
def bUQ:Vc.Spec:=λc m h K=>∃v q,c=[aQ v]/\dG h q v/\lO q<=900000/\∀d h',PH.le h h'->Ints h' d (dW q)->K (cS d) m h'
def aKJ:Vc.Spec:=λc m h K=>∃e d v q,c=[aSt e,aQ v]/\GK h e d/\dG h q v/\lO q<=900000/\(∀t∈dW q,0<=t/\t<d.length)/\∀f h',PH.le h h'->Leaves h' f (jO d q)->K (cS f) m h'
def aMZ:Vc.Spec:=λc m h K=>∃s r n,c=[cS s,cI n]/\bS h s r/\K (cB (decide ((r.length:Int)=n)&&r.all kA)) m h
structure JF(s:jQ)(c:Nat)(ls:List br)(ts:bn):Prop where
 len:ls.length=ts.length
 at_:∀(j:Nat)(t:Int) l,ts[j]? =some t->ls[j]? =some l->iG (jA s t).length l/\l.length<=c/\∀r∈l,r.all kA=true
def cyQ:Vc.Spec:=λd m h K=>∃v s f e w q c,d=[aS v,cS f,aQ w]/\iF h s v/\Leaves h f e/\dG h q w/\(fI s [] q).2=0/\1<=c/\JF s c e (dW q)/\gI c q<=8000000/\eA m/\∀g h',PH.le h h'->Rows h' g (iO e q 0).1->K (.tup [cS g,cI 0]) m h'
noncomputable def cqX(N:Nat)(v:QV)(m:MH):Ctx:=
 dE [(12,aIQ N)] [(5,{A:=Nat×bn×PH,st:=λ⟨i,l,h⟩=>bU 29 30 [(1,.at (.ptr 1 0)),(3,.at (.lst 12)),(15,iv v.args.len),(16,iv i)] [(1,.cells 41 (v.enc.map .val)),(12,.lst 3 1 (l.map eI))] m h})] [(4,{A:=bn×PH,st:=λ⟨l,h⟩=>bU 29 30 [(1,.at (.ptr 1 0)),(3,.at (.lst 12))] [(1,.cells 41 (v.enc.map .val)),(12,.lst 3 1 (l.map eI))] m h})] [] false
noncomputable def cjJ(sl:Sl)(m:MH):Ctx:=
 dE [(12,bUQ)] [(3,{A:=Nat×Sl×bx×PH,st:=λ⟨i,s,c,h⟩=>bU 25 27 [(2,.at (.ptr 2 0)),(5,.at (.lst 22)),(9,sv s),(10,iv s.len),(11,iv i)] [(2,.cells 52 [.val (.slice sl.a sl.len sl.cap)]),(22,.lst 58 1 (c.map eS))] m h})] [] [] false
noncomputable def ceQ(s:Sl)(m:MH)(h:PH):Ctx:=
 dE [(133,Ng)] [(4,{A:=Nat,st:=λi=>bU 21 23 [(11,sv s),(12,iv s.len),(13,iv i)] [] m h})] [] [] false
noncomputable def cjZ(v:bZ)(sl:Sl)(w:QV):Ctx:=
 dE [(37,BI),(59,arQ),(69,u7),(70,aMZ),(71,bjQ),(60,VB)] [(8,{A:=Nat×Sl×MH×PH,st:=λ⟨i,s,m,h⟩=>bU 80 83 [(1,sv sl),(3,.at (.ptr 3 0)),(5,.at (.ptr 5 0)),(35,sv s),(36,iv s.len),(37,iv i)] [(3,.cells 27 (v.enc.map .val)),(5,.cells 41 (w.enc.map .val))] m h}),
  (12,{A:=Nat×Int×Sl×Nat×Sl×MH×PH,st:=λ⟨j,n,l,i,s,m,h⟩=>bU 80 83 [(1,sv sl),(3,.at (.ptr 3 0)),(5,.at (.ptr 5 0)),(13,iv n),(35,sv s),(36,iv s.len),(37,iv i),(49,sv l),(50,iv l.len),(51,iv j)] [(3,.cells 27 (v.enc.map .val)),(5,.cells 41 (w.enc.map .val))] m h}),
  (20,{A:=Nat×bx×MH×PH,st:=λ⟨i,c,m,h⟩=>bU 80 83 [(5,.at (.ptr 5 0)),(16,.at (.lst 63)),(64,sv sl),(65,iv sl.len),(66,iv i)] [(5,.cells 41 (w.enc.map .val)),(63,.lst 58 1 (c.map eS))] m h})] [] [] false
def X7(N:Nat)(v:QV)(m:MH)(h:PH)(K:bo):Prop:=
  ∃(I:bn×PH->Prop),eU v.op 1 (aA (nT 8) (nT 1) (∃(x:bn×PH),aA (I x) eM (aA (eL 12) (eJ v) (cZ (lK (lT (bB v.table)) x.1) m m h x.2)))) (∃(x:bn×PH),aA (I x) eM (aA (eL 12) (eJ v) (cZ (sS x.1) m m h x.2)))/\∀(x:bn×PH),I x->∃(I1:Nat×bn×PH->Prop)(g:Nat×bn×PH->Nat),(∃(c:Nat×bn×PH),aA (I1 c) eM (aA (eL 12) (vV v) (aA (bA c.1) (eJ v) (aA (lK (gW x.1) c.2.1) (m=m) (bT x.2 c.2.2)))))/\∀(c:Nat×bn×PH),I1 c->aY (↑c.1:Int) (aH v.args) (bJ (λb o=>aI (aW v.args.a b o) (0<=(↑c.1:Int)) ((↑c.1:Int)<aH v.args) (∃(y:QV),aK m c.2.2 b (o+bM c.1 21) y.enc/\oW (λj q=>aA (vG (cA y)=vG (cA j)) (dG c.2.2 q j) (aA
 (xQ q N) (lO q<=900000) (∀(s:Sl)(f:PH),bQ c.2.2 f (Ints f s (dW q)) (∃(d:List bt),aA (fN 1 d) (dC f (dN s) 1 d) (aA (sL (gW c.2.1) d 8) (sM (gW c.2.1) d) (∃(e:Nat×bn×PH),aA (I1 e) (g e<g c) (aA eM (eL 12) (aA (bI v.args) (gK (bE c.1 1)=bO e.1) (aA (eJ v) (lK (gW c.2.1++d) e.2.1) (dY m m f e.2.2))))))))))))) (tZ c.2.2 (gW c.2.1) K m)
def XI(sl:Sl)(v:QV)(m:MH)(h:PH)(K:bo):Prop:=
  oW (λe q=>aI (eO (cA v) (cA e)) (dG h q e) (lO q<=900000) (∀(s:Sl)(d:PH),bQ h d (Ints d s (dW q)) (∃(I:Nat×Sl×bx×PH->Prop)(f:Nat×Sl×bx×PH->Nat),(∃(x:Nat×Sl×bx×PH),aA (I x) iU (aA (eL 22) (aZ s x.2.1) (aA (bN s x.2.1) (bA x.1) (aA (DS sl) (Ii 58 x.2.2.1) (dY m m d x.2.2.2)))))/\∀(x:Nat×Sl×bx×PH),I x->aY (↑x.1:Int) (aH x.2.1) (bJ (λb o=>aI (aW x.2.1.a b o) (0<=(↑x.1:Int)) ((↑x.1:Int)<aH x.2.1) (∃(y:Int),aK m x.2.2.2 b (o+bM x.1 1) (bB y)/\bJ (λg j=>aI (aW sl.a g j) (0<=y) (y<aH sl) (∃(n:Sl),aI (aK m x.2.2.2 g (j+gY y 1) (aR n)) (kB (gH x.2.2.1)) (dO (gH x.2.2.1)) (∃(c:Nat×Sl×bx×PH),aA (I c) (f c<f x) (aA
 iU (eL 22) (aA (aZ x.2.1 c.2.1) (bN x.2.1 c.2.1) (aA (gK (bE x.1 1)=bO c.1) (DS sl) (cZ (bR 58 1 (dL (gH x.2.2.1) (aR n))=mV 58 c.2.2.1) m m x.2.2.2 c.2.2.2)))))))))) (tZ x.2.2.2 (gH x.2.2.1) K m))))
def Xl(s:Sl)(n:Int)(m:MH)(h:PH)(K:bo):Prop:=
  cV (aH s) n (K bH m h) (pN (λI x=>aA (I x) (aJ s) (aA (bI s) (bA x) (dY m m h h))) (λI d x=>I x->aY (↑x:Int) (aH s) (bJ (λb o=>aI (aW s.a b o) (0<=(↑x:Int)) ((↑x:Int)<aH s) (∃(y:VV),aK m h b (o+bM x 3) y.enc/\∃(v:VV),hX (eO (j4 y) (j4 v)) (!(kA v)) (K bH m h) (∃(c:Nat),aA (I c) (d c<d x) (aA (aJ s) (bI s) (cZ (gK (bE x 1)=bO c) m m h h)))))) (K iM m h)))
abbrev mU(a:Nat×Int×Sl×Nat×Sl×MH×PH):Nat×Sl×MH×PH:=a.2.2.2
abbrev Bb(a:Nat×Int×Sl×Nat×Sl×MH×PH):Sl:=a.2.2.1
attribute [push_cast] mU Bb
def XH(v:bZ)(sl:Sl)(w:QV)(m:MH)(h:PH)(K:bo):Prop:=
  KC v w h (λs p q G=>cV (yS s p q) 0 (K (CV.tup (tO EZ (CV.val (fV (yS s p q))))) m G) (oW (λM H=>aI (eO (cA w) (cA M)) (dG G H M) (lO H<=900000) (∀(E:Sl)(F:PH),bQ G F (Ints F E (dW H)) (cV (aH sl) (aH E) (bW K 1 m F) (KT (λI x=>aA (I x) (aJ sl) (aA (eP 3) eN (aA (aZ E (kK x)) (bN E (kK x)) (aA (bA x.1) (cG v) (aI (eJ w) (dJ m (jT x)) (fC F (jT x)) True))))) (λI O x=>I x->aY (↑x.1:Int) (aH (kK x)) (bJ (λb o=>aI (aW (kK x).a b o) (0<=(↑x.1:Int)) ((↑x.1:Int)<aH (kK x)) (∃(y:Int),aK (qB x) (qC x) b (o+bM x.1 1) (bB y)/\AQ v y (qC x) (λj f=>bJ (λP Q=>aI (aW sl.a P Q) (0<=(↑x.1:Int)) ((↑x.1:Int)<aH
 sl) (∃(J:Sl),aK (qB x) f P (Q+bM x.1 1) (aR J)/\∃(I1:Nat×Int×Sl×Nat×Sl×MH×PH->Prop)(z:Nat×Int×Sl×Nat×Sl×MH×PH->Nat),(∃(c:Nat×Int×Sl×Nat×Sl×MH×PH),aA (I1 c) (aJ sl) (aA (eP 3) eN (aA (bO j.len=gK c.2.1) (aZ (kK x) (kK (mU c))) (aA (bN (kK x) (kK (mU c))) (cD x.1 (mU c).1) (aA (aZ J (Bb c)) (bN J (Bb c)) (aA (bA c.1) (cG v) (aI (eJ w) (fJ (jT x) (jT (mU c))) (fC f (jT (mU c))) True)))))))/\∀(c:Nat×Int×Sl×Nat×Sl×MH×PH),I1 c->aY (↑c.1:Int) (aH (Bb c)) (bJ (λR S=>aI (aW (Bb c).a R S) (0<=(↑c.1:Int)) ((↑c.1:Int)<aH (Bb c)) (∃(T:Sl),aK (qB (mU c)) (qC (mU c)) R (S+bM c.1 1)
 (aR T)/\oS (λg r=>∃(n:Int),aA (iZ T c.2.1=iZ g n) (bS (qC (mU c)) g r) (nX (Bool.and (decide ((↑r.length:Int)=n)) (List.all r kA)) (bW K 71 (qB (mU c)) (qC (mU c))) (∃(d:Nat×Int×Sl×Nat×Sl×MH×PH),aA (I1 d) (z d<z c) (aA (aJ sl) jR (aA eN (dH c.2.1 d.2.1) (aA (aZ (kK (mU c)) (kK (mU d))) (bN (kK (mU c)) (kK (mU d))) (aA (cD (mU c).1 (mU d).1) (aZ (Bb c) (Bb d)) (aA (bN (Bb c) (Bb d)) (gK (bE c.1 1)=bO d.1) (aA (cG v) (eJ w) (aA (fJ (jT (mU c)) (jT (mU d))) (dA (jT (mU c)) (jT (mU d))) True))))))))))))) (∃(d:Nat×Sl×MH×PH),aA (I d) (O d<O x) (aA (aJ sl) jR (aA eN (aZ
 (kK (mU c)) (kK d)) (aA (bN (kK (mU c)) (kK d)) (gK (bE (mU c).1 1)=bO d.1) (aA (cG v) (eJ w) (aA (fJ (jT (mU c)) (jT d)) (dA (jT (mU c)) (jT d)) True)))))))))))) (Bc sl 24 (∃(I1:Nat×bx×MH×PH->Prop)(z:Nat×bx×MH×PH->Nat),(∃(c:Nat×bx×MH×PH),aA (I1 c) eN (aA (eL 63) (aJ sl) (aA (bI sl) (bA c.1) (aA (eJ w) (KB sl c.2.1) (aA (fJ (jT x) (kU c)) (dA (jT x) (kU c)) True)))))/\∀(c:Nat×bx×MH×PH),I1 c->aY (↑c.1:Int) (aH sl) (bJ (λb o=>aI (aW sl.a b o) (0<=(↑c.1:Int)) ((↑c.1:Int)<aH sl) (∃(y:Sl),aK (kU c).1 (tB c) b (o+bM c.1 1) (aR y)/\∃(j:Sl)(u:bx)(l:br),aA (vG (mQ y)=vG
 (mQ j)) (uN (kU c).1 (tB c) j 1 (gH u)) (aA (eX (tB c) u l) (l.length<=502633886983) (∀(g:Sl)(f:PH),bQ (tB c) f (Rows f g (Eb l)) (pE (↑c.1:Int) (rP c) (λe=>O3 c e (λd=>aA (I1 d) (z d<z c) (aA eN (eL 63) (aA (aJ sl) (bI sl) (aA (gK (bE c.1 1)=bO d.1) (eJ w) (aI (bR 58 1 (List.set (rP c) (lD c.1) (By (dP g) 1 e))=mV 58 d.2.1) (fJ (kU c) (kU d)) (fC f (kU d)) True)))))))))))) (bY (tB c) 1 (rP c) (λj f=>∃(l:Sl)(U:QV),Pa (λC D=>aA (fZ j (cA w)=fZ l (cA U)) (Leaves f l C) (aA (dG f D U) (Y0 C D 0) (aI (eA (kU c).1) (Au (iO C D 0).1) (HW (iO C D 0).1 (λr=>Eh r)) (∀(g:Sl)(L:PH),bQ f L (Rows L g
 (iO C D 0).1) (lI K g 0 (kU c).1 L))))))))))))))))
theorem JW{q:Query}:∀{l:ce},eD (l++[q])=eD l++dW q
 |[]=>by simp[eD]
 |p::l=>by rw[cons_append,eD,JW,eD,append_assoc]
theorem aEJ:∀N,bm 12 (aIQ N)
 |0=>by
  refine fK (fn:=Tryz.f12) (c:=dX Tryz.f12) func12 rfl az ?_;rintro D m h K ⟨v,q,rfl,U,Z,_⟩;omega
 |N+1=>by
  refine iQ func12 ?_;rintro D m h K ⟨v,q,rfl,U,Z,hc,E⟩;refine⟨cqX N v m,rfl,aE (aEJ N) aG,X7 N v m h K,ax,?_⟩;dsimp only[X7,push_cast];have g:=CL q;obtain⟨op,ta,w,co,on,gr,od,li,args⟩:=q;have F:=U.parts;have d:=F.args_;have G:=bL.slen d;have V:=bL.len d;have W:v.op=op:=F.op_;have C:v.table=ta:=F.table_;rw[dW]at E g;rw[lO]at hc g;refine⟨λz=>z=(if op=1 then[ta]else[],h),aD (λe=>?_) (λe=>?_),?_⟩
  .have e:op=1:=bg
   exact⟨aC,aC,([ta],h),by rw[if_pos e],by rw[C];exact MT⟩
  .grind
  rintro _ rfl;dsimp only;generalize (if op=1 then[ta]else[])=H at E g;refine⟨λz=>z.1<=args.length/\z.2.1=H++eD (args.take z.1)/\PH.le h z.2.2,λz=>args.length-z.1,⟨(0,H,h),⟨ay,by simp[eD],.refl _⟩,MT⟩,?_⟩;rintro⟨i,l,hx⟩ ⟨hi,X,le⟩;dsimp only at hi X le⊢
  subst X
  have f:∀j,(eD (args.take j)).length<=(eD args).length:=λj=>by
   have h5:∀(a b:ce),(eD a).length<=(eD (a++b)).length:=λa b=>by
    induction a with
    |nil=>simp[eD]
    |cons p a ih=>rw[cons_append,eD,eD,length_append,length_append];omega
   have:=h5 (args.take j) (args.drop j)
   rwa [take_append_drop]at this
  have Y:=f i;rw[length_append]at g;refine aF (λI=>?_) (λa'=>?_)
  .obtain⟨p,J⟩:=eV G I;obtain⟨b,o,u,ea,L,M⟩:=bL.at (D5.mono d le) J;have n:=mem_of_getElem? J
   have O:SizeOf.sizeOf p<N:=by
    have:=sizeOf_lt_of_mem n
    grind
   have a0:=Vo n;have P:eD (args.take (i+1))=eD (args.take i)++dW p:=by rw[take_add_one,J,Option.toList_some,JW]
   have y:(eD (args.take (i+1))).length<=(eD args).length:=f _;rw[P,length_append]at y;refine⟨b,o,ea,aC,aC,u,.imm L,u,p,rfl,M,O,aC,λs h2 Q R=>⟨(dW p).map eI,Bs _,R.row,?_,?_,(i+1,H++eD (args.take i)++dW p,h2),⟨aC,bg,le.trans Q⟩,aC,?_⟩⟩
   .grind
   .grind
   .rw[iS aC]
    grind
  .rw[take_of_length_le aC]
   exactλs h' S T=>E s h' (le.trans S) ⟨T,bg⟩
theorem bdZ:bm 12 bUQ:=mM aEJ λ_ _ _ _⟨v,q,e,c,d,f⟩=>⟨SizeOf.sizeOf q+1,v,q,e,c,aC,d,f⟩
structure B9(h:PH)(us:bx)(ls:List br):Prop where
 len:us.length=ls.length
 at_:∀(j:Nat) l,ls[j]? =some l->∃u,us[j]? =some u/\Rows h u l
theorem B9.mono{us:bx}{ls:List br}(x:B9 h us ls)(le:PH.le h h'):B9 h' us ls:=⟨x.len,λj l d=>(x.at_ j l d).imp λ_ c=>⟨c.1,bL.mono c.2 le λr t e=>bS.mono e le⟩⟩
theorem B9.nil(h:PH):B9 h [] []:=⟨rfl,λj x c=>by simp at c⟩
theorem B9.snoc{us:bx}{ls:List br}(x:B9 h us ls){u:Sl}{l:br}(d:Rows h u l):B9 h (us++[u]) (ls++[l]):=by
 refine⟨by simp[x.len],λj r c=>?_⟩;by_cases e:j<ls.length
 .rw[getElem?_append_left e]at c;obtain⟨f,g,n⟩:=x.at_ j r c
  grind
 .rw[getElem?_append_right aC]at c;have:j-ls.length=0:=bg
  rw[this]at c;simp at c;subst c;exact⟨u,by rw[getElem?_append_right (by rw[x.len];omega),x.len,this];rfl,d⟩
theorem B9.leaves{us:bx}{ls:List br}{s:Sl}(x:B9 h us ls)(c:dC h s 1 (us.map eS))(e:ls.length<=8000000):Leaves h s ls:=⟨⟨us,c,x.len.symm,λi l d=>x.at_ i l d⟩,aC⟩
theorem a6J:bm 30 aKJ:=by
 refine iQ func30 ?_;rintro X m h K ⟨Q,d,v,q,rfl,D,Y,Z,e,R⟩;refine⟨cjJ Q m,rfl,aE bdZ aG,XI Q v m h K,ax,?_⟩;dsimp only[XI,push_cast];have E:=CL q;refine⟨v,q,rfl,Y,Z,λS C f F=>?_⟩;have g:=F.slen;have c:=D.mono f;have T:=bL.slen c.lea;have j:jO d q=(dW q).map λt=>d.getD t.toNat []:=rfl;generalize jO d q=L at j R;generalize dW q=ts at F g E e j;have a':L.length=ts.length:=bg
 refine⟨λz=>z.1<=ts.length/\z.2.1=S/\z.2.2.2=C/\B9 C z.2.2.1 (L.take z.1),λz=>ts.length-z.1,⟨(0,S,[],C),⟨ay,rfl,rfl,bk (B9.nil C)⟩,MT⟩,?_⟩;rintro⟨i,s2,us,h3⟩ ⟨G,U,V,n⟩;dsimp only at G U V n⊢
 subst U V;have H:=n.len;rw[length_take]at H;refine aF (λI=>?_) (λa0=>?_)
 .obtain⟨t,W⟩:=eV g I;obtain⟨b,o,ea,rd⟩:=F.at' W;have ht:=e t (mem_of_getElem? W);have a1:t.toNat<d.length:=by omega
  have e6:d[t.toNat]? =some (d.getD t.toNat []):=bg
  obtain⟨b2,o2,u,J,M,hr⟩:=bL.at c.lea e6;have O:L[i]? =some (d.getD t.toNat []):=bg
  refine⟨b,o,ea,aC,aC,t,.imm rd,b2,o2,J,ht.1,aC,u,.imm M,bg,bg,(i+1,s2,us++[u],h3),⟨aC,rfl,rfl,by rw[take_add_one,O];exact n.snoc hr⟩,aC,?_⟩;rw[iS aC,map_append];exact MT
 .rw[take_of_length_le aC]at n
  exactλs3 h4 y P=>R s3 h4 (f.trans y) ((n.mono y).leaves P aC)
theorem a3Q:bm 70 aMZ:=by
 refine iQ func70 ?_;rintro E m h K ⟨s,r,n,rfl,f,c⟩;refine⟨ceQ s m h,rfl,aE Jy aG,Xl s n m h K,ax,?_⟩;dsimp only[Xl,push_cast];have g:=bL.slen f;have H:=bL.len f;refine aD (λe=>?_) (λe=>?_)
 .have e:¬(r.length:Int)=n:=bg
  rw[decide_eq_false e,Bool.false_and]at c;exact c
 have e:(r.length:Int)=n:=bg
 rw[decide_eq_true e,Bool.true_and]at c;refine⟨λi=>i<=r.length/\(r.take i).all kA=true,λi=>r.length-i,⟨0,⟨aC,ay⟩,MT⟩,λi C=>aF (λd=>?_) (λF=>?_)⟩
 .obtain⟨y,D⟩:=eV g d;obtain⟨b,o,u,G,rd,j⟩:=bL.at f D;have j:y=u:=j;subst j;refine⟨b,o,G,aC,d,y,.imm rd,y,rfl,aD (λz=>?_) (λz=>?_)⟩
  .have:r.all kA=false:=by
    grind
   rw[this]at c;exact c
  .have z:kA y=true:=bg
   rw[iS aC];exact⟨i+1,⟨aC,by rw[take_add_one,D,all_append,C.2];simp[z]⟩,bg,MT⟩
 .have:=C.2;rw[take_of_length_le aC]at this;rw[this]at c;exact c
theorem a6Z:bm 31 cyQ:=by
 refine iQ func31 ?_;rintro c6 m h K ⟨v,s,sl,ls,w,q,c,rfl,hs,P,hq,he,c1,y,hb,hT,hK⟩;refine⟨cjZ v sl w,rfl,aE Gi (aE aj (aE EU (aE a3Q (aE ET (aE SL aG))))),XH v sl w m h K,ax,?_⟩;dsimp only[XH,push_cast];obtain⟨a7,_,Q,a8⟩:=Bw he;have R:aL s [] q=((aL s [] q).1,0):=Prod.ext rfl a8;have c4:=HE Q;have a9:=CL q;have b':=EF R;have h8:=Aq a7
 have H:=Lp c1 (ls:=ls) (k:=0) R ⟨λj t hj=>by
  have c7:=(List.getElem?_eq_some_iff.1 hj).1;have S:=y.len;have D:ls[j]? =some ls[j]:=getElem?_eq_getElem aC;have:=y.at_ j t _ hj D
  grind⟩ hb
 have c5:=bL.slen P;have T:=y.len;refine⟨v,cE,w,s,[],q,rfl,hs,mY h,hq,Q,λc8 h1 U _=>aD (λe=>?_) (λ_=>?_)⟩
 .grind
 refine⟨w,q,rfl,hq.mono U,aC,λs' h2 b0 hi=>aD (λe=>?_) (λ_=>?_)⟩
 .have:=hi.slen
  grind
 have V:=hi.slen;have g:=U.trans b0;have n:=y.at_;generalize dW q=ts at hi V a9 b' n T;have W:∀{I},PH.le h I->Leaves I sl ls:=fun{I} le=>bL.mono P le λl s E=>bL.mono E le λr t hv=>bS.mono hv le;refine⟨λz=>z.1<=ts.length/\z.2.1=s'/\z.2.2.1=m/\PH.le h2 z.2.2.2,λz=>ts.length-z.1,⟨(0,s',m,h2),⟨ay,rfl,rfl,.refl _⟩,MT⟩,?_⟩;rintro⟨i,s2,O,I⟩ ⟨b1,e3,X,lex⟩;dsimp only at b1 e3 X lex⊢
 subst e3 X;refine aF (λb4=>?_) (λc9=>?_)
 .obtain⟨t,ht⟩:=eV V b4;obtain⟨b,o,ea,rd⟩:=(hi.mono lex).at' ht;have D:ls[i]? =some ls[i]:=getElem?_eq_getElem aC;obtain⟨d,_,Y⟩:=n i t _ ht D;refine⟨b,o,ea,aC,aC,t,.imm rd,v,s,t,rfl,hs.mono (g.trans lex),h8,λsk h3 Z hk=>?_⟩;obtain⟨b2,o2,u,J,L,E⟩:=bL.at (W (g.trans (lex.trans Z))) D;have b5:=hk.slen;have M:=bL.slen E;refine⟨b2,o2,J,aC,aC,u,.imm L,λz=>z.1<=ls[i].length/\z.2=(((jA s t).length:Int),u,i,s2,O,h3),λz=>ls[i].length-z.1,⟨(0,((jA s t).length:Int),u,i,s2,O,h3),⟨ay,rfl⟩,by rw[b5];exact MT⟩,?_⟩;rintro⟨j,z⟩ ⟨hj,e⟩;dsimp only at hj e;subst e;dsimp only;refine aF (λF=>?_) (λa'=>?_)
  .obtain⟨r,a0⟩:=eV M F;obtain⟨b3,o3,ur,b6,b7,hv⟩:=bL.at E a0;have a1:=mem_of_getElem? a0;have b8:=d.len;refine⟨b3,o3,b6,aC,aC,ur,.imm b7,ur,r,_,rfl,hv,aD (λe=>?_) (λ_=>?_)⟩
   .rw[Y r a1,d.wid r a1]at e;simp at e
   .rw[iS aC];exact⟨(j+1,((jA s t).length:Int),u,i,s2,O,h3),⟨aC,rfl⟩,aC,MT⟩
  .rw[iS aC];exact⟨(i+1,s2,O,h3),⟨aC,rfl,rfl,lex.trans Z⟩,aC,MT⟩
 .refine⟨aC,aC,aC,aC,λz=>z.1<=ls.length/\z.2.2.1=O/\PH.le I z.2.2.2/\∃us,z.2.1=us++replicate (ls.length-z.1) ⟨none,0,0⟩/\B9 z.2.2.2 us (ls.take z.1),λz=>ls.length-z.1,⟨(0,replicate ls.length ⟨none,0,0⟩,O,I),⟨ay,rfl,.refl _,[],ay,bk (B9.nil I)⟩,?_⟩,?_⟩
  .rw[show((sl.len:Int)).toNat=ls.length by omega];dsimp only;rw[map_replicate];exact MT
  rintro⟨f,l,m3,hy⟩ ⟨b9,X,C,us,S,hu⟩;dsimp only at b9 X C S hu⊢
  subst X;have M:=hu.len;rw[length_take]at M;refine aF (λF=>?_) (λa'=>?_)
  .have D:ls[f]? =some ls[f]:=getElem?_eq_getElem aC;have et:ts[f]? =some ts[f]:=getElem?_eq_getElem aC;obtain⟨d,_,_⟩:=n f _ _ et D;have a2:=g.trans (lex.trans C);obtain⟨b2,o2,u,J,L,E⟩:=bL.at (W a2) D;obtain⟨rs,h7,h8,h9⟩:=E.ex;have b8:=d.len;have c':l.length=ls.length:=bg
   have a3:l[f]? =some ⟨none,0,0⟩:=by
    grind
   refine⟨b2,o2,J,aC,aC,u,.imm L,u,rs,ls[f],rfl,.imm h7,⟨h8.symm,h9⟩,aC,λs5 h5 a4 a5=>⟨aC,bg,[oM],by rw[getElem?_map,show((f:Int)).toNat=f from rfl,a3];rfl,ay,(f+1,l.set f s5,m3,h5),⟨aC,rfl,C.trans a4,us++[s5],?_,?_⟩,aC,?_⟩⟩
   .dsimp only;rw[S,set_append,if_neg aC,append_assoc];congr 1;rw[show ls.length-f=(ls.length-(f+1))+1 by omega,replicate_succ,show f-us.length=0 by omega];rfl
   .dsimp only;rw[take_add_one,D];rw[aPJ d.srt]at a5;exact(hu.mono a4).snoc a5
   .dsimp only
    have e9:((l.map eS).set ((f:Int)).toNat (dP s5::List.drop 1 [oM]))=(l.set f s5).map eS:=by
     rw[map_set];rfl
    rw[e9,iS aC];exact MT
  .have:f=ls.length:=by omega
   subst this;rw[Nat.sub_self,replicate_zero,append_nil]at S;subst S;rw[take_length]at hu;intro s6 h6 a6 c0;have G:=(g.trans (lex.trans C)).trans a6;exact⟨s6,w,ls,q,rfl,(hu.mono a6).leaves c0 aC,hq.mono G,H.ok,hT,Nat.le_trans H.bnd hb,λr E=>by have:=(H.rel.row r E).len;omega,λs7 h7 c2 c3=>hK s7 h7 (G.trans c2) c3⟩
def cXQ:Vc.Spec:=λc m h K=>∃s d,c=[cS s]/\dC h s 1 (aX d)/\s.len<=s.cap/\eA m/\∀m' h',Sub m m'->K (cB true) m' h'
def aIX:Vc.Spec:=λd m h K=>∃v s e c w q,d=[aS v,aSt e,aQ w]/\iF h s v/\GK h e c/\dG h q w/\nI q=true/\eA m/\(fI s [] q).2=0/\kJ s c=0/\b2Q c q/\∀f h',PH.le h h'->Rows h' f (nW c q)->K (.tup [cS f,cI 0]) m h'
theorem cPX:bm 23 aIX:=HD a8X λ_ _ _ _⟨v,s,d,c,w,q,e,f,g,j,n,o,y,z,u,C⟩=>⟨v,s,d,c,w,q,e,f,g,j,n,o,λ_ _=>u,by
 have:boX s c q=(nW c q,0):=by unfold boX;grind
 grind⟩
theorem bvZ{st:List br}{q:Query}(c:kJ s st=0)(d:StV st)(e:∀l∈st,l.length<=4)(g:gO s q):lN (nW st q)/\(nW st q).length<=8000000:=by
 have x:=PG c d e aC (Prod.ext rfl g.kinds:aL s [] q=((aL s [] q).1,0)) g.bnd;exact⟨x.2.2.1.srt,x.2.2.2⟩
theorem aWQ{t:Am}{r:ca}(h:EO t r=true):r.all kA=true:=by
 rw[all_eq_true];intro v d;obtain⟨i,e⟩:=getElem?_of_mem d;have c:=(List.getElem?_eq_some_iff.1 e).1;unfold EO at h;rw[Bool.and_eq_true,all_eq_true]at h;have:=h.2 i (mem_range.2 c);unfold BY at this
 grind
theorem YY{st:List br}{q:Query}(n:BJ s)(c:VA s st)(d:∀t∈dW q,0<=t/\t<s.tables.length):JF s 4 (jO st q) (dW q):=by
 refine⟨by rw[jO,length_map],λj t l g e=>?_⟩;rw[jO,getElem?_map,g]at e;simp only[Option.map_some,Option.some.injEq]at e;subst e;obtain⟨o,u⟩:=d t (mem_of_getElem? g);obtain⟨y,z⟩:=blJ (WY n c) c.val o u;refine⟨y,c.few _ z,λr f=>?_⟩;have E:=c.len;have C:s.tables[t.toNat]? =some s.tables[t.toNat]:=getElem?_eq_getElem aC;have D:st[t.toNat]? =some (st.getD t.toNat []):=bg
 exact aWQ ((c.ok _ _ _ C D).1 r f)
theorem LQ.over{c:Nat}{ls L:List br}{ts:bn}(x:LQ ls L L.length)(h:JF s c L ts):JF s c ls ts:=by
 refine⟨by rw[x.len,h.len],λj t l e f=>?_⟩;obtain⟨y,g,d⟩:=x.at_ j l f;obtain⟨n,o,u⟩:=h.at_ j t y e g;exact⟨n.sub d,Nat.le_trans d.length_le o,λr z=>u r (d.subset z)⟩
noncomputable def cJZ:Ctx:=
 dE [(8,cSX),(9,bVJ),(10,arX 1000),(13,bSJ),(29,VL),(30,aKJ),(25,RJ),(31,cyQ),(23,aIX),(17,b2Z),(22,b1J)]
  [(10,{A:=Nat×Nat×bZ×QV×Sl×QV×Sl×bx×MH×PH,st:=λ⟨i,cb,sc,a,st,w,s,c,m,h⟩=>bU 93 94 [(3,pv cb),(4,.at (.ptr 4 0)),(5,.at (.ptr 5 0)),(6,.at (.ptr 6 0)),(7,.at (.ptr 7 0)),(9,.at (.lst 61)),(38,sv s),(39,iv s.len),(40,iv i)] [(4,.cells 27 (sc.enc.map .val)),(5,.cells 41 (a.enc.map .val)),(6,.cells 52 [.val (.slice st.a st.len st.cap)]),(7,.cells 41 (w.enc.map .val)),(61,.lst 58 1 (c.map eS))] m h}),
   (14,{A:=Nat×bx×Sl×Nat×Nat×bZ×QV×Sl×QV×Sl×bx×MH×PH,st:=λ⟨j,rs,u,i,cb,sc,a,st,w,s,c,m,h⟩=>bU 93 94 [(3,pv cb),(4,.at (.ptr 4 0)),(5,.at (.ptr 5 0)),(6,.at (.ptr 6 0)),(7,.at (.ptr 7 0)),(9,.at (.lst 61)),(12,.at (.lst 56)),(38,sv s),(39,iv s.len),(40,iv i),(44,sv u),(45,iv u.len),(46,iv j)] [(4,.cells 27 (sc.enc.map .val)),(5,.cells 41 (a.enc.map .val)),(6,.cells 52 [.val (.slice st.a st.len st.cap)]),(7,.cells 41 (w.enc.map .val)),(56,.lst 65 1 (rs.map eS)),(61,.lst 58 1 (c.map eS))] m h})] [] [] false
abbrev lZ(a:Nat×Nat×bZ×QV×Sl×QV×Sl×bx×MH×PH):Sl×bx×MH×PH:=a.2.2.2.2.2.2
abbrev BR(a:Nat×Nat×bZ×QV×Sl×QV×Sl×bx×MH×PH):bZ:=a.2.2.1
abbrev zH(a:Nat×Nat×bZ×QV×Sl×QV×Sl×bx×MH×PH):QV:=a.2.2.2.1
abbrev zI(a:Nat×Nat×bZ×QV×Sl×QV×Sl×bx×MH×PH):Sl:=a.2.2.2.2.1
abbrev zJ(a:Nat×Nat×bZ×QV×Sl×QV×Sl×bx×MH×PH):QV:=a.2.2.2.2.2.1
abbrev jK(a:Nat×bx×Sl×Nat×Nat×bZ×QV×Sl×QV×Sl×bx×MH×PH):Nat×Nat×bZ×QV×Sl×QV×Sl×bx×MH×PH:=a.2.2.2
abbrev jJ(a:Nat×bx×Sl×Nat×Nat×bZ×QV×Sl×QV×Sl×bx×MH×PH):Sl×bx×MH×PH:=lZ (jK a)
abbrev uF(a:Nat×bx×Sl×Nat×Nat×bZ×QV×Sl×QV×Sl×bx×MH×PH):Sl:=a.2.2.1
abbrev O4(a:Prop)(b c:Nat)(d:Nat×bx×Sl×Nat×Nat×bZ×QV×Sl×QV×Sl×bx×MH×PH)(e:Nat)(g:Prop):Prop:=aA a (b<c) (aA (dM (jK d).2.1 e) (eP 4) (aA eN (eP 6) (aA (eP 7) (eL 61) g)))
attribute [push_cast] lZ BR zH zI zJ jK jJ uF O4
def aCQ(s:Sl)(m:MH)(h:PH)(K:bo):Prop:=
  ∃(L:Sl)(c:ck)(m1:Nat),aA (iZ s 240=iZ L (↑m1:Int)) (dC h L 1 (aX c)) (aA (L.len<=L.cap) (nO m1) (∀(g:Nat),eT (λM O=>bQ h O (F9 m g) (bG (bP m M g) (bD M O g) (∃(P:Nat),aA (eO (Oo g 0) (Oo P 0)) (bD M O P) (∀(s2:jQ)(v:bZ),eT (λQ j=>bG (BJ s2) (iF j s2 v) (bQ O j (bP M Q P) (oV Q j P (∃(R:Nat),Fp (λs3 p=>Es (λS T=>∃(d:Int),aA (cY g (cC (cK v) (eZ EZ 3))=cY R (cC (cK s3) (iZ p d))) (bD Q j R) (aA (iF j S s3) (eH S=0) (aA (mK (S.tables=[])) (Ints j p T) (aA (gS T) (iE (En T)) (aI (Int.negSucc 0<=d) (d<=1000) ((d+1).toNat<1000) (Il (λw q=>eT (λU n=>bQ j n (dG n q w) (bG (QW
 q) (Du d.toNat q) (bG (yS S T q=0) (bP Q U R) (oV U n R (∃(V:Nat),qO (λv1 s5=>aA (cY g (eZ (kQ (cK v)) 3)=cY V (eZ (kQ (cK v1)) 3)) (bD U n V) (aA (iF n s5 v1) (BJ s5) (∀(s6:List br)(s7:Sl),eT (λm5 u=>bQ n u (GK u s7 s6) (bG (VA s5 s6) (bP U m5 V) (oV m5 u V (O5 (λs8 v2 s9 W=>aA (eF (cK v) (cA w)=eF (cK s8) (cA v2)) (iF u s9 s8) (aA (dG u W v2) (C5 s9 W=0) (∀(v3:QV)(E:PH),bQ u E (dG E (fX W) v3) (v3.op=opE W->FC (λa a1=>oW (λv4 X=>aA (eF (aR s7) (cA w)=eF (aR a) (cA v4)) (GK E a a1) (aA (dG E X v4) (lO X<=900000) ((∀(t:Int),List.Mem t (dW X)->cH t/\t<(↑a1.length:Int))/\∀(a2:Sl)(h6:
 PH),bQ E h6 (Leaves h6 a2 (jO a1 X)) (∃(I:Nat×Nat×bZ×QV×Sl×QV×Sl×bx×MH×PH->Prop)(m6:Nat×Nat×bZ×QV×Sl×QV×Sl×bx×MH×PH->Nat),(∃(x:Nat×Nat×bZ×QV×Sl×QV×Sl×bx×MH×PH),aA (I x) (dM g x.2.1) (aA (eP 4) eN (aA (eP 6) (eP 7) (aA (eL 61) (aZ a2 (lZ x).1) (aA (bN a2 (lZ x).1) (bA x.1) (aA (rB v (BR x)) (iY w (zH x)) (aA (Ce s7 (zI x)) (iY v3 (zJ x)) (aA (Ii 58 (tS (lZ x))) (dJ m5 (jL (lZ x))) (kZ (fC h6 (jL (lZ x))))))))))))/\∀(x:Nat×Nat×bZ×QV×Sl×QV×Sl×bx×MH×PH),I x->aY (↑x.1:Int) (aH (lZ x).1) (bJ (λb o=>aI (aW (lZ x).1.a b o) (0<=(↑x.1:Int)) ((↑x.1:Int)<aH (lZ x).1) (∃(y:Sl),aK (nK (lZ x))
 (lX (lZ x)) b (o+bM x.1 1) (aR y)/\∃(I1:Nat×bx×Sl×Nat×Nat×bZ×QV×Sl×QV×Sl×bx×MH×PH->Prop)(Y:Nat×bx×Sl×Nat×Nat×bZ×QV×Sl×QV×Sl×bx×MH×PH->Nat),(∃(e:Nat×bx×Sl×Nat×Nat×bZ×QV×Sl×QV×Sl×bx×MH×PH),aA (I1 e) (dM x.2.1 (jK e).2.1) (aA (eP 4) eN (aA (eP 6) (eP 7) (aA (eL 61) (eL 56) (aA (aZ (lZ x).1 (jJ e).1) (bN (lZ x).1 (jJ e).1) (aA (cD x.1 (jK e).1) (aZ y (uF e)) (aA (bN y (uF e)) (bA e.1) (aA (rB (BR x) (BR (jK e))) (iY (zH x) (zH (jK e))) (aA (Ce (zI x) (zI (jK e))) (iY (zJ x) (zJ (jK e))) (aA (AR e.2.1) (Ic (lZ x) (jJ e)) (aA (fJ (jL (lZ x)) (jL (jJ
 e))) (dA (jL (lZ x)) (jL (jJ e))) True)))))))))))/\∀(e:Nat×bx×Sl×Nat×Nat×bZ×QV×Sl×QV×Sl×bx×MH×PH),I1 e->aY (↑e.1:Int) (aH (uF e)) (bJ (λF o1=>aI (aW (uF e).a F o1) (0<=(↑e.1:Int)) ((↑e.1:Int)<aH (uF e)) (∃(y1:Sl),aK (nK (jJ e)) (lX (jJ e)) F (o1+bM e.1 1) (aR y1)/\oB (jK e).2.1 3 (nK (jJ e)) (lX (jJ e)) (λz r=>∀(Z:MH),bG (bP (nK (jJ e)) Z z) (bD Z (lX (jJ e)) z) (branch (!r) (aA (kB (gH e.2.1)) (dO (gH e.2.1)) (∃(f:Nat×bx×Sl×Nat×Nat×bZ×QV×Sl×QV×Sl×bx×MH×PH),O4 (I1 f) (Y f) (Y e) e (jK f).2.1 (aA (eL 56) (aZ (jJ e).1 (jJ f).1) (aA (bN (jJ e).1 (jJ f).1)
 (cD (jK e).1 (jK f).1) (aA (aZ (uF e) (uF f)) (bN (uF e) (uF f)) (aA (gK (bE e.1 1)=bO f.1) (rB (BR (jK e)) (BR (jK f))) (aA (iY (zH (jK e)) (zH (jK f))) (Ce (zI (jK e)) (zI (jK f))) (aA (iY (zJ (jK e)) (zJ (jK f))) (xA (gH e.2.1) y1 f.2.1) (aI (Ic (jJ e) (jJ f)) (dJ Z (jL (jJ f))) (dA (jL (jJ e)) (jL (jJ f))) True))))))))) (∃(f:Nat×bx×Sl×Nat×Nat×bZ×QV×Sl×QV×Sl×bx×MH×PH),O4 (I1 f) (Y f) (Y e) e (jK f).2.1 (aA (eL 56) (aZ (jJ e).1 (jJ f).1) (aA (bN (jJ e).1 (jJ f).1) (cD (jK e).1 (jK f).1) (aA (aZ (uF e) (uF f)) (bN (uF e) (uF f)) (aA
 (gK (bE e.1 1)=bO f.1) (rB (BR (jK e)) (BR (jK f))) (aA (iY (zH (jK e)) (zH (jK f))) (Ce (zI (jK e)) (zI (jK f))) (aA (iY (zJ (jK e)) (zJ (jK f))) (rG e.2.1 f.2.1) (aI (Ic (jJ e) (jJ f)) (dJ Z (jL (jJ f))) (dA (jL (jJ e)) (jL (jJ f))) True))))))))))))) (bY (lX (jJ e)) 1 (gH e.2.1) (λa3 C=>aA (kB (nE (jJ e))) (dO (nE (jJ e))) (∃(f:Nat×Nat×bZ×QV×Sl×QV×Sl×bx×MH×PH),O4 (I f) (m6 f) (m6 x) e f.2.1 (aA (aZ (jJ e).1 (lZ f).1) (bN (jJ e).1 (lZ f).1) (aA (gK (bE (jK e).1 1)=bO f.1) (rB (BR (jK e)) (BR f)) (aA (iY (zH (jK e)) (zH f)) (Ce (zI
 (jK e)) (zI f)) (aA (iY (zJ (jK e)) (zJ f)) (bR 58 1 (dL (nE (jJ e)) (aR a3))=mV 58 (tS (lZ f))) (aA (fJ (jL (jJ e)) (jL (lZ f))) (fC C (jL (lZ f))) True))))))))))) (bY (lX (lZ x)) 1 (nE (lZ x)) (λa3 C=>qO (λv5 a4=>FC (λa5 l=>oW (λw1 G=>∃(z:Nat),aA (cC (cK (BR x)) (fZ a3 (cA (zH x)))=cC (cK v5) (fZ a5 (cA w1))) (iF C a4 v5) (aA (Leaves C a5 l) (dG C G w1) (aA (C5 a4 G=0) (1<=z) (aA (JF a4 z l (dW G)) (gI z G<=8000000) (eA (nK (lZ x))/\∀(a6:Sl)(D:PH),bQ C D (Rows D a6 (iO l G 0).1) (qO (λv6 a7=>FC (λa8 a9=>oW (λw2 H=>aA (cC (cK (BR x)) (eF (aR (zI x)) (cA
 (zJ x)))=cC (cK v6) (eF (aR a8) (cA w2))) (iF D a7 v6) (aA (GK D a8 a9) (dG D H w2) (aA (iE (nI H)) (eA (nK (lZ x))) (aA (C5 a7 H=0) (kJ a7 a9=0) (b2Q a9 H/\∀(b:Sl)(J:PH),bQ D J (Rows J b (nW a9 H)) (aA (([]:cr)=[]) (eA (nK (lZ x))) (qP (λF t=>∃(i:Bool)(l1 k:br),aA (cX a6 (fZ b bH)=cX F (fZ t (Af i))) (Rows J F l1) (aA (Rows J t k) (lN k) (Au l1/\∀(b2:Sl)(b3:PH),bQ J b3 (Rows b3 b2 (filter (fun(e:ca)=>GO k e==i) l1)) (K (Af (aH b2==0)) (nK (lZ x)) b3))))))))))))))))))))))))))))))))))))))))))))))))))))))))))))))
theorem JF.leaf{c:Nat}{ls:List br}{ts:bn}(x:JF s c ls ts):Gt s c ls 0 ts:=⟨λj t d=>by
 have e:=(List.getElem?_eq_some_iff.1 d).1;have g:=x.len;have f:ls[j]? =some ls[j]:=getElem?_eq_getElem aC;have:=x.at_ j t _ d f
 grind⟩
theorem Ls{s:jQ}:∀q:Query,gO s q->lO (fX q)<=lO q/\Dq (fX q)<=Dq q
 |.mk op ta w co on gr od li args,g=>by
  rcases g.cases with⟨rfl,rfl⟩|⟨a,rfl,c,h⟩|⟨a,b,rfl,c,e,h⟩
  .rw[wY rfl,map_nil];omega
  .have f:=Ls a c;by_cases d:DB op=true
   .rw[Lt d];simp only[lO,kT,Dq,BE];omega
   .rw[wY bg,map_cons,map_nil];simp only[lO,kT,Dq,BE];omega
  .have f:=Ls a c;have j:=Ls b e;by_cases d:DB op=true
   .rw[Lt d];simp only[lO,kT,Dq,BE];omega
   .rw[wY bg,map_cons,map_cons,map_nil];simp only[lO,kT,Dq,BE];omega
theorem byZ:bm 6 cXQ:=by
 refine iQ func6 ?_;rintro d' m h K ⟨s,cs,rfl,S,Z,ht,hK⟩;refine⟨cJZ,rfl,aE byQ (aE bxX (aE (aFQ 1000) (aE bdX (aE SR (aE a6J (aE CS (aE a6Z (aE cPX (aE bbJ (aE a8Z aG)))))))))),aCQ s m h K,ax,?_⟩;dsimp only[aCQ,push_cast];refine⟨s,cs,240,rfl,S,Z,aC,λcb m1 h1 d0 a' o1 c1=>⟨cb,rfl,c1,λsc v m2 h2 D rS d1 o2 c2=>?_⟩⟩;obtain⟨a0,b'⟩:=PZ D;have sub:∀{y},bP m y cb->Sub m y:=fun{y} om b o e=>by rw[om.other b (λe2=>bg)];exact e
 refine⟨cb,v,cE,sc,[],3,rfl,c2,rS,a0,b',mY _,ay,ay,aC,aC,az,λa c m3 h3 a1 rq qw fq hq o3 c3=>⟨cb,v,sc,rfl,c3,rS.mono a1,D,λst E m7 h7 a2 T g o7 c0=>?_⟩⟩;have fq:Du 3 c:=fq;obtain⟨_,_,b0,qk⟩:=Bw hq;have qc:=HE b0;have qb:gI 4 c<=65536:=Nat.le_trans (tH.b fq) az;have qd:Dq c<=8:=Nat.le_trans (tH.d fq) az;have gq:gO sc c:=⟨qk,U1 (s:=sc) (ps:=[]) ay c qk qw,aC⟩
 have J:=WY D g;have om:=((o1.trans o2).trans o3).trans o7;have d2:=ht.new a' om;have U:=rS.mono (a1.trans a2);have V:=rq.mono a2;have ge:=De c gq;have es:=Ls c gq;have a3:nI (fX c)=true:=bmX aC aC;have b1:(fI sc [] (fX c)).2=0:=by rw[boZ a0 a3 ge.1.k]
 have a4:=EF gq.k;have c6:=g.len;have M:=fun(ls:List br) O=>bgQ (st:=st) (ls:=ls) gq O;have a5:=bvZ J T.val g.few ge.1;refine⟨v,a,sc,c,rfl,U,V,hq,λw h8 F b3 _=>?_⟩;refine⟨E,st,a,c,rfl,T.mono F,V.mono F,aC,λt h=>by have:=a4 t h;omega,λP h9 W lv=>?_⟩;have C:=YY D g a4;have b4:=CL c;have a6:=WK st c;generalize jO st c=L at C lv M a6;have d3:=C.len;have c7:=bL.slen lv;have b5:∀{n},PH.le h9 n->Leaves n P L:=fun{n} le=>bL.mono lv le λl s S=>bL.mono S le λr t hv=>bS.mono hv le;refine⟨λz=>z.1<=L.length/\∃G y n,z.2=(cb,v,a,E,w,P,G,y,n)/\bD y n cb/\bP m7 y cb/\PH.le h9 n/\∃ls,B9 n G ls/\LQ ls L z.1,λz=>L.length-z.1,⟨(0,cb,v,a,E,w,P,[],m7,h9),⟨ay,[],m7,h9,rfl,c0.mono (F.trans W),bP.refl _ _,.refl _,[],B9.nil h9,⟨rfl,λj l h=>by simp at h⟩⟩,MT⟩,?_⟩;rintro⟨i,z⟩ ⟨hi,G,y,n,e,cx,ox,lex,ls,hu,O⟩;dsimp only at hi e O;subst e;dsimp only;have d4:=hu.len;have c8:=O.len;refine aF (λd5=>?_) (λd6=>?_)
 .have e1:L[i]? =some L[i]:=getElem?_eq_getElem aC;have et:(dW c)[i]? =some ((dW c)[i]'(by omega)):=getElem?_eq_getElem aC;obtain⟨Q,_,_⟩:=C.at_ i _ _ et e1;have b6:=Q.len;obtain⟨b,o,u,ea,rd,S⟩:=bL.at (b5 lex) e1;have R:=bL.slen S;generalize L[i]=l at S Q b6 R e1;refine⟨b,o,ea,aC,aC,u,.imm rd,λz=>z.1<=l.length/\∃rs part Y,z.2=(rs,u,i,cb,v,a,E,w,P,G,Y,n)/\bD Y n cb/\bP y Y cb/\eX n rs part/\part.Sublist (l.take z.1),λz=>l.length-z.1,⟨(0,[],u,i,cb,v,a,E,w,P,G,y,n),⟨ay,[],[],y,rfl,cx,bP.refl _ _,eX.nil n,ay⟩,MT⟩,?_⟩;rintro⟨j,z⟩ ⟨hj,rs,part,Y,e,cy,oy,H,f⟩;dsimp only at hj e f;subst e;dsimp only;have d7:=H.len;have a7:=f.length_le;rw[length_take]at a7;refine aF (λa8=>?_) (λc9=>?_)
  .obtain⟨r,a9⟩:=eV R a8;obtain⟨b2,o2,ur,b7,b8,hv⟩:=bL.at S a9;have d8:l.take (j+1)=l.take j++[r]:=by rw[take_add_one,a9];rfl
   rw[iS aC];refine⟨b2,o2,b7,aC,aC,ur,.imm b8,cb,3,rfl,aC,aC,cy,λd mz oz cz=>aD (λ_=>?_) (λ_=>?_)⟩
   .refine⟨bg,bg,(j+1,rs++[ur],u,i,cb,v,a,E,w,P,G,mz,n),⟨aC,rs++[ur],part++[r],mz,rfl,cz,oy.trans oz,H.snoc hv,bg⟩,aC,by rw[map_append];exact MT⟩
   .exact⟨(j+1,rs,u,i,cb,v,a,E,w,P,G,mz,n),⟨aC,rs,part,mz,rfl,cz,oy.trans oz,H,bg⟩,aC,MT⟩
  .rw[take_of_length_le aC]at f;intro sp hy I b9;have c':Rows hy sp part:=(H.mono I).rows b9 aC;rw[iS aC];refine⟨bg,bg,(i+1,cb,v,a,E,w,P,G++[sp],Y,hy),⟨aC,G++[sp],Y,hy,rfl,cy.mono I,ox.trans oy,lex.trans I,ls++[part],(hu.mono I).snoc c',O.snoc e1 f⟩,aC,?_⟩;rw[map_append];exact MT
 .have c4:i=L.length:=by omega
  subst c4;have oX:=om.trans ox;have X:=ht.new a' oX;have lx:PH.le h7 n:=(F.trans W).trans lex;intro s3 g1 f1 c5;refine⟨v,sc,s3,ls,a,c,4,rfl,U.mono (lx.trans f1),(hu.mono f1).leaves c5 aC,V.mono (lx.trans f1),hq,aC,O.over C,aC,X,λt1 g2 f2 q1=>?_⟩;have l2:=lx.trans (f1.trans f2);refine⟨v,sc,E,st,w,fX c,rfl,U.mono l2,T.mono l2,b3.mono (W.trans (lex.trans (f1.trans f2))),a3,X,b1,J,⟨4,aC,g.few,ge.1.bnd⟩,λt2 g3 f3 q2=>?_⟩;have r1:Rows g3 t1 (iO ls c 0).1:=bL.mono q1 f3 λr t hv=>bS.mono hv f3;have E1:=Lp aC gq.k (O.over C).leaf (by omega:gI 4 c<=8000000);refine⟨rfl,X,t1,t2,false,_,_,rfl,r1,q2,a5.1,E1.rel.len,λs5 g5 f5 q5=>?_⟩;rw[M ls O]at q5;have hz:=bL.slen q5;rw[hz];exact hK _ _ (sub oX)
end Go.Ps
