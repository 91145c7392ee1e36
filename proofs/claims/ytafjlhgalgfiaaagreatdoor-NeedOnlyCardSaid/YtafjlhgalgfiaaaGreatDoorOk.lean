/- Own work. -/
import Derived.Test.YtafjlhgalgfiaaaGreatDoorOj
set_option linter.unusedVariables false
set_option linter.unusedSimpArgs false
namespace Go.Ps
open Go Go.Vc Go.Proofs List Tryz
variable{K:cq}{m:MH}{h:PH}{s:jZ}{ps:cn}{ts:de}{cb:Nat}{sc:bT}{v:QV}{t:Step}{p:Pred}{l:cn}{i:Nat}{N:Nat}{m':MH}{h':PH}{co:cn}{gr:cn}{od:cv}{ta:Int}{li:Int}{xs:List cr}{sz:Nat}{ks:List cn}{rs:cn}{r:Sl}{a:cn}{b:Nat}
def NK:Vc.Spec:=λd m h K=>∃sc e v s c q,d=[aS sc,aSt e,aQ v]/\iU h s sc/\DG h e c/\dO h q v/\tT q=true/\eK m/\((eH s [] q).2=0->OF s q)/\jL s c=0/\(∀l∈c,l.length<=4)/\
 ∀f h',PH.le h h'->((eH s [] q).2=0->Leaves h' f ((mK (pZ s) q (eC q)).map (dY c)))->K (.tup [cS f,cI (eH s [] q).2]) m h'
theorem Rs:cm 18 NK:=HU bgJ λ_ m h K⟨sc,u,v,s,f,q,e,y,c,z,g,A,d,j,n,o⟩=>⟨sc,u,v,s,f,q,e,y,c,z,g,A,λh=>(d h).ok h,
 λh=>⟨(d h).valid,λ_=>let x:=(d h).run f j c.val n;⟨x.1,x.2.1⟩⟩,λh h' le=>o cH h' le (λe=>(h e).elim),λ_ h=>(h j).elim,λh _ B h' le C=>by
  have:=o B h' le (λ_=>by rw[<-((d h).run f j c.val n).2.2];exact C)
  grind⟩
def b8X:Vc.Spec:=λc m h K=>c=[]/\eK m/\K (cB true) m h
def Ru(m:MH)(h:PH)(K:cq):Prop:=
  cK h 2 (mJ (rX (ByteArray.mk (Array.mk Lh)) 4) (rX (ByteArray.mk (Array.mk (dN 112 (dN 114 (dN 111 (dN 106 K4)))))) 4)) (λs h1=>cK h1 2 (mJ (rX (ByteArray.mk (Array.mk Lh)) 4) (rX (ByteArray.mk (Array.mk (dN 112 (dN 114 (dN 111 (dN 106 K4)))))) 4)) (λs1 h2=>∃(n:Int),mG 1 n/\∃(D:Int),mG 7 D/\∃(E:Int),mG 2 E/\∃(F:Int),mG 7 F/\∃(G:Int),mG 3 G/\∃(H:Int),mG 7 H/\cK h2 3 (mJ (A3 n) (A3 D)) (λu h3=>cK h3 3 (mJ (A3 E) (A3 F)) (λI h4=>cK h4 3 (mJ (A3 G) (A3 H)) (λs4 h5=>∃(J:Int),mG 9 J/\∃(L:Int),mG 7 L/\cK h5 3 (mJ (A3 J) (A3 L)) (λs5 h6=>cK h6 1 (aL u::mJ (aL I) (aL s4)) (λs6 h7=>
 cK h7 1 (mJ (aL u) (aL s5)) (λs7 h8=>cK h8 21 (mJ (bG (gZ 1) bF (bG bF bF (bG bF bF (bG bF bF (tY pF (tX pF gW)))))) (Cq 1)) (λs8 h9=>cK h9 5 (mJ (bG (Value.string (ByteArray.mk (Array.mk (dN 116 (dN 97 (dN 115 (dN 107 (yM 115)))))))) (dW s) (bG (gZ 1) pF gW)) (bG (Value.string (ByteArray.mk (Array.mk (dN 97 (dN 114 (dN 99 (dN 104 (IE 105 118 101 100)))))))) (dW s1) (bG (gZ 1) pF gW))) (λM a=>cK a 1 (mJ (aL s6) (aL s7)) (λa1 a2=>cK a2 1 (mC (bC 1)) (λO a4=>cK a4 21 (mC (bG (gZ 7) bF (bG bF bF (bG bF bF (bG bF bF (tY pF (tX pF (aL s8)))))))) (λP z=>Ex (λQ R=>∃(v:QV),Vl (λd b=>∃(q:Query),aA (cE (kC bF
 (dW M)) (eU (aL a1) (jO (bG (gZ 9) bF (bG bF bF (bG bF bF (bG bF bF (tY pF (bG pF (dW O) (bG pF (gZ 1) (aL P))))))))))=cE (cC Q) (eU (aL R) (cM v))) (iU z d Q) (aA (DG z R b) (dO z q v) (aA (CL q) (eK m) (aA (AJ d q=0->OF d q) (jL d b=0) (F0 b (λl=>l.length<=4)/\∀(f:Sl)(g:PH),bS z g (AJ d q=0->Leaves g f (List.map (dY b) (mK (pZ d) q (eC q)))) (∃(S:bT)(T:QV)(U:jZ)(A:Query),aA (eU (kC bF (dW M)) (jO (bG (gZ 9) bF (bG bF bF (bG bF bF (bG bF bF (tY pF (bG pF (dW O) (bG pF (gZ 1) (aL P)))))))))=eU (cC S) (cM T)) (iU g U S) (aA (dO g A T) (AJ U A=0) (∀(B:QV)(e:PH),bS g e (dO e (eC A)
 B) (gS (B.op=opE A) (AJ d q==0) (fC B.op 1 (fC (aG f) 2 (bK (λV o=>aA (aR f.a V o) ((0:Int)<=0) (0<aG f/\∃(y:Sl),aK m e V (o+0) (aL y)/\cK e 1 (mJ (aL u) (aL I)) (λb7 j=>∃(W:Sl),JO (λt c X=>aA (cD y b7=cD W t) (Rows j W c) (Rows j t X/\∀(r:Bool),gS (iX r↔c=X) r (bK (λY Z=>aA (aR f.a Y Z) ((0:Int)<=1) (1<aG f/\∃(y1:Sl),aK m j Y (Z+1) (aL y1)/\cK j 1 (mC (aL u)) (λc3 C=>∃(c5:Sl),JO (λt1 c6 c7=>aA (cD y1 c3=cD c5 t1) (Rows C c5 c6) (Rows C t1 c7/\∀(r1:Bool),(iX r1↔c6=c7)->K (Aw r1) m C)))))) (K bD m j))))))) (K bD m e)) (K bD m e)) (K bD m e))))))))))))))))))))))))
def nV(n:Int):VV:=⟨4,n,⟨#[]⟩⟩
def SU:List qE:=[⟨⟨⟨[105,100]⟩⟩,4⟩,⟨⟨⟨[112,114,111,106,101,99,116]⟩⟩,4⟩]
def nT1:AE:=⟨⟨⟨[116,97,115,107,115]⟩⟩,SU,1,[],[]⟩
def nT2:AE:=⟨⟨⟨[97,114,99,104,105,118,101,100]⟩⟩,SU,1,[],[]⟩
def nS:jZ:=⟨0,[nT1,nT2]⟩
def nR1:ct:=[[nV 1,nV 7],[nV 2,nV 7],[nV 3,nV 7]]
def nR2:ct:=[[nV 1,nV 7],[nV 9,nV 7]]
def Zt:List ct:=[nR1,nR2]
def AB(t:Int):Query:=.mk 1 t gG [] [] [] [] 0 []
def nM:Query:=.mk 7 0 gG [] [] [] [] 0 [AB 0,AB 1]
def nQ:Query:=.mk 9 0 gG [] [] [1] [] 1 [nM]
theorem bvX:eX nS=0:=bqZ az (λt c=>by simp[nS]at c;rcases c with rfl|rfl<;>exact⟨az,rfl,rfl⟩) az az (by
 refine BH ⟨⟨?_,?_,?_,?_,BH ⟨⟨?_,?_,?_⟩,⟨?_,?_,?_⟩,trivial⟩⟩,⟨?_,?_,?_,?_,BH ⟨⟨?_,?_,?_⟩,⟨?_,?_,?_⟩,trivial⟩⟩,trivial⟩
 all_goals first|rfl|(simp[nT1,nT2,SU];done)|decide)
theorem Od{t:Int}(c:0<=t)(d:t<2):aJ nS [] (AB t)=([4,4],0):=by
 have e:kH nS t=[4,4]:=by
  have:t=0\/t=1:=by omega
  rcases this with rfl|rfl<;>rfl
 have:=QR (s:=nS) (ps:=[]) (t:=t) c (by show t<2;exact d) bg;rw[e]at this;exact this
theorem bvJ:aJ nS [] nM=([4,4],0):=by
 unfold nM;rw[a0X az (Od (t:=0) az az) (Od (t:=1) az az)];unfold eZ;rw[if_neg (by simp[arity,cY])];dsimp only;rw[if_neg az,if_neg az,if_neg az,if_neg az,if_neg az,if_neg az,if_neg az,if_pos rfl,Lz az]
theorem QJ:aJ nS [] nQ=([4,4],0):=by
 unfold nQ;rw[MJ az bvJ];unfold eZ;rw[if_neg (by simp[arity,cY])];dsimp only;rw[if_neg az,if_neg az,if_neg az,if_neg az,if_neg az,if_pos rfl,if_pos ⟨BH ⟨⟨az,ay⟩,trivial⟩,BH trivial,az,az,az⟩,Lz az]
theorem cTJ:eH nS [] nQ=([4,4],0):=by
 unfold eH;rw[if_pos bvX,if_pos (by rfl),if_pos (by rfl),QJ]
theorem bvQ(t:Int):QW (AB t):=Kq t
theorem cTZ:QW nQ:=Mv.2 ⟨qY,λa c=>by
 simp at c;subst c;exact Mv.2 ⟨qY,λb d=>by simp at d;rcases d with rfl|rfl<;>exact bvQ _⟩⟩
theorem cdZ:fS nS nQ:=⟨by rw[QJ],Vw (s:=nS) (ps:=[]) ay nQ (by rw[QJ]) cTZ,az⟩
theorem cdX:OF nS nQ:=SR (B:=8) bvX cdZ az az az
theorem cMX:jL nS Zt=0:=by
 unfold jL;rw[if_neg (by simp[bvX]),if_neg az,if_neg az,if_pos];have j:∀n,CP 1 4 0 (nV n)=true/\CP 1 4 1 (nV n)=true:=λn=>by simp[CP,nV,boZ]
 have y:∀t,t=nT1\/t=nT2->∀a b,G3 t [nV a,nV b]=true:=λt e a b=>HE.2 ⟨by rcases e with rfl|rfl<;>rfl,λi o=>by
  have d:t.key=1:=by rcases e with rfl|rfl<;>rfl
  have c:t.columns=SU:=by rcases e with rfl|rfl<;>rfl
  rw[d,c]
  match i,o with
  |0,_=>exact(j _).1
  |1,_=>exact(j _).2
  |i+2,o=>grind⟩
 intro i t l e f
 match i,e,f with
 |0,e,f=>
  simp[nS]at e;simp[Zt]at f;subst e f;refine⟨λr g=>?_,λi r u d c=>?_⟩
  .simp[nR1]at g
   grind
  .match i,d,c with
   |0,d,c=>simp[nR1]at d c;subst d c;decide
   |1,d,c=>simp[nR1]at d c;subst d c;decide
   |i+2,d,c=>simp[nR1]at c
 |1,e,f=>
  simp[nS]at e;simp[Zt]at f;subst e f;refine⟨λr g=>?_,λi r u d c=>?_⟩
  .simp[nR2]at g
   grind
  .match i,d,c with
   |0,d,c=>simp[nR2]at d c;subst d c;decide
   |i+1,d,c=>simp[nR2]at c
 |i+2,e,f=>simp[nS]at e
theorem cNQ(wd:Query->Int)(D:Query):mK wd nQ D=[DO (mN (AB 0) D (sA [1])) nM [1] [] 1,kI (kI (AB 1) (DO (mN (AB 0) D (sA [1])) nM [1] [] 1)) (AB 0)]:=by
 have c:eC nM=AB 0:=by rfl
 have d:eC (AB 1)=AB 1:=by rfl
 have s:∀t E,mK wd (AB t) E=[E]:=λt E=>by unfold AB;rw[mK.eq_def];grind
 have m:∀E,mK wd nM E=mK wd (AB 0) E++mK wd (AB 1) (kI (kI (eC (AB 1)) E) (AB 0)):=λE=>by
  unfold nM;rw[mK.eq_def];grind
 unfold nQ;rw[mK.eq_def]
 grind
theorem bvZ:eC nQ=AB 0:=by rfl
theorem cMZ:(mK (pZ nS) nQ (eC nQ)).map (dY Zt)=[[[nV 1,nV 7],[nV 2,nV 7]],[[nV 1,nV 7]]]:=by
 rw[cNQ,bvZ];rfl
theorem cMJ:opE nQ=1:=by rw[opE,bvZ];rfl
theorem OX{s:Sl}{l:cz}(r:dH h s 3 (l.map VV.enc))(d:l.length<=1000):bQ h s l:=⟨⟨l,r,rfl,λi x c=>⟨x,c,rfl⟩⟩,aC⟩
theorem OY{h:PH}{s:Sl}{us:cw}{l:ct}(r:dH h s 1 (us.map eS))(c:us.length=l.length)(hx:∀(i:Nat)(x:cz),l[i]? =some x->∃u,us[i]? =some u/\bQ h u x)(d:l.length<=1000):Rows h s l:=⟨⟨us,r,c.symm,hx⟩,aC⟩
theorem bhQ:cm 17 b8X:=by
 refine EY func17 ?_;rintro a2 m h K ⟨rfl,ht,hK⟩;refine⟨dK [(56,cXJ),(18,NK),(29,aSZ),(16,bZJ)] [] [] [] false,rfl,aE aw (aE Rs (aE bcQ (aE TR aH))),Ru m h (lZ h K),ax,?_⟩;show Ru m h (lZ h K);dsimp only[Ru,push_cast];intro c1 h1 G r1 c2 h2 H r2;refine⟨1,rfl,7,rfl,2,rfl,7,rfl,3,rfl,7,rfl,λz h3 I r3 J h4 L r4 rc h5 M r5=>⟨9,rfl,7,rfl,?_⟩⟩;intro rd h6 O r6 ta h7 P r7 tb h8 Q r8 qs h9 R r9 tabs ha S xa A hb T xb gr hc U xc qm c B xd;have lc:=U.trans B;have lb:=T.trans lc;have la:=S.trans lb;have l9:=R.trans la;have l8:=Q.trans l9;have l7:=P.trans l8;have l6:=O.trans l7;have l5:=M.trans l6;have l4:=L.trans l5;have l3:=I.trans l4;have l2:=H.trans l3;have va:bQ c z [nV 1,nV 7]:=OX (r3.mono l4) ay;have vb:bQ c J [nV 2,nV 7]:=OX (r4.mono l5) ay;have vc:bQ c rc [nV 3,nV 7]:=OX (r5.mono l6) ay;have vd:bQ c rd [nV 9,nV 7]:=OX (r6.mono l7) ay
 have rq:dO c nQ ⟨9,0,jT,cH,cH,gr,cH,1,qm⟩:=uE.rep ⟨rfl,rfl,EI c,oL c,vM c,⟨xc.mono B,ay⟩,vK c,rfl,ER (v:=⟨7,0,jT,cH,cH,cH,cH,0,qs⟩) xd (uE.rep ⟨rfl,rfl,EI c,oL c,vM c,oL c,vK c,rfl,⟨⟨[⟨1,0,jT,cH,cH,cH,cH,0,cH⟩,⟨1,1,jT,cH,cH,cH,cH,0,cH⟩],r9.mono la,rfl,λi x e=>by
  match i,e with
  |0,e=>simp at e;subst e;exact⟨_,rfl,EO c 0⟩
  |1,e=>simp at e;subst e;exact⟨_,rfl,EO c 1⟩
  |i+2,e=>simp at e⟩,ay⟩⟩)⟩
 have rS:iU c nS ⟨0,tabs⟩:=⟨rfl,⟨⟨[⟨nT1.name,c1,1,cH,cH⟩,⟨nT2.name,c2,1,cH,cH⟩],xa.mono lb,rfl,λi x e=>by
  match i,e with
  |0,e=>simp[nS]at e;subst e;exact⟨_,rfl,⟨rfl,Jb (l:=SU) (r1.mono l2) az,rfl,bM.nil _ _ _ _,bM.nil _ _ _ _⟩⟩
  |1,e=>simp[nS]at e;subst e;exact⟨_,rfl,⟨rfl,Jb (l:=SU) (r2.mono l3) az,rfl,bM.nil _ _ _ _,bM.nil _ _ _ _⟩⟩
  |i+2,e=>simp[nS]at e⟩,by simp[nS]⟩⟩
 have t1:Rows c ta nR1:=OY (us:=[z,J,rc]) (r7.mono l8) rfl (λi x e=>by
  match i,e with
  |0,e=>simp[nR1]at e;grind
  |1,e=>simp[nR1]at e;grind
  |2,e=>simp[nR1]at e;grind
  |i+3,e=>simp[nR1]at e) az
 have t2:Rows c tb nR2:=OY (us:=[z,rd]) (r8.mono l9) rfl (λi x e=>by
  match i,e with
  |0,e=>simp[nR2]at e;grind
  |1,e=>simp[nR2]at e;grind
  |i+2,e=>simp[nR2]at e) az
 have V:DG c A Zt:=⟨⟨⟨[ta,tb],xb.mono lc,rfl,λi x e=>by
  match i,e with
  |0,e=>simp[Zt]at e;grind
  |1,e=>simp[Zt]at e;grind
  |i+2,e=>simp[Zt]at e⟩,by simp[Zt]⟩,by simp[Zt],λl f r C v F=>by
   have:∃n,v=nV n:=by
    simp[Zt]at f;rcases f with rfl|rfl<;>simp[nR1,nR2]at C
    .grind
    grind
   have hn:uY v.kind/\uY v.int:=by
    simp[Zt]at f;rcases f with rfl|rfl<;>simp[nR1,nR2]at C
    .rcases C with rfl|rfl|rfl<;>simp at F<;>rcases F with rfl|rfl<;>exact⟨by constructor<;>decide,by constructor<;>decide⟩
    .rcases C with rfl|rfl<;>simp at F<;>rcases F with rfl|rfl<;>exact⟨by constructor<;>decide,by constructor<;>decide⟩
   exact hn⟩
 have D:(eH nS [] nQ).2=0:=by rw[cTJ]
 refine⟨⟨0,tabs⟩,A,⟨9,0,jT,cH,cH,gr,cH,1,qm⟩,nS,Zt,nQ,rfl,rS,V,rq,rfl,ht,λ_=>cdX,cMX,λl f=>by
  have f:l∈Zt:=f;simp[Zt]at f;rcases f with rfl|rfl<;>decide,λs' he o f=>⟨⟨0,tabs⟩,⟨9,0,jT,cH,cH,gr,cH,1,qm⟩,nS,nQ,rfl,rS.mono o,rq.mono o,D,λv' hf g _ ho=>?_⟩⟩
 have f:=f D;rw[cMZ]at f;have f:=bM.mono f g λ_ _ x=>bM.mono x g λ_ _ y=>bQ.mono y g;have E:=bM.slen f;have E:s'.len=2:=E;obtain⟨b1,o1,u1,W,X,Y⟩:=bM.at f (i:=0) rfl;obtain⟨b2,o2,u2,Z,a',a0⟩:=bM.at f (i:=1) rfl;have j:=o.trans g
 refine aD (λ_=>aD (λ_=>aD (λ_=>⟨b1,o1,W,aC,aC,u1,.imm (by simpa[eS]using X),λs1 hg d rg=>⟨u1,s1,[[nV 1,nV 7],[nV 2,nV 7]],[[nV 1,nV 7],[nV 2,nV 7]],rfl,bM.mono Y d λ_ _ y=>bQ.mono y d,OY (us:=[z,J]) rg rfl (λi x e=>by
  match i,e with
  |0,e=>simp at e;subst e;exact⟨_,rfl,va.mono (j.trans d)⟩
  |1,e=>simp at e;subst e;exact⟨_,rfl,vb.mono (j.trans d)⟩
  |i+2,e=>simp at e) az,λr C=>aD (λ_=>⟨b2,o2,Z,aC,aC,u2,.imm (by simpa[eS]using a'.mono d),λs2 hh u rh=>⟨u2,s2,[[nV 1,nV 7]],[[nV 1,nV 7]],rfl,bM.mono a0 (d.trans u) λ_ _ y=>bQ.mono y (d.trans u),OY (us:=[z]) rh rfl (λi x e=>by
   match i,e with
   |0,e=>simp at e;subst e;exact⟨_,rfl,va.mono ((j.trans d).trans u)⟩
   |i+1,e=>simp at e) az,λr2 a1=>?_⟩⟩) (λe=>?_)⟩⟩) (λe=>?_)) (λe=>?_)) (λe=>?_)
 .rw[a1.2 rfl];exact .out (Sub.refl m) (((((G.trans l2).trans o).trans g).trans d).trans u) hK
 .grind
 .grind
 .rw[ho,cMJ]at e;cases e
 .grind
theorem Qu:∀{A B:Rel},A.Nodup->(∀x∈A,x∈B)->A.length<=B.length
 |[],B,_,_=>Nat.zero_le _
 |a::A,B,f,c=>by
  classical
  have n:a∈B:=c a ay;obtain⟨g,j⟩:=nodup_cons.1 f;have o:=Qu (B:=B.erase a) j λx d=>(mem_erase_of_ne (show x≠a fromλe=>g (e▸d))).2 (c x (by simp[d]))
  grind
theorem bUQ{p:cz->Bool}{A B:Rel}(c:A.Nodup)(h:∀x∈A,p x=true->x∈B):A.countP p<=B.countP p:=by
 rw[countP_eq_length_filter,countP_eq_length_filter]
 exact Qu (c.filter _) λx d=>by
  grind
theorem bTJ{p q:cz->Bool}{y:cz}(e:q y=true)(f:p y=false):∀{A:Rel},(∀z∈A,p z=true->q z=true)->y∈A->A.countP p<A.countP q
 |[],_,h=>by simp at h
 |a::A,h,c=>by
  have g:A.countP p<=A.countP q:=countP_mono_left λz d=>h z (by simp[d]);rw[countP_cons,countP_cons];rcases mem_cons.1 c with rfl|c
  .grind
  .have j:=bTJ e f (λz d=>h z (by simp[d])) c
   grind
def E9(gr:cn)(od:cv)(b:Rel)(x:cz):Nat:=b.countP λy=>uF gr x y&&decide (j5 od y x<0)
theorem cyX{w:Nat}{a b c:cz}(d:a.length=w)(f:b.length=w)(g:c.length=w)(j:j5 od a b<0)(n:j5 od b c<0):j5 od a c<0:=by
 have:=atJ (w:=w) (od:=od) d f g aC aC;rcases Int.lt_or_eq_of_le this with h|h
 .exact h
 .have e:=Ux d g h;subst e;have:=AR (od:=od) d f;omega
theorem bUJ{w:Nat}{a:cz}(c:a.length=w):¬j5 od a a<0:=by
 have:=AR (od:=od) c c;omega
theorem auJ{w:Nat}{b:Rel}(d:∀r∈b,r.length=w){x y:cz}(hx:x.length=w)(f:y.length=w)(c:uF gr x y=true)(g:j5 od y x<0):∀z∈b,(uF gr y z&&decide (j5 od z y<0))=true->(uF gr x z&&decide (j5 od z x<0))=true:=λz j e=>by
 simp only[bz,ce,EP]at e c⊢
 exact⟨c.trans e.1,cyX (d z j) f hx e.2 g⟩
theorem YM{w:Nat}{gr:cn}{od:cv}{li:Int}{E S V:Rel}(C:E.Nodup)(D:S.Nodup)(F:∀x∈E,x∈V)(G:∀x∈S,x∈V)(B:∀r∈V,r.length=w){o:cz}
 (H:∀z∈V,uF gr z o=true->((E9 gr od S z:Nat):Int)<li->(z∈E↔z∈S)):∀(n:Nat)(x:cz),E9 gr od S x=n->x.length=w->uF gr x o=true->(((E9 gr od E x:Nat):Int)<li↔((E9 gr od S x:Nat):Int)<li):=by
 have I:∀r∈E,r.length=w:=λr h=>B r (F r h);have u:∀r∈S,r.length=w:=λr h=>B r (G r h);intro n
 induction n using Nat.strongRecOn with
 |_ n J=>
  intro x O A P;have L:∀{y:cz},uF gr x y=true->uF gr y o=true:=fun{y} h=>by rw[EP]at*;grind
  have mono:∀{y:cz},y.length=w->uF gr x y=true->j5 od y x<0->E9 gr od S y<=E9 gr od S x:=fun{y} d f g=>countP_mono_left (auJ u A d f g);by_cases j:((E9 gr od S x:Nat):Int)<li
  .refine iff_of_true ?_ j
   have:E9 gr od E x<=E9 gr od S x:=bUQ C λy d e=>by
    grind
   omega
  .refine iff_of_false ?_ j;by_cases M:∃y∈S,uF gr x y=true/\j5 od y x<0/\li<=((E9 gr od S y:Nat):Int)
   .obtain⟨y,d,f,g,Q⟩:=M;have c:=u y d;have R:E9 gr od S y<E9 gr od S x:=bTJ (y:=y) (by simp[f,g]) (by simp[bUJ c]) (auJ u A c f g) d;have T:=J _ aC y rfl c (L f);have U:E9 gr od E y<=E9 gr od E x:=countP_mono_left (auJ I A c f g);omega
   .have:E9 gr od S x<=E9 gr od E x:=bUQ D λy d e=>by
     grind
    omega
theorem bRJ{ls:dr}{op:Int}{w:Pred}{on:cu}{a:Query}{k:Nat}(h:op≠1):(gQ ls (.mk op ta w co on gr od li [a]) k).1=ET op (.mk op ta w co on gr od li [a]) [(gQ ls a k).1]:=by
 rw[gQ,if_neg h,gM,gM]
theorem bRZ{ls:dr}{op:Int}{w:Pred}{on:cu}{a b:Query}{k:Nat}(h:op≠1):(gQ ls (.mk op ta w co on gr od li [a,b]) k).1=ET op (.mk op ta w co on gr od li [a,b]) [(gQ ls a k).1,(gQ ls b (gQ ls a k).2).1]:=by
 rw[gQ,if_neg h,gM,gM,gM]
theorem P8{st:dr}{op:Int}{w:Pred}{on:cu}{a:Query}(h:op≠1):dY st (.mk op ta w co on gr od li [a])=ET op (.mk op ta w co on gr od li [a]) [dY st a]:=by
 rw[dY,if_neg h,Ax,Ax]
theorem C9{st:dr}{op:Int}{w:Pred}{on:cu}{a b:Query}(h:op≠1):dY st (.mk op ta w co on gr od li [a,b])=ET op (.mk op ta w co on gr od li [a,b]) [dY st a,dY st b]:=by
 rw[dY,if_neg h,Ax,Ax,Ax]
def b4Z(on:cu)(y z:cz):Prop:=wP (jG on) y=true/\(wP (eG on) z&&agree on y z)=true
section
variable{ta:Int}{w:Pred}{co:cn}{on:cu}{gr:cn}{od:cv}{li:Int}{zs:db}{A B:Rel}{x:cz}
theorem op2:x∈ET 2 (.mk 2 ta w co on gr od li zs) [A]↔x∈A/\oJ x w=true:=by
 rw[ET,if_pos rfl];exact mem_filter
theorem op3:x∈ET 3 (.mk 3 ta w co on gr od li zs) [A]↔∃r∈A,pick r co=x:=by
 rw[ET,if_neg az,if_pos rfl];show x∈Fp _↔_;rw[Da,mem_map];rfl
theorem op4:x∈ET 4 (.mk 4 ta w co on gr od li zs) [A,B]↔∃y∈A,∃z∈B,b4Z on y z/\y++z=x:=by
 rw[ET,if_neg az,if_neg az,if_pos rfl];show x∈A.flatMap (kQ on B)↔_;rw[mem_flatMap];refine exists_congr λy=>and_congr_right λc=>?_;unfold kQ;split
 .rename_i h;rw[mem_map];refine exists_congr λz=>?_;rw[mem_filter];exact⟨λe=>⟨e.1.1,⟨h,e.1.2⟩,e.2⟩,λe=>⟨⟨e.1,e.2.1.2⟩,e.2.2⟩⟩
 .rename_i h;exact⟨λe=>by simp at e,λ⟨z,_,e,_⟩=>absurd e.1 h⟩
theorem op5:x∈ET 5 (.mk 5 ta w co on gr od li zs) [A,B]↔x∈A/\∃y∈B,agree on x y=true:=by
 rw[ET,if_neg az,if_neg az,if_neg az,if_pos rfl];show x∈A.filter (λx=>B.any λy=>agree on x y)↔_
 grind
theorem op6:x∈ET 6 (.mk 6 ta w co on gr od li zs) [A,B]↔x∈A\/x∈B:=by
 simp only[ET,show((6:Int)=2)=False by simp,show((6:Int)=3)=False by simp,show((6:Int)=4)=False by simp,show((6:Int)=5)=False by simp,if_false,if_true];exact cdJ
theorem op7:x∈ET 7 (.mk 7 ta w co on gr od li zs) [A,B]↔x∈A/\x∉B:=by
 simp only[ET,show((7:Int)=2)=False by simp,show((7:Int)=3)=False by simp,show((7:Int)=4)=False by simp,show((7:Int)=5)=False by simp,show((7:Int)=6)=False by simp,if_false,if_true];exact ceQ
theorem op8:x∈ET 8 (.mk 8 ta w co on gr od li zs) [A,B]↔x∈A/\x∈B:=by
 simp only[ET,show((8:Int)=2)=False by simp,show((8:Int)=3)=False by simp,show((8:Int)=4)=False by simp,show((8:Int)=5)=False by simp,show((8:Int)=6)=False by simp,show((8:Int)=7)=False by simp,if_false,if_true];exact ceX
theorem op9:x∈ET 9 (.mk 9 ta w co on gr od li zs) [A]↔x∈A/\((E9 gr od A x:Nat):Int)<li:=by
 simp only[ET,show((9:Int)=2)=False by simp,show((9:Int)=3)=False by simp,show((9:Int)=4)=False by simp,show((9:Int)=5)=False by simp,show((9:Int)=6)=False by simp,show((9:Int)=7)=False by simp,show((9:Int)=8)=False by simp,if_false,if_true];show x∈yS gr od li A A↔_;rw[yS,mem_filter,ce];rfl
theorem cMQ:x∈ET 10 (.mk 10 ta w co on gr od li zs) [A,B]↔x∈A/\((E9 gr od B x:Nat):Int)<li:=by
 simp only[ET,show((10:Int)=2)=False by simp,show((10:Int)=3)=False by simp,show((10:Int)=4)=False by simp,show((10:Int)=5)=False by simp,show((10:Int)=6)=False by simp,show((10:Int)=7)=False by simp,show((10:Int)=8)=False by simp,show((10:Int)=9)=False by simp,if_false];show x∈yS gr od li A B↔_;rw[yS,mem_filter,ce];rfl
end
theorem fS.cases{op:Int}{w:Pred}{on:cu}{args:db}(g:fS s (.mk op ta w co on gr od li args)):
 (op=1/\args=[])\/(∃a,args=[a]/\fS s a/\(op=2\/op=3\/op=9))\/(∃a b,args=[a,b]/\fS s a/\fS s b/\(op=4\/op=5\/op=6\/op=7\/op=8\/op=10)):=by
 obtain⟨n,e,c,f⟩:=g.node;have d:op=1\/(op=2\/op=3\/op=9)\/(op=4\/op=5\/op=6\/op=7\/op=8\/op=10):=by omega
 rcases d with rfl|h|h
 .exact .inl ⟨rfl,eq_nil_of_length_eq_zero (by have:arity 1=0:=rfl;omega)⟩
 .obtain⟨a,rfl⟩:=Fv (l:=args) (by rw[c];rcases h with rfl|rfl|rfl<;>rfl)
  grind
 .obtain⟨a,b,rfl⟩:=rU (l:=args) (by rw[c];rcases h with rfl|rfl|rfl|rfl|rfl|rfl<;>rfl)
  grind
theorem EN{op ta:Int}{w:Pred}{co:cn}{on:cu}{gr:cn}{od:cv}{li:Int}{a:Query}(h:op≠1):bR (.mk op ta w co on gr od li [a])=bR a:=by
 simp[bR,dU,h]
theorem EM{op ta:Int}{w:Pred}{co:cn}{on:cu}{gr:cn}{od:cv}{li:Int}{a b:Query}(h:op≠1):bR (.mk op ta w co on gr od li [a,b])=bR a++bR b:=by
 simp[bR,dU,h]
theorem LN{s:jZ}{ls:dr}:∀(q:Query)(k:Nat),fS s q->(gQ ls q k).2=k+(bR q).length
 |.mk op ta w co on gr od li args,k,g=>by
  rcases g.cases with⟨rfl,rfl⟩|⟨a,rfl,d,h⟩|⟨a,b,rfl,d,e,h⟩
  .rw[gQ,if_pos rfl];simp[bR,dU]
  .have c:op≠1:=by omega
   rw[gQ,if_neg c,gM,gM,EN c];exact LN a k d
  .have c:op≠1:=by omega
   rw[gQ,if_neg c,gM,gM,gM,EM c,br];dsimp only;rw[LN b _ e,LN a k d];omega
theorem Ec{op:Int}{w:Pred}{on:cu}{a:Query}{l:db}(h:GQ op=true):eC (.mk op ta w co on gr od li (a::l))=eC a:=by
 rw[eC,if_pos h,GW];rfl
theorem nR{op:Int}{w:Pred}{on:cu}{args:db}(h:GQ op=false):eC (.mk op ta w co on gr od li args)= .mk op ta w co on gr od li (args.map eC):=by
 rw[eC,if_neg (by simp[h]),E7]
structure Dy(st ls:dr)(k:Nat)(ts:cn):Prop where
 at_:∀(j:Nat)(t:Int),ts[j]? =some t->∀x∈ls.getD (k+j) [],x∈st.getD t.toNat []
theorem Dy.left{st ls:dr}{k:Nat}{b:cn}(x:Dy st ls k (a++b)):Dy st ls k a:=
 ⟨λj t h=>x.at_ j t bg⟩
theorem Dy.right{st ls:dr}{k:Nat}{b:cn}(x:Dy st ls k (a++b)):Dy st ls (k+a.length) b:=
 ⟨λj t h=>by
  have:=x.at_ (a.length+j) t bg
  grind⟩
theorem cover{s:jZ}{st ls:dr}:∀(q:Query)(k:Nat),fS s q->Dy st ls k (bR q)->∀x∈(gQ ls q k).1,x∈dY st (eC q)
 |.mk op ta w co on gr od li args,k,g,d=>by
  rcases g.cases with⟨rfl,rfl⟩|⟨a,rfl,e,h⟩|⟨a,b,rfl,e,f,h⟩
  .rw[nR rfl,gQ,if_pos rfl,map_nil,dY,if_pos rfl];have:=d.at_ 0 ta (by simp[bR,dU]);omega
  .rw[EN aC]at d;have j:=cover a k e d;intro x c;rw[bRJ aC]at c;rcases h with rfl|rfl|rfl
   .rw[nR rfl,map_cons,map_nil,P8 az,op2];rw[op2]at c
    grind
   .rw[nR rfl,map_cons,map_nil,P8 az,op3];rw[op3]at c
    grind
   .rw[Ec rfl];rw[op9]at c
    grind
  .rw[EM aC]at d;have j:=cover a k e d.left;have n:=cover b _ f d.right;intro x c;rw[bRZ aC,LN a k e]at c;rcases h with rfl|rfl|rfl|rfl|rfl|rfl
   .rw[nR rfl,map_cons,map_cons,map_nil,C9 az,op4];rw[op4]at c
    grind
   .rw[nR rfl,map_cons,map_cons,map_nil,C9 az,op5];rw[op5]at c
    grind
   .rw[nR rfl,map_cons,map_cons,map_nil,C9 az,op6];rw[op6]at c
    grind
   .rw[Ec rfl];rw[op7]at c
    grind
   .rw[nR rfl,map_cons,map_cons,map_nil,C9 az,op8];rw[op8]at c
    grind
   .rw[Ec rfl];rw[cMQ]at c
    grind
theorem j7{s:jZ}{wd:Query->Int}:∀(q D:Query),fS s q->(mK wd q D).length=(bR q).length
 |.mk op ta w co on gr od li args,D,g=>by
  rw[mK.eq_def];rcases g.cases with⟨rfl,rfl⟩|⟨a,rfl,c,h⟩|⟨a,b,rfl,c,d,h⟩
  .simp[bR,dU]
  .rw[EN aC];dsimp only;rcases h with rfl|rfl|rfl
   .rw[if_pos rfl];exact j7 a _ c
   .rw[if_neg az,if_pos rfl];exact j7 a _ c
   .rw[if_neg az,if_neg az,if_pos rfl];exact j7 a _ c
  .rw[EM aC,br];dsimp only;rcases h with rfl|rfl|rfl|rfl|rfl|rfl
   .rw[if_pos rfl,br,j7 a _ c,j7 b _ d]
   .rw[if_neg az,if_pos rfl,br,j7 a _ c,j7 b _ d]
   .rw[if_neg az,if_neg az,if_pos rfl,br,j7 a _ c,j7 b _ d]
   .rw[if_neg az,if_neg az,if_neg az,if_pos az,br,j7 a _ c,j7 b _ d]
   .rw[if_neg az,if_neg az,if_neg az,if_pos az,br,j7 a _ c,j7 b _ d]
   .rw[if_neg az,if_neg az,if_neg az,if_neg az,if_pos rfl,br,j7 a _ c,j7 b _ d]
theorem SM{r:cz}{a n:Nat}(h:a+n<=r.length):pick r (iE a n)=(r.drop a).take n:=by
 refine ext_getElem? λi=>?_;simp only[pick,iE,Int.toNat_natCast,map_map]
 grind
theorem HY{y z:cz}:pick (y++z) (iE 0 (y.length:Nat))=y:=by
 have:=SM (r:=y++z) (a:=0) (n:=y.length) ay
 grind
theorem Ft{y z:cz}:pick (y++z) (iE (y.length:Nat) (z.length:Nat))=z:=by
 rw[SM ay];simp
theorem YR{y z u:cz}(h:u.length=z.length):agree (Ay (y.length:Nat) (z.length:Nat)) (y++z) u=true↔u=z:=by
 have c:jG (Ay (y.length:Nat) (z.length:Nat))=iE (y.length:Nat) (z.length:Nat):=by simp[jG,Ay,iE,map_map,Function.comp]
 have d:eG (Ay (y.length:Nat) (z.length:Nat))=iE 0 (u.length:Nat):=by simp[eG,Ay,iE,map_map,Function.comp,h]
 rw[Fb,c,d,Ft];have:=HY (y:=u) (z:=[])
 grind
theorem UC{x y:cz}:agree (sA gr) x y=uF gr x y:=by
 have c:jG (sA gr)=gr:=by simp[jG,sA,map_map,Function.comp_def]
 have d:eG (sA gr)=gr:=by simp[eG,sA,map_map,Function.comp_def]
 rw[agree,uF,c,d]
theorem avZ{on:cu}{x y:cz}:agree (qI on) y x=true↔agree on x y=true:=by
 rw[Fb,Fb];simp only[qI,jG,eG,map_map,Function.comp_def];exact eq_comm
theorem YS{z:cz}:agree (oY co) z (pick z co)=true:=by
 rw[Fb];simp only[oY,jG,eG,map_map,pick];refine map_congr_left λi c=>?_
 grind
structure OG(st ls:dr)(k:Nat)(ts:cn)(ds:db):Prop where
 at_:∀(j:Nat)(t:Int) E,ts[j]? =some t->ds[j]? =some E->∀x∈dY st E,x∈ls.getD (k+j) []
theorem OG.left{st ls:dr}{k:Nat}{b:cn}{d e:db}(x:OG st ls k (a++b) (d++e)):OG st ls k a d:=
 ⟨λj t E c f=>x.at_ j t E bg bg⟩
theorem OG.right{st ls:dr}{k:Nat}{b:cn}{d e:db}(h:d.length=a.length)(x:OG st ls k (a++b) (d++e)):OG st ls (k+a.length) b e:=
 ⟨λj t E c f=>by
  have:=x.at_ (a.length+j) t E bg bg
  grind⟩
structure c2Z(s:jZ)(st ls:dr)(q:Query)(k:Nat):Prop where
 wid:∀r∈dY st (eC q),r.length=(aJ s [] q).1.length
 eV:∀r∈(gQ ls q k).1,r∈dY st (eC q)
 sV:∀r∈dY st q,r∈dY st (eC q)
 eN:(gQ ls q k).1.Nodup
 sN:(dY st q).Nodup
theorem aZJ{st:dr}{q:Query}:GL st (kP st q) 0 (bR q):=⟨λj t h=>by
 rw[getD_eq_getElem?_getD,kP,getElem?_map,Nat.zero_add,h];rfl⟩
theorem aBZ{st:dr}{q:Query}(g:fS s q):∀r∈dY st q,r∈dY st (eC q):=λr d=>by
 have l:=aZJ (st:=st) (q:=q);refine cover (ls:=kP st q) q 0 g ⟨λj t h x c=>by rw[l.at_ j t h]at c;exact c⟩ r ?_;rw[Nx g.k l];exact d
theorem cRJ{st ls:dr}{q:Query}{k:Nat}(c:jL s st=0)(d:StV st)(e:∀l∈st,l.length<=4)(g:fS s q)(f:Ci s 4 ls k (bR q))(li:Dy st ls k (bR q)):c2Z s st ls q k:=by
 have ev:=Ao q g;have x:=Db c d e aC ev.1.k ev.1.bnd;have y:=Db c d e aC g.k g.bnd;exact⟨λr j=>by rw[x.2.2.1.wid r j,ev.2.1],cover q k g li,aBZ g,El (LM aC g.k f g.bnd).rel.srt,El y.2.2.1.srt⟩
set_option maxHeartbeats 32000000 in
theorem Za{s:jZ}{st ls:dr}(F:jL s st=0)(G:StV st)(H:∀l∈st,l.length<=4):∀(q D:Query)(k:Nat),fS s q->OR st D (eC q)->Ci s 4 ls k (bR q)->Dy st ls k (bR q)->OG st ls k (bR q) (mK (pZ s) q D)->∀x∈dY st D,(x∈(gQ ls q k).1↔x∈dY st q)
 |.mk op ta w co on gr od li args,D,k,g,U,C,lin,c,x,I=>by
  have Y:=U x I;rw[mK.eq_def]at c;rcases g.cases with⟨rfl,rfl⟩|⟨a,rfl,E,h⟩|⟨a,b,rfl,E,W,h⟩
  .have e:bR (.mk 1 ta w co on gr od li [])=[ta]:=by simp[bR,dU]
   rw[e]at c;dsimp only at c;rw[if_pos rfl]at c;have hm:=c.at_ 0 ta D rfl rfl x I;rw[Nat.add_zero]at hm;rw[gQ,if_pos rfl];refine iff_of_true hm ?_;rw[nR rfl,map_nil]at Y;exact Y
  .have M:op≠1:=by omega
   rw[EN M]at C lin c;dsimp only at c;have d:=cRJ F G H E C lin;rw[bRJ M,P8 M];rcases h with rfl|rfl|rfl
   .rw[if_pos rfl]at c
    have sub:OR st D (eC a):=λy f=>by
     have:=U y f;rw[nR rfl,map_cons,map_nil,P8 az,op2]at this;exact this.1
    rw[op2,op2,Za F G H a D k E sub C lin c x I]
   .rw[if_neg az,if_pos rfl]at c;have ih:=Za F G H a _ k E (λy f=>by rw[mO]at f;exact f.1) C lin c
    have key:∀z∈dY st (eC a),pick z co=x->(z∈(gQ ls a k).1↔z∈dY st a):=λz J e=>ih z (by
     rw[mO,any_eq_true];exact⟨J,x,I,by rw[<-e];exact YS⟩)
    rw[op3,op3];exact⟨λ⟨z,J,e⟩=>⟨z,(key z (d.eV z J) e).1 J,e⟩,λ⟨z,J,e⟩=>⟨z,(key z (d.sV z J) e).2 J,e⟩⟩
   .rw[if_neg az,if_neg az,if_pos rfl]at c;rw[Ec rfl]at Y;have ih:=Za F G H a _ k E (λy f=>by rw[CW,mO]at f;exact f.1.1) C lin c
    have key:∀z∈dY st (eC a),uF gr z x=true->((E9 gr od (dY st a) z:Nat):Int)<li->(z∈(gQ ls a k).1↔z∈dY st a):=λz J L h3=>ih z (by
     rw[CW,mO,any_eq_true,ce];exact⟨⟨J,x,I,by rw[UC];exact L⟩,h3⟩)
    have a':uF gr x x=true:=EP.2 rfl;have hc:=YM (w:=(aJ s [] a).1.length) d.eN d.sN d.eV d.sV d.wid key _ x rfl (d.wid x Y) a';rw[op9,op9,hc]
    grind
  .have M:op≠1:=by omega
   rw[EM M]at C lin c;dsimp only at c;have X:=cRJ F G H E C.left lin.left;have O:=cRJ F G H W C.right lin.right;rw[bRZ M,C9 M,LN a k E];rcases h with rfl|rfl|rfl|rfl|rfl|rfl
   .rw[if_pos rfl]at c
    have split:∀r∈dY st D,∃y∈dY st (eC a),∃z∈dY st (eC b),y++z=r/\y.length=(aJ s [] a).1.length/\z.length=(aJ s [] b).1.length:=λr Z=>by
     have:=U r Z;rw[nR rfl,map_cons,map_cons,map_nil,C9 az,op4]at this;obtain⟨y,f,z,J,_,e⟩:=this;exact⟨y,f,z,J,e,X.wid y f,O.wid z J⟩
    have wa:pZ s a=((aJ s [] a).1.length:Nat):=rfl;have wb:pZ s b=((aJ s [] b).1.length:Nat):=rfl;rw[wa,wb]at c;have Q:=c.left;have R:=c.right (j7 a _ E)
    have j:=Za F G H b _ _ W (λu o=>by
     rw[CU]at o;obtain⟨r,Z,e⟩:=o;obtain⟨y,f,z,J,e2,V,l2⟩:=split r Z;rw[<-e2, <-V, <-l2,Ft]at e
     grind) C.right lin.right R
    have S:=Za F G H a _ k E (λu o=>by
     rw[CU]at o;obtain⟨r,Z,e⟩:=o;rw[mO]at Z;obtain⟨y,f,z,J,e2,V,l2⟩:=split r Z.1;rw[<-e2, <-V,HY]at e
     grind) C.left lin.left Q
    obtain⟨y,f,z,J,e,V,l2⟩:=split x I
    have P:z∈(gQ ls b (k+(bR a).length)).1↔z∈dY st b:=j z (by
     rw[CU];exact⟨x,I,by rw[<-e, <-V, <-l2,Ft]⟩)
    have T:z∈dY st b->(y∈(gQ ls a k).1↔y∈dY st a):=λhb=>S y (by
     rw[CU];refine⟨x,?_,by rw[<-e, <-V,HY]⟩;rw[mO,any_eq_true];exact⟨I,z,hb,by rw[<-e, <-V, <-l2];exact(YR rfl).2 rfl⟩)
    have one:∀{A B:Rel},(∀r∈A,r∈dY st (eC a))->((∃y'∈A,∃z'∈B,b4Z on y' z'/\y'++z'=x)↔(y∈A/\z∈B/\b4Z on y z)):=fun{A B} hA=>by
     constructor
     .rintro⟨y',a0,z',a1,hj,e'⟩;have:=append_inj (e'.trans e.symm) (by rw[V,X.wid y' (hA y' a0)])
      grind
     grind
    rw[op4,op4,one X.eV,one X.sV,P]
    grind
   .rw[if_neg az,if_pos rfl]at c;have Q:=c.left;have R:=c.right (j7 a _ E)
    have sub:OR st D (eC a):=λy f=>by
     have:=U y f;rw[nR rfl,map_cons,map_cons,map_nil,C9 az,op5]at this;exact this.1
    have S:=Za F G H a _ k E (λu o=>by rw[mO]at o;exact sub u o.1) C.left lin.left Q;have j:=Za F G H b _ _ W (λu o=>by rw[mO]at o;exact o.1) C.right lin.right R
    have P:∀y∈dY st (eC b),agree on x y=true->(y∈(gQ ls b (k+(bR a).length)).1↔y∈dY st b):=λy f e=>j y (by
     rw[mO,any_eq_true];exact⟨f,x,I,avZ.2 e⟩)
    have T:(∃y∈dY st b,agree on x y=true)->(x∈(gQ ls a k).1↔x∈dY st a):=λ⟨y,f,e⟩=>S x (by
     rw[mO,any_eq_true]
     grind)
    rw[op5,op5];constructor
    .rintro⟨M,y,f,e⟩;have a2:=(P y (O.eV y f) e).1 f
     grind
    .rintro⟨M,y,f,e⟩;exact⟨(T ⟨y,f,e⟩).2 M,y,(P y (O.sV y f) e).2 f,e⟩
   .rw[if_neg az,if_neg az,if_pos rfl]at c;have Q:=c.left;have R:=c.right (j7 a _ E);have S:=Za F G H a _ k E (λu o=>(jX.1 o).1) C.left lin.left Q;have j:=Za F G H b _ _ W (λu o=>(jX.1 o).1) C.right lin.right R;have T:x∈dY st (eC a)->(x∈(gQ ls a k).1↔x∈dY st a):=λh=>S x (jX.2 ⟨h,I⟩);have P:x∈dY st (eC b)->(x∈(gQ ls b (k+(bR a).length)).1↔x∈dY st b):=λh=>j x (jX.2 ⟨h,I⟩);rw[op6,op6];exact⟨Or.imp (λh=>(T (X.eV x h)).1 h) (λh=>(P (O.eV x h)).1 h),Or.imp (λh=>(T (X.sV x h)).2 h) (λh=>(P (O.sV x h)).2 h)⟩
   .rw[if_neg az,if_neg az,if_neg az,if_pos az]at c;have Q:=c.left;have R:=c.right (j7 a _ E);rw[Ec rfl]at U;have T:=Za F G H a D k E U C.left lin.left Q x I;have j:=Za F G H b _ _ W (λu o=>(jX.1 (jX.1 o).1).1) C.right lin.right R;have P:x∈dY st a->x∈dY st (eC b)->(x∈(gQ ls b (k+(bR a).length)).1↔x∈dY st b):=λM h=>j x (jX.2 ⟨jX.2 ⟨h,I⟩,M⟩);rw[op7,op7,T];exact and_congr_right λh=>not_congr ⟨λL=>(P h (O.eV x L)).1 L,λL=>(P h (O.sV x L)).2 L⟩
   .rw[if_neg az,if_neg az,if_neg az,if_pos az]at c;have Q:=c.left;have R:=c.right (j7 a _ E)
    have sub:OR st D (eC a):=λy f=>by
     have:=U y f;rw[nR rfl,map_cons,map_cons,map_nil,C9 az,op8]at this;exact this.1
    have T:=Za F G H a D k E sub C.left lin.left Q x I;have j:=Za F G H b _ _ W (λu o=>(jX.1 (jX.1 o).1).1) C.right lin.right R;have P:x∈dY st a->x∈dY st (eC b)->(x∈(gQ ls b (k+(bR a).length)).1↔x∈dY st b):=λM h=>j x (jX.2 ⟨jX.2 ⟨h,I⟩,M⟩);rw[op8,op8,T];exact and_congr_right λh=>⟨λL=>(P h (O.eV x L)).1 L,λL=>(P h (O.sV x L)).2 L⟩
   .rw[if_neg az,if_neg az,if_neg az,if_neg az,if_pos rfl]at c;have Q:=c.left;have R:=c.right (j7 a _ E);rw[Ec rfl]at U Y;have T:=Za F G H a D k E U C.left lin.left Q x I;have j:=Za F G H b _ _ W (λu o=>by rw[CW,mO]at o;exact o.1.1) C.right lin.right R
    have key:∀z∈dY st (eC b),uF gr z x=true->((E9 gr od (dY st b) z:Nat):Int)<li->(z∈(gQ ls b (k+(bR a).length)).1↔z∈dY st b):=λz J L h3=>j z (by
     rw[CW,mO,any_eq_true,ce];exact⟨⟨J,x,I,by rw[UC];exact L⟩,h3⟩)
    have hw:x.length=(aJ s [] b).1.length:=by
     rw[X.wid x Y];obtain⟨n,_⟩:=g.node;exact congrArg List.length (n.same (.inr (.inr (.inr rfl))))
    have hc:=YM (w:=(aJ s [] b).1.length) O.eN O.sN O.eV O.sV O.wid key _ x rfl hw (EP.2 rfl);rw[cMQ,cMQ,hc,T]
structure Y7(st:dr)(ts:cn)(ds:db):Prop where
 at_:∀(j:Nat)(t:Int) E,ts[j]? =some t->ds[j]? =some E->∀x∈dY st E,x∈st.getD t.toNat []
theorem Y7.app{st:dr}{b:cn}{d e:db}(h:d.length=a.length)(x:Y7 st a d)(y:Y7 st b e):Y7 st (a++b) (d++e):=⟨λj t E c f=>by
 by_cases g:j<a.length
 .rw[getElem?_append_left g]at c;rw[getElem?_append_left aC]at f;exact x.at_ j t E c f
 .rw[getElem?_append_right aC]at c;rw[getElem?_append_right aC,h]at f;exact y.at_ _ t E c f⟩
theorem Kf{st:dr}{op:Int}{w:Pred}{on:cu}{a b D:Query}(h:op=5\/op=7\/op=8\/op=10)(c:OR st D (eC (.mk op ta w co on gr od li [a,b]))):OR st D (eC a):=λy d=>by
 have:=c y d;rcases h with rfl|rfl|rfl|rfl
 .rw[nR rfl,map_cons,map_cons,map_nil,C9 az,op5]at this;exact this.1
 .rw[Ec rfl]at this;exact this
 .rw[nR rfl,map_cons,map_cons,map_nil,C9 az,op8]at this;exact this.1
 .rw[Ec rfl]at this;exact this
theorem vF{s:jZ}{st:dr}(d:jL s st=0)(f:StV st)(n:∀l∈st,l.length<=4):∀(q D:Query),fS s q->OR st D (eC q)->Y7 st (bR q) (mK (pZ s) q D)
 |.mk op ta w co on gr od li args,D,g,F=>by
  rw[mK.eq_def];rcases g.cases with⟨rfl,rfl⟩|⟨a,rfl,o,h⟩|⟨a,b,rfl,o,G,h⟩
  .have e:bR (.mk 1 ta w co on gr od li [])=[ta]:=by simp[bR,dU]
   rw[e];dsimp only;rw[if_pos rfl];refine⟨λj t E I J x S=>?_⟩
   match j,I,J with
   |0,I,J=>
    simp at I J;subst I J;have:=F x S;rw[nR rfl,map_nil]at this;exact this
  .rw[EN aC];dsimp only;rcases h with rfl|rfl|rfl
   .rw[if_pos rfl]
    exact vF d f n a D o λy C=>by
     have:=F y C;rw[nR rfl,map_cons,map_nil,P8 az,op2]at this;exact this.1
   .rw[if_neg az,if_pos rfl];exact vF d f n a _ o λy C=>by rw[mO]at C;exact C.1
   .rw[if_neg az,if_neg az,if_pos rfl];exact vF d f n a _ o λy C=>by rw[CW,mO]at C;exact C.1.1
  .rw[EM aC];dsimp only;rcases h with rfl|rfl|rfl|rfl|rfl|rfl
   .have M:=Ao a o;have O:=Ao b G;have T:=Db d f n aC M.1.k M.1.bnd;have U:=Db d f n aC O.1.k O.1.bnd
    have split:∀r∈dY st D,∃y∈dY st (eC a),∃z∈dY st (eC b),y++z=r/\y.length=(aJ s [] a).1.length/\z.length=(aJ s [] b).1.length:=λr H=>by
     have:=F r H;rw[nR rfl,map_cons,map_cons,map_nil,C9 az,op4]at this;obtain⟨y,C,z,L,_,e⟩:=this;exact⟨y,C,z,L,e,by rw[T.2.2.1.wid y C,M.2.1],by rw[U.2.2.1.wid z L,O.2.1]⟩
    have V:pZ s a=((aJ s [] a).1.length:Nat):=rfl;have W:pZ s b=((aJ s [] b).1.length:Nat):=rfl;rw[if_pos rfl,V,W];refine(vF d f n a _ o λu c=>?_).app (j7 a _ o) (vF d f n b _ G λu c=>?_)
    .rw[CU]at c;obtain⟨r,H,e⟩:=c;rw[mO]at H;obtain⟨y,C,z,L,P,Q,R⟩:=split r H.1;rw[<-P, <-Q,HY]at e
     grind
    .rw[CU]at c;obtain⟨r,H,e⟩:=c;obtain⟨y,C,z,L,P,Q,R⟩:=split r H;rw[<-P, <-Q, <-R,Ft]at e
     grind
   .rw[if_neg az,if_pos rfl];exact(vF d f n a _ o λu c=>by rw[mO]at c;exact Kf (.inl rfl) F u c.1).app (j7 a _ o) (vF d f n b _ G λu c=>by rw[mO]at c;exact c.1)
   .rw[if_neg az,if_neg az,if_pos rfl];exact(vF d f n a _ o λu c=>(jX.1 c).1).app (j7 a _ o) (vF d f n b _ G λu c=>(jX.1 c).1)
   .rw[if_neg az,if_neg az,if_neg az,if_pos az];exact(vF d f n a _ o (Kf (.inr (.inl rfl)) F)).app (j7 a _ o) (vF d f n b _ G λu c=>(jX.1 (jX.1 c).1).1)
   .rw[if_neg az,if_neg az,if_neg az,if_pos az];exact(vF d f n a _ o (Kf (.inr (.inr (.inl rfl))) F)).app (j7 a _ o) (vF d f n b _ G λu c=>(jX.1 (jX.1 c).1).1)
   .rw[if_neg az,if_neg az,if_neg az,if_neg az,if_pos rfl];exact(vF d f n a _ o (Kf (.inr (.inr (.inr rfl))) F)).app (j7 a _ o) (vF d f n b _ G λu c=>by rw[CW,mO]at c;exact c.1.1)
theorem caX{st ls:dr}{q:Query}(c:jL s st=0)(d:StV st)(e:∀l∈st,l.length<=4)(g:fS s q)(f:Ci s 4 ls 0 (bR q))(lin:Dy st ls 0 (bR q))(j:OG st ls 0 (bR q) (mK (pZ s) q (eC q))):(gQ ls q 0).1=dY st q:=by
 have y:=Db c d e aC g.k g.bnd;have x:=(LM aC g.k f g.bnd).rel;have H:=Za c d e q (eC q) 0 g (OR.refl _) f lin j;exact Jz x.srt y.2.2.1.srt λr=>⟨λh=>(H r (cover q 0 g lin r h)).1 h,λh=>(H r (aBZ g r h)).2 h⟩
theorem iV.sub{w:Nat}{l d:Rel}(x:iV w l)(h:d.Sublist l):iV w d:=
 ⟨λr c=>x.row r (h.subset c),λr c=>x.wid r (h.subset c),List.Pairwise.sublist h x.srt,cj h.length_le x.len⟩
structure Y0(ls L:dr)(i:Nat):Prop where
 len:ls.length=i
 at_:∀(j:Nat) l,ls[j]? =some l->∃x,L[j]? =some x/\l.Sublist x
theorem D9(st:dr)(q:Query):(kP st q).length=(bR q).length:=by rw[kP,length_map]
theorem Dn{st:dr}{q:Query}{j:Nat}{t:Int}(h:(bR q)[j]? =some t):(kP st q)[j]? =some (st.getD t.toNat []):=by
 rw[kP,getElem?_map,h];rfl
theorem Y0.lin{ls st:dr}{q:Query}(x:Y0 ls (kP st q) (kP st q).length):Dy st ls 0 (bR q):=⟨λj t h r c=>by
 rw[Nat.zero_add,getD_eq_getElem?_getD]at c;cases e:ls[j]? with
 |none=>grind
 |some l=>
  rw[e]at c;obtain⟨y,d,f⟩:=x.at_ j l e;rw[Dn h]at d
  grind⟩
theorem Y0.ok{ls st:dr}{q:Query}(n:jL s st=0)(o:StV st)(u:∀l∈st,l.length<=4)(g:fS s q)(x:Y0 ls (kP st q) (kP st q).length):Ci s 4 ls 0 (bR q):=⟨λj t h=>by
 have z:=(bm h);have c:ls[0+j]? =some (ls[j]'(by rw[x.len,D9];exact z)):=bg
 refine⟨_,c,?_⟩;rw[Nat.zero_add]at c;obtain⟨y,d,e⟩:=x.at_ j _ c;rw[Dn h]at d;cases d;have f:=De g.k t (bo h);have r:=U6 n o f.1 f.2;exact⟨r.1.sub e,cj e.length_le (u _ r.2)⟩⟩
theorem caQ{s:jZ}{ls st:dr}{q:Query}(c:jL s st=0)(d:StV st)(e:∀l∈st,l.length<=4)(g:fS s q)(x:Y0 ls (kP st q) (kP st q).length)
 (u:∀(j:Nat)(t:Int) E,(bR q)[j]? =some t->(mK (pZ s) q (eC q))[j]? =some E->∀r∈st.getD t.toNat [],r∈dY st E->r∈ls.getD j []):(gQ ls q 0).1=dY st q:=
 caX c d e g (x.ok c d e g) x.lin ⟨λj t E f n r o=>by
  rw[Nat.zero_add];exact u j t E f n r ((vF c d e q (eC q) g (OR.refl _)).at_ j t E f n r o) o⟩
theorem HC{st:List ct}(e:Au s)(h:J2 s st):jL s st=0:=by
 obtain⟨c,f⟩:=Qn e;have j:=JC c;have g:=h.len
 have d:∀l:List ct,(∀x∈l,x.length<=4)->(l.map λx=>(x.length:Int)).sum<=4*(l.length:Int):=λl=>by
  induction l with
  |nil=>intro _;simp
  |cons a l n=>
   grind
 have:=d st h.few;unfold jL;rw[if_neg (by simp[c]),if_neg aC,if_neg (by simp[g]),if_pos h.ok]
theorem eK.new(c:eK m)(f:m cb=none)(o:bV m m' cb):eK m':=by
 obtain⟨T,d,e⟩:=c;refine⟨T,d,?_⟩;rw[o.other 1 (λg=>bg)];exact e
def aOX(N:Nat):Vc.Spec:=λc m h K=>∃v q,c=[aQ v]/\dO h q v/\SizeOf.sizeOf q<N/\oZ q<=900000/\∀d h',PH.le h h'->Ints h' d (bR q)->K (cS d) m h'
def bZQ:Vc.Spec:=λc m h K=>∃v q,c=[aQ v]/\dO h q v/\oZ q<=900000/\∀d h',PH.le h h'->Ints h' d (bR q)->K (cS d) m h'
noncomputable def cwX(N:Nat)(v:QV)(m:MH):Ctx:=
 dK [(12,aOX N)] [(5,{A:=Nat×cn×PH,st:=λ⟨i,l,h⟩=>bY 29 30 [(1,.at (.ptr 1 0)),(3,.at (.lst 12)),(15,iv v.args.len),(16,iv i)] [(1,.cells 41 (v.enc.map .val)),(12,.lst 3 1 (l.map eI))] m h})] [(4,{A:=cn×PH,st:=λ⟨l,h⟩=>bY 29 30 [(1,.at (.ptr 1 0)),(3,.at (.lst 12))] [(1,.cells 41 (v.enc.map .val)),(12,.lst 3 1 (l.map eI))] m h})] [] false
def Yq(N:Nat)(v:QV)(m:MH)(h:PH)(K:cq):Prop:=
  ∃(I:cn×PH->Prop),fC v.op 1 (aA (oK 8) (oK 1) (∃(x:cn×PH),aA (I x) fB (aA (eL 12) (fU v) (dJ (lW (mC (bC v.table)) x.1) m m h x.2)))) (∃(x:cn×PH),aA (I x) fB (aA (eL 12) (fU v) (dJ (sU x.1) m m h x.2)))/\∀(x:cn×PH),I x->∃(I1:Nat×cn×PH->Prop)(g:Nat×cn×PH->Nat),(∃(c:Nat×cn×PH),aA (I1 c) fB (aA (eL 12) (wG v) (aA (bA c.1) (fU v) (aA (lW (iL x.1) c.2.1) (m=m) (bU x.2 c.2.2)))))/\∀(c:Nat×cn×PH),I1 c->aY (↑c.1:Int) (aG v.args) (bK (λb o=>aA (aR v.args.a b o) (0<=(↑c.1:Int)) ((↑c.1:Int)<aG v.args/\∃(y:QV),aK m c.2.2 b (bL o c.1 21) y.enc/\rB (λj q=>aA (Gs (cM y)=Gs (cM j)) (dO c.2.2 q j) (aA
 (yI q N) (oZ q<=900000) (∀(s:Sl)(f:PH),bS c.2.2 f (Ints f s (bR q)) (∃(d:List cr),aA (gC 1 d) (dH f (dL s) 1 d) (aA (sQ (iL c.2.1) d 8) (sR (iL c.2.1) d) (∃(e:Nat×cn×PH),aA (I1 e) (g e<g c) (aA fB (eL 12) (aA (bI v.args) (iH (bE c.1 1)=bP e.1) (aA (fU v) (lW (iL c.2.1++d) e.2.1) (eM m m f e.2.2))))))))))))) (vU c.2.2 (iL c.2.1) K m)
theorem Kl{q:Query}:∀{l:db},dU (l++[q])=dU l++bR q
 |[]=>by simp[dU]
 |p::l=>by rw[cons_append,dU,Kl,dU,append_assoc]
theorem aKJ:∀N,cm 12 (aOX N)
 |0=>by
  refine fW (fn:=Tryz.f12) (c:=eD Tryz.f12) func12 rfl az ?_;rintro D m h K ⟨v,q,rfl,U,Z,_⟩;omega
 |N+1=>by
  refine jC func12 ?_;rintro D m h K ⟨v,q,rfl,U,Z,hc,E⟩;refine⟨cwX N v m,rfl,aE (aKJ N) aH,Yq N v m h K,ax,?_⟩;dsimp only[Yq,push_cast];have g:=HV q;obtain⟨op,ta,w,co,on,gr,od,li,args⟩:=q;have F:=U.parts;have d:=F.args_;have G:=bM.slen d;have V:=bM.len d;have W:v.op=op:=F.op_;have C:v.table=ta:=F.table_;rw[bR]at E g;rw[oZ]at hc g;refine⟨λz=>z=(if op=1 then[ta]else[],h),aD (λe=>?_) (λe=>?_),?_⟩
  .have e:op=1:=bg
   exact⟨aC,aC,([ta],h),by rw[if_pos e],by rw[C];exact MT⟩
  .grind
  rintro _ rfl;dsimp only;generalize (if op=1 then[ta]else[])=H at E g;refine⟨λz=>z.1<=args.length/\z.2.1=H++dU (args.take z.1)/\PH.le h z.2.2,λz=>args.length-z.1,⟨(0,H,h),⟨ay,by simp[dU],.refl _⟩,MT⟩,?_⟩;rintro⟨i,l,hx⟩ ⟨hi,X,le⟩;dsimp only at hi X le⊢
  subst X
  have f:∀j,(dU (args.take j)).length<=(dU args).length:=λj=>by
   have h5:∀(a b:db),(dU a).length<=(dU (a++b)).length:=λa b=>by
    induction a with
    |nil=>simp[dU]
    |cons p a ih=>rw[cons_append,dU,dU,br,br];omega
   have:=h5 (args.take j) (args.drop j)
   rwa [take_append_drop]at this
  have Y:=f i;rw[br]at g;refine aF (λI=>?_) (λa'=>?_)
  .obtain⟨p,J⟩:=fK G I;obtain⟨b,o,u,ea,L,M⟩:=bM.at (Ef.mono d le) J;have n:=bo J
   have O:SizeOf.sizeOf p<N:=by
    have:=sizeOf_lt_of_mem n
    grind
   have a0:=VR n;have P:dU (args.take (i+1))=dU (args.take i)++bR p:=by rw[cd,J,Option.toList_some,Kl]
   have y:(dU (args.take (i+1))).length<=(dU args).length:=f _;rw[P,br]at y;refine⟨b,o,ea,aC,aC,u,.imm L,u,p,rfl,M,O,aC,λs h2 Q R=>⟨(bR p).map eI,BM _,R.row,?_,?_,(i+1,H++dU (args.take i)++bR p,h2),⟨aC,bg,le.trans Q⟩,aC,?_⟩⟩
   .grind
   .grind
   .rw[jK aC]
    grind
  .rw[bt aC]
   exactλs h' S T=>E s h' (le.trans S) ⟨T,bg⟩
theorem biX:cm 12 bZQ:=mZ aKJ λ_ _ _ _⟨v,q,e,c,d,f⟩=>⟨SizeOf.sizeOf q+1,v,q,e,c,aC,d,f⟩
structure Fg(h:PH)(us:cw)(ls:List ct):Prop where
 len:us.length=ls.length
 at_:∀(j:Nat) l,ls[j]? =some l->∃u,us[j]? =some u/\Rows h u l
theorem Fg.mono{us:cw}{ls:List ct}(x:Fg h us ls)(le:PH.le h h'):Fg h' us ls:=⟨x.len,λj l d=>(x.at_ j l d).imp λ_ c=>⟨c.1,bM.mono c.2 le λr t e=>bQ.mono e le⟩⟩
theorem Fg.nil(h:PH):Fg h [] []:=⟨rfl,λj x c=>by simp at c⟩
theorem Fg.snoc{us:cw}{ls:List ct}(x:Fg h us ls){u:Sl}{l:ct}(d:Rows h u l):Fg h (us++[u]) (ls++[l]):=by
 refine⟨by simp[x.len],λj r c=>?_⟩;by_cases e:j<ls.length
 .rw[getElem?_append_left e]at c;obtain⟨f,g,n⟩:=x.at_ j r c
  grind
 .rw[getElem?_append_right aC]at c;have:j-ls.length=0:=bg
  rw[this]at c;simp at c;subst c;exact⟨u,by rw[getElem?_append_right (by rw[x.len];omega),x.len,this];rfl,d⟩
def c2Q:Vc.Spec:=λc m h K=>∃s d,c=[cS s]/\dH h s 1 (aX d)/\s.len<=s.cap/\eK m/\∀m' h',Sub m m'->K (cB true) m' h'
def aOZ:Vc.Spec:=λd m h K=>∃v s e c w q,d=[aS v,aSt e,aQ w]/\iU h s v/\DG h e c/\dO h q w/\tT q=true/\eK m/\(eH s [] q).2=0/\jL s c=0/\aUX c q/\∀f h',PH.le h h'->Rows h' f (dY c q)->K (.tup [cS f,cI 0]) m h'
theorem cVZ:cm 23 aOZ:=HU bdZ λ_ _ _ _⟨v,s,d,c,w,q,e,f,g,j,n,o,y,z,u,C⟩=>⟨v,s,d,c,w,q,e,f,g,j,n,o,λ_ _=>u,by
 have:brJ s c q=(dY c q,0):=by unfold brJ;grind
 grind⟩
theorem OF.good{s:jZ}{q:Query}{B:Nat}(c:eX s=0)(g:fS s q)(j:oZ q<=24)(n:iD 4 q<=B)(e:B*60<=8000000){E:Query}(f:E∈mK (pZ s) q (eC q)):fS s E:=by
 obtain⟨D, -⟩:=WU c g j n e;obtain⟨z,_,o,u⟩:=D.ex;rw[<-u]at f;obtain⟨d,y,rfl⟩:=mem_map.1 f;exact D.inv.good d (o d y)
theorem byZ{st:List ct}{q:Query}(c:jL s st=0)(d:StV st)(e:∀l∈st,l.length<=4)(g:fS s q):lJ (dY st q)/\(dY st q).length<=8000000:=by
 have x:=Db c d e aC (Prod.ext rfl g.kinds:aJ s [] q=((aJ s [] q).1,0)) g.bnd;exact⟨x.2.2.1.srt,x.2.2.2⟩
theorem b9X{t:AE}{l c:ct}(h:SC t l)(s:c.Sublist l):SC t c:=
 ⟨λr d=>h.1 r (s.subset d),λi r e f g=>OW.adj (List.Pairwise.sublist s (OW.of h.2)) i r e f g⟩
theorem bqQ{st:List ct}{T j:Nat}{l:ct}(c:T<st.length):(st.set T l).getD j []=if j=T then l else st.getD j []:=by
 grind
theorem Q2{st:List ct}(g:J2 s st){T:Nat}(y:T<st.length){l:ct}(d:l.Sublist (st.getD T [])):J2 s (st.set T l):=by
 have j:st[T]? =some (st.getD T []):=bg
 have n:=bo j;refine⟨by rw[length_set];exact g.len,λx f=>?_,λi t x o c=>?_,λx f r u=>?_⟩
 .rcases mem_or_eq_of_mem_set f with h|rfl
  .exact g.few x h
  .exact cj d.length_le (g.few _ n)
 .rw[getElem?_set]at c;split at c
  .rename_i e;subst e;cases c;exact b9X (g.ok _ _ _ o j) d
  .exact g.ok _ _ _ o c
 .rcases mem_or_eq_of_mem_set f with h|rfl
  .exact g.val x h r u
  .exact g.val _ n r (d.subset u)
def Ju(st:List ct)(ts:cn)(ds:db)(T:Nat)(n:Nat)(r:cz):Prop:=∃(j:Nat)(t:Int)(E:Query),j<n/\ts[j]? =some t/\t=(T:Int)/\ds[j]? =some E/\r∈dY st E
theorem ccX{s:jZ}{st:List ct}{q:Query}(u:Au s)(g:J2 s st)(c:fS s q){T:Nat}(z:T<st.length){l:ct}(D:l.Sublist (st.getD T []))
 (F:∀r∈st.getD T [],Ju st (bR q) (mK (pZ s) q (eC q)) T (bR q).length r->r∈l):dY (st.set T l) q=dY st q:=by
 have f:=Q2 g z D;have G:=HC u g;have x:=Db (HC u f) f.val f.few aC (Prod.ext rfl c.kinds:aJ s [] q=((aJ s [] q).1,0)) c.bnd;rw[<-x.2.1];have n:=De c.k;refine caQ G g.val g.few c ⟨by rw[D9,D9],λj y e=>?_⟩ λj t E d H r I J=>?_
 .have o:j<(bR q).length:=by have:=(bm e);rw[D9]at this;exact this
  have C:(bR q)[j]? =some ((bR q)[j]'o):=bn o;rw[Dn C]at e;refine⟨_,Dn C,?_⟩
  grind
 .have o:=(bm d);have L:=n t (bo d);rw[getD_eq_getElem?_getD,Dn d,Option.getD_some,bqQ z];split
  .rename_i M;refine F r bg ⟨j,t,E,o,d,aC,H,J⟩
  .exact I
theorem cdQ{s:jZ}{st:List ct}{q:Query}(c:Au s)(g:J2 s st)(d:fS s q){j:Nat}{t:Int}{E:Query}(e:(bR q)[j]? =some t)(f:(mK (pZ s) q (eC q))[j]? =some E):((dY st E).filter λr=>Gy (st.getD t.toNat []) r==false)=[]:=
 filter_eq_nil_iff.2 λr n=>by
  rw[BG.2 ((vF (HC c g) g.val g.few q (eC q) d (OR.refl _)).at_ j t E e f r n)];simp
structure b2Z(m:MH)(s:Sl)(us:cw)(m':MH):Prop where
 row:cL m' s 58 1 (us.map eS)
 fresh:∀b i,s.a=some ⟨b,i,none⟩->m b=none
 keep:∀b o,m b=some o->m' b=some o
def aTQ:Vc.Spec:=λd m h K=>∃s c,d=[aSt s]/\DG h s c/\c.length<=1000/\(∀l∈c,l.length<=1000)/\(∀l∈c,∀r∈l,r.length<=1000)/\∀e f m' h',PH.le h h'->b2Z m e f m'->Fg h' f c->K (aSt e) m' h'
noncomputable def csQ:Ctx:=
 qD [(58,Wd)] [(3,{A:=Nat×Sl×Sl×MH×PH,st:=λ⟨i,s,t,m,h⟩=>bY 36 37 [(2,.at (.ptr 2 0)),(3,.at (.ptr 3 0)),(10,sv s),(11,iv s.len),(12,iv i)] [(2,.cells 52 [.val (.slice none 0 0)]),(3,.cells 52 [.val (.slice t.a t.len t.cap)])] m h}),
  (7,{A:=Nat×Sl×cw×Nat×Sl×Sl×MH×PH,st:=λ⟨j,u,rs,i,s,t,m,h⟩=>bY 36 37 [(2,.at (.ptr 2 0)),(3,.at (.ptr 3 0)),(6,.at (.lst 26)),(10,sv s),(11,iv s.len),(12,iv i),(16,sv u),(17,iv u.len),(18,iv j)] [(2,.cells 52 [.val (.slice none 0 0)]),(3,.cells 52 [.val (.slice t.a t.len t.cap)]),(26,.lst 65 1 (rs.map eS))] m h})] [] [] [1050] [] false
noncomputable def cPJ:Ctx:=
 qD [(8,cYQ),(9,b1X),(10,axX 1000),(13,aMJ),(18,NK),(12,bZQ),(19,Mb),(20,aTQ),(21,cSX),(22,b7J),(23,aOZ),(17,b8X),(16,bZJ)]
  [(13,{A:=Nat×bT×QV×Sl×Sl×Sl×Int×Sl×Sl×MH×PH,st:=λ⟨i,sc,a,st,l,s,t,w,u,m,h⟩=>bY 155 156 [(4,.at (.ptr 4 0)),(5,.at (.ptr 5 0)),(6,.at (.ptr 6 0)),(7,sv l),(9,sv s),(10,iv t),(11,.at (.ptr 11 0)),(63,sv u),(64,iv u.len),(65,iv i)] [(4,.cells 27 (sc.enc.map .val)),(5,.cells 41 (a.enc.map .val)),(6,.cells 52 [.val (.slice st.a st.len st.cap)]),(11,.cells 52 [.val (.slice w.a w.len w.cap)])] m h}),
   (17,{A:=Nat×Bool×Sl×Nat×bT×QV×Sl×Sl×Sl×Int×Sl×Sl×MH×PH,st:=λ⟨j,b,r,i,sc,a,st,l,s,t,w,u,m,h⟩=>bY 155 156 [(4,.at (.ptr 4 0)),(5,.at (.ptr 5 0)),(6,.at (.ptr 6 0)),(7,sv l),(9,sv s),(10,iv t),(11,.at (.ptr 11 0)),(13,sv r),(14,bv b),(63,sv u),(64,iv u.len),(65,iv i),(70,iv s.len),(71,iv j)] [(4,.cells 27 (sc.enc.map .val)),(5,.cells 41 (a.enc.map .val)),(6,.cells 52 [.val (.slice st.a st.len st.cap)]),(11,.cells 52 [.val (.slice w.a w.len w.cap)])] m h}),
   (25,{A:=Nat×bT×QV×Sl×Sl×Sl×Sl×MH×PH,st:=λ⟨i,sc,a,st,l,s,w,m,h⟩=>bY 155 156 [(4,.at (.ptr 4 0)),(5,.at (.ptr 5 0)),(6,.at (.ptr 6 0)),(7,sv l),(9,sv s),(11,.at (.ptr 11 0)),(107,iv s.len),(108,iv i)] [(4,.cells 27 (sc.enc.map .val)),(5,.cells 41 (a.enc.map .val)),(6,.cells 52 [.val (.slice st.a st.len st.cap)]),(11,.cells 52 [.val (.slice w.a w.len w.cap)])] m h})]
  [(12,{A:=bT×QV×Sl×Sl×Sl×Int×Sl×MH×PH,st:=λ⟨sc,a,st,l,s,t,w,m,h⟩=>bY 155 156 [(4,.at (.ptr 4 0)),(5,.at (.ptr 5 0)),(6,.at (.ptr 6 0)),(7,sv l),(9,sv s),(10,iv t),(11,.at (.ptr 11 0))] [(4,.cells 27 (sc.enc.map .val)),(5,.cells 41 (a.enc.map .val)),(6,.cells 52 [.val (.slice st.a st.len st.cap)]),(11,.cells 52 [.val (.slice w.a w.len w.cap)])] m h}),
   (24,{A:=bT×QV×Sl×Sl×Sl×Sl×MH×PH,frz:=true,st:=λ⟨sc,a,st,l,s,w,m,h⟩=>bY 155 156 [(4,.at (.ptr 4 0)),(5,.at (.ptr 5 0)),(6,.at (.ptr 6 0)),(7,sv l),(9,sv s),(11,.at (.ptr 11 0))] [(4,.cells 27 (sc.enc.map .val)),(5,.cells 41 (a.enc.map .val)),(6,.cells 52 [.val (.slice st.a st.len st.cap)]),(11,.cells 52 [.val (.slice w.a w.len w.cap)])] m h})] [] [1058] [] false
abbrev oF(a:Nat×Sl×cw×Nat×Sl×Sl×MH×PH):Sl×Sl×MH×PH:=a.2.2.2.2
attribute [push_cast] oF
def Ye(s:Sl)(m:MH)(h:PH)(K:cq):Prop:=
  ∃(I:Nat×Sl×Sl×MH×PH->Prop)(j:Nat×Sl×Sl×MH×PH->Nat),(∃(x:Nat×Sl×Sl×MH×PH),aA (I x) iS (aA (eP 3) (aW s x.2.1) (aA (bN s x.2.1) (bA x.1) (aA qT (oQ 52 (uH J1)=oQ 52 (uH (yY (fF x.2)))) (aA (bO m (iW x.2)) (cF h (iW x.2)) True)))))/\∀(x:Nat×Sl×Sl×MH×PH),I x->aY (↑x.1:Int) (aG x.2.1) (bK (λb o=>aA (aR x.2.1.a b o) (0<=(↑x.1:Int)) ((↑x.1:Int)<aG x.2.1/\∃(y:Sl),aK (fM x.2) (dD x.2) b (bL o x.1 1) (aL y)/\∃(I1:Nat×Sl×cw×Nat×Sl×Sl×MH×PH->Prop)(n:Nat×Sl×cw×Nat×Sl×Sl×MH×PH->Nat),(∃(c:Nat×Sl×cw×Nat×Sl×Sl×MH×PH),aA (I1 c) iS (aA (eP 3) (eL 26) (aA (tF x.2 (oF c)) (bN x.2.1 (oF c).1) (aA (cJ x.1 c.2.2.2.1) (aW y c.2.1) (aA
 (bN y c.2.1) (bA c.1) (aA qT (lR (fF x.2) (fF (oF c))) (aA (A4 c.2.2.1) (bO (fM x.2) (iW (oF c))) (cF (dD x.2) (iW (oF c))/\True))))))))/\∀(c:Nat×Sl×cw×Nat×Sl×Sl×MH×PH),I1 c->aY (↑c.1:Int) (aG c.2.1) (bK (λu z=>aA (aR c.2.1.a u z) (0<=(↑c.1:Int)) ((↑c.1:Int)<aG c.2.1/\∃(C:Sl),aK (fM (oF c)) (dD (oF c)) u (bL z c.1 1) (aL C)/\FZ C (dD (oF c)) (λf g=>aA (lL (fJ c.2.2.1)) (eA (fJ c.2.2.1)) (∃(d:Nat×Sl×cw×Nat×Sl×Sl×MH×PH),aA (I1 d) (n d<n c) (aA iS j8 (aA (eL 26) (tF (oF c) (oF d)) (aA (bN (oF c).1 (oF d).1) (cJ c.2.2.2.1 d.2.2.2.1) (aA (aW c.2.1 d.2.1) (bN c.2.1 d.2.1) (aA
 (iH (bE c.1 1)=bP d.1) qT (aA (lR (fF (oF c)) (fF (oF d))) (xO (fJ c.2.2.1) f d.2.2.1) (aA (bO (fM (oF c)) (iW (oF d))) (cF g (iW (oF d))) True)))))))))))) (vC (dD (oF c)) 1 (fJ c.2.2.1) (λf g d=>aA (cL (fM (oF c)) (dL (fF (oF c))) 58 1 d) (lL d) (eA d/\jW (λD E=>gK (fM (oF c)) E (dL (fF (oF c))) D 58 1 (dP d (aL f))->∃(e:Nat×Sl×Sl×MH×PH),aA (I e) (j e<j x) (aA iS j8 (aA (tF (oF c) e.2) (bN (oF c).1 e.2.1) (aA (iH (bE c.2.2.2.1 1)=bP e.1) qT (aA (lR D (fF e.2)) (bO E (iW e.2)) (cF g (iW e.2)/\True)))))))))))) (K (jO (aL (fF x.2))) (fM x.2) (dD x.2))
abbrev Iz(a:bT×QV×Sl×Sl×Sl×Int×Sl×MH×PH):Int:=a.2.2.2.2.2.1
abbrev Gn(a:bT×QV×Sl×Sl×Sl×Int×Sl×MH×PH):MH×PH:=a.2.2.2.2.2.2.2
abbrev wH(a:Nat×bT×QV×Sl×Sl×Sl×Int×Sl×Sl×MH×PH):Sl:=a.2.2.2.2.1
abbrev tZ(a:Nat×bT×QV×Sl×Sl×Sl×Int×Sl×Sl×MH×PH):Sl:=a.2.2.2.2.2.1
abbrev ME(a:Nat×bT×QV×Sl×Sl×Sl×Int×Sl×Sl×MH×PH):Int:=a.2.2.2.2.2.2.1
abbrev kW(a:Nat×bT×QV×Sl×Sl×Sl×Int×Sl×Sl×MH×PH):Sl×Sl×MH×PH:=a.2.2.2.2.2.2.2
abbrev tD(a:Nat×bT×QV×Sl×Sl×Sl×Int×Sl×Sl×MH×PH):QV:=a.2.2.1
abbrev tE(a:Nat×bT×QV×Sl×Sl×Sl×Int×Sl×Sl×MH×PH):Sl:=a.2.2.2.1
abbrev iM(a:Nat×Bool×Sl×Nat×bT×QV×Sl×Sl×Sl×Int×Sl×Sl×MH×PH):Nat×bT×QV×Sl×Sl×Sl×Int×Sl×Sl×MH×PH:=a.2.2.2
abbrev tI(a:Nat×Bool×Sl×Nat×bT×QV×Sl×Sl×Sl×Int×Sl×Sl×MH×PH):Int:=ME (iM a)
abbrev fV(a:Nat×Bool×Sl×Nat×bT×QV×Sl×Sl×Sl×Int×Sl×Sl×MH×PH):Sl×Sl×MH×PH:=kW (iM a)
abbrev BB(a:Nat×Bool×Sl×Nat×bT×QV×Sl×Sl×Sl×Int×Sl×Sl×MH×PH):bT:=(iM a).2.1
abbrev Pw(a:dq->Prop)(b:dq->Nat)(c:Nat)(d:Nat×Bool×Sl×Nat×bT×QV×Sl×Sl×Sl×Int×Sl×Sl×MH×PH)(e:dq->Nat×Bool×Sl×Nat×bT×QV×Sl×Sl×Sl×Int×Sl×Sl×MH×PH)(g:dq->Prop):Prop:=∃(x:Nat×Bool×Sl×Nat×bT×QV×Sl×Sl×Sl×Int×Sl×Sl×MH×PH),aA (a x) (b x<c) (aA (eP 4) fT (aA lK (aW (wH (iM d)) (wH (iM (e x)))) (aA (aW (tZ (iM d)) (tZ (iM (e x)))) (dA (tI d) (tI (e x))) (g x))))
abbrev Pv(a b:Nat×Bool×Sl×Nat×bT×QV×Sl×Sl×Sl×Int×Sl×Sl×MH×PH)(c d:Prop):Prop:=aA nA (aW a.2.2.1 b.2.2.1) (aA c (aW (fF (fV a)) (fF (fV b))) (aA (bN (fF (fV a)) (fF (fV b))) (cJ (iM a).1 (iM b).1) (aA (bN (tZ (iM a)) (tZ (iM b))) (iH (bE a.1 1)=bP b.1) d)))
abbrev Bs(a:bT×QV×Sl×Sl×Sl×Sl×MH×PH):Sl×Sl×MH×PH:=a.2.2.2.2
abbrev IA(a:Nat×bT×QV×Sl×Sl×Sl×Sl×MH×PH):Sl:=a.2.2.2.2.1
abbrev jM(a:Nat×bT×QV×Sl×Sl×Sl×Sl×MH×PH):Sl×Sl×MH×PH:=a.2.2.2.2.2
abbrev Gp(a:Nat×bT×QV×Sl×Sl×Sl×Sl×MH×PH):Sl:=a.2.2.2.1
attribute [push_cast] Iz Gn wH tZ ME kW tD tE iM tI fV BB Pw Pv Bs IA jM Gp
def aIJ(s:Sl)(m:MH)(h:PH)(K:cq):Prop:=
  ∃(s1:Sl)(c:dg)(m1:Nat),aA (j3 s 260=j3 s1 (↑m1:Int)) (dH h s1 1 (aX c)) (aA (s1.len<=s1.cap) (mY m1) (∀(Q:Nat),fD (λm2 h1=>bS h h1 (Gr m Q) (bH (bV m m2 Q) (bB m2 h1 Q) (∃(c2:Nat),aA (eY (OP Q 0) (OP c2 0)) (bB m2 h1 c2) (∀(s2:jZ)(v:bT),fD (λm3 R=>bH (Au s2) (iU R s2 v) (bS h1 R (bV m2 m3 c2) (pK m3 R c2 (∃(c3:Nat),Ex (λs3 p=>EA (λs4 p1=>∃(d:Int),aA (dE Q (cE (cC v) (cT EH 3))=dE c3 (cE (cC s3) (j3 p d))) (bB m3 R c3) (aA (iU R s4 s3) (eX s4=0) (aA (mW (s4.tables=[])) (Ints R p p1) (aA (iB p1) (iX (Ev p1)) (aA (Int.negSucc 0<=d) (d<=1000) ((d+1).toNat<1000/\IF (λw q=>fD (λm4 W=>bS R W (dO W q w) (bH (QW
 q) (DH d.toNat q) (bH ((eH s4 p1 q).2=0) (bV m3 m4 c3) (pK m4 W c3 (∃(c4:Nat),rD (λv1 s5=>aA (dE Q (cT (jO (cC v)) 2)=dE c4 (cT (jO (cC v1)) 2)) (bB m4 W c4) (aA (iU W s5 v1) (Au s5) (∀(s6:List ct)(s7:Sl),fD (λX S=>bS W S (DG S s7 s6) (bH (J2 s5 s6) (bV m4 X c4) (pK X S c4 (Ex (λs8 s9=>∃(v2:QV),Vl (λa a1=>∃(O:Query),aA (cE (cC v) (eU (aL s7) (cM w))=cE (cC s8) (eU (aL s9) (cM v2))) (iU S a s8) (aA (DG S s9 a1) (dO S O v2) (aA (CL O) (eK X) (aA (AJ a O=0->OF a O) (jL a a1=0) (F0 a1 (λl=>l.length<=4)/\∀(a2:Sl)(h5:PH),bS S h5 (AJ a O=0->Leaves h5 a2 (List.map (dY a1) (mK (pZ a) O (eC O)))) (rB (λv3
 q2=>aA (eY (cM w) (cM v3)) (dO h5 q2 v3) (oZ q2<=900000/\∀(a3:Sl)(T:PH),bS h5 T (Ints T a3 (bR q2)) (dQ (AJ a O !=0) (K bD X T) (aG a2 !=aG a3) (K bD X T) (mS Q (kM v) X T (λk m6=>FP (λa4 l=>aA (Gs (jO (aL s7))=Gs (jO (aL a4))) (DG T a4 l) (aA (mY l.length) (F0 l (λC=>mY C.length)) (F0 l (λC=>Ij C (λr=>Et r))/\∀(a5:Sl)(u:cw),fD (λm7 h7=>bS T h7 (b2Z m6 a5 u m7) (Fg h7 u l->∃(I:bT×QV×Sl×Sl×Sl×Int×Sl×MH×PH->Prop),bK (λb o=>aA (aR a5.a b o) (0<=k) (k<aG a5/\gT (λU E=>aA (sL m7 b (fA U E 0)) (gH o k 1<U.size) (∀(F:MH),bJ m7 F b (splice U.toList (gH o k 1) gW) E->∃(x:bT×QV×Sl×Sl×Sl×Int×Sl×MH×PH),
 aA (I x) (eP 4) (aA (eP 5) lK (aA (aW a2 x.2.2.2.1) (aW a3 x.2.2.2.2.1) (aA (dA k (Iz x)) nA (aA (mM v x.1) (jI w x.2.1) (aA (lR s7 x.2.2.1) (lR a5 x.2.2.2.2.2.2.1) (aA (bO F (Gn x)) (cF h7 (Gn x)) True))))))))))/\∀(x:bT×QV×Sl×Sl×Sl×Int×Sl×MH×PH),I x->∃(I1:bT×QV×Sl×Sl×Sl×Sl×MH×PH->Prop),bK (λb o=>aA (aR x.2.2.1.a b o) (0<=Iz x) (Iz x<aG x.2.2.1/\∃(y:Sl),aK (Gn x).1 (Gn x).2 b (gH o (Iz x) 1) (aL y)/\∃(I2:Nat×bT×QV×Sl×Sl×Sl×Int×Sl×Sl×MH×PH->Prop)(F:Nat×bT×QV×Sl×Sl×Sl×Int×Sl×Sl×MH×PH->Nat),(∃(g:Nat×bT×QV×Sl×Sl×Sl×Int×Sl×Sl×MH×PH),aA (I2 g) (eP 4) (aA (eP 5) lK (aA (aW x.2.2.2.1 (wH g)) (aW x.2.2.2.2.1 (tZ
 g)) (aA (dA (Iz x) (ME g)) nA (aA (aW y (fF (kW g))) (bN y (fF (kW g))) (aA (bA g.1) (mM x.1 g.2.1) (aA (jI x.2.1 (tD g)) (lR x.2.2.1 (tE g)) (aA (lR x.2.2.2.2.2.2.1 (kW g).1) (iJ (Gn x) (iW (kW g))) (kY (eO (Gn x) (iW (kW g))))))))))))/\∀(g:Nat×bT×QV×Sl×Sl×Sl×Int×Sl×Sl×MH×PH),I2 g->aY (↑g.1:Int) (aG (fF (kW g))) (bK (λH Y=>aA (aR (fF (kW g)).a H Y) (0<=(↑g.1:Int)) ((↑g.1:Int)<aG (fF (kW g))/\∃(P:Sl),aK (fM (kW g)) (dD (kW g)) H (bL Y g.1 1) (aL P)/\∃(I3:Nat×Bool×Sl×Nat×bT×QV×Sl×Sl×Sl×Int×Sl×Sl×MH×PH->Prop)(Z:Nat×Bool×Sl×Nat×bT×QV×Sl×Sl×Sl×Int×Sl×Sl×MH×PH->
 Nat),(∃(e:Nat×Bool×Sl×Nat×bT×QV×Sl×Sl×Sl×Int×Sl×Sl×MH×PH),aA (I3 e) (eP 4) (aA (eP 5) lK (aA (aW (wH g) (wH (iM e))) (aW (tZ g) (tZ (iM e))) (aA (dA (ME g) (tI e)) nA (aA (aW P e.2.2.1) (B6 e.2.1) (aA (aW (fF (kW g)) (fF (fV e))) (bN (fF (kW g)) (fF (fV e))) (aA (cJ g.1 (iM e).1) (bN (tZ g) (tZ (iM e))) (aA (bA e.1) (mM g.2.1 (BB e)) (aA (jI (tD g) (tD (iM e))) (lR (tE g) (tE (iM e))) (aA (lR (kW g).1 (fV e).1) (bO (fM (kW g)) (iW (fV e))) (kY (cF (dD (kW g)) (iW (fV e))))))))))))))/\∀(e:Nat×Bool×Sl×Nat×bT×QV×Sl×Sl×Sl×Int×Sl×Sl×MH×PH),I3 e->
 aY (↑e.1:Int) (aG (tZ (iM e))) (branch e.2.1 (Pw (λf=>I3 f) (λf=>Z f) (Z e) e (λf=>f) (λf=>Pv e f (yL f.2.1) (aA (mM (BB e) (BB f)) (jI (tD (iM e)) (tD (iM f))) (aA (lR (tE (iM e)) (tE (iM f))) (lR (fV e).1 (fV f).1) (aA (bO (fM (fV e)) (iW (fV f))) (cF (dD (fV e)) (iW (fV f))) True))))) (bK (λj J=>aA (aR (tZ (iM e)).a j J) (0<=(↑e.1:Int)) ((↑e.1:Int)<aG (tZ (iM e))/\∃(G:Int),aK (fM (fV e)) (dD (fV e)) j (bL J e.1 1) (bC G)/\fC G (tI e) (bK (λL o3=>aA (aR (wH (iM e)).a L o3) (0<=(↑e.1:Int)) ((↑e.1:Int)<aG (wH (iM e))/\∃(y3:Sl),aK (fM (fV
 e)) (dD (fV e)) L (bL o3 e.1 1) (aL y3)/\∃(z:Sl),Hj (λt C r=>aA (cD y3 e.2.2.1=cD z t) (Rows (dD (fV e)) z C) (aA (bQ (dD (fV e)) t r) (lJ C) (Pw (λf=>I3 f) (λf=>Z f) (Z e) e (λf=>f) (λf=>Pv e f (kN (Gy C r) f.2.1) (aA (mM (BB e) (BB f)) (jI (tD (iM e)) (tD (iM f))) (aA (lR (tE (iM e)) (tE (iM f))) (lR (fV e).1 (fV f).1) (aA (bO (fM (fV e)) (iW (fV f))) (cF (dD (fV e)) (iW (fV f))) True)))))))))) (Pw (λf=>I3 f) (λf=>Z f) (Z e) e (λf=>f) (λf=>Pv e f (B6 f.2.1) (aA (mM (BB e) (BB f)) (jI (tD (iM e)) (tD (iM f))) (aA (lR (tE (iM e))
 (tE (iM f))) (lR (fV e).1 (fV f).1) (aA (bO (fM (fV e)) (iW (fV f))) (cF (dD (fV e)) (iW (fV f))) True))))))))) (branch e.2.1 (bK (λj J=>aA (aR (fV e).1.a j J) (0<=tI e) (tI e<aG (fV e).1/\∃(G:Sl),Ca (aK (fM (fV e)) (dD (fV e)) j (gH J (tI e) 1) (aL G)) (aK (fM (fV e)) (dD (fV e)) j (gH J (tI e) 1) (aL G)) (λf=>aA (cL (fM (fV e)) (dL G) 65 1 f) (lL f) (eA f/\jW (λz M=>gK (fM (fV e)) M (dL G) z 65 1 (dP f (aL e.2.2.1))->bK (λL o3=>aA (aR (fV e).1.a L o3) (0<=tI e) (tI e<aG (fV e).1/\gT (λU E=>aA (sL M L (fA U E 0)) (gH o3 (tI e) 1<U.size) (∀(V
 :MH),bJ M V L (splice U.toList (gH o3 (tI e) 1) (aL z)) E->∃(n:Nat×bT×QV×Sl×Sl×Sl×Int×Sl×Sl×MH×PH),aA (I2 n) (F n<F g) (aA (eP 4) fT (aA lK (aW (wH (iM e)) (wH n)) (aA (aW (tZ (iM e)) (tZ n)) (dA (tI e) (ME n)) (aA nA (aW (fF (fV e)) (fF (kW n))) (aA (bN (fF (fV e)) (fF (kW n))) (iH (bE (iM e).1 1)=bP n.1) (aA (mM (BB e) n.2.1) (jI (tD (iM e)) (tD n)) (aA (lR (tE (iM e)) (tE n)) (lR (fV e).1 (kW n).1) (aA (bO V (iW (kW n))) (cF (dD (fV e)) (iW (kW n))) True)))))))))))))))))) (∃(f:Nat×bT×QV×Sl×Sl×Sl×Int×Sl×Sl×MH×PH),aA (I2 f) (F f<F g) (aA (eP 4) fT (aA
 lK (aW (wH (iM e)) (wH f)) (aA (aW (tZ (iM e)) (tZ f)) (dA (tI e) (ME f)) (aA nA (aW (fF (fV e)) (fF (kW f))) (aA (bN (fF (fV e)) (fF (kW f))) (iH (bE (iM e).1 1)=bP f.1) (aA (mM (BB e) f.2.1) (jI (tD (iM e)) (tD f)) (aA (lR (tE (iM e)) (tE f)) (lR (fV e).1 (kW f).1) (aA (bO (fM (fV e)) (iW (kW f))) (cF (dD (fV e)) (iW (kW f))) True))))))))))))) (Fi (fM (kW g)) (dD (kW g))->∃(e:bT×QV×Sl×Sl×Sl×Sl×MH×PH),aA (I1 e) (eP 4) (aA (eP 5) lK (aA (aW (wH g) e.2.2.2.1) (aW (tZ g) (Bs e).1) (aA nA (mM g.2.1 e.1) (aA (jI (tD g) e.2.1) (lR (tE g) e.2.2.1)
 (aA (lR (kW g).1 (fF (Bs e))) (G1 (fM (kW g)) (dD (kW g)) (fM (Bs e)) (dD (Bs e))) True))))))))/\∀(g:bT×QV×Sl×Sl×Sl×Sl×MH×PH),I1 g->∃(I2:Nat×bT×QV×Sl×Sl×Sl×Sl×MH×PH->Prop)(F:Nat×bT×QV×Sl×Sl×Sl×Sl×MH×PH->Nat),(∃(e:Nat×bT×QV×Sl×Sl×Sl×Sl×MH×PH),aA (I2 e) (eP 4) (aA (eP 5) lK (aA (aW g.2.2.2.1 (IA e)) (tF (Bs g) (jM e)) (aA nA (bN (Bs g).1 (jM e).1) (aA (bA e.1) (mM g.1 e.2.1) (aA (jI g.2.1 e.2.2.1) (lR g.2.2.1 (Gp e)) (aA (lR (fF (Bs g)) (fF (jM e))) (bO (fM (Bs g)) (iW (jM e))) (cF (dD (Bs g)) (iW (jM e))/\True))))))))/\∀(e:Nat×bT×QV×Sl×Sl×Sl×Sl×MH×
 PH),I2 e->aY (↑e.1:Int) (aG (jM e).1) (bK (λb o=>aA (aR (IA e).a b o) (0<=(↑e.1:Int)) ((↑e.1:Int)<aG (IA e)/\∃(y:Sl),aK (fM (jM e)) (dD (jM e)) b (bL o e.1 1) (aL y)/\bK (λH Y=>aA (aR (jM e).1.a H Y) (0<=(↑e.1:Int)) ((↑e.1:Int)<aG (jM e).1/\∃(P:Int),aK (fM (jM e)) (dD (jM e)) H (bL Y e.1 1) (bC P)/\bK (λj J=>aA (aR (Gp e).a j J) (0<=P) (P<aG (Gp e)/\∃(G:Sl),aA (aK (fM (jM e)) (dD (jM e)) j (gH J P 1) (aL G)) (cO (dD (jM e)) H (bL Y e.1 1) (bC P)) (rC (λz t=>∃(i:Bool)(C k1:ct),aA (dC y (gO G bD)=dC z (gO t (Aw i))) (Rows (dD (jM e)) z C) (aA (Rows (dD
 (jM e)) t k1) (lJ k1) (B7 C/\∀(M:Sl)(D:PH),bS (dD (jM e)) D (Rows D M (filter (fun(f:cz)=>Gy k1 f==i) C)) (gA (aG M) 0 (K bD (fM (jM e)) D) (∃(f:Nat×bT×QV×Sl×Sl×Sl×Sl×MH×PH),aA (I2 f) (F f<F e) (aA (eP 4) fT (aA lK (aW (IA e) (IA f)) (aA (tF (jM e) (jM f)) nA (aA (bN (jM e).1 (jM f).1) (iH (bE e.1 1)=bP f.1) (aA (mM e.2.1 f.2.1) (jI e.2.2.1 f.2.2.1) (aA (lR (Gp e) (Gp f)) (lR (fF (jM e)) (fF (jM f))) (aA (bO (fM (jM e)) (iW (jM f))) (cF D (iW (jM f))) True)))))))))))))))))))) (rD (λv4 z=>FP (λM V=>rB (λw1 q3=>aA (cE (cC e.2.1) (eU (aL (fF (jM e))) (cM
 e.2.2.1))=cE (cC v4) (eU (aL M) (cM w1))) (iU (dD (jM e)) z v4) (aA (DG (dD (jM e)) M V) (dO (dD (jM e)) q3 w1) (aA (CL q3) (eK (fM (jM e))) (aA (AJ z q3=0) (jL z V=0) (aUX V q3/\∀(a9:Sl)(D:PH),bS (dD (jM e)) D (Rows D a9 (dY V q3)) (rD (λv5 b=>FP (λH j=>rB (λw2 q4=>aA (cE (cC e.2.1) (eU (aL (Gp e)) (cM e.2.2.1))=cE (cC v5) (eU (aL H) (cM w2))) (iU D b v5) (aA (DG D H j) (dO D q4 w2) (aA (CL q4) (eK (fM (jM e))) (aA (AJ b q4=0) (jL b j=0) (aUX j q4/\∀(L:Sl)(h9:PH),bS D h9 (Rows h9 L (dY j q4)) (aA (([]:dk)=[]) (eK (fM (jM e))) (∃(b4:Sl),JO (λt b5 b6=>aA (cD a9 L=cD b4 t)
 (Rows h9 b4 b5) (Rows h9 t b6/\∀(r:Bool),(iX r↔b5=b6)->K (Aw r) (fM (jM e)) h9)))))))))))))))))))))))))))))))))))))))))))))))))))))))))))))))))))
theorem beZ:cm 20 aTQ:=by
 refine jC func20 ?_;rintro a1 m h K ⟨s,C,rfl,hs,O,h2,h3,hK⟩;refine⟨csQ,rfl,aE ag aH,Ye s m h K,ax,?_⟩;dsimp only[Ye,push_cast];have G:=bM.slen hs.lea;refine⟨λz=>z.1<=C.length/\∃t y O D,z.2=(s,t,y,O)/\PH.le h O/\b2Z m t D y/\Fg O D (C.take z.1),λz=>C.length-z.1,⟨(0,s,cH,m,h),⟨ay,cH,m,h,[],rfl,.refl _,⟨cL.nil _ _ _,λb i e=>(by cases e),λb o e=>e⟩,by rw[take_zero];exact Fg.nil h⟩,MT⟩,?_⟩;rintro⟨i,z⟩ ⟨hi,t,y,H,D,e,d,E,I⟩;dsimp only at hi e I;subst e;dsimp only;have R:=I.len;rw[length_take]at R;refine aF (λS=>?_) (λa2=>?_)
 .obtain⟨l,T⟩:=fK G S;have hm:=bo T;have a3:=h2 l hm;have U:C.take (i+1)=C.take i++[l]:=by rw[cd,T];rfl
  obtain⟨b,o,u,ea,rd,hr⟩:=bM.at hs.lea T;have J:=bM.slen hr;have a4:i<C.length:=by omega
  refine⟨b,o,ea,aC,aC,u,.imm (rd.mono d),λz=>z.1<=l.length/\∃rs P,z.2=(u,rs,i,s,t,y,P)/\PH.le H P/\fE P rs (l.take z.1),λz=>l.length-z.1,⟨(0,u,[],i,s,t,y,H),⟨ay,[],H,rfl,.refl _,by rw[take_zero];exact fE.nil H⟩,MT⟩,?_⟩;rintro⟨j,z⟩ ⟨hj,rs,P,e,f,g⟩;dsimp only at hj e g;subst e;dsimp only;have V:=g.len;rw[length_take]at V;refine aF (λL=>?_) (λa0=>?_)
  .obtain⟨r,n⟩:=fK J L;have a5:=(bm n);obtain⟨b2,o2,ur,W,X,hv⟩:=bM.at hr n;have M:l.take (j+1)=l.take j++[r]:=by rw[cd,n];rfl
   refine⟨b2,o2,W,aC,aC,ur,.imm (X.mono (d.trans f)),ur,r,rfl,bQ.mono hv (d.trans f),h3 l hm r (bo n),λs2 F c Y=>?_⟩;rw[jK aC];refine⟨bg,bg,(j+1,u,rs++[s2],i,s,t,y,F),⟨aC,rs++[s2],F,rfl,f.trans c,by dsimp only;rw[M];exact(g.mono c).snoc Y⟩,aC,by rw[bu];exact MT⟩
  .rw[bt aC]at g;intro sp F c Z;have a':Rows F sp l:=(g.mono c).rows Z aC;rw[jK aC];refine⟨D.map eS,E.row,bg,bg,λt2 m2 hg=>⟨(i+1,s,t2,m2,F),⟨aC,t2,m2,F,D++[sp],rfl,d.trans (f.trans c),⟨by rw[bu];exact hg.row,λb i e=>?_,λb o e=>hg.other b o (E.keep b o e) λi e2=>by rw[E.fresh b i e2]at e;cases e⟩,by dsimp only;rw[U];exact(I.mono (f.trans c)).snoc a'⟩,aC,MT⟩⟩;rcases hg.fresh b i e with Q|⟨j2,Q⟩
   .cases e3:m b with
    |none=>rfl
    |some o=>rw[E.keep b o e3]at Q;cases Q
   .exact E.fresh b j2 Q
 .rw[bt aC]at I;exact hK t D y H d E I
theorem cL.sget{m:MH}{h:PH}{w u:Sl}{E:TypeId}{us:cw}{t:Nat}(r:cL m w E 1 (us.map eS))(j:us[t]? =some u):∃b,w.a=some ⟨b,0,none⟩/\t<w.len/\aK m h b (0+t*1) [dW u]:=by
 have D:=(bm j);rcases r.ex with⟨rfl,e⟩|⟨b,n,c,rfl,o,y,z,C,d⟩
 .have F:=congrArg List.length e
  grind
 .refine⟨b,rfl,bg,.lent c E (0,0) o ?_⟩;rw[IJ]at d
  have g:c.toList[t]? =some (dW u):=by
   have e:(c.toList.take ((us.map eS).length*1))[t]? =some (dW u):=bg
   grind
  have f:=(bm g);rw[Nat.zero_add,Nat.mul_one,drop_eq_getElem_cons f,(List.getElem?_eq_some_iff.1 g).2];rfl
theorem cL.sset{w:Sl}{E:TypeId}{us:cw}{t:Nat}(r:cL m w E 1 (us.map eS))(G:t<us.length):∃b,w.a=some ⟨b,0,none⟩/\t<w.len/\∃(cs:Array Value)(F:TypeId),sL m b (.cells cs F (0,0))/\0+t*1<cs.size/\∀u m',lI m m' b (.cells ⟨splice cs.toList (0+t*1) [dW u]⟩ F (0,0))->cL m' w E 1 ((us.set t u).map eS):=by
 rcases r.ex with⟨rfl,e⟩|⟨b,d,c,rfl,z,g,j,C,f⟩
 .have H:=congrArg List.length e
  grind
 .rw[length_map]at g;refine⟨b,rfl,bg,c,E,⟨z⟩,aC,λu m' D=>⟨⟨?_,?_⟩,.inr ⟨b,d,⟨splice c.toList (0+t*1) [dW u]⟩,ay,D.at_,bf,j,?_,?_⟩⟩⟩
  .intro e n;obtain⟨s,_,rfl⟩:=mem_map.1 n;rfl
  .intro e n v y;obtain⟨s,_,rfl⟩:=mem_map.1 n;simp[eS]at y;subst y;rfl
  .show(splice c.toList (0+t*1) [dW u]).length=d*1;rw[AX _ _ _ bf];omega
  .rw[IJ];show(splice c.toList (0+t*1) [dW u]).take _=_;rw[Jy _ _ _ bf,take_set]
   have o:c.toList.take (((us.set t u).map eS).length*1)=us.map λs=>dW s:=by
    rw[length_map,length_set];rw[length_map,IJ]at f;exact f
   rw[o,Nat.zero_add,Nat.mul_one,map_set]
structure Jt(m0:MH)(w:Sl)(mx:MH)(hx:PH)(us:cw)(T:Nat)(u:Sl)(part:ct):Prop where
 row:cL mx w 58 1 ((us.set T u).map eS)
 fresh:∀b i,w.a=some ⟨b,i,none⟩->m0 b=none
 keep:∀b o,m0 b=some o->mx b=some o
 cur:∃rs:cw,cL mx u 65 1 (rs.map eS)/\fE hx rs part
 cfresh:∀b i,u.a=some ⟨b,i,none⟩->m0 b=none/\∀j,w.a≠some ⟨b,j,none⟩
theorem Jt.app{m0 D:MH}{hx:PH}{w u E:Sl}{us:cw}{T:Nat}{part:ct}{r:cz}(x:Jt m0 w D hx us T u part)(V:T<us.length)(Q:bQ hx E r):∃rs:cw,cL D u 65 1 (rs.map eS)/\rs.length=part.length/\
 ∀g m',gK D m' u g 65 1 (rs.map eS++[[dW E]])->∃b,w.a=some ⟨b,0,none⟩/\T<w.len/\∃(cs:Array Value)(F:TypeId),sL m' b (.cells cs F (0,0))/\0+T*1<cs.size/\∀z,lI m' z b (.cells ⟨splice cs.toList (0+T*1) [dW g]⟩ F (0,0))->Jt m0 w z hx us T g (part++[r]):=by
 obtain⟨rs,R,M⟩:=x.cur;refine⟨rs,R,M.len,λg m' C=>?_⟩
 have n:cL m' w 58 1 ((us.set T u).map eS):=cL.keep x.row λb i e=>by
  obtain⟨G,d⟩:=cL.blk x.row e;rw[d];exact C.other b _ d λj f=>(x.cfresh b j f).2 i e
 obtain⟨b,O,S,cs,F,H,I,J⟩:=cL.sset n (t:=T) bg
 have y:∀c,(∃i,g.a=some ⟨c,i,none⟩)->m0 c=none/\∀j,w.a≠some ⟨c,j,none⟩:=λc⟨i,e⟩=>by
  rcases C.fresh c i e with d|⟨j,d⟩
  .refine⟨?_,λj f=>?_⟩
   .cases U:m0 c with
    |none=>rfl
    |some o=>rw[x.keep c o U]at d;cases d
   .obtain⟨G,P⟩:=cL.blk x.row f
    grind
  .exact x.cfresh c j d
 refine⟨b,O,S,cs,F,H,I,λz L=>⟨?_,x.fresh,λc o e=>?_,⟨rs++[E],cL.keep (by rw[bu];exact C.row) λc i e=>L.other c λf=>(y c ⟨i,e⟩).2 0 bg,M.snoc Q⟩,λc i e=>y c ⟨i,e⟩⟩⟩
 .have:=J g z L;rw[set_set]at this;exact this
 .have d:=x.keep c o e;have P:=C.other c o d λi f=>by rw[(x.cfresh c i f).1]at e;cases e
  rw[L.other c (λf=>by rw[f,x.fresh b 0 O]at e;cases e)];exact P
theorem Jt.back{m0 c:MH}{hx:PH}{w u:Sl}{us:cw}{T:Nat}{part:ct}(x:Jt m0 w c hx us T u part):yV m0 c=m0:=funext λb=>by
 unfold yV;cases e:m0 b with
 |none=>rfl
 |some o=>exact x.keep b o e
theorem Jt.ice{m0 c:MH}{hx:PH}{w u:Sl}{us:cw}{T:Nat}{part:ct}{st:List ct}(x:Jt m0 w c hx us T u part)(d:Fi c hx)(f:Fg hx us st)(F:T<us.length)(G:part.length<=1000)(H:st.length<=1000)(g:StV (st.set T part)):DG (AP m0 c hx) w (st.set T part):=by
 have y:=uZ.ice (m0:=m0) (m:=c) (h:=hx) (s:=w) ⟨x.row,x.fresh⟩;obtain⟨rs,z,j⟩:=x.cur;have n:=uZ.ice (m0:=m0) (m:=c) (h:=hx) (s:=u) ⟨z,λb i e=>(x.cfresh b i e).1⟩;have C:Rows (AP m0 c hx) u part:=(j.mono (Am d)).rows n aC;have o:=f.len;refine⟨⟨⟨us.set T u,y,by simp[o],λi l e=>?_⟩,bg⟩,bg,g⟩;rw[getElem?_set]at e;by_cases D:T=i
 .grind
 .rw[if_neg D]at e;obtain⟨v,I,E⟩:=f.at_ i l e;exact⟨v,bg,bM.mono E (Am d) λr t g=>bQ.mono g (Am d)⟩
theorem Ju.step{st:List ct}{ts:cn}{ds:db}{T n:Nat}{r:cz}{t:Int}{E:Query}(g:ts[n]? =some t)(o:ds[n]? =some E):Ju st ts ds T (n+1) r↔Ju st ts ds T n r\/(t=(T:Int)/\r∈dY st E):=by
 constructor
 .rintro⟨j,c,E',u,d,f,y,z⟩;by_cases h:j<n
  .exact .inl ⟨j,c,E',h,d,f,y,z⟩
  grind
 .rintro(⟨j,c,E',u,e⟩|⟨d,f⟩)
  .exact⟨j,c,E',aC,e⟩
  .exact⟨n,t,E,aC,g,d,o,f⟩
theorem bBJ:cm 4 c2Q:=by
 refine jC func4 ?_;rintro i4 m h K ⟨s,cs,rfl,hr,c9,ht,hK⟩;refine⟨cPJ,rfl,aE bBX (aE bAZ (aE (aLQ 1000) (aE anZ (aE Rs (aE biX (aE MO (aE beZ (aE TC (aE bdJ (aE cVZ (aE bhQ (aE TR aH)))))))))))),aIJ s m h K,ax,?_⟩;dsimp only[aIJ,push_cast];refine⟨s,cs,260,rfl,hr,c9,aC,λcb m1 h1 i5 d' o1 c1=>⟨cb,rfl,c1,λsc v m2 h2 O rS i8 o2 c2=>?_⟩⟩;obtain⟨a8,d0⟩:=Qn O;have sub:∀{g},bV m g cb->Sub m g:=fun{g} om b o e=>by rw[om.other b (λe2=>bg)];exact e
 refine⟨cb,v,cH,sc,[],3,rfl,c2,rS,a8,d0,oL _,ay,ay,aC,aC,az,λa c m3 h3 d1 rq qw fq hq o3 c3=>⟨cb,v,sc,rfl,c3,rS.mono d1,O,λst G m7 h7 d2 n good o7 c0=>?_⟩⟩;have fq:DH 3 c:=fq;obtain⟨_,_,a',qk⟩:=DN hq;have qc:=Ml a';have qb:iD 4 c<=65536:=cj (uD.b fq) az;have gq:fS sc c:=⟨qk,Vw (s:=sc) (ps:=[]) ay c qk qw,aC⟩
 have nq:OF sc c:=SR (B:=65536) a8 gq qc qb az;have H:=HC O good;have om:=((o1.trans o2).trans o3).trans o7;have f':=ht.new d' om;have a9:=rS.mono (d1.trans d2);have a0:=rq.mono d2;refine⟨v,G,a,sc,st,c,rfl,a9,n,a0,a',f',λ_=>nq,H,good.few,λl h8 a1 R=>⟨a,c,rfl,a0.mono a1,aC,λL h9 D b0=>?_⟩⟩;have R:=R hq;have f0:=j7 (wd:=pZ sc) c (eC c) gq;have f1:=De gq.k;have U:∀E∈mK (pZ sc) c (eC c),lJ (dY st E)/\(dY st E).length<=8000000:=λE hE=>byZ H n.val good.few (OF.good (B:=65536) a8 gq qc qb az hE);have d3:=fun(j:Nat)(t:Int)(E:Query) h1 h2=>cdQ (j:=j) (t:=t) (E:=E) O good gq h1 h2;have I:=fun(T:Nat)(hT:T<st.length)(l:ct) R hn=>ccX (T:=T) (l:=l) O good gq hT R hn;generalize mK (pZ sc) c (eC c)=Z at R f0 U d3 I;have f4:=bM.slen R;rw[length_map]at f4;have i9:=b0.slen;have f5:=HV c;have i0:=bM.slen n.lea;have i1:=good.len;have j':=rS.tables.slen;have j0:0<sc.tables.length:=length_pos_iff.2 d0;have d4:=n.len
 have f6:∀l∈st,∀r∈l,r.length<=1000:=λl R r hr=>by
  obtain⟨i,hi⟩:=getElem?_of_mem R;have f7:=(bm hi);have:=(U6 (t:=(i:Int)) H n.val aC aC).1.row r bg;have:=this.len;omega
 refine aD (λe=>bg) (λ_=>aD (λe=>bg) (λ_=>⟨cb,v.tables.len,rfl,c0.mono (a1.trans D),λk J k0 k1 f8 j1=>?_⟩));have d5:k=((k.toNat:Nat):Int):=by omega
 generalize k.toNat=T at d5;subst d5;have hT:T<st.length:=by omega
 refine⟨G,st,rfl,n.mono (a1.trans D),aC,λl R=>by have:=good.few l R;omega,f6,λw us j2 f C a2 d6=>?_⟩;have k':=d6.len;have a7:=om.trans f8;have V:=ht.new d' a7;have d7:=sub a7;have L11:PH.le h7 f:=(a1.trans D).trans C;obtain⟨P,f9⟩:∃P,st.getD T []=P:=⟨_,rfl⟩
 have d8:st[T]? =some P:=bg
 have i2:=good.few _ (bo d8);obtain⟨b2,g',ul,g0,g1,a3⟩:=bM.at n.lea d8;have a3:=bM.mono a3 L11 λr t S=>bQ.mono S L11;have d9:=bM.slen a3;have I:=I T hT;rw[f9]at I;have big:∀rs:cw,rs.length<=1000->((rs.map eS).length+1)*24<=140737488355328/\(rs.map eS).length<140737488355328:=λrs h=>bg
 refine⟨λz=>∃g,z=(v,a,G,l,L,(T:Int),w,g,f)/\Jt J w g f us T cH [],?_,?_⟩
 .obtain⟨b,ea,g4,cs,F,b1,b3,b8⟩:=cL.sset a2.row (t:=T) aC;refine⟨b,0,ea,aC,aC,cs,F,b1,b3,λm' hm=>⟨_,⟨m',rfl,b8 cH m' hm,a2.fresh,λb' o e=>?_,⟨[],cL.nil _ _ _,fE.nil _⟩,λb i e=>by cases e⟩,MT⟩⟩;rw[hm.other b' (λe2=>by rw[e2,a2.fresh b 0 ea]at e;cases e)];exact a2.keep b' o e
 rintro _ ⟨g,rfl,x0⟩;dsimp only;refine⟨λz=>∃part hI,z=(v,a,G,l,L,w,J,hI)/\PH.le f hI/\DG hI w (st.set T part)/\part.Sublist P/\(∀r∈P,Ju st (bR c) Z T (bR c).length r->r∈part),?_,?_⟩
 .refine⟨b2,g',g0,aC,aC,ul,.imm (g1.mono L11),λz=>z.1<=P.length/\∃u part g,z.2=(v,a,G,l,L,(T:Int),w,ul,g,f)/\Jt J w g f us T u part/\part.Sublist (P.take z.1)/\∀r∈P.take z.1,Ju st (bR c) Z T (bR c).length r->r∈part,λz=>P.length-z.1,⟨(0,v,a,G,l,L,(T:Int),w,ul,g,f),⟨ay,cH,[],g,rfl,x0,ay,ay⟩,MT⟩,?_⟩;rintro⟨i,z⟩ ⟨hi,u,part,g,e,x,Q,W⟩;dsimp only at hi e Q W;subst e;dsimp only;have e':=Q.length_le;rw[length_take]at e';refine aF (λe0=>?_) (λi3 d=>?_)
  .obtain⟨r,b9⟩:=fK d9 e0;obtain⟨b4,o4,ur,g5,g6,S⟩:=bM.at a3 b9;have k2:P.take (i+1)=P.take i++[r]:=by rw[cd,b9];rfl
   have f7:=(bm b9);refine⟨b4,o4,g5,aC,aC,ur,.imm g6,λz=>z.1<=(bR c).length/\∃b,z.2=(b,ur,i,v,a,G,l,L,(T:Int),w,ul,g,f)/\(b=true↔Ju st (bR c) Z T z.1 r),λz=>(bR c).length-z.1,⟨(0,false,ur,i,v,a,G,l,L,(T:Int),w,ul,g,f),⟨ay,false,rfl,by simp[Ju]⟩,MT⟩,?_⟩;rintro⟨j,z⟩ ⟨hj,b,e,hb⟩;dsimp only at hj e hb;subst e;dsimp only;refine aF (λe1=>?_) (λe3=>?_)
   .have c':j<(bR c).length:=by omega
    have et:(bR c)[j]? =some ((bR c)[j]'c'):=bn c';have ed:Z[j]? =some (Z[j]'(by omega)):=bn aC;have X:=U _ (bo ed);generalize (bR c)[j]'c'=t at et;generalize Z[j]'(by omega)=E at ed X;have c4:=Ju.step (st:=st) (T:=T) (r:=r) et ed;have mu:(bR c).length-(j+1)<(bR c).length-j:=by omega
    rw[jK aC];refine aD (λg7=>?_) (λg8=>?_)
    .exact⟨(j+1,true,ur,i,v,a,G,l,L,(T:Int),w,ul,g,f),⟨aC,true,rfl,bg⟩,mu,MT⟩
    .have k3:¬Ju st (bR c) Z T j r:=λh=>bg
     obtain⟨b5,o5,c5,a4⟩:=b0.at' et;refine⟨b5,o5,c5,aC,aC,t,.imm (a4.mono C),aD (λe=>?_) (λe=>?_)⟩
     .have e:t=(T:Int):=bk e
      obtain⟨b6,o6,ue,c6,c7,M⟩:=bM.at R (i:=j) (x:=dY st E) bg;have M:=bM.mono M (D.trans C) λr t S=>bQ.mono S (D.trans C);exact⟨b6,o6,c6,aC,aC,ue,.imm (c7.mono (D.trans C)),ue,ur,dY st E,r,rfl,M,S,X.1,(j+1,Gy (dY st E) r,ur,i,v,a,G,l,L,(T:Int),w,ul,g,f),⟨aC,_,rfl,by dsimp only;rw[c4,BG];grind⟩,mu,MT⟩
     .have e:¬t=(T:Int):=bk e
      exact⟨(j+1,false,ur,i,v,a,G,l,L,(T:Int),w,ul,g,f),⟨aC,false,rfl,bg⟩,mu,MT⟩
   .have g9:j=(bR c).length:=by omega
    subst g9;have mu:P.length-(i+1)<P.length-i:=by omega
    rw[jK aC];refine aD (λg7=>?_) (λg8=>?_)
    .obtain⟨b7,c8,k4,a5⟩:=cL.sget (h:=f) x.row (t:=T) (u:=u) bg;obtain⟨rs,h0,k5,e4⟩:=Jt.app x aC S;refine⟨b7,0,c8,aC,aC,u,a5,a5,rs.map eS,h0,(big rs aC).1,(big rs aC).2,λs' m' hg=>?_⟩;obtain⟨b,ea,g4,cs,F,b1,b3,b8⟩:=e4 s' m' hg
     exact⟨b,0,ea,aC,aC,cs,F,b1,b3,λm4 h4=>⟨(i+1,v,a,G,l,L,(T:Int),w,ul,m4,f),⟨aC,s',part++[r],m4,rfl,b8 m4 h4,bg,λy hy hn=>by
      grind⟩,mu,MT⟩⟩
    .exact⟨(i+1,v,a,G,l,L,(T:Int),w,ul,g,f),⟨aC,u,part,g,rfl,x,bg,λy hy hn=>by
      grind⟩,mu,MT⟩
  .rw[bt aC]at Q W;have a6:=Q2 good hT (l:=part) bg;have hI:=x.ice d d6 aC aC aC a6.val;exact⟨(v,a,G,l,L,w,yV J g,AP J g f),⟨part,_,by rw[x.back],Am d,hI,Q,W⟩,FT⟩
 .rintro _ ⟨part,hI,rfl,e5,h5,Q,W⟩;dsimp only;have a6:=Q2 good hT (l:=part) bg;have e6:=I part Q W;have L12:PH.le h7 hI:=L11.trans e5;refine⟨λz=>z.1<=(bR c).length/\∃hx,z.2=(v,a,G,l,L,w,J,hx)/\PH.le hI hx,λz=>(bR c).length-z.1,⟨(0,v,a,G,l,L,w,J,hI),⟨ay,hI,rfl,.refl _⟩,MT⟩,?_⟩;rintro⟨j,z⟩ ⟨hj,hx,e,lex⟩;dsimp only at hj e;subst e;dsimp only;have Lx:PH.le h7 hx:=L12.trans lex;have L9:PH.le h9 hx:=C.trans (e5.trans lex);refine aF (λe1=>?_) (λe3=>?_)
  .have c':j<(bR c).length:=by omega
   have et:(bR c)[j]? =some ((bR c)[j]'c'):=bn c';have ed:Z[j]? =some (Z[j]'(by omega)):=bn aC;have X:=U _ (bo ed);generalize (bR c)[j]'c'=t at et;generalize Z[j]'(by omega)=E at ed X;obtain⟨t0,t1⟩:=f1 t (bo et);have e7:=d3 j t E et ed;have e8:st[t.toNat]? =some (st.getD t.toNat []):=bg
   obtain⟨b5,o5,c5,a4⟩:=b0.at' et;obtain⟨b6,o6,ue,c6,c7,M⟩:=bM.at R (i:=j) (x:=dY st E) bg;obtain⟨b7,h6,u7,c8,a5,Y⟩:=bM.at n.lea e8;have M:=bM.mono M (D.trans L9) λr t S=>bQ.mono S (D.trans L9);have Y:=bM.mono Y Lx λr t S=>bQ.mono S Lx;rw[jK aC];refine⟨b6,o6,c6,aC,aC,ue,.imm (c7.mono (D.trans L9)),b5,o5,c5,aC,aC,t,.imm (a4.mono L9),b7,h6,c8,t0,aC,u7,.imm (a5.mono Lx),a4.mono L9,ue,u7,false,dY st E,st.getD t.toNat [],rfl,M,Y,(U6 H n.val t0 t1).1.srt,X.2,λs' h' i' e9=>?_⟩;rw[e7]at e9;have hz:=bM.slen e9;refine aF (λe=>absurd e (by rw[hz];simp)) (λ_=>⟨(j+1,v,a,G,l,L,w,J,h'),⟨aC,h',rfl,lex.trans i'⟩,aC,MT⟩)
  .refine⟨v,sc,w,st.set T part,a,c,rfl,a9.mono Lx,h5.mono lex,a0.mono Lx,a',V,hq,HC O a6,⟨4,aC,a6.few,gq.bnd⟩,λt1 g2 f2 q1=>?_⟩;refine⟨v,sc,G,st,a,c,rfl,a9.mono (Lx.trans f2),n.mono (Lx.trans f2),a0.mono (Lx.trans f2),a',V,hq,H,⟨4,aC,good.few,gq.bnd⟩,λt2 g3 f3 q2=>?_⟩;have r1:Rows g3 t1 (dY (st.set T part) c):=bM.mono q1 f3 λr t S=>bQ.mono S f3;exact⟨rfl,V,t1,t2,_,_,rfl,r1,q2,λr hr=>by rw[hr.2 e6];exact hK _ _ d7⟩
end Go.Ps
