/- Own work. -/
import Derived.Test.YtbpoogcannjnbaaGreatDoorAj
noncomputable section
namespace Go.Ps
open Go Go.Vc Go.Proofs List Tryz
variable{K:tt}{m:MH}{h:PH}{s:kD}{ps:ti}{cb:Nat}{sc:bQ}{v:QV}{q:ae}{p:ao}{l:ti}{i N:Nat}{m':MH}{h':PH}{co gr:ti}{od:tp}{w:ao}{ta li:Int}{xs:List tm}{sz:Nat}{ks:List ti}{rs:ti}{r:Sl}{a:ti}{b:Nat}
def dqX:=dD [(23,bFZ),(16,Uj),(22,c3X)] []
 [(7,{A:=bQ×Sl×Sl×Sl×Int×MH×PH,st:=λ⟨sc,r,w,x,e,m,h⟩=>bO 105 105 [SW 2,SW 4,SW 5,(6,sv x),(7,iv e)] [UV 2 29 sc.ag,(4,.cells 34 [.val (.slice none 0 0),.val (.slice r.a r.len r.cap)]),(5,.cells 38 [.val (.slice w.a w.len w.cap)])] m h}),
  (8,{A:=Sl×Int×Int×MH×PH,st:=λ⟨x,e,a,m,h⟩=>bO 105 105 [(6,sv x),(7,iv e),(8,iv a)] [] m h})] [] false
abbrev J3 a b c:=bD 4 a wR::bD 4 b wR::[bD 4 c wR]
abbrev Jr(a:PH)(b c d e g i:Int)(j k l n o:Sl)(p:Sl->Sl->Sl->Sl->PH->Prop):Prop:=bN a 3 (J3 b c d) (λx f=>bN f 3 (J3 e g i) (λt u=>bN u 5 [XS j 1] (λy z=>bN z 24 ([bD 2 0 (eW k 3 (nP (bD 0 0 (pW 0::EN::nP (EN::B8::Cw l (C2 (BH 0 (fW n))))))))]) (λA B=>bN B 1 [aT o] (λC D=>bN D 3 [pW 0::fW x::aT t] (λE F=>p y A C E F))))))
abbrev Bn a:=B8::fW a::[]
abbrev Bo a b:=EO::gO (aT a) b
abbrev JH(a:PH)(b:kD)(c:to)(d e:List tj)(g:List sZ)(i:List jV)(j:Sl->PH->(bQ×Sl×Sl×Sl×Int×MH×PH)->Prop):=jA (λx f=>cO a f (K4 f x (Ee b (As b c d e g i) g 0)) (∃n,j x f n))
abbrev F2(a:bQ×Sl×Sl×Sl×Int×MH×PH):=a.2.2.2.2.2
abbrev Js(a:bQ×Sl×Sl×Sl×Int×MH×PH->Prop)(b:bQ×Sl×Sl×Sl×Int×MH×PH)(c:Sl)(d:Prop)(e g:Sl)(i:MH)(j:PH):=a b/\gZ/\eP 4/\bY/\bC c b.2.2.2.1/\cG 0 b.2.2.2.2.1/\d/\oQ 34 (j9 Db e)=oQ 34 (j9 Db b.2.1)/\kO (iT g b.2.2.1) (fX i (F2 b)) (dH j (F2 b))
abbrev JG(a:Sl)(b:bQ×Sl×Sl×Sl×Int×MH×PH):=oQ 29 (j9 fZ a)=oQ 29 [KV b.1,KU b.1]
abbrev Ju(a:bQ×Sl×Sl×Sl×Int×MH×PH)(b c d e g i:Int)(j:Sl->PH->Prop):=bN (F2 a).2 3 (J3 b c d) (λx f=>bN f 3 (J3 e g i) (λn o=>bN o 3 [pW 0::fW x::aT n] (λt u=>j t u)))
abbrev Fe(a:uc)(b:bQ->Sl->Sl->Sl->Sl->Sl->uc)(c:Nat->Nat->Option Value)(d:MH×PH)(e:kD->ti->(List jV)->to->(List tj)->(List tj)->(List sZ)->Prop)(g:kD->ti->(List jV)->to->(List tj)->(List tj)->(List sZ)->PH->Prop):=D3 (λx y z A B C f j n o t D u=>a=b x y z A B C/\dV c f x/\iB c y z j n/\bF c A o/\tI c B t/\sX c C u/\kN d.1/\e f j n o t D u/\∀E,g f j n o t D u E)
abbrev JI(a b:PH)(c:Sl×Int×Int×MH×PH->Prop)(d:bQ×Sl×Sl×Sl×Int×MH×PH)(e:(Sl×Int×Int×MH×PH)->Prop):=PH.le a b->∃x,c x/\bC d.2.2.2.1 x.1/\cG d.2.2.2.2.1 x.2.1/\e x/\eV (fX (F2 d).1 x.2.2.2) (dH b x.2.2.2)
abbrev Jt(a:kD)(b:to)(c d:List tj)(e:List sZ)(g:List jV)(i:Sl×Int×Int×MH×PH):=cG (ite ((Ee a (As a b c d e g) e 0).length=0) 0 170) i.2.2.1
abbrev Ag(a:Sl×Int×Int×MH×PH):=a.2.2.2.1
abbrev Ah(a:Sl×Int×Int×MH×PH):=a.2.2.2.2
attribute [push_cast] J3 Jr Bn Bo JH F2 Js JG Ju Fe JI Jt Ag Ah
def TB:=λm h K=>bN h 2 (qH RJ 4::qH (ByteArray.mk (.mk (dT 116 (dT 105 (dT 116 (dT 108 (zF 101))))))) 4::[qH (ByteArray.mk (.mk (dT 115 (dT 97 (dT 108 (dT 97 (dT 114 (dT 121 [])))))))) 4]) (λs h1=>bN h1 1 [bV 1] (λR h2=>bN h2 1 [bV 0] (λS h3=>bN h3 21 ([wM 1 0 (nP (EN::pN::bD 0 0 (pW 0::EN::C2 HK)))]) (λT h4=>∃n,iJ 1 n/\∃W,iJ 2 W/\∃X,iJ 3 X/\bN h4 3 (J3 n W X) (λs4 h5=>bN h5 1 [aT s4] (λU V=>∃I,(∃O,iJ 1 O/\∃P,iJ 2 P/\∃Q,let Aa:=λz f g t e=>D3 (λa p r j J c B L C D E M F=>bE (BH 0 (fW z)) (bE (Bn f) (Bo g t))=bE (cW a) (bE (gI p r) (bU j (gO (aT J) c)))/\dV e B a/\iB e p r L C/\bF e j D/\tI e J E/\sX e c F/\kN m/\wB B L C D E M F/\JH e B D E M F C (λx G d=>Js I d x (JG z d) f g m G));iJ 3 Q/\(∃H,iJ 1 H/\∃A,iJ 5 A/\∃u,iJ 6 u/\ Jr V O P Q H A u s R S T U Aa)/\∃H,iJ 1 H/\(∃A,iJ 5 A/\∃u,iJ 6 u/\Jr V O P Q H A u s R S T U Aa)/\∃A,iJ 5 A/\(∃u,iJ 6 u/\Jr V O P Q H A u s R S T U Aa)/\∃u,iJ 6 u/\Jr V O P Q H A u s R S T U (λz f g t e=>D3 (λa p r j J c B L C D E M F=> bE (BH 0 (fW z)) (bE (Bn f) (Bo g t))=bE (cW a) (bE (gI p r) (bU j (gO (aT J) c)))/\dV e B a/\iB e p r L C/\bF e j D/\tI e J E/\sX e c F/\kN m/\wB B L C D E M F/\JH e B D E M F C (λx G d=>Js I d x (JG z d) f g m G)))/\Jr V O P Q H A u s R S T U Aa)/\∀x,I x->∃I1,(∃O,iJ 1 O/\∃P,iJ 2 P/\∃Q,let N:=λz e=>Fe (bE (cW x.1) (bE (Bn x.2.1) (Bo x.2.2.1 z))) (λf p r j g c=>bE (cW f) (bE (gI p r) (bU j (gO (aT g) c)))) e (F2 x) (λf p r j g t c=>wB f p r j g t c) (λf _ r p g t c G=>JI e G I1 x (λd=>Jt f p g t c r d));iJ 3 Q/\(∃H,iJ 1 H/\∃A,iJ 5 A/\∃u,iJ 3 u/\Ju x O P Q H A u N)/\∃H,iJ 1 H/\(∃A,iJ 5 A/\∃u,iJ 3 u/\Ju x O P Q H A u N)/\∃A,iJ 5 A/\(∃u,iJ 3 u/\Ju x O P Q H A u N)/\∃u,iJ 3 u/\Ju x O P Q H A u N/\Ju x O P Q H A u N)/\∀d,I1 d->dP d.2.1 0 (dP d.2.2.1 0 (dP (aF d.1) 2 (aM (λb o=>aR d.1.a b o/\(0:Int)<=0/\0<aF d.1/\∃y,aK (Ag d) (Ah d) b (fJ o+4) (bV y)/\dP y 2 (aM (λY Z=>aR d.1.a Y Z/\(0:Int)<=0/\0<aF d.1/\∃y1,aK (Ag d) (Ah d) Y (dG (fJ Z)) (xF y1)/\cC y1 (aM (λb2 o2=>aR d.1.a b2 o2/\(0:Int)<=1/\1<aF d.1/\∃y2,aK (Ag d) (Ah d) b2 (dG (o2+5)) (xF y2)/\sI y2 (aM (λb3 o3=>aR d.1.a b3 o3/\(0:Int)<=0/\0<aF d.1/\∃y3,aK (Ag d) (Ah d) b3 (fJ o3+3) (aT y3)/\K (AU (aF y3==1)) (Ag d) (Ah d))) K (Ag d) (Ah d))) (K bH (Ag d) (Ah d)))) (K bH (Ag d) (Ah d)))) (K bH (Ag d) (Ah d))) (K bH (Ag d) (Ah d))) (K bH (Ag d) (Ah d))))))))
theorem XK{h s l}(r:bT h s 3 (l.map VV.ag))(d:l.length<=1000):bF h s l:=⟨⟨l,r,rfl,λi x c=>⟨x,c,rfl⟩⟩,aC⟩
theorem Ml{α β h sz ag}{R:α->β->Prop}{s x v}(r:bT h s sz [ag v])(hx:R x v):aU h sz ag R s [x]:=⟨⟨[v],r,rfl,λi y e=>by
 grind⟩,bu⟩
theorem dMZ{c t}(d:bT h c 2 (([⟨⟨#[105,100]⟩,4⟩,⟨⟨#[116,105,116,108,101]⟩,4⟩,⟨⟨#[115,97,108,97,114,121]⟩,4⟩]:List oI).map oI.ag))(e:bT h t 5 [cD.ag ⟨⟨#[116,97,115,107,115]⟩,c,1,bS,bS⟩]):dV h gS ⟨0,t⟩:=
 ⟨rfl,Ml e ⟨rfl,Oo d bu,rfl,aU.nil _ _ _ _,aU.nil _ _ _ _⟩⟩
theorem cnX{k p a}(c:bT h k 1 [[.int .i64 1]])(d:bT h p 1 [[.int .i64 0]])(e:bT h a 21 [QV.ag ⟨1,0,iD,bS,bS,bS,bS,0,bS⟩])(f:bT h r 24 [dL.ag ⟨2,0,k,⟨3,0,iD,p,bS,bS,bS,0,a⟩⟩]):iB h bS r [] [ED]:=
 ⟨uH h,Ml f ⟨rfl,rfl,⟨c,by show(1:Nat)<=17592186044416;omega⟩,pV.fm ⟨rfl,rfl,Ge h,⟨d,da⟩,AL h,uH h,AI h,rfl,BL e (zT h 0)⟩⟩⟩
theorem c9Q{u l w}(d:bT h u 3 ((uI 2 3).map VV.ag))(e:bT h l 1 [eS u])(c:bT h w 1 [eS l]):tI h w [[uI 2 3]]:=
 ⟨Ml c (Ml e (XK d (by show(3:Nat)<=1000;decide))),bu,Z5 (by constructor<;>decide) (by constructor<;>decide)⟩
theorem cnZ{o n c x y}(d:bT h o 3 ((uI 2 3).map VV.ag))(e:bT h n 3 ((uI x y).map VV.ag))(f:bT h c 3 [eG.ag ⟨0,o,n⟩]):sX h c [gC x y]:=
 Ml f ⟨rfl,XK d (by show(3:Nat)<=1000;decide),XK e (by show(3:Nat)<=1000;decide)⟩
theorem b5J:uz 18 c2Z:=by
 refine Lr func18 ?_;rintro a5 m h K⟨rfl,ht,hK⟩;refine⟨dqX,rfl,aD b2J (aD PL (aD b4Z aG)),TB m h (pY h K),bt,?_⟩;show TB m h (pY h K);dsimp only[TB,push_cast];intro c h1 a' rc k h2 a0 rk p h3 a1 rp a h4 a2 ra;refine⟨1,rfl,2,rfl,3,rfl,?_⟩;intro u h5 a3 ru l h6 a4 rl;have l6:=a4;have l5:=a3.trans l6;have l4:=a2.trans l5;have l3:=a1.trans l4;have l2:=a0.trans l3;have L:=a'.trans l2;refine⟨λz=>∃t r w x E,z=(⟨0,t⟩,r,w,x,0,m,E)/\PH.le h E/\dV E gS ⟨0,t⟩/\iB E bS r [] [ED]/\tI E w [[uI 2 3]]/\K4 E x [⟨0,false,0,[xU 1],2⟩,⟨0,true,0,[xU 1],2⟩],?_,?_⟩
 .have leaf:∀(o:Sl)(F:PH),PH.le h6 F->bT F o 3 ((uI 2 3).map VV.ag)->∀(n:Sl)(G:PH),PH.le F G->bT G n 3 ((uI 5 6).map VV.ag)->∀(t:Sl)(H:PH),PH.le G H->bT H t 5 [cD.ag ⟨⟨#[116,97,115,107,115]⟩,c,1,bS,bS⟩]->∀(r:Sl)(Q:PH),PH.le H Q->bT Q r 24 [dL.ag ⟨2,0,k,⟨3,0,iD,p,bS,bS,bS,0,a⟩⟩]->∀(w:Sl)(R:PH),PH.le Q R->bT R w 1 [eS l]->∀(D:Sl)(B:PH),PH.le R B->bT B D 3 [eG.ag ⟨0,o,n⟩]->
   dV B gS ⟨0,t⟩/\iB B bS r [] [ED]/\tI B w [[uI 2 3]]/\sX B D [gC 5 6]/\PH.le h B:=by
   intro o F g S n G f T t H d rt r Q I rr w R J M D B C A;have q:=J.trans C;have q9:=I.trans q;have q8:=d.trans q9;have q7:=f.trans q8;have O:=g.trans q7;exact⟨dMZ (rc.mono (l2.trans O)) (rt.mono q9),cnX (rk.mono (l3.trans O)) (rp.mono (l4.trans O)) (ra.mono (l5.trans O)) (rr.mono q),c9Q (ru.mono (l6.trans O)) (rl.mono O) (M.mono C),cnZ (S.mono q7) (T.mono q8) A,L.trans O⟩
  have dn:=dBQ (x:=5) (y:=6) (by constructor<;>decide) (by constructor<;>decide);have U:=cmJ 5 6;rw[if_neg bx]at U;refine⟨1,rfl,2,rfl,3,rfl,?_⟩
  repeat' (first|refine And.intro ?_ ?_ |refine⟨_,rfl,?_⟩|fail)
  all_goals
   intro o F g S n G f T t H d rt r Q I rr w R J M D B C A;have⟨W,X,Y,q4,q5⟩:=leaf o F g S n G f T t H d rt r Q I rr w R J M D B C A;exact⟨⟨0,t⟩,bS,r,bS,w,D,gS,[],[ED],[],_,_,[gC 5 6],rfl,W,X,aU.nil _ _ _ _,Y,q4,ht,dn,λx V j Z=>⟨(⟨0,t⟩,r,w,x,0,m,V),⟨t,r,w,x,V,rfl,q5.trans j,W.mono j,X.mono j,Y.mono j,by rw[U]at Z;exact Z⟩,MT⟩⟩
 rintro _⟨t,r,w,x,E,rfl,lz,W,X,Y,Z⟩;dsimp only;have dn:=dBQ (x:=5) (y:=3) (by constructor<;>decide) (by constructor<;>decide);have U:=cmJ 5 3;rw[if_pos rfl]at U;refine⟨λz=>∃hy,z=(x,0,0,m,hy)/\PH.le h hy/\K4 hy x [⟨0,false,0,[xU 1],2⟩,⟨0,true,0,[xU 1],2⟩],?_,?_⟩
 .repeat' (first|refine And.intro ?_ ?_ |refine⟨_,rfl,?_⟩|fail)
  all_goals
   intro o F g S n G f T D H d A;refine⟨⟨0,t⟩,bS,r,bS,w,D,gS,[],[ED],[],_,_,[gC 5 3],rfl,W.mono (g.trans (f.trans d)),X.mono (g.trans (f.trans d)),aU.nil _ _ _ _,Y.mono (g.trans (f.trans d)),cnZ (S.mono (f.trans d)) (T.mono d) A,ht,dn,λV j=>⟨(x,0,0,m,V),⟨V,rfl,lz.trans (g.trans (f.trans (d.trans j))),aU.mono Z (g.trans (f.trans (d.trans j))) λ_ _ y=>y.mono (g.trans (f.trans (d.trans j)))⟩,?_⟩⟩;rw[U];exact MT
 rintro _⟨hy,rfl,ly,P⟩;dsimp only;have hl:x.len=2:=aU.e P;have⟨b1,o1,d1,e1,r1,k1⟩:=aU.at P (i:=0) rfl;have⟨b2,o2,d2,e2,r2,k2⟩:=aU.at P (i:=1) rfl;have hk:d1.key.len=1:=aU.e k1.pf;refine aB (λ_=>aB (λ_=>aB (λ_=>⟨b1,o1,e1,bx,aC,d1.ju,.ay (bJ.part r1 4 1),aB (λ_=>⟨b1,o1,e1,bx,aC,d1.after,.ay (bJ.part r1 1 1),aB (λ_=>⟨b2,o2,e2,bx,aC,d2.after,.ay (bJ.part r2 1 1),aB (λ_=>⟨b1,o1,e1,bx,aC,d1.key,.ay (bJ.part r1 3 1),?_⟩) (λe=>?_)⟩) (λe=>?_)⟩) (λe=>?_)⟩) (λe=>?_)) (λe=>?_)) (λe=>?_)
 .rw[hk];exact .en (dh.refl m) ly hK
 .rw[k2.pm]at e;cases e
 .rw[k1.pm]at e;cases e
 .rw[k1.col_]at e;cases e
 .grind
 .cases e
 .cases e
theorem cjX c:lH [4] [xU c]=true:=by
 simp[lH,xU,kF,aGQ,range_succ]
theorem c4J{α:Type}{β h sz ag}{R:α->β->Prop}{s x y v w}(r:bT h s sz [ag v,ag w])(hx:R x v)(c:R y w):aU h sz ag R s [x,y]:=⟨⟨[v,w],r,rfl,λi z e=>by
 grind⟩,bu⟩
structure cVJ(s:kD)(t:Int)(q:ae):Prop where
 nn:Qk 2 q
 kin:cX s [4] q=(kX s t,0)
def dFX:=λc m h K=>∃cb sc p s,∃t:Nat,c=[cP cb,aS sc,cS p,cI t]/\aJ m h cb/\dV h s sc/\oX s/\an h p [4]/\t<s.c.length/\KQ K m h cb (cVJ s t)
structure aBX(s:kD)(rs:List jV):Prop where
 jv:rs.length<=5
 ok:∀r∈rs,iM s [4] r=0
 nn:∀r∈rs,Qk 2 r.av
def bEX:AC:=λc m h K=>∃cb sc s,c=[cP cb,aS sc]/\aJ m h cb/\dV h s sc/\oX s/\∀p r rs m' h',PH.le h h'->iB h' p r [4] rs->aBX s rs->aZ m m' cb->aJ m' h' cb->K (KI p r) m' h'
def c7Z(sc:bQ)(x:QV):=[UV 5 29 sc.ag,UV 8 68 oJ.ag,UV 10 68 x.ag]
def dnJ(cb:Nat)(sc:bQ)(p:Sl)(t:Nat):=tH [(29,yB),(53,bDQ),(13,ES),(54,blJ 1000),(27,uW),(55,cUX),(52,EL),(20,FZ),(57,Qh),(56,YF)]
 [(12,{A:=Nat×Sl×ti×MH×PH,st:=λ⟨i,a,l,m,h⟩=>bO 83 87 [(0,pv cb),(2,sv p),(3,iv t),SW 5,SW 8,SW 14,(15,iv i)] [UV 5 29 sc.ag,UV 8 68 oJ.ag,(14,.cells 68 (.val (.int .i64 3):: .val (.int .i64 0)::(iD.ag.map .val++[.au 70,.val bS.val,.val bS.val,.val bS.val,.val (.int .i64 0),.val a.val]))),(70,.au 3 1 (l.map eI))] m h})]
 [(10,{A:=QV×MH×PH,st:=λ⟨x,m,h⟩=>bO 83 87 [(0,pv cb),(2,sv p),(3,iv t),SW 5,SW 8,SW 10] (c7Z sc x) m h})] [] [100028,100051,100054] [] false
def dNZ(cb:Nat)(sc:bQ):=tH [(13,ES),(20,FZ),(26,dFX),(27,uW)]
 [(3,{A:=Int×Sl×List dL×MH×PH,st:=λ⟨n,p,l,m,h⟩=>bO 89 91 [(0,pv cb),SW 3,SW 4,SW 5,(6,iv n)] [UV 3 29 sc.ag,(4,.cells 34 [.val bS.val,.val bS.val]),(5,.cells 34 [.val p.val,.au 86]),(86,.au 70 24 (l.map dL.ag))] m h}),
  (9,{A:=Int×Int×Nat×Int×ti×Sl×List dL×MH×PH,st:=λ⟨j,k,t,n,c,p,l,m,h⟩=>bO 89 91 [(0,pv cb),SW 3,SW 4,SW 5,(6,iv n),SW 7,(8,iv j)] [UV 3 29 sc.ag,(4,.cells 34 [.val bS.val,.val bS.val]),(5,.cells 34 [.val p.val,.au 86]),(7,.cells 70 (.val (.int .i64 k):: .val (.int .i64 t):: .au 61::oJ.ag.map .val)),(61,.au 3 1 (c.map eI)),(86,.au 70 24 (l.map dL.ag))] m h})]
 [(8,{A:=Int×Nat×Int×Sl×List dL×MH×PH,st:=λ⟨k,t,n,p,l,m,h⟩=>bO 89 91 [(0,pv cb),SW 3,SW 4,SW 5,(6,iv n),SW 7] [UV 3 29 sc.ag,(4,.cells 34 [.val bS.val,.val bS.val]),(5,.cells 34 [.val p.val,.au 86]),(7,.cells 70 (.val (.int .i64 k):: .val (.int .i64 t):: .val bS.val::oJ.ag.map .val)),(86,.au 70 24 (l.map dL.ag))] m h})] [] [100011] [] false
abbrev M3(a:(QV×MH×PH->Prop)->Prop)(b:(QV×MH×PH)->Prop):=∃x,a x/\∀c,x c->b c
abbrev JJ(a:QV×MH×PH->Prop)(b:Nat)(c:Sl)(d:Nat)(e:bQ)(g:ue)(i:MH)(j:PH):=∃x,a x/\cK b/\aH c/\qZ d/\bY/\eC/\pM/\aW e/\mP gP (mS g x) (fX i x.2) (dH j x.2)
abbrev HA(a:Nat×Sl×ti×MH×PH):=a.2.2.1
abbrev tR(a:Nat×Sl×ti×MH×PH):=a.2.2.2
abbrev yO:=eQ (oQ 34 [Db,Db])
abbrev Bp(a:Int×Sl×List dL×MH×PH):=List.map dL.ag a.2.2.1
abbrev pK(a:Int×Sl×List dL×MH×PH):=a.2.2.2
abbrev rL(a:Int×Nat×Int×Sl×List dL×MH×PH):=a.2.2
abbrev E9(a b:Sl×List dL×MH×PH):=oQ 34 ([rF a.1,At.au 86])=oQ 34 [rF b.1,At.au 86]
abbrev HG a b c:=jX a::jX b::c::fZ::fZ::fZ::fZ::fZ::fZ::fZ::fZ::mh::fZ::fZ::fZ::fZ::mh::Db::Db::Db::Db::Db::[fZ,Db]
abbrev Ha a b:=cE 70 24 a=cE 70 24 b
abbrev Fs(a:Int×Int×Nat×Int×ti×Sl×List dL×MH×PH):=a.2.2.2.1
abbrev vC(a:Int×Int×Nat×Int×ti×Sl×List dL×MH×PH):=a.2.2.2.2.2
abbrev JK(a:Int×Int×Nat×Int×ti×Sl×List dL×MH×PH):=HG a.2.1 a.2.2.1 (At.au 61)
abbrev Fu(a:Int×Int×Nat×Int×ti×Sl×List dL×MH×PH):=a.2.2.2.2.1
abbrev oC a:=(vC a).2.2
attribute [push_cast] M3 JJ HA tR yO Bp pK rL E9 HG Ha Fs vC JK Fu oC
def amX(cb:Nat)(sc:bQ)(p:Sl)(t:Nat):ST:=λm h K=>Cd (yR sc t) h (λs B=>∃M,iJ t M/\M3 (λI=>iN cb 4 m B (λk E=>dJ (k==0) (JJ I cb p t sc (jX 1::jX M::fZ::fZ::fZ::fZ::fZ::fZ::mh::fZ::fZ::fZ::fZ::mh::Db::Db::Db::Db::Db::fZ::A8) E B) (k==1) (∃c,F5 (λF u=>Gn (λg H=>∃d,eD cb (bE (cW sc) (fB p 1))=eD c (bE (cW F) (fB u d))/\aJ E B c/\dV B g F/\HI g/\jP (g.c=[])/\an B u H/\iW H/\mZ (Es H)/\Int.negSucc 0<=d/\d<=1000/\(d+1).toNat<1000/\FH (λw q=>iK (λj z=>cO B z (cQ z q w) (QW q->Gd d.toNat q->A5 g H q=0->aZ E j c->rD j z c
 (Fa sc p w z (λ_ _ _ O A=>(∃f,MU cb s O f j A (λa b o J=>iK (λC n=>cO A n (l9 n o J) (J.length<=10->cn (AR a b) J->aZ j C f->aJ C n f->bN n 21 (yG 1 M::[w.ag]) (λP D=>JJ I cb p t sc (Cv 5 Db (rF o) P) C D)))))/\bN A 21 (yG 1 M::[w.ag]) (λP n=>∃f,MU cb s O f j n (λa b o J=>iK (λC D=>cO n D (l9 D o J) (J.length<=10->cn (AR a b) J->aZ j C f->aJ C D f->JJ I cb p t sc (Cv 5 Db (rF o) P) C D)))))))))))) ((∃c,Bs (λF G f u d=>eD cb (bU s (fB p 1))=eD c (bU F (fB G d))/\aJ E B c/\an B F f/\an B G u/\iW f/\iW u/\qL d/\Dy B f u d E c (λv j z=>bN z 21 [yG 1 M] (λg A=>JJ I cb p t sc (Nx 2 v g) j A))))/\bN B 21 [yG 1 M] (λF z=>∃c,Bs (λg G f u d=>eD cb (bU s (fB p 1))=eD c (bU g (fB G d))/\aJ E z c/\an z g f/\an z G u/\iW f/\iW u/\qL d/\Dy z f u d E c (λv j A=>JJ I cb p t sc (Nx 2 v F) j A)))))) (λx=>bN (gH x) 21 [x.1.ag] (λF z=>∃(I:Nat×Sl×ti×MH×PH->Prop)(E:Nat×Sl×ti×MH×PH->Nat),(∃e,I e/\cK cb/\aH p/\qZ t/\bY/\eC/\eP 14/\bB e.1/\aW sc/\gP/\Dz (Cv 3 (At.au 70) Db F) (Cv 3
 (At.au 70) Db e.2.1)/\wX (HA e)/\eV (fX x.2.1 (tR e)) (dH z (tR e)))/\∀e,I e->aM (λb o=>aR (kI sc) b o/\0<=(↑t:Int)/\t<aF sc.c/\∃y,aK (tR e).1 (tR e).2 b (bI o t 5+2) (bV y)/\aX e.1 y (lJ (gE (HA e)) 8 (∃L,I L/\E L<E e/\cK cb/\aH p/\qZ t/\bY/\eC/\eP 14/\fI (bA e.1 1)=bR L.1/\aW sc/\gP/\Dz (Cv 3 (At.au 70) Db e.2.1) (Cv 3 (At.au 70) Db L.2.1)/\kO (yM (HA e) e.1 (HA L)) (fX (tR e).1 (tR L)) (dH (tR e).2 (tR L)))) (lD cb 6 (tR e).1 (tR e).2 (λc r=>∀j,aZ (tR e).1 j c->aJ j (tR e).2 c->branch r (CN (λv g=>∃G S,yR sc t=yR v G/\dV (tR e).2 g v/\pE g/\Br g G S/\jP (S.aa=[])/\jA (λO A=>cO (tR e).2 A (an A O (kX g G)) (bN A 1 (gE (HA e)) (λP n=>∃f,CD (λT u k=>∃U,Gn (λQ H=>∃R q,eD cb (bE (cW sc) (bU p (bL (tV O) (wM 3 0 (nP (EN::pN::bD 0 0 (pW 0::EN::B8::fW P::Cq e.2.1)))))))=eD f (bE (cW T) (bU u (BR k U)))/\aJ j n f/\dV n Q T/\pE Q/\qL Q.c.length/\an n u H/\iW H/\an n k R/\iW R/\cQ n q U/\QW q/\FH (λw V=>
 iK (λC D=>cO n D (cQ D V w) (bBJ Q H R q V->aZ j C f->rD C D f (K (mX w.ag) C D))))))))))) (bN (tR e).2 1 (gE (HA e)) (λg A=>K (mX (wM 3 0 (nP (EN::pN::bD 0 0 (pW 0::EN::B8::fW g::Cq e.2.1))))) j A))))))))
def buQ(cb:Nat)(sc:bQ):ST:=λm h K=>bN h 1 [bV 4] (λs B=>iN cb 5 m B (λk J=>∃(I:Int×Sl×List dL×MH×PH->Prop)(z:Int×Sl×List dL×MH×PH->Nat),(∃x,I x/\cK cb/\eP 3/\eZ/\bY/\cG (j6 1 k) x.1/\aW sc/\yO/\mP (oQ 34 ([rF s,At.au 86])=oQ 34 [rF x.2.1,At.au 86]) (wL 70 24 (Bp x)) (fX J (pK x)) (dH B (pK x)))/\∀x,let R:=bN (pK x).2 24 (Bp x) (λu n=>K (mX (gI x.2.1 u)) (pK x).1 n);I x->eH x.1 0 (eH (iS sc) 0 (iN cb (iS sc) (pK x).1 (pK x).2 (λC D=>∃I1:Int×Nat×Int×Sl×List dL×MH×PH->Prop,lD cb 3 D (pK x).2 (λc r=>∀g,aZ D g c->aJ g (pK x).2 c->branch r (∃f,I1 f/\cK cb/\eP 3/\eZ/\bY/\cG x.1 (rL f).1/\eP 7/\aW sc/\yO/\E9 x.2 (rL f).2/\G9 (HG 2 C Db) (HG f.1 f.2.1 Db)/\Ha (Bp x) (Bp (rL f))/\eV (fX g (pK (rL f))) (dH (pK x).2 (pK (rL f)))) (∃f,I1 f/\cK cb/\eP 3/\eZ/\bY/\cG x.1 (rL f).1/\eP 7/\aW sc/\yO/\E9 x.2 (rL f).2/\G9 (HG 1 C Db) (HG f.1 f.2.1 Db)/\Ha (Bp x) (Bp (rL f))/\eV (fX g (pK (rL f))) (dH (pK x).2 (pK (rL f)))))/\∀f,I1 f->aM (λb o=>aR (kI sc) b o/\0<=(↑f.2.1:Int)/\f.2.1<aF sc.c/\∃y,aK (pK (rL f)).1 (pK (rL f)).2 b (bI o f.2.1 5+2) (bV y)/\∃(I2:Int×Int×Nat×Int×ti×Sl×List dL×MH×PH->Prop)(g:Int×Int×Nat×Int×ti×Sl×List dL×MH×PH->Nat),(∃d,I2 d/\cK cb/\eP 3/\eZ/\bY/\cG (rL f).1 (Fs d)/\eP 7/\cG y d.1/\aW sc/\yO/\E9 (rL f).2 (vC d)/\G9 (HG f.1 f.2.1 (At.au 61)) (JK d)/\wX (Fu d)/\Ha (Bp (rL f)) (List.map dL.ag (vC d).2.1)/\fX (pK (rL f)).1 (oC d)/\dH (pK (rL f)).2 (oC d)/\True)/\∀d,I2 d->aM (λE F=>aR (kI sc) E F/\0<=(↑d.2.2.1:Int)/\d.2.2.1<aF sc.c/\∃G,let N:=List.map dL.ag (vC d).2.1;aK (oC d).1 (oC d).2 E (dG (bI F d.2.2.1 5)) (aT G)/\aX d.1 (aF G) (lD cb 3 (oC d).1 (oC d).2 (λc r=>∀j,aZ (oC d).1 j c->aJ j (oC d).2 c->cC r (lJ (gE (Fu d)) 8 (∃e,I2 e/\g e<g d/\cK cb/\cR/\eZ/\bY/\cG (Fs d) (Fs e)/\eP 7/\cG (j6 d.1 1) e.1/\aW sc/\yO/\E9 (vC d) (vC e)/\G9 (JK d) (JK e)/\yM (Fu d) d.1 (Fu e)/\Ha N (List.map dL.ag (vC e).2.1)/\fX j (oC e)/\fQ (oC d).2 (oC e))) (∃e,I2 e/\g e<g d/\cK cb/\cR/\eZ/\bY/\cG (Fs d) (Fs e)/\eP 7/\cG (j6 d.1 1) e.1/\aW sc/\yO/\E9 (vC d) (vC e)/\G9 (JK d) (JK e)/\tO (gE (Fu d)) (Fu e)/\Ha N (List.map dL.ag (vC e).2.1)/\fX j (oC e)/\fQ (oC d).2 (oC e)))) (∃c,F5 (λu p=>∃(A:_)(t:Nat),eD cb (bE (cW sc) (fB (vC d).1 d.2.2.1))=eD c (bE (cW u) (fB p t))/\aJ (oC d).1 (oC d).2 c/\dV (oC d).2 A u/\oX A/\an (oC d).2 p [4]/\t< A.c.length/\FH (λw q=>iK (λj n=>cO (oC d).2 n (cQ n q w) (cVJ A t q->aZ (oC d).1 j c->rD j n c (Fa sc (vC d).1 w n (λL M O _ H=>dP (A5 L M O) 0 (bN H 1 (gE (Fu d)) (λP Q=>lJ N 320 (∃e,I e/\z e<z x/\cK cb/\cR/\eZ/\bY/\cG (jQ (Fs d) 1) e.1/\aW sc/\yO/\E9 (vC d) e.2/\cE 70 24 (hZ N (bD d.2.1 d.2.2.1 (eW P w.op (bD w.ah (fM w) (bD (fN w) (uC w).kind (fT (uC w) (Bb (NA w) (fW w.ap.args) (fW w.aa::fW w.on::fW w.be::fW w.bh::BH w.bg (fW w.args)))))))))= cE 70 24 (Bp e)/\fX j (pK e)/\fQ Q (pK e)))) (∃e,I e/\z e<z x/\cK cb/\cR/\eZ/\bY/\cG (jQ (Fs d) 1) e.1/\aW sc/\yO/\E9 (vC d) e.2/\Ha N (Bp e)/\fX j (pK e)/\fQ H (pK e))))))))))))) R) R))
theorem ZT{b p on}(h:cX s ps q=(a,0))(h':cX s ps p=(b,0))(c:cn (AR a b) on)(d:a.length<=12):cX s ps (.mk 5 0 jU [] on [] [] 0 [q,p])=(a,0):=by
 rw[bQZ bx h h'];unfold lS;rw[if_neg (by simp[cm,gL])];dsimp only;rw[if_neg bx,if_neg bx,if_neg bx,if_neg bx,if_pos rfl,if_pos c,RZ d]
theorem aHX{k:ti}{n}(h:n<=k.length):(((List.range n).map λj:Nat=>(j:Int)).map λc=>k.getD c.toNat 0)=k.take n:=by
 refine ext_getElem cv λi d e=>?_
 grind
theorem Jl{t:Nat}{c}(e:oX s)(d:s.c[t]?=some c):1<=c.key/\c.key<=c.aa.length/\c.aa.length<=4/\fC s (t:Int)=c.aa.map oI.kind/\kX s (t:Int)=(fC s (t:Int)).take c.key.toNat:=by
 have⟨f,o,j,u⟩:=BO e (si d);have g:=(Me (Eo e).1).2.2.1 t c d;have y:t<s.c.length:=(sg d);have n:fC s (t:Int)=c.aa.map oI.kind:=by simp_all[fC,if_neg,Int.toNat_natCast]
 have z:jE s (t:Int)=true:=by grind[jE]
 refine⟨f,g.2.2.1,j,n,?_⟩
 grind[kX]
theorem b2Q:uz 26 dFX:=by
 refine gV func26 ?_;rintro b1 m h K⟨cb,sc,p,s,t,rfl,hc,R,hp,Y,ht,hK⟩;refine⟨dnJ cb sc p t,rfl,aD AQ (aD jt (aD EP (aD (nz 1000) (aD Kl (aD ni (aD ip (aD qR (aD kg (aD kh aG))))))))),amX cb sc p t,bt,?_⟩;dsimp only[amX,push_cast];have b2:=R.c.e;have⟨S,a2⟩:=Eo hp;have h8:=uY S;have b3:=xM S;have C:s.c[t]?=some s.c[t]:=sh ht;generalize s.c[t]=u at C;have⟨k1,k2,k3,k4,k5⟩:=Jl hp C;have b4:(fC s (t:Int)).length=u.aa.length:=da
 have Z:=aHZ hp;have M:OF (fC s (t:Int)):=Z _;have a':OF [4]:=λk hk=>by simp at hk;subst hk;exact .inr (.inl rfl)
 have B:cX s [4] (.mk 1 t jU [] [] [] [] 0 [])=(fC s (t:Int),0):=Lp aC aC aC;refine⟨sc,s,t,rfl,R,h8,λsl X A J=>⟨t,rfl,λz=>∃q,cQ z.2.2 q z.1/\PH.le X z.2.2/\aZ m z.2.1 cb/\aJ z.2.1 z.2.2 cb/\QW q/\cX s [4] q=(fC s (t:Int),0)/\rV 9 5 64 q,⟨cb,4,rfl,hc.mono A,λk m1 _ _ o1 c1=>aB (λ_=>?_) (λ_=>aB (λ_=>?_) (λ_=>?_))⟩,?_⟩⟩
 .exact⟨(⟨1,t,iD,bS,bS,bS,bS,0,bS⟩,m1,X),⟨_,zT X t,.refl _,o1,c1,GO t,B,rV.scan.mono aC aC aC⟩,MT⟩
 .refine⟨cb,sc,p,s,[4],1,rfl,c1,R.mono A,S,a2,Y.mono A,bu,bx,aC,aC,bx,λw q O h2 g rq qw fq hq T U=>?_⟩;obtain⟨V,a3⟩:∃V,iG s [4] q=(V,0):=⟨_,Prod.ext rfl hq⟩
  have a0:cX s [4] q=(V,0):=by
   grind[iG,nY]
  have b':V.length<=12:=by grind[EB]
  have sz:rV 7 4 16 q:=fq;refine⟨sc,p,w,s,[4],q,rfl,R.mono (A.trans g),Y.mono (A.trans g),rq,λs1 G d W=>?_⟩;rw[a3]at W
  have du:∀(on:tu)(o a:Sl)(I:MH)(n:PH),PH.le G n->l9 n o on->cn (AR (fC s (t:Int)) V) on->bT n a 21 [QV.ag ⟨1,t,iD,bS,bS,bS,bS,0,bS⟩,w.ag]->aZ O I cb->aJ I n cb->∃q,cQ n q ⟨5,0,iD,bS,o,bS,bS,0,a⟩/\PH.le X n/\aZ m I cb/\aJ I n cb/\QW q/\cX s [4] q=(fC s (t:Int),0)/\rV 9 5 64 q:=λon o a I n fa H hg D ox cx=>by
   refine⟨.mk 5 0 jU [] on [] [] 0 [.mk 1 t jU [] [] [] [] 0 [],q],pV.fm ⟨rfl,rfl,Ge _,uH _,H,uH _,AI _,rfl,c4J D (zT _ t) (rq.mono (d.trans fa))⟩,g.trans (d.trans fa),(o1.trans T).trans ox,cx,XM.2 ⟨BN,λx n=>?_⟩,ZT B a0 hg aC,?_⟩
   .simp at n;rcases n with rfl|rfl
    .exact GO _
    .exact qw
   .exact(rV.two rV.scan sz aC aC).mono aC aC aC
  constructor
  .refine⟨cb,sl,s1,fC s (t:Int),V,rfl,U.mono d,J.mono (g.trans d),W,aC,aC,λo on m4 h4 E H _ hg o4 c4 a L f D=>⟨(⟨5,0,iD,bS,o,bS,bS,0,a⟩,m4,L),du on o a m4 L (E.trans f) (H.mono f) hg D o4 (c4.mono f),MT⟩⟩
  .refineλa h4 E D=>⟨cb,sl,s1,fC s (t:Int),V,rfl,U.mono (d.trans E),J.mono (g.trans (d.trans E)),W.mono E,aC,aC,λo on m5 L f H _ hg o5 c5=>⟨(⟨5,0,iD,bS,o,bS,bS,0,a⟩,m5,L),du on o a m5 L (E.trans f) H hg (D.mono f) o5 c5,MT⟩⟩
 .have du:∀(v:PV)(P:ao)(a:Sl)(I:MH)(n:PH),PH.le X n->fV n P v->I8 (fC s (t:Int)) [4] 1 P->bT n a 21 [QV.ag ⟨1,t,iD,bS,bS,bS,bS,0,bS⟩]->aZ m1 I cb->aJ I n cb->∃q,cQ n q ⟨2,0,v,bS,bS,bS,bS,0,a⟩/\PH.le X n/\aZ m I cb/\aJ I n cb/\QW q/\cX s [4] q=(fC s (t:Int),0)/\rV 9 5 64 q:=λv P a I n fa rp H D ox cx=>
   ⟨.mk 2 0 P [] [] [] [] 0 [.mk 1 t jU [] [] [] [] 0 []],Ls rp (BL D (zT _ t)),fa,o1.trans ox,cx,OY H.fk (GO t),gu B (H.valid aC M a') aC,(rV.one rV.scan aC).mono aC aC aC⟩
  constructor
  .refine⟨cb,sl,p,fC s (t:Int),[4],1,rfl,c1,J,Y.mono A,aC,bu,aC,λv P O h2 g rp H T U a G d D=>⟨(⟨2,0,v,bS,bS,bS,bS,0,a⟩,O,G),du v P a O G (g.trans d) (rp.mono d) H D T (U.mono d),MT⟩⟩
  .refineλa h2 g D=>⟨cb,sl,p,fC s (t:Int),[4],1,rfl,c1.mono g,J.mono g,Y.mono (A.trans g),aC,bu,aC,λv P m3 G d rp H o3 c3=>⟨(⟨2,0,v,bS,bS,bS,bS,0,a⟩,m3,G),du v P a m3 G (g.trans d) rp H (D.mono d) o3 c3,MT⟩⟩
 rintro⟨x,O,h2⟩⟨q,rq,g,T,U,qw,kq,sz⟩;dsimp only at rq g T U⊢
 intro a G d D;have L3:=A.trans (g.trans d);refine⟨λz=>z.1<=u.key.toNat/\z.2=(a,(List.range z.1).map (λj:Nat=>(j:Int)),O,G),λz=>u.key.toNat-z.1,⟨(0,a,[],O,G),⟨aC,rfl⟩,MT⟩,?_⟩;rintro⟨i,z⟩⟨a4,e⟩;dsimp only at a4 e;subst e;dsimp only;have⟨b,o,y,ea,rd,hy⟩:=aU.at (R.mono L3).c C;have b0:=hy.key;have b5:(((List.range i).map λj:Nat=>(j:Int)).map eI).length=i:=bu
 refine⟨b,o,ea,aC,aC,y.key,.ay (bJ.part rd 2 1),aE (λb6=>?_) (λb7=>?_)⟩
 .refine⟨aC,aC,(i+1,a,(List.range (i+1)).map (λj:Nat=>(j:Int)),O,G),⟨aC,rfl⟩,aC,?_⟩;rw[fH aC,range_succ,sn,sn];exact MT
 .have a5:i=u.key.toNat:=by omega
  subst a5;have c3:=U.mono d
  have kin:cX s [4] (.mk 3 0 jU ((List.range u.key.toNat).map λj:Nat=>(j:Int)) [] [] [] 0 [q])=(kX s (t:Int),0):=by
   rw[F9 kq,aHX aC,k5]
   .grind
   .grind[IK]
   grind
  have a1:rV 10 6 64 (.mk 3 0 jU ((List.range u.key.toNat).map λj:Nat=>(j:Int)) [] [] [] 0 [q]):=sz.one aC;have a6:QW (.mk 3 0 jU ((List.range u.key.toNat).map λj:Nat=>(j:Int)) [] [] [] 0 [q]):=OY BN qw;have Q:∀(c:Sl)(n:PH),PH.le G n->bT n c 1 (((List.range u.key.toNat).map λj:Nat=>(j:Int)).map eI)->cQ n (.mk 3 0 jU ((List.range u.key.toNat).map λj:Nat=>(j:Int)) [] [] [] 0 [q]) ⟨3,0,iD,c,bS,bS,bS,0,a⟩:=λc n fa rc=>Is ⟨rc,cv⟩ (BL (D.mono fa) (rq.mono (d.trans fa)));refine⟨cb,6,rfl,aC,aC,c3,λr m4 o4 c4=>aB (λ_=>?_) (λ_ c L f rc=>?_)⟩
  .refine⟨sc,s,t,u,rfl,R.mono L3,h8,C,λe=>da,λk L f a7 c h6 F rc=>⟨cb,sc,p,k,⟨3,0,iD,c,bS,bS,bS,0,a⟩,s,[4],kX s (t:Int),_,rfl,c4.mono (f.trans F),R.mono (L3.trans (f.trans F)),h8,aC,Y.mono (L3.trans (f.trans F)),bu,a7.mono F,da,Q c h6 (f.trans F) rc,a6,λw q1 m7 h7 a8 a9 x o7 c7=>?_⟩⟩;refine hK w q1 m7 h7 (L3.trans (f.trans (F.trans a8))) a9 ⟨x.nn 2 (a1.mono bx bx bx),x.kin Z a' (λk hk=>M k (mem_of_mem_take (by rw[<-k5];exact hk))) ?_ ?_ kin⟩ ((T.trans o4).trans o7) c7
   .intro e;have:=congrArg List.length e
    grind
   grind
  .exact hK _ _ m4 L (L3.trans f) (Q c L f rc) ⟨a1.mono bx bx bx,kin⟩ (T.trans o4) (c4.mono f)
structure BD(h:PH)(l:List dL)(rs:List jV):Prop where
 len:l.length=rs.length
 fm:∀(i:Nat)(r:_),rs[i]?=some r->∃v,l[i]?=some v/\OC h r v
theorem BD.nil h:BD h [] []:=⟨rfl,λi r e=>by simp at e⟩
theorem BD.mono{l rs}(x:BD h l rs)(le:PH.le h h'):BD h' l rs:=⟨x.len,λi c e=>(x.fm i c e).imp λ_ y=>⟨y.1,y.2.mono le⟩⟩
theorem BD.cs{l rs s}(x:BD h l rs)(r:bT h s 24 (l.map dL.ag))(c:rs.length<=1000):aU h 24 dL.ag (OC h) s rs:=⟨⟨l,r,x.len.symm,x.fm⟩,aC⟩
theorem BD.cw{l rs c v}(x:BD h l rs)(y:OC h c v):BD h (l++[v]) (rs++[c]):=⟨by simp[x.len],λi d e=>by
 rcases Nat.lt_trichotomy i rs.length with f|f|f
 .rw[getElem?_append_left f]at e;have⟨w,g,j⟩:=x.fm i d e
  grind
 .subst f;simp at e;subst e;exact⟨v,by rw[<-x.len];simp,y⟩
 grind⟩
theorem N3{n j:Int}:∀{c:ti}{l:Int},kT n l c=true->(∀x∈c,x<j)->l<j->j<n->kT n l (c++[j])=true
 |[],l,_,_,f,d=>by grind[kT]
 |x::c,l,h,e,f,d=>by
  simp only[kT,su]at h;simp only[cons_append,kT,su];exact⟨h.1,N3 h.2 (λy g=>e y (mem_cons_of_mem _ g)) (e x (mem_cons_self ..)) d⟩
theorem coJ:uz 9 bEX:=by
 refine gV func9 ?_;rintro a6 m h K⟨cb,sc,s,rfl,hc,X,Z,hK⟩;refine⟨dNZ cb sc,rfl,aD EP (aD qR (aD b2Q (aD Kl aG))),buQ cb sc,bt,?_⟩;dsimp only[buQ,push_cast];have a7:=X.c.e;have⟨Q,a'⟩:=Eo Z;have a8:=xM Q;have a9:0<s.c.length:=length_pos_iff.2 a';intro p h1 B rp;have J:an h1 p [4]:=⟨rp,da⟩
 refine⟨cb,5,rfl,hc.mono B,λk R k0 kn L O=>⟨λz=>0<=z.1/\z.1<=5/\z.2.1=p/\PH.le h1 z.2.2.2.2/\aZ m z.2.2.2.1 cb/\aJ z.2.2.2.1 z.2.2.2.2 cb/\∃rs,BD z.2.2.2.2 z.2.2.1 rs/\(rs.length:Int)<=5-z.1/\(∀r∈rs,iM s [4] r=0)/\∀r∈rs,Qk 2 r.av,λz=>z.1.toNat,⟨(1+k,p,[],R,h1),⟨aC,aC,rfl,.refl _,L,O,[],.nil _,da,λr E=>(by cases E),λr E=>by cases E⟩,by rw[dW aC aC];exact MT⟩,?_⟩⟩;clear L O kn k0 k R;rintro⟨n,g,l,R,A⟩⟨n0,n5,e1,fa,L,O,rs,S,a0,T,U⟩;dsimp only at n0 n5 e1 fa L O S a0⊢
 subst e1;have b':=S.len;have en:∀(Y:Sl)(h':PH),PH.le A h'->bT h' Y 24 (l.map dL.ag)->K (KI g Y) R h':=λY h' F rr=>hK g Y rs R h' (B.trans (fa.trans F)) ⟨J.mono (fa.trans F),(S.mono F).cs rr aC⟩ ⟨aC,T,U⟩ L (O.mono F);refine aE (λhn=>aE (λ_=>?_) (λ_=>en)) (λ_=>en);refine⟨cb,sc.c.len,rfl,O,λt P t0 tn C I=>?_⟩;obtain⟨t,rfl⟩:=Int.eq_ofNat_of_zero_le t0;have ht:t<s.c.length:=by omega
 have D:s.c[t]?=some s.c[t]:=sh ht;generalize s.c[t]=d at D;have⟨q1,q2,q3,q4,q5⟩:=Jl Z D;refine⟨λz=>∃k M,z=(k,t,n,g,l,M,A)/\(k=1\/k=2)/\aZ m M cb/\aJ M A cb,⟨cb,3,rfl,aC,aC,I,λr G V W=>aB (λ_=>⟨(2,t,n,g,l,G,A),⟨_,G,rfl,.inr rfl,(L.trans C).trans V,W⟩,MT⟩) (λ_=>⟨(1,t,n,g,l,G,A),⟨_,G,rfl,.inl rfl,(L.trans C).trans V,W⟩,MT⟩)⟩,?_⟩;clear C I P;rintro _⟨k,P,rfl,hk,C,I⟩;dsimp only;have⟨b,o,y,ea,rd,hy⟩:=aU.at (X.mono (B.trans fa)).c D;have a5:=hy.key;have b0:y.aa.len=d.aa.length:=aU.e hy.aa;refine⟨b,o,ea,aC,aC,y.key,.ay (bJ.part rd 2 1),λz=>∃j c M,z=(j,k,t,n,c,g,l,M,A)/\d.key<=j/\j<=d.aa.length/\kT d.aa.length (d.key-1) c=true/\(∀x∈c,x<j)/\(c.length:Int)<=j-d.key/\aZ m M cb/\aJ M A cb,λz=>(d.aa.length-z.1).toNat,⟨(y.key,k,t,n,[],g,l,P,A),⟨_,[],P,rfl,aC,aC,rfl,λx A=>(by cases A),da,C,I⟩,MT⟩,?_⟩;clear C I P;rintro _⟨j,c,P,rfl,j0,j1,hf,a1,a2,C,I⟩;dsimp only;have b1:(c.map eI).length=c.length:=length_map ..;refine⟨b,o,ea,aC,aC,y.aa,.ay (bJ.part rd 1 1),aE (λa3=>?_) (λa3=>?_)⟩
 .rw[dW (n:=j+1) aC aC];refine⟨cb,3,rfl,aC,aC,I,λr G V W=>aB (λ_=>⟨aC,aC,(j+1,k,t,n,c++[j],g,l,G,A),⟨_,_,G,rfl,aC,aC,N3 hf a1 aC aC,λx a4=>?_,da,C.trans V,W⟩,aC,by rw[sn];exact MT⟩) (λ_=>⟨(j+1,k,t,n,c,g,l,G,A),⟨_,_,G,rfl,aC,aC,hf,λx a4=>da,aC,C.trans V,W⟩,aC,MT⟩)⟩
  grind
 .rw[dW (n:=n-1) aC aC];refine⟨cb,sc,g,s,t,rfl,I,X.mono (B.trans fa),Z,J.mono fa,ht,λw q m4 h4 u rq kq o4 c4=>⟨sc,g,w,s,[4],q,rfl,X.mono (B.trans (fa.trans u)),J.mono (fa.trans u),rq,λsl h5 f _=>aB (λe=>?_) (λ_=>?_)⟩⟩
  .intro cs h6 H rc
   have hq:iG s [4] q=(kX s (t:Int),0):=by
    have e:(iG s [4] q).2=0:=mp e
    unfold iG at e⊢
    rw[if_pos Q,if_pos bx]at e⊢
    split at e
    .rename_i h9;rw[if_pos h9];exact kq.kin
    .simp[nY]at e
   have b2:nL s ⟨k,t,c,q⟩=true:=by
    grind[jE,nL]
   refine⟨da,da,(n-1,g,l++[⟨k,t,cs,w⟩],m4,h6),⟨aC,aC,rfl,fa.trans (u.trans (f.trans H)),C.trans o4,c4.mono (f.trans H),rs++[⟨k,t,c,q⟩],(S.mono (u.trans (f.trans H))).cw ⟨rfl,rfl,⟨rc,da⟩,rq.mono (f.trans H)⟩,da,λr E=>?_,λr E=>?_⟩,aC,by rw[sn];exact MT⟩
   .grind[mem_singleton,qN]
   .rcases mem_append.1 E with E|E
    .grind
    .rw[mem_singleton]at E;subst E;exact kq.nn
  .exact⟨(n-1,g,l,m4,h5),⟨aC,aC,rfl,fa.trans (u.trans f),C.trans o4,c4.mono f,rs,S.mono (u.trans f),aC,T,U⟩,aC,MT⟩
structure UE(h:PH)(l:List eG)(cs:List sZ):Prop where
 len:l.length=cs.length
 fm:∀(i:Nat)(c:_),cs[i]?=some c->∃v,l[i]?=some v/\AW h c v
theorem UE.mono{l cs}(x:UE h l cs)(le:PH.le h h'):UE h' l cs:=⟨x.len,λi c e=>(x.fm i c e).imp λ_ y=>⟨y.1,y.2.mono le⟩⟩
theorem UE.cs{l cs s}(x:UE h l cs)(r:bT h s 3 (l.map eG.ag))(c:cs.length<=1000):sX h s cs:=⟨⟨l,r,x.len.symm,x.fm⟩,aC⟩
theorem UE.cw{l cs c v}(x:UE h l cs)(y:AW h c v):UE h (l++[v]) (cs++[c]):=⟨by simp[x.len],λi d e=>by
 rcases Nat.lt_trichotomy i cs.length with f|f|f
 .rw[getElem?_append_left f]at e;have⟨w,g,j⟩:=x.fm i d e
  grind
 .subst f;simp at e;subst e;exact⟨v,by rw[<-x.len];simp,y⟩
 grind⟩
def aEZ:AC:=λe m h K=>∃cb v s g f,∃c:Nat,e=[cP cb,aS v,cI 1,KH g,cI c]/\aJ m h cb/\dV h s v/\oX s/\tI h g f/\UB 4 s f/\c<=5/\
 ∀j w cs d m' h',PH.le h h'->sX h' j cs->OE s f cs d->UB (4+c) s d->cs.length<=c->dl m m' cb->aJ m' h' cb->K (.dg [cS j,KH w]) m' h'
def bhQ(v:bQ)(w:Sl)(l:List eG):=[UV 6 29 v.ag,(8,.cells 38 [.val w.val]),(11,.cells 38 [.val bS.val]),(111,.au 84 3 (l.map eG.ag))]
def dtJ cb v:=tH [(13,ES),(20,FZ),(24,Rc),(28,dDZ),(29,yB),(30,dxJ),(31,YP),(32,dSQ)]
 [(4,{A:=Int×Sl×List eG×MH×PH,st:=λ⟨n,w,l,m,h⟩=>bO 122 127 [(0,pv cb),(2,iv 1),SW 6,SW 8,SW 11,(12,.at (.au 111)),(13,iv n)] (bhQ v w l) m h})]
 [(12,{A:=Int×Sl×Int×Sl×List eG×MH×PH,po:=true,st:=λ⟨t,r,n,w,l,m,h⟩=>bO 122 127 [(0,pv cb),(2,iv 1),SW 6,SW 8,SW 11,(12,.at (.au 111)),(13,iv n),SW 14,(15,sv r)] ((14,.cells 84 [.val (.int .i64 t),.val bS.val,.val bS.val])::bhQ v w l) m h}),
  (16,{A:=eG×Sl×Int×Sl×List eG×MH×PH,st:=λ⟨x,k,n,w,l,m,h⟩=>bO 122 127 [(0,pv cb),(2,iv 1),SW 6,SW 8,SW 11,(12,.at (.au 111)),(13,iv n),SW 14,(18,sv k)] (UV 14 84 x.ag::bhQ v w l) m h})] [] [1000] [] false
abbrev oD(a:Int×Sl×List eG×MH×PH):=a.2.1
abbrev xH(a:Int×Sl×List eG×MH×PH):=List.map eG.ag a.2.2.1
abbrev qC(a:Int×Sl×List eG×MH×PH):=a.2.2.2
abbrev tU a:=(qC a).2
abbrev lW(a:Int×Sl×Int×Sl×List eG×MH×PH):=a.2.2
abbrev Ht a:=jX a::Db::A8
abbrev Hb a b:=cE 84 3 (xH a)=cE 84 3 b
abbrev nR(a:eG×Sl×Int×Sl×List eG×MH×PH):=a.2.2
attribute [push_cast] oD xH qC tU lW Ht Hb nR
def asJ(cb:Nat)(v:bQ)(sl:Sl)(M:Nat):ST:=λm h K=>xQ (λs l=>Ex (oL sl)=[oL s]/\tI h s l/\Bw l/\Ce l (λl1=>D2 l1)/\Ce l (λl1=>Hc l1)/\∀s1 u,iK (λm1 U=>cO h U (Xl m s1 u m1) (BE U u l->iN cb (bA M 1) m1 U (λk m2=>∃(I:Int×Sl×List eG×MH×PH->Prop)(m3:Int×Sl×List eG×MH×PH->Nat),(∃x,I x/\cK cb/\bM 1/\jW/\eC/\nF/\eL 111/\cG k x.1/\aW v/\iT s1 (oD x)/\kP/\wL 84 3 (xH x)/\eV (fX m2 (qC x)) (dH U (qC x)))/\∀x,let N:=bN (tU x) 3 (xH x) (λO f=>K (CV.dg (bL (tV O) (aT (oD x)))) (qC x).1 f);I x->eH x.1 0 (eH (iS v) 0 (iN cb (iS v) (qC x).1 (tU x) (λj m4=>aM (λb o=>aR (kI v) b o/\0<=j/\j<aF v.c/\∃y,aK m4 (tU x) b (dN o j 5+2) (bV y)/\bJ (tU x) b (dN o j 5+2) (bV y)/\Cd (dZ (jS v) j) (tU x) (λO f=>∃c s3,NJ (λk2 P=>eD cb (bU O (dZ (fD y) 1))=eD c (bU s3 (dZ (fD k2) 1))/\aJ m4 f c/\an f s3 P/\iW P/\(∀z,List.Mem z P->z=3\/z=4\/z=5)/\∀G r C,Qe m4 C c G r->KM k2 P r->Dj P r->aJ C f c->∃I1:Int×Sl×Int×Sl×List eG×MH×PH->Prop,aM (λb1 o1=>aR (oD x).a b1 o1/\0<=j/\j<aF (oD x)/\∃Q,aK C f b1 (dN o1 j 1) (aT Q)/\eH (aF Q) 0 (lD cb 2 C f (λV H=>∀g,aZ C g V->aJ g f V->branch H (iN cb (aF Q) g f (fun z W=>ab Q z 1 aT W f (λy2=>yI v (iV j y2) f (λJ B=>aM (λb3 o3=>tG (aR G.a b3 o3) (λR=>dA 3 R/\mH W B (bK J) 3 R/\R.length<=G.len/\i6 (λA E=>yA W b3 (gU A E 0)/\o3+R.length*3<=A.size/\∀m8,cF W m8 b3 (rC A o3 R.flatten) E->uP m8 B->∃d,I1 d/\cK cb/\bM 1/\jW/\eC/\nF/\eL 111/\cG x.1 (lW d).1/\eP 14/\bC G d.2.1/\aW v/\iT (oD x) (oD (lW d))/\kP/\oQ 84 (Ht j)=oQ 84 (Ht d.1)/\Hb x (xH (lW d))/\wA m8 B (qC (lW d)).1 (tU (lW d))/\True))))))) (uP g f->∃d,I1 d/\cK cb/\bM 1/\jW/\eC/\nF/\eL 111/\cG x.1 (lW d).1/\eP 14/\bC G d.2.1/\aW v/\iT (oD x) (oD (lW d))/\kP/\oQ 84 (Ht j)=oQ 84 (Ht d.1)/\Hb x (xH (lW d))/\wA g f (qC (lW d)).1 (tU (lW d))/\True))) (uP C f->∃d,I1 d/\cK cb/\bM 1/\jW/\eC/\nF/\eL 111/\cG x.1 (lW d).1/\eP 14/\bC G d.2.1/\aW v/\iT (oD x) (oD (lW d))/\kP/\oQ 84 (Ht j)=oQ 84 (Ht d.1)/\Hb x (xH (lW d))/\wA C f (qC (lW d)).1 (tU (lW d))/\True))/\∀d,I1 d->yI v (iV d.1 d.2.1) (tU (lW d)) (λJ B=>Hu (λv1 s6 t n V u1 u2 t1 t2 H s7 z=>bE (cW v) (bE (aT (oD (lW d))) (iV d.1 J))=bE (cW v1) (bE (DV t n V) (iV t1 s7))/\dV B s6 v1/\Br s6 t1 t2/\Ga (qC (lW d)).1 t u1/\n=u1.length/\FG u1 t1 u2/\Rows B u2 H/\D2 H/\Hc H/\bF B s7 z/\∀S,∀_:Bool,∀D,cO B D (bF D S (sT t2 z H)) (∃I2:eG×Sl×Int×Sl×List eG×MH×PH->Prop,let Aa:=jX d.1::rF S::zU d.2.1;dP (aF S) 0 (∃e,I2 e/\cK cb/\bM 1/\jW/\eC/\nF/\eL 111/\cG (lW d).1 (nR e).1/\eP 14/\bC J e.2.1/\aW v/\iT (oD (lW d)) (oD (nR e))/\kP/\oQ 84 Aa=oQ 84 (Az e.1)/\Hb (lW d) (xH (nR e))/\fX (qC (lW d)).1 (qC (nR e))/\fQ D (qC (nR e))) (lD cb 3 (qC (lW d)).1 D (λA L=>∀g,aZ (qC (lW d)).1 g A->aJ g D A->cC L (∃e,I2 e/\cK cb/\bM 1/\jW/\eC/\nF/\eL 111/\cG (lW d).1 (nR e).1/\eP 14/\bC J e.2.1/\aW v/\iT (oD (lW d)) (oD (nR e))/\kP/\oQ 84 Aa=oQ 84 (Az e.1)/\Hb (lW d) (xH (nR e))/\fX g (qC (nR e))/\fQ D (qC (nR e))) (∃e,I2 e/\cK cb/\bM 1/\jW/\eC/\nF/\eL 111/\cG (lW d).1 (nR e).1/\eP 14/\bC J e.2.1/\aW v/\iT (oD (lW d)) (oD (nR e))/\kP/\oQ 84 (jX d.1::rF S::A8)=oQ 84 (Az e.1)/\Hb (lW d) (xH (nR e))/\fX g (qC (nR e))/\fQ D (qC (nR e)))))/\∀e,I2 e->lJ (xH (nR e)) 56 (Hu (λv2 s9 T n1 A X u4 Y t5 L a k5=>nZ (λa1 Z=>bE (cW v) (bE (aT (oD (nR e))) (jO e.1.ah (fG e.2.1 e.1.new)))=bE (cW v2) (bE (DV T n1 A) (jO Y (fG a a1)))/\dV (tU (nR e)) s9 v2/\Br s9 Y t5/\Ga (qC (nR e)).1 T X/\n1=X.length/\FG X Y u4/\Rows (tU (nR e)) u4 L/\D2 L/\(∀r4,vE r4 L (jB r4))/\bF (tU (nR e)) a k5/\bF (tU (nR e)) a1 Z/\jB Z/\∀u5,iK (λg h5=>cO (tU (nR e)) h5 (Rows h5 u5 (tK t5 k5 Z (decide (Z.length=0)) L)) (Ga g T (List.set X Y u5)->aZ (qC (nR e)).1 g T->∃F,I F/\m3 F<m3 x/\cK cb/\bM 1/\jW/\eC/\nF/\eL 111/\cG (jQ (nR e).1 1) F.1/\aW v/\oQ 38 ([A6 (kR T 0) n1 A])=oQ 38 (zU (oD F))/\kP/\kO (cE 84 3 (hZ (xH (nR e)) (jM e.1))=cE 84 3 (xH F)) (fX g (qC F)) (dH h5 (qC F))))))))))))))) N) N))))
theorem N0{sz:Nat}:∀{xs:List tm},(∀e∈xs,e.length=sz)->∀n,xs.flatten.drop (n*sz)=(xs.drop n).flatten
 |[],_,n=>bu
 |x::xs,h,0=>bu
 |x::xs,h,n+1=>by
  have d:=h x (mem_cons_self ..);have f:=N0 (λe c=>h e (mem_cons_of_mem _ c)) n
  grind[flatten_cons,Nat.succ_mul,Nat.add_comm,drop_drop,drop_left]
theorem fU.copy{m0 s E c}(r:fU m0 m s E sz xs)(n:dA sz c)(B:c.length<=xs.length){f}(e:s.a=some ⟨b,0,none⟩)(C:m b=some (.cells f E (0,0)))(up:iZ m m' b (.cells (aq f.toList 0 c.flatten).toArray E (0,0))):fU m0 m' s E sz (c++xs.drop c.length):=by
 refine⟨⟨⟨λe o=>?_,λe o u y=>?_⟩,?_⟩,r.f⟩
 .rcases mem_append.1 o with h|h
  .exact n.len e h
  .exact r.row.rows.len e (mem_of_mem_drop h)
 .rcases mem_append.1 o with h|h
  .exact n.one e h u y
  .exact r.row.rows.one e (mem_of_mem_drop h) u y
 .rcases r.row.ex with⟨rfl,_⟩|⟨D,g,z,rfl,j,F,G,M,H⟩
  .cases e
  .simp only[ss,Addr.mk.injEq]at e;obtain⟨rfl,-,-⟩:=e;rw[C]at j;simp only[ss,Obj.cells.injEq]at j;obtain⟨rfl,-,-⟩:=j;have d:(c++xs.drop c.length).length=xs.length:=cv
   have t:=dY n.len;have I:=dY r.row.rows.len;have J:c.length*sz<=xs.length*sz:=Nat.mul_le_mul_right _ B;have L:f.toList.length=g*sz:=by omega
   have A:xs.length*sz<=g*sz:=Nat.mul_le_mul_right _ F;refine .inr ⟨D,g,_,by rw[d],up.y,aC,G,?_,?_⟩
   .grind[size_toArray,qM]
   .rw[d,flatten_append,<-N0 r.row.rows.len,<-H,<-t]
    grind[aq,take_append,sm,drop_take]
theorem dl.dv{m0 o}(k:dl m0 m cb)(up:iZ m m' b o)(f:m0 b=none):dl m0 m' cb:=λc d e n=>by
 rw[up.ai c λg=>by grind];exact k c d e n
structure TG(h:PH)(s:kD)(m:MH)(tb:Nat)(us:tq)(st:List tj):Prop where
 pn:Ga m tb us
 gx:us.length=s.c.length
 e:st.length=s.c.length
 rows:∀(j:Nat) u l,us[j]?=some u->st[j]?=some l->Rows h u l
theorem TG.mono{tb us st}(x:TG h s m tb us st)(le:PH.le h h')(e:m' tb=m tb):TG h' s m' tb us st:=by
 have⟨c,n,d,f⟩:=x.pn;exact⟨⟨c,da,d,f⟩,x.gx,x.e,λj u l a b=>aU.mono (x.rows j u l a b) le λr t g=>bF.mono g le⟩
theorem TG.set{tb t us st u' c}(x:TG h s m tb us st)(le:PH.le h h')(o:t<st.length)(g:Ga m' tb (us.set t u'))(y:Rows h' u' c):TG h' s m' tb (us.set t u') (st.set t c):=by
 refine⟨g,by rw[length_set];exact x.gx,by rw[length_set];exact x.e,λj u l d f=>?_⟩;by_cases e:t=j
 .grind
 .rw[getElem?_set_ne e]at d f;exact aU.mono (x.rows j u l d f) le λr t n=>bF.mono n le
theorem Xl.pn{s us}(x:Xl m s us m')(j:us≠[]):∃tb cap,s=⟨some ⟨tb,0,none⟩,us.length,cap⟩/\Ga m' tb us/\m tb=none:=by
 rcases x.row.ex with⟨_,e⟩|⟨b,cap,c,e,d,f,n,o,g⟩
 .simp_all
 .rw[length_map]at e f g;refine⟨b,cap,e,⟨c,d,aC,?_⟩,x.f b 0 (by rw[e])⟩;simp_all[Nat.mul_one,Yb]
theorem c7J{t row bj}(c:1<=t.key)(d:t.key<=t.aa.length)(e:qO 1 t row=true)(f:qO 1 t bj=true):(eR t bj).length=t.key.toNat/\qO 1 t (eR t bj++row.drop t.key.toNat)=true:=by
 grind[eR,jK]
theorem dNX{t r}(h:KM t.key (t.aa.map oI.kind) r)(e:Dj (t.aa.map oI.kind) r):qO 1 t r=true/\∀v∈r,KJ v.kind/\KJ v.int:=by
 have⟨f,g⟩:=CR.1 (btZ h);refine⟨jK.2 ⟨f,λj n=>?_⟩,λv d=>?_⟩
 .have z:=g j n;have o:r[j]?=some (r.getD j al):=da
  have u:(t.aa.map oI.kind)[j]?=some (t.aa.getD j ⟨⟨#[]⟩,0⟩).kind:=by
   grind
  have A:=e j _ _ o u;simp_all[BX,xJ]
 .obtain⟨i,y,rfl⟩:=mem_iff_getElem.1 d;have c:i<(t.aa.map oI.kind).length:=da
  exact Z8 (h.2.2 i _ _ (sh y) (sh c)) (h.2.1 _ d)
theorem b8Q:uz 12 aEZ:=by
 refine gV func12 ?_;rintro l' m h K⟨cb,v,s,sl,st,C,rfl,hc,hs,hp,e',hg,l0,hK⟩;refine⟨dtJ cb v,rfl,aD EP (aD qR (aD BY (aD aPX (aD AQ (aD Lt (aD Vz (aD Vy aG))))))),asJ cb v sl C,bt,?_⟩;dsimp only[asJ,push_cast];have l1:=hs.c.e;have⟨e0,g5⟩:=Eo hp;have h8:=uY e0;have g6:=xM e0;have l2:0<s.c.length:=length_pos_iff.2 g5
 have b1:∀{c:Nat}{x:List tj},UB c s x->∀l∈x,∀r∈l,r.length<=1000:=fun{c x} g l hl r hr=>by
  have⟨j,hj⟩:=mem_iff_getElem?.1 hl;have l3:=(sg hj);have k2:=g.len;have e3:s.c[j]?=some s.c[j]:=sh aC;have e1:=(jK.1 ((g.ok j _ l e3 hj).1 r hr)).1;have:=(BO hp (si e3)).2.2.1;omega
 refine⟨sl,st,rfl,e',e'.len,λl hl=>by have:=hg.jv l hl;omega,b1 hg,λw D m1 h1 c9 a0 e4=>?_⟩;have Z:D.length=s.c.length:=by rw[e4.len,hg.len]
 obtain⟨M,Q,rfl,e6,k3⟩:=a0.pn λe=>da
 have⟨l4,e7⟩:=hc.cj;have L:cb≠M:=λe=>da
 have c1:aJ m1 h1 cb:=hc.br ((a0.br cb _ e7).trans e7.symm) c9;have k1:dl m m1 cb:=λb o e _=>a0.br b o e
 have g1:TG h1 s m1 M D st:=⟨e6,Z,hg.len,λj u l hu hl=>by
  have⟨u',e1,e2⟩:=e4.y j l hl
  grind⟩
 have g7:IntKind.i64.wrap ((C:Int)+1)=(C:Int)+1:=dW aC aC;rw[g7];refine⟨cb,(C:Int)+1,rfl,c1,λk m2 a7 e8 o2 c2=>⟨λz=>0<=z.1/\z.1<=C/\z.2.1=⟨some ⟨M,0,none⟩,D.length,Q⟩/\PH.le h1 z.2.2.2.2/\dl m z.2.2.2.1 cb/\aJ z.2.2.2.1 z.2.2.2.2 cb/\∃us cs G,TG z.2.2.2.2 s z.2.2.2.1 M us G/\UE z.2.2.2.2 z.2.2.1 cs/\OE s st cs G/\UB (4+cs.length) s G/\(cs.length:Int)<=C-z.1,λz=>z.1.toNat,⟨(k,⟨some ⟨M,0,none⟩,D.length,Q⟩,[],m2,h1),⟨a7,aC,rfl,.refl _,k1.on o2,c2,D,[],st,g1.mono (.refl _) (o2.ai M (Ne.symm L)),⟨rfl,λi c e=>by simp at e⟩,rfl,hg,da⟩,MT⟩,?_⟩⟩;clear c2 o2 a7 e8 k m2 g1 c1 k1 e6;rintro⟨n,w,l,m2,hx⟩⟨n0,n1,e1,fa,kp,c2,us,cs,G,hT,hA,hL,hG,g8⟩;dsimp only at n0 n1 e1 fa kp c2 hT hA g8⊢
 subst e1;have l5:=hA.len;have en:∀(s2:Sl)(h':PH),PH.le hx h'->bT h' s2 3 (l.map eG.ag)->K (.dg [cS s2,KH ⟨some ⟨M,0,none⟩,D.length,Q⟩]) m2 h':=λs2 h' d' rr=>hK s2 _ cs G m2 h' (c9.trans (fa.trans d')) ((hA.mono d').cs rr aC) hL ⟨hG.len,λx g9=>by have:=hG.jv x g9;omega,hG.ok,hG.val⟩ aC kp (c2.mono d');refine aE (λhn=>aE (λ_=>?_) (λ_=>en)) (λ_=>en);refine⟨cb,v.c.len,rfl,c2,λt E t0 tn o3 c3=>?_⟩;obtain⟨t,rfl⟩:=Int.eq_ofNat_of_zero_le t0;have ht:t<s.c.length:=by omega
 have A:s.c[t]?=some s.c[t]:=sh ht;generalize s.c[t]=f at A;have⟨q1,q2,q3,q4,q5⟩:=Jl hp A;have f':=(BO hp (si A)).2.2.2;have a8:=hs.mono (c9.trans fa);have⟨b,o,y,ea,rd,hy⟩:=aU.at a8.c A;have f0:=hy.key;have h0:=kp.on o3;have a1:=hT.mono (.refl _) (o3.ai M (Ne.symm L));have b3:t<G.length:=by rw[hG.len];exact ht
 obtain⟨u,hu⟩:∃u,us[t]?=some u:=⟨_,sh (by rw[hT.gx];exact ht)⟩
 obtain⟨F,R⟩:∃x,G[t]?=some x:=⟨_,sh b3⟩
 have d0:=si R;have h2:=hG.jv F d0;have O:=b1 hG F d0;have f3:=hG.ok t f F A R;refine⟨b,o,ea,aC,aC,y.key,.ay (bJ.part rd 2 1),bJ.part rd 2 1,v,s,t,rfl,a8,h8,λsk h4 S h3=>?_⟩;refine⟨cb,sk,y.key,fC s (t:Int),rfl,c3.mono S,h3,da,λk hk=>?_,λsr row m4 a9 a2 U c4=>?_⟩
 .rw[q4]at hk;obtain⟨c,i',rfl⟩:=mem_map.1 hk;exact f' c i'
 rw[f0,q4]at a2;rw[q4]at U;have⟨H,V⟩:=dNX a2 U;have b':row.length=f.aa.length:=(jK.1 H).1;have b0:fU E m4 sr 58 3 (row.map VV.ag):=⟨a9.row,a9.f⟩
 have a3:dl E m4 cb:=λb o e n=>a9.br b o n e;have⟨l6,k4⟩:=c3.cj;have i0:E cb≠none:=da
 have m0:∃x,E M=some x:=by have⟨a4,e,_⟩:=a1.pn;grind
 have cut:∀(P:MH)(hq:PH)(B:to),PH.le h4 hq->uP P hq->fU E P sr 58 3 (B.map VV.ag)->dl E P cb->aJ P hq cb->qO 1 f B=true->(∀v∈B,KJ v.kind/\KJ v.int)->bF (kC E P hq) sr B/\aZ E (iX E P) cb/\aJ (iX E P) (kC E P hq) cb/\PH.le h4 (kC E P hq):=λP hq B i1 d fr kk cc f1 f2=>by
  have hl:=(jK.1 f1).1;exact⟨⟨⟨B,fr.ig,rfl,λi x hx=>⟨x,hx,rfl⟩⟩,aC⟩,gv kk,Kd cc i0 d,i1.trans (mU d)⟩
 have f4:∀P:MH,dl E P cb->∃a4:Array Value,P M=some (.cells a4 95 (0,0))/\(a4.toList.drop (0+t*1)).take [fW u].length=[fW u]:=λP k=>by
  have⟨a4,e1,e2⟩:=a1.pn.rd hu;exact⟨a4,k M _ e1 (Ne.symm L),e2⟩
 have⟨b4,a5,b7⟩:=f4 m4 a3;have m9:=aU.e (a1.rows t u F hu R);have k5:D.length=s.c.length:=Z;refine⟨λz=>∃B mz hz,z=((t:Int),sr,n,(⟨some ⟨M,0,none⟩,D.length,Q⟩:Sl),l,mz,hz)/\qO 1 f B=true/\(∀v∈B,KJ v.kind/\KJ v.int)/\bF hz sr B/\aZ E mz cb/\aJ mz hz cb/\PH.le h4 hz,⟨M,0,rfl,aC,da,u,.dx b4 95 (0,0) a5 b7,aE (λk6=>?_) (λ_ d=>?_)⟩,?_⟩
 .refine⟨cb,2,rfl,aC,aC,c4,λr m5 o5 c5=>aB (λ_=>?_) (λ_ d=>?_)⟩
  .refine⟨cb,u.len,rfl,c5,λk m6 a7 e8 o6 c6=>?_⟩;obtain⟨k,rfl⟩:=Int.eq_ofNat_of_zero_le a7;obtain⟨I,b8⟩:∃x,F[k]?=some x:=⟨_,sh aC⟩
   have X:=si b8;have i2:=f3.1 I X;have⟨b2,o2,wo,i3,i4,i5⟩:=aU.at (aU.mono (a1.rows t u F hu R) S λr t hv=>bF.mono hv S) b8;have d1:=O I X;have⟨i8,f5⟩:=c7J q1 q2 H i2;refine⟨b2,o2,i3,aC,aC,wo,.ay i4,v,s,t,wo,I,rfl,a8.mono S,i5,d1,λY h7 f6 a'=>?_⟩;rw[pA A]at a';have⟨vs,d2,n',n5⟩:=a'.ex
   have d2:vs=eR f I:=by
    refine ext_getElem? λi=>?_
    grind
   subst d2;have d3:fU E m6 sr 58 3 (row.map VV.ag):=(b0.on o5 c4 bx).on o6 c5 bx;have i9:dl E m6 cb:=(a3.on o5).on o6;rcases d3.row.ex with⟨_,e⟩|⟨b5,k7,c',e5,f7,g1,g2,g3,g4⟩
   .rw[map_eq_nil_iff]at e;rw[e]at b';simp at b';omega
   have j':((eR f I).map VV.ag).length<=(row.map VV.ag).length:=da
   have j0:((eR f I).map VV.ag).length*3<=c'.size:=by omega
   refine⟨b5,0,by rw[e5],(eR f I).map VV.ag,A2 _,.ay d2,da,c',58,⟨f7⟩,aC,λm7 up d=>?_⟩;have f8:=d3.copy (A2 (eR f I)) j' (by rw[e5]) f7 up;rw[<-map_drop,length_map,i8,<-sn]at f8;have j1:E b5=none:=d3.f b5 0 (by rw[e5]);have f9:cb≠b5:=λe=>da
   have c7:aJ m7 h7 cb:=(c6.mono f6).br (up.ai cb f9) (.refl _)
   have f2:∀v∈eR f I++row.drop f.key.toNat,KJ v.kind/\KJ v.int:=λv hv=>by
    rcases mem_append.1 hv with h9|h9
    .exact hG.val F d0 I X v (mem_of_mem_take h9)
    grind
   have⟨r1,r2,r3,r4⟩:=cut m7 h7 _ f6 d f8 (i9.dv up j1) c7 f5 f2;exact⟨(t,sr,n,_,l,iX E m7,kC E m7 h7),⟨_,_,_,rfl,f5,f2,r1,r2,r3,r4⟩,FT⟩
  .have⟨r1,r2,r3,r4⟩:=cut m5 h4 row (.refl _) d (b0.on o5 c4 bx) (a3.on o5) c5 H V;exact⟨(t,sr,n,_,l,iX E m5,kC E m5 h4),⟨_,_,_,rfl,H,V,r1,r2,r3,r4⟩,FT⟩
 .have⟨r1,r2,r3,r4⟩:=cut m4 h4 row (.refl _) d b0 a3 c4 H V;exact⟨(t,sr,n,_,l,iX E m4,kC E m4 h4),⟨_,_,_,rfl,H,V,r1,r2,r3,r4⟩,FT⟩
 clear cut f4 b7 a5 b4 H V b' a2 U c4 a9 b0 a3 m4 row;rintro _⟨row,mz,hz,rfl,H,V,d4,oz,cz,d5⟩;dsimp only;have b':row.length=f.aa.length:=(jK.1 H).1;have d6:=a1.mono (S.trans d5) (oz.ai M (Ne.symm L));have d7:=a8.mono (S.trans d5);have j2:=h0.on oz;refine⟨v,s,t,sr,row,rfl,d7,d4,aC,λY h5 J a'=>?_⟩;rw[pA A]at a';refine⟨v,s,M,D.length,Q,us,u,t,f,F,Y,eR f row,rfl,d7.mono J,A,d6.pn,by rw[hT.gx];exact Z,hu,aU.mono (d6.rows t u F hu R) J λr t hv=>bF.mono hv J,aC,O,a',λso b6 h6 T g'=>?_⟩;have k8:so.len=(sT f (eR f row) F).length:=aU.e g';refine⟨λz=>∃ns new P,z=((⟨(t:Int),so,ns⟩:eG),Y,n,(⟨some ⟨M,0,none⟩,D.length,Q⟩:Sl),l,P,h6)/\bF h6 ns new/\(new=row\/(new=[]/\sT f (eR f row) F≠[]))/\aZ mz P cb/\aJ P h6 cb,aB (λ_=>?_) (λc0=>?_),?_⟩
 .exact⟨(⟨t,so,sr⟩,Y,n,_,l,mz,h6),⟨sr,row,mz,rfl,bF.mono d4 (J.trans T),.inl rfl,.refl _ _,cz.mono (J.trans T)⟩,MT⟩
 .have c0:sT f (eR f row) F≠[]:=λe=>da
  exact⟨cb,3,rfl,aC,aC,cz.mono (J.trans T),λr m7 o7 c7=>aB (λ_=>⟨(⟨t,so,sr⟩,Y,n,_,l,m7,h6),⟨sr,row,m7,rfl,bF.mono d4 (J.trans T),.inl rfl,o7,c7⟩,MT⟩) (λ_=>⟨(⟨t,so,bS⟩,Y,n,_,l,m7,h6),⟨bS,[],m7,rfl,aU.nil _ _ _ _,.inr ⟨rfl,c0⟩,o7,c7⟩,MT⟩)⟩
 rintro _⟨ns,new,m7,rfl,g0,d8,o7,c7⟩;dsimp only;have d9:=d6.mono (J.trans T) (o7.ai M (Ne.symm L))
 have j3:new.length<=1000:=by
  grind
 have⟨w1,w2,w3⟩:=hG.step A R aC H V d8;have k9:=w3.count g6;refine⟨da,da,v,s,M,D.length,Q,us,u,t,f,F,Y,eR f row,ns,new,rfl,d7.mono (J.trans T),A,d9.pn,by rw[hT.gx];exact Z,hu,d9.rows t u F hu R,aC,O,bF.mono a' T,g0,j3,λu' m8 h8 a6 k' k0 o8=>?_⟩;rw[dW (n:=n-1) aC aC];have c8:=(d5.trans (J.trans T)).trans a6
 have W:UB (4+(cs++[(⟨t,sT f (eR f row) F,new⟩:sZ)]).length) s (G.set t (tK f (eR f row) new (decide (new.length=0)) F)):=by
  grind
 have LL:OE s st (cs++[⟨t,sT f (eR f row) F,new⟩]) (G.set t (tK f (eR f row) new (decide (new.length=0)) F)):=hL.cw hg.len rfl R w1 w2 aC;have AA:UE h8 (l++[⟨t,so,ns⟩]) (cs++[⟨t,sT f (eR f row) F,new⟩]):=(hA.mono (S.trans c8)).cw ⟨rfl,bF.mono g' a6,bF.mono g0 a6⟩
 have KK:dl m m8 cb:=λb9 o9 e9 n9=>by
  rw[o8.ai b9 λe=>by grind];exact(j2.on o7) b9 o9 e9 n9
 have CC:aJ m8 h8 cb:=(c7.mono a6).br (o8.ai cb L) (.refl _);have TT:=d9.set a6 b3 k0 k';have NN:(((cs++[(⟨t,sT f (eR f row) F,new⟩:sZ)]).length:Nat):Int)<=C-(n-1):=da
 have HH:PH.le h1 h8:=fa.trans (S.trans c8);have n2:0<=n-1:=by omega
 have n3:n-1<=C:=by omega
 have n4:(n-1).toNat<n.toNat:=by omega
 exact⟨(n-1,⟨some ⟨M,0,none⟩,D.length,Q⟩,l++[⟨t,so,ns⟩],m8,h8),⟨n2,n3,rfl,HH,KK,CC,us.set t u',cs++[⟨t,sT f (eR f row) F,new⟩],G.set t (tK f (eR f row) new (decide (new.length=0)) F),TT,AA,LL,W,NN⟩,n4,by rw[sn];exact MT⟩
def bAZ:AC:=λd m h K=>∃sc v s c,d=[aS sc,cI 1,Yx v]/\dV h s sc/\AW h c v/\dO s=0/\∀h',PH.le h h'->K (cB (sV 1 s c)) m h'
def bKZ:AC:=λc m h K=>∃sc e f s d cs,c=[aS sc,cI 1,KH e,cS f]/\dV h s sc/\tI h e d/\sX h f cs/\
 ∀w h',PH.le h h'->bm h' w (kU 1 s d cs).1->K (.dg [KH w,cI (kU 1 s d cs).2]) m h'
def dcJ(sc:bQ)(v:eG)(m:MH)(h:PH):=dD [(128,cXZ),(24,Rc),(48,BJ)] []
 [(3,{A:=Unit,st:=λ_=>bO 86 89 [(1,iv 1),SW 3,SW 5] [UV 3 29 sc.ag,UV 5 84 v.ag] m h}),
  (5,{A:=Unit,st:=λ_=>bO 86 89 [SW 3,SW 5] [UV 3 29 sc.ag,UV 5 84 v.ag] m h})] [] false
def dkZ(sc:bQ)(c:Sl):=dD [(85,bBX),(31,YP),(86,bIQ),(87,bAZ),(46,YU),(32,dSQ),(48,BJ),(30,dxJ)]
 [(7,{A:=Nat×Int×Sl×MH×PH,st:=λ⟨i,n,w,m,h⟩=>bO 85 89 ([(1,iv 1),SW 4,SW 8,SW 11,(12,iv n)]++WF 30 c i) [UV 4 29 sc.ag,(8,.cells 38 [.val (.slice none 0 0)]),(11,.cells 38 [.val (.slice w.a w.len w.cap)])] m h})]
 [(17,{A:=Nat×Int×Sl×eG×Sl×MH×PH,st:=λ⟨i,n,w,v,k,m,h⟩=>bO 85 89 ([(1,iv 1),SW 4,SW 8,SW 11,(12,iv n),SW 14,(15,sv k)]++WF 30 c i) [UV 4 29 sc.ag,(8,.cells 38 [.val (.slice none 0 0)]),(11,.cells 38 [.val (.slice w.a w.len w.cap)]),UV 14 84 v.ag] m h}),
  (19,{A:=Nat×Int×Sl×eG×Sl×MH×PH,st:=λ⟨i,n,w,v,k,m,h⟩=>bO 85 89 ([(1,iv 1),SW 4,SW 8,SW 11,(12,iv n),SW 14,(15,sv k)]++WF 30 c i) [UV 4 29 sc.ag,(8,.cells 38 [.val (.slice none 0 0)]),(11,.cells 38 [.val (.slice w.a w.len w.cap)]),UV 14 84 v.ag] m h})] [] false
def acJ(sc:bQ)(v:eG):ST:=λm h K=>Fb (λI=>aX v.ah 0 (K bH m h) (dJ (decide (v.ah>=iS sc)) (K bH m h) (aF v.bj==0) (dP (aF v.new) 0 (K bH m h) (MV I 1 sc v m h)) (MV I 1 sc v m h))) (Fb (λI=>let A:=∃x,I x/\cR/\bY/\aW sc/\bX (nG v) m m h h;wQ (decide (aF v.bj>0)) (wT (λd s t=>nZ (λc r=>bE (cW sc) (jO v.ah (fB v.bj 1))=bE (cW d) (jO t (fB c 1))/\dV h s d/\bF h c r/\mZ (jE s t)/\wQ (!(l8 1 s t r)) (K bH m h) (aF v.new) 0 (wT (λg e f=>nZ (λj n=>bE (cW sc) (jO v.ah (fB v.new 1))=bE (cW g) (jO f (fB j 1))/\dV h e g/\bF h j n/\mZ (jE e f)/\cC (l8 1 e f n) (K bH m h) A))) A))) (aF v.new) 0 (wT (λd s t=>nZ (λc r=>bE (cW sc) (jO v.ah (fB v.new 1))=bE (cW d) (jO t (fB c 1))/\dV h s d/\bF h c r/\mZ (jE s t)/\cC (l8 1 s t r) (K bH m h) A))) A) (dJ (aF v.bj==0) (K eE m h) (aF v.new==0) (K eE m h) (yI sc (iV v.ah v.bj) h (λs u=>yI sc (iV v.ah v.new) u (λc o=>rG s c o (λa b=>K (AU (cV a b==0)) m o))))))
abbrev uA(a:Nat×Int×Sl×eG×Sl×MH×PH):=a.2.2.2.2
abbrev MW(a:Nat×Int×Sl×eG×Sl×MH×PH->Prop)(b:Int)(c:Nat)(d:(Nat×Int×Sl×eG×Sl×MH×PH)->Prop)(e:Sl)(g:(Nat×Int×Sl×eG×Sl×MH×PH)->Prop):=∃x,a x/\bM b/\eP c/\eC/\nF/\d x/\eP 14/\bC e (uA x).1/\g x
abbrev Ny a b c d e g i j:=aH a/\aY a/\bP b c.1/\aW d/\kP/\iT e c.2.2.1/\g/\iU i (uA c)/\fQ j (uA c).2
abbrev CB(a:Nat×Int×Sl×eG×Sl×MH×PH):=a.2.2.2.1
attribute [push_cast] uA MW Ny CB
def Tn sc sl f:=λm h K=>CN (λv s=>xQ (λV B=>bE (cW sc) (bL (fD 1) (aT sl))=bE (cW v) (bL (fD 1) (aT V))/\dV h s v/\bm h V B/\Bw B/\cM (nC 1 s B) 0 (DU K (nC 1 s B) m h) (xQ (λW l=>Ex (oL sl)=[oL W]/\tI h W l/\Bw l/\Ce l (λM=>D2 M)/\Ce l (λM=>Hc M)/\∀X u,iK (λY C=>cO h C (Xl m X u Y) (BE C u l->xQ (λZ O=>eO (oL sl) (oL Z)/\bm C Z O/\Bw O/\RL (λI x=>I x/\bM 1/\eP 4/\eC/\nF/\cG (dQ O) x.2.1/\aH f/\aY f/\bB x.1/\aW sc/\kP/\iT X (oE x)/\eV (iU Y (zI x)) (dH C (zI x).2)) (λI m2 x=>I x->aX x.1 (aF f) (ab f x.1 3 jM (oF x) (oG x) (λy=>∃s7,J6 (λv1 P c=>bE (cW sc) (bL (fD 1) (jM y))=bE (cW s7) (bL (fD 1) (jM v1))/\dV (oG x) P s7/\AW (oG x) c v1/\HI P/\Cf (oG x) (λD=>cC (sV 1 P c) (DU K 71 (oF x) D) (∃s9,J6 (λv2 a E=>bL (jS sc) (jM y)=bL (jS s9) (jM v2)/\dV D a s9/\AW D E v2/\jB E.bj/\jB E.new/\jA (λF j=>cO D j (bF j F (kK a E)) (Hu (λv3 a2 t n c2 Q u2 R t2 r a3 k=>bE (cW sc) (bE (aT (oE x)) (iV y.ah F))=bE (cW v3) (bE (DV t n c2) (iV R a3))/\dV j a2 v3/\Br a2 R t2/\Ga (oF x) t Q/\n=Q.length/\FG Q R u2/\Rows j u2 r/\D2 r/\Hc r/\bF j a3 k/\∀a4,∀_:Bool,∀z,cO j z (bF z a4 (sT t2 k r)) (rG a4 y.bj z (λa5 b1=>cM (cV a5 b1) 0 (DU K 81 (oF x) z) (∃I1,let Aa:=λe=>Ny f x.1 e sc (oE x) (oQ 84 (Az y)=oQ 84 (Az (CB e))) (oF x) z;dP (aF y.bj) 0 (MW I1 1 4 (λe=>cG (j6 x.2.1 1) e.2.1) F Aa) (MW I1 1 4 (λe=>cG x.2.1 e.2.1) F Aa)/\∀e,I1 e->∃I2,let N:=λd=>Ny f e.1 d sc e.2.2.1 (oQ 84 (Az (CB e))=oQ 84 (Az (CB d))) (gX (uA e)) (gT (uA e));dP (aF (CB e).new) 0 (MW I2 1 4 (λd=>cG (jQ e.2.1 1) d.2.1) (uA e).1 N) (MW I2 1 4 (λd=>cG e.2.1 d.2.1) (uA e).1 N)/\∀d,I2 d->eH d.2.1 512 (DU K 2 (gX (uA d)) (gT (uA d))) (Hu (λv4 a6 A S c3 G u4 H t5 J a7 k1=>nZ (λa8 L=>bE (cW sc) (bE (aT d.2.2.1) (jO (CB d).ah (fG (uA d).1 (CB d).new)))=bE (cW v4) (bE (DV A S c3) (jO H (fG a7 a8)))/\dV (gT (uA d)) a6 v4/\Br a6 H t5/\Ga (gX (uA d)) A G/\S=G.length/\FG G H u4/\Rows (gT (uA d)) u4 J/\D2 J/\(∀r3,vE r3 J (jB r3))/\bF (gT (uA d)) a7 k1/\bF (gT (uA d)) a8 L/\jB L/\∀u5,iK (λT U=>cO (gT (uA d)) U (Rows U u5 (tK t5 k1 L (decide (L.length=0)) J)) (Ga T A (List.set G H u5)->aZ (gX (uA d)) T A->∃g,I g/\m2 g<m2 x/\bM 1/\eZ/\eC/\nF/\cG d.2.1 g.2.1/\aH f/\aY f/\fI (bA d.1 1)=bR g.1/\aW sc/\kP/\kO (oQ 38 ([A6 (kR A 0) S c3])=oQ 38 (zU (oE g))) (iU T (zI g)) (dH U (zI g).2)))))))))))))))))) (K (CV.dg (dZ (oL (oE x)) 0)) (oF x) (oG x))))))))))
theorem bUZ:uz 87 bAZ:=by
 refine gV func87 ?_;rintro Q m h K⟨sc,v,s,c,rfl,t,g,J,z⟩;refine⟨dcJ sc v m h,rfl,aD QU (aD BY (aD yV aG)),acJ sc v,bt,?_⟩;dsimp only[acJ,push_cast];have X:=t.c.e;have Y:=aU.e g.ib;have Z:=aU.e g.gj;have D:=g.ir;have u:sV 1 s c=false->K (cB false) m h:=λe=>by have:=z h (.refl _);grind
 have L:((v.bj.len:Int)==0)=(c.bj.length==0):=da
 have M:((v.new.len:Int)==0)=(c.new.length==0):=da
 refine⟨λ_=>jE s c.j=true/\(c.bj.length==0&&c.new.length==0)=false,aE (λa=>u ?_) (λa=>aE (λb=>u ?_) (λb=>?_)),?_⟩
 .simp_all[sV,jE,decide_eq_false,Bool.false_and]
 .simp_all[sV,jE,decide_eq_false,Bool.and_false,Bool.false_and]
 .have j:jE s c.j=true:=by simp_all[jE]
  rw[L,M];refine aB (λn=>aB (λy=>u ?_) (λy=>⟨(),⟨j,by rw[n,y];rfl⟩,MT⟩)) (λn=>⟨(),⟨j,by rw[n];rfl⟩,MT⟩);simp_all[sV,Bool.and_self,Bool.not_true,Bool.and_false]
 rintro _⟨j,R⟩
 have O:sV 1 s c=((c.bj.length==0||l8 1 s c.j c.bj)&&(c.new.length==0||l8 1 s c.j c.new)&&(c.bj.length==0||c.new.length==0||cV (jJ s c.j c.bj) (jJ s c.j c.new)==0)):=by
  grind[sV]
 have f:∀{x:to},(!l8 1 s v.ah x)=false->(x.length==0||l8 1 s c.j x)=true:=fun{x} h=>by
  grind
 have E:∀{x:to},x.length=0->(x.length==0||l8 1 s c.j x)=true:=fun{x} h=>by rw[h];rfl
 have P:∀{x:to},0<x.length->(!l8 1 s v.ah x)=true->(x.length==0||l8 1 s c.j x)=false:=fun{x} J h=>by
  grind
 refine⟨λ_=>(c.bj.length==0||l8 1 s c.j c.bj)=true/\(c.new.length==0||l8 1 s c.j c.new)=true,aE (λa=>⟨sc,s,v.ah,v.bj,c.bj,rfl,t,g.ib,by rw[D];exact j,aB (λb=>u ?_) (λb=>aE (λd=>⟨sc,s,v.ah,v.new,c.new,rfl,t,g.gj,by rw[D];exact j,aB (λe=>u ?_) (λe=>⟨(),⟨f b,f e⟩,MT⟩)⟩) (λd=>⟨(),⟨f b,E aC⟩,MT⟩))⟩) (λa=>aE (λd=>⟨sc,s,v.ah,v.new,c.new,rfl,t,g.gj,by rw[D];exact j,aB (λe=>u ?_) (λe=>⟨(),⟨E aC,f e⟩,MT⟩)⟩) (λd=>⟨(),⟨E aC,E aC⟩,MT⟩)),?_⟩
 .grind
 .grind
 .grind
 rintro _⟨S,T⟩;have O:sV 1 s c=(c.bj.length==0||c.new.length==0||cV (jJ s c.j c.bj) (jJ s c.j c.new)==0):=da
 rw[O]at z;rw[L,M]
 have A:∀{x:to},(x.length==0||l8 1 s c.j x)=true->x.length<=1000:=fun{x} h=>by
  rcases Bool.or_eq_true_iff.1 h with h|h
  .grind
  .have F:=j;simp only[jE,su,s0]at F;obtain⟨G,B⟩:∃G,s.c[c.j.toNat]?=some G:=⟨_,sh aC⟩
   rw[wF B j]at h;have:=(jK.1 h).1;have:=uY J G (si B);omega
 refine aB (λn=>?_) (λn=>aB (λy=>?_) (λy=>⟨sc,s,v.ah,v.bj,c.bj,rfl,t,g.ib,A S,λU h1 o H=>⟨sc,s,v.ah,v.new,c.new,rfl,t.mono o,bF.mono g.gj o,A T,λV W C I=>⟨U,V,_,_,rfl,bF.mono H C,I,?_⟩⟩⟩))
 .have:=z h (.refl _);rw[n]at this;exact this
 .have:=z h (.refl _);rw[y,Bool.or_true]at this;exact this
 .have:=z W (o.trans C);rw[n,y]at this;rw[D];exact this
theorem bzJ{k:to->to}:∀{l:tj}{x y:to},mr k l->x∈l->y∈l->k x=k y->x=y
 |a::l,x,y,h,f,g,e=>by
  have j:=pairwise_cons.1 h;have n:∀z,¬cV z z<0:=λz o=>by rw[eX.2 rfl]at o;omega
  rcases mem_cons.1 f with c|c<;>rcases mem_cons.1 g with d|d
  .rw[c,d]
  .grind
  .grind
  .exact bzJ j.2 c d e
theorem LM{k l c key bj new}(h:z7 k l key bj new=some c):
 lO k l key=decide (0<bj.length)/\(lO k l key=true->l.getD (qT k l key) []=bj)/\c=l.take (qT k l key)++(if 0<new.length then[new]else[])++l.drop (if lO k l key then qT k l key+1 else qT k l key):=by
 unfold z7 at h;dsimp only at h;split at h
 .cases h
 rename_i d;simp only[Bool.or_eq_true,bne_iff_ne,su,not_or,not_and,ne_eq,Decidable.not_not]at d
 grind[eX]
theorem cPZ{t l n key bj new}(f:KN t l)(h:z7 (eR t) l key bj new=some n):bj=sT t key l:=by
 have⟨o,u,_⟩:=LM h;have B:=Kf (key:=key) (show mr (eR t) l from f);cases d:lO (eR t) l key with
 |true=>
  have y:=u d;have c:=d;simp only[lO,su,s0,beq_iff_eq]at c;have g:l.getD (qT (eR t) l key) []∈l:=da
  have z:eR t (l.getD (qT (eR t) l key) [])=key:=eX.1 c.2;rw[y]at g z
  have:∃r,l.find? (λr=>cV (eR t r) key==0)=some r:=by
   grind[Option.isSome_iff_exists,find?_isSome,eX]
  obtain⟨r,j⟩:=this;have e:=mem_of_find?_eq_some j;have A:eR t r=key:=eX.1 da;rw[sT,j];exact bzJ (show mr (eR t) l from f) g e da
 |false=>
  rw[d]at o;have C:bj=[]:=length_eq_zero_iff.1 da
  grind[sT,cV,eR,eX,mem_of_find?_eq_some]
theorem cPX{k l c key bj new}(h:z7 k l key bj new=some c):(c.length:Int)-l.length=(if bj.length=0 then 1 else 0)-(if new.length=0 then 1 else 0):=by
 obtain⟨d,_,rfl⟩:=LM h
 grind
theorem cPQ{k l c key bj new}(h:z7 k l key bj new=some c){r}(d:r∈c):r∈l\/(r=new/\r≠[]):=by
 obtain⟨_,_,rfl⟩:=LM h
 grind
structure dzZ(m:MH)(h:PH)(s:kD)(w:Sl)(mz:MH)(hz:PH)(us:tq)(st:List tj):Prop where
 len:us.length=st.length
 wlen:w.len=us.length
 wcap:w.len<=w.cap
 cj:us≠[]->∃tb,w.a=some ⟨tb,0,none⟩/\Ga mz tb us/\m tb=none
 sub:dh m mz
 le:PH.le h hz
 rows:∀(j:Nat) u l,us[j]?=some u->st[j]?=some l->Rows hz u l
 up:bkZ s st
 gi:∀l∈st,∀r∈l,r≠[]/\r.length<=8
theorem dzZ.kv{w f g us st}(A:dzZ m h s w f g us st)(d:uP f g)(I:st.length<=1000):bm (kC m f g) w st:=by
 have n:=mU (m0:=m) d;refine⟨⟨us,⟨by rw[length_map];exact A.wlen,?_,A.wcap⟩,A.len.symm,λj l z=>?_⟩,aC⟩
 .by_cases B:us=[]
  .left;rw[B];rfl
  .have⟨D,E,⟨o,J,L,M⟩,O⟩:=A.cj B;refine .inr ⟨D,0,E,λi e C=>⟨λj v F=>?_⟩⟩;rw[getElem?_map]at C;obtain⟨u,G,rfl⟩:=Option.map_eq_some_iff.1 C;have t:j=0:=by grind[eS,List.getElem?_eq_some_iff]
   subst t
   have P:v=Sl.val u:=by
    have:some (Sl.val u)=some v:=F
    grind
   have H:(o.toList.take us.length)[i]?=some (Sl.val u):=da
   rw[getElem?_take,if_pos (sg G)]at H;simp_all[kC,Nat.zero_add,Nat.mul_one,Nat.add_zero]
 .have y:j<st.length:=(sg z);have c:j<us.length:=by rw[A.len];exact y
  exact⟨_,sh c,(A.rows j _ l (sh c) z).mono n⟩
theorem bMJ{n st}(h:nC n s st=0){j:Nat}{l}(e:st[j]?=some l){r}(o:r∈l):r≠[]:=by
 have f:=(Jg h).1;unfold nC at h;rw[if_neg (mp f)]at h;split at h
 .cases h
 split at h
 .cases h
 rename_i t;split at h
 .rename_i u;have g:st.length=s.c.length:=mp t
  have y:=(sg e);obtain⟨d,c⟩:∃d,s.c[j]?=some d:=⟨_,sh aC⟩
  have z:=(jK.1 ((u j d l c e).1 r o)).1;have⟨_,A,B,_⟩:=(Me f).2.2.1 _ d c
  grind
 .cases h
theorem cNX{n c}(o:dO s=0)(h:sV n s c=true):c.bj.length<=8/\(c.bj≠[]\/c.new≠[]):=by
 simp only[sV,su,Bool.or_eq_true,beq_iff_eq]at h;obtain⟨⟨⟨⟨j,t⟩,d⟩,u⟩,_⟩:=h;refine⟨?_,?_⟩
 .rcases d with d|d
  .omega
  .have f:=j;simp only[jE,su,s0]at f;obtain⟨g,e⟩:∃g,s.c[c.j.toNat]?=some g:=⟨_,sh aC⟩
   rw[wF e j]at d;have:=(jK.1 d).1;have:=uY o g (si e);omega
 grind
theorem b1X:uz 44 bKZ:=by
 refine Uy func44 ?_;rintro d2 m h K⟨sc,sl,ch,s,F,cs,rfl,hs,I,hc,hK⟩;refine⟨dkZ sc ch,rfl,aD aNQ (aD Vz (aD bUJ (aD bUZ (aD Vq (aD Vy (aD yV (aD Lt aG))))))),Tn sc sl ch m h (dR h K),by kernel_rfl,?_⟩;show Tn sc sl ch m h (dR h K);dsimp only[Tn,push_cast];have b4:=aU.e hc;have c9:=aU.len hc;have d':∀Z,bm Z bS []:=λZ=>aU.nil Z 1 eS _
 have fj:∀e mz hz,dh m mz->PH.le h hz->kU 1 s F cs=([],e)->dR h K (.dg [KH bS,cI e]) mz hz:=λe mz hz sub le he=>by
  grind[bS,dR.sub]
 refine⟨sc,s,sl,F,rfl,hs,I.qk,I.len,aB (λe0=>?_) (λe0=>?_)⟩
 .exact fj _ m h (dh.refl m) (.refl _) (by simp_all[kU])
 have e0:nC 1 s F=0:=by simpa using e0
 obtain⟨Q,a5⟩:=Jg e0;have hE:kU 1 s F cs=oV 1 s F (dQ F) cs:=by simp_all[kU]
 have L:∀l∈F,∀r∈l,r≠[]/\r.length<=8:=λl U r J=>by
  grind[mem_iff_getElem?,bMJ,Qu]
 have G:∀{a':List tj}{l},bkZ s a'->l∈a'->l.length<=512:=fun{a' l} x U=>by
  obtain⟨j,hj⟩:=mem_iff_getElem?.1 U;have h1:=On hj;have h2:=x.cnt;omega
 refine⟨sl,F,rfl,I,I.len,λl U=>by have:=G a5 U;omega,λl U r J=>by have:=(L l U r J).2;omega,λw H m1 h1 a0 E M=>?_⟩
 have A0:dzZ m h s w m1 h1 H F:=by
  refine⟨M.len,by rw[cH.e E.row,length_map],?_,λh0=>?_,E.br,a0,λj u l hu U=>?_,a5,L⟩
  .rcases E.row.ex with⟨e,_⟩|⟨b,b5,d3,e,hm,k1,_⟩
   .grind
   .rw[e];exact k1
  .obtain⟨tb,b5,e,hT,h2⟩:=E.pn h0
   grind
  .obtain⟨u',h2,h3⟩:=M.y j l U
   grind
 refine⟨sl,F,rfl,(I.mono a0).qk,I.len,λz=>z.1<=cs.length/\∃H g,dzZ m h s z.2.2.1 z.2.2.2.1 z.2.2.2.2 H g/\z.2.1=dQ g/\oV 1 s g (dQ g) (cs.drop z.1)=oV 1 s F (dQ F) cs,λz=>cs.length-z.1,⟨(0,dQ F,w,m1,h1),⟨Nat.zero_le _,H,F,A0,rfl,by rw[drop_zero]⟩,MT⟩,?_⟩;clear A0 E M a0 H w m1 h1;rintro⟨i,n,w,mx,Z⟩⟨hi,H,g,A,hn,R⟩;dsimp only at hi A hn R⊢
 subst hn;have d0:=A.len;have a1:=A.wlen;have b6:=A.up.len;have d1:=A.up.cnt;refine aE (λa6=>?_) (λd4=>?_)
 .obtain⟨c,a7⟩:=eF b4 a6;obtain⟨b,o,v,ea,rd,V⟩:=aU.at hc a7;have a8:=V.mono A.le;rw[ci a7]at R;refine⟨b,o,ea,aC,a6,v,.ay (rd.mono A.le),sc,v,s,c,rfl,hs.mono A.le,a8,Q,λh2 y=>aB (λS=>?_) (λS=>?_)⟩
  .have S:sV 1 s c=false:=by simpa using S
   refine fj 71 mx h2 A.sub (A.le.trans y) ?_;simp_all[oV]
  have S:sV 1 s c=true:=by simpa using S
  obtain⟨ht,b7⟩:=ayX Q S;obtain⟨b8,b9⟩:=cNX Q S;simp only[jE,Bool.and_eq_true,decide_eq_true_eq]at ht;obtain⟨t,et⟩:=Int.eq_ofNat_of_zero_le ht.1;have W:v.ah=(t:Int):=V.ir.trans et;obtain⟨l,O⟩:∃l,g[t]?=some l:=⟨_,getElem?_eq_getElem aC⟩
  obtain⟨u,a2⟩:∃u,H[t]?=some u:=⟨_,getElem?_eq_getElem aC⟩
  obtain⟨C,a9⟩:∃x,s.c[t]?=some x:=⟨_,getElem?_eq_getElem aC⟩
  obtain⟨tb,c',hT,c0⟩:=A.cj (λe=>by grind);obtain⟨wa,wl,wc⟩:=w;obtain rfl:wa=_:=c';obtain rfl:wl=_:=a1;have b':=A.rows _ u l a2 O;have d5:=G A.up (mem_of_getElem? O);have T:=A.gi l (mem_of_getElem? O);have d6:=uT (l:=g) λx Z=>by have:=G A.up Z;omega
  have b0:jJ s c.j=eR C:=funext λr=>by grind[pA]
  have b1:KN C l:=by
   have:=A.up.up _ _ O;rw[<-et,b0]at this;exact this
  have c1:∀l',mW s l c=some l'↔z7 (eR C) l (kK s c) c.bj c.new=some l':=λl'=>by rw[<-b0];exact Iff.rfl
  have c2:g.getD c.j.toNat []=l:=by grind
  rw[oV,if_neg (by rw[S];decide),c2]at R;have P:=a8.mono y;have d7:=aU.e P.ib;have d8:=aU.e P.gj;refine⟨sc,v,s,c,rfl,hs.mono (A.le.trans y),P,aC,aC,λsk h3 B hk=>⟨sc,s,tb,H.length,wc,H,u,t,C,l,sk,kK s c,by rw[W],hs.mono (A.le.trans (y.trans B)),a9,hT,rfl,a2,aU.mono b' (y.trans B) (λr t V=>bF.mono V (y.trans B)),aC,λr J=>by have:=(T r J).2;omega,hk,λso bo h4 D c3=>⟨so,v.bj,_,_,rfl,c3,bF.mono P.ib (B.trans D),aB (λe2=>?_) (λe2=>?_)⟩⟩⟩
  .have e2:cV (sT C (kK s c) l) c.bj≠0:=by simpa using e2
   refine fj 81 mx h4 A.sub (A.le.trans (y.trans (B.trans D))) ?_
   grind[mW,absurd,eX,cPZ]
  have e2:sT C (kK s c) l=c.bj:=eX.1 (by simpa using e2);have e3:=T1 b1 (λr J=>(T r J).1) e2.symm b9;have e4:=(c1 _).2 e3;rw[e4]at R;dsimp only at R;have c4:=cPX e3;have a3:=A.le.trans (y.trans (B.trans D));refine⟨λz=>z=(i,dQ g+(if c.bj.length=0 then 1 else 0),⟨some ⟨tb,0,none⟩,H.length,wc⟩,v,sk,mx,h4),aB (λa=>⟨_,rfl,?_⟩) (λa=>⟨_,rfl,?_⟩),?_⟩
  .rw[if_pos (by simp at a;omega),dW aC aC];exact MT
  .rw[if_neg (by simp at a;omega),Int.add_zero];exact MT
  rintro _ rfl;dsimp only;refine⟨λz=>z=(i,dQ g+(if c.bj.length=0 then 1 else 0)-(if c.new.length=0 then 1 else 0),⟨some ⟨tb,0,none⟩,H.length,wc⟩,v,sk,mx,h4),aB (λa=>⟨_,rfl,?_⟩) (λa=>⟨_,rfl,?_⟩),?_⟩
  .rw[if_pos (show c.new.length=0 by simp at a;omega),dW (by split<;>omega) (by split<;>omega)];exact MT
  .rw[if_neg (show¬c.new.length=0 by simp at a;omega),Int.sub_zero];exact MT
  rintro _ rfl;dsimp only;have c5:dQ g+(if c.bj.length=0 then 1 else 0)-(if c.new.length=0 then 1 else 0)=dQ g+((tK C (kK s c) c.new (decide (c.new.length=0)) l).length-(l.length:Int)):=by omega
  rw[c5];refine aE (λe5=>?_) (λe5=>?_)
  .refine fj 2 mx h4 A.sub a3 ?_
   grind
  rw[if_neg aC]at R;refine⟨sc,s,tb,H.length,wc,H,u,t,C,l,sk,kK s c,v.new,c.new,by rw[W],hs.mono a3,a9,hT,rfl,a2,aU.mono b' (y.trans (B.trans D)) (λr t V=>bF.mono V (y.trans (B.trans D))),aC,λr J=>by have:=(T r J).2;omega,bF.mono hk D,bF.mono P.gj (B.trans D),aC,λu' m5 h5 a4 d9 c6 om=>?_⟩
  have e':∀r∈tK C (kK s c) c.new (decide (c.new.length=0)) l,r≠[]/\r.length<=8:=λr J=>by
   rcases cPQ e3 J with h|⟨rfl,h⟩
   .exact T r h
   grind
  have X:=A.up.set S ht.1 (by grind) e4 aC;rw[et,Int.toNat_natCast]at X R;refine⟨(i+1,_,⟨some ⟨tb,0,none⟩,H.length,wc⟩,m5,h5),⟨aC,H.set t u',g.set t _,⟨by grind,by grind,A.wcap,λ_=>⟨tb,rfl,c6,c0⟩,λb o e=>?_,a3.trans a4,λj u2 y2 b2 b3=>?_,X,λl2 c7 r J=>?_⟩,(fg O).symm,by grind[fg]⟩,aC,?_⟩
  .show m5 b=some o;rw[om.ai b (λe2=>by grind)];exact A.sub b o e
  .by_cases hj:t=j
   .grind
   .rw[getElem?_set_ne hj]at b2 b3;exact aU.mono (A.rows j u2 y2 b2 b3) (y.trans (B.trans (D.trans a4))) λr t V=>bF.mono V (y.trans (B.trans (D.trans a4)))
  .rcases mem_or_eq_of_mem_set c7 with h|h
   .exact A.gi l2 h r J
   grind
  .rw[fH aC];exact MT
 .have c8:i=cs.length:=by omega
  subst c8;rw[drop_length,oV]at R;have Y:kU 1 s F cs=(g,0):=by rw[hE,<-R]
  refine dR.ig A.sub A.le λd y=>?_;have h8:=xM Q;have:=hK w (kC m mx Z) y (by rw[Y];exact A.kv d aC);rw[Y]at this;exact this
variable{cN:Nat}
def vX(st:List tj)(rs:List jV)(ps:to):=rs.map λr=>GK st (eY ps r.av)
def dFZ:AC:=λd m h K=>∃cN e c p r g rs pv ps s,d=[KH e,KI p r,cS pv]/\tI h e c/\iB h p r g rs/\bF h pv ps/\rs.length<=1000/\(∀u∈rs,z8 cN s (eY ps u.av)/\oU u.av<=900000/\oU (eY ps u.av)<=900000)/\pX s c=0/\(∀l∈c,l.length<=cN+1)/\
 ∀f h',PH.le h h'->bm h' f (vX c rs ps)->K (cS f) m h'
def yC(t c:Int)(key:to):List jV->List tj->Bool
 |u::rs,l::L=>(u.kind==2&&u.ah==t&&Lq l key&&(decide (c<0)||u.ak.contains c))||yC t c key rs L
 |_,_=>false
def bAQ:AC:=λd m h K=>∃p r ks t c k e rs L key,d=[KI p r,cS ks,cI t,cI c,cS k]/\iB h p r e rs/\bm h ks L/\L.length=rs.length/\(∀l∈L,iY l)/\bF h k key/\K (cB (yC t c key rs L)) m h
def dkX(sl pv r:Sl)(m:MH):=dD [(89,c1X),(88,bHX)]
 [(3,{A:=Nat×tq×PH,st:=λ⟨i,c,h⟩=>bO 28 31 ([(2,sv pv),SW 3,(7,.at (.au 25))]++WF 11 r i) [(3,.cells 38 [.val (.slice sl.a sl.len sl.cap)]),(25,.au 95 1 (c.map eS))] m h})] [] [] false
def dkQ r ks k t d m h:=dD [(90,dRJ)]
 [(2,{A:=Nat,st:=λi=>bO 55 60 ([(1,sv ks),(2,iv t),(3,iv d),(4,sv k)]++WF 16 r i) [] m h}),
  (8,{A:=Nat×Sl×Nat,st:=λ⟨j,c,i⟩=>bO 55 60 ([(1,sv ks),(2,iv t),(3,iv d),(4,sv k),(16,sv r),(17,iv r.len),(18,iv i)]++WF 44 c j) [] m h})] [] [] false
def aiX(sl p r pv:Sl):=λm h K=>JW (λI x=>I x/\aH pv/\eP 3/\eL 25/\aH r/\aY r/\bB x.1/\pJ sl/\bX (cE 95 1 []=C3 95 1 x.2.1) m m h (gG x)) (λI n x=>I x->aX x.1 (aF r) (ab r x.1 24 (λy=>Cs y (Cr y)) m (gG x) (λy=>∃v,wN (λs q=>∃t,j5 y.av pv=j5 v s/\cQ (gG x) q v/\bF (gG x) s t/\yS q/\∀u d,cO (gG x) d (cQ d (eY t q) u) (∃c z A f g B,bL (oL sl) u.ag=bL (oL z) A.ag/\tI d z f/\cQ d g A/\z8 c B g/\yS g/\pX B f=0/\Ce f (λl=>Ew l
 (dG c))/\jA (λC j=>cO d j (Rows j C (GK f g)) (MX x (λe=>I e/\n e<n x/\aH pv/\cR/\eL 25/\aH r/\aY r/\fI (bA x.1 1)=bR e.1/\mP (pJ sl) (cE 95 1 (iI (u9 x) C)=C3 95 1 e.2.1) (m=m) (j=gG e)))))))) (rH (gG x) (u9 x) K m))
def ahJ(p r ks k:Sl)(t d:Int):ST:=λm h K=>mF (λI x=>I x/\aH ks/\bM t/\bM d/\aH k/\aH r/\aY r/\bB x/\gM m m h h) (λI f x=>I x->aX x (aF r) (aM (λb o=>aR r.a b o/\0<=(↑x:Int)/\x<aF r/\∃y,let E:=∃c,I c/\f c<f x/\aH ks/\bM t/\bM d/\aH k/\aH r/\aY r/\bX (fI (bA x 1)=bR c) m m h h;aK m h b (bI o x 24) (Cs y (Cr y))/\dJ (y.kind !=2) E (y.ah !=t) E (ab ks x 1 aT m h (λn=>lC (λs u=>∃l z,fG n k=fG s u/\Rows h s l/\bF h u z/\iY l/\cC (Lq l z) E (aX d 0 (K eE m h) (RM (λI1 c=>I1 c/\aH ks/\bM t/\bM d/\aH k/\aH r/\aY r/\bP x (kG c)/\bC y.aa (iO c)/\cT y.aa (iO c)/\bB c.1/\m=m/\dC h h) (λI1 A c=>I1 c->aX c.1 (aF (iO c)) (aM (λB C=>aR (iO c).a B C/\0<=(↑c.1:Int)/\c.1<aF (iO c)/\∃D,aK m h B (bI C c.1 1) (bV D)/\dP D d (K eE m h) (∃e,I1 e/\A e <A c/\aH ks/\bM t/\bM d/\aH k/\aH r/\aY r/\bP (kG c) (kG e)/\bC (iO c) (iO e)/\cT (iO c) (iO e)/\fI (bA c.1 1)=bR e.1/\eV (m=m) (h=h)))) (∃e,I e/\f e<f x/\aH ks/\bM t/\bM d/\aH k/\aH r/\aY r/\bX (fI (bA (kG c) 1)=bR e) m m h h))))))))) (K bH m h))
theorem b1Q:uz 45 dFZ:=by
 refine gV func45 ?_;rintro H m h K⟨cN,t,f,p,r,pk,rs,pv,ps,s,rfl,y,F,I,hl,J,L,M,O⟩;refine⟨dkX t pv r m,rfl,aD bUQ (aD bUX aG),aiX t p r pv,bt,?_⟩;dsimp only[aiX,push_cast];have A:=F.jf.e;refine⟨λz=>z.1<=rs.length/\PH.le h z.2.2/\BE z.2.2 z.2.1 (vX f (rs.take z.1) ps),λz=>rs.length-z.1,⟨(0,[],h),⟨bu,.refl _,BE.nil h⟩,MT⟩,?_⟩;rintro⟨i,P,hx⟩⟨Q,le,g⟩;dsimp only at Q le g⊢
 have B:=g.len;rw[vX,length_map,length_take]at B;refine aE (λj=>?_) (λR=>?_)
 .have⟨u,d⟩:=eF A j;have⟨b,o,w,S,rd,T⟩:=F.jf.at d;have⟨U,V,W⟩:=J u (si d);have X:=(sg d);refine⟨b,o,S,aC,j,w,.ay (rd.mono le),w.av,pv,u.av,ps,rfl,T.ia.mono le,bF.mono I le,V,λY G c Z=>⟨cN,t,Y,f,eY ps u.av,s,rfl,y.mono (le.trans c),Z,U,W,L,M,λC h2 n D=>⟨da,da,(i+1,P++[C],h2),⟨aC,le.trans (c.trans n),?_⟩,aC,?_⟩⟩⟩
  .have e:vX f (rs.take (i+1)) ps=vX f (rs.take i) ps++[GK f (eY ps u.av)]:=by
    grind[vX,sy,sn]
   rw[e];exact(g.mono (c.trans n)).cw D
  .rw[fH aC,sn];exact MT
 .rw[sm aC]at g
  exactλC G c E=>O C G (le.trans c) ((g.mono c).kv E (by grind[vX,length_map]))
theorem b0J:uz 47 bAQ:=by
 refine gV func47 ?_;rintro a0 m h K⟨p,r,ks,t,d,k,pk,rs,L,key,rfl,G,V,a6,H,hk,W⟩;refine⟨dkQ r ks k t d m h,rfl,aD Vh aG,ahJ p r ks k t d,bt,?_⟩;dsimp only[ahJ,push_cast];have I:=G.jf.e;have a7:=G.jf.len;have J:=aU.e V;refine⟨λi=>i<=rs.length/\yC t d key rs L=yC t d key (rs.drop i) (L.drop i),λi=>rs.length-i,⟨0,⟨bu,rfl⟩,MT⟩,?_⟩;rintro i⟨hi,F⟩;refine aE (λC=>?_) (λa8=>?_)
 .have⟨u,n⟩:=eF I C;have⟨l,A⟩:=eF J (i:=i) aC;have⟨b,o,w,ea,rd,D⟩:=G.jf.at n;have⟨b2,o2,y,M,O,hy⟩:=aU.at V A;have a9:=(sg n);rw[ci n,ci A,yC]at F;have B:(u.kind==2&&u.ah==t&&Lq l key&&(decide (d<0)||u.ak.contains d))=false->∃j:Nat,(j<=rs.length/\yC t d key rs L=yC t d key (rs.drop j) (L.drop j))/\rs.length-j<rs.length-i/\j=i+1:=λe=>⟨i+1,⟨aC,by rw[F,e];rfl⟩,aC,rfl⟩
  have E:(u.kind==2&&u.ah==t&&Lq l key&&(decide (d<0)||u.ak.contains d))=true->K (cB true) m h:=λe=>da
  rw[fH aC];have ek:=D.ie;have et:=D.dd;refine⟨b,o,ea,aC,C,w,.ay rd,aB (λP=>?_) (λP=>aB (λQ=>?_) (λQ=>⟨b2,o2,M,aC,aC,y,.ay O,y,k,l,key,rfl,hy,hk,H l (si A),aB (λY=>?_) (λY=>aE (λa4=>E ?_) (λa4=>?_))⟩))⟩
  .grind
  .grind
  .grind
  all_goals
   have b1:(u.kind==2)=true:=by rw[ek]at P;simpa using P
   have b':(u.ah==t)=true:=by rw[et]at Q;simpa using Q
   have b3:Lq l key=true:=mp Y
  .grind
  have R:=D.ft.e;have b0:=D.ft.len;refine⟨λz=>z.2.2=i/\z.2.1=w.aa/\z.1<=u.ak.length/\∀x∈u.ak.take z.1,x≠d,λz=>u.ak.length-z.1,⟨(0,w.aa,i),⟨rfl,rfl,bu,bu⟩,MT⟩,?_⟩;rintro⟨j,_,i'⟩⟨Z,rfl,hj,f⟩;dsimp only at Z hj f⊢
  subst Z;refine aE (λg=>?_) (λa'=>?_)
  .have⟨c,hc⟩:=eF R g;have⟨b4,o4,S,T⟩:=D.ft.im hc;have b5:=(sg hc);refine⟨b4,o4,S,aC,g,c,.ay T,aB (λa5=>E ?_) (λa5=>⟨(j+1,w.aa,_),⟨rfl,rfl,aC,λx hx=>?_⟩,aC,?_⟩)⟩
   .grind
   .grind[sy]
   .rw[fH aC];exact MT
  .rw[sm aC]at f
   have b6:u.ak.contains d=false:=by
    grind
   obtain⟨j',j1,j2,rfl⟩:=B da;exact⟨_,j1,j2,by rw[fH aC];exact MT⟩
 .have U:i=rs.length:=by omega
  subst U;rw[drop_length]at F;have hn:∀X,yC t d key [] X=false:=λX=>by cases X<;>rfl
  rw[F,hn]at W;exact W
variable{cN:Nat}
def Rk(N:Bool->Int->Bool)(key:to)(i:Int)(c:sZ):List fw:=
 if c.bj.length=0 then(if N true (-1)=true then[]else[⟨i,true,c.j,key,-1⟩])
 else if c.new.length=0 then(if N false (-1)=true then[]else[⟨i,false,c.j,key,-1⟩])
 else(List.range c.bj.length).flatMap λj=>if R2 (c.bj.getD j al) (c.new.getD j al)=true then[]else([false,true].filter λa=>!N a j).map λa=>⟨i,a,c.j,key,j⟩
theorem dwZ s ws i c:Yk s ws i c=Rk (pG ws (xR s c)) (xR s c) i c:=rfl
def Ix(s:kD)(rs:List jV)(L1 L2:List tj)(c:sZ)(a:Bool)(d:Int):=yC c.j d (kK s c) rs (if a then L2 else L1)
def IW(N:sZ->Bool->Int->Bool)(key:sZ->to):List sZ->Nat->List fw
 |[],_=>[]
 |c::cs,i=>Rk (N c) (key c) i c++IW N key cs (i+1)
def Of s rs L1 L2 cs i:=IW (Ix s rs L1 L2) (kK s) cs i
def LF s pk rs ps st cs:=
 if jH s pk rs ps≠0 then([],jH s pk rs ps)else if(kU 1 s st cs).2≠0 then([],(kU 1 s st cs).2)else(Of s rs (vX st rs ps) (vX (kU 1 s st cs).1 rs ps) cs 0,0)
structure OG(cN:Nat)(s:kD)(rs:List jV)(ps:to)(st:List tj):Prop where
 good:∀u∈rs,z8 cN s (eY ps u.av)/\oU u.av<=900000/\oU (eY ps u.av)<=900000
 ok:pX s st=0
 jv:∀l∈st,l.length<=cN+1
 len:st.length<=1000
 val:sd st
 jw:∀u∈rs,iY (GK st (eY ps u.av))
def bHZ:AC:=λf m h K=>∃cN sc p r pv g j s e rs ps d cs,f=[aS sc,KI p r,cS pv,KH g,cS j]/\dV h s sc/\iB h p r e rs/\bF h pv ps/\tI h g d/\sX h j cs/\
 (jH s e rs ps=0->(kU 1 s d cs).2=0->rs.length<=1000/\OG cN s rs ps d/\OG cN s rs ps (kU 1 s d cs).1)/\
 (∀c∈cs,c.bj.length<=1000/\c.new.length<=1000/\(c.bj≠[]->c.new≠[]->c.bj.length=c.new.length))/\cs.length<=400/\
 ∀x h',PH.le h h'->K4 h' x (LF s e rs ps d cs).1->K (.dg [cS x,cI (LF s e rs ps d cs).2]) m h'
def dqZ(sc:bQ)(p r c:Sl)(m:MH):=dD [(21,YW),(44,bKZ),(45,dFZ),(46,YU),(47,bAQ)]
 [(10,{A:=Nat×Sl×Sl×List gR×PH,st:=λ⟨i,o,n,l,h⟩=>bO 144 149 ([SW 5,SW 6,(15,sv o),(16,sv n),(17,.at (.au 125))]++WF 48 c i) [UV 5 29 sc.ag,(6,.cells 34 [.val (.slice p.a p.len p.cap),.val (.slice r.a r.len r.cap)]),(125,.au 77 5 (l.map gR.ag))] m h}),
  (15,{A:=Nat×gR×Nat×Sl×Sl×eG×Sl×List gR×PH,st:=λ⟨j,e,i,o,n,v,k,l,h⟩=>bO 144 149 [SW 5,SW 6,(15,sv o),(16,sv n),(17,.at (.au 125)),SW 19,(20,sv k),SW 21,(48,sv c),(49,iv c.len),(50,iv i),(65,iv v.bj.len),(66,iv j)] [UV 5 29 sc.ag,(6,.cells 34 [.val (.slice p.a p.len p.cap),.val (.slice r.a r.len r.cap)]),UV 19 84 v.ag,UV 21 77 e.ag,(125,.au 77 5 (l.map gR.ag))] m h})]
 [(22,{A:=Nat×gR×Nat×Sl×Sl×eG×Sl×List gR×PH,st:=λ⟨j,e,i,o,n,v,k,l,h⟩=>bO 144 149 [SW 5,SW 6,(15,sv o),(16,sv n),(17,.at (.au 125)),SW 19,(20,sv k),SW 21,(22,iv j),(48,sv c),(49,iv c.len),(50,iv i),(65,iv v.bj.len),(66,iv j)] [UV 5 29 sc.ag,(6,.cells 34 [.val (.slice p.a p.len p.cap),.val (.slice r.a r.len r.cap)]),UV 19 84 v.ag,UV 21 77 e.ag,(125,.au 77 5 (l.map gR.ag))] m h})] [] false
abbrev vL(a:Nat×Sl×Sl×List gR×PH):=List.map gR.ag a.2.2.2.1
abbrev Aj(a:Nat×Sl×Sl×List gR×PH):=a.2.2.2.2
abbrev M0(a b c:Sl)(d:eG)(e:uc)(g:Nat->Nat->Option Value)(i:Int->Int->Sl->(List jV)->(List tj)->to->Prop):=lC (λx n=>∃o t u,HD (λy z=>∃f j A,bE (gI a b) (bU c (jO d.ah e))=bE (gI x n) (bU o (jO t (iV u y)))/\iB g x n z f/\bm g o j/\j.length=f.length/\i t u y f j A))
abbrev MZ a b c d e g i j k l:=(∀x,List.Mem x a->iY x)/\bF b c d/\cC (yC e g d i a) (lJ j 56 k) l
abbrev MY(a:Nat×Sl×Sl×List gR×PH->Prop)(b:Nat×Sl×Sl×List gR×PH->Nat)(c:Nat×Sl×Sl×List gR×PH)(d:Sl)(e:(Nat×Sl×Sl×List gR×PH)->Prop):=∃x,a x/\b x<b c/\bY/\jW/\bC c.2.1 x.2.1/\bC c.2.2.1 x.2.2.1/\eL 125/\aH d/\e x
abbrev Fx(a:Nat×gR×Nat×Sl×Sl×eG×Sl×List gR×PH):=a.2.2.2.1
abbrev Fy(a:Nat×gR×Nat×Sl×Sl×eG×Sl×List gR×PH):=a.2.2.2.2.1
abbrev RN(a:t8->Prop)(b:Nat)(c:Sl)(d:t8->Nat×gR×Nat×Sl×Sl×eG×Sl×List gR×PH)(e:Sl)(g i:t8->Prop):=∃x,a x/\bY/\eP b/\bC c (Fx (d x))/\bC e (Fy (d x))/\eL 125/\eP 19/\g x/\i x
abbrev xA(a:Nat×gR×Nat×Sl×Sl×eG×Sl×List gR×PH):=a.2.2.2.2.2.2.1
abbrev zG(a:Nat×gR×Nat×Sl×Sl×eG×Sl×List gR×PH):=a.2.2.2.2.2.1
abbrev Hv a b:=oQ 84 (Az a)=oQ 84 (Az (zG b))
abbrev tF(a:Nat×gR×Nat×Sl×Sl×eG×Sl×List gR×PH):=a.2.1
abbrev Ai a b c:=jX (tF a).change::At.val b::jX (tF a).ah::rF (tF a).key::[c]
abbrev Ct a:=jX (tF a).ju
abbrev vK(a:Nat×gR×Nat×Sl×Sl×eG×Sl×List gR×PH):=List.map gR.ag a.2.2.2.2.2.2.2.1
abbrev qJ(a:Nat×gR×Nat×Sl×Sl×eG×Sl×List gR×PH):=a.2.2.2.2.2.2.2.2
abbrev RO(a:t8->Prop)(b:t8->Nat)(c:Nat)(d:Nat×gR×Nat×Sl×Sl×eG×Sl×List gR×PH)(e:t8->Nat×gR×Nat×Sl×Sl×eG×Sl×List gR×PH)(g:t8->Prop):=∃x,a x/\b x<c/\bY/\jW/\bC (Fx d) (Fx (e x))/\bC (Fy d) (Fy (e x))/\eL 125/\eP 19/\g x
abbrev JX a b:=cT (zG a).bj (zG b).bj
attribute [push_cast] vL Aj M0 MZ MY Fx Fy RN xA zG Hv tF Ai Ct vK qJ RO JX
def apZ sc p r pv sl g:=λm h K=>∃s,lC (λp1 r1=>∃p2,IA (λW X Y=>∃v,bE (cW sc) (gO (gI p r) pv)=bE (cW s) (gO (gI p1 r1) p2)/\dV h W s/\iB h p1 r1 X Y/\bF h p2 v/\Cf h (λF=>cM (jH W X Y v) 0 (fR K (jH W X Y v) m F) (CD (λs2 s3 c=>O8 (λH J=>∃M,bE (cW sc) (jO 1 (gO (aT sl) g))=bE (cW s2) (jO 1 (gO (aT s3) c))/\dV F H s2/\tI F s3 J/\sX F c M/\jA (λw n=>cO F n (bm n w (kU 1 H J M).1) (cM (kU 1 H J M).2 0 (Ft K (kU 1 H J M).2 m n) (∃c2,xQ (λs6 O=>lC (λp4 r3=>∃p5 P,nZ (λp6 Q=>∃s8,bE (aT sl) (gO (gI p r) pv)=bE (aT s6) (gO (gI p4 r3) p6)/\tI n s6 O/\iB n p4 r3 p5 P/\bF n p6 Q/\qL P.length/\(∀u,List.Mem u P->z8 c2 s8 (eY Q u.av)/\yS u.av/\yS (eY Q u.av))/\pX s8 O=0/\Ce O (λl=>Ew l (dG c2))/\jA (λs9 C=>cO n C (bm C s9 (vX O P Q)) (∃c3,xQ (λa R=>lC (λp8 r5=>∃p9 S,nZ (λa2 T=>∃a4,bE (aT w) (gO (gI p r) pv)=bE (aT a) (gO (gI p8 r5) a2)/\tI C a R/\iB C p8 r5 p9 S/\bF C a2 T/\qL S.length/\(∀u,List.Mem u S->z8 c3 a4 (eY T u.av)/\yS u.av/\yS (eY T u.av))/\pX a4 R=0/\Ce R (λl=>Ew l (dG c3))/\jA (λa5 Z=>cO C Z (bm Z a5 (vX R S T)) (∃I D,(∃x,I x/\bY/\eP 6/\bC s9 x.2.1/\bC a5 x.2.2.1/\eL 125/\aH g/\aY g/\bB x.1/\aW sc/\lV p r/\wL 77 5 (vL x)/\eV (m=m) (Z=Aj x))/\∀x,I x->aX x.1 (aF g) (ab g x.1 3 jM m (Aj x) (λy=>∃U,J6 (λv1 a7 V=>bL (jS sc) (jM y)=bL (jS U) (jM v1)/\dV (Aj x) a7 U/\AW (Aj x) V v1/\jB V.bj/\jB V.new/\jA (λz j=>let N:=MY I D x g (λd=>aY g/\fI (bA x.1 1)=bR d.1/\aW sc/\lV p r/\bX (cE 77 5 (vL x)=cE 77 5 (vL d)) m m j (Aj d));let Aa:=pW y.ah::fW z::bV (Int.negSucc 0);cO (Aj x) j (bF j z (kK a7 V)) (dJ (aF y.bj== 0) (M0 p r x.2.2.1 y (iV (Int.negSucc 0) z) j (λt A k G L B=>MZ L j k B t A G (vL x) (MY I D x g (λd=>aY g/\fI (bA x.1 1)=bR d.1/\aW sc/\lV p r/\bX (cE 77 5 (hZ (vL x) (pW x.1::zH::Aa))=cE 77 5 (vL d)) m m j (Aj d))) N)) (aF y.new==0) (M0 p r x.2.1 y (iV (Int.negSucc 0) z) j (λt A k G L B=>MZ L j k B t A G (vL x) (MY I D x g (λd=>aY g/\fI (bA x.1 1)=bR d.1/\aW sc/\lV p r/\bX (cE 77 5 (hZ (vL x) (pW (↑x.1: Int)::uG::Aa))=cE 77 5 (vL d)) m m j (Aj d))) N)) (∃(I1:Nat×gR×Nat×Sl×Sl×eG×Sl×List gR×PH->Prop)(E:Nat×gR×Nat×Sl×Sl×eG×Sl×List gR×PH->Nat),RN (λd=>I1 d) 6 x.2.1 (λd=>d) x.2.2.1 (λd=>bC z (xA d)) (λd=>eP 21/\aH g/\aY g/\bP x.1 d.2.2.1/\cT y.bj (zG d).bj/\bB d.1/\aW sc/\lV p r/\Hv y d/\oQ 77 (jX x.1::At.val uG::jX y.ah::rF z::[jX (Int.negSucc 0)])=oQ 77 (Ai d (.bool (tF d).after) (Ct d))/\cE 77 5 (vL x)=cE 77 5 (vK d)/\m=m/\dC j (qJ d))/\∀d,I1 d->aX d.1 (aF (zG d).bj) (aM (λb1 o1=>aR (zG d).bj.a b1 o1/\0<=(↑d.1:Int)/\d.1<aF (zG d).bj/\∃y1:VV,aK m (qJ d) b1 (bI o1 d.1 3) y1.ag/\Jv (zG d).new d.1 m (qJ d) (λy2=>rI 58 y1.ag y2.ag (λG=>branch G (RO (λe=>I1 e) (λe=>E e) (E d) d (λe=>e) (λe=>bC (xA d) (xA e)/\eP 21/\aH g/\aY g/\bP d.2.2.1 e.2.2.1/\JX d e/\fI (bA d.1 1)=bR e.1/\aW sc/\lV p r/\Hv (zG d) e/\oQ 77 (Ai d (.bool (tF d).after) (Ct d))=oQ 77 (Ai e (.bool (tF e).after) (Ct e))/\cE 77 5 (vK d)=cE 77 5 (vK e)/\eV (m=m) (qJ d=qJ e))) (∃I2:Nat×gR×Nat×Sl×Sl×eG×Sl×List gR×PH->Prop,M0 p r (Fx d) (zG d) (iV d.1 (xA d)) (qJ d) (λt A k r8 L B=>MZ L (qJ d) k B t A r8 (vK d) (RN (λe=>I2 e) 6 (Fx d) (λe=>e) (Fy d) (λe=>bC (xA d) (xA e)) (λe=>eP 21/\bP d.1 e.1/\aH g/\aY g/\bP d.2.2.1 e.2.2.1/\JX d e/\bP d.1 e.1/\aW sc/\lV p r/\Hv (zG d) e/\oQ 77 (Ai d uG (jX d.1))=oQ 77 (Ai e (.bool (tF e).after) (Ct e))/\cE 77 5 (hZ (vK d) (pW (tF d).change::uG::pW (tF d).ah::fW (tF d).key::bV d.1))=cE 77 5 (vK e)/\eV (m=m) (qJ d=qJ e))) (RN (λe=>I2 e) 6 (Fx d) (λe=>e) (Fy d) (λe=>bC (xA d) (xA e)) (λe=>eP 21/\bP d.1 e.1/\aH g/\aY g/\bP d.2.2.1 e.2.2.1/\JX d e/\bP d.1 e.1/\aW sc/\lV p r/\Hv (zG d) e/\oQ 77 (Ai d (.bool (tF d).after) (jX d.1))=oQ 77 (Ai e (.bool (tF e).after) (Ct e))/\cE 77 5 (vK d)=cE 77 5 (vK e)/\eV (m=m) (qJ d=qJ e))))/\∀e,I2 e->M0 p r (Fy e) (zG e) (iV e.1 (xA e)) (qJ e) (λt A k r8 L B=>MZ L (qJ e) k B t A r8 (vK e) (RO (λf=>I1 f) (λf=>E f) (E d) e (λf=>f) (λf=>bC (xA e) (xA f)/\eP 21/\aH g/\aY g/\bP e.2.2.1 f.2.2.1/\JX e f/\fI (bA e.1 1)=bR f.1/\aW sc/\lV p r/\Hv (zG e) f/\oQ 77 (Ai e zH (Ct e))=oQ 77 (Ai f (.bool (tF f).after) (Ct f))/\cE 77 5 (hZ (vK e) (pW (tF e).change::zH::pW (tF e).ah::fW (tF e).key::bV (tF e).ju))=cE 77 5 (vK f)/\eV (m=m) (qJ e=qJ f))) (RO (λf=>I1 f) (λf=>E f) (E d) e (λf=>f) (λf=>bC (xA e) (xA f)/\eP 21/\aH g/\aY g/\bP e.2.2.1 f.2.2.1/\JX e f/\fI (bA e.1 1)=bR f.1/\aW sc/\lV p r/\Hv (zG e) f/\oQ 77 (Ai e (.bool (tF e).after) (Ct e))=oQ 77 (Ai f (.bool (tF f).after) (Ct f))/\cE 77 5 (vK e)=cE 77 5 (vK f)/\eV (m=m) (qJ e=qJ f))))))))) (∃e,I e/\D e<D x/\bY/\jW/\bC (Fx d) e.2.1/\bC (Fy d) e.2.2.1/\eL 125/\aH g/\aY g/\fI (bA d.2.2.1 1)=bR e.1/\aW sc/\lV p r/\bX (cE 77 5 (vK d)=cE 77 5 (vL e)) m m (qJ d) (Aj e)))))))) (bN (Aj x) 5 (vL x) (λU j=>mR K U m j)))))))))))))))))))))
theorem cMQ{N key i c}(h:c.bj.length<=1000):(Rk N key i c).length<=2001:=by
 grind[Rk,R2,al,Gq,length_map,length_filter_le]
theorem awX{N:sZ->Bool->Int->Bool}{key:sZ->to}:∀{cs:List sZ}{i:Nat},(∀c∈cs,c.bj.length<=1000)->(IW N key cs i).length<=cs.length*2001
 |[],i,_=>by simp[IW]
 |c::cs,i,h=>by
  have e:=awX (N:=N) (key:=key) (cs:=cs) (i:=i+1) λx d=>h x (mem_cons_of_mem _ d)
  grind[IW,cMQ,mem_cons_self,sj,te]
theorem W4{N:sZ->Bool->Int->Bool}{key:sZ->to}:∀{cs:List sZ}{i k:Nat}{c:sZ},cs[k]?=some c->IW N key (cs.take (k+1)) i=IW N key (cs.take k) i++Rk (N c) (key c) ((i+k:Nat):Int) c
 |[],i,k,c,h=>by simp at h
 |a::cs,i,0,c,h=>by grind[IW]
 |a::cs,i,k+1,c,h=>by
  rw[take_succ_cons,take_succ_cons,IW,IW,W4 (cs:=cs) (i:=i+1) (k:=k) (mp h),append_assoc,show i+1+k=i+(k+1)by omega]
structure GB(h:PH)(l:List gR)(ds:List fw):Prop where
 len:l.length=ds.length
 fm:∀(i:Nat) d,ds[i]?=some d->∃v,l[i]?=some v/\UD h d v
theorem GB.mono{l ds}(x:GB h l ds)(le:PH.le h h'):GB h' l ds:=⟨x.len,λi d e=>(x.fm i d e).imp λ_ y=>⟨y.1,y.2.mono le⟩⟩
theorem GB.cw{l ds d v}(x:GB h l ds)(y:UD h d v):GB h (l++[v]) (ds++[d]):=⟨by simp[x.len],λi f e=>by
 have g:=x.len;rcases Nat.lt_or_ge i ds.length with c|c
 .rw[getElem?_append_left c]at e;have⟨w,j,n⟩:=x.fm i f e
  grind
 grind⟩
theorem b6Z:uz 17 bHZ:=by
 refine gV func17 ?_;rintro d9 m h K⟨cN,sc,p,r,pv,sl,ch,s,Y,rs,ps,st,cs,rfl,hs,hp,H,b6,hc,hE,hw,hl,M⟩;refine⟨dqZ sc p r ch m,rfl,aD VK (aD b1X (aD b1Q (aD Vq (aD b0J aG)))),apZ sc p r pv sl ch,bt,?_⟩;dsimp only[apZ,push_cast];have c4:=aU.e hc;unfold LF at M;refine⟨sc,p,r,pv,s,Y,rs,ps,rfl,hs,hp,H,λh1 I=>aB (λa0=>?_) (λa0=>?_)⟩
 .rw[if_pos (mp a0)]at M;exact M ⟨none,0,0⟩ h1 I (aU.nil _ _ _ _)
 have a0:jH s Y rs ps=0:=mp a0
 rw[if_neg (by rw[a0];simp)]at M;refine⟨sc,sl,ch,s,st,cs,rfl,hs.mono I,b6.mono I,aU.mono hc I λ_ _ y=>y.mono I,λw T b7 a'=>aB (λa1=>?_) (λa1=>?_)⟩
 .rw[if_pos (mp a1)]at M;exact M ⟨none,0,0⟩ T (I.trans b7) (aU.nil _ _ _ _)
 have a1:(kU 1 s st cs).2=0:=mp a1
 rw[if_neg (by rw[a1];simp)]at M;have⟨b8,E1,E2⟩:=hE a0 a1;dsimp only at M;generalize (kU 1 s st cs).1=U at a' E2 M;have M2:=I.trans b7;refine⟨cN,sl,st,p,r,Y,rs,pv,ps,s,rfl,b6.mono M2,hp.mono M2,bF.mono H M2,b8,E1.good,E1.ok,E1.jv,λo h3 J ho=>⟨cN,w,U,p,r,Y,rs,pv,ps,s,rfl,⟨aU.mono a' J λl s L=>aU.mono L J λr t H=>bF.mono H J,E2.len,E2.val⟩,hp.mono (M2.trans J),bF.mono H (M2.trans J),b8,E2.good,E2.ok,E2.jv,λn h4 V hn=>?_⟩⟩;have a6:(vX st rs ps).length=rs.length:=by simp[vX]
 have a7:(vX U rs ps).length=rs.length:=by simp[vX]
 have a8:∀l∈vX st rs ps,iY l:=λl hl=>by
  obtain⟨u,hu,rfl⟩:=mem_map.1 hl;exact E1.jw u hu
 have a9:∀l∈vX U rs ps,iY l:=λl hl=>by
  obtain⟨u,hu,rfl⟩:=mem_map.1 hl;exact E2.jw u hu
 have ho:=aU.mono ho V λl s L=>aU.mono L V λr t H=>bF.mono H V;have M4:=M2.trans (J.trans V);clear a' E1 E2 hE;generalize vX st rs ps=L1 at a6 a8 ho M;generalize vX U rs ps=L2 at a7 a9 hn M;refine⟨λz=>∃i l h',z=(i,o,n,l,h')/\i<=cs.length/\PH.le h4 h'/\GB h' l (Of s rs L1 L2 (cs.take i) 0),λz=>cs.length-z.1,⟨(0,o,n,[],h4),⟨0,[],h4,rfl,aC,.refl _,⟨rfl,λi d e=>by grind[Of,IW]⟩⟩,MT⟩,?_⟩;rintro _⟨i,l,hx,rfl,hi,fa,hd⟩;dsimp only;have b':=hd.len;have b9:=awX (N:=Ix s rs L1 L2) (key:=kK s) (cs:=cs.take i) (i:=0) λc hc=>(hw c (mem_of_mem_take hc)).1;rw[length_take]at b9;have b9:l.length<=802000:=by grind[Of]
 refine aE (λc'=>?_) (λe0=>λx F A L=>?_)
 .have⟨c,b0⟩:=eF c4 c';have⟨b,off,v,ea,rd,c0⟩:=aU.at hc b0;have⟨w1,w2,w3⟩:=hw c (si b0);have M5:=M4.trans fa;refine⟨b,off,ea,aC,c',v,.ay (rd.mono M5),sc,v,s,c,rfl,hs.mono M5,c0.mono M5,w1,w2,λk F A hk=>?_⟩;have M6:=M5.trans A;have E:=c0.mono M6;have c5:=aU.e E.ib;have c6:=aU.e E.gj;have et:=E.ir;have O:=hd.mono A;have e4:=(sg b0)
  have P:∀g l',PH.le F g->GB g l' (Of s rs L1 L2 (cs.take i) 0++Rk (Ix s rs L1 L2 c) (kK s c) i c)->(∃i' G h',((i+1,o,n,l',g):Nat×Sl×Sl×List gR×PH)=(i',o,n,G,h')/\i'<=cs.length/\PH.le h4 h'/\GB h' G (Of s rs L1 L2 (cs.take i') 0)):=λg l' f b5=>⟨i+1,l',g,rfl,aC,fa.trans (A.trans f),by
   simp_all[kK,Of,W4,Nat.zero_add]⟩
  have c1:bm F o L1:=aU.mono ho (fa.trans A) λl s L=>aU.mono L (fa.trans A) λr t H=>bF.mono H (fa.trans A);have c2:bm F n L2:=aU.mono hn (fa.trans A) λl s L=>aU.mono L (fa.trans A) λr t H=>bF.mono H (fa.trans A);have W:=hp.mono M6;rw[fH (i:=i) aC];have wE:∀C a,yC v.ah C (kK s c) rs (if a=true then L2 else L1)=Ix s rs L1 L2 c a C:=λC a=>by rw[et];rfl
  have w0:=λC=>wE C true;have w9:=λC=>wE C false;simp only[if_true,Bool.false_eq_true,if_false]at w0 w9;generalize Ix s rs L1 L2 c=N at P w0 w9;generalize hB:Of s rs L1 L2 (cs.take i) 0=B at P O;have dn:∀(g:PH)(a:Bool)(C:Int),PH.le F g->UD g ⟨i,a,c.j,kK s c,C⟩ ⟨i,a,v.ah,k,C⟩:=λg a C f=>⟨rfl,rfl,et,bF.mono hk f,rfl⟩
  refine aB (λa2=>?_) (λa2=>aB (λa3=>?_) (λa3=>?_))
  .have Q:Rk N (kK s c) i c=if N true (-1)=true then[]else[⟨i,true,c.j,kK s c,-1⟩]:=by
    simp_all[Rk]
   rw[Q]at P;refine⟨p,r,n,v.ah,-1,k,Y,rs,L2,kK s c,rfl,W,c2,a7,a9,hk,?_⟩;rw[w0];refine aB (λX=>⟨da,da,(i+1,o,n,l++[⟨i,true,v.ah,k,-1⟩],F),P _ _ (.refl _) ?_,aC,by rw[sn];exact MT⟩) (λX=>⟨(i+1,o,n,l,F),P _ _ (.refl _) ?_,aC,MT⟩)
   .rw[if_neg (mp X)];exact O.cw (dn F true (-1) (.refl _))
   grind
  .have Q:Rk N (kK s c) i c=if N false (-1)=true then[]else[⟨i,false,c.j,kK s c,-1⟩]:=by
    simp_all[Rk]
   rw[Q]at P;refine⟨p,r,o,v.ah,-1,k,Y,rs,L1,kK s c,rfl,W,c1,a6,a8,hk,?_⟩;rw[w9];refine aB (λX=>⟨da,da,(i+1,o,n,l++[⟨i,false,v.ah,k,-1⟩],F),P _ _ (.refl _) ?_,aC,by rw[sn];exact MT⟩) (λX=>⟨(i+1,o,n,l,F),P _ _ (.refl _) ?_,aC,MT⟩)
   .rw[if_neg (mp X)];exact O.cw (dn F false (-1) (.refl _))
   grind
  have b1:c.bj≠[]:=λe=>da
  have b2:c.new≠[]:=λe=>da
  have e5:=w3 b1 b2
  have Q:Rk N (kK s c) i c=(List.range c.bj.length).flatMap λj=>if R2 (c.bj.getD j al) (c.new.getD j al)=true then[]else([false,true].filter λa=>!N a j).map λa=>⟨i,a,c.j,kK s c,j⟩:=by
   simp_all[Rk]
  rw[Q]at P;generalize hD:(λj:Nat=>if R2 (c.bj.getD j al) (c.new.getD j al)=true then[]else([false,true].filter λa=>!N a j).map λa=>(⟨i,a,c.j,kK s c,j⟩:fw))=D at P
  have c7:∀k,(D k).length<=2:=λk=>by
   grind
  have R:∀k,D k=if R2 (c.bj.getD k al) (c.new.getD k al)=true then[]else([false,true].filter λa=>!N a k).map λa=>(⟨i,a,c.j,kK s c,k⟩:fw):=λk=>by rw[<-hD]
  clear hD;refine⟨λz=>∃j e G T,z=(j,e,i,o,n,v,k,G,T)/\j<=c.bj.length/\(i:Int)=e.change/\v.ah=e.ah/\k=e.key/\PH.le F T/\GB T G (B++(List.range j).flatMap D),λz=>c.bj.length-z.1,⟨(0,⟨i,false,v.ah,k,-1⟩,i,o,n,v,k,l,F),⟨0,_,l,F,rfl,aC,rfl,rfl,rfl,.refl _,mp O⟩,MT⟩,?_⟩;rintro _⟨j,⟨q1,q2,q3,q4,q5⟩,G,g,rfl,hj,rfl,rfl,rfl,f,b5⟩;dsimp only;have e6:=Gq c7 j;have e7:=O.len;have e8:G.length<=900000:=by rw[b5.len,sj];omega
  refine aE (λZ=>?_) (λd8=>⟨(i+1,o,n,G,g),P g G f da,aC,MT⟩);have⟨x,c8⟩:=eF c5 Z;have⟨x2,c9⟩:=eF c6 (i:=j) aC;obtain⟨b3,o3,_,d',d0,rfl⟩:=aU.at (E.mono f).ib c8;obtain⟨b4,o4,_,d1,d2,rfl⟩:=aU.at (E.mono f).gj c9;have g1:c.bj.getD j al=x:=da
  have g2:c.new.getD j al=x2:=da
  have R:=R j;rw[g1,g2]at R;have nj:∀h7 S(e:gR),PH.le g h7->(i:Int)=e.change->v.ah=e.ah->k=e.key->GB h7 S (B++(List.range j).flatMap D++D j)->(∃j' e' G T,((j+1,e,i,o,n,v,k,S,h7):Nat×gR×Nat×Sl×Sl×eG×Sl×List gR×PH)=(j',e',i,o,n,v,k,G,T)/\j'<=c.bj.length/\(i:Int)=e'.change/\v.ah=e'.ah/\k=e'.key/\PH.le F T/\GB T G (B++(List.range j').flatMap D)):=λh7 S e d3 e1 e2 e3 c3=>⟨j+1,e,S,h7,rfl,aC,e1,e2,e3,f.trans d3,by grind[range_succ,flatMap_singleton,append_assoc]⟩
  rw[fH (i:=j) aC];refine⟨b3,o3,d',aC,Z,x,.ay d0,b4,o4,d1,aC,aC,x2,.ay d2,_,HS x x2,aB (λX=>?_) (λX=>?_)⟩
  .rw[if_pos X]at R;exact⟨(j+1,⟨i,q2,v.ah,k,q5⟩,i,o,n,v,k,G,g),nj g G _ (.refl _) rfl rfl rfl da,aC,MT⟩
  rw[if_neg (by rw[X];decide)]at R;have d4:bm g n L2:=aU.mono c2 f λl s L=>aU.mono L f λr t H=>bF.mono H f;have d5:bm g o L1:=aU.mono c1 f λl s L=>aU.mono L f λr t H=>bF.mono H f;refine⟨λz=>∃e S,z=(j,e,i,o,n,v,k,S,g)/\(i:Int)=e.change/\v.ah=e.ah/\k=e.key/\(j:Int)=e.ju/\S.length<=900001/\GB g S (B++(List.range j).flatMap D++if N false j=true then[]else[⟨i,false,c.j,kK s c,j⟩]),⟨p,r,o,v.ah,j,k,Y,rs,L1,kK s c,rfl,W.mono f,d5,a6,a8,bF.mono hk f,?_⟩,?_⟩
  .rw[w9];refine aB (λa5=>⟨da,da,(j,⟨i,false,v.ah,k,j⟩,i,o,n,v,k,G++[⟨i,false,v.ah,k,j⟩],g),⟨_,_,rfl,rfl,rfl,rfl,rfl,cv,?_⟩,by rw[sn];exact MT⟩) (λa5=>⟨(j,⟨i,q2,v.ah,k,j⟩,i,o,n,v,k,G,g),⟨_,_,rfl,rfl,rfl,rfl,rfl,aC,?_⟩,MT⟩)
   .rw[if_neg (mp a5)];exact b5.cw (dn g false j f)
   grind
  rintro _⟨⟨q6,q7,q8,q9,q0⟩,S,rfl,rfl,rfl,rfl,rfl,d6,c3⟩;dsimp only;refine⟨p,r,n,v.ah,j,k,Y,rs,L2,kK s c,rfl,W.mono f,d4,a7,a9,bF.mono hk f,?_⟩;rw[w0];refine aB (λa5=>⟨da,da,(j+1,⟨i,true,v.ah,k,j⟩,i,o,n,v,k,S++[⟨i,true,v.ah,k,j⟩],g),nj g _ _ (.refl _) rfl rfl rfl ?_,aC,by rw[sn];exact MT⟩) (λa5=>⟨(j+1,⟨i,q7,v.ah,k,j⟩,i,o,n,v,k,S,g),nj g _ _ (.refl _) rfl rfl rfl ?_,aC,MT⟩)
  .have:=c3.cw (dn g true j f)
   grind
  .grind
 .have d7:i=cs.length:=by omega
  subst d7;rw[take_length]at hd b';exact M x F (M4.trans (fa.trans A)) ⟨⟨l,L,b'.symm,λi d e=>by have⟨v,q1,q2⟩:=hd.fm i d e;exact⟨v,q1,q2.mono A⟩⟩,by rw[<-b'];omega⟩
def YD:AC:=λc m h K=>∃cb,c=[cP cb]/\aJ m h cb/\∀n m',aZ m m' cb->aJ m' h cb->K (cI n) m' h
def d0X:AC:=λc m h K=>∃cb,c=[cP cb]/\aJ m h cb/\∀v m',aZ m m' cb->aJ m' h cb->K (aV v) m' h
def Jb p:=mj p<=1000000000
def dXJ(N:Nat):AC:=λc m h K=>∃cb v p,c=[cP cb,aP v]/\aJ m h cb/\fV h p v/\Jb p/\SizeOf.sizeOf p<N/\∀e d m' h',PH.le h h'->fV h' e d->aZ m m' cb->aJ m' h' cb->K (aP d) m' h'
def dYQ:AC:=λc m h K=>∃cb v p,c=[cP cb,aP v]/\aJ m h cb/\fV h p v/\Jb p/\∀e d m' h',PH.le h h'->fV h' e d->aZ m m' cb->aJ m' h' cb->K (aP d) m' h'
def diQ(N cb:Nat)(v:PV)(h:PH):=
 tH [(13,ES),(20,FZ),(33,YD),(36,d0X),(65,dXJ N)] [(28,{A:=Nat×PV×MH×PH,st:=λ⟨i,w,m,h⟩=>bO 111 113 [SW 3,SW 4,(7,iv i)] [UV 3 63 w.ag,UV 4 63 iD.ag] m h}),
  (9,{A:=Nat×PV×MH×PH,st:=λ⟨i,w,m,h⟩=>bO 111 113 [SW 3,SW 4,(8,iv i)] [UV 3 63 w.ag,UV 4 63 iD.ag] m h})] [(7,{A:=Nat×MH,st:=λ⟨_,m⟩=>bO 111 113 [(0,pv cb),SW 3,SW 4] [UV 3 63 v.ag,UV 4 63 iD.ag] m h})] [] [3061,100056,100108] [] false
def akZ(cb:Nat):ST:=λm h K=>iN cb 6 m h (λk c=>dJ (k==0) (K (fD (Int.negSucc 0)) c h) (k==1) (K (fD 9223372036854775807) c h) (dJ (k==2) (K (fD (Int.negSucc 9223372036854775807)) c h) (k==3) (iN cb 3 c h (λd e=>K (fD (j6 100 d)) e h)) (iN cb 6 c h (λd e=>K (fD d) e h))))
def akQ(cb:Nat):ST:=λm h K=>iN cb 5 m h (λk c=>aX (j6 1 k) 3 (K (mX (bD (j6 1 k) 0 wR)) c h) (M1 cb (j6 1 k) c h (λv d=>K (mX v.ag) d h)))
abbrev Cu a b:=bD (zW a.left) (AN a.left) (.string (AO a.left)::GU a::b)
abbrev oN(a:Nat×PV×MH×PH):=a.2.1
abbrev rM(a:Nat×PV×MH×PH):=a.2.2
attribute [push_cast] Cu oN rM
def afJ(N cb:Nat)(v:PV):ST:=λm h K=>∃I:Nat×MH->Prop,eH (aF v.args) 0 (lD cb 2 m h (λc r=>∀g,aZ m g c->aJ g h c->branch r (tG (0=0) (λx=>uF (dA 13 x) (bT h jT 13 x) (λy=>dA 13 y/\mH g h (bK v.args) 13 y/\(FI none\/0<y.length)/\lK x y 136/\cJ (lL x y)/\iN cb (nV (x++y)) g h (λk f=>GW (dK k) (k<nV (x++y)) (λe=>yT (x++y) k.toNat e/\∃D:PV,List.take 13 (List.drop 0 e)=D.ag/\∃A,Eu (λu p=>bL (jN cb) D.ag=bL (jN A) u.ag/\aJ f h A/\fV h p u/\Jb p/\BT p N/\∀E t,iK (λB o=>cO h o (fV o E t) (aZ f B A->aJ B o A->GW (dK k) (k<nV (x++y)) (λC=>yT (x++y) k.toNat C/\13<=C.length/\bN o 13 (List.set (x++y) k.toNat (bD t.op t.dy (bD t.left.kind t.left.index (Cu t (vO t (fW t.args::List.drop 13 C)))))) (λs F=>K (mX (bD v.op v.dy (bD v.left.kind v.left.index (Cu v (vO v (aT s)))))) B F)))))))))) (∃x,I x/\cK cb/\eP 3/\eZ/\kZ v/\nK/\g=x.2/\h=h/\True))) (∃x,I x/\cK cb/\eP 3/\eZ/\kZ v/\nK/\m=x.2/\h=h/\True)/\∀x,I x->iN cb 9 x.2 h (λk g=>let G:=bD v.left.kind v.left.index (Cu v (vO v (aT v.args)));let H:=bD 0 0 (EN::pN::bD 0 0 (pW 0::EN::kS));dJ (k==0) (xC cb g h (λc n=>∀f,aZ g f c->aJ f h c->K (mX (bD n v.dy G)) f h)) (k==1) (xC cb g h (λc n=>∀f,aZ g f c->aJ f h c->K (mX (bD v.op n G)) f h)) (dJ (k==2) (xC cb g h (λc n=>∀f,aZ g f c->aJ f h c->K (mX (bD v.op v.dy (bD n v.left.index (Cu v (vO v (aT v.args)))))) f h)) (k==3) (xC cb g h (λc n=>∀f,aZ g f c->aJ f h c->K (mX (bD v.op v.dy (bD v.left.kind n (Cu v (vO v (aT v.args)))))) f h)) (dJ (k==4) (∃c,eO (jN cb) (jN c)/\aJ g h c/\∀(u:VV)(f:_),aZ g f c->aJ f h c->K (mX (bD v.op v.dy (bD v.left.kind v.left.index (Cu v (bD v.right.index u.kind (pW u.int::.string u.text::aT v.args)))))) f h) (k==5) (xC cb g h (λc n=>∀f,aZ g f c->aJ f h c->K (mX (bD v.op v.dy (bD v.left.kind v.left.index (Cu v (bD n (zW v.right) (pW (AN v.right)::.string (AO v.right)::aT v.args)))))) f h)) (dJ (k==6) (tG (0=0) (λd=>uF (dA 13 d) (bT h jT 13 d) (λy=>dA 13 y/\mH g h (bK v.args) 13 y/\(FI none\/0<y.length)/\lK d y 136/\cJ (lL d y)/\cJ (fS (d++y) 1*136)/\fA (d++y)/\bN h 13 (hZ (d++y) (wM 1 0 H)) (λs o=>K (mX (bD v.op v.dy (bD v.left.kind v.left.index (Cu v (vO v (aT s)))))) g o)))) (k==7) (∃(I1:Nat×PV×MH×PH->Prop)(f:Nat×PV×MH×PH->Nat),(∃d,I1 d/\cR/\eP 4/\bB d.1/\Ay v=Ay (oN d)/\nK/\fX g (rM d)/\dH h (rM d)/\True)/\∀d,I1 d->aX d.1 8 (bN (rM d).2 13 ([(oN d).ag]) (λs o=>∃j,I1 j/\f j<f d/\cR/\eZ/\fI (bA d.1 1)=bR j.1/\oQ 63 (RV 6 mh (fZ::fZ::fZ::mh::zU s))=Ay (oN j)/\nK/\fX (rM d).1 (rM j)/\fQ o (rM j))) (K (mX (oN d).ag) (rM d).1 (rM d).2)) (∃(I1:Nat×PV×MH×PH->Prop)(f:Nat×PV×MH×PH->Nat),(∃d,I1 d/\cR/\eP 4/\bB d.1/\Ay v=Ay (oN d)/\nK/\fX g (rM d)/\dH h (rM d)/\True)/\∀d,I1 d->aX d.1 24 (wS (dK (qK (oN d))) (qK (oN d)<=qK (oN d)) (xB (qK (oN d)) (oN d).args) ((qK (oN d)).toNat=(qK (oN d)).toNat) (λj=>dA 13 j/\bT (rM d).2 (Sl.mk (oN d).args.a (qK (oN d)).toNat (qK (oN d)).toNat) 13 j/\(FI (oN d).args.a\/0<1)/\cJ (fS j 1*136)/\fA j/\bN (rM d).2 13 (hZ j (wM 2 0 H)) (λs o=>∃z,I1 z/\f z<f d/\cR/\eZ/\fI (bA d.1 1)=bR z.1/\oQ 63 (tN (oN d) (oN d).left (oN d).right (BU (oN d).right::jX (zW (oN d).right)::jX (AN (oN d).right)::LV (AO (oN d).right)::zU s))=Ay (oN z)/\nK/\fX (rM d).1 (rM z)/\fQ o (rM z)))) (K (mX (oN d).ag) (rM d).1 (rM d).2))))))
theorem Zf:∀l:List ao,(l.length:Int)<=GH l
 |[]=>by simp[GH]
 |p::ps=>by
  have:=L7 p;have:=Zf ps
  grind[GH,te]
theorem Ze{a:ao}:∀{l:List ao},a∈l->mj a<=GH l
 |p::ps,h=>by
  have:=L7 p;have:=Gg ps;simp only[GH];rcases mem_cons.1 h with rfl|h
  .omega
  .have:=Ze h;omega
theorem Jb.len{op c l r args}(h:Jb (.mk op c l r args)):args.length<=1000000000:=by
 have:=Zf args
 grind[Jb,mj]
theorem Jb.arg{op c l r args}(h:Jb (.mk op c l r args)){a}(d:a∈args):Jb a:=by
 have:=Ze d
 grind[Jb,mj]
theorem uN.cw{ps vs}(x:uN h ps vs){u}(d:fV h p u):uN h (ps++[p]) (vs++[u]):=by
 induction ps generalizing vs with
 |nil=>obtain rfl:vs=[]:=x;exact⟨u,[],rfl,d,rfl⟩
 |cons q ps e=>
  obtain⟨y,c,rfl,f,g⟩:=x;exact⟨y,c++[u],rfl,f,e g⟩
theorem uN.set{ps vs}(x:uN h ps vs){u}(f:fV h p u):uN h (ps.set i p) (vs.set i u):=by
 induction ps generalizing vs i with
 |nil=>have e:vs=[]:=x;subst e;rfl
 |cons q ps g=>
  obtain⟨y,c,rfl,j,d⟩:=x;cases i with
  |zero=>exact⟨u,c,rfl,f,d⟩
  |succ i=>exact⟨y,c.set i u,rfl,j,g d⟩
theorem OW(l:uo):dA 13 (l.map PV.ag):=by
 refine⟨λx c=>?_,λx c v d=>?_⟩<;>obtain⟨p,_,rfl⟩:=mem_map.1 c
 .rfl
 .simp[PV.ag]at d;rcases d with h|h|h|h|h|h|h|h|h|h|h|h|h<;>(rw[h];rfl)
theorem Po:uz 33 YD:=by
 refine gV func33 ?_;rintro j m h K⟨cb,rfl,n,c⟩;refine⟨WP [(13,ES)],rfl,aD EP aG,akZ cb,bt,?_⟩;dsimp only[akZ,push_cast];refine⟨cb,6,rfl,n,λk t _ _ d e=>?_⟩;exact aB (λ_=>c _ _ d e) (λ_=>aB (λ_=>c _ _ d e) (λ_=>aB (λ_=>c _ _ d e) (λ_=>aB (λ_=>⟨cb,3,rfl,e,λk o _ _ f g=>c _ _ (d.trans f) g⟩) (λ_=>⟨cb,6,rfl,e,λk o _ _ f g=>c _ _ (d.trans f) g⟩))))
theorem b1Z:uz 36 d0X:=by
 refine gV func36 ?_;rintro f m h K⟨cb,rfl,g,c⟩;refine⟨WP [(13,ES),(62,Qd)],rfl,aD EP (aD Gt aG),akQ cb,bt,?_⟩;dsimp only[akQ,push_cast];refine⟨cb,5,rfl,g,λk t _ _ d e=>?_⟩;exact aB (λ_=>c ⟨_,0,⟨⟨[]⟩⟩⟩ _ d e) (λ_=>⟨cb,_,rfl,e,λv j u _ n o=>c v j (d.trans n) o⟩)
theorem bvX:∀N,uz 65 (dXJ N)
 |0=>by
  refine gV func65 ?_;rintro Z m h K⟨cb,v,p,rfl,_,_,_,hN,_⟩;omega
 |N+1=>by
  refine gV func65 ?_;rintro Z m h K⟨cb,v,p,rfl,hc,hr,hl,hN,D⟩;refine⟨diQ N cb v h,rfl,aD EP (aD qR (aD Po (aD b1Z (aD (bvX N) aG)))),afJ N cb v,bt,?_⟩;dsimp only[afJ,push_cast];have F:=@Ar p;obtain⟨op,A,l,r,args⟩:=p;obtain⟨U,V,W,X,h5,B,row,fm⟩:=hr;have a0:=hl.len;have a1:=fm.length;have a2:v.args.len=args.length:=by have:=row.len;simp at this;omega
  have H:∀(o c:Int)(J L:OV),fV h (.mk o c J L args) ⟨o,c,J,L,v.args⟩:=λ_ _ _ _=>⟨rfl,rfl,rfl,rfl,h5,B,row,fm⟩
  refine⟨λx=>aZ m x.2 cb/\aJ x.2 h cb,aE (λM=>⟨cb,2,rfl,aC,aC,hc,λr1 m1 O P=>aB (λ_=>?_) (λ_=>⟨(0,m1),⟨O,P⟩,MT⟩)⟩) (λ_=>⟨(0,m),⟨.refl _ _,hc⟩,MT⟩),?_⟩
  .refine⟨rfl,[],⟨bu,bu⟩,bT.nil _ _,B.map PV.ag,OW B,.ay row,.inl rfl,cv,cv,cb,_,rfl,P,λk I k0 k1 j C=>?_⟩;have hk:k.toNat<args.length:=by simp at k1;omega
   obtain⟨a,ha⟩:∃a,args[k.toNat]?=some a:=⟨_,sh hk⟩
   have⟨u,hu,ru⟩:=fm.get ha;have hm:=si ha;have:=F (q:=a) hm;have he:([]++B.map PV.ag)[k.toNat]?=some (PV.ag u):=da
   have Q:k<((([]:List tm)++B.map PV.ag).length:Int):=cv
   refine⟨k0,Q,_,he,u,rfl,cb,u,a,rfl,C,ru,hl.arg hm,aC,λp' v' t hA R r3 y z=>⟨k0,Q,_,he,by simp[PV.ag],λs G d rs=>?_⟩⟩;refine D (.mk op A l r (args.set k.toNat p')) ⟨v.op,v.dy,v.left,v.right,s⟩ t G (R.trans d) ⟨U,V,W,X,cv,B.set k.toNat v',by rw[map_set];exact rs,(uN.mono (R.trans d) fm).set (r3.mono d)⟩ ((O.trans j).trans y) (z.mono d)
  .rintro⟨_,m1⟩⟨O,P⟩;dsimp only at O P⊢
   refine⟨cb,9,rfl,P,λk I _ _ j C=>?_⟩;have j:=O.trans j;refine aB (λ_=>⟨cb,rfl,C,λn t y z=>D _ _ t h (.refl _) (H n v.dy v.left v.right) (j.trans y) z⟩) (λ_=>?_);refine aB (λ_=>⟨cb,rfl,C,λn t y z=>D _ _ t h (.refl _) (H v.op n v.left v.right) (j.trans y) z⟩) (λ_=>?_);refine aB (λ_=>⟨cb,rfl,C,λn t y z=>D _ _ t h (.refl _) (H v.op v.dy ⟨n,v.left.index,v.left.value⟩ v.right) (j.trans y) z⟩) (λ_=>?_);refine aB (λ_=>⟨cb,rfl,C,λn t y z=>D _ _ t h (.refl _) (H v.op v.dy ⟨v.left.kind,n,v.left.value⟩ v.right) (j.trans y) z⟩) (λ_=>?_);refine aB (λ_=>⟨cb,rfl,C,λn t y z=>D _ _ t h (.refl _) (H v.op v.dy v.left ⟨v.right.kind,v.right.index,n⟩) (j.trans y) z⟩) (λ_=>?_);refine aB (λ_=>⟨cb,rfl,C,λn t y z=>D _ _ t h (.refl _) (H v.op v.dy v.left ⟨v.right.kind,n,v.right.value⟩) (j.trans y) z⟩) (λ_=>?_);refine aB (λ_=>?_) (λ_=>aB (λ_=>?_) (λ_=>?_))
   .refine⟨rfl,[],⟨bu,bu⟩,bT.nil _ _,B.map PV.ag,OW B,.ay row,.inl rfl,cv,cv,cv,cv,λs G d rs=>?_⟩;exact D (.mk op A l r (args++[.mk 1 0 eU eU []])) ⟨v.op,v.dy,v.left,v.right,s⟩ I G d ⟨U,V,W,X,cv,B++[⟨1,0,eU,eU,bS⟩],by rw[sn];exact rs,(uN.mono d fm).cw (p:=.mk 1 0 eU eU []) (u:=⟨1,0,eU,eU,bS⟩) ⟨rfl,rfl,rfl,rfl,bu,[],bT.nil _ _,rfl⟩⟩ j (C.mono d)
   .refine⟨λx=>x.1<=8/\∃q,fV x.2.2.2 q x.2.1/\x.2.2.1=I/\PH.le h x.2.2.2,λx=>8-x.1,⟨(0,v,I,h),⟨bu,.mk op A l r args,⟨U,V,W,X,h5,B,row,fm⟩,rfl,.refl _⟩,MT⟩,?_⟩;rintro⟨i,w,S,hx⟩⟨hi,q,rq,rfl,fa⟩;dsimp only at hi rq fa⊢
    refine aE (λM=>λs G d rs=>?_) (λ_=>D q w S hx fa rq j (C.mono fa));rw[fH aC];exact⟨(i+1,⟨6,0,eU,eU,s⟩,S,G),⟨aC,(.mk 6 0 eU eU [q]),⟨rfl,rfl,rfl,rfl,bu,[w],rs,w,[],rfl,rq.mono d,rfl⟩,rfl,fa.trans d⟩,aC,MT⟩
   .refine⟨λx=>x.1<=24/\(∃op A l r args,fV x.2.2.2 (.mk op A l r args) x.2.1/\args.length<=1000000000+x.1)/\x.2.2.1=I/\PH.le h x.2.2.2,λx=>24-x.1,⟨(0,v,I,h),⟨bu,⟨_,_,_,_,_,⟨U,V,W,X,h5,B,row,fm⟩,cv⟩,rfl,.refl _⟩,MT⟩,?_⟩;rintro⟨i,w,S,hx⟩⟨hi,⟨T,E,J,L,f,⟨g1,g2,g3,g4,g5,Y,e,g⟩,a'⟩,rfl,fa⟩;dsimp only at hi e g a' fa g1 g2 g3 g4⊢
    have a3:=g.length;have a4:w.args.len=f.length:=by have:=e.len;simp at this;omega
    refine aE (λM=>?_) (λ_=>D (.mk T E J L f) w S hx fa ⟨g1,g2,g3,g4,g5,Y,e,g⟩ j (C.mono fa));refine⟨aC,aC,by have:=e.cap;omega,rfl,Y.map PV.ag,OW Y,⟨da,e.row,Nat.le_refl _⟩,.inr aC,cv,cv,λs G d rs=>?_⟩;rw[fH aC];exact⟨(i+1,⟨w.op,w.dy,w.left,w.right,s⟩,S,G),⟨aC,⟨T,E,J,L,f++[.mk 2 0 eU eU []],⟨g1,g2,g3,g4,cv,Y++[⟨2,0,eU,eU,bS⟩],by rw[sn];exact rs,(uN.mono d g).cw (p:=.mk 2 0 eU eU []) (u:=⟨2,0,eU,eU,bS⟩) ⟨rfl,rfl,rfl,rfl,bu,[],bT.nil _ _,rfl⟩⟩,cv⟩,rfl,fa.trans d⟩,aC,MT⟩
theorem bZJ:uz 65 dYQ:=jL bvX λ_ _ _ _⟨cb,v,p,e,c,d,f,g⟩=>⟨SizeOf.sizeOf p+1,cb,v,p,e,c,d,f,aC,g⟩
structure tL(m0 m:MH)(h:PH)(w:ao)(co:ti)(on:tu)(gr:ti)(od:tp)(args:List ae)(v:QV)(us:ud):Prop where
 ap:fV h w v.ap
 aw:fU m0 m v.aa 3 1 (co.map eI)
 ez:fU m0 m v.on 81 2 (on.map oY)
 az:fU m0 m v.be 3 1 (gr.map eI)
 bd:fU m0 m v.bh 138 2 (od.map wV)
 bf:fU m0 m v.args 68 21 (us.map QV.ag)
 apart:∀b i j,v.aa.a=some ⟨b,i,none⟩->v.be.a≠some ⟨b,j,none⟩
 fm:uV h args us
 lco:co.length<=2000000000
 lon:on.length<=2000000000
 lgr:gr.length<=2000000000
 lod:od.length<=2000000000
 lar:args.length<=2000000000
theorem fU.off{m0 s t g E E' c n}(r:fU m0 m s E sz xs)(x:cL m m' t g E' c n)(d:∀b i j,s.a=some ⟨b,i,none⟩->t.a≠some ⟨b,j,none⟩):fU m0 m' s E sz xs:=by
 refine⟨cH.br r.row (λb i e=>?_),r.f⟩;have⟨o,f⟩:=cH.cj r.row e;rw[f];exact x.ai b _ f (λj=>d b i j e)
theorem fU.ne{m0 s t E E' c f}(r:fU m0 m s E sz xs)(q:fU m0 m t E' c f)(o:E≠E'):∀b i j,s.a=some ⟨b,i,none⟩->t.a≠some ⟨b,j,none⟩:=λb i j e g=>by
 have⟨n,u⟩:=cH.cj r.row e;have⟨d,y⟩:=cH.cj q.row g
 grind
theorem fU.up{m0 s c E d}(r:fU m0 m s E sz xs)(x:cL m m' s c E sz d)(k:∀b o,m0 b=some o->m b=some o\/∃g,m b=some g):fU m0 m' c E sz d:=
 ⟨x.row,λb i e=>by
  rcases x.f b i e with f|⟨j,f⟩
  .cases n:m0 b with
   |none=>rfl
   |some o=>grind
  .exact r.f b j f⟩
def KL(m0 m:MH):=∀b o,m0 b=some o->∃c,m b=some c
theorem KL.dr{m0 s d E f}(k:KL m0 m)(x:cL m m' s d E sz f)(r:fU m0 m s E sz xs):KL m0 m':=λb o e=>by
 have⟨c,h⟩:=k b o e;exact⟨c,x.ai b c h λi g=>by rw[r.f b i g]at e;cases e⟩
theorem dl.held{m0}(k:dl m0 m cb)(c:aJ m h cb):KL m0 m:=λb o e=>by
 by_cases d:b=cb
 .have⟨cs,f⟩:=c.cj;grind
 .exact⟨o,k b o e d⟩
theorem fU.put{m0 n w}{us:ud}{t}(x:fU m0 n w 68 21 (us.map QV.ag))(B:t<us.length):∃b,w.a=some ⟨b,0,none⟩/\t<w.len/\(∃c,n b=some (.cells c 68 (0,0)))/\∃cs F,yA n b (.cells cs F (0,0))/\0+t*21+21<=cs.size/\∀u m',iZ n m' b (.cells ⟨aq cs.toList (0+t*21) (QV.ag u)⟩ F (0,0))->fU m0 m' w 68 21 ((us.set t u).map QV.ag):=by
 have d:∀u:QV,(QV.ag u).length=21:=λu=>rfl;rcases x.row.ex with⟨rfl,e⟩|⟨b,f,c,rfl,C,o,y,z,g⟩
 .have D:=congrArg List.length e;rw[length_map,length_nil]at D;omega
 .rw[length_map]at o;have A:c.toList.length=f*21:=by rw[Array.length_toList];exact z
  refine⟨b,rfl,by show t<(us.map QV.ag).length;rw[length_map];exact B,⟨c,C⟩,c,68,⟨C⟩,aC,λu m' E=>⟨⟨Gh _,.inr ⟨b,f,⟨aq c.toList (0+t*21) (QV.ag u)⟩,bu,E.y,cv,y,?_,?_⟩⟩,x.f⟩⟩
  .show(aq c.toList (0+t*21) (QV.ag u)).length=f*21;rw[qM _ _ _ (by rw[d];omega)];exact A
  .show(aq c.toList (0+t*21) (QV.ag u)).take _=_;rw[length_map,length_set,EV _ _ _ _ (by rw[d];omega) aC];rw[length_map]at g;have G:(us.map QV.ag)[t]?=some (QV.ag us[t]):=by rw[getElem?_map,sh B];rfl
   have j:=Go.Vc.dw (off:=0) (l:=QV.ag u) (Gh us).len G (by rw[d,d];omega);rw[Nat.add_zero,show aq (QV.ag us[t]) 0 (QV.ag u)=QV.ag u from rfl]at j;rw[g,Nat.zero_add,map_set];exact j
theorem fU.dv{m0 s E E' c o}(r:fU m0 m s E sz xs)(j:m b=some (.cells c E' (0,0)))(f:iZ m m' b o)(n:E≠E'):fU m0 m' s E sz xs:=
 ⟨cH.br r.row λg i e=>f.ai g λt=>by
  have⟨d,u⟩:=cH.cj r.row e
  grind,r.f⟩
section
variable{m0 m m':MH}{h h':PH}{cb:Nat}{w:ao}{co gr:ti}{on:tu}{od:tp}{args:List ae}{v:QV}{us:ud}
theorem tL.mono(x:tL m0 m h w co on gr od args v us)(le:PH.le h h'):tL m0 m h' w co on gr od args v us:=
 {x with ap:=x.ap.mono le,fm:=uV.mono le x.fm}
theorem tL.move(x:tL m0 m h w co on gr od args v us)(o:aZ m m' cb)(c:aJ m h' cb):tL m0 m' h w co on gr od args v us:=
 {x with aw:=x.aw.on o c bx,ez:=x.ez.on o c bx,az:=x.az.on o c bx,bd:=x.bd.on o c bx,bf:=x.bf.on o c bx}
theorem tL.ig(x:tL m0 m h w co on gr od args v us)(d:uP m h):cQ (kC m0 m h) (.mk v.op v.ah w co on gr od v.bg args) v:=
 ⟨rfl,rfl,x.ap.mono (mU d),⟨x.aw.ig,by have:=x.lco;omega⟩,⟨x.ez.ig,by have:=x.lon;omega⟩,⟨x.az.ig,by have:=x.lgr;omega⟩,⟨x.bd.ig,by have:=x.lod;omega⟩,rfl,by have:=x.lar;omega,us,x.bf.ig,uV.mono (mU d) x.fm⟩
theorem tL.aa(x:tL m0 m h w co on gr od args v us)(k:KL m0 m){s n}(c:cL m m' v.aa s 3 1 (co.map eI++[eI n]))(y:co.length<=1000000000):tL m0 m' h w (co++[n]) on gr od args {v with aa:=s} us/\KL m0 m':=by
 have g:∀b i j,s.a=some ⟨b,i,none⟩->v.be.a≠some ⟨b,j,none⟩:=by
  intro b i j e d;rcases c.f b i e with f|⟨t,f⟩
  .have⟨u,z⟩:=cH.cj x.az.row d
   grind
  .exact x.apart b t j f d
 exact⟨{x with aw:=by rw[sn];exact x.aw.up c (λb o e=>.inr (k b o e)),ez:=x.ez.off c (x.ez.ne x.aw bx),az:=x.az.off c (λb i j e d=>x.apart b j i d e),bd:=x.bd.off c (x.bd.ne x.aw bx),bf:=x.bf.off c (x.bf.ne x.aw bx),lco:=cv,apart:=g},k.dr c x.aw⟩
theorem tL.be(x:tL m0 m h w co on gr od args v us)(k:KL m0 m){s n}(c:cL m m' v.be s 3 1 (gr.map eI++[eI n]))(y:gr.length<=1000000000):tL m0 m' h w co on (gr++[n]) od args {v with be:=s} us/\KL m0 m':=by
 have f:∀b i j,v.aa.a=some ⟨b,i,none⟩->s.a≠some ⟨b,j,none⟩:=by
  intro b i j e g;rcases c.f b j g with d|⟨t,d⟩
  .have⟨u,z⟩:=cH.cj x.aw.row e
   grind
  .exact x.apart b i t e d
 exact⟨{x with az:=by rw[sn];exact x.az.up c (λb o e=>.inr (k b o e)),ez:=x.ez.off c (x.ez.ne x.az bx),aw:=x.aw.off c x.apart,bd:=x.bd.off c (x.bd.ne x.az bx),bf:=x.bf.off c (x.bf.ne x.az bx),lgr:=cv,apart:=f},k.dr c x.az⟩
theorem tL.onE(x:tL m0 m h w co on gr od args v us)(k:KL m0 m){s p}(c:cL m m' v.on s 81 2 (on.map oY++[oY p]))(d:on.length<=1000000000):tL m0 m' h w co (on++[p]) gr od args {v with on:=s} us/\KL m0 m':=
 ⟨{x with ez:=by rw[sn];exact x.ez.up c (λb o e=>.inr (k b o e)),aw:=x.aw.off c (x.aw.ne x.ez bx),az:=x.az.off c (x.az.ne x.ez bx),bd:=x.bd.off c (x.bd.ne x.ez bx),bf:=x.bf.off c (x.bf.ne x.ez bx),lon:=cv},k.dr c x.ez⟩
theorem tL.orderE(x:tL m0 m h w co on gr od args v us)(k:KL m0 m){s p}(c:cL m m' v.bh s 138 2 (od.map wV++[wV p]))(d:od.length<2000000000):tL m0 m' h w co on gr (od++[p]) args {v with bh:=s} us/\KL m0 m':=
 ⟨{x with bd:=by rw[sn];exact x.bd.up c (λb o e=>.inr (k b o e)),aw:=x.aw.off c (x.aw.ne x.bd bx),az:=x.az.off c (x.az.ne x.bd bx),ez:=x.ez.off c (x.ez.ne x.bd bx),bf:=x.bf.off c (x.bf.ne x.bd bx),lod:=cv},k.dr c x.bd⟩
theorem uV.cw{ps vs}(x:uV h ps vs){p u}(d:cQ h p u):uV h (ps++[p]) (vs++[u]):=by
 induction ps generalizing vs with
 |nil=>obtain rfl:vs=[]:=x;exact⟨u,[],rfl,d,rfl⟩
 |cons q ps e=>
  obtain⟨y,c,rfl,f,g⟩:=x;exact⟨y,c++[u],rfl,f,e g⟩
theorem tL.argsE(x:tL m0 m h w co on gr od args v us)(k:KL m0 m){s p u}(d:cQ h p u)(c:cL m m' v.args s 68 21 (us.map QV.ag++[QV.ag u]))(f:args.length<=1000000000):tL m0 m' h w co on gr od (args++[p]) {v with args:=s} (us++[u])/\KL m0 m':=
 ⟨{x with bf:=by rw[sn];exact x.bf.up c (λb o e=>.inr (k b o e)),aw:=x.aw.off c (x.aw.ne x.bf bx),az:=x.az.off c (x.az.ne x.bf bx),ez:=x.ez.off c (x.ez.ne x.bf bx),bd:=x.bd.off c (x.bd.ne x.bf bx),fm:=x.fm.cw d,lar:=cv},k.dr c x.bf⟩
theorem uV.set{ps vs}(x:uV h ps vs){p u}(f:cQ h p u):uV h (ps.set i p) (vs.set i u):=by
 induction ps generalizing vs i with
 |nil=>have e:vs=[]:=x;subst e;rfl
 |cons q ps g=>
  obtain⟨y,c,rfl,j,d⟩:=x;cases i with
  |zero=>exact⟨u,c,rfl,f,d⟩
  |succ i=>exact⟨y,c.set i u,rfl,j,g d⟩
theorem tL.put(x:tL m0 m h w co on gr od args v us)(k:KL m0 m)(j:i<args.length):∃b,v.args.a=some ⟨b,0,none⟩/\i<v.args.len/\∃cs F,yA m b (.cells cs F (0,0))/\0+i*21+21<=cs.size/\∀q u m',cQ h q u->iZ m m' b (.cells ⟨aq cs.toList (0+i*21) (QV.ag u)⟩ F (0,0))->tL m0 m' h w co on gr od (args.set i q) v (us.set i u)/\∀d o,m0 d=some o->m' d=m d:=by
 have⟨b,g,n,⟨y,f⟩,cs,F,z,A,B⟩:=x.bf.put (t:=i) (by rw[x.fm.length];exact j);refine⟨b,g,n,cs,F,z,A,λq u m' C c=>⟨{x with aw:=x.aw.dv f c bx,ez:=x.ez.dv f c bx,az:=x.az.dv f c bx,bd:=x.bd.dv f c bx,bf:=B u m' c,fm:=x.fm.set C,lar:=by have:=x.lar;simp;omega},λd o e=>c.ai d λD=>?_⟩⟩;rw[D,x.bf.f b 0 g]at e;cases e
theorem tL.nums(x:tL m0 m h w co on gr od args v us) a b c:tL m0 m h w co on gr od args {v with op:=a,ah:=b,bg:=c} us:={x with}
theorem tL.jx(x:tL m0 m h w co on gr od args v us){u}(c:fV h p u):tL m0 m h p co on gr od args {v with ap:=u} us:={x with ap:=c}
theorem tL.none(x:tL m0 m h w co on gr od args v us):tL m0 m h w co on gr od [] {v with args:=bS} []:=
 {x with bf:=fU.nil m0 m 68 21,fm:=rfl,lar:=by simp}
end
def Ja(q:ae):Prop:=match q with|.mk _ _ w co on gr od _ args=>Jb w/\co.length<=1000000000/\on.length<=1000000000/\gr.length<=1000000000/\od.length<=1000000000/\args.length<=1000000000/\∀a∈args,Ja a
 termination_by SizeOf.sizeOf q
theorem S4{op on args}:
 Ja (.mk op ta w co on gr od li args)↔Jb w/\co.length<=1000000000/\on.length<=1000000000/\gr.length<=1000000000/\od.length<=1000000000/\args.length<=1000000000/\∀a∈args,Ja a:=by rw[Ja.eq_def]
def bEQ(b:Bool)(m:MH)(q:ae)(c:QV)(m':MH)(h':PH):=match b,q with
 |false,q=>cQ h' q c/\m'=m
 |true,.mk op ta w co on gr od li args=>c.op=op/\c.ah=ta/\c.bg=li/\(∃us,tL m m' h' w co on gr od args c us)/\∀b o,m b=some o->m' b=some o
def cZX:AC:=λc m h K=>∃b v q,c=[aQ v]/\cQ h q v/\(b=true->Ja q)/\∀d m' h',PH.le h h'->bEQ b m q d m' h'->K (aQ d) m' h'
def aEJ(q:ae):Prop:=
 match q with
 |.mk op _ _ _ _ _ _ _ args=>(args.length:Int)=cm op/\∀a∈args,aEJ a
 termination_by SizeOf.sizeOf q
theorem Oy{op on args}:
 aEJ (.mk op ta w co on gr od li args)↔(args.length:Int)=cm op/\∀a∈args,aEJ a:=by rw[aEJ.eq_def]
theorem cOJ op:cm op<=2:=by
 grind[cm]
mutual
theorem Q3:∀(p:ae)(n:Nat),pC p n=false->HV p<=n
 |.mk _ _ _ _ _ _ _ _ args,0,h=>by simp[pC]at h
 |.mk _ _ _ _ _ _ _ _ args,n+1,h=>by
  simp only[pC]at h;have:=Og args n h
  grind[HV]
theorem Og:∀(ps:List ae)(n:Nat),uJ ps n=false->H8 ps<=n
 |[],_,_=>by simp[H8]
 |p::ps,n,h=>by
  simp only[uJ,Bool.or_eq_false_iff]at h;have c:=Q3 p n h.1;have d:=Og ps n h.2
  grind[H8]
end
def Fat q:=24<oU q\/8<HV q\/¬aEJ q
def QS q c:=aEJ q->Pa c<=Pa q\/Fat c
def dXX(N:Nat):AC:=λc m h K=>∃cb v q,c=[cP cb,aQ v]/\aJ m h cb/\cQ h q v/\Ja q/\SizeOf.sizeOf q<N/\∀d e m' h',PH.le h h'->cQ h' d e->QS q d->aZ m m' cb->aJ m' h' cb->K (aQ e) m' h'
def dXZ:AC:=λc m h K=>∃cb v q,c=[cP cb,aQ v]/\aJ m h cb/\cQ h q v/\Ja q/\∀d e m' h',PH.le h h'->cQ h' d e->QS q d->aZ m m' cb->aJ m' h' cb->K (aQ e) m' h'
def cqX(v:QV):=
 tH [(106,Un),(64,cZZ)] [(9,{A:=Nat×QV×MH×PH,st:=λ⟨i,w,m,h⟩=>bO 46 47 [SW 1,SW 2,SW 3,(29,iv v.args.len),(30,iv i)] [UV 1 68 v.ag,UV 2 68 oJ.ag,UV 3 68 w.ag] m h})] [] [] [1031,1064,1065,1066] [] false
def dmX N cb:=
 tH [(13,ES),(20,FZ),(64,cZX),(33,YD),(65,dYQ),(34,dXX N)] [(25,{A:=Nat×QV×MH×PH,st:=λ⟨i,w,m,h⟩=>bO 139 141 [(0,pv cb),SW 3,SW 4,(6,iv i)] [UV 3 68 w.ag,UV 4 68 oJ.ag] m h}),
  (36,{A:=Nat×QV×MH×PH,st:=λ⟨i,w,m,h⟩=>bO 139 141 [SW 3,SW 4,(7,iv i)] [UV 3 68 w.ag,UV 4 68 oJ.ag] m h}),
  (8,{A:=Nat×QV×MH×PH,st:=λ⟨i,w,m,h⟩=>bO 139 141 [SW 3,SW 4,(8,iv i)] [UV 3 68 w.ag,UV 4 68 oJ.ag] m h})] [(6,{A:=QV×MH×PH,st:=λ⟨w,m,h⟩=>bO 139 141 [(0,pv cb),SW 3,SW 4] [UV 3 68 w.ag,UV 4 68 oJ.ag] m h}),
  (5,{A:=QV×MH×PH,po:=true,st:=λ⟨w,m,h⟩=>bO 139 141 [SW 3,SW 4] [UV 3 68 w.ag,UV 4 68 oJ.ag] m h}),
  (36,{A:=Nat×QV×MH×PH,po:=true,st:=λ⟨i,w,m,h⟩=>bO 139 141 [SW 3,SW 4,(7,iv i)] [UV 3 68 w.ag,UV 4 68 oJ.ag] m h}),
  (8,{A:=Nat×QV×MH×PH,po:=true,st:=λ⟨i,w,m,h⟩=>bO 139 141 [SW 3,SW 4,(8,iv i)] [UV 3 68 w.ag,UV 4 68 oJ.ag] m h}),
  (39,{A:=QV×MH×PH,po:=true,st:=λ⟨w,m,h⟩=>bO 139 141 [SW 3,SW 4] [UV 3 68 w.ag,UV 4 68 oJ.ag] m h})] [] [1031,1064,1065,1066,100136,100045] [] false
abbrev Nz(a:(Nat×QV×MH×PH->Prop)->(Nat×QV×MH×PH)->Prop)(b:(Nat×QV×MH×PH->Prop)->(Nat×QV×MH×PH->Nat)->(Nat×QV×MH×PH)->Prop):=∃x d,(∃c,a x c)/\∀c,b x d c
abbrev sJ(a:Nat×QV×MH×PH):=a.2.2
abbrev qI(a:Nat×QV×MH×PH):=a.2.2.1
abbrev oZ(a:Nat×QV×MH×PH):=gH a.2
abbrev wI(a:Nat×QV×MH×PH):=a.2.1
abbrev wZ(a:QV×MH×PH->Prop)(b:QV×MH×PH)(c:Prop)(d:Nat->Option Obj)(e:Nat->Nat->Option Value):=a b/\cR/\eZ/\c/\eV gP (wA d e b.2.1 (gH b))
abbrev DY(a:Nat->Option Obj)(b:Nat->Nat->Option Value)(c:(QV×MH×PH)->Prop):=uP a b->∃x,c x
abbrev Hw(a:QV×MH×PH):=j9 (rZ a.1) a.1.args
abbrev Fc(a:Nat)(b:MH)(c:PH)(d:Int->MH->(List tm)->Prop):=xC a b c (λx f=>∀e,aZ b e x->aJ e c x->∃g,d f e g)
attribute [push_cast] Nz sJ qI oZ wI wZ DY Hw Fc
def Pm(v:QV):ST:=λm h K=>JL (nN (oK v.ap) EO) h (λp S F=>∀d,cO h d (fV d (sW S p) F) (∃x,tG (cH m jT 3 1 x) (λy=>dA 1 y/\mH m d (bK v.aa) 1 y/\lK x y 8/\cJ (lL x y)/\fY (λs t=>cL m t jT s 3 1 (x++y)->∃u,tG (cH t jT 81 2 u) (λf=>dA 2 f/\mH t d (bK v.on) 2 f/\lK u f 16/\cJ (lL u f)/\fY (λG z=>cL t z jT G 81 2 (u++f)->∃A,tG (cH z jT 3 1 A) (λg=>dA 1 g/\mH z d (bK v.be) 1 g/\lK A g 8/\cJ (lL A g)/\fY (λH B=>cL z B jT H 3 1 (A++g)->∃C,tG (cH B jT 138 2 C) (λj=>dA 2 j/\mH
 B d (bK v.bh) 2 j/\lK C j 16/\cJ (lL C j)/\fY (λJ L=>cL B L jT J 138 2 (C++j)->Nz (λI c=>I c/\gY/\eP 2/\cR/\rQ v/\bB c.1/\eJ v/\gP/\kO (mS (jX v.op::pU v::pQ F (rF s::rF G::rF H::rF J::[rZ v,Db])) c.2) (fX L (sJ c)) (dH d (sJ c))) (λI M c=>I c->aX c.1 (aF v.args) (aM (λb o=>aR v.args.a b o/\0<=(↑c.1:Int)/\c.1<aF v.args/\∃D,aK (qI c) (oZ c) b (bI o c.1 21) D.ag/\mQ (λO q=>eO (i7 D) (i7 O)/\cQ (oZ c) q O/\∀P n,cO (oZ c) n (cQ n q P) (uF (aK (qI c) n b (bI o c.1 21) D.ag) (bJ n b (bI o
 c.1 21) D.ag) (λE=>cH (qI c) (bK (wI c).args) 68 21 E/\cJ (fS E 1*280)/\fA E/\fY (λQ R=>cL (qI c) R (bK (wI c).args) Q 68 21 (hZ E P.ag)->∃e,RP (I e) (M e) (M c) v c.1 e.1 (mP gP (mS (qQ (wI c) (rF Q)) e.2) (fX R (sJ e)) (dH n (sJ e))))))))) (K (mX (wI c).ag) (qI c) (oZ c)))))))))))))
def akX(N cb:Nat)(v:QV):ST:=λm h K=>∃b,mQ (λP q=>eO (i7 v) (i7 P)/\cQ h q P/\(mZ b->Ja q)/\∀B,iK (λG z=>cO h z (bEQ b m q B G z) (M3 (λI=>eH (aF B.args) 0 (lD cb 2 G z (λc r=>∀g,aZ G g c->aJ g z c->branch r (iN cb (aF B.args) g z (λk f=>M3 (λI1=>RQ B k (λH o y=>aK f z H (dN o k 21) y.ag/\∃J,mQ (λC D=>bL (jN cb) y.ag=bL (jN J) C.ag/\aJ f z J/\cQ z D C/\Ja D/\pR D N/\∀Q F,iK (λt u=>cO z u (cQ u Q F) (QS D Q->aZ f t J->rD t u J (aM (λL M=>aR B.args.a L M/\0<=k/\k<aF B.args/\i6 (λO E=>yA t L (gU O E 0)/\dN M k 21+21<=O.size/\∀ (A:MH),cF t A L (rC O (dN M k 21) F.ag) E->uP A u->∃x,wZ I1 x (C6 B=rY x) A u)))))))) (λx=>K (mX x.1.ag) x.2.1 (gH x)))) (∃x,I x/\cK cb/\eP 3/\eZ/\C6 B=rY x/\gP/\fX g x.2/\dH z x.2/\True))) (∃x,I x/\cK cb/\eP 3/\eZ/\C6 B=rY x/\gP/\fX G x.2/\dH z x.2/\True)) (λx=>M3 (λI=>iN cb 12 x.2.1 (gH x) (λk g=>let W:=zB (wP x.1) x.1.on x.1 (zE x.1) (Hw x);let X:=wM 1 0 (nP (EN::pN::bD 0 0 (pW 0::EN::C2 HK)));dJ (k==0) (xC cb g (gH x) (λc n=>∀f,aZ g f c->aJ f (gH x) c->DY f (gH x) (λd=>wZ I d (mS (jX n::pU x.1::vD x.1 W) d) f (gH x)))) (k==1) (xC cb g (gH x) (λc n=>∀f,aZ g f c->aJ f (gH x) c->DY f (gH x) (λd=>wZ I d (mS (jX x.1.op::jX n::vD x.1 W) d) f (gH x)))) (dJ (k==2) (∃c,Eu (λC p=>bL (jN cb) x.1.ap.ag=bL (jN c) C.ag/\aJ g (gH x) c/\fV (gH x) p C/\Jb p/\∀S F,iK (λf u=>cO (gH x) u (fV u S F) (aZ g f c->aJ f u c->DY f u (λd=>wZ I d (mS (jX x.1.op::pU x.1::pQ F W) d) f u))))) (k==3) (Fc cb g (gH x) (λn f d=>cH f (bK x.1.aa) 3 1 d/\cJ (fS d 1*8)/\fA d/\∀s t,cL f t (bK x.1.aa) s 3 1 (hZ d (bV n))->uP t (gH x)->∃e,wZ I e (mS (jX x.1.op::pU x.1::vD x.1 (zB (rF s) x.1.on x.1 (zE x.1) (Hw x))) e) t (gH x))) (dJ (k==4) (xC cb g (gH x) (λc n=>∀f,aZ g f c->aJ f (gH x) c->Fc cb f (gH x) (λT t d=>cH t (bK x.1.on) 81 2 d/\cJ (fS d 1*16)/\fA d/\∀s A,cL t A (bK x.1.on) s 81 2 (hZ d (bD n T []))->uP A (gH x)->∃e,wZ I e (mS (jX x.1.op::pU x.1::vD x.1 (zB (wP x.1) s x.1 (zE x.1) (Hw x))) e) A (gH x)))) (k==5) (Fc cb g (gH x) (λn f d=>cH f (bK x.1.be) 3 1 d/\cJ (fS d 1*8)/\fA d/\∀ (s:Sl)(t:MH),cL f t (bK x.1.be) s 3 1 (hZ d (bV n))->uP t (gH x)->∃e,wZ I e (mS (jX x.1.op::pU x.1::vD x.1 (wP x.1::rF x.1.on::rF s::zE x.1::Hw x)) e) t (gH x))) (dJ (k==6) (iN cb 2 g (gH x) (λU f=>Nz (λI1 d=>I1 d/\cK cb/\eP 3/\eZ/\fI (j6 1 (Uu (12*U)))=bR d.1/\rY x=rY d.2/\gP/\fX f (sJ d)/\fQ (gH x) (sJ d)) (λI1 t d=>I1 d->eH d.1 0 (Fc cb (qI d) (oZ d) (λn A e=>cH A (bK (wI d).bh) 138 2 e/\cJ (fS e 1*16)/\fA e/\fY (λs R=>cL A R (bK (wI d).bh) s 138 2 (hZ e (BH n uG))->∃j,I1 j/\t j<t d/\cK cb/\cR/\eZ/\fI (jZ d.1)=bR j.1/\mS (jX (wI d).op::pU (wI d)::vD (wI d) (zB (wP (wI d)) (wI d).on (wI d) (rF s) (j9 (rZ (wI d)) (wI d).args))) j.2/\gP/\eV (fX R (sJ j)) (dH (oZ d) (sJ j))))) (DY (qI d) (oZ d) (λe=>wZ I e (rY d.2=rY e) (qI d) (oZ d)))))) (k==7) (xC cb g (gH x) (λc n=>∀f,aZ g f c->aJ f (gH x) c->DY f (gH x) (λd=>wZ I d (mS (jX x.1.op::pU x.1::vD x.1 (zB (wP x.1) x.1.on x.1 (zE x.1) (j9 (jX n) x.1.args))) d) f (gH x)))) (dJ (k==8) (∃d,cH g (bK x.1.args) 68 21 d/\cJ (fS d 1*280)/\fA d/\∀s f,cL g f (bK x.1.args) s 68 21 (hZ d X)->uP f (gH x)->∃e,wZ I e (mS (qQ x.1 (rF s)) e) f (gH x)) (k==9) (DY g (gH x) (λd=>wZ I d (mS (qQ x.1 Db) d) g (gH x))) (dP k 10 (∃I1:Nat×QV×MH×PH->Prop,(uP g (gH x)->∃d,I1 d/\cR/\eZ/\bB d.1/\kO (rY x=rY d.2) gP (wA g (gH x) (qI d) (oZ d)))/\∀d,I1 d->Nz (λI2 e=>I2 e/\cR/\eP 4/\bP d.1 e.1/\rY d.2=rY e.2/\gP/\fX (qI d) (sJ e)/\dH (oZ d) (sJ e)/\True) (λI2 f e=>I2 e ->aX e.1 8 (bN (oZ e) 21 ((wI e).ag::[X]) (λs u=>∃j,I2 j/\f j<f e/\cR/\eZ/\fI (bA e.1 1)=bR j.1/\mS (Cv 6 Db Db s) j.2/\gP/\fX (qI e) (sJ j)/\fQ u (sJ j))) (DY (qI e) (oZ e) (λj=>wZ I j (rY e.2=rY j) (qI e) (oZ e))))) (∃I1:Nat×QV×MH×PH->Prop,(uP g (gH x)->∃d,I1 d/\cR/\eZ/\bB d.1/\kO (rY x=rY d.2) gP (wA g (gH x) (qI d) (oZ d)))/\∀d,I1 d->Nz (λI2 e=>I2 e/\cR/\eP 4/\bP d.1 e.1/\rY d.2=rY e.2/\gP/\fX (qI d) (sJ e)/\dH (oZ d) (sJ e)/\True) (λI2 f e=>I2 e->aX e.1 4 (∃H,mQ (λC D=>eO (i7 (wI e)) (i7 C)/\cQ (oZ e) D C/\(mZ H->Ja D)/\∀F,iK (λt u=>cO (oZ e) u (bEQ H (qI e) D F t u) (bN u 21 ((wI e).ag::[F.ag]) (λs V=>∃j,I2 j/\f j<f e/\cR/\eZ/\fI (bA e.1 1)=bR j.1/\mS (Cv 6 Db Db s) j.2/\gP/\fX t (sJ j)/\fQ V (sJ j)))))) (DY (qI e) (oZ e) (λj=>wZ I j (rY e.2=rY j) (qI e) (oZ e)))))))))))) (λd=>K (mX d.1.ag) d.2.1 (gH d))))))
def Kp(m m':MH):=∀b o,m b=some o->m' b=some o
theorem Kp.held(k:Kp m m'):KL m m':=λb o e=>⟨o,k b o e⟩
theorem Kp.dr{c s d E f}(k:Kp m c)(x:cL c m' s d E sz f)(r:fU m c s E sz xs):Kp m m':=λb o e=>x.ai b o (k b o e) λi g=>by rw[r.f b i g]at e;cases e
theorem diX{op on args}(x:pV h op ta w co on gr od li args v)(hl:Ja (.mk op ta w co on gr od li args))(hK:∀f us m' h',PH.le h h'->f.op=op->f.ah=ta->f.bg=li->tL m m' h' w co on gr od args f us->(∀b o,m b=some o->m' b=some o)->K (aQ f) m' h'):Pm v m h K:=by
 dsimp only[Pm,push_cast];have⟨_,l1,l2,l3,l4,l5,_⟩:=S4.1 hl;have Q:=x.bf.e;refine⟨v.ap,⟨none,0,0⟩,w,[],rfl,x.ap,.nil _ _ _ _,λwv R c hw=>⟨[],cH.nil _ _ _,_,lZ co,.ay (x.aw.mono c).row,cv,cv,λs1 m1 S=>⟨[],cH.nil _ _ _,_,Dl on,.ay (x.ez.mono c).row,cv,cv,λs2 m2 L=>⟨[],cH.nil _ _ _,_,lZ gr,.ay (x.az.mono c).row,cv,cv,λs3 m3 B=>⟨[],cH.nil _ _ _,_,Dk od,.ay (x.bd.mono c).row,cv,cv,λs4 M C=>?_⟩⟩⟩⟩⟩;rw[KD]at hw;rw[nil_append]at S L B C;have D:Kp m m:=λ_ _ e=>e;have k1:Kp m m1:=D.dr S (fU.nil m m 3 1);have k2:Kp m m2:=k1.dr L (fU.nil m m1 81 2);have k3:Kp m m3:=k2.dr B (fU.nil m m2 3 1);have k4:Kp m M:=k3.dr C (fU.nil m m3 138 2);have up:∀{n F:MH}{s:Sl}{E:TypeId}{sz:Nat}{O:List tm},Kp m n->cL n F bS s E sz O->fU m F s E sz O:=λk g=>(fU.nil m _ _ _).up g λb o e=>.inr (k.held b o e);have of:∀{n F:MH}{s t:Sl}{E E':TypeId}{sz T:Nat}{xs O:List tm},fU m n s E sz xs->cL n F bS t E' T O->fU m F s E sz xs:=λr g=>r.off g λ_ _ _ _ e=>by cases e
 have c1:=up D S;have c2:=of c1 L
 have G:tL m M R w co on gr od [] ⟨v.op,v.ah,wv,s1,s2,s3,s4,v.bg,bS⟩ []:=
  {ap:=hw,aw:=of (of c2 B) C,ez:=of (of (up k1 L) B) C,az:=of (up k2 B) C,bd:=up k3 C,bf:=fU.nil m M 68 21,fm:=rfl,lco:=aC,lon:=aC,lgr:=aC,lod:=aC,lar:=bu,
   apart:=λb i j e H=>(by
    have⟨a',h2⟩:=cH.cj c2.row e;rcases B.f b j H with h3|⟨_,h3⟩
    .grind
    .cases h3)}
 refine⟨λz=>z.1<=args.length/\∃us,tL m z.2.2.1 z.2.2.2 w co on gr od (args.take z.1) z.2.1 us/\Kp m z.2.2.1/\PH.le R z.2.2.2/\z.2.1.op=op/\z.2.1.ah=ta/\z.2.1.bg=li,λz=>args.length-z.1,⟨(0,_,M,R),⟨bu,[],G,k4,.refl _,x.jp,x.dd,x.dm⟩,MT⟩,?_⟩;rintro⟨i,u,n,hx⟩⟨hi,us,A,P,fa,U,H,V⟩;dsimp only at hi A P fa U H V⊢
 have W:=A.fm.length;rw[length_take]at W;refine aE (λI=>?_) (λa0=>?_)
 .have⟨q,hq⟩:=eF Q I;have a1:=(sg hq);have⟨b1,o1,y,ey,X,Y⟩:=(x.bf.mono (c.trans fa)).at hq;refine⟨b1,o1,ey,aC,I,y,.ay X,y,q,rfl,Y,λf h' d Z=>⟨.ay (X.mono d),X.mono d,us.map QV.ag,A.bf.row,da,da,λs' m' hg=>?_⟩⟩;rw[fH aC];have J:=(A.mono d).argsE P.held Z hg cv;rw[show args.take i++[q]=args.take (i+1)by grind[sy]]at J;exact⟨(i+1,{u with args:=s'},m',h'),⟨aC,us++[f],J.1,P.dr hg A.bf,fa.trans d,U,H,V⟩,aC,MT⟩
 .rw[sm aC]at A;exact hK u us n hx (c.trans fa) U H V A P
theorem aNJ:uz 64 cZX:=by
 have n:uz 64 (λc m h K=>∃v q,c=[aQ v]/\cQ h q v/\Ja q/\∀d m' h',PH.le h h'->bEQ true m q d m' h'->K (aQ d) m' h'):=by
  refine gV func64 ?_;rintro c m h K⟨v,q,rfl,f,j,g⟩;obtain⟨op,ta,w,co,on,gr,od,li,args⟩:=q;refine⟨cqX v,rfl,aD HR (aD Vp aG),Pm v,bt,?_⟩;exact diX f.parts j λd us m' h' le u y z A k=>g d m' h' le ⟨u,y,z,⟨us,A⟩,k⟩
 refine⟨n.1,λc o m h w K B t=>?_⟩;obtain⟨b,v,q,e,f,j,g⟩:=B;cases b with
 |true=>exact n.2 c o m h w K ⟨v,q,e,f,j rfl,g⟩ t
 |false=>exact Vp.2 c o m h w K ⟨v,q,e,f,λd h' le r=>g d m h' le ⟨r,rfl⟩⟩ t
theorem Tf m h:wA m h m h:=⟨λ_ _ e=>e,.refl _,λ_ _ _ e=>.inl e⟩
theorem ZG{p w u s}(c:cQ h q w)(d:cQ h p u)(le:PH.le h h')(rs:bT h' s 21 [QV.ag w,QV.ag u]):cQ h' (.mk 6 0 jU [] [] [] [] 0 [q,p]) ⟨6,0,iD,bS,bS,bS,bS,0,s⟩:=
 ⟨rfl,rfl,⟨rfl,rfl,rfl,rfl,bu,[],bT.nil _ _,rfl⟩,⟨bT.nil _ _,bu⟩,⟨bT.nil _ _,bu⟩,⟨bT.nil _ _,bu⟩,⟨bT.nil _ _,bu⟩,rfl,bu,[w,u],rs,w,[u],rfl,c.mono le,u,[],rfl,d.mono le,rfl⟩
def SpA Q op args:=aEJ Q->max 1 (D9 args)<=Pa Q\/∀t w co on gr od l,Fat (.mk op t w co on gr od l args)
theorem SpA.qs{Q op t l on args}(x:SpA Q op args):QS Q (.mk op t w co on gr od l args):=
 λe=>(x e).imp (λh=>by rw[Pa];exact h) (λh=>h _ _ _ _ _ _ _)
theorem P4:∀{l:List ae}{q:ae},q∈l->oU q<=uL l/\HV q<=H8 l/\Pa q<=D9 l
 |p::l,q,h=>by
  simp only[uL,H8,D9];rcases mem_cons.1 h with rfl|h
  .omega
  .have:=P4 h;omega
theorem brX:∀{l:List ae}{k:Nat}{a b:ae},l[k]?=some a->Pa b<=Pa a->D9 (l.set k b)<=D9 l
 |p::l,0,a,b,h,c=>by
  grind[D9,getElem?_cons_zero,ss]
 |p::l,k+1,a,b,h,c=>by
  simp only[getElem?_cons_succ]at h;have:=brX h c
  grind[D9]
theorem dKQ{op d on args k a c}(g:args[k]?=some a)(h:QS a c):SpA (.mk op ta w co on gr od li args) d (args.set k c):=λe=>by
 have n:=(sg g);have j:c∈args.set k c:=si (getElem?_set_self n);rcases h ((Oy.1 e).2 a (si g))with f|f|f|f
 .grind[Pa,brX]
 .right;intro t w co on gr od l;left;have:=(P4 j).1;grind[oU]
 .right;intro t w co on gr od l;right;left;have:=(P4 j).2.1;grind[HV]
 .right;intro t w co on gr od l;right;grind[Oy]
theorem dKX{op on args c}:SpA (.mk op ta w co on gr od li args) op (args++[c]):=λe=>.inr λt w co on gr od l=>.inr (.inr λg=>by
 grind[Oy,sj,length_singleton])
theorem bqX q p:oU (.mk 6 0 jU [] [] [] [] 0 [q,p])=1+(oU q+oU p)/\HV q+1<=HV (.mk 6 0 jU [] [] [] [] 0 [q,p]):=by
 grind[oU,uL,HV,H8]
theorem bpZ q:1<=oU q/\1<=HV q:=by cases q;grind[oU,HV]
theorem bwX:∀N,uz 34 (dXX N)
 |0=>by
  refine gV func34 ?_;rintro a2 m h K⟨cb,v,q,rfl,_,_,_,hN,_⟩;omega
 |N+1=>by
  refine gV func34 ?_;rintro a2 m h K⟨cb,v,q,rfl,hc,hr,hl,hN,hK⟩;refine⟨dmX N cb,rfl,aD EP (aD qR (aD aNJ (aD Po (aD bZJ (aD (bwX N) aG))))),akX N cb v,bt,?_⟩;dsimp only[akX,push_cast];have X:=@vV q;obtain⟨Q0,hQ⟩:∃Q0,q=Q0:=⟨_,rfl⟩
  rw[hQ]at hK;obtain⟨op,ta,w,co,on,gr,od,li,args⟩:=q;have y:∀o,SpA Q0 o args:=λo _=>.inl (by grind[Pa]);have⟨lw,l1,l2,l3,l4,l5,lq⟩:=S4.1 hl;refine⟨true,v,_,rfl,hr,λ_=>hl,λA m1 j C O=>?_⟩;obtain⟨e1,e2,e3,⟨us,hn⟩,kp⟩:=O;have⟨a9,a1⟩:=hc.cj;have a3:m cb≠none:=by rw[a1];simp
  have c1:aJ m1 j cb:=hc.br da C;have k1:dl m m1 cb:=λb o e _=>kp b o e;have b0:=hn.fm.length;have b1:A.args.len=args.length:=by have:=cH.e hn.bf.row;simp at this;omega
  have du:∀{D:MH}{H:PH}{w:ao}{co gr:ti}{on:tu}{od:tp}{args:List ae}{u:QV}{us:ud},tL m D H w co on gr od args u us->SpA Q0 u.op args->dl m D cb->aJ D H cb->PH.le h H->uP D H->(∃f,cQ (kC m D H) f u/\QS Q0 f)/\aZ m (iX m D) cb/\aJ (iX m D) (kC m D H) cb/\PH.le h (kC m D H):=λx sp k c le d=>⟨⟨_,x.ig d,sp.qs⟩,gv k,Kd c a3 d,le.trans (mU d)⟩
  refine⟨λz=>A=z.1/\j=z.2.2/\tL m z.2.1 j w co on gr od args A us/\dl m z.2.1 cb/\aJ z.2.1 j cb,aE (λY=>⟨cb,2,rfl,aC,aC,c1,λr m2 o2 Z=>aB (λ_=>?_) (λ_=>⟨(A,m2,j),⟨rfl,rfl,hn.move o2 c1,k1.on o2,Z⟩,MT⟩)⟩) (λ_=>⟨(A,m1,j),⟨rfl,rfl,hn,k1,c1⟩,MT⟩),?_⟩
  .have n2:=hn.move o2 c1;have U:=k1.on o2;refine⟨cb,_,rfl,Z,λk V k0 kn o3 G=>?_⟩;have J:=n2.move o3 Z;have M:=U.on o3;have hk:k.toNat<args.length:=by omega
   obtain⟨a,ha⟩:∃a,args[k.toNat]?=some a:=⟨_,sh hk⟩
   have hm:=si ha;have:=X (q:=a) hm;have⟨u,hu,ru⟩:=J.fm.get ha;have⟨b,eb,rd⟩:=cH.rd (h:=j) J.bf.row (i:=k.toNat) (e:=QV.ag u) da;refine⟨λz=>(∃f,cQ z.2.2 f z.1/\QS Q0 f)/\aZ m z.2.1 cb/\aJ z.2.1 z.2.2 cb/\PH.le h z.2.2,⟨b,0,eb,k0,aC,u,da,cb,u,a,rfl,G,ru,lq a hm,aC,λf v' g h4 t r4 b3 B E=>?_⟩,?_⟩
   .have P:=(J.mono t).move B G;have W:=M.on B;have⟨b2,a4,a8,cs,F,ma,a5,put⟩:=P.put (W.held E) (i:=k.toNat) hk;refine⟨b2,0,a4,k0,aC,cs,F,ma,a5,λQ hu d=>?_⟩;have⟨R,S⟩:=put f v' Q r4 hu;exact⟨(A,iX m Q,kC m Q h4),du R (by grind[dKQ]) (λb' o e ne=>by rw[S b' o e];exact W b' o e ne) (E.br (S cb _ a1) (.refl _)) (C.trans t) d,FT⟩
   .rintro⟨u,D,H⟩⟨⟨f,L,nq⟩,o,c,le⟩;exact hK f u D H le L nq o c
  .rintro⟨_,m2,_⟩⟨rfl,rfl,n2,U,Z⟩;dsimp only at n2 U Z⊢
   refine⟨λz=>(∃f,cQ z.2.2 f z.1/\QS Q0 f)/\aZ m z.2.1 cb/\aJ z.2.1 z.2.2 cb/\PH.le h z.2.2,⟨cb,12,rfl,Z,λk V k0 kn o3 G=>?_⟩,?_⟩
   .have J:=n2.move o3 Z;have M:=U.on o3;have a':∀(a b c:Int){g:MH}(_:aZ V g cb)(_:aJ g j cb)(d:uP g j),(∃f,cQ (kC m g j) f {A with op:=a,ah:=b,bg:=c}/\QS Q0 f)/\aZ m (iX m g) cb/\aJ (iX m g) (kC m g j) cb/\PH.le h (kC m g j):=λa b c _ B E d=>du ((J.move B G).nums a b c) (y _) (M.on B) E C d;refine aB (λ_=>⟨cb,rfl,G,λn g B E d=>⟨({A with op:=n},iX m g,kC m g j),a' n A.ah A.bg B E d,FT⟩⟩) (λ_=>?_);refine aB (λ_=>⟨cb,rfl,G,λn g B E d=>⟨({A with ah:=n},iX m g,kC m g j),a' A.op n A.bg B E d,FT⟩⟩) (λ_=>?_);refine aB (λ_=>⟨cb,A.ap,w,rfl,G,J.ap,lw,λp' w' g h4 t r4 B E d=>⟨({A with ap:=w'},iX m g,kC m g h4),du (((J.mono t).move B G).jx r4) (y _) (M.on B) E (C.trans t) d,FT⟩⟩) (λ_=>?_);refine aB (λ_=>⟨cb,rfl,G,λn g B E=>?_⟩) (λ_=>?_)
    .have P:=J.move B G;have W:=M.on B;exact⟨_,P.aw.row,cv,cv,λs Q I d=>⟨({A with aa:=s},iX m Q,kC m Q j),du (P.aa (W.held E) I l1).1 (y _) (W.dr P.aw I) (E.br (cL.fh I P.aw E bx) (.refl _)) C d,FT⟩⟩
    refine aB (λ_=>⟨cb,rfl,G,λn g B E=>⟨cb,rfl,E,λn2 Q o5 c5=>?_⟩⟩) (λ_=>?_)
    .have R:=(J.move B G).move o5 E;have k5:=(M.on B).on o5;exact⟨_,R.ez.row,cv,cv,λs m6 I d=>⟨({A with on:=s},iX m m6,kC m m6 j),du (R.onE (p:=(n,n2)) (k5.held c5) I l2).1 (y _) (k5.dr R.ez I) (c5.br (cL.fh I R.ez c5 bx) (.refl _)) C d,FT⟩⟩
    refine aB (λ_=>⟨cb,rfl,G,λn g B E=>?_⟩) (λ_=>?_)
    .have P:=J.move B G;have W:=M.on B;exact⟨_,P.az.row,cv,cv,λs Q I d=>⟨({A with be:=s},iX m Q,kC m Q j),du (P.be (W.held E) I l3).1 (y _) (W.dr P.az I) (E.br (cL.fh I P.az E bx) (.refl _)) C d,FT⟩⟩
    refine aB (λ_=>⟨cb,2,rfl,G,λU g k0 kn B E=>?_⟩) (λ_=>?_)
    .have ek:IntKind.i64.wrap (1+IntKind.i64.wrap (12*U))=(((1+12*U).toNat:Nat):Int):=by
      grind[dW]
     rw[ek];refine⟨λz=>z.1<=13/\j=z.2.2.2/\∃T,tL m z.2.2.1 j w co on gr T args z.2.1 us/\dl m z.2.2.1 cb/\aJ z.2.2.1 j cb/\T.length+z.1<=1000000013,λz=>z.1,⟨((1+12*U).toNat,A,g,j),⟨aC,rfl,od,J.move B G,M.on B,E,aC⟩,MT⟩,?_⟩;rintro⟨i,u,D,_⟩⟨hi,rfl,T,nx,kx,cx,a6⟩;dsimp only at hi nx kx cx a6⊢
     refine aE (λY=>⟨cb,rfl,cx,λn Q o5 c5=>?_⟩) (λ_ d=>⟨(u,iX m D,kC m D j),du nx (y _) kx cx C d,FT⟩);have R:=nx.move o5 cx;have k5:=kx.on o5
     have hw:IntKind.i64.wrap ((i:Int)-1)=((i-1:Nat):Int):=by
      grind[dW]
     rw[hw];refine⟨_,R.bd.row,cv,cv,λs m6 I=>⟨(i-1,{u with bh:=s},m6,j),⟨aC,rfl,T++[(n,false)],(R.orderE (p:=(n,false)) (k5.held c5) I aC).1,k5.dr R.bd I,c5.br (cL.fh I R.bd c5 bx) (.refl _),cv⟩,aC,MT⟩⟩
    refine aB (λ_=>⟨cb,rfl,G,λn g B E d=>⟨({A with bg:=n},iX m g,kC m g j),a' A.op A.ah n B E d,FT⟩⟩) (λ_=>?_);refine aB (λ_=>?_) (λ_=>?_)
    .exact⟨_,J.bf.row,cv,cv,λs g I d=>⟨({A with args:=s},iX m g,kC m g j),du (J.argsE (u:=⟨1,0,iD,bS,bS,bS,bS,0,bS⟩) (M.held G) (zT j 0) I l5).1 (by grind[dKX]) (M.dr J.bf I) (G.br (cL.fh I J.bf G bx) (.refl _)) C d,FT⟩⟩
    refine aB (λ_ d=>⟨({A with args:=bS},iX m V,kC m V j),du J.none (λ_=>.inl (by grind[D9,SU])) M G C d,FT⟩) (λ_=>?_);refine aB (λ_=>?_) (λ_=>?_)
    .refine⟨λz=>z.1=0/\(∃f,cQ z.2.2.2 f z.2.1/\QS Q0 f)/\aZ m z.2.2.1 cb/\aJ z.2.2.1 z.2.2.2 cb/\PH.le h z.2.2.2,λd=>⟨(0,A,iX m V,kC m V j),⟨rfl,du J (y _) M G C d⟩,FT⟩,?_⟩;rintro⟨_,u,D,H⟩⟨rfl,L,o,c,le⟩;refine⟨λz=>z.1<=8/\(∃f,cQ z.2.2.2 f z.2.1/\z.1+1<=HV f)/\aZ m z.2.2.1 cb/\aJ z.2.2.1 z.2.2.2 cb/\PH.le h z.2.2.2,λz=>8-z.1,⟨(0,u,D,H),⟨bu,L.elim λf e=>⟨f,e.1,by simp_all[bpZ]⟩,o,c,le⟩,MT⟩,?_⟩;rintro⟨i,u,D,H⟩⟨hi,⟨f,L,sz⟩,o,c,le⟩;dsimp only at hi L sz o c le⊢
     refine aE (λY=>λs h4 t rs=>?_) (λa7 d=>⟨(u,D,H),⟨⟨f,L,λ_=>.inr (.inr (.inl aC))⟩,o,c,le⟩,by simp_all[Tf]⟩);rw[fH aC];exact⟨(i+1,_,D,h4),⟨aC,⟨_,ZG L (zT H 0) t rs,by grind[mk,jU,HV,bqX]⟩,o,c.mono t,le.trans t⟩,aC,MT⟩
    .refine⟨λz=>z.1=0/\(∃f,cQ z.2.2.2 f z.2.1/\QS Q0 f)/\aZ m z.2.2.1 cb/\aJ z.2.2.1 z.2.2.2 cb/\PH.le h z.2.2.2,λd=>⟨(0,A,iX m V,kC m V j),⟨rfl,du J (y _) M G C d⟩,FT⟩,?_⟩;rintro⟨_,u,D,H⟩⟨rfl,L,o,c,le⟩;refine⟨λz=>z.1<=4/\(∃f,cQ z.2.2.2 f z.2.1/\2^(z.1+1)<=oU f+1)/\aZ m z.2.2.1 cb/\aJ z.2.2.1 z.2.2.2 cb/\PH.le h z.2.2.2,λz=>4-z.1,⟨(0,u,D,H),⟨bu,L.elim λf e=>⟨f,e.1,by grind[oU,bpZ]⟩,o,c,le⟩,MT⟩,?_⟩;rintro⟨i,u,D,H⟩⟨hi,⟨f,L,sz⟩,o,c,le⟩;dsimp only at hi L sz o c le⊢
     refine aE (λY=>⟨false,u,f,rfl,L,λe=>(by cases e),λv2 g h3 a0 O s h4 t rs=>?_⟩) (λa7 d=>⟨(u,D,H),⟨⟨f,L,λ_=>.inr (.inl da)⟩,o,c,le⟩,by simp_all[Tf]⟩);obtain⟨r2,rfl⟩:=O;rw[fH aC];exact⟨(i+1,_,_,h4),⟨aC,⟨_,ZG (L.mono a0) r2 t rs,by grind[oU,bqX,Nat.pow_succ]⟩,o,(c.mono a0).mono t,(le.trans a0).trans t⟩,aC,MT⟩
   .rintro⟨u,D,H⟩⟨⟨f,L,nq⟩,o,c,le⟩;exact hK f u D H le L nq o c
theorem b1J:uz 34 dXZ:=jL bwX λ_ _ _ _⟨cb,v,q,e,c,d,f,g⟩=>⟨SizeOf.sizeOf q+1,cb,v,q,e,c,d,f,aC,g⟩
theorem O3:∀(n:Nat){l:tw},l.Nodup->(∀x∈l,x<n)->l.length<=n
 |0,l,_,h=>by
  cases l with
  |nil=>simp
  |cons x l=>have:=h x bu;omega
 |n+1,l,c,h=>by
  by_cases d:n∈l
  .have f:=length_erase_of_mem d
   have g:=O3 n (c.erase n) (λx e=>by
    grind)
   omega
  .have:=O3 n c (λx e=>by
    grind)
   omega
theorem Z3{α T l}{f:α->Int}{n:Nat}(h:cn T l)(e:∀c x,T c x->0<=f x/\f x<n)(o:∀c x,T c x->∀y∈c,f y≠f x):l.length<=n:=by
 have t:(l.map λx=>(f x).toNat).Nodup:=by
  rw[nodup_iff_pairwise_ne,pairwise_iff_getElem];intro i j d g u;simp only[length_map]at d g;simp only[getElem_map];have C:=h i l[i] (sh d);have z:=h j l[j] (sh g);have:=o _ _ z l[i] (mem_take_iff_getElem.2 ⟨i,aC,rfl⟩)
  grind
 have:=O3 n t (λx A=>by
  obtain⟨y,B,rfl⟩:=mem_map.1 A;have⟨i,d⟩:=mem_iff_getElem?.1 B;have:=e _ _ (h i y d);omega)
 simpa using this
theorem NU{s:kD}{ps:ti}:∀(qs:List ae),∀k∈(gK s ps qs).1,k.length<=12
 |[],k,h=>by simp[gK]at h
 |q::qs,k,h=>by
  simp only[gK]at h;split at h
  .split at h
   .simp only[mem_cons]at h;rcases h with rfl|h
    .grind[EB]
    .exact NU qs k h
   .simp at h
  .simp at h
theorem ciX{ak params}(h:kE ak params p=0):Jb p:=by
 unfold kE at h;split at h
 .cases h
 .split at h
  .cases h
  .rename_i c;simp only[Bool.or_eq_true,not_or,s0]at c;have d:=O5 p 0 aC
   grind[mj,Jb]
theorem ckX{op on args b}(E:a.length<=12)(h:(lS s ps (.mk op ta w co on gr od li args) a b).2=0):
 Jb w/\co.length<=1000000000/\on.length<=1000000000/\gr.length<=1000000000/\od.length<=1000000000:=by
 unfold lS at h;dsimp only at h;split at h
 .simp[nY]at h
 rename_i d;rw[not_or]at d;have o:gL (.mk op ta w co on gr od li args):=Classical.not_not.1 d.2;obtain⟨_,u,F,z,A⟩:=o
 have B:∀l:ti,(Ez l).2=0->l.length<=12:=λl e=>by
  grind[Ez]
 have C:cn (AR a b) on->on.length<=1000000000:=λg=>by
  have:=Z3 (f:=λp=>p.1) (n:=a.length) g (λc x t=>by have:=t.1;grind[pB]) (λc x t y j=>(t.2.2.2 y j).1);omega
 have D:Df a gr od li->gr.length<=1000000000/\od.length<=1000000000:=λr=>by
  have:=Z3 (f:=λp=>p) (n:=a.length) r.az (λc x t=>by have:=t.1;grind[pB]) (λc x t y j e=>t.2 da);have:=r.len_;omega
 have G:Jb w:=by
  rcases u with rfl|rfl
  .simp only[show¬((2:Int)=1)by decide,if_false,if_true]at h
   grind[nY,ciX]
  .show mj jU<=_;decide
 have H:co.length<=1000000000:=by
  grind[nY]
 have I:on.length<=1000000000:=by
  rcases z with rfl|rfl|rfl
  .grind[nY]
  .grind[nY]
  .simp
 have J:gr.length<=1000000000/\od.length<=1000000000:=by
  rcases A with rfl|rfl|⟨rfl,rfl,_⟩
  .grind[nY]
  .grind[nY]
  .simp
 grind
theorem CO{s:kD}{ps:ti}:∀q:ae,(cX s ps q).2=0->Ja q/\aEJ q
 |.mk op ta w co on gr od li args,h=>by
  obtain⟨c,f,A,g⟩:=AE (Prod.ext (y:=((cX s ps (.mk op ta w co on gr od li args)).1,0)) rfl h);obtain⟨B,e⟩:=IH f
  have j:(c.getD 0 []).length<=12:=by
   grind[NU]
  obtain⟨n,o,t,u,z⟩:=ckX j (by rw[g]);have:=cOJ op;rw[S4,Oy];exact⟨⟨n,o,t,u,z,aC,λa d=>(CO a (e a d)).1⟩,aC,λa d=>(CO a (e a d)).2⟩
theorem c6J(h:(iG s ps q).2=0):¬Fat q:=λf=>by
 have⟨_,_,c,d⟩:=AK h;rcases f with f|f|f
 .grind[Jh]
 .simp only[y9,su,Bool.not_eq_true']at c;have:=Q3 q 8 c.2;omega
 .exact f (CO q d).2
theorem S6{f:Int}{s:kD}{st2:List tj}:∀{cs:List sZ}{st:List tj}{n:Int},oV f s st n cs=(st2,0)->∀c∈cs,sV f s c=true
 |[],_,_,_,c,e=>by cases e
 |d::cs,st,n,h,c,e=>by
  rw[oV]at h;split at h
  .cases h
  rename_i j;cases g:mW s (st.getD d.j.toNat []) d with
  |none=>grind
  |some l=>
   rw[g]at h;dsimp only at h;split at h
   .cases h
   rcases mem_cons.1 e with rfl|e
   .grind
   .exact S6 h c e
theorem biJ(h:Qk 2 q):Pa q<=4:=by
 have d:4^Pa q<=4^4:=h.b;rcases Nat.lt_or_ge 4 (Pa q)with c|c
 .have:=Nat.pow_lt_pow_right (by decide:1<4) c;omega
 .exact c
theorem aKX(h:Pa q<=4):rE 9 q<=8000000:=by
 have d:=cNJ (c:=9) aC q;have e:9^Pa q<=9^4:=Nat.pow_le_pow_right aC h;omega
theorem bgQ{rs k st st2 cs}(y:oX s)(h:∀r∈rs,iM s [4] r=0)(n:rs.length<=16)(z:∀r∈rs,rE 9 r.av<=8000000)(j:UB 4 s st)(d:UB 9 s st2)(A:OE s st cs st2)(E:cs.length<=5):wB s [4] rs [xU k] st st2 cs:=by
 have⟨e,C⟩:=Eo y;have o:=xM e;have f:=cjX k;refine⟨Sz.2 ⟨e,n,bx,bx,h⟩,f,?_,λr g _=>?_,λr g _=>?_,d.val,by rw[d.len];omega,λc t=>?_,aC,aC⟩
 .unfold kU;rw[if_neg (by rw[j.errM e o aC];simp)];exact A
 .exact Zu f (qN.1 (h r g)).2 (j.fj e o aC) j.val (c:=9) (λl n=>by have:=j.jv l n;omega) aC (z r g)
 .exact Zu f (qN.1 (h r g)).2 (d.fj e o aC) d.val (c:=9) d.jv aC (z r g)
 .have ok:=S6 A c t;simp only[sV,su,Bool.or_eq_true,beq_iff_eq]at ok;obtain⟨⟨⟨⟨F,_⟩,G⟩,H⟩,_⟩:=ok;have u:c.j.toNat<s.c.length:=by grind[jE]
  have B:s.c[c.j.toNat]?=some s.c[c.j.toNat]:=sh u;generalize s.c[c.j.toNat]=D at B;have I:=(BO y (si B)).2.2.1
  grind[l8,wF,jK]
theorem cgX{r}(h:iM s [4] r=0):∃(t:Nat)(d:_),r.ah=t/\s.c[t]?=some d/\kT d.aa.length (d.key-1) r.ak=true/\∀c,kT d.aa.length (d.key-1) c=true->iM s [4] {r with ak:=c}=0:=by
 have⟨e,n⟩:=qN.1 h;have u:=e;simp only[nL,su]at e;obtain⟨⟨y,o⟩,j⟩:=e;have f:=o;simp only[jE,su,s0]at f;have g:s.c[r.ah.toNat]?=some s.c[r.ah.toNat]:=sh aC;generalize s.c[r.ah.toNat]=d at g;rw[g]at j;refine⟨r.ah.toNat,d,aC,g,j,λc z=>qN.2 ⟨?_,n⟩⟩;simp_all[nL]
theorem BD.set{l rs k r v}(x:BD h l rs)(y:OC h r v):BD h (l.set k v) (rs.set k r):=⟨by simp[x.len],λj d e=>by
 by_cases c:k=j
 .subst c
  have f:k<rs.length:=by
   grind
  rw[getElem?_set_self f]at e;cases e;exact⟨v,getElem?_set_self (by rw[x.len];exact f),y⟩
 .rw[getElem?_set_ne c]at e;have⟨w,g,n⟩:=x.fm j d e
  grind⟩
theorem BD.of{s rs}(x:aU h 24 dL.ag (OC h) s rs):∃l,bT h s 24 (l.map dL.ag)/\BD h l rs:=by
 have⟨c,d,e,f⟩:=x.ex;exact⟨c,d,e.symm,f⟩
theorem Mh(l:List dL):dA 24 (l.map dL.ag):=by
 constructor
 .intro e d;obtain⟨x,_,rfl⟩:=mem_map.1 d;rfl
 .intro e d u c;obtain⟨x,_,rfl⟩:=mem_map.1 d;simp only[dL.ag,QV.ag,mem_cons,not_mem_nil,or_false]at c
  repeat' (rcases c with rfl|c<;>first|rfl|skip)
  all_goals first|rfl|(subst c;rfl)|cases c
end Go.Ps
