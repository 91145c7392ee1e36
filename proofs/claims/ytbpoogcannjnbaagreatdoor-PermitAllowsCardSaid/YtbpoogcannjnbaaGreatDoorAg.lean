/- Own work. -/
import Derived.Test.YtbpoogcannjnbaaGreatDoorAf
noncomputable section
namespace Go.Ps
open Go Go.Vc Go.Proofs List Tryz
variable{K:tt}{m:MH}{h:PH}{s:kD}{ps:ti}{cb:Nat}{sc:bQ}{v:QV}{q:ae}{p:ao}{l:ti}{i N:Nat}{m':MH}{h':PH}{co gr:ti}{od:tp}{w:ao}{ta li:Int}{xs:List tm}{sz:Nat}{ks:List ti}{rs:ti}{r:Sl}{a:ti}{b:Nat}
def lP:tp->to->to->Int
 |[],a,b=>cV a b
 |(c,d)::r,a,b=>if 0<=c/\c<a.length/\c<b.length then(if lY (a.getD c.toNat al) (b.getD c.toNat al)≠0 then(if d then-lY (a.getD c.toNat al) (b.getD c.toNat al)else lY (a.getD c.toNat al) (b.getD c.toNat al))else lP r a b)else lP r a b
def Jd:AC:=λc m h K=>∃o s t od a b,c=[cS o,cS s,cS t]/\lF h o od/\bF h s a/\bF h t b/\K (cI (lP od a b)) m h
def Xo:AC:=λc m h K=>∃s t d v od a b,c=[cS s,cS t,cP d]/\m d=some (.cells ⟨QV.ag v⟩ 68 (0,0))/\lF h v.bh od/\bF h s a/\bF h t b/\K (cI (lP od a b)) m h
def dzJ:AC:=λc m h K=>∃i:Nat,∃d e f v od g s rs r x,c=[cI i,cP d,cP e,cP f]/\m d=some (.cells ⟨QV.ag v⟩ 68 (0,0))/\m e=some (.cells #[Sl.val g] 95 (0,0))/\m f=some (.cells #[Sl.val s] 75 (0,0))/\lF h v.bh od/\Rows h g rs/\bF h s r/\rs[i]?=some x/\
 K (cB (decide (lP od x r>=0))) m h
def cRJ:AC:=λd m h K=>∃s e v od w ps,d=[cS s,.val (.func (.func 227) #[] #[.pointer (some ⟨e,0,none⟩)])]/\m e=some (.cells ⟨QV.ag v⟩ 68 (0,0))/\(∀i,s.a≠some ⟨e,i,none⟩)/\lF h v.bh od/\cH m s 75 1 (ps.map λp=>eS p.1)/\(∀p∈ps,bF h p.1 p.2)/\(∀p∈ps,p.2.length=w)/\ps.length<=140737488355328/\
 ∀(c:uu)(m':_),c.Perm ps->c.Pairwise (λp q=>¬lP od q.2 p.2<0)->cH m' s 75 1 (c.map λp=>eS p.1)->(∀b,(∀i,s.a≠some ⟨b,i,none⟩)->m' b=m b)->K (.dg []) m' h
def cuJ o s t m h:=
 dD [(151,Rf),(117,BJ)] [(2,{A:=Nat,st:=λi=>bO 55 58 ([(1,sv s),(2,sv t)]++WF 10 o i) [] m h})] [] [] false
abbrev Dt(a:Nat->Prop)(b:Nat->Nat)(c:Nat)(d e g:Sl)(i:MH)(j:PH):=∃x,a x/\b x<b c/\aH d/\aH e/\aH g/\aY g/\fI (bA c 1)=bR x/\i=i/\dC j j
abbrev HL(a:to->to->Prop):=∃x c,a x c
abbrev Ac(a:Nat->Option Obj)(b:Nat)(c d:(Value->Prop)->Prop)(e:Value)(g:Prop)(i:Sl->Prop):=∃x j,xZ a b (List.map (λf=>(f.1,fW f.2)) x)/\c j/\d j/\(∀f,List.Mem f x->j f.1)/\((∀f,List.Mem f x->f.1=e->False)->g)/\∀f,List.Mem (e,f) x->i f
abbrev jT:=Sl.mk none 0 0
abbrev oA(a:Nat×Nat×Sl×Sl×MH×PH):=a.2.1
abbrev u6(a:Nat×Sl×Sl×MH×PH):=a.2.1
abbrev nW(a:Nat×Sl×Sl×MH×PH):=a.2.2
abbrev qE(a:Nat×Nat×Sl×Sl×MH×PH):=(nW a.2).1
abbrev qF(a:Nat×Nat×Sl×Sl×MH×PH):=gX (nW a.2)
abbrev yL(a:Nat×Nat×Sl×Sl×MH×PH):=gT (nW a.2)
abbrev IB(a:Sl->tj->Prop):=∃x c,a x c
abbrev vE(a:to)(b:tj)(c:Prop):=List.Mem a b->c
attribute [push_cast] Dt HL Ac jT oA u6 nW qE qF yL IB vE
def VQ(o s t:Sl):ST:=λm h K=>mF (λI x=>I x/\aH s/\aH t/\aH o/\aY o/\bB x/\m=m/\h=h/\True) (λI c x=>I x->aX x (aF o) (ab o x 2 DP m h (λy=>aX y.1 0 (Dt I c x s t o m h) (dJ (decide (y.1>=aF s)) (Dt I c x s t o m h) (decide (y.1>=aF t)) (Dt I c x s t o m h) (ab s y.1 3 VV.ag m h (λj=>ab t y.1 3 VV.ag m h (λz=>∃a d,bL (iE j) z.ag=bL (iE a) d.ag/\dJ (lY a d==0) (Dt I c x s t o m h) y.2 (K (fD (jQ 0 (lY a d))) m h) (K (fD (lY a
 d)) m h))))))) (rG s t h (λa b=>K (fD (cV a b)) m h)))
def b4J(s t:Sl)(f:Nat):ST:=λm h K=>lI m h f 18 (λy=>lC (λo c=>∃d e,HL (λa b=>bU y (fG s t)=bU o (fG c d)/\lF h o e/\bF h c a/\bF h d b/\K (fD (lP e a b)) m h)))
def VR(i u d z:Nat):ST:=λm h K=>lI m h u 18 (λy=>lI m h d 0 (λc=>ab c i 1 aT m h (λe=>∃f,aK m h z 0 (aT f)/\aK m h d 0 (aT c)/\lC (λg s=>∃t j,HL (λa n=>bU y (fG e f)=bU g (fG s t)/\lF h g j/\bF h s a/\bF h t n/\aK m h d 0 (aT c)/\K (AU (decide (lP j a n>=0))) m h)))))
theorem TW a b: -1<=lY a b/\lY a b<=1:=by
 have c:∀x y:Int,-1<=ER x y/\ER x y<=1:=λx y=>by unfold ER;omega
 have d:=(SX a.text.data.toList b.text.data.toList).2
 grind[axJ,lY]
theorem Xa{c d r a b}(h:¬(0<=c/\c<a.length/\c<b.length)):lP ((c,d)::r) a b=lP r a b:=by
 rw[lP,if_neg h]
theorem byJ{c d r a b x y}(e:0<=c)(hx:a[c.toNat]?=some x)(f:b[c.toNat]?=some y):lP ((c,d)::r) a b=if lY x y≠0 then(if d then-lY x y else lY x y)else lP r a b:=by
 grind[lP]
theorem Tt:uz 211 Jd:=by
 refine gV func211 ?_;rintro L m h K⟨o,s,t,od,a,b,rfl,C,D,E,g⟩;refine⟨cuJ o s t m h,rfl,aD Lw (aD xT aG),VQ o s t,bt,?_⟩;dsimp only[VQ,push_cast];have F:=C.e;have M:=C.len;have O:=aU.e D;have P:=aU.e E;refine⟨λi=>i<=od.length/\lP od a b=lP (od.drop i) a b,λi=>od.length-i,⟨0,⟨aC,bu⟩,MT⟩,λi⟨hi,j⟩=>aE (λn=>?_) (λQ=>?_)⟩
 .have⟨⟨c,B⟩,G⟩:=eF F n;have⟨R,S,T,U⟩:=C.row.get (i:=i) (e:=wV (c,B)) (by simp[G]);rw[ci G]at j
  have skip:¬(0<=c/\c<a.length/\c<b.length)->∃d:Nat,(λi=>i<=od.length/\lP od a b=lP (od.drop i) a b) d/\(λi=>od.length-i) d<(λi=>od.length-i) i/\eQ (Zq s)/\eQ (Zq t)/\eQ (Zq o)/\eQ (fI ↑o.len)/\fI (IntKind.i64.wrap ((i:Int)+1))=fI ↑d/\m=m/\h=h/\True:=λhn=>
   ⟨i+1,⟨aC,by grind[Xa]⟩,(show od.length-(i+1)<od.length-i by omega),MT⟩
  refine⟨R,S,T,aC,n,(c,B),.ay U,aE (λH=>skip (λe=>by omega)) (λH=>aE (λI=>skip (λe=>by omega)) (λI=>aE (λJ=>skip (λe=>by omega)) (λJ=>?_)))⟩;dsimp only at H I J⊢
  obtain⟨x,z⟩:∃x,a[c.toNat]?=some x:=⟨_,sh aC⟩
  obtain⟨y,A⟩:∃y,b[c.toNat]?=some y:=⟨_,sh aC⟩
  obtain⟨V,W,u,X,Y,rfl⟩:=aU.at D z;obtain⟨Z,o3,u,e3,r3,rfl⟩:=aU.at E A;rw[byJ aC z A]at j;have a':=TW x y;refine⟨V,W,X,aC,aC,x,.ay Y,Z,o3,e3,aC,aC,y,.ay r3,x,y,rfl,aB (λh4=>⟨i+1,⟨aC,?_⟩,(show od.length-(i+1)<od.length-i by omega),MT⟩) (λh4=>aB (λf=>?_) (λf=>?_))⟩
  .grind
  .have f:B=true:=f;rw[j,if_pos da,if_pos f]at g;rw[dW aC aC,Int.zero_sub];exact g
  .have f:B=false:=f;rw[j,if_pos da,if_neg (by simp[f])]at g;exact g
 .rw[j,drop_eq_nil_of_le aC,lP]at g;exact⟨s,t,a,b,rfl,D,E,g⟩
theorem aTZ:uz 227 Xo:=by
 refine gV func227 ?_;rintro c m h K⟨s,t,d,v,od,a,b,rfl,e,f,g,j,n⟩;refine⟨tH [(211,Jd)] [] [] [] [0] [] false,rfl,aD Tt aG,b4J s t d,bt,?_⟩;exact⟨v.bh,.i e rfl,v.bh,s,t,od,a,b,rfl,f,g,j,n⟩
theorem aWJ:uz 210 dzJ:=by
 refine gV func210 ?_;rintro j m h K⟨i,n,e,o,v,od,g,s,rs,r,x,rfl,t,y,z,A,c,B,f,C⟩;refine⟨tH [(211,Jd)] [] [] [] [0] [] false,rfl,aD Tt aG,VR i n e o,bt,?_⟩;dsimp only[VR,push_cast];have I:=aU.e c;have J:=(sg f);have⟨D,E,u,F,G,H⟩:=aU.at c f;have d:aK m h e 0 [fW g]:=.i y rfl;exact⟨v.bh,.i t rfl,g,d,D,E,F,aC,aC,u,.ay G,s,.i z rfl,d,v.bh,u,s,od,x,r,rfl,A,H,B,d,C⟩
def Rl(w:Nat):tp->to->to->Int
 |[],a,b=>cV a b
 |(c,d)::r,a,b=>if 0<=c/\c<w then(if(if d then-lY (a.getD c.toNat al) (b.getD c.toNat al)else lY (a.getD c.toNat al) (b.getD c.toNat al))≠0 then(if d then-lY (a.getD c.toNat al) (b.getD c.toNat al)else lY (a.getD c.toNat al) (b.getD c.toNat al))else Rl w r a b)else Rl w r a b
theorem FU{w:Nat}:∀{od:tp}{a b:to},a.length=w->b.length=w->lP od a b=Rl w od a b
 |[],_,_,_,_=>rfl
 |(c,f)::r,a,b,d,e=>by
  rw[lP,Rl,d,e,FU (od:=r) d e];omega
theorem Xp.neg{α}{c:α->α->Int}(h:Xp c):Xp (λx y=> -c x y):=by
 refine⟨λx y=>by have:=h.io x y;omega,λx y z d e=>?_⟩;have f:=h.io x y;have g:=h.io y z;have j:=h.io x z;have:=h.trans z y x aC aC;omega
theorem Ot(w:Nat):∀od,Xp (Rl w od)
 |[]=>IY
 |(c,d)::r=>by
  have f:=Ot w r;have g:Xp (λa b:to=>lY (a.getD c.toNat al) (b.getD c.toNat al)):=Ou.of λa:to=>a.getD c.toNat al;by_cases h:0<=c/\c<w
  .have e:Rl w ((c,d)::r)=λa b=>if(if d then-lY (a.getD c.toNat al) (b.getD c.toNat al)else lY (a.getD c.toNat al) (b.getD c.toNat al))≠0 then(if d then-lY (a.getD c.toNat al) (b.getD c.toNat al)else lY (a.getD c.toNat al) (b.getD c.toNat al))else Rl w r a b:=by
    simp_all[Rl]
   rw[e];cases d
   .exact g.fa f
   .exact g.neg.fa f
  simp_all[Rl,if_neg]
theorem cNQ{w} od:Sort.SWO (Go.Proofs.ltOf (fun(x y:I9 h (λl=>l.length=w))=>lP od x.l y.l)):=by
 have e:(fun(x y:I9 h (λl=>l.length=w))=>lP od x.l y.l)=λx y=>Rl w od x.l y.l:=by
  funext x y;exact FU x.pr_ y.pr_
 rw[e];exact(Ot w od).swo
theorem anJ:uz 223 cRJ:=by
 refine⟨⟨Tryz.f223,func223,rfl,bx⟩,?_⟩;rintro j f m h w K⟨s,c,v,od,n,ps,rfl,H,t,u,z,A,B,C,D⟩ d
 obtain⟨E,e,rfl⟩:∃v e,f=[v,e]:=by
  have:=(vS d.args).1
  match f,this with
  |[v,e],_=>grind
 have F:E=s.val:=d.args.1;have G:e=.func (.func 227) #[] #[.pointer (some ⟨c,0,none⟩)]:=d.args.2.1;subst F G;refine UM (R:=λl=>l.length=n) (g:=227) (cb:=[.pointer (some ⟨c,0,none⟩)]) (m2:=λb=>if b=c then m c else none) (cf:=lP od) rfl d ⟨Tryz.f227,func227,rfl,bx⟩ z A B C (cNQ od) ⟨Xo,aTZ,λx y=>⟨x.s,y.s,c,v,od,x.l,y.l,rfl,da,u,x.ok,y.ok,rfl,rfl,rfl⟩⟩ (λb o I=>?_) D
 grind
def czJ:=Ym [(201,blX),(203,cWQ),(202,aFX),(204,aDJ)] [(13,{A:=Nat×Nat×Sl×Sl×MH×PH,st:=λ⟨i,b,e,g,m,h⟩=>bO 66 68 ([(10,vv (.pointer (some ⟨b,0,none⟩))),(11,sv e)]++WF 51 g i) [] m h})] [] [200005,200006,200007,200010,1095,400000,0]
def PG(v:QV)(t:Sl):ST:=λm h K=>RY (λs o=>eO (tV v.on) (tV s)/\l9 h s o/\∀a,jA (λb Q=>cO h Q (an Q a (jI o)) (an Q b (jF o)->∀R m1,eT m Q R->cF m m1 R kS 31->∀b2 m2,eT m1 Q b2->cF m1 m2 b2 kS 31->aj m2 R (fW a) (λm3=>aj m3 b2 (fW b) (λm4=>MF m4 Q 243 (λu m5=>NB t.a 0 1 t m5 Q (λT=>dG T) (λy S=>Aa S Q y m5 (λI k e j f=>I k j f->lI j f b2 0 (λy1=>G7 e y1 f (λr U=>tD r U) (λr U=>branch (List.all (pick r U) kF) (lI j f b2 0 (λy2=>G7 e y2 f (λn _=>YZ n) (λn A=>tD n A/\kN j/\∃g,aK j f u 0 (bZ g)/\∃D,let Ae:=λl W F=>hU l (eK n A) W F;let N:=λx=>cH j jT 75 1 x/\cJ (fS x 1*24)/\fA x/\fY (λB z=>cL j z jT B 75 1 (iI x e)->aK z f u 0 (bZ g)/\aK z f u 0 (bZ D)/\tM z g (λO=>mG 9 O) (λO=>O (eK n A)) (eK n A) (λV=>∀d,kM z d g->pZ d g (hU V (eK n A) (fW B) [])->I (dG k) d f) Ae (λl F=>∀d,kM z d g->pZ d g (hU l (eK n A) (fW B) F)->I (dG k) d f));aK j f u 0 (bZ D)/\(aK j f u 0 (bZ g)/\Ac j D (λO=>mG 9 O) (λO=>O (eK n A)) (eK n A) (wS (aK j f u 0 (bZ g)) (aK j f u 0 (bZ D)) (aK j f u 0 (bZ g)) (aK j f u 0 (bZ D)) N) (λH=>wS (aK j f u 0 (bZ g)) (aK j f u 0 (bZ D)) (aK j f u 0 (bZ g)) (aK j f u 0 (bZ D)) (λx=>cH j (bK H) 75 1 x/\cJ (fS x 1*24)/\fA x/\fY (λB z=>cL j z (bK H) B 75 1 (iI x e)->aK z f u 0 (bZ g)/\aK z f u 0 (bZ D)/\tM z g (λO=>mG 9 O) (λO=>O (eK n A)) (eK n A) (λV=>∀d,kM z d g->pZ d g (hU V (eK n A) (fW B) [])->I (dG k) d f) Ae (λl F=>∀d,kM z d g->pZ d g (hU l (eK n A) (fW B) F)->I (dG k) d f)))))/\aK j f u 0 (bZ g)/\aK j f u 0 (bZ D)/\aK j f u 0 (bZ g)/\Ac j D (λO=> mG 9 O) (λO=>O (eK n A)) (eK n A) (uF (aK j f u 0 (bZ g)) (aK j f u 0 (bZ D)) N) (λH=>uF (aK j f u 0 (bZ g)) (aK j f u 0 (bZ D)) (λx=>cH j (bK H) 75 1 x/\cJ (fS x 1*24)/\fA x/\fY (λB z=>cL j z (bK H) B 75 1 (iI x e)->aK z f u 0 (bZ g)/\aK z f u 0 (bZ D)/\tM z g (λO=>mG 9 O) (λO=>O (eK n A)) (eK n A) (λV=>∀d,kM z d g->pZ d g (hU V (eK n A) (fW B) [])->I (dG k) d f) Ae (λl F=>∀d,kM z d g->pZ d g (hU l (eK n A) (fW B) F)->I (dG k) d f))))))) (I (dG k) j f)))) (λj f=>GZ j f t (λb4 z y1 S1=>Aa S1 f y1 z (λI k e d G=>I k d G->lI d G R 0 (λy2=>G7 e y2 G (λr U=>tD r U) (λr U=>cC (List.all (pick r U) kF) (I (dG k) d G) (∃g,aK d G u 0 (bZ g)/\∃D,aK d G R 0 (aT D)/\aK d G u 0 (bZ g)/\MG e D G d (aK d G u 0 (bZ g)) (λ_ _=>aK d G R 0 (aT D)) (λn A=>Ac d g (λO=>mG 9 O) (λO=>O (eK n A)) (eK n A) (∃(I1:Nat×Nat×Sl×Sl×MH×PH->Prop)(m9:Nat×Nat×Sl×Sl×MH×PH->Nat),(∃x,I1 x/\fL b4 (oA x)/\bC e (u6 x.2)/\qe=Zq (qE x)/\bB (qE x).len/\bB x.1/\iU d (nW x.2)/\dH G (nW x.2).2/\True)/\∀x,I1 x->aX x.1 (aF (qE x)) (aM (λb5 T=>aR (qE x).a b5 T/\0<=(↑x.1:Int)/\x.1<aF (qE x)/\∃H,aK (qF x) (yL x) b5 (bI T x.1 1) (aT H)/\∃L,let Ad:=aK (qF x) (yL x) (oA x) 0 (aT L);Ad/\Ad/\Ad/\bN (yL x) 1 (aT (u6 x.2)::[aT H]) (λB h4=>IB (λs2 M=>mO B=mO s2/\Rows h4 s2 M/\Ew M 10/\(∀r3,vE r3 M (r3.length<=12))/\jA (λs3 J=>let Ag:=aK (qF x) J (oA x) 0 (aT L);cO h4 J (bF J s3 M.flatten) (uF Ag Ag (λP=>cH (qF x) (bK L) 75 1 P/\cJ (fS P 1*24)/\fA P/\fY (λs4 X=>cL (qF x) X (bK L) s4 75 1 (iI P s3)->aj X (oA x) (fW s4) (λa2=>∃C,I1 C/\m9 C<m9 x/\fL (oA x) (oA C)/\bC (u6 x.2) (u6 C.2)/\bC (qE x) (qE C)/\cT (qE x) (qE C)/\fI (bA x.1 1)=bR C.1/\iU a2 (nW C.2)/\fQ J (nW C.2).2))))))))) (I (dG k) (qF x) (yL x))) (λH=>∃(I1:Nat×Nat×Sl×Sl×MH×PH->Prop)(m9:Nat×Nat×Sl×Sl×MH×PH->Nat),(∃x,I1 x/\fL b4 (oA x)/\bC e (u6 x.2)/\bC H (qE x)/\cT H (qE x)/\bB x.1/\iU d (nW x.2)/\dH G (nW x.2).2/\True)/\∀x,I1 x->aX x.1 (aF (qE x)) (aM (λb5 T=>aR (qE x).a b5 T/\0<=(↑x.1:Int)/\x.1<aF (qE x)/\∃L,aK (qF x) (yL x) b5 (bI T x.1 1) (aT L)/\∃Z,let Ab:=aK (qF x) (yL x) (oA x) 0 (aT Z);Ab/\Ab/\Ab/\bN (yL x) 1 (aT (u6 x.2)::[aT L]) (λB h4=>IB (λs2 M=>mO B=mO s2/\Rows h4 s2 M/\Ew M 10/\(∀r3,vE r3 M (r3.length<=12))/\jA (λs3 J=>let Af:=aK (qF x) J (oA x) 0 (aT Z);cO h4 J (bF J s3 M.flatten) (uF Af Af (λP=>cH (qF x) (bK Z) 75 1 P/\cJ (fS P 1*24)/\fA P/\fY (λs4 X=>cL (qF x) X (bK Z) s4 75 1 (iI P s3)->aj X (oA x) (fW s4) (λa2=>∃C,I1 C/\m9 C<m9 x/\fL (oA x) (oA C)/\bC (u6 x.2) (u6 C.2)/\bC (qE x) (qE C)/\cT (qE x) (qE C)/\fI (bA x.1 1)=bR C.1/\iU a2 (nW C.2)/\fQ J (nW C.2).2))))))))) (I (dG k) (qF x) (yL x)))))))) (λd G=>lI d G b4 0 (λy2=>K (tV y2) d G)))))))))))
def dLX(on:tu)(ls:List tj):=2<=ls.length/\∃w c,lT w (ls.getD 0 [])/\lT c (ls.getD 1 [])/\jY w (jI on)/\jY c (jF on)
def SD(q:ae)(ls:List tj):=match q with|.mk _ _ _ _ on _ _ _ _=>dLX on ls
def ct on x y:=cV (pick x (jI on)) (pick y (jF on))==0
def Zn(q:ae)(ls:List tj):=match q with|.mk _ _ _ _ on _ _ _ _=>(ls.getD 0 []).filter λx=>(ls.getD 1 []).any λy=>ct on x y
theorem Ek{on x y}:ct on x y=true↔pick x (jI on)=pick y (jF on):=by
 simp_all[ct,beq_iff_eq,eX]
theorem Mq{r ak}(c:YZ r)(d:jY r.length ak):∀v∈pick r ak,rv v:=λv e=>c.val v (ZF d e)
theorem Pd{κ}(c:ccJ κ){on x y}(hx:YZ x)(d:YZ y)(e:jY x.length (jI on))(f:jY y.length (jF on)):κ (pick x (jI on))=κ (pick y (jF on))↔ct on x y=true:=by
 rw[Ek];exact c.inj (by simp[pick,jI,jF]) (Mq hx e) (Mq d f)
structure Start(m m7:MH)(sa sb:Sl)(T:TypeId)(b1 b2 y b7:Nat):Prop where
 sub:dh m m7
 a_:m7 b1=some (.cells #[.slice sa.a sa.len sa.cap] 31 (0,0))
 b_:m7 b2=some (.cells #[.slice sb.a sb.len sb.cap] 31 (0,0))
 y_:m7 y=some (.map #[] 0)
 c_:m7 b7=some (.cells #[.map (some y)] T (0,0))
 ya:b1≠y
 yb:b2≠y
 yc:b7≠y
 jb:m y=none
theorem Zh{R S T}{Q:Nat->Nat->Nat->Nat->MH->Prop}(hK:∀c d y n O,Start m O R S T c d y n->Q c d y n O):
 ∀c Y,eT m h c->iZ m Y c (.cells #[B8] 31 (0,0))->∀d m2,eT Y h d->iZ Y m2 d (.cells #[B8] 31 (0,0))->
  ∃cs E,yA m2 c (.cells cs E (0,0))/\0<cs.size/\∀U:MH,iZ m2 U c (.cells (.mk (fW R::cs.toList.drop 1)) E (0,0))->
  ∃cs E,yA U d (.cells cs E (0,0))/\0<cs.size/\∀D:MH,iZ U D d (.cells (.mk (fW S::cs.toList.drop 1)) E (0,0))->
  ∀y P,eT D h y->iZ D P y (.map (.mk []) 0)->∀n Z,eT P h n->iZ P Z n (.cells (.mk [.map none]) T (0,0))->
  ∃cs E,yA Z n (.cells cs E (0,0))/\0<cs.size/\∀O:MH,iZ Z O n (.cells (.mk (.map (some y)::cs.toList.drop 1)) E (0,0))->Q c d y n O:=by
 intro c Y a' F d m2 V G;have⟨s1,n1⟩:=mM (dh.refl m) a' F;have⟨s2,n2⟩:=mM s1 V G;have H:c≠d:=λe=>by have:=V.m_;rw[<-e,F.y]at this;cases this
 refine⟨_,_,⟨by rw[G.ai c H];exact F.y⟩,bu,λU I=>?_⟩;have s3:dh m U:=s2.dv n1 I.ai;refine⟨_,_,⟨by rw[I.ai d (Ne.symm H)];exact G.y⟩,bu,λD J y P W t n Z X g=>?_⟩;have s4:dh m D:=s3.dv n2 J.ai;have L:D c=some (.cells #[.slice R.a R.len R.cap] 31 (0,0)):=by rw[J.ai c H];exact I.y
 have M:D d=some (.cells #[.slice S.a S.len S.cap] 31 (0,0)):=J.y;have⟨s5,ny⟩:=mM s4 W t;have⟨s6,n7⟩:=mM s5 X g;have u:∀{z o},D z=some o->z≠y:=fun{z o} e e2=>by rw[e2,W.m_]at e;cases e
 have f:∀{z o},P z=some o->z≠n:=fun{z o} e e2=>by rw[e2,X.m_]at e;cases e
 have A:=L;rw[<-t.ai c (u L)]at A;have B:=M;rw[<-t.ai d (u M)]at B;have C:P y=some (.map #[] 0):=t.y;refine⟨_,_,⟨g.y⟩,bu,λO j=>hK _ _ _ _ _ ⟨s6.dv n7 j.ai,?_,?_,?_,j.y,u L,u M,Ne.symm (f C),ny⟩⟩
 .rw[j.ai c (f A),g.ai c (f A)];exact A
 .rw[j.ai d (f B),g.ai d (f B)];exact B
 .rw[j.ai y (f C),g.ai y (f C)];exact C
theorem a1Z:uz 178 (Y0 SD Zn):=by
 refine NZ func178 ?_;rintro c6 m h K⟨v,t,q,bs,ls,rfl,hq,ha,hT,a8,hK⟩;refine⟨Ym [(201,blX),(203,cWQ)] [] [] [200005,200006,200007,200009,1095,400000,0],rfl,aD Tx (aD HQ aG),PF v t m h (dR h K),bt,?_⟩;show PF v t m h (dR h K);dsimp only[PF,push_cast];obtain⟨op,ta,w,co,on,gr,od,li,args⟩:=q;obtain⟨h2,wa,wb,f,d,a9,J⟩:=a8;refine⟨v.on,on,rfl,hq.parts.ez,λsa sb L C b' b0=>Zh λb1 b2 y X m7 D=>?_⟩;have⟨b,off,x,ea,c7,rd,sq⟩:=ha.get (C9 (i:=1) aC);have⟨b6,Y,x6,b3,c5,b4,Z⟩:=ha.get (C9 (i:=0) aC);have⟨a',M,E⟩:=(sq.mono C).ex;have⟨us,a0,O⟩:=(Z.mono C).ex;simp only[Zn]at hK;generalize ls.getD 1 []=P at E d hK sq;generalize ls.getD 0 []=l at O f hK Z;have b5:=O.len;have c8:=f.len;have a1:=E.len;have s7:=D.sub;have ny:=D.jb;refine⟨b,off,ea,aC,aC,x,.ay (rd.mono C),B0,a',λk I Q=>Q=L/\(∀z o,m7 z=some o->z≠y->I z=some o)/\xY I y ((P.take k).map λz=>gA (pick z (jF on))),BA,⟨x,a',rfl,M,rfl⟩,⟨rfl,λz o e _=>e,mp (xY.new D.y_)⟩,?_,?_⟩
 .rintro k e I Q hk-⟨rfl,R,F⟩
  have⟨r,hr,hv⟩:=E.im hk;have n:=si hr;have S:aK I Q X 0 [Value.map (some y)]:=.i (R X _ D.c_ D.yc) rfl;have rb:aK I Q b2 0 [fW sb]:=.i (R b2 _ D.b_ D.yb) rfl;refine⟨y,S,sb,rb,S,e,sb,r,jF on,rfl,hv,b0,d.row r n,by rw[d.gi r n];exact J,hT.sub (λz o A=>R z o (s7 z o A) (λe3=>da)),S,F.put (λm' T a2=>⟨rfl,λz o A b8=>by rw[T.ai z b8];grind,?_⟩)⟩;have⟨kk,h5,h6⟩:=a2.ex;exact⟨kk,h5,λq=>by grind[sy]⟩
 .rintro I Q-⟨rfl,R,F⟩ b9 m5 a3 G;rw[a1,take_length]at F;have s5:dh m I:=λz o A=>R z o (s7 z o A) (λe3=>da);have⟨s6,n7⟩:=mM s5 a3 G
  have a4:∀{z o},I z=some o->m5 z=some o/\z≠b9:=fun{z o} A=>by
   have:z≠b9:=λe3=>by rw[e3,a3.m_]at A;cases A
   exact⟨by rw[G.ai z this];exact A,this⟩
  have⟨c',na⟩:=a4 (R b1 _ D.a_ D.ya);have⟨c0,nc⟩:=a4 (R X _ D.c_ D.yc)
  have y7:y≠b9:=by
   have⟨kk,⟨es,c,L,_⟩,_⟩:=F.ex
   grind
  have a5:=F.br (G.ai y y7);refine⟨b6,Y,b3,aC,aC,x6,.ay (b4.mono C),B0,us,λk U hy=>hy=Q/\HZ m5 U b9/\∃u,uO m5 U b9 u/\u.length<=k/\eN Q u ((l.take k).filter λz=>P.any λy=>ct on z y),BA,⟨x6,us,rfl,a0,rfl⟩,⟨rfl,λz o e _=>e,[],uO.new G.y,bu,by grind[eN.nil]⟩,?_,?_⟩
  .rintro k e U hy hk-⟨rfl,g,u,B,c1,H⟩
   have⟨r,hr,hv⟩:=O.im hk;have c9:=(sg hk);have n:=si hr;have S:aK U hy X 0 [Value.map (some y)]:=.i (g X _ c0 nc) rfl;have r3:aK U hy b1 0 [fW sa]:=.i (g b1 _ c' na) rfl
   have a6:xY U y (P.map λz=>gA (pick z (jF on))):=by
    have⟨kk,⟨es,c,L,h2,h3,h4⟩,h5⟩:=a5.ex;exact⟨kk,⟨es,c,g y _ L y7,h2,h3,h4⟩,h5⟩
   have V:jY r.length (jI on):=by rw[f.gi r n];exact a9
   have key:∀t:Bool,(t=true↔gA (pick r (jI on))∈P.map λz=>gA (pick z (jF on)))->t=P.any λy=>ct on r y:=λt ht=>by
    have L:(gA (pick r (jI on))∈P.map λz=>gA (pick z (jF on)))↔(P.any λy=>ct on r y)=true:=by
     rw[mem_map,any_eq_true];constructor
     .rintro⟨z,W,A⟩;exact⟨z,W,(Pd S9 (f.row r n) (d.row z W) V (by rw[d.gi z W];exact J)).1 A.symm⟩
     .rintro⟨z,W,A⟩;exact⟨z,W,((Pd S9 (f.row r n) (d.row z W) V (by rw[d.gi z W];exact J)).2 A).symm⟩
    grind
   refine⟨y,S,sa,r3,S,e,sa,r,jI on,rfl,hv,b',f.row r n,V,hT.sub (s6.x n7 g),S,r3,a6.get (K:=λt=>branch t _ _) (λt ht=>?_)⟩;have e3:=key t ht;refine aB (λL=>?_) (λL=>?_)
   .refine uO.jm ⟨_,G.y⟩ g B aC (λm' T c2=>⟨rfl,T,u++[e],c2,cv,?_⟩);rw[nB _ hr,if_pos da];exact H.cw hv
   .refine⟨rfl,g,u,B,aC,?_⟩;rw[nB _ hr,if_neg da,append_nil];exact H
  .rintro U hy-⟨rfl,g,u,B,c1,H⟩
   rw[b5,take_length]at H;have⟨s,hb,a7,c3⟩:=B.ex;refine⟨s,.i hb rfl,dR.row (s6.x n7 g) C a7 (λj z e=>?_) (λh' le c4=>hK s h' (C.trans le) ((H.mono le).rows c4 da))⟩;cases A:m z with
   |none=>rfl
   |some o=>have e1:=c3 j z e;rw[s6 z o A]at e1;cases e1
structure v8(m0 m:MH)(y:Nat)(kk:un)(us:ByteArray->tq):Prop where
 kc:pZ m y (kk.map λp=>(.string p.1,fW p.2))
 fp:(kk.map Prod.fst).Nodup
 row:∀p∈kk,cH m p.2 75 1 ((us p.1).map eS)
 f:∀p∈kk,∀x i,p.2.a=some ⟨x,i,none⟩->m0 x=none
 apart:∀p∈kk,∀q∈kk,p.1≠q.1->∀x i j,p.2.a=some ⟨x,i,none⟩->q.2.a≠some ⟨x,j,none⟩
 gp:∀k,k∉kk.map Prod.fst->us k=[]
 bj:∀x o,m0 x=some o->x≠y->m x=some o
def Ie(c:un)(key:ByteArray)(s:Sl):=(s=⟨none,0,0⟩/\key∉c.map Prod.fst)\/(key,s)∈c
theorem v8.new{y}(h:m y=some (.map #[] 0)):v8 m m y [] λ_=>[]:=⟨⟨#[],0,h,rfl,bu,bu⟩,bu,bu,bu,bu,λ_ _=>rfl,λ_ _ e _=>e⟩
theorem Ie.row{m0 y c us key s}(g:v8 m0 m y c us)(f:Ie c key s):cH m s 75 1 ((us key).map eS)/\∀x i,s.a=some ⟨x,i,none⟩->m0 x=none:=by
 rcases f with⟨rfl,j⟩|d
 .rw[g.gp key j];exact⟨⟨qS [],.inl ⟨rfl,rfl⟩⟩,λx i e=>by cases e⟩
 .exact⟨g.row _ d,g.f _ d⟩
theorem v8.br{m0 y f us}(g:v8 m0 m y f us)(j:∀x o,m x=some o->m' x=some o):v8 m0 m' y f us:=by
 have⟨n,c,d,e,t,u⟩:=g.kc;refine⟨⟨n,c,j _ _ d,e,t,u⟩,g.fp,λp z=>?_,g.f,g.apart,g.gp,λx o d e=>j x o (g.bj x o d e)⟩;have⟨A,B⟩:=g.row p z;refine⟨A,B.imp id ?_⟩
 grind
def Up(us:ByteArray->tq)(key:ByteArray)(e:Sl):=λk=>if k=key then us k++[e]else us k
theorem v8.core{m0 U:MH}{y:Nat}{C z us key s E e}(g:v8 m0 m y C us)(H:∃o,m0 y=some o)(I:Ie C key s)(F:cL m U s E 75 1 ((us key).map eS++[[fW e]]))(V:pZ m' y (z.map λp=>(.string p.1,fW p.2)))(t:kM U m' y)(J:(z.map Prod.fst).Nodup)(u:∀p∈z,p=(key,E)\/(p∈C/\p.1≠key))(G:(key,E)∈z)(L:∀k,k∈C.map Prod.fst->k∈z.map Prod.fst):v8 m0 m' y z (Up us key e):=by
 obtain⟨oy,H⟩:=H;have⟨W,a'⟩:=I.row g;have⟨es,c,h1,_⟩:=g.kc;have a0:∀i,s.a≠some ⟨y,i,none⟩:=λi f=>da
 have X:∀x,m x=none->m0 x=none:=λx M=>by
  cases O:m0 x with
  |none=>rfl
  |some o=>
   by_cases P:x=y
   .grind
   .rw[g.bj x o O P]at M;cases M
 have Y:∀x i,E.a=some ⟨x,i,none⟩->m0 x=none:=λx i f=>by
  rcases F.f x i f with h|⟨j,h⟩
  .grind
  grind
 have D:∀p∈C,∀x i,p.2.a=some ⟨x,i,none⟩->∃o,m x=some o:=λp A x i f=>by
  rcases(g.row p A).ex with⟨h,_⟩|⟨b,a1,a2,h,V,_⟩
  .grind
  grind
 have Q:∀p∈C,p.1≠key->∀x i j,p.2.a=some ⟨x,i,none⟩->s.a≠some ⟨x,j,none⟩:=λp A d x i j f B=>by
  rcases I with⟨rfl,_⟩|I
  .cases B
  .exact g.apart p A _ I d x i j f B
 refine⟨V,J,λp A=>?_,λp A x i f=>?_,λp A q hq d x i j f B=>?_,λk Z=>?_,λx o O d=>?_⟩
 .rcases u p A with rfl|⟨n,d⟩
  .have R:(Up us key e key).map eS=(us key).map eS++[[fW e]]:=by simp[Up,eS]
   rw[R];exact cH.br F.row λb i f=>t.ai b (λB=>da)
  .have R:Up us key e p.1=us p.1:=if_neg d;rw[R];refine cH.br (g.row p n) λb i f=>?_;have⟨o,ho⟩:=D p n b i f;rw[t.ai b (λB=>by rw[B]at f;rw[g.f p n y i f]at H;cases H),ho];exact F.ai b o ho (λj=>Q p n d b i j f)
 .rcases u p A with rfl|⟨n,_⟩
  .grind
  .exact g.f p n x i f
 .have M:∀p∈C,p.1≠key->∀i j,p.2.a=some ⟨x,i,none⟩->E.a≠some ⟨x,j,none⟩:=λp A d i j f B=>by
   rcases F.f x j B with h|⟨j',h⟩
   .grind
   grind
  rcases u p A with rfl|⟨n,a3⟩<;>rcases u q hq with rfl|⟨S,a4⟩
  .exact d rfl
  .grind
  .grind
  .exact g.apart p n q S d x i j f B
 .have T:k≠key:=λf=>Z (mem_map.2 ⟨_,G,f.symm⟩);simp only[Up,if_neg T];exact g.gp k λh=>Z (L k h)
 .rw[t.ai x d];exact F.ai x o (g.bj x o O d) (λi f=>da)
theorem v8.put{m0 B y t us key s u e}{Q:MH->Prop}(g:v8 m0 m y t us)(C:∃o,m0 y=some o)(D:Ie t key s)(E:cL m B s u 75 1 ((us key).map eS++[[fW e]]))(L:∀m' F,v8 m0 m' y F (Up us key e)->Q m'):
 ∃j Ok,pZ B y j/\dz Tryz.prog 9 Ok/\Ok (.string key)/\Instr.sameBits 10000 (.string key) (.string key)=true/\(∀e,List.Mem e j->Ok e.1)/\((∀e,List.Mem e j->e.1=.string key->False)->∀m':MH,kM B m' y->pZ m' y (j++[(.string key,fW u)])->Q m')/\
  ∀G M H,j=G++(.string key,M)::H->∀m':MH,kM B m' y->pZ m' y (G++(.string key,fW u)::H)->Q m':=by
 have I:∀i,s.a≠some ⟨y,i,none⟩:=λi n=>by
  obtain⟨o,O⟩:=C;rw[(D.row g).2 y i n]at O;cases O
 have⟨S,c,T,U,V,W⟩:=g.kc;refine⟨t.map λp=>(Value.string p.1,fW p.2),_,⟨S,c,E.ai _ _ T I,U,V,W⟩,GJ,⟨key,rfl⟩,Zp key,λe X=>?_,λY m' d J=>?_,λG M H Z m' d J=>?_⟩
 .obtain⟨k,_,rfl⟩:=mem_map.1 (show e∈_ from X)
  grind
 .have a':key∉t.map Prod.fst:=λh=>by
   have⟨p,hp,n⟩:=mem_map.1 h;subst n;exact Y _ (mem_map_of_mem (f:=λp:ByteArray×Sl=>(Value.string p.1,fW p.2)) hp) rfl
  refine L m' (t++[(key,u)]) (g.core C D E da d ?_ ?_ bu (λk hk=>da))
  .rw[sn,nodup_append];refine⟨g.fp,bu,λa ha b hb n=>?_⟩
   grind
  grind
 .have⟨k1,a0,e1,n,e3⟩:=map_eq_append_iff.1 Z;have⟨p,k2,e4,P,e6⟩:=map_eq_cons_iff.1 e3;subst e1 e4 n e6;simp only[Prod.mk.injEq,Value.string.injEq]at P;have z:=g.fp;rw[sn,map_cons,P.1]at z;have A:=nodup_append.1 z;have R:=nodup_cons.1 A.2.1;refine L m' (k1++(key,u)::k2) (g.core C D E da d da ?_ bu (λk hk=>da))
  grind
theorem v8.jm{m0:MH}{hx:PH}{y c T u us key s e}{Q:MH->Prop}(g:v8 m0 m y u us)(D:∃o,m0 y=some o)(E:∃o,m0 c=some o)(F:m c=some (.cells #[.map (some y)] T (0,0)))(J:(us key).length<=502633886983)(G:∀m' t,v8 m0 m' y t (Up us key e)->Q m')(z:Ie u key s):
 ∃xs:List tm,cH m (Sl.mk s.a s.len s.cap) 75 1 xs/\(xs.length+1)*24<=140737488355328/\xs.length<140737488355328/\∀n f,cL m f (Sl.mk s.a s.len s.cap) n 75 1 (xs++[[fW e]])->
  aK f hx c 0 [.map (some y)]/\aK f hx c 0 [.map (some y)]/\
 ∃d Ok,pZ f y d/\dz Tryz.prog 9 Ok/\Ok (.string key)/\Instr.sameBits 10000 (.string key) (.string key)=true/\(∀e,List.Mem e d->Ok e.1)/\((∀e,List.Mem e d->e.1=.string key->False)->∀m':MH,kM f m' y->pZ m' y (d++[(.string key,fW n)])->Q m')/\
  ∀A H B,d=A++(.string key,H)::B->∀m':MH,kM f m' y->pZ m' y (A++(.string key,fW n)::B)->Q m':=by
 have⟨j,I⟩:=z.row g;refine⟨_,j,cv,cv,λn f C=>?_⟩
 have r:aK f hx c 0 [Value.map (some y)]:=.i (C.ai c _ F λi L=>by
  grind) rfl
 exact⟨r,r,g.put D z C G⟩
theorem v8.kz{m0 y j us key K0}{K:Sl->Prop}(g:v8 m0 m y j us)(o:Ie j key ⟨none,0,0⟩->K0)(u:∀s,Ie j key s->K s):
 ∃d Ok,xZ m y (d.map λp=>(p.1,fW p.2))/\dz Tryz.prog 9 Ok/\Ok (.string key)/\(∀e,List.Mem e d->Ok e.1)/\((∀e,List.Mem e d->e.1=.string key->False)->K0)/\∀t,List.Mem (.string key,t) d->K t:=by
 have⟨z,c,A,B,_,_⟩:=g.kc;refine⟨j.map λp=>(.string p.1,p.2),_,⟨z,c,A,by rw[B];simp⟩,GJ,⟨key,rfl⟩,λe C=>?_,λD=>o (.inl ⟨rfl,λh=>?_⟩),λt E=>u t (.inr ?_)⟩
 .obtain⟨k,_,rfl⟩:=mem_map.1 (show e∈_ from C)
  grind
 .have⟨p,n,e⟩:=mem_map.1 h;subst e;exact D (.string p.1,p.2) (mem_map_of_mem (f:=λp:ByteArray×Sl=>(Value.string p.1,p.2)) n) rfl
 .have⟨p,n,e⟩:=mem_map.1 (show(Value.string key,t)∈_ from E)
  grind
structure aCJ(m0 m:MH)(h:PH)(y:Nat)(f:ByteArray->tj):Prop where
 ex:∃kk us,v8 m0 m y kk us/\∀k,eN h (us k) (f k)
theorem aCJ.dv{m0 y d us}{f:ByteArray->tj}{c key e r}(g:v8 m0 m' y d (Up us key e))(j:∀k,eN h (us k) (f k))(n:bF h e r)(o:c key=f key++[r])(u:∀k,k≠key->c k=f k):aCJ m0 m' h y c:=by
 refine⟨d,_,g,λk=>?_⟩;by_cases t:k=key
 .subst t;rw[o];have:Up us k e k=us k++[e]:=if_pos rfl;rw[this];exact(j k).cw n
 simp_all[Up]
def nO ak r:=(pick r ak).all kF
def mC(on:tu)(b:tj)(x:to):=
 if nO (jI on) x then(b.filter λy=>nO (jF on) y&&ct on x y).map (x++ ·)else[]
def ZW(q:ae)(ls:List tj):=match q with|.mk _ _ _ _ on _ _ _ _=>(ls.getD 0 []).flatMap (mC on (ls.getD 1 []))
def O2(q:ae)(ls:List tj):=match q with|.mk _ _ _ _ on _ _ _ _=>dLX on ls/\(ls.getD 0 []).length*(ls.getD 1 []).length<=8000000
theorem AP{α β:Type}{f:α->List β}{n:Nat}:∀{l:List α},(∀x∈l,(f x).length<=n)->(l.flatMap f).length<=l.length*n
 |[],_=>bu
 |a::l,h=>by
  have d:=h a (mem_cons_self ..);have e:=AP (l:=l) λx c=>h x (mem_cons_of_mem _ c);simp only[flatMap_cons,sj,te,Nat.add_mul,Nat.one_mul];omega
theorem Ed{α β}{l:List α}{k x}(f:α->List β)(hx:l[k]?=some x):(l.take (k+1)).flatMap f=(l.take k).flatMap f++f x:=by
 grind[sy]
theorem CP{on b x}:(mC on b x).length<=b.length:=by
 grind[mC]
def gw(κ:to->ByteArray)(ak:ti)(l:tj)(key:ByteArray):=l.filter λz=>nO ak z&&decide (κ (pick z ak)=key)
theorem K7{κ ak}{l:tj}{k r}(c:l[k]?=some r) key:gw κ ak (l.take (k+1)) key=gw κ ak (l.take k) key++(if nO ak r&&decide (κ (pick r ak)=key)then[r]else[]):=nB _ c
theorem a1J:uz 177 (Y0 O2 ZW):=by
 refine NZ func177 ?_;rintro f3 m h K⟨v,t,q,bs,ls,rfl,hq,ha,hT,d9,hK⟩;refine⟨czJ,rfl,aD Tx (aD HQ (aD aXJ (aD aXZ aG))),PG v t m h (dR h K),bt,?_⟩;show PG v t m h (dR h K);dsimp only[PG,push_cast];obtain⟨op,ta,w,co,on,gr,od,li,args⟩:=q;obtain⟨⟨h2,wa,wb,D,c,e',c3⟩,c4⟩:=d9;refine⟨v.on,on,rfl,hq.parts.ez,λsa sb h1 R c5 c6=>Zh λb1 b2 y b7 m7 S=>?_⟩;have⟨b,off,x,ea,f4,rd,sq⟩:=ha.get (C9 (i:=1) aC);have⟨b6,c7,x6,e0,f0,e4,c8⟩:=ha.get (C9 (i:=0) aC);have⟨c9,b',a'⟩:=(sq.mono R).ex;have⟨us,d',b0⟩:=(c8.mono R).ex;simp only[ZW]at hK;generalize ls.getD 1 []=E at a' c hK sq c4;generalize ls.getD 0 []=l at b0 D hK c8 c4;have e5:=b0.len;have f5:=D.len;have f1:=c.len;have d0:=a'.len;have s7:=S.sub;have ny:=S.jb;have a9:∀{Y kk us},v8 m7 Y y kk us->dh m Y:=λg z o B=>g.bj z o (s7 z o B) (λe3=>da);refine⟨b,off,ea,aC,aC,x,.ay (rd.mono R),B0,c9,λk Y hx=>hx=h1/\aCJ m7 Y h1 y (gw gA (jF on) (E.take k)),BA,⟨x,c9,rfl,b',rfl⟩,⟨rfl,⟨[],_,v8.new S.y_,λk=>by grind[gw,eN.nil]⟩⟩,?_,?_⟩
 .rintro k e Y hx hk-⟨rfl,⟨kk,uk,g,hg⟩⟩
  have⟨r,hr,hv⟩:=a'.im hk;have L:=si hr;have T:jY r.length (jF on):=by rw[c.gi r L];exact c3
  have mc:=g.bj b7 _ S.c_ S.yc;have C:aK Y hx b7 0 [Value.map (some y)]:=.i mc rfl;have rb:aK Y hx b2 0 [fW sb]:=.i (g.bj b2 _ S.b_ S.yb) rfl;refine⟨sb,rb,e,sb,r,jF on,rfl,hv,c6,T,aB (λF=>?_) (λF=>?_)⟩
  .have hl:(uk (gA (pick r (jF on)))).length<=502633886983:=by
    have h5:=(hg (gA (pick r (jF on)))).len
    grind[gw,gA,jF,pick,length_filter_le]
   have jm:=fun{s:Sl}=>g.jm (hx:=hx) (e:=e) (s:=s) (Q:=λm'=>hx=hx/\aCJ m7 m' hx y (gw gA (jF on) (E.take (k+1)))) ⟨_,S.y_⟩ ⟨_,S.c_⟩ mc hl (λm' f6 g'=>⟨rfl,aCJ.dv g' hg hv (by simp_all[nO,K7]) (λk2 f7=>by rw[K7 hr,if_neg,append_nil];grind)⟩);exact⟨sb,rb,e,sb,r,jF on,rfl,hv,c6,c.row r L,T,hT.sub (a9 g),y,C,y,C,⟨C,g.kz (λU=>⟨C,C,C,C,jm U⟩) (λs U=>⟨C,C,C,C,jm U⟩)⟩,C,C,C,g.kz (λU=>⟨C,C,jm U⟩) (λs U=>⟨C,C,jm U⟩)⟩
  .refine⟨rfl,⟨kk,uk,g,λk2=>?_⟩⟩;rw[K7 hr,if_neg,append_nil]
   .exact hg k2
   grind[nO]
 .rintro Y hx-⟨rfl,gr⟩ Z m5 d1 a0;rw[d0,take_length]at gr
  have V:∀{z o},Y z=some o->m5 z=some o/\z≠Z:=fun{z o} B=>by
   have:z≠Z:=λe3=>by rw[e3,d1.m_]at B;cases B
   exact⟨by rw[a0.ai z this];exact B,this⟩
  have s5:dh m Y:=by
   have⟨kk,uk,g,_⟩:=gr.ex;exact a9 g
  have⟨s6,n7⟩:=mM s5 d1 a0;have⟨kk,uk,g,hg⟩:=gr.ex;refine⟨b6,c7,e0,aC,aC,x6,.ay (e4.mono R),B0,us,λk my hy=>PH.le hx hy/\HZ m5 my Z/\∃M,uO m5 my Z M/\eN hy M ((l.take k).flatMap (mC on E)),BA,⟨x6,us,rfl,d',rfl⟩,⟨.refl _,λz o e _=>e,[],uO.new a0.y,by grind[eN.nil]⟩,?_,?_⟩
  .rintro k e my hy hk-⟨le,O,M,J,b3⟩
   have⟨r,hr,hv⟩:=b0.im hk;have f8:=(sg hk);have L:=si hr;have d2:∀z o,Y z=some o->my z=some o:=λz o B=>O z o (V B).1 (V B).2;have g7:=g.br d2;have C:aK my hy b7 0 [Value.map (some y)]:=.i (g7.bj b7 _ S.c_ S.yc) rfl;have r3:aK my hy b1 0 [fW sa]:=.i (g7.bj b1 _ S.a_ S.ya) rfl;have T:jY r.length (jI on):=by rw[D.gi r L];exact e'
   have b4:=bF.mono hv le;refine⟨sa,r3,e,sa,r,jI on,rfl,b4,c5.mono le,T,aB (λF=>?_) (λF=>?_)⟩
   .refine⟨le,O,M,J,?_⟩;simp_all[mC,nO,if_neg,Ed,append_nil]
   .have F:(pick r (jI on)).all kF=true:=da
    have e6:gw gA (jF on) E (gA (pick r (jI on)))=E.filter λy=>nO (jF on) y&&ct on r y:=by
     refine filter_congr λz hz=>?_;congr 1;have h5:=Pd S9 (D.row r L) (c.row z hz) T (by rw[c.gi z hz];exact c3)
     grind
    have d3:mC on E r=(gw gA (jF on) E (gA (pick r (jI on)))).map (r++ ·):=by rw[e6];exact if_pos (by grind[nO])
    have d4:((l.take k).flatMap (mC on E)).length+(gw gA (jF on) E (gA (pick r (jI on)))).length<=8000000:=by
     have h5:((l.take (k+1)).flatMap (mC on E)).length<=(l.take (k+1)).length*E.length:=AP λx _=>CP;rw[Ed _ hr,sj,d3,length_map]at h5;have h6:(l.take (k+1)).length*E.length<=l.length*E.length:=Nat.mul_le_mul_right _ da;omega
    have f2:∀s,Ie kk (gA (pick r (jI on))) s->cH Y s 75 1 ((uk (gA (pick r (jI on)))).map eS):=λs U=>(U.row g).1;generalize hG:gw gA (jF on) E (gA (pick r (jI on)))=G at d3 d4;have a6:=hg (gA (pick r (jI on)));rw[hG]at a6;have d5:=a6.len;refine⟨y,C,sa,r3,C,e,sa,r,jI on,rfl,b4,c5.mono le,D.row r L,T,hT.sub (s6.x n7 O),C,r3,g7.kz (λU=>?_) (λs U=>?_)⟩
    .refine⟨λz=>z.1<=G.length/\z.2.1=Z/\z.2.2.1=e/\z.2.2.2.1=(⟨none,0,0⟩:Sl)/\PH.le hy z.2.2.2.2.2/\HZ m5 z.2.2.2.2.1 Z/\∃f,uO m5 z.2.2.2.2.1 Z f/\eN z.2.2.2.2.2 f ((l.take k).flatMap (mC on E)++(G.take z.1).map (r++ ·)),λz=>G.length-z.1,⟨(0,Z,e,(⟨none,0,0⟩:Sl),my,hy),⟨bu,rfl,rfl,rfl,.refl _,O,M,J,da⟩,MT⟩,?_⟩;rintro⟨i,bb,ee,gg,mz,hz⟩⟨hi,e1,B,e3,H,I,f,d,W⟩;dsimp only at hi e1 B e3 H I d W;subst e1 B e3;have gz:=g.br (λz o B=>I z o (V B).1 (V B).2);have n:=(U.row gz).1;have b5:=n.e;rw[length_map,d5]at b5;refine aE (λa1=>?_) (λc'=>?_)
     .dsimp only at a1⊢
      have c0:i<G.length:=by omega
      have⟨u,hu,d6⟩:=a6.y i _ (sh c0);have⟨b8,e8,e9⟩:=n.rd (h:=hz) (i:=i) (e:=[fW u]) aC;have⟨so,a2,P,a3⟩:=d.ex;have A:∀hh,aK mz hh bb 0 [fW so]:=λhh=>.i a2 rfl;have a4:=W.len;simp only[sj,length_map,length_take]at a4;refine⟨b8,0,e8,aC,aC,u,aC,so,A _,A _,A _,λs2 h3 X a7=>⟨s2,[r,G[i]],rfl,?_,bu,?_,λsl h4 a8 d7=>⟨A _,A _,Mr ⟨_,a0.y⟩ I a2 P a3 aC (λm' c1 c2=>⟨(i+1,bb,ee,⟨none,0,0⟩,m',h4),⟨aC,rfl,rfl,rfl,H.trans (X.trans a8),c1,f++[sl],c2,?_⟩,aC,?_⟩)⟩⟩⟩
      .omega
      .omega
      .omega
      omega
     .dsimp only at c'⊢
      have:i=G.length:=da
      subst this;refine⟨le.trans H,I,f,d,?_⟩
      grind[Ed]
    .refine⟨λz=>z.1<=G.length/\z.2.1=Z/\z.2.2.1=e/\z.2.2.2.1=s/\PH.le hy z.2.2.2.2.2/\HZ m5 z.2.2.2.2.1 Z/\∃f,uO m5 z.2.2.2.2.1 Z f/\eN z.2.2.2.2.2 f ((l.take k).flatMap (mC on E)++(G.take z.1).map (r++ ·)),λz=>G.length-z.1,⟨(0,Z,e,s,my,hy),⟨bu,rfl,rfl,rfl,.refl _,O,M,J,da⟩,MT⟩,?_⟩;rintro⟨i,bb,ee,gg,mz,hz⟩⟨hi,e1,B,e3,H,I,f,d,W⟩;dsimp only at hi e1 B e3 H I d W;subst e1 B e3;have gz:=g.br (λz o B=>I z o (V B).1 (V B).2);have n:=(U.row gz).1;have b5:=n.e;rw[length_map,d5]at b5;refine aE (λa1=>?_) (λc'=>?_)
     .dsimp only at a1⊢
      have c0:i<G.length:=by omega
      have⟨u,hu,d6⟩:=a6.y i _ (sh c0);have⟨b8,e8,e9⟩:=n.rd (h:=hz) (i:=i) (e:=[fW u]) (by rw[getElem?_map,hu];rfl);have⟨so,a2,P,a3⟩:=d.ex;have A:∀hh,aK mz hh bb 0 [fW so]:=λhh=>.i a2 rfl;have a4:=W.len;simp only[sj,length_map,length_take]at a4;refine⟨b8,0,e8,aC,aC,u,da,so,A _,A _,A _,λs2 h3 X a7=>⟨s2,[r,G[i]],rfl,?_,bu,?_,λsl h4 a8 d7=>⟨A _,A _,Mr ⟨_,a0.y⟩ I a2 P a3 aC (λm' c1 c2=>⟨(i+1,bb,ee,gg,m',h4),⟨aC,rfl,rfl,rfl,H.trans (X.trans a8),c1,f++[sl],c2,?_⟩,aC,?_⟩)⟩⟩⟩
      .refine eN.rows (us:=[ee,u]) ?_ a7 bu;refine⟨rfl,λj z hj=>?_⟩
       match j,hj with
       |0,hj=>
        simp at hj;subst hj;exact⟨ee,rfl,bF.mono b4 (H.trans X)⟩
       |1,hj=>
        simp at hj;subst hj;exact⟨u,rfl,bF.mono d6 (le.trans (H.trans X))⟩
      .intro z a5;have a5:z∈[r,G[i]]:=a5;rcases mem_cons.1 a5 with rfl|a5
       .exact(D.row _ L).len
       .have e7:=mem_singleton.1 a5
        have:z∈E:=by
         grind
        exact(c.row _ this).len
      .have e7:(G.take (i+1)).map (r++ ·)=(G.take i).map (r++ ·)++[r++G[i]]:=by grind[sy,sh,sn]
       rw[e7,<-append_assoc];exact(W.mono (X.trans a8)).cw da
      .dsimp only;exact⟨rfl,rfl,rfl,rfl,by grind[fH],MT⟩
     .dsimp only at c'⊢
      have:i=G.length:=by omega
      subst this;refine⟨le.trans H,I,f,d,?_⟩
      grind[Ed]
  .rintro my hy f9⟨le,O,M,J,b3⟩;rw[e5,take_length]at b3;have⟨s,hb,n,f'⟩:=J.ex;refine⟨s,.i hb rfl,dR.row (s6.x n7 O) (R.trans le) n (λj z e=>?_) (λh' d8 a7=>hK s h' (R.trans (le.trans d8)) ((b3.mono d8).rows a7 ?_))⟩
   .cases B:m z with
    |none=>rfl
    |some o=>have e1:=f' j z e;rw[s6 z o B]at e1;cases e1
   .have h5:(l.flatMap (mC on E)).length<=l.length*E.length:=AP λx _=>CP;omega
def cvQ:=Ym [(203,cWQ),(223,cRJ)] [(7,{A:=Nat×Nat×Nat×MH×PH,st:=λ⟨b,c,r,m,h⟩=>bO 35 37 [(2,vv (.pointer (some ⟨b,0,none⟩))),(5,vv (.pointer (some ⟨c,0,none⟩))),(26,vv (.pointer (some ⟨r,0,none⟩)))] [] m h})] [] [200002,200005,1095,400000,0]
abbrev r9(a:Nat×Nat×Nat×MH×PH):=a.2.2
abbrev SL(a:tz->tz->Prop):=∃x c,a x c
attribute [push_cast] r9 SL
def Pz(v:QV)(u:Nat):ST:=λm h K=>∀b M,eT m h b->cF m M b v.ag 68->MF M h 243 (λt U=>∃S,Aa S h u U (λI k e g d=>I k g d->lI g d b 17 (λy=>G7 e y d (λr _=>YZ r) (λr c=>tD r c/\kN g/\∃f,aK g d t 0 (bZ f)/\∃A,let Z:=λl C z=>hU l (eK r c) C z;let N:=λx=>cH g jT 75 1 x/\cJ (fS x 1*24)/\fA x/\fY (λs n=>cL g n jT s 75 1 (iI x e)->aK n d t 0 (bZ f)/\aK n d t 0 (bZ A)/\tM n f (λO=>mG 9 O) (λO=>O (eK r c)) (eK r c) (λB=>∀j,kM n j f->pZ j f (hU B (eK r c) (fW s) [])->I (dG k) j d) Z (λl z=>∀j,kM n j f->pZ j f (hU l (eK r c) (fW s) z)->I (dG k) j d));aK g d t 0 (bZ A)/\(aK g d t 0 (bZ f)/\Ac g A (λO=>mG 9 O) (λO=>O (eK r c)) (eK r c) (wS (aK g d t 0 (bZ f)) (aK g d t 0 (bZ A)) (aK g d t 0 (bZ f)) (aK g d t 0 (bZ A)) N) (λG=>wS (aK g d t 0 (bZ f)) (aK g d t 0 (bZ A)) (aK g d t 0 (bZ f)) (aK g d t 0 (bZ A)) (λx=>cH g (bK G) 75 1 x/\cJ (fS x 1*24)/\fA x/\fY (λs n=>cL g n (bK G) s 75 1 (iI x e)->aK n d t 0 (bZ f)/\aK n d t 0 (bZ A)/\tM n f (λO=>mG 9 O) (λO=>O (eK r c)) (eK r c) (λB=>∀j,kM n j f->pZ j f (hU B (eK r c) (fW s) [])->I (dG k) j d) Z (λl z=>∀j,kM n j f->pZ j f (hU l (eK r c) (fW s) z)->I (dG k) j d)))))/\aK g d t 0 (bZ f)/\aK g d t 0 (bZ A)/\aK g d t 0 (bZ f)/\Ac g A (λO=>mG 9 O) (λO=>O (eK r c)) (eK r c) (uF (aK g d t 0 (bZ f)) (aK g d t 0 (bZ A)) N) (λG=>uF (aK g d t 0 (bZ f)) (aK g d t 0 (bZ A)) (λx=>cH g (bK G) 75 1 x/\cJ (fS x 1*24)/\fA x/\fY (λs n=>cL g n (bK G) s 75 1 (iI x e)->aK n d t 0 (bZ f)/\aK n d t 0 (bZ A)/\tM n f (λO=>mG 9 O) (λO=>O (eK r c)) (eK r c) (λB=>∀j,kM n j f->pZ j f (hU B (eK r c) (fW s) [])->I (dG k) j d) Z (λl z=>∀j,kM n j f->pZ j f (hU l (eK r c) (fW s) z)->I (dG k) j d))))))) (λg d=>∃y,aK g d t 0 (bZ y)/\∃k,lN (pZ g y k) (λr=>∀n,eT g d r->kM g n r->pD n y r k k->∃(I:Nat× Nat×Nat×MH×PH->Prop)(j:Nat×Nat×Nat×MH×PH->Nat),(∃x,I x/\fL b x.1/\fL t x.2.1/\fL r (r9 x).1/\eV (fK n (r9 x)) (dH d (r9 x).2))/\∀x,I x->∃P,SL (λB l=>pD (cA (r9 x)) P (r9 x).1 B l/\(l=[]->∃f,aK (cA (r9 x)) (bW (r9 x)) x.2.1 0 (bZ f)/\K (.val (.map (some f))) (cA (r9 x)) (bW (r9 x)))/\∀z Q R,l=z++Q::R->∀F,kM (cA (r9 x)) F (r9 x).1->H0 F P (r9 x).1 B (z++R) Q->∃V,SL (λW X=>∃T,H0 F V (r9 x).1 W X T/\∃(s:_)(H:_)(C:QV)(o:_)(w:_)(p:_),nN (.val T.2) (vB 227 (D7 x.1))=j8 s (vB 227 (D7 H))/\F H=some (gU (.mk C.ag) 68 0)/\(∀i,jP (aR s.a H i))/\lF (bW (r9 x)) C.bh o/\ME F s 1 p/\(∀D,List.Mem D p->bF (bW (r9 x)) D.1 D.2)/\(∀D,List.Mem D p->D.2.length=w)/\cJ p.length/\∀D J,List.Perm D p->List.Pairwise (λY=>λq=>¬(lP o q.2 Y.2<0)) D->ME J s 1 D->(∀L,(∀i,jP (aR s.a L i))->J L=F L)->∃E,I E/\j E<j x/\fL x.1 E.1/\fL x.2.1 E.2.1/\kO (fL (r9 x).1 (r9 E).1) (fK J (r9 E)) (dH (bW (r9 x)) (r9 E).2))))))
def sS(κ:to->ByteArray)(gr:ti)(l:tj)(k:ByteArray):=l.filter λz=>decide (κ (pick z gr)=k)
def yX(od:tp)(l:tj):=l.Pairwise λa b=>¬lP od b a<0
structure zM(κ:to->ByteArray)(m:MH)(h:PH)(y:Nat)(gr:ti)(od:tp)(l:tj)(kk:un)(g:ByteArray->tj):Prop where
 kc:pZ m y (kk.map λp=>(.string p.1,fW p.2))
 fp:(kk.map Prod.fst).Nodup
 rows:∀p∈kk,Rows h p.2 (g p.1)
 gp:∀k,k∉kk.map Prod.fst->g k=[]
 ku:∀k,(g k).Perm (sS κ gr l k)
 sort:∀k,yX od (g k)
def YL:AC:=λc m h K=>∃v u gr od l w,c=[aQ v,.val (.func (.func 174) #[] #[.pointer (some ⟨u,0,none⟩)])]/\an h v.be gr/\lF h v.bh od/\UC h u l/\lT w l/\jY w gr/\kN m/\
 ∀y d e f g,m y=none->(∀b,b≠y->d b=m b)->PH.le h e->zM gA d e y gr od l f g->K (.val (.map (some y))) d e
structure dyJ(m:MH)(h:PH)(od:tp)(p:ByteArray×Sl)(f:ByteArray->tj)(st:Prop):Prop where
 ex:∃ps:uu,cH m p.2 75 1 (ps.map λq=>eS q.1)/\(∀q∈ps,bF h q.1 q.2)/\(ps.map Prod.snd).Perm (f p.1)/\(st->yX od (ps.map Prod.snd))
def leftOf(m:MH)(r:Nat):Nat:=match m r with
 |some (.mapIter (some b) _ c _)=>(match m b with|some (.map d _)=>(d.toList.filter λe=>!c.contains e.born).length|_=>0)
 |_=>0
theorem pD.jj{r d left}(i:pD m b r d left):leftOf m r=left.length:=by
 have⟨g,c,e,f,j,n,_,_,_,o,_,_,_,t⟩:=i.ex
 grind[leftOf]
theorem pD.mem{r d left}(i:pD m b r d left){x}(hx:x∈left):x∈d:=by
 have⟨g,c,e,f,j,n,o,_,_,t,_,_,_,u⟩:=i.ex
 grind
theorem pD.br{r e left}(i:pD m b r e left)(n:m' b=m b)(o:m' r=m r):pD m' b r e left:=by
 have⟨g,c,d,f,j,t,u⟩:=i.ex;exact⟨g,c,d,f,j,da,da⟩
theorem pD.fp{r d left}(i:pD m b r d left)(g:d.Nodup):left.Nodup:=by
 have⟨j,c,e,f,n,o,t,_,_,u,_,_,_,y⟩:=i.ex
 grind
theorem dSJ{us rs}(c:eN h us rs):∃ps:uu,ps.map Prod.fst=us/\ps.map Prod.snd=rs/\∀q∈ps,bF h q.1 q.2:=by
 refine⟨us.zip rs,map_fst_zip (Nat.le_of_eq c.len),map_snd_zip (Nat.le_of_eq c.len.symm),λq e=>?_⟩;have⟨i,d⟩:=mem_iff_getElem?.1 e;rw[getElem?_zip_eq_some]at d;have⟨u,f,g⟩:=c.y i _ d.2
 grind
theorem cH.ig{s}{us:tq}(g:cH m s 75 1 (us.map eS))(E:∀b c,s.a=some ⟨b,0,none⟩->m b=some (.cells c 75 (0,0))->∀i,h b i=c[i]?):bT h s 1 (us.map eS):=by
 rcases g.ex with⟨rfl,o⟩|⟨b,t,c,rfl,F,y,G,H,I⟩
 .grind[bT.nil]
 .refine⟨bu,?_,y⟩;by_cases z:us.map eS=[]
  .exact .inl z
  .refine .inr ⟨b,0,rfl,λi e d=>⟨λj v n=>?_⟩⟩;have A:=g.rows.len e (si d);have B:j=0:=da
   subst B;have C:=(sg d)
   have J:((us.map eS).flatten)[i]?=some v:=by
    rw[getElem?_map]at d;cases f:us[i]? with
    |none=>grind
    |some u=>
     rw[f]at d;simp at d;subst d;simp[eS]at n;subst n
     have:∀l:tq,(l.map eS).flatten=l.map λu=>Value.slice u.a u.len u.cap:=λl=>by
      induction l with
      |nil=>rfl
      |cons a l D=>simp only[map_cons,flatten_cons,D];rfl
     grind
   grind
theorem Ya{c:un}(f:(c.map Prod.fst).Nodup){p q}(d:p∈c)(g:q∈c)(e:p.1=q.1):p=q:=by
 induction c with
 |nil=>cases d
 |cons a c j=>
  grind
theorem Z2{κ:to->ByteArray}{M R:MH}{F A y r l d uk}(S:dh m M)(ny:m y=none)(m4y:M y=some (.map #[] 0))(g:v8 M R y d uk)(hg:∀k,eN A (uk k) (sS κ gr l k))(le:PH.le h A)(a0:l.length<=8000000)(T:∀b o,R b=some o->(∀p∈d,∀i,p.2.a≠some ⟨b,i,none⟩)->F b=some o)(U:pD F y r (d.map λp=>(.string p.1,fW p.2)) [])(t:∀p∈d,dyJ F A od p (sS κ gr l) ((.string p.1,fW p.2)∉([]:tz)))(hK:∀y m2 f d g,m y=none->(∀b,b≠y->m2 b=m b)->PH.le h f->zM κ m2 f y gr od l d g->K (.val (.map (some y))) m2 f):dR h K (.val (.map (some y))) F A:=by
 intro hd;have C:∀b o,M b=some o->∀p∈d,∀i,p.2.a≠some ⟨b,i,none⟩:=λb o e p n i I=>by rw[g.f p n b i I]at e;cases e
 have L:dh m R:=λz o I=>g.bj z o (S z o I) (λe3=>da)
 classical
 let B:Nat->Prop:=λb=>∃p∈d,p.2.a=some ⟨b,0,none⟩
 have hB:∀b,B b->m b=none/\b≠y/\∀i,A b i=none:=by
  rintro b⟨p,n,e⟩;have⟨ps,D,_⟩:=(t p n).ex;refine⟨?_,λI=>?_,hd b _ (D.cj e).choose_spec⟩
  .cases I:m b with
   |none=>rfl
   |some o=>exact(C b o (S b o I) p n 0 e).elim
  grind
 let f:PH:=λb i=>if B b then(match F b with|some (.cells cs _ _)=>cs[i]? |_=>none)else A b i
 have H:PH.le A f:=⟨λb i v e=>by
  grind⟩
 have a1:∀p∈d,∃G,Rows f p.2 G/\G.Perm (sS κ gr l p.1)/\yX od G:=λp n=>by
  have⟨ps,D,h3,h4,J⟩:=(t p n).ex;refine⟨ps.map Prod.snd,?_,h4,J bu⟩;have e5:(ps.map λq=>eS q.1)=(ps.map Prod.fst).map eS:=bz
  rw[e5]at D
  have V:bT f p.2 1 ((ps.map Prod.fst).map eS):=cH.ig D λb W X hm i=>by
   show(if B b then _ else A b i)=_;rw[if_pos ⟨p,n,X⟩,hm]
  refine eN.rows (us:=ps.map Prod.fst) ⟨bu,λj x O=>?_⟩ V ?_
  .rw[getElem?_map]at O;cases P:ps[j]? with
   |none=>grind
   |some q=>
    rw[P]at O;have O:q.2=x:=da
    exact⟨q.1,da,O▸bF.mono (h3 q (si P)) H⟩
  .have:=h4.length_eq
   grind[sS,length_filter_le]
 let G:ByteArray->tj:=λk=>if e:∃p G,p∈d/\p.1=k/\Rows f p.2 G/\G.Perm (sS κ gr l p.1)/\yX od G then e.choose_spec.choose else[]
 have hG:∀p∈d,Rows f p.2 (G p.1)/\(G p.1).Perm (sS κ gr l p.1)/\yX od (G p.1):=λp n=>by
  have Y:∃u G,u∈d/\u.1=p.1/\Rows f u.2 G/\G.Perm (sS κ gr l u.1)/\yX od G:=by
   grind
  have P:G p.1=Y.choose_spec.choose:=dif_pos Y;rw[P];have⟨J,h6,h7⟩:=Y.choose_spec.choose_spec
  have tr:∀u G',u∈d->u.1=p.1->(Rows f u.2 G'/\G'.Perm (sS κ gr l u.1)/\yX od G')->Rows f p.2 G'/\G'.Perm (sS κ gr l p.1)/\yX od G':=λu G' D f h3=>by
   have e7:=Ya g.fp D n f
   grind
  exact tr _ _ J h6 h7
 have hN:∀k,k∉d.map Prod.fst->G k=[]/\sS κ gr l k=[]:=λk E=>by
  refine⟨dif_neg ?_,?_⟩
  .grind
  .have J:=(hg k).len;rw[g.gp k E]at J
   grind
 have⟨es,c,Z,a',c0,i1,i2,i3,i4,_⟩:=U.ex;refine⟨λb=>if b=y then F y else m b,f,λb o e=>?_,le.trans H,λb i v' e=>?_,hK y _ f d G ny (λb Q=>if_neg Q) (le.trans H) ⟨⟨es,c,(if_pos rfl).trans i1,i2,i3,i4⟩,g.fp,λp n=>(hG p n).1,λk E=>(hN k E).1,λk=>?_,λk=>?_⟩⟩
 .have e:(if b=y then F y else m b)=some o:=e;split at e
  .grind
  .exact T b o (L b o e) (C b o (S b o e))
 .have e:(if B b then _ else A b i)=some v':=e;split at e
  .rename_i Q;have J:=hB b Q;obtain⟨p,n,X⟩:=Q;have⟨ps,D,_⟩:=(t p n).ex;have⟨W,hm⟩:=D.cj X;simp_all
  grind
 .by_cases E:k∈d.map Prod.fst
  .obtain⟨p,n,rfl⟩:=mem_map.1 E
   grind
  grind
 .by_cases E:k∈d.map Prod.fst
  .obtain⟨p,n,rfl⟩:=mem_map.1 E
   grind
  .rw[(hN k E).1];exact List.Pairwise.nil
theorem Z1{κ:to->ByteArray}{V J L M:MH}{X:PH}{y r w:Nat}{gr:ti}{od:tp}{l n uk left Y Z x}(m4y:V y=some (.map #[] 0))(g:v8 V J y n uk)(O:lT w l)(a6:J r=none)(a7:∀b o,J b=some o->(∀p∈n,∀i,p.2.a≠some ⟨b,i,none⟩)->L b=some o)(P:pD L y r (n.map λp=>(.string p.1,fW p.2)) left)(D:∀p∈n,dyJ L X od p (sS κ gr l) ((.string p.1,fW p.2)∉left))(a':left=Y++x::Z)(C:kM L M r)(a0:H0 M y r (n.map λp=>(.string p.1,fW p.2)) (Y++Z) x):
 ∃(c:ByteArray×Sl)(ps:_),x=(.string c.1,fW c.2)/\(∀b o,V b=some o->b≠y->M b=some o/\∀i,c.2.a≠some ⟨b,i,none⟩)/\cH M c.2 75 1 (ps.map λp=>eS p.1)/\(∀p∈ps,bF X p.1 p.2)/\(∀p∈ps,p.2.length=w)/\ps.length<=l.length/\
  ∀(t:uu)(E:_),t.Perm ps->t.Pairwise (λp q=>¬lP od q.2 p.2<0)->cH E c.2 75 1 (t.map λp=>eS p.1)->(∀b,(∀i,c.2.a≠some ⟨b,i,none⟩)->E b=M b)->
   (∀b o,J b=some o->(∀p∈n,∀i,p.2.a≠some ⟨b,i,none⟩)->E b=some o)/\(∃left,pD E y r (n.map λp=>(.string p.1,fW p.2)) left/\∀p∈n,dyJ E X od p (sS κ gr l) ((.string p.1,fW p.2)∉left))/\leftOf E r<leftOf L r:=by
 have G:∀p∈n,∀x i,p.2.a=some ⟨x,i,none⟩->∃o,J x=some o:=λp B x i W=>⟨_,((g.row p B).cj W).choose_spec⟩
 have H:∀{z o},J z=some o->z≠r:=fun{z o} W e3=>da
 have a1:x∈left:=da
 obtain⟨c,d,rfl⟩:=mem_map.1 (pD.mem P a1);have⟨ps,h1,h3,h4,h5⟩:=(D c d).ex;have F:∀b o,V b=some o->∀p∈n,∀i,p.2.a≠some ⟨b,i,none⟩:=λb o e p B i W=>by rw[g.f p B b i W]at e;cases e
 have u:∀p∈n,∀b i,p.2.a=some ⟨b,i,none⟩->b≠r:=λp B b i e=>H (G p B b i e).choose_spec;have Q:=h4.length_eq;have a2:(sS κ gr l c.1).length<=l.length:=length_filter_le _ _;rw[length_map]at Q;refine⟨c,ps,rfl,λb o e a3=>⟨?_,F b o e c d⟩,cH.br h1 λb i e=>C.ai b (u c d b i e),h3,λq hq=>?_,aC,λt E A a4 I f=>?_⟩
 .have mb:=g.bj b o e a3;rw[C.ai b (H mb)]
  grind
 .have:q.2∈sS κ gr l c.1:=h4.mem_iff.1 (mem_map_of_mem hq);exact O.gi _ (mem_filter.1 this).1
 .have R:∀i,c.2.a≠some ⟨y,i,none⟩:=F y _ m4y c d;have S:∀i,c.2.a≠some ⟨r,i,none⟩:=λi e=>u c d r i e rfl;have T:pD E y r (n.map λp=>(Value.string p.1,fW p.2)) (Y++Z):=pD.br a0.it (f y R) (f r S);refine⟨λb o e hb=>?_,⟨_,T,λp B=>?_⟩,?_⟩
  .rw[f b (hb c d),C.ai b (H e)]
   grind
  .by_cases U:p=c
   .subst U;refine⟨t,I,λq hq=>h3 q (A.mem_iff.1 hq),(A.map _).trans h4,λ_=>?_⟩
    grind[yX]
   .have a5:p.1≠c.1:=λe=>U (Ya g.fp B d e);have⟨qs,g1,g3,g4,g5⟩:=(D p B).ex;refine⟨qs,cH.br g1 λb i e=>?_,g3,g4,λhn=>g5 λhl=>hn ?_⟩
    .rw[f b (λj=>g.apart p B c d a5 b i j e),C.ai b (u p B b i e)]
    grind
  .rw[pD.jj T,pD.jj P,a'];simp
theorem Tu:uz 208 YL:=by
 refine NZ func208 ?_;rintro c7 m h K⟨v,u,gr,od,l,w,rfl,b7,b8,sq,d,R,hT,hK⟩;refine⟨cvQ,rfl,aD HQ (aD anJ aG),Pz v u m h (dR h K),bt,?_⟩;show Pz v u m h (dR h K);dsimp only[Pz,push_cast];intro n m1 a2 E y m2 S t O m3 F A;have⟨s1,nq⟩:=mM (dh.refl m) a2 E;have⟨s2,ny⟩:=mM s1 S t;have⟨s3,nc⟩:=mM s2 F A;have G:n≠y:=λe=>by have:=S.m_;rw[<-e,E.y]at this;cases this
 have a3:m2 n=some (.cells ⟨QV.ag v⟩ 68 (0,0)):=by rw[t.ai n G];exact E.y
 have a4:n≠O:=λe=>by have:=F.m_;grind
 have H:y≠O:=λe=>by have:=F.m_;rw[<-e,t.y]at this;cases this
 refine⟨_,_,⟨A.y⟩,bu,λP B=>?_⟩;have s4:dh m P:=s3.dv nc B.ai;have T:P n=some (.cells ⟨QV.ag v⟩ 68 (0,0)):=by rw[B.ai n a4,A.ai n a4];exact a3
 have m4y:P y=some (.map #[] 0):=by rw[B.ai y H,A.ai y H];exact t.y
 have I:P O=some (.cells #[.map (some y)] 243 (0,0)):=B.y;have⟨us,a5,a6⟩:=sq.ex;have b9:=a6.len;have c':=d.len;clear E t A B a2 S F s1 s2 s3 a3;have a7:∀{j J us},v8 P j y J us->dh m j:=λg z o C=>g.bj z o (s4 z o C) (λe3=>da);refine⟨B0,us,λk j hx=>hx=h/\aCJ P j h y (sS gA gr (l.take k)),BA,⟨u,us,rfl,a5,rfl⟩,⟨rfl,⟨[],_,v8.new m4y,λk=>by grind[sS,eN.nil]⟩⟩,?_,?_⟩
 .rintro k e j hx hk-⟨rfl,⟨J,uk,g,hg⟩⟩
  have⟨r,hr,hv⟩:=a6.im hk;have a8:=si hr;have mc:=g.bj O _ I (Ne.symm H);have c:aK j hx O 0 [Value.map (some y)]:=.i mc rfl;have rq:aK j hx n 17 [fW v.be]:=.i (g.bj n _ T G) rfl
  have hl:(uk (gA (pick r gr))).length<=502633886983:=by
   have h5:=(hg (gA (pick r gr))).len
   grind[sS,gA,pick,length_filter_le]
  have jm:=fun{s:Sl}=>g.jm (hx:=hx) (e:=e) (s:=s) (Q:=λm'=>hx=hx/\aCJ P m' hx y (sS gA gr (l.take (k+1)))) ⟨_,m4y⟩ ⟨_,I⟩ mc hl (λm' c8 g'=>⟨rfl,aCJ.dv g' hg hv (by simp_all[sS,nB]) (λk2 c9=>by rw[sS,nB _ hr,if_neg da,append_nil];rfl)⟩);exact⟨v.be,rq,e,v.be,r,gr,rfl,hv,b7,d.row r a8,by rw[d.gi r a8];exact R,hT.sub (a7 g),y,c,y,c,⟨c,g.kz (λU=>⟨c,c,c,c,jm U⟩) (λs U=>⟨c,c,c,c,jm U⟩)⟩,c,c,c,g.kz (λU=>⟨c,c,jm U⟩) (λs U=>⟨c,c,jm U⟩)⟩
 .rintro j hx-⟨rfl,⟨J,uk,g,hg⟩⟩
  rw[b9,take_length]at hg;have mc:=g.bj O _ I (Ne.symm H);have mq:=g.bj n _ T G;refine⟨y,.i mc rfl,_,g.kc,λr m5 c0 c1 it=>?_⟩;have c2:j r=none:=c0.m_
  have a9:∀{z o},j z=some o->m5 z=j z/\z≠r:=fun{z o} C=>by
   have:z≠r:=λe3=>da
   exact⟨c1.ai z this,this⟩
  have V:∀p∈J,∀x i,p.2.a=some ⟨x,i,none⟩->∃o,j x=some o:=λp W x i C=>⟨_,((g.row p W).cj C).choose_spec⟩
  have c3:(J.map λp=>(Value.string p.1,fW p.2)).Nodup:=by
   have h5:=g.fp
   grind
  refine⟨λz=>z.1=n/\z.2.1=O/\z.2.2.1=r/\z.2.2.2.2=hx/\(∀b o,j b=some o->(∀p∈J,∀i,p.2.a≠some ⟨b,i,none⟩)->z.2.2.2.1 b=some o)/\∃left,pD z.2.2.2.1 y r (J.map λp=>(Value.string p.1,fW p.2)) left/\∀p∈J,dyJ z.2.2.2.1 hx od p (sS gA gr l) ((Value.string p.1,fW p.2)∉left),λz=>leftOf z.2.2.2.1 z.2.2.1,⟨(n,O,r,m5,hx),⟨rfl,rfl,rfl,rfl,λb o e _=>(a9 e).1.trans e,_,it,λp W=>?_⟩,MT⟩,?_⟩
  .have⟨ps,e1,C,e3⟩:=dSJ (hg p.1);refine⟨ps,?_,e3,by rw[C],λhn=>(hn (mem_map_of_mem (f:=λp:ByteArray×Sl=>(Value.string p.1,fW p.2)) W)).elim⟩;have e5:(ps.map λq=>eS q.1)=(uk p.1).map eS:=by rw[<-e1,map_map];rfl
   rw[e5];exact cH.br (g.row p W) λb i e=>(a9 (V p W b i e).choose_spec).1
  .rintro⟨b1,b2,b3,mz,hz⟩⟨e1,C,e3,e4,L,left,M,D⟩;dsimp only at e1 C e3 e4 L M D⊢
   subst e1 C e3 e4;refine⟨y,_,left,M,λX=>?_,λl1 x l2 c4 m6 c5 b'=>?_⟩
   .have b0:∀b o,P b=some o->∀p∈J,∀i,p.2.a≠some ⟨b,i,none⟩:=λb o e p W i C=>by rw[g.f p W b i C]at e;cases e
    subst X;exact⟨y,.i (L b2 _ mc (b0 b2 _ I)) rfl,Z2 s4 ny m4y g hg (.refl _) c' L M D hK⟩
   .obtain⟨p0,ps,rfl,b4,b5,hv,hw,d',Y⟩:=Z1 (m4y:=m4y) g d c2 L M D c4 c5 b';have hb:=b4 b1 _ T G;refine⟨y,_,_,_,b',p0.2,b1,v,od,w,ps,rfl,hb.1,hb.2,b8,b5,hv,hw,aC,λc6 m7 Z a' a0 b6=>?_⟩;have⟨k1,⟨a1,k2,k3⟩,k4⟩:=Y c6 m7 Z a' a0 b6;exact⟨(b1,b2,b3,m7,hz),⟨rfl,rfl,rfl,rfl,k1,a1,k2,k3⟩,k4,rfl,rfl,rfl,rfl,rfl,trivial⟩
def czZ:=Ym [(208,YL),(200,dxZ)] [(3,{A:=Nat×Sl×Nat×MH×PH,st:=λ⟨b,s,r,m,h⟩=>bO 29 31 [(2,vv (.pointer (some ⟨b,0,none⟩))),(5,sv s),(13,vv (.pointer (some ⟨r,0,none⟩)))] [] m h})] [(5,{A:=Nat×Sl×Sl×Nat×MH×PH,st:=λ⟨b,s,g,r,m,h⟩=>bO 29 31 [(2,vv (.pointer (some ⟨b,0,none⟩))),(5,sv s),(7,sv g),(13,vv (.pointer (some ⟨r,0,none⟩)))] [] m h})] [200002,1095,0]
abbrev O6(a:ti->tp->tj->Prop):=XR (λx c=>∃d,a x c d)
abbrev RB(a:Nat)(b:tj)(c:ti)(d:MH)(e g:Nat->Nat)(i:MH->MH)(j:Nat->MH->PH->un->(ByteArray->tj)->Prop):=lT a b/\jY a c/\kN d/\∀x,iK (λn o=>∀t u,Hx d (e x)->(∀f,jP (g f=e x)->(i n) f=d f)->j x n o t u)
abbrev lA(a:Nat×Sl×Nat×MH×PH):=a.2.2
abbrev sE a:=(lA a).1
abbrev Bg(a:Nat×Sl×Sl×Nat×MH×PH):=a.2.2.1
abbrev Ae(a:Nat×Sl×Sl×Nat×MH×PH):=a.2.2.2
attribute [push_cast] O6 RB lA sE Bg Ae
def PD(v:QV)(t:Sl):=λm h K=>∀b D,eT m h b->cF m D b v.ag 68->∃y,aK D h b 0 y.ag/\aM (λE o=>aR t.a E o/\(0:Int)<=0/\0<aF t/\∃F,aK D h E (fJ o) (xI F)/\∃J u,O6 (λg O l=>∃w,nN (i7 y) (w7 F)=nN (i7 J) (w7 u)/\an h J.be g/\lF h J.bh O/\UC h u l/\RB w l g D (λA=>A) (λG=>G) (λe=>e) (λA e f k V=>cO h f (zM gA e f A g O l k V) (aK e f b 0 y.ag/\aK e f E (fJ o) (xI F)/\∃L,lN (pZ e A L) (λr=>∀B,eT e f r->kM e B r->pD B A r L L->aK B f b 0 y.ag/\aK B f E (fJ o) (xI F)/\∃(I:Nat×Sl×Nat×MH×PH->Prop)(P:Nat×Sl×Nat×MH× PH->Nat),(∃x,I x/\fL b x.1/\qe=Zq x.2.1/\fL r (lA x).1/\eV (fK B (lA x)) (dH f (lA x).2))/\∀x,I x->∃G,SL (λQ M=>pD (cA (lA x)) G (sE x) Q M/\(M=[]->Ka (λs R=>∃z,mO x.2.1=mO s/\mH (cA (lA x)) (bW (lA x)) s 1 (lX R)/\eN (bW (lA x)) R z/\Ew z 502633886983/\rO (bW (lA x)) (AT z) K (cA (lA x))))/\∀z S T,M=z++S::T->∀H,kM (cA (lA x)) H (sE x)->H0 H G (sE x) Q (z++T) S->∃I1:Nat×Sl×Sl×Nat×MH×PH->Prop,(∃W,SL (λX Y=>∃c,H0 H W (sE x) X Y c/\∃d,I1 d/\fL x.1 d.1/\bC x.2.1 d.2.1/\SV.at (At.val c.2)=Zq (Bg d)/\kO (fL (sE x) (Ae d).1) (fK H (Ae d)) (dH (bW (lA x)) (Ae d).2)))/\∀c,I1 c->∃j,let N:=ite (aF (Bg c)<j) (aF (Bg c)) j;aK (cA (Ae c)) (bW (Ae c)) c.1 19 (bV j)/\0<=ite (aF (Bg c)<j) (aF (Bg c)) j/\xB N (Bg c)/\∃d,tG (cH (cA (Ae c)) (bK c.2.1) 75 1 d) (λC=>dA 1 C/\mH (cA (Ae c)) (bW (Ae c)) (Sl.mk (Bg c).a N.toNat (Bg c).cap) 1 C/\lK d C 24/\cJ (lL d C)/\fY (λs U=>cL (cA (Ae c)) U (bK c.2.1) s 75 1 (d++C)->∃n,I n/\P n<P x/\fL c.1 n.1/\bC s n.2.1/\kO (fL (Ae c).1 (lA n).1) (fK U (lA n)) (dH (bW (Ae c)) (lA n).2)))))))))
theorem P5{w:Nat}:∀{od:tp}{a b:to},Rl w od a b=0->a=b
 |[],_,_,h=>eX.1 h
 |(c,d)::r,a,b,h=>by
  rw[Rl]at h;generalize (if d then-lY (a.getD c.toNat al) (b.getD c.toNat al)else lY (a.getD c.toNat al) (b.getD c.toNat al))=x at h;split at h
  .split at h
   .omega
   .exact P5 h
  .exact P5 h
theorem Gw{w od a b}(c:a.length=w)(d:b.length=w):lP od a b= -lP od b a:=by
 rw[FU c d,FU d c];exact(Ot w od).io a b
theorem cbX{w a b}(c:a.length=w)(d:b.length=w)(h:lP od a b=0):a=b:=by
 rw[FU c d]at h;exact P5 h
theorem Qp{w:Nat}{od:tp}{x:to}:∀{G:tj}{n:Nat},yX od G->(∀r∈G,r.length=w)->G.Nodup->(x∈G.take n↔x∈G/\(G.countP λy=>decide (lP od y x<0))<n)
 |[],n,_,_,_=>bu
 |a::G,0,_,_,_=>bu
 |a::G,n+1,g,j,o=>by
  have g:=pairwise_cons.1 g;have o:=nodup_cons.1 o;have u:=Qp (x:=x) (G:=G) (n:=n) g.2 (λr z=>j r (mem_cons_of_mem _ z)) o.2;have c:=j a (mem_cons_self ..);rw[take_succ_cons,mem_cons,u,mem_cons,countP_cons];by_cases t:x=a
  .subst t;have A:¬lP od x x<0:=by have:=Gw (od:=od) c c;omega
   grind[decide,lP,countP_eq_zero]
  .by_cases d:x∈G
   .have f:=j x (mem_cons_of_mem _ d);have A:=g.1 x d;have B:=Gw (od:=od) c f;have C:lP od a x≠0:=λe=>t (cbX c f e).symm
    grind
   grind
theorem Ur{l}(h:iY l):l.Nodup:=by
 rw[nodup_iff_pairwise_ne];exact h.imp fun{a b} c e=>by subst e;have:=IY.io a a;omega
def xN gr x y:=cV (pick x gr) (pick y gr)==0
theorem Jj{x y}:xN gr x y=true↔pick x gr=pick y gr:=by
 simp_all[xN,beq_iff_eq,eX]
def zJ(gr:ti)(od:tp)(li:Int)(a b:tj):=a.filter λx=>decide (((b.countP λy=>xN gr x y&&decide (lP od y x<0):Nat):Int)<li)
def Zz(q:ae)(ls:List tj):=match q with|.mk _ _ _ _ _ gr od li _=>zJ gr od li (ls.getD 0 []) (ls.getD 0 [])
def O0(q:ae)(ls:List tj):=match q with|.mk _ _ _ _ _ gr _ li _=>1<=ls.length/\(∃w,lT w (ls.getD 0 [])/\jY w gr)/\0<=li
theorem clJ{κ}(e:ccJ κ){w l}(c:lT w l)(f:jY w gr){x y}(hx:YZ x)(g:x.length=w)(d:y∈l):κ (pick y gr)=κ (pick x gr)↔xN gr x y=true:=by
 rw[Jj];have:=e.inj (a:=pick y gr) (b:=pick x gr) (by simp[pick]) (Mq (c.row y d) (by rw[c.gi y d];exact f)) (Mq hx da)
 grind
theorem QN{κ}(c:ccJ κ){w l}(d:lT w l)(e:jY w gr){x}(hx:YZ x)(f:x.length=w):
 ((sS κ gr l (κ (pick x gr))).countP λy=>decide (lP od y x<0))=l.countP λy=>xN gr x y&&decide (lP od y x<0):=by
 grind[sS,countP_filter,countP_congr,clJ]
theorem awZ{α:Type}{p q:α->Bool}:∀{l:List α},(∀x∈l,¬(p x=true/\q x=true))->l.countP p+l.countP q=l.countP λx=>p x||q x
 |[],_=>rfl
 |a::l,h=>by
  have d:=awZ (l:=l) λx c=>h x (mem_cons_of_mem _ c)
  grind
theorem bSJ{κ}(z:ccJ κ){y w l j g}(e:zM κ m h y gr od l j g)(c:lT w l)(d:jY w gr)(A:0<=li) x:
 x∈zJ gr od li l l↔∃p∈j,x∈(g p.1).take li.toNat:=by
 have B:∀k r,r∈g k->r∈l/\κ (pick r gr)=k:=λk r o=>by
  have:=(e.ku k).mem_iff.1 o
  grind[sS]
 have C:∀k,(g k).Nodup:=λk=>(e.ku k).nodup_iff.2 ((Ur c.jw).sublist filter_sublist);have D:∀k,x∈(g k).take li.toNat↔x∈g k/\((g k).countP λy=>decide (lP od y x<0))<li.toNat:=λk=>Qp (e.sort k) (λr o=>c.gi r (B k r o).1) (C k)
 have E:x∈l->((g (κ (pick x gr))).countP λy=>decide (lP od y x<0))=l.countP λy=>xN gr x y&&decide (lP od y x<0):=λn=>by
  rw[(e.ku _).countP_eq];exact QN z c d (c.row x n) (c.gi x n)
 rw[zJ,mem_filter];constructor
 .rintro⟨n,u⟩;have u:=of_decide_eq_true u;have f:x∈g (κ (pick x gr)):=(e.ku _).mem_iff.2 (by simp[sS,n])
  have t:κ (pick x gr)∈j.map Prod.fst:=by
   by_cases t:κ (pick x gr)∈j.map Prod.fst
   .exact t
   .rw[e.gp _ t]at f;cases f
  grind
 grind
open Classical in
structure I7(κ:to->ByteArray)(gr:ti)(li:Int)(l:tj)(kk:un)(g:ByteArray->tj)(left:tz)(acc:tj):Prop where
 mem:∀x,x∈acc↔∃p∈kk,(Value.string p.1,fW p.2)∉left/\x∈(g p.1).take li.toNat
 cnt:acc.length+(l.countP λz=>decide (Value.string (κ (pick z gr))∈left.map Prod.fst))<=l.length
open Classical in
theorem I7.nm{κ gr li l c g}:I7 κ gr li l c g (c.map λp=>(Value.string p.1,fW p.2)) []:=by
 refine⟨λx=>⟨λe=>(by cases e),?_⟩,?_⟩
 .grind
 grind
theorem bQX{c:un}(d:(c.map Prod.fst).Nodup):(c.map λp=>(Value.string p.1,fW p.2)).Nodup:=by
 grind
open Classical in
theorem I7.step{κ:to->ByteArray}{m F:MH}{h:PH}{y G r:Nat}{gr:ti}{od li l f j g left d e c}(st:I7 κ gr li l j g left f)(t:zM κ m h y gr od l j g)(n:pD F G r (j.map λp=>(Value.string p.1,fW p.2)) left)(u:c∈j)(A:left=d++(Value.string c.1,fW c.2)::e):
 I7 κ gr li l j g (d++e) (f++(g c.1).take li.toNat):=by
 have B:=pD.fp n (bQX t.fp);rw[A]at B
 have E:(Value.string c.1,fW c.2)∉d++e:=λh=>by
  grind
 have C:∀x∈d++e,x∈left:=λx h=>da
 refine⟨λx=>?_,?_⟩
 .rw[mem_append,st.mem]
  grind
 .have H:Value.string c.1∉(d++e).map Prod.fst:=λh=>by
   have⟨z,D,o⟩:=mem_map.1 h;obtain⟨p,I,rfl⟩:=mem_map.1 (pD.mem n (C _ D));simp only[Value.string.injEq]at o;have:=Ya t.fp I u o
   grind
  have L:=awZ (l:=l) (p:=λz=>decide (Value.string (κ (pick z gr))∈(d++e).map Prod.fst)) (q:=λz=>decide (κ (pick z gr)=c.1)) (λz _⟨M,O⟩=>by
   grind)
  have P:(l.countP λz=>decide (Value.string (κ (pick z gr))∈(d++e).map Prod.fst)||decide (κ (pick z gr)=c.1))=l.countP λz=>decide (Value.string (κ (pick z gr))∈left.map Prod.fst):=by
   grind
  have Q:(sS κ gr l c.1).length=l.countP λz=>decide (κ (pick z gr)=c.1):=by grind[sS]
  have J:=(t.ku c.1).length_eq;have:=st.cnt;rw[sj,length_take];omega
theorem I7.done{κ}(n:ccJ κ){y w l e j g}(st:I7 κ gr li l j g [] e)(o:zM κ m h y gr od l j g)(c:lT w l)(d:jY w gr)(f:0<=li):zJ gr od li l l=AT e:=
 XG (c.jw.sublist filter_sublist) λx=>by rw[bSJ n o c d f,st.mem];simp
theorem cgJ{h s l li}(f:Rows h s l)(g:0<=li):(0<=if(s.len:Int)<li then(s.len:Int)else li)/\(if(s.len:Int)<li then(s.len:Int)else li)<=s.cap/\∃us:tq,bT h ⟨s.a,(if(s.len:Int)<li then(s.len:Int)else li).toNat,s.cap⟩ 1 (us.map eS)/\eN h us (l.take li.toNat)/\us.length<=l.length:=by
 obtain⟨⟨c,d,n,o⟩,_⟩:=f;have t:s.len=c.length:=by have:=d.len;grind
 have u:((if(s.len:Int)<li then(s.len:Int)else li).toNat)=min c.length li.toNat:=by omega
 have e:=d.cap;refine⟨aC,aC,c.take (min c.length li.toNat),?_,⟨da,λj x y=>?_⟩,cv⟩
 .grind[map_take,bT.cut]
 grind
theorem a0Z:uz 182 (Y0 O0 Zz):=by
 refine NZ func182 ?_;rintro c6 m h K⟨v,t,q,bs,ls,rfl,hq,ha,hT,a9,hK⟩;refine⟨czZ,rfl,aD Tu (aD Lu aG),PD v t m h (dR h K),bt,?_⟩;show PD v t m h (dR h K);dsimp only[PD,push_cast];obtain⟨op,ta,w,co,on,gr,od,li,args⟩:=q;obtain⟨c7,⟨wd,f,A⟩,W⟩:=a9;intro b m1 b0 X;have⟨s1,n1⟩:=mM (dh.refl m) b0 X;have b2:m1 b=some (.cells ⟨v.ag⟩ 68 (0,0)):=X.y;have⟨b1,off,x,ea,c8,rd,sq⟩:=ha.get (C9 (i:=0) aC);simp only[Zz]at hK;generalize ls.getD 0 []=l at hK f sq;have c9:=f.len;refine⟨v,.i b2 (take_length ..),b1,off,ea,aC,aC,x,.ay rd,v,x,gr,od,l,wd,rfl,hq.parts.az,hq.parts.bd,sq,f,A,hT.sub s1,λy m2 h2 kk g hy Y G U=>?_⟩;have yb:b≠y:=λe=>da
 have Z:m2 b=some (.cells ⟨v.ag⟩ 68 (0,0)):=da
 have s2:dh m m2:=λz o e=>by rw[Y z (λH=>by have:=s1 z o e;grind)];exact s1 z o e
 refine⟨.i Z (take_length ..),.ay (rd.mono G),_,U.kc,λr F I a' it=>?_⟩;have rb:b≠r:=λe=>by have:=I.m_;grind
 have b3:F b=some (.cells ⟨v.ag⟩ 68 (0,0)):=by rw[a'.ai b rb];exact Z
 have s3:dh m F:=λz o e=>by
  have:=s2 z o e;rw[a'.ai z (λH=>by rw[H,I.m_]at this;cases this)];exact this
 classical
 have b4:∃o,F y=some o:=by have⟨es,c,d,B,c0,P,_⟩:=it.ex;grind
 have a0:∃o,F r=some o:=by have⟨es,c,d,B,c0,P,i2,i3,i4,i5,_⟩:=it.ex;grind
 have yr:y≠r:=λe=>by
  have⟨es,c,P,_⟩:=U.kc;rw[e,I.m_]at P;cases P
 refine⟨.i b3 (take_length ..),.ay (rd.mono G),λz=>z.1=b/\z.2.2.1=r/\z.2.2.2.2=h2/\(∀x o,F x=some o->x≠r->z.2.2.2.1 x=some o)/\∃left Q u,pD z.2.2.2.1 y r (kk.map λp=>(Value.string p.1,fW p.2)) left/\cH z.2.2.2.1 z.2.1 75 1 (Q.map eS)/\(∀x i,z.2.1.a=some ⟨x,i,none⟩->F x=none)/\eN h2 Q u/\I7 gA gr li l kk g left u,λz=>leftOf z.2.2.2.1 z.2.2.1,⟨(b,⟨none,0,0⟩,r,F,h2),⟨rfl,rfl,rfl,λx o e _=>e,_,[],[],it,⟨qS [],.inl ⟨rfl,rfl⟩⟩,(λx i e=>by cases e),eN.nil _,.nm⟩,MT⟩,?_⟩
 .rintro⟨b',s,J,mz,hz⟩⟨e1,H,e3,R,left,Q,u,C,D,b5,L,rk⟩;dsimp only at e1 H e3 R C D b5 L rk⊢
  subst e1 H e3;have c4:u.length<=l.length:=by have:=rk.cnt;omega
  have d':=L.len;refine⟨y,_,left,C,λS=>?_,λl1 x1 l2 a1 m4 M O=>?_⟩
  .subst S;refine⟨s,Q,u,rfl,D.ko,L,aC,λs' h' a2 b6=>dR.sub (λz o e=>R z o (s3 z o e) (λH=>?_)) (G.trans a2) (hK s' h' (G.trans a2) ?_)⟩
   .have:=s2 z o e;rw[H,I.m_]at this;cases this
   .rw[rk.done S9 U f A W];exact b6
  .have b7:x1∈left:=da
   obtain⟨V,a3,rfl⟩:=mem_map.1 (pD.mem C b7);have n:∀{x},(∃o,F x=some o)->∀i,s.a≠some ⟨x,i,none⟩:=fun{x}⟨o,ho⟩ i e=>da
   have b8:m4 b'=some (.cells ⟨v.ag⟩ 68 (0,0)):=by rw[M.ai b' rb];grind
   have T:cH m4 s 75 1 (Q.map eS):=cH.br D λx i e=>M.ai x λH=>n a0 i (H▸e);refine⟨λc=>c=(b',s,V.2,J,m4,hz),⟨y,_,_,_,O,⟨(b',s,V.2,J,m4,hz),rfl,rfl,rfl,rfl,rfl,rfl,rfl,trivial⟩⟩,?_⟩;rintro c rfl;dsimp only;have a4:v.bg=li:=hq.parts.dm;have⟨c1,c2,a5,b9,c',d0⟩:=cgJ (li:=li) (U.rows V a3) W;have d1:=(U.ku V.1).length_eq;have c5:(sS gA gr l V.1).length<=l.length:=length_filter_le _ _;refine⟨li,.i b8 (by rw[<-a4];rfl),c1,c2,Q.map eS,T,a5.map eS,qS _,.ay b9,cv,cv,λs' m5 E=>?_⟩
   .have a6:∀x o,F x=some o->x≠J->m5 x=some o:=λx o e c3=>E.ai x o (by rw[M.ai x c3];grind) (n ⟨o,e⟩)
    have a7:pD m5 y J (kk.map λp=>(Value.string p.1,fW p.2)) (l1++l2):=by
     have⟨es,c,d,B,c0,P,i2,i3,i4,i5,_⟩:=O.it.ex;exact pD.br O.it (by rw[P];exact E.ai y _ P (n b4)) (by rw[i5];exact E.ai J _ i5 (n a0))
    refine⟨(b',s',J,m5,hz),⟨rfl,rfl,rfl,a6,_,Q++a5,u++(g V.1).take li.toNat,a7,?_,λx i e=>?_,L.jm c',rk.step U C a3 a1⟩,?_,rfl,rfl,rfl,rfl,rfl,trivial⟩
    .rw[sn];exact E.row
    .rcases E.f x i e with h5|⟨j,h5⟩
     .cases e6:F x with
      |none=>rfl
      |some o=>
       by_cases a8:x=J
       .have⟨es,c,d,B,c0,P,i2,i3,i4,i5,_⟩:=O.it.ex
        grind
       .rw[M.ai x a8,R x o e6 a8]at h5;cases h5
     grind
    .show leftOf m5 J<leftOf mz J;rw[pD.jj a7,pD.jj C,a1];simp
def bCX:AC:=λc m h K=>∃(n d e f:Nat)(v:_)(od:_)(g s:_)(rs:_)(r:_)(w:_),c=[cI n,.val (.func (.func 210) #[] #[.pointer (some ⟨d,0,none⟩),.pointer (some ⟨e,0,none⟩),.pointer (some ⟨f,0,none⟩)])]/\
 m d=some (.cells ⟨QV.ag v⟩ 68 (0,0))/\m e=some (.cells #[Sl.val g] 95 (0,0))/\m f=some (.cells #[Sl.val s] 75 (0,0))/\lF h v.bh od/\Rows h g rs/\bF h s r/\rs.length=n/\yX od rs/\(∀x∈rs,x.length=w)/\r.length=w/\
 K (cI ((rs.countP λy=>decide (lP od y r<0):Nat):Int)) m h
def czX:=Ym [(208,YL),(203,cWQ),(209,bCX)] [] [(2,{A:=Sl×Nat×Nat×MH×PH,st:=λ⟨t,b,c,m,h⟩=>bO 38 40 [(1,sv t),(2,vv (.pointer (some ⟨b,0,none⟩))),(5,vv (.pointer (some ⟨c,0,none⟩)))] [] m h}),
 (6,{A:=Nat×Nat×Nat×Nat×MH×PH,st:=λ⟨b,o,e,g,m,h⟩=>bO 38 40 [(2,vv (.pointer (some ⟨b,0,none⟩))),(6,vv (.pointer (some ⟨o,0,none⟩))),(7,vv (.pointer (some ⟨e,0,none⟩))),(8,vv (.pointer (some ⟨g,0,none⟩)))] [] m h})] [200002,200005,200006,200007,200008,1095,400000,0]
abbrev mN(a:Sl×Nat×Nat×MH×PH):=a.2.1
abbrev uD(a:Sl×Nat×Nat×MH×PH):=a.2.2
abbrev GY(a:MH)(b:Nat)(c:(Array Value)->tm)(d:MH->(Nat×Nat×Nat×Nat×MH×PH)->Prop):=i6 (λx e=>yA a b (gU x e 0)/\iP 0 x/\∀f,cF a f b (c x) e->∃g,d f g)
abbrev pP(a:Nat×Nat×Nat×Nat×MH×PH):=r9 a.2
abbrev G5(a:Nat×Nat×Nat×Nat×MH×PH->Prop)(b:Nat×Nat×Nat×Nat×MH×PH)(c:Sl×Nat×Nat×MH×PH)(d e g:Nat)(i:MH)(j:PH):=a b/\fL (mN c) b.1/\fL d b.2.1/\fL e b.2.2.1/\kO (fL g (pP b).1) (fK i (pP b)) (dH j (pP b).2)
attribute [push_cast] mN uD GY pP G5
def PC(v:QV)(t:Sl):ST:=λm h K=>∀b U,eT m h b->cF m U b v.ag 68->∃I:Sl×Nat×Nat×MH×PH->Prop,(∃y,aK U h b 0 y.ag/\aM (λJ o=>aR t.a J o/\(0:Int)<=1/\1<aF t/\∃C,aK U h J (dG o) (xI C)/\(∃P u,O6 (λg W l=>∃w,nN (i7 y) (w7 C)=nN (i7 P) (w7 u)/\an h P.be g/\lF h P.bh W/\UC h u l/\RB w l g U (λD=>D) (λz=>z) (λQ=>Q) (λD Q d k X=>cO h d (zM gA Q d D g W l k X) (aK Q d b 0 y.ag/\aK Q d J (dG o) (xI C)/\RS Q d 243 (λz F=>aj F z (.map (some D)) (λR=>∃x,I x/\bC t x.1/\fL b (mN x)/\fL z (uD x).1/\eV (fK R (uD x)) (dH d (uD x).2)))))))/\aK U h b 0 y.ag/\aK U h J (dG o) (xI C)/\RS U h 243 (λz Q=>∃P u,O6 (λg W l=>∃w,nN (i7 y) (w7 C)=nN (i7 P) (w7 u)/\an h P.be g/\lF h P.bh W/\UC h u l/\RB w l g Q (λD=>D) (λA=>A) (λF=>F) (λD F d k X=>cO h d (zM gA F d D g W l k X) (aj F z (.map (some D)) (λR=>∃x,I x/\bC t x.1/\fL b (mN x)/\fL z (uD x).1/\eV (fK R (uD x)) (dH d (uD x).2))))))))/\∀x,I x ->GZ (cA (uD x)) (bW (uD x)) x.1 (λJ Q y S=>Aa S (bW (uD x)) y Q (λI1 k e F d=>I1 k F d->∀z R,eT F d z->cF F R z kS 75->aj R z (fW e) (λj=>∃I2,(∃C,aK j d (uD x).1 0 (bZ C)/\lI j d z 0 (λD=>∃G,let N:=aK j d (uD x).1 0 (bZ C);aK j d (mN x) 17 (aT G)/\(aK j d (uD x).1 0 (bZ C)/\MG D G d j N (λr L=>aK j d z 0 (aT D)/\aK j d (mN x) 17 (aT G)/\Ac j C (λO=>mG 9 O) (λO=>O (eK r L)) (eK r L) (N/\aK j d z 0 (aT D)/\aK j d (mN x) 17 (aT G)/\∀A B,eT j d A->cF j B A kS 95->GY B A (λM=>kH B8 1 M) (λH f=>G5 I2 f x J z A H d)) (λT=>N/\aK j d z 0 (aT D)/\aK j d (mN x) 17 (aT G)/\∀A B,eT j d A->cF j B A kS 95->GY B A (λM=>kH (fW T) 1 M) (λH f=>G5 I2 f x J z A H d))) (λr L=>N/\aK j d z 0 (aT D)/\aK j d (mN x) 17 (aT G)/\∀A B,let Ab:=λH f=>G5 I2 f x J z A H d;eT j d A->cF j B A kS 95->aK B d z 0 (aT D)/\aK B d (mN x) 17 (aT G)/\Ac B C (λO=>mG 9 O) (λO=>O (eK r L)) (eK r L) (GY B A (λM=>kH B8 1 M) Ab) (λT=>GY B A (λM=>kH (fW T) 1 M) Ab)))/\N/\aK j d z 0 (aT D)/\aK j d (mN x) 17 (aT G)/\∀A B,eT j d A->cF j B A kS 95->aK B d (uD x).1 0 (bZ C)/\MG D G d B (aK B d (uD x).1 0 (bZ C)) (λ_ _=>aK B d z 0 (aT D)) (λr L=>let Ad:=λH f=>G5 I2 f x J z A H d;aK B d (mN x) 17 (aT G)/\Ac B C (λO=>mG 9 O) (λO=>O (eK r L)) (eK r L) (GY B A (λM=>kH B8 1 M) Ad) (λT=>GY B A (λM=>kH (fW T) 1 M) Ad))))/\∀f,I2 f->lI (cA (pP f)) (bW (pP f)) (pP f).1 0 (λC=>aM (λn A=>aM (λZ b5=>∃(P:QV)(o:_),lC (λg s=>∃r Y w,nN (fD (aF C)) (vB 210 (.mk (py f.1 0::py (pP f).1 0::[py f.2.2.1 0])))=nN (fD n) (vB 210 (.mk (py A 0::py Z 0::[py b5 0])))/\(pP f).2.1 A=some (gU (.mk P.ag) 68 0)/\(pP f).2.1 Z=some (gU (.mk (aT g)) 95 0)/\(pP f).2.1 b5=some (gU (.mk (aT s)) 75 0)/\lF (bW (pP f)) P.bh o/\Rows (bW (pP f)) g r/\bF (bW (pP f)) s Y/\r.length=n/\yX o r/\(∀V,vE V r (V.length=w))/\Y.length=w/\wY (cA (pP f)) (bW (pP f)) f.1 19 (λD=>aX (↑(countP (λG=>decide (lP o G Y<0)) r):Int) D (lI (cA (pP f)) (bW (pP f)) f.2.1 0 (λG=>∃T,Iz (cA (pP f)) (bW (pP f)) f.2.2.1 0 T (λV=>cH (cA (pP f)) (bK G) 75 1 V/\cJ (fS V 1*24)/\fA V/\fY (λs1 B=>cL (cA (pP f)) B (bK G) s1 75 1 (iI V T)->aj B f.2.1 (fW s1) (λH=>I1 (dG k) H (bW (pP f))))))) (I1 (dG k) (cA (pP f)) (bW (pP f)))))))))) (λF d=>lI F d J 0 (λC=>K (tV C) F d)))
theorem NX{w:World}{q c}(d:b<w.heap.size):(Sort.grow (w.drewN q) c).heap[b]?=w.heap[b]? :=by
 show((w.drewN q).heap++c)[b]?=_;simp_all[Array.getElem?_append_left]
theorem ayJ{P g}{cs:tm}{m h S r u}(J:af P g S)(L:S (cs.map .val) m h λH m' h'=>H=r/\m'=m/\h'=h)(M:∀w u',GD w r u'->u'=u){w:World}(O:∀b o v,h b o=some v->w.cell? ⟨b,o,none⟩=some v)(X:∀b o,m b=some o->w.heap[b]?=some o)(Q:∀b o,m b=some o->∀i,h b i=none) C D:
 Calls P g cs.toArray (Sort.grow (w.drewN C) D) λe w'=>e=.returned u/\∃q E,w'=Sort.grow ((Sort.grow (w.drewN C) D).drewN q) E:=by
 obtain⟨W,R⟩:∃W,Sort.grow (w.drewN C) D=W:=⟨_,rfl⟩
 rw[R];have F:∀b,b<w.heap.size->W.heap[b]?=w.heap[b]? :=λb f=>by grind[NX]
 have n:∀(l:tm)(w:World),EM w (l.map .val) l:=λl w=>by
  induction l with
  |nil=>trivial
  |cons a l T=>exact⟨rfl,T⟩
 have y:∀(l:tm)(i:Nat)(c:CV)(u:Value)(b:Nat),(l.map CV.val)[i]?=some c->jC c u=some b->False:=λl i c u b z f=>by
  grind[jC]
 have A:CJ W m h (cs.map .val) cs:=by
  refine⟨n _ _,?_,?_,Q,λi j c d u v b z _ _ _ f _=>(y _ i c u b z f).elim,λi c u b z _ f=>(y _ i c u b z f).elim⟩
  .intro b o v U;have B:=O b o v U;rw[World.cell?_of_block (w:=w) (w':=W) (a:=⟨b,o,none⟩) (F b (World.block_lt_of_cell? w ⟨b,o,none⟩ B))];exact B
  grind
 refine(J.2 _ _ m h W _ L A).mono ?_;rintro e w'⟨H,u',m',h',rfl,⟨rfl,rfl,rfl⟩,G,t,_⟩;have V:=M _ _ G;subst V;refine⟨rfl,Ql t.tape t.os t.output t.drawn t.size (λb f=>?_)⟩;cases I:m' b with
 |none=>
  refine t.frame b f ?_;rintro(B|⟨i,c,u,z,_,Y⟩)
  .exact B I
  grind
 |some o=>rw[t.t b o I];grind
theorem aGZ{g S R}(O:uz g S)(W:∀t m h K,R t m h K->∃(n B C D G:Nat)(od:_)(rs:_)(r:_),t=[cI n,.val (.func (.func g) #[] #[.pointer (some ⟨B,0,none⟩),.pointer (some ⟨C,0,none⟩),.pointer (some ⟨D,0,none⟩)])]/\rs.length<=502633886983/\rs.length=n/\yX od rs/\(∀x∈rs,x.length=G)/\r.length=G/\
 (∀(i:Nat) x,rs[i]?=some x->S ([.int .i64 i,.pointer (some ⟨B,0,none⟩),.pointer (some ⟨C,0,none⟩),.pointer (some ⟨D,0,none⟩)].map .val) m h λX m' h'=>X=cB (decide (lP od x r>=0))/\m'=m/\h'=h)/\K (cI ((rs.countP λy=>decide (lP od y r<0):Nat):Int)) m h):uz 209 R:=by
 refine⟨⟨Tryz.f209,func209,rfl,bx⟩,?_⟩;intro t P m h w K Y f;obtain⟨n,B,C,D,G,od,rs,r,rfl,Q,rfl,I,T,E,Z,hK⟩:=W _ _ _ _ Y
 obtain⟨v1,H,rfl⟩:∃v H,P=[v,H]:=by
  have:=(vS f.args).1
  match P,this with
  |[v,H],_=>grind
 have F:v1=.int .i64 rs.length:=f.args.1;have h2:H=.func (.func g) #[] #[.pointer (some ⟨B,0,none⟩),.pointer (some ⟨C,0,none⟩),.pointer (some ⟨D,0,none⟩)]:=f.args.2.1;subst F h2
 have eg:∀args w,(callFunc g args).run Tryz.prog w=.ok (.enter g args) w:=λargs w=>by
  have⟨fn,a',d,hn⟩:=O.1;have a0:¬fn.body=none:=da
  simp_all[callFunc,program,Sem.run]
 have u:=Any.sort_Search Tryz.searchO g #[.pointer (some ⟨B,0,none⟩),.pointer (some ⟨C,0,none⟩),.pointer (some ⟨D,0,none⟩)] rs.length (λi=>decide (lP od (rs.toArray[i]!) r>=0)) w eg aC
  (λmm U i hi=>ayJ (cs:=[.int .i64 i,.pointer (some ⟨B,0,none⟩),.pointer (some ⟨C,0,none⟩),.pointer (some ⟨D,0,none⟩)]) O
   (Z i _ da) (λw u' hu=>hu) f.F f.t f.z mm U)
  (λa b J d c=>?_)
 .refine Calls.mono u ?_;rintro e w'⟨rfl,q,U,rfl⟩
  have j:((List.range rs.length).countP λi=>!decide (lP od (rs.toArray[i]!) r>=0))=rs.countP λy=>decide (lP od y r<0):=by
   have:=Go.Lib.countP_range rs.toArray (λy=>!decide (lP od y r>=0))
   grind
  rw[j];refine⟨_,_,m,h,rfl,hK,rfl,⟨rfl,rfl,rfl,Nat.le_add_right _ _,?_,λb d _=>NX d,λb o v L=>?_,λb o d=>?_,f.z,λ_ _ _ e=>e,λ_ _ _=>rfl,λb o d=>.inr (.inl da)⟩,λb d=>by cases d⟩
  .simp_all
  .have F:=f.F b o v L;rw[World.cell?_of_block (w:=w) (a:=⟨b,o,none⟩) (NX (World.block_lt_of_cell? w ⟨b,o,none⟩ F))];exact F
  .have F:=f.t b o d
   grind[NX,Array.getElem?_eq_some_iff]
 .have c:=of_decide_eq_true c;refine decide_eq_true ?_;rcases Nat.lt_or_eq_of_le J with M|rfl
  .have V:a<rs.length:=by omega
   rw[getElem!_pos _ a aC]at c;rw[getElem!_pos _ b aC];simp only[getElem_toArray]at c⊢
   have z:=T _ (getElem_mem V);have A:=T _ (getElem_mem d);have h5:=(pairwise_iff_getElem.1 I) a b V d M;have h6:=Gw (od:=od) z A;have h7:=Gw (od:=od) z E;have h8:=Gw (od:=od) A E;rw[FU z A]at h6;have:=(Ot G od).trans r rs[a] rs[b] (by grind[FU]) aC
   grind[FU]
  .exact c
theorem aXQ:uz 209 bCX:=aGZ aWJ λu m h K⟨n,j,o,t,v,od,g,s,rs,r,y,e,z,A,B,C,c,D,E,d,F,f,G⟩=>⟨n,j,o,t,y,od,rs,r,e,by have:=c.len;omega,E,d,F,f,λi x H=>⟨i,j,o,t,v,od,g,s,rs,r,x,rfl,z,A,B,C,c,D,H,rfl,rfl,rfl⟩,G⟩
theorem zM.kz{κ y l j G key K0}{K:Sl->Prop}(g:zM κ m h y gr od l j G)(o:Ie j key ⟨none,0,0⟩->K0)(u:∀s,Ie j key s->K s):
 ∃d Ok,xZ m y (d.map λp=>(p.1,fW p.2))/\dz Tryz.prog 9 Ok/\Ok (.string key)/\(∀e,List.Mem e d->Ok e.1)/\((∀e,List.Mem e d->e.1=.string key->False)->K0)/\∀t,List.Mem (.string key,t) d->K t:=by
 have⟨z,c,A,B,_,_⟩:=g.kc;refine⟨j.map λp=>(.string p.1,p.2),_,⟨z,c,A,by rw[B];simp⟩,GJ,⟨key,rfl⟩,λe C=>?_,λD=>o (.inl ⟨rfl,λh=>?_⟩),λt E=>u t (.inr ?_)⟩
 .obtain⟨k,_,rfl⟩:=mem_map.1 (show e∈_ from C)
  grind
 .have⟨p,n,e⟩:=mem_map.1 h;subst e;exact D (.string p.1,p.2) (mem_map_of_mem (f:=λp:ByteArray×Sl=>(Value.string p.1,p.2)) n) rfl
 .have⟨p,n,e⟩:=mem_map.1 (show(Value.string key,t)∈_ from E)
  grind
theorem zM.br{κ y l d G}(g:zM κ m h y gr od l d G)(e:∀o,m y=some o->m' y=some o)(le:PH.le h h'):zM κ m' h' y gr od l d G:=by
 have⟨f,c,j,n,u,z⟩:=g.kc;exact⟨⟨f,c,e _ j,n,u,z⟩,g.fp,λp A=>aU.mono (g.rows p A) le (λr t B=>bF.mono B le),g.gp,g.ku,g.sort⟩
theorem zM.y{κ y l c G key s}(g:zM κ m h y gr od l c G)(d:Ie c key s):Rows h s (G key):=by
 rcases d with⟨rfl,e⟩|f
 .rw[g.gp key e];exact(eN.nil h).rows (bT.nil _ _) bu
 .exact g.rows _ f
structure dEQ(m5:MH)(hh:PH)(bq b9 b2:Nat)(e:Sl)(us2:tq)(Gk:tj)(c:Nat×Nat×Nat×Nat×MH×PH):Prop where
 q:c.1=bq
 o:c.2.1=b9
 b:c.2.2.1=b2
 h:c.2.2.2.2.2=hh
 sub:HZ m5 c.2.2.2.2.1 b9
 en:uO m5 c.2.2.2.2.1 b9 us2
 e_:c.2.2.2.2.1 b2=some (.cells #[fW e] 75 (0,0))
 g_:∃s,c.2.2.2.2.1 c.2.2.2.1=some (.cells #[fW s] 95 (0,0))/\Rows hh s Gk
def Mp(q:ae)(ls:List tj):=match q with|.mk _ _ _ _ _ gr od li _=>zJ gr od li (ls.getD 0 []) (ls.getD 1 [])
def Gm(q:ae)(ls:List tj):=match q with|.mk _ _ _ _ _ gr _ _ _=>2<=ls.length/\∃w,lT w (ls.getD 0 [])/\lT w (ls.getD 1 [])/\jY w gr
theorem a0X:uz 183 (Y0 Gm Mp):=by
 refine NZ func183 ?_;rintro g1 m h K⟨v,t,q,bs,ls,rfl,hq,ha,hT,f0,hK⟩;refine⟨czX,rfl,aD Tu (aD HQ (aD aXQ aG)),PC v t m h (dR h K),bt,?_⟩;show PC v t m h (dR h K);dsimp only[PC,push_cast];obtain⟨op,ta,w,co,on,gr,od,li,args⟩:=q;obtain⟨g2,wd,B,n,I⟩:=f0;intro b m1 f1 c8;have⟨s1,n1⟩:=mM (dh.refl m) f1 c8;have a8:m1 b=some (.cells ⟨v.ag⟩ 68 (0,0)):=c8.y;have⟨b1,off,x,ea,g3,rd,sq⟩:=ha.get (C9 (i:=1) aC);have⟨b6,c9,x6,f2,g0,f3,d'⟩:=ha.get (C9 (i:=0) aC);simp only[Mp]at hK;generalize ls.getD 1 []=l' at hK n sq;generalize ls.getD 0 []=l at hK B d';have g4:=B.len;have a9:=hq.parts.az;have b0:=hq.parts.bd
 refine⟨λz=>z.1=t/\z.2.1=b/\PH.le h z.2.2.2.2/\dh m z.2.2.2.1/\z.2.2.2.1 b=some (.cells ⟨v.ag⟩ 68 (0,0))/\∃y kk G,z.2.2.2.1 z.2.2.1=some (.cells #[.map (some y)] 243 (0,0))/\zM gA z.2.2.2.1 z.2.2.2.2 y gr od l' kk G,
  ⟨v,.i a8 (take_length ..),b1,off,ea,aC,aC,x,.ay rd,⟨v,x,gr,od,l',wd,rfl,a9,b0,sq,n,I,hT.sub s1,λy m2 h2 kk G F H Z Y=>?_⟩,.i a8 (take_length ..),.ay rd,λT m2 d0 a'=>?_⟩,?_⟩
 .have yb:b≠y:=λe=>da
  have a0:m2 b=some (.cells ⟨v.ag⟩ 68 (0,0)):=da
  have s2:dh m m2:=λz o e=>by rw[H z (λd=>by have:=s1 z o e;grind)];exact s1 z o e
  refine⟨.i a0 (take_length ..),.ay (rd.mono Z),λT m3 b4 a1=>⟨_,_,⟨a1.y⟩,bu,λU D=>⟨(t,b,T,U,h2),⟨rfl,rfl,Z,?_,?_,y,kk,G,D.y,?_⟩,MT⟩⟩⟩
  .have⟨s3,n3⟩:=mM s2 b4 a1;exact s3.dv n3 D.ai
  .have:b≠T:=λe=>by have:=b4.m_;grind
   show U b=_;rw[D.ai b this,a1.ai b this];exact a0
  .refine Y.br (λo e=>?_) (.refl _);have:y≠T:=λd=>by rw[d,b4.m_]at e;cases e
   show U y=_;rw[D.ai y this,a1.ai y this];exact e
 .have⟨s2,n2⟩:=mM s1 d0 a';have d1:b≠T:=λe=>by have:=d0.m_;grind
  have a0:m2 b=some (.cells ⟨v.ag⟩ 68 (0,0)):=by rw[a'.ai b d1];exact a8
  refine⟨v,x,gr,od,l',wd,rfl,a9,b0,sq,n,I,hT.sub s2,λy m3 h2 kk G F H Z Y=>?_⟩;have yb:b≠y:=λe=>da
  have yc:T≠y:=λe=>by rw[<-e,a'.y]at F;cases F
  have s3:dh m m3:=λz o e=>by rw[H z (λd=>by have:=s2 z o e;grind)];exact s2 z o e
  refine⟨#[.map none],243,⟨by rw[H T yc];exact a'.y⟩,bu,λU D=>⟨(t,b,T,U,h2),⟨rfl,rfl,Z,s3.dv n2 D.ai,?_,y,kk,G,D.y,?_⟩,MT⟩⟩
  .show U b=_;rw[D.ai b d1,H b yb];exact a0
  .refine Y.br (λo e=>?_) (.refl _);show U y=_;rw[D.ai y (Ne.symm yc)];exact e
 .rintro⟨t',b',T,U,hh⟩⟨e1,d,J,s4,P,y,kk,G,b5,Y⟩;dsimp only at e1 d J s4 P b5 Y⊢
  subst e1 d;intro R m5 d2 a2;have⟨s5,n9⟩:=mM s4 d2 a2
  have a3:∀{z o},U z=some o->m5 z=some o/\z≠R:=fun{z o} d=>by
   have:z≠R:=λS=>by rw[S,d2.m_]at d;cases d
   exact⟨by rw[a2.ai z this];exact d,this⟩
  have⟨us,d3,d4⟩:=(d'.mono J).ex;have f4:=d4.len;refine⟨b6,c9,f2,aC,aC,x6,.ay (f3.mono J),B0,us,λk my F=>F=hh/\HZ m5 my R/\∃f,uO m5 my R f/\f.length<=k/\eN hh f (zJ gr od li (l.take k) l'),BA,⟨x6,us,rfl,d3,rfl⟩,⟨rfl,λz o e _=>e,[],uO.new a2.y,bu,by grind[zJ,eN.nil]⟩,?_,?_⟩
  .rintro k e my F hk-⟨rfl,a4,f,V,b7,W⟩ b2 m6 f5 d5;have⟨r,hr,hv⟩:=d4.im hk;have g5:=(sg hk);have a5:=si hr;have d6:=B.gi r a5;have d7:jY r.length gr:=da
   refine⟨_,_,⟨d5.y⟩,bu,λL d8=>?_⟩
   have b8:∀{z o},my z=some o->L z=some o/\z≠b2:=fun{z o} d=>by
    have:z≠b2:=λS=>by rw[S,f5.m_]at d;cases d
    exact⟨by rw[d8.ai z this,d5.ai z this];exact d,this⟩
   have up:∀{z o},U z=some o->L z=some o:=fun{z o} d=>(b8 (a4 z o (a3 d).1 (a3 d).2)).1;have s7:HZ m5 L R:=λz o d c'=>(b8 (a4 z o d c')).1
   have C:∀{ma mb:MH},uO m5 ma R f->(∀z o,ma z=some o->mb z=some o)->uO m5 mb R f:=fun{ma mb} ho hk=>by
    have⟨s,h1,h2,h3⟩:=ho.ex;refine⟨s,hk _ _ h1,cH.br h2 λz i S=>?_,h3⟩;have⟨g6,h4⟩:=h2.cj S
    grind
   have o7:uO m5 L R f:=C V λz o d=>(b8 d).1;have a6:L b2=some (.cells #[fW e] 75 (0,0)):=d8.y;have g7:=Y.br (λo d=>up d) (.refl _);have rc:aK L F T 0 [Value.map (some y)]:=.i (up b5) rfl;have re:aK L F b2 0 [fW e]:=.i a6 rfl;have rg:aK L F b' 17 [fW v.be]:=.i (up P) rfl;have d9:an F v.be gr:=a9.mono J;have T7:kN L:=hT.sub λz o d=>up (s4 z o d)
   have du:∀s,Ie kk (gA (pick r gr)) s->∀A M,eT L F A->iZ L M A (.cells #[B8] 95 (0,0))->∃(cs:Array Value)(E:TypeId),yA M A (.cells cs E (0,0))/\0<cs.size/\∀m9,iZ M m9 A (.cells (Array.mk (fW s::cs.toList.drop 1)) E (0,0))->
    ∃c:Nat×Nat×Nat×Nat×MH×PH,dEQ m5 F b' R b2 e f (G (gA (pick r gr))) c/\ov b' 0=ov c.1 0/\ov R 0=ov c.2.1 0/\ov b2 0=ov c.2.2.1 0/\ov A 0=ov c.2.2.2.1 0/\m9=c.2.2.2.2.1/\F=c.2.2.2.2.2/\True:=λs Q A M u g=>by
    refine⟨_,_,⟨g.y⟩,bu,λm9 e'=>⟨(b',R,b2,A,m9,F),?_,MT⟩⟩
    have c0:∀z o,L z=some o->m9 z=some o:=λz o d=>by
     have:z≠A:=λS=>by rw[S,u.m_]at d;cases d
     rw[e'.ai z this,g.ai z this];exact d
    exact⟨rfl,rfl,rfl,rfl,λz o d c'=>c0 z o (s7 z o d c'),C o7 c0,c0 _ _ a6,s,e'.y,Y.y Q⟩
   have e0:∀{A M},eT L F A->iZ L M A (.cells #[B8] 95 (0,0))->∀z o,L z=some o->M z=some o:=fun{A M} u g z o d=>by
    have:z≠A:=λS=>by rw[S,u.m_]at d;cases d
    rw[g.ai z this];exact d
   refine⟨dEQ m5 F b' R b2 e f (G (gA (pick r gr))),⟨y,rc,e,re,v.be,rg,⟨rc,e,v.be,r,gr,rfl,hv,d9,B.row r a5,d7,T7,rc,⟨re,rg,g7.kz (λQ=>⟨rc,re,rg,du _ Q⟩) (λs Q=>⟨rc,re,rg,du _ Q⟩)⟩,rc,re,rg,λA M u g=>?_⟩,rc,re,rg,λA M u g=>?_⟩,?_⟩
   .have u8:=e0 u g;exact⟨.i (u8 _ _ a6) rfl,.i (u8 _ _ (up P)) rfl,(g7.br (u8 y) (.refl _)).kz (λQ=>du _ Q A M u g) (λs Q=>du _ Q A M u g)⟩
   .have u8:=e0 u g;have e5:aK M F T 0 [Value.map (some y)]:=.i (u8 _ _ (up b5)) rfl;exact⟨e5,e,v.be,r,gr,rfl,hv,d9,B.row r a5,d7,T7.sub u8,e5,.i (u8 _ _ a6) rfl,.i (u8 _ _ (up P)) rfl,(g7.br (u8 y) (.refl _)).kz (λQ=>du _ Q A M u g) (λs Q=>du _ Q A M u g)⟩
   .rintro⟨c1,c2,c3,A,mz,hz⟩⟨e1,d,S,e4,a7,c4,c5,s,c6,X⟩;dsimp only at e1 d S e4 a7 c4 c5 c6⊢
    subst e1 d S e4;have e6:∀{z o},U z=some o->mz z=some o:=fun{z o} d=>a7 z o (a3 d).1 (a3 d).2;have O:=QN S9 (od:=od) n I (B.row r a5) d6;rw[<-(Y.ku _).countP_eq]at O;refine⟨s,.i c6 rfl,s.len,c1,A,c3,v,od,s,e,G (gA (pick r gr)),r,wd,rfl,e6 P,c6,c5,b0.mono J,X,hv,X.e.symm,Y.sort _,λz f6=>?_,d6,v.bg,.i (e6 P) rfl,?_⟩
    .have:=(Y.ku _).mem_iff.1 (show z∈_ from f6);exact n.gi z (mem_filter.1 this).1
    .rw[O];have e7:v.bg=li:=hq.parts.dm;rw[e7];refine aE (λh1=>?_) (λh1=>?_)
     .have⟨so,e8,c7,e9⟩:=c4.ex;refine⟨so,.i e8 rfl,e,.i c5 rfl,Mr ⟨_,a2.y⟩ a7 e8 c7 e9 aC λm' f7 f8=>⟨rfl,f7,f++[e],f8,cv,?_⟩⟩;rw[zJ,nB _ hr,if_pos (decide_eq_true h1)];exact W.cw hv
     .refine⟨rfl,a7,f,c4,aC,?_⟩;simp_all[zJ,nB,if_neg,append_nil]
  .rintro my F-⟨rfl,a4,f,V,b7,W⟩
   rw[f4,take_length]at W;have⟨s,hb,f',f9⟩:=V.ex;refine⟨s,.i hb rfl,dR.row (s5.x n9 a4) J f' (λj z e=>?_) (λh' le g'=>hK s h' (J.trans le) ((W.mono le).rows g' (by have:=W.len;omega)))⟩;cases d:m z with
   |none=>rfl
   |some o=>have e1:=f9 j z e;rw[s5 z o d]at e1;cases e1
def ZK(op:Int)(q:ae)(ls:List tj):=
 if op=2 then N6 q ls else if op=3 then ZC q ls else if op=4 then ZW q ls else if op=5 then Zn q ls else if op=6 then Xw q ls else if op=7 then XW q ls else if op=8 then X4 q ls else if op=9 then Zz q ls else Mp q ls
def ckQ(op:Int)(q:ae)(ls:List tj):=
 if op=2 then H6 1 q ls else if op=3 then O1 q ls else if op=4 then O2 q ls else if op=5 then SD q ls else if op=6 then H6 2 q ls else if op=7 then CZ q ls else if op=8 then CZ q ls else if op=9 then O0 q ls else Gm q ls
mutual
def fO(ls:List tj):ae->Nat->tj×Nat
 |.mk op ta w co on gr od li args,k=>if op=1 then(ls.getD k [],k+1)else(ZK op (.mk op ta w co on gr od li args) (gJ ls args k).1,(gJ ls args k).2)
def gJ(ls:List tj):List ae->Nat->List tj×Nat
 |[],k=>([],k)
 |q::qs,k=>((fO ls q k).1::(gJ ls qs (fO ls q k).2).1,(gJ ls qs (fO ls q k).2).2)
end
mutual
def nf(ls:List tj):ae->Nat->Prop
 |.mk op ta w co on gr od li args,k=>if op=1 then k<ls.length else ckQ op (.mk op ta w co on gr od li args) (gJ ls args k).1/\ZL ls args k
def ZL(ls:List tj):List ae->Nat->Prop
 |[],_=>True
 |q::qs,k=>nf ls q k/\ZL ls qs (fO ls q k).2
end
def dEX:AC:=λc m h K=>∃op,c=[cI op]/\(op=2->K (.val (.agg #[.func (.func 175) #[] #[]])) m h)/\(op=3->K (.val (.agg #[.func (.func 176) #[] #[]])) m h)/\(op=4->K (.val (.agg #[.func (.func 177) #[] #[]])) m h)/\(op=5->K (.val (.agg #[.func (.func 178) #[] #[]])) m h)/\(op=6->K (.val (.agg #[.func (.func 179) #[] #[]])) m h)/\
 (op=7->K (.val (.agg #[.func (.func 180) #[] #[]])) m h)/\(op=8->K (.val (.agg #[.func (.func 181) #[] #[]])) m h)/\(op=9->K (.val (.agg #[.func (.func 182) #[] #[]])) m h)/\((op≠2/\op≠3/\op≠4/\op≠5/\op≠6/\op≠7/\op≠8/\op≠9)->K (.val (.agg #[.func (.func 183) #[] #[]])) m h)
def bm h s ls:=aU h 1 eS (λl t=>Rows h t l) s ls
def YM(N:Nat):AC:=λe m h K=>∃c v q f d k,e=[cP c,aQ v]/\cQ h q v/\SizeOf.sizeOf q<N/\c≠1/\m c=some (.cells #[Sl.val f,.int .i64 (k:Nat)] 181 (0,0))/\bm h f d/\kN m/\nf d q k/\
 ∀g m' h',PH.le h h'->Rows h' g (fO d q k).1->iZ m m' c (.cells #[Sl.val f,.int .i64 ((fO d q k).2:Nat)] 181 (0,0))->K (cS g) m' h'
def cHQ(N c:Nat)(v:QV):=tH [(124,YM N),(152,Xf),(153,dEX),(175,Y0 (H6 1) N6),(176,Y0 O1 ZC),(177,Y0 O2 ZW),(178,Y0 SD Zn),(179,Y0 (H6 2) Xw),(180,Y0 CZ XW),(181,Y0 CZ X4),(182,Y0 O0 Zz),(183,Y0 Gm Mp)] [(7,{A:=Nat×tm×MH×PH,st:=λ⟨i,l,m,h⟩=>bO 57 59 ([(0,pv c),SW 3,(6,.at (.au 33))]++WF 35 v.args i) [UV 3 68 v.ag,(33,.au 214 1 (l.map λx=>[x]))] m h})] [] [] [] [] false
abbrev Cn(a:tt)(b:Nat)(c:MH)(d:PH):=a (.val (.agg (.mk ([.func (Fn.func b) yZ yZ])))) c d
abbrev Bq:Value->tm:=λx=>[x]
abbrev JO(a:Nat×tm×MH×PH):=List.map Bq a.2.1
abbrev nH(a:Nat×tm×MH×PH):=a.2.2.1
abbrev w8(a:Nat×tm×MH×PH):=a.2.2.2
abbrev xQ(a:Sl->(List tj)->Prop):=∃x c,a x c
abbrev ML a b c d:=dK a/\b/\BV (aF c*24)/\BV (aF c)/\d
abbrev jB(a:to):=qL a.length
abbrev Be(a:Sl)(b:Nat->Nat->Option Value)(c:Sl->PH->Prop):=nZ (λx d=>eO (tV a) (tV x)/\bF b x d/\jB d/\jA (λf e=>cO b e (bF e f d) (c f e)))
attribute [push_cast] Cn Bq JO nH w8 xQ ML jB Be
def b7Q(op:Int):=λm h K=>dJ (op==2) (Cn K 175 m h) (op==3) (Cn K 176 m h) (dJ (op==4) (Cn K 177 m h) (op==5) (Cn K 178 m h) (dJ (op==6) (Cn K 179 m h) (op==7) (Cn K 180 m h) (dJ (op==8) (Cn K 181 m h) (op==9) (Cn K 182 m h) (Cn K 183 m h))))
def WG N g v:=λm h K=>dP v.op 1 (lI m h g 0 (λy=>wY m h g 1 (λA=>ab y A 1 aT m h (λC=>wY m h g 1 (λH=>am m g 1 (bV (j6 H 1)) (λn=>K (tV C) n h)))))) (dK (aF v.args)/\aF v.args<=aF v.args/\BV (aF v.args*8)/\BV (aF v.args)/\∃(I:Nat×tm×MH×PH->Prop)(n:Nat×tm×MH×PH->Nat),(∃x,I x/\cK g/\eP 3/\eL 33/\aH v.args/\rQ v/\bB x.1/\eJ v/\kO (cE 214 1 (DX (aF v.args) RT)=cE 214 1 (JO x)) (fX m x.2.2) (dH h x.2.2))/\∀x,I x->aX x.1
 (aF v.args) (ab v.args x.1 21 QV.ag (nH x) (w8 x) (λy=>∃u,mQ (λf q=>xQ (λl z=>∃k:Nat,bL (jN g) y.ag=bL (jN u) f.ag/\cQ (w8 x) q f/\pR q N/\jP (u=1)/\x.2.2.1 u=some (gU (.mk (Ep l k)) 181 0)/\bm (w8 x) l z/\kN (nH x)/\nf z q k/\∀s,iK (λD d=>cO (w8 x) d (Rows d s (fO z q k).1) (cF (nH x) D u (Ep l (↑(fO z q k).2:Int)) 181->∃F,lN (eO (tV s) (tV F)) (λG=>∀B,cO d B (bJ B G 0 (aT F)) (GW (vM x.1) (x.1<nV (JO x)) (λe=>yT (JO x) (tY x.1) e/\0<
 e.length/\∃j,I j/\n j<n x/\cK g/\cR/\eL 33/\aH v.args/\rQ v/\fI (bA x.1 1)=bR j.1/\mP (eJ v) (cE 214 1 (List.set (JO x) (tY x.1) (.func (Fn.func 174) yZ (D7 G)::List.drop 1 e))=cE 214 1 (JO j)) (fX D j.2.2) (dH B j.2.2)))))))))) (∃o,iJ v.op o/\(o=2->bN (w8 x) 1 (List.map Bq x.2.1) (λs d=>∃f,wN (λt q=>C4 (λb l=>j5 v s=j5 f t/\cQ d q f/\zN d t b l/\kN (nH x)/\H6 1 q l/\rO d (N6 q l) K (nH x)))))/\(o=3->bN (w8 x) 1 (List.map Bq x.2.1) (λs d=>∃f,wN (λt q=>C4 (λb l=>j5 v s=j5 f t/\cQ d q f/\zN d t b l/\kN (nH x)/\O1 q l/\rO d (ZC q l) K (nH x)))))/\(o=4->bN (w8 x) 1 (List.map Bq x.2.1) (λs d=>∃f,wN (λt q=>C4 (λb l=>j5 v s=j5 f t/\cQ d q f/\zN d t b l/\kN (nH x)/\O2 q l/\rO d (ZW q l) K (nH x)))))/\(o=5->bN (w8 x) 1 (List.map Bq x.2.1) (λs d=>∃f,wN (λt q=>C4 (λb l=>j5 v s=j5 f t/\cQ d q f/\zN d t b l/\kN (nH x)/\SD q l/\rO d (Zn q l) K (nH x)))))/\(o=6->bN (w8 x) 1 (List.map Bq x.2.1) (λs d=>∃f,wN (λt q=>C4 (λb l=>j5 v s=j5 f t/\cQ d q f/\zN d t b l/\kN (nH x)/\H6 2 q l/\rO d (Xw q l) K (nH x)))))/\(o=
 7->bN (w8 x) 1 (List.map Bq x.2.1) (λs d=>∃f,wN (λt q=>C4 (λb l=>j5 v s=j5 f t/\cQ d q f/\zN d t b l/\kN (nH x)/\CZ q l/\rO d (XW q l) K (nH x)))))/\(o=8->bN (w8 x) 1 (List.map Bq x.2.1) (λs d=>∃f,wN (λt q=>C4 (λb l=>j5 v s=j5 f t/\cQ d q f/\zN d t b l/\kN (nH x)/\CZ q l/\rO d (X4 q l) K (nH x)))))/\(o=9->bN (w8 x) 1 (List.map Bq x.2.1) (λs d=>∃f,wN (λt q=>C4 (λb l=>j5 v s=j5 f t/\cQ d q f/\zN d t b l/\kN (nH x)/\O0 q l/\rO d (Zz q l) K (nH x)))))/\(jP (o=2)/\jP (o=3)/\jP (o=4)/\jP (o=5)/\jP
 (o=6)/\jP (o=7)/\jP (o=8)/\jP (o=9)->bN (w8 x) 1 (List.map Bq x.2.1) (λs d=>∃f,wN (λt q=>C4 (λb l=>j5 v s=j5 f t/\cQ d q f/\zN d t b l/\kN (nH x)/\Gm q l/\rO d (Mp q l) K (nH x)))))))
theorem a7J:uz 153 dEX:=by
 refine gV func153 ?_;rintro c m h K⟨op,rfl,d,f,g,j,n,o,t,u,y⟩;refine⟨WP [],rfl,aG,b7Q op,bt,?_⟩;exact(aB (λe=>d (mp e)) λz=>aB (λe=>f (mp e)) λA=>aB (λe=>g (mp e)) λB=>aB (λe=>j (mp e)) λC=>aB (λe=>n (mp e)) λD=>aB (λe=>o (mp e)) λE=>aB (λe=>t (mp e)) λF=>aB (λe=>u (mp e)) λG=>y ⟨da,da,da,da,da,da,da,da⟩)
theorem QY{ls:List tj}{q:ae}:∀{a:List ae}{k:Nat},gJ ls (a++[q]) k=((gJ ls a k).1++[(fO ls q (gJ ls a k).2).1],(fO ls q (gJ ls a k).2).2)
 |[],k=>by simp[gJ]
 |p::a,k=>by
  rw[cons_append,gJ,QY];simp[gJ]
theorem bqJ{ls:List tj}{q:ae}{b:List ae}:∀{a:List ae}{k:Nat},ZL ls (a++q::b) k->nf ls q (gJ ls a k).2
 |[],k,h=>by grind[ZL,gJ]
 |p::a,k,h=>by
  rw[cons_append,ZL]at h;rw[gJ];exact bqJ h.2
theorem LC{ls:List tj}:∀{a:List ae}{k:Nat},(gJ ls a k).1.length=a.length
 |[],k=>by simp[gJ]
 |p::a,k=>by rw[gJ];simp[LC]
theorem atX:∀N,uz 124 (YM N)
 |0=>by
  refine gV func124 ?_;rintro a7 m h K⟨O,v,q,S,d,k,rfl,_,hN,_⟩;omega
 |N+1=>by
  refine gV func124 ?_;rintro a7 m h K⟨O,v,q,S,d,k,rfl,hq,hN,U,P,H,hT,B,V⟩;refine⟨cHQ N O v,rfl,aD (atX N) (aD a8Q (aD a7J (aD a2X (aD a2Q (aD a1J (aD a1Z (aD a1X (aD a1Q (aD a0J (aD a0Z (aD a0X aG))))))))))),WG N O v,by kernel_rfl,?_⟩;dsimp only[WG,push_cast];obtain⟨op,ta,w,co,on,gr,od,li,args⟩:=q;have xq:=hq.parts;rw[fO]at V;rw[nf]at B;have W:v.op=op:=xq.jp;refine aB (λe=>?_) (λe=>?_)
  .have e:op=1:=by grind
   rw[if_pos e]at B;simp only[if_pos e]at V;have b8:=aU.e H;obtain⟨b,o,s,ea,rd,hr⟩:=aU.at H (getElem?_eq_getElem B);have r0:aK m h O 0 [fW S]:=.i P rfl;have r1:aK m h O 1 [pW (k:Nat)]:=.i P rfl;have c1:=H.len;refine⟨S,r0,k,r1,b,o,ea,aC,aC,s,.ay rd,k,r1,_,_,⟨P⟩,by simp,λm' I=>V s m' h (.refl _) ?_ ?_⟩
   .grind
   .have e5:IntKind.i64.wrap ((k:Int)+1)=((k+1:Nat):Int):=by grind[fH]
    rw[e5]at I;exact I
  .have e:op≠1:=by grind
   rw[if_neg e]at B;simp only[if_neg e]at V;obtain⟨J,b9⟩:=B;have n:=xq.bf;have a8:=aU.e n;have c':=aU.len n
   refine⟨aC,aC,aC,aC,λz=>z.1<=args.length/\PH.le h z.2.2.2/\iZ m z.2.2.1 O (.cells #[Sl.val S,.int .i64 ((gJ d (args.take z.1) k).2:Nat)] 181 (0,0))/\∃C:tw,C.length=z.1/\z.2.1=C.map Us++replicate (args.length-z.1) .nilFunc/\∀j b l,C[j]?=some b->(gJ d (args.take z.1) k).1[j]?=some l->UC z.2.2.2 b l,λz=>args.length-z.1,
    ⟨(0,replicate args.length .nilFunc,m,h),⟨by simp,.refl _,⟨by grind[gJ],λ_ _=>rfl⟩,[],rfl,by simp,λj b l h1 _=>by rw[getElem?_nil]at h1;cases h1⟩,?_⟩,?_⟩
   .simp_all
   .rintro⟨i,l,zm,zh⟩⟨hi,g,I,C,X,hl,y⟩;dsimp only at hi g I X hl y⊢
    have Y:kN zm:=by
     obtain⟨T,fz,e1⟩:=hT;exact⟨T,fz,by rw[I.ai 1 (Ne.symm U)];exact e1⟩
    refine aE (λa9=>?_) (λc2=>?_)
    .obtain⟨p,hp⟩:=eF a8 a9;obtain⟨b,o,u,ea,b',b0⟩:=aU.at (FX.mono n g) hp;have c3:=(List.getElem?_eq_some_iff.1 hp).1
     have b1:SizeOf.sizeOf p<N:=by
      have:=sizeOf_lt_of_mem (mem_of_getElem? hp)
      grind
     have a6:args=args.take i++p::args.drop (i+1):=by
      grind[List.getElem?_eq_some_iff,getElem_cons_drop,take_append_drop]
     have Z:nf d p (gJ d (args.take i) k).2:=bqJ (b:=args.drop (i+1)) (by grind)
     have a':gJ d (args.take (i+1)) k=((gJ d (args.take i) k).1++[(fO d p (gJ d (args.take i) k).2).1],(fO d p (gJ d (args.take i) k).2).2):=by
      rw[take_add_one,hp,Option.toList_some,QY]
     refine⟨b,o,ea,aC,aC,u,.ay b',O,u,p,S,d,(gJ d (args.take i) k).2,rfl,b0,b1,U,I.y,aU.mono H g (λl s hr=>aU.mono hr g λr t hv=>bF.mono hv g),Y,Z,λM m' h' A a0 a1=>⟨M,rfl,λb2 h2 L a2=>?_⟩⟩;have c4:l.length=args.length:=by grind
     have b3:l[i]?=some .nilFunc:=by
      grind
     refine⟨aC,by simp;omega,[.nilFunc],by simp[b3],by simp,(i+1,l.set i (Us b2),m',h2),⟨aC,g.trans (A.trans L),?_,C++[b2],by simp[X],?_,?_⟩,aC,?_⟩
     .dsimp only;rw[a'];exact⟨a1.y,λb5 a3=>by rw[a1.ai b5 a3,I.ai b5 a3]⟩
     .grind
     .dsimp only;rw[a'];intro j b5 l5 F G;have b4:(gJ d (args.take i) k).1.length=C.length:=by grind[LC,length_take]
      by_cases hj:j<C.length
      .rw[getElem?_append_left hj]at F;rw[getElem?_append_left aC]at G;exact(y j b5 l5 F G).mono (A.trans L)
      .rw[getElem?_append_right aC]at F;rw[getElem?_append_right aC]at G;have:j-C.length=0:=by grind
       rw[this]at F;rw[b4,this]at G;simp at F G;subst F G
       obtain⟨Q,h7,R⟩:=(show∃Q,bT h' M 1 (Q.map eS)/\eN h' Q _ from by
        obtain⟨Q,h7,R,h9⟩:=a0.ex;exact⟨Q,h7,R.symm,h9⟩)
       exact⟨Q,⟨M,a2,h7.mono L,by have h9:=a0.len;rw[R.len];exact h9⟩,R.mono L⟩
     .dsimp only;rw[fH aC]
      have e9:((l.map λx=>[x]).set ((i:Int)).toNat (Us b2::List.drop 1 [.nilFunc]))=(l.set i (Us b2)).map λx=>[x]:=by
       rw[map_set];rfl
      exact⟨MT,rfl,rfl,rfl,rfl,rfl,rfl,by rw[<-e9];rfl,MT⟩
    .have b6:i=args.length:=by omega
     subst b6;rw[take_length]at I y;rw[Nat.sub_self,replicate_zero,append_nil]at hl
     have du:∀{okF:ae->List tj->Prop}{f:ae->List tj->tj},okF (.mk op ta w co on gr od li args) (gJ d args k).1->ZK op (.mk op ta w co on gr od li args) (gJ d args k).1=f (.mk op ta w co on gr od li args) (gJ d args k).1->∀(s:Sl)(h':PH),zh.le h'->bT h' s 1 (l.map λx=>[x])->
      ∃(v1:QV)(t:Sl)(q:ae)(C:tw)(d:List tj),[aQ v,cS s]=[aQ v1,cS t]/\cQ h' q v1/\zN h' t C d/\kN zm/\okF q d/\∀(M:Sl)(D:PH),h'.le D->Rows D M (f q d)->K (cS M) zm D:=fun{okF f} h1 h2 s h' A a4=>by
      refine⟨v,s,_,C,_,rfl,hq.mono (g.trans A),⟨?_,by grind[LC],λj b l5 F G=>(y j b l5 F G).mono A⟩,Y,h1,λM b7 a5 hr=>V M zm b7 (g.trans (A.trans a5)) (by grind) I⟩;rw[hl,map_map]at a4;exact a4
     have c0:=J;refine⟨op,by rw[W],λE=>du (okF:=H6 1) ?_ ?_,λE=>du (okF:=O1) ?_ ?_,λE=>du (okF:=O2) ?_ ?_,λE=>du (okF:=SD) ?_ ?_,λE=>du (okF:=H6 2) ?_ ?_,λE=>du (okF:=CZ) ?_ ?_,λE=>du (okF:=CZ) ?_ ?_,λE=>du (okF:=O0) ?_ ?_,λE=>du (okF:=Gm) ?_ ?_⟩
     all_goals first
      |(subst E;exact J)
      |(subst E;rfl)
      |(obtain⟨h2,h3,h4,F,G,h7,R,h9⟩:=E;first|(rw[ckQ,if_neg h2,if_neg h3,if_neg h4,if_neg F,if_neg G,if_neg h7,if_neg R,if_neg h9]at J;exact J)|grind[ZK])
def YR:AC:=λc m h K=>∃s r,c=[cS s]/\bF h s r/\r.length<=1000/\∀d h',PH.le h h'->bF h' d r->K (cS d) m h'
def bDX:AC:=λd m h K=>∃e v c q,d=[cS e,aQ v]/\bm h e c/\cQ h q v/\nf c q 0/\kN m/\(fO c q 0).1.length<=8000000/\(∀r∈(fO c q 0).1,r.length<=1000)/\∀f h',PH.le h h'->Rows h' f (fO c q 0).1->K (cS f) m h'
def ddJ N:=tH [(124,YM N),(125,YR)] [(5,{A:=Nat×tq×Sl×MH×PH,st:=λ⟨i,c,s,m,h⟩=>bO 31 33 ([(7,.at (.au 16))]++WF 17 s i) [(16,.au 75 1 (c.map eS))] m h})] [] [] [200005] [] false
def WE(a:Addr)(n c:Nat):ST:=λm h K=>MI 3 h a n c 32 (λy=>bN h 3 (FD y) (λs d=>K (tV s) m d))
theorem duX a n c m h K:WE a n c m h K=(xS (WP []) Tryz.f125 (cZ Tryz.f125) (entry Tryz.f125.ntmps [.val (.slice (some a) n c)] m h) K):=bt
def TH(n c:Nat):ST:=λm h K=>K EO m h
theorem cGJ n c m h K:TH n c m h K=(xS (WP []) Tryz.f125 (cZ Tryz.f125) (entry Tryz.f125.ntmps [.val (.slice none n c)] m h) K):=bt
def adJ(N:Nat)(C:Sl)(v:QV):=λm h K=>∀b n,eT m h b->cF m n b (B8::pN::[]) 181->i6 (λc E=>yA n b (gU c E 0)/\2<=c.size/\∀f,cF n f b (eW C 0 (List.drop 2 c.toList)) E->∃g,mQ (λu q=>xQ (λl j=>∃k:Nat,bL (jN b) v.ag=bL (jN g) u.ag/\cQ h q u/\pR q N/\jP (g=1)/\f g=some (gU (.mk (Ep l k)) 181 0)/\bm h l j/\kN f/\nf j q k/\∀s,iK (λz t=>cO h t (Rows t s (fO j q k).1) (cF f z g (Ep l (↑(fO j q k).2:Int)) 181->ML (aF s) (aF s<=aF s) s (RF (λI x=>I x/\eL 16/\bC s (iH x)/\cT s (iH x)/\bB x.1/\cE 75 1 (DX (aF s) kS)=Fk x/\iU z (uE x)/\dH t (uE
 x).2/\True) (λI A x=>I x->aX x.1 (aF (iH x)) (aM (λB o=>aR (iH x).a B o/\0<=(↑x.1:Int)/\x.1<aF (iH x)/\∃y,aK (vI x) (sL x) B (bI o x.1 1) (aT y)/\Be y (sL x) (λD F=>GW (vM x.1) (x.1<nV (xE x)) (λe=>yT (xE x) (tY x.1) e/\0<e.length/\∃d,I d/\A d<A x/\eL 16/\bC (iH x) (iH d)/\cT (iH x) (iH d)/\fI (bA x.1 1)=bR d.1/\cE 75 1 (List.set (xE x) (tY x.1) (fW D::List.drop 1 e))=Fk d/\iU (vI x) (uE d)/\fQ F (uE d).2)))) (rH (sL x) (xE x) K (vI x)))))))))
theorem TI:uz 125 YR:=by
 refine eM (fn:=Tryz.f125) (c:=cZ Tryz.f125) func125 rfl bx ?_;rintro y m h K⟨⟨a,n,c⟩,r,rfl,f,F,g⟩;refine⟨WP [],rfl,aG,?_⟩;cases a with
 |none=>
  show xS _ Tryz.f125 (cZ Tryz.f125) (entry Tryz.f125.ntmps [.val (.slice none n c)] m h) K;rw[<-cGJ n c m h K];dsimp only[TH,push_cast];refine g ⟨none,0,0⟩ h (.refl _) ?_;cases r with
  |nil=>exact⟨⟨[],bT.nil _ _,rfl,λi x z=>by simp at z⟩,bu⟩
  |cons x r=>
   have⟨b,o,v,e,_⟩:=aU.at f (i:=0) (x:=x) rfl;cases e
 |some a=>
  show xS _ Tryz.f125 (cZ Tryz.f125) (entry Tryz.f125.ntmps [.val (.slice (some a) n c)] m h) K;rw[<-duX a n c m h K];dsimp only[WE,push_cast];obtain⟨⟨j,A,B,C⟩,D⟩:=f;refine⟨j.map VV.ag,?_,A,da,da,λs h' le E=>g s h' le ⟨⟨j,da,B,C⟩,D⟩⟩;constructor
  .intro e d;obtain⟨x,_,rfl⟩:=mem_map.1 d;rfl
  .intro e d u t;obtain⟨x,_,rfl⟩:=mem_map.1 d;simp[VV.ag]at t;rcases t with rfl|rfl|rfl<;>rfl
theorem bVZ:uz 82 bDX:=by
 refine Lr func82 ?_;rintro a0 m h K⟨R,v,S,q,rfl,E,hq,F,U,hl,V,W⟩;refine⟨ddJ (SizeOf.sizeOf q+1),rfl,aD (atX _) (aD TI aG),adJ (SizeOf.sizeOf q+1) R v m h (pY h K),bt,?_⟩;dsimp only[adJ,push_cast];intro b m1 G n;have⟨s1,X⟩:=mM (dh.refl m) G n;refine⟨_,_,⟨n.y⟩,bu,λm2 t=>?_⟩;have Y:dh m m2:=s1.dv X t.ai
 have y:b≠1:=λe=>by
  obtain⟨T,fz,H⟩:=U
  grind
 refine⟨b,v,q,R,S,0,rfl,hq,aC,y,t.y,E,U.sub Y,F,λs I Z A J L=>?_⟩;have s3:dh m I:=Y.dv X L.ai;generalize (fO S q 0).1=rs at hl V W J;have a1:=aU.e J;refine⟨aC,aC,aC,aC,λz=>z.1<=rs.length/\z.2.2.1=s/\z.2.2.2.1=I/\PH.le Z z.2.2.2.2/\∃B,z.2.1=B++replicate (rs.length-z.1) ⟨none,0,0⟩/\eN z.2.2.2.2 B (rs.take z.1),λz=>rs.length-z.1,⟨(0,replicate rs.length ⟨none,0,0⟩,s,I,Z),⟨bu,rfl,rfl,.refl _,[],bu,by grind[eN.nil]⟩,?_⟩,?_⟩
 .rw[show((s.len:Int)).toNat=rs.length by omega];dsimp only;rw[map_replicate];exact MT
 .rintro⟨i,d,s',m',hz⟩⟨hi,H,e2,c,B,g,f⟩;dsimp only at hi H e2 c g f⊢
  subst H e2;have M:=f.len;rw[length_take]at M;refine aE (λa2=>?_) (λa3=>?_)
  .have C:i<rs.length:=by omega
   have⟨b2,o,u,ea,rd,hv⟩:=aU.at J (sh C);have a':d.length=rs.length:=da
   have O:d[i]?=some ⟨none,0,0⟩:=by
    grind
   refine⟨b2,o,ea,aC,aC,u,.ay ((rd.mono c)),u,rs[i],rfl,bF.mono hv c,V _ (getElem_mem _),λsc h5 D P=>⟨aC,da,[B8],by rw[getElem?_map,show((i:Int)).toNat=i from rfl,O];rfl,bu,(i+1,d.set i sc,s',m',h5),⟨aC,rfl,rfl,c.trans D,B++[sc],?_,?_⟩,aC,?_⟩⟩
   .dsimp only;rw[g,set_append,if_neg aC,append_assoc];congr 1;rw[show rs.length-i=(rs.length-(i+1))+1 by omega,replicate_succ,show i-B.length=0 by omega];rfl
   .dsimp only;rw[sy,sh C];exact(f.mono D).cw P
   .dsimp only
    have e9:((d.map eS).set ((i:Int)).toNat (fW sc::List.drop 1 [B8]))=(d.set i sc).map eS:=by
     rw[map_set];rfl
    exact⟨MT,rfl,rfl,by grind[fH],by rw[<-e9],MT⟩
  .have:i=rs.length:=by omega
   subst this;rw[Nat.sub_self,replicate_zero,append_nil]at g;subst g;rw[take_length]at f;intro s6 h6 j Q;exact⟨m,h6,s3,A.trans (c.trans j),.refl _,W s6 h6 (A.trans (c.trans j)) ((f.mono j).rows Q aC)⟩
mutual
def Dc(h:PH):ae->QV->Nat->uh->Prop
 |.mk _ _ _ _ _ _ _ _ args,v,d,f=>∃e c,bT h v.args 21 (e.map QV.ag)/\oW h args e (d+1) c/\f=(d,v)::c
def oW(h:PH):List ae->ud->Nat->uh->Prop
 |[],e,_,f=>e=[]/\f=[]
 |q::qs,e,d,f=>∃v c g j,e=v::c/\cQ h q v/\Dc h q v d g/\oW h qs c d j/\f=g++j
end
def dwX(e:Nat×QV):tm:=[.int .i64 (e.1:Nat),.agg e.2.ag.toArray]
def Yz(N:Nat):AC:=λc m h K=>∃(v:_)(q:_)(d l f:Nat)(g xs:uh)(J:Nat->MH->PH->Prop),c=[aQ v,cI d,.val (.func (.yield l) #[] #[])]/\Dc h q v d g/\SizeOf.sizeOf q<N/\d+oU q<=8000000/\(∀j e,g[j]?=some e->xs[f+j]?=some e)/\J f m h/\
 (∀k e m' h',xs[k]?=some e->PH.le h h'->J k m' h'->YDo Tryz.prog l (dwX e) m' h' (λr o n=>r=true/\PH.le h' n/\J (k+1) o n))/\
 ∀m' h',PH.le h h'->J (f+g.length) m' h'->K (cB true) m' h'
def b7Z(N:Nat)(v:QV)(d l:Nat):=
 {dD [(148,Yz N)] [(4,{A:=Nat×MH×PH,st:=λ⟨i,m,h⟩=>bO 28 31 ([(1,iv d),(2,vv (.func (.yield l) #[] #[]))]++WF 15 v.args i) [] m h})] [] [] false with yield:=some (cQX Tryz.prog)}
def Yy:PH->tm->List tm->Prop:=λh c xs=>∃b v q d,c=[.pointer (some ⟨b,0,none⟩)]/\bJ h b 0 (QV.ag v)/\Dc h q v 1 d/\oU q<=900000/\xs=d.map dwX
def bAX:AC:=λc m h K=>∃v,c=[aQ v]/\∀b h',PH.le h h'->bJ h' b 0 (QV.ag v)->K (.val (.func (.func 147) #[] #[.pointer (some ⟨b,0,none⟩)])) m h'
abbrev NH(a:Nat->(Nat×QV)->Prop):=∀x c,a x c
abbrev HC(a:uh)(b:Nat)(c:Nat×QV):=a[b]?=some c
attribute [push_cast] NH HC
def TD(N:Nat)(v:QV)(d l:Nat):ST:=λm h K=>RU (cQX Tryz.prog)/\NL (λC D=>∃R,FB l::bL (fD d) v.ag=FB C::List.map .val D/\YDo Tryz.prog C D m h R/\∀u,iK (λt z=>R u t z->cC u (K bH t z) (DT (λI x=>I x/\qZ d/\HE l/\aH v.args/\rQ v/\bB x.1/\fK t x/\dH z x.2/\True) (λI E x=>I x->aX x.1 (aF v.args) (ab v.args x.1 21 QV.ag (cA x) (bW x) (λy=>mQ (λF q=>aM (λA G=>∃(k:_)(e H:_)(J:Nat->MH->PH->Prop),DM y (bA d 1) l=DM F A G/\Dc (bW x) q F A e/\pR q N/\A+oU q<=8000000/\NH (λj f=>HC e j f->HC H (k+j) f)/\J k (cA x) (bW x)/\NH (λB f=>iK (λg c=>HC H B f->PH.le (bW x) c->J B g c->YDo Tryz.prog G (BH f.1 (.agg (.mk f.2.ag))) g c (λr=>λM=>λL=>mZ r/\PH.le c L/\J (dG B) M L)))/\iK (λg c=>cO (bW x) c (J (k+e.length) g c) (∃n,I n/\E n<E x/\qZ d/\HE l/\aH v.args/\aY v.args/\fI (bA x.1 1)=bR n.1/\fK g n/\fQ c n.2)))))) (K eE (cA x) (bW x))))))
def a8J N l u:=λm h K=>∃y,aK m h u 0 y.ag/\mQ (λv q=>aM (λd o=>∃(k:_)(e x:_)(J:Nat->MH->PH->Prop),DM y 1 l=DM v d o/\Dc h q v d e/\pR q N/\d+oU q<=8000000/\NH (λj f=>HC e j f->HC x (k+j) f)/\J k m h/\NH (λn f=>iK (λg c=>HC x n f->PH.le h c->J n g c->YDo Tryz.prog o (BH f.1 (.agg (.mk f.2.ag))) g c (λr=>λz=>λt=>mZ r/\PH.le c t/\J (dG n) z t)))/\iK (λg c=>cO h c (J (k+e.length) g c) (BP K g c))))
def Tj(v:QV):ST:=λm h K=>∀b B,eT m h b->cF m B b kS 31->∃C,lN (eO (i7 v) (i7 C)) (λD=>∀o,cO h o (bJ o D 0 C.ag) (∃(S:_)(x:_)(I:Nat->MH->PH->Prop),LU Tryz.prog 147 S/\S o [py D 0] (List.map (λg=>BH g.1 (.agg (.mk g.2.ag))) x)/\I 0 B o/\(∀k e f,iK (λj d=>x[k]?=some (e,f)->PH.le o d->I k j d->∀t u,eT j d t->cF j u t zV 68->i6 (λc E=>yA u t (gU c E 0)/\21<=c.size/\∀n,cF u n t (bD f.op f.ah (bD (fM f) (fN f) (Hr f (fW f.on::fW f.be::eW f.bh f.bg (kH (fW f.args) 21 c))))) E->
 wY n d t 0 (λy=>dP y 1 (lI n d b 0 (λF=>wY n d t 1 (λH=>∃g,cH n (bK F) 3 1 g/\cJ (fS g 1*8)/\fA g/\fY (λs z=>cL n z (bK F) s 3 1 (hZ g (bV H))->aj z b (fW s) (λG=>I (dG k) G d))))) (I (dG k) n d)))))/\iK (λj d=>cO o d (I x.length j d) (lI j d b 0 (λy=>K (tV y) j d)))))
mutual
theorem Dc.mono{h h':PH}(le:PH.le h h'):∀{q:ae}{v:QV}{d:Nat}{es:uh},Dc h q v d es->Dc h' q v d es
 |.mk _ _ _ _ _ _ _ _ args,v,d,es,w=>by
  rw[Dc]at w⊢
  obtain⟨e,c,f,g,j⟩:=w;exact⟨e,c,f.mono le,oW.mono le g,j⟩
theorem oW.mono{h h':PH}(le:PH.le h h'):∀{qs:List ae}{vs:ud}{d:Nat}{es:uh},oW h qs vs d es->oW h' qs vs d es
 |[],vs,d,es,w=>by rw[oW]at w⊢;exact w
 |q::qs,vs,d,es,w=>by
  rw[oW]at w⊢
  obtain⟨v,c,e,f,g,j,n,o,t⟩:=w;exact⟨v,c,e,f,g,j.mono le,Dc.mono le n,oW.mono le o,t⟩
end
theorem oW.len{h:PH}:∀{qs:List ae}{vs:ud}{d:Nat}{es:uh},oW h qs vs d es->vs.length=qs.length
 |[],vs,d,es,w=>by rw[oW]at w;grind
 |q::qs,vs,d,es,w=>by
  rw[oW]at w;obtain⟨v,c,g,j,e,n,o,f,t⟩:=w;rw[e,te,te,oW.len f]
mutual
theorem Dc.of{h:PH}:∀{q:ae}{v:QV},cQ h q v->∀d,∃es,Dc h q v d es
 |.mk _ _ _ _ _ _ _ _ args,v,e,d=>by
  obtain⟨_,_,_,_,_,_,_,_,_,g,f,c⟩:=e;have⟨es,j⟩:=oW.of c (d+1);exact⟨(d,v)::es,by rw[Dc];grind⟩
theorem oW.of{h:PH}:∀{qs:List ae}{vs:ud},uV h qs vs->∀d,∃es,oW h qs vs d es
 |[],vs,c,d=>⟨[],by rw[oW];exact⟨c,rfl⟩⟩
 |q::qs,vs,c,d=>by
  obtain⟨v,e,rfl,f,g⟩:=c;have⟨j,o⟩:=Dc.of f d;have⟨n,t⟩:=oW.of g d;exact⟨j++n,by rw[oW];grind⟩
end
mutual
def fP:ae->ti
 |.mk op ta _ _ _ _ _ _ args=>(if op=1 then[ta]else[])++fE args
def fE:List ae->ti
 |[]=>[]
 |q::qs=>fP q++fE qs
end
def En(es:uh):=(es.filter λe=>e.2.op==1).map λe=>e.2.ah
theorem OS{a b}:En (a++b)=En a++En b:=by simp[En]
mutual
theorem Dc.lf{h:PH}:∀{q:ae}{v:QV}{d:Nat}{es:uh},cQ h q v->Dc h q v d es->En es=fP q
 |.mk op ta _ _ _ _ _ _ args,v,d,es,e,w=>by
  rw[Dc]at w;obtain⟨g,c,j,f,rfl⟩:=w;obtain⟨n,o,_⟩:=e;rw[fP,<-oW.lf f,show((d,v)::c)=[(d,v)]++c from rfl,OS]
  grind[En]
theorem oW.lf{h:PH}:∀{qs:List ae}{vs:ud}{d:Nat}{es:uh},oW h qs vs d es->En es=fE qs
 |[],vs,d,es,w=>by rw[oW]at w;rw[w.2];rfl
 |q::qs,vs,d,es,w=>by
  rw[oW]at w;obtain⟨v,c,j,n,o,e,f,g,rfl⟩:=w;rw[OS,fE,Dc.lf e f,oW.lf g]
end
mutual
theorem Dc.lc{h:PH}:∀{q:ae}{v:QV}{d:Nat}{es:uh},Dc h q v d es->es.length<=oU q
 |.mk op ta _ _ _ _ _ _ args,v,d,es,w=>by
  rw[Dc]at w;obtain⟨f,c,g,e,rfl⟩:=w;have:=oW.lc e
  grind[oU,te]
theorem oW.lc{h:PH}:∀{qs:List ae}{vs:ud}{d:Nat}{es:uh},oW h qs vs d es->es.length<=uL qs
 |[],vs,d,es,w=>by grind[oW]
 |q::qs,vs,d,es,w=>by
  rw[oW]at w;obtain⟨v,c,g,j,n,o,e,f,rfl⟩:=w;have t:=Dc.lc e;have u:=oW.lc f
  grind[uL,sj]
end
theorem dxQ:∀q:ae,1<=oU q
 |.mk _ _ _ _ _ _ _ _ _=>by rw[oU];omega
theorem brZ:∀l:List ae,l.length<=uL l
 |[]=>bu
 |a::l=>by have:=brZ l;grind[uL,dxQ,te]
theorem Yq:∀{l:List ae}{a:ae},a∈l->oU a<=uL l
 |b::l,a,h=>by
  rw[uL];rcases mem_cons.1 h with rfl|h
  .omega
  .have:=Yq h;omega
theorem Wj:∀N,uz 148 (Yz N)
 |0=>by
  refine gV func148 ?_;rintro U m h K⟨v,q,d,l,T,es,xs,J,rfl,_,hN,_⟩;omega
 |N+1=>by
  refine gV func148 ?_;rintro U m h K⟨v,q,d,l,T,es,xs,J,rfl,hw,hN,hd,hx,h0,f,C⟩;refine⟨b7Z N v d l,rfl,aD (Wj N) aG,TD N v d l,bt,?_⟩;dsimp only[TD,push_cast];obtain⟨op,ta,w,co,on,gr,od,li,args⟩:=q;rw[Dc]at hw;obtain⟨D,E,y,F,rfl⟩:=hw;simp only[ae.mk.sizeOf_spec]at hN;rw[oU]at hd;have a':=F.len;have V:=y.len;have a0:=brZ args;rw[length_map]at V;refine⟨Sa _,l,dwX (d,v),_,rfl,f T (d,v) m h (hx 0 _ rfl) (.refl _) h0,?_⟩;rintro u m' h'⟨rfl,G,hJ⟩;refine aB (λe=>by cases e) (λ_=>?_);refine⟨λz=>z.1<=args.length/\PH.le h z.2.2/\∃B W,E=B++W/\oW z.2.2 (args.drop z.1) (D.drop z.1) (d+1) W/\J (T+1+B.length) z.2.1 z.2.2,λz=>args.length-z.1,⟨(0,m',h'),⟨bu,G,[],E,rfl,F.mono G,hJ⟩,MT⟩,?_⟩;rintro⟨i,mz,hz⟩⟨hi,g,B,W,H,n,I⟩;dsimp only at hi g n I⊢
  refine aE (λa1=>?_) (λa2=>?_)
  .have A:i<args.length:=by omega
   rw[drop_eq_getElem_cons A,oW]at n;obtain⟨L,M,O,X,P,a3,Y,Q,rfl⟩:=n
   have a4:D[i]?=some L:=by
    have:(D.drop i)[0]?=some L:=by rw[P];rfl
    grind
   have R:M=D.drop (i+1):=by
    have:(D.drop i).drop 1=M:=by rw[P];rfl
    grind[drop_drop]
   have⟨b,o,ea,rd⟩:=y.get (i:=i) (e:=L.ag) da;have a5:=sizeOf_lt_of_mem (getElem_mem A);have a6:=Yq (getElem_mem A);refine⟨b,o,ea,aC,aC,L,.ay (rd.mono g),L,args[i],d+1,l,T+1+B.length,O,xs,J,by grind[fH],Y,aC,aC,λj e hj=>?_,I,λk e Z h2 hk t S=>f k e Z h2 hk (g.trans t) S,λZ h2 t S=>⟨(i+1,Z,h2),⟨aC,g.trans t,B++O,X,da,?_,?_⟩,aC,?_⟩⟩
   .have h5:=(sg hj)
    have:=hx (1+B.length+j) e (by
     grind)
    grind
   .dsimp only;rw[<-R];exact Q.mono t
   .grind
   .dsimp only;rw[fH aC];exact MT
  .have:i=args.length:=by omega
   subst this;rw[drop_of_length_le (Nat.le_refl _),oW]at n;obtain⟨_,rfl⟩:=n;rw[append_nil]at H;subst H;exact C mz hz g da
theorem aqJ:uz 147 (cWZ Tryz.prog Yy):=by
 refine gV func147 ?_;rintro o m h K⟨l,f,xs,J,rfl,⟨b,v,q,g,rfl,t,u,z,rfl⟩,y,c,d⟩;refine⟨WP [(148,Yz (SizeOf.sizeOf q+1))],rfl,aD (Wj _) aG,a8J (SizeOf.sizeOf q+1) l b,bt,?_⟩;exact⟨v,.ay t,v,q,1,l,0,g,g,J,rfl,u,aC,aC,λj e A=>da,y,λk e m' h' B le n=>c k (dwX e) m' h' da le n,λm' h' le n=>d _ m' h' le da⟩
theorem c8X:LU Tryz.prog 147 Yy:=⟨aqJ⟩
theorem auX:uz 111 bAX:=by
 refine Uy func111 ?_;rintro g m h K⟨v,rfl,j⟩;refine⟨WP [],rfl,aG,PS v m h (dR h K),bt,?_⟩;dsimp only[PS,push_cast];intro b m' c d _;have sub:dh m m':=(mM (dh.refl m) c d).1;refine⟨m,vQ h b (QV.ag v),sub,FN c.h_,λn i o e=>?_,j b _ (FN c.h_) bsQ⟩;by_cases f:n=b
 .subst f;simp only[vQ,if_true]at e;exact .inr ⟨_,_,_,d.y,da,c.m_⟩
 .simp only[vQ,if_neg f]at e;exact .inl e
structure ccZ(T E:TypeId)(m mx:MH)(b:Nat)(vs:tm):Prop where
 ex:∃s:Sl,mx b=some (.cells #[.slice s.a s.len s.cap] T (0,0))/\cH mx s E 1 (vs.map λv=>[v])/\∀i x,s.a=some ⟨x,i,none⟩->m x=none
theorem ccZ.new{T E}(d:m' b=some (.cells #[B8] T (0,0))):ccZ T E m m' b []:=⟨⟨none,0,0⟩,d,⟨⟨λe c=>by simp at c,λe c=>by simp at c⟩,.inl ⟨rfl,rfl⟩⟩,λi x e=>by cases e⟩
theorem cjZ{T E t s vs e}{Q:MH->Prop}(c:∃o,m b=some o)(A:HZ m t b)(C:t b=some (.cells #[.slice s.a s.len s.cap] T (0,0)))(B:cH t s E 1 (vs.map λv=>[v]))(D:∀i x,s.a=some ⟨x,i,none⟩->m x=none)(F:∀m',HZ m m' b->ccZ T E m m' b (vs++[e])->Q m'):
 ∀u m',cL t m' (Sl.mk s.a s.len s.cap) u E 1 ((vs.map λv=>[v])++[[e]])->
  ∃cs E,yA m' b (.cells cs E (0,0))/\0<cs.size/\∀m2:MH,iZ m' m2 b (.cells (.mk (fW u::cs.toList.drop 1)) E (0,0))->Q m2:=by
 obtain⟨M,c⟩:=c;have y:∀i,s.a≠some ⟨b,i,none⟩:=λi d=>da
 refineλu m' f=>⟨_,_,⟨f.ai b _ C y⟩,bu,λm2 z=>F m2 ?_ ⟨u,z.y,?_,?_⟩⟩
 .intro x o G g;rw[z.ai x g];exact f.ai x o (A x o G g) (λi d=>da)
 .have H:(vs++[e]).map (λv=>[v])=vs.map (λv=>[v])++[[e]]:=bu
  rw[H];refine cH.br f.row (λx i d=>z.ai x (λI=>?_));subst I;rcases f.f x i d with n|⟨j,n⟩
  .grind
  grind
 .intro i x d;rcases f.f x i d with n|⟨j,n⟩
  .cases J:m x with
   |none=>rfl
   |some o=>
    by_cases L:x=b
    .grind
    .rw[A x o J L]at n;cases n
  grind
theorem dR.rowG{E hx s}{vs:tm}(sub:dh m m')(le:PH.le h hx)(t:cH m' s E 1 (vs.map λv=>[v]))(H:∀i b,s.a=some ⟨b,i,none⟩->m b=none)(g:∀h',PH.le hx h'->bT h' s 1 (vs.map λv=>[v])->K (cS s) m h'):dR h K (cS s) m' hx:=by
 intro y;rcases t.ex with⟨rfl,z⟩|⟨b,A,f,rfl,B,I,J,L,M⟩
 .refine⟨m,hx,sub,le,λb i v e=>.inl e,g hx (.refl _) ?_⟩
  grind[bT.nil]
 .have n:∀i,hx b i=none:=y b _ B;refine⟨m,vQ hx b f.toList,sub,le.trans (FN n),λO i v e=>?_,g _ (FN n) ⟨?_,?_,?_⟩⟩
  .grind[vQ]
  .simp
  .by_cases C:vs.map (λv=>[v])=[]
   .exact .inl C
   .refine .inr ⟨b,0,rfl,λi e d=>⟨λj v o=>?_⟩⟩;rw[getElem?_map]at d;cases c:vs[i]? with
    |none=>grind
    |some u=>
     rw[c]at d;simp at d;subst d;have D:j=0:=da
     subst D;have o:u=v:=da
     subst o;have F:=(sg c)
     have G:∀l:tm,(l.map λv=>[v]).flatten=l:=λl=>by
      induction l with
      |nil=>rfl
      |cons a l P=>grind
     grind[vQ]
  omega
def cSZ:AC:=λc m h K=>∃v q,c=[aQ v]/\cQ h q v/\oU q<=900000/\∀d h',PH.le h h'->an h' d (fP q)->K (cS d) m h'
theorem bVJ:uz 81 cSZ:=by
 refine NZ func81 ?_;rintro a0 m h K⟨v,q,rfl,hq,hs,hK⟩;refine⟨{tH [(111,bAX)] [] [] [] [200003,200005,1031,0] [] false with qz:=[3,68]},rfl,aD auX aG,Tj v m h (dR h K),bt,?_⟩;show Tj v m h (dR h K);dsimp only[Tj,push_cast];intro b M Q y;have⟨s1,n1⟩:=mM (dh.refl m) Q y;refine⟨v,rfl,λbw h1 t R=>?_⟩;have⟨g,S⟩:=Dc.of (hq.mono t) 1;have a1:=S.lc;have T:=Dc.lf (hq.mono t) S;refine⟨Yy,g.map λe=>((e.1:Int),e.2),λk E U=>U=h1/\HZ M E b/\ccZ 31 3 M E b ((En (g.take k)).map λn=>.int .i64 n),c8X,⟨bw,v,q,g,rfl,R,S,hs,?_⟩,⟨rfl,λx o e _=>e,ccZ.new y.y⟩,?_,?_⟩
 .rw[map_map];rfl
 .rintro k d e' E U O-⟨rfl,A,c⟩ V m2 W F;rw[getElem?_map]at O;cases X:g[k]? with
  |none=>grind
  |some e=>
   rw[X]at O;simp only[Option.map_some,ss,Prod.mk.injEq]at O;obtain⟨rfl,rfl⟩:=O;refine⟨_,_,⟨F.y⟩,bu,λP G=>?_⟩
   have up:∀{z o},E z=some o->P z=some o/\z≠V:=fun{z o} B=>by
    have:z≠V:=λY=>by rw[Y,W.m_]at B;cases B
    exact⟨by rw[G.ai z this,F.ai z this];exact B,this⟩
   have H:P V=some (.cells ⟨e.2.ag⟩ 68 (0,0)):=G.y;have I:HZ M P b:=λx o B Z=>(up (A x o B Z)).1
   have C:ccZ 31 3 M P b ((En (g.take k)).map λn=>.int .i64 n):=by
    have⟨s,h5,h6,h7⟩:=c.ex;refine⟨s,(up h5).1,cH.br h6 λz i Y=>?_,h7⟩;have⟨a2,h8⟩:=h6.cj Y
    grind
   have a3:En (g.take (k+1))=En (g.take k)++(if e.2.op==1 then[e.2.ah]else[]):=by
    grind[En,sy,Option.toList_some,OS]
   refine⟨e.2.op,.i H rfl,aB (λh5=>?_) (λh5=>⟨rfl,I,da⟩)⟩;have⟨s,u,f,D⟩:=C.ex
   have J:(En (g.take k)).length<=g.length:=by
    grind[En,length_map]
   refine⟨s,.i u rfl,e.2.ah,.i H rfl,_,f,cv,cv,cjZ ⟨_,y.y⟩ I u f D λm' a' a4=>⟨rfl,a',?_⟩⟩
   grind
 .rintro E U-⟨rfl,A,c⟩
  rw[length_map,take_length,T]at c;have⟨s,u,f,D⟩:=c.ex
  have J:(fP q).length<=g.length:=by
   grind[En,length_map]
  refine⟨s,.i u rfl,dR.rowG (s1.x n1 A) t f (λj z e=>?_) (λh' le L=>hK s h' (t.trans le) ⟨by rw[map_map]at L;exact L,aC⟩)⟩;cases B:m z with
  |none=>rfl
  |some o=>have e1:=D j z e;rw[s1 z o B]at e1;cases e1
structure B4(s:kD)(c:Nat)(ls:List tj)(k:Nat)(ts:ti):Prop where
 y:∀j t,ts[j]?=some t->∃l,ls[k+j]?=some l/\lT (fC s t).length l/\l.length<=c
theorem B4.left{c k ls b}(x:B4 s c ls k (a++b)):B4 s c ls k a:=
 ⟨λj t h=>x.y j t da⟩
theorem B4.right{c k ls b}(x:B4 s c ls k (a++b)):B4 s c ls (k+a.length) b:=
 ⟨λj t h=>by
  have:=x.y (a.length+j) t da
  grind⟩
theorem AE{op on args ks}(h:cX s ps (.mk op ta w co on gr od li args)=(ks,0)):
 ∃c,gK s ps args=(c,0)/\(c.length:Int)=cm op/\lS s ps (.mk op ta w co on gr od li args) (c.getD 0 []) (c.getD 1 [])=(ks,0):=by
 grind[cX,gK,nY,Prod.mk.injEq]
theorem sQ{qs d}(h:gK s ps (q::qs)=(d,0)):∃k c,cX s ps q=(k,0)/\gK s ps qs=(c,0)/\d=k::c:=by
 grind[gK]
theorem zX{ks}(h:Ez l=(ks,0)):ks=l/\l.length<=12:=by
 grind[Ez]
theorem biZ{op}(h:cm op=0):op=1:=by
 grind[cm]
mutual
theorem azZ{s:kD}{ps:ti}{c:Nat}(f:1<=c):∀{q:ae}{ks:ti},cX s ps q=(ks,0)->1<=rE c q
 |.mk op ta w co on gr od li args,ks,h=>by
  have⟨g,d,j,n⟩:=AE h;have e:=bjQ f d;rw[rE];split
  .exact f
  .rename_i o;split
   .exact e.1
   .match args,d,e with
    |[],d,_=>simp_all[gK,Prod.mk.injEq,and_true,biZ]
    |q::qs,d,e=>grind
theorem bjQ{s:kD}{ps:ti}{c:Nat}(e:1<=c):∀{qs:List ae}{d:List ti},gK s ps qs=(d,0)->1<=Av c qs/\(qs≠[]->1<=BF c qs)
 |[],d,h=>by simp[Av]
 |q::qs,d,h=>by
  have⟨k,f,g,j,t⟩:=sQ h;have n:=azZ e g;have o:=bjQ e j;rw[Av,BF];exact⟨Nat.mul_pos n o.1,λ_=>by omega⟩
end
def Xq(c:Nat):List ae->List ti->List tj->Prop
 |[],[],[]=>True
 |q::qs,k::ks,l::ls=>lT k.length l/\l.length<=rE c q/\Xq c qs ks ls
 |_,_,_=>False
theorem X1{α:Type}:∀{l:List α},l.length=2->∃a b,l=[a,b]
 |[a,b],_=>⟨a,b,rfl⟩
theorem Xq.len{c qs ls}(h:Xq c qs ks ls):qs.length=ks.length/\ls.length=ks.length:=by
 induction qs generalizing ks ls with
 |nil=>
  match ks,ls,h with
  |[],[],_=>omega
  |_::_,[],h=>exact h.elim
  |[],_::_,h=>exact h.elim
  |_::_,_::_,h=>exact h.elim
 |cons q qs d=>
  match ks,ls,h with
  |[],[],h=>exact h.elim
  |_::_,[],h=>exact h.elim
  |[],_::_,h=>exact h.elim
  |k::ks,l::ls,h=>
   have⟨e,f⟩:=d h.2.2
   grind
theorem lT.filter{w l}(x:lT w l) p:lT w (l.filter p):=
 ⟨λr h=>x.row r (mem_filter.1 h).1,λr h=>x.gi r (mem_filter.1 h).1,x.jw.filter p,tf (length_filter_le _ _) x.len⟩
theorem ZY(x:to):∀l:tj,(Pe x l).length<=l.length+1
 |[]=>by simp[Pe]
 |y::l=>by
  have:=ZY x l
  grind[Pe]
theorem Md:∀l:tj,(AT l).length<=l.length
 |[]=>by simp[AT]
 |x::l=>by
  have c:=Md l
  grind[AT,Pe,ZY]
theorem lT.set{w l}(c:∀r∈l,YZ r)(d:∀r∈l,r.length=w)(e:l.length<=8000000):lT w (AT l):=
 ⟨λr h=>c r (Ip.1 h),λr h=>d r (Ip.1 h),EX l,tf (Md l) e⟩
theorem Ow:∀{x y u v:to},x.length=y.length->cV (x++u) (y++v)=if cV x y≠0 then cV x y else cV u v
 |[],[],u,v,_=>by simp[cV]
 |a::x,b::y,u,v,h=>by
  simp only[te,Nat.add_right_cancel_iff]at h;simp only[cons_append,cV];by_cases e:lY a b=0
  .simp only[e,ne_eq,not_true_eq_false,if_false];exact Ow h
  .simp[e]
 |[],_::_,_,_,h=>by simp at h
 |_::_,[],_,_,h=>by simp at h
theorem FM{on b x z}(h:z∈mC on b x):∃y∈b,z=x++y:=by
 grind[mC]
theorem lT.pg{w w' a b on}(d:lT w a)(g:lT w' b)(t:w+w'<=12)(j:a.length*b.length<=8000000):lT (w+w') (a.flatMap (mC on b)):=by
 refine⟨λr h=>?_,λr h=>?_,?_,tf (AP λx _=>CP) j⟩
 .have⟨x,c,h⟩:=mem_flatMap.1 h;obtain⟨y,e,rfl⟩:=FM h;have A:=d.gi x c;have B:=g.gi y e;refine⟨da,λv f=>?_⟩;rcases mem_append.1 f with f|f
  .exact(d.row x c).val v f
  .exact(g.row y e).val v f
 .have⟨x,c,h⟩:=mem_flatMap.1 h;obtain⟨y,e,rfl⟩:=FM h;rw[sj,d.gi x c,g.gi y e]
 .refine pairwise_flatMap.2 ⟨λx c=>?_,?_⟩
  .unfold mC;split
   .refine pairwise_map.2 ((g.jw.filter _).imp fun{y z} h=>?_);rw[Ow rfl,if_neg (by rw[eX.2 rfl];simp)];exact h
   .exact List.Pairwise.nil
  .refine d.jw.imp_of_mem fun{x y} c e h z n u o=>?_;obtain⟨C,_,rfl⟩:=FM n;obtain⟨D,_,rfl⟩:=FM o;rw[Ow (by rw[d.gi x c,d.gi y e]),if_pos aC];exact h
theorem X6{c}(h:IK a c=true):0<=c/\c<a.length:=by
 simp_all[IK]
theorem NY{α}{T:List α->α->Prop}{l}(h:cn T l){x}(hx:x∈l):∃c,T c x:=by
 have⟨i,d,e⟩:=mem_iff_getElem.1 hx;exact⟨_,h i x da⟩
theorem Ms:∀(n:Nat)(l:ti),l.Nodup->(∀x∈l,0<=x/\x<n)->l.length<=n
 |0,[],_,_=>bu
 |0,x::l,_,h=>by grind[mem_cons_self]
 |n+1,l,c,h=>by
  by_cases e:(n:Int)∈l
  .have f:=Ms n (l.erase n) (c.erase _) (λx d=>by
    grind)
   grind
  .have:=Ms n l c (λx d=>by
    grind)
   omega
theorem Te{α T l}(f:α->Int)(d:∀c x,T c x->f x∉c.map f)(h:cn T l):(l.map f).Nodup:=by
 rw[nodup_iff_pairwise_ne,pairwise_map,pairwise_iff_getElem];intro i j o g n e;refine d _ _ (h j l[j] (sh g)) (mem_map.2 ⟨l[i],?_,e⟩)
 grind[mem_take_iff_getElem]
theorem Td(h:cn (Qi a) gr)(j:a.length<=12):jY a.length gr:=by
 have f:∀c∈gr,0<=c/\c<a.length:=λc g=>by have⟨_,d⟩:=NY h g;exact X6 d.1
 have d:=Te id (λe x(h:Qi a e x)=>mp h.2) h;rw[map_id]at d;exact⟨f,by have:=Ms _ _ d f;omega⟩
theorem UW{b on}(h:cn (AR a b) on)(z:a.length<=12)(A:b.length<=12):jY a.length (jI on)/\jY b.length (jF on):=by
 have n:∀c∈jI on,0<=c/\c<a.length:=λc f=>by
  obtain⟨p,g,rfl⟩:=mem_map.1 f;have⟨_,d⟩:=NY h g;exact X6 d.1
 have d:∀c∈jF on,0<=c/\c<b.length:=λc f=>by
  obtain⟨p,g,rfl⟩:=mem_map.1 f;have⟨_,d⟩:=NY h g;exact X6 d.2.1
 have o:(jI on).Nodup:=Te Prod.fst (λj x(h:AR a b j x) t=>by
  have⟨y,u,e⟩:=mem_map.1 t;exact(h.2.2.2 y u).1 e) h
 have B:=Ms _ _ o n;exact⟨⟨n,aC⟩,⟨d,by grind[jI,jF,length_map]⟩⟩
theorem ZE{w r}(c:YZ r)(d:r.length=w)(e:jY w co)(f:co.length<=12):YZ (pick r co)/\(pick r co).length=co.length:=
 ⟨⟨by grind[pick],Mq c da⟩,by simp[pick]⟩
theorem L8{c p}:BF c [q,p]=rE c q+rE c p:=by simp[BF]
theorem XC{c}:BF c [q]=rE c q:=by simp[BF]
theorem ciQ{c p}:Av c [q,p]=rE c q*rE c p:=by simp[Av]
theorem c7Q{c op on args ks t L}(O:op≠1)(M:(t.length:Int)=cm op)(E:∀k∈t,k.length<=12)(f:lS s ps (.mk op ta w co on gr od li args) (t.getD 0 []) (t.getD 1 [])=(ks,0))(D:Xq c args t L)(n:rE c (.mk op ta w co on gr od li args)<=8000000):
 ckQ op (.mk op ta w co on gr od li args) L/\lT ks.length (ZK op (.mk op ta w co on gr od li args) L)/\(ZK op (.mk op ta w co on gr od li args) L).length<=rE c (.mk op ta w co on gr od li args):=by
 rw[rE,if_neg O]at n⊢
 unfold lS at f;dsimp only at f;split at f
 .simp[nY]at f
 have one:cm op=1->∃q k l,args=[q]/\t=[k]/\L=[l]/\lT k.length l/\l.length<=rE c q/\k.length<=12:=λe=>by
  have⟨P,Q⟩:=D.len;obtain⟨k,rfl⟩:=length_eq_one_iff.1 (show t.length=1 by omega);obtain⟨q,rfl⟩:=length_eq_one_iff.1 (show args.length=1 by omega);obtain⟨l,rfl⟩:=length_eq_one_iff.1 (show L.length=1 by omega);exact⟨q,k,l,rfl,rfl,rfl,D.1,D.2.1,E k bu⟩
 have two:cm op=2->∃q p k u l A,args=[q,p]/\t=[k,u]/\L=[l,A]/\lT k.length l/\l.length<=rE c q/\lT u.length A/\A.length<=rE c p/\k.length<=12/\u.length<=12:=λe=>by
  have⟨P,Q⟩:=D.len;obtain⟨k,u,rfl⟩:=X1 (show t.length=2 by omega);obtain⟨q,p,rfl⟩:=X1 (show args.length=2 by omega);obtain⟨l,A,rfl⟩:=X1 (show L.length=2 by omega);exact⟨q,p,k,u,l,A,rfl,rfl,rfl,D.1,D.2.1,D.2.2.1,D.2.2.2.1,E k bu,E u bu⟩
 have R:op=2\/op=3\/op=9\/op=4\/op=5\/op=6\/op=7\/op=8\/op=10:=by
  grind[cm]
 rcases R with rfl|rfl|rfl|rfl|rfl|rfl|rfl|rfl|rfl
 .obtain⟨q,k,l,rfl,rfl,rfl,j,F,B⟩:=one rfl;simp only[show((2:Int)=4)=False by decide,if_false,if_true]at f n⊢
  split at f
  .obtain⟨rfl,_⟩:=zX f;refine⟨⟨bu,λx y=>da⟩,j.filter _,tf (length_filter_le _ _) ?_⟩
   grind[XC]
  grind[nY,Prod.mk.injEq]
 .obtain⟨q,k,l,rfl,rfl,rfl,j,F,B⟩:=one rfl;simp only[show((3:Int)=4)=False by decide,show((3:Int)=2)=False by decide,if_false,if_true]at f n⊢
  split at f
  .rename_i g;obtain⟨rfl,d⟩:=zX f;rw[length_map]at d⊢
   have z:jY k.length co:=⟨λc z=>by have⟨_,M⟩:=NY g.2 z;exact X6 M,aC⟩
   rw[XC]at n⊢
   refine⟨⟨bu,d,_,j,z⟩,lT.set (λr h=>?_) (λr h=>?_) da,tf (Md _) da⟩
   .obtain⟨x,y,rfl⟩:=mem_map.1 h;exact(ZE (j.row x y) (j.gi x y) z d).1
   .obtain⟨x,y,rfl⟩:=mem_map.1 h;exact(ZE (j.row x y) (j.gi x y) z d).2
  grind[nY]
 .obtain⟨q,k,l,rfl,rfl,rfl,j,F,B⟩:=one rfl;simp only[show((9:Int)=4)=False by decide,show((9:Int)=2)=False by decide,show((9:Int)=3)=False by decide,show((9:Int)=5)=False by decide,if_false,if_true]at f n⊢
  split at f
  .rename_i g;obtain⟨rfl,d⟩:=zX f;rw[XC]at n⊢
   exact⟨⟨bu,⟨_,j,Td g.az B⟩,g.low⟩,j.filter _,tf (length_filter_le _ _) F⟩
  grind[nY]
 .obtain⟨q,p,k,u,l,A,rfl,rfl,rfl,j,F,o,G,B,C⟩:=two rfl;simp only[show((4:Int)=2)=False by decide,show((4:Int)=3)=False by decide,if_false,if_true]at f n⊢
  split at f
  .rename_i g;obtain⟨rfl,d⟩:=zX f;rw[ciQ]at n⊢
   have z:=UW g B C;have I:l.length*A.length<=rE c q*rE c p:=Nat.mul_le_mul F G;rw[sj]at d⊢
   exact⟨⟨⟨bu,_,_,j,o,z.1,z.2⟩,tf I n⟩,j.pg o d (tf I n),tf (AP λx _=>CP) I⟩
  grind[nY]
 .obtain⟨q,p,k,u,l,A,rfl,rfl,rfl,j,F,o,G,B,C⟩:=two rfl;simp only[show((5:Int)=2)=False by decide,show((5:Int)=3)=False by decide,show((5:Int)=4)=False by decide,if_false,if_true]at f n⊢
  split at f
  .rename_i g;obtain⟨rfl,d⟩:=zX f;rw[L8]at n⊢
   have z:=UW g B C;exact⟨⟨bu,_,_,j,o,z.1,z.2⟩,j.filter _,tf (length_filter_le _ _) da⟩
  grind[nY]
 all_goals
  obtain⟨q,p,k,u,l,A,rfl,rfl,rfl,j,F,o,G,B,C⟩:=two rfl
 .simp only[show((6:Int)=2)=False by decide,show((6:Int)=3)=False by decide,show((6:Int)=4)=False by decide,show((6:Int)=5)=False by decide,show((6:Int)=9)=False by decide,show((6:Int)=10)=False by decide,if_false]at f n⊢
  split at f
  .rename_i g;have g:k=u:=g;subst g;obtain⟨rfl,d⟩:=zX f;rw[L8]at n⊢
   have H:(l++A).length<=rE c q+rE c p:=da
   refine⟨⟨bu,λx y=>da⟩,lT.set (λr h=>?_) (λr h=>?_) (tf H n),tf (Md _) H⟩
   .rcases mem_append.1 h with h|h
    .exact j.row r h
    .exact o.row r h
   .rcases mem_append.1 h with h|h
    .exact j.gi r h
    .exact o.gi r h
  grind[nY]
 .simp only[show((7:Int)=2)=False by decide,show((7:Int)=3)=False by decide,show((7:Int)=4)=False by decide,show((7:Int)=5)=False by decide,show((7:Int)=9)=False by decide,show((7:Int)=10)=False by decide,if_false]at f n⊢
  split at f
  .rename_i g;have g:k=u:=g;subst g;obtain⟨rfl,d⟩:=zX f;rw[L8]at n⊢
   exact⟨⟨bu,_,λx y=>by simp at y;rcases y with rfl|rfl;exact j;exact o⟩,j.filter _,tf (length_filter_le _ _) da⟩
  grind[nY]
 .simp only[show((8:Int)=2)=False by decide,show((8:Int)=3)=False by decide,show((8:Int)=4)=False by decide,show((8:Int)=5)=False by decide,show((8:Int)=9)=False by decide,show((8:Int)=10)=False by decide,if_false]at f n⊢
  split at f
  .rename_i g;have g:k=u:=g;subst g;obtain⟨rfl,d⟩:=zX f;rw[L8]at n⊢
   exact⟨⟨bu,_,λx y=>by simp at y;rcases y with rfl|rfl;exact j;exact o⟩,j.filter _,tf (length_filter_le _ _) da⟩
  grind[nY]
 .simp only[show((10:Int)=2)=False by decide,show((10:Int)=3)=False by decide,show((10:Int)=4)=False by decide,show((10:Int)=5)=False by decide,show((10:Int)=9)=False by decide,if_false,if_true]at f n⊢
  split at f
  .rename_i g;obtain⟨g,J⟩:=g;have g:k=u:=g;subst g;obtain⟨rfl,d⟩:=zX f;rw[L8]at n⊢
   exact⟨⟨bu,_,j,o,Td J.az B⟩,j.filter _,tf (length_filter_le _ _) da⟩
  grind[nY]
theorem TY{s:kD}{ps:ti}{c:Nat}(f:1<=c):∀{qs:List ae}{d:List ti},gK s ps qs=(d,0)->∀q∈qs,rE c q<=BF c qs/\rE c q<=Av c qs
 |[],_,_,q,e=>by simp at e
 |p::qs,d,h,q,e=>by
  have⟨k,g,n,j,u⟩:=sQ h;have o:=azZ f n;have t:=(bjQ f j).1;rw[BF,Av];rcases mem_cons.1 e with rfl|e
  .exact⟨aC,Nat.le_mul_of_pos_right _ t⟩
  .have:=TY f j q e;exact⟨aC,tf this.2 (Nat.le_mul_of_pos_left _ o)⟩
theorem S7{s:kD}{ps:ti}:∀{qs:List ae}{c:List ti},gK s ps qs=(c,0)->∀k∈c,k.length<=12
 |[],c,h,k,d=>by grind[gK]
 |q::qs,c,h,k,d=>by
  obtain⟨g,e,j,f,rfl⟩:=sQ h;rcases mem_cons.1 d with rfl|d
  .grind[EB]
  .exact S7 f k d
structure d2J(c:Nat)(ls:List tj)(q:ae)(k:Nat)(ks:ti):Prop where
 ok:nf ls q k
 rel:lT ks.length (fO ls q k).1
 rn:(fO ls q k).1.length<=rE c q
 nxt:(fO ls q k).2=k+(fP q).length
mutual
theorem IV{s:kD}{ps:ti}{c:Nat}{ls:List tj}(o:1<=c):∀{q:ae}{ks:ti}{k:Nat},cX s ps q=(ks,0)->B4 s c ls k (fP q)->rE c q<=8000000->d2J c ls q k ks
 |.mk op ta w co on gr od li args,ks,k,h,f,t=>by
  have⟨A,g,u,d⟩:=AE h;by_cases e:op=1
  .subst e
   have B:args=[]:=by
    cases args with
    |nil=>rfl
    |cons q qs=>obtain⟨_,_,_,_,rfl⟩:=sQ g;simp[cm]at u;omega
   subst B;have j:fP (.mk 1 ta w co on gr od li [])=[ta]:=by simp[fP,fE]
   unfold lS at d;dsimp only at d;split at d
   .simp[nY]at d
   try rw[if_pos rfl]at d
   split at d
   .obtain⟨rfl,_⟩:=zX d;rw[j]at f;have⟨l,y,F,C⟩:=f.y 0 ta rfl;rw[Nat.add_zero]at y;have z:(fO ls (.mk 1 ta w co on gr od li []) k)=(l,k+1):=by rw[fO,if_pos rfl,getD_eq_getElem?_getD,y];rfl
    refine⟨by rw[nf,if_pos rfl];grind,da,by rw[z,rE,if_pos rfl];exact C,da⟩
   .simp[nY]at d
  .have j:fP (.mk op ta w co on gr od li args)=fE args:=by simp[fP,e]
   rw[j]at f
   have n:∀q∈args,rE c q<=8000000:=λq D=>by
    have G:=TY o g q D;rw[rE,if_neg e]at t
    grind
   have⟨H,E,I⟩:=W0 o g f n;have⟨J,L,M⟩:=c7Q e u (S7 g) d E t;have z:fO ls (.mk op ta w co on gr od li args) k=(ZK op (.mk op ta w co on gr od li args) (gJ ls args k).1,(gJ ls args k).2):=by rw[fO,if_neg e]
   exact⟨by rw[nf,if_neg e];grind,da,da,da⟩
theorem W0{s:kD}{ps:ti}{c:Nat}{ls:List tj}(j:1<=c):∀{qs:List ae}{d:List ti}{k:Nat},gK s ps qs=(d,0)->B4 s c ls k (fE qs)->(∀q∈qs,rE c q<=8000000)->ZL ls qs k/\Xq c qs d (gJ ls qs k).1/\(gJ ls qs k).2=k+(fE qs).length
 |[],d,k,h,_,_=>by
  simp_all[gK,ZL,gJ,Xq,fE,Prod.mk.injEq,and_true]
 |q::qs,d,k,h,g,n=>by
  obtain⟨z,o,t,u,rfl⟩:=sQ h;rw[fE]at g;have e:=IV j t g.left (n q (mem_cons_self ..));have f:=W0 j u g.right (λp y=>n p (mem_cons_of_mem _ y));rw[<-e.nxt]at f;rw[ZL,gJ,fE];refine⟨⟨e.ok,f.1⟩,⟨e.rel,e.rn,f.2.1⟩,?_⟩;rw[f.2.2,e.nxt,sj];omega
end
structure Dd(m:MH)(tb:Nat)(ws:List cD):Prop where
 ex:∃cur:Array Value,m tb=some (.cells cur 74 (0,0))/\cur.toList.take (ws.length*5)=(ws.map cD.ag).flatten
def bGZ:AC:=λd m h K=>∃e g n f j w c,∃t:Nat,d=[aS ⟨e,⟨some ⟨g,0,none⟩,n,f⟩⟩,cI t]/\t<n/\Dd m g j/\j[t]?=some w/\Ij h w.aa c/\c.length<=8/\
 ∀o h',PH.le h h'->an h' o (c.map oI.kind)->K (cS o) m h'
def doQ cb:=
 tH [(13,ES),(20,FZ),(51,bIX),(29,bGZ),(52,EL)] [] [(5,{A:=Int×Int×MH×PH,st:=λ⟨n,id,m,h⟩=>bO 86 87 [(0,pv cb),SW 2,(3,iv n),(4,iv id)] [(2,.cells 29 [.val (.int .i64 0),.val (.slice none 0 0)])] m h}),
  (9,{A:=Int×bQ×MH×PH,st:=λ⟨n,s,m,h⟩=>bO 86 87 [(0,pv cb),SW 2,(3,iv n),SW 5] [(2,.cells 29 [.val (.int .i64 0),.val (.slice none 0 0)]),UV 5 29 s.ag] m h}),
  (11,{A:=Int×bQ×MH×PH,st:=λ⟨n,s,m,h⟩=>bO 86 87 [(0,pv cb),SW 2,(3,iv n),SW 5] [(2,.cells 29 [.val (.int .i64 0),.val (.slice none 0 0)]),UV 5 29 s.ag] m h}),
  (13,{A:=bQ×MH×PH,st:=λ⟨s,m,h⟩=>bO 86 87 [(0,pv cb),SW 2,SW 5] [(2,.cells 29 [.val (.int .i64 0),.val (.slice none 0 0)]),UV 5 29 s.ag] m h}),
  (15,{A:=bQ×MH×PH,st:=λ⟨s,m,h⟩=>bO 86 87 [SW 2,SW 5] [(2,.cells 29 [.val (.int .i64 0),.val (.slice none 0 0)]),UV 5 29 s.ag] m h})] [] [27] [] false
def yD(id:Int):List xK:=
 [⟨⟨⟨[112,114,111,106,101,99,116,115]⟩⟩,[⟨⟨⟨[105,100]⟩⟩,4⟩,⟨⟨⟨[111,119,110,101,114]⟩⟩,4⟩],1,[],[]⟩,
  ⟨⟨⟨[116,97,115,107,115]⟩⟩,[⟨⟨⟨[105,100]⟩⟩,id⟩,⟨⟨⟨[112,114,111,106,101,99,116]⟩⟩,4⟩,⟨⟨⟨[116,105,116,108,101]⟩⟩,5⟩,⟨⟨⟨[100,111,110,101]⟩⟩,3⟩],1,[],[]⟩,
  ⟨⟨⟨[109,101,109,98,101,114,115]⟩⟩,[⟨⟨⟨[112,114,111,106,101,99,116]⟩⟩,4⟩,⟨⟨⟨[112,101,114,115,111,110]⟩⟩,4⟩],2,[],[]⟩,
  ⟨⟨⟨[97,114,99,104,105,118,101,100]⟩⟩,[⟨⟨⟨[116,97,115,107]⟩⟩,id⟩],1,[],[]⟩]
structure R7(h:PH)(t:xK)(w:cD):Prop where
 qg:w.name=t.name
 pf:w.key=t.key
 ft:Ij h w.aa t.aa
def bkQ(h:PH)(id:Int)(ws:List cD):=ws.length=4/\∀(i:Nat) t,(yD id)[i]?=some t->∃w,ws[i]?=some w/\R7 h t w
structure FW(m0:MH)(h0:PH)(cb:Nat)(tb n:Nat)(id:Int)(ws:List cD)(s:bQ)(m:MH)(h:PH):Prop where
 le_:PH.le h0 h
 ver0:0<=s.dc
 ver1:s.dc<=2
 ej:aJ m h cb
 n2:2<=n
 n4:n<=4
 sl_:∃cap,s.c=⟨some ⟨tb,0,none⟩,n,cap⟩/\n<=cap
 id_:id=4\/id=5
 gj:m0 tb=none
 ne_:tb≠cb
 pc:Dd m tb ws
 ws_:bkQ h id ws
 nb:∀b,b≠cb->b≠tb->m b=m0 b
def bCZ:AC:=λc m h K=>∃cb,c=[cP cb]/\aJ m h cb/\∀d n id e s m' h',FW m h cb d n id e s m' h'->K (aS s) m' h'
def dOQ:=
 tH [(25,bCZ)] [(3,{A:=Nat×bQ×MH×PH,st:=λ⟨i,s,m,h⟩=>bO 25 26 [SW 2,SW 3,(9,iv s.c.len),(10,iv i)] [(2,.cells 29 [.val (.int .i64 0),.val (.slice none 0 0)]),UV 3 29 s.ag] m h})] [] [] [27] [] false
def Pp v t:=λm h K=>aX t 0 (K EO m h) (iA t (iS v) (K EO m h) (RD v 0 t m h (λo=>o) (λy I x=>I x/\eL 32/\bC y (rW x)/\cT y (rW x)/\bB x.1/\wX (vN x)/\m=m/\h=h/\True) (λI d x=>RC (I x) x (λb o y=>aK m h b (bI o x.1 2) (qH y.name y.kind)) 8 (λy c=>I c/\d c<d x/\eL 32/\bC (rW x) (rW c)/\cT (rW x) (rW c)/\fI (bA x.1 1)=bR c.1/\yM (vN x) y.kind (vN c)/\m=m/\dC h h) (rH h (gE (vN x)) K m))))
theorem dnQ v t m h K:Pp v t m h K=(xS (Yh m h) Tryz.f29 (cZ Tryz.f29) (entry Tryz.f29.ntmps [aS v,cI t] m h) K):=bt
abbrev Ad:=eQ (oQ 29 [fZ,Db])
abbrev RJ:=ByteArray.mk (.mk (dT 105 (dT 100 [])))
abbrev XS a b:=.string (ByteArray.mk (.mk (dT 116 (dT 97 (dT 115 (dT 107 (zF 115)))))))::fW a::pW b::B8::kS
abbrev MJ(a:Int×bQ×MH×PH->Prop)(b c:Nat)(d:Int)(e:(Int×bQ×MH×PH)->Prop)(g:MH)(i:Nat->Nat->Option Value):=∃x,a x/\cK b/\eP c/\cG d x.1/\bY/\Ad/\e x/\fX g x.2.2/\fQ i x.2.2
abbrev A6 a b c:=At.val (.slice a b c)
abbrev wJ(a:Int×bQ×MH×PH):=a.2.1
abbrev vG a b:=oQ 29 ([KV a,KU a])=oQ 29 [KV b,KU b]
abbrev Dy(a:PH)(b c:ti)(d:Nat)(e:MH)(g:Nat)(i:PV->MH->PH->Prop):=∀x n,iK (λj f=>cO a f (fV f n x) (I8 b c d n->aZ e j g->rD j f g (i x j f)))
abbrev Ho(a:Nat×bQ×MH×PH):=a.2.1.c
attribute [push_cast] Ad RJ XS MJ A6 wJ vG Dy Ho
def amZ(cb:Nat):ST:=λm h K=>iN cb 3 m h (λk R=>∃I:Int×Int×MH×PH->Prop,lD cb 5 R h (λc r=>∀G,aZ R G c->aJ G h c->branch r (∃x,I x/\cK cb/\eP 2/\cG (j6 2 k) x.1/\cG 5 x.2.1/\Ad/\fX G x.2.2/\dH h x.2.2/\True) (∃x,I x/\cK cb/\eP 2/\cG (j6 2 k) x.1/\cG 4 x.2.1/\Ad/\fX G x.2.2/\dH h x.2.2/\True))/\∀x,I x->iN cb 3 x.2.2.1 x.2.2.2 (λS G=>∃n T,dZ (iR RJ) 4=dZ (iR n) T/\∃U V,dZ (iR (ByteArray.mk (.mk (dT 111 (dT 119 (dT 110 (dT 101 (zF 114)))))))) 4=dZ (iR U) V/\∃W X,dZ (iR RJ) x.2.1=dZ (iR W) X/\∃Y Z,let N:=iR (ByteArray.mk (.mk (dT 112 (dT 114 (dT 111 (dT 106 (dT 101 (dT 99 (zF 116)))))))));dZ N 4=dZ (iR Y) Z/\∃n4 k6,dZ (iR (ByteArray.mk (.mk (dT 116 (dT 105 (dT 116 (dT 108 (zF 101)))))))) 5=dZ (iR n4) k6/\∃n5 k7,dZ (iR (ByteArray.mk (.mk (dT 100 (dT 111 (dT 110 (dT 101 []))))))) 3=dZ (iR n5) k7/\∃n6 k8,dZ N 4=dZ (iR n6) k8/\∃n7 k9,dZ (iR (ByteArray.mk (.mk (dT 112 (dT 101 (dT 114 (dT 115 (dT 111 (dT 110 []))))))))) 4=dZ (iR n7) k9/\∃ (n8:ByteArray)(a:Int),dZ (iR (ByteArray.mk (.mk (dT 116 (dT 97 (dT 115 (dT 107 []))))))) x.2.1=dZ (iR n8) a/\bN x.2.2.2 2 (qH n T::[qH U V]) (λs h1=>bN h1 2 (qH W X::qH Y Z::qH n4 k6::[qH n5 k7]) (λs1 h2=>bN h2 2 (qH n6 k8::[qH n7 k9]) (λs2 h3=>bN h3 2 [qH n8 a] (λs3 H=>fY (λD J=>vT G J H D 74 5 (dU (.string (ByteArray.mk (.mk (dT 112 (dT 114 (dT 111 (dT 106 (dT 101 (dT 99 (dT 116 (dT 115 []))))))))))) (fW s) (pW 1::B8::kS)::XS s1 1::dU (.string (ByteArray.mk (.mk (dT 109 (dT 101 (dT 109 (dT 98 (dT 101 (dT 114 (zF 115)))))))))) (fW s2) (pW 2::B8::kS)::[.string (ByteArray.mk (.mk (dT 97 (dT 114 (dT 99 (dT 104 (dT 105 (dT 118 (dT 101 (dT 100 []))))))))))::fW s3::pW 1::B8::kS])->dK x.1/\xB x.1 D/\∃I1,lD cb 2 J H (λc r=>∀g,let Aa:=λj=>oQ 29 ([jX S,A6 D.a x.1.toNat D.cap])=oQ 29 ([KV (wJ j),KU (wJ j)]);aZ J g c->aJ g H c->branch r (bN H 1 [bV 1] (λB z=>aM (λb o=>aR D.a b o/\(0:Int)<=1/\1<(↑x.1.toNat:Int)/\bN z 2 [Ep B 0] (λC F=>am g b (o+5+3) (aT C) (λA=>MJ I1 cb 2 x.1 Aa A F))))) (MJ I1 cb 2 x.1 Aa g H))/\∀j,I1 j->∃I2,eH j.1 2 (lD cb 3 j.2.2.1 j.2.2.2 (λc r=>∀g,aZ j.2.2.1 g c->aJ g j.2.2.2 c->branch r (bN j.2.2.2 1 [bV 0] (λB z=>aM (λb o=>aR (kI (wJ j)) b o/\(0:Int)<=2/\2<aF (wJ j).c/\bN z 2 [Ep B 0] (λC F=>am g b (o+10+3) (aT C) (λA=>MJ I2 cb 2 j.1 (λf=>vG (wJ j) (wJ f)) A F))))) (MJ I2 cb 2 j.1 (λf=>vG (wJ j) (wJ f)) g j.2.2.2))) (∃f,I2 f/\cK cb/\eP 2/\cG j.1 f.1/\bY/\Ad/\vG (wJ j) (wJ f)/\fX j.2.2.1 f.2.2/\fQ j.2.2.2 f.2.2)/\∀f,I2 f->∃I3:bQ×MH×PH->Prop,eH f.1 3 (lD cb 3 f.2.2.1 f.2.2.2 (λc r=>∀g,aZ f.2.2.1 g c->aJ g f.2.2.2 c->branch r (bN f.2.2.2 1 [bV 0] (λB z=>aM (λb o=>aR (kI (wJ f)) b o/\(0:Int)<=3/\3<aF (wJ f).c/\bN z 2 [Ep B 1] (λC F=>am g b (o+15+3) (aT C) (λA=>∃e,I3 e/\cK cb/\eP 2/\bY/\Ad/\vG (wJ f) e.1/\fX A e.2/\dH F e.2/\True))))) (∃e,I3 e/\cK cb/\eP 2/\bY/\Ad/\vG (wJ f) e.1/\fX g e.2/\dH f.2.2.2 e.2/\True))) (∃e,I3 e/\cK cb/\eP 2/\bY/\Ad/\vG (wJ f) e.1/\fX f.2.2.1 e.2/\dH f.2.2.2 e.2/\True)/\∀e,I3 e->∃I4:bQ×MH×PH->Prop,lD cb 3 e.2.1 e.2.2 (λc r=>∀g,aZ e.2.1 g c->aJ g e.2.2 c->branch r (∃v,aM (λt n9=>∃(y:_)(w:_)(w1:_)(L:_)(M:Nat),dZ (jS e.1) 1=dZ (mX (BH v (.slice (kR t 0) n9 y))) M/\M<n9/\Dd g t w/\w[M]?=some w1/\Ij e.2.2 w1.aa L/\L.length<=8/\jA (λB z=>cO e.2.2 z (an z B (List.map oI.kind L)) (∃O,Bs (λC t2 P p d=>eD cb (bU B (dZ EO 1))=eD O (bU C (fB t2 d))/\aJ g z O/\an z C P/\an z t2 p/\iW P/\iW p/\qL d/\Dy z P p d g O (λv1 A F=>aM (λb o=>aR (kI e.1) b o/\(0:Int)<=1/\1<aF e.1.c/\bN F 13 [v1.ag] (λs7 h7=>am A b (o+5+4) (aT s7) (λm6=>∃u,I4 u/\gZ/\bY/\Ad/\kO (vG e.1 u.1) (fX m6 u.2) (dH h7 u.2)))))))))) (∃u,I4 u/\gZ/\bY/\Ad/\kO (vG e.1 u.1) (fX g u.2) (dH e.2.2 u.2)))/\∀u,I4 u->K (jS u.1) u.2.1 u.2.2)))))))
def Yf(cb:Nat):ST:=λm h K=>∃c,eO (jN cb) (jN c)/\aJ m h c/\∀t n i w s,iK (λy z=>FW m h c t n i w s y z->∃(I:Nat×bQ×MH×PH->Prop)(A:Nat×bQ×MH×PH->Nat),(∃x,I x/\gZ/\eP 3/\cT s.c (Ho x)/\bB x.1/\Ad/\vG s x.2.1/\fX y x.2.2/\fQ z x.2.2)/\∀x,I x->aX x.1 (aF (Ho x)) (aM (λb o=>aR (kI x.2.1) b o/\0<=(↑x.1:Int)/\x.1<aF (Ho x)/\i6 (λe E=>yA x.2.2.1 b (gU e E 0)/\iP (bI o x.1 5+3) e/\∀f,cF x.2.2.1 f b (rC e (bI o x.1 5+3) kS) E->aM (λg j=>aR (kI x.2.1) g j/\0<=(↑x.1:Int)/\x.1<aF (Ho x)/\i6 (λu
 E1=>yA f g (gU u E1 0)/\iP (bI j x.1 5+4) u/\∀B,cF f B g (rC u (bI j x.1 5+4) kS) E1->∃d,I d/\A d<A x/\gZ/\cR/\cT (Ho x) (Ho d)/\fI (bA x.1 1)=bR d.1/\Ad/\vG x.2.1 d.2.1/\eV (fX B d.2.2) (dH x.2.2.2 d.2.2)))))) (K (jS x.2.1) x.2.2.1 x.2.2.2))
theorem aGX{α}(l:List α) o x(h:o<l.length):aq l o [x]=l.set o x:=by
 simp_all[aq,set_eq_take_append_cons_drop]
theorem dw:∀(ws:List cD){i k:Nat}{w w':cD}{x:Value},ws[i]?=some w->k<5->w'.ag=w.ag.set k x->((ws.map cD.ag).flatten).set (i*5+k) x=((ws.set i w').map cD.ag).flatten
 |[],i,k,w,w',x,h,_,_=>by simp at h
 |u::ws,0,k,w,w',x,h,c,e=>by
  grind[cD.ag]
 |u::ws,i+1,k,w,w',x,h,c,e=>by
  simp only[map_cons,flatten_cons,set_cons_succ];have d:u.ag.length=5:=rfl;rw[set_append_right _ _ aC,d,show(i+1)*5+k-5=i*5+k by omega,dw ws (mp h) c e]
theorem coX(ws:List cD):((ws.map cD.ag).flatten).length=ws.length*5:=by
 induction ws with
 |nil=>rfl
 |cons w ws c=>simp only[map_cons,flatten_cons,sj,c,te];show 5+_=_;omega
theorem Dd.mg{tb ws cs E d}(h:Dd m tb ws)(c:m tb=some (.cells cs E d)):ws.length*5<=cs.size:=by
 have⟨e,f,g⟩:=h.ex;rw[f]at c;simp only[ss,Obj.cells.injEq]at c;obtain⟨rfl,_,_⟩:=c;have:=congrArg List.length g
 grind[coX]
theorem Dd.store{tb:Nat}{ws k w w' x}(h:Dd m tb ws)(d:ws[i]?=some w)(u:k<5)(e:w'.ag=w.ag.set k x){cs E f}(c:m tb=some (.cells cs E f))(g:m' tb=some (.cells (aq cs.toList (i*5+k) [x]).toArray E (0,0))):Dd m' tb (ws.set i w'):=by
 have y:=h.mg c;have j:=(sg d);have⟨n,o,t⟩:=h.ex;rw[o]at c;simp only[ss,Obj.cells.injEq]at c;obtain⟨rfl,rfl,_⟩:=c;refine⟨_,g,?_⟩;rw[aGX _ _ _ cv,length_set,toList_toArray,take_set,t]
 grind[dw]
theorem Dd.rd{tb ws}(r:Dd m tb ws){j w x}(c:ws[i]?=some w)(d:w.ag[j]?=some x):aK m h tb (i*5+j) [x]:=by
 have⟨f,g,n⟩:=r.ex;refine .i g ?_;have o:=oR (xs:=ws.map cD.ag) (sz:=5) (λe t=>by obtain⟨x,_,rfl⟩:=mem_map.1 t;rfl) (by rw[getElem?_map,c];rfl) j x d;rw[<-n,getElem?_take]at o;simp_all[ci]
theorem dnX{g tb n cap ws w ak t}(G:t<n)(A:Dd m tb ws)(B:ws[t]?=some w)(y:Ij h w.aa ak)(H:ak.length<=8)(C:∀sl h',PH.le h h'->an h' sl (ak.map oI.kind)->K (cS sl) m h'):Pp ⟨g,⟨some ⟨tb,0,none⟩,n,cap⟩⟩ t m h K:=by
 dsimp only[Pp,push_cast];have j:=aU.e y;refine aE (λD=>by omega) (λD=>aE (λE=>da) (λE=>?_));refine⟨tb,0,rfl,aC,aC,w.aa,?_,λ⟨i,sl,l⟩=>sl=w.aa/\i<=ak.length/\l=(ak.take i).map oI.kind,λ⟨i,_,_⟩=>ak.length-i,⟨(0,w.aa,[]),⟨rfl,bu,bu⟩,MT⟩,?_⟩
 .rw[Nat.zero_add,Int.toNat_natCast];exact A.rd B rfl
 rintro⟨i,_,_⟩⟨rfl,I,rfl⟩;dsimp only;refine aE (λf=>?_) (λF sl h' u d=>?_)
 .have⟨c,z⟩:=eF j f;have⟨b,o,e,r⟩:=Ij.at y z;refine⟨b,o,e,aC,f,c,.ay r,?_,?_,(i+1,w.aa,(ak.take (i+1)).map oI.kind),⟨rfl,aC,rfl⟩,aC,?_⟩
  .simp;omega
  .simp;omega
  .rw[j4 z,sn];exact MT
 .rw[sm aC]at d;exact C sl h' u ⟨d,cv⟩
theorem aOJ:uz 29 bGZ:=by
 refine eM (fn:=Tryz.f29) (c:=cZ Tryz.f29) func29 rfl bx ?_;rintro e m h K⟨f,B,n,g,C,w,d,t,rfl,j,o,u,y,z,A⟩;refine⟨Yh m h,rfl,aG,?_⟩;rw[<-dnQ];exact dnX j o u y z A
theorem R7.mono{t w}(x:R7 h t w)(le:PH.le h h'):R7 h' t w:=⟨x.qg,x.pf,aU.mono x.ft le λ_ _ e=>e⟩
theorem bkQ.mono{id ws}(x:bkQ h id ws)(le:PH.le h h'):bkQ h' id ws:=⟨x.1,λi t e=>let⟨w,e1,e2⟩:=x.2 i t e;⟨w,e1,e2.mono le⟩⟩
theorem bkQ.set{id ws w w'}(x:bkQ h id ws)(f:ws[i]?=some w)(g:w'.name=w.name)(n:w'.key=w.key)(o:w'.aa=w.aa):bkQ h id (ws.set i w'):=by
 refine⟨by rw[length_set];exact x.1,λj t e=>?_⟩;have⟨u,d,c⟩:=x.2 j t e;by_cases y:i=j
 .subst y;rw[f]at d;cases d;exact⟨w',da,⟨by rw[g];exact c.qg,by rw[n];exact c.pf,by rw[o];exact c.ft⟩⟩
 grind
theorem FW.on{m0 c f d tb n id ws s}(x:FW m0 f cb tb n id ws s m h)(le:PH.le h d)(g:aZ m c cb)(o:aJ c d cb):FW m0 f cb tb n id ws s c d:=by
 refine⟨x.le_.trans le,x.ver0,x.ver1,o,x.n2,x.n4,x.sl_,x.id_,x.gj,x.ne_,?_,x.ws_.mono le,λb j t=>by rw[g.ai b j];exact x.nb b j t⟩;have⟨e,u,y⟩:=x.pc.ex;exact⟨e,by rw[g.ai tb x.ne_];exact u,y⟩
theorem FW.store{m0:MH}{j:PH}{tb n:Nat}{id:Int}{ws:List cD}{s:bQ}(x:FW m0 j cb tb n id ws s m h){k o w w' y}(c:ws[i]?=some w)(u:k<5)(z:o=i*5+k)(e:w'.ag=w.ag.set k y)(A:w'.name=w.name)(B:w'.key=w.key)(C:w'.aa=w.aa){Q:MH->Prop}(D:∀m2,FW m0 j cb tb n id (ws.set i w') s m2 h->Q m2):∃cs E,yA m tb (.cells cs E (0,0))/\o<cs.size/\∀m2:MH,iZ m m2 tb (.cells (aq cs.toList o [y]).toArray E (0,0))->Q m2:=by
 have⟨d,f,J⟩:=x.pc.ex;have F:=(sg c);refine⟨d,74,⟨f⟩,by have:=x.pc.mg f;omega,λm2 g=>D m2 ?_⟩;subst z;refine⟨x.le_,x.ver0,x.ver1,?_,x.n2,x.n4,x.sl_,x.id_,x.gj,x.ne_,x.pc.store c u e f g.y,x.ws_.set c A B C,λb G t=>by rw[g.ai b t];exact x.nb b G t⟩;have⟨r,q,cs,k,H,I⟩:=x.ej;exact⟨r,q,cs,k,by rw[g.ai cb x.ne_.symm];exact H,I⟩
theorem Oo{h s l}(r:bT h s 2 (l.map oI.ag))(c:l.length<=8):Ij h s l:=⟨⟨l,r,rfl,λi x e=>⟨x,e,rfl⟩⟩,aC⟩
theorem vT.km{m m' h s w ws}(x:vT m m' h s 74 5 ((w::ws).map cD.ag)):∃tb cap,s=⟨some ⟨tb,0,none⟩,ws.length+1,cap⟩/\ws.length+1<=cap/\Dd m' tb (w::ws)/\eT m h tb/\∀b,b≠tb->m' b=m b:=by
 rcases x.row.ex with⟨_,e⟩|⟨b,cap,d,e,f,g,_,j,n⟩
 .cases e
 .subst e;refine⟨b,cap,bu,da,⟨d,f,da⟩,x.f b 0 rfl,λc o=>x.ai c (λi e=>da)⟩
theorem b2X:uz 25 bCZ:=by
 refine gV func25 ?_;rintro a7 m h K⟨cb,rfl,hc,hK⟩;refine⟨doQ cb,rfl,aD EP (aD qR (aD pi (aD aOJ (aD ip aG)))),amZ cb,bt,?_⟩;dsimp only[amZ,push_cast];refine⟨cb,3,rfl,hc,λk m1 k0 k1 S c1=>?_⟩;have a0:IntKind.i64.wrap (2+k)=2+k:=dW aC aC;rw[a0];refine⟨λ⟨n,id,E,J⟩=>2<=n/\n<=4/\(id=4\/id=5)/\J=h/\aZ m E cb/\aJ E h cb,⟨cb,5,rfl,aC,aC,c1,λr m2 o2 c2=>aB (λ_=>⟨(2+k,5,m2,h),⟨aC,aC,.inr rfl,rfl,S.trans o2,c2⟩,MT⟩) (λ_=>⟨(2+k,4,m2,h),⟨aC,aC,.inl rfl,rfl,S.trans o2,c2⟩,MT⟩)⟩,?_⟩;clear S c1 m1 a0 k0 k1 k;rintro⟨n,id,m1,J⟩⟨n2,n4,a4,rfl,S,c1⟩;dsimp only;refine⟨cb,3,rfl,c1,λk m2 k0 k1 o2 c2=>?_⟩;refine⟨_,_,rfl,_,_,rfl,_,_,rfl,_,_,rfl,_,_,rfl,_,_,rfl,_,_,rfl,_,_,rfl,_,_,rfl,λs1 h1 a1 r1 s2 h2 T r2 s3 h3 F r3 s4 h4 z r4 tl m3 L=>?_⟩;obtain⟨d,f,rfl,M,O,U,P⟩:=vT.km (w:=⟨_,s1,1,bS,bS⟩) (ws:=[⟨_,s2,1,bS,bS⟩,⟨_,s3,2,bS,bS⟩,⟨_,s4,1,bS,bS⟩]) L;simp only[te,length_nil]at M;have V:PH.le J h4:=((a1.trans T).trans F).trans z
 have A:d≠cb:=λe=>by
  obtain⟨r,q,cs,j,q1,_⟩:=c2;have:=U.m_
  grind
 have a2:m d=none:=by rw[<-S.ai d A,<-o2.ai d A];exact U.m_
 have c3:aJ m3 h4 cb:=by
  obtain⟨r,q,cs,j,q1,q2,q3⟩:=c2;exact⟨r,q,cs,j,da,q2.mono V,q3⟩
 have S0:FW m J cb d n.toNat id _ ⟨k,⟨some ⟨d,0,none⟩,n.toNat,f⟩⟩ m3 h4:=⟨V,k0,da,c3,aC,aC,⟨f,rfl,aC⟩,a4,a2,A,O,⟨rfl,λi t e=>?_⟩,λb n1 n2=>by rw[P b n2,o2.ai b n1,S.ai b n1]⟩
 rotate_left
 .match i,e with
  |0,e=>cases e;exact⟨_,rfl,⟨rfl,rfl,Oo (l:=[⟨_,_⟩,⟨_,_⟩]) (r1.mono ((T.trans F).trans z)) bx⟩⟩
  |1,e=>cases e;exact⟨_,rfl,⟨rfl,rfl,Oo (l:=[⟨_,_⟩,⟨_,_⟩,⟨_,_⟩,⟨_,_⟩]) (r2.mono (F.trans z)) bu⟩⟩
  |2,e=>cases e;exact⟨_,rfl,⟨rfl,rfl,Oo (l:=[⟨_,_⟩,⟨_,_⟩]) (r3.mono z) bx⟩⟩
  |3,e=>cases e;exact⟨_,rfl,⟨rfl,rfl,Oo (l:=[⟨_,_⟩]) r4 bu⟩⟩
  |i+4,e=>simp[yD]at e
 generalize a5:(cD.mk _ s1 1 bS bS::_)=a8 at S0;clear a5 O L r1 r2 r3 r4;have B:∀{ws:List cD}{i:Nat},ws.length=4->i<4->∃w,ws[i]?=some w:=λhl hi=>⟨_,sh aC⟩
 refine⟨aC,da,λ⟨W,s,E,X⟩=>W=n/\∃ws,FW m J cb d n.toNat id ws s E X,⟨cb,2,rfl,aC,aC,c3,λr Y o4 c4=>aB (λ_ s5 G a3 r5=>⟨d,0,rfl,aC,aC,λs6 h6 C r6=>?_⟩) (λ_=>⟨(n,⟨k,⟨some ⟨d,0,none⟩,n.toNat,f⟩⟩,Y,h4),⟨rfl,_,S0.on (.refl _) o4 c4⟩,MT⟩)⟩,?_⟩
 .have⟨w,Q⟩:=B (i:=1) S0.ws_.1 aC;exact(S0.on (a3.trans C) o4 (c4.mono (a3.trans C))).store (k:=3) (w':={w with ba:=s6}) Q aC rfl rfl rfl rfl rfl λy Z=>⟨(n,⟨k,⟨some ⟨d,0,none⟩,n.toNat,f⟩⟩,y,h6),⟨rfl,_,Z⟩,MT⟩
 clear S0 c3 P U a2 M V a1 T F z S o2 c1 c2;rintro⟨W,s,Y,G⟩⟨rfl,ws,S0⟩;dsimp only;have⟨f,c,_⟩:=S0.sl_;have o:s.c.a=some ⟨d,0,none⟩:=by rw[c]
 have H:s.c.len=W.toNat:=by rw[c]
 refine⟨λ⟨n,s,E,X⟩=>n=W/\∃ws,FW m J cb d n.toNat id ws s E X,aE (λhn=>⟨cb,3,rfl,aC,aC,S0.ej,λr y R I=>aB (λ_ s7 h7 u r7=>⟨d,0,o,aC,aC,λs8 h8 g r8=>?_⟩) (λ_=>⟨(W,s,y,G),⟨rfl,_,S0.on (.refl _) R I⟩,MT⟩)⟩) (λ_=>⟨(W,s,Y,G),⟨rfl,_,S0⟩,MT⟩),?_⟩
 .have⟨w,Q⟩:=B (i:=2) S0.ws_.1 aC;exact(S0.on (u.trans g) R (I.mono (u.trans g))).store (k:=3) (w':={w with ba:=s8}) Q aC rfl rfl rfl rfl rfl λy Z=>⟨(W,s,y,h8),⟨rfl,_,Z⟩,MT⟩
 clear S0 o H c;rintro⟨D,s,Y,G⟩⟨rfl,ws,S0⟩;dsimp only;have⟨f,c,_⟩:=S0.sl_;have o:s.c.a=some ⟨d,0,none⟩:=by rw[c]
 have H:s.c.len=D.toNat:=by rw[c]
 refine⟨λ⟨s,E,X⟩=>∃ws,FW m J cb d D.toNat id ws s E X,aE (λhn=>⟨cb,3,rfl,aC,aC,S0.ej,λr y R I=>aB (λ_ s7 h7 u r7=>⟨d,0,o,aC,aC,λs8 h8 g r8=>?_⟩) (λ_=>⟨(s,y,G),⟨_,S0.on (.refl _) R I⟩,MT⟩)⟩) (λ_=>⟨(s,Y,G),⟨_,S0⟩,MT⟩),?_⟩
 .have⟨w,Q⟩:=B (i:=3) S0.ws_.1 aC;exact(S0.on (u.trans g) R (I.mono (u.trans g))).store (k:=3) (w':={w with ba:=s8}) Q aC rfl rfl rfl rfl rfl λy Z=>⟨(s,y,h8),⟨_,Z⟩,MT⟩
 clear S0 o H c;rintro⟨s,Y,G⟩⟨ws,S0⟩;dsimp only;have⟨f,c,_⟩:=S0.sl_;have o:s.c.a=some ⟨d,0,none⟩:=by rw[c]
 have H:s.c.len=D.toNat:=by rw[c]
 refine⟨λ⟨s,E,X⟩=>∃ws,FW m J cb d D.toNat id ws s E X,⟨cb,3,rfl,aC,aC,S0.ej,λr y R I=>aB (λ_=>?_) (λ_=>⟨(s,y,G),⟨_,S0.on (.refl _) R I⟩,MT⟩)⟩,λ⟨s,Y,G⟩⟨ws,S0⟩=>hK _ _ _ _ _ _ _ S0⟩;have S1:=S0.on (.refl _) R I;have⟨w,Q,a'⟩:=S1.ws_.2 1 _ rfl;refine⟨s.dc,d,D.toNat,f,ws,w,_,1,by rw[c];rfl,aC,S1.pc,Q,a'.ft,bu,λsl h6 C a6=>?_⟩;refine⟨cb,sl,bS,_,[],1,rfl,I.mono C,a6,⟨bT.nil _ _,bu⟩,bu,bu,aC,λa9 p m6 h7 u hp b' o6 c6=>⟨d,0,o,aC,aC,λs8 h8 g r8=>?_⟩⟩;exact(S1.on ((C.trans u).trans g) o6 (c6.mono g)).store (k:=4) (w':={w with cd:=s8}) Q aC rfl rfl rfl rfl rfl λy Z=>⟨(s,y,h8),⟨_,Z⟩,MT⟩
structure oX(s:kD):Prop where
 ex:∃ver n id,0<=ver/\ver<=2/\2<=n/\n<=4/\(id=4\/id=5)/\s=⟨ver,(yD id).take n⟩
def cTZ:AC:=λc m h K=>∃cb,c=[cP cb]/\aJ m h cb/\∀s v m' h',oX s->dV h' s v->PH.le h h'->aZ m m' cb->aJ m' h' cb->K (aS v) m' h'
theorem cpX:uz 8 cTZ:=by
 refine Uy func8 ?_;rintro W m h K⟨cb,rfl,X,Y⟩;refine⟨dOQ,rfl,aD b2X aG,Yf cb m h (dR h K),bt,?_⟩;show Yf cb m h (dR h K);dsimp only[Yf,push_cast];refine⟨cb,rfl,X,λd n id y s I J S1=>?_⟩;refine⟨λ⟨i,z,Z,A⟩=>z=s/\A=J/\i<=n/\∃y,FW m h cb d n id y s Z J/\∀j w,j<i->y[j]?=some w->w.ba=bS/\w.cd=bS,λ⟨i,_,_,_⟩=>n-i,⟨(0,s,I,J),⟨rfl,rfl,aC,y,S1,λj w M=>by omega⟩,MT⟩,?_⟩;clear S1 y I;rintro⟨i,z,I,A⟩⟨rfl,rfl,C,y,S1,D⟩;dsimp only;have⟨a',E,O⟩:=S1.sl_;have B:z.c.a=some ⟨d,0,none⟩:=by rw[E]
 have a0:z.c.len=n:=by rw[E]
 have P:=S1.n4;refine aE (λF=>⟨d,0,B,aC,F,?_⟩) (λa1 f=>?_)
 .obtain⟨w,U⟩:∃w,y[i]?=some w:=⟨_,sh (by have:=S1.ws_.1;omega)⟩
  refine S1.store (i:=i) (k:=3) (w':={w with ba:=bS}) U aC aC rfl rfl rfl rfl λm2 S2=>⟨d,0,B,aC,F,?_⟩
  have Q:=(sg U);have R:(y.set i {w with ba:=bS})[i]?=some {w with ba:=bS}:=getElem?_set_self Q;refine S2.store (i:=i) (k:=4) (w':={w with ba:=bS,cd:=bS}) R aC aC rfl rfl rfl rfl λm3 S3=>⟨(i+1,z,m3,A),⟨rfl,rfl,aC,_,S3,λj u M hu=>?_⟩,aC,MT⟩
  grind
 .have f:=f;have⟨G,H,S⟩:=S1.pc.ex;have a2:∀i,A d i=none:=f d _ H
  have c:PH.le A (λx i=>if x=d then G[i]? else A x i):=⟨λx i v e=>by
   grind⟩
  refine⟨λb=>if b=d then none else I b,λx i=>if x=d then G[i]? else A x i,λb o e=>?_,S1.le_.trans c,λx i v e=>?_,Y ⟨z.dc,(yD id).take n⟩ z _ _ ⟨⟨_,_,_,S1.ver0,S1.ver1,S1.n2,S1.n4,S1.id_,rfl⟩⟩ ⟨rfl,?_⟩ (S1.le_.trans c) ⟨λb hb=>?_⟩ ?_⟩
  .grind
  .by_cases L:x=d
   .simp_all
   simp_all
  .have V:=S1.ws_.1;have P:=S1.n4;refine⟨⟨y.take n,⟨da,.inr ⟨d,0,B,λi e C=>⟨λj v M=>?_⟩⟩,da⟩,by grind[yD],λi t e=>?_⟩,da⟩
   .rw[map_take,getElem?_take]at C;split at C
    .have J:=oR (xs:=y.map cD.ag) (sz:=5) (λe he=>by obtain⟨x,_,rfl⟩:=mem_map.1 he;rfl) C j v M
     grind
    .cases C
   .rw[getElem?_take]at e;split at e
    .rename_i a3;have⟨w,e1,e2⟩:=S1.ws_.2 i t e;have⟨z1,z2⟩:=D i w aC e1;have T:=e2.mono c
     have g:t.ga=[]/\t.cd=[]:=by
      match i,e with
      |0,e=>cases e;grind
      |1,e=>cases e;grind
      |2,e=>cases e;grind
      |3,e=>cases e;grind
      |i+4,e=>omega
     refine⟨w,da,⟨T.qg,T.ft,T.pf,by rw[z1,g.1];exact aU.nil _ _ _ _,by rw[z2,g.2];exact aU.nil _ _ _ _⟩⟩
    .cases e
  .by_cases L:b=d
   .subst L;simp[S1.gj]
   .simp[L];exact S1.nb b hb L
  .have⟨r,q,cs,k,q1,q2,q3⟩:=S1.ej;exact⟨r,q,cs,k,da,q2.mono c,q3⟩
end Go.Ps
