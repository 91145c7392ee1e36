/- Own work. -/
import Derived.Test.YtbpoogcannjnbaaGreatDoorAg
noncomputable section
namespace Go.Ps
open Go Go.Vc Go.Proofs List Tryz
variable{K:tt}{m:MH}{h:PH}{s:kD}{ps:ti}{cb:Nat}{sc:bQ}{v:QV}{q:ae}{p:ao}{l:ti}{i N:Nat}{m':MH}{h':PH}{co gr:ti}{od:tp}{w:ao}{ta li:Int}{xs:List tm}{sz:Nat}{ks:List ti}{rs:ti}{r:Sl}{a:ti}{b:Nat}
def QW(q:ae):Prop:=
 match q with
 |.mk _ _ w _ _ _ _ _ args=>OD w/\∀a∈args,QW a
 termination_by SizeOf.sizeOf q
theorem XM{op on args}:
 QW (.mk op ta w co on gr od li args)↔OD w/\∀a∈args,QW a:=by rw[QW.eq_def]
def dRZ s:=∀t,OF (fC s t)
structure bBJ(s:kD)(ps ks:ti)(q0 q:ae):Prop where
 qw:QW q
 nn:∀d,Gd d q0->Qk d q
 kin:dRZ s->OF ps->OF ks->ks≠[]->ks.length<=12->cX s ps q0=(ks,0)->cX s ps q=(ks,0)
def KQ(K:tt)(m:MH)(h:PH)(cb:Nat)(R:ae->Prop):=∀w q m' h',PH.le h h'->cQ h' q w->R q->aZ m m' cb->aJ m' h' cb->K (aQ w) m' h'
def YF:=λc m h K=>∃cb sc p k v s ps ks q,c=[cP cb,aS sc,cS p,cS k,aQ v]/\aJ m h cb/\dV h s sc/\pE s/\s.c.length<=1000/\an h p ps/\ps.length<=1000/\an h k ks/\ks.length<=1000/\cQ h q v/\QW q/\KQ K m h cb (bBJ s ps ks q)
def f56_ctx(cb:Nat)(sc:bQ)(p k:Sl)(v:QV):=
 dD [(13,ES),(29,yB),(53,bDQ),(20,FZ),(52,EL)] [(3,{A:=Int×Nat×MH×PH,st:=λ⟨f,n,m,h⟩=>bO 112 117 [(0,pv cb),(2,sv p),(3,sv k),SW 6,SW 9,SW 10,(11,iv f),(12,iv n)] [UV 6 29 sc.ag,UV 9 68 v.ag,UV 10 68 oJ.ag] m h}),
  (9,{A:=Int×Nat×Int×Sl×ti×Nat×MH×PH,st:=λ⟨f,n,t,c,d,i,m,h⟩=>bO 112 117 ([(0,pv cb),(2,sv p),(3,sv k),SW 6,SW 9,SW 10,(11,iv f),(12,iv n),(13,iv t),(14,sv c),(15,.at (.au 75))]++WF 45 k i) [UV 6 29 sc.ag,UV 9 68 v.ag,UV 10 68 oJ.ag,(75,.au 3 1 (d.map eI))] m h}),
  (13,{A:=Int×Nat×Int×Sl×ti×Nat×Int×Int×Nat×MH×PH,st:=λ⟨f,n,t,c,d,i,e,g,j,m,h⟩=>bO 112 117 [(0,pv cb),(2,sv p),(3,sv k),SW 6,SW 9,SW 10,(11,iv f),(12,iv n),(13,iv t),(14,sv c),(15,.at (.au 75)),(17,iv e),(18,iv g),(45,sv k),(46,iv k.len),(47,iv i),(56,iv c.len),(57,iv j)] [UV 6 29 sc.ag,UV 9 68 v.ag,UV 10 68 oJ.ag,(75,.au 3 1 (d.map eI))] m h})] [] [] false
abbrev pM:=eP 10
abbrev DN(a:Int×Nat×Int×Sl×ti×Nat×MH×PH):=a.2.2.2.1
abbrev rX(a:Int×Nat×Int×Sl×ti×Nat×MH×PH):=a.2.2.2.2.2
abbrev DO(a:Int×Nat×Int×Sl×ti×Nat×MH×PH):=a.2.2.2.2.1
abbrev sK a:=bW (rX a)
abbrev xG(a:Int×Nat×Int×Sl×ti×Nat×Int×Int×Nat×MH×PH):=a.2.2.2.1
abbrev Ni(a:Int×Nat×Int×Sl×ti×Nat×Int×Int×Nat×MH×PH):=a.2.2.2.2.2.2.1
abbrev NC(a:Int×Nat×Int×Sl×ti×Nat×Int×Int×Nat×MH×PH):=a.2.2.2.2.2.2.2.1
abbrev JP(a:Int×Nat×Int×Sl×ti×Nat×Int×Int×Nat×MH×PH):=a.2.2.2.2.2.1
abbrev rP(a:Int×Nat×Int×Sl×ti×Nat×Int×Int×Nat×MH×PH):=a.2.2.2.2.2.2.2.2
abbrev Hy(a:Int×Nat×Int×Sl×ti×Nat×Int×Int×Nat×MH×PH):=a.2.2.2.2.1
abbrev Nh a:=Int.tmod (j6 (NC a) (↑(rP a).1:Int)) (aF (xG a))
abbrev JQ(a:Prop)(b c d:Nat)(e g:Sl)(i:Prop):=a/\b<c/\cK d/\aH e/\aH g/\jW/\eP 9/\pM/\i
abbrev Cq a:=C2 (B8::pN::aT a)
attribute [push_cast] pM DN rX DO sK xG Ni NC JP rP Hy Nh JQ Cq
def lr(cb:Nat)(sc:bQ)(p k:Sl)(v:QV):ST:=λm h K=>iN cb (j6 (iS sc) 1) m h (λU V=>∃(I:Int×Nat×MH×PH->Prop)(L:Int×Nat×MH×PH->Nat),(∃x,I x/\cK cb/\aH p/\aH k/\jW/\eP 9/\pM/\cG U x.1/\bB x.2.1/\aW sc/\eJ v/\gP/\eV (fK V x.2) (dH h x.2.2))/\∀x,let X:=λj C F=>bN F 21 [v.ag] (λz B=>K (mX (bD 2 0 (bD j.op j.dy (Bb j.left (GU j) (vO j (Cw j.args (Cq z))))))) C B);let Y:=Int.tmod (j6 x.1 x.2.1) (iS sc);I x->aX x.2.1 (aF sc.c) (jP (iS sc=0)/\Cd (dZ (jS sc) Y) (bW x.2) (λs F=>∃(I1:Int×Nat×Int×Sl×ti×Nat×MH×PH->Prop)(C:Int×Nat×Int×Sl×ti×Nat×MH×PH->Nat),(∃f,I1 f/\cK cb/\aH p/\aH k/\jW/\eP 9/\pM/\cG x.1 f.1/\bP x.2.1 f.2.1/\cG Y f.2.2.1/\bC s (DN f)/\eL 75/\aH k/\aY k/\bB (rX f).1/\aW sc/\eJ v/\gP/\wX (DO f)/\fK (cA x.2) (rX f)/\fQ F (rX f).2)/\∀f,let N:=∃e,JQ (I e) (L e) (L x) cb p k (cG f.1 e.1/\fI (bA f.2.1 1)=bR e.2.1/\aW sc/\eJ v/\kO gP (fK (cA (rX f)) e.2) (dH (sK f) e.2.2));I1 f->aX (↑(rX f).1:Int) (aF k) (ab k (↑(rX f).1:Int) 1 bV (cA (rX f)) (sK f) (λy=>iN cb (aF (DN f)) (cA (rX f)) (sK f) (λW A=>∃(I2:Int×Nat×Int×Sl×ti×Nat×Int×Int×Nat×MH×PH->Prop)(E:Int×Nat×Int×Sl×ti×Nat×Int×Int×Nat×MH×PH->Nat),(∃e,I2 e/\cK cb/\aH p/\aH k/\jW/\eP 9/\pM/\cG f.1 e.1/\bP f.2.1 e.2.1/\cG f.2.2.1 e.2.2.1/\bC (DN f) (xG e)/\eL 75/\cG y (Ni e)/\cG W (NC e)/\aH k/\aY k/\bP (rX f).1 (JP e)/\cT (DN f) (xG e)/\bB (rP e).1/\aW sc/\eJ v/\gP/\tO (gE (DO f)) (Hy e)/\fK A (rP e)/\fQ (sK f) (rP e).2)/\∀e,I2 e->aX (↑(rP e).1:Int) (aF (xG e)) (jP (aF (xG e)=0)/\aM (λR S=>aR (xG e).a R S/\0<=Nh e/\Nh e<aF (xG e)/\∃T,aK (cA (rP e)) (bW (rP e)) R (dN S (Nh e) 1) (bV T)/\dP T (Ni e) (lJ (gE (Hy e)) 8 (∃g,JQ (I1 g) (C g) (C f) cb p k (cG e.1 g.1/\bP e.2.1 g.2.1/\cG e.2.2.1 g.2.2.1/\bC (xG e) (DN g)/\eL 75/\aH k/\aY k/\fI (bA (JP e) 1)=bR (rX g).1/\aW sc/\eJ v/\gP/\yM (Hy e) (Nh e) (DO g)/\eV (fK (cA (rP e)) (rX g)) (dH (bW (rP e)) (rX g).2)))) (∃g,JQ (I2 g) (E g) (E e) cb p k (cG e.1 g.1/\bP e.2.1 g.2.1/\cG e.2.2.1 g.2.2.1/\bC (xG e) (xG g)/\eL 75/\cG (Ni e) (Ni g)/\cG (NC e) (NC g)/\aH k/\aY k/\bP (JP e) (JP g)/\cT (xG e) (xG g)/\fI (bA (rP e).1 1)=bR (rP g).1/\aW sc/\eJ v/\gP/\tO (gE (Hy e)) (Hy g)/\eV (fK (cA (rP e)) (rP g)) (dH (bW (rP e)) (rP g).2))))) (∃g,JQ (I1 g) (C g) (C f) cb p k (cG e.1 g.1/\bP e.2.1 g.2.1/\cG e.2.2.1 g.2.2.1/\bC (xG e) (DN g)/\eL 75/\aH k/\aY k/\fI (bA (JP e) 1)=bR (rX g).1/\aW sc/\eJ v/\gP/\tO (gE (Hy e)) (DO g)/\eV (fK (cA (rP e)) (rX g)) (dH (bW (rP e)) (rX g).2)))))) (dP f.1 (iS sc) N (aX (↑(gE (DO f)).length:Int) (aF k) N (∃t,iJ f.2.2.1 t/\lD cb 2 (cA (rX f)) (sK f) (λc r=>∀A,aZ (cA (rX f)) A c->aJ A (sK f) c->branch r ((∃n,Bs (λz G D u d=>eD cb (bU (DN f) (fB p 1))=eD n (bU z (fB G d))/\aJ A (sK f) n/\an (sK f) z D/\an (sK f) G u/\iW D/\iW u/\qL d/\Dy (sK f) D u d A n (λj E B=>bN B 21 [yG 1 t] (λH J=>bN J 1 (gE (DO f)) (λM O=>bN O 21 ([bD 2 0 (bD j.op j.dy (Bb j.left (GU j) (vO j (Cw j.args (Cq H)))))]) (λP Q=>K (mX (wM 3 0 (nP (EN::pN::bD 0 0 (pW 0::EN::B8::fW M::Cq P))))) E Q))))))/\∃n,Bs (λz G D u d=>eD cb (bU (DN f) (fB p 1))=eD n (bU z (fB G d))/\aJ A (sK f) n/\an (sK f) z D/\an (sK f) G u/\iW D/\iW u/\qL d/\Dy (sK f) D u d A n (λj E B=>bN B 21 [yG 1 t] (λH J=> bN J 1 (gE (DO f)) (λM O=>bN O 21 ([bD 2 0 (bD j.op j.dy (Bb j.left (GU j) (vO j (Cw j.args (Cq H)))))]) (λP Q=>K (mX (wM 3 0 (nP (EN::pN::bD 0 0 (pW 0::EN::B8::fW M::Cq P))))) E Q)))))) (bN (sK f) 1 (gE (DO f)) (λz B=>bN B 21 [yG 1 t] (λH J=>K (mX (wM 3 0 (nP (EN::pN::bD 0 0 (pW 0::EN::B8::fW z::Cq H))))) A J))))))))) ((∃c,Bs (λs t n u d=>eD cb (bU k (fB p 1))=eD c (bU s (fB t d))/\aJ (cA x.2) (bW x.2) c/\an (bW x.2) s n/\an (bW x.2) t u/\iW n/\iW u/\qL d/\Dy (bW x.2) n u d (cA x.2) c X))/\∃c,Bs (λs t n u d=>eD cb (bU k (fB p 1))=eD c (bU s (fB t d))/\aJ (cA x.2) (bW x.2) c/\an (bW x.2) s n/\an (bW x.2) t u/\iW n/\iW u/\qL d/\Dy (bW x.2) n u d (cA x.2) c X)))
theorem uH h:an h bS []:=⟨bT.nil _ _,bu⟩
theorem AL h:l9 h bS []:=⟨bT.nil _ _,bu⟩
theorem AI h:lF h bS []:=⟨bT.nil _ _,bu⟩
theorem Ge h:fV h jU iD:=S5 (v:=iD) rfl
theorem BL{h s v q}(r:bT h s 21 [QV.ag v])(c:cQ h q v):FX h s [q]:=⟨⟨[v],r,rfl,λi x e=>by
 grind⟩,bu⟩
theorem zT h t:cQ h (.mk 1 t jU [] [] [] [] 0 []) ⟨1,t,iD,bS,bS,bS,bS,0,bS⟩:=
 pV.fm ⟨rfl,rfl,Ge h,uH h,AL h,uH h,AI h,rfl,aU.nil _ _ _ _⟩
theorem Ls{v s}(c:fV h p v)(d:FX h s [q]):cQ h (.mk 2 0 p [] [] [] [] 0 [q]) ⟨2,0,v,bS,bS,bS,bS,0,s⟩:=
 pV.fm ⟨rfl,rfl,c,uH h,AL h,uH h,AI h,rfl,d⟩
theorem Is{h c s ak q}(d:an h c ak)(e:FX h s [q]):cQ h (.mk 3 0 jU ak [] [] [] 0 [q]) ⟨3,0,iD,c,bS,bS,bS,0,s⟩:=
 pV.fm ⟨rfl,rfl,Ge h,d,AL h,uH h,AI h,rfl,e⟩
theorem BN:OD jU:=⟨wC,wC,trivial⟩
theorem OY{op on}(c:OD w)(d:QW q):QW (.mk op ta w co on gr od li [q]):=XM.2 ⟨c,λa e=>da⟩
theorem GO t:QW (.mk 1 t jU [] [] [] [] 0 []):=XM.2 ⟨BN,λa c=>by simp at c⟩
theorem bnZ{a:Int}{n:Nat}(c:0<=a)(d:0<n):0<=a.tmod (n:Int)/\a.tmod (n:Int)<(n:Int):=by
 rw[Int.tmod_eq_emod_of_nonneg c];exact⟨Int.emod_nonneg _ aC,Int.emod_lt_of_pos _ aC⟩
theorem U1{k op on}(c:cm op=1)(h:cX s ps q=(k,0)):cX s ps (.mk op ta w co on gr od li [q])=lS s ps (.mk op ta w co on gr od li [q]) k []:=by
 grind[gK,cX,EA]
theorem bQZ{k c op on p}(d:cm op=2)(h:cX s ps q=(k,0))(h':cX s ps p=(c,0)):cX s ps (.mk op ta w co on gr od li [q,p])=lS s ps (.mk op ta w co on gr od li [q,p]) k c:=by
 grind[gK,cX,EA]
theorem RZ(h:l.length<=12):Ez l=(l,0):=if_pos h
theorem Lp{s ps}{t:Int}(c:0<=t)(d:t<s.c.length)(e:(fC s t).length<=12):cX s ps (.mk 1 t jU [] [] [] [] 0 [])=(fC s t,0):=by
 have f:cX s ps (.mk 1 t jU [] [] [] [] 0 [])=lS s ps (.mk 1 t jU [] [] [] [] 0 []) [] []:=by simp[cX,gK,cm]
 rw[f];unfold lS;rw[if_neg (by simp[cm,gL])];dsimp only;rw[if_pos rfl,if_pos ⟨c,d⟩,RZ e]
theorem gu{k}(h:cX s ps q=(k,0))(c:kE k ps w=0)(d:k.length<=12):cX s ps (.mk 2 0 w [] [] [] [] 0 [q])=(k,0):=by
 rw[U1 bx h];unfold lS;rw[if_neg (by simp[cm,gL])];dsimp only;rw[if_neg bx,if_pos rfl,if_pos c,RZ d]
theorem F9{k}(h:cX s ps q=(k,0))(d:co≠[])(e:∀c∈co,IK k c=true)(g:co.length<=12):cX s ps (.mk 3 0 jU co [] [] [] 0 [q])=(co.map λc=>k.getD c.toNat 0,0):=by
 rw[U1 bx h];unfold lS;rw[if_neg (by simp[cm,gL])];dsimp only;rw[if_neg bx,if_neg bx,if_pos rfl,if_pos ⟨d,λj x f=>e x (si f)⟩,RZ da]
structure LP(kt ks co:ti):Prop where
 in_:∀c∈co,IK kt c=true
 eq_:(co.map λc=>kt.getD c.toNat 0)=ks
theorem LP.kin{c ks}(x:LP c ks co)(h:cX s ps q=(c,0))(d:ks≠[])(f:ks.length<=12):cX s ps (.mk 3 0 jU co [] [] [] 0 [q])=(ks,0):=by
 have g:co.length=ks.length:=by rw[<-x.eq_,length_map]
 rw[F9 h (λe=>d (eq_nil_of_length_eq_zero da)) x.in_ aC,x.eq_]
theorem LP.cw{d}{ks:ti}{c x}(p:LP d (ks.take i) co)(hx:ks[i]?=some x)(g:IK d c=true)(e:d.getD c.toNat 0=x):LP d (ks.take (i+1)) (co++[c]):=
 ⟨λy f=>by
  rcases mem_append.1 f with f|f
  .exact p.in_ y f
  grind,by rw[sn,p.eq_,sy,hx,map_cons,map_nil,e];rfl⟩
theorem kh:uz 56 YF:=by
 refine gV func56 ?_;rintro d' m h K⟨cb,sc,p,k,v,s,ps,ks,q,rfl,hc,hs,h8,d0,hp,a9,hk,a1,hq,b',hK⟩;refine⟨f56_ctx cb sc p k v,rfl,aD EP (aD AQ (aD jt (aD qR (aD ip aG)))),lr cb sc p k v,by kernel_rfl,?_⟩;have d1:=hs.c.e;have b0:=hk.e;have hw:IntKind.i64.wrap ((sc.c.len:Int)+1)=(sc.c.len:Int)+1:=dW aC aC;dsimp only[lr,push_cast];rw[hw];refine⟨cb,_,rfl,hc,λf W f0 f1 o1 c1=>?_⟩;refine⟨λ⟨f,n,E,o⟩=>0<=f/\f<=sc.c.len/\n<=sc.c.len/\PH.le h o/\aZ m E cb/\aJ E o cb,λ⟨_,n,_,_⟩=>sc.c.len-n,⟨(f,0,W,h),⟨f0,aC,aC,.refl _,o1,c1⟩,MT⟩,?_⟩;clear f0 f1 o1 c1 W hw;rintro⟨f,n,W,o⟩⟨f0,f1,hn,z,o1,c1⟩;dsimp only
 have C:∀(kk:Sl)(kl:ti)(E:MH)(o:PH)(Q:PV->ao->MH->PH->Prop),an o kk kl->kl.length<=1000->PH.le h o->aJ E o cb->(∀v p m' h',PH.le o h'->fV h' p v->I8 kl ps 1 p->aZ E m' cb->aJ m' h' cb->Q v p m' h')->
  ∃(D:Nat)(s t:Sl)(ak u:ti)(I:Nat),[CV.val (.pointer (some ⟨cb,0,none⟩)),CV.val (.slice kk.a kk.len kk.cap),CV.val (.slice p.a p.len p.cap),CV.val (.int .i64 1)]=[CV.val (.pointer (some ⟨D,0,none⟩)),CV.val (.slice s.a s.len s.cap),CV.val (.slice t.a t.len t.cap),CV.val (.int .i64 I)]/\aJ E o D/\an o s ak/\an o t u/\ak.length<=1000/\u.length<=1000/\I<=1000/\
   ∀(v:PV)(p:ao)(m':MH)(h':PH),PH.le o h'->fV h' p v->I8 ak u I p->aZ E m' D->aJ m' h' D->Q v p m' h':=λkk kl E o Q h1 h2 H h4 h5=>
  ⟨cb,kk,p,kl,ps,1,rfl,h4,h1,hp.mono H,h2,a9,aC,λv p m' h' q1 q2 X q3 q4=>h5 v p m' h' q1 q2 X q3 q4⟩
 refine aE (λd2=>?_) (λd3=>?_)
 rotate_left
 .have du:∀(w:PV)(p:ao)(m':MH)(h':PH),PH.le o h'->fV h' p w->I8 ks ps 1 p->aZ W m' cb->aJ m' h' cb->∀(s:Sl)(c:PH),PH.le h' c->bT c s 21 [QV.ag v]->K (aQ ⟨2,0,w,bS,bS,bS,bS,0,s⟩) m' c:=λw p m' h' q1 q2 X q3 q4 s h2 U q6=>
   hK _ _ m' h2 ((z.trans q1).trans U) (Ls (q2.mono U) (BL q6 (hq.mono ((z.trans q1).trans U)))) ⟨OY X.fk b',λd hf=>hf.filter,λ_ Y b3 _ J b4=>gu b4 (X.valid (by decide) b3 Y) J⟩ (o1.trans q3) (q4.mono U)
  exact⟨C k ks W o _ (hk.mono z) a1 z c1 du,C k ks W o _ (hk.mono z) a1 z c1 du⟩
 have b5:IntKind.i64.wrap (f+(n:Int))=f+(n:Int):=dW aC aC;rw[b5];refine⟨aC,sc,s,_,rfl,hs.mono z,h8,λA h2 a2 F=>?_⟩;have a3:=F.e;obtain⟨T,hT⟩:∃T,(f+(n:Int)).tmod (sc.c.len:Int)=T:=⟨_,rfl⟩
 have b6:=bnZ (a:=f+(n:Int)) (n:=sc.c.len) aC aC;rw[hT]at F a3 b6⊢
 have b7:(fC s T).length<=8:=by
  unfold fC;split
  .simp
  .split
   .simp
   .rename_i t ht;simpa using h8 t (mem_of_getElem? ht)
 obtain⟨S,a4⟩:∃S,fC s T=S:=⟨_,rfl⟩
 have L:cX s ps (.mk 1 T jU [] [] [] [] 0 [])=(S,0):=by grind[Lp]
 have Z:dRZ s->OF S:=λx=>by rw[<-a4];exact x T
 rw[a4]at F a3 b7;refine⟨λ⟨f',n',t,B,ak,i,E,o⟩=>f'=f/\n'=n/\B=A/\t=T/\i<=ks.length/\ak.length<=i/\(ak.length=i->LP S (ks.take i) ak)/\PH.le h2 o/\aZ m E cb/\aJ E o cb,λ⟨_,_,_,_,_,i,_,_⟩=>ks.length-i,⟨(f,n,T,A,[],0,W,h2),⟨rfl,rfl,rfl,rfl,aC,by simp,λ_=>⟨by simp,by simp⟩,.refl _,o1,c1.mono a2⟩,MT⟩,?_⟩;rintro⟨f',n',t,A,ak,i,m2,H⟩⟨rfl,rfl,rfl,rfl,hi,d4,b8,G,o2,c2⟩;dsimp only;have g:PH.le h H:=(z.trans a2).trans G;refine aE (λV=>?_) (λc7=>?_)
 .obtain⟨x,o⟩:=eF b0 V;obtain⟨b1,b9,e1,r1⟩:=(hk.mono g).at o;refine⟨b1,b9,e1,aC,V,x,.ay (by grind),cb,_,rfl,c2,λfr m3 d5 d6 o3 c3=>?_⟩;refine⟨λ⟨f2,n2,t2,B,a',i2,M,y,j,E,hy⟩=>f2=f'/\n2=n'/\B=A/\t2=t/\a'=ak/\i2=i/\M=x/\E=m3/\hy=H/\j<=A.len/\y=fr,λ⟨_,_,_,_,_,_,_,_,j,_,_⟩=>A.len-j,⟨(f',n',t,A,ak,i,x,fr,0,m3,H),⟨rfl,rfl,rfl,rfl,rfl,rfl,rfl,rfl,rfl,aC,rfl⟩,MT⟩,?_⟩;rintro⟨f2,n2,t2,A,ak,i,M,y,j,m3,H⟩⟨rfl,rfl,rfl,rfl,rfl,rfl,rfl,rfl,rfl,hj,rfl⟩;dsimp only;refine aE (λc8=>?_) (λc9=>⟨(f2,n2,t2,_,_,_,_,_),⟨rfl,rfl,rfl,rfl,by show i+1<=ks.length;omega,by show ak.length<=i+1;omega,λe=>by grind,G,o2.trans o3,c3⟩,by grind,MT⟩);have c':IntKind.i64.wrap (y+(j:Int))=y+(j:Int):=dW aC aC;rw[c'];have hm:=bnZ (a:=y+(j:Int)) (n:=Sl.len _) aC (show 0<A.len by omega);obtain⟨b2,c0,e2,r2⟩:=(F.mono G).nt (n:=(y+(j:Int)).tmod (A.len:Int)) hm.1 aC;refine⟨aC,b2,c0,e2,hm.1,hm.2,_,.ay (by simpa using r2),aB (λek=>⟨by simp;omega,by simp;omega,(f2,n2,t2,_,ak++[(y+(j:Int)).tmod (A.len:Int)],i+1,_,_),⟨rfl,rfl,rfl,rfl,by grind,by simp;omega,λe=>?_,G,o2.trans o3,c3⟩,by grind,?_⟩) (λ_=>⟨(f2,n2,t2,A,ak,i,M,y,j+1,m3,H),⟨rfl,rfl,rfl,rfl,rfl,rfl,rfl,rfl,rfl,by grind,rfl⟩,by grind,MT⟩)⟩
  .have e:(ak++[(y+(j:Int)).tmod (A.len:Int)]).length=i+1:=e;rw[length_append]at e;exact(b8 (by simpa using e)).cw o (by simp_all[IK]) (by grind)
  .rw[map_append];exact MT
 .have a5:n'+1<=sc.c.len:=by omega
  have d7:i=ks.length:=by omega
  refine aB (λ_=>⟨(f',n'+1,m2,H),⟨f0,f1,a5,g,o2,c2⟩,by grind,MT⟩) (λ_=>aE (λ_=>⟨(f',n'+1,m2,H),⟨f0,f1,a5,g,o2,c2⟩,by grind,MT⟩) (λd8=>⟨t,rfl,cb,2,rfl,aC,aC,c2,λr m4 o4 c4=>?_⟩))
  have O:LP S ks ak:=by
   grind
  refine aB (λ_=>?_) (λ_ s1 h5 a6 r5 s2 h6 a0 r6=>?_)
  .have du:∀(w:PV)(p:ao)(m':MH)(h':PH),PH.le H h'->fV h' p w->I8 S ps 1 p->aZ m4 m' cb->aJ m' h' cb->∀(s:Sl)(c:PH),PH.le h' c->bT c s 21 [QV.ag ⟨1,t,iD,bS,bS,bS,bS,0,bS⟩]->∀(a7:Sl)(P:PH),PH.le c P->bT P a7 1 (ak.map eI)->∀(a8:Sl)(R:PH),PH.le P R->bT R a8 21 [QV.ag ⟨2,0,w,bS,bS,bS,bS,0,s⟩]->K (aQ ⟨3,0,iD,a7,bS,bS,bS,0,a8⟩) m' R:=λw p m' h' q1 q2 X q3 q4 s h5 U q6 s1 h6 q7 q8 s2 h7 q9 c5=>
    hK _ _ m' h7 ((((g.trans q1).trans U).trans q7).trans q9) (Is (ak:=ak) ⟨q8.mono q9,aC⟩ (BL c5 (Ls (q2.mono ((U.trans q7).trans q9)) (BL (q6.mono (q7.trans q9)) (zT _ t))))) ⟨OY BN (OY X.fk (GO t)),λd _=>Qk.three d (rV.one (rV.one rV.scan (by decide)) (by decide)),λc6 Y _ hn J _=>O.kin (gu L (X.valid (by decide) (Z c6) Y) aC) hn J⟩ ((o2.trans o4).trans q3) (q4.mono ((U.trans q7).trans q9))
   exact⟨C A S m4 H _ (F.mono G) aC g c4 du,C A S m4 H _ (F.mono G) aC g c4 du⟩
  .exact hK _ _ m4 h6 ((g.trans a6).trans a0) (Is (ak:=ak) ⟨r5.mono a0,aC⟩ (BL (v:=⟨1,t,iD,bS,bS,bS,bS,0,bS⟩) r6 (zT _ t))) ⟨OY BN (GO t),λd _=>Qk.three d (rV.mono (rV.one rV.scan (by decide)) (by decide) (by decide) (by decide)),λ_ _ _ hn J _=>O.kin L hn J⟩ (o2.trans o4) (c4.mono (a6.trans a0))
def KQ2(K:tt)(m:MH)(h:PH)(cb:Nat)(s:kD)(ps:ti)(d:Nat):=∀w q m' h',PH.le h h'->cQ h' q w->QW q->Gd d q->(iG s ps q).2=0->aZ m m' cb->aJ m' h' cb->K (aQ w) m' h'
def blJ N:=λd m h K=>∃cb sc p s ps c,d=[cP cb,aS sc,cS p,cI c]/\aJ m h cb/\dV h s sc/\dO s=0/\s.c≠[]/\an h p ps/\ps.length<=1000/\ps.all eA=true/\ -1<=c/\c<=1000/\(c+1).toNat<N/\KQ2 K m h cb s ps c.toNat
def f54_ctx(N cb:Nat)(sc:bQ)(p:Sl):=
 tH [(13,ES),(53,bDQ),(27,uW),(55,cUQ),(56,YF),(96,dDJ),(52,EL),(54,blJ N)] [(11,{A:=QV×QV×Sl×Int×MH×PH,st:=λ⟨a,q,k,n,m,h⟩=>bO 171 175 [(0,pv cb),(2,sv p),SW 5,SW 8,SW 10,(11,sv k),SW 13,(14,iv n)] [UV 5 29 sc.ag,UV 8 68 oJ.ag,UV 10 68 a.ag,UV 13 68 q.ag] m h})] [(7,{A:=Int×Int×QV×QV×Sl×MH×PH,st:=λ⟨d,op,a,q,k,m,h⟩=>bO 171 175 [(0,pv cb),(2,sv p),(3,iv d),SW 5,SW 8,(9,iv op),SW 10,(11,sv k),SW 13] [UV 5 29 sc.ag,UV 8 68 oJ.ag,UV 10 68 a.ag,UV 13 68 q.ag] m h}),
  (16,{A:=Int×Int×QV×QV×Sl×Bool×MH×PH,st:=λ⟨d,op,a,q,k,t,m,h⟩=>bO 171 175 [(0,pv cb),(2,sv p),(3,iv d),SW 5,SW 8,(9,iv op),SW 10,(11,sv k),SW 13,(59,iv op),(84,bv t)] [UV 5 29 sc.ag,UV 8 68 oJ.ag,UV 10 68 a.ag,UV 13 68 q.ag] m h}),
  (24,{A:=Int×QV×QV×Sl×Bool×MH×PH,st:=λ⟨op,a,q,k,t,m,h⟩=>bO 171 175 [(0,pv cb),(2,sv p),SW 5,SW 8,SW 10,(11,sv k),SW 13,(59,iv op),(122,bv t)] [UV 5 29 sc.ag,UV 8 68 oJ.ag,UV 10 68 a.ag,UV 13 68 q.ag] m h}),
  (20,{A:=QV×QV×QV×Sl×Sl×MH×PH,st:=λ⟨a,b,q,k,l,m,h⟩=>bO 171 175 [(0,pv cb),(2,sv p),SW 5,SW 8,SW 10,(11,sv k),SW 13,SW 15,(16,sv l)] [UV 5 29 sc.ag,UV 8 68 oJ.ag,UV 10 68 a.ag,UV 13 68 q.ag,UV 15 68 b.ag] m h}),
  (30,{A:=QV×QV×MH×PH,po:=true,st:=λ⟨a,q,m,h⟩=>bO 171 175 [(2,sv p),SW 5,SW 8,SW 10,SW 13] [UV 5 29 sc.ag,UV 8 68 oJ.ag,UV 10 68 a.ag,UV 13 68 q.ag] m h})] [] [66,1066,1031] [] false
abbrev HI a:=dO a=0
abbrev FH(a:QV->ae->Prop):=∀x c,a x c
abbrev A5 a b c:=(iG a b c).2
abbrev Fa(a:bQ)(b:Sl)(c:QV)(d:PH)(e:kD->ti->ae->Sl->PH->Prop):=F5 (λx n=>∃o,Gn (λf g=>∃j,bE (cW a) (BR b c)=bE (cW x) (BR n o)/\dV d f x/\an d n g/\cQ d j o/\GS d (iG f g j) (λt u=>e f g j t u)))
abbrev xD(a:Int×Int×QV×QV×Sl×MH×PH):=a.2.2.2.2
abbrev mD:=eP 13
abbrev nT a b:=C6 a=C6 b
abbrev Cv a b c d:=RV a fZ (mh::fZ::fZ::fZ::fZ::mh::Db::b::c::Db::Db::fZ::zU d)
abbrev Fl a b c d e g:=a/\cK b/\aH c/\bY/\eC/\pM/\bC d e/\mD/\g
abbrev Al(a:QV×QV×Sl×Int×MH×PH):=a.2.2.2.2
abbrev XU(a:QV×QV×Sl×Int×MH×PH):=a.2.1.aa
abbrev rY(a:QV×MH×PH):=C6 a.1
abbrev Bh(a:QV×QV×MH×PH):=a.2.2.1
abbrev gH(a:QV×MH×PH):=a.2.2
abbrev qG(a:Int×QV×QV×Sl×Bool×MH×PH):=a.2.2.2.1
abbrev Fm(a:Int×QV×QV×Sl×Bool×MH×PH):=a.2.2.2.2.1
abbrev sO(a:Int×QV×QV×Sl×Bool×MH×PH):=a.2.1
abbrev tZ(a:Int×QV×QV×Sl×Bool×MH×PH):=a.2.2.1
abbrev uB(a:Int×QV×QV×Sl×Bool×MH×PH):=a.2.2.2.2.2
abbrev nS a:=(uB a).2
abbrev pL(a:QV×QV×QV×Sl×Sl×MH×PH):=a.2.2.2
abbrev rA(a:Sl×Sl×MH×PH):=a.2.1
abbrev u7(a:QV×QV×QV×Sl×Sl×MH×PH):=a.2.2.1
abbrev MU(a:Nat)(b c:Sl)(d:Nat)(e:MH)(g:PH)(i:ti->ti->Sl->tu->Prop):=lC (λx n=>C7 (λf j=>eD a (fG b c)=eD d (fG x n)/\aJ e g d/\an g x f/\an g n j/\iW f/\iW j/\∀o t,i f j o t))
abbrev rT(a:Sl×Sl×MH×PH):=gX a.2
abbrev tC(a:Sl×Sl×MH×PH):=gT a.2
abbrev NF a:=(u7 a).args
abbrev J0(a:MH->Prop)(b:MH->MH)(c:PH)(d:MH->(QV×QV×MH×PH)->Prop):=∀x,a x->uP (b x) c->∃e,d x e
abbrev mS a b:=oQ 68 a=rY b
abbrev RE(a:Int×Int×QV×QV×Sl×Bool×MH×PH)(b:Int×QV×QV×Sl×Bool×MH×PH)(c:Prop)(d:bQ):=cG a.2.1 b.1/\c/\aW d/\gP/\nT (sO a.2) (sO b)/\nT (tZ a.2) (tZ b)/\fX (uB a.2).1 (uB b)/\dH (nS a.2) (uB b)/\True
abbrev CD(a:bQ->Sl->Sl->Prop):=∃x,lC (λc d=>a x c d)
abbrev J4(a:Nat->QV->Prop):=∃x c,a x c
abbrev Nx a b c:=jX a::fZ::pQ b (Db::Db::Db::Db::j9 fZ c)
attribute [push_cast] HI FH A5 Fa xD mD nT Cv Fl Al XU rY Bh gH qG Fm sO tZ uB nS pL rA u7 MU rT tC NF J0 mS RE CD J4 Nx
def lu(N cb:Nat)(sc:bQ)(p:Sl)(S:Int):ST:=λm h K=>iN cb 12 m h (λk Z=>let Ab:=iN cb (ite (iS sc>1) (iS sc) 1) Z h (λE X=>∃t,iJ E t/\K (mX (yG 1 t)) X h);aX S 1 Ab (dJ (j6 1 k==1) Ab (iS sc==0) Ab (∃c,F5 (λs p1=>Gn (λs1 p2=>∃d,eD cb (bE (cW sc) (fB p (jQ S 1)))=eD c (bE (cW s) (fB p1 d))/\aJ Z h c/\dV h s1 s/\HI s1/\jP (s1.c=[])/\an h p1 p2/\iW p2/\mZ (Es p2)/\Int.negSucc 0<=d/\d<=1000/\(d+1).toNat<N/\FH (λw q=>iK (λX h1=>cO h h1 (cQ h1 q w) (QW q->Gd d.toNat q->A5 s1 p2 q=0->aZ Z X c->rD X h1 c (Fa sc p w h1 (λ_ _ _ s2 h2=>∃I:Int×Int×QV×QV×Sl×MH×PH->Prop,fY (λB u=>vT X u h2 B 68 21 ([w.ag])->∃x,I x/\cK cb/\aH p/\cG S x.1/\bY/\eC/\cG (j6 1 k) x.2.1/\pM/\bC s2 (xD x).1/\mD/\aW sc/\gP/\nT w x.2.2.1/\oQ 68 (Cv (j6 1 k) Db Db B)=C6 x.2.2.2.1/\iU u (xD x)/\dH h2 (xD x).2/\True)/\∀x,I x->∃I1:QV×QV×MH×PH->Prop,dP x.2.1 3 (iN cb 3 (gX (xD x)) (gT (xD x)) (λE u=>∃(I2:QV×QV×Sl×Int×MH×PH->Prop)(z:QV×QV×Sl×Int×MH×PH->Nat),(∃f,Fl (I2 f) cb p (xD x).1 f.2.2.1 (cG E f.2.2.2.1/\aW sc/\gP/\nT x.2.2.1 f.1/\kO (nT x.2.2.2.1 f.2.1) (fX u (Al f)) (dH (gT (xD x)) (Al f))))/\∀f,I2 f->iA f.2.2.2.1 0 (iN cb (aF f.2.2.1) (Al f).1 (Al f).2 (λP C=>∃e,cH C (bK (XU f)) 3 1 e/\cJ (fS e 1*8)/\fA e/\fY (λB F=>cL C F (bK (XU f)) B 3 1 (hZ e (bV P))->∃j,I2 j/\z j<z f/\cK cb/\aH p/\bY/\eC/\pM/\bC f.2.2.1 j.2.2.1/\mD/\cG (jQ f.2.2.2.1 1) j.2.2.2.1/\aW sc/\gP/\nT f.1 j.1/\oQ 68 (jX f.2.1.op::pU f.2.1::vD f.2.1 (zB (rF B) f.2.1.on f.2.1 (zE f.2.1) (j9 (rZ f.2.1) f.2.1.args)))=C6 j.2.1/\fX F (Al j)/\dH (Al f).2 (Al j)/\True))) (uP (Al f).1 (Al f).2->∃e,I1 e/\aH p/\eP 5/\eC/\pM/\mD/\aW sc/\gP/\kO (nT f.1 e.1) (C6 f.2.1=rY e.2) (wA (Al f).1 (Al f).2 (Bh e) (gH e.2))))) (∃I2:Int×Int×QV×QV×Sl×Bool×MH×PH->Prop,dP x.2.1 4 (∃f,I2 f/\cK cb/\aH p/\cG x.1 f.1/\bY/\eC/\cG x.2.1 f.2.1/\pM/\bC (xD x).1 (qG f.2)/\mD/\cG x.2.1 f.2.1/\C0 (Fm f.2)/\aW sc/\gP/\nT x.2.2.1 (sO f.2)/\nT x.2.2.2.1 (tZ f.2)/\eV (fX (gX (xD x)) (uB f.2)) (dH (gT (xD x)) (uB f.2))) (∃f,I2 f/\cK cb/\aH p/\cG x.1 f.1/\bY/\eC/\cG x.2.1 f.2.1/\pM/\bC (xD x).1 (qG f.2)/\mD/\cG x.2.1 f.2.1/\kJ (x.2.1==5) (Fm f.2)/\aW sc/\gP/\nT x.2.2.1 (sO f.2)/\nT x.2.2.2.1 (tZ f.2)/\eV (fX (gX (xD x)) (uB f.2)) (dH (gT (xD x)) (uB f.2)))/\∀f,I2 f->branch (Fm f.2) (∃A,F5 (λB H=>Gn (λJ L=>∃Q,eD cb (bE (cW sc) (fB p (jQ f.1 2)))=eD A (bE (cW B) (fB H Q))/\aJ (uB f.2).1 (nS f.2) A/\dV (nS f.2) J B/\HI J/\jP (J.c=[])/\an (nS f.2) H L/\iW L/\mZ (Es L)/\Int.negSucc 0<=Q/\Q<=1000/\(Q+1).toNat<N/\FH (λT M=>iK (λu n=>cO (nS f.2) n (cQ n M T) (QW M->Gd Q.toNat M->A5 J L M=0->aZ (uB f.2).1 u A->rD u n A (Fa sc p T n (λ_ _ _ R U=>∃I3:QV×QV×QV×Sl×Sl×MH×PH->Prop,let Aa:=∃e,Fl (I3 e) cb p (qG f.2) (pL e).1 (eP 15/\bC R (rA (pL e))/\aW sc/\gP/\nT (sO f.2) e.1/\nT (tZ f.2) (u7 e)/\nT T e.2.1/\iU u (pL e).2/\fQ U (pL e).2.2);dP f.2.1 4 (eH (j6 (aF (qG f.2)) (aF R)) 8 (∃e,Fl (I3 e) cb p (qG f.2) (pL e).1 (eP 15/\bC R (rA (pL e))/\aW sc/\gP/\nT (sO f.2) e.1/\oQ 68 (jX 5::pU (tZ f.2)::vD (tZ f.2) (zB (wP (tZ f.2)) (tZ f.2).on (tZ f.2) (zE (tZ f.2)) (j9 (rZ (tZ f.2)) (tZ f.2).args)))=C6 (u7 e)/\nT T e.2.1/\iU u (pL e).2/\fQ U (pL e).2.2)) Aa) Aa/\∀e,I3 e->(∃G,MU cb (pL e).1 (rA (pL e)) G (rT (pL e)) (tC (pL e)) (λ_ _ o V=>iK (λz O=>cO (tC (pL e)) O (l9 O o V) (V.length<=10->aZ (rT (pL e)) z G->rD z O G (fY (λW C=>vT z C O W 68 21 ([e.2.1.ag])->∃j,tG (cH C (bK (NF e)) 68 21 j) (λy=>dA 21 y/\mH C O (bK W) 21 y/\lK j y 280/\cJ (lL j y)/\∀Y,J0 (λF=>cL C F (bK (NF e)) Y 68 21 (j++y)) (λF=>F) O (λF D=>I1 D/\aH p/\eP 5/\eC/\pM/\mD/\aW sc/\gP/\kO (nT e.1 D.1) (mS (jX (u7 e).op::pU (u7 e)::vD (u7 e) (zB (wP (u7 e)) o (u7 e) (zE (u7 e)) (j9 (rZ (u7 e)) Y))) D.2) (wA F O (Bh D) (gH D.2))))))))))/\fY (λW z=>vT (rT (pL e)) z (tC (pL e)) W 68 21 ([e.2.1.ag])->∃G,MU cb (pL e).1 (rA (pL e)) G z (tC (pL e)) (λ_ _ o V=>iK (λC O=>cO (tC (pL e)) O (l9 O o V) (V.length<=10->aZ z C G->rD C O G (∃j,tG (cH C (bK (NF e)) 68 21 j) (λy=>dA 21 y/\mH C O (bK W) 21 y/\lK j y 280/\cJ (lL j y)/\∀Y,J0 (λF=>cL C F (bK (NF e)) Y 68 21 (j++y)) (λF=>F) O (λF D=>I1 D/\aH p/\eP 5/\eC/\pM/\mD/\aW sc/\gP/\kO (nT e.1 D.1) (mS (jX (u7 e).op::pU (u7 e)::vD (u7 e) (zB (wP (u7 e)) o (u7 e) (zE (u7 e)) (j9 (rZ (u7 e)) Y))) D.2) (wA F O (Bh D) (gH D.2))))))))))))))))) (∃I3:Int×QV×QV×Sl×Bool×MH×PH->Prop,let Ac:=∃e,Fl (I3 e) cb p (qG f.2) (qG e) (RE f e (C0 (Fm e)) sc);dJ (f.2.1==6) Ac (f.2.1==7) Ac (∃e,Fl (I3 e) cb p (qG f.2) (qG e) (RE f e (kJ (f.2.1==8) (Fm e)) sc))/\∀e,let Ad:=bE (cW sc) (bU p (BR (qG e) (sO e)));I3 e->dJ (Fm e) (∃A,CD (λB H E=>∃v,Gn (λJ L=>∃P M,eD cb Ad=eD A (bE (cW B) (bU H (BR E v)))/\aJ (uB e).1 (nS e) A/\dV (nS e) J B/\pE J/\qL J.c.length/\an (nS e) H L/\iW L/\an (nS e) E P/\iW P/\cQ (nS e) M v/\QW M/\FH (λT q2=>iK (λu n=>cO (nS e) n (cQ n q2 T) (bBJ J L P M q2->aZ (uB e).1 u A->rD u n A (fY (λR z=>vT u z n R 68 21 ([T.ag])->∃j,tG (cH z (bK (tZ e).args) 68 21 j) (λy=>dA 21 y/\mH z n (bK R) 21 y/\lK j y 280/\cJ (lL j y)/\∀W,J0 (λC=>cL z C (bK (tZ e).args) W 68 21 (j++y)) (λC=>C) n (λC D=>I1 D/\aH p/\eP 5/\eC/\pM/\mD/\aW sc/\gP/\kO (nT (sO e) D.1) (mS (qQ (tZ e) (rF W)) D.2) (wA C n (Bh D) (gH D.2)))))))))))) (e.1==9) (J4 (λA v=>HD (λB E=>eD cb (j5 (tZ e) (qG e))=eD A (gO (bD v.op v.ah (bD (fM v) (fN v) (Hr v (Cw v.on (B8::pW v.bg::aT v.args))))) B)/\aJ (uB e).1 (nS e) A/\an (nS e) B E/\iW E/\∀g o P g1 V,iK (λu n=>cO (nS e) n (an n g g1) (lF n o V->g1.length<=E.length->V.length<=E.length->dK P->P<=3->aZ (uB e).1 u A->aJ u n A->uP u n->∃j,I1 j/\aH p/\eP 5/\eC/\pM/\mD/\aW sc/\gP/\kO (nT (sO e) j.1) (mS (jX v.op::pU v::vD v (wP v::rF v.on::rF g::rF o::j9 (jX P) v.args)) j.2) (wA u n (Bh j) (gH j.2))))))) (dP e.1 10 (J4 (λA v=>HD (λB E=>eD cb (j5 (tZ e) (qG e))=eD A (gO (bD v.op v.ah (bD (fM v) (fN v) (Hr v (Cw v.on (B8::pW v.bg::aT v.args))))) B)/\aJ (uB e).1 (nS e) A/\an (nS e) B E/\iW E/\∀g o P g1 V,iK (λu n=>cO (nS e) n (an n g g1) (lF n o V->g1.length<=E.length->V.length<=E.length->dK P->P<=3->aZ (uB e).1 u A->rD u n A (∃G, CD (λJ H k3=>∃v1,Gn (λR L=>∃k4 M,eD cb Ad=eD G (bE (cW J) (bU H (BR k3 v1)))/\aJ u n G/\dV n R J/\pE R/\qL R.c.length/\an n H L/\iW L/\an n k3 k4/\iW k4/\cQ n M v1/\QW M/\FH (λT q2=>iK (λz U=>cO n U (cQ U q2 T) (bBJ R L k4 M q2->aZ u z G->rD z U G (fY (λW C=>vT z C U W 68 21 ([T.ag])->∃j,tG (cH C (bK v.args) 68 21 j) (λy=>dA 21 y/\mH C U (bK W) 21 y/\lK j y 280/\cJ (lL j y)/\∀Y,J0 (λF=>cL C F (bK v.args) Y 68 21 (j++y)) (λF=>F) U (λF D=>I1 D/\aH p/\eP 5/\eC/\pM/\mD/\aW sc/\gP/\kO (nT (sO e) D.1) (mS (jX v.op::pU v::vD v (wP v::rF v.on::rF g::rF o::j9 (jX P) Y)) D.2) (wA F U (Bh D) (gH D.2))))))))))))))))) ((∃A,Bs (λB t G H Q=>eD cb (bU (qG e) (fB p 2))=eD A (bU B (fB t Q))/\aJ (uB e).1 (nS e) A/\an (nS e) B G/\an (nS e) t H/\iW G/\iW H/\qL Q/\Dy (nS e) G H Q (uB e).1 A (λv u n=>∀J,J0 (λz=>vT u z n J 68 21 ([(sO e).ag])) (λz=>z) n (λz j=>I1 j/\aH p/\eP 5/\eC/\pM/\mD/\aW sc/\gP/\kO (nT (sO e) j.1) (mS (Nx 2 v J) j.2) (wA z n (Bh j) (gH j.2))))))/\fY (λB u=>vT (uB e).1 u (nS e) B 68 21 ([(sO e).ag])->∃A,Bs (λJ t G H Q=>eD cb (bU (qG e) (fB p 2))=eD A (bU J (fB t Q))/\aJ u (nS e) A/\an (nS e) J G/\an (nS e) t H/\iW G/\iW H/\qL Q/\∀v L,iK (λz n=>cO (nS e) n (fV n L v) (I8 G H Q L->aZ u z A->aJ z n A->uP z n->∃j,I1 j/\aH p/\eP 5/\eC/\pM/\mD/\aW sc/\gP/\kO (nT (sO e) j.1) (mS (Nx 2 v B) j.2) (wA z n (Bh j) (gH j.2))))))))))/\∀f,I1 f->Fa sc p f.2.1 (gH f.2) (λB H M _ n=>cM (A5 B H M) 0 (K (mX f.1.ag) (Bh f) n) (K (mX f.2.1.ag) (Bh f) n))))))))))))
structure fU(m0 m:MH)(s:Sl)(E:TypeId)(sz:Nat)(xs:List tm):Prop where
 row:cH m s E sz xs
 f:∀b i,s.a=some ⟨b,i,none⟩->m0 b=none
def dl(m0 m:MH)(cb:Nat):=∀b o,m0 b=some o->b≠cb->m b=some o
theorem dl.of{m0}(h:aZ m0 m cb):dl m0 m cb:=λb o e n=>by rw[h.ai b n];exact e
theorem dl.on{m0}(k:dl m0 m cb)(h:aZ m m' cb):dl m0 m' cb:=λb o e n=>by rw[h.ai b n];exact k b o e n
theorem aJ.cj(c:aJ m h cb):∃cs,m cb=some (.cells cs 88 (0,0)):=by
 obtain⟨r,q,cs,k,d,_⟩:=c
 grind
theorem aJ.br(c:aJ m h cb)(e:m' cb=m cb)(le:PH.le h h'):aJ m' h' cb:=by
 obtain⟨r,q,cs,k,g,d,f⟩:=c;exact⟨r,q,cs,k,da,d.mono le,f⟩
theorem dl.jb{m0}(k:dl m0 m cb)(c:aJ m h cb)(d:m b=none):m0 b=none:=by
 cases e:m0 b with
 |none=>rfl
 |some o=>
  by_cases f:b=cb
  .have⟨cs,g⟩:=c.cj
   grind
  .rw[k b o e f]at d;cases d
theorem cH.nil m E sz:cH m bS E sz []:=⟨⟨λ_ h=>by simp at h,λ_ h=>by simp at h⟩,.inl ⟨rfl,rfl⟩⟩
theorem fU.nil m0 m E sz:fU m0 m bS E sz []:=⟨cH.nil m E sz,λb i e=>by cases e⟩
theorem fU.on{m0 s E}(r:fU m0 m s E sz xs)(o:aZ m m' cb)(c:aJ m h cb)(f:E≠88):fU m0 m' s E sz xs:=by
 refine⟨cH.br r.row (λb i e=>o.ai b (λg=>?_)),r.f⟩;have⟨d,j⟩:=cH.cj r.row e;have⟨cs,n⟩:=c.cj
 grind
theorem fU.new{m0 s t E E' c f}(r:fU m0 m s E sz xs)(x:vT m m' h t E' c f):fU m0 m' s E sz xs:=by
 refine⟨cH.br r.row (λb i e=>x.ai b (λj g=>?_)),r.f⟩;have⟨n,d⟩:=cH.cj r.row e;rw[(x.f b j g).m_]at d;cases d
theorem vT.nh{m0 s E}(x:vT m m' h s E sz xs)(k:dl m0 m cb)(c:aJ m h cb):fU m0 m' s E sz xs:=⟨x.row,λb i e=>k.jb c (x.f b i e).m_⟩
theorem vT.fh{s E}(x:vT m m' h s E sz xs)(c:aJ m h cb):m' cb=m cb:=x.ai cb (λi e=>by
 have⟨cs,d⟩:=c.cj;rw[(x.f cb i e).m_]at d;cases d)
theorem dl.new{m0 s E}(k:dl m0 m cb)(x:vT m m' h s E sz xs):dl m0 m' cb:=λb o e n=>by
 rw[x.ai b (λi c=>by have:=(x.f b i c).m_;rw[k b o e n]at this;cases this)];exact k b o e n
theorem fU.dr{m0 s f E g}(r:fU m0 m s E sz xs)(x:cL m m' s f E sz g)(k:dl m0 m cb)(c:aJ m h cb):fU m0 m' f E sz g:=
 ⟨x.row,λb i e=>by
  rcases x.f b i e with d|⟨j,d⟩
  .exact k.jb c d
  .exact r.f b j d⟩
theorem fU.apart{m0 s t g E E' c n o}(r:fU m0 m s E sz xs)(q:fU m0 m t E' c n)(x:cL m m' t g E' c o)(z:E≠E'):fU m0 m' s E sz xs:=by
 refine⟨cH.br r.row (λb i e=>?_),r.f⟩;have⟨u,d⟩:=cH.cj r.row e;rw[d];refine x.ai b _ d (λj y=>?_);have⟨f,A⟩:=cH.cj q.row y
 grind
theorem dl.dr{m0 s c E d}(k:dl m0 m cb)(r:fU m0 m s E sz xs)(x:cL m m' s c E sz d):dl m0 m' cb:=λb o e n=>x.ai b o (k b o e n) (λi f=>by rw[r.f b i f]at e;cases e)
theorem cL.fh{m0 s d E f}(x:cL m m' s d E sz f)(r:fU m0 m s E sz xs)(c:aJ m h cb)(n:E≠88):m' cb=m cb:=by
 have⟨cs,e⟩:=c.cj;rw[e];refine x.ai cb _ e (λi g=>?_);have⟨j,o⟩:=cH.cj r.row g
 grind
theorem cgZ{sz:Nat}:∀{xs:List tm},(∀e∈xs,e.length=sz)->xs.flatten.length=xs.length*sz
 |[],_=>bu
 |x::xs,h=>by
  simp only[flatten_cons,sj,te];rw[cgZ (λe c=>h e (by simp[c])),h x bu,Nat.add_mul];omega
theorem cH.ko{s E x}(r:cH m s E sz (x::xs)):mH m h s sz (x::xs):=by
 rcases r.ex with⟨_,e⟩|⟨b,d,c,rfl,f,_,_,_,g⟩
 .cases e
 .exact .dx b 0 c E (0,0) rfl rfl f da
def iX(m0 m:MH):=λb=>match m0 b with|some _=>m b|none=>none
def kC(m0 m:MH)(h:PH):=λb i=>match m0 b,m b with|none,some (.cells cs _ _)=>cs[i]? |_,_=>h b i
theorem mU{m0 m h}(d:uP m h):PH.le h (kC m0 m h):=⟨λb i v e=>by
 unfold kC;split
 .rename_i cs E f g c;rw[d.z b _ c i]at e;cases e
 .exact e⟩
theorem Pf{m0 m h}(d:uP m h):wA m h (iX m0 m) (kC m0 m h):=by
 refine⟨λb o e=>?_,mU d,λb i v e=>?_⟩
 .grind[iX]
 grind[kC,iX]
theorem FT{p:Prop}(h:p:=by repeat' (first|with_reducible rfl|exact trivial|exact Pf (by assumption)|refine⟨?_,?_⟩|rfl)):p:=h
theorem fU.ig{m0 s E}(r:fU m0 m s E sz xs):bT (kC m0 m h) s sz xs:=by
 rcases r.row.ex with⟨rfl,rfl⟩|⟨b,d,f,rfl,o,c,_,_,t⟩
 .exact bT.nil _ _
 .have u:=r.f b 0 rfl;refine⟨rfl,.inr ⟨b,0,rfl,λi e g=>⟨λj v n=>?_⟩⟩,c⟩;have y:=oR r.row.rows.len g j v n
  grind[kC]
theorem gv{m0}(k:dl m0 m cb):aZ m0 (iX m0 m) cb:=⟨λb c=>by
 unfold iX;cases e:m0 b with
 |none=>rfl
 |some o=>exact k b o e c⟩
theorem Kd{m0}(c:aJ m h cb)(e:m0 cb≠none)(d:uP m h):aJ (iX m0 m) (kC m0 m h) cb:=c.br (by
 grind[iX]) (mU d)
def QA d q:=QW q/\Qk d q
structure QM(d:Nat)(m0 m:MH)(h:PH)(v:QV)(vs:ud):Prop where
 jx:∃w,fV h w v.ap/\OD w
 ak:∃co:ti,fU m0 m v.aa 3 1 (co.map eI)/\co.length<=1000
 ez:∃l,l9 h v.on l
 az:∃l,an h v.be l
 bd:∃l,lF h v.bh l
 bf:fU m0 m v.args 68 21 (vs.map QV.ag)
 len_:vs.length<=2
 lg:∀v∈vs,∃q,cQ h q v/\QA d q
theorem Zy{d:Nat}{h:PH}:∀{vs:ud},(∀v∈vs,∃q,cQ h q v/\QA d q)->∃qs:List ae,qs.length=vs.length/\(∀q∈qs,QA d q)/\∀(i:Nat) q,qs[i]?=some q->∃v,vs[i]?=some v/\cQ h q v
 |[],_=>⟨[],rfl,λq c=>by simp at c,λi q e=>by simp at e⟩
 |v::vs,f=>by
  have⟨q,c,g⟩:=f v bu;have⟨qs,j,o,t⟩:=Zy (vs:=vs) (λu n=>f u (by simp[n]));refine⟨q::qs,by simp[j],λx y=>da,λi x e=>?_⟩
  grind
theorem QM.ig{n m0 vs}(x:QM n m0 m h v vs)(d:uP m h):∃q,cQ (kC m0 m h) q v/\QW q/\Gd (n+1) q:=by
 have⟨w,o,c⟩:=x.jx;have⟨co,t,u⟩:=x.ak;have⟨on,y⟩:=x.ez;have⟨gr,z⟩:=x.az;have⟨od,f⟩:=x.bd;have⟨qs,A,j,B⟩:=Zy x.lg;have le:=mU (m0:=m0) d;have C:=x.len_;exact⟨_,pV.fm ⟨rfl,rfl,o.mono le,⟨t.ig,aC⟩,y.mono le,z.mono le,f.mono le,rfl,⟨⟨vs,x.bf.ig,A,λi q e=>let⟨v,k1,k2⟩:=B i q e;⟨v,k1,k2.mono le⟩⟩,aC⟩⟩,XM.2 ⟨c,λa g=>(j a g).1⟩,Gd.node (λa g=>(j a g).2) aC⟩
theorem QM.on{n m0 vs}(x:QM n m0 m h v vs)(o:aZ m m' cb)(c:aJ m h cb)(le:PH.le h h'):QM n m0 m' h' v vs:=by
 have⟨w,j,d⟩:=x.jx;have⟨co,t,f⟩:=x.ak;have⟨on,u⟩:=x.ez;have⟨gr,y⟩:=x.az;have⟨od,g⟩:=x.bd;exact⟨⟨w,j.mono le,d⟩,⟨co,t.on o c bx,f⟩,⟨on,u.mono le⟩,⟨gr,y.mono le⟩,⟨od,g.mono le⟩,x.bf.on o c bx,x.len_,λv z=>let⟨q,e,ew⟩:=x.lg v z;⟨q,e.mono le,ew⟩⟩
theorem QM.new{d m0 vs t E j}(x:QM d m0 m h v vs)(n:vT m m' h' t E sz j)(le:PH.le h h'):QM d m0 m' h' v vs:=by
 have⟨w,o,c⟩:=x.jx;have⟨co,u,f⟩:=x.ak;have⟨on,y⟩:=x.ez;have⟨gr,z⟩:=x.az;have⟨od,g⟩:=x.bd;exact⟨⟨w,o.mono le,c⟩,⟨co,u.new n,f⟩,⟨on,y.mono le⟩,⟨gr,z.mono le⟩,⟨od,g.mono le⟩,x.bf.new n,x.len_,λv A=>let⟨q,e,ew⟩:=x.lg v A;⟨q,e.mono le,ew⟩⟩
theorem QM.grow{d:Nat}{m0:MH}{e:QV}{vs:ud}{j u}(x:QM d m0 m h v vs)(g:cL m m' v.args j 68 21 (vs.map QV.ag++[u.ag]))(k:dl m0 m cb)(c:aJ m h cb)(E:∃q,cQ h q u/\QA d q)(F:vs.length<=1)(o:e.ap=v.ap)(t:e.aa=v.aa)(y:∃l,l9 h e.on l)(z:∃l,an h e.be l)(A:∃l,lF h e.bh l)(B:e.args=j):QM d m0 m' h e (vs++[u]):=by
 have⟨co,C,f⟩:=x.ak;refine⟨by rw[o];exact x.jx,⟨co,by rw[t];exact C.apart x.bf g bx,f⟩,y,z,A,by rw[B,sn];exact x.bf.dr g k c,cv,λv D=>?_⟩;rcases mem_append.1 D with n|n
 .exact x.lg v n
 grind
theorem boZ(h:dO s=0):Gb s:=Classical.byContradiction λc=>by grind[Au]
theorem uY(h:dO s=0):pE s:=λt c=>by
 have⟨i,d⟩:=mem_iff_getElem?.1 c;have:=(boZ h).2 i t d;exact this.1
theorem xM(h:dO s=0):s.c.length<=8:=(boZ h).1
theorem Sx s ps q:(iG s ps q).1.length<=12:=by
 grind[iG,nY,EB]
theorem boJ{t:Int}(c:dO s=0)(f:ps.all eA=true)(g:0<=t)(j:t<s.c.length):(iG s ps (.mk 1 t jU [] [] [] [] 0 [])).2=0:=by
 have d:=uY c
 have n:(fC s t).length<=12:=by
  unfold fC;split
  .simp
  .split
   .simp
   .rename_i x e;have:=d x (si e);simp;omega
 have o:cX s ps (.mk 1 t jU [] [] [] [] 0 [])=lS s ps (.mk 1 t jU [] [] [] [] 0 []) [] []:=by simp[cX,gK,cm]
 have u:y9 (.mk 1 t jU [] [] [] [] 0 [])=true:=by rfl
 unfold iG;simp_all[lS,cm,gL,Ez]
structure Mid(m0:MH)(h3:PH)(cb:Nat)(a q:QV)(mx:MH):Prop where
 ej:aJ mx h3 cb
 ll:dl m0 mx cb
 ex:∃o args,q=⟨o,0,iD,bS,bS,bS,bS,0,args⟩/\fU m0 mx args 68 21 ([a].map QV.ag)
theorem Mid.qm{d m0 e c a q}(x:Mid m0 c cb a q e)(j:∃f,cQ c f a/\QA d f):QM d m0 e c q [a]:=by
 obtain⟨o,args,rfl,g⟩:=x.ex;exact⟨⟨_,Ge c,BN⟩,⟨[],fU.nil _ _ _ _,bu⟩,⟨_,AL _⟩,⟨_,uH _⟩,⟨_,AI _⟩,g,bu,λv n=>da⟩
theorem nz:∀N,uz 54 (blJ N)
 |0=>by
  refine gV func54 ?_;rintro c0 m h K⟨cb,sc,p,s,ps,A,rfl,_,_,_,_,_,_,_,_,_,hN,_⟩;omega
 |N+1=>by
  refine gV func54 ?_;rintro c0 m h K⟨cb,sc,p,s,ps,A,rfl,hc,hs,he,b',hp,a0,a7,d0,d1,hN,hK⟩;refine⟨f54_ctx N cb sc p,rfl,aD EP (aD jt (aD Kl (aD ph (aD kh (aD bTZ (aD ip (aD (nz N) aG))))))),lu N cb sc p A,bt,?_⟩;have f3:=hs.c.e;have h8:=uY he;have f4:=xM he;have f5:0<s.c.length:=length_pos_iff.2 b';have d':(if(sc.c.len:Int)>1 then(sc.c.len:Int)else 1)=(sc.c.len:Int):=by omega
  have d2:m cb≠none:=by have⟨cs,e⟩:=hc.cj;rw[e];simp
  dsimp only[lu,push_cast];rw[d'];refine⟨cb,12,rfl,hc,λk m1 k0 k1 o1 c1=>?_⟩;refine aE (λhd=>?_) (λhd=>aB (λ_=>?_) (λ_=>aB (λ_=>?_) (λ_=>?_)))
  .exact⟨cb,_,rfl,c1,λH m2 b0 d3 o2 c2=>⟨H,rfl,hK _ _ m2 h (.refl _) (zT h H) (GO H) (Gd.mono (d:=0) rV.scan (Nat.zero_le _)) (boJ he a7 b0 aC) (o1.trans o2) c2⟩⟩
  .exact⟨cb,_,rfl,c1,λH m2 b0 d3 o2 c2=>⟨H,rfl,hK _ _ m2 h (.refl _) (zT h H) (GO H) (Gd.mono (d:=0) rV.scan (Nat.zero_le _)) (boJ he a7 b0 aC) (o1.trans o2) c2⟩⟩
  .grind
  have d4:IntKind.i64.wrap (A-1)=A-1:=dW aC aC;have d5:IntKind.i64.wrap (A-2)=A-2:=dW aC aC;rw[d4];refine⟨cb,sc,p,s,ps,A-1,rfl,c1,hs,he,b',hp,a0,a7,aC,aC,aC,λa qa m2 h2 b1 ra b6 a3 d6 o2 c2=>⟨sc,p,a,s,ps,qa,rfl,hs.mono b1,hp.mono b1,ra,λkk h3 b3 ik=>?_⟩⟩;have d7:=Sx s ps qa;obtain⟨U,d8⟩:∃U,(A-1).toNat=U:=⟨_,rfl⟩
  have d9:A.toNat=U+1:=by omega
  rw[d8]at a3;have V:QA U qa:=⟨b6,a3.arg⟩
  generalize e':(iG s ps qa).fst=ks at ik d7;clear e';have B:PH.le h h3:=b1.trans b3;have W:cQ h3 qa a:=ra.mono b3;refine⟨λ⟨d,op,E,q,I,mx,J⟩=>d=A/\E=a/\I=kk/\J=h3/\Mid m h3 cb a q mx,λO m3 j=>⟨(A,IntKind.i64.wrap (1+k),a,⟨IntKind.i64.wrap (1+k),0,iD,bS,bS,bS,bS,0,O⟩,kk,m3,h3),⟨rfl,rfl,rfl,rfl,?_⟩,MT⟩,?_⟩
  .have H:=(dl.of o1).on o2;have c3:=c2.mono b3;exact⟨c3.br (vT.fh j c3) (.refl _),H.new j,_,_,rfl,vT.nh j H c3⟩
  rintro⟨A,op,E,q,I,mx,J⟩⟨rfl,rfl,rfl,rfl,y⟩;dsimp only;have F:∀(q:QV)(vs:ud)(C:MH)(D:PH),PH.le J D->dl m C cb->aJ C D cb->QM U m C D q vs->uP C D->PH.le J (kC m C D)/\aZ m (iX m C) cb/\aJ (iX m C) (kC m C D) cb/\∃qq,cQ (kC m C D) qq q/\QW qq/\Gd (U+1) qq:=λq vs C D l k c x d=>⟨l.trans (mU d),gv k,Kd c d2 d,x.ig d⟩
  have pg:∀(q:QV)(u:QV)(O:Sl)(C:MH)(D:PH)(Q:Sl->MH->Prop),PH.le J D->dl m C cb->aJ C D cb->QM U m C D q [E]->fU m C O 68 21 [u.ag]->(∃qu,cQ D qu u/\QA U qu)->
   (∀L m',(∀q':QV,q'.ap=q.ap->q'.aa=q.aa->(∃l,l9 D q'.on l)->(∃l,an D q'.be l)->(∃l,lF D q'.bh l)->q'.args=L->QM U m m' D q' [E,u])->dl m m' cb->aJ m' D cb->Q L m')->
   ∃xs,cH C ⟨q.args.a,q.args.len,q.args.cap⟩ 68 21 xs/\∃ys,dA 21 ys/\mH C D ⟨O.a,O.len,O.cap⟩ 21 ys/\(xs.length+ys.length)*280<=140737488355328/\xs.length+ys.length<=140737488355328/\∀(L:Sl)(m':MH),cL C m' ⟨q.args.a,q.args.len,q.args.cap⟩ L 68 21 (xs++ys)->Q L m':=
   λq u O C D Q l k c x f hu hQ=>⟨_,x.bf.row,[u.ag],Gh [u],cH.ko f.row,bu,bu,λL m' g=>hQ L m' (λq' e1 e2 e3 e4 e5 e6=>x.grow g k c hu bu e1 e2 e3 e4 e5 e6) (k.dr x.bf g) (c.br (cL.fh g x.bf c bx) (.refl _))⟩
  refine⟨λ⟨X,q,C,D⟩=>X=E/\PH.le J D/\aZ m C cb/\aJ C D cb/\∃qq,cQ D qq q/\QW qq/\Gd (U+1) qq,aB (λ_=>?_) (λ_=>?_),?_⟩
  ·
   refine⟨cb,3,rfl,y.ej,λn m3 n0 n1 o3 c3=>?_⟩;refine⟨λ⟨X,q,H,n,C,D⟩=>X=E/\H=I/\D=J/\ -1<=n/\n<=2/\aJ C J cb/\dl m C cb/\QM U m C J q [E]/\∃co:ti,fU m C q.aa 3 1 (co.map eI)/\(co.length:Int)<=2-n,λ⟨_,_,_,n,_,_⟩=>(n+1).toNat,⟨(E,q,I,n,m3,J),⟨rfl,rfl,rfl,aC,aC,c3,y.ll.on o3,(y.qm ⟨qa,W,V⟩).on o3 y.ej (.refl _),[],?_,cv⟩,MT⟩,?_⟩
   .obtain⟨o,args,rfl,hf⟩:=y.ex
    grind[fU.nil]
   clear y q c3 o3 m3 n0 n1 n;rintro⟨X,q,H,n,C,D⟩⟨rfl,rfl,rfl,n0,n1,cy,ky,qm,co,b7,f2⟩;dsimp only;refine aE (λhn=>⟨cb,_,rfl,cy,λc m4 _ _ o4 c4=>⟨_,(b7.on o4 cy bx).row,cv,cv,λL Y g=>?_⟩⟩) (λhn d=>⟨(X,q,iX m C,kC m C D),⟨rfl,F q _ C D (.refl _) ky cy qm d⟩,FT⟩);have P:=b7.on o4 cy bx;have q4:=qm.on o4 cy (.refl _);have k4:=ky.on o4;have a4:fU m Y L 3 1 ((co++[c]).map eI):=by rw[sn];exact P.dr g k4 c4
   have e0:IntKind.i64.wrap (n-1)=n-1:=dW aC aC;rw[e0];refine⟨(X,{q with aa:=L},H,n-1,Y,D),⟨rfl,rfl,rfl,da,da,c4.br (cL.fh g P c4 bx) (.refl _),k4.dr P g,⟨q4.jx,⟨_,a4,cv⟩,q4.ez,q4.az,q4.bd,q4.bf.apart P g bx,q4.len_,q4.lg⟩,_,a4,cv⟩,da,MT⟩
  .refine⟨λ⟨d,op,X,q,H,t,C,D⟩=>d=A/\X=E/\H=I/\D=J/\Mid m J cb E q C,aB (λ_=>⟨(A,op,E,q,I,true,mx,J),⟨rfl,rfl,rfl,rfl,y⟩,MT⟩) (λ_=>⟨(A,op,E,q,I,op==5,mx,J),⟨rfl,rfl,rfl,rfl,y⟩,MT⟩),?_⟩;clear y q mx;rintro⟨A,op,E,q,I,t,mx,J⟩⟨rfl,rfl,rfl,rfl,y⟩;dsimp only;refine aB (λ_=>?_) (λ_=>?_)
   ·
    rw[d5];refine⟨cb,sc,p,s,ps,A-2,rfl,y.ej,hs.mono B,he,b',hp.mono B,a0,a7,aC,aC,aC,λb qb Y R z rb b8 e7 _ o5 Z=>⟨sc,p,b,s,ps,qb,rfl,hs.mono (B.trans z),hp.mono (B.trans z),rb,λl h6 M il=>?_⟩⟩;have b9:QA U qb:=⟨b8,(e7.mono aC).arg⟩
    have e8:=Sx s ps qb;generalize f6:(iG s ps qb).fst=ls at il e8;have S:QM U m Y h6 q [E]:=(y.qm ⟨qa,W,V⟩).on o5 y.ej (z.trans M);have k6:=y.ll.on o5;have T:=Z.mono M;refine⟨λ⟨X,b2,q,H,l2,C,D⟩=>X=E/\b2=b/\H=I/\l2=l/\D=h6/\aJ C h6 cb/\dl m C cb/\QM U m C h6 q [E],aB (λ_=>aE (λ_=>⟨(E,b,{q with op:=5},I,l,Y,h6),⟨rfl,rfl,rfl,rfl,rfl,T,k6,⟨S.jx,S.ak,S.ez,S.az,S.bd,S.bf,S.len_,S.lg⟩⟩,MT⟩) (λ_=>⟨(E,b,q,I,l,Y,h6),⟨rfl,rfl,rfl,rfl,rfl,T,k6,S⟩,MT⟩)) (λ_=>⟨(E,b,q,I,l,Y,h6),⟨rfl,rfl,rfl,rfl,rfl,T,k6,S⟩,MT⟩),?_⟩;have c':=rb.mono M;have a1:PH.le J h6:=z.trans M;clear S k6 T o5 Z rb z y q;rintro⟨X,b,q,H,l,C,h6⟩⟨rfl,rfl,rfl,rfl,rfl,T,k6,S⟩;dsimp only;refine⟨⟨cb,H,l,ks,ls,rfl,T,ik.mono a1,il,aC,aC,λo on m7 h7 G b4 _ o7 c7 O m8 j=>?_⟩,λO m7 j=>⟨cb,H,l,ks,ls,rfl,T.br (vT.fh j T) (.refl _),ik.mono a1,il,aC,aC,λo on m8 h7 G b4 _ o8 c8=>?_⟩⟩
    .have k7:=k6.on o7;refine pg q b O m8 h7 _ (a1.trans G) (k7.new j) (c7.br (vT.fh j c7) (.refl _)) ((S.on o7 T G).new j (.refl _)) (vT.nh j k7 c7) ⟨qb,c'.mono G,b9⟩ (λL m9 hq k9 c9 d=>?_);exact⟨(X,{q with on:=o,args:=L},iX m m9,kC m m9 h7),⟨rfl,F _ _ m9 h7 (a1.trans G) k9 c9 (hq {q with on:=o,args:=L} rfl rfl ⟨on,b4⟩ (let⟨l,e⟩:=S.az;⟨l,e.mono G⟩) (let⟨l,e⟩:=S.bd;⟨l,e.mono G⟩) rfl) d⟩,FT⟩
    .have k7:=k6.new j;have c7:aJ m7 h6 cb:=T.br (vT.fh j T) (.refl _);have k8:=k7.on o8;refine pg q b O m8 h7 _ (a1.trans G) k8 c8 ((S.new j (.refl _)).on o8 c7 G) ((vT.nh j k6 T).on o8 c7 bx) ⟨qb,c'.mono G,b9⟩ (λL m9 hq k9 c9 d=>?_);exact⟨(X,{q with on:=o,args:=L},iX m m9,kC m m9 h7),⟨rfl,F _ _ m9 h7 (a1.trans G) k9 c9 (hq {q with on:=o,args:=L} rfl rfl ⟨on,b4⟩ (let⟨l,e⟩:=S.az;⟨l,e.mono G⟩) (let⟨l,e⟩:=S.bd;⟨l,e.mono G⟩) rfl) d⟩,FT⟩
   .refine⟨λ⟨op,X,q,H,t,C,D⟩=>X=E/\H=I/\D=J/\Mid m J cb E q C,aB (λ_=>⟨(op,E,q,I,true,mx,J),⟨rfl,rfl,rfl,y⟩,MT⟩) (λ_=>aB (λ_=>⟨(op,E,q,I,true,mx,J),⟨rfl,rfl,rfl,y⟩,MT⟩) (λ_=>⟨(op,E,q,I,op==8,mx,J),⟨rfl,rfl,rfl,y⟩,MT⟩)),?_⟩;clear y q mx;rintro⟨op,E,q,I,t,mx,J⟩⟨rfl,rfl,rfl,y⟩;dsimp only;have q3:=y.qm ⟨qa,W,V⟩;refine aB (λ_=>?_) (λ_=>aB (λ_=>?_) (λ_=>aB (λ_=>?_) (λ_=>?_)))
    ·
     refine⟨cb,sc,p,I,E,s,ps,ks,qa,rfl,y.ej,hs.mono B,h8,aC,hp.mono B,a0,ik,aC,W,V.1,λw qw Y R z e9 a5 o5 Z O m6 j=>?_⟩;have k5:=y.ll.on o5;refine pg q w O m6 R _ z (k5.new j) (Z.br (vT.fh j Z) (.refl _)) ((q3.on o5 y.ej z).new j (.refl _)) (vT.nh j k5 Z) ⟨qw,e9,a5.qw,a5.nn U a3⟩ (λL m9 hq k9 c9 d=>?_);have q5:=q3.on o5 y.ej z;exact⟨(E,{q with args:=L},iX m m9,kC m m9 R),⟨rfl,F _ _ m9 R z k9 c9 (hq {q with args:=L} rfl rfl q5.ez q5.az q5.bd rfl) d⟩,FT⟩
    ·
     obtain⟨o,args,rfl,hf⟩:=y.ex;refine⟨cb,⟨o,0,iD,bS,bS,bS,bS,0,args⟩,I,ks,rfl,y.ej,ik,aC,λg od kk gr a8 Y R z hg a9 _ _ _ _ o5 Z d=>?_⟩;have q5:=q3.on o5 y.ej z;exact⟨(E,⟨o,0,iD,bS,bS,g,od,kk,args⟩,iX m Y,kC m Y R),⟨rfl,F _ [E] Y R z (y.ll.on o5) Z ⟨q5.jx,q5.ak,q5.ez,⟨gr,hg⟩,⟨a8,a9⟩,q5.bf,q5.len_,q5.lg⟩ d⟩,FT⟩
    ·
     obtain⟨o,args,rfl,hf⟩:=y.ex;refine⟨cb,⟨o,0,iD,bS,bS,bS,bS,0,args⟩,I,ks,rfl,y.ej,ik,aC,λg od kk gr a8 Y R z hg a9 _ _ _ _ o5 Z=>?_⟩;have q5:=q3.on o5 y.ej z;have f':QM U m Y R ⟨o,0,iD,bS,bS,g,od,kk,args⟩ [E]:=⟨q5.jx,q5.ak,q5.ez,⟨gr,hg⟩,⟨a8,a9⟩,q5.bf,q5.len_,q5.lg⟩
     refine⟨cb,sc,p,I,E,s,ps,ks,qa,rfl,Z,hs.mono (B.trans z),h8,aC,hp.mono (B.trans z),a0,ik.mono z,aC,W.mono z,V.1,λw qw m6 h6 M f0 a5 o6 T O m7 j=>?_⟩;have k6:=(y.ll.on o5).on o6;refine pg ⟨o,0,iD,bS,bS,g,od,kk,args⟩ w O m7 h6 _ (z.trans M) (k6.new j) (T.br (vT.fh j T) (.refl _)) ((f'.on o6 Z M).new j (.refl _)) (vT.nh j k6 T) ⟨qw,f0,a5.qw,a5.nn U a3⟩ (λL m9 hq k9 c9 d=>?_);exact⟨(E,⟨o,0,iD,bS,bS,g,od,kk,L⟩,iX m m9,kC m m9 h6),⟨rfl,F _ _ m9 h6 (z.trans M) k9 c9 (hq ⟨o,0,iD,bS,bS,g,od,kk,L⟩ rfl rfl ⟨_,AL _⟩ ⟨gr,hg.mono M⟩ ⟨a8,a9.mono M⟩ rfl) d⟩,FT⟩
    ·
     refine⟨⟨cb,I,p,ks,ps,2,rfl,y.ej,ik,hp.mono B,aC,a0,aC,λpv pp Y R z rp b5 o5 Z O m6 j d=>?_⟩,λO Y j=>⟨cb,I,p,ks,ps,2,rfl,y.ej.br (vT.fh j y.ej) (.refl _),ik,hp.mono B,aC,a0,aC,λpv pp m6 R z rp b5 o6 T d=>?_⟩⟩
     .have k5:=y.ll.on o5;exact⟨(E,⟨2,0,pv,bS,bS,bS,bS,0,O⟩,iX m m6,kC m m6 R),⟨rfl,F _ [E] m6 R z (k5.new j) (Z.br (vT.fh j Z) (.refl _)) ⟨⟨pp,rp,b5.fk⟩,⟨[],fU.nil _ _ _ _,bu⟩,⟨_,AL _⟩,⟨_,uH _⟩,⟨_,AI _⟩,vT.nh j k5 Z,bu,λv hv=>by simp at hv;subst hv;exact⟨qa,W.mono z,V⟩⟩ d⟩,FT⟩
     .have k5:=y.ll.new j;have Z:aJ Y J cb:=y.ej.br (vT.fh j y.ej) (.refl _);exact⟨(E,⟨2,0,pv,bS,bS,bS,bS,0,O⟩,iX m m6,kC m m6 R),⟨rfl,F _ [E] m6 R z (k5.on o6) T ⟨⟨pp,rp,b5.fk⟩,⟨[],fU.nil _ _ _ _,bu⟩,⟨_,AL _⟩,⟨_,uH _⟩,⟨_,AI _⟩,(vT.nh j y.ll y.ej).on o6 Z bx,bu,λv hv=>by simp at hv;subst hv;exact⟨qa,W.mono z,V⟩⟩ d⟩,FT⟩
  .rintro⟨X,q,C,D⟩⟨rfl,a6,oy,cy,qq,rq,f1,f7⟩;dsimp only;refine⟨sc,p,q,s,ps,qq,rfl,hs.mono (B.trans a6),hp.mono (B.trans a6),rq,λsl R z _=>aB (λe=>?_) (λe=>?_)⟩
   .exact hK X qa C R ((B.trans a6).trans z) ((W.mono a6).mono z) V.1 (by rw[d9];exact a3.mono aC) d6 oy (cy.mono z)
   .exact hK q qq C R ((B.trans a6).trans z) (rq.mono z) f1 da (mp e) oy (cy.mono z)
mutual
def GK(st:List tj):ae->tj
 |.mk op ta w co on gr od li args=>if op=1 then st.getD ta.toNat []else ZK op (.mk op ta w co on gr od li args) (Zo st args)
def Zo(st:List tj):List ae->List tj
 |[]=>[]
 |q::qs=>GK st q::Zo st qs
end
structure Jc(st ls:List tj)(k:Nat)(ts:ti):Prop where
 y:∀j t,ts[j]?=some t->ls.getD (k+j) []=st.getD t.toNat []
theorem Jc.left{st ls k b}(x:Jc st ls k (a++b)):Jc st ls k a:=
 ⟨λj t h=>x.y j t da⟩
theorem Jc.right{st ls k b}(x:Jc st ls k (a++b)):Jc st ls (k+a.length) b:=
 ⟨λj t h=>by
  have:=x.y (a.length+j) t da
  grind⟩
theorem UR{args c}(d:gK s ps args=(c,0))(e:(c.length:Int)=cm 1):args=[]:=by
 cases args with
 |nil=>rfl
 |cons q qs=>obtain⟨_,_,_,_,rfl⟩:=sQ d;grind[cm]
mutual
theorem W2{s:kD}{ps:ti}{st ls:List tj}:∀{q:ae}{ks:ti}{k:Nat},cX s ps q=(ks,0)->Jc st ls k (fP q)->fO ls q k=(GK st q,k+(fP q).length)
 |.mk op ta w co on gr od li args,ks,k,h,c=>by
  have⟨g,f,j,o⟩:=AE h;by_cases e:op=1
  .subst e;have n:=UR f j;subst n;have d:fP (.mk 1 ta w co on gr od li [])=[ta]:=by simp[fP,fE]
   rw[d]at c⊢
   have:=c.y 0 ta rfl;rw[Nat.add_zero]at this;rw[fO,GK,if_pos rfl,if_pos rfl,this];rfl
  .have d:fP (.mk op ta w co on gr od li args)=fE args:=by simp[fP,e]
   rw[d]at c⊢
   rw[fO,GK,if_neg e,if_neg e,TP f c]
theorem TP{s:kD}{ps:ti}{st ls:List tj}:∀{qs:List ae}{c:List ti}{k:Nat},gK s ps qs=(c,0)->Jc st ls k (fE qs)->gJ ls qs k=(Zo st qs,k+(fE qs).length)
 |[],c,k,h,_=>by simp[gJ,Zo,fE]
 |q::qs,c,k,h,d=>by
  obtain⟨j,e,f,g,rfl⟩:=sQ h;rw[fE]at d;rw[gJ,Zo,fE,W2 f d.left,TP g d.right,sj,Nat.add_assoc]
end
mutual
theorem Mf{s:kD}{ps:ti}:∀{q:ae}{ks:ti},cX s ps q=(ks,0)->∀t∈fP q,0<=t/\t<s.c.length
 |.mk op ta w co on gr od li args,ks,h,t,c=>by
  have⟨e,f,g,j⟩:=AE h;rw[fP]at c;rcases mem_append.1 c with d|d
  .grind[lS,nY]
  .exact UO f t d
theorem UO{s:kD}{ps:ti}:∀{qs:List ae}{c:List ti},gK s ps qs=(c,0)->∀t∈fE qs,0<=t/\t<s.c.length
 |[],c,h,t,d=>by grind[fE]
 |q::qs,c,h,t,d=>by
  obtain⟨j,e,f,g,rfl⟩:=sQ h;rw[fE]at d;rcases mem_append.1 d with d|d
  .exact Mf f t d
  .exact UO g t d
end
def BX(key k:Int)(i:Nat)(v:VV):=lU v&&(v.kind==k||((v.kind==2||v.kind==1)&&decide (key<=(i:Int))))
def IT(t:xK)(r:to):=decide (r.length=t.aa.length)&&(List.range r.length).all λi=>BX t.key (t.aa.getD i ⟨⟨#[]⟩,0⟩).kind i (r.getD i al)
def eR(t:xK)(r:to):=r.take (max 0 (min t.key r.length)).toNat
def bnJ(t:xK)(l:tj):=(∀r∈l,IT t r=true)/\∀(i:Nat) r c,l[i]?=some r->l[i+1]?=some c->cV (eR t r) (eR t c)<0
def OJ(s:kD)(st:List tj):=∀(i:Nat) t l,s.c[i]?=some t->st[i]?=some l->bnJ t l
open Classical in
def pX(s:kD)(st:List tj):Int:=
 if dO s≠0 then dO s else if 512<(st.map λl=>(l.length:Int)).sum then 2 else if st.length≠s.c.length then 80 else if OJ s st then 0 else 80
def sd(st:List tj):=∀l∈st,∀r∈l,∀v∈r,KJ v.kind/\KJ v.int
def tK(t:xK)(key row:to):Bool->tj->tj
 |d,[]=>if d then[]else[row]
 |d,r::l=>(if 0<=cV (eR t r) key/\d=false then[row]else[])++((if cV (eR t r) key≠0 then[r]else[])++tK t key row (d||decide (0<=cV (eR t r) key)) l)
def KN(t:xK)(l:tj):=l.Pairwise λx y=>cV (eR t x) (eR t y)<0
theorem Ov{x y z}(c:cV x y<0)(d:cV y z<0):cV x z<0:=by
 grind[AG,Int.lt_or_eq_of_le,eX,lG]
theorem Mo{t:xK}{key row:to}:∀{l:tj},(∀r∈l,0<cV (eR t r) key)->tK t key row true l=l
 |[],_=>rfl
 |r::l,h=>by
  have d:=h r (mem_cons_self ..);rw[tK,if_neg bu,if_pos aC,Bool.true_or,Mo λx c=>h x (mem_cons_of_mem _ c)];rfl
theorem EY{t:xK}{key row z:to}:∀{l:tj}{d:Bool},z∈tK t key row d l->z=row\/z∈l
 |[],d,h=>by
  grind[tK]
 |r::l,d,h=>by
  rw[tK]at h;rcases mem_append.1 h with h|h
  .grind
  .rcases mem_append.1 h with h|h
   .grind
   .exact(EY h).imp id λh=>mem_cons_of_mem _ h
theorem Rq{t:xK}{key row:to}:∀{l:tj}{d:Bool},(tK t key row d l).length<=l.length+(if d then 0 else 1)
 |[],d=>by rw[tK];grind
 |r::l,d=>by
  have:=Rq (t:=t) (key:=key) (row:=row) (l:=l) (d:=d||decide (0<=cV (eR t r) key));rw[tK]
  grind
theorem Sy{t:xK}{row:to}:∀{l:tj},KN t l->KN t (tK t (eR t row) row false l)
 |[],_=>by rw[tK];exact pairwise_singleton _ _
 |r::l,h=>by
  have⟨n,g⟩:=pairwise_cons.1 h;rw[tK];by_cases d:0<=cV (eR t r) (eR t row)
  .rw[if_pos ⟨d,rfl⟩,show(false||decide (0<=cV (eR t r) (eR t row)))=true by simp[d]];by_cases f:cV (eR t r) (eR t row)=0
   .rw[if_neg (by simp[f])];have e:=eX.1 f
    rw[Mo λx c=>by
     grind[eR,lG]]
    exact pairwise_cons.2 ⟨λx c=>bz,g⟩
   .rw[if_pos f];have j:cV (eR t row) (eR t r)<0:=by grind[eR,lG]
    rw[Mo λx c=>by
     grind[eR,Ov,lG]]
    refine pairwise_cons.2 ⟨λx c=>?_,h⟩;rcases mem_cons.1 c with rfl|c
    .exact j
    .exact Ov j (n x c)
  .rw[if_neg (by simp[d]),if_pos aC,show(false||decide (0<=cV (eR t r) (eR t row)))=false by simp[d]];refine pairwise_cons.2 ⟨λx c=>?_,Sy g⟩;rcases EY c with rfl|c
   .omega
   grind
theorem Sk{st}(h:pX s st=0):dO s=0/\st.length=s.c.length/\OJ s st/\(st.map λl=>(l.length:Int)).sum<=512:=by
 grind[pX]
theorem cmQ{t x y}(h:x.length=y.length):(eR t x).length=(eR t y).length:=by simp[eR,h]
theorem cMJ{t x y}(h:x.length=y.length)(c:cV (eR t x) (eR t y)<0):cV x y<0:=by
 have d:x=eR t x++x.drop (max 0 (min t.key x.length)).toNat:=(take_append_drop _ _).symm;have e:y=eR t y++y.drop (max 0 (min t.key y.length)).toNat:=(take_append_drop _ _).symm;rw[d,e,Ow (cmQ h),if_pos aC];exact c
theorem KN.of{t:xK}:∀{l:tj},(∀(i:Nat) r c,l[i]?=some r->l[i+1]?=some c->cV (eR t r) (eR t c)<0)->KN t l
 |[],_=>List.Pairwise.nil
 |[_],_=>pairwise_singleton _ _
 |a::b::l,h=>by
  have e:KN t (b::l):=KN.of λi r c g j=>h (i+1) r c g j;refine pairwise_cons.2 ⟨λx d=>?_,e⟩;have f:=h 0 a b rfl rfl;rcases mem_cons.1 d with rfl|d
  .exact f
  .exact Ov f ((pairwise_cons.1 e).1 x d)
theorem KN.adj{t l}(h:KN t l) i r c(d:l[i]?=some r)(e:l[i+1]?=some c):cV (eR t r) (eR t c)<0:=by
 obtain⟨f,rfl⟩:=List.getElem?_eq_some_iff.1 d;obtain⟨g,rfl⟩:=List.getElem?_eq_some_iff.1 e;exact pairwise_iff_getElem.1 h i (i+1) f g aC
theorem ceZ{t:ByteArray}(h:t.toList=(⟨#[]⟩:ByteArray).toList):t.size<=64:=by rw[Ej h];decide
theorem Lk{t}(h:Iw t=true):t.size<=64:=ceZ (by simp_all[Iw,ByteArray.toList_eq])
theorem Y8{v}(h:lU v=true):v.text.size<=64:=by
 unfold lU at h;split at h
 .simp_all[Lk]
 .split at h
  .simp_all[Lk]
  grind[Lk]
theorem AK{s ps q}(h:(iG s ps q).2=0):dO s=0/\ps.all eA=true/\y9 q=true/\(cX s ps q).2=0:=by
 grind[iG,nY]
theorem Qm{v}(h:lU v=true):1<=v.kind/\v.kind<=5/\v.text.size<=64:=by
 grind[lU,Y8]
theorem N1{t r}(h:IT t r=true):r.length=t.aa.length/\∀v∈r,lU v=true:=by
 simp only[IT,su,s0,all_eq_true,mem_range]at h;refine⟨h.1,λv c=>?_⟩;obtain⟨i,d,rfl⟩:=mem_iff_getElem.1 c;simp_all[BX,getD_eq_getElem?_getD,Option.getD_some]
theorem c3Z{t l}(u:t.aa.length<=12)(c:bnJ t l)(g:∀r∈l,∀v∈r,KJ v.kind/\KJ v.int)(j:l.length<=8000000):lT t.aa.length l:=by
 have n:∀r∈l,r.length=t.aa.length:=λr d=>(N1 (c.1 r d)).1;refine⟨λr d=>⟨da,λv e=>?_⟩,n,?_,j⟩
 .have o:=(N1 (c.1 r d)).2 v e;have f:=g r d v e;exact⟨f.1,f.2,(Qm o).2.2⟩
 .exact(KN.of c.2).imp_of_mem fun{x y} e z h=>cMJ da h
def rU(st:List tj)(q:ae):=(fP q).map λt=>st.getD t.toNat []
theorem cfX{st}{t:Int}(c:pX s st=0)(j:sd st)(n:0<=t)(D:t<s.c.length):lT (fC s t).length (st.getD t.toNat [])/\st.getD t.toNat []∈st:=by
 have⟨o,E,u,F⟩:=Sk c;have f:t.toNat<s.c.length:=by omega
 have g:t.toNat<st.length:=by omega
 have y:s.c[t.toNat]?=some s.c[t.toNat]:=sh f;have z:st[t.toNat]?=some st[t.toNat]:=sh g;have A:st.getD t.toNat []=st[t.toNat]:=da
 have d:st[t.toNat]∈st:=getElem_mem g;have G:=uY o _ (getElem_mem f);have B:(fC s t).length=s.c[t.toNat].aa.length:=by simp_all[fC,if_neg]
 have e:∀{l:List tj}{x},x∈l->((x.length:Nat):Int)<=(l.map λl=>(l.length:Int)).sum:=fun{l x}=>by
  induction l with
  |nil=>grind
  |cons a l C=>
   intro h
   have n:∀l:List tj,0<=(l.map λl=>(l.length:Int)).sum:=λl=>by
    induction l with
    |nil=>simp
    |cons a l C=>grind
   grind
 have:=e d;rw[A,B];exact⟨c3Z aC (u _ _ _ y z) (j _ d) aC,d⟩
theorem XI{st ks c}(g:pX s st=0)(u:sd st)(z:∀l∈st,l.length<=c)(n:1<=c)(e:cX s ps q=(ks,0))(f:rE c q<=8000000):
 nf (rU st q) q 0/\(fO (rU st q) q 0).1=GK st q/\lT ks.length (GK st q)/\(GK st q).length<=8000000:=by
 have o:∀(j:Nat)(t:Int),(fP q)[j]?=some t->(rU st q)[0+j]?=some (st.getD t.toNat []):=λj t h=>by simp_all[rU,Nat.zero_add,getElem?_map]
 have x:=IV n (ls:=rU st q) (k:=0) e ⟨λj t h=>⟨_,o j t h,by
  grind[Mf,si,cfX]⟩⟩ f
 have y:=W2 (st:=st) (ls:=rU st q) (k:=0) e ⟨λj t h=>da⟩;have d:(fO (rU st q) q 0).1=GK st q:=by rw[y]
 refine⟨x.ok,d,by rw[<-d];exact x.rel,?_⟩;rw[<-d];exact tf x.rn f
def KH(s:Sl):CV:=.val (.agg ⟨[.slice s.a s.len s.cap]⟩)
def dEJ:AC:=λc m h K=>∃v s,c=[aS v,cI 3]/\dV h s v/\K (cI (dO s)) m h
def dQ(st:List tj):=(st.map λl=>(l.length:Int)).sum
def YO:AC:=λc m h K=>∃s d,c=[KH s]/\bm h s d/\d.length<=1000/\K (cI (dQ d)) m h
def bSZ s t r:=jE s t&&(match s.c[t.toNat]? with|some c=>IT c r|none=>false)
def jJ s t r:=match(if jE s t then s.c[t.toNat]? else none)with|some c=>eR c r|none=>[]
def dGQ:AC:=λc m h K=>∃v s t d r,c=[aS v,cI t,cS d,cI 3]/\dV h s v/\bF h d r/\K (cB (bSZ s t r)) m h
def KF:AC:=λc m h K=>∃v s t d r,c=[aS v,cI t,cS d]/\dV h s v/\bF h d r/\∀e,bF h e (jJ s t r)->K (cS e) m h
def Q9:AC:=λc m h K=>∃v s e d,c=[aS v,cI 3,KH e]/\dV h s v/\bm h e d/\d.length<=1000/\K (cI (pX s d)) m h
def cHZ:=dD [(113,cdQ),(114,LN)] [(7,{A:=Nat×cD×Sl×MH×PH,st:=λ⟨i,t,s,m,h⟩=>bO 95 99 ([(3,iv 3),SW 9]++WF 41 s i) [UV 9 74 t.ag] m h})] [(12,{A:=Nat×cD×VV×Sl×Bool×MH×PH,st:=λ⟨i,t,v,s,b,m,h⟩=>bO 95 99 ([(3,iv 3),SW 9,(10,iv i),SW 11,(12,bv b)]++WF 41 s i) [UV 9 74 t.ag,UV 11 58 v.ag] m h}),
 (13,{A:=Nat×cD×VV×Sl×Bool×Bool×MH×PH,st:=λ⟨i,t,v,s,b,c,m,h⟩=>bO 95 99 ([(3,iv 3),SW 9,(10,iv i),SW 11,(12,bv b),(13,bv c)]++WF 41 s i) [UV 9 74 t.ag,UV 11 58 v.ag] m h})] [] false
def bvQ s m h:=dD [] [(3,{A:=Nat×Int,st:=λ⟨i,n⟩=>bO 19 20 ([(3,iv n)]++WF 7 s i) [] m h})] [] [] false
def dgX(v:bQ)(s:Sl)(m:MH)(h:PH):=dD [(115,dEJ),(74,YO),(116,dGQ),(118,KF),(117,BJ)] [(9,{A:=Nat,st:=λi=>bO 69 72 ([(1,iv 3),SW 3]++WF 29 s i) [UV 3 29 v.ag] m h}),
 (12,{A:=Nat×Sl×Nat,st:=λ⟨i,u,j⟩=>bO 69 72 ([(1,iv 3),SW 3,(8,iv i),(9,sv u),(29,sv s),(30,iv s.len),(31,iv i)]++WF 36 u j) [UV 3 29 v.ag] m h})] [] [] false
def WN(v:bQ):ST:=λm h K=>Dx v h (λs=>cM (dO s) 0 (K (fD (dO s)) m h) (K (fD 0) m h))
def Oa(s:Sl):ST:=λm h K=>RH (λI x=>I x/\cG 0 x.2/\aH s/\aY s/\bX (bB x.1) m m h h) (λI d x=>I x->aX x.1 (aF s) (ab s x.1 1 aT m h (λy=>∃c,I c/\d c<d x/\cG (j6 x.2 (aF y)) c.2/\aH s/\aY s/\fI (bA x.1 1)=bR c.1/\m=m/\h=h/\True)) (K (fD x.2) m h))
abbrev sA(a:Nat×cD×Sl×MH×PH):=a.2.2
abbrev Aw a:=(sA a).1
abbrev Lo(a:Nat×cD×Sl×MH×PH):=a.2.1
abbrev JE(a:Nat×cD×VV×Sl×Bool×MH×PH->Prop)(b:Int)(c:Nat×cD×Sl×MH×PH)(d e:(Nat×cD×VV×Sl×Bool×MH×PH)->Prop):=∃x,a x/\bM b/\eP 9/\bP c.1 x.1/\nF/\d x/\bC (Aw c) x.2.2.2.1/\cT (Aw c) x.2.2.2.1/\e x
abbrev Nj(a:Nat)(b:cD)(c:Bool):=kJ (decide (a>=b.key)) c
abbrev HF(a:Nat×cD×VV×Sl×Bool×MH×PH):=a.2.2.2.2.1
abbrev NO(a:Nat×cD×VV×Sl×Bool×MH×PH):=a.2.2.2.2.2
abbrev JS(a:Nat×cD×Sl×MH×PH)(b:Nat×cD×VV×Sl×Bool×MH×PH)(c:Prop)(d:VV):=bP a.1 b.1/\c/\oQ 58 (List.map At.val d.ag)=oQ 58 (List.map At.val b.2.2.1.ag)/\fX (gX (sA a)) (NO b)/\fQ (gT (sA a)) (NO b)
abbrev JR(a:Nat×cD×Sl×MH×PH)(b:Nat×cD×VV×Sl×Bool×MH×PH):=oQ 74 (jR (Lo a))=oQ 74 (jR b.2.1)
abbrev JF(a:Nat×cD×VV×Sl×Bool×Bool×MH×PH->Prop)(b:Nat×cD×VV×Sl×Bool×Bool×MH×PH)(c:Int)(d:Nat×cD×VV×Sl×Bool×MH×PH)(e g:Prop):=a b/\bM c/\eP 9/\bP d.1 b.1/\nF/\kJ (HF d) b.2.2.2.2.1/\e/\bC d.2.2.2.1 b.2.2.2.1/\g
abbrev Fo(a:Nat×cD×VV×Sl×Bool×Bool×MH×PH):=a.2.2.2.2.2.1
abbrev BQ(a:Nat×cD×VV×Sl×Bool×Bool×MH×PH):=a.2.2.2.2.2.2
abbrev JU a b c:=cT a.2.2.2.1 b.2.2.2.1/\bP a.1 b.1/\c/\oQ 58 (List.map At.val a.2.2.1.ag)=oQ 58 (List.map At.val b.2.2.1.ag)/\eV (fX (NO a).1 (BQ b)) (dH (NO a).2 (BQ b))
abbrev Ln(a:Nat×cD×VV×Sl×Bool×Bool×MH×PH):=a.2.1
abbrev JT(a:Nat×cD×VV×Sl×Bool×MH×PH)(b:Nat×cD×VV×Sl×Bool×Bool×MH×PH):=oQ 74 (jR a.2.1)=oQ 74 (jR (Ln b))
abbrev SM(a:Bool)(b:Prop)(c:(Nat×cD×Sl×MH×PH)->Prop):=cC a b (∃x,c x)
abbrev G6(a:Nat×cD×Sl×MH×PH->Prop)(b:Nat×cD×Sl×MH×PH)(c:Nat×cD×Sl×MH×PH->Nat)(d:Nat)(e:Int)(g:Nat×cD×VV×Sl×Bool×Bool×MH×PH)(i j:Prop):=a b/\c b<d/\bM e/\eP 9/\bC g.2.2.2.1 (Aw b)/\cT g.2.2.2.1 (Aw b)/\fI (bA g.1 1)=bR b.1/\i/\j
abbrev Hp a b:=oQ 74 (jR (Ln a))=oQ 74 (jR (Lo b))
abbrev Hq a b:=eV (iU (BQ a).1 (sA b)) (dH (BQ a).2 (sA b).2)
abbrev oL a:=mX (aT a)
abbrev Bw(a:List tj):=qL a.length
abbrev RM(a:(Nat×Sl×Nat->Prop)->(Nat×Sl×Nat)->Prop)(b:(Nat×Sl×Nat->Prop)->(Nat×Sl×Nat->Nat)->(Nat×Sl×Nat)->Prop):=∃x d,(∃c,a x c)/\∀c,b x d c
abbrev iO(a:Nat×Sl×Nat):=a.2.1
abbrev kG(a:Nat×Sl×Nat):=a.2.2
abbrev jO a b:=fD a::b
abbrev iV a b:=nN (fD a) (tV b)
abbrev Dr(a:bQ)(b:uc)(c:PH)(d:Sl->Prop):=wT (λx e f=>nZ (λg j=>bE (cW a) b=bE (cW x) (iV f g)/\dV c e x/\bF c g j/\∀n,bF c n (jJ e f j)->d n))
abbrev MK(a:Nat×Sl×Nat->Prop)(b:Nat×Sl×Nat->Nat)(c:Nat×Sl×Nat)(d:Int)(e:Sl)(g:(Nat×Sl×Nat)->Prop):=∃x,a x/\b x<b c/\bM d/\cR/\bP c.1 x.1/\bC (iO c) (iO x)/\aH e/\aY e/\g x
attribute [push_cast] sA Aw Lo JE Nj HF NO JS JR JF Fo BQ JU Ln JT SM G6 Hp Hq oL Bw RM iO kG jO iV Dr MK
def WM(v:bQ)(t:Int)(s:Sl):ST:=λm h K=>E7 v t h (λC D=>cC (jE C D) (K bH m h) (aM (λb o=>aR (kI v) b o/\0<=t/\t<aF v.c/\∃y,aK m h b (dN o t 5) (Af y)/\cM (aF s) (Ap y) (K bH m h) (∃I f,(∃x,I x/\bM 3/\eP 9/\bC s (Aw x)/\cT s (Aw x)/\bB x.1/\oQ 74 (jR y)=oQ 74 (jR (Lo x))/\iU m (sA x)/\fQ h (sA x).2)/\∀x,I x->aX x.1 (aF (Aw x)) (aM (λj n=>aR (Aw x).a j n/\0<=(↑x.1:Int)/\x.1<aF (Aw x)/\∃g,aK (gX (sA x)) (gT (sA x)) j (bI n x.1 3) g.ag/\∃u,eO (iE g) (iE u)/\cC (lU u) (K bH (gX (sA x)) (gT (sA x))) (∃I1,dP g.kind 2 (JE I1 3 x (λd=>Nj x.1 (Lo x) (HF d)) (λd=>JS x d (JR x d) g)) (JE I1 3 x (λd=>A7 (HF d)) (λd=>JS x d (JR x d) g))/\∀d,I1 d->∃I2,dP d.2.2.1.kind 1 (∃c,JF I2 c 3 d (Nj d.1 d.2.1 (Fo c)) (JU d c (JT d c))) (∃c,JF I2 c 3 d (A7 (Fo c)) (JU d c (JT d c)))/\∀c,I2 c->aM (λz A=>aR (Ln c).aa.a z A/\0<=(↑c.1:Int)/\c.1<aF (Ln c).aa/\∃B,let E:=λe=>G6 I e f (f x) 3 c (Hp c e) (Hq c e);aK (BQ c).1 (BQ c).2 z (dG (bI A c.1 2)) (bV B)/\cM c.2.2.1.kind B (SM c.2.2.2.2.1 (SM (Fo c) (K bH (BQ c).1 (BQ c).2) E) E) (∃e,G6 I e f (f x) 3 c (Hp c e) (Hq c e)))))) (K eE (gX (sA x)) (gT (sA x)))))))
def WL(v:bQ)(t:Int)(s:Sl):ST:=λm h K=>aX t 0 (K EO m h) (iA t (iS v) (K EO m h) (aM (λb o=>aR (kI v) b o/\0<=t/\t<aF v.c/\∃y,let A:=ite (ite (aF s<y) (aF s) y>0) (ite (aF s<y) (aF s) y) 0;aK m h b (dN o t 5+2) (bV y)/\0<=ite (ite (aF s<y) (aF s) y>0) (ite (aF s<y) (aF s) y) 0/\xB A s/\K (Er s.a A.toNat s.cap) m h)))
def aeJ(v:bQ)(s:Sl):ST:=λm h K=>CN (λz j=>dZ (jS v) 3=dZ (jS z) 3/\dV h j z/\cM (dO j) 0 (K (fD (dO j)) m h) (xQ (λA n=>eO (oL s) (oL A)/\bm h A n/\Bw n/\dJ (decide (dQ n>512)) (K (fD 2) m h) (aF s !=iS v) (K (fD 80) m h) (mF (λI x=>I x/\bM 3/\eP 3/\aH s/\aY s/\bB x/\aW v/\m=m/\dC h h) (λI B x=>I x->aX x (aF s) (ab s x 1 aT m h (λy=>RM (λI1 c=>I1 c/\bM 3/\eP 3/\bP x c.1/\bC y (iO c)/\aH s/\aY s/\bP x c.1/\bC y (iO c)/\cT y (iO c)/\bB (kG c)/\aW v/\eV (m=m) (h=h)) (λI1 C c=>I1 c->aX (↑(kG c):Int) (aF (iO c)) (aM (λD E=>aR (iO c).a D E/\0<=(↑(kG c):Int)/\(↑(kG c):Int)<aF (iO c)/\∃u,aK m h D (bI E (kG c) 1) (aT u)/\wT (λF G t=>nZ (λH r=>let N:=MK I1 C c 3 s (λd=>bP c.1 d.1/\bC (iO c) (iO d)/\cT (iO c) (iO d)/\fI (bA (kG c) 1)=bR (kG d)/\bX (aW v) m m h h);bE (cW v) (jO c.1 (fB u 3))=bE (cW F) (jO t (fB H 3))/\dV h G F/\bF h H r/\wQ (!(bSZ G t r)) (K (fD 80) m h) (↑(kG c):Int) 0 (aM (λe f=>aR (iO c).a e f/\0<=jZ (kG c)/\jZ (kG c)<aF (iO c)/\∃g,aK m h e (dN f (jZ (kG c)) 1) (aT g)/\Dr v (iV c.1 g) h (λJ=>bJ h e (dN f (jZ (kG c)) 1) (aT g)/\Dr v (iV c.1 u) h (λL=>bJ h e (dN f (jZ (kG c)) 1) (aT g)/\rG J L h (λa M=>iA (cV a M) 0 (K (fD 80) m h) N))))) N)))) (∃d,I d/\B d<B x/\bM 3/\cR/\aH s/\aY s/\fI (bA c.1 1)=bR d/\aW v/\gM m m h h)))) (K (fD 0) m h))))))
theorem bF.cut{h a len cap r}(x:bF h ⟨a,len,cap⟩ r){n}(e:n<=r.length):bF h ⟨a,n,cap⟩ (r.take n):=by
 obtain⟨⟨c,d,f,g⟩,j⟩:=x;refine⟨⟨c.take n,by rw[map_take];exact bT.cut d n da,da,λi x o=>?_⟩,da⟩
 grind
theorem duJ{v}(d:dV h s v)(c:K (cI (dO s)) m h):WN v m h K:=
 ⟨v,s,rfl,d,aB (λ_=>c) (λe=>by rw[show dO s=0 by simpa using e]at c;exact c)⟩
theorem bdX:uz 115 dEJ:=by
 refine gV func115 ?_;rintro c m h K⟨v,s,rfl,d,e⟩;refine⟨WP [(66,yY)],rfl,aD Kk aG,WN v,bt,?_⟩;exact duJ d e
theorem bm.lens{s st}(c:bm h s st){l}(d:l∈st):l.length<=502633886983:=by
 obtain⟨i,e,rfl⟩:=mem_iff_getElem.1 d;have⟨_,_,_,_,_,f⟩:=aU.at c (sh e);exact f.len
theorem uT:∀{l:List tj},(∀x∈l,x.length<=502633886983)->0<=dQ l/\dQ l<=(l.length:Int)*502633886983
 |[],_=>by simp[dQ]
 |a::l,h=>by
  have d:=h a (mem_cons_self ..);have e:=uT (l:=l) λx c=>h x (mem_cons_of_mem _ c)
  grind[dQ,te]
theorem HW{st:List tj}{l}(h:st[i]?=some l):dQ (st.take (i+1))=dQ (st.take i)+(l.length:Int):=by
 grind[dQ,sy]
theorem Vi:uz 74 YO:=by
 refine gV func74 ?_;rintro y m h K⟨s,c,rfl,f,I,A⟩;refine⟨bvQ s m h,rfl,aG,Oa s,bt,?_⟩;dsimp only[Oa,push_cast];have g:=aU.e f;refine⟨λz=>z.1<=c.length/\z.2=dQ (c.take z.1),λz=>c.length-z.1,⟨(0,0),⟨bu,by simp[dQ]⟩,MT⟩,?_⟩;rintro⟨i,n⟩⟨B,e⟩;dsimp only at B e⊢
 subst e;refine aE (λj=>?_) (λC=>?_)
 .have⟨l,d⟩:=eF g j;have⟨b,o,u,D,rd,E⟩:=aU.at f d;have t:=aU.e E;have F:=uT (l:=c.take (i+1)) λx d=>f.lens (mem_of_mem_take d);have G:=(uT (l:=c.take i) λx d=>f.lens (mem_of_mem_take d)).1;have H:=HW d;rw[length_take]at F;refine⟨b,o,D,aC,aC,u,.ay rd,(i+1,dQ (c.take (i+1))),⟨aC,rfl⟩,aC,?_⟩;rw[dW aC aC,t,<-H];exact MT
 .rw[sm aC];exact A
theorem CR{t r}:IT t r=true↔r.length=t.aa.length/\∀i,i<r.length->BX t.key (t.aa.getD i ⟨⟨#[]⟩,0⟩).kind i (r.getD i al)=true:=by
 simp_all[IT,all_eq_true,mem_range]
theorem Z9{t r tb}(c:s.c[t.toNat]?=some tb)(h:jE s t=true):bSZ s t r=IT tb r:=by
 simp_all[bSZ,Bool.true_and]
theorem bdQ:uz 116 dGQ:=by
 refine gV func116 ?_;rintro a' m h K⟨v,s,t,J,r,rfl,L,M,C⟩;refine⟨cHZ,rfl,aD EF (aD Lz aG),WM v t J,bt,?_⟩;dsimp only[WM,push_cast];have a0:=L.c.e;have a1:=aU.e M;refine⟨v,s,t,rfl,L,aB (λe=>?_) (λe=>?_)⟩
 .have e:jE s t=false:=mp e
  simp only[bSZ,e,Bool.false_and]at C;exact C
 have e:jE s t=true:=mp e
 have Z:=e;simp only[jE,su,s0]at Z;obtain⟨d,E⟩:∃d,s.c[t.toNat]?=some d:=⟨_,sh aC⟩
 have⟨b,o,y,ea,rd,O⟩:=aU.at L.c E;rw[Z9 E e]at C;have a2:=aU.e O.aa;have hk:=O.key;refine⟨b,o,ea,Z.1,aC,y,.ay rd,aB (λG=>?_) (λG=>?_)⟩
 .have:IT d r=false:=by
   grind[IT,CR]
  rw[this]at C;exact C
 have P:r.length=d.aa.length:=da
 have Q:∀i,i<r.length->BX d.key (d.aa.getD i ⟨⟨#[]⟩,0⟩).kind i (r.getD i al)=false->K (cB false) m h:=λi hi R=>by
  grind[IT,CR]
 refine⟨λz=>z.2.1=y/\z.2.2.1=J/\z.2.2.2.1=m/\z.2.2.2.2=h/\z.1<=r.length/\∀j,j<z.1->BX d.key (d.aa.getD j ⟨⟨#[]⟩,0⟩).kind j (r.getD j al)=true,λz=>r.length-z.1,⟨(0,y,J,m,h),⟨rfl,rfl,rfl,rfl,bu,λj S=>by simp at S⟩,MT⟩,?_⟩;rintro⟨i,g,A,m',h'⟩⟨G,u,H,I,hi,B⟩;dsimp only at G u H I hi B⊢
 subst G u H I;refine aE (λa3=>?_) (λa4=>?_)
 .have T:i<r.length:=by omega
  have hx:r[i]?=some (r.getD i al):=da
  have⟨b2,o2,x,U,F,V⟩:=aU.at M hx;subst V;have hc:d.aa[i]?=some (d.aa.getD i ⟨⟨#[]⟩,0⟩):=da
  have⟨b3,o3,c,W,X,Y⟩:=aU.at O.aa hc;have f:=Q i T
  have n:BX d.key (d.aa.getD i ⟨⟨#[]⟩,0⟩).kind i (r.getD i al)=true->∀j,j<i+1->BX d.key (d.aa.getD j ⟨⟨#[]⟩,0⟩).kind j (r.getD j al)=true:=λR j S=>by
   grind
  generalize r.getD i al=x at f n F hx;rw[Y]at f n;have go:BX d.key c.kind i x=true->∃z:Nat×cD×Sl×MH×PH,(z.2.1=g/\z.2.2.1=A/\z.2.2.2.1=m'/\z.2.2.2.2=h'/\z.1<=r.length/\∀j,j<z.1->BX d.key (d.aa.getD j ⟨⟨#[]⟩,0⟩).kind j (r.getD j al)=true)/\r.length-z.1<r.length-i/\z=(i+1,g,A,m',h'):=λR=>⟨_,⟨rfl,rfl,rfl,rfl,aC,n R⟩,aC,rfl⟩
  refine⟨b2,o2,U,aC,aC,x,.ay F,x,rfl,aB (λev=>f ?_) (λev=>?_)⟩
  .grind[lU,BX]
  have ev:lU x=true:=da
  refine⟨λz=>z=(i,g,x,A,(x.kind==2&&decide ((i:Int)>=g.key)),m',h'),aB (λu=>⟨_,rfl,by rw[u];exact MT⟩) (λu=>⟨_,rfl,by rw[u];exact MT⟩),?_⟩;rintro _ rfl;dsimp only;refine⟨λz=>z=(i,g,x,A,(x.kind==2&&decide ((i:Int)>=g.key)),(x.kind==1&&decide ((i:Int)>=g.key)),m',h'),aB (λu=>⟨_,rfl,by rw[u];exact MT⟩) (λu=>⟨_,rfl,by rw[u];exact MT⟩),?_⟩;rintro _ rfl;dsimp only
  have D:BX d.key c.kind i x=(x.kind==c.kind||((x.kind==2&&decide ((i:Int)>=g.key))||(x.kind==1&&decide ((i:Int)>=g.key)))):=by
   simp_all[BX,Bool.true_and,ge_iff_le,Bool.and_or_distrib_right]
  generalize a5:(x.kind==2&&decide ((i:Int)>=g.key))=B1 at D⊢
  generalize a6:(x.kind==1&&decide ((i:Int)>=g.key))=B2 at D⊢
  refine⟨b3,o3,W,aC,aC,c.kind,.ay (bJ.part X 1 1),aB (λH=>aB (λI=>aB (λe5=>f ?_) (λe5=>?_)) (λI=>?_)) (λH=>?_)⟩
  .grind
  all_goals
   obtain⟨_,g1,g2,rfl⟩:=go (by rw[D];simp_all);refine⟨_,g1,g2,?_⟩;dsimp only;rw[fH (by have:=aU.len M;omega)];exact MT
 .have:IT d r=true:=CR.2 ⟨P,λj S=>B j aC⟩;rw[this]at C;exact C
theorem EE:uz 118 KF:=by
 refine gV func118 ?_;rintro D m h K⟨v,s,t,z,r,rfl,A,n,B⟩;refine⟨WP [],rfl,aG,WL v t z,bt,?_⟩;dsimp only[WL,push_cast];have E:=A.c.e;have d:=aU.e n;have c:jE s t=false->K EO m h:=λe=>B ⟨none,0,0⟩ (by simp only[jJ,e];exact aU.nil _ _ _ _);refine aE (λF=>c (by simp[jE];omega)) (λF=>aE (λG=>c (by simp[jE];omega)) (λG=>?_));have e:jE s t=true:=by simp[jE];omega
 obtain⟨f,g⟩:∃f,s.c[t.toNat]?=some f:=⟨_,sh aC⟩
 have⟨b,o,y,H,rd,I⟩:=aU.at A.c g;have M:=I.key;obtain⟨a,len,j⟩:=z;have C:len<=j:=by have⟨O,J,_⟩:=n.ex;exact J.cap
 have d:len=r.length:=d
 have u:(if(if(len:Int)<y.key then(len:Int)else y.key)>0 then(if(len:Int)<y.key then(len:Int)else y.key)else 0)=max 0 (min f.key r.length):=by
  omega
 refine⟨b,o,H,aC,aC,y.key,.ay (bJ.part rd 2 1),?_⟩;dsimp only;rw[u];refine⟨aC,aC,B ⟨a,(max 0 (min f.key r.length)).toNat,j⟩ ?_⟩;have L:jJ s t r=r.take (max 0 (min f.key r.length)).toNat:=by simp only[jJ,e,if_true,g];rfl
 rw[L];exact n.cut aC
theorem pA{t:Nat}{tb}(h:s.c[t]?=some tb) r:jJ s t r=eR tb r:=by
 grind[jE,jJ]
theorem btJ{t:Nat}{tb}(h:s.c[t]?=some tb) r:bSZ s t r=IT tb r:=by
 grind[jE,List.getElem?_eq_some_iff,Z9]
theorem bZQ:uz 72 Q9:=by
 refine gV func72 ?_;rintro b' m h K⟨v,s,W,G,rfl,J,X,Y,d⟩;refine⟨dgX v W m h,rfl,aD bdX (aD Vi (aD bdQ (aD EE (aD xT aG)))),aeJ v W,bt,?_⟩;dsimp only[aeJ,push_cast];have b0:=J.c.e;have Z:=aU.e X;unfold pX at d;refine⟨v,s,rfl,J,aB (λe=>?_) (λe=>⟨W,G,rfl,X,Y,aE (λL=>?_) (λL=>aB (λe3=>?_) (λe3=>?_))⟩)⟩
 .rw[if_pos (mp e)]at d;exact d
 all_goals rw[if_neg (mp e)]at d
 .rw[if_pos (by grind[dQ])]at d;exact d
 all_goals rw[if_neg (by unfold dQ at L;omega)]at d
 .rw[if_pos da]at d;exact d
 have M:G.length=s.c.length:=da
 rw[if_neg (by simp[M])]at d;have a':¬OJ s G->K (cI 80) m h:=λhb=>da
 refine⟨λi=>i<=G.length/\∀(j:Nat) t l,j<i->s.c[j]?=some t->G[j]?=some l->bnJ t l,λi=>G.length-i,⟨0,⟨bu,λj t l hj=>by omega⟩,MT⟩,?_⟩;rintro i⟨hi,O⟩;refine aE (λa0=>?_) (λb1=>?_)
 .have⟨l,hx⟩:=eF Z a0;have⟨b,o,u,ea,rd,H⟩:=aU.at X hx;have a1:=aU.e H;have b4:=aU.len H;obtain⟨y,c⟩:∃y,s.c[i]?=some y:=⟨_,sh aC⟩
  have A:¬bnJ y l->K (cI 80) m h:=λhb=>a' λf=>hb (f i y l c hx);refine⟨b,o,ea,aC,aC,u,.ay rd,λz=>z.1=i/\z.2.1=u/\z.2.2<=l.length/\(∀k r,k<z.2.2->l[k]?=some r->IT y r=true)/\∀k r I,k+1<z.2.2->l[k]?=some r->l[k+1]?=some I->cV (eR y r) (eR y I)<0,λz=>l.length-z.2.2,⟨(i,u,0),⟨rfl,rfl,bu,λk r D=>by simp at D,λk r I D=>by simp at D⟩,MT⟩,?_⟩;rintro⟨E,u',j⟩⟨e1,L,hj,B,C⟩;dsimp only at e1 L hj B C⊢
  subst e1 L;refine aE (λP=>?_) (λa9=>?_)
  .have⟨r,Q⟩:=eF a1 P;have⟨b2,o2,w,a2,a3,hv⟩:=aU.at H Q;refine⟨b2,o2,a2,aC,aC,w,.ay a3,v,s,E,w,r,rfl,J,hv,aB (λef=>A λf=>?_) (λef=>?_)⟩
   .rw[btJ c,f.1 r (si Q)]at ef;cases ef
   have hf:IT y r=true:=by grind[btJ]
   have g:∀k r,k<j+1->l[k]?=some r->IT y r=true:=λk I D b5=>by
    grind
   refine aE (λa4=>?_) (λa4=>?_)
   .have hw:IntKind.i64.wrap ((j:Int)-1)=((j-1:Nat):Int):=by grind[dW]
    obtain⟨V,R⟩:∃V,l[j-1]?=some V:=⟨_,sh aC⟩
    have⟨b3,o3,w3,a5,F,a6⟩:=aU.at H R;rw[hw];refine⟨b3,o3,a5,aC,aC,w3,.ay F,v,s,E,w3,V,rfl,J,a6,λs1 a7=>⟨F,v,s,E,w,r,rfl,J,hv,λs2 a8=>⟨F,s1,s2,_,_,rfl,a7,a8,aE (λhc=>A λf=>?_) (λhc=>?_)⟩⟩⟩
    .rw[pA c,pA c]at hc;have:=f.2 (j-1) V r R da;omega
    .rw[pA c,pA c]at hc;refine⟨(E,u',j+1),⟨rfl,rfl,da,g,λk r1 r2 D S T=>?_⟩,da,?_⟩
     .grind
     .dsimp only;rw[fH aC];exact MT
   .refine⟨(E,u',j+1),⟨rfl,rfl,da,g,λk r1 r2 D S T=>da⟩,da,?_⟩;dsimp only;rw[fH aC];exact MT
  .refine⟨E+1,⟨aC,λk t l' D ht U=>?_⟩,aC,?_⟩
   .by_cases e5:k=E
    .subst e5;rw[c]at ht;cases ht;rw[hx]at U;cases U;refine⟨λr H=>?_,λk r I S T=>C k r I ?_ S T⟩
     .obtain⟨n,Y,rfl⟩:=mem_iff_getElem.1 H;exact B n _ aC (sh Y)
     grind
    grind
   .rw[fH aC];exact MT
 .rw[if_pos]at d
  .exact d
  .exactλj t l S T=>O j t l da S T
def xJ(c key k:Int)(i:Nat)(v:VV):=lU v&&(v.kind==k||(((v.kind==2&&c !=1)||(v.kind==1&&c==3))&&decide (key<=(i:Int))))
def qO(c:Int)(t:xK)(r:to):=decide (r.length=t.aa.length)&&(List.range r.length).all λi=>xJ c t.key (t.aa.getD i ⟨⟨#[]⟩,0⟩).kind i (r.getD i al)
def Sg(d:Int)(t:xK)(l:tj):=(∀r∈l,qO d t r=true)/\∀(i:Nat) r c,l[i]?=some r->l[i+1]?=some c->cV (eR t r) (eR t c)<0
def L5(c:Int)(s:kD)(st:List tj):=∀(i:Nat) t l,s.c[i]?=some t->st[i]?=some l->Sg c t l
open Classical in
def nC(c:Int)(s:kD)(st:List tj):Int:=
 if dO s≠0 then dO s else if 512<(st.map λl=>(l.length:Int)).sum then 2 else if st.length≠s.c.length then 80 else if L5 c s st then 0 else 80
def l8 c s t r:=jE s t&&(match s.c[t.toNat]? with|some d=>qO c d r|none=>false)
def dFQ:AC:=λc m h K=>∃v s d,c=[aS v,cI d]/\dV h s v/\1<=d/\d<=3/\K (cI (dO s)) m h
def cXX:AC:=λd m h K=>∃v s t e r c,d=[aS v,cI t,cS e,cI c]/\dV h s v/\bF h e r/\1<=c/\c<=3/\K (cB (l8 c s t r)) m h
def Ra:AC:=λd m h K=>∃v s f e c,d=[aS v,cI c,KH f]/\dV h s v/\bm h f e/\e.length<=1000/\1<=c/\c<=3/\K (cI (nC c s e)) m h
def b9X(d:Int)(v:bQ)(t:Int)(s:Sl)(m:MH)(h:PH):=dD [(113,cdQ),(114,LN)] [(7,{A:=Nat×cD×Sl×MH×PH,st:=λ⟨i,t,s,m,h⟩=>bO 95 99 ([(3,iv d),SW 9]++WF 41 s i) [UV 9 74 t.ag] m h})] [(3,{A:=Unit,st:=λ_=>bO 95 99 [(1,iv t),(2,sv s),(3,iv d),SW 4] [UV 4 29 v.ag] m h}),
 (12,{A:=Nat×cD×VV×Sl×Bool×MH×PH,st:=λ⟨i,t,v,s,b,m,h⟩=>bO 95 99 ([(3,iv d),SW 9,(10,iv i),SW 11,(12,bv b)]++WF 41 s i) [UV 9 74 t.ag,UV 11 58 v.ag] m h}),
 (13,{A:=Nat×cD×VV×Sl×Bool×Bool×MH×PH,st:=λ⟨i,t,v,s,b,c,m,h⟩=>bO 95 99 ([(3,iv d),SW 9,(10,iv i),SW 11,(12,bv b),(13,bv c)]++WF 41 s i) [UV 9 74 t.ag,UV 11 58 v.ag] m h})] [] false
def cqQ(c:Int)(v:bQ)(s:Sl)(m:MH)(h:PH):=dD [(115,dFQ),(74,YO),(116,cXX),(118,KF),(117,BJ)] [(9,{A:=Nat,st:=λi=>bO 69 72 ([(1,iv c),SW 3]++WF 29 s i) [UV 3 29 v.ag] m h}),
 (12,{A:=Nat×Sl×Nat,st:=λ⟨i,u,j⟩=>bO 69 72 ([(1,iv c),SW 3,(8,iv i),(9,sv u),(29,sv s),(30,iv s.len),(31,iv i)]++WF 36 u j) [UV 3 29 v.ag] m h})] [] [] false
def TM(c:Int)(v:bQ):ST:=λm h K=>Dx v h (λs=>dJ (dO s !=0) (K (fD (dO s)) m h) (c !=1) (cM c 2 (cM c 3 (K (fD 1) m h) (K (fD 0) m h)) (K (fD 0) m h)) (K (fD 0) m h))
abbrev Fb(a:(Unit->Prop)->Prop)(b:Prop):=∃x,a x/\∀c,x c->b
attribute [push_cast] Fb
def TL(e:Int)(v:bQ)(t:Int)(s:Sl):ST:=λm h K=>Fb (λI=>let F:=E7 v t h (λn u=>cC (jE n u) (K bH m h) (∃x,I x/\bM t/\aH s/\bM e/\eZ/\aW v/\m=m/\h=h/\True));cM e 1 (cM e 2 (cM e 3 (K bH m h) F) F) F) (aM (λb o=>aR (kI v) b o/\0<=t/\t<aF v.c/\∃y,aK m h b (dN o t 5) (Af y)/\cM (aF s) (Ap y) (K bH m h) (∃I g,(∃x,I x/\bM e/\eP 9/\bC s (Aw x)/\cT s (Aw x)/\bB x.1/\oQ 74 (jR y)=oQ 74 (jR (Lo x))/\iU m (sA x)/\fQ h (sA x).2)/\∀x,I x->aX x.1 (aF (Aw x)) (aM (λz A=>aR (Aw x).a z A/\0<=(↑x.1:Int)/\x.1<aF (Aw x)/\∃j,aK (gX (sA x)) (gT (sA x)) z (bI A x.1 3) j.ag/\∃B,eO (iE j) (iE B)/\cC (lU B) (K bH (gX (sA x)) (gT (sA x))) (∃I1,let H:=JE I1 e x (λd=>A7 (HF d)) (λd=>JS x d (JR x d) j);dP j.kind 2 (cM e 1 (JE I1 e x (λd=>Nj x.1 (Lo x) (HF d)) (λd=>JS x d (JR x d) j)) H) H/\∀d,I1 d->∃I2,let G:=∃c,JF I2 c e d (A7 (Fo c)) (JU d c (JT d c));dP d.2.2.1.kind 1 (dP e 3 (∃c,JF I2 c e d (Nj d.1 d.2.1 (Fo c)) (JU d c (JT d c))) G) G/\∀c,I2 c->aM (λC D=>aR (Ln c).aa.a C D/\0<=(↑c.1:Int)/\c.1<aF (Ln c).aa/\∃E,let J:=λf=>G6 I f g (g x) e c (Hp c f) (Hq c f);aK (BQ c).1 (BQ c).2 C (dG (bI D c.1 2)) (bV E)/\cM c.2.2.1.kind E (SM c.2.2.2.2.1 (SM (Fo c) (K bH (BQ c).1 (BQ c).2) J) J) (∃f,G6 I f g (g x) e c (Hp c f) (Hq c f)))))) (K eE (gX (sA x)) (gT (sA x))))))
def Vk(e:Int)(v:bQ)(s:Sl):ST:=λm h K=>wT (λC u z=>dZ (jS v) e=dZ (jS C) z/\dV h u C/\1<=z/\z<=3/\cM (dO u) 0 (K (fD (dO u)) m h) (xQ (λD A=>eO (oL s) (oL D)/\bm h D A/\Bw A/\dJ (decide (dQ A>512)) (K (fD 2) m h) (aF s !=iS v) (K (fD 80) m h) (mF (λI x=>I x/\bM e/\eP 3/\aH s/\aY s/\bB x/\aW v/\m=m/\dC h h) (λI E x=>I x->aX x (aF s) (ab s x 1 aT m h (λy=>RM (λI1 c=>I1 c/\bM e/\eP 3/\bP x c.1/\bC y (iO c)/\aH s/\aY s/\bP x c.1/\bC y (iO c)/\cT y (iO c)/\bB (kG c)/\aW v/\eV (m=m) (h=h)) (λI1 F c=>I1 c->aX (↑(kG c):Int) (aF (iO c)) (aM (λG H=>aR (iO c).a G H/\0<=(↑(kG c):Int)/\(↑(kG c):Int)<aF (iO c)/\∃B,aK m h G (bI H (kG c) 1) (aT B)/\wT (λJ L t=>nZ (λM r=>∃f,let N:=MK I1 F c e s (λd=>bP c.1 d.1/\bC (iO c) (iO d)/\cT (iO c) (iO d)/\fI (bA (kG c) 1)=bR (kG d)/\bX (aW v) m m h h);bE (cW v) (jO c.1 (fB B e))=bE (cW J) (jO t (fB M f))/\dV h L J/\bF h M r/\1<=f/\f<=3/\wQ (!(l8 f L t r)) (K (fD 80) m h) (↑(kG c):Int) 0 (aM (λg j=>aR (iO c).a g j/\0<=jZ (kG c)/\jZ (kG c)<aF (iO c)/\∃n,aK m h g (dN j (jZ (kG c)) 1) (aT n)/\Dr v (iV c.1 n) h (λO=>bJ h g (dN j (jZ (kG c)) 1) (aT n)/\Dr v (iV c.1 B) h (λP=>bJ h g (dN j (jZ (kG c)) 1) (aT n)/\rG O P h (λa Q=>iA (cV a Q) 0 (K (fD 80) m h) N))))) N)))) (∃d,I d/\E d<E x/\bM e/\cR/\aH s/\aY s/\fI (bA c.1 1)=bR d/\aW v/\gM m m h h)))) (K (fD 0) m h))))))
theorem brQ{c:Int}(e:1<=c)(f:c<=3){A B}(d:B):branch (c !=1) (branch (c !=2) (branch (c !=3) A B) B) B:=
 aB (λg=>aB (λj=>aB (λn=>da) λ_=>d) λ_=>d) λ_=>d
theorem cHJ{c v}(f:dV h s v)(g:1<=c)(j:c<=3)(d:K (cI (dO s)) m h):TM c v m h K:=
 ⟨v,s,rfl,f,aB (λ_=>d) (λe=>by rw[show dO s=0 by simpa using e]at d;exact brQ g j d)⟩
theorem atJ:uz 115 dFQ:=by
 refine gV func115 ?_;rintro c m h K⟨v,s,d,rfl,e,f,g,j⟩;refine⟨WP [(66,yY)],rfl,aD Kk aG,TM d v,bt,?_⟩;exact cHJ e f g j
theorem jK{c t r}:qO c t r=true↔r.length=t.aa.length/\∀i,i<r.length->xJ c t.key (t.aa.getD i ⟨⟨#[]⟩,0⟩).kind i (r.getD i al)=true:=by
 simp_all[qO,all_eq_true,mem_range]
theorem wF{c s t r tb}(d:s.c[t.toNat]?=some tb)(h:jE s t=true):l8 c s t r=qO c tb r:=by
 simp_all[l8,Bool.true_and]
theorem QX:uz 116 cXX:=by
 refine gV func116 ?_;rintro a0 m h K⟨v,s,t,I,r,f,rfl,O,P,h1,h3,D⟩;refine⟨b9X f v t I m h,rfl,aD EF (aD Lz aG),TL f v t I,bt,?_⟩;dsimp only[TL,push_cast];have a1:=O.c.e;have a2:=aU.e P;refine⟨λ_=>jE s t=true,brQ h1 h3 ⟨v,s,t,rfl,O,aB (λe=>?_) (λe=>⟨(),mp e,MT⟩)⟩,?_⟩
 .have e:jE s t=false:=mp e
  simp only[l8,e,Bool.false_and]at D;exact D
 rintro _ e;have he:=e;simp only[jE,su,s0]at he;obtain⟨d,G⟩:∃d,s.c[t.toNat]?=some d:=⟨_,sh aC⟩
 have⟨b,o,y,ea,rd,Q⟩:=aU.at O.c G;rw[wF G e]at D;have a3:=aU.e Q.aa;have hk:=Q.key;refine⟨b,o,ea,he.1,aC,y,.ay rd,aB (λJ=>?_) (λJ=>?_)⟩
 .have:qO f d r=false:=by
   grind[qO,jK]
  rw[this]at D;exact D
 have R:r.length=d.aa.length:=da
 have S:∀i,i<r.length->xJ f d.key (d.aa.getD i ⟨⟨#[]⟩,0⟩).kind i (r.getD i al)=false->K (cB false) m h:=λi hi T=>by
  grind[qO,jK]
 refine⟨λz=>z.2.1=y/\z.2.2.1=I/\z.2.2.2.1=m/\z.2.2.2.2=h/\z.1<=r.length/\∀j,j<z.1->xJ f d.key (d.aa.getD j ⟨⟨#[]⟩,0⟩).kind j (r.getD j al)=true,λz=>r.length-z.1,⟨(0,y,I,m,h),⟨rfl,rfl,rfl,rfl,bu,λj U=>by simp at U⟩,MT⟩,?_⟩;rintro⟨i,u,B,m',h'⟩⟨J,n,L,M,hi,C⟩;dsimp only at J n L M hi C⊢
 subst J n L M;refine aE (λa4=>?_) (λa5=>?_)
 .have V:i<r.length:=by omega
  have hx:r[i]?=some (r.getD i al):=da
  have⟨b2,o2,x,W,H,X⟩:=aU.at P hx;subst X;have hc:d.aa[i]?=some (d.aa.getD i ⟨⟨#[]⟩,0⟩):=da
  have⟨b3,o3,c,Y,Z,a'⟩:=aU.at Q.aa hc;have g:=S i V
  have A:xJ f d.key (d.aa.getD i ⟨⟨#[]⟩,0⟩).kind i (r.getD i al)=true->∀j,j<i+1->xJ f d.key (d.aa.getD j ⟨⟨#[]⟩,0⟩).kind j (r.getD j al)=true:=λT j U=>by
   grind
  generalize r.getD i al=x at g A H hx;rw[a']at g A;have go:xJ f d.key c.kind i x=true->∃z:Nat×cD×Sl×MH×PH,(z.2.1=u/\z.2.2.1=B/\z.2.2.2.1=m'/\z.2.2.2.2=h'/\z.1<=r.length/\∀j,j<z.1->xJ f d.key (d.aa.getD j ⟨⟨#[]⟩,0⟩).kind j (r.getD j al)=true)/\r.length-z.1<r.length-i/\z=(i+1,u,B,m',h'):=λT=>⟨_,⟨rfl,rfl,rfl,rfl,aC,A T⟩,aC,rfl⟩
  refine⟨b2,o2,W,aC,aC,x,.ay H,x,rfl,aB (λev=>g ?_) (λev=>?_)⟩
  .grind[lU,xJ]
  have ev:lU x=true:=da
  refine⟨λz=>z=(i,u,x,B,(x.kind==2&&(f !=1&&decide ((i:Int)>=u.key))),m',h'),aB (λn=>aB (λE=>⟨_,rfl,by rw[n,E];exact MT⟩) (λE=>⟨_,rfl,by rw[n,E];exact MT⟩)) (λn=>⟨_,rfl,by rw[n];exact MT⟩),?_⟩;rintro _ rfl;dsimp only;refine⟨λz=>z=(i,u,x,B,(x.kind==2&&(f !=1&&decide ((i:Int)>=u.key))),(x.kind==1&&(f==3&&decide ((i:Int)>=u.key))),m',h'),aB (λn=>aB (λE=>⟨_,rfl,by rw[n,E];exact MT⟩) (λE=>⟨_,rfl,by rw[n,E];exact MT⟩)) (λn=>⟨_,rfl,by rw[n];exact MT⟩),?_⟩;rintro _ rfl;dsimp only
  have F:xJ f d.key c.kind i x=(x.kind==c.kind||((x.kind==2&&(f !=1&&decide ((i:Int)>=u.key)))||(x.kind==1&&(f==3&&decide ((i:Int)>=u.key))))):=by
   simp_all[xJ,Bool.true_and,ge_iff_le,Bool.and_or_distrib_right,Bool.and_assoc]
  generalize a6:(x.kind==2&&(f !=1&&decide ((i:Int)>=u.key)))=B1 at F⊢
  generalize a7:(x.kind==1&&(f==3&&decide ((i:Int)>=u.key)))=B2 at F⊢
  refine⟨b3,o3,Y,aC,aC,c.kind,.ay (bJ.part Z 1 1),aB (λL=>aB (λM=>aB (λe5=>g ?_) (λe5=>?_)) (λM=>?_)) (λL=>?_)⟩
  .grind
  all_goals
   obtain⟨_,g1,g2,rfl⟩:=go (by rw[F];simp_all);refine⟨_,g1,g2,?_⟩;dsimp only;rw[fH (by have:=aU.len P;omega)];exact MT
 .have:qO f d r=true:=jK.2 ⟨R,λj U=>C j aC⟩;rw[this]at D;exact D
theorem N2{c}{t:Nat}{tb}(h:s.c[t]?=some tb) r:l8 c s t r=qO c tb r:=by
 grind[jE,List.getElem?_eq_some_iff,wF]
theorem aNZ:uz 72 Ra:=by
 refine gV func72 ?_;rintro b0 m h K⟨v,s,X,H,y,rfl,L,Y,Z,m1,m3,d⟩;refine⟨cqQ y v X m h,rfl,aD atJ (aD Vi (aD QX (aD EE (aD xT aG)))),Vk y v X,bt,?_⟩;dsimp only[Vk,push_cast];have b1:=L.c.e;have a':=aU.e Y;unfold nC at d;refine⟨v,s,y,rfl,L,m1,m3,aB (λe=>?_) (λe=>⟨X,H,rfl,Y,Z,aE (λM=>?_) (λM=>aB (λe3=>?_) (λe3=>?_))⟩)⟩
 .rw[if_pos (mp e)]at d;exact d
 all_goals rw[if_neg (mp e)]at d
 .rw[if_pos (by grind[dQ])]at d;exact d
 all_goals rw[if_neg (by unfold dQ at M;omega)]at d
 .rw[if_pos da]at d;exact d
 have O:H.length=s.c.length:=da
 rw[if_neg (by simp[O])]at d;have a0:¬L5 y s H->K (cI 80) m h:=λhb=>da
 refine⟨λi=>i<=H.length/\∀(j:Nat) t l,j<i->s.c[j]?=some t->H[j]?=some l->Sg y t l,λi=>H.length-i,⟨0,⟨bu,λj t l hj=>by omega⟩,MT⟩,?_⟩;rintro i⟨hi,P⟩;refine aE (λa1=>?_) (λb4=>?_)
 .have⟨l,hx⟩:=eF a' a1;have⟨b,o,u,ea,rd,I⟩:=aU.at Y hx;have a2:=aU.e I;have b5:=aU.len I;obtain⟨A,c⟩:∃A,s.c[i]?=some A:=⟨_,sh aC⟩
  have B:¬Sg y A l->K (cI 80) m h:=λhb=>a0 λf=>hb (f i A l c hx);refine⟨b,o,ea,aC,aC,u,.ay rd,λz=>z.1=i/\z.2.1=u/\z.2.2<=l.length/\(∀k r,k<z.2.2->l[k]?=some r->qO y A r=true)/\∀k r J,k+1<z.2.2->l[k]?=some r->l[k+1]?=some J->cV (eR A r) (eR A J)<0,λz=>l.length-z.2.2,⟨(i,u,0),⟨rfl,rfl,bu,λk r E=>by simp at E,λk r J E=>by simp at E⟩,MT⟩,?_⟩;rintro⟨F,u',j⟩⟨e1,M,hj,C,D⟩;dsimp only at e1 M hj C D⊢
  subst e1 M;refine aE (λQ=>?_) (λb'=>?_)
  .have⟨r,R⟩:=eF a2 Q;have⟨b2,o2,w,a3,a4,hv⟩:=aU.at I R;refine⟨b2,o2,a3,aC,aC,w,.ay a4,v,s,F,w,r,y,rfl,L,hv,m1,m3,aB (λef=>B λf=>?_) (λef=>?_)⟩
   .rw[N2 c,f.1 r (si R)]at ef;cases ef
   have hf:qO y A r=true:=by grind[N2]
   have g:∀k r,k<j+1->l[k]?=some r->qO y A r=true:=λk J E b6=>by
    grind
   refine aE (λa5=>?_) (λa5=>?_)
   .have hw:IntKind.i64.wrap ((j:Int)-1)=((j-1:Nat):Int):=by grind[dW]
    obtain⟨W,S⟩:∃W,l[j-1]?=some W:=⟨_,sh aC⟩
    have⟨b3,o3,w3,a6,G,a7⟩:=aU.at I S;rw[hw];refine⟨b3,o3,a6,aC,aC,w3,.ay G,v,s,F,w3,W,rfl,L,a7,λs1 a8=>⟨G,v,s,F,w,r,rfl,L,hv,λs2 a9=>⟨G,s1,s2,_,_,rfl,a8,a9,aE (λhc=>B λf=>?_) (λhc=>?_)⟩⟩⟩
    .rw[pA c,pA c]at hc;have:=f.2 (j-1) W r S da;omega
    .rw[pA c,pA c]at hc;refine⟨(F,u',j+1),⟨rfl,rfl,da,g,λk r1 r2 E T U=>?_⟩,da,?_⟩
     .grind
     .dsimp only;rw[fH aC];exact MT
   .refine⟨(F,u',j+1),⟨rfl,rfl,da,g,λk r1 r2 E T U=>da⟩,da,?_⟩;dsimp only;rw[fH aC];exact MT
  .refine⟨F+1,⟨aC,λk t l' E ht V=>?_⟩,aC,?_⟩
   .by_cases e5:k=F
    .subst e5;rw[c]at ht;cases ht;rw[hx]at V;cases V;refine⟨λr I=>?_,λk r J T U=>D k r J ?_ T U⟩
     .obtain⟨n,Z,rfl⟩:=mem_iff_getElem.1 I;exact C n _ aC (sh Z)
     grind
    grind
   .rw[fH aC];exact MT
 .rw[if_pos]at d
  .exact d
  .exactλj t l T U=>P j t l da T U
structure sZ where
 j:Int
 bj:to
 new:to
def kK(s:kD)(c:sZ):=if 0<c.bj.length then jJ s c.j c.bj else jJ s c.j c.new
def sV(d:Int)(s:kD)(c:sZ):=
 jE s c.j&& !(c.bj.length==0&&c.new.length==0)&&(c.bj.length==0||l8 d s c.j c.bj)&&(c.new.length==0||l8 d s c.j c.new)&&(c.bj.length==0||c.new.length==0||cV (jJ s c.j c.bj) (jJ s c.j c.new)==0)
def qT(k:to->to)(l:tj)(key:to):=l.countP λr=>decide (cV (k r) key<0)
def lO k l key:=decide (qT k l key<l.length)&&cV (k (l.getD (qT k l key) [])) key==0
def mW s l c:=
 let i:=qT (jJ s c.j) l (kK s c)
 let f:=lO (jJ s c.j) l (kK s c)
 if(f !=decide (0<c.bj.length))||(f&&cV (l.getD i []) c.bj !=0)then none
 else some (l.take i++(if 0<c.new.length then[c.new]else[])++l.drop (if f then i+1 else i))
def oV(d:Int)(s:kD):List tj->Int->List sZ->List tj×Int
 |st,_,[]=>(st,0)
 |st,n,c::cs=>
  if sV d s c=false then([],71)
  else match mW s (st.getD c.j.toNat []) c with
   |none=>([],81)
   |some l=>if 512<n+((l.length:Int)-((st.getD c.j.toNat []).length:Int))then([],2)else oV d s (st.set c.j.toNat l) (n+((l.length:Int)-((st.getD c.j.toNat []).length:Int))) cs
theorem IX{a b c}(d:cV a b<0)(e:cV b c<0):cV a c<0:=by
 grind[AG,Int.lt_or_eq_of_le,eX,lG]
theorem bgJ{a b c}(d:cV a b<=0)(e:cV b c<0):cV a c<0:=by
 rcases Int.lt_or_eq_of_le d with h|h
 .exact IX h e
 grind[eX]
abbrev mr(k:to->to)(l:tj):=l.Pairwise λx y=>cV (k x) (k y)<0
theorem OZ{k:to->to}{key:to}:∀{l:tj},mr k l->(∀r∈l.take (qT k l key),cV (k r) key<0)/\(∀r∈l.drop (qT k l key),0<=cV (k r) key)
 |[],_=>bu
 |a::l,h=>by
  have h:List.Pairwise (λx y=>cV (k x) (k y)<0) (a::l):=h;rw[pairwise_cons]at h;obtain⟨d,c⟩:=h;have e:=OZ (key:=key) c;by_cases f:cV (k a) key<0
  .simp_all[qT]
  .have g:qT k l key=0:=by
    unfold qT;rw[countP_eq_zero];intro r j;simp only[s0]
    grind[IX]
   grind[qT]
theorem ciZ k l key:qT k l key<=l.length:=countP_le_length
theorem Kf{k key l}(h:mr k l):lO k l key=true↔∃r∈l,k r=key:=by
 have e:=OZ (key:=key) h;unfold lO;rw[su,s0,beq_iff_eq];constructor
 .grind[sh,getElem_mem,eX]
 .rintro⟨r,f,rfl⟩;have g:cV (k r) (k r)=0:=eX.2 rfl
  have d:r∈l.drop (qT k l (k r)):=by
   grind[qT,take_append_drop]
  have c:qT k l (k r)<l.length:=by
   grind[Nat.lt_of_not_le,drop_of_length_le]
  refine⟨c,?_⟩;rw[getD_eq_getElem?_getD,sh c]
  grind[cV,qT,drop_eq_getElem_cons,List.Pairwise.sublist,drop_sublist,pairwise_cons]
structure Wr where
 ak:ti
 bef:tj
 pq:tj
structure fw where
 chg:Int
 pq:Bool
 j:Int
 key:to
 col:Int
def xR(s:kD)(c:sZ):=jJ s c.j (if c.new.length=0 then c.bj else c.new)
def pG(ws:List Wr)(key:to)(d:Bool)(c:Int):=ws.any λw=>(decide (c<0)||w.ak.contains c)&&Lq (if d then w.pq else w.bef) key
def Yk(s:kD)(ws:List Wr)(i:Int)(c:sZ):List fw:=
 if c.bj.length=0 then(if pG ws (xR s c) true (-1)then[]else[⟨i,true,c.j,xR s c,-1⟩])
 else if c.new.length=0 then(if pG ws (xR s c) false (-1)then[]else[⟨i,false,c.j,xR s c,-1⟩])
 else(List.range c.bj.length).flatMap λj=>if R2 (c.bj.getD j al) (c.new.getD j al)=true then[]else([false,true].filter λa=>!pG ws (xR s c) a j).map λa=>⟨i,a,c.j,xR s c,j⟩
structure AW(h:PH)(c:sZ)(v:eG):Prop where
 ir:v.ah=c.j
 ib:bF h v.bj c.bj
 gj:bF h v.new c.new
theorem AW.mono{c v}(x:AW h c v)(le:PH.le h h'):AW h' c v:=⟨x.ir,x.ib.mono le,x.gj.mono le⟩
def Yx(v:eG):CV:=.val (.agg ⟨v.ag⟩)
def YQ:AC:=λc m h K=>∃s r,c=[cS s]/\bF h s r/\r.length<=1000/\∀d h',PH.le h h'->bF h' d r->K (cS d) m h'
def dSZ:AC:=λc m h K=>∃s t a b,c=[cS s,cS t]/\bF h s a/\bF h t b/\K (cB (cV a b==0)) m h
def c0Z:AC:=λd m h K=>∃sc v s c,d=[aS sc,Yx v]/\dV h s sc/\AW h c v/\∀e,bF h e (kK s c)->K (cS e) m h
def bAJ:AC:=λe m h K=>∃sc v s c d,e=[aS sc,cI d,Yx v]/\dV h s sc/\AW h c v/\1<=d/\d<=3/\K (cB (sV d s c)) m h
def dAQ:AC:=λd m h K=>∃x u e f sc v s c a b,d=[cS x,cS u,cP e,cP f]/\m e=some (.cells ⟨bQ.ag sc⟩ 29 (0,0))/\m f=some (.cells ⟨eG.ag v⟩ 84 (0,0))/\dV h s sc/\v.ah=c/\bF h x a/\bF h u b/\K (cI (cV (jJ s c a) b)) m h
def cXJ:AC:=λd m h K=>∃(s u:_)(g:Nat)(c:_)(l:_)(key:_)(k:_),d=[cS s,cS u,.val (.func (.func g) #[] ⟨c⟩)]/\Rows h s l/\l.length<=8000000/\mr k l/\
 (∀(x:Sl) r,r∈l->bF h x r->FAt Tryz.prog g 3 (cS x::cS u::c.map .val) m h (λz m' h'=>z=[.int .i64 (cV (k r) key)]/\m'=m/\h'=h))/\K (.dg [cI (qT k l key:Nat),cB (lO k l key)]) m h
def dgQ(sc:bQ)(v:eG)(c:Int)(m:MH)(h:PH):=dD [(116,cXX),(118,KF),(119,dSZ)] [(4,{A:=Nat,st:=λi=>bO 78 81 [(1,iv c),SW 3,SW 5,(36,.agg [.val (.slice v.bj.a v.bj.len v.bj.cap),.val (.slice v.new.a v.new.len v.new.cap)]),(37,iv i)] [UV 3 29 sc.ag,UV 5 84 v.ag] m h})] [(3,{A:=Unit,st:=λ_=>bO 78 81 [(1,iv c),SW 3,SW 5] [UV 3 29 sc.ag,UV 5 84 v.ag] m h}),(9,{A:=Unit,st:=λ_=>bO 78 81 [SW 3,SW 5] [UV 3 29 sc.ag,UV 5 84 v.ag] m h})] [] false
def cHX s u g c m h:=
 tH [] [(3,{A:=Nat×Nat,st:=λ⟨i,j⟩=>bO 49 52 [(0,sv s),(1,sv u),(2,vv (.func (.func g) #[] ⟨c⟩)),(8,iv s.len),(9,iv i),(10,iv j)] [] m h})] [] [] [510003] [] false
def aeZ(s:Sl):ST:=λm h K=>∃y,dA 3 y/\bT h (bK s) 3 y/\zA y 32/\cJ y.length/\bN h 3 y (λc d=>K (tV c) m d)
def b8J(s t:Sl):ST:=λm h K=>rG s t h (λa b=>K (AU (cV a b==0)) m h)
def WJ(sc:bQ)(v:eG):ST:=λm h K=>eH (aF v.bj) 0 (Dr sc (iV v.ah v.bj) h (λs=>K (tV s) m h)) (Dr sc (iV v.ah v.new) h (λs=>K (tV s) m h))
abbrev Az(a:eG):=jX a.ah::rF a.bj::zU a.new
abbrev nG a:=eQ (oQ 84 (Az a))
abbrev MV(a:Unit->Prop)(b:Int)(c:bQ)(d:eG)(e:MH)(g:PH):=∃x,a x/\bM b/\eP 3/\bY/\aW c/\nG d/\e=e/\g=g/\True
abbrev Bi(a:eG):=SV.agg (j9 (rF a.bj) a.new)
abbrev Jp(a:Nat×Nat):=Uu (Int.fdiv (NP (bA a.1 a.2)) 2)
abbrev Nt(a b:Nat)(c d:Sl)(e:tm)(g:MH)(i:Nat->Nat->Option Value)(j:tm->MH->PH->Prop):=FAt Tryz.prog a b (bU c (bU d (List.map .val e))) g i (λx=>λf=>λn=>j x f n)
abbrev jM(a:eG):=pW a.ah::fW a.bj::aT a.new
abbrev J6(a:eG->kD->sZ->Prop):=∃x c d,a x c d
abbrev wO a:=Ew a 8000000
abbrev mT(a:Nat×Nat×Bool×MH):=a.2.1
abbrev tS(a:Sl):=a.len<=a.cap
abbrev Nk(a:Nat×Nat×Bool×Sl×Sl×MH):=a.2.2.2.2.2
abbrev Fp(a:Nat×Sl×Sl×MH):=a.2.2.2
abbrev M7(a:(Sl×Sl×MH×PH->Prop)->Prop)(b:(Sl×Sl×MH×PH)->Prop):=∃x,a x/\∀c,x c->b c
abbrev FI(a:Option Addr):=a=none
attribute [push_cast] Az nG MV Bi Jp Nt jM J6 wO mT tS Nk Fp M7 FI
def aeX(sc:bQ)(v:eG)(d:Int):ST:=λm h K=>Fb (λI=>aX v.ah 0 (K bH m h) (dJ (decide (v.ah>=iS sc)) (K bH m h) (aF v.bj==0) (dP (aF v.new) 0 (K bH m h) (MV I d sc v m h)) (MV I d sc v m h))) (Fb (λI=>mF (λI1 x=>I1 x/\bM d/\eP 3/\bY/\Bi v=Bi v/\bB x/\aW sc/\nG v/\gM m m h h) (λI1 f x=>let A:=∃c,I1 c/\f c<f x/\bM d/\cR/\bY/\Bi v=Bi v/\fI (bA x 1)=bR c/\aW sc/\bX (nG v) m m h h;I1 x->aX x 2 (vM x/\(↑x:Int)<2/\dJ ((↑x:Int)==0) (eH (aF v.bj) 0 (wT (λj s t=>nZ (λg r=>∃e,bE (cW sc) (jO v.ah (fB v.bj d))=bE (cW j) (jO t (fB g e))/\dV h s j/\bF h g r/\1<=e/\e<=3/\cC (l8 e s t r) (K bH m h) A))) A) ((↑x:Int)==1) (eH (aF v.new) 0 (wT (λj s t=>nZ (λg r=>∃e,bE (cW sc) (jO v.ah (fB v.new d))=bE (cW j) (jO t (fB g e))/\dV h s j/\bF h g r/\1<=e/\e<=3/\cC (l8 e s t r) (K bH m h) A))) A) True) (∃c,I c/\cR/\bY/\aW sc/\bX (nG v) m m h h))) (dJ (aF v.bj==0) (K eE m h) (aF v.new==0) (K eE m h) (Dr sc (iV v.ah v.bj) h (λs=>Dr sc (iV v.ah v.new) h (λg=>rG s g h (λa b=>K (AU (cV a b==0)) m h))))))
def WI(x u:Sl)(e f:Nat):ST:=λm h K=>∃y,aK m h e 0 (cW y)/\wY m h f 0 (λg=>wT (λv s t=>nZ (λc r=>bE (cW y) (iV g x)=bE (cW v) (iV t c)/\dV h s v/\bF h c r/\∀d,bF h d (jJ s t r)->rG d u h (λa b=>K (fD (cV a b)) m h))))
def WK(s u:Sl)(g:Nat)(c:tm):ST:=λm h K=>let A:=eQ (FE (Fn.func g) (.mk c));Nq (λI x=>I x/\aH s/\aH u/\A/\aY s/\bB x.1/\bR s.len=bR x.2/\m=m/\dC h h) (λI n x=>I x->aX x.1 x.2 (ab s (Jp x) 1 aT m h (λy=>∃R:Int->MH->PH->Prop,Nt g 3 y u c m h (λl e f=>∃d,l=bV d/\R d e f)/\∀d,iK (λe f=>R d e f->aX d 0 (∃j,I j/\n j<n x/\aH s/\aH u/\A/\aY s/\SV.at (At.val (pW (j6 (Jp x) 1)))=bR j.1/\bP x.2 j.2/\gM e m f h) (∃j,I j/\n j<n x/\aH s/\aH u/\A/\aY s/\bP x.1 j.1/\SV.at (At.val (pW (Jp x)))=bR j.2/\gM e m f h)))) (aX x.1 (aF s) (ab s x.1 1 aT m h (λy=>∃R:Int->MH->PH->Prop,Nt g 3 y u c m h (λl e f=>∃d,l=bV d/\R d e f)/\∀d,iK (λe f=>R d e f->K (CV.dg (nN (fD x.1) (AU (d==0)))) e f))) (K (CV.dg (nN (fD x.1) bH)) m h)))
theorem aaX{P f T c R R'}(x:FAt P f T c m h R)(d:∀l m' h',R l m' h'->R' l m' h'):FAt P f T c m h R':=
 ⟨x.fn,λg w e j=>(x.go g w e j).mono λ_ _⟨l,m',h',n,o,t⟩=>⟨l,m',h',n,d _ _ _ o,t⟩⟩
theorem cmX{j}(h:i+j<=32000000):IntKind.i64.wrap ((IntKind.u64.wrap (IntKind.i64.wrap ((i:Int)+(j:Int)))).fdiv 2)=(((i+j)/2:Nat):Int):=by
 grind[dW,UF,Int.fdiv_eq_ediv_of_nonneg]
theorem ceQ{k l}(e:mr k l){j x y}(c:i<j)(hx:l[i]?=some x)(d:l[j]?=some y):cV (k x) (k y)<0:=by
 obtain⟨f,rfl⟩:=List.getElem?_eq_some_iff.1 hx;obtain⟨g,rfl⟩:=List.getElem?_eq_some_iff.1 d
 grind[pairwise_iff_getElem]
theorem c5Z{k l key}(c:i<=l.length)(d:∀j y,j<i->l[j]?=some y->cV (k y) key<0)(f:∀j y,i<=j->l[j]?=some y->¬cV (k y) key<0):qT k l key=i:=by
 have e:qT k l key=(l.take i).countP (λy=>decide (cV (k y) key<0))+(l.drop i).countP (λy=>decide (cV (k y) key<0)):=by
  rw[<-countP_append,take_append_drop];rfl
 grind[decide,cV,countP_eq_length,getElem?_of_mem,countP_eq_zero]
theorem duZ{x u d e v c a b}(f:m d=some (.cells ⟨bQ.ag sc⟩ 29 (0,0)))(g:m e=some (.cells ⟨eG.ag v⟩ 84 (0,0)))(j:dV h s sc)(n:v.ah=c)(hx:bF h x a)(o:bF h u b)(t:K (cI (cV (jJ s c a) b)) m h):WI x u d e m h K:=
 ⟨sc,.dx _ _ _ f rfl,v.ah,.dx _ _ _ g rfl,sc,s,v.ah,x,a,rfl,j,hx,λy h'=>⟨y,u,_,_,rfl,h',o,by rw[n];exact t⟩⟩
theorem Vj:uz 73 YQ:=by
 refine gV func73 ?_;rintro e m h K⟨s,r,rfl,f,d,g⟩;refine⟨WP [],rfl,aG,aeZ s,bt,?_⟩;dsimp only[aeZ,push_cast];obtain⟨⟨c,j,n,o⟩,t⟩:=f;exact⟨c.map VV.ag,A2 c,j,da,da,λs h' le d=>g s h' le ⟨⟨c,d,n,o⟩,t⟩⟩
theorem TK:uz 119 dSZ:=by
 refine gV func119 ?_;rintro c m h K⟨s,t,a,b,rfl,d,e,f⟩;refine⟨WP [(117,BJ)],rfl,aD xT aG,b8J s t,bt,?_⟩;exact⟨s,t,a,b,rfl,d,e,f⟩
theorem bcJ:uz 121 c0Z:=by
 refine gV func121 ?_;rintro j m h K⟨sc,v,s,c,rfl,f,d,g⟩;refine⟨WP [(118,KF)],rfl,aD EE aG,WJ sc v,bt,?_⟩;dsimp only[WJ,push_cast];have n:=aU.e d.ib;refine aE (λa=>⟨sc,s,v.ah,v.bj,c.bj,rfl,f,d.ib,λe h'=>g e ?_⟩) (λa=>⟨sc,s,v.ah,v.new,c.new,rfl,f,d.gj,λe h'=>g e ?_⟩)
 .rw[kK,if_pos aC,<-d.ir];exact h'
 .rw[kK,if_neg aC,<-d.ir];exact h'
theorem bYJ:uz 75 bAJ:=by
 refine gV func75 ?_;rintro G m h K⟨sc,v,s,c,d,rfl,o,H,E,F,f⟩;refine⟨dgQ sc v d m h,rfl,aD QX (aD EE (aD TK aG)),aeX sc v d,bt,?_⟩;dsimp only[aeX,push_cast];have T:=o.c.e;obtain⟨I,z,A⟩:=H;have J:=aU.e z;have L:=aU.e A;have n:sV d s c=false->K (cB false) m h:=λe=>da
 have low:c.j<0\/(s.c.length:Int)<=c.j->jE s c.j=false:=λe=>by
  grind[jE,Bool.and_eq_false_iff,decide_eq_false_iff_not]
 refine⟨λ_=>jE s c.j=true/\(c.bj.length≠0\/c.new.length≠0),aE (λg=>n ?_) (λg=>aE (λj=>n ?_) (λj=>aB (λB=>aB (λt=>n ?_) (λt=>⟨(),⟨?_,Or.inr ?_⟩,MT⟩)) (λB=>⟨(),⟨?_,Or.inl ?_⟩,MT⟩))),?_⟩
 .grind[sV]
 .grind[sV]
 .simp_all[sV,beq_iff_eq]
 .simp_all[jE]
 .grind
 .simp_all[jE]
 .grind
 rintro _⟨U,V⟩
 have M:sV d s c=((c.bj.length==0||l8 d s c.j c.bj)&&(c.new.length==0||l8 d s c.j c.new)&&(c.bj.length==0||c.new.length==0||cV (jJ s c.j c.bj) (jJ s c.j c.new)==0)):=by
  grind[sV]
 rw[M]at f n;have O:v.ah=c.j:=I;refine⟨λ_=>(c.bj.length==0||l8 d s c.j c.bj)=true/\(c.new.length==0||l8 d s c.j c.new)=true,⟨λi=>i<=2/\(0<i->(c.bj.length==0||l8 d s c.j c.bj)=true)/\(1<i->(c.new.length==0||l8 d s c.j c.new)=true),λi=>2-i,⟨0,⟨aC,λe=>by omega,λe=>by omega⟩,MT⟩,λi⟨W,y,C⟩=>aE (λg=>⟨aC,g,aB (λj=>?_) (λj=>aB (λB=>?_) (λB=>trivial))⟩) (λg=>⟨(),⟨y aC,C aC⟩,MT⟩)⟩,?_⟩
 .have:i=0:=da
  subst this;have u:(c.bj.length==0||l8 d s c.j c.bj)=true->(0+1<=2/\(0<0+1->(c.bj.length==0||l8 d s c.j c.bj)=true)/\(1<0+1->(c.new.length==0||l8 d s c.j c.new)=true)):=λe=>⟨aC,λ_=>e,λe=>by omega⟩
  refine aE (λt=>⟨sc,s,v.ah,v.bj,c.bj,d,rfl,o,z,E,F,aB (λD=>n ?_) (λD=>⟨1,u ?_,da,MT⟩)⟩) (λt=>⟨1,u ?_,da,MT⟩)
  .grind
  .grind
  grind
 .have:i=1:=da
  subst this;have u:(c.new.length==0||l8 d s c.j c.new)=true->(1+1<=2/\(0<1+1->(c.bj.length==0||l8 d s c.j c.bj)=true)/\(1<1+1->(c.new.length==0||l8 d s c.j c.new)=true)):=λe=>⟨aC,λ_=>y aC,λ_=>e⟩
  refine aE (λt=>⟨sc,s,v.ah,v.new,c.new,d,rfl,o,A,E,F,aB (λD=>n ?_) (λD=>⟨2,u ?_,da,MT⟩)⟩) (λt=>⟨2,u ?_,da,MT⟩)
  .grind
  .grind
  grind
 .rintro _⟨y,C⟩;rw[y,C,Bool.true_and,Bool.true_and]at f;refine aB (λg=>?_) (λg=>aB (λj=>?_) (λj=>⟨sc,s,v.ah,v.bj,c.bj,rfl,o,z,λP Q=>⟨sc,s,v.ah,v.new,c.new,rfl,o,A,λR S=>⟨P,R,_,_,rfl,Q,S,?_⟩⟩⟩))
  .simp only[beq_iff_eq]at g;rw[show c.bj.length=0 by omega]at f;exact f
  .simp only[beq_iff_eq]at j;rw[show(c.new.length==0)=true by grind,Bool.or_true,Bool.true_or]at f;exact f
  .simp only[beq_eq_false_iff_ne]at g j;rw[show(c.bj.length==0)=false by grind,show(c.new.length==0)=false by grind]at f;rw[O];exact f
theorem bcZ:uz 122 dAQ:=by
 refine gV func122 ?_;rintro d m h K⟨x,u,e,f,sc,v,s,c,a,b,rfl,g,j,n,o,t,y,z⟩;refine⟨WP [(118,KF),(117,BJ)],rfl,aD EE (aD xT aG),WI x u e f,bt,?_⟩;exact duZ g j n o t y z
theorem TJ:uz 120 cXJ:=by
 refine gV func120 ?_;rintro Y m h K⟨s,u,g,d,l,key,k,rfl,F,hl,V,W,B⟩;refine⟨cHX s u g d m h,rfl,aG,WK s u g d,bt,?_⟩;dsimp only[WK,push_cast];have Z:=aU.e F;refine⟨λx=>x.1<=x.2/\x.2<=l.length/\(∀j y,j<x.1->l[j]?=some y->cV (k y) key<0)/\∀j y,x.2<=j->l[j]?=some y->¬cV (k y) key<0,λx=>x.2-x.1,⟨(0,l.length),⟨bu,bu,λj y C=>by omega,λj y C E=>da⟩,?_⟩,?_⟩
 .grind
 rintro⟨i,j⟩⟨G,C,f,t⟩;dsimp only at G C f t;refine aE (λA=>?_) (λH=>?_)
 .dsimp only at A⊢
  have A:i<j:=by omega
  rw[cmX aC];have I:i<=(i+j)/2:=by omega
  have J:(i+j)/2<j:=by omega
  generalize (i+j)/2=n at I J;have c:l[n]?=some (l[n]'(by omega)):=sh _;generalize l[n]'(by omega)=x at c;have⟨b,o,e,L,rd,M⟩:=aU.at F c;refine⟨b,o,L,aC,aC,e,.ay rd,λz m' h'=>z=cV (k x) key/\m'=m/\h'=h,aaX (W e x (si c) M) λz m' h'⟨O,P,Q⟩=>⟨_,O,rfl,P,Q⟩,?_⟩;rintro _ _ _⟨rfl,rfl,rfl⟩;refine aE (λR=>⟨(n+1,j),⟨aC,C,λS y T E=>?_,t⟩,aC,?_⟩) (λR=>⟨(i,n),⟨aC,aC,f,λS y T E hn=>?_⟩,aC,?_⟩)
  .by_cases U:S=n
   .grind
   .exact IX (ceQ V aC E c) R
  .rw[fH aC];exact MT
  .by_cases U:S=n
   .grind
   .exact R (IX (ceQ V aC c E) hn)
  .exact MT
 .dsimp only at H⊢
  have:i=j:=by omega
  subst this;have ep:=c5Z C f t;rw[lO,ep]at B;refine aE (λA=>?_) (λX=>?_)
  .have D:i<l.length:=by omega
   have c:l[i]?=some l[i]:=sh D;generalize l[i]=x at c;have⟨b,o,e,L,rd,M⟩:=aU.at F c;refine⟨b,o,L,aC,aC,e,.ay rd,λz m' h'=>z=cV (k x) key/\m'=m/\h'=h,aaX (W e x (si c) M) λz m' h'⟨O,P,Q⟩=>⟨_,O,rfl,P,Q⟩,?_⟩;rintro _ _ _⟨rfl,rfl,rfl⟩;rw[getD_eq_getElem?_getD,c,decide_eq_true D,Bool.true_and]at B;exact B
  .rw[decide_eq_false (show¬i<l.length by omega),Bool.false_and]at B;exact B
def aFQ:AC:=λd m h K=>∃sc u v s l c,d=[aS sc,cS u,Yx v]/\dV h s sc/\AW h c v/\Rows h u l/\mr (jJ s c.j) l/\l.length<=100000/\c.new.length<=1000/\
 (mW s l c=none->∀x,K (.dg [cS x,cB false]) m h)/\(∀e,mW s l c=some e->∀x h',PH.le h h'->Rows h' x e->K (.dg [cS x,cB true]) m h')
def dfJ u h:=tH [(121,c0Z),(120,cXJ),(119,dSZ),(73,YQ)] []
 [(4,{A:=Nat×Nat×Bool×MH,st:=λ⟨b,i,f,m⟩=>bO 70 73 [(1,sv u),(5,pv b),(8,iv i),(9,bv f)] [] m h}),
  (5,{A:=Nat×Nat×Bool×Sl×Sl×MH,st:=λ⟨b,i,f,x,y,m⟩=>bO 70 73 [(1,sv u),(5,pv b),(8,iv i),(9,bv f),(10,sv x),(11,sv y)] [] m h}),
  (7,{A:=Nat×Sl×Sl×MH,st:=λ⟨b,x,y,m⟩=>bO 70 73 [(5,pv b),(10,sv x),(11,sv y)] [] m h}),
  (9,{A:=Sl×Sl×MH×PH,st:=λ⟨x,y,m,h⟩=>bO 70 73 [(10,sv x),(11,sv y)] [] m h})] [] [200003,200005,3095,4095,100061,100069,0] [] false
def Tk(sc:bQ)(u:Sl)(v:eG):ST:=λm h K=>∀b G,eT m h b->cF m G b (cW sc) 29->∀C j,eT G h C->cF G j C (jM v) 84->∃y,aK j h b 0 (cW y)/\∃H,aK j h C 0 (jM H)/\∃s,J6 (λJ L c=>bL (jS y) (jM H)=bL (jS s) (jM J)/\dV h L s/\AW h c J/\∀M,bF h M (kK L c)->lC (λO P=>NL (λg Q=>∃l k D,bU u (j8 M (vB 122 (.mk (py b 0::py C 0::[]))))=bU O (j8 P (vB g (.mk Q)))/\Rows h O l/\wO l/\mr D l/\((∀x r,List.Mem r l->bF h x r->Nt g 3 x P Q j h (λz U E=>z=bV (cV (D r) k)/\U=j/\E=h))/\∃I:Nat×Nat×Bool×MH->Prop, lI j h C 1 (λn=>let N:=∃x,I x/\aH u/\fL C x.1/\bP (qT D l k) (mT x)/\bX (kJ (lO D l k) x.2.2.1) j x.2.2.2 h h;let Z:=K (CV.dg (nN EO bH)) j h;dJ (!(lO D l k==decide (aF n>0))) (aK j h C 1 (aT n)/\aK j h C 1 (aT n)/\Z) (lO D l k) (ab u (↑(qT D l k):Int) 1 aT j h (λF=>∃S,aK j h C 1 (aT S)/\aK j h C 1 (aT n)/\XT (λB t a T=>fG F S=fG B t/\bF h B a/\bF h t T/\aK j h C 1 (aT n)/\cC (cV a T==0) Z N))) (aK j h C 1 (aT n)/\aK j h C 1 (aT n)/\N))/\∀x,I x->∃I1:Nat×Nat×Bool×Sl×Sl×MH->Prop,let X:=At.val (.slice u.a (tY (mT x)) (tY (mT x)));let Y:=(↑(mT x):Int)<=(↑(mT x):Int);((vM (mT x)/\Y/\xB (↑(mT x):Int) u/\vM (mT x)/\(↑(mT x):Int)<=aF u/\tS u/\∀B,tJ 1 (bK u) (tY (mT x)) B->∃f,I1 f/\aH u/\fL x.1 f.1/\bP (mT x) f.2.1/\kJ x.2.2.1 f.2.2.1/\SV.at X=Zq f.2.2.2.1/\bC B f.2.2.2.2.1/\x.2.2.2=Nk f/\dC h h)/\vM (mT x)/\((↑(mT x):Int)<=aF u/\tS u/\∀B,tJ 1 (bK u) (tY (mT x)) B->vM (mT x)/\Y/\xB (↑(mT x):Int) u/\∃f,I1 f/\aH u/\fL x.1 f.1/\bP (mT x) f.2.1/\kJ x.2.2.1 f.2.2.1/\SV.at X=Zq f.2.2.2.1/\bC B f.2.2.2.2.1/\x.2.2.2=Nk f/\dC h h))/\∀f,I1 f->∃I2:Nat×Sl×Sl×MH->Prop,branch f.2.2.1 (dK (bA f.2.1 1)/\bA f.2.1 1<=aF u/\tS u/\∀B,tJ 1 (bK u) (bA f.2.1 1).toNat B->∃e,I2 e/\fL f.1 e.1/\bC f.2.2.2.1 e.2.1/\bC B e.2.2.1/\eV (Nk f=Fp e) (h=h)) (∃e,I2 e/\fL f.1 e.1/\bC f.2.2.2.1 e.2.1/\bC f.2.2.2.2.1 e.2.2.1/\eV (Nk f=Fp e) (h=h))/\∀e,I2 e->M7 (λI3=>lI (Fp e) h e.1 2 (λn=>eH (aF n) 0 (lI (Fp e) h e.1 2 (λF=>Be F h (λB E=>tG (e.2.1.cap=e.2.1.len) (λd=>dA 1 d/\bT E (bK e.2.1) 1 d/\(jP (FI e.2.1.a)->iQ (aT B)=[]->∃A,I3 A/\bC e.2.1 A.1/\bC e.2.2.1 (rA A)/\iU (Fp e) A.2/\fQ E A.2.2)/\(FI e.2.1.a\/0<1->lJ d 24 (bN E 1 (iI d B) (λV W=>∃A,I3 A/\bC V A.1/\bC e.2.2.1 (rA A)/\iU (Fp e) A.2/\fQ W A.2.2))))))) (∃d,I3 d/\bC e.2.1 d.1/\bC e.2.2.1 (rA d)/\iU (Fp e) d.2/\fQ h d.2.2))) (λd=>wS (dK (aF d.1)) (aF d.1<=aF d.1) (xB (aF d.1) d.1) ((aF d.1).toNat=(aF d.1).toNat) (λA=>uF (dA 1 A) (bT (tC d) (Sl.mk d.1.a (aF d.1).toNat (aF d.1).toNat) 1 A) (λn=>dA 1 n/\mH (rT d) (tC d) (bK (rA d)) 1 n/\(jP (FI d.1.a)->n=[]->K (CV.dg (nN (Er d.1.a (aF d.1).toNat (aF d.1).toNat) eE)) (rT d) (tC d))/\(FI d.1.a\/0<n.length->lK A n 24/\cJ (lL A n)/\bN (tC d) 1 (A++n) (λB E=>K (CV.dg (j8 B eE)) (rT d) E)))))))))
theorem d0J x:Vc.iw Tryz.prog 3 [x]=x:=bt
theorem bzQ{g S x u}{c:tm}{z}(d:uz g S)(e:∀K:CV->MH->PH->Prop,K (cI z) m h->S (cS x::cS u::c.map .val) m h K):FAt Tryz.prog g 3 (cS x::cS u::c.map .val) m h λy m' h'=>y=[.int .i64 z]/\m'=m/\h'=h:=
 af.fat (vs:=Sl.val x::Sl.val u::c) d (e _ ⟨[.int .i64 z],(congrArg CV.val (d0J _)).symm,rfl,rfl,rfl⟩)
theorem bT.low{s d}(r:bT h s sz xs)(c:tJ sz ⟨s.a,s.len,s.cap⟩ i d)(t:i<=xs.length):bT h d sz (xs.drop i):=by
 have f:=r.len;have u:=r.cap;refine⟨by rw[c.len,length_drop,<-f],?_,by rw[c.len,c.cap];grind⟩;rcases r.row with e|⟨b,o,g,k⟩
 .grind
 .by_cases n:s.cap=i
  .grind
  .right;refine⟨b,o+i*sz,by rw[c.a_,if_neg n,g];grind[Addr.add],λj e y=>?_⟩
   grind
theorem Ir{s l}(x:Rows h s l):s.len<=s.cap:=by
 obtain⟨⟨d,c,_⟩,_⟩:=x;exact c.cap
theorem Zv{s l}(x:Rows h s l){n}(j:n<=l.length):Rows h ⟨s.a,n,n⟩ (l.take n):=by
 obtain⟨⟨d,f,g,o⟩,t⟩:=x;have c:=bT.cut f n da;refine⟨⟨d.take n,by rw[map_take];exact⟨c.len,c.row,Nat.le_refl _⟩,by simp[g],λi y e=>?_⟩,cv⟩
 grind
theorem Eg{s c l}(x:Rows h s l){n}(g:tJ 1 ⟨s.a,s.len,s.cap⟩ n c)(j:n<=l.length):Rows h c (l.drop n):=by
 obtain⟨⟨d,o,f,t⟩,u⟩:=x;refine⟨⟨d.drop n,by grind[map_drop,bT.low],by simp[f],λi y e=>?_⟩,cv⟩
 grind
theorem UU{h s}{us vs:tq}{a b}(f:bT h s 1 (us.map eS++vs.map eS))(c:a.length=us.length)(g:∀(i:Nat) x,a[i]?=some x->∃v,us[i]?=some v/\bF h v x)(d:b.length=vs.length)(j:∀(i:Nat) x,b[i]?=some x->∃v,vs[i]?=some v/\bF h v x)(n:a.length+b.length<=500000):Rows h s (a++b):=by
 refine⟨⟨us++vs,da,by simp[c,d],λi x e=>?_⟩,cv⟩
 grind
theorem bYZ:uz 76 aFQ:=by
 refine Uy func76 ?_;rintro b7 m h K⟨sc,u,v,s,l,c,rfl,hs,T,U,hk,hl,hn,hN,hY⟩;refine⟨dfJ u h,rfl,aD bcJ (aD TJ (aD TK (aD Vj aG))),Tk sc u v m h (dR h K),bt,?_⟩;show Tk sc u v m h (dR h K);dsimp only[Tk,push_cast];intro b m1 Y G M O P H
 obtain⟨sub,Z,d⟩:dh m O/\O b=some (.cells ⟨bQ.ag sc⟩ 29 (0,0))/\O M=some (.cells ⟨eG.ag v⟩ 84 (0,0)):=by
  have⟨s1,n1⟩:=mM (dh.refl m) Y G;have⟨st,n2⟩:=mM s1 P H;have a5:b≠M:=λe=>by have:=P.m_;rw[<-e,G.y]at this;cases this
  exact⟨st,by rw[H.ai b a5];exact G.y,H.y⟩
 clear Y G P H;have b8:=aU.e U;have B:=Ir U;have b9:=aU.e T.ib;have c':=aU.e T.gj;refine⟨sc,.i Z rfl,v,.i d rfl,sc,v,s,c,rfl,hs,T,λs1 a6=>⟨u,s1,122,[.pointer (some ⟨b,0,none⟩),.pointer (some ⟨M,0,none⟩)],l,kK s c,jJ s c.j,rfl,U,aC,hk,λx r _ Q=>bzQ bcZ λK hK=>⟨x,s1,b,M,sc,v,s,c.j,r,kK s c,rfl,Z,d,hs,T.ir,Q,a6,hK⟩,?_⟩⟩
 have hA:mW s l c=(if((lO (jJ s c.j) l (kK s c) !=decide (0<c.bj.length))||(lO (jJ s c.j) l (kK s c)&&cV (l.getD (qT (jJ s c.j) l (kK s c)) []) c.bj !=0))=true then none
  else some (l.take (qT (jJ s c.j) l (kK s c))++(if 0<c.new.length then[c.new]else[])++l.drop (if lO (jJ s c.j) l (kK s c)=true then qT (jJ s c.j) l (kK s c)+1 else qT (jJ s c.j) l (kK s c)))):=rfl
 have C:=ciZ (jJ s c.j) l (kK s c)
 have I:lO (jJ s c.j) l (kK s c)=true->qT (jJ s c.j) l (kK s c)<l.length:=λe=>by
  simp_all[lO]
 generalize qT (jJ s c.j) l (kK s c)=i at hA C I⊢
 generalize lO (jJ s c.j) l (kK s c)=f at hA I⊢
 generalize mW s l c=A at hA hN hY;have ed:decide ((v.bj.len:Int)>0)=decide (0<c.bj.length):=decide_eq_decide.2 aC;have D:A=none->∀x,dR h K (.dg [cS x,cB false]) O h:=λe x=>dR.sub sub (.refl _) (hN e x);refine⟨λz=>z.1=M/\z.2.1=i/\z.2.2.1=f/\z.2.2.2=O/\A=some (l.take i++(if 0<c.new.length then[c.new]else[])++l.drop (if f=true then i+1 else i)),⟨v.bj,.i d rfl,aB (λE=>⟨.i d rfl,.i d rfl,D ?_ ⟨none,0,0⟩⟩) (λE=>aB (λa2=>?_) (λa2=>⟨.i d rfl,.i d rfl,(M,i,f,O),⟨rfl,rfl,rfl,rfl,?_⟩,MT⟩))⟩,?_⟩
 .grind
 .have C:=I a2;obtain⟨x,Q⟩:∃x,l[i]?=some x:=⟨_,sh C⟩
  have⟨b3,o3,ux,ea,rd,a7⟩:=aU.at U Q;have t:l.getD i []=x:=da
  rw[ed]at E;have E:(f !=decide (0<c.bj.length))=false:=E;rw[t,E,Bool.false_or,a2,Bool.true_and]at hA;refine⟨b3,o3,ea,aC,aC,ux,.ay rd,v.bj,.i d rfl,.i d rfl,ux,v.bj,x,c.bj,rfl,a7,T.ib,.i d rfl,aB (λa3=>D ?_ ⟨none,0,0⟩) (λa3=>⟨(M,i,f,O),⟨rfl,rfl,rfl,rfl,?_⟩,MT⟩)⟩
  .grind
  grind
 .grind
 rintro⟨V,g,R,m'⟩⟨t,F,L,e4,hS⟩;dsimp only at t F L e4;subst t F L e4;dsimp only;have tl:∀j,tJ 1 ⟨u.a,u.len,u.cap⟩ g j->Rows h j (l.drop g):=λj W=>Eg U W C;refine⟨λz=>V=z.1/\g=z.2.1/\R=z.2.2.1/\⟨u.a,g,g⟩=z.2.2.2.1/\Rows h z.2.2.2.2.1 (l.drop g)/\m'=z.2.2.2.2.2,⟨⟨aC,aC,aC,aC,aC,B,λj W=>⟨(V,g,R,⟨u.a,g,g⟩,j,m'),⟨rfl,rfl,rfl,rfl,tl j W,rfl⟩,MT⟩⟩,aC,aC,B,λj W=>⟨aC,aC,aC,(V,g,R,⟨u.a,g,g⟩,j,m'),⟨rfl,rfl,rfl,rfl,tl j W,rfl⟩,MT⟩⟩,?_⟩;rintro⟨_,_,_,_,y,_⟩⟨t,F,L,e4,hy,e5⟩;dsimp only at t F L e4 hy e5;subst t F L e4 e5;dsimp only;refine⟨λz=>V=z.1/\⟨u.a,g,g⟩=z.2.1/\Rows h z.2.2.1 (l.drop (if R=true then g+1 else g))/\m'=z.2.2.2,aB (λE=>?_) (λE=>⟨(V,⟨u.a,g,g⟩,y,m'),⟨rfl,rfl,da,rfl⟩,MT⟩),?_⟩
 .have b5:=I E;rw[fH aC];refine⟨aC,aC,B,λj W=>⟨(V,⟨u.a,g,g⟩,j,m'),⟨rfl,rfl,by rw[if_pos E];grind[Eg],rfl⟩,MT⟩⟩
 rintro⟨_,_,y2,_⟩⟨t,F,a',L⟩;dsimp only at t F a' L;subst t F L;dsimp only;have hd:Rows h ⟨u.a,g,g⟩ (l.take g):=Zv U C;refine⟨λz=>Rows z.2.2.2 z.1 (l.take g++(if 0<c.new.length then[c.new]else[]))/\y2=z.2.1/\m'=z.2.2.1/\PH.le h z.2.2.2,⟨v.new,.i d rfl,aE (λE=>⟨v.new,.i d rfl,v.new,c.new,rfl,T.gj,hn,λs' h' le a8=>?_⟩) (λE=>⟨(⟨u.a,g,g⟩,y2,m',h),⟨da,rfl,rfl,.refl _⟩,MT⟩)⟩,?_⟩
 .have⟨X,hr,eu,fu⟩:=hd.ex;have c0:X.length=g:=da
  refine⟨rfl,X.map eS,qS X,hr.mono le,λ_ e=>by simp at e,λ_=>⟨da,da,λj h2 o S=>⟨(j,y2,m',h2),⟨?_,rfl,rfl,le.trans o⟩,MT⟩⟩⟩;rw[if_pos aC];refine UU (vs:=[s']) S eu (λi x e=>?_) rfl (λi x e=>?_) da
  .have⟨w,k1,k2⟩:=fu i x e;exact⟨w,k1,k2.mono (le.trans o)⟩
  .cases i with
   |zero=>simp at e;subst e;exact⟨s',rfl,a8.mono o⟩
   |succ i=>simp at e
 rintro⟨x,_,_,Q⟩⟨J,t,F,le⟩;dsimp only at J t F le;subst t F;dsimp only;have c1:=aU.e J;have c2:=Ir J
 have b6:(l.take g++(if 0<c.new.length then[c.new]else[])).length<=100001:=by
  grind
 have c3:(l.drop (if R=true then g+1 else g)).length<=100000:=da
 have du:∀x' h',PH.le Q h'->Rows h' x' (l.take g++(if 0<c.new.length then[c.new]else[])++l.drop (if R=true then g+1 else g))->dR h K (.dg [cS x',cB true]) m' h':=λx' h' a0 hr=>dR.sub sub (le.trans a0) (hY _ hS x' h' (le.trans a0) hr);generalize l.take g++(if 0<c.new.length then[c.new]else[])=a9 at*
 generalize l.drop (if R=true then g+1 else g)=b0 at*
 have a4:Rows Q ⟨x.a,x.len,x.len⟩ a9:=by
  have:=Zv J (n:=x.len) aC
  grind
 have et:((x.len:Nat):Int).toNat=x.len:=rfl;rw[et];have⟨X,b1,eu,fu⟩:=a4.ex;have⟨vs,b4,ev,fv⟩:=(a'.mono le (λ_ _ e=>e.mono le)).ex;refine⟨aC,aC,aC,rfl,X.map eS,qS X,b1,vs.map eS,qS vs,.ay b4,λ_ e=>?_,λ_=>⟨da,da,λj h2 o S=>du j h2 o ?_⟩⟩
 .have:b0=[]:=length_eq_zero_iff.1 bz;exact du ⟨x.a,x.len,x.len⟩ Q (.refl _) da
 .exact UU S eu (λi x e=>by have⟨w,k1,k2⟩:=fu i x e;exact⟨w,k1,k2.mono o⟩) ev (λi x e=>by have⟨w,k1,k2⟩:=fv i x e;exact⟨w,k1,k2.mono o⟩) aC
def kU c s st cs:=if nC c s st≠0 then([],nC c s st)else oV c s st (dQ st) cs
structure dCJ(m:MH)(h:PH)(w:Sl)(us:tq)(st:List tj):Prop where
 len:w.len=us.length
 gx:us.length=st.length
 rd:∀(i:Nat) u,us[i]?=some u->∃b o,w.a=some ⟨b,o,none⟩/\aK m h b (o+i*1) [Sl.val u]
 rows:∀(i:Nat) u l,us[i]?=some u->st[i]?=some l->Rows h u l
def bHJ:AC:=λc m h K=>∃w e d,c=[KH w]/\dCJ m h w e d/\d.length<=1000/\K (cI (dQ d)) m h
def sX h s cs:=aU h 3 eG.ag (AW h) s cs
def c2J:AC:=λe m h K=>∃sc c f g s d cs,e=[aS sc,cI c,KH f,cS g]/\dV h s sc/\bm h f d/\sX h g cs/\1<=c/\c<=3/\d.length<=1000/\
 ∀w h',PH.le h h'->bm h' w (kU c s d cs).1->K (.dg [KH w,cI (kU c s d cs).2]) m h'
def dlZ(d:Int)(sc:bQ)(sl c:Sl):=tH [(72,Ra),(73,YQ),(74,bHJ),(75,bAJ),(76,aFQ)]
 [(6,{A:=Nat×Sl×MH×PH,po:=true,st:=λ⟨i,w,m,h⟩=>bO 115 119 ([(1,iv d),(3,sv c),SW 4,SW 8,SW 11]++WF 35 sl i) [UV 4 29 sc.ag,(8,.cells 38 [.val (.slice none 0 0)]),(11,.cells 38 [.val (.slice w.a w.len w.cap)])] m h}),
  (9,{A:=Nat×Sl×Nat×Sl×MH×PH,st:=λ⟨j,u,i,w,m,h⟩=>bO 115 119 ([(1,iv d),(3,sv c),SW 4,SW 8,SW 11,(12,iv i),(35,sv sl),(36,iv sl.len),(37,iv i)]++WF 42 u j) [UV 4 29 sc.ag,(8,.cells 38 [.val (.slice none 0 0)]),(11,.cells 38 [.val (.slice w.a w.len w.cap)])] m h}),
  (16,{A:=Nat×Int×Sl×MH×PH,st:=λ⟨i,n,w,m,h⟩=>bO 115 119 ([(1,iv d),SW 4,SW 8,SW 11,(16,iv n)]++WF 65 c i) [UV 4 29 sc.ag,(8,.cells 38 [.val (.slice none 0 0)]),(11,.cells 38 [.val (.slice w.a w.len w.cap)])] m h})]
 [] [] [2036,1095,0] [] false
abbrev DU(a:tt)(b:Int)(c:Nat->Option Obj)(d:Nat->Nat->Option Value):=a (CV.dg (dZ (mX kS) b)) c d
abbrev Ev a:=eQ (oQ 38 a)
abbrev kP:=Ev A8
abbrev iT a b:=oQ 38 (zU a)=oQ 38 (zU b)
abbrev rJ(a:Nat×Sl×Nat×Sl×MH×PH):=a.2.2.1
abbrev nE(a:Nat×Sl×Nat×Sl×MH×PH):=a.2.2.2
abbrev RL(a:(Nat×Int×Sl×MH×PH->Prop)->(Nat×Int×Sl×MH×PH)->Prop)(b:(Nat×Int×Sl×MH×PH->Prop)->(Nat×Int×Sl×MH×PH->Nat)->(Nat×Int×Sl×MH×PH)->Prop):=∃x d,(∃c,a x c)/\∀c,b x d c
abbrev zI(a:Nat×Int×Sl×MH×PH):=a.2.2
abbrev oE a:=(zI a).1
abbrev oF a:=gX (zI a)
abbrev oG a:=gT (zI a)
attribute [push_cast] DU Ev kP iT rJ nE RL zI oE oF oG
def To sc t sl g:=λm h K=>CN (λv s=>xQ (λV R=>∃F,bE (cW sc) (bL (fD t) (aT sl))=bE (cW v) (bL (fD F) (aT V))/\dV h s v/\bm h V R/\Bw R/\1<=F/\F<=3/\cM (nC F s R) 0 (DU K (nC F s R) m h) (ML (aF sl) (aF sl<=aF sl) sl (fY (λW T=>vT m T h W 95 1 (DX (aF sl) kS)->∃(I:Nat×Sl×MH×PH->Prop)(X:Nat×Sl×MH×PH->Nat),(uP T h->∃x,I x/\bM t/\aH g/\eZ/\eC/\nF/\aH sl/\aY sl/\bB x.1/\aW sc/\kP/\iT W x.2.1/\wA T h (gX x.2) (gT x.2)/\True)/\∀x,I x->aX x.1 (aF sl) (ab sl x.1 1 aT (gX x.2) (gT x.2) (λy=>∃(I1:Nat×Sl×Nat×Sl×MH×PH->Prop)(G:Nat×Sl×Nat×Sl×MH×PH->Nat),(∃d,I1 d/\bM t/\aH g/\eZ/\eC/\nF/\bP x.1 (rJ d)/\aH sl/\aY sl/\bP x.1 (rJ d)/\bC y d.2.1/\cT y d.2.1/\bB d.1/\aW sc/\kP/\iT x.2.1 (nE d).1/\eV (iU (gX x.2) (nE d)) (dH (gT x.2) (nE d).2))/\∀d,I1 d->aX d.1 (aF d.2.1) (ab d.2.1 d.1 1 aT (gX (nE d)) (gT (nE d)) (λL=>aM (λz A=>let Ac:=(↑(rJ d):Int)<aF (nE d).1;aR (nE d).1.a z A/\0<=(↑(rJ d):Int)/\Ac/\∃j,let N:=aK (gX (nE d)) (gT (nE d)) z (bI A (rJ d) 1) (aT j);N/\N/\Be L (gT (nE d)) (λM n=>let Aa:=aK (gX (nE d)) n z (bI A (rJ d) 1) (aT j);uF Aa Aa (λf=>cH (gX (nE d)) (bK j) 75 1 f/\cJ (fS f 1*24)/\fA f/\fY (λO B=>cL (gX (nE d)) B (bK j) O 75 1 (iI f M)->aM (λC D=>aR (nE d).1.a C D/\0<=(↑(rJ d):Int)/\Ac/\am B C (bI D (rJ d) 1) (aT O) (λP=>∃e,I1 e/\G e<G d/\bM t/\aH g/\eZ/\eC/\nF/\bP (rJ d) (rJ e)/\aH sl/\aY sl/\bP (rJ d) (rJ e)/\bC d.2.1 e.2.1/\cT d.2.1 e.2.1/\fI (bA d.1 1)=bR e.1/\aW sc/\kP/\kO (iT (nE d).1 (nE e).1) (iU P (nE e)) (dH n (nE e).2))))))))) (uP (gX (nE d)) (gT (nE d))->∃f,I f/\X f<X x/\bM t/\aH g/\eZ/\eC/\nF/\aH sl/\aY sl/\fI (bA (rJ d) 1)=bR f.1/\aW sc/\kP/\eV (iT (nE d).1 f.2.1) (wA (gX (nE d)) (gT (nE d)) (gX f.2) (gT f.2))))) (Ka (λw u=>∃M,eO (oL x.2.1) (oL w)/\dCJ (gX x.2) (gT x.2) w u M/\Bw M/\RL (λI1 d=>I1 d/\bM t/\eP 4/\eC/\nF/\cG (dQ M) d.2.1/\aH g/\aY g/\bB d.1/\aW sc/\kP/\iT x.2.1 (oE d)/\eV (iU (gX x.2) (zI d)) (dH (gT x.2) (zI d).2)) (λI1 G d=>I1 d->aX d.1 (aF g) (ab g d.1 3 jM (oF d) (oG d) (λy=>∃O,J6 (λY Z c=>∃B,bE (cW sc) (bL (fD t) (jM y))=bE (cW O) (bL (fD B) (jM Y))/\dV (oG d) Z O/\AW (oG d) c Y/\1<=B/\B<=3/\cC (sV B Z c) (DU K 71 (oF d) (oG d)) (aM (λH J=>aR (oE d).a H J/\0<=y.ah/\y.ah<aF (oE d)/\∃L,aK (oF d) (oG d) H (dN J y.ah 1) (aT L)/\F5 (λs7 u1=>∃v2 S l Q,bE (cW sc) (bL (tV L) (jM y))=bE (cW s7) (bL (tV u1) (jM v2))/\dV (oG d) S s7/\AW (oG d) Q v2/\Rows (oG d) u1 l/\mr (jJ S Q.j) l/\Ew l 100000/\jB Q.new/\(mW S l Q=none->∀_:Sl,DU K 81 (oF d) (oG d))/\∀l1,mW S l Q=some l1->jA (λf n=>cO (oG d) n (Rows n f l1) (aM (λz A=>aR (oE d).a z A/\0<=y.ah/\y.ah<aF (oE d)/\∃j,let Ab:=j6 d.2.1 (jQ (aF f) (aF j)); aK (oF d) n z (dN A y.ah 1) (aT j)/\eH Ab 512 (DU K 2 (oF d) n) (aM (λC D=>aR (oE d).a C D/\0<=y.ah/\y.ah<aF (oE d)/\i6 (λU E=>yA (oF d) C (gU U E 0)/\iP (dN D y.ah 1) U/\∀P,cF (oF d) P C (rC U (dN D y.ah 1) (aT f)) E->∃e,I1 e/\G e<G d/\bM t/\eZ/\eC/\nF/\cG Ab e.2.1/\aH g/\aY g/\fI (bA d.1 1)=bR e.1/\aW sc/\kP/\kO (iT (oE d) (oE e)) (iU P (zI e)) (dH n (zI e).2))))))))))))) (K (CV.dg (dZ (oL (oE d)) 0)) (oF d) (oG d))))))))))
theorem cNZ{d c}(h:sV d s c=true)(e:0<c.new.length):jJ s c.j c.new=kK s c:=by
 simp only[sV,su,Bool.or_eq_true,beq_iff_eq]at h
 grind[kK,eX]
theorem LK{u c l g}(z:sV u s c=true)(d:mr (jJ s c.j) l)(e:mW s l c=some g):mr (jJ s c.j) g/\g.length<=l.length+1:=by
 have D:=OZ (key:=kK s c) d;have A:=ciZ (jJ s c.j) l (kK s c);have E:=Kf (key:=kK s c) d;unfold mW at e;dsimp only at e;split at e
 .cases e
 cases e
 have o:∀y∈l.drop (if lO (jJ s c.j) l (kK s c)=true then qT (jJ s c.j) l (kK s c)+1 else qT (jJ s c.j) l (kK s c)),cV (kK s c) (jJ s c.j y)<0:=by
  intro y B;have t:=lG (kK s c) (jJ s c.j y);split at B
  .rename_i C;have f:=C;simp only[lO,su,s0,beq_iff_eq]at f;obtain⟨f,j⟩:=f;rw[getD_eq_getElem?_getD,sh f]at j;have j:=eX.1 j;have n:List.Pairwise (λx y=>cV (jJ s c.j x) (jJ s c.j y)<0) (l.drop (qT (jJ s c.j) l (kK s c))):=List.Pairwise.sublist (drop_sublist _ l) d
   grind[drop_eq_getElem_cons,pairwise_cons]
  grind[Int.lt_or_eq_of_le,mem_of_mem_drop,eX]
 have n:List.Pairwise (λx y=>cV (jJ s c.j x) (jJ s c.j y)<0) l:=d;have F:List.Pairwise (λx y=>cV (jJ s c.j x) (jJ s c.j y)<0) (l.drop (if lO (jJ s c.j) l (kK s c)=true then qT (jJ s c.j) l (kK s c)+1 else qT (jJ s c.j) l (kK s c))):=List.Pairwise.sublist (drop_sublist _ l) n;have G:List.Pairwise (λx y=>cV (jJ s c.j x) (jJ s c.j y)<0) (l.take (qT (jJ s c.j) l (kK s c))):=List.Pairwise.sublist (take_sublist _ l) n;constructor
 .show List.Pairwise (λx y=>cV (jJ s c.j x) (jJ s c.j y)<0) _;rw[append_assoc,pairwise_append]
  grind[singleton_append,pairwise_cons,cNZ,mem_singleton,IX]
 grind
theorem fb l st:dQ (l::st)=(l.length:Int)+dQ st:=by simp[dQ]
theorem fg:∀{st:List tj}{t:Nat}{l c:tj},st[t]?=some l->dQ (st.set t c)=dQ st+((c.length:Int)-(l.length:Int))
 |[],t,l,c,h=>by simp at h
 |a::st,0,l,c,h=>by
  simp at h;subst h;rw[set_cons_zero,fb,fb];omega
 |a::st,t+1,l,c,h=>by
  rw[set_cons_succ,fb,fb,fg (mp h)];omega
theorem On:∀{st:List tj}{t:Nat}{l:tj},st[t]?=some l->(l.length:Int)<=dQ st
 |[],t,l,h=>by simp at h
 |a::st,0,l,h=>by
  simp at h;subst h
  have:0<=dQ st:=by
   induction st with
   |nil=>simp[dQ]
   |cons b st c=>grind[fb]
  grind[fb]
 |a::st,t+1,l,h=>by
  have:=On (st:=st) (t:=t) (mp h)
  grind[fb]
structure bkZ(s:kD)(st:List tj):Prop where
 len:st.length=s.c.length
 up:∀(j:Nat) l,st[j]?=some l->mr (jJ s j) l
 cnt:dQ st<=512
theorem Jg{g st}(h:nC g s st=0):dO s=0/\bkZ s st:=by
 unfold nC at h;split at h
 .omega
 rename_i u;split at h
 .cases h
 rename_i z;split at h
 .cases h
 rename_i A;split at h
 .rename_i n;refine⟨aC,aC,λj l e=>?_,by grind[dQ]⟩;have f:st.length=s.c.length:=by omega
  have o:=(sg e);obtain⟨d,c⟩:∃d,s.c[j]?=some d:=⟨_,sh aC⟩
  have t:=KN.of (n j d l c e).2;show List.Pairwise (λx y=>cV (jJ s j x) (jJ s j y)<0) l;simp only[pA c];exact t
 .cases h
theorem bkZ.set{o st c l f}(x:bkZ s st)(g:sV o s c=true)(t:0<=c.j)(u:st[c.j.toNat]?=some l)(e:mW s l c=some f)(B:dQ st+((f.length:Int)-(l.length:Int))<=512):bkZ s (st.set c.j.toNat f):=by
 have z:((c.j.toNat:Nat):Int)=c.j:=Int.toNat_of_nonneg t;refine⟨by rw[length_set];exact x.len,λj y d=>?_,by grind[fg]⟩;rw[getElem?_set]at d;split at d
 .rename_i A;subst A;split at d
  .cases d;have n:=x.up _ _ u;rw[z]at n⊢
   exact(LK g n e).1
  .cases d
 .exact x.up j y d
theorem Qu{g st}(h:nC g s st=0){j:Nat}{l}(e:st[j]?=some l){r}(n:r∈l):r.length<=8:=by
 have o:=(Jg h).1;unfold nC at h;rw[if_neg aC]at h;split at h
 .cases h
 split at h
 .cases h
 rename_i z;split at h
 .rename_i t;have f:st.length=s.c.length:=by omega
  have u:=(sg e);obtain⟨d,c⟩:∃d,s.c[j]?=some d:=⟨_,sh aC⟩
  have y:=((t j d l c e).1 r n)
  rw[(jK.1 y).1];exact BK o d (si c)
 .cases h
theorem ayX{n c}(o:dO s=0)(h:sV n s c=true):jE s c.j=true/\c.new.length<=8:=by
 simp only[sV,su,Bool.or_eq_true,beq_iff_eq]at h;obtain⟨⟨⟨⟨f,_⟩,_⟩,d⟩,_⟩:=h;refine⟨f,?_⟩;rcases d with d|d
 .omega
 have g:=f;simp only[jE,su,s0]at g;obtain⟨j,e⟩:∃j,s.c[c.j.toNat]?=some j:=⟨_,sh aC⟩
 rw[wF e f]at d;rw[(jK.1 d).1];exact BK o j (si e)
theorem Tg m h:wA m h m h:=⟨λ_ _ e=>e,.refl _,λ_ _ _ e=>.inl e⟩
theorem Do{p:Prop}(h:p:=by repeat' (first|with_reducible rfl|exact trivial|assumption|refine⟨?_,?_⟩|rfl|(rw[fH aC];done)|(rw[fH aC]))):p:=h
theorem Yb(us:tq):(us.map eS).flatten=us.map Sl.val:=by
 induction us with
 |nil=>rfl
 |cons u us c=>rw[map_cons,flatten_cons,c];rfl
theorem ZR{w}{us:tq}(r:cH m w 95 1 (us.map eS))(t:i<us.length):∃b cs,w.a=some ⟨b,0,none⟩/\m b=some (.cells cs 95 (0,0))/\0+i*1<cs.size/\
 ∀m' v,iZ m m' b (.cells ⟨aq cs.toList (0+i*1) [Sl.val v]⟩ 95)->cH m' w 95 1 ((us.set i v).map eS):=by
 rcases r.ex with⟨_,e⟩|⟨b,d,c,rfl,j,n,o,u,g⟩
 .simp at e;grind
 rw[length_map]at n g;rw[Yb]at g;refine⟨b,c,rfl,j,aC,λm' v up=>⟨qS _,.inr ⟨b,d,_,da,up.y,da,o,?_,?_⟩⟩⟩
 all_goals
  have f:aq c.toList (0+i*1) [Sl.val v]=c.toList.set i (Sl.val v):=by
   rw[set_eq_take_append_cons_drop,if_pos (by rw[Array.length_toList];omega)];simp only[aq,Nat.zero_add,Nat.mul_one,length_singleton,append_assoc];rfl
  rw[f]
 .grind
 grind[length_map,length_set,Yb,map_set,take_set]
theorem aNX:uz 74 bHJ:=by
 refine gV func74 ?_;rintro F m h K⟨w,G,d,rfl,e,S,H⟩;refine⟨bvQ w m h,rfl,aG,Oa w,bt,?_⟩;dsimp only[Oa,push_cast];have t:w.len=d.length:=e.len.trans e.gx
 have c:∀l∈d,l.length<=502633886983:=λl I=>by
  have⟨j,C⟩:=mem_iff_getElem?.1 I;have y:=(sg C);have:=e.gx;exact(e.rows j _ l (sh aC) C).len
 refine⟨λz=>z.1<=d.length/\z.2=dQ (d.take z.1),λz=>d.length-z.1,⟨(0,0),⟨bu,by simp[dQ]⟩,MT⟩,?_⟩;rintro⟨i,n⟩⟨J,g⟩;dsimp only at J g⊢
 subst g;refine aE (λA=>?_) (λL=>?_)
 .have⟨l,f⟩:=eF t A;have y:=(sg f);have D:=e.gx;obtain⟨u,E⟩:∃u,G[i]?=some u:=⟨_,sh aC⟩
  have⟨b,o,M,rd⟩:=e.rd i u E;have O:=e.rows i u l E f;have B:=aU.e O;have P:=uT (l:=d.take (i+1)) λx f=>c x (mem_of_mem_take f);have Q:=(uT (l:=d.take i) λx f=>c x (mem_of_mem_take f)).1;have R:=HW f;rw[length_take]at P;refine⟨b,o,M,aC,aC,u,rd,(i+1,dQ (d.take (i+1))),⟨aC,rfl⟩,aC,?_⟩;rw[dW aC aC,B,<-R];exact MT
 .rw[sm aC];exact H
structure Re(m m1:MH)(h:PH)(w:Sl)(st:List tj)(i k:Nat)(mz:MH)(hz:PH)(us:tq):Prop where
 len:us.length=st.length
 row:cH mz w 95 1 (us.map eS)
 key:∀b,m1 b≠none->mz b≠none
 sub:dh m mz
 le:PH.le h hz
 done:∀(j:Nat) u l,j<i->us[j]?=some u->st[j]?=some l->Rows hz u l
 jg:∀(j:Nat) u,k<=j->us[j]?=some u->u=bS
theorem Rows.mono{s l}(x:Rows h s l)(le:PH.le h h'):Rows h' s l:=aU.mono x le λ_ _ e=>e.mono le
theorem Re.ig{f:MH}{w:Sl}{st:List tj}{g t us}{vs:tq}{c l}(A:Re m f h w st i (i+1) g t us)(H:dh m f)(I:∀b j,w.a=some ⟨b,j,none⟩->f b≠none)(d:uP g t)(J:us[i]?=some c)(L:fU f g c 75 1 (vs.map eS))(M:st[i]?=some l)(z:vs.length=l.length)(O:l.length<=100000)(B:∀(k:Nat) r,l[k]?=some r->∃v,vs[k]?=some v/\bF t v r):Re m f h w st (i+1) (i+1) (iX f g) (kC f g t) us:=by
 have C:∀b,f b≠none->iX f g b=g b:=λb D=>by
  grind[iX]
 have n:=mU (m0:=f) d;refine⟨A.len,cH.br A.row λb j e=>C b (I b j e),λb D=>by rw[C b D];exact A.key b D,λb o e=>by rw[C b (by rw[H b o e];simp)];exact A.sub b o e,A.le.trans n,λj u y S E F=>?_,A.jg⟩;by_cases G:j=i
 .subst G;rw[J]at E;cases E;rw[M]at F;cases F;exact⟨⟨vs,fU.ig L,z.symm,λk r P=>by have⟨v,Q,R⟩:=B k r P;exact⟨v,Q,R.mono n⟩⟩,aC⟩
 .exact(A.done j u y aC E F).mono n
theorem Re.step{d:MH}{w:Sl}{st:List tj}{y m2:MH}{B H us c t}{cs:Array Value}{I}(A:Re m d h w st i (i+1) y H us)(L:dh m d)(O:∀b j,w.a=some ⟨b,j,none⟩->d b≠none/\m b=none)(le:PH.le H h')(J:fU d y c 75 1 xs)(g:cL y m2 c t 75 1 I)(P:i<us.length)(Q:w.a=some ⟨b,0,none⟩)(up:iZ m2 B b (.cells ⟨aq cs.toList (0+i*1) [Sl.val t]⟩ 95))(put:cH B w 95 1 ((us.set i t).map eS)):Re m d h w st i (i+1) B h' (us.set i t)/\fU d B t 75 1 I:=by
 have C:∀x j,t.a=some ⟨x,j,none⟩->d x=none:=λx j e=>by
  rcases g.f x j e with D|⟨k,D⟩
  .cases f:d x with
   |none=>rfl
   |some o=>exact absurd D (A.key x (by rw[f];simp))
  .exact J.f x k D
 have n:∀x o,d x≠none->y x=some o->m2 x=some o:=λx o E e=>g.ai x o e λj f=>E (J.f x j f);refine⟨⟨by rw[length_set];exact A.len,put,λx E=>?_,λx o e=>?_,A.le.trans le,λj u l F z M=>?_,λj u F z=>?_⟩,cH.br g.row λx j e=>up.ai x λf=>?_,C⟩
 .by_cases e:x=b
  .subst e;rw[up.y];simp
  .rw[up.ai x e];cases f:y x with
   |none=>exact absurd f (A.key x E)
   |some o=>grind
 .have G:x≠b:=λf=>da
  rw[up.ai x G];exact n x o (by rw[L x o e];simp) (A.sub x o e)
 .rw[getElem?_set_ne aC]at z;exact(A.done j u l F z M).mono le
 .rw[getElem?_set_ne aC]at z;exact A.jg j u F z
 grind
structure d3Q(m:MH)(h:PH)(s:kD)(w:Sl)(n:Nat)(mz:MH)(hz:PH)(us:tq)(st:List tj):Prop where
 len:us.length=st.length
 wlen:w.len=us.length
 row:cH mz w 95 1 (us.map eS)
 sub:dh m mz
 le:PH.le h hz
 rows:∀(j:Nat) u l,us[j]?=some u->st[j]?=some l->Rows hz u l
 up:bkZ s st
theorem dR.ig{r}(sub:dh m m')(le:PH.le h h')(f:uP m' h'->PH.le h (kC m m' h')->K r m (kC m m' h')):dR h K r m' h':=λg=>by
 have d:uP m' h':=⟨g⟩
 have c:=le.trans (mU (m0:=m) d);refine⟨m,kC m m' h',sub,c,λb i v e=>?_,f d c⟩
 grind[kC]
theorem Vu:uz 40 c2J:=by
 refine Uy func40 ?_;rintro f9 m h K⟨sc,I,sl,ch,s,t,cs,rfl,hs,J,hc,h1,h3,hn,hK⟩;refine⟨dlZ I sc sl ch,rfl,aD aNZ (aD Vj (aD aNX (aD bYJ (aD bYZ aG)))),To sc I sl ch m h (dR h K),bt,?_⟩;show To sc I sl ch m h (dR h K);dsimp only[To,push_cast];have c4:=aU.e J;have c5:=aU.e hc;have f4:∀U,bm U bS []:=λU=>aU.nil U 1 eS _
 have fj:∀e mz hz,dh m mz->PH.le h hz->kU I s t cs=([],e)->dR h K (.dg [KH bS,cI e]) mz hz:=λe mz hz sub le he=>by
  grind[bS,dR.sub]
 refine⟨sc,s,sl,t,I,rfl,hs,J,hn,h1,h3,aB (λe0=>?_) (λe0=>?_)⟩
 .exact fj _ m h (dh.refl m) (.refl _) (by grind[kU])
 have e0:nC I s t=0:=da
 have⟨c6,a8⟩:=Jg e0;have hE:kU I s t cs=oV I s t (dQ t) cs:=by grind[kU]
 refine⟨aC,aC,aC,aC,λw L F=>?_⟩;have hw:∀b j,w.a=some ⟨b,j,none⟩->L b≠none/\m b=none:=λb j e=>⟨by have⟨c7,V⟩:=cH.cj F.row e;rw[V];simp,(F.f b j e).m_⟩
 have s1:dh m L:=λb o e=>by
  rw[F.ai b λj V=>?_];exact e
  grind
 have g':w.len=t.length:=by rw[cH.e F.row,length_replicate];omega
 have c8:cH L w 95 1 ((replicate t.length bS).map eS):=by
  have:=F.row;rw[show((sl.len:Nat):Int).toNat=t.length by omega]at this;rw[map_replicate];exact this
 refine⟨λz=>w=z.2.1/\z.1<=t.length/\∃G,Re m L h w t z.1 z.1 z.2.2.1 z.2.2.2 G,λz=>t.length-z.1,λ_=>⟨(0,w,L,h),⟨rfl,Nat.zero_le _,replicate t.length bS,bu,c8,λb e=>e,s1,.refl _,λj u l hj=>by omega,λj u _ hu=>?_⟩,?_⟩,?_⟩
 .grind
 .simp_all[Tg,Do]
 rintro⟨i,_,mz,hz⟩⟨rfl,hi,G,A⟩;dsimp only at hi A⊢
 refine aE (λM=>?_) (λc9=>?_)
 .have⟨l,O⟩:=eF c4 M;have g0:=(sg O);have⟨b,o,y,ea,rd,hy⟩:=aU.at J O;have d':=aU.e hy;have P:=A.len;obtain⟨c0,a9⟩:∃c,G[i]?=some c:=⟨_,sh aC⟩
  obtain rfl:=A.jg i c0 (Nat.le_refl _) a9;have g1:l.length<=512:=by have h4:=On O;have h5:=a8.cnt;omega
  refine⟨b,o,ea,aC,M,y,.ay (rd.mono A.le),λz=>y=z.2.1/\i=z.2.2.1/\w=z.2.2.2.1/\z.1<=l.length/\∃G c vs,Re m L h w t i (i+1) z.2.2.2.2.1 z.2.2.2.2.2 G/\G[i]?=some c/\fU L z.2.2.2.2.1 c 75 1 (vs.map eS)/\vs.length=z.1/\∀(k:Nat) r,(l.take z.1)[k]?=some r->∃v,vs[k]?=some v/\bF z.2.2.2.2.2 v r,λz=>l.length-z.1,⟨(0,y,i,w,mz,hz),⟨rfl,rfl,rfl,Nat.zero_le _,G,bS,[],⟨A.len,A.row,A.key,A.sub,A.le,A.done,λj u hj hu=>A.jg j u aC hu⟩,a9,fU.nil L mz 75 1,rfl,λk r e=>by simp at e⟩,MT⟩,?_⟩;rintro⟨j,_,_,_,Q,U⟩⟨rfl,rfl,rfl,hj,a4,c,vs,B,b',fc,a5,W⟩;dsimp only at hj B b' fc a5 W⊢
  refine aE (λa0=>?_) (λf5 D=>?_)
  .have⟨r,hr⟩:=eF d' a0;have a6:=(sg hr);have⟨b2,o2,x,V,d0,d1⟩:=aU.at hy hr;have g2:=Qu e0 O (si hr);have d2:=B.len
   have X:∀T,∃H,w.a=some ⟨H,0,none⟩/\aK Q T H (0+((i:Int)).toNat*1) [Sl.val c]:=λT=>by
    have⟨H,Y,E⟩:=B.row.rd (h:=T) (i:=i) (e:=eS c) da;exact⟨H,Y,by rw[Nat.zero_add];exact E⟩
   have⟨H,Y,E⟩:=X U
   have Z:∀T,aK Q T H (0+((i:Int)).toNat*1) [Sl.val c]:=λT=>by
    simp_all
   refine⟨b2,o2,V,aC,a0,x,.ay (d0.mono B.le),H,0,Y,aC,aC,c,E,E,x,r,rfl,d1.mono B.le,aC,λs' h' le d3=>⟨Z h',Z h',vs.map eS,fc.row,da,da,λc' m2 g=>?_⟩⟩
   have a7:cH m2 w 95 1 (a4.map eS):=cH.br B.row λb5 k e5=>by
    have⟨c7,e6⟩:=cH.cj B.row e5;rw[e6];exact g.ai b5 _ e6 λk2 e7=>(hw b5 k e5).1 (fc.f b5 k2 e7)
   have⟨b4,d4,e4,d5,a',put⟩:=ZR a7 (i:=i) aC;refine⟨b4,0,e4,aC,aC,d4,95,⟨d5⟩,a',λm3 up=>?_⟩;have⟨B',d6⟩:=B.step s1 hw le fc g aC e4 up (put m3 c' up);refine⟨(j+1,y,i,w,m3,h'),⟨rfl,rfl,rfl,aC,a4.set i c',c',vs++[s'],B',da,by rw[sn];exact d6,da,?_⟩,aC,MT⟩;exact Gj (R:=λr v=>bF U v r) (R':=λr v=>bF h' v r) hj a5 hr W (λ_ _ e=>e.mono le) d3
  .have a6:j=l.length:=by omega
   subst a6;rw[take_length]at W;have C:=B.ig s1 (λb j e=>(hw b j e).1) D b' fc O a5 aC W;have fz:=Pf (m0:=L) D;exact⟨(i+1,w,iX L Q,kC L Q U),⟨rfl,aC,a4,C⟩,aC,Do⟩
 .have b0:i=t.length:=by omega
  subst b0;have P:=A.len;refine⟨w,G,t,rfl,⟨aC,A.len,λj u hu=>?_,λj u l hu J=>A.done j u l (sg J) hu J⟩,hn,?_⟩
  .have⟨H,Y,E⟩:=A.row.rd (h:=hz) (i:=j) (e:=eS u) da;exact⟨H,0,Y,by rw[Nat.zero_add];exact E⟩
  refine⟨λz=>w=z.2.2.1/\z.1<=cs.length/\∃G f,d3Q m h s w t.length z.2.2.2.1 z.2.2.2.2 G f/\z.2.1=dQ f/\oV I s f (dQ f) (cs.drop z.1)=oV I s t (dQ t) cs,λz=>cs.length-z.1,⟨(0,dQ t,w,mz,hz),⟨rfl,Nat.zero_le _,G,t,⟨A.len,aC,A.row,A.sub,A.le,λj u l hu J=>A.done j u l (sg J) hu J,a8⟩,rfl,da⟩,MT⟩,?_⟩;clear A P G hi;rintro⟨k,n,_,Q,hy⟩⟨rfl,hk,G,f,A,rfl,hF⟩;dsimp only at hk A hF⊢
  have P:=A.len;have d7:=A.wlen;have d8:=A.up.len;have f6:=A.up.cnt;have f7:=hc.len;refine aE (λM=>?_) (λc9=>?_)
  .have⟨c,b1⟩:=eF c5 M;have⟨b,o,v,ea,rd,hv⟩:=aU.at hc b1;have b7:=hv.mono A.le;rw[ci b1]at hF;refine⟨b,o,ea,aC,M,v,.ay (rd.mono A.le),sc,v,s,c,I,rfl,hs.mono A.le,b7,h1,h3,aB (λe1=>?_) (λe1=>?_)⟩
   .have e1:sV I s c=false:=da
    refine fj 71 Q hy A.sub A.le ?_;simp_all[oV]
   have e1:sV I s c=true:=da
   have⟨ht,d9⟩:=ayX c6 e1;simp only[jE,su,s0]at ht;have a1:v.ah=c.j:=hv.ir;obtain⟨l,S⟩:∃l,f[c.j.toNat]?=some l:=⟨_,sh aC⟩
   obtain⟨u,e'⟩:∃u,G[c.j.toNat]?=some u:=⟨_,sh aC⟩
   have b8:=A.rows _ u l e' S;have f8:=On S;have e9:f.getD c.j.toNat []=l:=da
   rw[oV,if_neg da,e9]at hF
   have a2:mr (jJ s c.j) l:=by
    have:=A.up.up _ _ S
    grind
   have X:∀T,∃H,w.a=some ⟨H,0,none⟩/\aK Q T H (0+v.ah.toNat*1) [Sl.val u]:=λT=>by
    have⟨H,Y,E⟩:=A.row.rd (h:=T) (i:=c.j.toNat) (e:=eS u) da;exact⟨H,Y,by rw[Nat.zero_add,a1];exact E⟩
   have⟨H,Y,E⟩:=X hy;refine⟨H,0,Y,aC,aC,u,E,sc,u,v,s,l,c,rfl,hs.mono A.le,b7,b8,a2,aC,aC,λV _=>?_,λl' V x h' le U=>?_⟩
   .refine fj 81 Q hy A.sub A.le ?_
    grind
   rw[V]at hF;dsimp only at hF;have⟨b4,e4,Z⟩:=X h';have g3:=aU.e U;have g4:=aU.e b8;have g5:=(LK e1 a2 V).2
   have b9:IntKind.i64.wrap (dQ f+IntKind.i64.wrap ((x.len:Int)-(u.len:Int)))=dQ f+((l'.length:Int)-(l.length:Int)):=by
    grind[dW]
   refine⟨b4,0,e4,aC,aC,u,Z,?_⟩;refine aE (λe5=>?_) (λe5=>?_)
   .rw[b9]at e5;refine fj 2 Q h' A.sub (A.le.trans le) ?_
    grind
   rw[b9]at e5⊢
   rw[if_neg aC]at hF;have⟨b5,f',e6,f0,a',put⟩:=ZR A.row (i:=c.j.toNat) aC;rw[<-a1]at a' put;refine⟨b5,0,e6,aC,aC,f',95,⟨f0⟩,a',λm3 up=>?_⟩;have c1:=A.up.set e1 ht.1 S V aC;refine⟨(k+1,dQ f+((l'.length:Int)-(l.length:Int)),w,m3,h'),⟨rfl,aC,G.set c.j.toNat x,f.set c.j.toNat l',⟨da,da,?_,λb6 o6 e7=>?_,A.le.trans le,λj u2 y2 c2 c3=>?_,c1⟩,(fg S).symm,by grind[fg]⟩,aC,MT⟩
   .have:=put m3 x up
    grind
   .have:b6≠b5:=λe8=>da
    show m3 b6=some o6;rw[up.ai b6 this];exact A.sub b6 o6 e7
   .by_cases hj:c.j.toNat=j
    .grind
    .rw[getElem?_set_ne hj]at c2 c3;exact(A.rows j u2 y2 c2 c3).mono le
  .have f1:k=cs.length:=by omega
   subst f1;rw[drop_length,oV]at hF;have a3:kU I s t cs=(f,0):=da
   refine dR.ig A.sub A.le λd f2=>?_;have f3:=mU (m0:=m) d;have fr:fU m Q w 95 1 (G.map eS):=⟨A.row,λb j e=>(hw b j e).2⟩
   have:=hK w (kC m Q hy) f2 (by rw[a3];exact⟨⟨G,fU.ig fr,A.len.symm,λj l J=>by
    have a6:j<f.length:=(sg J);exact⟨_,sh aC,(A.rows j _ l (sh aC) J).mono f3⟩⟩,da⟩)
   rw[a3]at this;exact this
def uQ s st q:=
 if(iG s [] q).2≠0 then([],(iG s [] q).2)else if pX s st≠0 then([],pX s st)else(GK st q,0)
def Um(st:List tj)(q:ae):=∃c,1<=c/\(∀l∈st,l.length<=c)/\rE c q<=8000000
structure tI(h:PH)(sl:Sl)(st:List tj):Prop where
 qk:bm h sl st
 len:st.length<=1000
 val:sd st
theorem tI.mono{sl st}(x:tI h sl st)(le:PH.le h h'):tI h' sl st:=⟨aU.mono x.qk le λl s c=>aU.mono c le λr t d=>bF.mono d le,x.len,x.val⟩
def dDX:AC:=λd m h K=>∃v s e c w q,d=[aS v,KH e,aQ w]/\dV h s v/\tI h e c/\cQ h q w/\kN m/\((iG s [] q).2=0->pX s c=0->Um c q)/\∀f h',PH.le h h'->Rows h' f (uQ s c q).1->K (.dg [cS f,cI (uQ s c q).2]) m h'
def bFZ:AC:=λc m h K=>∃n,c=[cI n]/\K (aV ⟨4,n,⟨#[]⟩⟩) m h
def dlQ(w:QV)(sl:Sl):=dD [(68,uW),(72,Q9),(81,cSZ),(82,bDX)] [(10,{A:=Nat×tq×Sl×MH×PH,st:=λ⟨i,c,s,m,h⟩=>bO 54 57 ([SW 4,SW 5,(12,.at (.au 34))]++WF 35 s i) [(4,.cells 38 [.val (.slice sl.a sl.len sl.cap)]),UV 5 68 w.ag,(34,.au 95 1 (c.map eS))] m h})] [] [] false
abbrev yS a:=oU a<=900000
abbrev pJ a:=Ev (zU a)
abbrev Hc a:=∀x,vE x a (jB x)
attribute [push_cast] yS pJ Hc
def aiJ v sl w:=λm h K=>F5 (λs p=>∃E,Gn (λn t=>∃q,bE (cW v) (bL EO w.ag)=bE (cW s) (BR p E)/\dV h n s/\an h p t/\cQ h q E/\GS h (iG n t q) (λ_ f=>cM (A5 n t q) 0 (Ft K (A5 n t q) m f) (CN (λF z=>xQ (λG u=>bE (cW v) (bL (fD 3) (aT sl))=bE (cW F) (bL (fD 3) (aT G))/\dV f z F/\bm f G u/\Bw u/\cM (pX z u) 0 (fR K (pX z u) m f) (mQ (λH A=>eO (i7 w) (i7 H)/\cQ f A H/\yS A/\jA (λc B=>cO f B (an B c (fP A)) (ML (aF c) (aF c<=aF c) c (RF (λI x=>I x/\eZ/\eP 5/\eL 34/\bC c (iH x)/\cT c (iH x)/\bB x.1/\pJ sl/\mP (eJ w) (cE 95
 1 (DX (aF c) kS)=C3 95 1 x.2.1) (iU m (uE x)) (dH B (uE x).2)) (λI J x=>I x->aX x.1 (aF (iH x)) (aM (λb o=>aR (iH x).a b o/\0<=(↑x.1:Int)/\x.1<aF (iH x)/\∃y,aK (vI x) (sL x) b (bI o x.1 1) (bV y)/\ab sl y 1 aT (vI x) (sL x) (λO=>0<=(↑x.1:Int)/\x.1<nV (xE x)/\∃e,yT (xE x) (tY x.1) e/\0<e.length/\∃d,I d/\J d<J x/\eZ/\bY/\eL 34/\bC (iH x) (iH d)/\cT (iH x) (iH d)/\fI (bA x.1 1)=bR d.1/\pJ sl/\eJ w/\cE 95 1 (List.set (xE x)
 (tY x.1) (fW O::List.drop 1 e))=C3 95 1 d.2.1/\iU (vI x) (uE d)/\fQ (sL x) (uE d).2))) (bN (sL x) 1 (xE x) (λR C=>∃l P g j,BR R w=BR l P/\bm C l g/\cQ C j P/\nf g j 0/\kN (vI x)/\wO (fO g j 0).1/\Hc (fO g j 0).1/\jA (λQ D=>cO C D (Rows D Q (fO g j 0).1) (mR K Q (vI x) D))))))))))))))))
mutual
theorem Ji:∀q:ae,(fP q).length<=oU q
 |.mk op ta _ _ _ _ _ _ args=>by
  have:=Ss args
  grind[fP,oU,sj]
theorem Ss:∀qs:List ae,(fE qs).length<=uL qs
 |[]=>by simp[fE,uL]
 |q::qs=>by
  have:=Ji q;have:=Ss qs
  grind[fE,uL,sj]
end
theorem Vs:uz 42 dDX:=by
 refine gV func42 ?_;rintro a8 m h K⟨v,s,P,C,w,q,rfl,hs,g,Q,hT,hb,n⟩;refine⟨dlQ w P,rfl,aD Vn (aD bZQ (aD bVJ (aD bVZ aG))),aiJ v P w,bt,?_⟩;dsimp only[aiJ,push_cast];unfold uQ at n;refine⟨v,bS,w,s,[],q,rfl,hs,uH h,Q,λa9 h1 d _=>aB (λe=>?_) (λe=>?_)⟩
 .rw[if_pos (mp e)]at n;exact n ⟨none,0,0⟩ h1 d (aU.nil _ _ _ _)
 have e:(iG s [] q).2=0:=mp e
 rw[if_neg (by simp[e])]at n;refine⟨v,s,P,C,rfl,hs.mono d,(g.mono d).qk,g.len,aB (λF=>?_) (λF=>?_)⟩
 .rw[if_pos da]at n;exact n ⟨none,0,0⟩ h1 d (aU.nil _ _ _ _)
 have F:pX s C=0:=da
 rw[if_neg (by simp[F])]at n;dsimp only at n;have⟨c,c1,c2,c3⟩:=hb e F;have⟨_,_,R,S⟩:=AK e;have H:cX s [] q=((cX s [] q).1,0):=Prod.ext rfl S;have⟨ok,ev,T,len⟩:=XI F g.val c2 c1 H c3;have a5:=Jh R;have U:=Ji q;have I:=Mf H;have b':=(Sk F).2.1;refine⟨w,q,rfl,Q.mono d,aC,λV W D X=>?_⟩;have J:=X.e;have A:=g.mono (d.trans D);have a6:=aU.e A.qk;generalize Y:fP q=f at X J U I;refine⟨aC,aC,aC,aC,λz=>z.1<=f.length/\z.2.2.1=V/\z.2.2.2.1=m/\z.2.2.2.2=W/\∃G,z.2.1=G++replicate (f.length-z.1) ⟨none,0,0⟩/\G.length=z.1/\∀(j:Nat) u t,G[j]?=some u->f[j]?=some t->Rows W u (C.getD t.toNat []),λz=>f.length-z.1,⟨(0,replicate f.length ⟨none,0,0⟩,V,m,W),⟨bu,rfl,rfl,rfl,[],bu,rfl,λj u t h=>by simp at h⟩,?_⟩,?_⟩
 .rw[show((V.len:Int)).toNat=f.length by omega];dsimp only;rw[map_replicate];exact MT
 rintro⟨i,l,s2,m2,h3⟩⟨Z,e3,e4,e5,G,M,L,B⟩;dsimp only at Z e3 e4 e5 M L B⊢
 subst e3 e4 e5;refine aE (λa'=>?_) (λb0=>?_)
 .have⟨t,E⟩:=eF J a';have⟨b,o,ea,rd⟩:=X.im E;have ht:=I t (si E);have b1:t.toNat<C.length:=by omega
  have e6:C[t.toNat]?=some (C.getD t.toNat []):=da
  have⟨b2,o2,u,a0,a1,O⟩:=aU.at A.qk e6;have b3:l.length=f.length:=da
  have a2:l[i]?=some ⟨none,0,0⟩:=by
   grind
  refine⟨b,o,ea,aC,aC,t,.ay rd,b2,o2,a0,ht.1,aC,u,.ay a1,aC,da,[B8],by rw[getElem?_map,show((i:Int)).toNat=i from rfl,a2];rfl,bu,(i+1,l.set i u,s2,m2,h3),⟨aC,rfl,rfl,rfl,G++[u],?_,by simp[L],λj u' t' h7 h8=>?_⟩,aC,?_⟩
  .dsimp only;rw[M,set_append,if_neg aC,append_assoc];congr 1;rw[show f.length-i=(f.length-(i+1))+1 by omega,replicate_succ,show i-G.length=0 by omega];rfl
  .grind
  .dsimp only
   have e9:((l.map eS).set ((i:Int)).toNat (fW u::List.drop 1 [B8]))=(l.set i u).map eS:=by
    rw[map_set];rfl
   rw[e9,fH aC];exact MT
 .have:i=f.length:=by omega
  subst this;rw[Nat.sub_self,replicate_zero,append_nil]at M;subst M;intro s3 h4 y a3;refine⟨s3,w,rU C q,q,rfl,⟨⟨l,a3,by grind[rU,length_map],λi x E=>?_⟩,by grind[rU,length_map]⟩,Q.mono ((d.trans D).trans y),ok,hT,da,λr O=>?_,λs5 h5 a4 O=>n s5 h5 (((d.trans D).trans y).trans a4) da⟩
  .rw[rU,Y,getElem?_map]at E;cases e7:f[i]? with
   |none=>grind
   |some t=>
    rw[e7]at E;simp only[Option.map_some,ss]at E;subst E;have a7:=(sg e7);exact⟨l[i],sh aC,aU.mono (B i _ t (sh aC) e7) y λr t hv=>bF.mono hv y⟩
  .rw[ev]at O;have:=(T.row r O).len;omega
def Qj:AC:=λc m h K=>∃s r,c=[cS s]/\bF h s r/\r.length<=1000/\∀d h',PH.le h h'->bF h' d r->K (cS d) m h'
def Rc:AC:=λc m h K=>∃v s t d r,c=[aS v,cI t,cS d]/\dV h s v/\bF h d r/\r.length<=1000/\∀e h',PH.le h h'->bF h' e (jJ s t r)->K (cS e) m h'
def KM(key:Int)(ks:ti)(r:to):=r.length=ks.length/\(∀v∈r,LO v)/\∀(i:Nat) v k,r[i]?=some v->ks[i]?=some k->BX key k i v=true
def Ga(m:MH)(tb:Nat)(us:tq):=∃c:Array Value,m tb=some (.cells c 95 (0,0))/\us.length<=c.size/\c.toList.take us.length=us.map Sl.val
def dmJ(v:bQ)(sl:Sl)(t:Nat)(f g:Sl)(m:MH):=dD [(24,Rc),(48,BJ),(37,Qj)] [(4,{A:=Nat×tq×Bool×Sl×PH,st:=λ⟨i,e,d,u,h⟩=>bO 66 71 ([(2,iv t),(3,sv f),(4,sv g),SW 5,SW 6,SW 10,(11,.at (.au 45)),(12,bv d)]++WF 23 u i) [UV 5 29 v.ag,(6,.cells 38 [.val sl.val]),(10,.cells 38 [.val bS.val]),(45,.au 75 1 (e.map eS))] m h})] [(9,{A:=Nat×tq×Bool×Sl×Sl×Int×PH,st:=λ⟨i,e,d,u,r,c,h⟩=>bO 66 71 ([(2,iv t),(3,sv f),(4,sv g),SW 5,SW 6,SW 10,(11,.at (.au 45)),(12,bv d),(14,sv r),(15,iv c)]++WF 23 u i) [UV 5 29 v.ag,(6,.cells 38 [.val sl.val]),(10,.cells 38 [.val bS.val]),(45,.au 75 1 (e.map eS))] m h}),
 (14,{A:=tq×PH,st:=λ⟨e,h⟩=>bO 66 71 [(2,iv t),SW 6,SW 10,(11,.at (.au 45))] [(6,.cells 38 [.val sl.val]),(10,.cells 38 [.val bS.val]),(45,.au 75 1 (e.map eS))] m h})] [] false
def ajJ(s:Sl):ST:=λm h K=>∃y,dA 3 y/\bT h (bK s) 3 y/\zA y 32/\cJ y.length/\bN h 3 y (λc d=>K (tV c) m d)
def amJ(v:bQ)(t:Int)(s:Sl):ST:=λm h K=>aX t 0 (K EO m h) (iA t (iS v) (K EO m h) (aM (λb o=>aR (kI v) b o/\0<=t/\t<aF v.c/\∃y,let A:=ite (ite (aF s<y) (aF s) y>0) (ite (aF s<y) (aF s) y) 0;aK m h b (dN o t 5+2) (bV y)/\0<=ite (ite (aF s<y) (aF s) y>0) (ite (aF s<y) (aF s) y) 0/\xB A s/\nZ (λd r=>eO (Er s.a A.toNat s.cap) (tV d)/\bF h d r/\jB r/\jA (λe c=>cO h c (bF c e r) (K (tV e) m c))))))
abbrev Fq(a:Nat×tq×Bool×Sl×PH):=a.2.2.1
abbrev tQ(a:Nat×tq×Bool×Sl×PH):=a.2.2.2.1
abbrev Fv(a:Nat×tq×Bool×Sl×PH):=a.2.2.2.2
abbrev yI(a:bQ)(b:uc)(c:PH)(d:Sl->PH->Prop):=wT (λx g j=>nZ (λn e=>bE (cW a) b=bE (cW x) (iV j n)/\dV c g x/\bF c n e/\jB e/\jA (λo f=>cO c f (bF f o (jJ g j e)) (d o f))))
abbrev RG(a:(Nat×tq×Bool×Sl×Sl×Int×PH)->Prop)(b:Nat)(c d:Sl)(e:(Nat×tq×Bool×Sl×Sl×Int×PH)->Prop):=∃x,a x/\qZ b/\aH c/\aH d/\bY/\jW/\pM/\eL 45/\e x
abbrev Nn(a:Nat×tq×Bool×Sl×Sl×Int×PH):=a.2.2.2.2.1
abbrev Nl(a:Nat×tq×Bool×Sl×Sl×Int×PH):=a.2.2.2.2.2.1
abbrev Bj(a:Nat×tq×Bool×Sl×Sl×Int×PH):=a.2.2.2.1
abbrev JV(a:Nat×tq×Bool×Sl×Sl×Int×PH):=a.2.2.2.2.2.2
abbrev pI(a:tq×PH):=pS a.1
abbrev DV(a b c:Nat):tm:=[.slice (kR a 0) b c]
attribute [push_cast] Fq tQ Fv yI RG Nn Nl Bj JV pI DV
def alZ(v:bQ)(tb n cap t:Nat)(j f:Sl):ST:=λm h K=>aM (λb o=>aR (kR tb 0) b o/\0<=(↑t:Int)/\t<(↑n:Int)/\∃y,aK m h b (bI o t 1) (aT y)/\∃(I:Nat×tq×Bool×Sl×PH->Prop)(B:Nat×tq×Bool×Sl×PH->Nat),let J:=Ev ([A6 (kR tb 0) n cap]);(∃x,I x/\qZ t/\aH j/\aH f/\bY/\jW/\pM/\eL 45/\kJ (aF f==0) (Fq x)/\bC y (tQ x)/\cT y (tQ x)/\bB x.1/\aW v/\J/\kP/\Ab (pS x.2.1)/\gM m m h (Fv x))/\∀x,I x->aX x.1 (aF (tQ x)) (aM (λu z=>aR (tQ x).a u z/\0<=(↑x.1:Int)/\x.1<aF (tQ x)/\∃A,aK m (Fv x) u (bI z x.1 1) (aT A)/\yI v (iV (↑t :Int) A) (Fv x) (λs g=>rG s j g (λa C=>∃I1:Nat×tq×Bool×Sl×Sl×Int×PH->Prop,let H:=RG (λd=>I1 d) t j f (λd=>kJ (Fq x) d.2.2.1/\bC A (Nn d)/\cG (cV a C) (Nl d)/\bC (tQ x) (Bj d)/\cT (tQ x) (Bj d)/\bP x.1 d.1/\aW v/\J/\mP kP (pS x.2.1=pS d.2.1) (m=m) (g=JV d));iA (cV a C) 0 (cC (Fq x) (Be f g (λF G=>lJ (lX x.2.1) 24 (RG (λd=>I1 d) t j f (λd=>C0 d.2.2.1/\bC A (Nn d)/\cG (cV a C) (Nl d)/\bC (tQ x) (Bj d)/\cT (tQ x) (Bj d)/\bP x.1 d.1/\aW v/\J/\mP kP (cE 75 1 (iI (lX x.2.1) F)=pS d.2.1) (m=m) (G=JV d))))) H) H/\∀d,I1 d->cM (Nl d) 0 (lJ (lX d.2.1) 24 (∃e,I e/\B e<B x/\qZ t/\aH j/\aH f/\bY/\jW/\pM/\eL 45/\kJ d.2.2.1 (Fq e)/\bC (Bj d) (tQ e)/\cT (Bj d) (tQ e)/\fI (bA d.1 1)=bR e.1/\aW v/\J/\kP/\bX (cE 75 1 (iI (lX d.2.1) (Nn d))=pS e.2.1) m m (JV d) (Fv e))) (∃e,I e/\B e<B x/\qZ t/\aH j/\aH f/\bY/\jW/\pM/\eL 45/\kJ d.2.2.1 (Fq e)/\bC (Bj d) (tQ e)/\cT (Bj d) (tQ e)/\fI (bA d.1 1)=bR e.1/\aW v/\J/\kP/\bX (pS d.2.1=pS e.2.1) m m (JV d) (Fv e)))))) (∃I1:tq×PH->Prop,cC (Fq x) (Be f (Fv x) (λs g=>lJ (lX x.2.1) 24 (∃d,I1 d/\qZ t/\eP 6/\pM/\eL 45/\J/\kP/\cE 75 1 (iI (lX x.2.1) s)=pI d/\gM m m g d.2))) (∃d,I1 d/\qZ t/\eP 6/\pM/\eL 45/\J/\kP/\pS x.2.1=pI d/\gM m m (Fv x) d.2)/\∀d,I1 d->aM (λu z=>aR (kR tb 0) u z/\0<=(↑t:Int)/\t<(↑n:Int)/\bN d.2 1 (lX d.1) (λs g=>am m u (bI z t 1) (aT s) (λD=>K (mX (DV tb n cap)) D g)))))
theorem Gu:uz 37 Qj:=by
 refine gV func37 ?_;rintro e m h K⟨s,r,rfl,f,y,g⟩;refine⟨WP [],rfl,aG,ajJ s,bt,?_⟩;dsimp only[ajJ,push_cast];obtain⟨⟨c,j,n,o⟩,t⟩:=f;exact⟨c.map VV.ag,A2 c,j,da,da,λu h' le d=>g u h' le ⟨⟨c,d,n,o⟩,t⟩⟩
theorem BY:uz 24 Rc:=by
 refine gV func24 ?_;rintro D m h K⟨v,s,t,A,r,rfl,B,n,M,u⟩;refine⟨WP [(37,Qj)],rfl,aD Gu aG,amJ v t A,bt,?_⟩;dsimp only[amJ,push_cast];have E:=B.c.e;have d:=aU.e n;have c:jE s t=false->K EO m h:=λe=>u ⟨none,0,0⟩ h (.refl _) (by simp only[jJ,e];exact aU.nil _ _ _ _);refine aE (λF=>c (by simp[jE];omega)) (λF=>aE (λG=>c (by simp[jE];omega)) (λG=>?_));have e:jE s t=true:=by simp[jE];omega
 obtain⟨f,g⟩:∃f,s.c[t.toNat]?=some f:=⟨_,sh aC⟩
 have⟨b,o,y,H,rd,I⟩:=aU.at B.c g;have O:=I.key;obtain⟨a,len,j⟩:=A;have C:len<=j:=by have⟨P,J,_⟩:=n.ex;exact J.cap
 have d:len=r.length:=d
 have z:(if(if(len:Int)<y.key then(len:Int)else y.key)>0 then(if(len:Int)<y.key then(len:Int)else y.key)else 0)=max 0 (min f.key r.length):=by
  omega
 refine⟨b,o,H,aC,aC,y.key,.ay (bJ.part rd 2 1),?_⟩;dsimp only;rw[z];have L:jJ s t r=r.take (max 0 (min f.key r.length)).toNat:=by simp only[jJ,e,if_true,g];rfl
 rw[L]at u;exact⟨aC,aC,⟨a,(max 0 (min f.key r.length)).toNat,j⟩,_,rfl,n.cut aC,da,u⟩
theorem KM.cw{key}{ks:ti}{l k v}(x:KM key (ks.take i) l)(c:ks[i]?=some k)(f:LO v)(g:BX key k i v=true):KM key (ks.take (i+1)) (l++[v]):=by
 obtain⟨n,o,t⟩:=x;have y:=(sg c);have z:l.length=i:=da
 refine⟨da,λu d=>?_,λj u A d e=>?_⟩
 .grind
 grind
theorem Z7{key k c}(d:c=1\/c=2)(e:(i:Int)>=key):BX key k i ⟨c,0,⟨#[]⟩⟩=true:=by
 rcases d with rfl|rfl<;>simp[BX,lU,Lj]<;>omega
theorem Vd{key k v}(c:KOk k)(d:Ug k v):BX key k i v=true:=by
 have⟨e,f⟩:=d c;simp[BX,e,f]
theorem Y9 c:LO ⟨c,0,⟨#[]⟩⟩:=⟨⟨bu,bu⟩,by show(ByteArray.mk #[]).size<=64;decide⟩
theorem eN.at{us rs}(x:eN h us rs){r}(c:rs[i]?=some r):∃u,us[i]?=some u/\bF h u r:=x.y i r c
def Uh{α:Type}(T:List α->α->Prop):List α->List α->Prop
 |_,[]=>True
 |pre,x::r=>T pre x/\Uh T (pre++[x]) r
theorem Z4{α:Type}{T:List α->α->Prop}:∀{l c:List α},Uh T c l->∀(j:Nat) x,l[j]?=some x->T (c++l.take j) x
 |[],_,_,j,x,e=>by simp at e
 |y::r,c,h,0,x,e=>by simp at e;subst e;simpa using h.1
 |y::r,c,h,j+1,x,e=>by
  have:=Z4 h.2 j x (mp e)
  grind
theorem HN{α}{T:List α->α->Prop}{l}(h:Uh T [] l):cn T l:=λj x e=>mp (Z4 h j x e)
theorem bRZ{α}{T:List α->α->Prop}{l}(h:cn T l) n:cn T (l.take n):=λj x e=>by
 rw[getElem?_take]at e;split at e
 .rename_i c;rw[take_take,Nat.min_eq_left aC];exact h j x e
 .cases e
theorem cgQ(n:s.c.length<=8)(d:∀t∈s.c,t.aa.length<=8/\t.ga=[]/\t.cd=[])(o:0<=s.dc)(u:s.dc<=1000)(y:cn GA s.c):dO s=0:=by
 have z:Gb s:=⟨n,λj t e=>by
  have⟨f,c,g⟩:=d t (si e);exact⟨f,by simp[c],by simp[g]⟩⟩
 have ok:OB s:=⟨o,u,y,λj t e=>by
  have⟨f,c,g⟩:=d t (si e);unfold Ic;rw[c];intro i x A;simp at A⟩
 grind[AX,OR,wG]
theorem aHJ{id}(h:id=4\/id=5):cn GA (yD id):=by
 have c:eA id=true:=by rcases h with rfl|rfl<;>rfl
 refine HN ⟨⟨?_,?_,?_,?_,HN ⟨⟨?_,?_,?_⟩,⟨?_,?_,?_⟩,trivial⟩⟩,⟨?_,?_,?_,?_,HN ⟨⟨?_,?_,?_⟩,⟨?_,?_,?_⟩,⟨?_,?_,?_⟩,⟨?_,?_,?_⟩,trivial⟩⟩,⟨?_,?_,?_,?_,HN ⟨⟨?_,?_,?_⟩,⟨?_,?_,?_⟩,trivial⟩⟩,⟨?_,?_,?_,?_,HN ⟨⟨?_,?_,?_⟩,trivial⟩⟩,trivial⟩
 all_goals first|exact c|rfl|(simp;done)|decide
theorem Eo(h:oX s):dO s=0/\s.c≠[]:=by
 obtain⟨d,n,id,f,g,j,o,c,rfl⟩:=h.ex;refine⟨cgQ da (λt u=>?_) f da (bRZ (aHJ c) n),λe=>?_⟩
 .grind[yD]
 simp_all[yD]
theorem BO(h:oX s){t}(f:t∈s.c):1<=t.key/\1<=t.aa.length/\t.aa.length<=4/\∀c∈t.aa,KOk c.kind:=by
 obtain⟨d,n,id,g,j,o,u,e,rfl⟩:=h.ex
 grind[KOk,yD]
theorem aHZ(h:oX s):dRZ s:=λt k d=>by
 unfold fC at d;split at d
 .simp at d
 .split at d
  .simp at d
  .rename_i g e;obtain⟨c,f,rfl⟩:=mem_map.1 d;exact(BO h (si e)).2.2.2 c f
structure YC(s:kD)(st:List tj):Prop where
 len:st.length=s.c.length
 jv:∀l∈st,l.length<=4
 ok:OJ s st
 val:sd st
theorem dR.iceB{j hx r tb d E}(f:j tb=some (.cells d E (0,0)))(le:PH.le h hx)(t:∀n,PH.le hx n->(∀i,n tb i=d[i]?)->K r (λb=>if b=tb then none else j b) n):dR h K r j hx:=by
 intro g;have u:∀i,hx tb i=none:=g tb _ f
 have c:PH.le hx (λx i=>if x=tb then d[i]? else hx x i):=⟨λx i v e=>by
  grind⟩
 refine⟨_,_,λb o e=>?_,le.trans c,λx i v e=>?_,t _ c (λi=>bu)⟩
 .grind
 grind
structure TSt(h:PH)(s:kD)(m:MH)(tb:Nat)(us:tq)(st:List tj):Prop where
 pn:Ga m tb us
 gx:us.length=s.c.length
 e:st.length=s.c.length
 rows:∀(j:Nat) u l,us[j]?=some u->st[j]?=some l->Rows h u l
 ok:OJ s st
 val:sd st
 jv:∀l∈st,l.length<=4
theorem TSt.mono{tb us st}(x:TSt h s m tb us st)(le:PH.le h h')(e:m' tb=m tb):TSt h' s m' tb us st:=by
 have⟨c,n,d,f⟩:=x.pn;exact⟨⟨c,da,d,f⟩,x.gx,x.e,λj u l a b=>aU.mono (x.rows j u l a b) le λr t g=>bF.mono g le,x.ok,x.val,x.jv⟩
theorem btZ{t r}(h:KM t.key (t.aa.map oI.kind) r):IT t r=true:=by
 obtain⟨c,_,d⟩:=h
 grind[length_map,CR]
theorem Z8{key k v}(h:BX key k i v=true)(c:LO v):KJ v.kind/\KJ v.int:=by
 simp only[BX,su]at h;have:=Qm h.1;exact⟨⟨aC,aC⟩,c.int_⟩
theorem TSt.put{tb:Nat}{t us st u' d l row}(x:TSt h s m tb us st)(le:PH.le h h')(F:s.c[t]?=some d)(A:st[t]?=some l)(I:Ga m' tb (us.set t u'))(f:Rows h' u' (tK d (eR d row) row false l))(z:KM d.key (d.aa.map oI.kind) row)(P:l.length<=3):
 TSt h' s m' tb (us.set t u') (st.set t (tK d (eR d row) row false l)):=by
 have B:=btZ z;have C:=(sg A);have o:=x.ok t d l F A;refine⟨I,by rw[length_set];exact x.gx,by rw[length_set];exact x.e,λj u g G c=>?_,λj J g n c=>?_,λg c=>?_,λg c=>?_⟩
 .by_cases e:t=j
  .grind
  .rw[getElem?_set_ne e]at G c;exact aU.mono (x.rows j u g G c) le λr t y=>bF.mono y le
 .by_cases e:t=j
  .subst e;rw[getElem?_set_self C]at c;rw[F]at n;cases c;cases n;refine⟨λr f=>?_,λi r L M O=>(Sy (KN.of o.2)).adj i r L M O⟩;rcases EY f with rfl|f
   .exact B
   .exact o.1 r f
  .rw[getElem?_set_ne e]at c;exact x.ok j J g n c
 .rcases mem_or_eq_of_mem_set c with D|rfl
  .exact x.val g D
  .intro r f v y;rcases EY f with rfl|f
   .obtain⟨i,H,rfl⟩:=mem_iff_getElem.1 y;have E:i<(d.aa.map oI.kind).length:=by rw[<-z.1];exact H
    exact Z8 (z.2.2 i _ _ (sh H) (sh E)) (z.2.1 _ y)
   .exact x.val l (si A) r f v y
 .rcases mem_or_eq_of_mem_set c with D|rfl
  .exact x.jv g D
  grind[eR,Rq]
end Go.Ps
