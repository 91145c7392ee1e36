/- Own work. -/
import Derived.Test.YtafjlhgalgfiaaaGreatDoorPj
set_option linter.unusedVariables false
set_option linter.unusedSimpArgs false
namespace Go.Ps
open Go Go.Vc Go.Proofs List Tryz
variable{K:da}{m:MH}{h:PH}{s:jC}{ps:db}{ts:dn}{cb:Nat}{sc:cK}{v:QV}{t:Step}{p:Pred}{l:db}{i:Nat}{N:Nat}{m':MH}{h':PH}{co:db}{gr:db}{od:di}{ta:Int}{li:Int}{xs:List dc}{sz:Nat}{ks:List db}{rs:db}{r:Sl}{a:db}{b:Nat}
def b5Z:Vc.Spec:=λc m h K=>∃v s t q l w,c=[aQ v,cS s,cS t]/\cY h q v/\Rows h s (l.getD 0 [])/\Rows h t (l.getD 1 [])/\2<=v.op/\v.op<=10/\OX v.op q l/\iM w (F0 v.op q l)/\(v.op=6->(l.getD 0 []).length+(l.getD 1 []).length<=8000000)/\∀d h',PH.le h h'->Rows h' d (F0 v.op q l)->K (cS d) m h'
def b9X(N:Nat):Vc.Spec:=λd m h K=>∃v s q sc c k,d=[aQ v,cS s]/\cY h q v/\SizeOf.sizeOf q<N/\dT sc q/\Bj sc 4 c k (eY q)/\Leaves h s (c.drop k)/\∀e f h',PH.le h h'->Rows h' e (iD c q k).1->Leaves h' f (c.drop (iD c q k).2)->K (.tup [cS e,cS f]) m h'
def b9Z:Vc.Spec:=λd m h K=>∃v s q sc c k,d=[aQ v,cS s]/\cY h q v/\dT sc q/\Bj sc 4 c k (eY q)/\Leaves h s (c.drop k)/\∀e f h',PH.le h h'->Rows h' e (iD c q k).1->Leaves h' f (c.drop (iD c q k).2)->K (.tup [cS e,cS f]) m h'
def Wl:Vc.Spec:=λd m h K=>∃e v c q sc,d=[Zm e,aQ v]/\Cu h e c/\cY h q v/\dT sc q/\kF q<=900000/\lC sc c=0/\(∀l∈c,l.length<=4)/\∀f h',PH.le h h'->Rows h' f (bL c q)->K (cS f) m h'
noncomputable def bLJ(v:QV)(s t:Sl)(m:MH)(h:PH):Ctx:=cZ [(211,Wi),(212,UW),(114,PY),(58,caJ),(113,azX),(22,aCX),(115,R9),(28,R5)]
 [(5,{A:=Nat×dg,st:=λ⟨i,c⟩=>bS 105 108 [(3,.at (.ptr 3 0)),(7,.at (.lst 31)),(18,sv s),(19,iv s.len),(20,iv i)] [(3,.cells 41 (v.enc.map .val)),(31,.lst 65 1 (c.map eS))] m h}),
  (14,{A:=Nat×dg×PH,st:=λ⟨i,c,h⟩=>bS 105 108 [(2,sv t),(3,.at (.ptr 3 0)),(7,.at (.lst 64)),(41,sv s),(42,iv s.len),(43,iv i)] [(3,.cells 41 (v.enc.map .val)),(64,.lst 65 1 (c.map eS))] m h}),
  (17,{A:=Nat×Sl×Nat×dg×PH,st:=λ⟨j,x,i,c,h⟩=>bS 105 108 [(2,sv t),(3,.at (.ptr 3 0)),(7,.at (.lst 64)),(11,sv x),(41,sv s),(42,iv s.len),(43,iv i),(47,sv t),(48,iv t.len),(49,iv j)] [(3,.cells 41 (v.enc.map .val)),(64,.lst 65 1 (c.map eS))] m h})] [] [] false
noncomputable def bTZ(N:Nat)(v:QV)(m:MH):Ctx:=cZ [(28,R5),(117,b9X N),(169,b5Z)] []
 [(7,{A:=Sl×Sl×Sl×PH,st:=λ⟨a,r,b,h⟩=>bS 45 47 [(2,.at (.ptr 2 0)),(6,sv a),(7,sv r),(8,sv b)] [(2,.cells 41 (v.enc.map .val))] m h})] [] false
noncomputable def f53_ctx:Ctx:=cZ [(30,aSJ),(117,b9Z)] [] [] [] false
noncomputable abbrev EE(a:Nat×Sl×Nat×dg×PH):dg:=j7 a.2.2
noncomputable abbrev wV(a:Nat×Sl×Nat×dg×PH):Nat->Nat->Option Value:=jH a.2.2
abbrev Lu(a:du)(b c d:Sl)(e:Prop)(g i:de->Prop)(j k:db)(l:Nat->Nat->Option Value)(n:dj->dj->Bool)(o:Sl->PH->Prop):Prop:=E7 (λx u=>aA (a=cM b::aX (cM c) (cM d)) e (aA (g x) (i u) (aA (∀(f:dj),DH f x (mH f j)) (∀(f:dj),DH f u (mH f k)) (aA (oU x) (oU u) (fB (λf y=>bY l y (Rows y f (filter (fun(z:dj)=>List.any u (fun(A:dj)=>n z A)) x)) (o f y)))))))
abbrev CN(a b:Sl)(c:Nat->Nat->Option Value)(d:Sl->PH->Prop):Prop:=gL (λx j=>∃(n:Bool),E7 (λe f=>aA (cM a::aX (cM b) fM=cM x::aX (cM j) (yF n)) (Rows c x e) (aA (Rows c j f) (fW f) (oU e/\fB (λo g=>bY c g (Rows g o (filter (fun(u:dj)=>Cg f u==n) e)) (d o g))))))
abbrev Lt(a:QV)(b c:Sl)(d:PH)(e:QV->db->di->de->de->Prop):Prop:=∃(x:QV),gL (λo u=>∃(g:db)(y:di),E7 (λj n=>aA (dG a::aX (cM b) (cM c)=dG x::aX (cM o) (cM u)) (Ints d x.group g) (aA (jW d x.order y) (Rows d o j) (aA (Rows d u n) (∀(f:dj),DH f j (mH f g)) (aA (∀(f:dj),DH f n (mH f g)) (oU j) (e x g y j n))))))
abbrev Lv(a:PH)(b:Sl->PH->Prop):Prop:=KY (λx d=>aA (pN Dn=gK x) (Rows a x d) (aA (oU d) (∀(c:dj),DH c d (DJ c)) (fB (λc e=>bY a e (Rows e c (sK d)) (b c e)))))
attribute [push_cast] EE wV Lu CN Lt Lv
def TW(v:QV)(s t:Sl)(m:MH)(h:PH)(K:da):Prop:=
  cW (v.op==2) (EB (λI x=>aA (I x) cH (aA pD (aJ s) (aA (bG s) (bA x.1) (aA (cV v) (EA x) (bO (m=m) h h))))) (λI B x=>I x->aZ (↑x.1:Int) (aG s) (bF (λb o=>aH (aM s.a b o) (0<=(↑x.1:Int)) ((↑x.1:Int)<aG s) (∃(y:Sl),aL m h b (bK o x.1 1) (bH y)/\GP (λD e p r=>aH (AJ v::aX (cM y) Dn=Jg D e) (fJ h p D) (bR h e r) (branch (iX r p) (GK x (λd=>aA (I d) (B d<B x) (aA cH pD (aA (aJ s) (bG s) (aA (fU (bC x.1 1)=bP d.1) (cV v) (aH (Gm x y d) (m=m) (h=h) True)))))) (∃(d:Nat×dg),aA (I d) (B d<B x) (aA cH pD (aA (aJ s) (bG s) (aA (fU (bC x.1 1)=bP d.1) (cV v) (aH (w8 x d) (m=m) (h=h) True)))))))))) (bN h 1
 (List.map eS x.2) (λe f=>A6 e f (λj u=>K (cM j) m u))))) (v.op==3) (gL (λe z=>∃(l:de)(c:db),aA (iH s v.columns=iH e z) (Rows h e l) (aA (Ints h z c) (∀(r:dj),DH r l (mH r c)) (aA (gC c) (oU l) (fB (λj f=>bY h f (Rows f j (sK (List.map (fun(r:dj)=>pick r c) l))) (K (cM j) m f))))))) (cW (v.op==4) (Ja (λI x=>aA (I x) (aJ t) (aA cH (eL 64) (aA (aJ s) (bG s) (aA (bA x.1) (cV v) (aH (vA (j7 x)) (m=m) (h=jH x) True))))) (λI B x=>I x->aZ (↑x.1:Int) (aG s) (bF (λb o=>aH (aM s.a b o) (0<=(↑x.1:Int)) ((↑x.1:Int)<aG s) (∃(y:Sl),aL m (jH x) b (bK o x.1 1) (bH y)/\∃(I1:Nat×Sl×Nat×dg×PH->Prop)(J:Nat×Sl×Nat×dg×PH->
 Nat),(∃(d:Nat×Sl×Nat×dg×PH),aA (I1 d) (aJ t) (aA cH (eL 64) (aA (aY y d.2.1) (aJ s) (aA (bG s) (bV x.1 d.2.2.1) (aA (aJ t) (bG t) (aA (bA d.1) (cV v) (aH (pW (j7 x) (EE d)) (m=m) (jH x=wV d) True)))))))/\∀(d:Nat×Sl×Nat×dg×PH),I1 d->aZ (↑d.1:Int) (aG t) (bF (λM C=>aH (aM t.a M C) (0<=(↑d.1:Int)) ((↑d.1:Int)<aG t) (∃(A:Sl),aL m (wV d) M (bK C d.1 1) (bH A)/\gL (λO e=>AD (λz E=>F7 (λa L=>∃(r:Bool),aA (cM v.on::cM d.2.1::aX (cM A) fM=cM O::cM e::aX (cM z) (yF r)) (gS (wV d) O E) (aA (bR (wV d) e a) (bR (wV d) z L) (aA (mH a (fY E)) (mH L (fK E)) (branch (Bool.and (agree E a L) (Bool.or
 (!r) (kO (fY E) a))) (Co (λj F=>aH (gK d.2.1=gK j) (bR (wV d) j F) (DJ F) (∃(G:List dc),aA (eU 3 G) (cO (wV d) (Sl.mk A.a A.len A.cap) 3 G) (aA (tJ (uT F) G 32) (oL (uT F) G) (bN (wV d) 3 (uT F++G) (λH f=>vB (EE d) (∃(n:Nat×Sl×Nat×dg×PH),aA (I1 n) (J n<J d) (aA (aJ t) cH (aA (eL 64) (aY d.2.1 n.2.1) (aA (aJ s) (bG s) (aA (bV d.2.2.1 n.2.2.1) (aJ t) (aA (bG t) (fU (bC d.1 1)=bP n.1) (aA (cV v) (lN (EE d) H (EE n)) (aA (m=m) (f=wV n) True)))))))))))))) (∃(n:Nat×Sl×Nat×dg×PH),aA (I1 n) (J n<J d) (aA (aJ t) cH (aA (eL 64) (aY d.2.1 n.2.1) (aA (aJ s) (bG s) (aA (bV d.2.2.1 n.2.2.1)
 (aJ t) (aA (bG t) (fU (bC d.1 1)=bP n.1) (aA (cV v) (pW (EE d) (EE n)) (aA (m=m) (wV d=wV n) True))))))))))))))))) (∃(n:Nat×dg×PH),aA (I n) (B n<B x) (aA (aJ t) cH (aA (eL 64) (aJ s) (aA (bG s) (fU (bC d.2.2.1 1)=bP n.1) (j4 (cV v) (pW (EE d) (j7 n)) (m=m) (wV d) (jH n))))))))) (bN (jH x) 1 (List.map eS (j7 x)) (λe f=>A6 e f (λj u=>K (cM j) m u))))) (v.op==5) (gL (λo e=>AD (λz C=>Lu (cM v.on::aX (cM s) (cM t)) o e z (gS h o C) (λa=>Rows h e a) (λb=>Rows h z b) (fY C) (fK C) h (λx y=>agree C x y) (λj f=>A6 j f (λH u=>K (cM H) m u))))) (cW (v.op==6) (∃(y:List dc),E6 1 y (cO h (Sl.mk s.a s.len
 s.cap) 1 y) (y9 y 24) (zA y) (λA=>aA (eU 1 A) (cO h (Sl.mk t.a t.len t.cap) 1 A) (aA (tJ y A 24) (oL y A) (bN h 1 (y++A) (λe f=>A6 e f (λj u=>K (cM j) m u)))))) (v.op==7) (gL (λe z=>∃(i:Bool),E7 (λl k=>aA (cM s::aX (cM t) bB=cM e::aX (cM z) (yF i)) (Rows h e l) (aA (Rows h z k) (fW k) (oU l/\fB (λj f=>bY h f (Rows f j (filter (fun(x:dj)=>Cg k x==i) l)) (A6 j f (λH u=>K (cM H) m u)))))))) (cW (v.op==8) (CN s t h (λe f=>A6 e f (λj u=>K (cM j) m u))) (v.op==9) (Lt v s s h (λD g o a b=>oU b/\fB (λe f=>bY h f (Rows f e (qH g o D.limit a b)) (A6 e f (λj u=>K (cM j) m u))))) (dO v.op 10 (Lt v s t h (λD g o a b=>
 oU b/\fB (λe f=>bY h f (Rows f e (qH g o D.limit a b)) (A6 e f (λj u=>K (cM j) m u))))) (Lv h (λe f=>K (cM e) m f))))))
abbrev PI(a:Query->jC->(List de)->Nat->Prop):Prop:=zH (λx c=>∃(d:List de)(e:Nat),a x c d e)
attribute [push_cast] PI
def Uw(N:Nat)(v:QV)(s:Sl)(m:MH)(h:PH)(K:da):Prop:=
  dO v.op 1 (bF (λb o=>aH (aM s.a b o) ((0:Int)<=0) (0<aG s) (∃(y:Sl),aA (aL m h b (o+0) (bH y)) (A6 y h (λj c=>aA (dN c b o 0 (bH y)) rW (aA (nA 1 s) (tV s) (∀(n:Sl),xD 1 (Sl.mk s.a s.len s.cap) 1 n->K (CV.tup (iH j n)) m c)))) (aA (dN h b o 0 (bH y)) rW (aA (nA 1 s) (tV s) (∀(j:Sl),xD 1 (Sl.mk s.a s.len s.cap) 1 j->A6 y h (λn c=>K (CV.tup (iH n j)) m c))))))) (bF (λb o=>aH (aM (gJ v) b o) ((0:Int)<=0) (0<aG v.args) (∃(y:QV),aL m h b (o+0) y.enc/\∃(D:QV)(j:Sl),PI (λq n l k=>aA (jJ (dG y) s=jJ (dG D) j) (cY h q D) (aA (rN q N) (dT n q) (aA (Bj n 4 l k (eY q)) (Leaves h j (List.drop k l)) (∀(B:Sl),fB (λC c=>bY h c (Rows c
 B (iD l q k).1) (Leaves c C (List.drop (iD l q k).2 l)->∃(I:Sl×Sl×Sl×PH->Prop),fX (aG v.args) 1 (bF (λE F=>aH (aM (gJ v) E F) ((0:Int)<=1) (1<aG v.args) (∃(G:QV),aL m c E (F+21) G.enc/\∃(e:QV)(u:Sl),PI (λf z d A=>aA (jJ (dG G) C=jJ (dG e) u) (cY c f e) (aA (rN f N) (dT z f) (aA (Bj z 4 d A (eY f)) (Leaves c u (List.drop A d)) (∀(H:Sl),fB (λJ g=>bY c g (Rows g H (iD d f A).1) (Leaves g J (List.drop (iD d f A).2 d)->∃(x:Sl×Sl×Sl×PH),aA (I x) eD (aA (aY B x.1) (aY J x.2.1) (aA (aY H (eF x.2)) (cV v) (aA (m=m) (g=cX x.2) True)))))))))))) (∃(x:Sl×Sl×Sl×PH),aA (I x) eD (aA (aY B x.1) (aY C x.2.1) (aA (sQn=sQs (eF x.2))
 (cV v) (aA (m=m) (c=cX x.2) True))))/\∀(x:Sl×Sl×Sl×PH),I x->∃(e:QV),gL (λu t=>∃(f:Query)(d:List de)(w:Nat),aA (dG v::aX (cM x.1) (cM (eF x.2))=dG e::aX (cM u) (cM t)) (cY (cX x.2) f e) (aA (Rows (cX x.2) u (List.getD d 0 [])) (Rows (cX x.2) t (List.getD d 1 [])) (aA (2<=e.op) (e.op<=10) (aA (OX e.op f d) (iM w (F0 e.op f d)) ((e.op=6->(List.getD d 0 []).length+(List.getD d 1 []).length<=8000000)/\fB (λz g=>bY (cX x.2) g (Rows g z (F0 e.op f d)) (K (CV.tup (iH z x.2.1)) m g))))))))))))))))
def ao(sl:Sl)(v:QV)(m:MH)(h:PH)(K:da):Prop:=
  M5 (λs f=>uR (λg q=>aA (aX (rO sl) (dG v)=aX (rO s) (dG g)) (Cu h s f) (aA (cY h q g) (HP q) ((∀(t:Int),List.Mem t (eY q)->cF t/\t<(↑f.length:Int))/\fB (λj c=>bY h c (Leaves c j (sF f q)) (∃(n:QV)(o:Sl),PI (λd u l k=>aA (jJ (dG v) j=jJ (dG n) o) (cY c d n) (aA (dT u d) (Bj u 4 l k (eY d)) (Leaves c o (List.drop k l)/\∀(x:Sl),fB (λy e=>bY c e (Rows e x (iD l d k).1) (Leaves e y (List.drop (iD l d k).2 l)->K (cM x) m e)))))))))))
theorem P1{s:Sl}{r:dj}(c:bR h s r):cO h s 3 (r.map VV.enc):=by
 obtain⟨⟨d,f,g,j⟩,n⟩:=c
 have e:d=r:=ext_getElem? λi=>by
  grind
 grind
theorem buX{α:Type}{s c:Sl}{l:List α}{R:α->Sl->Prop}(x:bI h 1 eS R s l){n:Nat}(d:xD 1 ⟨s.a,s.len,s.cap⟩ n c)(o:n<=l.length):bI h 1 eS R c (l.drop n):=by
 obtain⟨⟨f,g,j,u⟩,z⟩:=x;refine⟨⟨f.drop n,by rw[map_drop];exact cO.low g d bo,by simp[j],λi y e=>?_⟩,bn⟩
 grind
theorem WY{α β:Type}{enc:β->dc}{R:α->β->Prop}{s:Sl}{l:List α}(x:bI h sz enc R s l):s.len<=s.cap:=by
 obtain⟨⟨d,c,_⟩,_⟩:=x;exact c.cap
theorem aYX{on:dh}{x y:dj}(h:agree on x y=true):kO (fK on) y=kO (fY on) x:=by
 rw[sU]at h;unfold kO;rw[h]
theorem ZS{on:dh}{b:de}{x:dj}:jS on b x=(b.filter λy=>agree on x y&&kO (fY on) x).map (x++ ·):=by
 unfold jS;by_cases h:kO (fY on) x=true
 .rw[if_pos h];congr 1;refine filter_congr λy _=>?_;rw[h,Bool.and_true];by_cases e:agree on x y=true
  .rw[e,aYX e,h];rfl
  grind
 .have h:kO (fY on) x=false:=bx h
  rw[if_neg aD];rw[filter_eq_nil_iff.2 (λy _=>bo),map_nil]
theorem ajJ:cz 169 b5Z:=by
 refine gW func169 ?_;rintro d0 m h K ⟨v,s,t,q,l,w,rfl,hq,I,Z,o2,b7,o,H,h6,hK⟩;refine⟨bLJ v s t m h,rfl,aE abX (aE abQ (aE Kl (aE bd (aE RJ (aE TC (aE RI (aE Jq aI))))))),TW v s t m h K,bh,?_⟩;dsimp only[TW,push_cast];obtain⟨op,ta,pw,co,on,gr,od,li,args⟩:=q;have x:=hq.parts;have b8:v.op=op:=x.op_;rw[b8]at o2 b7 o H hK h6;have S:=bI.slen I;have a5:=bI.slen Z
 have fin:∀(A:Sl)(n:PH)(l1:de),PH.le h n->Rows n A l1->sK l1=F0 op (.mk op ta pw co on gr od li args) l->l1.length<=8000000->(∀r∈l1,r.length<=1000)->∃(O:Sl)(T:de),[cS A]=[cS O]/\Rows n O T/\T.length<=8000000/\(∀r∈T,r.length<=1000)/\∀(s':Sl)(D:PH),PH.le n D->Rows D s' (sK T)->K (cS s') m D:=
  λA n l1 le u e hl hw=>⟨A,l1,rfl,u,hl,hw,λs' D B a6=>hK s' D (le.trans B) bo⟩
 have d:∀(A:Sl)(n:PH),PH.le h n->Rows n A (F0 op (.mk op ta pw co on gr od li args) l)->∃(O:Sl)(T:de),[cS A]=[cS O]/\Rows n O T/\T.length<=8000000/\(∀r∈T,r.length<=1000)/\∀(s':Sl)(D:PH),PH.le n D->Rows D s' (sK T)->K (cS s') m D:=
  λA n le u=>fin A n _ le u (A4 H.srt) H.len (λr u=>by have:=(H.row r u).len;omega)
 refine aC (λe=>?_) (λn2=>aC (λe=>?_) (λn3=>aC (λe=>?_) (λn4=>aC (λe=>?_) (λn5=>aC (λe=>?_) (λn6=>aC (λe=>?_) (λn7=>aC (λe=>?_) (λn8=>aC (λe=>?_) (λn9=>aC (λe=>?_) (λd1=>?_)))))))))
 .have e:op=2:=bo
  subst e;obtain⟨n,D⟩:=(o:aGJ 1 _ l)
  obtain⟨w0,f⟩:=D _ (ce (awX n));generalize ha:l.getD 0 []=a at I S f;have hf:F0 2 (.mk 2 ta pw co on gr od li args) l=a.filter λr=>iX r pw:=by rw[<-ha];rfl
  rw[hf]at d;refine⟨λz=>z.1<=a.length/\dR h z.2 ((a.take z.1).filter λr=>iX r pw),λz=>a.length-z.1,⟨(0,[]),⟨bi,bx (dR.nil h)⟩,MT⟩,?_⟩;rintro⟨i,U⟩ ⟨hi,J⟩;dsimp only at hi J;dsimp only;have a7:=J.len;have V:=length_filter_le (λr=>iX r pw) (a.take i);rw[length_take]at V;have b9:=f.len;refine aF (λP=>?_) (λc'=>?_)
  .obtain⟨r,E⟩:=dW S P;obtain⟨b1,o1,Q,e1,a3,W⟩:=bI.at I E;have X:a.take (i+1)=a.take i++[r]:=by rw[cq,E];rfl
   rw[fR aD];refine⟨b1,o1,e1,aD,P,Q,.imm a3,v.where_,Q,pw,r,rfl,x.where_,W,aC (λe=>?_) (λe=>?_)⟩
   .exact⟨bo,bo,(i+1,U++[Q]),⟨aD,by dsimp only;rw[X,filter_append,filter_cons_of_pos (by exact e),filter_nil];exact J.snoc W⟩,aD,by rw[cj];exact MT⟩
   .exact⟨(i+1,U),⟨aD,bo⟩,aD,MT⟩
  .rw[ci aD]at J
   exactλA n c F=>d A n c ((J.mono c).rows F bo)
 .have e:op=3:=bo
  subst e;obtain⟨n,d2,w0,f,hc⟩:=(o:ZC (.mk 3 ta pw co on gr od li args) l)
  exact⟨s,v.columns,_,co,rfl,I,x.columns_,λr u=>by rw[f.wid r u];exact hc,aD,f.len,hK⟩
 .have e:op=4:=bo
  subst e;obtain⟨⟨D,w0,w1,f,M,Y,c1⟩,R⟩:=(o:ZD (.mk 4 ta pw co on gr od li args) l)
  generalize ha:l.getD 0 []=a at I S f R;generalize hb:l.getD 1 []=b at Z a5 M R;have hf:F0 4 (.mk 4 ta pw co on gr od li args) l=a.flatMap (jS on b):=by rw[<-ha, <-hb];rfl
  rw[hf]at d;have b9:=f.len;have d3:=M.len;refine⟨λz=>z.1<=a.length/\PH.le h z.2.2/\dR z.2.2 z.2.1 ((a.take z.1).flatMap (jS on b)),λz=>a.length-z.1,⟨(0,[],h),⟨bi,.refl _,bx (dR.nil h)⟩,MT⟩,?_⟩;rintro⟨i,U,g1⟩ ⟨hi,c,J⟩;dsimp only at hi c J;dsimp only;have a7:=J.len;have V:((a.take i).flatMap (jS on b)).length<=(a.take i).length*b.length:=zO λx _=>B8;have c9:(a.take i).length*b.length<=a.length*b.length:=Nat.mul_le_mul_right _ bo;refine aF (λP=>?_) (λc'=>?_)
  .obtain⟨r,E⟩:=dW S P;have a8:=ce E;obtain⟨b1,o1,Q,e1,a3,W⟩:=bI.at I E
   have X:(a.take (i+1)).flatMap (jS on b)=(a.take i).flatMap (jS on b)++jS on b r:=by
    rw[cq,E,Option.toList_some,flatMap_append,flatMap_singleton]
   generalize c2:(a.take i).flatMap (jS on b)=a9 at J a7 V X;refine⟨b1,o1,e1,aD,P,Q,.imm (a3.mono c),λz=>z.1<=b.length/\∃C g,z.2=(Q,i,C,g)/\PH.le g1 g/\dR g C (a9++((b.take z.1).filter λy=>agree on r y&&kO (fY on) r).map (r++ ·)),λz=>b.length-z.1,⟨(0,Q,i,U,g1),⟨bi,U,g1,rfl,.refl _,bo⟩,MT⟩,?_⟩;rintro⟨j,z⟩ ⟨hj,C,g,e,B,G⟩;dsimp only at hj e G;subst e;dsimp only;have b':=G.len;rw[cg,length_map]at b';have b0:=length_filter_le (λy=>agree on r y&&kO (fY on) r) (b.take j);rw[length_take]at b0;refine aF (λa'=>?_) (λd'=>?_)
   .obtain⟨y,hy⟩:=dW a5 a';have b3:=ce hy;obtain⟨b2,c3,uy,e2,c4,c5⟩:=bI.at Z hy;have L:=c.trans B;have a0:=bR.mono W L;have a1:=bR.mono c5 L;have lx:=(f.row r a8).len;have ly:=(M.row y b3).len;have b4:b.take (j+1)=b.take j++[y]:=by rw[cq,hy];rfl
    have mu:b.length-(j+1)<b.length-j:=by omega
    rw[fR aD];refine⟨b2,c3,e2,aD,a',uy,.imm (c4.mono L),v.on,Q,uy,on,r,y,true,rfl,x.on_.mono L,a0,a1,by rw[f.wid r a8];exact Y,by rw[M.wid y b3];exact c1,aC (λe=>?_) (λe=>?_)⟩
    .have e:(agree on r y&&kO (fY on) r)=true:=e;refine⟨Q,r,rfl,a0,aD,y.map VV.enc,HE y,P1 a1,bo,bo,λs3 g3 b5 F=>⟨bo,bo,(j+1,Q,i,C++[s3],g3),⟨aD,C++[s3],g3,rfl,B.trans b5,?_⟩,mu,by rw[cj];exact MT⟩⟩;dsimp only;rw[b4,filter_append,filter_cons_of_pos (by exact e),filter_nil,cj,map_singleton, <-append_assoc];exact(G.mono b5).snoc (It bo bo)
    .have e:(agree on r y&&kO (fY on) r)=false:=e;exact⟨(j+1,Q,i,C,g),⟨aD,C,g,rfl,B,bo⟩,mu,MT⟩
   .rw[ci aD, <-ZS, <-X]at G;rw[fR aD];exact⟨(i+1,C,g),⟨aD,c.trans B,G⟩,aD,MT⟩
  .rw[ci aD]at J V
   exactλA n B F=>d A n (c.trans B) ((J.mono B).rows F aD)
 .have e:op=5:=bo
  subst e;obtain⟨D,w0,w1,f,M,Y,c1⟩:=(o:bxJ on l)
  exact⟨v.on,s,t,on,_,_,rfl,x.on_,I,Z,λx E=>by rw[f.wid x E];exact Y,λy hy=>by rw[M.wid y hy];exact c1,f.len,M.len,d⟩
 .have e:op=6:=bo
  subst e;obtain⟨D,a2⟩:=(o:aGJ 2 _ l)
  obtain⟨w0,f⟩:=a2 _ (ce (awX (show 0<l.length by omega)));obtain⟨w1,M⟩:=a2 _ (ce (awX (show 1<l.length by omega)));have h6:=h6 rfl;obtain⟨⟨U,u,c6,c7⟩,hn⟩:=I;obtain⟨⟨a4,a6,c8,b6⟩,d4⟩:=Z;have J:dR h U (l.getD 0 []):=⟨c6.symm,c7⟩
  have G:dR h a4 (l.getD 1 []):=⟨c8.symm,b6⟩
  refine⟨U.map eS,Ad U,u,bo,bo,a4.map eS,Ad a4,a6,bo,bo,λA n c F=>?_⟩;rw[<-cj]at F
  exact fin A n _ c (((J.app G).mono c).rows F bo) rfl bo λr u=>by
   rcases mem_append.1 u with u|u
   .have:=(f.row r u).len;omega
   .have:=(M.row r u).len;omega
 .have e:op=7:=bo
  subst e;obtain⟨D,w0,f⟩:=(o:MY (.mk 7 ta pw co on gr od li args) l)
  have ra:=f _ (ce (awX (show 0<l.length by omega)));have rb:=f _ (ce (awX (show 1<l.length by omega)));exact⟨s,t,false,_,_,rfl,I,Z,rb.srt,ra.len,d⟩
 .have e:op=8:=bo
  subst e;obtain⟨D,w0,f⟩:=(o:MY (.mk 8 ta pw co on gr od li args) l)
  have ra:=f _ (ce (awX (show 0<l.length by omega)));have rb:=f _ (ce (awX (show 1<l.length by omega)));exact⟨s,t,true,_,_,rfl,I,Z,rb.srt,ra.len,d⟩
 .have e:op=9:=bo
  subst e;obtain⟨n,⟨w0,f,Y⟩,_⟩:=(o:ZB (.mk 9 ta pw co on gr od li args) l)
  refine⟨v,s,s,gr,od,_,_,rfl,x.group_,x.order_,I,I,λx E=>by rw[f.wid x E];exact Y,λx E=>by rw[f.wid x E];exact Y,f.len,f.len,λA n c u=>d A n c ?_⟩;rw[x.limit_]at u;exact u
 .have e:op=10:=bo
  subst e;obtain⟨n,w0,f,M,Y⟩:=(o:Qx (.mk 10 ta pw co on gr od li args) l)
  refine⟨v,s,t,gr,od,_,_,rfl,x.group_,x.order_,I,Z,λx E=>by rw[f.wid x E];exact Y,λx E=>by rw[M.wid x E];exact Y,f.len,M.len,λA n c u=>d A n c ?_⟩;rw[x.limit_]at u;exact u
 grind
theorem YE:∀N,cz 117 (b9X N)
 |0=>by
  refine eG (fn:=Tryz.f117) (c:=dQ Tryz.f117) func117 rfl bj ?_;rintro a' m h K ⟨v,s,q,sc,ls,k,rfl,_,hN,_⟩;omega
 |N+1=>by
  refine gW func117 ?_;rintro a' m h K ⟨v,s,q,sc,ls,k,rfl,hq,hN,g,D,U,F⟩;refine⟨bTZ N v m,rfl,aE Jq (aE (YE N) (aE ajJ aI)),Uw N v s m h K,bh,?_⟩;dsimp only[Uw,push_cast];have f:=@vR q;obtain⟨op,ta,pw,co,on,gr,od,li,args⟩:=q;have x:=hq.parts;have I:v.op=op:=x.op_;have E:=Ib aD g.k D g.bnd;have a4:=bI.slen x.args_;have d:∀{X Y:PH}{u:Sl}{l:List de},PH.le X Y->Leaves X u l->Leaves Y u l:=λle C=>bI.mono C le λl s y=>bI.mono y le λr t hv=>bR.mono hv le;have vQ:∀{X Y:PH}{u:Sl}{l:de},PH.le X Y->Rows X u l->Rows Y u l:=λle C=>bI.mono C le λr t hv=>bR.mono hv le;rcases g.cases with⟨rfl,rfl⟩|⟨a,rfl,J,hc⟩|⟨a,b,rfl,J,gb,hc⟩
  .have es:eY (.mk 1 ta pw co on gr od li [])=[ta]:=by simp[eY,eN]
   rw[es]at D;obtain⟨l,e1,Z,_⟩:=D.at_ 0 ta rfl;rw[Nat.add_zero]at e1;have a5:=(bz e1);have ed:(ls.drop k)[0]? =some l:=bo
   obtain⟨b,o,u,ea,rd,C⟩:=bI.at U ed;have a0:=bI.slen U;rw[length_drop]at a0;have rd:bU h b (o+0) (eS u):=by omega
   have G:=WY U;have wl:∀r∈l,r.length<=1000:=λr y=>by have:=(Z.row r y).len;omega
   have ev:iD ls (.mk 1 ta pw co on gr od li []) k=(l,k+1):=by rw[iD,if_pos rfl,getD_eq_getElem?_getD,e1];rfl
   rw[ev]at F
   have low:∀n,xD 1 ⟨s.a,s.len,s.cap⟩ 1 n->Leaves h n (ls.drop (k+1)):=λn l2=>by
    have:=buX U l2 bo;rw[drop_drop]at this;exact this
   refine aC (λ_=>?_) (λe=>by rw[I]at e;simp at e);refine⟨b,o,ea,aD,aD,u,.imm rd,⟨u,l,rfl,C,Z.len,wl,λL h' le y=>⟨rd.mono le,aD,aD,G,λn l2=>F L n h' le (by rw[A4 Z.srt]at y;exact y) (d le (low n l2))⟩⟩,rd,aD,aD,G,λn l2=>⟨u,l,rfl,C,Z.len,wl,λL h' le y=>F L n h' le (by rw[A4 Z.srt]at y;exact y) (d le (low n l2))⟩⟩
  .have M:op≠1:=by omega
   have A:=Iw (ta:=ta) (w:=pw) (co:=co) (on:=on) (gr:=gr) (od:=od) (li:=li) (a:=a) M;rw[A]at D;have nx:(iD ls (.mk op ta pw co on gr od li [a]) k).2=(iD ls a k).2:=by rw[EM _ k g,EM _ k J,A]
   have eo:=E.ok;rw[okQ,if_neg M,lR,lR]at eo;have er:=E.rel;rw[cWZ M]at F er;rw[nx]at F;obtain⟨b1,o1,u,ea,rd,C⟩:=bI.at x.args_ (i:=0) rfl;have:=f (q:=a) (by simp[Query.args]);refine aC (λe=>bo) (λ_=>⟨b1,o1,ea,aD,bo,u,.imm aD,u,s,a,sc,ls,k,rfl,C,aD,J,D,U,λs1 n h1 j O P=>⟨λz=>z=(s1,n,cG,h1),aF (λe=>absurd e bo) (λ_=>⟨_,rfl,MT⟩),?_⟩⟩);rintro _ rfl;dsimp only;refine⟨v,s1,cG,_,[(iD ls a k).1],_,rfl,hq.mono j,O,bI.nil _ _ _ _,aD,aD,bo,by rw[I];exact er,λe=>by omega,λL h' le y=>F L n h' (j.trans le) bo (d le P)⟩
  .have M:op≠1:=by omega
   have A:=Iv (ta:=ta) (w:=pw) (co:=co) (on:=on) (gr:=gr) (od:=od) (li:=li) (a:=a) (b:=b) M;rw[A]at D;have na:=EM (ls:=ls) a k J;have Q:=D.right;rw[<-na]at Q;have nx:(iD ls (.mk op ta pw co on gr od li [a,b]) k).2=(iD ls b (iD ls a k).2).2:=by rw[EM _ k g,EM _ _ gb,na,A,cg,Nat.add_assoc]
   have eo:=E.ok;rw[okQ,if_neg M,lR,lR,lR]at eo;have er:=E.rel;rw[cWX M]at F er;rw[nx]at F;have Ea:=Ib aD J.k D.left J.bnd;have Eb:=Ib aD gb.k Q gb.bnd;have H:=g.bnd;obtain⟨b1,o1,u,ea,rd,C⟩:=bI.at x.args_ (i:=0) rfl;obtain⟨b2,o2,u2,a1,a2,a3⟩:=bI.at x.args_ (i:=1) rfl;have:=f (q:=a) (by simp[Query.args]);have:=f (q:=b) (by simp[Query.args]);refine aC (λe=>bo) (λ_=>⟨b1,o1,ea,aD,bo,u,.imm aD,u,s,a,sc,ls,k,rfl,C,aD,J,D.left,U,λs1 n h1 j O P=>⟨λz=>∃V W R,z=(s1,W,V,R)/\PH.le h1 R/\Rows R V (iD ls b (iD ls a k).2).1/\Leaves R W (ls.drop (iD ls b (iD ls a k).2).2),aF (λ_=>⟨b2,o2,a1,aD,aD,u2,.imm (bx (a2.mono j)),u2,n,b,sc,ls,_,rfl,a3.mono j,aD,gb,Q,P,λV W R B S T=>⟨_,⟨V,W,R,rfl,B,S,T⟩,MT⟩⟩) (λe=>absurd bo e),?_⟩⟩);rintro _ ⟨V,W,R,rfl,B,S,T⟩;dsimp only;refine⟨v,s1,V,_,[(iD ls a k).1,(iD ls b (iD ls a k).2).1],_,rfl,hq.mono (j.trans B),vQ B O,S,aD,aD,bo,by rw[I];exact er,λe=>?_,λL h' le y=>F L W h' (j.trans (B.trans le)) bo (d le T)⟩;have e:op=6:=by omega
   subst e;have h1:=Ea.bnd;have h2:=Eb.bnd;simp only[gM,vP]at H;rw[if_neg bj,if_neg bj]at H;show(iD ls a k).1.length+(iD ls b (iD ls a k).2).1.length<=8000000;omega
theorem arZ:cz 117 b9Z:=iE YE λ_ _ _ _⟨v,s,q,sc,c,k,e,d,f,g,j,n⟩=>⟨SizeOf.sizeOf q+1,v,s,q,sc,c,k,e,d,aD,f,g,j,n⟩
theorem ap:cz 53 Wl:=by
 refine gW func53 ?_;rintro B m h K ⟨u,v,x,q,sc,rfl,c,y,g,C,n,z,D⟩;refine⟨f53_ctx,rfl,aE bfZ (aE arZ aI),ao u v m h K,bh,?_⟩;dsimp only[ao,push_cast];obtain⟨_,E,_,_⟩:=Qb n;have d:=KH g.k;have A:=Qg n c.val z aD (Prod.ext rfl g.kinds:aK sc [] q=((aK sc [] q).1,0)) g.bnd;refine⟨u,x,v,q,rfl,c,y,C,λt f=>by have:=d t f;omega,λF h' le G=>⟨v,F,q,sc,sF x q,0,rfl,y.mono le,g,⟨λj t e=>?_⟩,G,λH J I o L _=>D H I (le.trans o) bo⟩⟩;have f:=d t (ce e);have:=bsQ n c.val f.1 f.2;exact⟨_,by rw[Nat.zero_add];exact ZO e,this.1,z _ this.2⟩
def b2X(h:PH)(q:Query)(v:QV):Prop:=match q with|.mk op ta w co on gr od li _=>mL h op ta w co on gr od li [] {v with args:=cG}
structure EU(m:MH)(s:Sl)(us:dw)(m':MH):Prop where
 row:fA m' s 41 21 (us.map QV.enc)
 fresh:∀b i,s.a=some ⟨b,i,none⟩->m b=none
 keep:∀b o,m b=some o->m' b=some o
def caQ:Vc.Spec:=λc m h K=>∃v q,c=[aQ v]/\cY h q v/\∀d e m' h',PH.le h h'->b2X h' q d->EU m d.args e m'->e.length=q.args.length->K (aQ d) m' h'
def b6J(N:Nat):Vc.Spec:=λc m h K=>∃v q sc,c=[aQ v]/\cY h q v/\SizeOf.sizeOf q<N/\dT sc q/\∀d h',PH.le h h'->cY h' (cE q) d->K (aQ d) m h'
def aAJ:Vc.Spec:=λc m h K=>∃v q sc,c=[aQ v]/\cY h q v/\dT sc q/\∀d h',PH.le h h'->cY h' (cE q) d->K (aQ d) m h'
noncomputable def bkJ(v:QV)(co:db)(on:dh)(gr:db)(od:di):Ctx:=
 vO [(170,ccQ),(118,caX)] [(9,{A:=Nat×PV×Sl×MH×PH,st:=λ⟨i,w,t,m,h⟩=>bS 46 47 [(1,.at (.ptr 1 0)),(2,.at (.ptr 2 0)),(3,.at (.ptr 3 0)),(29,iv v.args.len),(30,iv i)] [(1,.cells 41 (v.enc.map .val)),(2,.cells 41 (zY.enc.map .val)),(3,.cells 41 (([Value.int .i64 v.op,Value.int .i64 v.table]++w.enc).map .val++[.lst 12,.lst 16,.lst 20,.lst 24,.val (.int .i64 v.limit),.val (.slice t.a t.len t.cap)])),(12,.lst 3 1 (co.map eI)),(16,.lst 130 2 (on.map pA)),(20,.lst 3 1 (gr.map eI)),(24,.lst 77 2 (od.map Aa))] m h})] [] [] [1039] [] false
noncomputable def f54_ctx(N:Nat)(v:QV):Ctx:=
 vO [(54,b6J N),(118,caQ)] [(5,{A:=Nat×QV×MH×PH,st:=λ⟨i,w,m,h⟩=>bS 43 44 [(1,.at (.ptr 1 0)),(2,.at (.ptr 2 0)),(3,.at (.ptr 3 0)),(27,iv w.args.len),(28,iv i)] [(1,.cells 41 (v.enc.map .val)),(2,.cells 41 (zY.enc.map .val)),(3,.cells 41 (w.enc.map .val))] m h})]
  [(9,{A:=QV×MH×PH,frz:=true,st:=λ⟨w,m,h⟩=>bS 43 44 [(2,.at (.ptr 2 0)),(3,.at (.ptr 3 0))] [(2,.cells 41 (zY.enc.map .val)),(3,.cells 41 (w.enc.map .val))] m h})] [] [] [] false
noncomputable abbrev AI(a:Nat×PV×Sl×MH×PH):PV:=a.2.1
noncomputable abbrev BJ(a:Nat×PV×Sl×MH×PH):Sl:=a.2.2.1
attribute [push_cast] AI BJ
def Kk(v:QV)(co:db)(on:dh)(gr:db)(od:di)(m:MH)(h:PH)(K:da):Prop:=
  GP (λA s p B=>aH (aX (AJ v) Dn=jJ (fL A) s) (fJ h p A) (bR h s B) (Em h (Hl B p) (λG e=>∃(y:List dc),E6 1 y (sV m e (Sl.mk v.columns.a v.columns.len v.columns.cap) 1 y) (y9 y 8) (zA y) (λf=>E6 2 f (sV m e (Sl.mk v.on.a v.on.len v.on.cap) 2 f) (y9 f 16) (zA f) (λg=>E6 1 g (sV m e (Sl.mk v.group.a v.group.len v.group.cap) 1 g) (y9 g 8) (zA g) (λj=>aA (eU 2 j) (sV m e (Sl.mk v.order.a v.order.len v.order.cap) 2 j) (aA (y9 j 16) (zA j) (∃(I:Nat×PV×Sl×MH×PH->Prop)(C:Nat×PV×Sl×MH×PH->Nat),(∃(x:Nat×PV×Sl×MH×PH),aA (I x) eJ (aA eD cH (aA (qY v) (bA x.1) (aA (cV v) iV (aA (Aq (CL v G (j9 (xJ v) Ht)) (CL v (AI x) (j9
 (xJ v) (nX (BJ x))))) (qR y co) (aA (CJ f (zG on)) (qR g gr) (aH (bW 77 2 j=bW 77 2 (HO od)) (jZ m x.2.2) (e=dP x.2.2) True)))))))/\∀(x:Nat×PV×Sl×MH×PH),yS (I x) x.1 v (bF (λb o=>aH (aM (gJ v) b o) (0<=(↑x.1:Int)) ((↑x.1:Int)<aG v.args) (∃(n:QV),aL (eT x.2.2) (dP x.2.2) b (bK o x.1 21) n.enc/\uR (λD q=>aA (iQ n=iQ D) (cY (dP x.2.2) q D) (∀(E:QV)(c:PH),bY (dP x.2.2) c (cY c q E) (M3 (aL (eT x.2.2) c b (bK o x.1 21) n.enc) (bU c b (bK o x.1 21) n.enc) (λu=>aH (fA (eT x.2.2) (Sl.mk (BJ x).a (BJ x).len (BJ x).cap) 41 21 u) (iK (mO u 1*280)) (mR u) (qC (λz F=>kK (eT x.2.2) F (Sl.mk (BJ x).a (BJ x).len (BJ x).cap)
 z 41 21 (iT u E.enc)->∃(d:Nat×PV×Sl×MH×PH),aA (I d) (C d<C x) (aA eJ eD (aA cH (qY v) (aA (fU (bC x.1 1)=bP d.1) (cV v) (aA iV (Aq (CL v (AI x) (j9 (xJ v) (nX z))) (CL v (AI d) (j9 (xJ v) (nX (BJ d))))) (aA (eQ (bW 3 1 (List.map eI co))) (eQ (bW 130 2 (zG on))) (aA (eQ (bW 3 1 (List.map eI gr))) (eQ (bW 77 2 (HO od))) (aA (jZ F d.2.2) (c=dP d.2.2) True)))))))))))))))) (bN (dP x.2.2) 1 (fS co) (λz c=>bN c 2 (zG on) (λH J=>bN J 1 (fS gr) (λL M=>bN M 2 (HO od) (λO P=>K (qK (aU (eH v.op) (kS v) (aU (eH (AI x).op) (eH (AI x).cmp) (aU (i6 (AI x).left) (sQ (AI x).left) (aU (eH (tD (AI x).left)) (mS (AI x).left)
 (C9 (AI x) (gP z) (aU (gP H) (gP L) (aU (gP O) (y7 v) (bH (BJ x)))))))))) (eT x.2.2) P)))))))))))))
noncomputable abbrev EC(a:Nat×QV×MH×PH):Nat->Nat->Option Value:=a.2.2.2
attribute [push_cast] EC
def aq(N:Nat)(v:QV)(m:MH)(h:PH)(K:da):Prop:=
  cW (v.op==7) (bF (λb o=>aH (aM (gJ v) b o) ((0:Int)<=0) (0<aG v.args) (∃(y:QV),aL m h b (o+0) y.enc/\∃(e:QV),zH (λq s=>aA (iQ y=iQ e) (cY h q e) (aA (rN q N) (dT s q) (yK h q (λf g=>K (dG f) m g))))))) (v.op==9) (bF (λb o=>aH (aM (gJ v) b o) ((0:Int)<=0) (0<aG v.args) (∃(y:QV),aL m h b (o+0) y.enc/\∃(e:QV),zH (λq s=>aA (iQ y=iQ e) (cY h q e) (aA (rN q N) (dT s q) (yK h q (λf g=>K (dG f) m g))))))) (dO v.op 10 (bF (λb o=>aH (aM (gJ v) b o) ((0:Int)<=0) (0<aG v.args) (∃(y:QV),aL m h b (o+0) y.enc/\∃(e:QV),zH (λq s=>aA (iQ y=iQ e) (cY h q e) (aA (rN q N) (dT s q) (yK h q (λf g=>K (dG f) m g))))))) (uR
 (λe q=>aA (iQ v=iQ e) (cY h q e) (∀(f:QV)(u:dw),iG (λA g=>bY h g (b2X g q f) (EU m f.args u A->u.length=q.args.length->∃(I:QV×MH×PH->Prop),(∃(I1:Nat×QV×MH×PH->Prop)(B:Nat×QV×MH×PH->Nat),(∃(x:Nat×QV×MH×PH),aA (I1 x) eJ (aA eD cH (aA (bZ f.args x.2.1.args) (bA x.1) (aA (cV v) iV (aH (jG f x.2.1) (cN A x.2.2) (g=EC x) True)))))/\∀(x:Nat×QV×MH×PH),yS (I1 x) x.1 x.2.1 (bF (λb o=>aH (aM (gJ v) b o) (0<=(↑x.1:Int)) ((↑x.1:Int)<aG v.args) (∃(y:QV),aL x.2.2.1 (EC x) b (bK o x.1 21) y.enc/\∃(C:QV),zH (λj s=>aA (iQ y=iQ C) (cY (EC x) j C) (aA (rN j N) (dT s j) (yK (EC x) j (λF G=>bF (λn z=>aH (aM
 (gJ x.2.1) n z) (0<=(↑x.1:Int)) ((↑x.1:Int)<aG x.2.1.args) (GU (λc E=>aA (Ze x.2.2.1 n (B7 c E 0)) (bK z x.1 21+21<=c.size) (∀(D:MH),iR x.2.2.1 D n (splice c.toList (bK z x.1 21) F.enc) E->∃(d:Nat×QV×MH×PH),aA (I1 d) (B d<B x) (aA eJ eD (aA cH (bZ x.2.1.args d.2.1.args) (aA (fU (bC x.1 1)=bP d.1) (cV v) (j4 iV (jG x.2.1 d.2.1) (cN D d.2.2) G (EC d)))))))))))))))) (Hf x.2.2.1 (EC x)->∃(d:QV×MH×PH),aA (I d) eD (aA cH iV (aA (jG x.2.1 d.1) (Hp x.2.2.1 (EC x) d.2.1 d.2.2) True))))/\∀(x:QV×MH×PH),I x->K (dG x.1) x.2.1 x.2.2))))))
theorem EU.grow{f:MH}{t g:Sl}{us:dw}{u:QV}(x:EU m t us f)(d:kK f m' t g 41 21 (us.map QV.enc++[QV.enc u])):EU m g (us++[u]) m':=
 ⟨by rw[cj];exact d.row,λb i e=>by
  rcases d.fresh b i e with c|⟨j,c⟩
  .cases n:m b with
   |none=>rfl
   |some o=>rw[x.keep b o n]at c;cases c
  .exact x.fresh b j c,λb o e=>d.other b o (x.keep b o e) λi y=>by rw[x.fresh b i y]at e;cases e⟩
theorem EU.back{c:MH}{t:Sl}{us:dw}(x:EU m t us c):zN m c=m:=funext λb=>by
 unfold zN;cases e:m b with
 |none=>rfl
 |some o=>exact x.keep b o e
theorem EU.put{j:MH}{w:Sl}{us:dw}{t:Nat}(x:EU m w us j)(J:t<us.length):∃b,w.a=some ⟨b,0,none⟩/\t<w.len/\∃(cs:Array Value)(F:TypeId),Ze j b (.cells cs F (0,0))/\0+t*21+21<=cs.size/\∀u m',pO j m' b (.cells ⟨splice cs.toList (0+t*21) (QV.enc u)⟩ F (0,0))->EU m w (us.set t u) m':=by
 have C:∀u:QV,(QV.enc u).length=21:=λu=>rfl;rcases x.row.ex with⟨rfl,e⟩|⟨b,d,c,rfl,D,n,y,E,f⟩
 .have G:=congrArg List.length e
  grind
 .rw[length_map]at n;have z:c.toList.length=d*21:=by omega
  have H:=x.fresh b 0 rfl;refine⟨b,rfl,bo,c,41,⟨D⟩,aD,λu m' A=>⟨⟨Qk _,.inr ⟨b,d,⟨splice c.toList (0+t*21) (QV.enc u)⟩,bi,A.at_,bn,y,?_,?_⟩⟩,x.fresh,λB o e=>?_⟩⟩
  .show(splice c.toList (0+t*21) (QV.enc u)).length=d*21;rw[Bn _ _ _ bo];exact z
  .show(splice c.toList (0+t*21) (QV.enc u)).take _=_;rw[length_map,length_set,N9 _ _ _ _ bo aD];rw[length_map]at f;have I:(us.map QV.enc)[t]? =some (QV.enc us[t]):=bo
   have g:=Go.Vc.flatten_set (off:=0) (l:=QV.enc u) (Qk us).len I bo;rw[Nat.add_zero,show splice (QV.enc us[t]) 0 (QV.enc u)=QV.enc u from rfl]at g;rw[f,Nat.zero_add,map_set];exact g
  .rw[A.other B (λG=>bo)];exact x.keep B o e
theorem bTQ{op:Int}{w:Pred}{on:dh}{args:dl}(x:mL h op ta w co on gr od li args v)(U:∀g us m' h',PH.le h h'->mL h' op ta w co on gr od li [] {g with args:=cG}->EU m g.args us m'->us.length=args.length->K (aQ g) m' h'):Kk v co on gr od m h K:=by
 dsimp only[Kk,push_cast];have V:=x.args_.slen;have L:=x.args_.len;have W:=x.columns_.len;have X:=x.on_.len;have Y:=x.group_.len;have Z:=x.order_.len;refine⟨v.where_,⟨none,0,0⟩,w,[],rfl,x.where_,.nil _ _ _ _,λE G c M=>⟨_,qM co,.imm (x.columns_.mono c).row,bn,bn,_,FW on,.imm (x.on_.mono c).row,bn,bn,_,qM gr,.imm (x.group_.mono c).row,bn,bn,_,FV od,.imm (x.order_.mono c).row,bn,bn,?_⟩⟩;rw[NU]at M;refine⟨λz=>z.1<=args.length/\∃t F H us,z.2=(E,t,F,H)/\PH.le G H/\EU m t us F/\us.length=z.1,λz=>args.length-z.1,⟨(0,E,cG,m,G),⟨bi,cG,m,G,[],rfl,.refl _,⟨fA.nil _ _ _,λb i e=>(by cases e),λb o e=>e⟩,rfl⟩,MT⟩,?_⟩;rintro⟨i,z⟩ ⟨hi,t,F,H,us,e,f,I,j⟩;dsimp only at hi e j;subst e;dsimp only;refine aF (λn=>?_) (λa'=>?_)
 .obtain⟨q,O⟩:=dW V n;have a5:=(bz O);obtain⟨b1,o1,u,e1,y,J⟩:=(x.args_.mono (c.trans f)).at O;refine⟨b1,o1,e1,aD,n,u,.imm y,u,q,rfl,J,λg h' d a6=>⟨.imm (y.mono d),y.mono d,us.map QV.enc,I.row,bo,bo,λP m' hg=>?_⟩⟩;rw[fR aD];exact⟨(i+1,E,P,m',h'),⟨aD,P,m',h',us++[g],rfl,f.trans d,I.grow hg,by simp[j]⟩,aD,MT⟩
 .intro s1 h2 A y s2 h3 B r2 s3 h4 C r3 s4 h5 D r4;have Q:=D;have R:=C.trans Q;have S:=B.trans R;have a1:=A.trans S;have T:=f.trans a1;exact U ⟨v.op,v.table,E,s1,s2,s3,s4,v.limit,t⟩ us F h5 (c.trans T) ⟨x.op_,x.table_,M.mono T,⟨y.mono S,W⟩,⟨r2.mono R,X⟩,⟨r3.mono Q,Y⟩,⟨r4,Z⟩,x.limit_,bI.nil _ _ _ _⟩ I aD
theorem YC:cz 118 caQ:=by
 refine gW func118 ?_;rintro c m h K ⟨v,q,rfl,d,e⟩;obtain⟨op,ta,w,co,on,gr,od,li,args⟩:=q;refine⟨bkJ v co on gr od,rfl,aE Rt (aE arX aI),Kk v co on gr od m h K,bh,?_⟩;exact bTQ d.parts λf g m' h' le x j n=>e f g m' h' le x j n
theorem f54_all:∀N,cz 54 (b6J N)
 |0=>by
  refine eG (fn:=Tryz.f54) (c:=dQ Tryz.f54) func54 rfl (by decide) ?_;rintro a' m h K ⟨v,q,sc,rfl,_,hN,_⟩;omega
 |N+1=>by
  refine gW func54 ?_;rintro a' m h K ⟨v,q,sc,rfl,hq,hN,g,Y⟩;refine⟨f54_ctx N v,rfl,aE (f54_all N) (aE YC aI),aq N v m h K,by kernel_rfl,?_⟩;dsimp only[aq,push_cast];have o:=@vR q;obtain⟨op,ta,pw,co,on,gr,od,li,args⟩:=q;have x:=hq.parts;have A:v.op=op:=x.op_;have a0:=bI.slen x.args_;have a8:=bI.len x.args_
  have one:B4 op=true->∃(b S:Nat),v.args.a=some ⟨b,S,none⟩/\(0:Int)<=0/\(0:Int)<(v.args.len:Int)/\∃y:QV,aL m h b (S+0) (QV.enc y)/\∃(v1:QV)(q:Query)(sc:jC),[aQ y]=[aQ v1]/\cY h q v1/\SizeOf.sizeOf q<N/\dT sc q/\∀(f:QV)(h':PH),PH.le h h'->cY h' (cE q) f->K (aQ f) m h':=λZ=>by
   have a1:∃a r,args=a::r:=by
    rcases g.cases with⟨rfl,rfl⟩|⟨a,rfl,_⟩|⟨a,b,rfl,_⟩
    .cases Z
    .grind
    grind
   obtain⟨a,r,rfl⟩:=a1;obtain⟨b1,o1,u,ea,rd,hu⟩:=bI.at x.args_ (i:=0) rfl;have:=o (q:=a) (by simp[Query.args]);rw[EN Z]at Y;exact⟨b1,o1,ea,aD,by grind,u,.imm aD,u,a,sc,rfl,hu,aD,g.arg (by simp),Y⟩
  refine aC (λe=>one (by rw[<-A,show v.op=7 by simpa using e];rfl)) (λn7=>aC (λe=>one (by rw[<-A,show v.op=9 by simpa using e];rfl)) (λn9=>aC (λe=>one (by rw[<-A,show v.op=10 by simpa using e];rfl)) (λG=>?_)))
  have a2:B4 op=false:=by
   simp only[beq_eq_false_iff_ne,ne_eq]at n7 n9 G;rw[A]at n7 n9 G;simp[B4,n7,n9,G]
  rw[rF a2]at Y;refine⟨v,_,rfl,hq,λf B m1 h1 T H I C=>?_⟩;have H:mL h1 op ta pw co on gr od li [] {f with args:=cG}:=H;have C:B.length=args.length:=C;have a3:=fA.slen I.row;rw[length_map]at a3;refine⟨λz=>∃U,z=(f,m,U)/\PH.le h U/\cY U (.mk op ta pw co on gr od li (args.map cE)) f,?_,?_⟩
  .refine⟨λz=>z.1<=args.length/\∃B Q R,z.2=(f,Q,R)/\PH.le h1 R/\EU m f.args B Q/\B.length=args.length/\∀(j:Nat) q,j<z.1->args[j]? =some q->∃u,B[j]? =some u/\cY R (cE q) u,λz=>args.length-z.1,⟨(0,f,m1,h1),⟨by simp,B,m1,h1,rfl,.refl _,I,C,λj q V=>by simp at V⟩,MT⟩,?_⟩;rintro⟨i,z⟩ ⟨hi,B,Q,R,e,lex,I,C,J⟩;dsimp only at hi e J;subst e;dsimp only;refine aF (λb'=>?_) (λb0 d=>?_)
   .obtain⟨q,M⟩:=dW (n:=v.args.len) a0 (i:=i) aD;have b2:=(List.getElem?_eq_some_iff.1 M).1;have D:=mem_of_getElem? M;obtain⟨b1,o1,u,e1,r1,a4⟩:=bI.at x.args_ M;have:=o (q:=q) D;have L:=T.trans lex;refine⟨b1,o1,e1,aD,aD,u,.imm (r1.mono L),u,q,sc,rfl,a4.mono L,aD,g.arg D,λv2 h2 W b3=>?_⟩;obtain⟨b,eb,a9,cs,F,X,a5,a6⟩:=EU.put I (t:=i) aD;rw[fR aD];refine⟨b,0,eb,aD,aD,cs,F,X,a5,λm' hm=>⟨(i+1,f,m',h2),⟨aD,B.set i v2,m',h2,rfl,lex.trans W,a6 v2 m' hm,by grind,λj q' V O=>?_⟩,aD,MT⟩⟩;by_cases b4:j=i
    .grind
    .obtain⟨u',e1,e2⟩:=J j q' aD O;exact⟨u',by grind,e2.mono W⟩
   .have a7:=v8.ice (m0:=m) (m:=Q) (h:=R) (s:=f.args) ⟨I.row,I.fresh⟩;have P:=DM (m0:=m) d;have E:=H;refine⟨(f,zN m Q,Cq m Q R),⟨_,by rw[I.back],(T.trans lex).trans P,mL.rep ⟨E.op_,E.table_,E.where_.mono (lex.trans P),E.columns_.mono (lex.trans P),E.on_.mono (lex.trans P),E.group_.mono (lex.trans P),E.order_.mono (lex.trans P),E.limit_,⟨⟨B,a7,by grind,λj q V=>?_⟩,by grind⟩⟩⟩,FT⟩;rw[getElem?_map,Option.map_eq_some_iff]at V;obtain⟨q',O,rfl⟩:=V;obtain⟨u,e1,e2⟩:=J j q' (by grind) O;exact⟨u,e1,e2.mono P⟩
  .rintro _ ⟨U,rfl,le,Z⟩;exact Y f U le Z
theorem au:cz 54 aAJ:=iE f54_all λ_ _ _ _⟨v,q,sc,e,c,d,f⟩=>⟨SizeOf.sizeOf q+1,v,q,sc,e,c,aD,d,f⟩
theorem DO{s:jC}:∀q:Query,dT s q->kF (cE q)<=kF q/\Ie (cE q)<=Ie q
 |.mk op ta w co on gr od li args,g=>by
  rcases g.cases with⟨rfl,rfl⟩|⟨a,rfl,c,h⟩|⟨a,b,rfl,c,e,h⟩
  .rw[rF rfl,map_nil];omega
  .have f:=DO a c;by_cases d:B4 op=true
   .rw[EN d];simp only[kF,kC,Ie,DP];omega
   .rw[rF bo,map_cons,map_nil];simp only[kF,kC,Ie,DP];omega
  .have f:=DO a c;have j:=DO b e;by_cases d:B4 op=true
   .rw[EN d];simp only[kF,kC,Ie,DP];omega
   .rw[rF bo,map_cons,map_cons,map_nil];simp only[kF,kC,Ie,DP];omega
def cFQ(N:Nat):Vc.Spec:=λd m h K=>∃e v t c q sc D,d=[Zm e,aQ v,cS t]/\Cu h e c/\cY h q v/\SizeOf.sizeOf q<N/\dT sc q/\kF q<=900000/\Cv sc c/\oZ sc/\Rows h t D/\fW D/\(∀x∈D,x∈bL c (cE q))/\∀f h',PH.le h h'->sW h' f (G7 c q D)->K (.lst 58 1 (f.map eS)) m h'
noncomputable def f52_ctx(N:Nat)(sl:Sl)(v:QV)(d:Sl)(m:MH):Ctx:=
 cZ [(53,Wl),(22,aCX),(54,aAJ),(111,Wq),(21,cXJ),(112,cGJ),(113,azX),(114,PY),(116,aUX),(115,R9),(28,R5),(52,cFQ N)]
  [(13,{A:=Nat×dg×Sl×PH,st:=λ⟨i,e,w,h⟩=>bS 217 220 [(2,sv d),(3,.at (.ptr 3 0)),(4,.at (.ptr 4 0)),(8,.at (.lst 69)),(9,vv rU),(54,sv w),(55,iv w.len),(56,iv i)] [(3,.cells 52 [.val (.slice sl.a sl.len sl.cap)]),(4,.cells 41 (v.enc.map .val)),(69,.lst 65 1 (e.map eS))] m h}),
   (22,{A:=Nat×dg×dg×Sl×Sl×PH,st:=λ⟨i,e,c,r,b,h⟩=>bS 217 220 [(3,.at (.ptr 3 0)),(4,.at (.ptr 4 0)),(8,.at (.lst 106)),(9,.at (.lst 95)),(10,sv r),(13,sv b),(79,sv d),(80,iv d.len),(81,iv i)] [(3,.cells 52 [.val (.slice sl.a sl.len sl.cap)]),(4,.cells 41 (v.enc.map .val)),(95,.lst 65 1 (c.map eS)),(106,.lst 65 1 (e.map eS))] m h}),
   (32,{A:=Nat×dg×Sl×Sl×PH,st:=λ⟨i,c,f,r,h⟩=>bS 217 220 [(2,sv d),(3,.at (.ptr 3 0)),(4,.at (.ptr 4 0)),(8,sv f),(9,.at (.lst 140)),(120,sv r),(121,iv r.len),(122,iv i)] [(3,.cells 52 [.val (.slice sl.a sl.len sl.cap)]),(4,.cells 41 (v.enc.map .val)),(140,.lst 65 1 (c.map eS))] m h}),
   (35,{A:=Nat×Sl×Nat×dg×Sl×Sl×PH,st:=λ⟨j,x,i,c,f,r,h⟩=>bS 217 220 [(2,sv d),(3,.at (.ptr 3 0)),(4,.at (.ptr 4 0)),(8,sv f),(9,.at (.lst 140)),(18,sv x),(120,sv r),(121,iv r.len),(122,iv i),(126,sv d),(127,iv d.len),(128,iv j)] [(3,.cells 52 [.val (.slice sl.a sl.len sl.cap)]),(4,.cells 41 (v.enc.map .val)),(140,.lst 65 1 (c.map eS))] m h})]
  [(9,{A:=Sl×Sl×PH,st:=λ⟨w,r,h⟩=>bS 217 220 [(2,sv d),(3,.at (.ptr 3 0)),(4,.at (.ptr 4 0)),(7,sv w),(8,sv d),(9,vv rU),(10,sv r)] [(3,.cells 52 [.val (.slice sl.a sl.len sl.cap)]),(4,.cells 41 (v.enc.map .val))] m h})] [] true
abbrev Vy(a:Sl)(b:QV)(c:PH)(d:(List de)->Query->jC->Prop):Prop:=Cn (λx f=>∃(g:List de),zH (λe j=>aA (aX (rO a) (dG b)=aX (rO x) (dG f)) (Cu c x g) (aA (cY c e f) (dT j e) (d g e j))))
abbrev Ar(a:Sl)(b:QV)(c:PH)(d:Nat)(e:Sl->PH->Prop):Prop:=Vy a b c (λx j n=>aH (HP j) (lC n x=0) (∀(f:de),List.Mem f x->E8 f d) (fB (λf g=>bY c g (Rows g f (bL x j)) (e f g))))
abbrev yU(a:da)(b:List dc)(c:MH)(d:PH):Prop:=a (CV.lst 58 1 b) c d
noncomputable abbrev u9(a:Nat×dg×Sl×PH):Sl:=a.2.2.1
noncomputable abbrev BN(a:Nat×dg×Sl×PH):Nat->Nat->Option Value:=a.2.2.2
abbrev LS(a:Sl)(b:QV)(c:Sl)(d:PH)(e:Nat)(g:Query->Query)(i:jC->jC)(j:(List de)->List de)(k:Sl->(List de)->Query->de->Prop):Prop:=Cn (λx u=>M5 (λy n=>zH (λf o=>∃(z:de),aA (rO a::aX (dG b) (cM c)=rO x::aX (dG u) (cM y)) (Cu d x n) (aA (cY d f u) (rN f e) (aA (dT o f) (HP (g f)) (aA (Cv (i o) (j n)) (oZ (i o)) (k y n f z)))))))
abbrev LR(a:PH)(b:Sl)(c:de)(d:List de)(e:Query)(g:dg->PH->Prop):Prop:=aH (Rows a b c) (fW c) (∀(x:dj),DH x c (List.Mem x (bL d (cE e)))) (∀(x:dg)(f:PH),g x f)
abbrev rY(a:Sl)(b:Nat->Nat->Option Value)(c:Sl)(d:QV)(e:Nat)(g:dg->PH->Prop):Prop:=A6 a b (λx j=>LS c d x j e (λf=>f) (λf=>f) (λf=>f) (λf o u y=>LR j f y o u (λz n=>bY j n (sW n z (G7 o u y)) (g z n))))
abbrev BL(a:PH)(b c:Nat)(d:QV)(e g:dg)(i:da)(j:MH):Prop:=aH (dN a b c 21 d.enc) (uP e (zF g)) (iK (zF e+zF g)) (yU i (vU e (jY g)) j a)
noncomputable abbrev nK(a:Nat×dg×dg×Sl×Sl×PH):Sl×Sl×PH:=a.2.2.2
noncomputable abbrev Db(a:Nat×dg×dg×Sl×Sl×PH):dg:=a.2.2.1
noncomputable abbrev BK(a:Sl)(b:de):Int:=kE (aG a-(↑(A3 b):Int))
noncomputable abbrev mQ(a:Nat×dg×Sl×Sl×PH):Sl×Sl×PH:=a.2.2
noncomputable abbrev nL(a:Nat×Sl×Nat×dg×Sl×Sl×PH):Sl×Sl×PH:=mQ a.2.2
noncomputable abbrev GN(a:Nat×Sl×Nat×dg×Sl×Sl×PH):dg:=a.2.2.2.1
attribute [push_cast] Vy Ar yU u9 BN LS LR rY BL nK Db BK mQ nL GN
def af(N:Nat)(sl:Sl)(v:QV)(d:Sl)(m:MH)(h:PH)(K:da):Prop:=
  dO v.op 1 (Ar sl v h 4 (λs h1=>CN s d h1 (λs1 h2=>yU K (vV s1) m h2))) (bF (λb o=>aH (aM (gJ v) b o) ((0:Int)<=0) (0<aG v.args) (∃(y:QV),aL m h b (o+0) y.enc/\∃(v1:QV),zH (λq s=>aH (iQ y=iQ v1) (cY h q v1) (dT s q) (yK h q (λv2 h1=>dN h1 b o 0 y.enc/\Ar sl v2 h1 4 (λs1 h2=>∃(I:Sl×Sl×PH->Prop),fX (aG v.args) 1 (bF (λA B=>aH (aM (gJ v) A B) ((0:Int)<=1) (1<aG v.args) (∃(z:QV),aL m h2 A (B+21) z.enc/\∃(v3:QV),zH (λT Q=>aH (iQ z=iQ v3) (cY h2 T v3) (dT Q T) (yK h2 T (λv4 F=>dN F A B 21 z.enc/\Ar sl v4 F 4 (λJ G=>∃(x:Sl×Sl×PH),aA (I x) (aJ d) (aA cH iL (aA (aY s1 x.1) (aJ d) (aA sD (aY J (eF
 x)) (j4 (oM sl) (cV v) (m=m) G (cX x)))))))))))) (∃(x:Sl×Sl×PH),aA (I x) (aJ d) (aA cH iL (aA (aY s1 x.1) (aJ d) (aA sD (sQn=sQs (eF x)) (j4 (oM sl) (cV v) (m=m) h2 (cX x))))))/\∀(x:Sl×Sl×PH),I x->cW (v.op==3) (∃(I1:Nat×dg×Sl×PH->Prop)(V:Nat×dg×Sl×PH->Nat),(∃(e:Nat×dg×Sl×PH),aA (I1 e) (aJ d) (aA cH iL (aA (eL 69) sD (aA (aY x.1 (u9 e)) (bZ x.1 (u9 e)) (aA (bA e.1) (oM sl) (aA (cV v) (vA e.2.1) (bO (m=m) (cX x) (BN e))))))))/\∀(e:Nat×dg×Sl×PH),I1 e->aZ (↑e.1:Int) (aG (u9 e)) (bF (λA B=>aH (aM (u9 e).a A B) (0<=(↑e.1:Int)) ((↑e.1:Int)<aG (u9 e)) (∃(z:Sl),aL m (BN e) A
 (bK B e.1 1) (bH z)/\CM z v.columns (BN e) (λr c=>mH r c) (λr c=>fB (λQ F=>bY (BN e) F (bR F Q (pick r c)) (HJ (λJ t l r1=>aA (iH d Q=iH J t) (Rows F J l) (aA (bR F t r1) (fW l) (branch (Cg l r1) (vB e.2.1 (∃(f:Nat×dg×Sl×PH),aA (I1 f) (V f<V e) (aA (aJ d) cH (aA iL (eL 69) (aA sD (aY (u9 e) (u9 f)) (aA (bZ (u9 e) (u9 f)) (fU (bC e.1 1)=bP f.1) (aA (oM sl) (cV v) (aH (lN e.2.1 z f.2.1) (m=m) (F=BN f) True)))))))) (∃(f:Nat×dg×Sl×PH),aA (I1 f) (V f<V e) (aA (aJ d) cH (aA iL (eL 69) (aA sD (aY (u9 e) (u9 f)) (aA (bZ (u9 e) (u9 f)) (fU (bC e.1 1)=bP f.1) (aA (oM sl) (cV
 v) (aH (pW e.2.1 f.2.1) (m=m) (F=BN f) True)))))))))))))))) (bF (λA B=>aH (aM (gJ v) A B) ((0:Int)<=0) (0<aG v.args) (∃(z:QV),aA (aL m (BN e) A (B+0) z.enc) (dN (BN e) A B 0 z.enc) (bN (BN e) 1 (List.map eS e.2.1) (λQ F=>rY Q F sl z N (λu G=>fX (aG v.args) 1 (bF (λn E=>aH (aM (gJ v) n E) ((0:Int)<=1) (1<aG v.args) (∃(j:QV),aA (aL m G n (E+21) j.enc) (dN G n E 21 j.enc) (Lv G (λJ C=>LS sl j J C N (λT=>T) (λR=>R) (λR=>R) (λt R T D=>LR C t D R T (λS M=>bY C M (sW M S (G7 R T D)) (BL M n E j u S K m)))))))) (yU K (jY u) m G)))))))) (v.op==4) (bF (λA B=>aH (aM (gJ v) A B) ((0:Int)<=1) (1<aG
 v.args) (∃(z:QV),aL m (cX x) A (B+21) z.enc/\Ar sl z (cX x) 4 (λQ F=>∃(I1:Nat×dg×dg×Sl×Sl×PH->Prop)(V:Nat×dg×dg×Sl×Sl×PH->Nat),(∃(e:Nat×dg×dg×Sl×Sl×PH),aA (I1 e) cH (aA iL (eL 106) (aA (eL 95) (aY (eF x) (nK e).1) (aA (aY Q (eF (nK e))) (aJ d) (aA (bG d) (bA e.1) (aA (oM sl) (cV v) (aA (vA (Db e)) (vA e.2.1) (aA (m=m) (F=cX (nK e)) True))))))))/\∀(e:Nat×dg×dg×Sl×Sl×PH),I1 e->aZ (↑e.1:Int) (aG d) (bF (λn E=>aH (aM d.a n E) (0<=(↑e.1:Int)) ((↑e.1:Int)<aG d) (∃(j:Sl),aL m (cX (nK e)) n (bK E e.1 1) (bH j)/\KY (λJ l=>aA (gK (nK e).1=gK J) (Rows (cX (nK
 e)) J l) (aA (cF (BK j l)) (nA (BK j l) j) (tV j/\∀(R:Sl),xD 3 (Sl.mk j.a j.len j.cap) (BK j l).toNat R->aA (uP (Db e) 1) (Cj (Db e)) (aA (cF (BK j l)) (nA (BK j l) j) (tV j/\∀(W:Sl),xD 3 (Sl.mk j.a j.len j.cap) (BK j l).toNat W->HJ (λs6 t l1 r=>aA (iH (eF (nK e)) W=iH s6 t) (Rows (cX (nK e)) s6 l1) (aA (bR (cX (nK e)) t r) (fW l1) (branch (Cg l1 r) (aA (cF (BK j l)) (Da (BK j l) j) (aA (uP e.2.1 1) (Cj e.2.1) (∃(f:Nat×dg×dg×Sl×Sl×PH),aA (I1 f) (V f<V e) (aA cH iL (aA (eL 106) (eL 95) (aA (aY (nK e).1 (nK f).1) (aY (eF (nK e)) (eF (nK f))) (aA (aJ d) (bG d) (aA (fU (bC e.1
 1)=bP f.1) (oM sl) (aA (cV v) (lN (Db e) R (Db f)) (aA (bW 65 1 (vU e.2.1 (lI (lJ (Value.slice j.a (BK j l).toNat j.cap))))=Al f.2.1) (m=m) (bQ (cX (nK e)) (cX (nK f))))))))))))) (∃(f:Nat×dg×dg×Sl×Sl×PH),aA (I1 f) (V f<V e) (aA cH iL (aA (eL 106) (eL 95) (aA (aY (nK e).1 (nK f).1) (aY (eF (nK e)) (eF (nK f))) (aA (aJ d) (bG d) (aA (fU (bC e.1 1)=bP f.1) (oM sl) (aA (cV v) (lN (Db e) R (Db f)) (aA (pW e.2.1 f.2.1) (m=m) (bQ (cX (nK e)) (cX (nK f)))))))))))))))))))))) (bF (λn E=>aH (aM (gJ v) n E) ((0:Int)<=0) (0<aG v.args) (∃(j:QV),aA (aL m (cX (nK e)) n (E+0) j.enc) (dN (cX (nK
 e)) n E 0 j.enc) (bN (cX (nK e)) 1 (List.map eS e.2.1) (λJ G=>rY J G sl j N (λu C=>fX (aG v.args) 1 (bF (λL P=>aH (aM (gJ v) L P) ((0:Int)<=1) (1<aG v.args) (∃(H:QV),aA (aL m C L (P+21) H.enc) (dN C L P 21 H.enc) (bN C 1 (List.map eS (Db e)) (λR M=>rY R M sl H N (λS X=>BL X L P H u S K m)))))) (yU K (jY u) m C))))))))))) (cW (v.op==5) (bF (λA B=>aH (aM (gJ v) A B) ((0:Int)<=1) (1<aG v.args) (∃(z:QV),aL m (cX x) A (B+21) z.enc/\Ar sl z (cX x) 4 (λQ F=>dN F A B 21 z.enc/\gL (λE J=>AD (λt P=>Lu (cM v.on::aX (cM d) (cM Q)) E J t (gS F E P) (λa=>Rows F J a) (λn=>Rows F t n) (fY P) (fK P) F (λe j
 =>agree P e j) (λR G=>∃(I1:Nat×dg×Sl×Sl×PH->Prop)(V:Nat×dg×Sl×Sl×PH->Nat),(∃(e:Nat×dg×Sl×Sl×PH),aA (I1 e) (aJ d) (aA cH iL (aA (aY R (mQ e).1) (eL 140) (aA (aY (eF x) (eF (mQ e))) (bZ (eF x) (eF (mQ e))) (aA (bA e.1) (oM sl) (aA (cV v) (vA e.2.1) (bO (m=m) G (cX (mQ e)))))))))/\∀(e:Nat×dg×Sl×Sl×PH),I1 e->aZ (↑e.1:Int) (aG (eF (mQ e))) (bF (λn U=>aH (aM (eF (mQ e)).a n U) (0<=(↑e.1:Int)) ((↑e.1:Int)<aG (eF (mQ e))) (∃(j:Sl),aL m (cX (mQ e)) n (bK U e.1 1) (bH j)/\∃(I2:Nat×Sl×Nat×dg×Sl×Sl×PH->Prop)(m2:Nat×Sl×Nat×dg×Sl×Sl×PH->Nat),(∃(f:Nat×Sl×Nat×dg×Sl
 ×Sl×PH),aA (I2 f) (aJ d) (aA cH iL (aA (aY (mQ e).1 (nL f).1) (eL 140) (aA (aY j f.2.1) (aY (eF (mQ e)) (eF (nL f))) (aA (bZ (eF (mQ e)) (eF (nL f))) (bV e.1 f.2.2.1) (aA (aJ d) (bG d) (aA (bA f.1) (oM sl) (aA (cV v) (pW e.2.1 (GN f)) (bO (m=m) (cX (mQ e)) (cX (nL f)))))))))))/\∀(f:Nat×Sl×Nat×dg×Sl×Sl×PH),I2 f->aZ (↑f.1:Int) (aG d) (bF (λL o5=>aH (aM d.a L o5) (0<=(↑f.1:Int)) ((↑f.1:Int)<aG d) (∃(H:Sl),aL m (cX (nL f)) L (bK o5 f.1 1) (bH H)/\gL (λo6 W=>AD (λt1 o7=>F7 (λa Y=>∃(r:Bool),aA (cM v.on::cM H::aX (cM f.2.1) bB=cM o6::cM W::aX (cM t1) (yF r)) (gS (cX (nL f)) o6 o7)
 (aA (bR (cX (nL f)) W a) (bR (cX (nL f)) t1 Y) (aA (mH a (fY o7)) (mH Y (fK o7)) (branch (Bool.and (agree o7 a Y) (Bool.or (!r) (kO (fY o7) a))) (vB (GN f) (∃(O:Nat×dg×Sl×Sl×PH),aA (I1 O) (V O<V e) (aA (aJ d) cH (aA iL (aY (nL f).1 (mQ O).1) (aA (eL 140) (aY (eF (nL f)) (eF (mQ O))) (aA (bZ (eF (nL f)) (eF (mQ O))) (fU (bC f.2.2.1 1)=bP O.1) (aA (oM sl) (cV v) (aH (lN (GN f) f.2.1 O.2.1) (m=m) (cX (nL f)=cX (mQ O)) True)))))))) (∃(O:Nat×Sl×Nat×dg×Sl×Sl×PH),aA (I2 O) (m2 O<m2 f) (aA (aJ d) cH (aA iL (aY (nL f).1 (nL O).1) (aA (eL 140) (aY f.2.1 O.2.1) (aA (aY (eF (nL f)) (eF (nL O)))
 (bZ (eF (nL f)) (eF (nL O))) (aA (bV f.2.2.1 O.2.2.1) (aJ d) (aA (bG d) (fU (bC f.1 1)=bP O.1) (aA (oM sl) (cV v) (aH (pW (GN f) (GN O)) (m=m) (cX (nL f)=cX (nL O)) True)))))))))))))))))) (∃(O:Nat×dg×Sl×Sl×PH),aA (I1 O) (V O<V e) (aA (aJ d) cH (aA iL (aY (nL f).1 (mQ O).1) (aA (eL 140) (aY (eF (nL f)) (eF (mQ O))) (aA (bZ (eF (nL f)) (eF (mQ O))) (fU (bC f.2.2.1 1)=bP O.1) (aA (oM sl) (cV v) (aH (pW (GN f) O.2.1) (m=m) (cX (nL f)=cX (mQ O)) True)))))))))) (bF (λn U=>aH (aM (gJ v) n U) ((0:Int)<=0) (0<aG v.args) (∃(j:QV),aA (aL m (cX (mQ e)) n (U+0) j.enc) (dN (cX (mQ
 e)) n U 0 j.enc) (rY (mQ e).1 (cX (mQ e)) sl j N (λu C=>fX (aG v.args) 1 (bF (λL o5=>aH (aM (gJ v) L o5) ((0:Int)<=1) (1<aG v.args) (∃(H:QV),aA (aL m C L (o5+21) H.enc) (dN C L o5 21 H.enc) (bN C 1 (List.map eS e.2.1) (λW M=>rY W M sl H N (λS X=>BL X L o5 H u S K m)))))) (yU K (jY u) m C))))))))))))) (v.op==6) (CN x.1 d (cX x) (λQ F=>CN (eF x) d F (λJ G=>bF (λA B=>aH (aM (gJ v) A B) ((0:Int)<=0) (0<aG v.args) (∃(z:QV),aA (aL m G A (B+0) z.enc) (dN G A B 0 z.enc) (rY Q G sl z N (λu C=>fX (aG v.args) 1 (bF (λn E=>aH (aM (gJ v) n E) ((0:Int)<=1) (1<aG v.args) (∃(j:QV),aA (aL m C n (E+21) j.enc) (dN C n E
 21 j.enc) (rY J C sl j N (λS M=>BL M n E j u S K m))))) (yU K (jY u) m C)))))))) (cW (v.op==7) (bF (λA B=>aH (aM (gJ v) A B) ((0:Int)<=0) (0<aG v.args) (∃(z:QV),aA (aL m (cX x) A (B+0) z.enc) (dN (cX x) A B 0 z.enc) (CN (eF x) d (cX x) (λQ F=>Ar sl z F 4 (λJ G=>dN G A B 0 z.enc/\CN Q J G (λR C=>bF (λn E=>aH (aM (gJ v) n E) ((0:Int)<=0) (0<aG v.args) (∃(j:QV),aA (aL m C n (E+0) j.enc) (dN C n E 0 j.enc) (rY d C sl j N (λu M=>fX (aG v.args) 1 (bF (λL P=>aH (aM (gJ v) L P) ((0:Int)<=1) (1<aG v.args) (∃(H:QV),aA (aL m M L (P+21) H.enc) (dN M L P 21 H.enc) (rY R M sl H N (λS X=>BL X L P H u
 S K m))))) (yU K (jY u) m M)))))))))))) (v.op==8) (bF (λA B=>aH (aM (gJ v) A B) ((0:Int)<=0) (0<aG v.args) (∃(z:QV),aA (aL m (cX x) A (B+0) z.enc) (dN (cX x) A B 0 z.enc) (CN (eF x) d (cX x) (λQ F=>Ar sl z F 4 (λJ G=>dN G A B 0 z.enc/\CN Q J G (λR C=>bF (λn E=>aH (aM (gJ v) n E) ((0:Int)<=0) (0<aG v.args) (∃(j:QV),aA (aL m C n (E+0) j.enc) (dN C n E 0 j.enc) (rY d C sl j N (λu M=>fX (aG v.args) 1 (bF (λL P=>aH (aM (gJ v) L P) ((0:Int)<=1) (1<aG v.args) (∃(H:QV),aA (aL m M L (P+21) H.enc) (dN M L P 21 H.enc) (rY R M sl H N (λS X=>BL X L P H u S K m))))) (yU K (jY u) m M)))))))))))) (cW (v.op==9)
 (bF (λA B=>aH (aM (gJ v) A B) ((0:Int)<=0) (0<aG v.args) (∃(z:QV),aA (aL m (cX x) A (B+0) z.enc) (dN (cX x) A B 0 z.enc) (gL (λg Q=>sP (λt Z=>Lu (cM v.group::aX (cM x.1) (cM d)) g Q t (Ints (cX x) g Z) (λa=>Rows (cX x) Q a) (λn=>Rows (cX x) t n) Z Z (cX x) (λe j=>jL Z e j) (λJ F=>Ar sl z F 4 (λR G=>dN G A B 0 z.enc/\Lt v J R G (λv3 g2 E a n=>oU n/\fB (λW C=>bY G C (Rows C W (qH g2 E v3.limit a n)) (bF (λL P=>aH (aM (gJ v) L P) ((0:Int)<=0) (0<aG v.args) (∃(j:QV),aA (aL m C L (P+0) j.enc) (dN C L P 0 j.enc) (rY W C sl j N (λu M=>fX (aG v.args) 1 (bF (λY U=>aH (aM (gJ v) Y U) ((0:Int)<=
 1) (1<aG v.args) (∃(H:QV),aA (aL m M Y (U+21) H.enc) (dN M Y U 21 H.enc) (Lv M (λs6 X=>LS sl H s6 X N (λT=>T) (λs7=>s7) (λs7=>s7) (λt1 s7 T D=>LR X t1 D s7 T (λS h8=>bY X h8 (sW h8 S (G7 s7 T D)) (BL h8 Y U H u S K m)))))))) (yU K (jY u) m M)))))))))))))))) (v.op==10) (bF (λA B=>aH (aM (gJ v) A B) ((0:Int)<=1) (1<aG v.args) (∃(z:QV),aA (aL m (cX x) A (B+21) z.enc) (dN (cX x) A B 21 z.enc) (gL (λg Q=>sP (λt Z=>Lu (cM v.group::aX (cM (eF x)) (cM d)) g Q t (Ints (cX x) g Z) (λa=>Rows (cX x) Q a) (λn=>Rows (cX x) t n) Z Z (cX x) (λe j=>jL Z e j) (λJ F=>Ar sl z F 4 (λR G=>dN G A B 21 z.enc/\Lt v J R G
 (λv3 g2 E a n=>oU n/\fB (λW C=>bY G C (Rows C W (qH g2 E v3.limit a n)) (bF (λL P=>aH (aM (gJ v) L P) ((0:Int)<=0) (0<aG v.args) (∃(j:QV),aA (aL m C L (P+0) j.enc) (dN C L P 0 j.enc) (rY d C sl j N (λu M=>fX (aG v.args) 1 (bF (λY U=>aH (aM (gJ v) Y U) ((0:Int)<=1) (1<aG v.args) (∃(H:QV),aA (aL m M Y (U+21) H.enc) (dN M Y U 21 H.enc) (rY W M sl H N (λS X=>BL X Y U H u S K m))))) (yU K (jY u) m M)))))))))))))))) (bF (λA B=>aH (aM (gJ v) A B) ((0:Int)<=0) (0<aG v.args) (∃(z:QV),aA (aL m (cX x) A (B+0) z.enc) (dN (cX x) A B 0 z.enc) (rY d (cX x) sl z N (λu F=>fX (aG v.args) 1 (bF (λn E=>aH (aM (gJ v)
 n E) ((0:Int)<=1) (1<aG v.args) (∃(j:QV),aA (aL m F n (E+21) j.enc) (dN F n E 21 j.enc) (Lv F (λQ G=>LS sl j Q G N (λT=>T) (λJ=>J) (λJ=>J) (λt J T D=>LR G t D J T (λS C=>bY G C (sW C S (G7 J T D)) (BL C n E j u S K m)))))))) (yU K (jY u) m F))))))))))))))))
theorem vQ{c d:PH}{u:Sl}{l:de}(le:PH.le c d)(e:Rows c u l):Rows d u l:=bI.mono e le λr t f=>bR.mono f le
theorem sW.app{us ws:dg}{a b:List de}(x:sW h us a)(y:sW h ws b):sW h (us++ws) (a++b):=by
 refine⟨by rw[cg,cg,x.len,y.len],λj l e=>?_⟩;have c:=x.len;by_cases d:j<a.length
 .rw[getElem?_append_left d]at e;rw[getElem?_append_left aD];exact x.at_ j l e
 .rw[getElem?_append_right aD]at e;rw[getElem?_append_right aD,c];exact y.at_ _ l e
theorem FD{s:jC}{st:List de}:∀(q:Query)(d:de),dT s q->(G7 st q d).length=(eY q).length
 |.mk op ta w co on gr od li args,d,g=>by
  rw[G7.eq_def];rcases g.cases with⟨rfl,rfl⟩|⟨a,rfl,c,h⟩|⟨a,b,rfl,c,e,h⟩
  .simp[eY,eN]
  .rw[Iw aD];exact FD a _ c
  .rw[Iv aD];dsimp only;rw[cg,cg,FD a _ c,FD b _ e]
def ceZ(s:Sl)(h:PH)(P:Sl->PH->Prop):Prop:=P s h
def c7X(us:dg)(h:PH)(P:Sl->PH->Prop):Prop:=∀s h',PH.le h h'->cO h' s 1 (us.map eS)->P s h'
structure Y7(A:PH->(Sl->PH->Prop)->Prop)(hz:PH)(F:de):Prop where
 go:∀h1,PH.le hz h1->∀P:Sl->PH->Prop,(∀s h2,PH.le h1 h2->Rows h2 s F->P s h2)->A h1 P
theorem z8{s:Sl}{c:PH}{F:de}(d:Rows c s F):Y7 (ceZ s) c F:=⟨λe le P f=>f s e (.refl _) (vQ le d)⟩
theorem O8{us:dg}{d:PH}{F:de}(e:dR d us F)(n:F.length<=8000000):Y7 (c7X us) d F:=⟨λo le P f s g c j=>f s g c ((e.mono (le.trans c)).rows j aD)⟩
def DT(N:Nat)(sl:Sl)(v:QV)(m:MH)(K:da)(A B:PH->(Sl->PH->Prop)->Prop)(e:PH):Prop:=
 ∃b c:Nat,v.args.a=some ⟨b,c,none⟩/\(0:Int)<=0/\(0:Int)<(v.args.len:Int)/\∃y:QV,aL m e b (c+0) (QV.enc y)/\bU e b (c+0) (QV.enc y)/\A e λn o=>R5 [cS n] m o λu _ x=>cFQ N [Zm sl,aQ y,u] m x λg _ d=>
  branch (decide ((v.args.len:Int)>1)) (∃b c:Nat,v.args.a=some ⟨b,c,none⟩/\(0:Int)<=1/\(1:Int)<(v.args.len:Int)/\∃y:QV,aL m d b (c+21) (QV.enc y)/\bU d b (c+21) (QV.enc y)/\B d λz C=>R5 [cS z] m C λD _ E=>cFQ N [Zm sl,aQ y,D] m E λF _ j=>bU j b (c+21) (QV.enc y)/\
   (match g,F with|.lst _ _ xs,.lst _ _ f=>(xs.length+f.length)*24<=140737488355328/\xs.length+f.length<=140737488355328/\K (.lst 58 1 (xs++f)) m j|_,_=>True)) (K g m d)
structure DK(h:PH)(sl:Sl)(st:List de)(sc:jC):Prop where
 st_:Cu h sl st
 good:Cv sc st
 pl:oZ sc
theorem auZ{N:Nat}{sl:Sl}{v:QV}{st:List de}{sc:jC}{op ta:Int}{w:Pred}{co:db}{on:dh}{gr:db}{od:di}{li:Int}{a:Query}{m:MH}{h c:PH}{K:da}{A B:PH->(Sl->PH->Prop)->Prop}{F:de}(x:mL h op ta w co on gr od li [a] v)(k:DK h sl st sc)(z:dT sc a)(C:kF a<=900000)(D:SizeOf.sizeOf a<N)(le:PH.le h c)(E:Y7 A c F)(G:F.length<=8000000)(H:∀r∈F,r.length<=1000)(d:∀r∈F,r∈bL st (cE a))
 (I:∀us h',PH.le h h'->sW h' us (G7 st a (sK F))->K (.lst 58 1 (us.map eS)) m h'):DT N sl v m K A B c:=by
 have J:=bI.slen x.args_;obtain⟨b,o,y,M,rd,O⟩:=bI.at x.args_ (i:=0) rfl;have rd:bU c b (o+0) (QV.enc y):=bx (rd.mono le)
 refine⟨b,o,M,aD,bo,y,.imm rd,rd,E.go c (.refl _) _ λP U f g=>⟨P,F,rfl,g,G,H,λQ V j n=>?_⟩⟩;have L:=le.trans (f.trans j);exact⟨sl,y,Q,st,a,sc,sK F,rfl,k.st_.mono L,O.mono L,D,z,C,k.good,k.pl,n,sZ _,λr R=>d r (xX.1 R),λus S u T=>aF (λe=>absurd e bo) (λ_=>I us S (L.trans u) T)⟩
theorem NN{sl:Sl}{st:List de}{sc:jC}{op:Int}{w:Pred}{on:dh}{a b:Query}{d:PH}{A B:PH->(Sl->PH->Prop)->Prop}{F S:de}(x:mL h op ta w co on gr od li [a,b] v)(k:DK h sl st sc)(Q:dT sc a)(R:dT sc b)(hc:kF a<=900000)(hd:kF b<=900000)(hN:SizeOf.sizeOf a<N)(hM:SizeOf.sizeOf b<N)(le:PH.le h d)(hA:Y7 A d F)(hB:Y7 B d S)
 (T:F.length<=8000000/\S.length<=8000000)(U:(∀r∈F,r.length<=1000)/\∀r∈S,r.length<=1000)(n:(∀r∈F,r∈bL st (cE a))/\∀r∈S,r∈bL st (cE b))
 (hK:∀us h',PH.le h h'->sW h' us (G7 st a (sK F)++G7 st b (sK S))->K (.lst 58 1 (us.map eS)) m h'):DT N sl v m K A B d:=by
 have a':=bI.slen x.args_;obtain⟨V,W,y,ea,rd,hy⟩:=bI.at x.args_ (i:=0) rfl;obtain⟨X,Y,D,E,c,G⟩:=bI.at x.args_ (i:=1) rfl;have rd:bU d V (W+0) (QV.enc y):=bx (rd.mono le)
 have c:bU d X (Y+21) (QV.enc D):=bx (c.mono le)
 have n1:=FD (st:=st) a (sK F) Q;have n2:=FD (st:=st) b (sK S) R;have n3:=Dt a;have n4:=Dt b;refine⟨V,W,ea,aD,bo,y,.imm rd,rd,hA.go d (.refl _) _ λs1 h1 o H=>⟨s1,F,rfl,H,T.1,U.1,λs' h2 u I=>?_⟩⟩;have L:=le.trans (o.trans u);refine⟨sl,y,s',st,a,sc,sK F,rfl,k.st_.mono L,hy.mono L,hN,Q,hc,k.good,k.pl,I,sZ _,λr J=>n.1 r (xX.1 J),λus h3 z Z=>aF (λ_=>?_) (λe=>absurd bo e)⟩;have M:=(o.trans u).trans z;refine⟨X,Y,E,aD,aD,D,.imm (c.mono M),c.mono M,hB.go h3 M _ λs2 h4 f O=>⟨s2,S,rfl,O,T.2,U.2,λs5 h5 g P=>?_⟩⟩;have L5:=L.trans (z.trans (f.trans g));refine⟨sl,D,s5,st,b,sc,sK S,rfl,k.st_.mono L5,G.mono L5,hM,R,hd,k.good,k.pl,P,sZ _,λr J=>n.2 r (xX.1 J),λws h6 j C=>⟨c.mono (M.trans (f.trans (g.trans j))),?_⟩⟩;have e1:=Z.len;have e2:=C.len;have:=hK (us++ws) h6 (L5.trans j) ((Z.mono (f.trans (g.trans j))).app C);rw[cj]at this;exact⟨bo,bo,this⟩
theorem bnQ{w:Nat}{k:db}(f:k.length=w)(h:Good (λ_ c=>DZ k c=true) co)(g:co.length<=12):fE w co:=⟨λc d=>by
 obtain⟨_,e⟩:=H7 h d;have:=Q4 e;omega,aD⟩
theorem bf{sl:Sl}{d:Sl}{st:List de}{q:Query}{sc:jC}{D:de}(F:Cu h sl st)(hq:cY h q v)(hN:SizeOf.sizeOf q<N+1)(g:dT sc q)(hc:kF q<=900000)(o:Cv sc st)(d':oZ sc)(hd:Rows h d D)(hS:fW D)(hD:∀x∈D,x∈bL st (cE q))(hK:∀us h',PH.le h h'->sW h' us (G7 st q D)->K (.lst 58 1 (us.map eS)) m h'):af N sl v d m h K:=by
 dsimp only[af,push_cast];have h0:=Mb d' o;have d8:=@vR q;have kk:DK h sl st sc:=⟨F,o,d'⟩
 have d0:=bI.slen hd;have rE:=uW h0 F.val o.few (nT q g).1
 have a4:D.length<=8000000:=by
  have h1:D.Nodup:=List.Pairwise.imp (fun{x y} h e=>by rw[e,iZ.2 rfl]at h;omega) hS;exact cv (List.Nodup.length_le_of_subset h1 hD) rE.len
 have b3:∀r∈D,r.length<=1000:=λr f=>by have:=(rE.row r (hD r f)).len;omega
 obtain⟨op,ta,pw,co,on,gr,od,li,args⟩:=q;have x:=hq.parts;have f5:v.op=op:=x.op_;have f6:=bI.slen x.args_;have G:∀{n:Int}{P Q:Prop},n≠op->Q->branch (v.op==n) P Q:=λhn hq=>aC (λe=>absurd bo hn) (λ_=>hq);have yb:∀{n:Int}{P Q:Prop},n=op->P->branch (v.op==n) P Q:=λhn hp=>aC (λ_=>hp) (λe=>bo);have node:=g.node.1;have d9:=bAJ g;rw[G7.eq_def]at hK;have H:∀{l:de}{w:Nat},iM w l->∀r∈l,r.length<=1000:=λf r hm=>by have:=(f.row r hm).len;omega
 rcases g.cases with⟨rfl,rfl⟩|⟨a,rfl,Z,c5⟩|⟨a,b,rfl,Z,gb,c5⟩
 .have rq:=uW h0 F.val o.few g;refine yb rfl ⟨sl,v,st,_,sc,rfl,F,hq,g,hc,h0,o.few,λs1 h1 L a'=>⟨s1,d,true,_,D,rfl,a',vQ L hd,hS,rq.len,λT h2 a1 I=>?_⟩⟩;exact hK [T] h2 (L.trans a1) (by simpa using(sW.nil h2).snoc I)
 .have n1:(1:Int)≠op:=by omega
  have ea:=nT a Z;have ra:=uW h0 F.val o.few Z;have J:=uW h0 F.val o.few ea.1;have M:kF a<=900000:=by simp only[kF,kC]at hc;omega
  have e':=(DO a Z).1;have a0:SizeOf.sizeOf a<N:=bo
  obtain⟨b1,o1,u,eb,rd,hu⟩:=bI.at x.args_ (i:=0) rfl;have rd:bU h b1 (o1+0) (QV.enc u):=by omega
  have a8:(0:Int)<(v.args.len:Int):=bo
  refine G n1 ⟨b1,o1,eb,aD,a8,u,.imm rd,u,a,sc,rfl,hu,Z,λw h1 L hw=>⟨rd.mono L,sl,w,st,cE a,sc,rfl,F.mono L,hw,ea.1,aD,h0,o.few,λs1 h2 a1 a'=>⟨λz=>z=(s1,cG,h2),aF (λe=>absurd e bo) (λ_=>⟨_,rfl,MT⟩),?_⟩⟩⟩;rintro _ rfl;dsimp only;have L2:=L.trans a1;have d1:=vQ L2 hd;dsimp only at hK;rcases c5 with rfl|rfl|rfl
  .exact G bj (G bj (G bj (G bj (G bj (G bj (G bj (G bj (auZ (B:=ceZ cG) x kk Z M a0 L2 (z8 d1) a4 b3 (λr f=>by
    have:=hD r f;rw[rF rfl,map_cons,map_nil,Vk bj,op2]at this;exact this.1) hK))))))))
  .have a5:fE (aK sc [] (cE a)).1.length co:=bnQ bo (node.proj rfl).2 d9.1;generalize hW:bL st (cE a)=W at a' J hK;have b4:=bI.slen a';have f7:=J.len;refine yb rfl ⟨λz=>z.1<=W.length/\∃us hx,z.2=(us,s1,hx)/\PH.le h2 hx/\dR hx us ((W.take z.1).filter λr=>Cg D (pick r co)),λz=>W.length-z.1,⟨(0,[],s1,h2),⟨bi,[],h2,rfl,.refl _,bx (dR.nil h2)⟩,MT⟩,?_⟩;rintro⟨i,z⟩ ⟨hi,us,hx,e,C,U⟩;dsimp only at hi e U;subst e;dsimp only;have d2:=U.len;have a9:=length_filter_le (λr=>Cg D (pick r co)) (W.take i);rw[length_take]at a9;refine aF (λa6=>?_) (λd3=>?_)
   .obtain⟨r,V⟩:=dW b4 a6;have b5:=ce V;obtain⟨b2,o2,ur,e2,X,hv⟩:=bI.at a' V;have a7:W.take (i+1)=W.take i++[r]:=by rw[cq,V];rfl
    have mu:W.length-(i+1)<W.length-i:=by omega
    rw[fR aD];refine⟨b2,o2,e2,aD,a6,ur,.imm (X.mono C),ur,v.columns,r,co,rfl,bR.mono hv C,x.columns_.mono (L2.trans C),by rw[J.wid r b5];exact a5,λs3 h3 c e0=>⟨d,s3,D,pick r co,rfl,vQ (L2.trans (C.trans c)) hd,e0,hS,aC (λe=>?_) (λe=>?_)⟩⟩
    .exact⟨bo,bo,(i+1,us++[ur],s1,h3),⟨aD,us++[ur],h3,rfl,C.trans c,by dsimp only;rw[a7,filter_append,filter_cons_of_pos (by exact e),filter_nil];exact(U.mono c).snoc (bR.mono hv (C.trans c))⟩,mu,by rw[cj];exact MT⟩
    .exact⟨(i+1,us,s1,h3),⟨aD,us,h3,rfl,C.trans c,by dsimp only;rw[a7,filter_append,filter_cons_of_neg bo,filter_nil,append_nil];exact U.mono c⟩,mu,MT⟩
   .rw[ci aD]at U a9;have f3:=length_filter_le (λr=>Cg D (pick r co)) W;exact auZ (B:=ceZ cG) x kk Z M a0 (L2.trans C) (O8 U aD) aD (λr f=>H J r (mem_filter.1 f).1) (λr f=>bo) hK
  .have a5:fE (aK sc [] a).1.length gr:=GZ (node.rank (.inl rfl)).group_ (by have:=jB sc [] a;omega);have b':∀r∈bL st (cE a),fE r.length gr:=λr f=>by rw[J.wid r f,ea.2.1];exact a5
   have c6:∀r∈D,fE r.length gr:=λr f=>b' r (by have:=hD r f;rw[EN rfl]at this;exact this);refine G bj (G bj (G bj (G bj (G bj (G bj (yb rfl ?_))))));refine⟨b1,o1,eb,aD,a8,u,.imm (rd.mono L2),rd.mono L2,v.group,s1,d,gr,_,D,rfl,x.group_.mono L2,a',d1,b',c6,J.len,a4,λs3 h3 C O=>⟨sl,u,st,a,sc,rfl,F.mono (L2.trans C),hu.mono (L2.trans C),Z,M,h0,o.few,λs4 h4 c Y=>⟨rd.mono (L2.trans (C.trans c)),v,s3,s4,gr,od,_,_,rfl,x.group_.mono (L2.trans (C.trans c)),x.order_.mono (L2.trans (C.trans c)),vQ c O,Y,λr f=>b' r (mem_filter.1 f).1,λr f=>by rw[ra.wid r f];exact a5,cv (length_filter_le _ _) J.len,ra.len,λs5 h5 E a2=>?_⟩⟩⟩;rw[x.limit_]at a2;exact auZ (B:=ceZ cG) x kk Z M a0 (L2.trans (C.trans (c.trans E))) (z8 a2) (cv (length_filter_le _ _) (cv (length_filter_le _ _) J.len)) (λr f=>H J r (mem_filter.1 (mem_filter.1 f).1).1) (λr f=>(mem_filter.1 (mem_filter.1 f).1).1) hK
 .have n1:(1:Int)≠op:=by omega
  have ea:=nT a Z;have eb:=nT b gb;have ra:=uW h0 F.val o.few Z;have rb:=uW h0 F.val o.few gb;have J:=uW h0 F.val o.few ea.1;have A:=uW h0 F.val o.few eb.1;have d4:kF a<=900000/\kF b<=900000:=by simp only[kF,kC]at hc;omega
  obtain⟨M,a3⟩:=d4;have e':=(DO a Z).1;have f8:=(DO b gb).1;have a0:SizeOf.sizeOf a<N:=bo
  have b0:SizeOf.sizeOf b<N:=bo
  obtain⟨b1,o1,u,e1,rd,hu⟩:=bI.at x.args_ (i:=0) rfl;obtain⟨b2,o2,u2,e2,X,U⟩:=bI.at x.args_ (i:=1) rfl;have rd:bU h b1 (o1+0) (QV.enc u):=by omega
  have X:bU h b2 (o2+21) (QV.enc u2):=by omega
  have a8:(0:Int)<(v.args.len:Int):=bo
  have b8:(1:Int)<(v.args.len:Int):=bo
  refine G n1 ⟨b1,o1,e1,aD,a8,u,.imm rd,u,a,sc,rfl,hu,Z,λw h1 L hw=>⟨rd.mono L,sl,w,st,cE a,sc,rfl,F.mono L,hw,ea.1,aD,h0,o.few,λs1 h2 a1 a'=>⟨λz=>∃T h3,z=(s1,T,h3)/\PH.le h2 h3/\Rows h3 T (bL st (cE b)),aF (λ_=>⟨b2,o2,e2,aD,b8,u2,.imm (X.mono (L.trans a1)),u2,b,sc,rfl,U.mono (L.trans a1),gb,λw2 h3 C e3=>⟨X.mono (L.trans (a1.trans C)),sl,w2,st,cE b,sc,rfl,F.mono (L.trans (a1.trans C)),e3,eb.1,aD,h0,o.few,λT h4 c I=>⟨_,⟨T,h4,rfl,C.trans c,I⟩,MT⟩⟩⟩) (λe=>absurd b8 e),?_⟩⟩⟩;rintro _ ⟨T,h3,rfl,C,I⟩;dsimp only;have L3:=(L.trans a1).trans C;have a':=vQ C a';have b9:=vQ L3 hd;have fl:∀{l:de}{p:dj->Bool},l.length<=8000000->(l.filter p).length<=8000000:=λh=>cv (length_filter_le _ _) h;dsimp only at hK;rcases c5 with rfl|rfl|rfl|rfl|rfl|rfl
  .have wa:(aK sc [] (cE a)).1.length=(aK sc [] a).1.length:=by rw[ea.2.1]
   have wb:(aK sc [] (cE b)).1.length=(aK sc [] b).1.length:=by rw[eb.2.1]
   generalize hR:bL st (cE b)=R at I A hK
   have split:∀r∈D,r.length-A3 R<=r.length/\A3 R<=r.length/\r.length<=12/\r.take (r.length-A3 R)∈bL st (cE a)/\r.drop (r.length-A3 R)∈R:=λr f=>by
    have h5:=hD r f;have h6:=(rE.row r h5).len;rw[rF rfl,map_cons,map_cons,map_nil,FU bj,op4,hR]at h5;obtain⟨y,hy,z,hz,_,e⟩:=h5
    have hW:A3 R=z.length:=by
     cases hb:R with
     |nil=>grind
     |cons u l=>show u.length=_;rw[A.wid u (by rw[hb];simp),A.wid z hz]
    have hl:r.length=y.length+z.length:=bo
    have h7:r.length-A3 R=y.length:=by omega
    grind
   refine G bj (yb rfl ⟨b2,o2,e2,aD,b8,u2,.imm (X.mono L3),sl,u2,st,b,sc,rfl,F.mono L3,U.mono L3,gb,a3,h0,o.few,λs3 h4 c O=>?_⟩);have L4:=L3.trans c;have e4:=vQ L4 hd;have I:=vQ c I;refine⟨λz=>z.1<=D.length/\∃us ws,z.2=(us,ws,T,s3,h4)/\dR h4 us (((D.take z.1).filter λr=>Cg (bL st b) (r.drop (r.length-A3 R))).map λr=>r.take (r.length-A3 R))/\dR h4 ws ((D.take z.1).map λr=>r.drop (r.length-A3 R)),λz=>D.length-z.1,⟨(0,[],[],T,s3,h4),⟨bi,[],[],rfl,bx (dR.nil h4),bx (dR.nil h4)⟩,MT⟩,?_⟩;rintro⟨i,z⟩ ⟨hi,us,ws,e,c',S⟩;dsimp only at hi e c' S;subst e;dsimp only;have d2:=c'.len;have b4:=S.len;have a9:=length_filter_le (λr=>Cg (bL st b) (r.drop (r.length-A3 R))) (D.take i);rw[length_map]at d2 b4;rw[length_take]at a9 b4;refine aF (λa6=>?_) (λd3=>?_)
   .obtain⟨r,V⟩:=dW d0 a6;have b5:=ce V;obtain⟨p1,p2,p3,p4,p5⟩:=split r b5;obtain⟨b6,o6,ur,e6,c7,hv⟩:=bI.at e4 V;have e5:=bI.slen hv;have a7:D.take (i+1)=D.take i++[r]:=by rw[cq,V];rfl
    have mu:D.length-(i+1)<D.length-i:=by omega
    have hn:IntKind.i64.wrap ((ur.len:Int)-(A3 R:Int))=((r.length-A3 R:Nat):Int):=by rw[e5,eM aD aD];omega
    have c1:IntKind.i64.wrap ((i:Int)+1)=((i+1:Nat):Int):=fR aD;have low:∀s5,xD 3 ⟨ur.a,ur.len,ur.cap⟩ (r.length-A3 R) s5->bR h4 s5 (r.drop (r.length-A3 R)):=λs5 lo=>It (by rw[map_drop];exact cO.low (P1 hv) lo bo) bo;have c2:=WY hv;refine⟨b6,o6,e6,aD,a6,ur,.imm c7,T,R,rfl,I,?_⟩;rw[hn,c1,Int.toNat_natCast];refine⟨aD,aD,c2,λs5 d5=>⟨bo,bo,aD,aD,c2,λs6 e8=>⟨s3,s6,_,_,rfl,O,low s6 e8,rb.srt,aC (λe=>?_) (λe=>?_)⟩⟩⟩
    .refine⟨aD,aD,bo,bo,(i+1,us++[⟨ur.a,r.length-A3 R,ur.cap⟩],ws++[s5],T,s3,h4),⟨aD,_,_,rfl,?_,by dsimp only;rw[a7,cj,map_singleton];exact S.snoc (low s5 d5)⟩,mu,by rw[cj,cj];exact MT⟩;dsimp only;rw[a7,filter_append,filter_cons_of_pos (by exact e),filter_nil,cj,map_singleton];exact c'.snoc (It (by rw[map_take];exact cO.cut (P1 hv) _ bo) bo)
    .exact⟨(i+1,us,ws++[s5],T,s3,h4),⟨aD,us,ws++[s5],rfl,bo,by dsimp only;rw[a7,cj,map_singleton];exact S.snoc (low s5 d5)⟩,mu,by rw[cj];exact MT⟩
   .rw[ci aD]at c' S;refine NN x kk Z gb M a3 a0 b0 L4 (O8 c' bo) (O8 S bo) ⟨bo,bo⟩ ⟨λr f=>?_,λr f=>?_⟩ ⟨λr f=>?_,λr f=>?_⟩ hK
    .grind
    .grind
    .grind
    grind
  .obtain⟨ca,cb⟩:=MX (node.pair (.inr rfl)) (jB sc [] a) (jB sc [] b)
   have dA:∀r∈D,r∈bL st (cE a):=λr f=>by
    have:=hD r f;rw[rF rfl,map_cons,map_cons,map_nil,FU bj,op5]at this;exact this.1
   have cD:∀r∈D,fE r.length (fY on):=λr f=>by rw[J.wid r (dA r f),ea.2.1];exact ca
   generalize hR:bL st (cE b)=R at I A hK;have cR:∀r∈R,fE r.length (fK on):=λr f=>by rw[A.wid r f,eb.2.1];exact cb
   have e9:=bI.slen I;have d6:=A.len;refine G bj (G bj (yb rfl ⟨b2,o2,e2,aD,b8,u2,.imm (X.mono L3),sl,u2,st,b,sc,rfl,F.mono L3,U.mono L3,gb,a3,h0,o.few,λs3 h4 c O=>⟨X.mono (L3.trans c),v.on,d,s3,on,D,_,rfl,x.on_.mono (L3.trans c),vQ (L3.trans c) hd,O,cD,λr f=>by rw[rb.wid r f];exact cb,a4,rb.len,λs4 h5 E Y=>?_⟩⟩));have L5:=(L3.trans c).trans E;have f':=vQ L5 hd;have I:=vQ (c.trans E) I;refine⟨λz=>z.1<=R.length/\∃ws,z.2=(ws,s4,T,h5)/\dR h5 ws ((R.take z.1).filter λy=>D.any λr=>agree on r y),λz=>R.length-z.1,⟨(0,[],s4,T,h5),⟨bi,[],rfl,bx (dR.nil h5)⟩,MT⟩,?_⟩;rintro⟨i,z⟩ ⟨hi,ws,e,S⟩;dsimp only at hi e S;subst e;dsimp only;have b4:=S.len;have a9:=length_filter_le (λy=>D.any λr=>agree on r y) (R.take i);rw[length_take]at a9;refine aF (λa6=>?_) (λd3=>?_)
   .obtain⟨y,c8⟩:=dW e9 a6;have f0:=ce c8;obtain⟨b6,o6,uy,e6,c7,d7⟩:=bI.at I c8;have a7:R.take (i+1)=R.take i++[y]:=by rw[cq,c8];rfl
    have mu:R.length-(i+1)<R.length-i:=by omega
    have c1:IntKind.i64.wrap ((i:Int)+1)=((i+1:Nat):Int):=fR aD;refine⟨b6,o6,e6,aD,a6,uy,.imm c7,λz=>z.1<=D.length/\z.2=(uy,i,ws,s4,T,h5)/\(D.take z.1).any (λr=>agree on r y)=false,λz=>D.length-z.1,⟨(0,uy,i,ws,s4,T,h5),⟨bi,rfl,bi⟩,MT⟩,?_⟩;rintro⟨j,z⟩ ⟨hj,e,c9⟩;dsimp only at hj e c9;subst e;dsimp only;refine aF (λc3=>?_) (λf4=>?_)
    .obtain⟨r,V⟩:=dW d0 c3;have b5:=ce V;obtain⟨b7,o7,ur,e7,f1,f2⟩:=bI.at f' V;refine⟨b7,o7,e7,aD,c3,ur,.imm f1,v.on,ur,uy,on,r,y,false,rfl,x.on_.mono L5,f2,d7,cD r b5,cR y f0,aC (λe=>?_) (λe=>?_)⟩
     .have e:agree on r y=true:=bx e
      rw[c1];exact⟨bo,bo,(i+1,ws++[uy],s4,T,h5),⟨aD,_,rfl,by dsimp only;rw[a7,filter_append,filter_cons_of_pos bo,filter_nil];exact S.snoc d7⟩,mu,by rw[cj];exact MT⟩
     .have e:agree on r y=false:=bx e
      rw[fR aD];exact⟨(j+1,uy,i,ws,s4,T,h5),⟨aD,rfl,by dsimp only;rw[cq,V,Option.toList_some,any_append,c9];simp[e]⟩,aD,MT⟩
    .rw[ci aD]at c9;rw[c1];exact⟨(i+1,ws,s4,T,h5),⟨aD,ws,rfl,bo⟩,mu,MT⟩
   .rw[ci aD]at S;exact NN x kk Z gb M a3 a0 b0 L5 (z8 Y) (O8 S (fl d6)) ⟨fl a4,fl d6⟩ ⟨λr f=>b3 r (mem_filter.1 f).1,λr f=>H A r (mem_filter.1 f).1⟩ ⟨λr f=>dA r (mem_filter.1 f).1,λr f=>bo⟩ hK
  .refine G bj (G bj (G bj (yb rfl ⟨s1,d,true,_,D,rfl,a',b9,hS,J.len,λs3 h4 c O=>⟨T,d,true,_,D,rfl,vQ c I,vQ c b9,hS,A.len,λs4 h5 E Y=>?_⟩⟩)));exact NN x kk Z gb M a3 a0 b0 (L3.trans (c.trans E)) (z8 (vQ E O)) (z8 Y) ⟨fl J.len,fl A.len⟩ ⟨λr f=>H J r (mem_filter.1 f).1,λr f=>H A r (mem_filter.1 f).1⟩ ⟨λr f=>(mem_filter.1 f).1,λr f=>(mem_filter.1 f).1⟩ hK
  .have dA:∀r∈D,r∈bL st (cE a):=λr f=>by
    have:=hD r f;rw[EN rfl]at this;exact this
   refine G bj (G bj (G bj (G bj (yb rfl ⟨b1,o1,e1,aD,a8,u,.imm (rd.mono L3),rd.mono L3,T,d,true,_,D,rfl,I,b9,hS,A.len,λs3 h4 c O=>⟨sl,u,st,a,sc,rfl,F.mono (L3.trans c),hu.mono (L3.trans c),Z,M,h0,o.few,λs4 h5 E Y=>⟨rd.mono (L3.trans (c.trans E)),s3,s4,true,_,_,rfl,vQ E O,Y,ra.srt,fl A.len,λs5 h6 c0 a2=>?_⟩⟩⟩))));have L6:=L3.trans (c.trans (E.trans c0));exact NN x kk Z gb M a3 a0 b0 L6 (z8 (vQ L6 hd)) (z8 a2) ⟨a4,fl (fl A.len)⟩ ⟨b3,λr f=>H A r (mem_filter.1 (mem_filter.1 f).1).1⟩ ⟨dA,λr f=>(mem_filter.1 (mem_filter.1 f).1).1⟩ hK
  .have dA:∀r∈D,r∈bL st (cE a):=λr f=>by
    have:=hD r f;rw[rF rfl,map_cons,map_cons,map_nil,FU bj,op8]at this;exact this.1
   refine G bj (G bj (G bj (G bj (G bj (yb rfl ⟨b1,o1,e1,aD,a8,u,.imm (rd.mono L3),rd.mono L3,T,d,true,_,D,rfl,I,b9,hS,A.len,λs3 h4 c O=>⟨sl,u,st,a,sc,rfl,F.mono (L3.trans c),hu.mono (L3.trans c),Z,M,h0,o.few,λs4 h5 E Y=>⟨rd.mono (L3.trans (c.trans E)),s3,s4,true,_,_,rfl,vQ E O,Y,ra.srt,fl A.len,λs5 h6 c0 a2=>?_⟩⟩⟩)))));have L6:=L3.trans (c.trans (E.trans c0));exact NN x kk Z gb M a3 a0 b0 L6 (z8 (vQ L6 hd)) (z8 a2) ⟨a4,fl (fl A.len)⟩ ⟨b3,λr f=>H A r (mem_filter.1 (mem_filter.1 f).1).1⟩ ⟨dA,λr f=>(mem_filter.1 (mem_filter.1 f).1).1⟩ hK
  .have dA:∀r∈D,r∈bL st (cE a):=λr f=>by
    have:=hD r f;rw[EN rfl]at this;exact this
   have c4:(aK sc [] a).1=(aK sc [] b).1:=node.same (.inr (.inr (.inr rfl)));have a5:fE (aK sc [] b).1.length gr:=by rw[<-c4];exact GZ (node.rank (.inr rfl)).group_ (jB sc [] a)
   have b':∀r∈bL st (cE b),fE r.length gr:=λr f=>by rw[A.wid r f,eb.2.1];exact a5
   have c6:∀r∈D,fE r.length gr:=λr f=>by rw[J.wid r (dA r f),ea.2.1,c4];exact a5
   refine G bj (G bj (G bj (G bj (G bj (G bj (G bj (yb rfl ?_)))))));refine⟨b2,o2,e2,aD,b8,u2,.imm (X.mono L3),X.mono L3,v.group,T,d,gr,_,D,rfl,x.group_.mono L3,I,b9,b',c6,A.len,a4,λs3 h4 c O=>⟨sl,u2,st,b,sc,rfl,F.mono (L3.trans c),U.mono (L3.trans c),gb,a3,h0,o.few,λs4 h5 E Y=>⟨X.mono (L3.trans (c.trans E)),v,s3,s4,gr,od,_,_,rfl,x.group_.mono (L3.trans (c.trans E)),x.order_.mono (L3.trans (c.trans E)),vQ E O,Y,λr f=>b' r (mem_filter.1 f).1,λr f=>by rw[rb.wid r f];exact a5,fl A.len,rb.len,λs5 h6 c0 a2=>?_⟩⟩⟩;rw[x.limit_]at a2;have L6:=L3.trans (c.trans (E.trans c0));exact NN x kk Z gb M a3 a0 b0 L6 (z8 (vQ L6 hd)) (z8 a2) ⟨a4,fl (fl A.len)⟩ ⟨b3,λr f=>H A r (mem_filter.1 (mem_filter.1 f).1).1⟩ ⟨dA,λr f=>(mem_filter.1 (mem_filter.1 f).1).1⟩ hK
theorem f52_all:∀N,cz 52 (cFQ N)
 |0=>by
  refine eG (fn:=Tryz.f52) (c:=dQ Tryz.f52) func52 rfl bj ?_;rintro e m h K ⟨f,v,t,u,q,sc,D,rfl,_,_,o,_⟩;omega
 |N+1=>by
  refine gW func52 ?_;rintro e m h K ⟨f,v,t,u,q,sc,D,rfl,j,x,o,g,y,d,n,z,A,B,C⟩;refine⟨f52_ctx N f v t m,rfl,aE ap (aE TC (aE au (aE RL (aE TD (aE asQ (aE RJ (aE Kl (aE arJ (aE RI (aE Jq (aE (f52_all N) aI))))))))))),af N f v t m h K,bh,?_⟩;exact bf j x o g y d n z A B C
def cLX:Vc.Spec:=λd m h K=>∃e v t c q sc D,d=[Zm e,aQ v,cS t]/\Cu h e c/\cY h q v/\dT sc q/\kF q<=900000/\Cv sc c/\oZ sc/\Rows h t D/\fW D/\(∀x∈D,x∈bL c (cE q))/\∀f h',PH.le h h'->sW h' f (G7 c q D)->K (.lst 58 1 (f.map eS)) m h'
def aSX:Vc.Spec:=λc m h K=>∃e v d q sc,c=[Zm e,aQ v]/\Cu h e d/\cY h q v/\dT sc q/\kF q<=800000/\Cv sc d/\oZ sc/\∀f h',PH.le h h'->Leaves h' f ((nW (uL sc) q (cE q)).map (bL d))->K (cS f) m h'
noncomputable def czX:Ctx:=cZ [(54,aAJ),(53,Wl),(52,cLX)] [] [] [] false
noncomputable def cUJ:Ctx:=
 cZ [(8,c4Q),(9,b4J),(10,aAQ 1000),(11,NZ),(12,azJ),(13,b1Z),(14,b3X),(15,aSX),(16,b3Q),(17,ccZ)]
  [(8,{A:=Nat×Nat×cK×QV×Sl×Sl×MH×PH,st:=λ⟨n,cb,sc,a,p,r,m,h⟩=>bS 88 89 [(3,pv cb),(4,.at (.ptr 4 0)),(5,.at (.ptr 5 0)),(6,.at (.ptr 6 0)),(8,iv n)] [(4,.cells 27 (sc.enc.map .val)),(5,.cells 41 (a.enc.map .val)),(6,.cells 45 [.val (.slice p.a p.len p.cap),.val (.slice r.a r.len r.cap)])] m h}),
   (16,{A:=Nat×Sl×Sl×Nat×Nat×cK×QV×Sl×Sl×MH×PH,st:=λ⟨i,l,w,n,cb,sc,a,p,r,m,h⟩=>bS 88 89 [(3,pv cb),(4,.at (.ptr 4 0)),(5,.at (.ptr 5 0)),(6,.at (.ptr 6 0)),(8,iv n),(10,sv l),(12,sv w),(59,sv r),(60,iv r.len),(61,iv i)] [(4,.cells 27 (sc.enc.map .val)),(5,.cells 41 (a.enc.map .val)),(6,.cells 45 [.val (.slice p.a p.len p.cap),.val (.slice r.a r.len r.cap)])] m h})] [] [] false
def Yr(sl:Sl)(v:QV)(m:MH)(h:PH)(K:da):Prop:=
  ∃(j:QV),zH (λq s=>aH (iQ v=iQ j) (cY h q j) (dT s q) (yK h q (λy z=>Ar sl y z 4 (λA d=>Cn (λn o=>M5 (λt e=>zH (λc f=>∃(D:de),aA (rO sl::aX (dG v) (cM A)=rO n::aX (dG o) (cM t)) (Cu d n e) (aA (cY d c o) (dT f c) (aA (HP c) (Cv f e) (aA (oZ f) (Rows d t D) (aA (fW D) (∀(x:dj),DH x D (List.Mem x (bL e (cE c)))) (∀(u:dg)(g:PH),bY d g (sW g u (G7 e c D)) (bN g 1 (List.map eS u) (λB C=>K (cM B) m C))))))))))))))
noncomputable abbrev BT(a:Nat×Nat×cK×QV×Sl×Sl×MH×PH):cK:=a.2.2.1
noncomputable abbrev Dc(a:Nat×Nat×cK×QV×Sl×Sl×MH×PH):QV:=a.2.2.2.1
noncomputable abbrev Dd(a:Nat×Nat×cK×QV×Sl×Sl×MH×PH):Sl:=a.2.2.2.2.1
noncomputable abbrev sS(a:Nat×Nat×cK×QV×Sl×Sl×MH×PH):Sl×MH×PH:=a.2.2.2.2.2
noncomputable abbrev qF(a:Nat×Sl×Sl×Nat×Nat×cK×QV×Sl×Sl×MH×PH):Nat×Nat×cK×QV×Sl×Sl×MH×PH:=a.2.2.2
noncomputable abbrev jD(a:Nat×Sl×Sl×Nat×Nat×cK×QV×Sl×Sl×MH×PH):Sl×MH×PH:=sS (qF a)
attribute [push_cast] BT Dc Dd sS qF jD
def aLZ(s:Sl)(m:MH)(h:PH)(K:da):Prop:=
  ∃(U:Sl)(c:dr)(m1:Nat),aA (cA (cM s) 240=cA (cM U) (↑m1:Int)) (cO h U 1 (bJ c)) (aA (tV U) (oV m1) (∀(u:Nat),iG (λG H=>bY h H (m u=Option.none) (bT m G u->bE G H u->∃(J:Nat),aA (pN (dM u)=pN (dM J)) (bE G H J) (∀(s2:jC)(v:cK),iG (λL g=>oZ s2->iC g s2 v->bY H g (bT G L J) (qB L g J (Jh (λM s3=>∃(p:Sl),Cp (λO P=>∃(d:Int),aA (iA u (cL v::cA Dn 3)=iA M (cL s3::cA (cM p) d)) (bE L g M) (aA (iC g O s3) (eX O=0) (aA (xH (O.tables=[])) (Ints g p P) (aA (gC P) (AY (Kb P)) (aH (Int.negSucc 0<=d) (d<=1000) ((d+1).toNat<1000) (IP g (λw q z Q=>QW q->D5 d.toNat q->(fG O P q).2=0->
 bT L z M->qB z Q M (∃(s5:cK),Jf (λv1 A=>∃(j:Query),aA (aX (cL v) (dG w)=aX (cL s5) (dG v1)) (iC Q A s5) (aA (cY Q j v1) (AY (sJ j)) (aA (gX z) (Sf A j) (∀(p2:Sl),fB (λr D=>bY Q D (EW A j=0->pM D p2 r (kN A j).1 (kN A j).2) (dH (EW A j) 0 (K bB z D) (uR (λv2 V=>aH (iQ w=iQ v2) (cY D V v2) (HP V) (fB (λs7 R=>bY D R (Ints R s7 (eY V)) (dH (aG r) (aG s7) (K bB z R) (∃(I:Nat×Nat×cK×QV×Sl×Sl×MH×PH->Prop)(m5:Nat×Nat×cK×QV×Sl×Sl×MH×PH->Nat),(∃(x:Nat×Nat×cK×QV×Sl×Sl×MH×PH),aA (I x) (dK u x.2.1) (aA iL dU (aA (eP 6) (bA x.1) (aA (tO v (BT x)) (jG w (Dc x)) (aH (oQ 45 (j9 (nX
 p2) (nX r))=oQ 45 (j9 (nX (Dd x)) (nX (sS x).1))) (jZ z (sS x)) (R=dP (sS x)) True)))))/\∀(x:Nat×Nat×cK×QV×Sl×Sl×MH×PH),I x->aZ (↑x.1:Int) 2 (∃(S:Nat),uS (λv3 W=>aA (dM x.2.1::cA (cL (BT x)) 3=dM S::cA (cL v3) 3) (bE (eT (sS x)) (dP (sS x)) S) (aA (iC (dP (sS x)) W v3) (oZ W) (∀(s9:List de)(a:Sl),iG (λE n=>bY (dP (sS x)) n (Cu n a s9) (Cv W s9->bT (eT (sS x)) E S->qB E n S (∃(a1:cK),gL (λa2 p3=>∃(r1:Sl),Vv (λB C=>E9 (λt T=>aA (cL (BT x)::aX (rO a) (sE (Dd x) (sS x).1)=cL a1::aX (rO a2) (sE p3 r1)) (iC n B a1) (aA (Cu n a2 C) (pM n p3 r1 t T) (aA
 (gX E) (iF B t T=0->lC B C=0->Hb B C t) (fB (λa5 F=>bY n F (xF B t T C=0->Leaves F a5 (lF C t)) (dH (xF B t T C) 0 (K bB E F) (Vy a (Dc x) F (λa6 X Y=>aH (kF X<=800000) (Cv Y a6) (oZ Y) (fB (λa8 Z=>bY F Z (Leaves Z a8 (List.map (bL a6) (nW (uL Y) X (cE X)))) (∃(I1:Nat×Sl×Sl×Nat×Nat×cK×QV×Sl×Sl×MH×PH->Prop)(m7:Nat×Sl×Sl×Nat×Nat×cK×QV×Sl×Sl×MH×PH->Nat),(∃(e:Nat×Sl×Sl×Nat×Nat×cK×QV×Sl×Sl×MH×PH),aA (I1 e) (dK x.2.1 (qF e).2.1) (aA iL dU (aA (eP 6) (bV x.1 (qF e).1) (aA (aY a5 e.2.1) (aY a8 e.2.2.1) (aA (aY (sS x).1 (jD e).1) (bZ (sS x).1 (jD e).1) (aA (bA e.1) (tO (BT x) (BT (qF
 e))) (aA (jG (Dc x) (Dc (qF e))) (oQ 45 (j9 (nX (Dd x)) (nX (sS x).1))=oQ 45 (j9 (nX (Dd (qF e))) (nX (jD e).1))) (aA (jZ E (jD e)) (Z=dP (jD e)) True))))))))/\∀(e:Nat×Sl×Sl×Nat×Nat×cK×QV×Sl×Sl×MH×PH),I1 e->aZ (↑e.1:Int) (aG (jD e).1) (bF (λb o=>aH (aM (jD e).1.a b o) (0<=(↑e.1:Int)) ((↑e.1:Int)<aG (jD e).1) (∃(y:Int),aL (eT (jD e)) (dP (jD e)) b (bK o e.1 1) (bM y)/\aZ y 0 (K bB (eT (jD e)) (dP (jD e))) (gQ y (aG e.2.1) (K bB (eT (jD e)) (dP (jD e))) (bF (λb1 o1=>aH (aM e.2.1.a b1 o1) (0<=y) (y<aG e.2.1) (∃(y1:Sl),aL (eT (jD e)) (dP (jD e)) b1 (fF o1 y 1) (bH y1)/\bF (λb2 o2=>
 aH (aM e.2.2.1.a b2 o2) (0<=(↑e.1:Int)) ((↑e.1:Int)<aG e.2.2.1) (∃(y2:Sl),aL (eT (jD e)) (dP (jD e)) b2 (bK o2 e.1 1) (bH y2)/\gL (λa9 t1=>E7 (λb3 b4=>aH (iH y1 y2=iH a9 t1) (Rows (dP (jD e)) a9 b3) (Rows (dP (jD e)) t1 b4) (∀(r3:Bool),iB (gU r3 (b3=b4)) (!r3) (K bB (eT (jD e)) (dP (jD e))) (∃(f:Nat×Sl×Sl×Nat×Nat×cK×QV×Sl×Sl×MH×PH),aA (I1 f) (m7 f<m7 e) (aA (dK (qF e).2.1 (qF f).2.1) iL (aA dU (eP 6) (aA (bV (qF e).1 (qF f).1) (aY e.2.1 f.2.1) (aA (aY e.2.2.1 f.2.2.1) (aY (jD e).1 (jD f).1) (aA (bZ (jD e).1 (jD f).1) (fU (bC e.1 1)=bP f.1) (aA (tO (BT (qF e)) (BT (qF f))) (jG (Dc (qF e))
 (Dc (qF f))) (aA (oQ 45 (j9 (nX (Dd (qF e))) (nX (jD e).1))=oQ 45 (j9 (nX (Dd (qF f))) (nX (jD f).1))) (jZ (eT (jD e)) (jD f)) (bQ (dP (jD e)) (dP (jD f))))))))))))))))))))))) (∃(f:Nat×Nat×cK×QV×Sl×Sl×MH×PH),aA (I f) (m5 f<m5 x) (aA (dK (qF e).2.1 f.2.1) iL (aA dU (eP 6) (aA (fU (bC (qF e).1 1)=bP f.1) (tO (BT (qF e)) (BT f)) (j4 (jG (Dc (qF e)) (Dc f)) (oQ 45 (j9 (nX (Dd (qF e))) (nX (jD e).1))=oQ 45 (j9 (nX (Dd f)) (nX (sS f).1))) (jZ (eT (jD e)) (sS f)) (dP (jD e)) (dP (sS f))))))))))))))))))))))))))) (aA (([]:du)=[]) (gX (eT (sS x))) (K fM (eT (sS x)) (dP (sS
 x)))))))))))))))))))))))))))))))))
theorem bg:cz 52 cLX:=iE f52_all λ_ _ _ _⟨d,v,t,f,q,sc,D,e,g,j,n,o,u,x,y,z,A,c⟩=>⟨SizeOf.sizeOf q+1,d,v,t,f,q,sc,D,e,g,j,aD,n,o,u,x,y,z,A,c⟩
theorem bjZ:cz 15 aSX:=by
 refine gW func15 ?_;rintro E m h K ⟨o,v,st,q,sc,rfl,d,B,g,O,c,j,F⟩;refine⟨czX,rfl,aE au (aE ap (aE bg aI)),Yr o v m h K,bh,?_⟩;dsimp only[Yr,push_cast];have u:=Mb j c;have C:=nT q g;have G:=(DO q g).1;have D:=uW u d.val c.few C.1;refine⟨v,q,sc,rfl,B,g,λw P e H=>⟨o,w,st,cE q,sc,rfl,d.mono e,H,C.1,aD,u,c.few,λI Q f y=>⟨o,v,I,st,q,sc,_,rfl,d.mono (e.trans f),B.mono (e.trans f),g,aD,c,j,y,D.srt,λx h=>h,λR S z J L M n A=>F L M (e.trans (f.trans (z.trans n))) ?_⟩⟩⟩;have T:=FD (st:=st) q (bL st (cE q)) g;have U:=Dt q;have:=(J.mono n).leaves A aD;rw[nU u d.val c.few q (cE q) g (bpZ.refl _) D.srt]at this;exact this
theorem btJ(h:iF s ts rs=0):rs.length<=32/\ts.length<=1024/\∀r∈rs,0<=r/\r<ts.length:=by
 unfold iF at h
 grind
theorem bFZ:cz 3 c8J:=by
 refine gW func3 ?_;rintro d4 m h K ⟨s,cs,rfl,P,S,ht,hK⟩;refine⟨cUJ,rfl,aE bFQ (aE bEX (aE (aNQ 1000) (aE RG (aE Un (aE bkX (aE Rw (aE bjZ (aE TV (aE bjQ aI))))))))),aLZ s m h K,bh,?_⟩;dsimp only[aLZ,push_cast];refine⟨s,cs,240,rfl,P,S,aD,λcb m1 h1 d5 F o1 c1=>⟨cb,rfl,c1,λsc v m2 h2 g rS d6 o2 c2=>?_⟩⟩;obtain⟨T,a4⟩:=Qu g;have sub:∀{E},bT m E cb->Sub m E:=fun{E} om b o e=>by rw[om.other b (λe2=>bo)];exact e
 refine⟨cb,v,cG,sc,[],3,rfl,c2,rS,T,a4,oX _,bi,bi,aD,aD,bj,λa d m3 h3 a5 rq qw fq hq o3 c3=>?_⟩;have fq:D5 3 d:=fq;obtain⟨_,_,U,qk⟩:=HF hq;have qc:=SQ U;have qb:gM 4 d<=65536:=cv (uU.b fq) bj;have gq:dT sc d:=⟨qk,VG (s:=sc) (ps:=[]) bi d qk qw,aD⟩
 have nq:Zd sc d:=S8 (B:=65536) T gq qc qb bj;have A:=(o1.trans o2).trans o3;have a6:=ht.new F A;have G:=rS.mono a5;refine⟨v,a,sc,d,rfl,G,rq,U,a6,nq.ok,λp r h4 V H=>aC (λe=>bo) (λ_=>⟨a,d,rfl,rq.mono V,aD,λs2 h5 I a7=>?_⟩)⟩;have H:=H hq;have J:=nq.valid;have c:=nq.run;have W:=sG (wd:=uL sc) d (cE d) gq;have d7:=a7.slen;have X:=H.roots.slen;unfold JZ at c;generalize (kN sc d).1=ts at H J c;generalize (kN sc d).2=rs at H J c X;obtain⟨d1,d2,a8⟩:=btJ J;generalize a9:nW (uL sc) d (cE d)=ds at W c;have b':∀f,lC sc f=0->StV f->(∀l∈f,l.length<=4)->rs.length=ds.length:=λf a1 a2 a3=>by have:=congrArg List.length (c f a1 a2 a3).2.2;grind
 have L5:=V.trans I
 have d3:rs.length=(eY d).length:=by
  have ge:Cv sc (replicate sc.tables.length []):=⟨bi,λl Q=>bo,λi t l _ e2=>by
   have:l=[]:=eq_of_mem_replicate (ce e2);subst this;exact⟨λr P=>by simp at P,λi r r' e=>by simp at e⟩,λl Q r P=>bo⟩
  rw[b' _ (Mb g ge) ge.val ge.few,W]
 refine aC (λe=>bo) (λ_=>⟨λz=>z.1<=2/\∃E hx,z.2=(cb,v,a,p,r,E,hx)/\bE E hx cb/\bT m3 E cb/\PH.le h5 hx,λz=>2-z.1,⟨(0,cb,v,a,p,r,m3,h5),⟨bi,m3,h5,rfl,c3.mono L5,bT.refl _ _,.refl _⟩,MT⟩,?_⟩);rintro⟨n,z⟩ ⟨hn,E,hx,e,cx,ox,lex⟩;dsimp only at hn e;subst e;dsimp only;have b0:=ht.new F (A.trans ox);have Lx:=L5.trans lex;refine aF (λd8=>?_) (λ_=>⟨rfl,b0,hK _ _ (sub (A.trans ox))⟩);refine⟨cb,v,sc,rfl,cx,G.mono Lx,g,λf sl Y h6 C L j o6 c6=>?_⟩;have h0:=Mb g j;obtain⟨hb,_,b4⟩:=c f h0 L.val j.few;have hT:=ht.new F ((A.trans ox).trans o6);have L6:=Lx.trans C;refine⟨v,sl,p,r,sc,f,ts,rs,rfl,G.mono L6,L,H.mono ((I.trans lex).trans C),hT,λ_ _=>hb,λl h7 x Q=>?_⟩;have b5:xF sc ts rs f=0:=by unfold xF;omega
 have Q:=Q b5;refine aC (λe=>bo) (λ_=>⟨sl,a,f,d,sc,rfl,L.mono x,rq.mono (L6.trans x),gq,aD,j,g,λw Z D hw=>?_⟩);rw[a9]at hw;have b6:=bI.slen Q;have b7:=bI.slen hw;rw[length_map]at b7;have b8:(lF f ts).length=ts.length:=by simp[lF]
 have M:∀{ha hb:PH}{u:Sl}{l:List de},PH.le ha hb->Leaves ha u l->Leaves hb u l:=λle hu=>bI.mono hu le λl s P=>bI.mono P le λr t hv=>bR.mono hv le;have a':=M D Q;have O:=H.roots.mono (((I.trans lex).trans C).trans (x.trans D));generalize lF f ts=R at a' b6 b8 b4;refine⟨λz=>z.1<=rs.length/\z.2=(l,w,n,cb,v,a,p,r,Y,Z),λz=>rs.length-z.1,⟨(0,l,w,n,cb,v,a,p,r,Y,Z),⟨bi,rfl⟩,MT⟩,?_⟩;rintro⟨i,z⟩ ⟨hi,e⟩;dsimp only at hi e;subst e;dsimp only;refine aF (λa0=>?_) (λd9=>?_)
 .obtain⟨y,hy⟩:=dW X a0;have e':=(bz hy);obtain⟨y0,y1⟩:=a8 y (ce hy);obtain⟨b1,b9,e1,c'⟩:=O.at' hy;have eR:R[y.toNat]? =some (R.getD y.toNat []):=bo
  have eW:(ds.map (bL f))[i]? =some (R.getD y.toNat []):=bo
  obtain⟨b2,c0,u2,e2,c4,c5⟩:=bI.at a' eR;obtain⟨b3,c7,u3,e3,c8,c9⟩:=bI.at hw eW;have d':=(bz eW);rw[length_map]at d';rw[fR aD];refine⟨b1,b9,e1,aD,a0,y,.imm c',aF (λe=>absurd e aD) (λ_=>aF (λe=>absurd e aD) (λ_=>⟨b2,c0,e2,aD,aD,u2,.imm c4,b3,c7,e3,aD,aD,u3,.imm c8,u2,u3,_,_,rfl,c5,c9,λr9 e0=>aC (λe=>bo) (λ_=>?_)⟩))⟩;exact⟨(i+1,l,w,n,cb,v,a,p,r,Y,Z),⟨aD,rfl⟩,aD,MT⟩
 .have d0:IntKind.i64.wrap ((n:Int)+1)=((n+1:Nat):Int):=fR aD;rw[d0];exact⟨(n+1,cb,v,a,p,r,Y,Z),⟨aD,Y,Z,rfl,c6.mono (x.trans D),ox.trans o6,lex.trans (C.trans (x.trans D))⟩,aD,MT⟩
end Go.Ps
