/- Own work. -/
import Derived.Test.YtjpjambjoceofaaGreatDoorEf
set_option linter.unusedVariables false
set_option linter.unusedSimpArgs false
namespace Go.Ps
open Go Go.Vc Go.Proofs List Tryz
variable{K:bz}{m:MH}{h:PH}{s:jE}{ps:ca}{ts:cq}{cb:Nat}{sc:cE}{v:QV}{t:Step}{p:Pred}{l:ca}{i:Nat}{N:Nat}{m':MH}{h':PH}{co:ca}{gr:ca}{od:cg}{ta:Int}{li:Int}{xs:List bx}{sz:Nat}{ks:List ca}{rs:ca}{r:Sl}{a:ca}{b:Nat}
def bDQ:Vc.Spec:=λc m h K=>∃op,c=[cI op]/\K (cB (Bt op)) m h
def axX:Vc.Spec:=λc m h K=>∃v s op ta w co on gr od li args,∃ks:cv,c=[aQ v,cS s]/\bU h (.mk op ta w co on gr od li args) v/\Ints h s (ks.map fun(k:Nat)=>(k:Int))/\∀d,uB h (zK op ta w co on gr od li ks) d->K (aT d) m h
def bAQ:Vc.Spec:=λc m h K=>∃sc v s op ta w co on gr od li args ps d,c=[aS sc,aPN v]/\gZ h s sc/\mM s/\bU h (.mk op ta w co on gr od li args) v.query/\cD h v.args 25 (d.map gO.enc)/\kV h ps d/\((ps.length:Int)=arity op)/\0<=arity op/\(∀p∈ps,0<=p.width/\p.width<=1000)/\K (cI (Ea s op ta co ps)) m h
def Wk(op:Int)(m:MH)(h:PH)(K:bz):Prop:=
  cW (op==7) (gK K m h) (op==9) (gK K m h) (K (Bc (op==10)) m h)
noncomputable abbrev J9(a:QV)(b:bx):bx:=aM (mX (jW a)) (kA (fB a)) (aM (qX (fB a)) (j7 (fB a)) (aM (rK (fB a)) (mX (fB a)) (aM (Cn a) (Cq a) (aM (fK a.on) (Co a) (aM (Cp a) (Bh a) b)))))
attribute [push_cast] J9
def Wl(v:QV)(s:Sl)(m:MH)(h:PH)(K:bz):Prop:=
  nK (decide (aH s>0)) (bJ (λb o=>aA (bM s.a b o) ((0:Int)<=0) (0<aH s/\∃(y:Int),aU m h b (o+0) (bG y)/\fA (aH s) 1 (bJ (λc d=>aA (bM s.a c d) ((0:Int)<=1) (1<aH s/\∃(e:Int),aU m h c (d+1) (bG e)/\K (wQ v v (J9 v (Bi y e))) m h))) (K (wQ v v (J9 v (jK (eF y) dE))) m h)))) (aH s) 1 (bJ (λb o=>aA (bM s.a b o) ((0:Int)<=1) (1<aH s/\∃(y:Int),aU m h b (o+1) (bG y)/\K (wQ v v (J9 v (jK dE (eF y)))) m h))) (K (wQ v v (J9 v (jK dE dE))) m h)
noncomputable abbrev yE(a:gO):Int:=a.query.op
abbrev EV(a:gO)(b:Int)(c:Nat->Nat->Int->Prop):Prop:=bJ (λx d=>aA (bM a.args.a x d) (0<=b) (b<aH a.args/\∃(e:Int),c x d e))
attribute [push_cast] yE EV
def PI(sc:cE)(v:gO)(m:MH)(h:PH)(K:bz):Prop:=
  cW (yE v==1) (CQ (aW (cJ sc) v.query.table) h (λs d=>K (fX (aH s)) m d)) (yE v==3) (K (fX (Dc v.query)) m h) (eO (yE v) 4 (EV v 0 (λb o y=>aU m h b (o+0+24) (bG y)/\EV v 1 (λe f c=>aU m h e (f+25+24) (bG c)/\K (fX (fH (y+c))) m h))) (EV v 0 (λb o y=>aU m h b (o+0+24) (bG y)/\K (fX y) m h)))
theorem RR:bu 84 bDQ:=by
 refine hU func84 ?_;rintro f m h K ⟨op,rfl,c⟩;refine⟨dA [] [] [] [] false,rfl,aG,Wk op m h K,bd,?_⟩;dsimp only[Wk,push_cast];unfold Bt at c;refine aC (λd=>?_) (λd=>aC (λe=>?_) (λe=>?_))
 .rw[d]at c;exact c
 .rw[d,e]at c;exact c
 .rw[d,e]at c;exact c
theorem aMQ:bu 83 axX:=by
 refine hU func83 ?_;rintro g m h K ⟨v,s,op,ta,w,co,on,gr,od,li,args,ks,rfl,j,c,n⟩;refine⟨dA [] [] [] [] false,rfl,aG,Wl v s m h K,bd,?_⟩;dsimp only[Wl,push_cast];have x:=j.parts;have d:=c.slen;rw[length_map]at d;have key:∀l r:Int,l=((ks.getD 0 0:Nat):Int)->r=((ks.getD 1 0:Nat):Int)->K (aT ⟨v.op,v.table,v.where_,v.columns,v.on,v.group,v.order,v.limit,l,r⟩) m h:=λl r u y=>n _ ⟨x.op_,x.table_,x.where_,x.columns_,x.on_,x.group_,x.order_,x.limit_,u,y⟩;have get:∀i,i<ks.length->(ks.map fun(k:Nat)=>(k:Int))[i]? =some ((ks.getD i 0:Nat):Int):=λi z=>by simp[z]
 refine aF (λA=>?_) (λA=>aF (λf=>by omega) (λf=>?_))
 .obtain⟨b,o,e,r⟩:=c.at (get 0 aD);refine⟨b,o,e,aD,aD,_,.imm r,aF (λf=>?_) (λf=>?_)⟩
  .obtain⟨b,o,e,r⟩:=c.at (get 1 aD);exact⟨b,o,e,aD,aD,_,.imm r,key _ _ rfl rfl⟩
  .exact key _ 0 rfl bk
 .exact key 0 0 bk bk
theorem cbX{s:Sl}{vs:List gO}{ps:du}(c:cD h s 25 (vs.map gO.enc))(d:kV h ps vs){p:PN}(f:ps[i]? =some p):∃b o v,s.a=some ⟨b,o,none⟩/\bL h b (o+i*25) (gO.enc v)/\nR h p v:=by
 obtain⟨v,g,j⟩:=d.get f;obtain⟨b,o,e,k⟩:=c.get (i:=i) (e:=gO.enc v) (by simp[g])
 grind
theorem NP{o:Nat}{v:gO}(r:bL h b o (gO.enc v)):bL h b (o+21) [.slice v.args.a v.args.len v.args.cap]/\bL h b (o+22) [eF v.rows]/\bL h b (o+23) [eF v.env]/\bL h b (o+24) [eF v.width]:=by
 refine⟨⟨λj x e=>?_⟩,⟨λj x e=>?_⟩,⟨λj x e=>?_⟩,⟨λj x e=>?_⟩⟩<;>
  (have c:j=0:=(by have:=(List.getElem?_eq_some_iff.1 e).1;simpa using this)
   subst c;simp at e;subst e)
 .exact r.rd 21 _ rfl
 .exact r.rd 22 _ rfl
 .exact r.rd 23 _ rfl
 .exact r.rd 24 _ rfl
theorem nR.width_{p:PN}{v:gO}(x:nR h p v):v.width=p.width:=by
 cases p;exact x.2.2.2.1
theorem nR.rows_{p:PN}{v:gO}(x:nR h p v):v.rows=p.rows:=by
 cases p;exact x.2.1
theorem nR.env_{p:PN}{v:gO}(x:nR h p v):v.env=p.env:=by
 cases p;exact x.2.2.1
theorem aMX:bu 81 bAQ:=by
 refine FR func81 ?_;rintro E m h K ⟨sc,v,s,op,ta,w,co,on,gr,od,li,args,ps,R,rfl,F,G,H,B,C,n,y,D,d⟩;refine⟨dA [(139,zI)] [] [] [] false,rfl,aE Fw aG,PI sc v m h (lE h K),bd,?_⟩;show PI sc v m h (lE h K);dsimp only[PI,push_cast];have x:=H.parts;have I:=x.op_;have J:v.args.len=ps.length:=by have:=B.len;rw[length_map,C.length]at this;exact this
 have one:op≠1->1<=ps.length:=λc=>by
  unfold arity at n y
  grind
 unfold Ea at d;show branch (v.query.op==1) _ _;rw[I,x.table_]
 have get:∀(i:Nat)(j:i<ps.length),∃b o,v.args.a=some ⟨b,o,none⟩/\bL h b (o+i*25+24) [eF ((ps.map PN.width).getD i 0)]:=λi j=>by
  obtain⟨b,o,u,e,r,L⟩:=cbX B C (getElem?_eq_getElem j);have M:=(NP r).2.2.2;rw[L.width_]at M
  grind
 refine aC (λc=>?_) (λc=>aC (λf=>?_) (λf=>aC (λg=>?_) (λg=>?_)))
 .have c:op=1:=bk
  rw[if_pos c]at d;exact⟨sc,s,ta,rfl,F,G,λS h' le j=>.out (Sub.refl m) le (by rw[j.slen];exact d)⟩
 .have c:op≠1:=bk
  have f:op=3:=bk
  rw[if_neg c,if_pos f]at d;exact .here (by rw[x.columns_.slen];exact d)
 .have c:op≠1:=bk
  have f:op≠3:=bk
  have g:op=4:=bk
  rw[if_neg c,if_neg f,if_pos g]at d;have n:(ps.length:Int)=2:=by rw[n,g];rfl
  have z:0<ps.length:=by omega
  have A:1<ps.length:=by omega
  obtain⟨b,o,e,r⟩:=get 0 z;obtain⟨O,P,Q,T⟩:=get 1 A;have U:=D ps[0] (getElem_mem z);have V:=D ps[1] (getElem_mem A);have W:(ps.map PN.width).getD 0 0=ps[0].width:=by simp[z]
  have X:(ps.map PN.width).getD 1 0=ps[1].width:=by simp[A]
  refine⟨b,o,e,aD,aD,(ps.map PN.width).getD 0 0,.imm (bt r),O,P,Q,aD,aD,(ps.map PN.width).getD 1 0,.imm aD,.here ?_⟩;rw[eH aD aD];exact d
 .have c:op≠1:=bk
  have f:op≠3:=bk
  have g:op≠4:=bk
  rw[if_neg c,if_neg f,if_neg g]at d;have:=one c;obtain⟨b,o,e,r⟩:=get 0 aD;exact⟨b,o,e,aD,aD,_,.imm (bt r),.here d⟩
mutual
def j9:PN->Nat
 |.mk _ args _ _ _=>1+rG args
def rG:du->Nat
 |[]=>0
 |p::ps=>j9 p+rG ps
end
def Ia(p:PN):Prop:=
 match p with
 |.mk (.mk op _ _ co on gr od _ _) args _ _ c=>(args.length:Int)=arity op/\0<=c/\c<=500/\co.length<=1000/\on.length<=1000/\gr.length<=1000/\od.length<=1000/\∀a∈args,Ia a
 termination_by SizeOf.sizeOf p
def cFZ(N:Nat):Vc.Spec:=λc m h K=>∃v p d e cb f ts rs,c=[cP cb,aPN v,cI d]/\nR h p v/\SizeOf.sizeOf p<N/\Ia p/\fN e m h cb f ts rs/\gJ e/\ts.length+5*j9 p<=90000/\rs.length+j9 p<=90000/\
 ∀m' h',PH.le h h'->fN e m' h' cb f (fG p d ts rs).1 (fG p d ts rs).2->K (.tup []) m' h'
noncomputable def bUX(N cb:Nat)(d:Int)(v:gO)(m:MH)(h:PH):Ctx:=
 sN [(85,cFZ N),(142,aeX),(143,bIJ),(144,bDJ),(145,ceQ),(146,cdX),(147,ayZ),(148,bEQ)] [(13,{A:=Nat×ce×gO×gO,st:=λ⟨i,l,a,b⟩=>bQ 236 239 [(0,pv cb),(2,iv d),(7,.at (.ptr 7 0)),(8,.at (.ptr 8 0)),(9,.at (.lst 82)),(70,iv b.width),(71,iv i)] [(7,.cells 136 (a.enc.map .val)),(8,.cells 136 (b.enc.map .val)),(82,.lst 101 2 (l.map kX))] m h})] [(11,{A:=gO×gO,st:=λ⟨a,b⟩=>bQ 236 239 [(0,pv cb),(2,iv d),(7,.at (.ptr 7 0)),(8,.at (.ptr 8 0))] [(7,.cells 136 (a.enc.map .val)),(8,.cells 136 (b.enc.map .val))] m h}),
  (18,{A:=gO×gO×MH×PH,st:=λ⟨a,b,m,h⟩=>bQ 236 239 [(0,pv cb),(2,iv d),(7,.at (.ptr 7 0)),(8,.at (.ptr 8 0))] [(7,.cells 136 (a.enc.map .val)),(8,.cells 136 (b.enc.map .val))] m h}),
  (21,{A:=gO×gO,st:=λ⟨a,b⟩=>bQ 236 239 [(0,pv cb),(2,iv d),(6,.at (.ptr 6 0)),(11,.at (.ptr 11 0)),(12,.at (.ptr 12 0))] [(6,.cells 38 (v.query.enc.map .val)),(11,.cells 136 (a.enc.map .val)),(12,.cells 136 (b.enc.map .val))] m h}),
  (22,{A:=gO×gO×MH×PH,st:=λ⟨a,b,m,h⟩=>bQ 236 239 [(0,pv cb),(2,iv d),(6,.at (.ptr 6 0)),(12,.at (.ptr 12 0))] [(6,.cells 38 (v.query.enc.map .val)),(12,.cells 136 (b.enc.map .val))] m h}),
  (25,{A:=MH×PH,st:=λ⟨m,h⟩=>bQ 236 239 [(0,pv cb),(2,iv d),(4,.at (.ptr 4 0))] [(4,.cells 136 (v.enc.map .val))] m h}),
  (29,{A:=gO×gO,st:=λ⟨a,b⟩=>bQ 236 239 [(0,pv cb),(2,iv d),(13,.at (.ptr 13 0)),(14,.at (.ptr 14 0))] [(13,.cells 136 (a.enc.map .val)),(14,.cells 136 (b.enc.map .val))] m h}),
  (30,{A:=gO×gO×MH×PH,st:=λ⟨a,b,m,h⟩=>bQ 236 239 [(0,pv cb),(2,iv d),(13,.at (.ptr 13 0)),(14,.at (.ptr 14 0))] [(13,.cells 136 (a.enc.map .val)),(14,.cells 136 (b.enc.map .val))] m h}),
  (35,{A:=MH×PH,st:=λ⟨m,h⟩=>bQ 236 239 [(0,pv cb),(2,iv d),(4,.at (.ptr 4 0)),(6,.at (.ptr 6 0))] [(4,.cells 136 (v.enc.map .val)),(6,.cells 38 (v.query.enc.map .val))] m h})] [] [1033] [] false
abbrev nW(a:gO)(b c:Int)(d:Nat->Nat->gO->Prop):Prop:=bJ (λx e=>aA (bM a.args.a x e) (b<=c) (c<aH a.args/\∃(f:gO),d x e f))
noncomputable abbrev mR(a:gO):CV:=lS a.enc
abbrev qD(a:cz)(b:gO)(c:PH)(d:Nat)(e:MH)(g:Nat)(i:PN->Int->MH->Nat->Nat->cq->ca->Prop):Prop:=∃(x:PN)(u:Int)(f:MH),IJ (λj y n o=>aA (a=cT j (aW (mR b) u)) (nR c x b) (aA (SizeOf.sizeOf x<d) (Ia x) (aA (fN f e c j y n o) (gJ f) (aA (n.length+g*j9 x<=90000) (o.length+j9 x<=90000) (i x u f j y n o)))))
noncomputable abbrev tO(a:Step)(b:cq):Value:=eF (↑(bT a b).2:Int)
abbrev kR(a b:gO):Prop:=nL 136 a.enc=nL 136 b.enc
abbrev JR(a:Prop)(b:gO×gO×MH×PH->Prop)(c:(gO×gO×MH×PH)->Prop):Prop:=a/\∀(x:gO×gO×MH×PH),b x->c x
noncomputable abbrev AG(a:gO×gO×MH×PH):Nat->Nat->Option Value:=a.2.2.2
abbrev Od(a:cz)(b:Nat->Option Obj)(c:Nat->Nat->Option Value)(d:Int->Int->MH->Nat->Nat->cq->ca->Prop):Prop:=Gi (λx j=>∃(e:MH),IJ (λf n g o=>aA (a=cT f (aW (fX x) j)) (fN e b c f n g o) (aA (gJ e) (g.length<=100000) (d x j e f n g o))))
noncomputable abbrev Ah(a b:Int):Step:=Step.mk 8 0 Df [] [] [] [] 0 a b
abbrev JQ(a:Nat)(b c:Int)(d:Nat->Option Obj)(e:Nat->Nat->Option Value)(g:Int->Int->cq->MH->PH->Prop):Prop:=Od (cT a (aW (fX b) c)) d e (λx j u y z n A=>gA (λo f=>cC e f (fN u o f y z (bT (Ah x j) n).1 A) (g x j n o f)))
abbrev qS:Prop:=eP 13
attribute [push_cast] nW mR qD tO kR JR AG Od Ah JQ qS
def Wj(N cb:Nat)(v:gO)(d:Int)(m:MH)(h:PH)(K:bz):Prop:=
  cW (yE v==1) (tM m h cb 1 (λy=>∃(x:List bx),aA (dC m (iA y.a y) 3 1 x) (fC (iY x 1*8)) (jQ x/\lD (λs D=>eD m D (iA y.a y) s 3 1 (eN x (bG d))->wD (λc E=>aA (Ib D cb (oU c E 0)) (1<c.size) (∀(G:MH),eA D G cb (w9 c 1 (bA s)) E->xD K G h)))))) (yE v==2) (nW v 0 0 (λb o y=>aU m h b (o+0) y.enc/\∃(H:gO),qD (cT cb (aW (mR y) d)) H h N m 5 (λp B D c G t r=>gA (λC e=>cC h e (fN D C e c G (fG p B t r).1 (fG p B t r).2) (xD K C e))))) (cW (yE v==3) (nW v 0 0 (λb o y=>aU m h b (o+0) y.enc/\EV v 0 (λA u j=>aA (aU m h A (u+0+23) (bG j)) (bL h b (o+0) y.enc) (bL h A (u+0+23) (bG j)/\CM (λs c=>aA (iT
 v.query.columns=iT s) (Ints h s c) (fO c/\iR (λY e=>cC h e (iF e Y (oR c)) (bL e b (o+0) y.enc/\G7 cb j d Y e m (λl r o2 D M G t J=>gA (λC z=>cC e z (fN D C z M G (bT (yK o2 l r) t).1 J) (bL z A (u+0+23) (bG j)/\∃(H:gO),qD (cT cb (cV (mR y) (CV.val (tO (yK o2 l r) t)))) H z N C 5 (λp B L S R F T=>gA (λP O=>cC z O (fN L P O S R (fG p B F T).1 (fG p B F T).2) (xD K P O)))))))))))))) (yE v==4) (∃(I:gO×gO->Prop),nW v 0 0 (λb o y=>aU m h b (o+0) y.enc/\nW v 0 1 (λA u j=>aA (aU m h A (u+25) j.enc) (aA (aU m h b (o+0) y.enc) (aU m h A (u+25) j.enc) (aA (aU m h b (o+0) y.enc) (aU m h A (u+25) j.enc) (bL h A (u+25)
 j.enc/\∃(x:gO×gO),aA (I x) (cR cb) (aA (gY d) (eP 7) (aA eZ (kR y x.1) (aA (kR j x.2) (m=m) (bN h h))))))) (aA (aU m h b (o+0) y.enc) (aU m h A (u+25) j.enc) (aA (aU m h b (o+0) y.enc) (aU m h A (u+25) j.enc) (bL h A (u+25) j.enc/\∃(x:gO×gO),aA (I x) (cR cb) (aA (gY d) (eP 7) (aA eZ (kR y x.1) (aA (kR j x.2) (m=m) (bN h h)))))))))/\∀(x:gO×gO),I x->∃(I1:Nat×ce×gO×gO->Prop)(D:Nat×ce×gO×gO->Nat),(∃(f:Nat×ce×gO×gO),aA (I1 f) (cR cb) (aA (gY d) (eP 7) (aA eZ (eL 82) (aA (dW x.2.width f.2.2.2.width) (bB f.1) (aA (kR x.1 f.2.2.1) (kR x.2 f.2.2.2) (aA (qZ 101 2 (xH f.2.1)) (m=m) (bN h h)))))))/\∀(f:Nat×List (Int×
 Int)×gO×gO),I1 f->aZ (↑f.1:Int) f.2.2.2.width (nG (xH f.2.1) 16 (∃(Q:Nat×ce×gO×gO),aA (I1 Q) (D Q<D f) (aA (cR cb) (gY d) (aA (eP 7) eZ (aA (eL 82) (dW f.2.2.2.width Q.2.2.2.width) (aA (bD (fZ (bE f.1 1)) Q.1) (kR f.2.2.1 Q.2.2.1) (aA (kR f.2.2.2 Q.2.2.2) (Option.some (Own.lst 101 2 (eN (xH f.2.1) (Bi (fH (f.2.2.1.width+(↑f.1:Int))) (↑f.1:Int))))=Option.some (Own.lst 101 2 (xH Q.2.1))) (aA (m=m) (h=h) True)))))))) (∃(I2:gO×gO×MH×PH->Prop),JR (bO h 2 (xH f.2.1) (λs e=>G7 cb d f.2.2.2.rows s e m (λl r o G c C t J=>gA (λL z=>cC e z (fN G L z c C (bT (yK o l r) t).1 J) (Gi (λa n=>aA (aW (fX 0) f.2.2.1.width=aW (fX a) n) (bZ a) (aA (bZ n)
 (a<=1000) (n<=1000/\iR (λY O=>cC z O (Ints O Y (gU a n)) (∃(W:Int),CM (λM S=>Ky (cT cb (cV (CV.val (tO (yK o l r) t)) (fJ Y))) (λc3=>cT c3 (cV (fX W) (fJ M))) (Ints O M S) (fO S) L O (λR c3 P F T=>gA (λV h4=>cC O h4 (fN R V h4 c3 P (bT (Step.mk 3 0 Df S [] [] [] 0 W 0) F).1 T) (∃(H:gO),qD (cT cb (cV (mR f.2.2.1) (CV.val (tO (Step.mk 3 0 Df S [] [] [] 0 W 0) F)))) H h4 N V 5 (λp B m8 c4 m9 U Z=>gA (λa1 h5=>cC h4 h5 (fN m8 a1 h5 c4 m9 (fG p B U Z).1 (fG p B U Z).2) (∃(Q:gO×gO×MH×PH),aA (I2 Q) (cR cb) (aA (gY d) (eP 7) (aA eZ (kR f.2.2.1 Q.1) (aA (kR f.2.2.2 Q.2.1) (bH a1 Q.2.2) (bN h5 (AG Q)))))))))))))))))))))) I2 (λQ=>Gi (λa
 n=>aA (aW (fX Q.1.width) Q.2.1.width=aW (fX a) n) (bZ a) (aA (bZ n) (a<=1000) (n<=1000/\iR (λs e=>cC (AG Q) e (Ints e s (gU a n)) (∃(l:Int),CM (λc M=>Ky (cT cb (cV (fX d) (fJ s))) (λS=>cT S (cV (fX l) (fJ c))) (Ints e c M) (fO M) Q.2.2.1 e (λG S C t r=>gA (λL z=>cC e z (fN G L z S C (bT (Step.mk 3 0 Df M [] [] [] 0 l 0) t).1 r) (∃(H:gO),qD (cT cb (cV (mR Q.2.1) (CV.val (tO (Step.mk 3 0 Df M [] [] [] 0 l 0) t)))) H z N L 5 (λp B R c3 P F J=>gA (λV O=>cC z O (fN R V O c3 P (fG p B F J).1 (fG p B F J).2) (xD K V O))))))))))))))) (cW (yE v==5) (∃(I:gO×gO->Prop),nW v 0 0 (λb o y=>aU m h b (o+0) y.enc/\nW v 0 1 (λA u j=>aA
 (aU m h A (u+25) j.enc) (aA (aU m h b (o+0) y.enc) (aU m h A (u+25) j.enc) (aA (aU m h b (o+0) y.enc) (aU m h A (u+25) j.enc) (bL h A (u+25) j.enc/\∃(x:gO×gO),aA (I x) (cR cb) (aA (gY d) (eP 6) (aA (eP 11) (eP 12) (aA (dM v.query) (kR y x.1) (bP (kR j x.2) (m=m) (h=h)))))))) (aA (aU m h b (o+0) y.enc) (aU m h A (u+25) j.enc) (aA (aU m h b (o+0) y.enc) (aU m h A (u+25) j.enc) (bL h A (u+25) j.enc/\∃(x:gO×gO),aA (I x) (cR cb) (aA (gY d) (eP 6) (aA (eP 11) (eP 12) (aA (dM v.query) (kR y x.1) (bP (kR j x.2) (m=m) (h=h))))))))))/\∀(x:gO×gO),I x->∃(I1:gO×gO×MH×PH->Prop),JR (G7 cb d x.2.rows v.query.on h m (λl r o D c G t J=>gA (λC e=>cC h e (fN D C e c G (bT
 (yK o l r) t).1 J) (∃(H:gO),qD (cT cb (cV (mR x.1) (CV.val (tO (yK o l r) t)))) H e N C 5 (λp B L M R F T=>gA (λP z=>cC e z (fN L P z M R (fG p B F T).1 (fG p B F T).2) (∃(f:gO×gO×MH×PH),aA (I1 f) (cR cb) (aA (gY d) (eP 6) (aA (eP 12) (dM v.query) (aA (kR x.2 f.2.1) (bH P f.2.2) (bN z (AG f)))))))))))) I1 (λf=>LJ (λs o=>aA (iT v.query.on=iT s) (iF (AG f) s o) (mG o.length/\iR (λY e=>cC (AG f) e (iF e Y (qL o)) (G7 cb f.2.1.env d Y e f.2.2.1 (λl r u D c G t J=>gA (λC z=>cC e z (fN D C z c G (bT (yK u l r) t).1 J) (∃(H:gO),qD (cT cb (cV (mR f.2.1) (CV.val (tO (yK u l r) t)))) H z N C 5 (λp B L M
 R F T=>gA (λP O=>cC z O (fN L P O M R (fG p B F T).1 (fG p B F T).2) (xD K P O)))))))))))) (yE v==6) (∃(I:MH×PH->Prop),nW v 0 0 (λb o y=>aU m h b (o+0) y.enc/\EV v 0 (λA u j=>aA (aU m h A (u+0+23) (bG j)) (bL h b (o+0) y.enc) (JQ cb j d m h (λl r t D e=>bL e A (u+0+23) (bG j)/\∃(H:gO),qD (cT cb (cV (mR y) (CV.val (tO (Ah l r) t)))) H e N D 5 (λp B G c C F J=>gA (λL z=>cC e z (fN G L z c C (fG p B F J).1 (fG p B F J).2) (∃(x:MH×PH),aA (I x) (cR cb) (aA (gY d) i6 (bP (eQ (nL 136 v.enc)) (bH L x) (z=x.2))))))))))/\∀(x:MH×PH),I x->nW v 0 1 (λb o y=>aU x.1 x.2 b (o+25) y.enc/\EV v 1 (λA u j=>aA (aU x.1
 x.2 A (u+25+23) (bG j)) (bL x.2 b (o+25) y.enc) (JQ cb j d x.1 x.2 (λl r t D e=>bL e A (u+25+23) (bG j)/\∃(H:gO),qD (cT cb (cV (mR y) (CV.val (tO (Ah l r) t)))) H e N D 5 (λp B G c C F J=>gA (λL z=>cC e z (fN G L z c C (fG p B F J).1 (fG p B F J).2) (xD K L z)))))))) (cW (yE v==7) (∃(I:gO×gO->Prop),nW v 0 0 (λb o y=>aU m h b (o+0) y.enc/\nW v 0 1 (λA u j=>aA (aU m h A (u+25) j.enc) (aA (aU m h b (o+0) y.enc) (aU m h A (u+25) j.enc) (aA (aU m h b (o+0) y.enc) (aU m h A (u+25) j.enc) (bL h A (u+25) j.enc/\∃(x:gO×gO),aA (I x) (cR cb) (aA (gY d) qS (aA (eP 14) (kR y x.1) (aA (kR j x.2) (m=m) (bN h h))))))) (aA (aU m h b (o+
 0) y.enc) (aU m h A (u+25) j.enc) (aA (aU m h b (o+0) y.enc) (aU m h A (u+25) j.enc) (bL h A (u+25) j.enc/\∃(x:gO×gO),aA (I x) (cR cb) (aA (gY d) qS (aA (eP 14) (kR y x.1) (aA (kR j x.2) (m=m) (bN h h)))))))))/\∀(x:gO×gO),I x->∃(I1:gO×gO×MH×PH->Prop),JR (∃(H:gO),qD (cT cb (aW (mR x.1) d)) H h N m 5 (λp B D c G t r=>gA (λC e=>cC h e (fN D C e c G (fG p B t r).1 (fG p B t r).2) (∃(f:gO×gO×MH×PH),aA (I1 f) (cR cb) (aA (gY d) qS (aA (eP 14) (kR x.1 f.1) (aA (kR x.2 f.2.1) (bH C f.2.2) (bN e (AG f))))))))) I1 (λf=>JQ cb f.2.1.env d f.2.2.1 (AG f) (λl r t D e=>Od (cT cb (aW (CV.val (tO (Ah l r) t)) f.1.rows)) D e (λW J G
 c C F T=>gA (λL z=>cC e z (fN G L z c C (bT (Ah W J) F).1 T) (∃(H:gO),qD (cT cb (cV (mR f.2.1) (CV.val (tO (Ah W J) F)))) H z N L 5 (λp B R M P U Z=>gA (λV O=>cC z O (fN R V O M P (fG p B U Z).1 (fG p B U Z).2) (xD K V O))))))))) (yE v==8) (∃(I:gO×gO->Prop),nW v 0 0 (λb o y=>aU m h b (o+0) y.enc/\nW v 0 1 (λA u j=>aA (aU m h A (u+25) j.enc) (aA (aU m h b (o+0) y.enc) (aU m h A (u+25) j.enc) (aA (aU m h b (o+0) y.enc) (aU m h A (u+25) j.enc) (bL h A (u+25) j.enc/\∃(x:gO×gO),aA (I x) (cR cb) (aA (gY d) qS (aA (eP 14) (kR y x.1) (aA (kR j x.2) (m=m) (bN h h))))))) (aA (aU m h b (o+0) y.enc) (aU m h A (u+25) j.enc) (aA (aU
 m h b (o+0) y.enc) (aU m h A (u+25) j.enc) (bL h A (u+25) j.enc/\∃(x:gO×gO),aA (I x) (cR cb) (aA (gY d) qS (aA (eP 14) (kR y x.1) (aA (kR j x.2) (m=m) (bN h h)))))))))/\∀(x:gO×gO),I x->∃(I1:gO×gO×MH×PH->Prop),JR (∃(H:gO),qD (cT cb (aW (mR x.1) d)) H h N m 5 (λp B D c G t r=>gA (λC e=>cC h e (fN D C e c G (fG p B t r).1 (fG p B t r).2) (∃(f:gO×gO×MH×PH),aA (I1 f) (cR cb) (aA (gY d) qS (aA (eP 14) (kR x.1 f.1) (aA (kR x.2 f.2.1) (bH C f.2.2) (bN e (AG f))))))))) I1 (λf=>JQ cb f.2.1.env d f.2.2.1 (AG f) (λl r t D e=>Od (cT cb (aW (CV.val (tO (Ah l r) t)) f.1.rows)) D e (λW J G c C F T=>gA (λL z=>cC e z (fN
 G L z c C (bT (Ah W J) F).1 T) (∃(H:gO),qD (cT cb (cV (mR f.2.1) (CV.val (tO (Ah W J) F)))) H z N L 5 (λp B R M P U Z=>gA (λV O=>cC z O (fN R V O M P (fG p B U Z).1 (fG p B U Z).2) (xD K V O))))))))) (cW (yE v==9) (nW v 0 0 (λb o y=>aU m h b (o+0) y.enc/\nW v 0 0 (λA u j=>aA (aU m h A (u+0) j.enc) (bL h b (o+0) y.enc) (∃(H:gO)(p:PN)(B:Int)(q:QV),C1 (λo2 t w c o3 g X l a=>∃(D:MH),IJ (λM G F r=>aA (cT cb (mR j::cV (fX d) (cN v.query))=cT M (mR H::cV (fX B) (cN q))) (nR h p H) (aA (bU h (Query.mk o2 t w c o3 g X l a) q) (fO g) (aA (mG X.length) (fN D m h M G F r) (aA (gJ D) (F.length<=99999) (gA (λC e=>cC h
 e (fN D C e M G (AW p B g X l F).1 r) (bL e A (u+0) j.enc/\∃(v2:gO),qD (cT cb (aW (mR y) (↑(AW p B g X l F).2:Int))) v2 e N C 5 (λp1 d2 L S R U J=>gA (λP z=>cC e z (fN L P z S R (fG p1 d2 U J).1 (fG p1 d2 U J).2) (xD K P z))))))))))))))) (yE v==10) (∃(I:MH×PH->Prop),nW v 0 0 (λb o y=>aU m h b (o+0) y.enc/\∃(H:gO),qD (cT cb (aW (mR y) d)) H h N m 5 (λp B D c G t r=>gA (λC e=>cC h e (fN D C e c G (fG p B t r).1 (fG p B t r).2) (∃(x:MH×PH),aA (I x) (cR cb) (aA (gY d) i6 (aA (eP 6) (eQ (nL 136 v.enc)) (aA (dM v.query) (bH C x) (bN e x.2))))))))/\∀(x:MH×PH),I x->nW v 0 1 (λb o y=>aU x.1 x.2 b (o+25) y.enc/\nW v 0 1 (λA u j=>
 aA (aU x.1 x.2 A (u+25) j.enc) (bL x.2 b (o+25) y.enc) (∃(H:gO)(p:PN)(B:Int)(q:QV),C1 (λo2 t w c o3 g X l a=>∃(D:MH),IJ (λM G F r=>aA (cT cb (mR j::cV (fX d) (cN v.query))=cT M (mR H::cV (fX B) (cN q))) (nR x.2 p H) (aA (bU x.2 (Query.mk o2 t w c o3 g X l a) q) (fO g) (aA (mG X.length) (fN D x.1 x.2 M G F r) (aA (gJ D) (F.length<=99999) (gA (λC e=>cC x.2 e (fN D C e M G (AW p B g X l F).1 r) (bL e A (u+25) j.enc/\∃(v2:gO),qD (cT cb (aW (mR y) (↑(AW p B g X l F).2:Int))) v2 e N C 5 (λp1 d2 L S R U J=>gA (λP z=>cC e z (fN L P z S R (fG p1 d2 U J).1 (fG p1 d2 U J).2) (xD K P z))))))))))))))) (xD K m h)))))
theorem GV{α:Type}{l:List α}(h:(l.length:Int)=1):∃a,l=[a]:=by
 match l,h with
 |[a],_=>grind
 |[],h=>simp at h
 |_::_::_,h=>grind
theorem sK{α:Type}{l:List α}(h:(l.length:Int)=2):∃a b,l=[a,b]:=by
 match l,h with
 |[a,b],_=>grind
 |[],h=>simp at h
 |[_],h=>simp at h
 |_::_::_::_,h=>grind
theorem Ia.w{p:PN}(x:Ia p):0<=p.width/\p.width<=500:=by
 obtain⟨⟨op,ta,w,co,on,gr,od,li,c⟩,args,rows,env,d⟩:=p;rw[Ia]at x;exact⟨x.2.1,x.2.2.1⟩
theorem B8(a:PN)(d:Int)(gr:ca)(od:cg)(li:Int)(ts:cq):(AW a d gr od li ts).1.length<=ts.length+2:=by
 unfold AW;have c:=dP (dO a.env d (uD gr)) ts;have e:=dP (OX (bT (dO a.env d (uD gr)) ts).2 a.rows gr od li) (bT (dO a.env d (uD gr)) ts).1
 grind
theorem gQ:∀(p:PN)(d:Int)(ts:cq)(rs:ca),(fG p d ts rs).1.length<=ts.length+5*j9 p/\(fG p d ts rs).2.length<=rs.length+j9 p
 |.mk (.mk op ta w co on gr od li g) args rows env n,d,ts,rs=>by
  rw[fG.eq_def]
  match args with
  |[]=>dsimp only;split<;>simp[j9,rG]<;>omega
  |[a]=>
   dsimp only;simp only[j9,rG];split
   .have:=gQ a d ts rs;omega
   .split
    .have c:=dP (dO a.env d (oR co)) ts;have:=gQ a (bT (dO a.env d (oR co)) ts).2 (bT (dO a.env d (oR co)) ts).1 rs;omega
    .split
     .have c:=B8 a d gr od li ts;have:=gQ a (AW a d gr od li ts).2 (AW a d gr od li ts).1 rs;omega
     grind
  |a::b::r=>
   dsimp only;simp only[j9,rG];split
   .have c:=dP (dO d b.rows (Bg a.width b.width)) ts;generalize bT (dO d b.rows (Bg a.width b.width)) ts=x at*
    have o:=dP (nE x.2 (gU 0 a.width)) x.1;generalize bT (nE x.2 (gU 0 a.width)) x.1=y at*
    have e:=gQ a y.2 y.1 rs;generalize fG a y.2 y.1 rs=z at*
    have j:=dP (nE d (gU a.width b.width)) z.1;generalize bT (nE d (gU a.width b.width)) z.1=u at*
    have f:=gQ b u.2 u.1 z.2;omega
   .split
    .have c:=dP (dO d b.rows on) ts;generalize bT (dO d b.rows on) ts=x at*
     have e:=gQ a x.2 x.1 rs;generalize fG a x.2 x.1 rs=z at*
     have j:=dP (dO b.env d (qL on)) z.1;generalize bT (dO b.env d (qL on)) z.1=u at*
     have f:=gQ b u.2 u.1 z.2;omega
    .split
     .have c:=dP (cA a.env d) ts;generalize bT (cA a.env d) ts=x at*
      have e:=gQ a x.2 x.1 rs;generalize fG a x.2 x.1 rs=z at*
      have j:=dP (cA b.env d) z.1;generalize bT (cA b.env d) z.1=u at*
      have f:=gQ b u.2 u.1 z.2;omega
     .split
      .have e:=gQ a d ts rs;generalize fG a d ts rs=z at*
       have c:=dP (cA b.env d) z.1;generalize bT (cA b.env d) z.1=x at*
       have j:=dP (cA x.2 a.rows) x.1;generalize bT (cA x.2 a.rows) x.1=u at*
       have f:=gQ b u.2 u.1 z.2;omega
      .split
       .have e:=gQ a d ts rs;generalize fG a d ts rs=z at*
        have c:=B8 b d gr od li z.1;generalize AW b d gr od li z.1=x at*
        have f:=gQ b x.2 x.1 z.2;omega
       grind
 termination_by p=>SizeOf.sizeOf p
theorem aDX{m0:MH}{u:Nat}{d:Int}(c:fN m0 m h cb u ts rs)(hl:rs.length<=90000)(X:∀m',fN m0 m' h cb u ts (rs++[d])->K (.tup []) m' h):
 ∃y:Sl,aU m h cb 1 [fK y]/\∃xs,dC m (Sl.mk y.a y.len y.cap) 3 1 xs/\(xs.length+1)*8<=140737488355328/\xs.length<140737488355328/\∀(S:Sl)(m':MH),eD m m' (Sl.mk y.a y.len y.cap) S 3 1 (xs++[[eF d]])->∃(cs:Array Value)(E:TypeId),Ib m' cb (Obj.cells cs E)/\1<cs.size/\∀(g:MH),iL m' g cb (Obj.cells (Array.mk (splice cs.toList 1 [fK S])) E)->K (CV.tup []) g h:=by
 obtain⟨s,r,z,⟨Y,T,I⟩,f,J,Z⟩:=c.ex;obtain⟨es,cl,L,M⟩:=c.map_.ex;refine⟨r,.of_m z rfl,rs.map eI,f,bk,bk,λA m1 x=>?_⟩
 have O:∀i,r.a≠some ⟨cb,i,none⟩:=λi e=>by
  obtain⟨n,B⟩:=dC.blk f e
  grind
 have P:∀i,r.a≠some ⟨u,i,none⟩:=λi e=>by
  obtain⟨n,B⟩:=dC.blk f e
  grind
 have U:cb≠u:=λe=>bk
 have C:=x.other cb _ z O;have V:=x.other u _ L P;refine⟨_,_,⟨C⟩,bf,λQ D=>?_⟩;have D:iL m1 Q cb (.cells #[.slice s.a s.len s.cap,.slice A.a A.len A.cap,.map (some u)] 132 (0,0)):=D
 have F:∀b o,m b=some o->b≠cb->(∀i,r.a≠some ⟨b,i,none⟩)->Q b=some o:=λb o e n1 n3=>by
  rw[D.other b n1];exact x.other b o e n3
 have G:∀b i,A.a=some ⟨b,i,none⟩->b≠cb:=λb i e e2=>by
  obtain⟨n,B⟩:=dC.blk x.row e
  grind
 refine X Q ⟨λb o e=>F b o (c.sub b o e) (λH=>by rw[H,c.cb0]at e;cases e) (λi H=>bk),c.cb0,c.mb0,⟨es,cl,bk,M⟩,c.nodup,s,A,D.at_,⟨Y,?_,I⟩,?_,J,?_⟩
 .refine dC.keep T (λb i e=>?_);obtain⟨n,B⟩:=dC.blk T e;rw[B];refine F b _ B (λH=>?_) (λj H=>?_)
  .grind
  .obtain⟨W,h4⟩:=dC.blk f H
   grind
 .rw[map_append];exact dC.keep x.row (λb i e=>by rw[D.other b (G b i e)])
 .intro b i e;rcases x.fresh b i e with R|⟨j,R⟩
  .cases e0:m0 b with
   |none=>rfl
   |some o=>rw[c.sub b o e0]at R;cases R
  grind
theorem nR.form{p:PN}{v:gO}(x:nR h p v):∃q s,v=⟨q,s,p.rows,p.env,p.width⟩:=by
 obtain⟨q,s,r,e,w⟩:=v;have c:=x.rows_;have d:=x.env_;have f:=x.width_
 grind
theorem apX:∀N,bu 85 (cFZ N)
 |0=>by
  refine dU (fn:=Tryz.f85) (c:=bW Tryz.f85) func85 rfl bg ?_;rintro b9 m h K ⟨v,p,d,A,cb,B,ts,rs,rfl,_,hN,_⟩;omega
 |N+1=>by
  refine hU func85 ?_;rintro b9 m h K ⟨v,p,d,A,cb,B,ts,rs,rfl,hp,hN,ok,c,T,l1,l2,L⟩;refine⟨bUX N cb d v m h,rfl,aE (apX N) (aE P9 (aE ZH (aE ZG (aE ZF (aE ZE (aE ZD (aE ZC aG))))))),Wj N cb v d m h K,bd,?_⟩;dsimp only[Wj,push_cast];obtain⟨⟨op,ta,w,co,on,gr,od,li,a3⟩,args,rows,env,wd⟩:=p;obtain⟨hq,_,_,_,d0,vs,hr,b3⟩:=hp;rw[Ia]at ok;obtain⟨oa,d1,d2,b4,b5,b6,b7,a6⟩:=ok;have x:=hq.parts;have d':v.args.len=args.length:=by have:=hr.len;rw[length_map,b3.length]at this;exact this
  have at_:∀{hx:PH}(_:PH.le h hx)(i:Nat)(a:PN)(_:args[i]? =some a),∃b o q s,v.args.a=some ⟨b,o,none⟩/\bL hx b (o+i*25) (gO.enc ⟨q,s,a.rows,a.env,a.width⟩)/\nR hx a ⟨q,s,a.rows,a.env,a.width⟩:=λle i a ha=>by
   obtain⟨b,o,u,e,r,H⟩:=cbX (hr.mono le) (kV.mono le b3) ha;obtain⟨q,s,rfl⟩:=H.form
   grind
  have small:∀a∈args,SizeOf.sizeOf a<N:=λa ha=>by
   have:=sizeOf_lt_of_mem ha
   grind
  have j:∀{mx:MH}{hx:PH}(a:PN)(u:gO)(dd:Int)(Y:cq)(a0:ca){KK:MH->PH->Prop},a∈args->nR hx a u->fN A mx hx cb B Y a0->Y.length+5*j9 a<=90000->a0.length+j9 a<=90000->(∀m' h',PH.le hx h'->fN A m' h' cb B (fG a dd Y a0).1 (fG a dd Y a0).2->KK m' h')->
   ∃(v:gO)(p:PN),∃(a7:Int)(A:MH),∃(a4 B:Nat)(ts:cq)(rs:ca),[cQp cb 0,lS (gO.enc u),fX dd]=[cQp a4 0,lS (gO.enc v),fX a7]/\nR hx p v/\SizeOf.sizeOf p<N/\Ia p/\fN A mx hx a4 B ts rs/\gJ A/\ts.length+5*j9 p<=90000/\rs.length+j9 p<=90000/\∀(m':MH)(h':PH),hx.le h'->fN A m' h' a4 B (fG p a7 ts rs).1 (fG p a7 ts rs).2->KK m' h':=
   λa u dd Y a0 KK ha H M b1 b2 hk=>⟨u,a,dd,A,cb,B,Y,a0,rfl,H,small a ha,a6 a ha,M,T,b1,b2,hk⟩
  show branch (v.query.op==1) _ _;rw[x.op_];simp only[j9]at l1 l2;refine aC (λe=>?_) (λn1=>aC (λe=>?_) (λn2=>aC (λe=>?_) (λn3=>aC (λe=>?_) (λn4=>aC (λe=>?_) (λn5=>aC (λe=>?_) (λn6=>aC (λe=>?_) (λn7=>aC (λe=>?_) (λn8=>aC (λe=>?_) (λn9=>aC (λe=>?_) (λc0=>?_))))))))))
  .have e:op=1:=bt e
   subst e;obtain rfl:args=[]:=eq_nil_of_length_eq_zero (by have:arity 1=0:=rfl;omega);rw[fG]at L;exact aDX c aD (λm' c'=>L m' h (.refl _) bk)
  .have e:op=2:=bt e
   subst e;obtain⟨a,rfl⟩:=GV (l:=args) (by rw[oa];rfl);simp only[rG]at l1 l2;simp only[fG,if_true]at L;obtain⟨b,o,P,Q,e,r,H⟩:=at_ (.refl _) 0 a rfl;exact⟨b,o,e,aD,bk,_,.imm r,j a _ d ts rs bf H c aD aD L⟩
  .have e:op=3:=bt e
   subst e;obtain⟨a,rfl⟩:=GV (l:=args) (by rw[oa];rfl);simp only[rG]at l1 l2;simp only[fG,if_true,show((3:Int)=2)=False by simp,if_false]at L;obtain⟨b,o,P,Q,e,r,H⟩:=at_ (.refl _) 0 a rfl;have rc:=(NP r).2.2.1;have hx:=dP (dO a.env d (oR co)) ts;refine⟨b,o,e,aD,bk,_,.imm r,b,o,e,aD,bk,_,.imm rc,r,rc,v.query.columns,co,rfl,x.columns_,b4,λs h1 R a8=>⟨r.mono R,a.env,d,s,oR co,A,cb,B,ts,rs,rfl,a8,Nat.le_trans (PB co co.length) b4,c.mono R,T,aD,λm2 h2 C M=>⟨rc.mono (R.trans C),?_⟩⟩⟩;have M:fN A m2 h2 cb B (bT (dO a.env d (oR co)) ts).1 rs:=M;exact j a _ _ _ _ bf (H.mono (R.trans C)) M aD aD (λJ I g E=>L J I ((R.trans C).trans g) E)
  .have e:op=4:=bt e
   subst e;obtain⟨a,f,rfl⟩:=sK (l:=args) (by rw[oa];rfl);simp only[rG]at l1 l2;simp only[fG,if_true]at L;obtain⟨b,o,P,Q,e,r,H⟩:=at_ (.refl _) 0 a rfl;obtain⟨b',o',W,O,e',n,F⟩:=at_ (.refl _) 1 f rfl;have wa:=(a6 a bf).w;have wb:=(a6 f bf).w;have a1:=dP (dO d f.rows (Bg a.width f.width)) ts;have c1:=dP (nE (bT (dO d f.rows (Bg a.width f.width)) ts).2 (gU 0 a.width)) (bT (dO d f.rows (Bg a.width f.width)) ts).1;have a2:=gQ a (bT (nE (bT (dO d f.rows (Bg a.width f.width)) ts).2 (gU 0 a.width)) (bT (dO d f.rows (Bg a.width f.width)) ts).1).2 (bT (nE (bT (dO d f.rows (Bg a.width f.width)) ts).2 (gU 0 a.width)) (bT (dO d f.rows (Bg a.width f.width)) ts).1).1 rs;generalize hZ:fG a (bT (nE (bT (dO d f.rows (Bg a.width f.width)) ts).2 (gU 0 a.width)) (bT (dO d f.rows (Bg a.width f.width)) ts).1).2 (bT (nE (bT (dO d f.rows (Bg a.width f.width)) ts).2 (gU 0 a.width)) (bT (dO d f.rows (Bg a.width f.width)) ts).1).1 rs=Z at*
   have a5:=dP (nE d (gU a.width f.width)) Z.1;refine⟨λx=>x=(⟨P,Q,a.rows,a.env,a.width⟩,⟨W,O,f.rows,f.env,f.width⟩),⟨b,o,e,aD,bk,_,.imm r,b',o',e',aD,bk,_,.imm n,⟨.imm r,.imm n,.imm r,.imm n,n,_,rfl,MT⟩,.imm r,.imm n,.imm r,.imm n,n,_,rfl,MT⟩,?_⟩;rintro _ rfl;obtain⟨k,hk⟩:∃k:Nat,f.width=k:=⟨f.width.toNat,aD⟩
   refine⟨λx=>x.1<=k/\x.2.1=Bg a.width (x.1:Nat)/\x.2.2=(⟨P,Q,a.rows,a.env,a.width⟩,⟨W,O,f.rows,f.env,f.width⟩),λx=>k-x.1,⟨(0,[],_,_),⟨aD,rfl,rfl⟩,MT⟩,?_⟩;rintro⟨i,l,yz⟩ ⟨hi,X,e2⟩;dsimp only at hi X e2⊢
   subst X e2;have d3:(Bg a.width (i:Nat)).length=i:=by simp[Bg]
   refine aF (λc8=>?_) (λc9=>?_)
   .have c8:(i:Int)<(k:Int):=bk
    refine⟨bk,bk,(i+1,Bg a.width ((i+1:Nat):Int),_,_),⟨aD,rfl,rfl⟩,aD,?_⟩
    have e:Bg a.width ((i+1:Nat):Int)=Bg a.width (i:Nat)++[(IntKind.i64.wrap (a.width+(i:Int)),(i:Int))]:=by
     rw[eH aD aD];simp[Bg,range_succ]
    rw[e,map_append];exact MT
   .have c9:¬(i:Int)<(k:Int):=bk
    obtain rfl:i=k:=by omega
    rw[hk]at a1 c1 a2 hZ;refine⟨λx=>x.2.1=⟨W,O,f.rows,f.env,f.width⟩/\x.1=⟨P,Q,a.rows,a.env,a.width⟩/\PH.le h x.2.2.2/\fN A x.2.2.1 x.2.2.2 cb B Z.1 Z.2,λs h1 R a8=>⟨d,f.rows,s,Bg a.width (i:Nat),A,cb,B,ts,rs,rfl,⟨a8,aD⟩,aD,c.mono R,T,aD,λm2 h2 C M=>?_⟩,?_⟩
    .have M:fN A m2 h2 cb B (bT (dO d f.rows (Bg a.width (i:Nat))) ts).1 rs:=M;refine⟨0,a.width,rfl,aD,aD,aD,aD,λO I g a9=>⟨_,O,gU 0 a.width,A,cb,B,(bT (dO d f.rows (Bg a.width (i:Nat))) ts).1,rs,rfl,a9,?_,M.mono g,T,aD,λm4 h4 U c4=>?_⟩⟩
     .simp[gU];omega
     .have c4:fN A m4 h4 cb B (bT (nE (bT (dO d f.rows (Bg a.width (i:Nat))) ts).2 (gU 0 a.width)) (bT (dO d f.rows (Bg a.width (i:Nat))) ts).1).1 rs:=c4;have le:=((R.trans C).trans g).trans U;exact j a _ _ _ _ bf (H.mono le) c4 aD aD (λJ I g E=>⟨(_,_,J,I),⟨rfl,rfl,le.trans g,by rw[<-hZ];exact E⟩,MT⟩)
    .rintro⟨y,z,J,I⟩ ⟨X,e2,g,E⟩;dsimp only at X e2 g E⊢
     subst X e2;refine⟨a.width,f.width,rfl,aD,aD,aD,aD,λO h4 U a9=>⟨d,O,gU a.width f.width,A,cb,B,Z.1,Z.2,rfl,a9,by simp[gU];omega,E.mono U,T,aD,λm5 h5 D S=>?_⟩⟩;have S:fN A m5 h5 cb B (bT (nE d (gU a.width f.width)) Z.1).1 Z.2:=S;have le:=(g.trans U).trans D;exact j f _ _ _ _ bf (F.mono le) S aD aD (λm6 h6 G V=>L m6 h6 (le.trans G) V)
  .have e:op=5:=bt e
   subst e;obtain⟨a,f,rfl⟩:=sK (l:=args) (by rw[oa];rfl);simp only[rG]at l1 l2;simp only[fG,if_true,show((5:Int)=4)=False by simp,if_false]at L;obtain⟨b,o,P,Q,e,r,H⟩:=at_ (.refl _) 0 a rfl;obtain⟨b',o',W,O,e',n,F⟩:=at_ (.refl _) 1 f rfl;have a1:=dP (dO d f.rows on) ts;have a2:=gQ a (bT (dO d f.rows on) ts).2 (bT (dO d f.rows on) ts).1 rs;generalize hZ:fG a (bT (dO d f.rows on) ts).2 (bT (dO d f.rows on) ts).1 rs=Z at*
   have a5:=dP (dO f.env d (qL on)) Z.1;refine⟨λx=>x=(⟨P,Q,a.rows,a.env,a.width⟩,⟨W,O,f.rows,f.env,f.width⟩),⟨b,o,e,aD,bk,_,.imm r,b',o',e',aD,bk,_,.imm n,⟨.imm r,.imm n,.imm r,.imm n,n,_,rfl,MT⟩,.imm r,.imm n,.imm r,.imm n,n,_,rfl,MT⟩,?_⟩;rintro _ rfl;refine⟨λx=>x.2.1=⟨W,O,f.rows,f.env,f.width⟩/\PH.le h x.2.2.2/\fN A x.2.2.1 x.2.2.2 cb B Z.1 Z.2,⟨d,f.rows,v.query.on,on,A,cb,B,ts,rs,rfl,x.on_,b5,c,T,aD,λm2 h2 C M=>?_⟩,?_⟩
   .have M:fN A m2 h2 cb B (bT (dO d f.rows on) ts).1 rs:=M;exact j a _ _ _ _ bf (H.mono C) M aD aD (λJ I g E=>⟨(⟨P,Q,a.rows,a.env,a.width⟩,_,J,I),⟨rfl,C.trans g,by rw[<-hZ];exact E⟩,MT⟩)
   .rintro⟨y,z,J,I⟩ ⟨X,g,E⟩;dsimp only at X g E⊢
    subst X;refine⟨v.query.on,on,rfl,x.on_.mono g,b5,λs h4 U hs=>⟨f.env,d,s,qL on,A,cb,B,Z.1,Z.2,rfl,hs,by simp[qL];omega,E.mono U,T,aD,λm5 h5 D S=>?_⟩⟩;have S:fN A m5 h5 cb B (bT (dO f.env d (qL on)) Z.1).1 Z.2:=S;have le:=(g.trans U).trans D;exact j f _ _ _ _ bf (F.mono le) S aD aD (λm6 h6 G V=>L m6 h6 (le.trans G) V)
  .have e:op=6:=bt e
   subst e;obtain⟨a,f,rfl⟩:=sK (l:=args) (by rw[oa];rfl);simp only[rG]at l1 l2;simp only[fG,if_true,show((6:Int)=4)=False by simp,show((6:Int)=5)=False by simp,if_false]at L;obtain⟨b,o,P,Q,e,r,H⟩:=at_ (.refl _) 0 a rfl;have rc:=(NP r).2.2.1;have a1:=dP (cA a.env d) ts;have a2:=gQ a (bT (cA a.env d) ts).2 (bT (cA a.env d) ts).1 rs;generalize hZ:fG a (bT (cA a.env d) ts).2 (bT (cA a.env d) ts).1 rs=Z at*
   have a5:=dP (cA f.env d) Z.1;refine⟨λx=>PH.le h x.2/\fN A x.1 x.2 cb B Z.1 Z.2,⟨b,o,e,aD,bk,_,.imm r,b,o,e,aD,bk,_,.imm rc,r,a.env,d,A,cb,B,ts,rs,rfl,c,T,aD,λm2 h2 C M=>⟨rc.mono C,?_⟩⟩,?_⟩
   .have M:fN A m2 h2 cb B (bT (cA a.env d) ts).1 rs:=M;exact j a _ _ _ _ bf (H.mono C) M aD aD (λJ I g E=>⟨(J,I),⟨C.trans g,by rw[<-hZ];exact E⟩,MT⟩)
   .rintro⟨J,I⟩ ⟨g,E⟩;dsimp only at g E⊢
    obtain⟨b',o',W,O,e',n,F⟩:=at_ g 1 f rfl;have b8:=(NP n).2.2.1;refine⟨b',o',e',aD,bk,_,.imm n,b',o',e',aD,bk,_,.imm b8,n,f.env,d,A,cb,B,Z.1,Z.2,rfl,E,T,aD,λm5 h5 D S=>⟨b8.mono D,?_⟩⟩;have S:fN A m5 h5 cb B (bT (cA f.env d) Z.1).1 Z.2:=S;exact j f _ _ _ _ bf (F.mono D) S aD aD (λm6 h6 G V=>L m6 h6 ((g.trans D).trans G) V)
  .have e:op=7:=bt e
   subst e;obtain⟨a,f,rfl⟩:=sK (l:=args) (by rw[oa];rfl);simp only[rG]at l1 l2;simp only[fG,if_true,show((7:Int)=4)=False by simp,show((7:Int)=5)=False by simp,show((7:Int)=6)=False by simp,if_false,true_or]at L;obtain⟨b,o,P,Q,e,r,H⟩:=at_ (.refl _) 0 a rfl;obtain⟨b',o',W,O,e',n,F⟩:=at_ (.refl _) 1 f rfl;have a2:=gQ a d ts rs;generalize hZ:fG a d ts rs=Z at*
   have a1:=dP (cA f.env d) Z.1;have a5:=dP (cA (bT (cA f.env d) Z.1).2 a.rows) (bT (cA f.env d) Z.1).1;refine⟨λx=>x=(⟨P,Q,a.rows,a.env,a.width⟩,⟨W,O,f.rows,f.env,f.width⟩),⟨b,o,e,aD,bk,_,.imm r,b',o',e',aD,bk,_,.imm n,⟨.imm r,.imm n,.imm r,.imm n,n,_,rfl,MT⟩,.imm r,.imm n,.imm r,.imm n,n,_,rfl,MT⟩,?_⟩;rintro _ rfl;refine⟨λx=>x.1=⟨P,Q,a.rows,a.env,a.width⟩/\x.2.1=⟨W,O,f.rows,f.env,f.width⟩/\PH.le h x.2.2.2/\fN A x.2.2.1 x.2.2.2 cb B Z.1 Z.2,j a _ _ _ _ bf H c aD aD (λJ I g E=>⟨(_,_,J,I),⟨rfl,rfl,g,bk⟩,MT⟩),?_⟩;rintro⟨y,z,J,I⟩ ⟨X,e2,g,E⟩;dsimp only at X e2 g E⊢
   subst X e2;refine⟨f.env,d,A,cb,B,Z.1,Z.2,rfl,E,T,aD,λm5 h5 D S=>⟨_,a.rows,A,cb,B,(bT (cA f.env d) Z.1).1,Z.2,rfl,S,T,aD,λm6 h6 G V=>?_⟩⟩;have V:fN A m6 h6 cb B (bT (cA (bT (cA f.env d) Z.1).2 a.rows) (bT (cA f.env d) Z.1).1).1 Z.2:=V;have le:=(g.trans D).trans G;exact j f _ _ _ _ bf (F.mono le) V aD aD (λm7 h7 b0 c7=>L m7 h7 (le.trans b0) c7)
  .have e:op=8:=bt e
   subst e;obtain⟨a,f,rfl⟩:=sK (l:=args) (by rw[oa];rfl);simp only[rG]at l1 l2;simp only[fG,if_true,show((8:Int)=4)=False by simp,show((8:Int)=5)=False by simp,show((8:Int)=6)=False by simp,if_false,or_true]at L;obtain⟨b,o,P,Q,e,r,H⟩:=at_ (.refl _) 0 a rfl;obtain⟨b',o',W,O,e',n,F⟩:=at_ (.refl _) 1 f rfl;have a2:=gQ a d ts rs;generalize hZ:fG a d ts rs=Z at*
   have a1:=dP (cA f.env d) Z.1;have a5:=dP (cA (bT (cA f.env d) Z.1).2 a.rows) (bT (cA f.env d) Z.1).1;refine⟨λx=>x=(⟨P,Q,a.rows,a.env,a.width⟩,⟨W,O,f.rows,f.env,f.width⟩),⟨b,o,e,aD,bk,_,.imm r,b',o',e',aD,bk,_,.imm n,⟨.imm r,.imm n,.imm r,.imm n,n,_,rfl,MT⟩,.imm r,.imm n,.imm r,.imm n,n,_,rfl,MT⟩,?_⟩;rintro _ rfl;refine⟨λx=>x.1=⟨P,Q,a.rows,a.env,a.width⟩/\x.2.1=⟨W,O,f.rows,f.env,f.width⟩/\PH.le h x.2.2.2/\fN A x.2.2.1 x.2.2.2 cb B Z.1 Z.2,j a _ _ _ _ bf H c aD aD (λJ I g E=>⟨(_,_,J,I),⟨rfl,rfl,g,bk⟩,MT⟩),?_⟩;rintro⟨y,z,J,I⟩ ⟨X,e2,g,E⟩;dsimp only at X e2 g E⊢
   subst X e2;refine⟨f.env,d,A,cb,B,Z.1,Z.2,rfl,E,T,aD,λm5 h5 D S=>⟨_,a.rows,A,cb,B,(bT (cA f.env d) Z.1).1,Z.2,rfl,S,T,aD,λm6 h6 G V=>?_⟩⟩;have V:fN A m6 h6 cb B (bT (cA (bT (cA f.env d) Z.1).2 a.rows) (bT (cA f.env d) Z.1).1).1 Z.2:=V;have le:=(g.trans D).trans G;exact j f _ _ _ _ bf (F.mono le) V aD aD (λm7 h7 b0 c7=>L m7 h7 (le.trans b0) c7)
  .have e:op=9:=bt e
   subst e;obtain⟨a,rfl⟩:=GV (l:=args) (by rw[oa];rfl);simp only[rG]at l1 l2;simp only[fG,if_true,show((9:Int)=2)=False by simp,show((9:Int)=3)=False by simp,if_false]at L;obtain⟨b,o,P,Q,e,r,H⟩:=at_ (.refl _) 0 a rfl;have hx:=B8 a d gr od li ts;refine⟨b,o,e,aD,bk,_,.imm r,b,o,e,aD,bk,_,.imm r,r,_,a,d,v.query,9,ta,w,co,on,gr,od,li,a3,A,cb,B,ts,rs,rfl,H,hq,b6,b7,c,T,aD,λm2 h2 C M=>⟨r.mono C,j a _ _ _ _ bf (H.mono C) M aD aD (λJ I g E=>L J I (C.trans g) E)⟩⟩
  .have e:op=10:=bt e
   subst e;obtain⟨a,f,rfl⟩:=sK (l:=args) (by rw[oa];rfl);simp only[rG]at l1 l2;simp only[fG,if_true,show((10:Int)=4)=False by simp,show((10:Int)=5)=False by simp,show((10:Int)=6)=False by simp,show((10:Int)=7)=False by simp,show((10:Int)=8)=False by simp,if_false,or_false]at L;obtain⟨b,o,P,Q,e,r,H⟩:=at_ (.refl _) 0 a rfl;have a2:=gQ a d ts rs;generalize hZ:fG a d ts rs=Z at*
   have a1:=B8 f d gr od li Z.1;refine⟨λx=>PH.le h x.2/\fN A x.1 x.2 cb B Z.1 Z.2,⟨b,o,e,aD,bk,_,.imm r,j a _ _ _ _ bf H c aD aD (λJ I g E=>⟨(J,I),⟨g,bk⟩,MT⟩)⟩,?_⟩;rintro⟨J,I⟩ ⟨g,E⟩;dsimp only at g E⊢
   obtain⟨b',o',W,O,e',n,F⟩:=at_ g 1 f rfl;exact⟨b',o',e',aD,bk,_,.imm n,b',o',e',aD,bk,_,.imm n,n,_,f,d,v.query,10,ta,w,co,on,gr,od,li,a3,A,cb,B,Z.1,Z.2,rfl,F,hq.mono g,b6,b7,E,T,aD,λm5 h5 D S=>⟨n.mono D,j f _ _ _ _ bf (F.mono D) S aD aD (λm6 h6 G V=>L m6 h6 ((g.trans D).trans G) V)⟩⟩
  .exfalso;have h0:0<=arity op:=by omega
   simp only[beq_eq_false_iff_ne]at n1 n2 n3 n4 n5 n6 n7 n8 n9 c0;unfold arity at h0
   grind
def cFJ:Vc.Spec:=λc m h K=>∃v p d e cb f ts rs,c=[cP cb,aPN v,cI d]/\nR h p v/\Ia p/\fN e m h cb f ts rs/\gJ e/\ts.length+5*j9 p<=90000/\rs.length+j9 p<=90000/\
 ∀m' h',PH.le h h'->fN e m' h' cb f (fG p d ts rs).1 (fG p d ts rs).2->K (.tup []) m' h'
theorem aLJ:bu 85 cFJ:=gW apX λ_ _ _ _⟨v,p,d,c,cb,f,ts,rs,e,g,j,n,o,u,x,y⟩=>⟨SizeOf.sizeOf p+1,v,p,d,c,cb,f,ts,rs,e,g,aD,j,n,o,u,x,y⟩
def Qh(r:cj)(o:OV):VV:=if o.kind=3 then o.value else if o.kind=1/\0<=o.index/\o.index<r.length then r.getD o.index.toNat zeroV else zeroV
def a1Z(d c:Int):Bool:=if d=1 then c==0 else if d=2 then c !=0 else if d=3 then decide (c<0)else if d=4 then decide (c<=0)else if d=5 then decide (c>0)else if d=6 then decide (c>=0)else false
def IM(c:Int)(a b:VV):Bool:=oC a&&oC b&&a.kind==b.kind&&a1Z c (nP a b)
mutual
def oP(r:cj):Pred->Bool
 |.mk op c a b args=>if op=1 then true else if op=3 then IM c (Qh r a) (Qh r b)else if op=4 then Gw r args else if op=5 then Gv r args else if op=6 then V1 r args else false
def Gw(r:cj):cr->Bool
 |[]=>true
 |p::ps=>oP r p&&Gw r ps
def Gv(r:cj):cr->Bool
 |[]=>false
 |p::ps=>oP r p||Gv r ps
def V1(r:cj):cr->Bool
 |[]=>false
 |p::_=> !oP r p
end
theorem No(r:cj):∀ps,Gw r ps=ps.all (oP r)
 |[]=>by simp[Gw]
 |p::ps=>by simp[Gw,No r ps]
theorem Nn(r:cj):∀ps,Gv r ps=ps.any (oP r)
 |[]=>by simp[Gv]
 |p::ps=>by simp[Gv,Nn r ps]
def DenS:Vc.Spec:=λc m h K=>∃o s r,c=[aO o,cS s,j8]/\cF h s r/\K (aV (Qh r o)) m h
def NJ(p:Int->Bool):Vc.Spec:=λd m h K=>∃c,d=[cI c]/\K (cB (p c)) m h
def ciQ:Vc.Spec:=λc m h K=>∃op,c=[cI op]/\
 branch (op==1) (K (fv 246) m h) (branch (op==2) (K (fv 247) m h) (branch (op==3) (K (fv 248) m h) (branch (op==4) (K (fv 249) m h) (branch (op==5) (K (fv 250) m h) (branch (op==6) (K (fv 251) m h) (K (.val .nilFunc) m h))))))
def bHJ(N:Nat):Vc.Spec:=λc m h K=>∃v s p r,c=[aP v,cS s,j8]/\dD h p v/\cF h s r/\SizeOf.sizeOf p<N/\K (cB (oP r p)) m h
def bIQ:Vc.Spec:=λc m h K=>∃v s p r,c=[aP v,cS s,j8]/\dD h p v/\cF h s r/\K (cB (oP r p)) m h
noncomputable def bwQ(N:Nat)(v:PV)(s:Sl)(m:MH)(h:PH):Ctx:=
 dA [(185,DenS),(186,Tx),(187,ciQ),(108,TG),(114,bHJ N),(246,NJ (λc=>c==0)),(247,NJ (λc=>c !=0)),(248,NJ (λc=>decide (c<0))),(249,NJ (λc=>decide (c<=0))),(250,NJ (λc=>decide (c>0))),(251,NJ (λc=>decide (c>=0)))] [(12,{A:=Nat,st:=λi=>bQ 102 105 [(1,sv s),(2,vv lF),(60,sv v.args),(61,iv v.args.len),(62,iv i)] [] m h}),
  (20,{A:=Nat,st:=λi=>bQ 102 105 [(1,sv s),(2,vv lF),(75,sv v.args),(76,iv v.args.len),(77,iv i)] [] m h})] [(6,{A:=VV×VV,st:=λ⟨a,b⟩=>bQ 102 105 [(3,.at (.ptr 3 0)),(7,.at (.ptr 7 0)),(8,.at (.ptr 8 0))] [(3,.cells 32 (v.enc.map .val)),(7,.cells 27 (a.enc.map .val)),(8,.cells 27 (b.enc.map .val))] m h})] [] false
def Sx(o:OV)(s:Sl)(m:MH)(h:PH)(K:bz):Prop:=
  cW (o.kind==3) (K (mF o.value) m h) (o.kind==2) (aZ o.index 0 (K (lS Ar) m h) (gM o.index 0 (K (lS Ar) m h) (bJ (λb c=>aA (bM Option.none b c) (0<=o.index) (o.index<0/\∃(y:VV),aU m h b (fU c o.index 3) y.enc/\K (mF y) m h))))) (eO o.kind 1 (aZ o.index 0 (K (lS Ar) m h) (gM o.index (aH s) (K (lS Ar) m h) (bJ (λb c=>aA (bM s.a b c) (0<=o.index) (o.index<aH s/\∃(y:VV),aU m h b (fU c o.index 3) y.enc/\K (mF y) m h))))) (K (lS Ar) m h))
def Mh(op:Int)(m:MH)(h:PH)(K:bz):Prop:=
  jY m h (λb e=>eA m e b (aM Value.nilFunc Value.nilFunc (aM Value.nilFunc Value.nilFunc (aM Value.nilFunc Value.nilFunc (oK Value.nilFunc)))) 275) (λb e=>wD (λc E=>aA (Ib e b (oU c E 0)) (7<=c.size) (∀(d:MH),eA e d b (aM Value.nilFunc (oX 246) (aM (oX 247) (oX 248) (aM (oX 249) (oX 250) (uK (oX 251) 7 c.toList)))) E->aZ op 0 (K (CV.val Value.nilFunc) d h) (gM op 7 (K (CV.val Value.nilFunc) d h) (aA (bZ op) (op<7) (∃(y:Option Nat),aU d h b (fU 0 op 1) (oK (bxZ y))/\K (CV.val (bxZ y)) d h))))))
def aSX(c:Int)(m:MH)(h:PH)(K:bz):Prop:=
  K (Bc (c==0)) m h
def aSQ(c:Int)(m:MH)(h:PH)(K:bz):Prop:=
  K (Bc (c !=0)) m h
def aRJ(c:Int)(m:MH)(h:PH)(K:bz):Prop:=
  K (Bc (decide (c<0))) m h
def aRZ(c:Int)(m:MH)(h:PH)(K:bz):Prop:=
  K (Bc (decide (c<=0))) m h
def aRX(c:Int)(m:MH)(h:PH)(K:bz):Prop:=
  K (Bc (decide (c>0))) m h
def aRQ(c:Int)(m:MH)(h:PH)(K:bz):Prop:=
  K (Bc (decide (c>=0))) m h
noncomputable abbrev xC(a:OV)(b:Sl):cz:=kT a::fF b j8
abbrev lZ(a:cj)(b:OV)(c:VV):Prop:=oQ 27 (cO (At.val (eF (Qh a b).kind)) (At.val (eF (Qh a b).int)) (oD (At.val (Value.string (Qh a b).text))))=nL 27 c.enc
abbrev yM(a:PV)(b:Sl)(c:PH)(d:OV->cj->(VV×VV)->Prop):Prop:=∃(x:OV),rJ (λe f=>aA (xC a.right b=xC x e) (cF c e f) (∃(g:VV×VV),d x f g))
abbrev EC(a:VV×VV)(b:Int->Prop):Prop:=Kv a.1 a.2 (λx c=>lA (nP x c) (λd=>b d))
noncomputable abbrev BR(a:PV)(b:Sl):cz:=cQ a::fF b j8
attribute [push_cast] xC lZ yM EC BR
def Te(N:Nat)(v:PV)(s:Sl)(m:MH)(h:PH)(K:bz):Prop:=
  cW (v.op==1) (gK K m h) (v.op==3) (∃(I:VV×VV->Prop),aA (∃(o:OV),rJ (λd r=>aA (xC v.left s=xC o d) (cF h d r) (aA (∃(e:OV),rJ (λu f=>aA (xC v.right s=xC e u) (cF h u f) ((∃(x:VV×VV),aA (I x) bV (aA (eP 7) eZ (aA (gS v) (lZ r o x.1) (aA (lZ f e x.2) (m=m) (bN h h)))))/\∃(x:VV×VV),aA (I x) bV (aA (eP 7) eZ (aA (gS v) (lZ r o x.1) (aA (lZ f e x.2) (m=m) (bN h h))))))) (yM v s h (λe f x=>aA (I x) bV (aA (eP 7) eZ (aA (gS v) (lZ r o x.1) (aA (lZ f e x.2) (m=m) (bN h h)))))/\yM v s h (λe f x=>aA (I x) bV (aA (eP 7) eZ (aA (gS v) (lZ r o x.1) (aA (lZ f e x.2) (m=m) (bN h h)))))) (yM v s h (λe f x=>aA (I x) bV (aA
 (eP 7) eZ (aA (gS v) (lZ r o x.1) (aA (lZ f e x.2) (m=m) (bN h h)))))/\yM v s h (λe f x=>aA (I x) bV (aA (eP 7) eZ (aA (gS v) (lZ r o x.1) (aA (lZ f e x.2) (m=m) (bN h h))))))))) ((∃(o:OV),rJ (λd r=>aA (xC v.left s=xC o d) (cF h d r) (yM v s h (λe f x=>aA (I x) bV (aA (eP 7) eZ (aA (gS v) (lZ r o x.1) (aA (lZ f e x.2) (m=m) (bN h h)))))/\yM v s h (λe f x=>aA (I x) bV (aA (eP 7) eZ (aA (gS v) (lZ r o x.1) (aA (lZ f e x.2) (m=m) (bN h h))))))))/\∃(o:OV),rJ (λd r=>aA (xC v.left s=xC o d) (cF h d r) (yM v s h (λe f x=>aA (I x) bV (aA (eP 7) eZ (aA (gS v) (lZ r o x.1) (aA (lZ f e x.2) (m=m) (bN h h)))))))) ((∃(o:
 OV),rJ (λd r=>aA (xC v.left s=xC o d) (cF h d r) (yM v s h (λe f x=>aA (I x) bV (aA (eP 7) eZ (aA (gS v) (lZ r o x.1) (aA (lZ f e x.2) (m=m) (bN h h)))))/\yM v s h (λe f x=>aA (I x) bV (aA (eP 7) eZ (aA (gS v) (lZ r o x.1) (aA (lZ f e x.2) (m=m) (bN h h))))))))/\∃(o:OV),rJ (λd r=>aA (xC v.left s=xC o d) (cF h d r) (yM v s h (λe f x=>aA (I x) bV (aA (eP 7) eZ (aA (gS v) (lZ r o x.1) (aA (lZ f e x.2) (m=m) (bN h h))))))))/\∀(x:VV×VV),I x->∃(g:VV),qF (mF x.1) (mF g) (iM (oC g) (K aX m h) (∃(z:VV),qF (mF x.2) (mF z) (cW (!(oC z)) (K aX m h) (x.1.kind !=x.2.kind) (K aX m h) (lA v.cmp (λo=>cW (o==1) (EC x
 (λc=>K (Bc (c==0)) m h)) (o==2) (EC x (λc=>K (Bc (c !=0)) m h)) (cW (o==3) (EC x (λc=>K (Bc (decide (c<0))) m h)) (o==4) (EC x (λc=>K (Bc (decide (c<=0))) m h)) (cW (o==5) (EC x (λc=>K (Bc (decide (c>0))) m h)) (o==6) (EC x (λc=>K (Bc (decide (c>=0))) m h)) (K aX m h))))))))) (cW (v.op==4) (sZ (λI x=>aA (I x) (aI s) (aA (eQ sQn) (aI v.args) (aA (vQ v) (bB x) (aA (m=m) (h=h) True)))) (λI n x=>I x->aZ (↑x:Int) (aH v.args) (bJ (λb o=>aA (bM v.args.a b o) (0<=(↑x:Int)) ((↑x:Int)<aH v.args/\∃(y:PV),aU m h b (bK o x 13) y.enc/\BX (λg d p r=>aA (BR y s=BR g d) (dD h p g) (aA (cF h d r) (pS p N) (iV (!(oP r p)) (K aX m h) (λj=>aA (I j) (n j<n x) (aA
 (aI s) (eQ sQn) (aA (aI v.args) (bI v.args) (aA (bD (fZ (bE x 1)) j) (m=m) (bN h h))))))))))) (gK K m h))) (v.op==5) (sZ (λI x=>aA (I x) (aI s) (aA (eQ sQn) (aI v.args) (aA (vQ v) (bB x) (aA (m=m) (h=h) True)))) (λI n x=>I x->aZ (↑x:Int) (aH v.args) (bJ (λb o=>aA (bM v.args.a b o) (0<=(↑x:Int)) ((↑x:Int)<aH v.args/\∃(y:PV),aU m h b (bK o x 13) y.enc/\BX (λg d p r=>aA (BR y s=BR g d) (dD h p g) (aA (cF h d r) (pS p N) (iV (oP r p) (gK K m h) (λj=>aA (I j) (n j<n x) (aA (aI s) (eQ sQn) (aA (aI v.args) (bI v.args) (aA (bD (fZ (bE x 1)) j) (m=m) (bN h h))))))))))) (K aX m h))) (eO v.op 6 (fA (nI v) 0 (bJ (λb o=>aA (bM v.args.a b o) ((0:Int)<=0) (0<
 aH v.args/\∃(y:PV),aU m h b (o+0) y.enc/\BX (λg d p r=>aA (BR y s=BR g d) (dD h p g) (aA (cF h d r) (pS p N) (K (CV.val (Value.bool (!(oP r p)))) m h)))))) (K aX m h)) (K aX m h)))
theorem Zf:bu 185 DenS:=by
 refine hU func185 ?_;rintro x m h K ⟨o,s,r,rfl,j,c⟩;refine⟨dA [] [] [] [] false,rfl,aG,Sx o s m h K,bd,?_⟩;dsimp only[Sx,push_cast];have y:=bY.slen j;unfold Qh at c;refine aC (λd=>?_) (λd=>aC (λn=>?_) (λn=>aC (λf=>?_) (λf=>?_)))
 .rw[if_pos bk]at c;exact c
 .have n:o.kind=2:=bk
  rw[if_neg aD,if_neg aD]at c;exact aF (λ_=>c) (λu=>aF (λ_=>c) (λg=>absurd (show o.index>=((0:Nat):Int)by omega) g))
 .have d:o.kind≠3:=bk
  have f:o.kind=1:=bk
  rw[if_neg d]at c;refine aF (λu=>?_) (λu=>aF (λg=>?_) (λg=>?_))
  .rw[if_neg aD]at c;exact c
  .rw[if_neg aD]at c;exact c
  .rw[if_pos ⟨f,aD,aD⟩]at c
   have z:r[o.index.toNat]? =some (r.getD o.index.toNat zeroV):=by
    grind
   obtain⟨b,off,v,e,rd,rfl⟩:=bY.at j z;exact⟨b,off,e,aD,aD,_,.imm rd,c⟩
 .have d:o.kind≠3:=bk
  have f:o.kind≠1:=bk
  rw[if_neg d,if_neg (λe=>f e.1)]at c;exact c
theorem Ze:bu 187 ciQ:=by
 refine FR func187 ?_;rintro o m h K ⟨op,rfl,f⟩;refine⟨sN [] [] [] [] [275] [] false,rfl,aG,Mh op m h (lE h K),bd,?_⟩;show Mh op m h (lE h K);dsimp only[Mh,push_cast];intro b F n g;refine⟨_,_,⟨g.at_⟩,bg,λu j=>?_⟩;have c:Sub m u:=((Sub.refl m).upd n.m_ g.other).upd n.m_ j.other;have e:=j.at_
 have d:∀k,¬(1<=op/\op<=6)->op=k->K (.val .nilFunc) m h:=λk G _=>by
  have:(op==1)=false/\(op==2)=false/\(op==3)=false/\(op==4)=false/\(op==5)=false/\(op==6)=false:=by
   grind
  obtain⟨x,y,z,A,B,C⟩:=this;rw[x,y,z,A,B,C]at f;exact f
 refine aF (λD=>.sub c (d _ aD rfl)) (λD=>aF (λE=>.sub c (d _ aD rfl)) (λE=>⟨aD,aD,?_⟩));have:op=0\/op=1\/op=2\/op=3\/op=4\/op=5\/op=6:=by omega
 rcases this with rfl|rfl|rfl|rfl|rfl|rfl|rfl
 .exact⟨none,.lent _ _ _ e rfl,.sub c (d 0 aD rfl)⟩
 .exact⟨some 246,.lent _ _ _ e rfl,.sub c f⟩
 .exact⟨some 247,.lent _ _ _ e rfl,.sub c f⟩
 .exact⟨some 248,.lent _ _ _ e rfl,.sub c f⟩
 .exact⟨some 249,.lent _ _ _ e rfl,.sub c f⟩
 .exact⟨some 250,.lent _ _ _ e rfl,.sub c f⟩
 .exact⟨some 251,.lent _ _ _ e rfl,.sub c f⟩
theorem YJ:bu 246 (NJ (λc=>c==0)):=by
 refine hU func246 ?_;rintro d m h K ⟨c,rfl,e⟩;refine⟨dA [] [] [] [] false,rfl,aG,aSX c m h K,bd,?_⟩;exact e
theorem YI:bu 247 (NJ (λc=>c !=0)):=by
 refine hU func247 ?_;rintro d m h K ⟨c,rfl,e⟩;refine⟨dA [] [] [] [] false,rfl,aG,aSQ c m h K,bd,?_⟩;exact e
theorem YH:bu 248 (NJ (λc=>decide (c<0))):=by
 refine hU func248 ?_;rintro d m h K ⟨c,rfl,e⟩;refine⟨dA [] [] [] [] false,rfl,aG,aRJ c m h K,bd,?_⟩;exact e
theorem YG:bu 249 (NJ (λc=>decide (c<=0))):=by
 refine hU func249 ?_;rintro d m h K ⟨c,rfl,e⟩;refine⟨dA [] [] [] [] false,rfl,aG,aRZ c m h K,bd,?_⟩;exact e
theorem YF:bu 250 (NJ (λc=>decide (c>0))):=by
 refine hU func250 ?_;rintro d m h K ⟨c,rfl,e⟩;refine⟨dA [] [] [] [] false,rfl,aG,aRX c m h K,bd,?_⟩;exact e
theorem YE:bu 251 (NJ (λc=>decide (c>=0))):=by
 refine hU func251 ?_;rintro d m h K ⟨c,rfl,e⟩;refine⟨dA [] [] [] [] false,rfl,aG,aRQ c m h K,bd,?_⟩;exact e
theorem W0:∀N,bu 114 (bHJ N)
 |0=>by
  refine dU (fn:=Tryz.f114) (c:=bW Tryz.f114) func114 rfl bg ?_;rintro S m h K ⟨v,s,p,r,rfl,_,_,hN,_⟩;omega
 |N+1=>by
  refine hU func114 ?_;rintro S m h K ⟨v,s,p,r,rfl,hp,C,hN,d⟩;refine⟨bwQ N v s m h,rfl,aE Zf (aE IS (aE Ze (aE IV (aE (W0 N) (aE YJ (aE YI (aE YH (aE YG (aE YF (aE YE aG)))))))))),Te N v s m h K,bd,?_⟩;dsimp only[Te,push_cast];have o:=@wX p;obtain⟨op,a',l,q,ps⟩:=p;obtain⟨rfl,rfl,rfl,rfl,D⟩:=hp.parts;have T:=D.slen;have Y:=D.len;simp only[Pred.args]at o;simp only[oP]at d;refine aC (λZ=>?_) (λZ=>aC (λh3=>?_) (λh3=>aC (λh4=>?_) (λh4=>aC (λh5=>?_) (λh5=>aC (λh6=>?_) (λh6=>?_)))))
  .rw[if_pos bk]at d;exact d
  all_goals have n1:v.op≠1:=bt Z
  .rw[if_neg n1,if_pos bk]at d;refine⟨λx=>x=(Qh r v.left,Qh r v.right),?_,?_⟩
   .repeat' (first|exact⟨_,rfl,MT⟩|refine⟨v.left,s,r,rfl,C,?_⟩|refine⟨v.right,s,r,rfl,C,?_⟩|refine And.intro ?_ ?_)
   .rintro⟨a,b⟩ E;simp only[Prod.mk.injEq]at E;obtain⟨rfl,rfl⟩:=E;generalize Qh r v.left=a at d⊢
    generalize Qh r v.right=b at d⊢
    have U:IM v.cmp a b=false->K (cB false) m h:=λe=>bk
    refine⟨a,rfl,aC (λn=>U ?_) (λn=>⟨b,rfl,aC (λF=>U ?_) (λF=>aC (λG=>U ?_) (λG=>⟨v.cmp,rfl,?_⟩))⟩)⟩
    .have n:oC a=false:=bk
     simp[IM,n]
    .have F:oC b=false:=bk
     simp[IM,F]
    .have G:a.kind≠b.kind:=bk
     simp[IM,G]
    .have n:oC a=true:=bk
     have F:oC b=true:=bk
     have G:a.kind=b.kind:=bk
     have e4:IM v.cmp a b=a1Z v.cmp (nP a b):=by simp[IM,n,F,G]
     rw[e4]at d;unfold a1Z at d;refine aC (λz=>?_) (λz=>aC (λA=>?_) (λA=>aC (λB=>?_) (λB=>aC (λH=>?_) (λH=>aC (λQ=>?_) (λQ=>aC (λV=>?_) (λV=>?_))))))
     all_goals simp only[beq_iff_eq,beq_eq_false_iff_ne]at*
     .rw[if_pos z]at d;exact⟨a,b,rfl,_,rfl,d⟩
     .rw[if_neg z,if_pos A]at d;exact⟨a,b,rfl,_,rfl,d⟩
     .rw[if_neg z,if_neg A,if_pos B]at d;exact⟨a,b,rfl,_,rfl,d⟩
     .rw[if_neg z,if_neg A,if_neg B,if_pos H]at d;exact⟨a,b,rfl,_,rfl,d⟩
     .rw[if_neg z,if_neg A,if_neg B,if_neg H,if_pos Q]at d;exact⟨a,b,rfl,_,rfl,d⟩
     .rw[if_neg z,if_neg A,if_neg B,if_neg H,if_neg Q,if_pos V]at d;exact⟨a,b,rfl,_,rfl,d⟩
     .rw[if_neg z,if_neg A,if_neg B,if_neg H,if_neg Q,if_neg V]at d;exact d
  all_goals have n3:v.op≠3:=bt h3
  all_goals rw[if_neg n1,if_neg n3]at d
  .rw[if_pos bk,No]at d;refine⟨λi=>i<=ps.length/\∀j:Nat,j<i->∀x,ps[j]? =some x->oP r x=true,λi=>ps.length-i,⟨0,⟨aD,λj I=>by omega⟩,MT⟩,λi⟨hi,J⟩=>aF (λf=>?_) (λW=>?_)⟩
   .obtain⟨x,g⟩:=eT T f;obtain⟨L,M,u,n,R,O⟩:=D.at g;have:=o (mem_of_getElem? g);refine⟨L,M,n,aD,f,u,.imm R,u,s,x,r,rfl,O,C,aD,aC (λX=>?_) (λhe=>⟨i+1,⟨aD,λj I y P=>?_⟩,(show ps.length-(i+1)<ps.length-i by omega),MT⟩)⟩
    .have:ps.all (oP r)=false:=by
      grind
     rw[this]at d;exact d
    grind
   .have:ps.all (oP r)=true:=by
     rw[all_eq_true];intro y P;obtain⟨j,I⟩:=getElem?_of_mem P
     grind
    rw[this]at d;exact d
  all_goals have n4:v.op≠4:=bt h4
  all_goals rw[if_neg n4]at d
  .rw[if_pos bk,Nn]at d;refine⟨λi=>i<=ps.length/\∀j:Nat,j<i->∀x,ps[j]? =some x->oP r x=false,λi=>ps.length-i,⟨0,⟨aD,λj I=>by omega⟩,MT⟩,λi⟨hi,J⟩=>aF (λf=>?_) (λW=>?_)⟩
   .obtain⟨x,g⟩:=eT T f;obtain⟨L,M,u,n,R,O⟩:=D.at g;have:=o (mem_of_getElem? g);refine⟨L,M,n,aD,f,u,.imm R,u,s,x,r,rfl,O,C,aD,aC (λhe=>?_) (λX=>⟨i+1,⟨aD,λj I y P=>?_⟩,(show ps.length-(i+1)<ps.length-i by omega),MT⟩)⟩
    .have:ps.any (oP r)=true:=any_eq_true.2 ⟨x,mem_of_getElem? g,he⟩;rw[this]at d;exact d
    grind
   .have:ps.any (oP r)=false:=by
     rw[any_eq_false];intro y P;obtain⟨j,I⟩:=getElem?_of_mem P
     grind
    rw[this]at d;exact d
  all_goals have n5:v.op≠5:=bt h5
  all_goals rw[if_neg n5]at d
  .rw[if_pos bk]at d;refine aF (λh7=>?_) (λh7=>?_)
   .obtain⟨x,g⟩:=eT (i:=0) T aD;obtain⟨L,M,u,n,R,O⟩:=D.at g;have:=o (mem_of_getElem? g)
    have e7:V1 r ps= !oP r x:=by
     cases ps with
     |nil=>simp at g
     |cons y _=>simp at g;subst g;rfl
    rw[e7]at d;exact⟨L,M,n,aD,aD,u,.imm aD,u,s,x,r,rfl,O,C,aD,d⟩
   .have:ps=[]:=length_eq_zero_iff.1 aD;subst this;exact d
  .rw[if_neg bk]at d;exact d
theorem Z0:bu 114 bIQ:=gW W0 λ_ _ _ _⟨v,s,p,r,e,c,d,f⟩=>⟨SizeOf.sizeOf p+1,v,s,p,r,e,c,d,aD,f⟩
structure iK(w:Nat)(l:cd):Prop where
 row:∀r∈l,UP r
 wid:∀r∈l,r.length=w
 srt:pJ l
 len:l.length<=8000000
def UX(l:cd)(x:cj):Bool:=l.any λy=>fQ x y==0
theorem amX{l:cd}{x:cj}:UX l x=true↔x∈l:=by
 simp only[UX,any_eq_true,beq_iff_eq,nB]
 grind
def cHJ(m c:MH)(b:Nat):Prop:=∀x o,m x=some o->x≠b->c x=some o
theorem fY.sub{c:PH}{r:CV}(sub:Sub m m')(le:PH.le h c)(d:K r m c):fY h K r m' c:=λ_=>⟨m,c,sub,le,λ_ _ _ e=>.inl e,d⟩
structure DJ(m:MH)(y:Nat)(ks:dk):Prop where
 ex:∃kk:dk,xW m y (kk.map λk=>(Value.string k,Value.bool true))/\∀k,k∈kk↔k∈ks
theorem DJ.new{y:Nat}(h:m y=some (.map #[] 0)):DJ m y []:=⟨[],⟨#[],0,h,rfl,bf,bf⟩,bf⟩
theorem DJ.get{y:Nat}{ks:dk}{key:ByteArray}{K:Bool->Prop}(s:DJ m y ks)(g:∀t:Bool,(t=true↔key∈ks)->K t):
 ∃(d:List (Value×Bool))(Ok:Value->Prop),xS m y (d.map λp=>(p.1,Value.bool p.2))/\KeyLaw Tryz.prog 9 Ok/\Ok (.string key)/\(∀e,List.Mem e d->Ok e.1)/\((∀e,List.Mem e d->e.1=Value.string key->False)->K false)/\∀t,List.Mem (Value.string key,t) d->K t:=by
 obtain⟨j,⟨o,c,u,x,_,_⟩,z⟩:=s.ex;refine⟨j.map λk=>(Value.string k,true),_,⟨o,c,u,by rw[x];simp⟩,Cf,⟨key,rfl⟩,λe A=>?_,λB=>g false ⟨λe=>(by cases e),λf=>?_⟩,λt n=>g t ⟨λ_=>?_,λ_=>?_⟩⟩
 .obtain⟨k,_,rfl⟩:=mem_map.1 (show e∈_ from A)
  grind
 .exact(B (Value.string key,true) (mem_map.2 (⟨key,(z key).2 f,rfl⟩:∃a,a∈j/\(Value.string a,true)=(Value.string key,true))) rfl).elim
 .obtain⟨k,f,e⟩:=mem_map.1 (show(Value.string key,t)∈_ from n)
  grind
 .obtain⟨k,f,e⟩:=mem_map.1 (show(Value.string key,t)∈_ from n)
  grind
theorem Vm(key:ByteArray):Instr.sameBits 10000 (Value.string key) (Value.string key)=true:=by
 show(key==key)=true;cases key with
 |mk d=>exact beq_self_eq_true d
theorem DJ.put{y:Nat}{ks:dk}{key:ByteArray}{Q:MH->Prop}(s:DJ m y ks)(u:∀m':MH,rM m m' y->DJ m' y (key::ks)->Q m'):
 ∃(c:cm)(Ok:Value->Prop),xW m y c/\KeyLaw Tryz.prog 9 Ok/\Ok (.string key)/\Instr.sameBits 10000 (Value.string key) (Value.string key)=true/\(∀e,List.Mem e c->Ok e.1)/\((∀e,List.Mem e c->e.1=Value.string key->False)->∀m':MH,rM m m' y->xW m' y (c++[(Value.string key,Value.bool true)])->Q m')/\
  ∀(g:cm)(d:Value)(j:cm),c=g++(Value.string key,d)::j->∀m':MH,rM m m' y->xW m' y (g++(Value.string key,Value.bool true)::j)->Q m':=by
 obtain⟨f,x,A⟩:=s.ex;refine⟨_,_,x,Cf,⟨key,rfl⟩,Vm key,λe z=>?_,λB m' n o=>u m' n ⟨f++[key],bk,λk=>?_⟩,λg d j e m' n o=>u m' n ⟨f,?_,λk=>?_⟩⟩
 .obtain⟨k,_,rfl⟩:=mem_map.1 (show e∈_ from z)
  grind
 .grind
 .have:(Value.string key,d)∈f.map λk=>(Value.string k,Value.bool true):=by rw[e];simp
  grind
 .have:(Value.string key,d)∈f.map λk=>(Value.string k,Value.bool true):=by rw[e];simp
  grind
theorem A1{α:Type}{l:List α}{k:Nat}{x:α}(p:α->Bool)(c:l[k]? =some x):(l.take (k+1)).filter p=(l.take k).filter p++(if p x then[x]else[]):=by
 rw[take_add_one,c,Option.toList_some,filter_append]
 grind
def cbZ(n:Nat):Query->List cd->Prop:=λ_ c=>n<=c.length/\∀l∈c,∃w,iK w l
def bRZ(q:Query)(ls:List cd):cd:=match q with|.mk _ _ w _ _ _ _ _ _=>(ls.getD 0 []).filter λr=>oP r w
theorem jL.app{us vs:ck}{a b:cd}(x:jL h us a)(y:jL h vs b):jL h (us++vs) (a++b):=by
 refine⟨by simp[x.len,y.len],λj r c=>?_⟩;have g:=x.len;by_cases d:j<a.length
 .rw[getElem?_append_left d]at c;obtain⟨u,e,f⟩:=x.at_ j r c
  grind
 .rw[getElem?_append_right aD]at c;obtain⟨u,e,f⟩:=y.at_ _ r c
  grind
def clZ(_:Query)(ls:List cd):cd:=Ef (ls.getD 0 []++ls.getD 1 [])
def cyQ(q:Query)(ls:List cd):cd:=match q with|.mk _ _ _ co _ _ _ _ _=>Ef ((ls.getD 0 []).map λr=>pick r co)
def a7Z(q:Query)(ls:List cd):Prop:=match q with|.mk _ _ _ co _ _ _ _ _=>1<=ls.length/\co.length<=12/\∃w,iK w (ls.getD 0 [])/\jU w co
theorem a5Z{r:cj}{y:VV}(d:(pick r co)[i]? =some y)(e:i<co.length):((pick r co).take i++replicate (co.length-i) zeroV).set i y=(pick r co).take (i+1)++replicate (co.length-(i+1)) zeroV:=by
 have c:(pick r co).length=co.length:=by simp[pick]
 rw[set_append,if_neg bj];rw[take_add_one,d,Option.toList_some,append_assoc];congr 1;rw[show co.length-i=(co.length-(i+1))+1 by omega,replicate_succ];simp[c,Nat.min_eq_left (Nat.le_of_lt e)]
theorem aEX{r:cj}(d:i<co.length):(((pick r co).take i++replicate (co.length-i) zeroV).map VV.enc)[i]? =some (VV.enc zeroV):=by
 have c:(pick r co).length=co.length:=by simp[pick]
 grind
theorem wP{m0:MH}{o:Obj}(c:Sub m0 m)(g:mH m h b)(j:iL m m' b o):Sub m0 m'/\m0 b=none:=by
 have d:m0 b=none:=by
  cases e:m0 b with
  |none=>rfl
  |some x=>have f:=c b x e;rw[g.m_]at f;cases f
 exact⟨c.upd d j.other,d⟩
def T5(_:Query)(ls:List cd):Prop:=2<=ls.length/\∃w,∀l∈ls,iK w l
def cqQ(_:Query)(ls:List cd):cd:=(ls.getD 0 []).filter λx=>UX (ls.getD 1 []) x==false
def cqZ(_:Query)(ls:List cd):cd:=(ls.getD 0 []).filter λx=>UX (ls.getD 1 []) x==true
def mI:cg->cj->cj->Int
 |[],a,b=>fQ a b
 |(c,d)::r,a,b=>if 0<=c/\c<a.length/\c<b.length then(if nP (a.getD c.toNat zeroV) (b.getD c.toNat zeroV)≠0 then(if d then-nP (a.getD c.toNat zeroV) (b.getD c.toNat zeroV)else nP (a.getD c.toNat zeroV) (b.getD c.toNat zeroV))else mI r a b)else mI r a b
def QT:Vc.Spec:=λc m h K=>∃o s t od a b,c=[cS o,cS s,cS t]/\jT h o od/\cF h s a/\cF h t b/\K (cI (mI od a b)) m h
noncomputable def bWJ(o s t:Sl)(m:MH)(h:PH):Ctx:=
 dA [(108,TG),(102,NB)] [(2,{A:=Nat,st:=λi=>bQ 55 58 [(1,sv s),(2,sv t),(10,sv o),(11,iv o.len),(12,iv i)] [] m h})] [] [] false
def Ws(o s t:Sl)(m:MH)(h:PH)(K:bz):Prop:=
  sZ (λI x=>aA (I x) (aI s) (aA (aI t) (aI o) (aA (bI o) (bB x) (aA (m=m) (h=h) True)))) (λI d x=>I x->aZ (↑x:Int) (aH o) (bJ (λb f=>aA (bM o.a b f) (0<=(↑x:Int)) ((↑x:Int)<aH o/\∃(y:Int×Bool),aU m h b (bK f x 2) (tS y)/\aZ y.1 0 (∃(c:Nat),aA (I c) (d c<d x) (aA (aI s) (aI t) (aA (aI o) (bI o) (aA (bD (fZ (bE x 1)) c) (m=m) (bN h h))))) (cW (decide (y.1>=aH s)) (∃(c:Nat),aA (I c) (d c<d x) (aA (aI s) (aI t) (aA (aI o) (bI o) (aA (bD (fZ (bE x 1)) c) (m=m) (bN h h))))) (decide (y.1>=aH t)) (∃(c:Nat),aA (I c) (d c<d x) (aA (aI s) (aI t) (aA (aI o) (bI o) (aA (bD (fZ (bE x 1)) c) (m=m) (bN h h))))) (bJ (λg j=>aA (bM s.a g j) (0<=
 y.1) (y.1<aH s/\∃(n:VV),aU m h g (fU j y.1 3) n.enc/\bJ (λu z=>aA (bM t.a u z) (0<=y.1) (y.1<aH t/\∃(A:VV),aU m h u (fU z y.1 3) A.enc/\Kv n A (λa e=>cW (nP a e==0) (∃(c:Nat),aA (I c) (d c<d x) (aA (aI s) (aI t) (aA (aI o) (bI o) (aA (bD (fZ (bE x 1)) c) (m=m) (bN h h))))) y.2 (K (fX (fH (0-nP a e))) m h) (K (fX (nP a e)) m h))))))))))) (∃(B:Sl),rJ (λC a=>∃(b:cj),aA (dT s t=dT B C) (cF h B a) (cF h C b/\K (fX (fQ a b)) m h))))
theorem aaJ(a b:VV): -1<=nP a b/\nP a b<=1:=by
 have c:∀x y:Int, -1<=CC x y/\CC x y<=1:=λx y=>by unfold CC;omega
 have d:=(Pn a.text.data.toList b.text.data.toList).2;have e: -1<=Rc a.text b.text/\Rc a.text b.text<=1:=by unfold Rc;omega
 have f:=c a.kind b.kind;have g:=c a.int b.int;unfold nP;omega
theorem aYQ{c:Int}{d:Bool}{r:cg}{a b:cj}(h:¬(0<=c/\c<a.length/\c<b.length)):mI ((c,d)::r) a b=mI r a b:=by
 rw[mI,if_neg h]
theorem b8J{c:Int}{d:Bool}{r:cg}{a b:cj}{x y:VV}(e:0<=c)(f:a[c.toNat]? =some x)(g:b[c.toNat]? =some y):mI ((c,d)::r) a b=if nP x y≠0 then(if d then-nP x y else nP x y)else mI r a b:=by
 have j:=(List.getElem?_eq_some_iff.1 f).1;have n:=(List.getElem?_eq_some_iff.1 g).1;rw[mI,if_pos ⟨e,aD,aD⟩]
 grind
theorem RY:bu 64 QT:=by
 refine hU func64 ?_;rintro L m h K ⟨o,s,t,od,a,b,rfl,C,D,E,g⟩;refine⟨bWJ o s t m h,rfl,aE IV (aE Ct aG),Ws o s t m h K,bd,?_⟩;dsimp only[Ws,push_cast];have F:=C.slen;have M:=C.len;have O:=bY.slen D;have P:=bY.slen E;refine⟨λi=>i<=od.length/\mI od a b=mI (od.drop i) a b,λi=>od.length-i,⟨0,⟨aD,bf⟩,MT⟩,λi⟨hi,j⟩=>aF (λn=>?_) (λQ=>?_)⟩
 .obtain⟨⟨c,B⟩,G⟩:=eT F n;obtain⟨R,S,T,U⟩:=C.row.get (i:=i) (e:=rN (c,B)) (by simp[G]);rw[drop_cons G]at j
  have skip:¬(0<=c/\c<a.length/\c<b.length)->∃d:Nat,(λi=>i<=od.length/\mI od a b=mI (od.drop i) a b) d/\(λi=>od.length-i) d<(λi=>od.length-i) i/\eQ (sQs s)/\eQ (sQs t)/\eQ (sQs o)/\eQ (fZ ↑o.len)/\fZ (IntKind.i64.wrap ((i:Int)+1))=fZ ↑d/\m=m/\h=h/\True:=λV=>
   ⟨i+1,⟨aD,by rw[j,aYQ V]⟩,(show od.length-(i+1)<od.length-i by omega),MT⟩
  refine⟨R,S,T,aD,n,(c,B),.imm U,aF (λH=>skip (λe=>by omega)) (λH=>aF (λI=>skip (λe=>by omega)) (λI=>aF (λJ=>skip (λe=>by omega)) (λJ=>?_)))⟩;dsimp only at H I J⊢
  obtain⟨x,z⟩:∃x,a[c.toNat]? =some x:=⟨_,getElem?_eq_getElem aD⟩
  obtain⟨y,A⟩:∃y,b[c.toNat]? =some y:=⟨_,getElem?_eq_getElem aD⟩
  obtain⟨W,X,u,Y,Z,rfl⟩:=bY.at D z;obtain⟨b3,o3,u,e3,r3,rfl⟩:=bY.at E A;rw[b8J aD z A]at j;have a':=aaJ x y;refine⟨W,X,Y,aD,aD,x,.imm Z,b3,o3,e3,aD,aD,y,.imm r3,x,y,rfl,aC (λh4=>⟨i+1,⟨aD,?_⟩,(show od.length-(i+1)<od.length-i by omega),MT⟩) (λh4=>aC (λf=>?_) (λf=>?_))⟩
  .grind
  .have f:B=true:=f;rw[j,if_pos bk,if_pos f]at g;rw[eH aD aD,Int.zero_sub];exact g
  .have f:B=false:=f;rw[j,if_pos bk,if_neg (by simp[f])]at g;exact g
 .rw[j,drop_eq_nil_of_le aD,mI]at g;exact⟨s,t,a,b,rfl,D,E,g⟩
def La(w:Nat):cg->cj->cj->Int
 |[],a,b=>fQ a b
 |(c,d)::r,a,b=>if 0<=c/\c<w then(if(if d then-nP (a.getD c.toNat zeroV) (b.getD c.toNat zeroV)else nP (a.getD c.toNat zeroV) (b.getD c.toNat zeroV))≠0 then(if d then-nP (a.getD c.toNat zeroV) (b.getD c.toNat zeroV)else nP (a.getD c.toNat zeroV) (b.getD c.toNat zeroV))else La w r a b)else La w r a b
theorem Dm{w:Nat}:∀{od:cg}{a b:cj},a.length=w->b.length=w->mI od a b=La w od a b
 |[],_,_,_,_=>rfl
 |(c,f)::r,a,b,d,e=>by
  rw[mI,La,d,e,Dm (od:=r) d e];omega
theorem TH.neg{α:Type}{c:α->α->Int}(h:TH c):TH (λx y=> -c x y):=by
 refine⟨λx y=>by have:=h.anti x y;omega,λx y z d e=>?_⟩;have f:=h.anti x y;have g:=h.anti y z;have j:=h.anti x z;have:=h.trans z y x aD aD;omega
theorem K9(w:Nat):∀od,TH (La w od)
 |[]=>GF
 |(c,d)::r=>by
  have f:=K9 w r;have g:TH (λa b:cj=>nP (a.getD c.toNat zeroV) (b.getD c.toNat zeroV)):=Lb.of λa:cj=>a.getD c.toNat zeroV;by_cases h:0<=c/\c<w
  .have e:La w ((c,d)::r)=λa b=>if(if d then-nP (a.getD c.toNat zeroV) (b.getD c.toNat zeroV)else nP (a.getD c.toNat zeroV) (b.getD c.toNat zeroV))≠0 then(if d then-nP (a.getD c.toNat zeroV) (b.getD c.toNat zeroV)else nP (a.getD c.toNat zeroV) (b.getD c.toNat zeroV))else La w r a b:=by
    funext a b;rw[La,if_pos h]
   rw[e];cases d
   .exact g.lex f
   .exact g.neg.lex f
  .have e:La w ((c,d)::r)=La w r:=by funext a b;rw[La,if_neg h]
   grind
theorem byJ{w:Nat}(od:cg):Sort.SWO (Go.Proofs.ltOf (fun(x y:GM h (λl=>l.length=w))=>mI od x.l y.l)):=by
 have e:(fun(x y:GM h (λl=>l.length=w))=>mI od x.l y.l)=λx y=>La w od x.l y.l:=by
  funext x y;exact Dm x.pr_ y.pr_
 rw[e];exact(K9 w od).swo
def bOJ(on:ce)(ls:List cd):Prop:=2<=ls.length/\∃w c,iK w (ls.getD 0 [])/\iK c (ls.getD 1 [])/\jU w (pD on)/\jU c (jF on)
def a6J(q:Query)(ls:List cd):Prop:=match q with|.mk _ _ _ _ on _ _ _ _=>bOJ on ls
def agree(on:ce)(x y:cj):Bool:=fQ (pick x (pD on)) (pick y (jF on))==0
def cxX(q:Query)(ls:List cd):cd:=match q with|.mk _ _ _ _ on _ _ _ _=>(ls.getD 0 []).filter λx=>(ls.getD 1 []).any λy=>agree on x y
theorem aZX{on:ce}{x y:cj}:agree on x y=true↔pick x (pD on)=pick y (jF on):=by
 simp only[agree,beq_iff_eq,nB]
theorem JB{r:cj}{cols:ca}(c:UP r)(d:jU r.length cols):∀v∈pick r cols,VOk v:=λv e=>c.val v (VD d e)
theorem LQ{κ:cj->ByteArray}(c:a0X κ){on:ce}{x y:cj}(d:UP x)(e:UP y)(f:jU x.length (pD on))(g:jU y.length (jF on)):κ (pick x (pD on))=κ (pick y (jF on))↔agree on x y=true:=by
 rw[aZX];exact c.inj (by simp[pick,pD,jF]) (JB d f) (JB e g)
structure sO(m0 m:MH)(y:Nat)(kk:ct)(us:ByteArray->ck):Prop where
 map_:xW m y (kk.map λp=>(Value.string p.1,fK p.2))
 nodup:(kk.map Prod.fst).Nodup
 row:∀p∈kk,dC m p.2 94 1 ((us p.1).map eS)
 fresh:∀p∈kk,∀x i,p.2.a=some ⟨x,i,none⟩->m0 x=none
 apart:∀p∈kk,∀q∈kk,p.1≠q.1->∀x i j,p.2.a=some ⟨x,i,none⟩->q.2.a≠some ⟨x,j,none⟩
 none_:∀k,k∉kk.map Prod.fst->us k=[]
 old:∀x o,m0 x=some o->x≠y->m x=some o
def FO(kk:ct)(key:ByteArray)(s:Sl):Prop:=(s=⟨none,0,0⟩/\key∉kk.map Prod.fst)\/(key,s)∈kk
theorem sO.new{y:Nat}(h:m y=some (.map #[] 0)):sO m m y [] λ_=>[]:=⟨⟨#[],0,h,rfl,bf,bf⟩,bf,bf,bf,bf,λ_ _=>rfl,λ_ _ e _=>e⟩
theorem FO.row{m0:MH}{y:Nat}{kk:ct}{us:ByteArray->ck}{key:ByteArray}{s:Sl}(g:sO m0 m y kk us)(d:FO kk key s):dC m s 94 1 ((us key).map eS)/\∀x i,s.a=some ⟨x,i,none⟩->m0 x=none:=by
 rcases d with⟨rfl,f⟩|c
 .rw[g.none_ key f];exact⟨⟨Jt [],.inl ⟨rfl,rfl⟩⟩,λx i e=>by cases e⟩
 .exact⟨g.row _ c,g.fresh _ c⟩
def OD(us:ByteArray->ck)(key:ByteArray)(e:Sl):ByteArray->ck:=λk=>if k=key then us k++[e]else us k
theorem sO.core{m0 U:MH}{y:Nat}{kk A:ct}{us:ByteArray->ck}{key:ByteArray}{s E e:Sl}(g:sO m0 m y kk us)(H:∃o,m0 y=some o)(I:FO kk key s)(F:eD m U s E 94 1 ((us key).map eS++[[fK e]]))
 (V:xW m' y (A.map λp=>(Value.string p.1,fK p.2)))(u:rM U m' y)(J:(A.map Prod.fst).Nodup)(z:∀p∈A,p=(key,E)\/(p∈kk/\p.1≠key))(G:(key,E)∈A)(L:∀k,k∈kk.map Prod.fst->k∈A.map Prod.fst):sO m0 m' y A (OD us key e):=by
 obtain⟨oy,H⟩:=H;obtain⟨W,a'⟩:=I.row g;obtain⟨es,c,h1,_⟩:=g.map_;have a0:∀i,s.a≠some ⟨y,i,none⟩:=λi f=>bk
 have X:∀x,m x=none->m0 x=none:=λx M=>by
  cases O:m0 x with
  |none=>rfl
  |some o=>
   by_cases P:x=y
   .grind
   .rw[g.old x o O P]at M;cases M
 have Y:∀x i,E.a=some ⟨x,i,none⟩->m0 x=none:=λx i f=>by
  rcases F.fresh x i f with h|⟨j,h⟩
  .grind
  grind
 have D:∀p∈kk,∀x i,p.2.a=some ⟨x,i,none⟩->∃o,m x=some o:=λp B x i f=>by
  rcases(g.row p B).ex with⟨h,_⟩|⟨b,a1,a2,h,V,_⟩
  .grind
  grind
 have Q:∀p∈kk,p.1≠key->∀x i j,p.2.a=some ⟨x,i,none⟩->s.a≠some ⟨x,j,none⟩:=λp B d x i j f C=>by
  rcases I with⟨rfl,_⟩|I
  .cases C
  .exact g.apart p B _ I d x i j f C
 refine⟨V,J,λp B=>?_,λp B x i f=>?_,λp B q hq d x i j f C=>?_,λk Z=>?_,λx o O d=>?_⟩
 .rcases z p B with rfl|⟨n,d⟩
  .have R:(OD us key e key).map eS=(us key).map eS++[[fK e]]:=by simp[OD,eS]
   rw[R];exact dC.keep F.row λb i f=>u.other b (λC=>bk)
  .have R:OD us key e p.1=us p.1:=if_neg d;rw[R];refine dC.keep (g.row p n) λb i f=>?_;obtain⟨o,ho⟩:=D p n b i f;rw[u.other b (λC=>by rw[C]at f;rw[g.fresh p n y i f]at H;cases H),ho];exact F.other b o ho (λj=>Q p n d b i j f)
 .rcases z p B with rfl|⟨n,_⟩
  .grind
  .exact g.fresh p n x i f
 .have M:∀p∈kk,p.1≠key->∀i j,p.2.a=some ⟨x,i,none⟩->E.a≠some ⟨x,j,none⟩:=λp B d i j f C=>by
   rcases F.fresh x j C with h|⟨j',h⟩
   .grind
   grind
  rcases z p B with rfl|⟨n,a3⟩<;>rcases z q hq with rfl|⟨S,a4⟩
  .exact d rfl
  .grind
  .grind
  .exact g.apart p n q S d x i j f C
 .have T:k≠key:=λf=>Z (mem_map.2 ⟨_,G,f.symm⟩);simp only[OD,if_neg T];exact g.none_ k λh=>Z (L k h)
 .rw[u.other x d];exact F.other x o (g.old x o O d) (λi f=>bk)
theorem sO.put{m0 A:MH}{y:Nat}{kk:ct}{us:ByteArray->ck}{key:ByteArray}{s u e:Sl}{Q:MH->Prop}(g:sO m0 m y kk us)(B:∃o,m0 y=some o)(C:FO kk key s)(D:eD m A s u 94 1 ((us key).map eS++[[fK e]]))
 (J:∀m' E,sO m0 m' y E (OD us key e)->Q m'):
 ∃(j:cm)(Ok:Value->Prop),xW A y j/\KeyLaw Tryz.prog 9 Ok/\Ok (.string key)/\Instr.sameBits 10000 (Value.string key) (Value.string key)=true/\(∀e,List.Mem e j->Ok e.1)/\((∀e,List.Mem e j->e.1=Value.string key->False)->∀m':MH,rM A m' y->xW m' y (j++[(Value.string key,fK u)])->Q m')/\
  ∀(F:cm)(L:Value)(G:cm),j=F++(Value.string key,L)::G->∀m':MH,rM A m' y->xW m' y (F++(Value.string key,fK u)::G)->Q m':=by
 have H:∀i,s.a≠some ⟨y,i,none⟩:=λi n=>by
  obtain⟨o,M⟩:=B;rw[(C.row g).2 y i n]at M;cases M
 obtain⟨R,c,S,T,U,V⟩:=g.map_;refine⟨kk.map λp=>(Value.string p.1,fK p.2),_,⟨R,c,D.other _ _ S H,T,U,V⟩,Cf,⟨key,rfl⟩,Vm key,λe W=>?_,λX m' d I=>?_,λF L G Y m' d I=>?_⟩
 .obtain⟨k,_,rfl⟩:=mem_map.1 (show e∈_ from W)
  grind
 .have Z:key∉kk.map Prod.fst:=λh=>by
   obtain⟨p,hp,n⟩:=mem_map.1 h;subst n;exact X _ (mem_map_of_mem (f:=λp:ByteArray×Sl=>(Value.string p.1,fK p.2)) hp) rfl
  refine J m' (kk++[(key,u)]) (g.core B C D bk d ?_ ?_ bf (λk hk=>bk))
  .rw[map_append,nodup_append];refine⟨g.nodup,bf,λa ha b hb n=>?_⟩
   grind
  grind
 .obtain⟨k1,a',e1,n,e3⟩:=map_eq_append_iff.1 Y;obtain⟨p,k2,e4,O,e6⟩:=map_eq_cons_iff.1 e3;subst e1 e4 n e6;simp only[Prod.mk.injEq,Value.string.injEq]at O;have x:=g.nodup;rw[map_append,map_cons,O.1]at x;have z:=nodup_append.1 x;have P:=nodup_cons.1 z.2.1;refine J m' (k1++(key,u)::k2) (g.core B C D bk d bk ?_ bf (λk hk=>bk))
  grind
theorem sO.get2{m0:MH}{y:Nat}{kk:ct}{us:ByteArray->ck}{key:ByteArray}{K0:Prop}{K:Sl->Prop}(g:sO m0 m y kk us)(n:FO kk key ⟨none,0,0⟩->K0)(o:∀s,FO kk key s->K s):
 ∃(d:dp)(Ok:Value->Prop),xS m y (d.map λp=>(p.1,fK p.2))/\KeyLaw Tryz.prog 9 Ok/\Ok (.string key)/\(∀e,List.Mem e d->Ok e.1)/\((∀e,List.Mem e d->e.1=Value.string key->False)->K0)/\∀t,List.Mem (Value.string key,t) d->K t:=by
 obtain⟨u,c,x,z,_,_⟩:=g.map_;refine⟨kk.map λp=>(.string p.1,p.2),_,⟨u,c,x,by rw[z];simp⟩,Cf,⟨key,rfl⟩,λe A=>?_,λB=>n (.inl ⟨rfl,λh=>?_⟩),λt C=>o t (.inr ?_)⟩
 .obtain⟨k,_,rfl⟩:=mem_map.1 (show e∈_ from A)
  grind
 .obtain⟨p,j,e⟩:=mem_map.1 h;subst e;exact B (.string p.1,p.2) (mem_map_of_mem (f:=λp:ByteArray×Sl=>(Value.string p.1,p.2)) j) rfl
 .obtain⟨p,j,e⟩:=mem_map.1 (show(Value.string key,t)∈_ from C)
  grind
structure afX(m0 m:MH)(h:PH)(y:Nat)(f:ByteArray->cd):Prop where
 ex:∃kk us,sO m0 m y kk us/\∀k,jL h (us k) (f k)
theorem afX.upd{m0:MH}{y:Nat}{kk:ct}{us:ByteArray->ck}{f c:ByteArray->cd}{key:ByteArray}{e:Sl}{r:cj}(g:sO m0 m' y kk (OD us key e))(j:∀k,jL h (us k) (f k))(n:cF h e r)(o:c key=f key++[r])(u:∀k,k≠key->c k=f k):afX m0 m' h y c:=by
 refine⟨kk,_,g,λk=>?_⟩;by_cases d:k=key
 .subst d;rw[o];have:OD us k e k=us k++[e]:=if_pos rfl;rw[this];exact(j k).snoc n
 .rw[u k d];have:OD us key e k=us k:=if_neg d
  grind
def Ei(cols:ca)(r:cj):Bool:=(pick r cols).all oC
def qI(on:ce)(b:cd)(x:cj):cd:=
 if Ei (pD on) x then(b.filter λy=>Ei (jF on) y&&agree on x y).map (x++ ·)else[]
def czZ(q:Query)(ls:List cd):cd:=match q with|.mk _ _ _ _ on _ _ _ _=>(ls.getD 0 []).flatMap (qI on (ls.getD 1 []))
def a8X(q:Query)(ls:List cd):Prop:=match q with|.mk _ _ _ _ on _ _ _ _=>bOJ on ls/\(ls.getD 0 []).length*(ls.getD 1 []).length<=8000000
theorem A0{α β:Type}{f:α->List β}{n:Nat}:∀{l:List α},(∀x∈l,(f x).length<=n)->(l.flatMap f).length<=l.length*n
 |[],_=>bf
 |a::l,h=>by
  have d:=h a (mem_cons_self ..);have e:=A0 (l:=l) λx c=>h x (mem_cons_of_mem _ c);simp only[flatMap_cons,length_append,length_cons,Nat.add_mul,Nat.one_mul];omega
theorem Fq{α β:Type}{l:List α}{k:Nat}{x:α}(f:α->List β)(c:l[k]? =some x):(l.take (k+1)).flatMap f=(l.take k).flatMap f++f x:=by
 rw[take_add_one,c];simp
theorem Dk{on:ce}{b:cd}{x:cj}:(qI on b x).length<=b.length:=by
 unfold qI;grind
def under(κ:cj->ByteArray)(cols:ca)(l:cd)(key:ByteArray):cd:=l.filter λz=>Ei cols z&&decide (κ (pick z cols)=key)
theorem Is{κ:cj->ByteArray}{cols:ca}{l:cd}{k:Nat}{r:cj}(c:l[k]? =some r)(key:ByteArray):under κ cols (l.take (k+1)) key=under κ cols (l.take k) key++(if Ei cols r&&decide (κ (pick r cols)=key)then[r]else[]):=A1 _ c
def pG(κ:cj->ByteArray)(gr:ca)(l:cd)(k:ByteArray):cd:=l.filter λz=>decide (κ (pick z gr)=k)
def vL(od:cg)(l:cd):Prop:=l.Pairwise λa b=>¬mI od b a<0
structure xL(κ:cj->ByteArray)(m:MH)(h:PH)(y:Nat)(gr:ca)(od:cg)(l:cd)(kk:ct)(g:ByteArray->cd):Prop where
 map_:xW m y (kk.map λp=>(Value.string p.1,fK p.2))
 nodup:(kk.map Prod.fst).Nodup
 rows:∀p∈kk,Rows h p.2 (g p.1)
 none_:∀k,k∉kk.map Prod.fst->g k=[]
 perm:∀k,(g k).Perm (pG κ gr l k)
 sort:∀k,vL od (g k)
structure caQ(m:MH)(h:PH)(od:cg)(p:ByteArray×Sl)(f:ByteArray->cd)(st:Prop):Prop where
 ex:∃ps:de,dC m p.2 94 1 (ps.map λq=>eS q.1)/\(∀q∈ps,cF h q.1 q.2)/\(ps.map Prod.snd).Perm (f p.1)/\(st->vL od (ps.map Prod.snd))
noncomputable def leftOf(m:MH)(r:Nat):Nat:=match m r with
 |some (.mapIter (some b) _ c _)=>(match m b with|some (.map d _)=>(d.toList.filter λe=> !c.contains e.born).length|_=>0)
 |_=>0
theorem nA.left_{r:Nat}{d left:cm}(i:nA m b r d left):leftOf m r=left.length:=by
 obtain⟨n,c,e,f,o,g,_,_,_,j,_,_,_,u⟩:=i.ex;simp only[leftOf,j,g]
 grind
theorem nA.mem{r:Nat}{d left:cm}(i:nA m b r d left){x:Value×Value}(g:x∈left):x∈d:=by
 obtain⟨j,c,e,f,n,o,u,_,_,y,_,_,_,z⟩:=i.ex
 grind
theorem nA.keep{r:Nat}{e left:cm}(i:nA m b r e left)(n:m' b=m b)(o:m' r=m r):nA m' b r e left:=by
 obtain⟨g,c,d,f,j,u,x⟩:=i.ex;exact⟨g,c,d,f,j,bk,bk⟩
theorem nA.nodup{r:Nat}{d left:cm}(i:nA m b r d left)(g:d.Nodup):left.Nodup:=by
 obtain⟨j,c,e,f,n,o,u,_,_,x,_,_,_,y⟩:=i.ex
 grind
theorem cwJ{us:ck}{rs:cd}(c:jL h us rs):∃ps:de,ps.map Prod.fst=us/\ps.map Prod.snd=rs/\∀q∈ps,cF h q.1 q.2:=by
 refine⟨us.zip rs,map_fst_zip (Nat.le_of_eq c.len),map_snd_zip (Nat.le_of_eq c.len.symm),λq e=>?_⟩;obtain⟨i,d⟩:=mem_iff_getElem?.1 e;rw[getElem?_zip_eq_some]at d;obtain⟨u,f,g⟩:=c.at_ i _ d.2
 grind
theorem dC.ice{s:Sl}{us:ck}(n:dC m s 94 1 (us.map eS))(E:∀b c,s.a=some ⟨b,0,none⟩->m b=some (.cells c 94 (0,0))->∀i,h b i=c[i]?):cD h s 1 (us.map eS):=by
 rcases n.ex with⟨rfl,f⟩|⟨b,x,c,rfl,F,y,G,H,I⟩
 .rw[f];exact cD.nil _ _
 .refine⟨bf,?_,y⟩;by_cases z:us.map eS=[]
  .exact .inl z
  .refine .inr ⟨b,0,rfl,λi e d=>⟨λj v o=>?_⟩⟩;have A:=n.rows.len e (mem_of_getElem? d);have B:j=0:=bk
   subst B;have C:=(List.getElem?_eq_some_iff.1 d).1
   have J:((us.map eS).flatten)[i]? =some v:=by
    rw[getElem?_map]at d;cases g:us[i]? with
    |none=>grind
    |some u=>
     rw[g]at d;simp at d;subst d;simp[eS]at o;subst o
     have:∀l:ck,(l.map eS).flatten=l.map λu=>Value.slice u.a u.len u.cap:=λl=>by
      induction l with
      |nil=>rfl
      |cons a l D=>simp only[map_cons,flatten_cons,D];rfl
     grind
   grind
theorem Um{kk:ct}(d:(kk.map Prod.fst).Nodup){p q:ByteArray×Sl}(c:p∈kk)(f:q∈kk)(e:p.1=q.1):p=q:=by
 induction kk with
 |nil=>cases c
 |cons a kk g=>
  grind
theorem V4{κ:cj->ByteArray}{O T C:MH}{A:PH}{y r:Nat}{l:cd}{kk:ct}{uk:ByteArray->ck}(U:Sub m O)(ny:m y=none)(m4y:O y=some (.map #[] 0))(g:sO O T y kk uk)(hg:∀k,jL A (uk k) (pG κ gr l k))(le:PH.le h A)(a1:l.length<=8000000)
 (V:∀b o,T b=some o->(∀p∈kk,∀i,p.2.a≠some ⟨b,i,none⟩)->C b=some o)(W:nA C y r (kk.map λp=>(Value.string p.1,fK p.2)) [])(n:∀p∈kk,caQ C A od p (pG κ gr l) ((Value.string p.1,fK p.2)∉([]:cm)))
 (hK:∀y m2 d kk g,m y=none->(∀b,b≠y->m2 b=m b)->PH.le h d->xL κ m2 d y gr od l kk g->K (.val (.map (some y))) m2 d):fY h K (.val (.map (some y))) C A:=by
 intro hd;have D:∀b o,O b=some o->∀p∈kk,∀i,p.2.a≠some ⟨b,i,none⟩:=λb o e p f i J=>by rw[g.fresh p f b i J]at e;cases e
 have L:Sub m T:=λz o J=>g.old z o (U z o J) (λe3=>bk)
 classical
 let B:Nat->Prop:=λb=>∃p∈kk,p.2.a=some ⟨b,0,none⟩
 have hB:∀b,B b->m b=none/\b≠y/\∀i,A b i=none:=by
  rintro b ⟨p,f,e⟩;obtain⟨ps,E,_⟩:=(n p f).ex;refine⟨?_,λJ=>?_,hd b _ (E.blk e).choose_spec⟩
  .cases J:m b with
   |none=>rfl
   |some o=>exact(D b o (U b o J) p f 0 e).elim
  grind
 let d:PH:=λb i=>if B b then(match C b with|some (.cells cs _ _)=>cs[i]? |_=>none)else A b i
 have I:PH.le A d:=⟨λb i v e=>by
  grind⟩
 have a2:∀p∈kk,∃G,Rows d p.2 G/\G.Perm (pG κ gr l p.1)/\vL od G:=λp f=>by
  obtain⟨ps,E,h3,h4,F⟩:=(n p f).ex;refine⟨ps.map Prod.snd,?_,h4,F bf⟩;have e5:(ps.map λq=>eS q.1)=(ps.map Prod.fst).map eS:=by rw[map_map];rfl
  rw[e5]at E
  have X:cD d p.2 1 ((ps.map Prod.fst).map eS):=dC.ice E λb M Y P i=>by
   show(if B b then _ else A b i)=_;rw[if_pos ⟨p,f,Y⟩,P]
  refine jL.rows (us:=ps.map Prod.fst) ⟨bf,λj x Q=>?_⟩ X ?_
  .rw[getElem?_map]at Q;cases R:ps[j]? with
   |none=>grind
   |some q=>
    rw[R]at Q;have Q:q.2=x:=bk
    exact⟨q.1,bk,Q▸cF.mono (h3 q (mem_of_getElem? R)) I⟩
  .have:=h4.length_eq;have h6:(pG κ gr l p.1).length<=l.length:=length_filter_le _ _;omega
 let G:ByteArray->cd:=λk=>if e:∃p G,p∈kk/\p.1=k/\Rows d p.2 G/\G.Perm (pG κ gr l p.1)/\vL od G then e.choose_spec.choose else[]
 have hG:∀p∈kk,Rows d p.2 (G p.1)/\(G p.1).Perm (pG κ gr l p.1)/\vL od (G p.1):=λp f=>by
  have Z:∃u G,u∈kk/\u.1=p.1/\Rows d u.2 G/\G.Perm (pG κ gr l u.1)/\vL od G:=by
   grind
  have R:G p.1=Z.choose_spec.choose:=dif_pos Z;rw[R];obtain⟨F,h6,h7⟩:=Z.choose_spec.choose_spec
  have tr:∀u G',u∈kk->u.1=p.1->(Rows d u.2 G'/\G'.Perm (pG κ gr l u.1)/\vL od G')->Rows d p.2 G'/\G'.Perm (pG κ gr l p.1)/\vL od G':=λu G' E d h3=>by
   have e7:=Um g.nodup E f d
   grind
  exact tr _ _ F h6 h7
 have hN:∀k,k∉kk.map Prod.fst->G k=[]/\pG κ gr l k=[]:=λk H=>by
  refine⟨dif_neg ?_,?_⟩
  .grind
  .have F:=(hg k).len;rw[g.none_ k H]at F
   grind
 obtain⟨es,c,a',a0,c0,i1,i2,i3,i4,_⟩:=W.ex;refine⟨λb=>if b=y then C y else m b,d,λb o e=>?_,le.trans I,λb i v' e=>?_,hK y _ d kk G ny (λb S=>if_neg S) (le.trans I) ⟨⟨es,c,(if_pos rfl).trans i1,i2,i3,i4⟩,g.nodup,λp f=>(hG p f).1,λk H=>(hN k H).1,λk=>?_,λk=>?_⟩⟩
 .have e:(if b=y then C y else m b)=some o:=e;split at e
  .grind
  .exact V b o (L b o e) (D b o (U b o e))
 .have e:(if B b then _ else A b i)=some v':=e;split at e
  .rename_i S;have F:=hB b S;obtain⟨p,f,Y⟩:=S;obtain⟨ps,E,_⟩:=(n p f).ex;obtain⟨M,P⟩:=E.blk Y;rw[P]at e;refine .inr ⟨M,94,(0,0),P,e,?_⟩;show(if b=y then C y else m b)=none;rw[if_neg F.2.1];exact F.1
  grind
 .by_cases H:k∈kk.map Prod.fst
  .obtain⟨p,f,rfl⟩:=mem_map.1 H
   grind
  grind
 .by_cases H:k∈kk.map Prod.fst
  .obtain⟨p,f,rfl⟩:=mem_map.1 H
   grind
  .rw[(hN k H).1];exact List.Pairwise.nil
theorem V3{κ:cj->ByteArray}{W L M O:MH}{Y:PH}{y r w:Nat}{gr:ca}{od:cg}{l:cd}{kk:ct}{uk:ByteArray->ck}{left Z l2:cm}{x:Value×Value}(m4y:W y=some (.map #[] 0))(g:sO W L y kk uk)(P:iK w l)(a5:L r=none)
 (a6:∀b o,L b=some o->(∀p∈kk,∀i,p.2.a≠some ⟨b,i,none⟩)->M b=some o)(Q:nA M y r (kk.map λp=>(Value.string p.1,fK p.2)) left)(D:∀p∈kk,caQ M Y od p (pG κ gr l) ((Value.string p.1,fK p.2)∉left))(a':left=Z++x::l2)(C:rM M O r)(a0:FD O y r (kk.map λp=>(Value.string p.1,fK p.2)) (Z++l2) x):
 ∃(c:ByteArray×Sl)(ps:de),x=(Value.string c.1,fK c.2)/\(∀b o,W b=some o->b≠y->O b=some o/\∀i,c.2.a≠some ⟨b,i,none⟩)/\dC O c.2 94 1 (ps.map λp:Sl×cj=>eS p.1)/\(∀p∈ps,cF Y p.1 p.2)/\(∀p∈ps,p.2.length=w)/\ps.length<=l.length/\
  ∀(n:de)(E:MH),n.Perm ps->n.Pairwise (λp q=>¬mI od q.2 p.2<0)->dC E c.2 94 1 (n.map λp=>eS p.1)->(∀b,(∀i,c.2.a≠some ⟨b,i,none⟩)->E b=O b)->
   (∀b o,L b=some o->(∀p∈kk,∀i,p.2.a≠some ⟨b,i,none⟩)->E b=some o)/\(∃left,nA E y r (kk.map λp=>(Value.string p.1,fK p.2)) left/\∀p∈kk,caQ E Y od p (pG κ gr l) ((Value.string p.1,fK p.2)∉left))/\leftOf E r<leftOf M r:=by
 have G:∀p∈kk,∀x i,p.2.a=some ⟨x,i,none⟩->∃o,L x=some o:=λp B x i X=>⟨_,((g.row p B).blk X).choose_spec⟩
 have H:∀{z o},L z=some o->z≠r:=fun{z o} X e3=>bk
 have a1:x∈left:=bk
 obtain⟨c,d,rfl⟩:=mem_map.1 (nA.mem Q a1);obtain⟨ps,h1,h3,h4,h5⟩:=(D c d).ex;have F:∀b o,W b=some o->∀p∈kk,∀i,p.2.a≠some ⟨b,i,none⟩:=λb o e p B i X=>by rw[g.fresh p B b i X]at e;cases e
 have u:∀p∈kk,∀b i,p.2.a=some ⟨b,i,none⟩->b≠r:=λp B b i e=>H (G p B b i e).choose_spec;have R:=h4.length_eq;have a2:(pG κ gr l c.1).length<=l.length:=length_filter_le _ _;rw[length_map]at R;refine⟨c,ps,rfl,λb o e a3=>⟨?_,F b o e c d⟩,dC.keep h1 λb i e=>C.other b (u c d b i e),h3,λq hq=>?_,aD,λn E A I J f=>?_⟩
 .have mb:=g.old b o e a3;rw[C.other b (H mb)]
  grind
 .have:q.2∈pG κ gr l c.1:=h4.mem_iff.1 (mem_map_of_mem hq);exact P.wid _ (mem_filter.1 this).1
 .have S:∀i,c.2.a≠some ⟨y,i,none⟩:=F y _ m4y c d;have T:∀i,c.2.a≠some ⟨r,i,none⟩:=λi e=>u c d r i e rfl;have U:nA E y r (kk.map λp=>(Value.string p.1,fK p.2)) (Z++l2):=nA.keep a0.it (f y S) (f r T);refine⟨λb o e hb=>?_,⟨_,U,λp B=>?_⟩,?_⟩
  .rw[f b (hb c d),C.other b (H e)]
   grind
  .by_cases V:p=c
   .subst V;refine⟨n,J,λq hq=>h3 q (A.mem_iff.1 hq),(A.map _).trans h4,λ_=>?_⟩;rw[vL,pairwise_map];exact I
   .have a4:p.1≠c.1:=λe=>V (Um g.nodup B d e);obtain⟨qs,g1,g3,g4,g5⟩:=(D p B).ex;refine⟨qs,dC.keep g1 λb i e=>?_,g3,g4,λhn=>g5 λhl=>hn ?_⟩
    .rw[f b (λj=>g.apart p B c d a4 b i j e),C.other b (u p B b i e)]
    grind
  .rw[nA.left_ U,nA.left_ Q,a'];simp
theorem My{w:Nat}:∀{od:cg}{a b:cj},La w od a b=0->a=b
 |[],_,_,h=>nB.1 h
 |(c,d)::r,a,b,h=>by
  rw[La]at h;generalize (if d then-nP (a.getD c.toNat zeroV) (b.getD c.toNat zeroV)else nP (a.getD c.toNat zeroV) (b.getD c.toNat zeroV))=x at h;split at h
  .split at h
   .omega
   .exact My h
  .exact My h
theorem D2{w:Nat}{od:cg}{a b:cj}(c:a.length=w)(d:b.length=w):mI od a b= -mI od b a:=by
 rw[Dm c d,Dm d c];exact(K9 w od).anti a b
theorem aXJ{w:Nat}{a b:cj}(c:a.length=w)(d:b.length=w)(h:mI od a b=0):a=b:=by
 rw[Dm c d]at h;exact My h
theorem MR{w:Nat}{od:cg}{x:cj}:∀{G:cd}{n:Nat},vL od G->(∀r∈G,r.length=w)->G.Nodup->(x∈G.take n↔x∈G/\(G.countP λy=>decide (mI od y x<0))<n)
 |[],n,_,_,_=>bf
 |a::G,0,_,_,_=>bf
 |a::G,n+1,g,j,o=>by
  have g:=pairwise_cons.1 g;have o:=nodup_cons.1 o;have z:=MR (x:=x) (G:=G) (n:=n) g.2 (λr A=>j r (mem_cons_of_mem _ A)) o.2;have c:=j a (mem_cons_self ..);rw[take_succ_cons,mem_cons,z,mem_cons,countP_cons];by_cases u:x=a
  .subst u;have B:¬mI od x x<0:=by have:=D2 (od:=od) c c;omega
   have C:(G.countP λy=>decide (mI od y x<0))=0:=countP_eq_zero.2 λy D=>bk
   grind
  .by_cases d:x∈G
   .have f:=j x (mem_cons_of_mem _ d);have B:=g.1 x d;have C:=D2 (od:=od) c f;have E:mI od a x≠0:=λe=>u (aXJ c f e).symm
    grind
   grind
theorem Q3{l:cd}(h:pJ l):l.Nodup:=by
 rw[nodup_iff_pairwise_ne];exact h.imp fun{a b} c e=>by subst e;have:=GF.anti a a;omega
def M1(gr:ca)(x y:cj):Bool:=fQ (pick x gr) (pick y gr)==0
theorem aDQ{x y:cj}:M1 gr x y=true↔pick x gr=pick y gr:=by
 simp only[M1,beq_iff_eq,nB]
def LW(gr:ca)(od:cg)(li:Int)(a b:cd):cd:=a.filter λx=>decide (((b.countP λy=>M1 gr x y&&decide (mI od y x<0):Nat):Int)<li)
def cxJ(q:Query)(ls:List cd):cd:=match q with|.mk _ _ _ _ _ gr od li _=>LW gr od li (ls.getD 0 []) (ls.getD 0 [])
def a7Q(q:Query)(ls:List cd):Prop:=match q with|.mk _ _ _ _ _ gr _ li _=>1<=ls.length/\(∃w,iK w (ls.getD 0 [])/\jU w gr)/\0<=li
theorem bbX{κ:cj->ByteArray}(e:a0X κ){w:Nat}{l:cd}(c:iK w l)(f:jU w gr){x y:cj}(g:UP x)(j:x.length=w)(d:y∈l):κ (pick y gr)=κ (pick x gr)↔M1 gr x y=true:=by
 rw[aDQ];have:=e.inj (a:=pick y gr) (b:=pick x gr) (by simp[pick]) (JB (c.row y d) (by rw[c.wid y d];exact f)) (JB g bk)
 grind
theorem Nk{κ:cj->ByteArray}(c:a0X κ){w:Nat}{l:cd}(d:iK w l)(e:jU w gr){x:cj}(f:UP x)(g:x.length=w):
 ((pG κ gr l (κ (pick x gr))).countP λy=>decide (mI od y x<0))=l.countP λy=>M1 gr x y&&decide (mI od y x<0):=by
 rw[pG,countP_filter];refine countP_congr λy j=>?_;have n:=bbX c d e f g j
 grind
theorem W9{α:Type}{p q:α->Bool}:∀{l:List α},(∀x∈l,¬(p x=true/\q x=true))->l.countP p+l.countP q=l.countP λx=>p x||q x
 |[],_=>rfl
 |a::l,h=>by
  have d:=W9 (l:=l) λx c=>h x (mem_cons_of_mem _ c)
  grind
theorem aJJ{κ:cj->ByteArray}(z:a0X κ){y w:Nat}{l:cd}{kk:ct}{g:ByteArray->cd}(e:xL κ m h y gr od l kk g)(c:iK w l)(d:jU w gr)(A:0<=li)(x:cj):
 x∈LW gr od li l l↔∃p∈kk,x∈(g p.1).take li.toNat:=by
 have B:∀k r,r∈g k->r∈l/\κ (pick r gr)=k:=λk r n=>by
  have:=(e.perm k).mem_iff.1 n;simpa[pG]using this
 have C:∀k,(g k).Nodup:=λk=>(e.perm k).nodup_iff.2 ((Q3 c.srt).sublist filter_sublist);have D:∀k,x∈(g k).take li.toNat↔x∈g k/\((g k).countP λy=>decide (mI od y x<0))<li.toNat:=λk=>MR (e.sort k) (λr n=>c.wid r (B k r n).1) (C k)
 have E:x∈l->((g (κ (pick x gr))).countP λy=>decide (mI od y x<0))=l.countP λy=>M1 gr x y&&decide (mI od y x<0):=λj=>by
  rw[(e.perm _).countP_eq];exact Nk z c d (c.row x j) (c.wid x j)
 rw[LW,mem_filter];constructor
 .rintro⟨j,u⟩;have u:=of_decide_eq_true u;have f:x∈g (κ (pick x gr)):=(e.perm _).mem_iff.2 (by simp[pG,j])
  have o:κ (pick x gr)∈kk.map Prod.fst:=by
   by_cases o:κ (pick x gr)∈kk.map Prod.fst
   .exact o
   .rw[e.none_ _ o]at f;cases f
  grind
 grind
open Classical in
structure GK(κ:cj->ByteArray)(gr:ca)(li:Int)(l:cd)(kk:ct)(g:ByteArray->cd)(left:cm)(acc:cd):Prop where
 mem:∀x,x∈acc↔∃p∈kk,(Value.string p.1,fK p.2)∉left/\x∈(g p.1).take li.toNat
 cnt:acc.length+(l.countP λz=>decide (Value.string (κ (pick z gr))∈left.map Prod.fst))<=l.length
open Classical in
theorem GK.start{κ:cj->ByteArray}{gr:ca}{li:Int}{l:cd}{kk:ct}{g:ByteArray->cd}:GK κ gr li l kk g (kk.map λp=>(Value.string p.1,fK p.2)) []:=by
 refine⟨λx=>⟨λe=>(by cases e),?_⟩,?_⟩
 .grind
 grind
theorem aHX{kk:ct}(c:(kk.map Prod.fst).Nodup):(kk.map λp=>(Value.string p.1,fK p.2)).Nodup:=by
 grind
open Classical in
theorem GK.step{κ:cj->ByteArray}{m F:MH}{h:PH}{y G r:Nat}{gr:ca}{od:cg}{li:Int}{l f:cd}{kk:ct}{g:ByteArray->cd}{left d e:cm}{c:ByteArray×Sl}(st:GK κ gr li l kk g left f)(o:xL κ m h y gr od l kk g)(j:nA F G r (kk.map λp=>(Value.string p.1,fK p.2)) left)(u:c∈kk)(A:left=d++(Value.string c.1,fK c.2)::e):
 GK κ gr li l kk g (d++e) (f++(g c.1).take li.toNat):=by
 have B:=nA.nodup j (aHX o.nodup);rw[A]at B
 have E:(Value.string c.1,fK c.2)∉d++e:=λh=>by
  grind
 have C:∀x∈d++e,x∈left:=λx h=>bk
 refine⟨λx=>?_,?_⟩
 .rw[mem_append,st.mem]
  grind
 .have H:Value.string c.1∉(d++e).map Prod.fst:=λh=>by
   obtain⟨z,D,n⟩:=mem_map.1 h;obtain⟨p,I,rfl⟩:=mem_map.1 (nA.mem j (C _ D));simp only[Value.string.injEq]at n;have:=Um o.nodup I u n
   grind
  have L:=W9 (l:=l) (p:=λz=>decide (Value.string (κ (pick z gr))∈(d++e).map Prod.fst)) (q:=λz=>decide (κ (pick z gr)=c.1)) (λz _⟨M,O⟩=>by
   grind)
  have P:(l.countP λz=>decide (Value.string (κ (pick z gr))∈(d++e).map Prod.fst)||decide (κ (pick z gr)=c.1))=l.countP λz=>decide (Value.string (κ (pick z gr))∈left.map Prod.fst):=by
   grind
  have Q:(pG κ gr l c.1).length=l.countP λz=>decide (κ (pick z gr)=c.1):=by rw[pG,countP_eq_length_filter]
  have J:=(o.perm c.1).length_eq;have:=st.cnt;rw[length_append,length_take];omega
theorem GK.done{κ:cj->ByteArray}(j:a0X κ){y w:Nat}{l e:cd}{kk:ct}{g:ByteArray->cd}(st:GK κ gr li l kk g [] e)(n:xL κ m h y gr od l kk g)(c:iK w l)(d:jU w gr)(f:0<=li):LW gr od li l l=Ef e:=
 aiJ (c.srt.sublist filter_sublist) λx=>by rw[aJJ j n c d f,st.mem];simp
theorem a3Z{h:PH}{s:Sl}{l:cd}{li:Int}(f:Rows h s l)(g:0<=li):(0<=if(s.len:Int)<li then(s.len:Int)else li)/\(if(s.len:Int)<li then(s.len:Int)else li)<=s.cap/\∃us:ck,cD h ⟨s.a,(if(s.len:Int)<li then(s.len:Int)else li).toNat,s.cap⟩ 1 (us.map eS)/\jL h us (l.take li.toNat)/\us.length<=l.length:=by
 obtain⟨⟨c,d,n,o⟩,_⟩:=f;have u:s.len=c.length:=by have:=d.len;grind
 have y:((if(s.len:Int)<li then(s.len:Int)else li).toNat)=min c.length li.toNat:=by omega
 have e:=d.cap;refine⟨aD,aD,c.take (min c.length li.toNat),?_,⟨bk,λj x z=>?_⟩,bj⟩
 .rw[y,map_take];exact cD.cut d _ bj
 grind
theorem KI{w:World}{q:Nat}{c:Array Obj}(d:b<w.heap.size):(Sort.grow (w.drewN q) c).heap[b]? =w.heap[b]? :=by
 show((w.drewN q).heap++c)[b]? =_;rw[Array.getElem?_append_left (show b<(w.drewN q).heap.size from d)];rfl
theorem Xe{P:Program}{g:Nat}{cs:bx}{m:MH}{h:PH}{S:Vc.Spec}{r:CV}{u:Value}(J:Sound P g S)(L:S (cs.map .val) m h λr' m' h'=>r'=r/\m'=m/\h'=h)(M:∀w C,D9 w r C->C=u){w:World}
 (O:∀b o v,h b o=some v->w.cell? ⟨b,o,none⟩=some v)(V:∀b o,m b=some o->w.heap[b]? =some o)(Q:∀b o,m b=some o->∀i,h b i=none)(D:Nat)(E:Array Obj):
 Calls P g cs.toArray (Sort.grow (w.drewN D) E) λe w'=>e= .returned u/\∃q F,w'=Sort.grow ((Sort.grow (w.drewN D) E).drewN q) F:=by
 obtain⟨W,hW⟩:∃W,Sort.grow (w.drewN D) E=W:=⟨_,rfl⟩
 rw[hW];have G:∀b,b<w.heap.size->W.heap[b]? =w.heap[b]? :=λb f=>by rw[<-hW];exact KI f
 have x:∀(l:bx)(w:World),Cy w (l.map .val) l:=λl w=>by
  induction l with
  |nil=>trivial
  |cons a l R=>exact⟨rfl,R⟩
 have z:∀(l:bx)(i:Nat)(c:CV)(u:Value)(b:Nat),(l.map CV.val)[i]? =some c->gR c u=some b->False:=λl i c u b n f=>by
  rw[getElem?_map]at n;cases e:l[i]? with
  |none=>grind
  |some v=>rw[e]at n;simp at n;subst n;simp[gR]at f
 have A:AR W m h (cs.map .val) cs:=by
  refine⟨x _ _,?_,?_,Q,λi j c d u v b n _ _ _ f _=>(z _ i c u b n f).elim,λi c u b n _ f=>(z _ i c u b n f).elim⟩
  .intro b o v T;have B:=O b o v T;rw[World.cell?_of_block (w:=w) (w':=W) (a:=⟨b,o,none⟩) (G b (World.block_lt_of_cell? w ⟨b,o,none⟩ B))];exact B
  grind
 refine(J.2 _ _ m h W _ L A).mono ?_;rintro e w' ⟨r',C,m',h',rfl,⟨rfl,rfl,rfl⟩,H,y,_⟩;have U:=M _ _ H;subst U;refine⟨rfl,MK y.tape y.os y.output y.drawn y.size (λb f=>?_)⟩;cases I:m' b with
 |none=>
  refine y.frame b f ?_;rintro(B|⟨i,c,u,n,_,X⟩)
  .exact B I
  grind
 |some o=>rw[y.msat b o I];grind
theorem XK{g:Nat}{S R:Vc.Spec}(V:bu g S)(hR:∀B m h K,R B m h K->∃(n E F G H:Nat)(od:cg)(rs:cd)(r:cj),B=[cI n,.val (.func (.func g) #[] #[.pointer (some ⟨E,0,none⟩),.pointer (some ⟨F,0,none⟩),.pointer (some ⟨G,0,none⟩)])]/\rs.length<=502633886983/\rs.length=n/\vL od rs/\(∀x∈rs,x.length=H)/\r.length=H/\
 (∀(i:Nat) x,rs[i]? =some x->S ([.int .i64 i,.pointer (some ⟨E,0,none⟩),.pointer (some ⟨F,0,none⟩),.pointer (some ⟨G,0,none⟩)].map .val) m h λr' m' h'=>r'=cB (decide (mI od x r>=0))/\m'=m/\h'=h)/\K (cI ((rs.countP λy=>decide (mI od y r<0):Nat):Int)) m h):bu 126 R:=by
 refine⟨⟨Tryz.f126,func126,rfl,bg⟩,?_⟩;intro B W m h w K h0 f;obtain⟨n,E,F,G,H,od,rs,r,rfl,X,rfl,J,Y,j,hS,hK⟩:=hR _ _ _ _ h0
 obtain⟨v1,I,rfl⟩:∃v I,W=[v,I]:=by
  have:=(sH f.args).1
  match W,this with
  |[v,I],_=>grind
 have C:v1= .int .i64 rs.length:=f.args.1;have h2:I= .func (.func g) #[] #[.pointer (some ⟨E,0,none⟩),.pointer (some ⟨F,0,none⟩),.pointer (some ⟨G,0,none⟩)]:=f.args.2.1;subst C h2
 have eg:∀args w,(callFunc g args).run Tryz.prog w= .ok (.enter g args) w:=λargs w=>by
  obtain⟨Z,L,d,hn⟩:=V.1;have M:¬Z.body=none:=bk
  have O:¬Z.name= "runtime.NumGoroutine" :=bk
  simp[callFunc,program,Sem.run,L,O,M]
 have D:=Any.sort_Search Tryz.searchO g #[.pointer (some ⟨E,0,none⟩),.pointer (some ⟨F,0,none⟩),.pointer (some ⟨G,0,none⟩)] rs.length (λi=>decide (mI od (rs.toArray[i]!) r>=0)) w eg aD
  (λmm P i hi=>Xe (cs:=[.int .i64 i,.pointer (some ⟨E,0,none⟩),.pointer (some ⟨F,0,none⟩),.pointer (some ⟨G,0,none⟩)]) V
   (hS i _ bk) (λw u' hu=>hu) f.hsat f.msat f.disj mm P)
  (λa b Q d c=>?_)
 .refine Calls.mono D ?_;rintro e w' ⟨rfl,q,P,rfl⟩
  have u:((List.range rs.length).countP λi=> !decide (mI od (rs.toArray[i]!) r>=0))=rs.countP λy=>decide (mI od y r<0):=by
   have:=Go.Lib.countP_range rs.toArray (λy=> !decide (mI od y r>=0))
   grind
  rw[u];refine⟨_,_,m,h,rfl,hK,rfl,⟨rfl,rfl,rfl,Nat.le_add_right _ _,?_,λb d _=>KI d,λb o v T=>?_,λb o d=>?_,f.disj,λ_ _ _ e=>e,λ_ _ _=>rfl,λb o d=>.inr (.inl bk)⟩,λb d=>by cases d⟩
  .show w.heap.size<=((w.drewN q).heap++P).size;rw[Array.size_append];exact Nat.le_add_right _ _
  .have C:=f.hsat b o v T;rw[World.cell?_of_block (w:=w) (a:=⟨b,o,none⟩) (KI (World.block_lt_of_cell? w ⟨b,o,none⟩ C))];exact C
  .have C:=f.msat b o d;rw[KI (Array.getElem?_eq_some_iff.1 C).1];exact C
 .have c:=of_decide_eq_true c;refine decide_eq_true ?_;rcases Nat.lt_or_eq_of_le Q with U|rfl
  .have ha:a<rs.length:=by omega
   rw[getElem!_pos _ a aD]at c;rw[getElem!_pos _ b aD];simp only[getElem_toArray]at c⊢
   have z:=Y _ (getElem_mem ha);have A:=Y _ (getElem_mem d);have h5:=(pairwise_iff_getElem.1 J) a b ha d U;have h6:=D2 (od:=od) z A;have h7:=D2 (od:=od) z j;have h8:=D2 (od:=od) A j;rw[Dm z A]at h6;have:=(K9 H od).trans r rs[a] rs[b] (by rw[<-Dm j z];omega) aD;rw[<-Dm j A]at this;omega
  .exact c
theorem xL.get2{κ:cj->ByteArray}{y:Nat}{l:cd}{kk:ct}{G:ByteArray->cd}{key:ByteArray}{K0:Prop}{K:Sl->Prop}(g:xL κ m h y gr od l kk G)(n:FO kk key ⟨none,0,0⟩->K0)(o:∀s,FO kk key s->K s):
 ∃(d:dp)(Ok:Value->Prop),xS m y (d.map λp=>(p.1,fK p.2))/\KeyLaw Tryz.prog 9 Ok/\Ok (.string key)/\(∀e,List.Mem e d->Ok e.1)/\((∀e,List.Mem e d->e.1=Value.string key->False)->K0)/\∀t,List.Mem (Value.string key,t) d->K t:=by
 obtain⟨u,c,x,z,_,_⟩:=g.map_;refine⟨kk.map λp=>(.string p.1,p.2),_,⟨u,c,x,by rw[z];simp⟩,Cf,⟨key,rfl⟩,λe A=>?_,λB=>n (.inl ⟨rfl,λh=>?_⟩),λt C=>o t (.inr ?_)⟩
 .obtain⟨k,_,rfl⟩:=mem_map.1 (show e∈_ from A)
  grind
 .obtain⟨p,j,e⟩:=mem_map.1 h;subst e;exact B (.string p.1,p.2) (mem_map_of_mem (f:=λp:ByteArray×Sl=>(Value.string p.1,p.2)) j) rfl
 .obtain⟨p,j,e⟩:=mem_map.1 (show(Value.string key,t)∈_ from C)
  grind
theorem xL.keep{κ:cj->ByteArray}{y:Nat}{l:cd}{kk:ct}{G:ByteArray->cd}(g:xL κ m h y gr od l kk G)(d:∀o,m y=some o->m' y=some o)(le:PH.le h h'):xL κ m' h' y gr od l kk G:=by
 obtain⟨e,c,f,j,n,u⟩:=g.map_;exact⟨⟨e,c,d _ f,j,n,u⟩,g.nodup,λp x=>bY.mono (g.rows p x) le (λr t z=>cF.mono z le),g.none_,g.perm,g.sort⟩
theorem xL.at_{κ:cj->ByteArray}{y:Nat}{l:cd}{kk:ct}{G:ByteArray->cd}{key:ByteArray}{s:Sl}(g:xL κ m h y gr od l kk G)(c:FO kk key s):Rows h s (G key):=by
 rcases c with⟨rfl,d⟩|e
 .rw[g.none_ key d];exact(jL.nil h).rows (cD.nil _ _) bf
 .exact g.rows _ e
def bNJ(q:Query)(ls:List cd):cd:=match q with|.mk _ _ _ _ _ gr od li _=>LW gr od li (ls.getD 0 []) (ls.getD 1 [])
def VL(q:Query)(ls:List cd):Prop:=match q with|.mk _ _ _ _ _ gr _ _ _=>2<=ls.length/\∃w,iK w (ls.getD 0 [])/\iK w (ls.getD 1 [])/\jU w gr
def opF(op:Int)(q:Query)(ls:List cd):cd:=
 if op=2 then bRZ q ls else if op=3 then cyQ q ls else if op=4 then czZ q ls else if op=5 then cxX q ls else if op=6 then clZ q ls else if op=7 then cqQ q ls else if op=8 then cqZ q ls else if op=9 then cxJ q ls else bNJ q ls
def Q5(op:Int)(q:Query)(ls:List cd):Prop:=
 if op=2 then cbZ 1 q ls else if op=3 then a7Z q ls else if op=4 then a8X q ls else if op=5 then a6J q ls else if op=6 then cbZ 2 q ls else if op=7 then T5 q ls else if op=8 then T5 q ls else if op=9 then a7Q q ls else VL q ls
mutual
def Bw(ls:List cd):Query->Nat->cd×Nat
 |.mk op ta w co on gr od li args,k=>if op=1 then(ls.getD k [],k+1)else(opF op (.mk op ta w co on gr od li args) (zD ls args k).1,(zD ls args k).2)
def zD(ls:List cd):ci->Nat->List cd×Nat
 |[],k=>([],k)
 |q::qs,k=>((Bw ls q k).1::(zD ls qs (Bw ls q k).2).1,(zD ls qs (Bw ls q k).2).2)
end
mutual
def okQ(ls:List cd):Query->Nat->Prop
 |.mk op ta w co on gr od li args,k=>if op=1 then k<ls.length else Q5 op (.mk op ta w co on gr od li args) (zD ls args k).1/\a7X ls args k
def a7X(ls:List cd):ci->Nat->Prop
 |[],_=>True
 |q::qs,k=>okQ ls q k/\a7X ls qs (Bw ls q k).2
end
def Leaves(h:PH)(s:Sl)(ls:List cd):Prop:=bY h 1 eS (λl t=>Rows h t l) s ls
def UT:Vc.Spec:=λc m h K=>∃s r,c=[cS s]/\cF h s r/\r.length<=1000/\∀d h',PH.le h h'->cF h' d r->K (cS d) m h'
def Wn(a:Addr)(n c:Nat)(m:MH)(h:PH)(K:bz):Prop:=
  ∃(y:List bx),j6 3 y (cD h (Sl.mk (Option.some a) n c) 3 y) (EW 0 y 32) (fC (0+y.length)) (bO h 3 (Fj y) (λs d=>K (fJ s) m d))
theorem csX(a:Addr)(n c:Nat)(m:MH)(h:PH)(K:bz):Wn a n c m h K=(uM (dA [] [] [] [] false) Tryz.f78 (bW Tryz.f78) (entry Tryz.f78.ntmps [.val (.slice (some a) n c)] m h) K):=bd
def RT(n c:Nat)(m:MH)(h:PH)(K:bz):Prop:=
  K j8 m h
theorem bVQ(n c:Nat)(m:MH)(h:PH)(K:bz):RT n c m h K=(uM (dA [] [] [] [] false) Tryz.f78 (bW Tryz.f78) (entry Tryz.f78.ntmps [.val (.slice none n c)] m h) K):=bd
theorem RU:bu 78 UT:=by
 refine dU (fn:=Tryz.f78) (c:=bW Tryz.f78) func78 rfl bg ?_;rintro z m h K ⟨⟨a,n,c⟩,r,rfl,f,G,g⟩;refine⟨dA [] [] [] [] false,rfl,aG,?_⟩;cases a with
 |none=>
  show uM _ Tryz.f78 (bW Tryz.f78) (entry Tryz.f78.ntmps [.val (.slice none n c)] m h) K;rw[<-bVQ n c m h K];dsimp only[RT,push_cast];refine g ⟨none,0,0⟩ h (.refl _) ?_;cases r with
  |nil=>exact⟨⟨[],cD.nil _ _,rfl,λi x A=>by simp at A⟩,bf⟩
  |cons x r=>
   obtain⟨b,o,v,e,_⟩:=bY.at f (i:=0) (x:=x) rfl;cases e
 |some a=>
  show uM _ Tryz.f78 (bW Tryz.f78) (entry Tryz.f78.ntmps [.val (.slice (some a) n c)] m h) K;rw[<-csX a n c m h K];dsimp only[Wn,push_cast];obtain⟨⟨j,B,C,D⟩,E⟩:=f;refine⟨j.map VV.enc,?_,B,bk,bk,λs h' le F=>g s h' le ⟨⟨j,bk,C,D⟩,E⟩⟩;constructor
  .intro e d;obtain⟨x,_,rfl⟩:=mem_map.1 d;rfl
  .intro e d u y;obtain⟨x,_,rfl⟩:=mem_map.1 d;simp[VV.enc]at y;rcases y with rfl|rfl|rfl<;>rfl
mutual
def B6(h:PH):Query->QV->Nat->dj->Prop
 |.mk _ _ _ _ _ _ _ _ args,v,d,f=>∃e c,cD h v.args 21 (e.map QV.enc)/\lO h args e (d+1) c/\f=(d,v)::c
def lO(h:PH):ci->db->Nat->dj->Prop
 |[],e,_,f=>e=[]/\f=[]
 |q::qs,e,d,f=>∃v c g j,e=v::c/\bU h q v/\B6 h q v d g/\lO h qs c d j/\f=g++j
end
def b8X(e:Nat×QV):bx:=[.int .i64 (e.1:Nat),.agg e.2.enc.toArray]
def UJ(N:Nat):Vc.Spec:=λc m h K=>∃(v:QV)(q:Query)(d l f:Nat)(g xs:dj)(J:Nat->MH->PH->Prop),c=[aQ v,cI d,.val (.func (.yield l) #[] #[])]/\B6 h q v d g/\SizeOf.sizeOf q<N/\d+sG q<=8000000/\(∀j e,g[j]? =some e->xs[f+j]? =some e)/\J f m h/\
 (∀k e m' h',xs[k]? =some e->PH.le h h'->J k m' h'->YDo Tryz.prog l (b8X e) m' h' (λr o n=>r=true/\PH.le h' n/\J (k+1) o n))/\
 ∀m' h',PH.le h h'->J (f+g.length) m' h'->K (cB true) m' h'
noncomputable def aTJ(N:Nat)(v:QV)(d l:Nat):Ctx:=
 {dA [(173,UJ N)] [(4,{A:=Nat×MH×PH,st:=λ⟨i,m,h⟩=>bQ 28 31 [(1,iv d),(2,vv (.func (.yield l) #[] #[])),(15,sv v.args),(16,iv v.args.len),(17,iv i)] [] m h})] [] [] false with yield:=some (cvZ Tryz.prog)}
def UI:PH->bx->List bx->Prop:=λh c xs=>∃b v q d,c=[.pointer (some ⟨b,0,none⟩)]/\bL h b 0 (QV.enc v)/\B6 h q v 1 d/\sG q<=900000/\xs=d.map b8X
def auQ:Vc.Spec:=λc m h K=>∃v,c=[aQ v]/\∀b h',PH.le h h'->bL h' b 0 (QV.enc v)->K (.val (.func (.func 172) #[] #[.pointer (some ⟨b,0,none⟩)])) m h'
noncomputable abbrev Db(a:CV)(b:bx):cz:=a::List.map CV.val b
noncomputable abbrev iW(a:Nat×MH×PH):Nat->Nat->Option Value:=a.2.2
noncomputable abbrev mT(a:Nat×MH×PH):Nat->Option Obj:=a.2.1
abbrev Kz(a:Nat->(Nat×QV)->Prop):Prop:=∀(x:Nat)(c:Nat×QV),a x c
abbrev Fg(a:dj)(b:Nat)(c:Nat×QV):Prop:=a[b]? =Option.some c
attribute [push_cast] Db iW mT Kz Fg
def P6(N:Nat)(v:QV)(d l:Nat)(m:MH)(h:PH)(K:bz):Prop:=
  I7 Proofs.Tryz.prog (cvZ Proofs.Tryz.prog)/\∃(D:Nat)(E:bx)(R:Bool->MH->PH->Prop),aA (iN (u9 l) (↑d:Int) (cN v)=Db (u9 D) E) (YDo Proofs.Tryz.prog D E m h R) (∀(u:Bool),gA (λz A=>iU (R u z A) (!u) (K aX z A) (∃(I:Nat×MH×PH->Prop)(F:Nat×MH×PH->Nat),(∃(x:Nat×MH×PH),aA (I x) (eQ (FP d)) (aA (Ka l) (aI v.args) (aA (qV v) (bB x.1) (aA (bH z x.2) (A=iW x) True))))/\∀(x:Nat×MH×PH),I x->aZ (↑x.1:Int) (aH v.args) (bJ (λb o=>aA (bM v.args.a b o) (0<=(↑x.1:Int)) ((↑x.1:Int)<aH v.args/\∃(y:QV),aU (mT x) (iW x) b (bK o x.1 21) y.enc/\mU (λG q=>bJ (λB H=>∃(k:Nat)(e L:dj)(J:Nat->MH->PH->Prop),aA (iN (cN y) (bE d 1) (u9 l)=
 iN (cN G) (↑B:Int) (u9 H)) (B6 (iW x) q G B e) (aA (vV q N) (B+sG q<=8000000) (aA (Kz (λj f=>Fg e j f->Fg L (k+j) f)) (J k (mT x) (iW x)) (Kz (λC f=>gA (λg c=>Fg L C f->PH.le (iW x) c->J C g c->YDo Proofs.Tryz.prog H (jK (eF (↑f.1:Int)) (Value.agg (Array.mk f.2.enc))) g c (fun(r:Bool)=>fun(O:MH)=>fun(M:PH)=>aA (fV r) (PH.le c M) (J (C+1) O M))))/\gA (λg c=>cC (iW x) c (J (k+e.length) g c) (∃(n:Nat×MH×PH),aA (I n) (F n<F x) (aA (eQ (FP d)) (Ka l) (aA (aI v.args) (bI v.args) (aA (bD (fZ (bE x.1 1)) n.1) (bH g n.2) (bN c (iW n))))))))))))))) (gK K (mT x) (iW x)))))
def Zm(N:Nat)(l z:Nat)(m:MH)(h:PH)(K:bz):Prop:=
  ∃(y:QV),aU m h z 0 y.enc/\mU (λv q=>bJ (λd o=>∃(k:Nat)(e x:dj)(J:Nat->MH->PH->Prop),aA (iN (cN y) 1 (u9 l)=iN (cN v) (↑d:Int) (u9 o)) (B6 h q v d e) (aA (vV q N) (d+sG q<=8000000) (aA (Kz (λj f=>Fg e j f->Fg x (k+j) f)) (J k m h) (Kz (λn f=>gA (λg c=>Fg x n f->PH.le h c->J n g c->YDo Proofs.Tryz.prog o (jK (eF (↑f.1:Int)) (Value.agg (Array.mk f.2.enc))) g c (fun(r:Bool)=>fun(A:MH)=>fun(u:PH)=>aA (fV r) (PH.le c u) (J (n+1) A u))))/\gA (λg c=>cC h c (J (k+e.length) g c) (xD K g c)))))))
mutual
theorem B6.mono{h h':PH}(le:PH.le h h'):∀{q:Query}{v:QV}{d:Nat}{es:dj},B6 h q v d es->B6 h' q v d es
 |.mk _ _ _ _ _ _ _ _ args,v,d,es,w=>by
  rw[B6]at w⊢
  obtain⟨e,c,f,g,j⟩:=w;exact⟨e,c,f.mono le,lO.mono le g,j⟩
theorem lO.mono{h h':PH}(le:PH.le h h'):∀{c:ci}{vs:db}{d:Nat}{es:dj},lO h c vs d es->lO h' c vs d es
 |[],vs,d,es,w=>by rw[lO]at w⊢;exact w
 |q::c,vs,d,es,w=>by
  rw[lO]at w⊢
  obtain⟨v,e,f,g,j,n,o,u,x⟩:=w;exact⟨v,e,f,g,j,n.mono le,B6.mono le o,lO.mono le u,x⟩
end
theorem lO.len{h:PH}:∀{c:ci}{vs:db}{d:Nat}{es:dj},lO h c vs d es->vs.length=c.length
 |[],vs,d,es,w=>by rw[lO]at w;grind
 |q::c,vs,d,es,w=>by
  rw[lO]at w;obtain⟨v,e,j,n,f,o,u,g,x⟩:=w;rw[f,length_cons,length_cons,lO.len g]
mutual
theorem B6.of{h:PH}:∀{q:Query}{v:QV},bU h q v->∀d,∃es,B6 h q v d es
 |.mk _ _ _ _ _ _ _ _ args,v,e,d=>by
  obtain⟨_,_,_,_,_,_,_,_,_,g,f,c⟩:=e;obtain⟨es,j⟩:=lO.of c (d+1);exact⟨(d,v)::es,by rw[B6];grind⟩
theorem lO.of{h:PH}:∀{c:ci}{vs:db},rD h c vs->∀d,∃es,lO h c vs d es
 |[],vs,e,d=>⟨[],by rw[lO];exact⟨e,rfl⟩⟩
 |q::c,vs,e,d=>by
  obtain⟨v,f,rfl,g,j⟩:=e;obtain⟨n,u⟩:=B6.of g d;obtain⟨o,x⟩:=lO.of j d;exact⟨n++o,by rw[lO];grind⟩
end
mutual
def qM:Query->ca
 |.mk op ta _ _ _ _ _ _ args=>(if op=1 then[ta]else[])++lT args
def lT:ci->ca
 |[]=>[]
 |q::qs=>qM q++lT qs
end
mutual
theorem B6.small{h:PH}:∀{q:Query}{v:QV}{d:Nat}{es:dj},B6 h q v d es->es.length<=sG q
 |.mk op ta _ _ _ _ _ _ args,v,d,es,w=>by
  rw[B6]at w;obtain⟨f,c,g,e,rfl⟩:=w;have:=lO.small e;simp only[length_cons,sG];omega
theorem lO.small{h:PH}:∀{c:ci}{vs:db}{d:Nat}{es:dj},lO h c vs d es->es.length<=lN c
 |[],vs,d,es,w=>by rw[lO]at w;grind
 |q::c,vs,d,es,w=>by
  rw[lO]at w;obtain⟨v,e,j,n,o,u,f,g,rfl⟩:=w;have x:=B6.small f;have y:=lO.small g;simp only[length_append,lN];omega
end
theorem b8Z:∀q:Query,1<=sG q
 |.mk _ _ _ _ _ _ _ _ _=>by rw[sG];omega
theorem alX:∀l:ci,l.length<=lN l
 |[]=>bf
 |a::l=>by have:=alX l;have:=b8Z a;simp only[length_cons,lN];omega
theorem atX:∀{l:ci}{a:Query},a∈l->sG a<=lN l
 |b::l,a,h=>by
  rw[lN];rcases mem_cons.1 h with rfl|h
  .omega
  .have:=atX h;omega
theorem SA:∀N,bu 173 (UJ N)
 |0=>by
  refine dU (fn:=Tryz.f173) (c:=bW Tryz.f173) func173 rfl bg ?_;rintro U m h K ⟨v,q,d,l,T,es,xs,J,rfl,_,hN,_⟩;omega
 |N+1=>by
  refine hU func173 ?_;rintro U m h K ⟨v,q,d,l,T,es,xs,J,rfl,hw,hN,hd,hx,h0,f,C⟩;refine⟨aTJ N v d l,rfl,aE (SA N) aG,P6 N v d l m h K,bd,?_⟩;dsimp only[P6,push_cast];obtain⟨op,ta,w,co,on,gr,od,li,args⟩:=q;rw[B6]at hw;obtain⟨D,E,y,F,rfl⟩:=hw;simp only[Query.mk.sizeOf_spec]at hN;rw[sG]at hd;have a':=F.len;have V:=y.len;have a0:=alX args;rw[length_map]at V;refine⟨XF _,l,b8X (d,v),_,rfl,f T (d,v) m h (hx 0 _ rfl) (.refl _) h0,?_⟩;rintro u m' h' ⟨rfl,G,hJ⟩;refine aC (λe=>by cases e) (λ_=>?_);refine⟨λz=>z.1<=args.length/\PH.le h z.2.2/\∃B W,E=B++W/\lO z.2.2 (args.drop z.1) (D.drop z.1) (d+1) W/\J (T+1+B.length) z.2.1 z.2.2,λz=>args.length-z.1,⟨(0,m',h'),⟨bf,G,[],E,rfl,F.mono G,hJ⟩,MT⟩,?_⟩;rintro⟨i,mz,hz⟩ ⟨hi,g,B,W,H,n,I⟩;dsimp only at hi g n I⊢
  refine aF (λa1=>?_) (λa2=>?_)
  .have A:i<args.length:=by omega
   rw[drop_eq_getElem_cons A,lO]at n;obtain⟨L,M,O,X,P,a3,Y,Q,rfl⟩:=n
   have a4:D[i]? =some L:=by
    have:(D.drop i)[0]? =some L:=by rw[P];rfl
    grind
   have R:M=D.drop (i+1):=by
    have:(D.drop i).drop 1=M:=by rw[P];rfl
    rw[<-this,drop_drop]
   obtain⟨b,o,ea,rd⟩:=y.get (i:=i) (e:=L.enc) bk;have a5:=sizeOf_lt_of_mem (getElem_mem A);have a6:=atX (getElem_mem A);refine⟨b,o,ea,aD,aD,L,.imm (rd.mono g),L,args[i],d+1,l,T+1+B.length,O,xs,J,by rw[jO aD],Y,aD,aD,λj e hj=>?_,I,λk e Z h2 hk x S=>f k e Z h2 hk (g.trans x) S,λZ h2 x S=>⟨(i+1,Z,h2),⟨aD,g.trans x,B++O,X,bk,?_,?_⟩,aD,?_⟩⟩
   .have h5:=(List.getElem?_eq_some_iff.1 hj).1
    have:=hx (1+B.length+j) e (by
     grind)
    grind
   .dsimp only;rw[<-R];exact Q.mono x
   .grind
   .dsimp only;rw[jO aD];exact MT
  .have:i=args.length:=by omega
   subst this;rw[drop_of_length_le (Nat.le_refl _),lO]at n;obtain⟨_,rfl⟩:=n;rw[append_nil]at H;subst H;exact C mz hz g bk
theorem WO:bu 172 (cgZ Tryz.prog UI):=by
 refine hU func172 ?_;rintro o m h K ⟨l,f,xs,J,rfl,⟨b,v,q,g,rfl,u,x,z,rfl⟩,y,c,d⟩;refine⟨dA [(173,UJ (SizeOf.sizeOf q+1))] [] [] [] false,rfl,aE (SA _) aG,Zm (SizeOf.sizeOf q+1) l b m h K,bd,?_⟩;exact⟨v,.imm u,v,q,1,l,0,g,g,J,rfl,x,aD,aD,λj e A=>bk,y,λk e m' h' B le n=>c k (b8X e) m' h' bk le n,λm' h' le n=>d _ m' h' le bk⟩
theorem bQZ:QN Tryz.prog 172 UI:=⟨WO⟩
theorem V7{f:FuncId}{fn:Func}(n:Tryz.prog.funcs[f]? =some fn){S:Vc.Spec}(j:∀c m h K,S c m h K->∃C:Ctx,C.P=Tryz.prog/\(∀g S,assoc C.specs g=some S->bu g S)/\∃N:Prop,N=uM C fn (bW fn) (entry fn.ntmps c m h) (fY h K)/\N)(o:fn.body=some (bW fn):=by rfl)(d:(fn.name== "runtime.NumGoroutine")=false:=by decide):bu f S:=aJX n o d λc m h K u=>let⟨C,hC,hs,N,e,hn⟩:=j c m h K u;⟨C,hC,hs,e▸hn⟩
theorem Yi:bu 97 auQ:=by
 refine V7 func97 ?_;rintro g m h K ⟨v,rfl,j⟩;refine⟨dA [] [] [] [] false,rfl,aG,PD v m h (fY h K),bd,?_⟩;dsimp only[PD,push_cast];intro b m' c d _;have sub:Sub m m':=(wP (Sub.refl m) c d).1;refine⟨m,LU h b (QV.enc v),sub,amZ c.h_,λn i o e=>?_,j b _ (amZ c.h_) bRQ⟩;by_cases f:n=b
 .subst f;simp only[LU,if_true]at e;exact .inr ⟨_,_,_,d.at_,bk,c.m_⟩
 .simp only[LU,if_neg f]at e;exact .inl e
structure GO(s:jE)(c:Nat)(ls:List cd)(k:Nat)(ts:ca):Prop where
 at_:∀(j:Nat)(t:Int),ts[j]? =some t->∃l,ls[k+j]? =some l/\iK (jR s t).length l/\l.length<=c
theorem GO.left{c k:Nat}{ls:List cd}{b:ca}(x:GO s c ls k (a++b)):GO s c ls k a:=
 ⟨λj t h=>x.at_ j t bk⟩
theorem GO.right{c k:Nat}{ls:List cd}{b:ca}(x:GO s c ls k (a++b)):GO s c ls (k+a.length) b:=
 ⟨λj t h=>by
  have:=x.at_ (a.length+j) t bk
  grind⟩
theorem xJ{op:Int}{w:Pred}{on:ce}{args:ci}{ks:ca}(h:aJ s ps (.mk op ta w co on gr od li args)=(ks,0)):
 ∃c,eX s ps args=(c,0)/\(c.length:Int)=arity op/\dY s ps (.mk op ta w co on gr od li args) (c.getD 0 []) (c.getD 1 [])=(ks,0):=by
 rw[aJ]at h;generalize eX s ps args=r at h;obtain⟨c,e⟩:=r;dsimp only at h;split at h
 .rename_i d;subst d;split at h
  .grind
  .simp[dV]at h
 .rename_i d;simp only[dV,Prod.mk.injEq]at h;omega
theorem pE{q:Query}{e:ci}{d:List ca}(h:eX s ps (q::e)=(d,0)):∃k c,aJ s ps q=(k,0)/\eX s ps e=(c,0)/\d=k::c:=by
 rw[eX]at h
 grind
theorem wH{ks:ca}(h:lL l=(ks,0)):ks=l/\l.length<=12:=by
 unfold lL at h
 grind
theorem Qp{op:Int}(h:arity op=0):op=1:=by
 unfold arity at h
 grind
mutual
theorem Xj{s:jE}{ps:ca}{c:Nat}(f:1<=c):∀{q:Query}{ks:ca},aJ s ps q=(ks,0)->1<=fS c q
 |.mk op ta w co on gr od li args,ks,h=>by
  obtain⟨j,d,g,o⟩:=xJ h;have e:=acQ f d;rw[fS];split
  .exact f
  .rename_i n;split
   .exact e.1
   .match args,d,e with
    |[],d,_=>rw[eX]at d;simp only[Prod.mk.injEq,and_true]at d;rw[<-d]at g;exact absurd (Qp g.symm) n
    |q::qs,d,e=>grind
theorem acQ{s:jE}{ps:ca}{c:Nat}(f:1<=c):∀{e:ci}{d:List ca},eX s ps e=(d,0)->1<=w8 c e/\(e≠[]->1<=vM c e)
 |[],d,h=>by simp[w8]
 |q::e,d,h=>by
  obtain⟨k,g,j,n,x⟩:=pE h;have o:=Xj f j;have u:=acQ f n;rw[w8,vM];exact⟨Nat.mul_pos o u.1,λ_=>by omega⟩
end
def TJ(c:Nat):ci->List ca->List cd->Prop
 |[],[],[]=>True
 |q::qs,k::ks,l::ls=>iK k.length l/\l.length<=fS c q/\TJ c qs ks ls
 |_,_,_=>False
theorem Uf{α:Type}:∀{l:List α},l.length=2->∃a b,l=[a,b]
 |[a,b],_=>⟨a,b,rfl⟩
theorem TJ.len{c:Nat}{d:ci}{ls:List cd}(h:TJ c d ks ls):d.length=ks.length/\ls.length=ks.length:=by
 induction d generalizing ks ls with
 |nil=>
  match ks,ls,h with
  |[],[],_=>omega
  |_::_,[],h=>exact h.elim
  |[],_::_,h=>exact h.elim
  |_::_,_::_,h=>exact h.elim
 |cons q d e=>
  match ks,ls,h with
  |[],[],h=>exact h.elim
  |_::_,[],h=>exact h.elim
  |[],_::_,h=>exact h.elim
  |k::ks,l::ls,h=>
   obtain⟨f,g⟩:=e h.2.2
   grind
theorem iK.filter{w:Nat}{l:cd}(x:iK w l)(p:cj->Bool):iK w (l.filter p):=
 ⟨λr h=>x.row r (mem_filter.1 h).1,λr h=>x.wid r (mem_filter.1 h).1,x.srt.filter p,Nat.le_trans (length_filter_le _ _) x.len⟩
theorem VY(x:cj):∀l:cd,(LS x l).length<=l.length+1
 |[]=>by simp[LS]
 |y::l=>by
  have:=VY x l;simp only[LS]
  grind
theorem Jr:∀l:cd,(Ef l).length<=l.length
 |[]=>by simp[Ef]
 |x::l=>by
  have c:=Jr l;have d:=VY x (Ef l);show(LS x (Ef l)).length<=(x::l).length
  grind
theorem iK.set{w:Nat}{l:cd}(c:∀r∈l,UP r)(d:∀r∈l,r.length=w)(e:l.length<=8000000):iK w (Ef l):=
 ⟨λr h=>c r (Jq.1 h),λr h=>d r (Jq.1 h),F5 l,Nat.le_trans (Jr l) e⟩
theorem Lc:∀{x y u v:cj},x.length=y.length->fQ (x++u) (y++v)=if fQ x y≠0 then fQ x y else fQ u v
 |[],[],u,v,_=>by simp[fQ]
 |a::x,b::y,u,v,h=>by
  simp only[length_cons,Nat.add_right_cancel_iff]at h;simp only[cons_append,fQ];by_cases e:nP a b=0
  .simp only[e,ne_eq,not_true_eq_false,if_false];exact Lc h
  .simp[e]
 |[],_::_,_,_,h=>by simp at h
 |_::_,[],_,_,h=>by simp at h
theorem Dj{on:ce}{b:cd}{x z:cj}(h:z∈qI on b x):∃y∈b,z=x++y:=by
 unfold qI at h
 grind
theorem iK.join{w w':Nat}{a b:cd}{on:ce}(d:iK w a)(g:iK w' b)(A:w+w'<=12)(j:a.length*b.length<=8000000):iK (w+w') (a.flatMap (qI on b)):=by
 refine⟨λr h=>?_,λr h=>?_,?_,Nat.le_trans (A0 λx _=>Dk) j⟩
 .obtain⟨x,c,h⟩:=mem_flatMap.1 h;obtain⟨y,e,rfl⟩:=Dj h;have B:=d.wid x c;have C:=g.wid y e;refine⟨bk,λv f=>?_⟩;rcases mem_append.1 f with f|f
  .exact(d.row x c).val v f
  .exact(g.row y e).val v f
 .obtain⟨x,c,h⟩:=mem_flatMap.1 h;obtain⟨y,e,rfl⟩:=Dj h;rw[length_append,d.wid x c,g.wid y e]
 .refine pairwise_flatMap.2 ⟨λx c=>?_,?_⟩
  .unfold qI;split
   .refine pairwise_map.2 ((g.srt.filter _).imp fun{y z} h=>?_);rw[Lc rfl,if_neg (by rw[nB.2 rfl];simp)];exact h
   .exact List.Pairwise.nil
  .refine d.srt.imp_of_mem fun{x y} c e h z n u o=>?_;obtain⟨D,_,rfl⟩:=Dj n;obtain⟨E,_,rfl⟩:=Dj o;rw[Lc (by rw[d.wid x c,d.wid y e]),if_pos aD];exact h
theorem Ui{c:Int}(h:B9 a c=true):0<=c/\c<a.length:=by
 simp only[B9,Bool.and_eq_true,decide_eq_true_eq]at h;exact h
theorem KJ{α:Type}{T:List α->α->Prop}{l:List α}(h:Good T l){x:α}(d:x∈l):∃c,T c x:=by
 obtain⟨i,f,e⟩:=mem_iff_getElem.1 d;exact⟨_,h i x bk⟩
theorem JE:∀(n:Nat)(l:ca),l.Nodup->(∀x∈l,0<=x/\x<n)->l.length<=n
 |0,[],_,_=>bf
 |0,x::l,_,h=>by have:=h x (mem_cons_self ..);omega
 |n+1,l,c,h=>by
  by_cases e:(n:Int)∈l
  .have f:=JE n (l.erase n) (c.erase _) (λx d=>by
    grind)
   grind
  .have:=JE n l c (λx d=>by
    grind)
   omega
theorem Py{α:Type}{T:List α->α->Prop}{l:List α}(f:α->Int)(d:∀c x,T c x->f x∉c.map f)(h:Good T l):(l.map f).Nodup:=by
 rw[nodup_iff_pairwise_ne,pairwise_map,pairwise_iff_getElem];intro i j o g n e;refine d _ _ (h j l[j] (getElem?_eq_getElem g)) (mem_map.2 ⟨l[i],?_,e⟩);rw[mem_take_iff_getElem]
 grind
theorem Px(h:Good (FE a) gr)(j:a.length<=12):jU a.length gr:=by
 have f:∀c∈gr,0<=c/\c<a.length:=λc g=>by obtain⟨_,d⟩:=KJ h g;exact Ui d.1
 have d:=Py id (λe x(h:FE a e x)=>bt h.2) h;rw[map_id]at d;exact⟨f,by have:=JE _ _ d f;omega⟩
theorem Rw{b:ca}{on:ce}(h:Good (lX a b) on)(B:a.length<=12)(C:b.length<=12):jU a.length (pD on)/\jU b.length (jF on):=by
 have n:∀c∈pD on,0<=c/\c<a.length:=λc f=>by
  obtain⟨p,g,rfl⟩:=mem_map.1 f;obtain⟨_,d⟩:=KJ h g;exact Ui d.1
 have d:∀c∈jF on,0<=c/\c<b.length:=λc f=>by
  obtain⟨p,g,rfl⟩:=mem_map.1 f;obtain⟨_,d⟩:=KJ h g;exact Ui d.2.1
 have o:(pD on).Nodup:=Py Prod.fst (λj x(h:lX a b j x) u=>by
  obtain⟨y,z,e⟩:=mem_map.1 u;exact(h.2.2.2 y z).1 e) h
 have A:=JE _ _ o n;exact⟨⟨n,aD⟩,⟨d,by simp only[pD,jF,length_map]at A⊢;omega⟩⟩
theorem VB{w:Nat}{r:cj}(c:UP r)(e:r.length=w)(f:jU w co)(d:co.length<=12):UP (pick r co)/\(pick r co).length=co.length:=
 ⟨⟨by simpa[pick]using d,JB c bk⟩,by simp[pick]⟩
theorem Jl{c:Nat}{q p:Query}:vM c [q,p]=fS c q+fS c p:=by simp[vM]
theorem TU{c:Nat}{q:Query}:vM c [q]=fS c q:=by simp[vM]
theorem a4X{c:Nat}{q p:Query}:w8 c [q,p]=fS c q*fS c p:=by simp[w8]
theorem bPQ{c:Nat}{op:Int}{w:Pred}{on:ce}{args:ci}{ks:ca}{u:List ca}{L:List cd}(P:op≠1)
 (O:(u.length:Int)=arity op)(G:∀k∈u,k.length<=12)(f:dY s ps (.mk op ta w co on gr od li args) (u.getD 0 []) (u.getD 1 [])=(ks,0))(E:TJ c args u L)(n:fS c (.mk op ta w co on gr od li args)<=8000000):
 Q5 op (.mk op ta w co on gr od li args) L/\iK ks.length (opF op (.mk op ta w co on gr od li args) L)/\(opF op (.mk op ta w co on gr od li args) L).length<=fS c (.mk op ta w co on gr od li args):=by
 rw[fS,if_neg P]at n⊢
 unfold dY at f;dsimp only at f;split at f
 .simp[dV]at f
 have one:arity op=1->∃q k l,args=[q]/\u=[k]/\L=[l]/\iK k.length l/\l.length<=fS c q/\k.length<=12:=λe=>by
  obtain⟨Q,R⟩:=E.len;obtain⟨k,rfl⟩:=length_eq_one_iff.1 (show u.length=1 by omega);obtain⟨q,rfl⟩:=length_eq_one_iff.1 (show args.length=1 by omega);obtain⟨l,rfl⟩:=length_eq_one_iff.1 (show L.length=1 by omega);exact⟨q,k,l,rfl,rfl,rfl,E.1,E.2.1,G k bf⟩
 have two:arity op=2->∃q p k y l B,args=[q,p]/\u=[k,y]/\L=[l,B]/\iK k.length l/\l.length<=fS c q/\iK y.length B/\B.length<=fS c p/\k.length<=12/\y.length<=12:=λe=>by
  obtain⟨Q,R⟩:=E.len;obtain⟨k,y,rfl⟩:=Uf (show u.length=2 by omega);obtain⟨q,p,rfl⟩:=Uf (show args.length=2 by omega);obtain⟨l,B,rfl⟩:=Uf (show L.length=2 by omega);exact⟨q,p,k,y,l,B,rfl,rfl,rfl,E.1,E.2.1,E.2.2.1,E.2.2.2.1,G k bf,G y bf⟩
 have S:op=2\/op=3\/op=9\/op=4\/op=5\/op=6\/op=7\/op=8\/op=10:=by
  have:0<=arity op:=by omega
  unfold arity at this
  grind
 rcases S with rfl|rfl|rfl|rfl|rfl|rfl|rfl|rfl|rfl
 .obtain⟨q,k,l,rfl,rfl,rfl,j,F,C⟩:=one rfl;simp only[show((2:Int)=4)=False by decide,if_false,if_true]at f n⊢
  split at f
  .obtain⟨rfl,_⟩:=wH f;refine⟨⟨bf,λx z=>bk⟩,j.filter _,Nat.le_trans (length_filter_le _ _) ?_⟩;rw[TU];exact F
  .rename_i e;simp only[dV,Prod.mk.injEq]at f;omega
 .obtain⟨q,k,l,rfl,rfl,rfl,j,F,C⟩:=one rfl;simp only[show((3:Int)=4)=False by decide,show((3:Int)=2)=False by decide,if_false,if_true]at f n⊢
  split at f
  .rename_i g;obtain⟨rfl,d⟩:=wH f;rw[length_map]at d⊢
   have A:jU k.length co:=⟨λc A=>by obtain⟨_,O⟩:=KJ g.2 A;exact Ui O,aD⟩
   rw[TU]at n⊢
   refine⟨⟨bf,d,_,j,A⟩,iK.set (λr h=>?_) (λr h=>?_) bk,Nat.le_trans (Jr _) bk⟩
   .obtain⟨x,z,rfl⟩:=mem_map.1 h;exact(VB (j.row x z) (j.wid x z) A d).1
   .obtain⟨x,z,rfl⟩:=mem_map.1 h;exact(VB (j.row x z) (j.wid x z) A d).2
  .simp[dV]at f
 .obtain⟨q,k,l,rfl,rfl,rfl,j,F,C⟩:=one rfl;simp only[show((9:Int)=4)=False by decide,show((9:Int)=2)=False by decide,show((9:Int)=3)=False by decide,show((9:Int)=5)=False by decide,if_false,if_true]at f n⊢
  split at f
  .rename_i g;obtain⟨rfl,d⟩:=wH f;rw[TU]at n⊢
   exact⟨⟨bf,⟨_,j,Px g.group_ C⟩,g.low⟩,j.filter _,Nat.le_trans (length_filter_le _ _) F⟩
  .simp[dV]at f
 .obtain⟨q,p,k,y,l,B,rfl,rfl,rfl,j,F,o,H,C,D⟩:=two rfl;simp only[show((4:Int)=2)=False by decide,show((4:Int)=3)=False by decide,if_false,if_true]at f n⊢
  split at f
  .rename_i g;obtain⟨rfl,d⟩:=wH f;rw[a4X]at n⊢
   have A:=Rw g C D;have J:l.length*B.length<=fS c q*fS c p:=Nat.mul_le_mul F H;rw[length_append]at d⊢
   exact⟨⟨⟨bf,_,_,j,o,A.1,A.2⟩,Nat.le_trans J n⟩,j.join o d (Nat.le_trans J n),Nat.le_trans (A0 λx _=>Dk) J⟩
  .simp[dV]at f
 .obtain⟨q,p,k,y,l,B,rfl,rfl,rfl,j,F,o,H,C,D⟩:=two rfl;simp only[show((5:Int)=2)=False by decide,show((5:Int)=3)=False by decide,show((5:Int)=4)=False by decide,if_false,if_true]at f n⊢
  split at f
  .rename_i g;obtain⟨rfl,d⟩:=wH f;rw[Jl]at n⊢
   have A:=Rw g C D;exact⟨⟨bf,_,_,j,o,A.1,A.2⟩,j.filter _,Nat.le_trans (length_filter_le _ _) bk⟩
  .simp[dV]at f
 all_goals
  obtain⟨q,p,k,y,l,B,rfl,rfl,rfl,j,F,o,H,C,D⟩:=two rfl
 .simp only[show((6:Int)=2)=False by decide,show((6:Int)=3)=False by decide,show((6:Int)=4)=False by decide,show((6:Int)=5)=False by decide,show((6:Int)=9)=False by decide,show((6:Int)=10)=False by decide,if_false,if_true]at f n⊢
  split at f
  .rename_i g;have g:k=y:=g;subst g;obtain⟨rfl,d⟩:=wH f;rw[Jl]at n⊢
   have I:(l++B).length<=fS c q+fS c p:=bk
   refine⟨⟨bf,λx z=>bk⟩,iK.set (λr h=>?_) (λr h=>?_) (Nat.le_trans I n),Nat.le_trans (Jr _) I⟩
   .rcases mem_append.1 h with h|h
    .exact j.row r h
    .exact o.row r h
   .rcases mem_append.1 h with h|h
    .exact j.wid r h
    .exact o.wid r h
  .simp[dV]at f
 .simp only[show((7:Int)=2)=False by decide,show((7:Int)=3)=False by decide,show((7:Int)=4)=False by decide,show((7:Int)=5)=False by decide,show((7:Int)=9)=False by decide,show((7:Int)=10)=False by decide,if_false,if_true]at f n⊢
  split at f
  .rename_i g;have g:k=y:=g;subst g;obtain⟨rfl,d⟩:=wH f;rw[Jl]at n⊢
   exact⟨⟨bf,_,λx z=>by simp at z;rcases z with rfl|rfl;exact j;exact o⟩,j.filter _,Nat.le_trans (length_filter_le _ _) bk⟩
  .simp[dV]at f
 .simp only[show((8:Int)=2)=False by decide,show((8:Int)=3)=False by decide,show((8:Int)=4)=False by decide,show((8:Int)=5)=False by decide,show((8:Int)=9)=False by decide,show((8:Int)=10)=False by decide,if_false,if_true]at f n⊢
  split at f
  .rename_i g;have g:k=y:=g;subst g;obtain⟨rfl,d⟩:=wH f;rw[Jl]at n⊢
   exact⟨⟨bf,_,λx z=>by simp at z;rcases z with rfl|rfl;exact j;exact o⟩,j.filter _,Nat.le_trans (length_filter_le _ _) bk⟩
  .simp[dV]at f
 .simp only[show((10:Int)=2)=False by decide,show((10:Int)=3)=False by decide,show((10:Int)=4)=False by decide,show((10:Int)=5)=False by decide,show((10:Int)=9)=False by decide,if_false,if_true]at f n⊢
  split at f
  .rename_i g;obtain⟨g,M⟩:=g;have g:k=y:=g;subst g;obtain⟨rfl,d⟩:=wH f;rw[Jl]at n⊢
   exact⟨⟨bf,_,j,o,Px M.group_ C⟩,j.filter _,Nat.le_trans (length_filter_le _ _) bk⟩
  .simp[dV]at f
theorem Lf{s:jE}{ps:ca}{c:Nat}(g:1<=c):∀{d:ci}{e:List ca},eX s ps d=(e,0)->∀q∈d,fS c q<=vM c d/\fS c q<=w8 c d
 |[],_,_,q,f=>by simp at f
 |p::d,e,h,q,f=>by
  obtain⟨k,j,o,n,y⟩:=pE h;have u:=Xj g o;have x:=(acQ g n).1;rw[vM,w8];rcases mem_cons.1 f with rfl|f
  .exact⟨aD,Nat.le_mul_of_pos_right _ x⟩
  .have:=Lf g n q f;exact⟨aD,Nat.le_trans this.2 (Nat.le_mul_of_pos_left _ u)⟩
theorem Pr{s:jE}{ps:ca}:∀{e:ci}{c:List ca},eX s ps e=(c,0)->∀k∈c,k.length<=12
 |[],c,h,k,d=>by rw[eX]at h;grind
 |q::e,c,h,k,d=>by
  obtain⟨j,f,n,g,rfl⟩:=pE h;rcases mem_cons.1 d with rfl|d
  .have:=kN s ps q;grind
  .exact Pr g k d
structure cIX(c:Nat)(ls:List cd)(q:Query)(k:Nat)(ks:ca):Prop where
 ok:okQ ls q k
 rel:iK ks.length (Bw ls q k).1
 bnd:(Bw ls q k).1.length<=fS c q
 nxt:(Bw ls q k).2=k+(qM q).length
mutual
theorem W3{s:jE}{ps:ca}{c:Nat}{ls:List cd}(o:1<=c):∀{q:Query}{ks:ca}{k:Nat},aJ s ps q=(ks,0)->GO s c ls k (qM q)->fS c q<=8000000->cIX c ls q k ks
 |.mk op ta w co on gr od li args,ks,k,h,f,u=>by
  obtain⟨A,g,x,d⟩:=xJ h;by_cases e:op=1
  .subst e
   have B:args=[]:=by
    cases args with
    |nil=>rfl
    |cons q F=>obtain⟨_,_,_,_,rfl⟩:=pE g;simp[arity]at x;omega
   subst B;have j:qM (.mk 1 ta w co on gr od li [])=[ta]:=by simp[qM,lT]
   unfold dY at d;dsimp only at d;split at d
   .simp[dV]at d
   try rw[if_pos rfl]at d
   split at d
   .obtain⟨rfl,_⟩:=wH d;rw[j]at f;obtain⟨l,y,G,C⟩:=f.at_ 0 ta rfl;rw[Nat.add_zero]at y;have z:(Bw ls (.mk 1 ta w co on gr od li []) k)=(l,k+1):=by rw[Bw,if_pos rfl,getD_eq_getElem?_getD,y];rfl
    refine⟨by rw[okQ,if_pos rfl];grind,bk,by rw[z,fS,if_pos rfl];exact C,bk⟩
   .simp[dV]at d
  .have j:qM (.mk op ta w co on gr od li args)=lT args:=by simp[qM,e]
   rw[j]at f
   have n:∀q∈args,fS c q<=8000000:=λq D=>by
    have H:=Lf o g q D;rw[fS,if_neg e]at u
    grind
   obtain⟨I,E,J⟩:=Tl o g f n;obtain⟨L,M,O⟩:=bPQ e x (Pr g) d E u;have z:Bw ls (.mk op ta w co on gr od li args) k=(opF op (.mk op ta w co on gr od li args) (zD ls args k).1,(zD ls args k).2):=by rw[Bw,if_neg e]
   exact⟨by rw[okQ,if_neg e];grind,bk,bk,bk⟩
theorem Tl{s:jE}{ps:ca}{c:Nat}{ls:List cd}(n:1<=c):∀{d:ci}{e:List ca}{k:Nat},eX s ps d=(e,0)->GO s c ls k (lT d)->(∀q∈d,fS c q<=8000000)->a7X ls d k/\TJ c d e (zD ls d k).1/\(zD ls d k).2=k+(lT d).length
 |[],e,k,h,_,_=>by
  rw[eX]at h;simp only[Prod.mk.injEq,and_true]at h;subst h;simp[a7X,zD,TJ,lT]
 |q::d,e,k,h,j,o=>by
  obtain⟨A,u,x,y,rfl⟩:=pE h;rw[lT]at j;have f:=W3 n x j.left (o q (mem_cons_self ..));have g:=Tl n y j.right (λp z=>o p (mem_cons_of_mem _ z));rw[<-f.nxt]at g;rw[a7X,zD,lT];refine⟨⟨f.ok,g.1⟩,⟨f.rel,f.bnd,g.2.1⟩,?_⟩;rw[g.2.2,f.nxt,length_append];omega
end
structure Bq(m:MH)(tb:Nat)(ws:List cK):Prop where
 ex:∃cur:Array Value,m tb=some (.cells cur 87 (0,0))/\cur.toList.take (ws.length*5)=(ws.map cK.enc).flatten
def ayQ:Vc.Spec:=λd m h K=>∃e g n f j w c,∃t:Nat,d=[aS ⟨e,⟨some ⟨g,0,none⟩,n,f⟩⟩,cI t]/\t<n/\Bq m g j/\j[t]? =some w/\FW h w.columns c/\c.length<=8/\
 ∀o h',PH.le h h'->Ints h' o (c.map rF.kind)->K (cS o) m h'
noncomputable def bZQ(cb:Nat):Ctx:=
 sN [(12,Ic),(13,QX),(92,azZ),(46,ayQ),(44,FC)] [] [(5,{A:=Int×Int×MH×PH,st:=λ⟨n,id,m,h⟩=>bQ 86 87 [(0,pv cb),(2,.at (.ptr 2 0)),(3,iv n),(4,iv id)] [(2,.cells 43 [.val (.int .i64 0),.val (.slice none 0 0)])] m h}),
  (9,{A:=Int×cE×MH×PH,st:=λ⟨n,s,m,h⟩=>bQ 86 87 [(0,pv cb),(2,.at (.ptr 2 0)),(3,iv n),(5,.at (.ptr 5 0))] [(2,.cells 43 [.val (.int .i64 0),.val (.slice none 0 0)]),(5,.cells 43 (s.enc.map .val))] m h}),
  (11,{A:=Int×cE×MH×PH,st:=λ⟨n,s,m,h⟩=>bQ 86 87 [(0,pv cb),(2,.at (.ptr 2 0)),(3,iv n),(5,.at (.ptr 5 0))] [(2,.cells 43 [.val (.int .i64 0),.val (.slice none 0 0)]),(5,.cells 43 (s.enc.map .val))] m h}),
  (13,{A:=cE×MH×PH,st:=λ⟨s,m,h⟩=>bQ 86 87 [(0,pv cb),(2,.at (.ptr 2 0)),(5,.at (.ptr 5 0))] [(2,.cells 43 [.val (.int .i64 0),.val (.slice none 0 0)]),(5,.cells 43 (s.enc.map .val))] m h}),
  (15,{A:=cE×MH×PH,st:=λ⟨s,m,h⟩=>bQ 86 87 [(2,.at (.ptr 2 0)),(5,.at (.ptr 5 0))] [(2,.cells 43 [.val (.int .i64 0),.val (.slice none 0 0)]),(5,.cells 43 (s.enc.map .val))] m h})] [] [41] [] false
def xN(id:Int):List Dr:=
 [⟨⟨⟨[112,114,111,106,101,99,116,115]⟩⟩,[⟨⟨⟨[105,100]⟩⟩,4⟩,⟨⟨⟨[111,119,110,101,114]⟩⟩,4⟩],1,[],[]⟩,
  ⟨⟨⟨[116,97,115,107,115]⟩⟩,[⟨⟨⟨[105,100]⟩⟩,id⟩,⟨⟨⟨[112,114,111,106,101,99,116]⟩⟩,4⟩,⟨⟨⟨[116,105,116,108,101]⟩⟩,5⟩,⟨⟨⟨[100,111,110,101]⟩⟩,3⟩],1,[],[]⟩,
  ⟨⟨⟨[109,101,109,98,101,114,115]⟩⟩,[⟨⟨⟨[112,114,111,106,101,99,116]⟩⟩,4⟩,⟨⟨⟨[112,101,114,115,111,110]⟩⟩,4⟩],2,[],[]⟩,
  ⟨⟨⟨[97,114,99,104,105,118,101,100]⟩⟩,[⟨⟨⟨[116,97,115,107]⟩⟩,id⟩],1,[],[]⟩]
structure Ow(h:PH)(t:Dr)(w:cK):Prop where
 name_:w.name=t.name
 key_:w.key=t.key
 cols_:FW h w.columns t.columns
def acZ(h:PH)(id:Int)(ws:List cK):Prop:=ws.length=4/\∀(i:Nat) t,(xN id)[i]? =some t->∃w,ws[i]? =some w/\Ow h t w
structure Ds(m0:MH)(h0:PH)(cb:Nat)(tb n:Nat)(id:Int)(ws:List cK)(s:cE)(m:MH)(h:PH):Prop where
 le_:PH.le h0 h
 ver0:0<=s.version
 ver1:s.version<=2
 case_:aL m h cb
 n2:2<=n
 n4:n<=4
 sl_:∃cap,s.tables=⟨some ⟨tb,0,none⟩,n,cap⟩/\n<=cap
 id_:id=4\/id=5
 new_:m0 tb=none
 ne_:tb≠cb
 row_:Bq m tb ws
 ws_:acZ h id ws
 other_:∀b,b≠cb->b≠tb->m b=m0 b
def avX:Vc.Spec:=λc m h K=>∃cb,c=[cP cb]/\aL m h cb/\∀d n id e s m' h',Ds m h cb d n id e s m' h'->K (aS s) m' h'
noncomputable def crX:Ctx:=
 sN [(39,avX)] [(3,{A:=Nat×cE×MH×PH,st:=λ⟨i,s,m,h⟩=>bQ 25 26 [(2,.at (.ptr 2 0)),(3,.at (.ptr 3 0)),(9,iv s.tables.len),(10,iv i)] [(2,.cells 43 [.val (.int .i64 0),.val (.slice none 0 0)]),(3,.cells 43 (s.enc.map .val))] m h})] [] [] [41] [] false
def L3(v:cE)(t:Int)(m:MH)(h:PH)(K:bz):Prop:=
  aZ t 0 (K j8 m h) (gM t (mD v) (K j8 m h) (N5 v t m h (λb=>b) (λo=>o) 1 (λy=>y) (λy I x=>aA (I x) (eL 32) (aA (bS y (oI x)) (cG y (oI x)) (aA (bB x.1) (tL (cZ x.2.2)) (aA (m=m) (h=h) True)))) (λI d x=>N4 (I x) x 0 (λb o y=>aU m h b (bK o x.1 2) (rX y.name y.kind)) (λy c=>aA (I c) (d c<d x) (aA (eL 32) (bS (oI x) (oI c)) (aA (cG (oI x) (oI c)) (bD (fZ (bE x.1 1)) c.1) (aA (jV (eN (cZ x.2.2) (bG y.kind)) c.2.2) (m=m) (bN h h))))) (bO h 1 (cZ x.2.2) (λs e=>K (fJ s) m e)))))
theorem bXJ(v:cE)(t:Int)(m:MH)(h:PH)(K:bz):L3 v t m h K=(uM (Ut m h) Tryz.f46 (bW Tryz.f46) (entry Tryz.f46.ntmps [aS v,cI t] m h) K):=bd
noncomputable abbrev Dz:cw:=lV fD FU
abbrev yT:Prop:=eQ (oQ 43 Dz)
abbrev BJ(a:ByteArray)(b:Int)(c:ByteArray)(d:Int->Int)(e:Int->ByteArray->Prop):Prop:=∃(x:Int),aW (kL a) b=aW (kL c) (d x)/\∃(f:ByteArray),e x f
noncomputable abbrev Kk:ByteArray:=ByteArray.mk (Array.mk (fE 105 (fE 100 [])))
noncomputable abbrev J1:ByteArray:=ByteArray.mk (Array.mk (fE 112 (fE 114 (fE 111 (fE 106 (fE 101 (fE 99 (xE 116))))))))
noncomputable abbrev Ob(a:Nat)(b:cu):ByteArray:=ByteArray.mk (Array.mk (fE 116 (fE a (fE 115 (fE 107 b)))))
noncomputable abbrev lB(a:cE×MH×PH):Nat->Nat->Option Value:=a.2.2
abbrev G8(a:Int×cE×MH×PH->Prop)(b:Nat)(c:Int)(d:(Int×cE×MH×PH)->Prop)(e:Nat->Option Obj)(g:Nat->Nat->Option Value):Prop:=∃(x:Int×cE×MH×PH),aA (a x) (cR b) (aA dQ (dW c x.1) (aA dR yT (aA (d x) (bH e x.2.2) (bN g (lB x.2)))))
noncomputable abbrev yH(a:Int×cE×MH×PH):cE:=a.2.1
abbrev u0(a b:cE):Prop:=oQ 43 (LK a)=oQ 43 (LK b)
attribute [push_cast] Dz yT BJ Kk J1 Ob lB G8 yH u0
def Wy(cb:Nat)(m:MH)(h:PH)(K:bz):Prop:=
  iZ cb 3 m h (λk Z=>∃(I:Int×Int×MH×PH->Prop),oV cb 5 Z h (λc=>c) (λc r=>∀(G:MH),bF Z G c->aL G h c->branch r (∃(x:Int×Int×MH×PH),aA (I x) (cR cb) (aA dQ (dW (fH (2+k)) x.1) (aA (dW 5 x.2.1) yT (aA (bH G x.2.2) (h=x.2.2.2) True)))) (∃(x:Int×Int×MH×PH),aA (I x) (cR cb) (aA dQ (dW (fH (2+k)) x.1) (aA (dW 4 x.2.1) yT (aA (bH G x.2.2) (h=x.2.2.2) True)))))/\∀(x:Int×Int×MH×PH),I x->iZ cb 3 x.2.2.1 x.2.2.2 (λk1 G=>∃(n:ByteArray),BJ Kk 4 n (λL=>L) (λL n1=>BJ (ByteArray.mk (Array.mk (fE 111 (fE 119 (fE 110 (fE 101 (xE 114))))))) 4 n1 (λM=>M) (λM n2=>BJ Kk x.2.1 n2 (λO=>O) (λO n3=>BJ J1 4 n3 (λP=>P) (λP n4=>
 BJ (ByteArray.mk (Array.mk (fE 116 (fE 105 (fE 116 (fE 108 (xE 101))))))) 5 n4 (λQ=>Q) (λQ n5=>BJ (ByteArray.mk (Array.mk (fE 100 (fE 111 (fE 110 (fE 101 [])))))) 3 n5 (λR=>R) (λR n6=>BJ J1 4 n6 (λS=>S) (λS n7=>BJ (ByteArray.mk (Array.mk (fE 112 (fE 101 (fE 114 (fE 115 (fE 111 (fE 110 [])))))))) 4 n7 (λT=>T) (λT n8=>∃(a:Int),aW (kL (Ob 97 [])) x.2.1=aW (kL n8) a/\bO x.2.2.2 2 (j4 (rX n L) (rX n1 M)) (λs h1=>bO h1 2 (rX n2 O::rX n3 P::j4 (rX n4 Q) (rX n5 R)) (λs1 h2=>bO h2 2 (j4 (rX n6 S) (rX n7 T)) (λs2 h3=>bO h3 2 (kP (rX n8 a)) (λs3 H=>lD (λF U=>rE G U H F 87 5 (aM (Value.string (ByteArray.mk (Array.mk (fE 112 (fE
 114 (fE 111 (fE 106 (fE 101 (fE 99 (fE 116 (fE 115 []))))))))))) (fK s) (aM (eF 1) lF iS)::aM (Value.string (Ob 97 (xE 115))) (fK s1) (aM (eF 1) lF iS)::j4 (aM (Value.string (ByteArray.mk (Array.mk (fE 109 (fE 101 (fE 109 (fE 98 (fE 101 (fE 114 (xE 115)))))))))) (fK s2) (aM (eF 2) lF iS)) (aM (Value.string (ByteArray.mk (Array.mk (fE 97 (fE 114 (fE 99 (fE 104 (fE 105 (fE 118 (fE 101 (fE 100 []))))))))))) (fK s3) (aM (eF 1) lF iS)))->aA (bZ x.1) (x.1<=(↑F.cap:Int)) (∃(I1:Int×cE×MH×PH->Prop),oV cb 2 U H (λc=>c) (λc r=>∀(f:MH),bF U f c->aL f H c->branch r (bO H 1 (kP (bG 1)) (λB A=>bJ (λb o=>aA (bM F.a b o) ((0:Int)<=1) (1<(↑x.1.toNat:Int)/\bO A 2 (kP
 (jK (fK B) dE)) (λC D=>wD (λy E=>aA (Ib f b (oU y E 0)) (o+5+3<y.size) (∀(z:MH),eA f z b (w9 y (o+5+3) (bA C)) E->G8 I1 cb x.1 (λg=>oQ 43 (lV (gC k1) (At.val (Value.slice F.a x.1.toNat F.cap)))=oQ 43 (LK (yH g))) z D))))))) (G8 I1 cb x.1 (λg=>oQ 43 (lV (gC k1) (At.val (Value.slice F.a x.1.toNat F.cap)))=oQ 43 (LK (yH g))) f H))/\∀(g:Int×cE×MH×PH),I1 g->∃(I2:Int×cE×MH×PH->Prop),fA g.1 2 (oV cb 3 g.2.2.1 (lB g.2) (λc=>c) (λc r=>∀(f:MH),bF g.2.2.1 f c->aL f (lB g.2) c->branch r (bO (lB g.2) 1 (kP BM) (λB A=>G0 (yH g) 2 (λb o=>bO A 2 (kP (jK (fK B) dE)) (λC D=>wD (λy E=>aA (Ib f b (oU y E 0)) (o+10+3<
 y.size) (∀(z:MH),eA f z b (w9 y (o+10+3) (bA C)) E->G8 I2 cb g.1 (λj=>u0 (yH g) (yH j)) z D)))))) (G8 I2 cb g.1 (λj=>u0 (yH g) (yH j)) f (lB g.2)))) (G8 I2 cb g.1 (λj=>u0 (yH g) (yH j)) g.2.2.1 (lB g.2))/\∀(j:Int×cE×MH×PH),I2 j->∃(I3:cE×MH×PH->Prop),fA j.1 3 (oV cb 3 j.2.2.1 (lB j.2) (λc=>c) (λc r=>∀(f:MH),bF j.2.2.1 f c->aL f (lB j.2) c->branch r (bO (lB j.2) 1 (kP BM) (λB A=>G0 (yH j) 3 (λb o=>bO A 2 (kP (jK (fK B) (eF 1))) (λC D=>wD (λy E=>aA (Ib f b (oU y E 0)) (o+15+3<y.size) (∀(z:MH),eA f z b (w9 y (o+15+3) (bA C)) E->∃(e:cE×MH×PH),aA (I3 e) (cR cb) (aA
 dQ dR (aA yT (u0 (yH j) e.1) (aA (bH z e.2) (D=lB e) True))))))))) (∃(e:cE×MH×PH),aA (I3 e) (cR cb) (aA dQ dR (aA yT (u0 (yH j) e.1) (aA (bH f e.2) (lB j.2=lB e) True)))))) (∃(e:cE×MH×PH),aA (I3 e) (cR cb) (aA dQ dR (aA yT (u0 (yH j) e.1) (aA (bH j.2.2.1 e.2) (lB j.2=lB e) True))))/\∀(e:cE×MH×PH),I3 e->∃(I4:cE×MH×PH->Prop),oV cb 3 e.2.1 (lB e) (λc=>c) (λc r=>∀(f:MH),bF e.2.1 f c->aL f (lB e) c->branch r (∃(v:Int),bJ (λt n9=>∃(y:Nat)(w:List cK)(w1:cK)(V:List rF)(W:Nat),aA (aW (cJ e.1) 1=aW (lS (jK (eF v) (Value.slice (Option.some (RD t 0)) n9 y))) (↑W:Int)) (W<n9) (aA (Bq f
 t w) (w[W]? =Option.some w1) (aA (FW (lB e) w1.columns V) (V.length<=8) (iR (λB A=>cC (lB e) A (Ints A B (List.map rF.kind V)) (BZ (λJ C t2 X p d=>aA (cT cb (fJ B::aW j8 1)=cT J (fJ C::iO t2 (↑d:Int))) (aL f A J) (aA (Ints A C X) (Ints A t2 p) (aA (fO X) (fO p) (mG d/\BY A (λv1 p1 z D=>Br X p d p1->bF f z J->aL z D J->G0 e.1 1 (λb o=>bO D 13 (kP v1.enc) (λs7 h7=>wD (λY E=>aA (Ib z b (oU Y E 0)) (o+5+4<Y.size) (∀(m6:MH),eA z m6 b (w9 Y (o+5+4) (bA s7)) E->∃(u:cE×MH×PH),aA (I4 u) dQ (aA dR yT (bP (u0 e.1 u.1) (bH m6 u.2) (h7=lB u))))))))))))))))))) (∃(u:cE×MH×PH),aA (I4 u) dQ (aA dR yT
 (bP (u0 e.1 u.1) (bH f u.2) (lB e=lB u)))))/\∀(u:cE×MH×PH),I4 u->K (cJ u.1) u.2.1 (lB u)))))))))))))))))
noncomputable abbrev EX(a:Nat×cE×MH×PH):Sl:=a.2.1.tables
attribute [push_cast] EX
def Ur(cb:Nat)(m:MH)(h:PH)(K:bz):Prop:=
  ∃(c:Nat),aA (oB (iD cb)=oB (iD c)) (aL m h c) (∀(t n:Nat)(i:Int)(w:List cK)(s:cE),gA (λy z=>Ds m h c t n i w s y z->∃(I:Nat×cE×MH×PH->Prop)(A:Nat×cE×MH×PH->Nat),(∃(x:Nat×cE×MH×PH),aA (I x) dQ (aA bV (cG s.tables (EX x)) (aA (bB x.1) yT (aA (u0 s x.2.1) (bH y x.2.2) (bN z (lB x.2))))))/\∀(x:Nat×cE×MH×PH),I x->aZ (↑x.1:Int) (aH (EX x)) (bJ (λb o=>aA (bM (yI x.2.1) b o) (0<=(↑x.1:Int)) ((↑x.1:Int)<aH (EX x)/\wD (λe E=>aA (Ib x.2.2.1 b (oU e E 0)) (bK o x.1 5+3<e.size) (∀(f:MH),eA x.2.2.1 f b (w9 e (bK o x.1 5+3) iS) E->bJ (λg j=>aA (bM (yI x.2.1) g j) (0<=(↑x.1:Int)) ((↑x.1:Int)<aH (EX x)/\wD
 (λu E1=>aA (Ib f g (oU u E1 0)) (bK j x.1 5+4<u.size) (∀(B:MH),eA f B g (w9 u (bK j x.1 5+4) iS) E1->∃(d:Nat×cE×MH×PH),aA (I d) (A d<A x) (aA dQ bV (aA (cG (EX x) (EX d)) (bD (fZ (bE x.1 1)) d.1) (aA yT (u0 x.2.1 d.2.1) (aA (bH B d.2.2) (lB x.2=lB d.2) True))))))))))))) (K (cJ x.2.1) x.2.2.1 (lB x.2))))
theorem OI{α:Type}(l:List α)(o:Nat)(x:α)(h:o<l.length):splice l o [x]=l.set o x:=by
 rw[set_eq_take_append_cons_drop,if_pos h];simp[splice]
theorem flatten_set:∀(ws:List cK){i k:Nat}{w w':cK}{x:Value},ws[i]? =some w->k<5->w'.enc=w.enc.set k x->((ws.map cK.enc).flatten).set (i*5+k) x=((ws.set i w').map cK.enc).flatten
 |[],i,k,w,w',x,h,_,_=>by simp at h
 |u::ws,0,k,w,w',x,h,c,e=>by
  simp at h;subst h;simp only[map_cons,flatten_cons,set_cons_zero,Nat.zero_mul,Nat.zero_add,e];rw[set_append_left _ _ (by simpa[cK.enc]using c)]
 |u::ws,i+1,k,w,w',x,h,c,e=>by
  simp only[map_cons,flatten_cons,set_cons_succ];have d:u.enc.length=5:=rfl;rw[set_append_right _ _ aD,d,show(i+1)*5+k-5=i*5+k by omega,flatten_set ws (bt h) c e]
theorem bdQ(ws:List cK):((ws.map cK.enc).flatten).length=ws.length*5:=by
 induction ws with
 |nil=>rfl
 |cons w ws c=>simp only[map_cons,flatten_cons,length_append,c,length_cons];show 5+_=_;omega
theorem Bq.big{d:Nat}{ws:List cK}{cs:Array Value}{E:TypeId}{e:Nat×Nat}(h:Bq m d ws)(c:m d=some (.cells cs E e)):ws.length*5<=cs.size:=by
 obtain⟨f,g,j⟩:=h.ex;rw[g]at c;simp only[Option.some.injEq,Obj.cells.injEq]at c;obtain⟨rfl,_,_⟩:=c;have:=congrArg List.length j;rw[bdQ]at this
 grind
theorem Bq.store{c:Nat}{ws:List cK}{k:Nat}{w w':cK}{x:Value}(h:Bq m c ws)(f:ws[i]? =some w)(g:k<5)(e:w'.enc=w.enc.set k x){cs:Array Value}{E:TypeId}{j:Nat×Nat}(d:m c=some (.cells cs E j))
 (n:m' c=some (.cells (splice cs.toList (i*5+k) [x]).toArray E (0,0))):Bq m' c (ws.set i w'):=by
 have A:=h.big d;have o:=(List.getElem?_eq_some_iff.1 f).1;obtain⟨u,y,z⟩:=h.ex;rw[y]at d;simp only[Option.some.injEq,Obj.cells.injEq]at d;obtain⟨rfl,rfl,_⟩:=d;refine⟨_,n,?_⟩;rw[OI _ _ _ bj,length_set,toList_toArray,take_set,z];exact flatten_set ws f g e
theorem Bq.rd{d:Nat}{ws:List cK}(r:Bq m d ws){j:Nat}{w:cK}{x:Value}(f:ws[i]? =some w)(g:w.enc[j]? =some x):aU m h d (i*5+j) [x]:=by
 obtain⟨n,o,u⟩:=r.ex;refine .of_m o ?_;have c:=mY (xs:=ws.map cK.enc) (sz:=5) (λe y=>by obtain⟨x,_,rfl⟩:=mem_map.1 y;rfl) (by rw[getElem?_map,f];rfl) j x g;rw[<-u,getElem?_take]at c;split at c
 .rw[drop_cons c];rfl
 .cases c
theorem bYQ{g:Int}{j n u:Nat}{ws:List cK}{w:cK}{cols:List rF}{t:Nat}(H:t<n)(B:Bq m j ws)(C:ws[t]? =some w)(z:FW h w.columns cols)(I:cols.length<=8)
 (D:∀sl h',PH.le h h'->Ints h' sl (cols.map rF.kind)->K (cS sl) m h'):L3 ⟨g,⟨some ⟨j,0,none⟩,n,u⟩⟩ t m h K:=by
 dsimp only[L3,push_cast];have x:=bY.slen z;refine aF (λE=>by omega) (λE=>aF (λF=>bk) (λF=>?_));refine⟨j,0,rfl,aD,aD,w.columns,?_,λ⟨i,sl,l⟩=>sl=w.columns/\i<=cols.length/\l=(cols.take i).map rF.kind,λ⟨i,_,_⟩=>cols.length-i,⟨(0,w.columns,[]),⟨rfl,bf,bf⟩,MT⟩,?_⟩
 .rw[Nat.zero_add,Int.toNat_natCast];exact B.rd C rfl
 rintro⟨i,_,_⟩ ⟨rfl,J,rfl⟩;dsimp only;refine aF (λf=>?_) (λG sl h' y d=>?_)
 .obtain⟨c,A⟩:=eT x f;obtain⟨b,o,e,r⟩:=FW.at z A;refine⟨b,o,e,aD,f,c,.imm r,?_,?_,(i+1,w.columns,(cols.take (i+1)).map rF.kind),⟨rfl,aD,rfl⟩,aD,?_⟩
  .simp;omega
  .simp;omega
  .rw[iX A,map_append];exact MT
 .rw[take_of_length_le aD]at d;exact D sl h' y ⟨d,bj⟩
theorem Yl:bu 46 ayQ:=by
 refine dU (fn:=Tryz.f46) (c:=bW Tryz.f46) func46 rfl bg ?_;rintro e m h K ⟨f,A,n,g,B,w,d,t,rfl,j,o,u,x,y,z⟩;refine⟨Ut m h,rfl,aG,?_⟩;rw[<-bXJ];exact bYQ j o u x y z
theorem Ow.mono{t:Dr}{w:cK}(x:Ow h t w)(le:PH.le h h'):Ow h' t w:=⟨x.name_,x.key_,bY.mono x.cols_ le λ_ _ e=>e⟩
theorem acZ.mono{id:Int}{ws:List cK}(x:acZ h id ws)(le:PH.le h h'):acZ h' id ws:=⟨x.1,λi t e=>let⟨w,e1,e2⟩:=x.2 i t e;⟨w,e1,e2.mono le⟩⟩
theorem acZ.set{id:Int}{ws:List cK}{w w':cK}(x:acZ h id ws)(f:ws[i]? =some w)(g:w'.name=w.name)(n:w'.key=w.key)(o:w'.columns=w.columns):acZ h id (ws.set i w'):=by
 refine⟨by rw[length_set];exact x.1,λj t e=>?_⟩;obtain⟨u,d,c⟩:=x.2 j t e;by_cases y:i=j
 .subst y;rw[f]at d;cases d;exact⟨w',bk,⟨by rw[g];exact c.name_,by rw[n];exact c.key_,by rw[o];exact c.cols_⟩⟩
 grind
theorem Ds.on{m0 c:MH}{g d:PH}{e n:Nat}{id:Int}{ws:List cK}{s:cE}(x:Ds m0 g cb e n id ws s m h)(le:PH.le h d)(j:bF m c cb)(u:aL c d cb):Ds m0 g cb e n id ws s c d:=by
 refine⟨x.le_.trans le,x.ver0,x.ver1,u,x.n2,x.n4,x.sl_,x.id_,x.new_,x.ne_,?_,x.ws_.mono le,λb o y=>by rw[j.other b o];exact x.other_ b o y⟩;obtain⟨f,z,A⟩:=x.row_.ex;exact⟨f,by rw[j.other e x.ne_];exact z,A⟩
theorem Ds.store{m0:MH}{u:PH}{c n:Nat}{id:Int}{ws:List cK}{s:cE}(x:Ds m0 u cb c n id ws s m h){k o:Nat}{w w':cK}{y:Value}(d:ws[i]? =some w)(A:k<5)(B:o=i*5+k)(e:w'.enc=w.enc.set k y)(C:w'.name=w.name)(D:w'.key=w.key)(F:w'.columns=w.columns){Q:MH->Prop}
 (G:∀m2,Ds m0 u cb c n id (ws.set i w') s m2 h->Q m2):∃(cs:Array Value)(E:TypeId),Ib m c (.cells cs E (0,0))/\o<cs.size/\∀m2:MH,iL m m2 c (.cells (splice cs.toList o [y]).toArray E (0,0))->Q m2:=by
 obtain⟨f,g,M⟩:=x.row_.ex;have H:=(List.getElem?_eq_some_iff.1 d).1;refine⟨f,87,⟨g⟩,by have:=x.row_.big g;omega,λm2 j=>G m2 ?_⟩;subst B;refine⟨x.le_,x.ver0,x.ver1,?_,x.n2,x.n4,x.sl_,x.id_,x.new_,x.ne_,x.row_.store d A e g j.at_,x.ws_.set d C D F,λb I z=>by rw[j.other b z];exact x.other_ b I z⟩;obtain⟨r,q,cs,k,J,L⟩:=x.case_;exact⟨r,q,cs,k,by rw[j.other cb x.ne_.symm];exact J,L⟩
theorem HY{h:PH}{s:Sl}{l:List rF}(r:cD h s 2 (l.map rF.enc))(c:l.length<=8):FW h s l:=⟨⟨l,r,rfl,λi x e=>⟨x,e,rfl⟩⟩,aD⟩
theorem rE.tabs{m m':MH}{h:PH}{s:Sl}{w:cK}{ws:List cK}(x:rE m m' h s 87 5 ((w::ws).map cK.enc)):∃f d,s=⟨some ⟨f,0,none⟩,ws.length+1,d⟩/\ws.length+1<=d/\Bq m' f (w::ws)/\mH m h f/\∀b,b≠f->m' b=m b:=by
 rcases x.row.ex with⟨_,e⟩|⟨b,d,g,e,j,n,_,o,u⟩
 .cases e
 .subst e;refine⟨b,d,bf,bk,⟨g,j,bk⟩,x.fresh b 0 rfl,λc y=>x.other c (λi e=>bk)⟩
theorem aOZ:bu 39 avX:=by
 refine hU func39 ?_;rintro a6 m h K ⟨cb,rfl,hc,hK⟩;refine⟨bZQ cb,rfl,aE IL (aE Cb (aE aKJ (aE Yl (aE L5 aG)))),Wy cb m h K,bd,?_⟩;dsimp only[Wy,push_cast];refine⟨cb,3,rfl,hc,λk m1 k0 k1 R c1=>?_⟩;have a':IntKind.i64.wrap (2+k)=2+k:=eH aD aD;rw[a'];refine⟨λ⟨n,id,D,I⟩=>2<=n/\n<=4/\(id=4\/id=5)/\I=h/\bF m D cb/\aL D h cb,⟨cb,5,rfl,aD,aD,c1,λr m2 o2 c2=>aC (λ_=>⟨(2+k,5,m2,h),⟨aD,aD,.inr rfl,rfl,R.trans o2,c2⟩,MT⟩) (λ_=>⟨(2+k,4,m2,h),⟨aD,aD,.inl rfl,rfl,R.trans o2,c2⟩,MT⟩)⟩,?_⟩;clear R c1 m1 a' k0 k1 k;rintro⟨n,id,m1,I⟩ ⟨n2,n4,a3,rfl,R,c1⟩;dsimp only;refine⟨cb,3,rfl,c1,λk m2 k0 k1 o2 c2=>?_⟩;refine⟨_,_,rfl,_,_,rfl,_,_,rfl,_,_,rfl,_,_,rfl,_,_,rfl,_,_,rfl,_,_,rfl,_,_,rfl,λs1 h1 a0 r1 s2 h2 S r2 s3 h3 E r3 s4 h4 y r4 tl m3 J=>?_⟩;obtain⟨d,f,rfl,L,M,T,O⟩:=rE.tabs (w:=⟨_,s1,1,bR,bR⟩) (ws:=[⟨_,s2,1,bR,bR⟩,⟨_,s3,2,bR,bR⟩,⟨_,s4,1,bR,bR⟩]) J;simp only[length_cons,length_nil]at L;have U:PH.le I h4:=((a0.trans S).trans E).trans y
 have z:d≠cb:=λe=>by
  obtain⟨r,q,cs,j,q1,_⟩:=c2;have:=T.m_
  grind
 have a1:m d=none:=by rw[<-R.other d z, <-o2.other d z];exact T.m_
 have c3:aL m3 h4 cb:=by
  obtain⟨r,q,cs,j,q1,q2,q3⟩:=c2;exact⟨r,q,cs,j,bk,q2.mono U,q3⟩
 have S0:Ds m I cb d n.toNat id _ ⟨k,⟨some ⟨d,0,none⟩,n.toNat,f⟩⟩ m3 h4:=⟨U,k0,bk,c3,aD,aD,⟨f,rfl,aD⟩,a3,a1,z,M,⟨rfl,λi t e=>?_⟩,λb n1 n2=>by rw[O b n2,o2.other b n1,R.other b n1]⟩
 rotate_left
 .match i,e with
  |0,e=>cases e;exact⟨_,rfl,⟨rfl,rfl,HY (l:=[⟨_,_⟩,⟨_,_⟩]) (r1.mono ((S.trans E).trans y)) bg⟩⟩
  |1,e=>cases e;exact⟨_,rfl,⟨rfl,rfl,HY (l:=[⟨_,_⟩,⟨_,_⟩,⟨_,_⟩,⟨_,_⟩]) (r2.mono (E.trans y)) bf⟩⟩
  |2,e=>cases e;exact⟨_,rfl,⟨rfl,rfl,HY (l:=[⟨_,_⟩,⟨_,_⟩]) (r3.mono y) bg⟩⟩
  |3,e=>cases e;exact⟨_,rfl,⟨rfl,rfl,HY (l:=[⟨_,_⟩]) r4 bf⟩⟩
  |i+4,e=>simp[xN]at e
 generalize a4:(cK.mk _ s1 1 bR bR::_)=a7 at S0;clear a4 M J r1 r2 r3 r4;have A:∀{ws:List cK}{i:Nat},ws.length=4->i<4->∃w,ws[i]? =some w:=λhl hi=>⟨_,getElem?_eq_getElem aD⟩
 refine⟨aD,bk,λ⟨V,s,D,W⟩=>V=n/\∃ws,Ds m I cb d n.toNat id ws s D W,⟨cb,2,rfl,aD,aD,c3,λr X o4 c4=>aC (λ_ s5 F a2 r5=>⟨d,0,rfl,aD,aD,λs6 h6 B r6=>?_⟩) (λ_=>⟨(n,⟨k,⟨some ⟨d,0,none⟩,n.toNat,f⟩⟩,X,h4),⟨rfl,_,S0.on (.refl _) o4 c4⟩,MT⟩)⟩,?_⟩
 .obtain⟨w,P⟩:=A (i:=1) S0.ws_.1 aD;exact(S0.on (a2.trans B) o4 (c4.mono (a2.trans B))).store (k:=3) (w':={w with references:=s6}) P aD rfl rfl rfl rfl rfl λx Y=>⟨(n,⟨k,⟨some ⟨d,0,none⟩,n.toNat,f⟩⟩,x,h6),⟨rfl,_,Y⟩,MT⟩
 clear S0 c3 O T a1 L U a0 S E y R o2 c1 c2;rintro⟨V,s,X,F⟩ ⟨rfl,ws,S0⟩;dsimp only;obtain⟨f,c,_⟩:=S0.sl_;have o:s.tables.a=some ⟨d,0,none⟩:=by rw[c]
 have G:s.tables.len=V.toNat:=by rw[c]
 refine⟨λ⟨n,s,D,W⟩=>n=V/\∃ws,Ds m I cb d n.toNat id ws s D W,aF (λhn=>⟨cb,3,rfl,aD,aD,S0.case_,λr x Q H=>aC (λ_ s7 h7 u r7=>⟨d,0,o,aD,aD,λs8 h8 g r8=>?_⟩) (λ_=>⟨(V,s,x,F),⟨rfl,_,S0.on (.refl _) Q H⟩,MT⟩)⟩) (λ_=>⟨(V,s,X,F),⟨rfl,_,S0⟩,MT⟩),?_⟩
 .obtain⟨w,P⟩:=A (i:=2) S0.ws_.1 aD;exact(S0.on (u.trans g) Q (H.mono (u.trans g))).store (k:=3) (w':={w with references:=s8}) P aD rfl rfl rfl rfl rfl λx Y=>⟨(V,s,x,h8),⟨rfl,_,Y⟩,MT⟩
 clear S0 o G c;rintro⟨C,s,X,F⟩ ⟨rfl,ws,S0⟩;dsimp only;obtain⟨f,c,_⟩:=S0.sl_;have o:s.tables.a=some ⟨d,0,none⟩:=by rw[c]
 have G:s.tables.len=C.toNat:=by rw[c]
 refine⟨λ⟨s,D,W⟩=>∃ws,Ds m I cb d C.toNat id ws s D W,aF (λhn=>⟨cb,3,rfl,aD,aD,S0.case_,λr x Q H=>aC (λ_ s7 h7 u r7=>⟨d,0,o,aD,aD,λs8 h8 g r8=>?_⟩) (λ_=>⟨(s,x,F),⟨_,S0.on (.refl _) Q H⟩,MT⟩)⟩) (λ_=>⟨(s,X,F),⟨_,S0⟩,MT⟩),?_⟩
 .obtain⟨w,P⟩:=A (i:=3) S0.ws_.1 aD;exact(S0.on (u.trans g) Q (H.mono (u.trans g))).store (k:=3) (w':={w with references:=s8}) P aD rfl rfl rfl rfl rfl λx Y=>⟨(s,x,h8),⟨_,Y⟩,MT⟩
 clear S0 o G c;rintro⟨s,X,F⟩ ⟨ws,S0⟩;dsimp only;obtain⟨f,c,_⟩:=S0.sl_;have o:s.tables.a=some ⟨d,0,none⟩:=by rw[c]
 have G:s.tables.len=C.toNat:=by rw[c]
 refine⟨λ⟨s,D,W⟩=>∃ws,Ds m I cb d C.toNat id ws s D W,⟨cb,3,rfl,aD,aD,S0.case_,λr x Q H=>aC (λ_=>?_) (λ_=>⟨(s,x,F),⟨_,S0.on (.refl _) Q H⟩,MT⟩)⟩,λ⟨s,X,F⟩⟨ws,S0⟩=>hK _ _ _ _ _ _ _ S0⟩;have S1:=S0.on (.refl _) Q H;obtain⟨w,P,Z⟩:=S1.ws_.2 1 _ rfl;refine⟨s.version,d,C.toNat,f,ws,w,_,1,by rw[c];rfl,aD,S1.row_,P,Z.cols_,bf,λsl h6 B a5=>?_⟩;refine⟨cb,sl,bR,_,[],1,rfl,H.mono B,a5,⟨cD.nil _ _,bf⟩,bf,bf,aD,λa8 p m6 h7 u hp a9 o6 c6=>⟨d,0,o,aD,aD,λs8 h8 g r8=>?_⟩⟩;exact(S1.on ((B.trans u).trans g) o6 (c6.mono g)).store (k:=4) (w':={w with checks:=s8}) P aD rfl rfl rfl rfl rfl λx Y=>⟨(s,x,h8),⟨_,Y⟩,MT⟩
structure QG(s:jE):Prop where
 ex:∃ver n id,0<=ver/\ver<=2/\2<=n/\n<=4/\(id=4\/id=5)/\s=⟨ver,(xN id).take n⟩
def bEX:Vc.Spec:=λc m h K=>∃cb,c=[cP cb]/\aL m h cb/\∀s v m' h',QG s->gZ h' s v->PH.le h h'->bF m m' cb->aL m' h' cb->K (aS v) m' h'
theorem beQ:bu 9 bEX:=by
 refine V7 func9 ?_;rintro W m h K ⟨cb,rfl,X,Y⟩;refine⟨crX,rfl,aE aOZ aG,Ur cb m h (fY h K),bd,?_⟩;show Ur cb m h (fY h K);dsimp only[Ur,push_cast];refine⟨cb,rfl,X,λd n id y s J L S1=>?_⟩;refine⟨λ⟨i,A,Z,B⟩=>A=s/\B=L/\i<=n/\∃y,Ds m h cb d n id y s Z L/\∀j w,j<i->y[j]? =some w->w.references=bR/\w.checks=bR,λ⟨i,_,_,_⟩=>n-i,⟨(0,s,J,L),⟨rfl,rfl,aD,y,S1,λj w M=>by omega⟩,MT⟩,?_⟩;clear S1 y J;rintro⟨i,A,J,B⟩ ⟨rfl,rfl,F,y,S1,G⟩;dsimp only;obtain⟨a',H,O⟩:=S1.sl_;have C:A.tables.a=some ⟨d,0,none⟩:=by rw[H]
 have a0:A.tables.len=n:=by rw[H]
 have P:=S1.n4;refine aF (λI=>⟨d,0,C,aD,I,?_⟩) (λa1 f=>?_)
 .obtain⟨w,U⟩:∃w,y[i]? =some w:=⟨_,getElem?_eq_getElem (by have:=S1.ws_.1;omega)⟩
  refine S1.store (i:=i) (k:=3) (w':={w with references:=bR}) U aD aD rfl rfl rfl rfl λm2 S2=>⟨d,0,C,aD,I,?_⟩
  have Q:=(List.getElem?_eq_some_iff.1 U).1;have R:(y.set i {w with references:=bR})[i]? =some {w with references:=bR}:=getElem?_set_self Q;refine S2.store (i:=i) (k:=4) (w':={w with references:=bR,checks:=bR}) R aD aD rfl rfl rfl rfl λm3 S3=>⟨(i+1,A,m3,B),⟨rfl,rfl,aD,_,S3,λj u M hu=>?_⟩,aD,MT⟩
  grind
 .have f:=f;obtain⟨D,z,S⟩:=S1.row_.ex;have a2:∀i,B d i=none:=f d _ z
  have c:PH.le B (λx i=>if x=d then D[i]? else B x i):=⟨λx i v e=>by
   grind⟩
  refine⟨λb=>if b=d then none else J b,λx i=>if x=d then D[i]? else B x i,λb o e=>?_,S1.le_.trans c,λx i v e=>?_,Y ⟨A.version,(xN id).take n⟩ A _ _ ⟨⟨_,_,_,S1.ver0,S1.ver1,S1.n2,S1.n4,S1.id_,rfl⟩⟩ ⟨rfl,?_⟩ (S1.le_.trans c) ⟨λb hb=>?_⟩ ?_⟩
  .grind
  .by_cases E:x=d
   .subst E;simp at e;exact .inr ⟨D,87,(0,0),z,e,bf⟩
   .simp[E]at e;exact .inl e
  .have V:=S1.ws_.1;have P:=S1.n4;refine⟨⟨y.take n,⟨bk,.inr ⟨d,0,C,λi e F=>⟨λj v M=>?_⟩⟩,bk⟩,by simp[xN];omega,λi t e=>?_⟩,bk⟩
   .rw[map_take,getElem?_take]at F;split at F
    .have L:=mY (xs:=y.map cK.enc) (sz:=5) (λe he=>by obtain⟨x,_,rfl⟩:=mem_map.1 he;rfl) F j v M
     grind
    .cases F
   .rw[getElem?_take]at e;split at e
    .rename_i a3;obtain⟨w,e1,e2⟩:=S1.ws_.2 i t e;obtain⟨z1,z2⟩:=G i w aD e1;have T:=e2.mono c
     have g:t.refs=[]/\t.checks=[]:=by
      match i,e with
      |0,e=>cases e;grind
      |1,e=>cases e;grind
      |2,e=>cases e;grind
      |3,e=>cases e;grind
      |i+4,e=>omega
     refine⟨w,bk,⟨T.name_,T.cols_,T.key_,by rw[z1,g.1];exact bY.nil _ _ _ _,by rw[z2,g.2];exact bY.nil _ _ _ _⟩⟩
    .cases e
  .by_cases E:b=d
   .subst E;simp[S1.new_]
   .simp[E];exact S1.other_ b hb E
  .obtain⟨r,q,cs,k,q1,q2,q3⟩:=S1.case_;exact⟨r,q,cs,k,bk,q2.mono c,q3⟩
def QW(q:Query):Prop:=
 match q with
 |.mk _ _ w _ _ _ _ _ args=>Dt w/\∀a∈args,QW a
 termination_by SizeOf.sizeOf q
theorem LD{op:Int}{w:Pred}{on:ce}{args:ci}:
 QW (.mk op ta w co on gr od li args)↔Dt w/\∀a∈args,QW a:=by rw[QW.eq_def]
def cDJ(s:jE):Prop:=∀t,NK (jR s t)
structure bCQ(s:jE)(ps ks:ca)(q0 q:Query):Prop where
 qw:QW q
 siz:∀d,DM d q0->UW d q
 kin:cDJ s->NK ps->NK ks->ks≠[]->ks.length<=12->aJ s ps q0=(ks,0)->aJ s ps q=(ks,0)
def KQ(K:bz)(m:MH)(h:PH)(cb:Nat)(R:Query->Prop):Prop:=∀w q m' h',PH.le h h'->bU h' q w->R q->bF m m' cb->aL m' h' cb->K (aQ w) m' h'
def avQ:Vc.Spec:=λc m h K=>∃cb sc p k v s ps ks q,c=[cP cb,aS sc,cS p,cS k,aQ v]/\aL m h cb/\gZ h s sc/\mM s/\s.tables.length<=1000/\Ints h p ps/\ps.length<=1000/\Ints h k ks/\ks.length<=1000/\bU h q v/\QW q/\KQ K m h cb (bCQ s ps ks q)
noncomputable def bYZ(cb:Nat)(sc:cE)(p k:Sl)(v:QV):Ctx:=
 dA [(12,Ic),(46,zI),(40,bCJ),(13,QX),(44,FC)] [(3,{A:=Int×Nat×MH×PH,st:=λ⟨f,n,m,h⟩=>bQ 112 117 [(0,pv cb),(2,sv p),(3,sv k),(6,.at (.ptr 6 0)),(9,.at (.ptr 9 0)),(10,.at (.ptr 10 0)),(11,iv f),(12,iv n)] [(6,.cells 43 (sc.enc.map .val)),(9,.cells 38 (v.enc.map .val)),(10,.cells 38 (lH.enc.map .val))] m h}),
  (9,{A:=Int×Nat×Int×Sl×ca×Nat×MH×PH,st:=λ⟨f,n,t,c,d,i,m,h⟩=>bQ 112 117 [(0,pv cb),(2,sv p),(3,sv k),(6,.at (.ptr 6 0)),(9,.at (.ptr 9 0)),(10,.at (.ptr 10 0)),(11,iv f),(12,iv n),(13,iv t),(14,sv c),(15,.at (.lst 75)),(45,sv k),(46,iv k.len),(47,iv i)] [(6,.cells 43 (sc.enc.map .val)),(9,.cells 38 (v.enc.map .val)),(10,.cells 38 (lH.enc.map .val)),(75,.lst 3 1 (d.map eI))] m h}),
  (13,{A:=Int×Nat×Int×Sl×ca×Nat×Int×Int×Nat×MH×PH,st:=λ⟨f,n,t,c,d,i,e,g,j,m,h⟩=>bQ 112 117 [(0,pv cb),(2,sv p),(3,sv k),(6,.at (.ptr 6 0)),(9,.at (.ptr 9 0)),(10,.at (.ptr 10 0)),(11,iv f),(12,iv n),(13,iv t),(14,sv c),(15,.at (.lst 75)),(17,iv e),(18,iv g),(45,sv k),(46,iv k.len),(47,iv i),(56,iv c.len),(57,iv j)] [(6,.cells 43 (sc.enc.map .val)),(9,.cells 38 (v.enc.map .val)),(10,.cells 38 (lH.enc.map .val)),(75,.lst 3 1 (d.map eI))] m h})] [] [] false
abbrev sY:Prop:=eP 10
noncomputable abbrev BK(a:Int×Nat×Int×Sl×ca×Nat×MH×PH):Sl:=a.2.2.2.1
noncomputable abbrev rY(a:Int×Nat×Int×Sl×ca×Nat×MH×PH):Nat×MH×PH:=a.2.2.2.2.2
noncomputable abbrev BL(a:Int×Nat×Int×Sl×ca×Nat×MH×PH):ca:=a.2.2.2.2.1
noncomputable abbrev qU(a:Int×Nat×Int×Sl×ca×Nat×MH×PH):Nat->Nat->Option Value:=iW (rY a)
noncomputable abbrev tW(a:Int×Nat×Int×Sl×ca×Nat×Int×Int×Nat×MH×PH):Sl:=a.2.2.2.1
noncomputable abbrev Kd(a:Int×Nat×Int×Sl×ca×Nat×Int×Int×Nat×MH×PH):Int:=a.2.2.2.2.2.2.1
noncomputable abbrev Kw(a:Int×Nat×Int×Sl×ca×Nat×Int×Int×Nat×MH×PH):Int:=a.2.2.2.2.2.2.2.1
noncomputable abbrev Hi(a:Int×Nat×Int×Sl×ca×Nat×Int×Int×Nat×MH×PH):Nat:=a.2.2.2.2.2.1
noncomputable abbrev sV(a:Int×Nat×Int×Sl×ca×Nat×Int×Int×Nat×MH×PH):Nat×MH×PH:=a.2.2.2.2.2.2.2.2
noncomputable abbrev Fe(a:Int×Nat×Int×Sl×ca×Nat×Int×Int×Nat×MH×PH):ca:=a.2.2.2.2.1
noncomputable abbrev Kb(a:Int×Nat×Int×Sl×ca×Nat×Int×Int×Nat×MH×PH):Int:=Int.tmod (fH (Kw a+(↑(sV a).1:Int))) (aH (tW a))
abbrev Hj(a:Prop)(b c d:Nat)(e g:Sl)(i:Prop):Prop:=aA a (b<c) (aA (cR d) (aI e) (aA (aI g) (eP 6) (aA (eP 9) sY i)))
attribute [push_cast] sY BK rY BL qU tW Kd Kw Hi sV Fe Kb Hj
def Ww(cb:Nat)(sc:cE)(p k:Sl)(v:QV)(m:MH)(h:PH)(K:bz):Prop:=
  iZ cb (fH (mD sc+1)) m h (λV W=>∃(I:Int×Nat×MH×PH->Prop)(M:Int×Nat×MH×PH->Nat),(∃(x:Int×Nat×MH×PH),aA (I x) (cR cb) (aA (aI p) (aI k) (aA (eP 6) (eP 9) (aA sY (dW V x.1) (aA (bB x.2.1) (cL sc) (aA (dM v) eG (aA (bH W x.2.2) (h=iW x.2) True)))))))/\∀(x:Int×Nat×MH×PH),I x->aZ (↑x.2.1:Int) (aH sc.tables) (yF (mD sc=0)/\CQ (aW (cJ sc) (Int.tmod (fH (x.1+(↑x.2.1:Int))) (mD sc))) (iW x.2) (λs E=>∃(I1:Int×Nat×Int×Sl×ca×Nat×MH×PH->Prop)(z:Int×Nat×Int×Sl×ca×Nat×MH×PH->Nat),(∃(f:Int×Nat×Int×Sl×ca×Nat×MH×PH),aA (I1 f) (cR cb) (aA (aI p) (aI k) (aA (eP 6) (eP 9) (aA sY (dW x.1 f.1) (aA (cM x.2.1 f.2.1) (dW
 (Int.tmod (fH (x.1+(↑x.2.1:Int))) (mD sc)) f.2.2.1) (aA (bS s (BK f)) (eL 75) (aA (aI k) (bI k) (aA (bB (rY f).1) (cL sc) (aA (dM v) eG (aA (tL (cZ (BL f))) (bH (mT x.2) (rY f).2) (bN E (qU f))))))))))))/\∀(f:Int×Nat×Int×Sl×ca×Nat×MH×PH),I1 f->aZ (↑(rY f).1:Int) (aH k) (bJ (λb o=>aA (bM k.a b o) (0<=(↑(rY f).1:Int)) ((↑(rY f).1:Int)<aH k/\∃(y:Int),aU (mT (rY f)) (qU f) b (bK o (rY f).1 1) (bG y)/\iZ cb (aH (BK f)) (mT (rY f)) (qU f) (λX D=>∃(I2:Int×Nat×Int×Sl×ca×Nat×Int×Int×Nat×MH×PH->Prop)(C:Int×Nat×Int×Sl×ca×Nat×Int×Int×Nat×MH×PH->Nat),(∃(e:Int×Nat×Int×Sl×ca×Nat×Int
 ×Int×Nat×MH×PH),aA (I2 e) (cR cb) (aA (aI p) (aI k) (aA (eP 6) (eP 9) (aA sY (dW f.1 e.1) (aA (cM f.2.1 e.2.1) (dW f.2.2.1 e.2.2.1) (aA (bS (BK f) (tW e)) (eL 75) (aA (dW y (Kd e)) (dW X (Kw e)) (aA (aI k) (bI k) (aA (cM (rY f).1 (Hi e)) (cG (BK f) (tW e)) (aA (bB (sV e).1) (cL sc) (aA (dM v) eG (aA (jV (cZ (BL f)) (Fe e)) (bH D (sV e).2) (bN (qU f) (iW (sV e)))))))))))))))/\∀(e:Int×Nat×Int×Sl×ca×Nat×Int×Int×Nat×MH×PH),I2 e->aZ (↑(sV e).1:Int) (aH (tW e)) (yF (aH (tW e)=0)/\bJ (λS T=>aA (bM (tW e).a S T) (0<=Kb e) (Kb e<aH (tW e)/\∃(U:Int),aU (mT (sV
 e)) (iW (sV e)) S (fU T (Kb e) 1) (bG U)/\eO U (Kd e) (nG (cZ (Fe e)) 8 (∃(j:Int×Nat×Int×Sl×ca×Nat×MH×PH),Hj (I1 j) (z j) (z f) cb p k (aA (dW e.1 j.1) (cM e.2.1 j.2.1) (aA (dW e.2.2.1 j.2.2.1) (bS (tW e) (BK j)) (aA (eL 75) (aI k) (aA (bI k) (bD (fZ (bE (Hi e) 1)) (rY j).1) (aA (cL sc) (dM v) (aA eG (jV (eN (cZ (Fe e)) (bG (Kb e))) (BL j)) (aA (bH (mT (sV e)) (rY j).2) (iW (sV e)=qU j) True))))))))) (∃(j:Int×Nat×Int×Sl×ca×Nat×Int×Int×Nat×MH×PH),Hj (I2 j) (C j) (C e) cb p k (aA (dW e.1 j.1) (cM e.2.1 j.2.1) (aA (dW e.2.2.1 j.2.2.1) (bS (tW e) (tW j)) (aA (eL 75) (dW
 (Kd e) (Kd j)) (aA (dW (Kw e) (Kw j)) (aI k) (aA (bI k) (cM (Hi e) (Hi j)) (aA (cG (tW e) (tW j)) (bD (fZ (bE (sV e).1 1)) (sV j).1) (aA (cL sc) (dM v) (aA eG (jV (cZ (Fe e)) (Fe j)) (aA (bH (mT (sV e)) (sV j).2) (iW (sV e)=iW (sV j)) True))))))))))))) (∃(j:Int×Nat×Int×Sl×ca×Nat×MH×PH),Hj (I1 j) (z j) (z f) cb p k (aA (dW e.1 j.1) (cM e.2.1 j.2.1) (aA (dW e.2.2.1 j.2.2.1) (bS (tW e) (BK j)) (aA (eL 75) (aI k) (aA (bI k) (bD (fZ (bE (Hi e) 1)) (rY j).1) (aA (cL sc) (dM v) (aA eG (jV (cZ (Fe e)) (BL j)) (aA (bH (mT (sV e)) (rY j).2) (iW (sV e)=qU j)
 True)))))))))))) (eO f.1 (mD sc) (∃(e:Int×Nat×MH×PH),Hj (I e) (M e) (M x) cb p k (aA (dW f.1 e.1) (bD (fZ (bE f.2.1 1)) e.2.1) (aA (cL sc) (dM v) (bP eG (bH (mT (rY f)) e.2.2) (qU f=iW e.2))))) (aZ (↑(cZ (BL f)).length:Int) (aH k) (∃(e:Int×Nat×MH×PH),Hj (I e) (M e) (M x) cb p k (aA (dW f.1 e.1) (bD (fZ (bE f.2.1 1)) e.2.1) (aA (cL sc) (dM v) (bP eG (bH (mT (rY f)) e.2.2) (qU f=iW e.2))))) (lA f.2.2.1 (λt=>oV cb 2 (mT (rY f)) (qU f) (λc=>c) (λc r=>∀(D:MH),bF (mT (rY f)) D c->aL D (qU f) c->branch r (BZ (λn A H F u d=>aA (cT cb (fJ (BK f)::iO p 1)=cT n (fJ A::iO H (↑d:Int))) (aL
 D (qU f) n) (aA (Ints (qU f) A F) (Ints (qU f) H u) (aA (fO F) (fO u) (mG d/\BY (qU f) (λg G C B=>Br F u d G->bF D C n->aL C B n->bO B 21 (kP (BD t)) (λJ L=>bO L 1 (cZ (BL f)) (λO P=>bO P 21 (kP (aM (eF 2) dE (aM (eF g.op) (eF g.cmp) (aM (sW g) (sX g) (aM (eF (AY g.left)) (rU g) (aM (rV g) (rW g) (aM (tA g) (tB g) (aM (tC g) (tD g) (aM (fK g.args) lF (aM lF lF (aM lF dE (bA J)))))))))))) (λQ R=>K (lS (Ke 3 O (bA Q))) C R))))))))/\BZ (λn A H F u d=>aA (cT cb (fJ (BK f)::iO p 1)=cT n (fJ A::iO H (↑d:Int))) (aL D (qU f) n) (aA (Ints (qU f) A F) (Ints (qU f) H u) (aA
 (fO F) (fO u) (mG d/\BY (qU f) (λg G C B=>Br F u d G->bF D C n->aL C B n->bO B 21 (kP (BD t)) (λJ L=>bO L 1 (cZ (BL f)) (λO P=>bO P 21 (kP (aM (eF 2) dE (aM (eF g.op) (eF g.cmp) (aM (sW g) (sX g) (aM (eF (AY g.left)) (rU g) (aM (rV g) (rW g) (aM (tA g) (tB g) (aM (tC g) (tD g) (aM (fK g.args) lF (aM lF lF (aM lF dE (bA J)))))))))))) (λQ R=>K (lS (Ke 3 O (bA Q))) C R))))))))) (bO (qU f) 1 (cZ (BL f)) (λA B=>bO B 21 (kP (BD t)) (λJ L=>K (lS (Ke 3 A (bA J))) D L)))))))))) (BZ (λc s t n u d=>aA (cT cb (fJ k::iO p 1)=cT c (fJ s::iO t (↑d:Int))) (aL (mT x.2) (iW
 x.2) c) (aA (Ints (iW x.2) s n) (Ints (iW x.2) t u) (aA (fO n) (fO u) (mG d/\BY (iW x.2) (λg G z E=>Br n u d G->bF (mT x.2) z c->aL z E c->bO E 21 (kP v.enc) (λA B=>K (lS (aM (eF 2) dE (aM (eF g.op) (eF g.cmp) (aM (sW g) (sX g) (aM (eF (AY g.left)) (rU g) (aM (rV g) (rW g) (aM (tA g) (tB g) (aM (tC g) (tD g) (aM (fK g.args) lF (aM lF lF (aM lF dE (bA A)))))))))))) z B))))))/\BZ (λc s t n u d=>aA (cT cb (fJ k::iO p 1)=cT c (fJ s::iO t (↑d:Int))) (aL (mT x.2) (iW x.2) c) (aA (Ints (iW x.2) s n) (Ints (iW x.2) t u) (aA (fO n) (fO u) (mG d/\BY (iW x.2) (λg G z E=>Br n u d G->bF (mT x.2) z c
 ->aL z E c->bO E 21 (kP v.enc) (λA B=>K (lS (aM (eF 2) dE (aM (eF g.op) (eF g.cmp) (aM (sW g) (sX g) (aM (eF (AY g.left)) (rU g) (aM (rV g) (rW g) (aM (tA g) (tB g) (aM (tC g) (tD g) (aM (fK g.args) lF (aM lF lF (aM lF dE (bA A)))))))))))) z B))))))))
theorem pF(h:PH):Ints h bR []:=⟨cD.nil _ _,bf⟩
theorem uT(h:PH):iF h bR []:=⟨cD.nil _ _,bf⟩
theorem uS(h:PH):jT h bR []:=⟨cD.nil _ _,bf⟩
theorem DN(h:PH):dD h eW fT:=Pp (v:=fT) rfl
theorem DS{h:PH}{s:Sl}{v:QV}{q:Query}(r:cD h s 21 [QV.enc v])(c:bU h q v):FM h s [q]:=⟨⟨[v],r,rfl,λi x e=>by
 grind⟩,bf⟩
theorem AS(h:PH)(t:Int):bU h (.mk 1 t eW [] [] [] [] 0 []) ⟨1,t,fT,bR,bR,bR,bR,0,bR⟩:=
 kW.rep ⟨rfl,rfl,DN h,pF h,uT h,pF h,uS h,rfl,bY.nil _ _ _ _⟩
theorem PC{v:PV}{s:Sl}{q:Query}(c:dD h p v)(d:FM h s [q]):bU h (.mk 2 0 p [] [] [] [] 0 [q]) ⟨2,0,v,bR,bR,bR,bR,0,s⟩:=
 kW.rep ⟨rfl,rfl,c,pF h,uT h,pF h,uS h,rfl,d⟩
theorem M4{h:PH}{c s:Sl}{cols:ca}{q:Query}(d:Ints h c cols)(e:FM h s [q]):bU h (.mk 3 0 eW cols [] [] [] 0 [q]) ⟨3,0,fT,c,bR,bR,bR,0,s⟩:=
 kW.rep ⟨rfl,rfl,DN h,d,uT h,pF h,uS h,rfl,e⟩
theorem pK:Dt eW:=⟨sQ,sQ,trivial⟩
theorem T3{op:Int}{w:Pred}{on:ce}{q:Query}(c:Dt w)(d:QW q):QW (.mk op ta w co on gr od li [q]):=LD.2 ⟨c,λa e=>bk⟩
theorem Jz(t:Int):QW (.mk 1 t eW [] [] [] [] 0 []):=LD.2 ⟨pK,λa c=>by simp at c⟩
theorem ahJ{a:Int}{n:Nat}(c:0<=a)(d:0<n):0<=a.tmod (n:Int)/\a.tmod (n:Int)<(n:Int):=by
 rw[Int.tmod_eq_emod_of_nonneg c];exact⟨Int.emod_nonneg _ aD,Int.emod_lt_of_pos _ aD⟩
theorem LN{k:ca}{op:Int}{w:Pred}{on:ce}{q:Query}(c:arity op=1)(h:aJ s ps q=(k,0)):aJ s ps (.mk op ta w co on gr od li [q])=dY s ps (.mk op ta w co on gr od li [q]) k []:=by
 have e:eX s ps [q]=([k],0):=uL (by simp[h]);simp[aJ,e,c]
theorem aHZ{k c:ca}{op:Int}{w:Pred}{on:ce}{q p:Query}(d:arity op=2)(h:aJ s ps q=(k,0))(h':aJ s ps p=(c,0)):aJ s ps (.mk op ta w co on gr od li [q,p])=dY s ps (.mk op ta w co on gr od li [q,p]) k c:=by
 have e:eX s ps [q,p]=([k,c],0):=uL (by simp[h,h']);simp[aJ,e,d]
theorem KF(h:l.length<=12):lL l=(l,0):=if_pos h
theorem Pq{s:jE}{ps:ca}{t:Int}(c:0<=t)(d:t<s.tables.length)(e:(jR s t).length<=12):aJ s ps (.mk 1 t eW [] [] [] [] 0 [])=(jR s t,0):=by
 have f:aJ s ps (.mk 1 t eW [] [] [] [] 0 [])=dY s ps (.mk 1 t eW [] [] [] [] 0 []) [] []:=by simp[aJ,eX,arity]
 rw[f];unfold dY;rw[if_neg (by simp[arity,cH])];dsimp only;rw[if_pos rfl,if_pos ⟨c,d⟩,KF e]
theorem kinds_filter{k:ca}{w:Pred}{q:Query}(h:aJ s ps q=(k,0))(c:gH k ps w=0)(d:k.length<=12):aJ s ps (.mk 2 0 w [] [] [] [] 0 [q])=(k,0):=by
 rw[LN bg h];unfold dY;rw[if_neg (by simp[arity,cH])];dsimp only;rw[if_neg bg,if_pos rfl,if_pos c,KF d]
theorem Q8{k:ca}{q:Query}(h:aJ s ps q=(k,0))(d:co≠[])(e:∀c∈co,B9 k c=true)(g:co.length<=12):aJ s ps (.mk 3 0 eW co [] [] [] 0 [q])=(co.map λc=>k.getD c.toNat 0,0):=by
 rw[LN bg h];unfold dY;rw[if_neg (by simp[arity,cH])];dsimp only;rw[if_neg bg,if_neg bg,if_pos rfl,if_pos ⟨d,λj x f=>e x (mem_of_getElem? f)⟩,KF bk]
structure I8(kt ks co:ca):Prop where
 in_:∀c∈co,B9 kt c=true
 eq_:(co.map λc=>kt.getD c.toNat 0)=ks
theorem I8.kin{c ks:ca}{q:Query}(x:I8 c ks co)(h:aJ s ps q=(c,0))(d:ks≠[])(f:ks.length<=12):aJ s ps (.mk 3 0 eW co [] [] [] 0 [q])=(ks,0):=by
 have g:co.length=ks.length:=by rw[<-x.eq_,length_map]
 rw[Q8 h (λe=>d (eq_nil_of_length_eq_zero bk)) x.in_ aD,x.eq_]
theorem I8.snoc{d ks:ca}{c x:Int}(p:I8 d (ks.take i) co)(g:ks[i]? =some x)(j:B9 d c=true)(e:d.getD c.toNat 0=x):I8 d (ks.take (i+1)) (co++[c]):=
 ⟨λy f=>by
  rcases mem_append.1 f with f|f
  .exact p.in_ y f
  grind,by rw[map_append,p.eq_,take_add_one,g,map_cons,map_nil,e];rfl⟩
theorem aOQ:bu 42 avQ:=by
 refine hU func42 ?_;rintro c9 m h K ⟨cb,sc,p,k,v,s,ps,ks,q,rfl,hc,hs,h8,d',hp,a9,hk,a1,hq,b',hK⟩;refine⟨bYZ cb sc p k v,rfl,aE IL (aE L4 (aE RZ (aE Cb (aE L5 aG)))),Ww cb sc p k v m h K,by kernel_rfl,?_⟩;have d0:=hs.tables.slen;have b0:=hk.slen;have hw:IntKind.i64.wrap ((sc.tables.len:Int)+1)=(sc.tables.len:Int)+1:=eH aD aD;dsimp only[Ww,push_cast];rw[hw];refine⟨cb,_,rfl,hc,λf V f0 f1 o1 c1=>?_⟩;refine⟨λ⟨f,n,E,o⟩=>0<=f/\f<=sc.tables.len/\n<=sc.tables.len/\PH.le h o/\bF m E cb/\aL E o cb,λ⟨_,n,_,_⟩=>sc.tables.len-n,⟨(f,0,V,h),⟨f0,aD,aD,.refl _,o1,c1⟩,MT⟩,?_⟩;clear f0 f1 o1 c1 V hw;rintro⟨f,n,V,o⟩ ⟨f0,f1,hn,z,o1,c1⟩;dsimp only
 have C:∀(kk:Sl)(kl:ca)(E:MH)(o:PH)(Q:PV->Pred->MH->PH->Prop),Ints o kk kl->kl.length<=1000->PH.le h o->aL E o cb->(∀v p m' h',PH.le o h'->dD h' p v->Br kl ps 1 p->bF E m' cb->aL m' h' cb->Q v p m' h')->
  ∃(D:Nat)(s t:Sl)(cols u:ca)(deep:Nat),[CV.val (.pointer (some ⟨cb,0,none⟩)),CV.val (.slice kk.a kk.len kk.cap),CV.val (.slice p.a p.len p.cap),CV.val (.int .i64 1)]=[CV.val (.pointer (some ⟨D,0,none⟩)),CV.val (.slice s.a s.len s.cap),CV.val (.slice t.a t.len t.cap),CV.val (.int .i64 deep)]/\aL E o D/\Ints o s cols/\Ints o t u/\cols.length<=1000/\u.length<=1000/\deep<=1000/\
   ∀(v:PV)(p:Pred)(m':MH)(h':PH),PH.le o h'->dD h' p v->Br cols u deep p->bF E m' D->aL m' h' D->Q v p m' h':=λkk kl E o Q h1 h2 H h4 h5=>
  ⟨cb,kk,p,kl,ps,1,rfl,h4,h1,hp.mono H,h2,a9,aD,λv p m' h' q1 q2 W q3 q4=>h5 v p m' h' q1 q2 W q3 q4⟩
 refine aF (λd1=>?_) (λd2=>?_)
 rotate_left
 .have fin:∀(w:PV)(p:Pred)(m':MH)(h':PH),PH.le o h'->dD h' p w->Br ks ps 1 p->bF V m' cb->aL m' h' cb->∀(s:Sl)(c:PH),PH.le h' c->cD c s 21 [QV.enc v]->K (aQ ⟨2,0,w,bR,bR,bR,bR,0,s⟩) m' c:=λw p m' h' q1 q2 W q3 q4 s h2 S q6=>
   hK _ _ m' h2 ((z.trans q1).trans S) (PC (q2.mono S) (DS q6 (hq.mono ((z.trans q1).trans S)))) ⟨T3 W.vals b',λd hf=>hf.filter,λ_ X b3 _ I b4=>kinds_filter b4 (W.valid (by decide) b3 X) I⟩ (o1.trans q3) (q4.mono S)
  exact⟨C k ks V o _ (hk.mono z) a1 z c1 fin,C k ks V o _ (hk.mono z) a1 z c1 fin⟩
 have b5:IntKind.i64.wrap (f+(n:Int))=f+(n:Int):=eH aD aD;rw[b5];refine⟨aD,sc,s,_,rfl,hs.mono z,h8,λA h2 a2 F=>?_⟩;have a3:=F.slen;obtain⟨T,hT⟩:∃T,(f+(n:Int)).tmod (sc.tables.len:Int)=T:=⟨_,rfl⟩
 have a4:=ahJ (a:=f+(n:Int)) (n:=sc.tables.len) aD aD;rw[hT]at F a3 a4⊢
 have b6:(jR s T).length<=8:=by
  unfold jR;split
  .simp
  .split
   .simp
   .rename_i t ht;simpa using h8 t (mem_of_getElem? ht)
 obtain⟨R,Y⟩:∃R,jR s T=R:=⟨_,rfl⟩
 have J:aJ s ps (.mk 1 T eW [] [] [] [] 0 [])=(R,0):=by rw[Pq a4.1 aD aD,Y]
 have Z:cDJ s->NK R:=λx=>by rw[<-Y];exact x T
 rw[Y]at F a3 b6;refine⟨λ⟨f',n',t,B,cols,i,E,o⟩=>f'=f/\n'=n/\B=A/\t=T/\i<=ks.length/\cols.length<=i/\(cols.length=i->I8 R (ks.take i) cols)/\PH.le h2 o/\bF m E cb/\aL E o cb,λ⟨_,_,_,_,_,i,_,_⟩=>ks.length-i,⟨(f,n,T,A,[],0,V,h2),⟨rfl,rfl,rfl,rfl,aD,by simp,λ_=>⟨by simp,by simp⟩,.refl _,o1,c1.mono a2⟩,MT⟩,?_⟩;rintro⟨f',n',t,A,cols,i,m2,H⟩ ⟨rfl,rfl,rfl,rfl,hi,d3,b7,G,o2,c2⟩;dsimp only;have g:PH.le h H:=(z.trans a2).trans G;refine aF (λU=>?_) (λc6=>?_)
 .obtain⟨x,o⟩:=eT b0 U;obtain⟨b1,b8,e1,r1⟩:=(hk.mono g).at o;refine⟨b1,b8,e1,aD,U,x,.imm (by grind),cb,_,rfl,c2,λfr m3 d4 d5 o3 c3=>?_⟩;refine⟨λ⟨f2,n2,t2,B,a',i2,L,y,j,E,hy⟩=>f2=f'/\n2=n'/\B=A/\t2=t/\a'=cols/\i2=i/\L=x/\E=m3/\hy=H/\j<=A.len/\y=fr,λ⟨_,_,_,_,_,_,_,_,j,_,_⟩=>A.len-j,⟨(f',n',t,A,cols,i,x,fr,0,m3,H),⟨rfl,rfl,rfl,rfl,rfl,rfl,rfl,rfl,rfl,aD,rfl⟩,MT⟩,?_⟩;rintro⟨f2,n2,t2,A,cols,i,L,y,j,m3,H⟩ ⟨rfl,rfl,rfl,rfl,rfl,rfl,rfl,rfl,rfl,hj,rfl⟩;dsimp only;refine aF (λc7=>?_) (λc8=>⟨(f2,n2,t2,_,_,_,_,_),⟨rfl,rfl,rfl,rfl,by show i+1<=ks.length;omega,by show cols.length<=i+1;omega,λe=>by grind,G,o2.trans o3,c3⟩,by grind,MT⟩);have b9:IntKind.i64.wrap (y+(j:Int))=y+(j:Int):=eH aD aD;rw[b9];have hm:=ahJ (a:=y+(j:Int)) (n:=Sl.len _) aD (show 0<A.len by omega);obtain⟨b2,c',e2,r2⟩:=(F.mono G).inb (n:=(y+(j:Int)).tmod (A.len:Int)) hm.1 aD;refine⟨aD,b2,c',e2,hm.1,hm.2,_,.imm (by simpa using r2),aC (λek=>⟨by simp;omega,by simp;omega,(f2,n2,t2,_,cols++[(y+(j:Int)).tmod (A.len:Int)],i+1,_,_),⟨rfl,rfl,rfl,rfl,by grind,by simp;omega,λe=>?_,G,o2.trans o3,c3⟩,by grind,?_⟩) (λ_=>⟨(f2,n2,t2,A,cols,i,L,y,j+1,m3,H),⟨rfl,rfl,rfl,rfl,rfl,rfl,rfl,rfl,rfl,by grind,rfl⟩,by grind,MT⟩)⟩
  .have e:(cols++[(y+(j:Int)).tmod (A.len:Int)]).length=i+1:=e;rw[length_append]at e;exact(b7 (by simpa using e)).snoc o (by simp only[B9,Bool.and_eq_true,decide_eq_true_eq];omega) (by grind)
  .rw[map_append];exact MT
 .have a5:n'+1<=sc.tables.len:=by omega
  have d6:i=ks.length:=by omega
  refine aC (λ_=>⟨(f',n'+1,m2,H),⟨f0,f1,a5,g,o2,c2⟩,by grind,MT⟩) (λ_=>aF (λ_=>⟨(f',n'+1,m2,H),⟨f0,f1,a5,g,o2,c2⟩,by grind,MT⟩) (λd7=>⟨t,rfl,cb,2,rfl,aD,aD,c2,λr m4 o4 c4=>?_⟩))
  have M:I8 R ks cols:=by
   grind
  refine aC (λ_=>?_) (λ_ s1 h5 a6 r5 s2 h6 a0 r6=>?_)
  .have fin:∀(w:PV)(p:Pred)(m':MH)(h':PH),PH.le H h'->dD h' p w->Br R ps 1 p->bF m4 m' cb->aL m' h' cb->∀(s:Sl)(c:PH),PH.le h' c->cD c s 21 [QV.enc ⟨1,t,fT,bR,bR,bR,bR,0,bR⟩]->∀(a7:Sl)(O:PH),PH.le c O->cD O a7 1 (cols.map eI)->∀(a8:Sl)(P:PH),PH.le O P->cD P a8 21 [QV.enc ⟨2,0,w,bR,bR,bR,bR,0,s⟩]->K (aQ ⟨3,0,fT,a7,bR,bR,bR,0,a8⟩) m' P:=λw p m' h' q1 q2 W q3 q4 s h5 S q6 s1 h6 q7 q8 s2 h7 q9 c0=>
    hK _ _ m' h7 ((((g.trans q1).trans S).trans q7).trans q9) (M4 (cols:=cols) ⟨q8.mono q9,aD⟩ (DS c0 (PC (q2.mono ((S.trans q7).trans q9)) (DS (q6.mono (q7.trans q9)) (AS _ t))))) ⟨T3 pK (T3 W.vals (Jz t)),λd _=>UW.three d (uE.one (uE.one uE.scan (by decide)) (by decide)),λc5 X _ hn I _=>M.kin (kinds_filter J (W.valid (by decide) (Z c5) X) aD) hn I⟩ ((o2.trans o4).trans q3) (q4.mono ((S.trans q7).trans q9))
   exact⟨C A R m4 H _ (F.mono G) aD g c4 fin,C A R m4 H _ (F.mono G) aD g c4 fin⟩
  .exact hK _ _ m4 h6 ((g.trans a6).trans a0) (M4 (cols:=cols) ⟨r5.mono a0,aD⟩ (DS (v:=⟨1,t,fT,bR,bR,bR,bR,0,bR⟩) r6 (AS _ t))) ⟨T3 pK (Jz t),λd _=>UW.three d (uE.mono (uE.one uE.scan (by decide)) (by decide) (by decide) (by decide)),λ_ _ _ hn I _=>M.kin J hn I⟩ (o2.trans o4) (c4.mono (a6.trans a0))
end Go.Ps
