/-
  Part 4 of a proof that a law of the given program returns true: a condition generator that is proved sound, and contracts of functions. No condition of its own. Own work, joined by a program (pack2.py).
-/
import Derived.Test.YtmecdlibgejboaaGreatDoorPc
set_option linter.unusedVariables false
set_option linter.unusedSimpArgs false
namespace Go.Ps
open Go Go.Vc Go.Proofs List Tryz
variable{K:bo}{m:MH}{h:PH}{s:mI}{ps:br}{cb:Nat}{sc:bY}{v:QV}{q:Query}{p:Pred}{l:br}{i:Nat}{N:Nat}{m':MH}{h':PH}{co:br}{gr:br}{od:bz}{w:Pred}{ta:Int}{li:Int}{xs:List bm}{sz:Nat}{k:Nat}{ks:List br}{rs:br}{r:Sl}{a:br}{b:Nat}
def fv(f:Nat):CV:=.val (.func (.func f) #[] #[])
def Sp:Vc.Spec:=λc m h K=>∃op,c=[cI op]/\
 branch (op==1) (K (fv 180) m h) (branch (op==2) (K (fv 181) m h) (branch (op==3) (K (fv 182) m h) (branch (op==4) (K (fv 183) m h) (branch (op==5) (K (fv 184) m h) (branch (op==6) (K (fv 185) m h) (branch (op==7) (K (fv 185) m h) (branch (op==8) (K (fv 185) m h) (branch (op==9) (K (fv 186) m h) (branch (op==10) (K (fv 187) m h) (K (.val .nilFunc) m h))))))))))
noncomputable def bqZ(N:Nat)(sc:bY)(p:Sl)(v:QV)(m:MH):Ctx:=
 dG [(77,Ak N),(142,Sp),(180,AT (· =1)),(181,AT (· =2)),(182,AT (· =3)),(183,AT (· =4)),(184,AT (· =5)),(185,AT (λop=>op=6\/op=7\/op=8)),(186,AT (· =9)),(187,AT (· =10))] [(3,{A:=Nat×ca×PH,st:=λ⟨i,c,h⟩=>bO 62 65 [(1,sv p),(3,.at (.ptr 3 0)),(5,.at (.ptr 5 0)),(8,.at (.ptr 8 0)),(21,sv v.args),(22,iv v.args.len),(23,iv i)] [(3,.cells 40 (sc.enc.map .val)),(5,.cells 35 (v.enc.map .val)),(8,.cells 197 ((sc.enc++eS p++v.enc).map .val++[.lst 41])),(41,.lst 30 1 (c.map eS))] m h})] [] [] false
noncomputable abbrev M5:bm:=jD Value.nilFunc
noncomputable abbrev nA(a:Nat):Value:=Value.func (Fn.func a) Di Di
attribute [push_cast] M5 nA
def K2(op:Int)(m:MH)(h:PH)(K:bo):Prop:=
  fR (λb e=>aY (bW m h b) (cM m e b (bA Value.nilFunc Value.nilFunc (bA Value.nilFunc Value.nilFunc (bA Value.nilFunc Value.nilFunc (bA Value.nilFunc Value.nilFunc (bA Value.nilFunc Value.nilFunc M5))))) 241) (Fp (λc E=>aA (Lo e b (qL c E 0)) (11<=c.size) (∀(d:MH),cM e d b (bA Value.nilFunc (nA 180) (bA (nA 181) (nA 182) (bA (nA 183) (nA 184) (bA (nA 185) (nA 185) (bA (nA 185) (nA 186) (xS (nA 187) 11 c.toList)))))) E->aZ op 0 (K (CV.val Value.nilFunc) d h) (fO op 11 (K (CV.val Value.nilFunc) d h) (aA (cF op) (op<11) (∃(y:Option Nat),aJ d h b (fX 0 op 1) (jD (a5Z y))/\K (CV.val (a5Z y)) d h)))))))
abbrev wG(a:Nat×ca×PH)(b:bY)(c:Sl)(d:QV)(e:Sl->bm)(g:NV->cq)(i:Query->Prop)(j:(br×Int)->Sl->PH->Prop):Prop:=bZ (kH a) 1 (mP a) (λx u=>∃(y:NV),DL (λf z n A=>aA (pY (bA (xU b) (xT b) (bA (dT c) (fD d.op) (bA (pX d) (pW d) (bA (fD (pZ d)) (iZ (jV d)) (e x)))))=g y) (AO u f z n A y) (aA (nK f) (i n) (∀(o:br×Int),fin o=AQ f z n A->∀(B:Sl)(t:PH),dA u t (Ints t B o.1) (j o B t)))))
noncomputable abbrev wJ(a:QV)(b:bm):bm:=bA (xR (jV a)) (fD (oP (jV a))) (bA (sB (jV a)) (oY (jV a)) (bA (iZ (gY a)) (xR (gY a)) (bA (fD (oP (gY a))) (sB (gY a)) b)))
attribute [push_cast] wG wJ
def Ve(N:Nat)(sc:bY)(p:Sl)(v:QV)(m:MH)(h:PH)(K:bo):Prop:=
  MR (λI x=>aA (I x) (aH p) (aA (eP 3) dY (aA hU (aH v.args) (aA (bG v.args) (bC x.1) (aA (bM sc) (fL v) (aA (eQ (oQ 197 (eZ (Iq sc) (Ip sc) (eZ (qK p) (jI v.op) (AH v::CD v (C0 v) v.on (eZ (CZ v) (qK v.args) (rG (At.lst 41)))))))) (rB 30 1 (mP x)) (dW m m h (kH x)))))))) (λI f x=>I x->aZ (↑x.1:Int) (aG v.args) (aK (λb o=>aA (aL v.args.a b o) (0<=(↑x.1:Int)) ((↑x.1:Int)<aG v.args/\∃(y:QV),aJ m (kH x) b (bK o x.1 21) y.enc/\Gi sc p y (kH x) (λj s e q=>aA (dQ (kH x) q j) (oR q N) (∀(g:Sl)(c:PH),dA (kH x) c (Ints c g (bH s e q).1) (cO (bH s e q).2 0 (K (CV.tup (gJ jG (CV.val (fD (bH s e q).2)))) m c) (aA (iL (mP x)) (dO (mP x)) (∃(d:Nat×
 ca×PH),aA (I d) (f d<f x) (aA (aH p) iM (aA dY hU (aA (aH v.args) (bG v.args) (aA (bD (fP (bE x.1 1)) d.1) (bM sc) (aA (fL v) (eQ (oQ 197 (eZ (Iq sc) (Ip sc) (eZ (qK p) (jI v.op) (AH v::CD v (C0 v) v.on (eZ (CZ v) (qK v.args) (rG (At.lst 41)))))))) (dK (Option.some (Own.lst 30 1 (iN (mP x) g))=Option.some (Own.lst 30 1 (mP d))) m m c (kH d))))))))))))))) (yX v.op (λo=>dN (o==1) (wG x sc p v (λs=>wJ v (AI (gY v) v v.on s)) (λn=>jX n (hX n (hP n))) (λq=>q.op=1) (λr s c=>mR (r.2 !=0) (K (CV.tup (aW jG r.2)) m c) (aG s) 12 (K (CV.tup (aW jG 2)) m c) (K (CV.tup (aW (rC s) 0)) m c))) (o==2) (wG x sc p v (λs=>wJ v (AI (gY v) v v.on s)) (λn=>jX n
 (hX n (hP n))) (λq=>q.op=2) (λr s c=>mR (r.2 !=0) (K (CV.tup (aW jG r.2)) m c) (aG s) 12 (K (CV.tup (aW jG 2)) m c) (K (CV.tup (aW (rC s) 0)) m c))) (dN (o==3) (wG x sc p v (λs=>wJ v (AI (gY v) v v.on s)) (λn=>jX n (hX n (hP n))) (λq=>q.op=3) (λr s c=>mR (r.2 !=0) (K (CV.tup (aW jG r.2)) m c) (aG s) 12 (K (CV.tup (aW jG 2)) m c) (K (CV.tup (aW (rC s) 0)) m c))) (o==4) (wG x sc p v (λs=>wJ v (AI (gY v) v v.on s)) (λn=>jX n (hX n (hP n))) (λq=>q.op=4) (λr s c=>mR (r.2 !=0) (K (CV.tup (aW jG r.2)) m c) (aG s) 12 (K (CV.tup (aW jG 2)) m c) (K (CV.tup (aW (rC s) 0)) m c))) (dN (o==5) (wG x sc p v (λs=>wJ v (AI (gY v) v v.on s)) (λn=>jX n (hX n (hP
 n))) (λq=>q.op=5) (λr s c=>mR (r.2 !=0) (K (CV.tup (aW jG r.2)) m c) (aG s) 12 (K (CV.tup (aW jG 2)) m c) (K (CV.tup (aW (rC s) 0)) m c))) (o==6) (wG x sc p v (λs=>wJ v (AI (gY v) v v.on s)) (λn=>jX n (hX n (hP n))) (λq=>q.op=6\/q.op=7\/q.op=8) (λr s c=>mR (r.2 !=0) (K (CV.tup (aW jG r.2)) m c) (aG s) 12 (K (CV.tup (aW jG 2)) m c) (K (CV.tup (aW (rC s) 0)) m c))) (dN (o==7) (wG x sc p v (λs=>wJ v (AI (gY v) v v.on s)) (λn=>jX n (hX n (hP n))) (λq=>q.op=6\/q.op=7\/q.op=8) (λr s c=>mR (r.2 !=0) (K (CV.tup (aW jG r.2)) m c) (aG s) 12 (K (CV.tup (aW jG 2)) m c) (K (CV.tup (aW (rC s) 0)) m c))) (o==8) (wG x sc p v (λs=>wJ v (AI (gY v) v v.on s)) (λn=>jX n
 (hX n (hP n))) (λq=>q.op=6\/q.op=7\/q.op=8) (λr s c=>mR (r.2 !=0) (K (CV.tup (aW jG r.2)) m c) (aG s) 12 (K (CV.tup (aW jG 2)) m c) (K (CV.tup (aW (rC s) 0)) m c))) (dN (o==9) (wG x sc p v (λs=>wJ v (AI (gY v) v v.on s)) (λn=>jX n (hX n (hP n))) (λq=>q.op=9) (λr s c=>mR (r.2 !=0) (K (CV.tup (aW jG r.2)) m c) (aG s) 12 (K (CV.tup (aW jG 2)) m c) (K (CV.tup (aW (rC s) 0)) m c))) (o==10) (wG x sc p v (λs=>wJ v (AI (gY v) v v.on s)) (λn=>jX n (hX n (hP n))) (λq=>q.op=10) (λr s c=>mR (r.2 !=0) (K (CV.tup (aW jG r.2)) m c) (aG s) 12 (K (CV.tup (aW jG 2)) m c) (K (CV.tup (aW (rC s) 0)) m c))) (K (CV.tup (aW jG 100)) m (kH x)))))))))
theorem Yi:bk 142 Sp:=by
 refine ED func142 ?_;rintro t m h K ⟨op,rfl,f⟩;refine⟨pF [] [] [] [] [241] [] false,rfl,aF,K2 op m h (kA h K),bf,?_⟩;show K2 op m h (kA h K);dsimp only[K2,push_cast];intro b J o g;refine⟨_,_,⟨g.at_⟩,bh,λu j=>?_⟩;have c:Sub m u:=((Sub.refl m).upd o.m_ g.other).upd o.m_ j.other;have e:=j.at_
 have d:∀k,¬(1<=op/\op<=10)->op=k->K (.val .nilFunc) m h:=λk L _=>by
  have:(op==1)=false/\(op==2)=false/\(op==3)=false/\(op==4)=false/\(op==5)=false/\(op==6)=false/\(op==7)=false/\(op==8)=false/\(op==9)=false/\(op==10)=false:=by
   simp only[beq_eq_false_iff_ne];omega
  obtain⟨y,z,A,B,C,D,E,F,G,n⟩:=this;rw[y,z,A,B,C,D,E,F,G,n]at f;exact f
 refine aE (λH=>.sub c (d _ aC rfl)) (λH=>aE (λI=>.sub c (d _ aC rfl)) (λI=>⟨aC,aC,?_⟩));have:op=0\/op=1\/op=2\/op=3\/op=4\/op=5\/op=6\/op=7\/op=8\/op=9\/op=10:=by omega
 rcases this with rfl|rfl|rfl|rfl|rfl|rfl|rfl|rfl|rfl|rfl|rfl
 .exact⟨none,.lent _ _ _ e rfl,.sub c (d 0 aC rfl)⟩
 .exact⟨some 180,.lent _ _ _ e rfl,.sub c f⟩
 .exact⟨some 181,.lent _ _ _ e rfl,.sub c f⟩
 .exact⟨some 182,.lent _ _ _ e rfl,.sub c f⟩
 .exact⟨some 183,.lent _ _ _ e rfl,.sub c f⟩
 .exact⟨some 184,.lent _ _ _ e rfl,.sub c f⟩
 .exact⟨some 185,.lent _ _ _ e rfl,.sub c f⟩
 .exact⟨some 185,.lent _ _ _ e rfl,.sub c f⟩
 .exact⟨some 185,.lent _ _ _ e rfl,.sub c f⟩
 .exact⟨some 186,.lent _ _ _ e rfl,.sub c f⟩
 .exact⟨some 187,.lent _ _ _ e rfl,.sub c f⟩
theorem XT:bk 180 (AT (· =1)):=by
 refine iB func180 ?_;rintro d m h K ⟨n,s,ps,q,ks,rfl,e,f,c,g⟩;obtain⟨op,ta,w,co,on,gr,od,li,args⟩:=q;refine⟨dG [(215,CS),(81,xO)] [] [] [] false,rfl,(aD vG (aD KA aF)),GZ n m h K,bf,?_⟩;dsimp only[GZ,push_cast];cases (show op=1 from c);exact bzJ e f ⟨g⟩
theorem XS:bk 181 (AT (· =2)):=by
 refine iB func181 ?_;rintro d m h K ⟨n,s,ps,q,ks,rfl,e,g,c,f⟩;obtain⟨op,ta,w,co,on,gr,od,li,args⟩:=q;refine⟨dG [(215,CS),(98,sJ)] [] [] [] false,rfl,(aD vG (aD Kz aF)),GY n m h K,bf,?_⟩;dsimp only[GY,push_cast];cases (show op=2 from c);exact bzZ e ⟨f⟩
theorem XR:bk 182 (AT (· =3)):=by
 refine iB func182 ?_;rintro d m h K ⟨n,s,ps,q,ks,rfl,e,g,c,f⟩;obtain⟨op,ta,w,co,on,gr,od,li,args⟩:=q;refine⟨aUX n m h,rfl,(aD vG aF),GX n m h K,bf,?_⟩;dsimp only[GX,push_cast];cases (show op=3 from c);exact bzX e ⟨f⟩
theorem XQ(c:bk 106 JT):bk 183 (AT (· =4)):=by
 refine iB func183 ?_;rintro e m h K ⟨n,s,ps,q,ks,rfl,f,j,d,g⟩;obtain⟨op,ta,w,co,on,gr,od,li,args⟩:=q;refine⟨dG [(216,Pw),(106,JT)] [] [] [] false,rfl,(aD OO (aD c aF)),GW n m h K,bf,?_⟩;dsimp only[GW,push_cast];cases (show op=4 from d);exact bzQ f ⟨g⟩
theorem XP:bk 184 (AT (· =5)):=by
 refine iB func184 ?_;rintro d m h K ⟨n,s,ps,q,ks,rfl,e,g,c,f⟩;obtain⟨op,ta,w,co,on,gr,od,li,args⟩:=q;refine⟨dG [(216,Pw)] [] [] [] false,rfl,(aD OO aF),GV n m h K,bf,?_⟩;dsimp only[GV,push_cast];cases (show op=5 from c);exact byJ e ⟨f⟩
theorem XO:bk 185 (AT (λop=>op=6\/op=7\/op=8)):=by
 refine iB func185 ?_;rintro d m h K ⟨n,s,ps,q,ks,rfl,e,g,c,f⟩;obtain⟨op,ta,w,co,on,gr,od,li,args⟩:=q;refine⟨dG [(215,CS),(104,BR)] [] [] [] false,rfl,(aD vG (aD EL aF)),KU n m h K,bf,?_⟩;exact byZ c e ⟨f⟩
theorem XN:bk 186 (AT (· =9)):=by
 refine iB func186 ?_;rintro d m h K ⟨n,s,ps,q,ks,rfl,e,g,c,f⟩;obtain⟨op,ta,w,co,on,gr,od,li,args⟩:=q;refine⟨dG [(215,CS),(217,Pq),(218,Pr)] [] [] [] false,rfl,(aD vG (aD ON (aD OM aF))),GU n m h K,bf,?_⟩;dsimp only[GU,push_cast];cases (show op=9 from c);exact byX e ⟨f⟩
theorem XM:bk 187 (AT (· =10)):=by
 refine iB func187 ?_;rintro d m h K ⟨n,s,ps,q,ks,rfl,e,g,c,f⟩;obtain⟨op,ta,w,co,on,gr,od,li,args⟩:=q;refine⟨dG [(215,CS),(104,BR),(217,Pq),(218,Pr)] [] [] [] false,rfl,(aD vG (aD EL (aD ON (aD OM aF)))),GS n m h K,bf,?_⟩;dsimp only[GS,push_cast];cases (show op=10 from c);exact byQ e ⟨f⟩
theorem ZE(G:bk 106 JT):∀N,bk 77 (Ak N)
 |0=>by
  refine eV (fn:=Tryz.f77) (c:=cC Tryz.f77) func77 rfl bh ?_;rintro W m h K ⟨sc,p,v,s,ps,q,rfl,_,_,_,_,hN,_⟩;omega
 |N+1=>by
  refine iB func77 ?_;rintro W m h K ⟨sc,p,v,s,ps,q,rfl,hs,B,hp,hq,hN,A⟩;refine⟨bqZ N sc p v m,rfl,(aD (ZE G N) (aD Yi (aD XT (aD XS (aD XR (aD (XQ G) (aD XP (aD XO (aD XN (aD XM aF)))))))))),Ve N sc p v m h K,bf,?_⟩;dsimp only[Ve,push_cast];have L:=@By q;have X:=hq;obtain⟨op,ta,w,co,on,gr,od,li,args⟩:=q;have x:=hq.parts;have C:=x.op_;have hl:=x.args_.slen;have a1:=x.args_.len;simp only[Query.args]at L;simp only[bH]at A;refine⟨λ⟨i,H,M⟩=>i<=args.length/\PH.le h M/\∃ks,Slices M H ks/\(args.take i).map (bH s ps)=ks.map (λk=>(k,0)),λ⟨i,_,_⟩=>args.length-i,⟨(0,[],h),⟨aC,.refl _,[],⟨rfl,λj s k O=>by simp at O⟩,bg⟩,MT⟩,?_⟩;rintro⟨i,H,M⟩ ⟨hi,t,ks,P,z⟩;have Y:ks.length=i:=by have:=congrArg List.length z;simp at this;omega
  have Z:H.length=i:=by rw[P.1,Y]
  dsimp only;refine aE (λI=>?_) (λa2=>?_)
  .obtain⟨S,E⟩:=eN hl I;obtain⟨b1,o1,u,a',r1,a0⟩:=(x.args_.mono t).at E;refine⟨b1,o1,a',aC,I,u,.imm r1,sc,p,u,s,ps,S,rfl,hs.mono t,B,hp.mono t,a0,?_,λg h' d F=>aB (λO=>?_) (λO=>?_)⟩
   .have:=L (mem_of_getElem? E);omega
   .have T:(bH s ps S).2≠0:=bj O
    rw[Fx T z E rfl]at A;exact A.err (t.trans d) (if_neg T)
   .have T:(bH s ps S).2=0:=bj O
    refine⟨by simp;omega,by simp;omega,(i+1,H++[g],h'),⟨aC,t.trans d,ks++[(bH s ps S).1],(P.mono d).snoc F,?_⟩,by show args.length-(i+1)<args.length-i;omega,?_⟩
    .rw[iI E,z,map_append];simp only[map_cons,map_nil];rw[<-T]
    .rw[map_append];exact MT
  .rw[take_of_length_le aC]at z;rw[vF z]at A;simp only[if_true]at A;have A:KR K m h (AQ s ps (.mk op ta w co on gr od li args) ks):=A
   have n:∀(g:Sl)(h':PH),PH.le M h'->cZ h' g 1 (H.map eS)->AO h' s ps (.mk op ta w co on gr od li args) ks ⟨sc,p,v,g⟩:=λg h' d f=>by
    refine⟨(hs.mono t).mono d,(hp.mono t).mono d,(X.mono t).mono d,⟨⟨H,f,P.1.symm,λj k U=>?_⟩,aC⟩,λk U=>?_⟩
    .have V:j<H.length:=by rw[P.1];exact(List.getElem?_eq_some_iff.1 U).1
     exact⟨H[j],getElem?_eq_getElem V,(P.2 j _ _ (getElem?_eq_getElem V) U).mono d⟩
    .obtain⟨j,V⟩:=mem_iff_getElem?.1 U;have:=Ks z j
     rwa [getD_eq_getElem?_getD,V]at this
   have o:∀(h':PH),PH.le M h'->∀r,fin r=AQ s ps (.mk op ta w co on gr od li args) ks->∀(g:Sl)(y:PH),PH.le h' y->Ints y g r.1->
    branch (r.2 !=0) (K (.tup [.val (.slice none 0 0),.val (.int .i64 r.2)]) m y) (branch (decide ((g.len:Int)>12)) (K (.tup [.val (.slice none 0 0),.val (.int .i64 2)]) m y) (K (.tup [.val (.slice g.a g.len g.cap),.val (.int .i64 0)]) m y)):=by
    intro h' d r hr g y Q F;have J:PH.le h y:=(t.trans d).trans Q;rw[<-hr]at A;have Z:=F.slen;refine aB (λD=>?_) (λD=>aE (λd2=>?_) (λd2=>?_))
    .have D:r.2≠0:=bj D
     exact A.err J (by unfold fin;rw[if_neg D])
    .have D:r.2=0:=bj D
     exact A.big (l:=r.1) J (by unfold fin;rw[if_pos D]) aC
    .have D:r.2=0:=bj D
     exact A.ok (l:=r.1) J (by unfold fin;rw[if_pos D]) aC F.row
   refine⟨v.op,rfl,?_⟩;rw[C];refine aB (λc1 g h' d f=>⟨⟨sc,p,v,g⟩,s,ps,_,ks,by rw[<-C],n g h' d f,B,beq_iff_eq.1 c1,o h' d⟩) (λc1=>?_);refine aB (λc2 g h' d f=>⟨⟨sc,p,v,g⟩,s,ps,_,ks,by rw[<-C],n g h' d f,B,beq_iff_eq.1 c2,o h' d⟩) (λc2=>?_);refine aB (λc3 g h' d f=>⟨⟨sc,p,v,g⟩,s,ps,_,ks,by rw[<-C],n g h' d f,B,beq_iff_eq.1 c3,o h' d⟩) (λc3=>?_);refine aB (λc4 g h' d f=>⟨⟨sc,p,v,g⟩,s,ps,_,ks,by rw[<-C],n g h' d f,B,beq_iff_eq.1 c4,o h' d⟩) (λc4=>?_);refine aB (λc5 g h' d f=>⟨⟨sc,p,v,g⟩,s,ps,_,ks,by rw[<-C],n g h' d f,B,beq_iff_eq.1 c5,o h' d⟩) (λc5=>?_);refine aB (λc6 g h' d f=>⟨⟨sc,p,v,g⟩,s,ps,_,ks,by rw[<-C],n g h' d f,B,.inl (beq_iff_eq.1 c6),o h' d⟩) (λc6=>?_);refine aB (λc7 g h' d f=>⟨⟨sc,p,v,g⟩,s,ps,_,ks,by rw[<-C],n g h' d f,B,.inr (.inl (beq_iff_eq.1 c7)),o h' d⟩) (λc7=>?_);refine aB (λc8 g h' d f=>⟨⟨sc,p,v,g⟩,s,ps,_,ks,by rw[<-C],n g h' d f,B,.inr (.inr (beq_iff_eq.1 c8)),o h' d⟩) (λc8=>?_);refine aB (λc9 g h' d f=>⟨⟨sc,p,v,g⟩,s,ps,_,ks,by rw[<-C],n g h' d f,B,beq_iff_eq.1 c9,o h' d⟩) (λc9=>?_);refine aB (λR g h' d f=>⟨⟨sc,p,v,g⟩,s,ps,_,ks,by rw[<-C],n g h' d f,B,beq_iff_eq.1 R,o h' d⟩) (λR=>A.err t ?_);refine xG λe=>?_;have:arity op= -1:=by simp only[arity];simp only[*,Bool.or_false,Bool.false_or,Bool.or_true,Bool.true_or,Bool.and_true,Bool.true_and,Bool.and_false,Bool.false_and,Bool.not_true,Bool.not_false,Bool.false_eq_true,if_true,if_false, ↓reduceIte]
   have:=e.1;simp only[Query.op]at this;omega
def jM:PV:=⟨0,0,dR,dR,⟨none,0,0⟩⟩
theorem SQ(l:bx):eR 2 (l.map uJ):=by
 constructor
 .intro e c;obtain⟨x,_,rfl⟩:=mem_map.1 c;rfl
 .intro e c u d;obtain⟨x,_,rfl⟩:=mem_map.1 c;simp[uJ]at d;rcases d with rfl|rfl<;>rfl
theorem SP(l:bz):eR 2 (l.map B7):=by
 constructor
 .intro e c;obtain⟨x,_,rfl⟩:=mem_map.1 c;rfl
 .intro e c u d;obtain⟨x,_,rfl⟩:=mem_map.1 c;simp[B7]at d;rcases d with rfl|rfl<;>rfl
theorem NL{n c:Nat}{α:Type}{enc:α->bm}{l:List α}(r:cZ h ⟨none,n,c⟩ sz (l.map enc)):l=[]:=by
 rcases r.row with e|⟨b,o,e,_⟩
 .simpa using e
 .cases e
def bP(h:PH)(s:Sl)(l:bu):Prop:=bN h 3 VV.enc Eq s l
theorem bP.mono{s:Sl}{l:bu}(x:bP h s l)(le:PH.le h h'):bP h' s l:=bN.mono x le λ_ _ e=>e
def CU:QV:=⟨0,0,jM,⟨none,0,0⟩,⟨none,0,0⟩,⟨none,0,0⟩,⟨none,0,0⟩,0,⟨none,0,0⟩⟩
theorem aHX(l:cu):eR 21 (l.map QV.enc):=by
 constructor
 .intro e c;obtain⟨x,_,rfl⟩:=mem_map.1 c;rfl
 .intro e c u d;obtain⟨x,_,rfl⟩:=mem_map.1 c;simp[QV.enc]at d;rcases d with rfl|rfl|rfl|rfl|rfl|rfl|rfl|rfl|rfl|rfl|rfl|rfl|rfl|rfl|rfl|rfl|rfl|rfl|rfl|rfl|rfl<;>rfl
mutual
def aBX:Pred->Nat
 |.mk _ _ _ _ args=>1+JF args
def JF:cm->Nat
 |[]=>0
 |p::ps=>aBX p+JF ps
end
mutual
def YK:Pred->Nat
 |.mk _ _ _ _ args=>1+L7 args
def L7:cm->Nat
 |[]=>0
 |p::ps=>max (YK p) (L7 ps)
end
mutual
theorem N6:∀(p:Pred)(n:Int),oM p n<=n+aBX p
 |.mk _ _ _ _ args,n=>by
  have:=LM args (n+1);simp only[oM,aBX];omega
theorem LM:∀(ps:cm)(n:Int),kX ps n<=n+JF ps
 |[],n=>by simp[kX,JF]
 |p::ps,n=>by
  have c:=N6 p n;have d:=LM ps (oM p n);simp only[kX,JF];split<;>omega
end
mutual
theorem Ma:∀(p:Pred)(n:Nat),YK p<=n->mF p n=false
 |.mk _ _ _ _ args,0,h=>by simp only[YK]at h;omega
 |.mk _ _ _ _ args,n+1,h=>by
  simp only[YK]at h;simp only[mF];exact JB args n aC
theorem JB:∀(ps:cm)(n:Nat),L7 ps<=n->uH ps n=false
 |[],_,_=>rfl
 |p::ps,n,h=>by
  simp only[L7]at h;simp only[uH,Ma p n aC,JB ps n aC,Bool.or_false]
end
def gF:Nat->Nat
 |0=>1
 |d+1=>1+3*gF d
structure Pp(d:Nat)(p:Pred):Prop where
 n:aBX p<=gF d
 d:YK p<=d+1
theorem bOJ:∀d,1<=gF d
 |0=>Nat.le_refl _
 |d+1=>by rw[gF];omega
theorem Pp.leaf(d:Nat){op c:Int}{a b:OV}:Pp d (.mk op c a b []):=⟨by simp[aBX,JF,bOJ],by simp[YK,L7]⟩
theorem Pp.node{d:Nat}{op c:Int}{a b:OV}{ps:cm}(h:∀p∈ps,Pp d p)(g:ps.length<=3):Pp (d+1) (.mk op c a b ps):=by
 have j:∀l:cm,(∀p∈l,Pp d p)->JF l<=l.length*gF d/\L7 l<=d+1:=λl=>by
  induction l with
  |nil=>intro _;simp[JF,L7]
  |cons p l o=>
   intro f;have t:=o λx u=>f x (mem_cons_of_mem _ u);have e:=f p (mem_cons_self ..);have:=e.n;have:=e.d;simp only[JF,L7,length_cons,Nat.add_mul,Nat.one_mul];omega
 have t:=j ps h;have e:ps.length*gF d<=3*gF d:=Nat.mul_le_mul_right _ g;exact⟨by simp only[aBX,gF];omega,by simp only[YK];omega⟩
mutual
def Bl:Query->Nat
 |.mk _ _ _ _ _ _ _ _ args=>1+xI args
def xI:ce->Nat
 |[]=>0
 |q::qs=>Bl q+xI qs
end
mutual
def O8:Query->Nat
 |.mk _ _ _ _ _ _ _ _ args=>1+FJ args
def FJ:ce->Nat
 |[]=>0
 |q::qs=>max (O8 q) (FJ qs)
end
mutual
def nI(c:Nat):Query->Nat
 |.mk op _ _ _ _ _ _ _ args=>if op=1 then c else if op=4 then AD c args else Dd c args
def Dd(c:Nat):ce->Nat
 |[]=>0
 |q::qs=>nI c q+Dd c qs
def AD(c:Nat):ce->Nat
 |[]=>1
 |q::qs=>nI c q*AD c qs
end
mutual
theorem N4:∀(p:Query)(n:Int),oL p n<=n+Bl p/\(oL p n<=24->oL p n=n+Bl p)
 |.mk _ _ _ _ _ _ _ _ args,n=>by
  have:=LL args (n+1);simp only[oL,Bl];omega
theorem LL:∀(ps:ce)(n:Int),kK ps n<=n+xI ps/\(kK ps n<=24->kK ps n=n+xI ps)
 |[],n=>by simp[kK,xI]
 |p::ps,n=>by
  have c:=N4 p n;have d:=LL ps (oL p n);simp only[kK,xI];split<;>omega
end
theorem Qd(h:lP q=true):Bl q<=24:=by
 simp only[lP,Bool.and_eq_true,decide_eq_true_eq]at h;have:=(N4 q 0).2 h.1;omega
def gN:Nat->Nat
 |0=>3
 |d+1=>2+2*gN d
def gD:Nat->Nat
 |0=>3
 |d+1=>2+gD d
def gB:Nat->Nat
 |0=>4
 |d+1=>gB d*gB d
structure rD(n d b:Nat)(q:Query):Prop where
 n:Bl q<=n
 d:O8 q<=d
 b:nI 4 q<=b
def PM(d:Nat)(q:Query):Prop:=rD (gN d) (gD d) (gB d) q
def Bn:Nat->Query->Prop
 |0,q=>rD 1 1 4 q
 |d+1,q=>rD (1+2*gN d) (1+gD d) (gB d*gB d) q
theorem rD.mono{n d c e f:Nat}(x:rD n d b q)(g:n<=c)(j:d<=e)(o:b<=f):rD c e f q:=⟨Nat.le_trans x.n g,Nat.le_trans x.d j,Nat.le_trans x.b o⟩
theorem CM:∀d,3<=gN d/\3<=gD d/\4<=gB d
 |0=>bh
 |d+1=>by
  obtain⟨e,f,c⟩:=CM d;have:4*4<=gB d*gB d:=Nat.mul_le_mul c c;simp only[gN,gD,gB];omega
theorem Bn.arg:∀{d:Nat}{q:Query},Bn d q->PM d q
 |0,_,x=>rD.mono x bh bh bh
 |d+1,_,x=>rD.mono x (by simp only[gN];omega) (by simp only[gD];omega) (by simp only[gB];omega)
theorem rD.one{n d:Nat}(x:rD n d b q)(c:4<=b){op:Int}{on:bx}:rD (n+1) (d+1) b (.mk op ta w co on gr od li [q]):=by
 obtain⟨e,f,g⟩:=x;refine⟨by simp only[Bl,xI];omega,by simp only[O8,FJ];omega,?_⟩;simp only[nI,AD,Dd];split
 .exact c
 .split<;>omega
theorem rD.two{n d f g c:Nat}{p:Query}(x:rD n d b q)(y:rD f g c p)(j:4<=b)(e:4<=c){op:Int}{on:bx}:rD (1+n+f) (1+max d g) (b*c) (.mk op ta w co on gr od li [q,p]):=by
 obtain⟨z,A,o⟩:=x;obtain⟨B,C,t⟩:=y;have D:b*4<=b*c:=Nat.mul_le_mul_left _ e;have E:4*c<=b*c:=Nat.mul_le_mul_right _ j;have u:nI 4 q*nI 4 p<=b*c:=Nat.mul_le_mul o t;refine⟨by simp only[Bl,xI];omega,by simp only[O8,FJ];omega,?_⟩;simp only[nI,AD,Dd];split
 .omega
 .split
  .simpa using u
  .omega
theorem rD.scan{on:bx}:rD 1 1 4 (.mk 1 ta w co on gr od li []):=⟨by simp[Bl,xI],by simp[O8,FJ],by simp[nI]⟩
theorem Bn.node{d:Nat}{op:Int}{on:bx}{args:ce}(h:∀a∈args,PM d a)(e:args.length<=2):Bn (d+1) (.mk op ta w co on gr od li args):=by
 have c:=(CM d).2.2;have f:gB d*4<=gB d*gB d:=Nat.mul_le_mul_left _ c
 match args,h,e with
 |[],_,_=>exact⟨by simp only[Bl,xI];omega,by simp only[O8,FJ];omega,by simp only[nI,AD,Dd];split;omega;split<;>omega⟩
 |[q],h,_=>exact rD.mono (rD.one (h q bg) c) (by have:=(CM d).1;omega) aC aC
 |[q,p],h,_=>exact rD.mono (rD.two (h q bg) (h p bg) c c) aC aC (Nat.le_refl _)
theorem Bn.filter{d:Nat}(x:Bn d q){op:Int}{on:bx}:PM d (.mk op ta w co on gr od li [q]):=by
 cases d with
 |zero=>exact rD.mono (rD.one x bh) bh bh bh
 |succ d=>
  have c:=(CM d).2.2;have e:gB d*4<=gB d*gB d:=Nat.mul_le_mul_left _ c;exact rD.mono (rD.one x aC) (by simp only[gN];omega) (by simp only[gD];omega) (by simp only[gB];omega)
theorem PM.three(d:Nat)(x:rD 3 3 4 q):PM d q:=rD.mono x (CM d).1 (CM d).2.1 (CM d).2.2
theorem Bn.mono{q:Query}:∀{d e:Nat},Bn d q->d<=e->Bn e q
 |d,0,x,h=>by have:d=0:=by omega
              subst this;exact x
 |d,e+1,x,h=>by
  by_cases c:d=e+1
  .subst c;exact x
  .have y:=Bn.arg (x.mono (e:=e) aC);have f:=(CM e).2.2;have g:gB e*1<=gB e*gB e:=Nat.mul_le_mul_left _ aC;exact rD.mono y aC aC aC
noncomputable abbrev zH(a:Int):bm:=jD (Value.int IntKind.u8 a)
abbrev jU(a:Prop):Prop:=a->False
attribute [push_cast] zH jU
def Vu(cb:Nat)(n:Int)(m:MH)(h:PH)(K:bo):Prop:=
  ∃(y:Int),aJ m h cb 1 (bL y)/\∃(f:Sl),aJ m h cb 0 (aM f)/\fO y (aG f) (K (fQ 0) m h) (aZ n 1 (K (fQ 0) m h) (uN m h cb 1 (λj=>sP m cb 1 (bL (eT (j+1))) (λc=>∃(e:Sl),aJ c h cb 0 (aM e)/\∃(d:Int),aJ c h cb 1 (bL d)/\aK (λb o=>aA (aL e.a b o) (0<=eT (d-1)) (eT (d-1)<aG e/\∃(g:UInt8),aA (aJ c h b (fX o (eT (d-1)) 1) (zH (wZ g))) (jU (n=0)) (K (fQ (Int.tmod (eT (wZ g)) n)) c h)))))))
theorem bRZ(cb:Nat)(n:Int)(m:MH)(h:PH)(K:bo):Vu cb n m h K=(sC (ctx [] [] [] [] false) Tryz.f30 (cC Tryz.f30) (entry 40 [.val (.pointer (some ⟨cb,0,none⟩)),.val (.int .i64 n)] m h) K):=bf
def bDQ:Vc.Spec:=λc m h K=>∃(cb:Nat)(n:Int)(r:ci),c=[.val (.pointer (some ⟨cb,0,none⟩)),.val (.int .i64 n)]/\Y9 m h cb r/\
 ∀m',bI m m' cb->Y9 m' h cb (Wb n r).2->K (.val (.int .i64 (Wb n r).1)) m' h
theorem QE:bk 30 bDQ:=by
 refine eV (fn:=Tryz.f30) (c:=cC Tryz.f30) func30 rfl bh ?_;rintro G m h K ⟨cb,n,r,rfl,⟨s,d,k,y,e,E,f,rfl⟩,t⟩;refine⟨ctx [] [] [] [] false,rfl,aF,?_⟩;show sC (ctx [] [] [] [] false) Tryz.f30 (cC Tryz.f30) (entry 40 [.val (.pointer (some ⟨cb,0,none⟩)),.val (.int .i64 n)] m h) K;rw[<-bRZ];dsimp only[Vu,push_cast];have H:s.len=d.length:=by have:=e.len;simpa[aU]using this
 refine⟨k,.of_m y rfl,s,.of_m y rfl,aE (λI=>?_) (λA=>aE (λB=>?_) (λB=>?_))⟩
 .have u:d.drop k=[]:=by simp;omega
  rw[u]at t;exact t m ⟨λ_ _=>rfl⟩ ⟨s,d,k,y,e,E,f,by rw[u];rfl⟩
 .have g:k<d.length:=by omega
  have u:d.drop k=d[k]::d.drop (k+1):=drop_eq_getElem_cons g;rw[u]at t;simp only[Wb,if_pos B]at t;refine t m ⟨λ_ _=>rfl⟩ ⟨s,d,k,y,e,E,f,u.symm⟩
 .have g:k<d.length:=by omega
  have u:d.drop k=d[k]::d.drop (k+1):=drop_eq_getElem_cons g;rw[u]at t;simp only[Wb,if_neg B]at t;have J:IntKind.i64.wrap ((k:Int)+1)=((k+1:Nat):Int):=by rw[eG]<;>omega
  have C:IntKind.i64.wrap (((k+1:Nat):Int)-1)=(k:Int):=by rw[eG]<;>omega
  refine⟨k,.of_m y rfl,_,_,⟨y⟩,bg,λm' F=>?_⟩;have j:=F.at_;rw[J]at j;simp only[splice]at j;obtain z|⟨b,o,L,D⟩:=e.row
  .exfalso;have:=congrArg List.length z;simp[aU]at this;subst this;simp at g
  refine⟨s,.of_m j rfl,((k+1:Nat):Int),.of_m j rfl,b,o,L,?_⟩;rw[C];refine⟨aC,aC,d[k],.imm ?_,aC,?_⟩
  .have:=D k [.int .u8 d[k].toNat] (by simp[aU,g]);simpa using this
  .have A:d[k].toNat<256:=d[k].toNat_lt;rw[eG aC aC,Int.tmod_eq_emod_of_nonneg aC];refine t m' ⟨F.other⟩ ⟨s,d,k+1,j,e,aC,f,rfl⟩
def aR(m:MH)(h:PH)(cb:Nat):Prop:=∃r,Y9 m h cb r
theorem aR.mono(x:aR m h cb)(le:PH.le h h'):aR m h' cb:=by
 obtain⟨r,s,c,k,d,e,f⟩:=x;exact⟨r,s,c,k,d,e.mono le,f⟩
theorem bI.refl(m:MH)(cb:Nat):bI m m cb:=⟨λ_ _=>rfl⟩
theorem bI.trans{d:MH}(a:bI m m' cb)(b:bI m' d cb):bI m d cb:=⟨λc e=>(b.other c e).trans (a.other c e)⟩
def vP(n:Int):Prop:= -9223372036854775808<=n/\n<=9223372036854775807
structure Lj(v:VV):Prop where
 int_:vP v.int
 text_:v.text.size<=64
def KOk(k:Int):Prop:=k=3\/k=4\/k=5
def abX(k:Int)(v:VV):Prop:=KOk k->lD v=true/\v.kind=k
def JR:Vc.Spec:=λc m h K=>∃cb n,c=[cP cb,cI n]/\aR m h cb/\∀k m',0<=k->(k<n\/k=0)->bI m m' cb->aR m' h cb->K (cI k) m' h
def PK:Vc.Spec:=λc m h K=>∃cb n,c=[cP cb,cI n]/\0<=n/\n<=1000/\aR m h cb/\∀r m',bI m m' cb->aR m' h cb->K (cB r) m' h
def aaX:Vc.Spec:=λc m h K=>∃cb,c=[cP cb]/\aR m h cb/\∀k m',vP k->bI m m' cb->aR m' h cb->K (cI k) m' h
def bFX:Vc.Spec:=λc m h K=>∃cb,c=[cP cb]/\aR m h cb/\∀t m',t.size<=64->bI m m' cb->aR m' h cb->K (P3 t) m' h
def TG:Vc.Spec:=λd m h K=>∃cb c,d=[cP cb,cI c]/\aR m h cb/\∀v m',Lj v->abX c v->bI m m' cb->aR m' h cb->K (aV v) m' h
theorem Kv:bk 30 JR:=by
 refine⟨QE.1,λc d m h w K e f=>QE.2 c d m h w K ?_ f⟩;obtain⟨cb,n,rfl,⟨r,g⟩,j⟩:=e;refine⟨cb,n,r,rfl,g,λm' o t=>j _ m' ?_ ?_ o ⟨_,t⟩⟩
 .cases r with
  |nil=>simp[Wb]
  |cons b r=>
   simp only[Wb];split
   .simp
   .exact Int.emod_nonneg _ aC
 .cases r with
  |nil=>simp[Wb]
  |cons b r=>
   simp only[Wb];split
   .simp
   .exact .inl (Int.emod_lt_of_pos _ aC)
noncomputable def aWX(h:PH):Ctx:=
 dG [(30,JR)] [(18,{A:=Nat×ByteArray×MH,st:=λ⟨i,t,m⟩=>bO 37 38 [(3,vv (.string t)),(4,iv i)] [] m h}),(23,{A:=Nat×ByteArray×MH,st:=λ⟨i,t,m⟩=>bO 37 38 [(3,vv (.string t)),(5,iv i)] [] m h})] [] [] false
abbrev iQ(a:Nat)(b:Int)(c:MH)(d:PH)(e:Int->MH->Prop):Prop:=∃(x:Nat)(j:Int),aA (aW (uX a 0) b=aW (uX x 0) j) (aR c d x) (∀(f:Int)(g:MH),aY (cF f) (f<j\/f=0) (aY (bI c g x) (aR g d x) (e f g)))
attribute [push_cast] iQ
def Vp(cb:Nat)(n:Int)(m:MH)(h:PH)(K:bo):Prop:=
  iQ cb n m h (λk c=>K (Ah (k==eT (n-1))) c h)
def Rt(cb:Nat)(m:MH)(h:PH)(K:bo):Prop:=
  iQ cb 12 m h (λk c=>dN (k==9) (K (fQ (Int.negSucc 0)) c h) (k==10) (K (fQ 9223372036854775807) c h) (eD k 11 (K (fQ (Int.negSucc 9223372036854775807)) c h) (jU ((4:Int)=0)/\K (fQ (Int.tmod k 4)) c h)))
noncomputable abbrev yF(a:ci):CV:=oX (ByteArray.mk (Array.mk a))
noncomputable abbrev fV(a:Nat)(b:ci):ci:=OfNat.ofNat a::b
noncomputable abbrev tR(a:Nat):ci:=fV a []
noncomputable abbrev CX(a b:Nat):ci:=fV a (fV b [])
attribute [push_cast] yF fV tR CX
def Rs(cb:Nat)(m:MH)(h:PH)(K:bo):Prop:=
  iQ cb 10 m h (λk d=>dN (k==0) (K (yF (tR 97)) d h) (k==1) (K (yF (tR 97)) d h) (dN (k==2) (K (yF (tR 97)) d h) (k==3) (K (yF (tR 98)) d h) (dN (k==4) (K (yF (tR 98)) d h) (k==5) (K (CV.val PN) d h) (dN (k==6) (K (yF (CX 97 0)) d h) (k==7) (K (yF (tR 255)) d h) (eD k 8 (∃(I:Nat×ByteArray×MH->Prop)(e:Nat×ByteArray×MH->Nat),(∃(x:Nat×ByteArray×MH),aA (I x) (SV.at WA=SV.at (TD x.2.1)) (aA (bC x.1) (d=x.2.2) (bX h h)))/\∀(x:Nat×ByteArray×MH),I x->aZ (↑x.1:Int) 64 (x.2.1.size<9223372036854775807/\∃(c:Nat×ByteArray×MH),aA (I c) (e c<e x) (aA (SV.at (TD (x.2.1++ByteArray.mk (Array.mk (tR 255))))=SV.at (TD c.2.1)) (bD (fP (bE x.1 1)) c.1) (dW x.2.2 c.2.2 h h))) (K (oX x.2.1)
 x.2.2 h)) (∃(I:Nat×ByteArray×MH->Prop)(e:Nat×ByteArray×MH->Nat),(∃(x:Nat×ByteArray×MH),aA (I x) (SV.at WA=SV.at (TD x.2.1)) (aA (bC x.1) (d=x.2.2) (bX h h)))/\∀(x:Nat×ByteArray×MH),I x->aZ (↑x.1:Int) 64 (x.2.1.size<9223372036854775807/\∃(c:Nat×ByteArray×MH),aA (I c) (e c<e x) (aA (SV.at (TD (x.2.1++ByteArray.mk (Array.mk (tR 98))))=SV.at (TD c.2.1)) (bD (fP (bE x.1 1)) c.1) (dW x.2.2 c.2.2 h h))) (K (oX x.2.1) x.2.2 h)))))))
noncomputable abbrev Bg(a:Nat):cq:=tT (uX a 0)
abbrev kR(a:MH)(b:PH)(c:Nat)(d:Prop):Prop:=aR a b c->d
attribute [push_cast] Bg kR
def RZ(cb:Nat)(d:Int)(m:MH)(h:PH)(K:bo):Prop:=
  dN (d==3) (iQ cb 2 m h (λk e=>K (jR (bA (fD d) (fD k) (jD PN))) e h)) (d==4) (∃(c:Nat),aA (Bg cb=Bg c) (aR m h c) (∀(k:Int)(e:MH),aY (vP k) (bI m e c) (kR e h c (K (jR (bA (fD d) (fD k) (jD PN))) e h)))) (∃(c:Nat),aA (Bg cb=Bg c) (aR m h c) (∀(t:ByteArray)(e:MH),aY (t.size<=64) (bI m e c) (kR e h c (K (jR (bA (fD 5) bJ (jD (Value.string t)))) e h))))
theorem bRX{n:Int}(d:aR m h cb)(e:∀r m',bI m m' cb->aR m' h cb->K (cB r) m' h):Vp cb n m h K:=
 ⟨cb,n,rfl,d,λ_ m' _ _ f c=>e _ m' f c⟩
theorem Hv:Fj ⟨#[]⟩=true:=by simp[Fj,ByteArray.toList_eq]
theorem bMZ{k:Int}(c:0<=k)(d:k<2\/k=0):lD ⟨3,k,⟨#[]⟩⟩=true:=by
 have:k=0\/k=1:=by omega
 rcases this with rfl|rfl<;>simp[lD,Hv]
theorem bMX(k:Int):lD ⟨4,k,⟨#[]⟩⟩=true:=by simp[lD,Hv]
theorem bMQ{t:ByteArray}(h:t.size<=64):lD ⟨5,0,t⟩=true:=by
 simp[lD];omega
theorem Br:bk 36 PK:=by
 refine iB func36 ?_;rintro c m h K ⟨cb,n,rfl,_,_,d,e⟩;refine⟨dG [(30,JR)] [] [] [] false,rfl,aD Kv aF,Vp cb n m h K,bf,?_⟩;exact bRX d e
theorem X8:bk 158 aaX:=by
 refine iB func158 ?_;rintro f m h K ⟨cb,rfl,g,d⟩;refine⟨dG [(30,JR)] [] [] [] false,rfl,aD Kv aF,Rt cb m h K,bf,?_⟩;dsimp only[Rt,push_cast];refine⟨cb,12,rfl,g,λk m' j n e c=>aB (λ_=>d _ m' ⟨aC,aC⟩ e c) (λ_=>aB (λ_=>d _ m' ⟨aC,aC⟩ e c) (λ_=>aB (λ_=>d _ m' ⟨aC,aC⟩ e c) (λ_=>⟨aC,d _ m' ?_ e c⟩)))⟩;rw[Int.tmod_eq_emod_of_nonneg j];exact⟨aC,aC⟩
theorem X7:bk 159 bFX:=by
 refine iB func159 ?_;rintro g m h K ⟨cb,rfl,j,d⟩;refine⟨aWX h,rfl,aD Kv aF,Rs cb m h K,bf,?_⟩;dsimp only[Rs,push_cast];refine⟨cb,10,rfl,j,λk m' y z e c=>?_⟩;refine aB (λ_=>d _ m' bh e c) (λ_=>aB (λ_=>d _ m' bh e c) (λ_=>aB (λ_=>d _ m' bh e c) (λ_=>aB (λ_=>d _ m' bh e c) (λ_=>aB (λ_=>d _ m' bh e c) (λ_=>aB (λ_=>d _ m' bh e c) (λ_=>aB (λ_=>d _ m' bh e c) (λ_=>aB (λ_=>d _ m' bh e c) (λ_=>aB (λ_=>?_) (λ_=>?_)))))))))
 all_goals
  refine⟨λ⟨i,t,n⟩=>n=m'/\i<=64/\t.size=i,λ⟨i,_,_⟩=>64-i,⟨(0,⟨#[]⟩,m'),⟨rfl,aC,rfl⟩,MT⟩,?_⟩;rintro⟨i,t,m'⟩ ⟨rfl,A,f⟩;dsimp only;refine aE (λo=>⟨?_,(i+1,_,m'),⟨rfl,aC,?_⟩,by show 64-(i+1)<64-i;omega,MT⟩) (λu=>d t m' aC e c)
  .rw[f];show i+1<=_;omega
  .rw[ByteArray.size_append,f];rfl
theorem HI:bk 108 TG:=by
 refine iB func108 ?_;rintro z m h K ⟨cb,c,rfl,j,n⟩;refine⟨dG [(30,JR),(158,aaX),(159,bFX)] [] [] [] false,rfl,aD Kv (aD X8 (aD X7 aF)),RZ cb c m h K,bf,?_⟩;dsimp only[RZ,push_cast];refine aB (λe=>⟨cb,2,rfl,j,λk m' A B g d=>n ⟨c,k,⟨#[]⟩⟩ m' ⟨⟨by show-9223372036854775808<=k;omega,by show k<=9223372036854775807;omega⟩,by show(ByteArray.mk #[]).size<=64;decide⟩ (λ_=>?_) g d⟩) (λo=>aB (λe=>⟨cb,rfl,j,λk m' f g d=>n ⟨c,k,⟨#[]⟩⟩ m' ⟨f,by show(ByteArray.mk #[]).size<=64;decide⟩ (λ_=>?_) g d⟩) (λu=>⟨cb,rfl,j,λt m' y g d=>n ⟨5,0,t⟩ m' ⟨⟨bg,bg⟩,y⟩ (λf=>?_) g d⟩))
 .have e:c=3:=bj e
  subst e;exact⟨bMZ A B,rfl⟩
 .have e:c=4:=bj e
  subst e;exact⟨bMX k,rfl⟩
 .have o:c≠3:=bj o
  have u:c≠4:=bj u
  exact⟨bMQ y,by rcases f with f|f|f;exact absurd f o;exact absurd f u;exact f.symm⟩
mutual
def CR:Pred->Prop
 |.mk _ _ l r args=>Lj l.value/\Lj r.value/\Lm args
def Lm:cm->Prop
 |[]=>True
 |p::ps=>CR p/\Lm ps
end
theorem Pt:∀{l:cm},Lm l↔∀p∈l,CR p
 |[]=>by simp[Lm]
 |p::ps=>by simp[Lm,Pt (l:=ps)]
theorem qN:Lj zeroV:=⟨⟨bh,bh⟩,bh⟩
structure Wp(cols params:br)(kind:Int)(o:OV):Prop where
 val:Lj o.value
 kind:KOk kind->kindOf cols params o=kind
def Ms(l:br):Prop:=∀k∈l,KOk k
structure PW(cols params:br)(d:Nat)(p:Pred):Prop where
 vals:CR p
 valid:Ms cols->iK cols params p=true
 siz:Pp d p
def Wo:Vc.Spec:=λf m h K=>∃cb s t e d c,f=[cP cb,cS s,cS t,cI e]/\aR m h cb/\Ints h s d/\Ints h t c/\d.length<=1000/\c.length<=1000/\∀o m',Wp d c e o->bI m m' cb->aR m' h cb->K (aO o) m' h
def KP(K:bo)(m:MH)(h:PH)(cb:Nat)(R:Pred->Prop):Prop:=∀v p m' h',PH.le h h'->eW h' p v->R p->bI m m' cb->aR m' h' cb->K (aP v) m' h'
def a8Z(N:Nat):Vc.Spec:=λe m h K=>∃cb s t d c,∃deep:Nat,e=[cP cb,cS s,cS t,cI deep]/\aR m h cb/\Ints h s d/\Ints h t c/\d.length<=1000/\c.length<=1000/\deep<N/\deep<=1000/\KP K m h cb (PW d c deep)
structure xN(cols params:br)(d:Nat)(p:Pred):Prop where
 vals:CR p
 valid:d<=2->Ms cols->Ms params->fI cols params p=0
def BS:Vc.Spec:=λe m h K=>∃cb s t d c,∃deep:Nat,e=[cP cb,cS s,cS t,cI deep]/\aR m h cb/\Ints h s d/\Ints h t c/\d.length<=1000/\c.length<=1000/\deep<=1000/\KP K m h cb (xN d c deep)
def pv(b:Nat):SV:=vv (.pointer (some ⟨b,0,none⟩))
noncomputable def a3Q(cb:Nat)(s t:Sl)(c:Int)(m:MH)(h:PH):Ctx:=
 dG [(30,JR),(108,TG)] [(3,{A:=Nat×dl,st:=λ⟨i,d⟩=>bO 64 68 [(0,pv cb),(2,sv t),(3,iv c),(8,.at (.ptr 8 0)),(9,.at (.lst 29)),(15,sv s),(16,iv s.len),(17,iv i)] [(8,.cells 26 (dR.enc.map .val)),(29,.lst 26 5 (d.map OV.enc))] m h}),
  (9,{A:=Nat×dl,st:=λ⟨i,d⟩=>bO 64 68 [(0,pv cb),(3,iv c),(8,.at (.ptr 8 0)),(9,.at (.lst 29)),(31,sv t),(32,iv t.len),(33,iv i)] [(8,.cells 26 (dR.enc.map .val)),(29,.lst 26 5 (d.map OV.enc))] m h})] [] [] false
noncomputable def f56_ctx(N:Nat)(cb:Nat)(s t:Sl)(deep:Nat)(c:PH):Ctx:=
 dG [(30,JR),(36,PK),(107,Wo),(108,TG),(56,a8Z N)] [(18,{A:=Int×Int×dh×MH×PH,st:=λ⟨op,n,d,m,h⟩=>bO 107 111 [(0,pv cb),(1,sv s),(2,sv t),(3,iv deep),(8,.at (.ptr 8 0)),(12,.at (.ptr 12 0)),(13,iv n)] [(8,.cells 29 (jM.enc.map .val)),(12,.cells 29 (((⟨op,0,dR,dR,⟨none,0,0⟩⟩:PV).enc.take 12).map .val++[.lst 104])),(104,.lst 29 13 (d.map PV.enc))] m h})] [(3,{A:=Int×Bool×MH,st:=λ⟨k,b,m⟩=>bO 107 111 [(0,pv cb),(1,sv s),(2,sv t),(3,iv deep),(8,.at (.ptr 8 0)),(9,iv k),(16,bv b)] [(8,.cells 29 (jM.enc.map .val))] m c}),
  (5,{A:=Int×Bool×MH,st:=λ⟨k,b,m⟩=>bO 107 111 [(0,pv cb),(1,sv s),(2,sv t),(3,iv deep),(8,.at (.ptr 8 0)),(9,iv k),(27,bv b)] [(8,.cells 29 (jM.enc.map .val))] m c}),
  (8,{A:=Int×MH,st:=λ⟨k,m⟩=>bO 107 111 [(0,pv cb),(1,sv s),(2,sv t),(8,.at (.ptr 8 0)),(10,iv k)] [(8,.cells 29 (jM.enc.map .val))] m c}),
  (9,{A:=PV×Int×MH,st:=λ⟨p,k,m⟩=>bO 107 111 [(0,pv cb),(1,sv s),(2,sv t),(8,.at (.ptr 8 0)),(10,iv k),(11,.at (.ptr 11 0))] [(8,.cells 29 (jM.enc.map .val)),(11,.cells 29 (p.enc.map .val))] m c}),
  (11,{A:=PV×MH,st:=λ⟨p,m⟩=>bO 107 111 [(0,pv cb),(8,.at (.ptr 8 0)),(11,.at (.ptr 11 0))] [(8,.cells 29 (jM.enc.map .val)),(11,.cells 29 (p.enc.map .val))] m c}),
  (13,{A:=PV×MH,st:=λ⟨p,m⟩=>bO 107 111 [(8,.at (.ptr 8 0)),(11,.at (.ptr 11 0))] [(8,.cells 29 (jM.enc.map .val)),(11,.cells 29 (p.enc.map .val))] m c})] [] false
noncomputable abbrev jF:At:=jI 0
abbrev DQ:Prop:=eQ (oQ 26 (eZ jF jF (eZ (jI 0) jF (rG WA))))
noncomputable abbrev oN(a:Nat×dl):List bm:=List.map OV.enc a.2
abbrev IQ(a b:Nat×dl):Prop:=bD (fP (bE a.1 1)) b.1
abbrev oO(a:Int)(b:List bm)(c:bm->Prop):Prop:=aA (cF a) (a<lU b) (∃(x:bm),c x)
abbrev D6(a:Nat)(b:Int)(c:Nat->Option Obj)(d:Nat->Nat->Option Value)(e:VV->MH->Prop):Prop:=∃(x:Nat)(j:Int),aA (aW (uX a 0) b=aW (uX x 0) j) (aR c d x) (∀(f:VV)(g:MH),aY (Lj f) (abX j f) (aY (bI c g x) (aR g d x) (e f g)))
attribute [push_cast] jF DQ oN IQ oO D6
def R0(cb:Nat)(s t:Sl)(d:Int)(m:MH)(h:PH)(K:bo):Prop:=
  ∃(I:Nat×dl->Prop)(g:Nat×dl->Nat),(∃(x:Nat×dl),aA (I x) (dD cb) (aA (aH t) (mQ d) (aA hU (eL 29) (aA (aH s) (bG s) (aA (bC x.1) DQ (aA (rB 26 5 (oN x)) (m=m) (bX h h)))))))/\∀(x:Nat×dl),I x->aZ (↑x.1:Int) (aG s) (aK (λb o=>aA (aL s.a b o) (0<=(↑x.1:Int)) ((↑x.1:Int)<aG s/\∃(y:Int),aJ m h b (bK o x.1 1) (bL y)/\eD y d (aA (iY (jA (oN x) 1) 48) (dO (oN x)) (∃(c:Nat×dl),aA (I c) (g c<g x) (aA (dD cb) (aH t) (aA (mQ d) hU (aA (eL 29) (aH s) (aA (bG s) (IQ x c) (aA DQ (Option.some (Own.lst 26 5 (jW (oN x) (bA (fD 1) (fD (↑x.1:Int)) (bA bJ bJ (jD PN)))))=Option.some (Own.lst 26 5 (oN c))) (dW m m h h)))))))) (∃
 (c:Nat×dl),aA (I c) (g c<g x) (aA (dD cb) (aH t) (aA (mQ d) hU (aA (eL 29) (aH s) (aA (bG s) (IQ x c) (aA DQ (Option.some (Own.lst 26 5 (oN x))=Option.some (Own.lst 26 5 (oN c))) (dW m m h h)))))))))) (∃(I1:Nat×dl->Prop)(j:Nat×dl->Nat),(∃(c:Nat×dl),aA (I1 c) (dD cb) (aA (mQ d) hU (aA (eL 29) (aH t) (aA (bG t) (bC c.1) (aA DQ (Option.some (Own.lst 26 5 (oN x))=Option.some (Own.lst 26 5 (oN c))) (aA (m=m) (h=h) True))))))/\∀(c:Nat×dl),I1 c->aZ (↑c.1:Int) (aG t) (aK (λb o=>aA (aL t.a b o) (0<=(↑c.1:Int)) ((↑c.1:Int)<aG t/\∃(y:Int),aJ m h b (bK o c.1 1) (bL y)/\eD y d (aA (iY (jA (oN c) 1) 48) (dO (oN c)) (∃(f:Nat×
 dl),aA (I1 f) (j f<j c) (aA (dD cb) (mQ d) (aA hU (eL 29) (aA (aH t) (bG t) (aA (IQ c f) DQ (aA (Option.some (Own.lst 26 5 (jW (oN c) (bA (fD 2) (fD (↑c.1:Int)) (bA bJ bJ (jD PN)))))=Option.some (Own.lst 26 5 (oN f))) (m=m) (bX h h)))))))) (∃(f:Nat×dl),aA (I1 f) (j f<j c) (aA (dD cb) (mQ d) (aA hU (eL 29) (aA (aH t) (bG t) (aA (IQ c f) DQ (aA (Option.some (Own.lst 26 5 (oN c))=Option.some (Own.lst 26 5 (oN f))) (m=m) (bX h h)))))))))) (iQ cb (bE (oN c).length 1) m h (λk n=>aZ k (lU (oN c)) (oO k (oN c) (λe=>jC (oN c) k.toNat e/\∃(y:OV),mZ 5 e y.enc/\K (jR y.enc) n h)) (D6 cb d n h (λv u=>K (jR (bA (fD 3) bJ (bA (fD
 v.kind) (fD v.int) (jD (Value.string v.text))))) u h)))))
abbrev lW(a:Nat)(b:Int)(c:MH)(d:PH)(e:Nat->Bool->Prop):Prop:=∃(x:Nat)(f:Int),aA (aW (uX a 0) b=aW (uX x 0) f) (cF f) (aA (f<=1000) (aR c d x) (∀(g:Bool),e x g))
abbrev sT:Prop:=eQ (oQ 29 zP)
abbrev It(a:Int×Bool×MH->Prop)(b:Nat)(c d:Sl)(e:Nat)(g:Int)(i:(Int×Bool×MH)->Prop)(j:Nat->Option Obj)(k:PH):Prop:=∃(x:Int×Bool×MH),aA (a x) (dD b) (aA (aH c) (aH d) (aA (qW e) hU (aA (cQ g x.1) (i x) (dK sT j x.2.2 k k))))
abbrev mT(a:Nat):Prop:=a<=1000
abbrev fF(a:br):Prop:=mT a.length
noncomputable abbrev z7(a:OV):At:=jI a.index
noncomputable abbrev zK(a:OV):At:=TD a.value.text
abbrev wY(a:Nat->Sl->Sl->br->br->Nat->Prop):Prop:=∃(x:Nat)(c:Sl),vE (λd e f=>∃(g:Nat),a x c d e f g)
abbrev jQ(a:MH->PH->Prop):Prop:=∀(x:MH)(c:PH),a x c
abbrev wV(a:PH)(b:PV->Pred->MH->PH->Prop):Prop:=∀(x:PV)(d:Pred),jQ (λe c=>dA a c (eW c d x) (b x d e c))
abbrev Iu(a:cq)(b:MH)(c:PH)(d:Nat)(e:PV->MH->PH->Prop):Prop:=wY (λx o t g j f=>aA (a=uX x 0::cN o (gQ t (↑f:Int))) (aR b c x) (aA (Ints c o g) (Ints c t j) (aA (fF g) (fF j) (aA (f<d) (mT f) (wV c (λy z n u=>aY (PW g j f z) (bI b n x) (kR n u x (e y n u))))))))
noncomputable abbrev IS(a b:Int):cr:=eZ (jI a) jF (eZ (jI b) jF (eZ jF jF (eZ WA jF (eZ jF jF (eZ (jI b) WA (rG (At.lst 104)))))))
noncomputable abbrev Ea(a:Int×Int×dh×MH×PH):List bm:=List.map PV.enc a.2.2.1
abbrev cT(a:MH)(b:MH×PH):Prop:=a=b.1
noncomputable abbrev Bi(a:Int×Int×dh×MH×PH):MH×PH:=a.2.2.2
abbrev eA(a:PH)(b:MH×PH):Prop:=a=b.2
attribute [push_cast] lW sT It mT fF z7 zK wY jQ wV Iu IS Ea cT Bi eA
def ap(N:Nat)(cb:Nat)(s t:Sl)(deep:Nat)(m:MH)(h:PH)(K:bo):Prop:=
  iQ cb 9 m h (λk E=>∃(I:Int×Bool×MH->Prop),eD k 0 (lW cb 2 E h (λc r=>∀(e:MH),aY (bI E e c) (aR e h c) (It I cb s t deep k (λx=>iT r x.2.1) e h))) (It I cb s t deep k (λx=>BC x.2.1) E h)/\∀(x:Int×Bool×MH),fA (I x) x.2.1 (iQ cb 2 x.2.2 h (λj e=>K (jR (bA (fD (eT (1+j))) bJ (bA bJ bJ (bA bJ bJ (bA PN bJ (bA bJ bJ (bA bJ PN gA))))))) e h)) (∃(I1:Int×Bool×MH->Prop),aZ x.1 6 (It I1 cb s t deep x.1 (λn=>wC n.2.1) x.2.2 h) (It I1 cb s t deep x.1 (λn=>iT (decide ((↑deep:Int)<1)) n.2.1) x.2.2 h)/\∀(n:Int×Bool×MH),I1 n->dN n.2.1 (∃(I2:Int×MH->Prop),dZ (aG s) 0 (iQ cb (aG s) n.2.2 h (λj e=>aK (λb o=>aA (aL s.a b o) (0<=j) (j<
 aG s/\∃(y:Int),aJ e h b (fX o j 1) (bL y)/\∃(d:Int×MH),aA (I2 d) (dD cb) (aA (aH s) (aH t) (aA hU (cQ y d.1) (aA sT (e=d.2) (bX h h)))))))) (∃(d:Int×MH),aA (I2 d) (dD cb) (aA (aH s) (aH t) (aA hU (cQ 4 d.1) (aA sT (n.2.2=d.2) (bX h h)))))/\∀(d:Int×MH),I2 d->∃(I3:PV×Int×MH->Prop),iQ cb 6 d.2 h (λj e=>∃(c:Nat),mS (λA C=>∃(H:Int),DO (λB p=>aA (uX cb 0::cN s (gQ t d.1)=uX c 0::cN A (gQ C H)) (aR e h c) (aA (Ints h A B) (Ints h C p) (aA (fF B) (fF p) (∀(o:OV)(z:MH),aY (Wp B p H o) (bI e z c) (kR z h c (D6 cb d.1 z h (λv F=>∃(f:PV×Int×MH),aA (I3 f) (dD cb) (aA (aH s) (aH t) (aA hU (cQ d.1
 f.2.1) (aA (eP 11) sT (dK (oQ 29 (eZ (jI 3) (jI (eT (1+j))) (eZ (jI o.kind) (z7 o) (eZ (jI (oP o)) (jI (Fl o)) (eZ (zK o) (jI 3) (eZ jF (jI v.kind) (eZ (jI v.int) (TD v.text) (rG PO)))))))=uB 29 f.1.enc) F f.2.2 h h)))))))))))))/\∀(f:PV×Int×MH),I3 f->∃(I4:PV×MH->Prop),lW cb 3 f.2.2 h (λc r=>∀(e:MH),aY (bI f.2.2 e c) (aR e h c) (branch r (∃(B:Nat),mS (λA C=>∃(j:Int),DO (λG p=>aA (uX cb 0::cN s (gQ t f.2.1)=uX B 0::cN A (gQ C j)) (aR e h B) (aA (Ints h A G) (Ints h C p) (aA (fF G) (fF p) (∀(o:OV)(z:MH),aY (Wp G p j o) (bI e z B) (kR z h B (∃(g:PV×MH),aA (I4 g) (dD cb) (aA hU (eP 11) (aA sT (oQ 29 (eZ (jI f.1.op) (jI f.1.cmp)
 (eZ (jI f.1.left.kind) (z7 f.1.left) (eZ (jI (oP f.1.left)) (jI (Fl f.1.left)) (eZ (zK f.1.left) (jI o.kind) (eZ (z7 o) (jI (oP o)) (eZ (jI (Fl o)) (zK o) (rG (qK f.1.args))))))))=uB 29 g.1.enc) (aA (z=g.2) (h=h) True))))))))))) (∃(g:PV×MH),aA (I4 g) (dD cb) (aA hU (eP 11) (aA sT (uB 29 f.1.enc=uB 29 g.1.enc) (aA (e=g.2) (h=h) True))))))/\∀(g:PV×MH),I4 g->∃(I5:PV×MH->Prop),lW cb 6 g.2 h (λc r=>∀(e:MH),aY (bI g.2 e c) (aR e h c) (branch r (∃(u:PV×MH),aA (I5 u) hU (aA (eP 11) sT (dK (oQ 29 (eZ (jI g.1.op) (jI g.1.cmp) (eZ (jI g.1.right.kind) (z7 g.1.right) (eZ (jI (oP g.1.right)) (jI (Fl g.1.right)) (eZ (zK g.1.right) (jI g.1.left.kind) (eZ (z7 g.1.left)
 (jI (oP g.1.left)) (eZ (jI (Fl g.1.left)) (zK g.1.left) (rG (qK g.1.args))))))))=uB 29 u.1.enc) e u.2 h h))) (∃(u:PV×MH),aA (I5 u) hU (aA (eP 11) sT (dK (uB 29 g.1.enc=uB 29 u.1.enc) e u.2 h h)))))/\∀(u:PV×MH),I5 u->K (jR u.1.enc) u.2 h) (n.1==6) (Iu (uX cb 0::cN s (gQ t (eT ((↑deep:Int)-1)))) n.2.2 h N (λv e D=>bZ D 13 (iA v.enc) (λA J=>K (jR (bA (fD 6) bJ (bA bJ bJ (bA bJ bJ (bA PN bJ (bA bJ bJ (bA bJ PN (aM A)))))))) e J))) (iQ cb 3 n.2.2 h (λj e=>∃(I2:Int×Int×dh×MH×PH->Prop)(z:Int×Int×dh×MH×PH->Nat),(∃(d:Int×Int×dh×MH×PH),aA (I2 d) (dD cb) (aA (aH s) (aH t) (aA (qW deep) hU (aA (eP 12) (cQ j d.2.1) (aA
 sT (oQ 29 (IS (eT (eT (4+n.1)-7)) 0)=oQ 29 (IS d.1 0)) (aA (rB 29 13 (Ea d)) (cT e (Bi d)) (j4 (eA h (Bi d)))))))))/\∀(d:Int×Int×dh×MH×PH),I2 d->fO d.2.1 0 (Iu (uX cb 0::cN s (gQ t (eT ((↑deep:Int)-1)))) (Bi d).1 (Bi d).2 N (λv F D=>aA (iY (jA (Ea d) 1) 136) (dO (Ea d)) (∃(f:Int×Int×dh×MH×PH),aA (I2 f) (z f<z d) (aA (dD cb) (aH s) (aA (aH t) (qW deep) (aA hU (eP 12) (aA (cQ (eT (d.2.1-1)) f.2.1) sT (aA (oQ 29 (IS d.1 0)=oQ 29 (IS f.1 0)) (Option.some (Own.lst 29 13 (jW (Ea d) v.enc))=Option.some (Own.lst 29 13 (Ea f))) (gX (cT F (Bi f)) (eA D (Bi f))))))))))) (bZ (Bi d).2 13 (Ea d) (λA D
 =>K (jR (bA (fD d.1) bJ (bA bJ bJ (bA bJ bJ (bA PN bJ (bA bJ bJ (bA bJ PN (aM A)))))))) (Bi d).1 D))))))
def VG(N:Nat)(cb:Nat)(s t:Sl)(deep:Nat)(m:MH)(h:PH)(K:bo):Prop:=
  Iu (uX cb 0::cN s (gQ t (↑deep:Int))) m h N (λv e d=>IH (cN s (eJ t (jR v.enc))) d (λc p f=>eD (fI c p f) 2 (Iu (uX cb 0::cN s (gQ t 1)) e d N (λg j n=>K (jR g.enc) j n)) (K (jR v.enc) e d)))
theorem VZ:ZR zeroV zeroV=true:=by simp[ZR]
theorem Cb:DD 0 dR dR=true:=by simp[DD,Wz,ZR]
theorem W2{cols params:br}{x:Int}(h:cols[i]? =some x):kindOf cols params ⟨1,i,zeroV⟩=x:=by
 have d:=(List.getElem?_eq_some_iff.1 h).1;have e:kindOf cols params ⟨1,i,zeroV⟩=pB cols ⟨1,i,zeroV⟩:=rfl;have c:=VZ;rw[e];simp only[pB,c,Bool.not_true,Bool.or_false];rw[if_neg (by simp;omega)];simp[getD_eq_getElem?_getD,h]
theorem W0{cols params:br}{x:Int}(h:params[i]? =some x):kindOf cols params ⟨2,i,zeroV⟩=x:=by
 have d:=(List.getElem?_eq_some_iff.1 h).1;have e:kindOf cols params ⟨2,i,zeroV⟩=pB params ⟨2,i,zeroV⟩:=rfl;have c:=VZ;rw[e];simp only[pB,c,Bool.not_true,Bool.or_false];rw[if_neg (by simp;omega)];simp[getD_eq_getElem?_getD,h]
theorem UD{cols params:br}{c:Int}{v:VV}(f:Lj v)(g:abX c v):Wp cols params c ⟨3,0,v⟩:=⟨f,λh=>by
 obtain⟨j,d⟩:=g h;have e:kindOf cols params ⟨3,0,v⟩=if((0:Int) !=0|| !l9 v)then 0 else v.kind:=rfl
 rw[e,if_neg,d];simp only[l9,j,d];rcases h with rfl|rfl|rfl<;>decide⟩
theorem YD:bk 107 Wo:=by
 refine iB func107 ?_;rintro V m h K ⟨cb,s,t,e,d,c,rfl,W,R,S,Z,l2,T⟩;refine⟨a3Q cb s t e m h,rfl,aD Kv (aD HI aF),R0 cb s t e m h K,bf,?_⟩;dsimp only[R0,push_cast];have E:=R.slen;have F:=S.slen;refine⟨λ⟨i,g⟩=>i<=d.length/\g.length<=i/\∀o∈g,Wp d c e o,λ⟨i,_⟩=>d.length-i,⟨(0,[]),⟨aC,bg,bg⟩,MT⟩,?_⟩;rintro⟨i,g⟩ ⟨U,y,f⟩;dsimp only;refine aE (λj=>?_) (λz=>?_)
 .obtain⟨x,A⟩:=eN E j;obtain⟨G,H,I,J⟩:=R.at' A;refine⟨G,H,I,aC,j,x,.imm J,aB (λL=>⟨by simp;omega,by simp;omega,(i+1,g++[⟨1,i,zeroV⟩]),⟨aC,by simp;omega,?_⟩,by show d.length-(i+1)<d.length-i;omega,?_⟩) (λ_=>⟨(i+1,g),⟨aC,by show g.length<=i+1;omega,f⟩,by show d.length-(i+1)<d.length-i;omega,MT⟩)⟩
  .intro o u;rcases mem_append.1 u with n|n
   .exact f o n
   .simp at n;subst n;exact⟨qN,λ_=>by rw[W2 (bj A)];simpa using L⟩
  .rw[map_append];exact MT
 refine⟨λ⟨i,g⟩=>i<=c.length/\g.length<=1000+i/\∀o∈g,Wp d c e o,λ⟨i,_⟩=>c.length-i,⟨(0,g),⟨aC,aC,f⟩,MT⟩,?_⟩;clear U y f z;rintro⟨i,g⟩ ⟨U,y,f⟩;dsimp only;refine aE (λj=>?_) (λz=>?_)
 .obtain⟨x,A⟩:=eN F j;obtain⟨G,H,I,J⟩:=S.at' A;refine⟨G,H,I,aC,j,x,.imm J,aB (λL=>⟨by simp;omega,by simp;omega,(i+1,g++[⟨2,i,zeroV⟩]),⟨aC,by simp;omega,?_⟩,by show c.length-(i+1)<c.length-i;omega,?_⟩) (λ_=>⟨(i+1,g),⟨aC,by show g.length<=1000+(i+1);omega,f⟩,by show c.length-(i+1)<c.length-i;omega,MT⟩)⟩
  .intro o u;rcases mem_append.1 u with n|n
   .exact f o n
   .simp at n;subst n;exact⟨qN,λ_=>by rw[W0 (bj A)];simpa using L⟩
  .rw[map_append];exact MT
 .refine⟨cb,_,rfl,W,λk m' X n u B=>aE (λM=>?_) (λM=>⟨cb,e,rfl,B,λv O Y P Q C=>T ⟨3,0,v⟩ O (UD Y P) (u.trans Q) C⟩)⟩;have D:k.toNat<g.length:=by simp at M;omega
  exact⟨X,M,_,by rw[getElem?_map,getElem?_eq_getElem D];rfl,g[k.toNat],rfl,T _ m' (f _ (getElem_mem D)) u B⟩
theorem Ji{h:PH}{v:PV}(c:v.args=⟨none,0,0⟩):eW h (.mk v.op v.cmp v.left v.right []) v:=eW.mk (by rw[c];exact .nil _ _ _ _)
structure bhX(cols params:br)(kd:Int)(p:PV):Prop where
 args_:p.args=⟨none,0,0⟩
 op_:p.op=3
 cmp_:1<=p.cmp/\p.cmp<=6
 left_:Wp cols params kd p.left
 right_:Wp cols params kd p.right
 kind_:Ms cols->KOk kd
theorem blJ{k:Int}(h:KOk k):k≠0:=by rcases h with rfl|rfl|rfl<;>decide
theorem bhX.pw{cols params:br}{f:Int}{p:PV}(x:bhX cols params f p)(d:Nat):PW cols params d (.mk p.op p.cmp p.left p.right []):=by
 refine⟨⟨x.left_.val,x.right_.val,trivial⟩,λg=>?_,Pp.leaf d⟩;have c:=x.kind_ g;have j:=x.left_.kind c;have n:=x.right_.kind c;have o:=blJ c;have e:=x.cmp_;rw[x.op_];simp[iK,j,n,o,e.1,e.2]
theorem bNZ{cols params:br}{d:Nat}(x:PW cols params d p):PW cols params (d+1) (.mk 6 0 dR dR [p]):=
 ⟨⟨qN,qN,x.vals,trivial⟩,λf=>by
  have e:=Cb;simp[iK,vT,e,x.valid f],Pp.node (λq c=>by simp at c;subst c;exact x.siz) bg⟩
theorem bNJ{cols params:br}{d:Nat}{op:Int}{ps:cm}(f:op=4\/op=5)(x:∀p∈ps,PW cols params d p)(g:ps.length<=3):PW cols params (d+1) (.mk op 0 dR dR ps):=
 ⟨⟨qN,qN,Pt.2 λp c=>(x p c).vals⟩,λj=>by
  have e:=Cb;have n:vT cols params ps=true:=by rw[E8,all_eq_true];exactλp c=>(x p c).valid j
  rcases f with rfl|rfl<;>simp[iK,e,n],Pp.node (λq o=>(x q o).siz) g⟩
theorem f56_all:∀N,bk 56 (a8Z N)
 |0=>by
  refine eV (fn:=Tryz.f56) (c:=cC Tryz.f56) func56 rfl bh ?_;rintro a2 m h K ⟨cb,s,t,f,d,deep,rfl,_,_,_,_,_,hN,_⟩;omega
 |N+1=>by
  refine iB func56 ?_;rintro a2 m h K ⟨cb,s,t,f,d,deep,rfl,hc,O,ht,l1,l2,hN,hd,hK⟩;refine⟨f56_ctx N cb s t deep h,rfl,aD Kv (aD Br (aD YD (aD HI (aD (f56_all N) aF)))),ap N cb s t deep m h K,bf,?_⟩;dsimp only[ap,push_cast];have a8:=O.slen;refine⟨cb,9,rfl,hc,λk B M P g y=>?_⟩;refine⟨λ⟨k,_,z⟩=>0<=k/\k<=8/\bI m z cb/\aR z h cb,aB (λ_=>⟨cb,2,rfl,aC,aC,y,λr E C D=>⟨(k,r,E),⟨M,aC,g.trans C,D⟩,MT⟩⟩) (λ_=>⟨(k,false,B),⟨M,aC,g,y⟩,MT⟩),?_⟩;clear M P g y k B;rintro⟨k,b,B⟩ ⟨M,P,g,y⟩;dsimp only;refine aB (λ_=>⟨cb,2,rfl,y,λj E S j1 C D=>?_⟩) (λ_=>?_)
  .refine hK ⟨IntKind.i64.wrap (1+j),0,dR,dR,⟨none,0,0⟩⟩ _ E h (.refl _) (Ji rfl) ⟨⟨qN,qN,trivial⟩,λ_=>?_,Pp.leaf _⟩ (g.trans C) D;have hj:j=0\/j=1:=by omega
   have e1:IntKind.i64.wrap 1=1:=bh
   have e2:IntKind.i64.wrap 2=2:=bh
   rcases hj with rfl|rfl
   .simp[iK,e1,Cb]
   .simp[iK,e2,Cb]
  refine⟨λ⟨k,b,z⟩=>0<=k/\k<=8/\(b=false->6<=k/\1<=deep)/\bI m z cb/\aR z h cb,aE (λ_=>⟨(k,true,B),⟨M,P,λe=>(by cases e),g,y⟩,MT⟩) (λhk=>⟨(k,_,B),⟨M,P,λe=>?_,g,y⟩,MT⟩),?_⟩
  .simp at e;exact⟨aC,aC⟩
  clear M P g y k B;rintro⟨k,b,B⟩ ⟨M,P,kb,g,y⟩;dsimp only;refine aB (λ_=>?_) (λhb=>?_)
  .refine⟨λ⟨G,z⟩=>(Ms f->KOk G)/\bI m z cb/\aR z h cb,aE (λa7=>⟨cb,s.len,rfl,y,λj E S j1 C D=>?_⟩) (λ_=>⟨(4,B),⟨λ_=>.inr (.inl rfl),g,y⟩,MT⟩),?_⟩
   .obtain⟨b1,a3,e1,r1⟩:=O.inb (n:=j) S aC
    have hm:f.getD j.toNat 0∈f:=by
     have:j.toNat<f.length:=by omega
     rw[getD_eq_getElem?_getD,getElem?_eq_getElem this];exact getElem_mem this
    exact⟨b1,a3,e1,S,aC,_,.imm r1,(_,E),⟨λT=>T _ hm,g.trans C,D⟩,MT⟩
   clear g y B;rintro⟨G,B⟩ ⟨U,g,y⟩;dsimp only;refine⟨λ⟨p,G,z⟩=>bhX f d G p/\bI m z cb/\aR z h cb,⟨cb,6,rfl,y,λj E S j1 C D=>⟨cb,s,t,G,f,d,rfl,D,O,ht,l1,l2,λo m3 ho V W=>⟨cb,G,rfl,W,λv m4 hv a4 o4 c4=>⟨(⟨3,IntKind.i64.wrap (1+j),o,⟨3,0,v⟩,⟨none,0,0⟩⟩,G,m4),⟨⟨rfl,rfl,?_,ho,UD hv a4,U⟩,((g.trans C).trans V).trans o4,c4⟩,MT⟩⟩⟩⟩,?_⟩
   .show 1<=IntKind.i64.wrap (1+j)/\IntKind.i64.wrap (1+j)<=6;rw[eG aC aC];omega
   clear g y B U G;rintro⟨p,G,B⟩ ⟨pw,g,y⟩;dsimp only;refine⟨λ⟨p,z⟩=>bhX f d G p/\bI m z cb/\aR z h cb,⟨cb,3,rfl,aC,aC,y,λr E C D=>aB (λ_=>⟨cb,s,t,G,f,d,rfl,D,O,ht,l1,l2,λo m3 ho V W=>⟨(⟨p.op,p.cmp,p.left,o,p.args⟩,m3),⟨⟨pw.args_,pw.op_,pw.cmp_,pw.left_,ho,pw.kind_⟩,(g.trans C).trans V,W⟩,MT⟩⟩) (λ_=>⟨(p,E),⟨pw,g.trans C,D⟩,MT⟩)⟩,?_⟩;clear pw g y B p;rintro⟨p,B⟩ ⟨pw,g,y⟩;dsimp only;refine⟨λ⟨p,z⟩=>bhX f d G p/\bI m z cb/\aR z h cb,⟨cb,6,rfl,aC,aC,y,λr E C D=>aB (λ_=>⟨(⟨p.op,p.cmp,p.right,p.left,p.args⟩,E),⟨⟨pw.args_,pw.op_,pw.cmp_,pw.right_,pw.left_,pw.kind_⟩,g.trans C,D⟩,MT⟩) (λ_=>⟨(p,E),⟨pw,g.trans C,D⟩,MT⟩)⟩,?_⟩;clear pw g y B p;rintro⟨p,B⟩ ⟨pw,g,y⟩;exact hK p _ B h (.refl _) (Ji pw.args_) (pw.pw deep) g y
  have a5:=kb hb;have hw:IntKind.i64.wrap ((deep:Int)-1)=((deep-1:Nat):Int):=by rw[eG aC aC];omega
  rw[hw];have X:deep=deep-1+1:=by omega
  refine aB (λ_=>⟨cb,s,t,f,d,deep-1,rfl,y,O,ht,l1,l2,aC,aC,λv p E h2 F hr hp C D Y Z I J=>?_⟩) (λa'=>⟨cb,3,rfl,y,λj E S j1 C D=>?_⟩)
  .refine hK ⟨6,0,dR,dR,Y⟩ (.mk 6 0 dR dR [p]) E Z (F.trans I) (eW.mk (v:=⟨6,0,dR,dR,Y⟩) ⟨⟨[v],J,rfl,λi x L=>?_⟩,bg⟩) (by rw[X];exact bNZ hp) (g.trans C) (D.mono I)
   match i,L with
   |0,L=>simp at L;subst L;exact⟨v,rfl,hr.mono I⟩
   |_+1,L=>simp at L
  refine⟨λ⟨op,n,Q,z,L⟩=>(op=4\/op=5)/\ -1<=n/\n<=2/\(Q.length:Int)<=2-n/\PH.le h L/\bI m z cb/\aR z L cb/\∃ps:cm,ps.length=Q.length/\(∀q∈ps,PW f d (deep-1) q)/\∀(i:Nat) q,ps[i]? =some q->∃u,Q[i]? =some u/\eW L q u,λ⟨_,n,_,_,_⟩=>(n+1).toNat,⟨(_,j,[],E,h),⟨?_,aC,aC,by simp;omega,.refl _,g.trans C,D,[],rfl,bg,λi q H=>by simp at H⟩,MT⟩,?_⟩
  .have a':k≠6:=bj a'
   have a6:k=7\/k=8:=by omega
   rcases a6 with rfl|rfl
   .exact .inl bh
   .exact .inr bh
  rintro⟨op,n,Q,z,L⟩ ⟨a0,n0,n1,ul,F,ox,cx,ps,pl,pw,a1⟩;dsimp only;refine aE (λhn=>⟨cb,s,t,f,d,deep-1,rfl,cx,O.mono F,ht.mono F,l1,l2,aC,aC,λv p m3 Z A hr hp V W=>⟨by simp;omega,by simp;omega,(op,n-1,Q++[v],m3,Z),⟨a0,by show-1<=n-1;omega,by show n-1<=2;omega,by simp;omega,F.trans A,ox.trans V,W,ps++[p],by simp[pl],?_,?_⟩,?_,?_⟩⟩) (λhn Y Z A J=>?_)
  .intro q H;rcases mem_append.1 H with R|R
   .exact pw q R
   .simp at R;subst R;exact hp
  .intro i q H;by_cases hi:i<ps.length
   .rw[getElem?_append_left hi]at H;obtain⟨u,R,h2⟩:=a1 i q H;exact⟨u,by rw[getElem?_append_left aC];exact R,h2.mono A⟩
   .rw[getElem?_append_right aC]at H;have hl:=(List.getElem?_eq_some_iff.1 H).1;simp at hl;have:i=ps.length:=by omega
    subst this;simp at H;subst H;exact⟨v,by rw[getElem?_append_right aC,pl];simp,hr⟩
  .show(n-1+1).toNat<(n+1).toNat;omega
  .rw[map_append,eG aC aC];exact MT
  .exact hK ⟨op,0,dR,dR,Y⟩ (.mk op 0 dR dR ps) z Z (F.trans A) (eW.mk (v:=⟨op,0,dR,dR,Y⟩) ⟨⟨Q,J,pl,λi q H=>(a1 i q H).imp λu hu=>⟨hu.1,hu.2.mono A⟩⟩,aC⟩) (by rw[X];exact bNJ a0 pw aC) ox (cx.mono A)
theorem V6(h:Ms l):l.all dC=true:=all_eq_true.2 λk c=>by
 rcases h k c with e|e|e<;>subst e<;>rfl
theorem Zl{cols params:br}{d:Nat}(x:PW cols params d p)(e:d<=2)(c:Ms cols)(f:Ms params):fI cols params p=0:=by
 have j:=N6 p 0;have o:=x.siz.n;have g:=Ma p 8 (by have:=x.siz.d;omega)
 have t:gF d<=13:=by match d,e with
  |0,_=>decide
  |1,_=>decide
  |2,_=>decide
 unfold fI;rw[V6 c,V6 f,if_neg bg,g,if_neg (by simp;omega),x.valid c];rfl
theorem GR:bk 18 BS:=by
 refine iB func18 ?_;rintro G m h K ⟨cb,s,t,e,c,deep,rfl,H,j,n,z,A,I,B⟩;refine⟨dG [(56,a8Z 1001),(57,sJ)] [] [] [] false,rfl,aD (f56_all 1001) (aD ae aF),VG 1001 cb s t deep m h K,bf,?_⟩;dsimp only[VG,push_cast];refine⟨cb,s,t,e,c,deep,rfl,H,j,n,z,A,aC,I,λv p J L d C D E F=>⟨s,t,v,e,c,p,rfl,j.mono d,n.mono d,C,aB (λ_=>⟨cb,s,t,e,c,1,rfl,F,j.mono d,n.mono d,z,A,aC,aC,λM O P Q f o g R S=>B M O P Q (d.trans f) o ⟨g.vals,λ_ u y=>Zl g bh u y⟩ (E.trans R) S⟩) (λ_=>B v p J L d C ⟨D.vals,λT u y=>Zl D T u y⟩ E F)⟩⟩
def cD:Sl:=⟨none,0,0⟩
def acZ:Vc.Spec:=λc m h K=>∃n k,c=[P3 n,cI k]/\K (.val (.agg ⟨(nZ.mk n k).enc⟩)) m h
def bbZ:Vc.Spec:=λc m h K=>∃t,c=[cI t]/\K (aQ ⟨1,t,jM,cD,cD,cD,cD,0,cD⟩) m h
def bEZ(v:QV)(g o:Sl)(k:Int):QV:=⟨v.op,v.table,v.where_,v.columns,v.on,g,o,k,v.args⟩
def bGQ:Vc.Spec:=λd m h K=>∃cb v s c,d=[cP cb,aQ (bEZ v cD cD v.limit),cS s]/\aR m h cb/\Ints h s c/\c.length<=1000/\
 ∀g o k gr od m' h',PH.le h h'->Ints h' g gr->gZ h' o od->gr.length<=c.length->od.length<=c.length->0<=k->k<=3->bI m m' cb->aR m' h' cb->K (aQ (bEZ v g o k)) m' h'
noncomputable def buZ(cb:Nat)(v:QV)(s:Sl)(h:PH):Ctx:=
 dG [(30,JR),(36,PK)] [(2,{A:=Nat×br×bz×MH,st:=λ⟨i,gr,od,m⟩=>bO 37 40 [(0,pv cb),(4,.at (.ptr 4 0)),(6,.at (.ptr 6 0)),(9,iv s.len),(10,iv i)] [(4,.cells 35 ((v.enc.take 17).map .val++[.lst 19,.lst 30,.val (.int .i64 v.limit),.val (.slice v.args.a v.args.len v.args.cap)])),(6,.cells 35 (CU.enc.map .val)),(19,.lst 3 1 (gr.map eI)),(30,.lst 93 2 (od.map B7))] m h})] [] [] false
noncomputable abbrev xA(a:ByteArray)(b:Int):bm:=gV (Value.string a) (fD b)
attribute [push_cast] xA
def aPX(n:ByteArray)(k:Int)(m:MH)(h:PH)(K:bo):Prop:=
  K (jR (xA n k)) m h
noncomputable abbrev Cu(a:Int):bm:=S5 (fD 1) (fD a)
attribute [push_cast] Cu
def aQX(t:Int)(m:MH)(h:PH)(K:bo):Prop:=
  K (jR (Cu t)) m h
abbrev Gd(a:QV):Prop:=eQ (oQ 35 (eZ (jI a.op) (AH a) (pQ a.where_ (eZ (C0 a) (qK a.on) (eZ (At.lst 19) (At.lst 30) (lX (CZ a) (qK a.args)))))))
abbrev j8:Prop:=eQ (oQ 35 zQ)
noncomputable abbrev sW(a:Nat×br×bz×MH):List bm:=oW a.2.1
noncomputable abbrev qA(a:Nat×br×bz×MH):List bm:=List.map B7 a.2.2.1
abbrev Iv(a:Nat×br×bz×MH->Prop)(b:Nat×br×bz×MH->Nat)(c:Nat×br×bz×MH)(d:Nat)(e:Sl)(g:Prop)(i j:(Nat×br×bz×MH)->Prop)(k:MH)(l:PH):Prop:=∃(x:Nat×br×bz×MH),aA (a x) (b x<b c) (aA (dD d) (eP 4) (aA (eP 6) (bG e) (aA (bD (fP (bE c.1 1)) x.1) g (aA j8 (i x) (aA (j x) (k=x.2.2.2) (bX l l))))))
abbrev DT(a b:List bm):Prop:=Option.some (Own.lst 3 1 a)=Option.some (Own.lst 3 1 b)
attribute [push_cast] Gd j8 sW qA Iv DT
def Vq(cb:Nat)(v:QV)(s:Sl)(m:MH)(h:PH)(K:bo):Prop:=
  ∃(I:Nat×br×bz×MH->Prop)(o:Nat×br×bz×MH->Nat),(∃(x:Nat×br×bz×MH),aA (I x) (dD cb) (aA (eP 4) (eP 6) (aA (bG s) (bC x.1) (aA (Gd v) j8 (aA (wE (sW x)) (rB 93 2 (qA x)) (aA (m=x.2.2.2) (h=h) True))))))/\∀(x:Nat×br×bz×MH),I x->aZ (↑x.1:Int) (aG s) (lW cb 3 x.2.2.2 h (λc r=>∀(f:MH),aY (bI x.2.2.2 f c) (aR f h c) (branch r (aA (iY (jA (sW x) 1) 8) (dO (sW x)) (lW cb 3 f h (λj t=>∀(e:MH),aY (bI f e j) (aR e h j) (branch t (lW cb 2 e h (λn u=>∀(g:MH),aY (bI e g n) (aR g h n) (aA (iY (jA (qA x) 1) 16) (dO (qA x)) (Iv I o x cb s (Gd v) (λd=>wF
 (sW x) (↑x.1:Int) (sW d)) (λd=>Option.some (Own.lst 93 2 (jW (qA x) (gV (fD (↑x.1:Int)) (Value.bool u))))=Option.some (Own.lst 93 2 (qA d))) g h)))) (Iv I o x cb s (Gd v) (λd=>wF (sW x) (↑x.1:Int) (sW d)) (λd=>Option.some (Own.lst 93 2 (qA x))=Option.some (Own.lst 93 2 (qA d))) e h))))) (lW cb 3 f h (λj t=>∀(e:MH),aY (bI f e j) (aR e h j) (branch t (lW cb 2 e h (λn u=>∀(g:MH),aY (bI e g n) (aR g h n) (aA (iY (jA (qA x) 1) 16) (dO (qA x)) (Iv I o x cb s (Gd v) (λd=>DT (sW x) (sW d)) (λd=>Option.some (Own.lst 93 2 (jW (qA x) (gV (fD (↑x.1:Int)) (Value.bool u))))=Option.some (Own.lst 93 2 (qA d))) g h)))) (Iv I o x cb s (Gd v)
 (λd=>DT (sW x) (sW d)) (λd=>Option.some (Own.lst 93 2 (qA x))=Option.some (Own.lst 93 2 (qA d))) e h))))))) (iQ cb 4 x.2.2.2 h (λk f=>bZ h 1 (sW x) (λy z=>bZ z 2 (qA x) (λA B=>K (jR (Gf v v (bA (oY (jV v)) (iZ (gY v)) (bA (xR (gY v)) (fD (oP (gY v))) (bA (sB (gY v)) (oY (gY v)) (bA (Fq v) (Fs v) (bA (dT v.on) (dT y) (bA (dT A) (fD k) (aM v.args))))))))) f B))))
theorem aoZ:bk 73 acZ:=by
 refine iB func73 ?_;rintro c m h K ⟨n,k,rfl,d⟩;refine⟨dG [] [] [] [] false,rfl,aF,aPX n k m h K,bf,?_⟩;exact d
theorem QZ:bk 31 bbZ:=by
 refine iB func31 ?_;rintro c m h K ⟨t,rfl,d⟩;refine⟨dG [] [] [] [] false,rfl,aF,aQX t m h K,bf,?_⟩;exact d
theorem arQ:bk 34 bGQ:=by
 refine iB func34 ?_;rintro J m h K ⟨cb,v,s,c,rfl,L,M,Y,O⟩;refine⟨buZ cb v s h,rfl,aD Kv (aD Br aF),Vq cb v s m h K,bf,?_⟩;dsimp only[Vq,push_cast];have P:=M.slen;refine⟨λ⟨i,gr,od,F⟩=>i<=c.length/\gr.length<=i/\od.length<=i/\bI m F cb/\aR F h cb,λ⟨i,_,_,_⟩=>c.length-i,⟨(0,[],[],m),⟨aC,bg,bg,.refl _ _,L⟩,MT⟩,?_⟩;rintro⟨i,gr,od,Z⟩ ⟨hi,hg,ho,n,G⟩;dsimp only;refine aE (λQ=>?_) (λR=>?_)
 .have fin:∀(f:br)(g:bz) m',f.length<=i+1->g.length<=i+1->bI m m' cb->aR m' h cb->(i+1<=c.length/\f.length<=i+1/\g.length<=i+1/\bI m m' cb/\aR m' h cb):=λf g m' H B S T=>⟨aC,H,B,S,T⟩
  refine⟨cb,3,rfl,aC,aC,G,λr I j A=>aB (λ_=>⟨by simp;omega,by simp;omega,cb,3,rfl,aC,aC,A,λC o t u=>aB (λ_=>⟨cb,2,rfl,aC,aC,u,λy z D E=>⟨by simp;omega,by simp;omega,(i+1,gr++[(i:Int)],od++[((i:Int),y)],z),fin (gr++[(i:Int)]) (od++[((i:Int),y)]) z (by simp;omega) (by simp;omega) (((n.trans j).trans t).trans D) E,by show c.length-(i+1)<c.length-i;omega,?_⟩⟩) (λ_=>⟨(i+1,gr++[(i:Int)],od,o),fin (gr++[(i:Int)]) od o (by simp;omega) aC ((n.trans j).trans t) u,by show c.length-(i+1)<c.length-i;omega,?_⟩)⟩)
   (λ_=>⟨cb,3,rfl,aC,aC,A,λC o t u=>aB (λ_=>⟨cb,2,rfl,aC,aC,u,λy z D E=>⟨by simp;omega,by simp;omega,(i+1,gr,od++[((i:Int),y)],z),fin gr (od++[((i:Int),y)]) z aC (by simp;omega) (((n.trans j).trans t).trans D) E,by show c.length-(i+1)<c.length-i;omega,?_⟩⟩) (λ_=>⟨(i+1,gr,od,o),fin gr od o aC aC ((n.trans j).trans t) u,by show c.length-(i+1)<c.length-i;omega,MT⟩)⟩)⟩
  .simp only[map_append];exact MT
  .simp only[map_append];exact MT
  .simp only[map_append];exact MT
 .refine⟨cb,4,rfl,G,λk I U k1 j A V H e W X B d C=>?_⟩;exact O V X k gr od I B (e.trans d) ⟨W.mono d,aC⟩ ⟨C,aC⟩ aC aC U aC (n.trans j) (A.mono (e.trans d))
def bdQ:Vc.Spec:=λc m h K=>∃cb s t a b,c=[cP cb,cS s,cS t]/\aR m h cb/\Ints h s a/\Ints h t b/\a.length<=1000/\b.length<=1000/\
 ∀o on m' h',PH.le h h'->jK h' o on->on.length<=10->bI m m' cb->aR m' h' cb->K (cS o) m' h'
noncomputable def bvQ(cb:Nat)(s t:Sl)(h:PH):Ctx:=
 dG [(30,JR)] [(3,{A:=Int×bx×MH,st:=λ⟨n,on,m⟩=>bO 77 80 [(0,pv cb),(1,sv s),(2,sv t),(7,.at (.lst 75)),(8,iv n)] [(75,.lst 91 2 (on.map uJ))] m h}),
  (8,{A:=Int×Nat×bx×(Int×Int)×Bool×MH,st:=λ⟨n,i,on,p,f,m⟩=>bO 77 80 [(0,pv cb),(1,sv s),(2,sv t),(7,.at (.lst 75)),(8,iv n),(9,.at (.ptr 9 0)),(10,bv f),(49,.at (.lst 75)),(50,iv on.length),(51,iv i)] [(9,.cells 91 [.val (.int .i64 p.1),.val (.int .i64 p.2)]),(75,.lst 91 2 (on.map uJ))] m h})] [] [] false
noncomputable abbrev A0(a:Int×bx×MH):List bm:=List.map uJ a.2.1
noncomputable abbrev Eb(a:Int×Nat×bx×(Int×Int)×Bool×MH):Bool:=a.2.2.2.2.1
noncomputable abbrev AZ(a:Int×Nat×bx×(Int×Int)×Bool×MH):Nat:=a.2.2.1.length
noncomputable abbrev BA(a:Int×Nat×bx×(Int×Int)×Bool×MH):Int×Int:=a.2.2.2.1
noncomputable abbrev rJ(a:Int×Nat×bx×(Int×Int)×Bool×MH):List bm:=List.map uJ a.2.2.1
noncomputable abbrev zD(a:Int×Nat×bx×(Int×Int)×Bool×MH):Nat->Option Obj:=a.2.2.2.2.2
abbrev MI(a:di->Prop)(b:di->Nat)(c d:Nat)(e g:Sl)(i:Int×Nat×bx×(Int×Int)×Bool×MH)(j:di->Int×Nat×bx×(Int×Int)×Bool×MH)(k:di->Prop):Prop:=∃(x:Int×Nat×bx×(Int×Int)×Bool×MH),aA (a x) (b x<c) (aA (dD d) (aH e) (aA (aH g) (eL 75) (aA (cQ i.1 (j x).1) (eP 9) (k x))))
attribute [push_cast] A0 Eb AZ BA rJ zD MI
def Vs(cb:Nat)(s t:Sl)(m:MH)(h:PH)(K:bo):Prop:=
  iQ cb 3 m h (λk F=>∃(I:Int×bx×MH->Prop)(n:Int×bx×MH->Nat),(∃(x:Int×bx×MH),aA (I x) (dD cb) (aA (aH s) (aH t) (aA (eL 75) (cQ k x.1) (aA (rB 91 2 (A0 x)) (F=x.2.2) (bX h h)))))/\∀(x:Int×bx×MH),I x->dZ x.1 0 (dZ (aG s) 0 (dZ (aG t) 0 (iQ cb (aG s) x.2.2 h (λu G=>iQ cb (aG t) G h (λz A=>aA (cF 0) ((0:Int)<2) (aK (λb o=>aA (aL s.a b o) (0<=u) (u<aG s/\∃(y:Int),aA (aJ A h b (fX o u 1) (bL y)) ((0:Int)<=1) ((1:Int)<2/\aK (λC D=>aA (aL t.a C D) (0<=z) (z<aG t/\∃(E:Int),aJ A h C (fX D z 1) (bL E)/\∃(I1:Int×Nat×bx×(Int×Int)×Bool×MH->Prop)(f:Int×Nat×List (Int×
 Int)×(Int×Int)×Bool×MH->Nat),(∃(c:Int×Nat×bx×(Int×Int)×Bool×MH),aA (I1 c) (dD cb) (aA (aH s) (aH t) (aA (eL 75) (cQ x.1 c.1) (aA (eP 9) (iT (y==E) (Eb c)) (aA (eL 75) (cG (A0 x).length (AZ c)) (aA (bC c.2.1) (D0 (lX (jI u) (jI z)) (uO (BA c))) (dK (Option.some (Own.lst 91 2 (A0 x))=Option.some (Own.lst 91 2 (rJ c))) A (zD c) h h)))))))/\∀(c:Int×Nat×bx×(Int×Int)×Bool×MH),I1 c->aZ (↑c.2.1:Int) (↑(AZ c):Int) (oO (↑c.2.1:Int) (rJ c) (λe=>jC (rJ c) (lK c.2.1) e/\∃(B:Int×Int),gK (mZ 2 e (uS B)) (Eb c) (aA (cF 0) ((0:Int)<2) (aA (cF 0) ((0:Int)<2) (cO B.1 (BA c).1 (aA (cF 1) ((1:Int)<2) (aA
 (cF 1) ((1:Int)<2) (MI (λd=>I1 d) (λd=>f d) (f c) cb s t c (λd=>d) (λd=>aA (iT (B.2 !=(BA c).2) (Eb d)) (eL 75) (aA (cG (AZ c) (AZ d)) (bD (fP (bE c.2.1 1)) d.2.1) (aA (D0 (uO (BA c)) (uO (BA d))) (Option.some (Own.lst 91 2 (rJ c))=Option.some (Own.lst 91 2 (rJ d))) (aA (zD c=zD d) (h=h) True))))))) (MI (λd=>I1 d) (λd=>f d) (f c) cb s t c (λd=>d) (λd=>aA (BC (Eb d)) (eL 75) (aA (cG (AZ c) (AZ d)) (bD (fP (bE c.2.1 1)) d.2.1) (aA (D0 (uO (BA c)) (uO (BA d))) (Option.some (Own.lst 91 2 (rJ c))=Option.some (Own.lst 91 2 (rJ d))) (aA (zD c=zD d) (h=h) True)))))))) (MI (λd=>I1 d) (λd=>f d) (f
 c) cb s t c (λd=>d) (λd=>aA (BC (Eb d)) (eL 75) (aA (cG (AZ c) (AZ d)) (bD (fP (bE c.2.1 1)) d.2.1) (aA (D0 (uO (BA c)) (uO (BA d))) (Option.some (Own.lst 91 2 (rJ c))=Option.some (Own.lst 91 2 (rJ d))) (aA (zD c=zD d) (h=h) True))))))) (branch (Eb c) (aA (iY (jA (rJ c) 1) 16) (dO (rJ c)) (∃(d:Int×bx×MH),aA (I d) (n d<n x) (aA (dD cb) (aH s) (aA (aH t) (eL 75) (aA (cQ (eT (c.1-1)) d.1) (Option.some (Own.lst 91 2 (jW (rJ c) (uS (BA c))))=Option.some (Own.lst 91 2 (A0 d))) (dW (zD c) d.2.2 h h)))))) (∃(d:Int×bx×MH),aA (I d) (n d<n x) (aA (dD cb) (aH s) (aA (aH t) (eL 75) (aA (cQ (eT (c.1-1)) d.1)
 (Option.some (Own.lst 91 2 (rJ c))=Option.some (Own.lst 91 2 (A0 d))) (dW (zD c) d.2.2 h h))))))))))))))) (bZ h 2 (A0 x) (λg j=>K (rC g) x.2.2 j))) (bZ h 2 (A0 x) (λg j=>K (rC g) x.2.2 j))) (bZ h 2 (A0 x) (λg j=>K (rC g) x.2.2 j)))
theorem arZ:bk 32 bdQ:=by
 refine iB func32 ?_;rintro L m h K ⟨cb,s,t,a,b,rfl,M,C,D,l1,l2,O⟩;refine⟨bvQ cb s t h,rfl,aD Kv aF,Vs cb s t m h K,bf,?_⟩;dsimp only[Vs,push_cast];have P:=C.slen;have Q:=D.slen;refine⟨cb,3,rfl,M,λk g E R d j=>⟨λ⟨n,on,A⟩=>0<=n/\n<=2/\(on.length:Int)<=2-n/\bI m A cb/\aR A h cb,λ⟨n,_,_⟩=>n.toNat,⟨(k,[],g),⟨E,by show k<=2;omega,by simp;omega,d,j⟩,MT⟩,?_⟩⟩;clear E R d j g;rintro⟨n,on,g⟩ ⟨n0,n1,S,d,j⟩;dsimp only;have out:∀(e:Sl)(h':PH),PH.le h h'->cZ h' e 2 (on.map uJ)->K (.val (.slice e.a e.len e.cap)) g h':=λe h' o u=>O e on g h' o ⟨u,aC⟩ aC d (j.mono o);refine aE (λhn=>aE (λhp=>aE (λhq=>?_) (λ_=>out)) (λ_=>out)) (λ_=>out);refine⟨cb,s.len,rfl,j,λx m2 F x1 G T=>⟨cb,t.len,rfl,T,λy c H y1 I J=>?_⟩⟩;obtain⟨U,V,W,X⟩:=C.inb (n:=x) F aC;obtain⟨Y,Z,e2,r2⟩:=D.inb (n:=y) H aC;refine⟨aC,aC,U,V,W,F,aC,_,.imm X,aC,aC,Y,Z,e2,H,aC,_,.imm r2,?_⟩;refine⟨λ⟨n',i,B,p,f,A⟩=>n'=n/\B=on/\A=c/\i<=on.length,λ⟨_,i,_,_,_,_⟩=>on.length-i,⟨(n,0,on,(x,y),a.getD x.toNat 0==b.getD y.toNat 0,c),⟨rfl,rfl,rfl,aC⟩,?_⟩,?_⟩
 .rw[length_map];exact MT
 rintro⟨n,i,on,p,f,c⟩ ⟨rfl,rfl,rfl,hi⟩;dsimp only;refine aE (λa'=>?_) (λa0=>?_)
 .have hl:i<on.length:=by omega
  have z:(on.map uJ)[i]? =some (uJ on[i]):=by rw[getElem?_map,getElem?_eq_getElem hl];rfl
  refine⟨aC,by rw[length_map];omega,_,z,on[i],rfl,aB (λ_=>⟨aC,aC,aC,aC,aB (λ_=>⟨aC,aC,aC,aC,(n,i+1,on,p,_,c),⟨rfl,rfl,rfl,by show i+1<=on.length;omega⟩,by show on.length-(i+1)<on.length-i;omega,MT⟩) (λ_=>⟨(n,i+1,on,p,_,c),⟨rfl,rfl,rfl,by show i+1<=on.length;omega⟩,by show on.length-(i+1)<on.length-i;omega,MT⟩)⟩) (λ_=>⟨(n,i+1,on,p,_,c),⟨rfl,rfl,rfl,by show i+1<=on.length;omega⟩,by show on.length-(i+1)<on.length-i;omega,MT⟩)⟩
 .have hw:IntKind.i64.wrap (n-1)=n-1:=eG aC aC;rw[hw];refine aB (λ_=>⟨by rw[length_map];omega,by rw[length_map];omega,(n-1,on++[p],c),⟨by show 0<=n-1;omega,by show n-1<=2;omega,by simp;omega,(d.trans G).trans I,J⟩,by show(n-1).toNat<n.toNat;omega,?_⟩) (λ_=>⟨(n-1,on,c),⟨by show 0<=n-1;omega,by show n-1<=2;omega,by show(on.length:Int)<=2-(n-1);omega,(d.trans G).trans I,J⟩,by show(n-1).toNat<n.toNat;omega,MT⟩);rw[map_append];exact MT
def bYZ:Vc.Spec:=λd m h K=>∃s e,∃c:Nat,d=[cS s,cI c]/\cZ h s 1 (aU e)/\s.len<=s.cap/\c<=1000/\∀cb m' h',PH.le h h'->m cb=none->bI m m' cb->aR m' h' cb->K (cP cb) m' h'
abbrev BG(a b:Prop)(c:(List bm)->Prop):Prop:=aA a b (∃(x:List bm),c x)
attribute [push_cast] BG
def ZD(s:Sl)(c:Nat)(m:MH)(h:PH)(K:bo):Prop:=
  BG (cF (ite ((↑c:Int)<aG s) (↑c:Int) (aG s))) (ite ((↑c:Int)<aG s) (↑c:Int) (aG s)<=(↑s.cap:Int)) (λy=>aA (eR 1 y) (sI m h (Sl.mk s.a (ite ((↑c:Int)<aG s) (↑c:Int) (aG s)).toNat s.cap) 1 y) (aA (iY y.length 1) (lN y.length) (bZ h 1 y (λf d=>fR (λb e=>aY (bW m d b) (cM m e b (gV (dT f) bJ) 78) (K (uX b 0) e d))))))
theorem H9(l:ci):eR 1 (aU l):=by
 constructor
 .intro e c;obtain⟨x,_,rfl⟩:=mem_map.1 c;rfl
 .intro e c u d;obtain⟨x,_,rfl⟩:=mem_map.1 c;simp at d;subst d;rfl
theorem cZ.cut{s:Sl}(r:cZ h s sz xs)(n:Nat)(f:n<=xs.length):cZ h ⟨s.a,n,s.cap⟩ sz (xs.take n):=by
 refine⟨by simp;omega,?_,by have g:=r.len;have j:=r.cap;show n<=s.cap;omega⟩;rcases r.row with e|⟨b,o,d,k⟩
 .left;rw[e];simp
 .right;refine⟨b,o,d,λi e c=>?_⟩;rw[getElem?_take]at c;split at c
  .exact k i e c
  .cases c
theorem aPQ:bk 7 bYZ:=by
 refine iB func7 ?_;rintro t m h K ⟨s,g,c,rfl,n,A,B,u⟩;refine⟨pF [] [] [] [] [78] [] false,rfl,aF,ZD s c m h K,bf,?_⟩;have C:s.len=g.length:=by have:=n.len;simpa[aU]using this
 dsimp only[ZD,push_cast];have d:(if(c:Int)<(s.len:Int)then(c:Int)else(s.len:Int))=((min c s.len:Nat):Int):=by split<;>omega
 rw[d];have e:=cZ.cut n (min c s.len) (by simp[aU];omega);refine⟨aC,aC,aU (g.take (min c s.len)),H9 _,.imm ?_,by simp[aU];omega,by simp[aU];omega,λy h' j f b m' z o=>?_⟩
 .rw[show aU (g.take (min c s.len))=(aU g).take (min c s.len)by simp[aU,map_take]];exact e
 .exact u b m' h' j z.m_ ⟨o.other⟩ ⟨_,⟨⟨y,_,0,o.at_,f,aC,by simp;omega,rfl⟩⟩⟩
def bIX:Vc.Spec:=λc m h K=>∃n:Nat,c=[.val (.slice none 0 0),cI n]/\n<=1000/\K (.lst 3 1 []) m h
noncomputable def a3X(c:Sl)(m:MH)(h:PH):Ctx:=
 dG [(157,bIX)] [(3,{A:=Nat×Nat,st:=λ⟨i,n⟩=>bO 36 37 [(0,sv c),(3,iv n),(9,sv c),(10,iv c.len),(11,iv i)] [] m h}),
  (11,{A:=Nat×br,st:=λ⟨i,l⟩=>bO 36 37 [(6,.at (.lst 24)),(25,sv c),(26,iv c.len),(27,iv i)] [(24,.lst 3 1 (l.map eI))] m h})] [] [] false
abbrev Hy(a:Int):Prop:=a<=140737488355328
noncomputable abbrev MU(a:Nat)(b:bm):Int:=lU (replicate (eT ((↑a:Int)-0)).toNat b)
attribute [push_cast] Hy MU
def Ru(n:Nat)(m:MH)(h:PH)(K:bo):Prop:=
  dZ (eT ((↑n:Int)-eT ((0:Int)-0))) 0 (aA (cF 0) (cF 0) (aA (0<eT ((↑n:Int)-0)) (Hy (eT ((↑n:Int)-0)*8)) (aA (Hy (eT ((↑n:Int)-0))) ((0:Int)<=0) (cF (MU n (jD bJ))/\K (CV.lst 3 1 []) m h)))) (K (CV.lst 3 1 []) m h)
abbrev IW(a:(Nat×Nat->Prop)->(Nat×Nat)->Prop)(b:(Nat×Nat->Prop)->(Nat×Nat->Nat)->(Nat×Nat)->Prop):Prop:=∃(x:Nat×Nat->Prop)(d:Nat×Nat->Nat),(∃(c:Nat×Nat),a x c)/\∀(c:Nat×Nat),b x d c
noncomputable abbrev Ej(a:Nat):cq:=aW jG (↑a:Int)
abbrev HA(a:MH)(b:PH)(c d e g:Nat)(i:bm)(j:(List bm)->Prop):Prop:=aJ a b c (bK d e g) i/\∃(x:List bm),j x
attribute [push_cast] IW Ej HA
def R2(d:Sl)(m:MH)(h:PH)(K:bo):Prop:=
  IW (λI x=>aA (I x) (aH d) (aA (bC x.2) (aH d) (aA (bG d) (bC x.1) (aA (m=m) (h=h) True)))) (λI g x=>I x->aZ (↑x.1:Int) (aG d) (aK (λb o=>aA (aL d.a b o) (0<=(↑x.1:Int)) ((↑x.1:Int)<aG d/\∃(y:Sl),aJ m h b (bK o x.1 1) (aM y)/\aZ (bE x.2 (aG y)) 0 False (∃(c:Nat×Nat),aA (I c) (g c<g x) (aA (aH d) (bD (fP (bE x.2 (aG y))) c.2) (aA (aH d) (bG d) (aA (bD (fP (bE x.1 1)) c.1) (m=m) (bX h h)))))))) (∃(n:Nat),aA (Ej x.2=Ej n) (mT n) (MW (λI1 c=>aA (I1 c) (eL 24) (aA (aH d) (bG d) (aA (bC c.1) (wE (pO c)) (aA (m=m) (h=h) True)))) (λI1 j c=>I1 c->aZ (↑c.1:Int) (aG d) (aK (λb o=>aA (aL d.a b o) (0<=(↑c.1:Int)) ((↑c.1:Int)<
 aG d/\∃(y:Sl),HA m h b o c.1 1 (aM y) (λe=>aA (eR 1 e) (cZ h (dJ y) 1 e) (aA (rY (pO c) e 8) (rZ (pO c) e) (∃(f:Nat×br),aA (I1 f) (j f<j c) (aA (eL 24) (aH d) (aA (bG d) (bD (fP (bE c.1 1)) f.1) (aA (DT (pO c++e) (pO f)) (m=m) (bX h h)))))))))) (uM h (pO c) K m)))))
theorem X9:bk 157 bIX:=by
 refine iB func157 ?_;rintro d m h K ⟨n,rfl,f,c⟩;refine⟨dG [] [] [] [] true,rfl,aF,Ru n m h K,bf,?_⟩;dsimp only[Ru,push_cast];have e:IntKind.i64.wrap ((n:Int)-0)=n:=by rw[eG aC aC];omega
 have g:IntKind.i64.wrap ((n:Int)-IntKind.i64.wrap (0-0))=n:=by rw[show IntKind.i64.wrap (0-0)=0 from by rw[eG aC aC];rfl,e]
 exact aE (λj=>⟨aC,aC,aC,aC,aC,aC,aC,c⟩) (λ_=>c)
def xY(ks:List br):Nat:=(ks.map List.length).sum
theorem Lx{k:br}(c:ks[i]? =some k):xY (ks.take (i+1))=xY (ks.take i)+k.length:=by
 unfold xY;rw[take_add_one,c];simp
theorem JY{ks:List br}(h:∀k∈ks,k.length<=12):∀i,xY (ks.take i)<=12*i
 |0=>by simp[xY]
 |i+1=>by
  have c:=JY h i;cases e:ks[i]? with
  |none=>rw[take_add_one,e];simp[xY]at c⊢;omega
  |some k=>rw[Lx e];have:=h k (mem_of_getElem? e);omega
theorem O5:bk 106 JT:=by
 refine iB func106 ?_;rintro G m h K ⟨D,ks,rfl,z,M,d,H⟩;refine⟨a3X D m h,rfl,aD X9 aF,R2 D m h K,bf,?_⟩;dsimp only[R2,push_cast];have t:=bN.slen z;refine⟨λ⟨i,n⟩=>i<=ks.length/\n=xY (ks.take i),λ⟨i,_⟩=>ks.length-i,⟨(0,0),⟨aC,by simp[xY]⟩,MT⟩,?_⟩;rintro⟨i,n⟩ ⟨E,rfl⟩;dsimp only;have I:=JY d i;refine aE (λc=>?_) (λu=>?_)
 .obtain⟨k,f⟩:=eN t c;obtain⟨b,o,j,A,r,g⟩:=bN.at z f;have J:=g.slen;have y:=d k (mem_of_getElem? f)
  have L:IntKind.i64.wrap ((xY (ks.take i):Int)+(j.len:Int))=((xY (ks.take (i+1)):Nat):Int):=by
   rw[Lx f,eG aC aC];omega
  refine⟨b,o,A,aC,c,j,.imm r,?_⟩;rw[L];exact aE (λF=>by omega) (λ_=>⟨(i+1,xY (ks.take (i+1))),⟨aC,rfl⟩,by show ks.length-(i+1)<ks.length-i;omega,MT⟩)
 .refine⟨xY (ks.take i),rfl,aC,?_⟩;refine⟨λ⟨i,l⟩=>i<=ks.length/\l=(ks.take i).flatten,λ⟨i,_⟩=>ks.length-i,⟨(0,[]),⟨aC,bg⟩,MT⟩,?_⟩;clear I u E;rintro⟨i,l⟩ ⟨E,rfl⟩;dsimp only;have B:(ks.take i).flatten.length<=12*i:=by have:=JY d i;simpa[xY,length_flatten]using this
  refine aE (λc=>?_) (λu j h' C e=>H j h' C ⟨?_,?_⟩)
  .obtain⟨k,f⟩:=eN t c;obtain⟨b,o,j,A,r,g⟩:=bN.at z f;have y:=d k (mem_of_getElem? f);refine⟨b,o,A,aC,c,j,.imm r,k.map eI,B8 k,g.row,?_,?_,(i+1,(ks.take (i+1)).flatten),⟨aC,rfl⟩,by show ks.length-(i+1)<ks.length-i;omega,?_⟩
   .rw[length_map,length_map];omega
   .rw[length_map,length_map];omega
   .rw[take_add_one,f,Option.toList_some,flatten_append,map_append,flatten_cons,flatten_nil,append_nil];exact MT
  .rw[take_of_length_le aC]at e;exact e
  .rw[take_of_length_le aC]at B;omega
theorem QO:∀N,bk 77 (Ak N):=ZE O5
mutual
def uY:Query->Nat->Int->Bool×Int
 |.mk _ _ _ _ _ _ _ _ args,k,n=>if 24<n+1\/k=0 then(false,0)else ER args (k-1) (n+1)
def ER:ce->Nat->Int->Bool×Int
 |[],_,n=>(true,n)
 |q::qs,k,n=>match uY q k n with|(false,_)=>(false,0)|(true,c)=>ER qs k c
end
mutual
def Nv:Query->Int
 |.mk _ _ _ _ _ _ _ _ args=>1+Am args
def Am:ce->Int
 |[]=>0
 |p::ps=>Nv p+Am ps
end
mutual
theorem Mt:∀p:Query,1<=Nv p
 |.mk _ _ _ _ _ _ _ _ args=>by have:=vV args;simp only[Nv];omega
theorem vV:∀ps:ce,0<=Am ps
 |[]=>by simp[Am]
 |p::ps=>by have:=Mt p;have:=vV ps;simp only[Am];omega
end
mutual
theorem Qq:∀(p:Query)(n:Int),n<=24->(n+Nv p<=24->oL p n=n+Nv p)/\(24<n+Nv p->oL p n=25)
 |.mk _ _ _ _ _ _ _ _ args,n,h=>by
  obtain⟨c,d⟩:=N3 args (n+1) aC;simp only[oL,Nv];exact⟨λe=>by rw[c aC];omega,λe=>d aC⟩
theorem N3:∀(ps:ce)(n:Int),n<=25->(n+Am ps<=24->kK ps n=n+Am ps)/\(24<n+Am ps->kK ps n=25)
 |[],n,h=>by
  simp only[kK,Am];omega
 |p::ps,n,h=>by
  have t:=Mt p;have u:=vV ps;simp only[kK,Am];by_cases d:n<=24
  .rw[if_pos d];have g:=Qq p n d;have j:=(DF p n d).2;have c:=N3 ps _ j;by_cases o:n+Nv p<=24
   .have f:=g.1 o;rw[f]at c⊢
    exact⟨λe=>by rw[c.1 aC];omega,λe=>c.2 aC⟩
   .have f:=g.2 aC;rw[f]at c⊢
    exact⟨λe=>by omega,λe=>c.2 aC⟩
  .rw[if_neg d];omega
end
mutual
theorem HV:∀(p:Query)(k:Nat)(n:Int),n<=24->((uY p k n).1=true↔n+Nv p<=24/\kM p k=false)/\((uY p k n).1=true->(uY p k n).2=n+Nv p)
 |.mk _ _ _ _ _ _ _ _ args,k,n,h=>by
  have j:=vV args;simp only[uY,Nv];by_cases c:24<n+1\/k=0
  .rw[if_pos c];refine⟨⟨λe=>(by cases e),λe=>?_⟩,λe=>(by cases e)⟩;rcases c with c|c
   .omega
   .subst c;simp[kM]at e
  .rw[if_neg c];obtain⟨d,rfl⟩:∃d,k=d+1:=⟨k-1,aC⟩
   obtain⟨f,g⟩:=T2 args d (n+1) aC;simp only[kM,Nat.add_sub_cancel];refine⟨⟨λe=>?_,λe=>f.2 ⟨aC,e.2⟩⟩,λe=>by have:=g e;omega⟩;have:=f.1 e;exact⟨aC,this.2⟩
theorem T2:∀(ps:ce)(k:Nat)(n:Int),n<=24->((ER ps k n).1=true↔n+Am ps<=24/\oZ ps k=false)/\((ER ps k n).1=true->(ER ps k n).2=n+Am ps)
 |[],k,n,h=>by simp[ER,Am,oZ,h]
 |p::ps,k,n,h=>by
  obtain⟨c,d⟩:=HV p k n h;have t:=vV ps;simp only[ER,Am,oZ];cases e:uY p k n with
  |mk r g=>
   rw[e]at c d;cases r with
   |false=>
    refine⟨⟨λe=>(by cases e),λe=>?_⟩,λe=>(by cases e)⟩;have:=c.2 ⟨aC,(Bool.or_eq_false_iff.1 e.2).1⟩;cases this
   |true=>
    have j:=d rfl;have c:=c.1 rfl;simp only at j;obtain⟨f,o⟩:=T2 ps k g aC;refine⟨⟨λe=>?_,λe=>?_⟩,λe=>by have:=o e;simp only;omega⟩
    .have:=f.1 e;exact⟨aC,by rw[c.2,this.2];rfl⟩
    .exact f.2 ⟨aC,(Bool.or_eq_false_iff.1 e.2).2⟩
end
theorem FY(q:Query):(uY q 8 0).1=lP q:=by
 have d:=(HV q 8 0 aC).1;have c:=Qq q 0 aC;rw[Bool.eq_iff_iff,d];simp only[lP,Bool.and_eq_true,decide_eq_true_eq,Bool.not_eq_true'];refine and_congr_left λ_=>⟨λe=>?_,λe=>?_⟩
 .rw[c.1 aC];omega
 .by_cases f:0+Nv q<=24
  .exact f
  .rw[c.2 aC]at e;omega
def Ie:Code->Option (Code×Code)
 |.rangeFunc _ _ a b=>some (a,b)
 |.seq x y=>match Ie x with|some p=>some p|none=>Ie y
 |.block _ c=>Ie c
 |_=>none
noncomputable def rfA:Code:=match Ie (cC Tryz.f39)with|some p=>p.1|none=>.skip
noncomputable def rfB:Code:=match Ie (cC Tryz.f39)with|some p=>p.2|none=>.skip
structure LR where
 fn:FuncId
 tmps:Array Value
 bn:Nat
 b6:Nat
 b7:Nat
 D:Nat
noncomputable def pG(R:LR)(st:LoopState)(c:Option Code):Loop:={state:=st,pending:=c,fn:=R.fn,tmps:=R.tmps,params:= #[37,38],assign:=rfA,body:=rfB,defers:=R.D}
def Hi:Obj:=.cells #[.slice none 0 0] 30 (0,0)
def FM(n:Int):Obj:=.cells #[.int .i64 n] 44 (0,0)
structure yQ(m:MH)(l:Nat)(R:LR)(n:Int):Prop where
 loop:m l=some (.loop (pG R .ready none))
 n_:m R.bn=some (sE n)
 k_:m R.b6=some Hi
 e_:m R.b7=some (FM 0)
 size:R.tmps.size=53
 t11:R.tmps[11]? =some (.pointer (some ⟨R.bn,0,none⟩))
 t6:R.tmps[6]? =some (.pointer (some ⟨R.b6,0,none⟩))
 t7:R.tmps[7]? =some (.pointer (some ⟨R.b7,0,none⟩))
structure Aj(m m':MH)(l:Nat)(R:LR):Prop where
 loop:m' l=some (.loop (pG R .done (some .ret)))
 k_:m' R.b6=some Hi
 e_:m' R.b7=some (FM 2)
 n_:∃x,m' R.bn=some x
 other:∀b,b≠l->b≠R.bn->b≠R.b6->b≠R.b7->m' b=m b
theorem yQ.ne{l:Nat}{R:LR}{n:Int}(x:yQ m l R n):l≠R.bn/\l≠R.b6/\l≠R.b7/\R.b6≠R.bn/\R.b7≠R.bn/\R.b6≠R.b7:=by
 have c:=x.loop;have g:=x.n_;have d:=x.k_;have f:=x.e_;refine⟨λe=>?_,λe=>?_,λe=>?_,λe=>?_,λe=>?_,λe=>?_⟩
 .rw[e,g]at c;cases c
 .rw[e,d]at c;cases c
 .rw[e,f]at c;cases c
 .rw[e,g]at d;cases d
 .rw[e,g]at f;cases f
 .rw[e,f]at d;cases d
theorem yQ.next{l:Nat}{R:LR}{n d:Int}(x:yQ m l R n)(c:gG m m' R.bn (sE d)):yQ m' l R d:=by
 obtain⟨e,j,o,f,g,t⟩:=x.ne;exact⟨by rw[c.other l e];exact x.loop,c.at_,by rw[c.other _ f];exact x.k_,by rw[c.other _ g];exact x.e_,x.size,x.t11,x.t6,x.t7⟩
theorem Aj.from{c:MH}{l:Nat}{R:LR}{e:Int}(f:gG m c R.bn (sE e))(h:Aj c m' l R):Aj m m' l R:=
 ⟨h.loop,h.k_,h.e_,h.n_,λb g d j n=>(h.other b g d j n).trans (f.other b d)⟩
def yv(l:Nat):CV:=.val (.func (.yield l) #[] #[])
def YS:Vc.Spec:=λd m h K=>∃l c v R n,d=[yv l,cI c,aQ v]/\yQ m l R n/\0<=n/\n<=24/\
 (∀m',(24<n+1\/8<c)->Aj m m' l R->K (cB false) m' h)/\(∀m',¬(24<n+1\/8<c)->gG m m' R.bn (sE (n+1))->K (cB true) m' h)
def YW(N:Nat):Vc.Spec:=λc m h K=>∃v q,∃k l:Nat,∃R n,c=[aQ v,cI (9-k),yv l]/\dQ h q v/\SizeOf.sizeOf q<N/\k<=9/\yQ m l R n/\0<=n/\n<=24/\
 (∀m',(uY q k n).1=false->Aj m m' l R->K (cB false) m' h)/\(∀m',(uY q k n).1=true->gG m m' R.bn (sE (uY q k n).2)->K (cB true) m' h)
def YR(b:Nat):CV:=.val (.pointer (some ⟨b,0,none⟩))
def bXQ:Vc.Spec:=λc m h K=>∃v q l d R,c=[yv l,YR d]/\m d=some (.cells ⟨v.enc⟩ 35 (0,0))/\dQ h q v/\yQ m l R 0/\
 (∀m',(uY q 8 0).1=false->Aj m m' l R->K (.tup []) m' h)/\(∀m',(uY q 8 0).1=true->gG m m' R.bn (sE (uY q 8 0).2)->K (.tup []) m' h)
def Sq:Vc.Spec:=λc m h K=>∃v,c=[aQ v]/\∀b m',bW m h b->gG m m' b (.cells ⟨v.enc⟩ 35 (0,0))->K (.val (.func (.func 140) #[] #[.pointer (some ⟨b,0,none⟩)])) m' h
noncomputable def aYZ(N:Nat)(v:QV)(k l:Nat)(h:PH):Ctx:=
 {dG [(141,YW N)] [(4,{A:=Nat×MH,st:=λ⟨i,m⟩=>bO 28 31 [(1,iv (9-k)),(2,vv (.func (.yield l) #[] #[])),(15,sv v.args),(16,iv v.args.len),(17,iv i)] [] m h})] [] [] false with yield:=some YS}
abbrev M6(a:cq->MH->PH->bo->Prop):Prop:=Li Proofs.Tryz.prog a
noncomputable abbrev CG(a:Nat):CV:=DY (Fn.yield a) Di
abbrev Eu(a:Nat):Prop:=eQ (Fk (Fn.yield a) Di)
noncomputable abbrev A2(a:QV)(b:Int)(c:Nat):cq:=cJ a.enc (gJ (fQ b) (CG c))
attribute [push_cast] M6 CG Eu A2
def RG(N:Nat)(v:QV)(k l:Nat)(m:MH)(h:PH)(K:bo):Prop:=
  M6 YS/\∃(j:Nat)(t:Int)(B:QV)(R:LR)(n:Int),aA (CG l::gJ (fQ (sM k)) (dL v)=CG j::gJ (fQ t) (dL B)) (yQ m j R n) (aA (cF n) (n<=24) ((∀(d:MH),aY (24<n+1\/8<t) (Aj m d j R) (K aX d h))/\∀(d:MH),aY (jU (24<n+1\/8<t)) (cM m d R.bn (bL (n+1)) 3) (∃(I:Nat×MH->Prop)(z:Nat×MH->Nat),(∃(x:Nat×MH),aA (I x) (mQ (sM k)) (aA (Eu l) (aH v.args) (aA (bG v.args) (bC x.1) (aA (d=x.2) (h=h) True))))/\∀(x:Nat×MH),I x->aZ (↑x.1:Int) (aG v.args) (aK (λb o=>aA (aL v.args.a b o) (0<=(↑x.1:Int)) ((↑x.1:Int)<aG v.args/\∃(y:QV),aJ x.2 h b (bK o x.1 21) y.enc/\oU (λA q=>aK (λe u=>∃(R1:LR)(c:Int),aA (A2 y (eT (sM k+1)) l=
 A2 A (sM e) u) (dQ h q A) (aA (oR q N) (e<=9) (aA (yQ x.2 u R1 c) (cF c) (aA (c<=24) (∀(f:MH),aY ((uY q e c).1=false) (Aj x.2 f u R1) (K aX f h)) (∀(f:MH),aY (fS (uY q e c).1) (cM x.2 f R1.bn (bL (uY q e c).2) 3) (∃(g:Nat×MH),aA (I g) (z g<z x) (aA (mQ (sM k)) (Eu l) (aA (aH v.args) (bG v.args) (aA (bD (fP (bE x.1 1)) g.1) (f=g.2) (bX h h)))))))))))))) (K gL x.2 h))))
abbrev AX(a:MH)(b:Nat->Nat->Option Value)(c d:Nat)(e:QV->Prop):Prop:=∃(x:QV),aJ a b c d x.enc/\e x
attribute [push_cast] AX
def ayX(N:Nat)(l e:Nat)(m:MH)(h:PH)(K:bo):Prop:=
  AX m h e 0 (λy=>oU (λv q=>aK (λk d=>∃(R:LR)(n:Int),aA (A2 y 1 l=A2 v (sM k) d) (dQ h q v) (aA (oR q N) (k<=9) (aA (yQ m d R n) (cF n) (aA (n<=24) (∀(c:MH),aY ((uY q k n).1=false) (Aj m c d R) (K (CV.tup []) c h)) (∀(c:MH),aY (fS (uY q k n).1) (cM m c R.bn (bL (uY q k n).2) 3) (K (CV.tup []) c h))))))))
noncomputable abbrev mM(a b:Nat):CV:=DY (Fn.func a) (Array.mk (jD (WE b 0)))
attribute [push_cast] mM
def OA(v:QV)(m:MH)(h:PH)(K:bo):Prop:=
  fR (λb c=>aY (bW m h b) (cM m c b v.enc 35) (K (mM 140 b) c h))
theorem VO(T:Li Tryz.prog YS):∀N,bk 141 (YW N)
 |0=>by
  refine eV (fn:=Tryz.f141) (c:=cC Tryz.f141) func141 rfl bh ?_;rintro G m h K ⟨v,q,k,l,R,n,rfl,_,V,_⟩;omega
 |N+1=>by
  refine iB func141 ?_;rintro G m h K ⟨v,q,k,l,R,n,rfl,W,V,hk,U,X,Y,H,I⟩;refine⟨aYZ N v k l h,rfl,aD (VO T N) aF,RG N v k l m h K,bf,?_⟩;dsimp only[RG,push_cast];have d:=W.args;have A:=d.slen;have hl:=d.len;refine⟨T,l,9-k,v,R,n,rfl,U,X,Y,λm' J y=>H m' ?_ y,λm' J Z=>?_⟩
  .cases q;simp only[uY];rw[if_pos aC]
  have J:¬(24<n+1\/8<9-(k:Int)):=J;have L:gG m m' R.bn (sE (n+1)):=Z;have hv:uY q k n=ER q.args (k-1) (n+1):=by cases q;simp only[uY,Query.args];rw[if_neg aC]
  rw[hv]at H I;refine⟨λ⟨i,E⟩=>∃g,i<=q.args.length/\0<=g/\g<=24/\gG m E R.bn (sE g)/\ER (q.args.drop i) (k-1) g=ER q.args (k-1) (n+1),λ⟨i,_⟩=>q.args.length-i,⟨(0,m'),⟨n+1,aC,aC,aC,L,bg⟩,MT⟩,?_⟩;rintro⟨i,E⟩ ⟨g,hi,M,B,j,z⟩;dsimp only;refine aE (λC=>?_) (λa'=>?_)
  .obtain⟨p,O⟩:=eN A C;obtain⟨b,o,u,ea,P,Q⟩:=d.at O;have hd:=drop_cons O;rw[hd,ER]at z;refine⟨b,o,ea,aC,C,u,.imm P,u,p,k-1,l,R,g,?_,Q,?_,aC,U.next j,M,B,λF t y=>?_,λF t S=>?_⟩
   .rw[eG aC aC,show(9-((k-1:Nat):Int))=9-(k:Int)+1 by omega]
   .have:=By (mem_of_getElem? O);omega
   .refine H F ?_ (y.from j);rw[<-z];cases e:uY p (k-1) g with
    |mk r x=>rw[e]at t;simp only at t;subst t;rfl
   .have f:gG E F R.bn (sE (uY p (k-1) g).2):=S;have y:=HV p (k-1) g B;have a0:=y.1.1 t;have D:=y.2 t;have a1:=Mt p;cases e:uY p (k-1) g with
    |mk r x=>
     rw[e]at t z D f;simp only at t D f;subst t;exact⟨(i+1,F),⟨x,aC,aC,aC,j.trans f,z⟩,by show q.args.length-(i+1)<q.args.length-i;omega,MT⟩
  .rw[drop_of_length_le aC,ER]at z;rw[<-z]at I;exact I E rfl j
theorem Yk(c:Li Tryz.prog YS):bk 140 bXQ:=by
 refine iB func140 ?_;rintro d m h K ⟨v,q,l,e,R,rfl,f,g,j,n,o⟩;refine⟨dG [(141,YW (SizeOf.sizeOf q+1))] [] [] [] false,rfl,aD (VO c _) aF,ayX (SizeOf.sizeOf q+1) l e m h K,bf,?_⟩;exact⟨v,.of_m f rfl,v,q,8,l,R,0,rfl,g,aC,aC,j,aC,aC,n,o⟩
theorem aoX:bk 76 Sq:=by
 refine iB func76 ?_;rintro c m h K ⟨v,rfl,d⟩;refine⟨dG [] [] [] [] false,rfl,aF,OA v m h K,bf,?_⟩;exact d
end Go.Ps
