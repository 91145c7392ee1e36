/-
  Part 4 of a proof that a law of the given program returns true: a condition generator that is proved sound, and contracts of functions. No condition of its own. Own work, joined by a program (pack2.py).
-/
import Derived.Test.YtmecdlibgejboaaGreatDoorNc
set_option linter.unusedVariables false
set_option linter.unusedSimpArgs false
namespace Go.Ps
open Go Go.Vc Go.Proofs List Tryz
variable{K:bu}{m:MH}{h:PH}{s:iJ}{ps:bt}{cb:Nat}{sc:cN}{v:QV}{p:Pred}{l:bt}{i:Nat}{N:Nat}{m':MH}{h':PH}{co:bt}{gr:bt}{od:ca}{ta:Int}{li:Int}{xs:List bw}{sz:Nat}{ks:List bt}{rs:bt}{r:Sl}{a:bt}{b:Nat}
def fv(f:Nat):CV:=.val (.func (.func f) #[] #[])
def Rk:Vc.Spec:=λc m h K=>∃op,c=[cI op]/\
 branch (op==1) (K (fv 180) m h) (branch (op==2) (K (fv 181) m h) (branch (op==3) (K (fv 182) m h) (branch (op==4) (K (fv 183) m h) (branch (op==5) (K (fv 184) m h) (branch (op==6) (K (fv 185) m h) (branch (op==7) (K (fv 185) m h) (branch (op==8) (K (fv 185) m h) (branch (op==9) (K (fv 186) m h) (branch (op==10) (K (fv 187) m h) (K (.val .nilFunc) m h))))))))))
noncomputable def bcX(N:Nat)(sc:cN)(p:Sl)(v:QV)(m:MH):Ctx:=
 cW [(77,Bc N),(142,Rk),(180,Az (· =1)),(181,Az (· =2)),(182,Az (· =3)),(183,Az (· =4)),(184,Az (· =5)),(185,Az (λop=>op=6\/op=7\/op=8)),(186,Az (· =9)),(187,Az (· =10))] [(3,{A:=Nat×ce×PH,st:=λ⟨i,c,h⟩=>bY 62 65 [(1,sv p),(3,.at (.ptr 3 0)),(5,.at (.ptr 5 0)),(8,.at (.ptr 8 0)),(21,sv v.args),(22,iv v.args.len),(23,iv i)] [(3,.cells 40 (sc.enc.map .val)),(5,.cells 35 (v.enc.map .val)),(8,.cells 197 ((sc.enc++eS p++v.enc).map .val++[.lst 41])),(41,.lst 30 1 (c.map eS))] m h})] [] [] false
noncomputable abbrev nC(a:Nat):Value:=Value.func (Fn.func a) xL xL
attribute [push_cast] nC
def KJ(op:Int)(m:MH)(h:PH)(K:bu):Prop:=
  ∀(b:Nat)(e:MH),fC m h b->gO m e b (aR Value.nilFunc Value.nilFunc (aR Value.nilFunc Value.nilFunc (aR Value.nilFunc Value.nilFunc (aR Value.nilFunc Value.nilFunc (aR Value.nilFunc Value.nilFunc (kL Value.nilFunc)))))) 241->Kf (λc E=>aA (MAt e b (B5 c E 0)) (11<=c.size) (∀(d:MH),gO e d b (aR Value.nilFunc (nC 180) (aR (nC 181) (nC 182) (aR (nC 183) (nC 184) (aR (nC 185) (nC 185) (aR (nC 185) (nC 186) (tZ (nC 187) 11 c.toList)))))) E->bA op 0 (K (CV.val Value.nilFunc) d h) (fQ op 11 (K (CV.val Value.nilFunc) d h) (aA (bZ op) (op<11) (∃(y:Option Nat),aU d h b (gC 0 op 1) (kL (aPX y))/\K (CV.val (aPX y)) d h)))))
abbrev wK(a:Nat×ce×PH)(b:cN)(c:Sl)(d:QV)(e:Sl->bw)(g:NV->ct)(i:Query->Prop)(j:PH->iJ->bt->Query->(List bt)->(bt×Int)->Prop):Prop:=cG (mB a) 1 (wD a) (λx o=>∃(t:NV),DB (λf u n y=>aA (oF (lG (aR (dY b.version) (gU b.tables) (aR (gU c) (dY d.op) (aR (dY d.table) (dY d.where_.op) (aR (dY d.where_.cmp) (kC (pJ d)) (e x))))))=g t) (Av o f u n y t) (aA (lK f) (i n) (∀(z:bt×Int),j o f u n y z))))
noncomputable abbrev wQ(a:QV)(b:bw):bw:=aR (kD (pJ a)) (dY (jK (pJ a))) (aR (kJ (pJ a)) (jW (pJ a)) (aR (kC (gG a)) (kD (gG a)) (aR (dY (jK (gG a))) (kJ (gG a)) b)))
attribute [push_cast] wK wQ
def Ug(N:Nat)(sc:cN)(p:Sl)(v:QV)(m:MH)(h:PH)(K:bu):Prop:=
  Mv (λI x=>aA (I x) (aJ p) (aA dR dL (aA eN (aJ v.args) (aA (bI v.args) (bF x.1) (aA (cE sc) (fA v) (aA (eQ (oQ 197 (fF (Ik sc) (Ij sc) (fF (oM p) (iI v.op) (lC v::An v v.on (CH v) (CI v) (fF (iI v.limit) (oM v.args) (rI (At.lst 41)))))))) (cH 30 1 []=cH 30 1 (List.map eS x.2.1)) (bS (m=m) h (mB x)))))))) (λI j x=>I x->bA (↑x.1:Int) (aG v.args) (aW (λb o=>aI (aX v.args.a b o) (0<=(↑x.1:Int)) ((↑x.1:Int)<aG v.args) (∃(y:QV),aU m (mB x) b (bN o x.1 21) y.enc/\It sc p y (mB x) N (λs e q d f=>dC (aK s e q).2 0 (K (CV.tup (bK CZ (CV.val (dY (aK s e q).2)))) m f) (jZ (wD x) 24 (∃(g:Nat×ce×PH),aA (I g) (j g<j x) (aA (aJ p) dR (aA dL eN (aA (aJ
 v.args) (bI v.args) (aA (fU (bG x.1 1)=bP g.1) (cE sc) (aA (fA v) (eQ (oQ 197 (fF (Ik sc) (Ij sc) (fF (oM p) (iI v.op) (lC v::An v v.on (CH v) (CI v) (fF (iI v.limit) (oM v.args) (rI (At.lst 41)))))))) (aI (cH 30 1 (fK (wD x) (aY d))=cH 30 1 (List.map eS g.2.1)) (m=m) (f=mB g) True)))))))))))) (∃(o:Int),kH v.op o/\dJ (o==1) (wK x sc p v (λs=>wQ v (aR (jW (gG v)) (pI v) (aR (pK v) (gU v.on) (aR (sE v) (sF v) (aR (dY v.limit) (vF v) (aY s)))))) (λn=>oF (gX n (gY n (gW n)))) (λq=>q.op=1) (λf s e q k r=>fin r=qU s e q k->∀(d:Sl)(c:PH),cD f c (Ints c d r.1) (mS (j8 r.2) (bU K r.2 m c) (aG d) 12 (bU K 2 m c) (lL K d m c)))) (o==2) (wK x sc p
 v (λs=>wQ v (aR (jW (gG v)) (pI v) (aR (pK v) (gU v.on) (aR (sE v) (sF v) (aR (dY v.limit) (vF v) (aY s)))))) (λn=>oF (gX n (gY n (gW n)))) (λq=>q.op=2) (λf s e q k r=>fin r=qU s e q k->∀(d:Sl)(c:PH),cD f c (Ints c d r.1) (mS (j8 r.2) (bU K r.2 m c) (aG d) 12 (bU K 2 m c) (lL K d m c)))) (dJ (o==3) (wK x sc p v (λs=>wQ v (aR (jW (gG v)) (pI v) (aR (pK v) (gU v.on) (aR (sE v) (sF v) (aR (dY v.limit) (vF v) (aY s)))))) (λn=>oF (gX n (gY n (gW n)))) (λq=>q.op=3) (λf s e q k r=>fin r=qU s e q k->∀(d:Sl)(c:PH),cD f c (Ints c d r.1) (mS (j8 r.2) (bU K r.2 m c) (aG d) 12 (bU K 2 m c) (lL K d m c)))) (o==4) (wK x
 sc p v (λs=>wQ v (aR (jW (gG v)) (pI v) (aR (pK v) (gU v.on) (aR (sE v) (sF v) (aR (dY v.limit) (vF v) (aY s)))))) (λn=>oF (gX n (gY n (gW n)))) (λq=>q.op=4) (λf s e q k r=>fin r=qU s e q k->∀(d:Sl)(c:PH),cD f c (Ints c d r.1) (mS (j8 r.2) (bU K r.2 m c) (aG d) 12 (bU K 2 m c) (lL K d m c)))) (dJ (o==5) (wK x sc p v (λs=>wQ v (aR (jW (gG v)) (pI v) (aR (pK v) (gU v.on) (aR (sE v) (sF v) (aR (dY v.limit) (vF v) (aY s)))))) (λn=>oF (gX n (gY n (gW n)))) (λq=>q.op=5) (λf s e q k r=>fin r=qU s e q k->∀(d:Sl)(c:PH),cD f c (Ints c d r.1) (mS (j8 r.2) (bU K r.2 m c) (aG d) 12 (bU K 2 m c) (lL K d m c)))) (o==6)
 (wK x sc p v (λs=>wQ v (aR (jW (gG v)) (pI v) (aR (pK v) (gU v.on) (aR (sE v) (sF v) (aR (dY v.limit) (vF v) (aY s)))))) (λn=>oF (gX n (gY n (gW n)))) (λq=>q.op=6\/q.op=7\/q.op=8) (λf s e q k r=>fin r=qU s e q k->∀(d:Sl)(c:PH),cD f c (Ints c d r.1) (mS (j8 r.2) (bU K r.2 m c) (aG d) 12 (bU K 2 m c) (lL K d m c)))) (dJ (o==7) (wK x sc p v (λs=>wQ v (aR (jW (gG v)) (pI v) (aR (pK v) (gU v.on) (aR (sE v) (sF v) (aR (dY v.limit) (vF v) (aY s)))))) (λn=>oF (gX n (gY n (gW n)))) (λq=>q.op=6\/q.op=7\/q.op=8) (λf s e q k r=>fin r=qU s e q k->∀(d:Sl)(c:PH),cD f c (Ints c d r.1) (mS (j8 r.2) (bU K r.2 m c) (aG d) 12
 (bU K 2 m c) (lL K d m c)))) (o==8) (wK x sc p v (λs=>wQ v (aR (jW (gG v)) (pI v) (aR (pK v) (gU v.on) (aR (sE v) (sF v) (aR (dY v.limit) (vF v) (aY s)))))) (λn=>oF (gX n (gY n (gW n)))) (λq=>q.op=6\/q.op=7\/q.op=8) (λf s e q k r=>fin r=qU s e q k->∀(d:Sl)(c:PH),cD f c (Ints c d r.1) (mS (j8 r.2) (bU K r.2 m c) (aG d) 12 (bU K 2 m c) (lL K d m c)))) (dJ (o==9) (wK x sc p v (λs=>wQ v (aR (jW (gG v)) (pI v) (aR (pK v) (gU v.on) (aR (sE v) (sF v) (aR (dY v.limit) (vF v) (aY s)))))) (λn=>oF (gX n (gY n (gW n)))) (λq=>q.op=9) (λf s e q k r=>fin r=qU s e q k->∀(d:Sl)(c:PH),cD f c (Ints c d r.1) (mS (j8 r.2) (bU
 K r.2 m c) (aG d) 12 (bU K 2 m c) (lL K d m c)))) (o==10) (wK x sc p v (λs=>wQ v (aR (jW (gG v)) (pI v) (aR (pK v) (gU v.on) (aR (sE v) (sF v) (aR (dY v.limit) (vF v) (aY s)))))) (λn=>oF (gX n (gY n (gW n)))) (λq=>q.op=10) (λf s e q k r=>fin r=qU s e q k->∀(d:Sl)(c:PH),cD f c (Ints c d r.1) (mS (j8 r.2) (bU K r.2 m c) (aG d) 12 (bU K 2 m c) (lL K d m c)))) (bU K 100 m (mB x))))))))
theorem W4:br 142 Rk:=by
 refine EU func142 ?_;rintro t m h K ⟨op,rfl,f⟩;refine⟨uC [] [] [] [] [241] [] false,rfl,aH,KJ op m h (kE h K),bi,?_⟩;show KJ op m h (kE h K);dsimp only[KJ,push_cast];intro b I o g;refine⟨_,_,⟨g.at_⟩,bk,λu j=>?_⟩;have c:Sub m u:=((Sub.refl m).upd o.m_ g.other).upd o.m_ j.other;have e:=j.at_
 have d:∀k,¬(1<=op/\op<=10)->op=k->K (.val .nilFunc) m h:=λk J _=>by
  have:(op==1)=false/\(op==2)=false/\(op==3)=false/\(op==4)=false/\(op==5)=false/\(op==6)=false/\(op==7)=false/\(op==8)=false/\(op==9)=false/\(op==10)=false:=by
   simp only[beq_eq_false_iff_ne];omega
  obtain⟨x,y,z,A,B,C,D,E,F,n⟩:=this;rw[x,y,z,A,B,C,D,E,F,n]at f;exact f
 refine aF (λG=>.sub c (d _ aD rfl)) (λG=>aF (λH=>.sub c (d _ aD rfl)) (λH=>⟨aD,aD,?_⟩));have:op=0\/op=1\/op=2\/op=3\/op=4\/op=5\/op=6\/op=7\/op=8\/op=9\/op=10:=by omega
 rcases this with rfl|rfl|rfl|rfl|rfl|rfl|rfl|rfl|rfl|rfl|rfl
 .exact⟨none,.lent _ _ _ e rfl,.sub c (d 0 aD rfl)⟩
 .exact⟨some 180,.lent _ _ _ e rfl,.sub c f⟩
 .exact⟨some 181,.lent _ _ _ e rfl,.sub c f⟩
 .exact⟨some 182,.lent _ _ _ e rfl,.sub c f⟩
 .exact⟨some 183,.lent _ _ _ e rfl,.sub c f⟩
 .exact⟨some 184,.lent _ _ _ e rfl,.sub c f⟩
 .exact⟨some 185,.lent _ _ _ e rfl,.sub c f⟩
 .exact⟨some 185,.lent _ _ _ e rfl,.sub c f⟩
 .exact⟨some 185,.lent _ _ _ e rfl,.sub c f⟩
 .exact⟨some 186,.lent _ _ _ e rfl,.sub c f⟩
 .exact⟨some 187,.lent _ _ _ e rfl,.sub c f⟩
theorem WA:br 180 (Az (· =1)):=by
 refine hJ func180 ?_;rintro d m h K ⟨n,s,ps,q,ks,rfl,e,f,c,g⟩;obtain⟨op,ta,w,co,on,gr,od,li,args⟩:=q;refine⟨cW [(215,CC),(81,uK)] [] [] [] false,rfl,(aE vI (aE GL aH)),GX n m h K,bi,?_⟩;dsimp only[GX,push_cast];cases (show op=1 from c);exact bmQ e f ⟨g⟩
theorem Wz:br 181 (Az (· =2)):=by
 refine hJ func181 ?_;rintro d m h K ⟨n,s,ps,q,ks,rfl,e,g,c,f⟩;obtain⟨op,ta,w,co,on,gr,od,li,args⟩:=q;refine⟨cW [(215,CC),(98,sO)] [] [] [] false,rfl,(aE vI (aE Kr aH)),GW n m h K,bi,?_⟩;dsimp only[GW,push_cast];cases (show op=2 from c);exact blJ e ⟨f⟩
theorem Wy:br 182 (Az (· =3)):=by
 refine hJ func182 ?_;rintro d m h K ⟨n,s,ps,q,ks,rfl,e,g,c,f⟩;obtain⟨op,ta,w,co,on,gr,od,li,args⟩:=q;refine⟨aEZ n m h,rfl,(aE vI aH),GV n m h K,bi,?_⟩;dsimp only[GV,push_cast];cases (show op=3 from c);exact blZ e ⟨f⟩
theorem Wx(c:br 106 JO):br 183 (Az (· =4)):=by
 refine hJ func183 ?_;rintro e m h K ⟨n,s,ps,q,ks,rfl,f,j,d,g⟩;obtain⟨op,ta,w,co,on,gr,od,li,args⟩:=q;refine⟨cW [(216,OK),(106,JO)] [] [] [] false,rfl,(aE N9 (aE c aH)),GU n m h K,bi,?_⟩;dsimp only[GU,push_cast];cases (show op=4 from d);exact blX f ⟨g⟩
theorem Ww:br 184 (Az (· =5)):=by
 refine hJ func184 ?_;rintro d m h K ⟨n,s,ps,q,ks,rfl,e,g,c,f⟩;obtain⟨op,ta,w,co,on,gr,od,li,args⟩:=q;refine⟨cW [(216,OK)] [] [] [] false,rfl,(aE N9 aH),GS n m h K,bi,?_⟩;dsimp only[GS,push_cast];cases (show op=5 from c);exact blQ e ⟨f⟩
theorem Wv:br 185 (Az (λop=>op=6\/op=7\/op=8)):=by
 refine hJ func185 ?_;rintro d m h K ⟨n,s,ps,q,ks,rfl,e,g,c,f⟩;obtain⟨op,ta,w,co,on,gr,od,li,args⟩:=q;refine⟨cW [(215,CC),(104,BH)] [] [] [] false,rfl,(aE vI (aE EE aH)),KD n m h K,bi,?_⟩;exact bkJ c e ⟨f⟩
theorem Wu:br 186 (Az (· =9)):=by
 refine hJ func186 ?_;rintro d m h K ⟨n,s,ps,q,ks,rfl,e,g,c,f⟩;obtain⟨op,ta,w,co,on,gr,od,li,args⟩:=q;refine⟨cW [(215,CC),(217,OF),(218,OG)] [] [] [] false,rfl,(aE vI (aE N8 (aE N7 aH))),GR n m h K,bi,?_⟩;dsimp only[GR,push_cast];cases (show op=9 from c);exact bkZ e ⟨f⟩
theorem Wt:br 187 (Az (· =10)):=by
 refine hJ func187 ?_;rintro d m h K ⟨n,s,ps,q,ks,rfl,e,g,c,f⟩;obtain⟨op,ta,w,co,on,gr,od,li,args⟩:=q;refine⟨cW [(215,CC),(104,BH),(217,OF),(218,OG)] [] [] [] false,rfl,(aE vI (aE EE (aE N8 (aE N7 aH)))),GQ n m h K,bi,?_⟩;dsimp only[GQ,push_cast];cases (show op=10 from c);exact bkX e ⟨f⟩
theorem Yo(G:br 106 JO):∀N,br 77 (Bc N)
 |0=>by
  refine eV (fn:=Tryz.f77) (c:=cL Tryz.f77) func77 rfl bk ?_;rintro W m h K ⟨sc,p,v,s,ps,q,rfl,_,_,_,_,hN,_⟩;omega
 |N+1=>by
  refine hJ func77 ?_;rintro W m h K ⟨sc,p,v,s,ps,q,rfl,hs,B,hp,hq,hN,A⟩;refine⟨bcX N sc p v m,rfl,(aE (Yo G N) (aE W4 (aE WA (aE Wz (aE Wy (aE (Wx G) (aE Ww (aE Wv (aE Wu (aE Wt aH)))))))))),Ug N sc p v m h K,bi,?_⟩;dsimp only[Ug,push_cast];have L:=@zZ q;have X:=hq;obtain⟨op,ta,w,co,on,gr,od,li,args⟩:=q;have x:=hq.parts;have C:=x.op_;have hl:=x.args_.slen;have a1:=x.args_.len;simp only[Query.args]at L;simp only[aK]at A;refine⟨λ⟨i,H,M⟩=>i<=args.length/\PH.le h M/\∃ks,Slices M H ks/\(args.take i).map (aK s ps)=ks.map (λk=>(k,0)),λ⟨i,_,_⟩=>args.length-i,⟨(0,[],h),⟨aD,.refl _,[],⟨rfl,λj s k O=>by simp at O⟩,bj⟩,MT⟩,?_⟩;rintro⟨i,H,M⟩ ⟨hi,t,ks,P,z⟩;have Y:ks.length=i:=by have:=congrArg List.length z;simp at this;omega
  have Z:H.length=i:=by rw[P.1,Y]
  dsimp only;refine aF (λI=>?_) (λa2=>?_)
  .obtain⟨S,E⟩:=eF hl I;obtain⟨b1,o1,u,a',r1,a0⟩:=(x.args_.mono t).at E;refine⟨b1,o1,a',aD,I,u,.imm r1,sc,p,u,s,ps,S,rfl,hs.mono t,B,hp.mono t,a0,?_,λg h' d F=>aC (λO=>?_) (λO=>?_)⟩
   .have:=L (mem_of_getElem? E);omega
   .have T:(aK s ps S).2≠0:=bo O
    rw[Fv T z E rfl]at A;exact A.err (t.trans d) (if_neg T)
   .have T:(aK s ps S).2=0:=bo O
    refine⟨by simp;omega,by simp;omega,(i+1,H++[g],h'),⟨aD,t.trans d,ks++[(aK s ps S).1],(P.mono d).snoc F,?_⟩,by show args.length-(i+1)<args.length-i;omega,?_⟩
    .rw[iH E,z,map_append];simp only[map_cons,map_nil];rw[<-T]
    .rw[map_append];exact MT
  .rw[take_of_length_le aD]at z;rw[sG z]at A;simp only[if_true]at A;have A:KR K m h (qU s ps (.mk op ta w co on gr od li args) ks):=A
   have n:∀(g:Sl)(h':PH),PH.le M h'->dK h' g 1 (H.map eS)->Av h' s ps (.mk op ta w co on gr od li args) ks ⟨sc,p,v,g⟩:=λg h' d f=>by
    refine⟨(hs.mono t).mono d,(hp.mono t).mono d,(X.mono t).mono d,⟨⟨H,f,P.1.symm,λj k U=>?_⟩,aD⟩,λk U=>?_⟩
    .have V:j<H.length:=by rw[P.1];exact(List.getElem?_eq_some_iff.1 U).1
     exact⟨H[j],getElem?_eq_getElem V,(P.2 j _ _ (getElem?_eq_getElem V) U).mono d⟩
    .obtain⟨j,V⟩:=mem_iff_getElem?.1 U;have:=Kl z j
     rwa [getD_eq_getElem?_getD,V]at this
   have o:∀(h':PH),PH.le M h'->∀r,fin r=qU s ps (.mk op ta w co on gr od li args) ks->∀(g:Sl)(y:PH),PH.le h' y->Ints y g r.1->
    branch (r.2 !=0) (K (.tup [.val (.slice none 0 0),.val (.int .i64 r.2)]) m y) (branch (decide ((g.len:Int)>12)) (K (.tup [.val (.slice none 0 0),.val (.int .i64 2)]) m y) (K (.tup [.val (.slice g.a g.len g.cap),.val (.int .i64 0)]) m y)):=by
    intro h' d r hr g y Q F;have J:PH.le h y:=(t.trans d).trans Q;rw[<-hr]at A;have Z:=F.slen;refine aC (λD=>?_) (λD=>aF (λd2=>?_) (λd2=>?_))
    .have D:r.2≠0:=bo D
     exact A.err J (by unfold fin;rw[if_neg D])
    .have D:r.2=0:=bo D
     exact A.big (l:=r.1) J (by unfold fin;rw[if_pos D]) aD
    .have D:r.2=0:=bo D
     exact A.ok (l:=r.1) J (by unfold fin;rw[if_pos D]) aD F.row
   refine⟨v.op,rfl,?_⟩;rw[C];refine aC (λc1 g h' d f=>⟨⟨sc,p,v,g⟩,s,ps,_,ks,by rw[<-C],n g h' d f,B,beq_iff_eq.1 c1,o h' d⟩) (λc1=>?_);refine aC (λc2 g h' d f=>⟨⟨sc,p,v,g⟩,s,ps,_,ks,by rw[<-C],n g h' d f,B,beq_iff_eq.1 c2,o h' d⟩) (λc2=>?_);refine aC (λc3 g h' d f=>⟨⟨sc,p,v,g⟩,s,ps,_,ks,by rw[<-C],n g h' d f,B,beq_iff_eq.1 c3,o h' d⟩) (λc3=>?_);refine aC (λc4 g h' d f=>⟨⟨sc,p,v,g⟩,s,ps,_,ks,by rw[<-C],n g h' d f,B,beq_iff_eq.1 c4,o h' d⟩) (λc4=>?_);refine aC (λc5 g h' d f=>⟨⟨sc,p,v,g⟩,s,ps,_,ks,by rw[<-C],n g h' d f,B,beq_iff_eq.1 c5,o h' d⟩) (λc5=>?_);refine aC (λc6 g h' d f=>⟨⟨sc,p,v,g⟩,s,ps,_,ks,by rw[<-C],n g h' d f,B,.inl (beq_iff_eq.1 c6),o h' d⟩) (λc6=>?_);refine aC (λc7 g h' d f=>⟨⟨sc,p,v,g⟩,s,ps,_,ks,by rw[<-C],n g h' d f,B,.inr (.inl (beq_iff_eq.1 c7)),o h' d⟩) (λc7=>?_);refine aC (λc8 g h' d f=>⟨⟨sc,p,v,g⟩,s,ps,_,ks,by rw[<-C],n g h' d f,B,.inr (.inr (beq_iff_eq.1 c8)),o h' d⟩) (λc8=>?_);refine aC (λc9 g h' d f=>⟨⟨sc,p,v,g⟩,s,ps,_,ks,by rw[<-C],n g h' d f,B,beq_iff_eq.1 c9,o h' d⟩) (λc9=>?_);refine aC (λR g h' d f=>⟨⟨sc,p,v,g⟩,s,ps,_,ks,by rw[<-C],n g h' d f,B,beq_iff_eq.1 R,o h' d⟩) (λR=>A.err t ?_);refine w9 λe=>?_;have:arity op= -1:=by simp only[arity];simp only[*,Bool.or_false,Bool.false_or,Bool.or_true,Bool.true_or,Bool.and_true,Bool.true_and,Bool.and_false,Bool.false_and,Bool.not_true,Bool.not_false,Bool.false_eq_true,if_true,if_false, ↓reduceIte]
   have:=e.1;simp only[Query.op]at this;omega
def gT:PV:=⟨0,0,eT,eT,⟨none,0,0⟩⟩
theorem RP(l:bz):eW 2 (l.map pY):=by
 constructor
 .intro e c;obtain⟨x,_,rfl⟩:=mem_map.1 c;rfl
 .intro e c u d;obtain⟨x,_,rfl⟩:=mem_map.1 c;simp[pY]at d;rcases d with rfl|rfl<;>rfl
theorem RO(l:ca):eW 2 (l.map BU):=by
 constructor
 .intro e c;obtain⟨x,_,rfl⟩:=mem_map.1 c;rfl
 .intro e c u d;obtain⟨x,_,rfl⟩:=mem_map.1 c;simp[BU]at d;rcases d with rfl|rfl<;>rfl
theorem Nd{n c:Nat}{α:Type}{enc:α->bw}{l:List α}(r:dK h ⟨none,n,c⟩ sz (l.map enc)):l=[]:=by
 rcases r.row with e|⟨b,o,e,_⟩
 .simpa using e
 .cases e
def cA(h:PH)(s:Sl)(l:cd):Prop:=bV h 3 VV.enc Eq s l
theorem cA.mono{s:Sl}{l:cd}(x:cA h s l)(le:PH.le h h'):cA h' s l:=bV.mono x le λ_ _ e=>e
def CD:QV:=⟨0,0,gT,⟨none,0,0⟩,⟨none,0,0⟩,⟨none,0,0⟩,⟨none,0,0⟩,0,⟨none,0,0⟩⟩
theorem apJ(l:de):eW 21 (l.map QV.enc):=by
 constructor
 .intro e c;obtain⟨x,_,rfl⟩:=mem_map.1 c;rfl
 .intro e c u d;obtain⟨x,_,rfl⟩:=mem_map.1 c;simp[QV.enc]at d;rcases d with rfl|rfl|rfl|rfl|rfl|rfl|rfl|rfl|rfl|rfl|rfl|rfl|rfl|rfl|rfl|rfl|rfl|rfl|rfl|rfl|rfl<;>rfl
mutual
def ajX:Pred->Nat
 |.mk _ _ _ _ args=>1+Jz args
def Jz:cq->Nat
 |[]=>0
 |p::ps=>ajX p+Jz ps
end
mutual
def Xw:Pred->Nat
 |.mk _ _ _ _ args=>1+LQ args
def LQ:cq->Nat
 |[]=>0
 |p::ps=>max (Xw p) (LQ ps)
end
mutual
theorem Nu:∀(p:Pred)(n:Int),pD p n<=n+ajX p
 |.mk _ _ _ _ args,n=>by
  have:=LC args (n+1);simp only[pD,ajX];omega
theorem LC:∀(ps:cq)(n:Int),kV ps n<=n+Jz ps
 |[],n=>by simp[kV,Jz]
 |p::ps,n=>by
  have c:=Nu p n;have d:=LC ps (pD p n);simp only[kV,Jz];split<;>omega
end
mutual
theorem LS:∀(p:Pred)(n:Nat),Xw p<=n->mM p n=false
 |.mk _ _ _ _ args,0,h=>by simp only[Xw]at h;omega
 |.mk _ _ _ _ args,n+1,h=>by
  simp only[Xw]at h;simp only[mM];exact Jx args n aD
theorem Jx:∀(ps:cq)(n:Nat),LQ ps<=n->uI ps n=false
 |[],_,_=>rfl
 |p::ps,n,h=>by
  simp only[LQ]at h;simp only[uI,LS p n aD,Jx ps n aD,Bool.or_false]
end
def gF:Nat->Nat
 |0=>1
 |d+1=>1+3*gF d
structure OD(d:Nat)(p:Pred):Prop where
 n:ajX p<=gF d
 d:Xw p<=d+1
theorem bFX:∀d,1<=gF d
 |0=>Nat.le_refl _
 |d+1=>by rw[gF];omega
theorem OD.leaf(d:Nat){op c:Int}{a b:OV}:OD d (.mk op c a b []):=⟨by simp[ajX,Jz,bFX],by simp[Xw,LQ]⟩
theorem OD.node{d:Nat}{op c:Int}{a b:OV}{ps:cq}(h:∀p∈ps,OD d p)(g:ps.length<=3):OD (d+1) (.mk op c a b ps):=by
 have j:∀l:cq,(∀p∈l,OD d p)->Jz l<=l.length*gF d/\LQ l<=d+1:=λl=>by
  induction l with
  |nil=>intro _;simp[Jz,LQ]
  |cons p l o=>
   intro f;have t:=o λx u=>f x (mem_cons_of_mem _ u);have e:=f p (mem_cons_self ..);have:=e.n;have:=e.d;simp only[Jz,LQ,length_cons,Nat.add_mul,Nat.one_mul];omega
 have t:=j ps h;have e:ps.length*gF d<=3*gF d:=Nat.mul_le_mul_right _ g;exact⟨by simp only[ajX,gF];omega,by simp only[Xw];omega⟩
mutual
def vS:Query->Nat
 |.mk _ _ _ _ _ _ _ _ args=>1+nO args
def nO:cg->Nat
 |[]=>0
 |q::qs=>vS q+nO qs
end
mutual
def aiZ:Query->Nat
 |.mk _ _ _ _ _ _ _ _ args=>1+Q7 args
def Q7:cg->Nat
 |[]=>0
 |q::qs=>max (aiZ q) (Q7 qs)
end
mutual
def fE(c:Nat):Query->Nat
 |.mk op _ _ _ _ _ _ _ args=>if op=1 then c else if op=4 then u0 c args else sB c args
def sB(c:Nat):cg->Nat
 |[]=>0
 |q::qs=>fE c q+sB c qs
def u0(c:Nat):cg->Nat
 |[]=>1
 |q::qs=>fE c q*u0 c qs
end
mutual
theorem Ns:∀(p:Query)(n:Int),pC p n<=n+vS p/\(pC p n<=24->pC p n=n+vS p)
 |.mk _ _ _ _ _ _ _ _ args,n=>by
  have:=LB args (n+1);simp only[pC,vS];omega
theorem LB:∀(ps:cg)(n:Int),kK ps n<=n+nO ps/\(kK ps n<=24->kK ps n=n+nO ps)
 |[],n=>by simp[kK,nO]
 |p::ps,n=>by
  have c:=Ns p n;have d:=LB ps (pC p n);simp only[kK,nO];split<;>omega
end
theorem JW{q:Query}(h:uY q=true):vS q<=24:=by
 simp only[uY,Bool.and_eq_true,decide_eq_true_eq]at h;have:=(Ns q 0).2 h.1;omega
def gN:Nat->Nat
 |0=>3
 |d+1=>2+2*gN d
def gD:Nat->Nat
 |0=>3
 |d+1=>2+gD d
def gB:Nat->Nat
 |0=>4
 |d+1=>gB d*gB d
structure qV(n d b:Nat)(q:Query):Prop where
 n:vS q<=n
 d:aiZ q<=d
 b:fE 4 q<=b
def SK(d:Nat)(q:Query):Prop:=qV (gN d) (gD d) (gB d) q
def BP:Nat->Query->Prop
 |0,q=>qV 1 1 4 q
 |d+1,q=>qV (1+2*gN d) (1+gD d) (gB d*gB d) q
theorem qV.mono{n d c e f:Nat}{q:Query}(x:qV n d b q)(g:n<=c)(j:d<=e)(o:b<=f):qV c e f q:=⟨Nat.le_trans x.n g,Nat.le_trans x.d j,Nat.le_trans x.b o⟩
theorem Cw:∀d,3<=gN d/\3<=gD d/\4<=gB d
 |0=>bk
 |d+1=>by
  obtain⟨e,f,c⟩:=Cw d;have:4*4<=gB d*gB d:=Nat.mul_le_mul c c;simp only[gN,gD,gB];omega
theorem BP.arg:∀{d:Nat}{q:Query},BP d q->SK d q
 |0,_,x=>qV.mono x bk bk bk
 |d+1,_,x=>qV.mono x (by simp only[gN];omega) (by simp only[gD];omega) (by simp only[gB];omega)
theorem qV.one{n d:Nat}{q:Query}(x:qV n d b q)(c:4<=b){op:Int}{w:Pred}{on:bz}:qV (n+1) (d+1) b (.mk op ta w co on gr od li [q]):=by
 obtain⟨e,f,g⟩:=x;refine⟨by simp only[vS,nO];omega,by simp only[aiZ,Q7];omega,?_⟩;simp only[fE,u0,sB];split
 .exact c
 .split<;>omega
theorem qV.two{n d f g c:Nat}{q p:Query}(x:qV n d b q)(y:qV f g c p)(j:4<=b)(e:4<=c){op:Int}{w:Pred}{on:bz}:qV (1+n+f) (1+max d g) (b*c) (.mk op ta w co on gr od li [q,p]):=by
 obtain⟨z,A,o⟩:=x;obtain⟨B,C,t⟩:=y;have D:b*4<=b*c:=Nat.mul_le_mul_left _ e;have E:4*c<=b*c:=Nat.mul_le_mul_right _ j;have u:fE 4 q*fE 4 p<=b*c:=Nat.mul_le_mul o t;refine⟨by simp only[vS,nO];omega,by simp only[aiZ,Q7];omega,?_⟩;simp only[fE,u0,sB];split
 .omega
 .split
  .simpa using u
  .omega
theorem qV.scan{w:Pred}{on:bz}:qV 1 1 4 (.mk 1 ta w co on gr od li []):=⟨by simp[vS,nO],by simp[aiZ,Q7],by simp[fE]⟩
theorem BP.node{d:Nat}{op:Int}{w:Pred}{on:bz}{args:cg}(h:∀a∈args,SK d a)(e:args.length<=2):BP (d+1) (.mk op ta w co on gr od li args):=by
 have c:=(Cw d).2.2;have f:gB d*4<=gB d*gB d:=Nat.mul_le_mul_left _ c
 match args,h,e with
 |[],_,_=>exact⟨by simp only[vS,nO];omega,by simp only[aiZ,Q7];omega,by simp only[fE,u0,sB];split;omega;split<;>omega⟩
 |[q],h,_=>exact qV.mono (qV.one (h q bj) c) (by have:=(Cw d).1;omega) aD aD
 |[q,p],h,_=>exact qV.mono (qV.two (h q bj) (h p bj) c c) aD aD (Nat.le_refl _)
theorem BP.filter{d:Nat}{q:Query}(x:BP d q){op:Int}{w:Pred}{on:bz}:SK d (.mk op ta w co on gr od li [q]):=by
 cases d with
 |zero=>exact qV.mono (qV.one x bk) bk bk bk
 |succ d=>
  have c:=(Cw d).2.2;have e:gB d*4<=gB d*gB d:=Nat.mul_le_mul_left _ c;exact qV.mono (qV.one x aD) (by simp only[gN];omega) (by simp only[gD];omega) (by simp only[gB];omega)
theorem SK.three(d:Nat){q:Query}(x:qV 3 3 4 q):SK d q:=qV.mono x (Cw d).1 (Cw d).2.1 (Cw d).2.2
theorem BP.mono{q:Query}:∀{d e:Nat},BP d q->d<=e->BP e q
 |d,0,x,h=>by have:d=0:=by omega
              subst this;exact x
 |d,e+1,x,h=>by
  by_cases c:d=e+1
  .subst c;exact x
  .have y:=BP.arg (x.mono (e:=e) aD);have f:=(Cw e).2.2;have g:gB e*1<=gB e*gB e:=Nat.mul_le_mul_left _ aD;exact qV.mono y aD aD aD
abbrev wO(a:MH)(b:PH)(c d:Nat)(e:Sl->Prop):Prop:=∃(x:Sl),aU a b c d (aY x)/\e x
noncomputable abbrev vH(a:Int):Value:=Value.int IntKind.u8 a
abbrev GC(a:Int):Prop:=a=0->False
attribute [push_cast] wO vH GC
def Uz(cb:Nat)(n:Int)(m:MH)(h:PH)(K:bu):Prop:=
  ∃(y:Int),aU m h cb 1 (bJ y)/\∃(e:Sl),aU m h cb 0 (aY e)/\fQ y (aG e) (K (eG 0) m h) (bA n 1 (K (eG 0) m h) (AJ m h cb 1 (λj=>rO m cb 1 (bJ (iE (j+1))) (λc=>wO c h cb 0 (λf=>AJ c h cb 1 (λd=>aW (λb o=>aI (aX f.a b o) (0<=iE (d-1)) (iE (d-1)<aG f) (∃(g:UInt8),aA (aU c h b (gC o (iE (d-1)) 1) (kL (vH (wY g)))) (GC n) (K (eG (Int.tmod (iE (wY g)) n)) c h)))))))))
theorem bJQ(cb:Nat)(n:Int)(m:MH)(h:PH)(K:bu):Uz cb n m h K=(sI (ctx [] [] [] [] false) Tryz.f30 (cL Tryz.f30) (entry 40 [.val (.pointer (some ⟨cb,0,none⟩)),.val (.int .i64 n)] m h) K):=bi
def bpX:Vc.Spec:=λc m h K=>∃(cb:Nat)(n:Int)(r:cn),c=[.val (.pointer (some ⟨cb,0,none⟩)),.val (.int .i64 n)]/\XX m h cb r/\
 ∀m',bM m m' cb->XX m' h cb (U8 n r).2->K (.val (.int .i64 (U8 n r).1)) m' h
theorem PB:br 30 bpX:=by
 refine eV (fn:=Tryz.f30) (c:=cL Tryz.f30) func30 rfl bk ?_;rintro F m h K ⟨cb,n,r,rfl,⟨s,d,k,x,e,D,f,rfl⟩,t⟩;refine⟨ctx [] [] [] [] false,rfl,aH,?_⟩;show sI (ctx [] [] [] [] false) Tryz.f30 (cL Tryz.f30) (entry 40 [.val (.pointer (some ⟨cb,0,none⟩)),.val (.int .i64 n)] m h) K;rw[<-bJQ];dsimp only[Uz,push_cast];have G:s.len=d.length:=by have:=e.len;simpa[bE]using this
 refine⟨k,.of_m x rfl,s,.of_m x rfl,aF (λH=>?_) (λz=>aF (λA=>?_) (λA=>?_))⟩
 .have u:d.drop k=[]:=by simp;omega
  rw[u]at t;exact t m ⟨λ_ _=>rfl⟩ ⟨s,d,k,x,e,D,f,by rw[u];rfl⟩
 .have g:k<d.length:=by omega
  have u:d.drop k=d[k]::d.drop (k+1):=drop_eq_getElem_cons g;rw[u]at t;simp only[U8,if_pos A]at t;refine t m ⟨λ_ _=>rfl⟩ ⟨s,d,k,x,e,D,f,u.symm⟩
 .have g:k<d.length:=by omega
  have u:d.drop k=d[k]::d.drop (k+1):=drop_eq_getElem_cons g;rw[u]at t;simp only[U8,if_neg A]at t;have I:IntKind.i64.wrap ((k:Int)+1)=((k+1:Nat):Int):=by rw[dT]<;>omega
  have B:IntKind.i64.wrap (((k+1:Nat):Int)-1)=(k:Int):=by rw[dT]<;>omega
  refine⟨k,.of_m x rfl,_,_,⟨x⟩,bj,λm' E=>?_⟩;have j:=E.at_;rw[I]at j;simp only[splice]at j;obtain y|⟨b,o,J,C⟩:=e.row
  .exfalso;have:=congrArg List.length y;simp[bE]at this;subst this;simp at g
  refine⟨s,.of_m j rfl,((k+1:Nat):Int),.of_m j rfl,b,o,J,?_⟩;rw[B];refine⟨aD,aD,d[k],.imm ?_,aD,?_⟩
  .have:=C k [.int .u8 d[k].toNat] (by simp[bE,g]);simpa using this
  .have z:d[k].toNat<256:=d[k].toNat_lt;rw[dT aD aD,Int.tmod_eq_emod_of_nonneg aD];refine t m' ⟨E.other⟩ ⟨s,d,k+1,j,e,aD,f,rfl⟩
def bC(m:MH)(h:PH)(cb:Nat):Prop:=∃r,XX m h cb r
theorem bC.mono(x:bC m h cb)(le:PH.le h h'):bC m h' cb:=by
 obtain⟨r,s,c,k,d,e,f⟩:=x;exact⟨r,s,c,k,d,e.mono le,f⟩
theorem bM.refl(m:MH)(cb:Nat):bM m m cb:=⟨λ_ _=>rfl⟩
theorem bM.trans{d:MH}(a:bM m m' cb)(b:bM m' d cb):bM m d cb:=⟨λc e=>(b.other c e).trans (a.other c e)⟩
def tN(n:Int):Prop:= -9223372036854775808<=n/\n<=9223372036854775807
structure K7(v:VV):Prop where
 int_:tN v.int
 text_:v.text.size<=64
def KOk(k:Int):Prop:=k=3\/k=4\/k=5
def YT(k:Int)(v:VV):Prop:=KOk k->kY v=true/\v.kind=k
def Lb:Vc.Spec:=λc m h K=>∃cb n,c=[cP cb,cI n]/\bC m h cb/\∀k m',0<=k->(k<n\/k=0)->bM m m' cb->bC m' h cb->K (cI k) m' h
def Rs:Vc.Spec:=λc m h K=>∃cb n,c=[cP cb,cI n]/\0<=n/\n<=1000/\bC m h cb/\∀r m',bM m m' cb->bC m' h cb->K (cB r) m' h
def YN:Vc.Spec:=λc m h K=>∃cb,c=[cP cb]/\bC m h cb/\∀k m',tN k->bM m m' cb->bC m' h cb->K (cI k) m' h
def bsJ:Vc.Spec:=λc m h K=>∃cb,c=[cP cb]/\bC m h cb/\∀t m',t.size<=64->bM m m' cb->bC m' h cb->K (U7 t) m' h
def Sw:Vc.Spec:=λd m h K=>∃cb c,d=[cP cb,cI c]/\bC m h cb/\∀v m',K7 v->YT c v->bM m m' cb->bC m' h cb->K (aV v) m' h
theorem L3:br 30 Lb:=by
 refine⟨PB.1,λc d m h w K e f=>PB.2 c d m h w K ?_ f⟩;obtain⟨cb,n,rfl,⟨r,g⟩,j⟩:=e;refine⟨cb,n,r,rfl,g,λm' o t=>j _ m' ?_ ?_ o ⟨_,t⟩⟩
 .cases r with
  |nil=>simp[U8]
  |cons b r=>
   simp only[U8];split
   .simp
   .exact Int.emod_nonneg _ aD
 .cases r with
  |nil=>simp[U8]
  |cons b r=>
   simp only[U8];split
   .simp
   .exact .inl (Int.emod_lt_of_pos _ aD)
noncomputable def aGX(h:PH):Ctx:=
 cW [(30,Lb)] [(18,{A:=Nat×ByteArray×MH,st:=λ⟨i,t,m⟩=>bY 37 38 [(3,vv (.string t)),(4,iv i)] [] m h}),(23,{A:=Nat×ByteArray×MH,st:=λ⟨i,t,m⟩=>bY 37 38 [(3,vv (.string t)),(5,iv i)] [] m h})] [] [] false
abbrev kO(a:Nat)(b:Int)(c:Nat->Option Obj)(d:Nat->Nat->Option Value)(e:Int->MH->Prop):Prop:=∃(x:Nat)(j:Int),aA (bT (cT a) b=bT (cT x) j) (bC c d x) (∀(f:Int)(g:MH),bZ f->f<j\/f=0->bM c g x->bC g d x->e f g)
attribute [push_cast] kO
def Uu(cb:Nat)(n:Int)(m:MH)(h:PH)(K:bu):Prop:=
  kO cb n m h (λk c=>K (xZ (k==iE (n-1))) c h)
def Qn(cb:Nat)(m:MH)(h:PH)(K:bu):Prop:=
  kO cb 12 m h (λk c=>dJ (k==9) (K (eG (Int.negSucc 0)) c h) (k==10) (K (eG 9223372036854775807) c h) (dZ k 11 (K (eG (Int.negSucc 9223372036854775807)) c h) (GC 4/\K (eG (Int.tmod k 4)) c h)))
noncomputable abbrev eY(a:Nat)(b:cn):cn:=OfNat.ofNat a::b
noncomputable abbrev vC(a:Nat):cn:=eY a []
attribute [push_cast] eY vC
def Qm(cb:Nat)(m:MH)(h:PH)(K:bu):Prop:=
  kO cb 10 m h (λk d=>dJ (k==0) (K (jU (ByteArray.mk (Array.mk (vC 97)))) d h) (k==1) (K (jU (ByteArray.mk (Array.mk (vC 97)))) d h) (dJ (k==2) (K (jU (ByteArray.mk (Array.mk (vC 97)))) d h) (k==3) (K (jU (ByteArray.mk (Array.mk (vC 98)))) d h) (dJ (k==4) (K (jU (ByteArray.mk (Array.mk (vC 98)))) d h) (k==5) (K (CV.val E8) d h) (dJ (k==6) (K (jU (ByteArray.mk (Array.mk (eY 97 (eY 0 []))))) d h) (k==7) (K (jU (ByteArray.mk (Array.mk (vC 255)))) d h) (dZ k 8 (∃(I:Nat×ByteArray×MH->Prop)(e:Nat×ByteArray×MH->Nat),(∃(x:Nat×ByteArray×MH),aA (I x) (SV.at aQz=SV.at (K6 x.2.1)) (aA (bF x.1) (d=x.2.2) (bD h h)))/\∀(x:Nat×ByteArray×MH),I x->bA (↑x.1:Int) 64 (x.2.1.size<9223372036854775807/\∃(c:Nat×ByteArray×MH),aA (I
 c) (e c<e x) (aA (SV.at (K6 (x.2.1++ByteArray.mk (Array.mk (vC 255))))=SV.at (K6 c.2.1)) (fU (bG x.1 1)=bP c.1) (bS (x.2.2=c.2.2) h h))) (K (jU x.2.1) x.2.2 h)) (∃(I:Nat×ByteArray×MH->Prop)(e:Nat×ByteArray×MH->Nat),(∃(x:Nat×ByteArray×MH),aA (I x) (SV.at aQz=SV.at (K6 x.2.1)) (aA (bF x.1) (d=x.2.2) (bD h h)))/\∀(x:Nat×ByteArray×MH),I x->bA (↑x.1:Int) 64 (x.2.1.size<9223372036854775807/\∃(c:Nat×ByteArray×MH),aA (I c) (e c<e x) (aA (SV.at (K6 (x.2.1++ByteArray.mk (Array.mk (vC 98))))=SV.at (K6 c.2.1)) (fU (bG x.1 1)=bP c.1) (bS (x.2.2=c.2.2) h h))) (K (jU x.2.1) x.2.2 h)))))))
abbrev jN(a:MH)(b:PH)(c:Nat)(d:Prop):Prop:=bC a b c->d
attribute [push_cast] jN
def QU(cb:Nat)(d:Int)(m:MH)(h:PH)(K:bu):Prop:=
  dJ (d==3) (kO cb 2 m h (λk e=>K (lG (aR (dY d) (dY k) (kL E8))) e h)) (d==4) (∃(c:Nat),aA (oF (cT cb)=oF (cT c)) (bC m h c) (∀(k:Int)(e:MH),tN k->bM m e c->jN e h c (K (lG (aR (dY d) (dY k) (kL E8))) e h))) (∃(c:Nat),oB (cT cb) (cT c) (bC m h c) (∀(t:ByteArray)(e:MH),t.size<=64->bM m e c->jN e h c (K (lG (aR (dY 5) bL (kL (Value.string t)))) e h)))
theorem bIJ{n:Int}(d:bC m h cb)(e:∀r m',bM m m' cb->bC m' h cb->K (cB r) m' h):Uu cb n m h K:=
 ⟨cb,n,rfl,d,λ_ m' _ _ f c=>e _ m' f c⟩
theorem Hv:Fl ⟨#[]⟩=true:=by simp[Fl,ByteArray.toList_eq]
theorem bAX{k:Int}(c:0<=k)(d:k<2\/k=0):kY ⟨3,k,⟨#[]⟩⟩=true:=by
 have:k=0\/k=1:=by omega
 rcases this with rfl|rfl<;>simp[kY,Hv]
theorem anZ(k:Int):kY ⟨4,k,⟨#[]⟩⟩=true:=by simp[kY,Hv]
theorem bAQ{t:ByteArray}(h:t.size<=64):kY ⟨5,0,t⟩=true:=by
 simp[kY];omega
theorem Dc:br 36 Rs:=by
 refine hJ func36 ?_;rintro c m h K ⟨cb,n,rfl,_,_,d,e⟩;refine⟨cW [(30,Lb)] [] [] [] false,rfl,aE L3 aH,Uu cb n m h K,bi,?_⟩;exact bIJ d e
theorem WS:br 158 YN:=by
 refine hJ func158 ?_;rintro f m h K ⟨cb,rfl,g,d⟩;refine⟨cW [(30,Lb)] [] [] [] false,rfl,aE L3 aH,Qn cb m h K,bi,?_⟩;dsimp only[Qn,push_cast];refine⟨cb,12,rfl,g,λk m' j n e c=>aC (λ_=>d _ m' ⟨aD,aD⟩ e c) (λ_=>aC (λ_=>d _ m' ⟨aD,aD⟩ e c) (λ_=>aC (λ_=>d _ m' ⟨aD,aD⟩ e c) (λ_=>⟨aD,d _ m' ?_ e c⟩)))⟩;rw[Int.tmod_eq_emod_of_nonneg j];exact⟨aD,aD⟩
theorem WR:br 159 bsJ:=by
 refine hJ func159 ?_;rintro g m h K ⟨cb,rfl,j,d⟩;refine⟨aGX h,rfl,aE L3 aH,Qm cb m h K,bi,?_⟩;dsimp only[Qm,push_cast];refine⟨cb,10,rfl,j,λk m' x y e c=>?_⟩;refine aC (λ_=>d _ m' bk e c) (λ_=>aC (λ_=>d _ m' bk e c) (λ_=>aC (λ_=>d _ m' bk e c) (λ_=>aC (λ_=>d _ m' bk e c) (λ_=>aC (λ_=>d _ m' bk e c) (λ_=>aC (λ_=>d _ m' bk e c) (λ_=>aC (λ_=>d _ m' bk e c) (λ_=>aC (λ_=>d _ m' bk e c) (λ_=>aC (λ_=>?_) (λ_=>?_)))))))))
 all_goals
  refine⟨λ⟨i,t,n⟩=>n=m'/\i<=64/\t.size=i,λ⟨i,_,_⟩=>64-i,⟨(0,⟨#[]⟩,m'),⟨rfl,aD,rfl⟩,MT⟩,?_⟩;rintro⟨i,t,m'⟩ ⟨rfl,z,f⟩;dsimp only;refine aF (λo=>⟨?_,(i+1,_,m'),⟨rfl,aD,?_⟩,by show 64-(i+1)<64-i;omega,MT⟩) (λu=>d t m' aD e c)
  .rw[f];show i+1<=_;omega
  .rw[ByteArray.size_append,f];rfl
theorem HJ:br 108 Sw:=by
 refine hJ func108 ?_;rintro y m h K ⟨cb,c,rfl,j,n⟩;refine⟨cW [(30,Lb),(158,YN),(159,bsJ)] [] [] [] false,rfl,aE L3 (aE WS (aE WR aH)),QU cb c m h K,bi,?_⟩;dsimp only[QU,push_cast];refine aC (λe=>⟨cb,2,rfl,j,λk m' z A g d=>n ⟨c,k,⟨#[]⟩⟩ m' ⟨⟨by show-9223372036854775808<=k;omega,by show k<=9223372036854775807;omega⟩,by show(ByteArray.mk #[]).size<=64;decide⟩ (λ_=>?_) g d⟩) (λo=>aC (λe=>⟨cb,rfl,j,λk m' f g d=>n ⟨c,k,⟨#[]⟩⟩ m' ⟨f,by show(ByteArray.mk #[]).size<=64;decide⟩ (λ_=>?_) g d⟩) (λu=>⟨cb,rfl,j,λt m' x g d=>n ⟨5,0,t⟩ m' ⟨⟨bj,bj⟩,x⟩ (λf=>?_) g d⟩))
 .have e:c=3:=bo e
  subst e;exact⟨bAX z A,rfl⟩
 .have e:c=4:=bo e
  subst e;exact⟨anZ k,rfl⟩
 .have o:c≠3:=bo o
  have u:c≠4:=bo u
  exact⟨bAQ x,by rcases f with f|f|f;exact absurd f o;exact absurd f u;exact f.symm⟩
mutual
def CB:Pred->Prop
 |.mk _ _ l r args=>K7 l.value/\K7 r.value/\K8 args
def K8:cq->Prop
 |[]=>True
 |p::ps=>CB p/\K8 ps
end
theorem OH:∀{l:cq},K8 l↔∀p∈l,CB p
 |[]=>by simp[K8]
 |p::ps=>by simp[K8,OH (l:=ps)]
theorem qX:K7 zeroV:=⟨⟨bk,bk⟩,bk⟩
structure Vo(cols params:bt)(kind:Int)(o:OV):Prop where
 val:K7 o.value
 kind:KOk kind->kindOf cols params o=kind
def Lc(l:bt):Prop:=∀k∈l,KOk k
structure PW(cols params:bt)(d:Nat)(p:Pred):Prop where
 vals:CB p
 valid:Lc cols->iX cols params p=true
 siz:OD d p
def Vn:Vc.Spec:=λf m h K=>∃cb s t e d c,f=[cP cb,cS s,cS t,cI e]/\bC m h cb/\Ints h s d/\Ints h t c/\d.length<=1000/\c.length<=1000/\∀o m',Vo d c e o->bM m m' cb->bC m' h cb->K (aO o) m' h
def KP(K:bu)(m:MH)(h:PH)(cb:Nat)(R:Pred->Prop):Prop:=∀v p m' h',PH.le h h'->eH h' p v->R p->bM m m' cb->bC m' h' cb->K (aP v) m' h'
def aRZ(N:Nat):Vc.Spec:=λf m h K=>∃cb s t e c,∃d:Nat,f=[cP cb,cS s,cS t,cI d]/\bC m h cb/\Ints h s e/\Ints h t c/\e.length<=1000/\c.length<=1000/\d<N/\d<=1000/\KP K m h cb (PW e c d)
structure xE(cols params:bt)(d:Nat)(p:Pred):Prop where
 vals:CB p
 valid:d<=2->Lc cols->Lc params->fR cols params p=0
def BJ:Vc.Spec:=λf m h K=>∃cb s t d c,∃e:Nat,f=[cP cb,cS s,cS t,cI e]/\bC m h cb/\Ints h s d/\Ints h t c/\d.length<=1000/\c.length<=1000/\e<=1000/\KP K m h cb (xE d c e)
def pv(b:Nat):SV:=vv (.pointer (some ⟨b,0,none⟩))
noncomputable def aNQ(cb:Nat)(s t:Sl)(c:Int)(m:MH)(h:PH):Ctx:=
 cW [(30,Lb),(108,Sw)] [(3,{A:=Nat×dm,st:=λ⟨i,d⟩=>bY 64 68 [(0,pv cb),(2,sv t),(3,iv c),(8,.at (.ptr 8 0)),(9,.at (.lst 29)),(15,sv s),(16,iv s.len),(17,iv i)] [(8,.cells 26 (eT.enc.map .val)),(29,.lst 26 5 (d.map OV.enc))] m h}),
  (9,{A:=Nat×dm,st:=λ⟨i,d⟩=>bY 64 68 [(0,pv cb),(3,iv c),(8,.at (.ptr 8 0)),(9,.at (.lst 29)),(31,sv t),(32,iv t.len),(33,iv i)] [(8,.cells 26 (eT.enc.map .val)),(29,.lst 26 5 (d.map OV.enc))] m h})] [] [] false
noncomputable def f56_ctx(N:Nat)(cb:Nat)(s t:Sl)(c:Nat)(d:PH):Ctx:=
 cW [(30,Lb),(36,Rs),(107,Vn),(108,Sw),(56,aRZ N)] [(18,{A:=Int×Int×dg×MH×PH,st:=λ⟨op,n,e,m,h⟩=>bY 107 111 [(0,pv cb),(1,sv s),(2,sv t),(3,iv c),(8,.at (.ptr 8 0)),(12,.at (.ptr 12 0)),(13,iv n)] [(8,.cells 29 (gT.enc.map .val)),(12,.cells 29 (((⟨op,0,eT,eT,⟨none,0,0⟩⟩:PV).enc.take 12).map .val++[.lst 104])),(104,.lst 29 13 (e.map PV.enc))] m h})] [(3,{A:=Int×Bool×MH,st:=λ⟨k,b,m⟩=>bY 107 111 [(0,pv cb),(1,sv s),(2,sv t),(3,iv c),(8,.at (.ptr 8 0)),(9,iv k),(16,bv b)] [(8,.cells 29 (gT.enc.map .val))] m d}),
  (5,{A:=Int×Bool×MH,st:=λ⟨k,b,m⟩=>bY 107 111 [(0,pv cb),(1,sv s),(2,sv t),(3,iv c),(8,.at (.ptr 8 0)),(9,iv k),(27,bv b)] [(8,.cells 29 (gT.enc.map .val))] m d}),
  (8,{A:=Int×MH,st:=λ⟨k,m⟩=>bY 107 111 [(0,pv cb),(1,sv s),(2,sv t),(8,.at (.ptr 8 0)),(10,iv k)] [(8,.cells 29 (gT.enc.map .val))] m d}),
  (9,{A:=PV×Int×MH,st:=λ⟨p,k,m⟩=>bY 107 111 [(0,pv cb),(1,sv s),(2,sv t),(8,.at (.ptr 8 0)),(10,iv k),(11,.at (.ptr 11 0))] [(8,.cells 29 (gT.enc.map .val)),(11,.cells 29 (p.enc.map .val))] m d}),
  (11,{A:=PV×MH,st:=λ⟨p,m⟩=>bY 107 111 [(0,pv cb),(8,.at (.ptr 8 0)),(11,.at (.ptr 11 0))] [(8,.cells 29 (gT.enc.map .val)),(11,.cells 29 (p.enc.map .val))] m d}),
  (13,{A:=PV×MH,st:=λ⟨p,m⟩=>bY 107 111 [(8,.at (.ptr 8 0)),(11,.at (.ptr 11 0))] [(8,.cells 29 (gT.enc.map .val)),(11,.cells 29 (p.enc.map .val))] m d})] [] false
noncomputable abbrev jA:At:=iI 0
abbrev DG:Prop:=eQ (oQ 26 (fF jA jA (fF (iI 0) jA (rI aQz))))
noncomputable abbrev rB(a:Nat×dm):List bw:=List.map OV.enc a.2
abbrev IL(a b:Nat×dm):Prop:=fU (bG a.1 1)=bP b.1
abbrev qK(a:Int)(b:List bw)(c:bw->Prop):Prop:=aA (bZ a) (a<qF b) (∃(x:bw),c x)
abbrev oA(a:List bw)(b:Int)(c:bw):Prop:=a[b.toNat]? =Option.some c
abbrev DS(a:Nat)(b:Int)(c:Nat->Option Obj)(d:Nat->Nat->Option Value)(e:VV->MH->Prop):Prop:=∃(x:Nat)(j:Int),aA (bT (cT a) b=bT (cT x) j) (bC c d x) (∀(f:VV)(g:MH),K7 f->YT j f->bM c g x->bC g d x->e f g)
attribute [push_cast] jA DG rB IL qK oA DS
def QX(cb:Nat)(s t:Sl)(d:Int)(m:MH)(h:PH)(K:bu):Prop:=
  ∃(I:Nat×dm->Prop)(g:Nat×dm->Nat),(∃(x:Nat×dm),aA (I x) (cQ cb) (aA (aJ t) (dO d) (aA eN (eL 29) (aA (aJ s) (bI s) (aA (bF x.1) DG (aA (tY 26 5 (rB x)) (m=m) (bD h h)))))))/\∀(x:Nat×dm),I x->bA (↑x.1:Int) (aG s) (aW (λb o=>aI (aX s.a b o) (0<=(↑x.1:Int)) ((↑x.1:Int)<aG s) (∃(y:Int),aU m h b (bN o x.1 1) (bJ y)/\dZ y d (jZ (rB x) 48 (∃(c:Nat×dm),aA (I c) (g c<g x) (aA (cQ cb) (aJ t) (aA (dO d) eN (aA (eL 29) (aJ s) (aA (bI s) (IL x c) (aA DG (cH 26 5 (fK (rB x) (aR (dY 1) (dY (↑x.1:Int)) (aR bL bL (kL E8))))=cH 26 5 (rB c)) (bS (m=m) h h)))))))) (∃(c:Nat×dm),aA (I c) (g c<g x) (aA (cQ
 cb) (aJ t) (aA (dO d) eN (aA (eL 29) (aJ s) (aA (bI s) (IL x c) (aA DG (cH 26 5 (rB x)=cH 26 5 (rB c)) (bS (m=m) h h)))))))))) (∃(I1:Nat×dm->Prop)(j:Nat×dm->Nat),(∃(c:Nat×dm),aA (I1 c) (cQ cb) (aA (dO d) eN (aA (eL 29) (aJ t) (aA (bI t) (bF c.1) (mA DG (cH 26 5 (rB x)=cH 26 5 (rB c)) (m=m) h h)))))/\∀(c:Nat×dm),I1 c->bA (↑c.1:Int) (aG t) (aW (λb o=>aI (aX t.a b o) (0<=(↑c.1:Int)) ((↑c.1:Int)<aG t) (∃(y:Int),aU m h b (bN o c.1 1) (bJ y)/\dZ y d (jZ (rB c) 48 (∃(f:Nat×dm),aA (I1 f) (j f<j c) (aA (cQ cb) (dO d) (aA eN (eL 29) (aA (aJ t) (bI t) (aA (IL c f) DG (aA (cH 26 5 (fK
 (rB c) (aR (dY 2) (dY (↑c.1:Int)) (aR bL bL (kL E8))))=cH 26 5 (rB f)) (m=m) (bD h h)))))))) (∃(f:Nat×dm),aA (I1 f) (j f<j c) (aA (cQ cb) (dO d) (aA eN (eL 29) (aA (aJ t) (bI t) (aA (IL c f) DG (aA (cH 26 5 (rB c)=cH 26 5 (rB f)) (m=m) (bD h h)))))))))) (kO cb (bG (rB c).length 1) m h (λk n=>bA k (qF (rB c)) (qK k (rB c) (λe=>oA (rB c) k e/\∃(y:OV),rL 5 e y.enc/\K (vD y) n h)) (DS cb d n h (λv u=>K (lG (aR (dY 3) bL (aR (dY v.kind) (dY v.int) (kL (Value.string v.text))))) u h)))))
abbrev oP(a:Nat)(b:Int)(c:Nat->Option Obj)(d:Nat->Nat->Option Value)(e:Nat->Bool->Prop):Prop:=∃(x:Nat)(f:Int),aA (bT (cT a) b=bT (cT x) f) (bZ f) (aA (f<=1000) (bC c d x) (∀(g:Bool),e x g))
abbrev sX:Prop:=eQ (oQ 29 zP)
abbrev Iq(a:Int×Bool×MH->Prop)(b:Nat)(c d:Sl)(e:Nat)(g:Int)(i:(Int×Bool×MH)->Prop)(j:Nat->Option Obj)(k:PH):Prop:=∃(x:Int×Bool×MH),aA (a x) (cQ b) (aA (aJ c) (aJ d) (aA (eQ (bP e)) eN (aA (dA g x.1) (i x) (aI sX (j=x.2.2) (k=k) True))))
noncomputable abbrev gP(a:Nat)(b:ct):ct:=cT a::b
abbrev lR(a:Nat):Prop:=a<=1000
abbrev iO(a:bt):Prop:=lR a.length
noncomputable abbrev zJ(a:OV):At:=iI a.index
abbrev Kd(a:Nat->Sl->Prop):Prop:=∃(x:Nat)(c:Sl),a x c
abbrev Bw(a:PV->Pred->Prop):Prop:=∀(x:PV)(c:Pred),a x c
abbrev eX(a:MH->PH->Prop):Prop:=∀(x:MH)(c:PH),a x c
abbrev Ir(a:ct)(b:MH)(c:PH)(d:Nat)(e:PV->MH->PH->Prop):Prop:=Kd (λx t=>B4 (λu j n=>∃(f:Nat),aA (a=gP x (dN t::bT (dN u) (↑f:Int))) (bC b c x) (aA (Ints c t j) (Ints c u n) (aA (iO j) (iO n) (aA (f<d) (lR f) (Bw (λy z=>eX (λo g=>cD c g (eH g z y) (PW j n f z->bM b o x->jN o g x (e y o g))))))))))
noncomputable abbrev I8(a:At)(b:cr):cr:=fF a jA (fF (iI 0) jA b)
noncomputable abbrev IM(a b:Int):cr:=I8 (iI a) (fF jA jA (fF aQz jA (fF jA jA (fF (iI b) aQz (rI (At.lst 104))))))
noncomputable abbrev Gy(a:Int×Int×dg×MH×PH):List bw:=List.map PV.enc a.2.2.1
abbrev cV(a:MH)(b:MH×PH):Prop:=a=b.1
noncomputable abbrev I7(a:Int×Int×dg×MH×PH):Nat->Nat->Option Value:=a.2.2.2.2
attribute [push_cast] oP sX Iq gP lR iO zJ Kd Bw eX Ir I8 IM Gy cV I7
def ap(N:Nat)(cb:Nat)(s t:Sl)(e:Nat)(m:MH)(h:PH)(K:bu):Prop:=
  kO cb 9 m h (λk F=>∃(I:Int×Bool×MH->Prop),dZ k 0 (oP cb 2 F h (λc r=>∀(f:MH),bM F f c->bC f h c->Iq I cb s t e k (λx=>i7 r x.2.1) f h)) (Iq I cb s t e k (λx=>CK x.2.1) F h)/\∀(x:Int×Bool×MH),gL (I x) x.2.1 (kO cb 2 x.2.2 h (λn f=>K (lG (aR (dY (iE (1+n))) bL (aR bL bL (aR bL bL (aR E8 bL (aR bL bL (aR bL E8 iT))))))) f h)) (∃(I1:Int×Bool×MH->Prop),bA x.1 6 (Iq I1 cb s t e x.1 (λu=>wF u.2.1) x.2.2 h) (Iq I1 cb s t e x.1 (λu=>i7 (decide ((↑e:Int)<1)) u.2.1) x.2.2 h)/\∀(u:Int×Bool×MH),I1 u->dJ u.2.1 (∃(I2:Int×MH->Prop),gM (aG s) 0 (kO cb (aG s) u.2.2 h (λn f=>aW (λb o=>aI (aX s.a b o) (0<=n) (n<aG s)
 (∃(y:Int),aU f h b (gC o n 1) (bJ y)/\∃(d:Int×MH),aA (I2 d) (cQ cb) (aA (aJ s) (aJ t) (aA eN (dA y d.1) (aA sX (f=d.2) (bD h h)))))))) (∃(d:Int×MH),aA (I2 d) (cQ cb) (aA (aJ s) (aJ t) (aA eN (dA 4 d.1) (aA sX (u.2.2=d.2) (bD h h)))))/\∀(d:Int×MH),I2 d->∃(I3:PV×Int×MH->Prop),kO cb 6 d.2 h (λn f=>∃(c:Nat),lE (λB D=>∃(J:Int),HA (λC p=>aA (gP cb (dN s::bT (dN t) d.1)=gP c (dN B::bT (dN D) J)) (bC f h c) (aA (Ints h B C) (Ints h D p) (aA (iO C) (iO p) (∀(o:OV)(A:MH),Vo C p J o->bM f A c->jN A h c (DS cb d.1 A h (λv G=>∃(g:PV×Int×MH),aA (I3 g) (cQ cb) (aA (aJ s) (aJ t) (aA eN (dA d.1 g.2.1) (aA
 (eP 11) sX (aI (oQ 29 (fF (iI 3) (iI (iE (1+n))) (fF (iI o.kind) (zJ o) (fF (iI (jK o)) (iI (EM o)) (fF (K6 (z7 o)) (iI 3) (fF jA (iI v.kind) (fF (iI v.int) (K6 v.text) (rI FM)))))))=mZ 29 g.1.enc) (G=g.2.2) (h=h) True))))))))))))/\∀(g:PV×Int×MH),I3 g->∃(I4:PV×MH->Prop),oP cb 3 g.2.2 h (λc r=>∀(f:MH),bM g.2.2 f c->bC f h c->branch r (∃(C:Nat),lE (λB D=>∃(n:Int),HA (λH p=>aA (gP cb (dN s::bT (dN t) g.2.1)=gP C (dN B::bT (dN D) n)) (bC f h C) (aA (Ints h B H) (Ints h D p) (aA (iO H) (iO p) (∀(o:OV)(A:MH),Vo H p n o->bM f A C->jN A h C (∃(j:PV×MH),aA (I4 j) (cQ cb) (aA eN (eP 11) (aA sX (oQ 29 (fF (iI g.1.op) (iI g.1.cmp) (fF
 (iI g.1.left.kind) (zJ g.1.left) (fF (iI (jK g.1.left)) (iI (EM g.1.left)) (fF (K6 (z7 g.1.left)) (iI o.kind) (fF (zJ o) (iI (jK o)) (fF (iI (EM o)) (K6 (z7 o)) (rI (oM g.1.args))))))))=mZ 29 j.1.enc) (aA (A=j.2) (h=h) True)))))))))) (∃(j:PV×MH),aA (I4 j) (cQ cb) (aA eN (eP 11) (aA sX (mZ 29 g.1.enc=mZ 29 j.1.enc) (aA (f=j.2) (h=h) True)))))/\∀(j:PV×MH),I4 j->∃(I5:PV×MH->Prop),oP cb 6 j.2 h (λc r=>∀(f:MH),bM j.2 f c->bC f h c->branch r (∃(z:PV×MH),aA (I5 z) eN (aA (eP 11) sX (aI (oQ 29 (fF (iI j.1.op) (iI j.1.cmp) (fF (iI j.1.right.kind) (zJ j.1.right) (fF (iI (jK j.1.right)) (iI (EM j.1.right)) (fF (K6 (z7 j.1.right)) (iI j.1.left.kind) (fF (zJ j.1.left) (iI
 (jK j.1.left)) (fF (iI (EM j.1.left)) (K6 (z7 j.1.left)) (rI (oM j.1.args))))))))=mZ 29 z.1.enc) (f=z.2) (h=h) True))) (∃(z:PV×MH),aA (I5 z) eN (aA (eP 11) sX (aI (mZ 29 j.1.enc=mZ 29 z.1.enc) (f=z.2) (h=h) True))))/\∀(z:PV×MH),I5 z->K (cZ z.1) z.2 h) (u.1==6) (Ir (gP cb (dN s::bT (dN t) (iE ((↑e:Int)-1)))) u.2.2 h N (λv f E=>cG E 13 (iZ v.enc) (λB L=>K (lG (aR (dY 6) bL (aR bL bL (aR bL bL (aR E8 bL (aR bL bL (aR bL E8 (aY B)))))))) f L))) (kO cb 3 u.2.2 h (λn f=>∃(I2:Int×Int×dg×MH×PH->Prop)(A:Int×Int×dg×MH×PH->Nat),(∃(d:Int×Int×dg×MH×PH),aA (I2 d) (cQ cb) (aA (aJ s) (aJ t) (aA (eQ (bP e)) eN (aA (eP 12)
 (dA n d.2.1) (aA sX (oQ 29 (IM (iE (iE (4+u.1)-7)) 0)=oQ 29 (IM d.1 0)) (aA (tY 29 13 (Gy d)) (cV f d.2.2.2) (bD h (I7 d))))))))/\∀(d:Int×Int×dg×MH×PH),I2 d->fQ d.2.1 0 (Ir (gP cb (dN s::bT (dN t) (iE ((↑e:Int)-1)))) d.2.2.2.1 (I7 d) N (λv G E=>jZ (Gy d) 136 (∃(g:Int×Int×dg×MH×PH),aA (I2 g) (A g<A d) (aA (cQ cb) (aJ s) (aA (aJ t) (eQ (bP e)) (aA eN (eP 12) (aA (dA (iE (d.2.1-1)) g.2.1) sX (aA (oQ 29 (IM d.1 0)=oQ 29 (IM g.1 0)) (cH 29 13 (fK (Gy d) v.enc)=cH 29 13 (Gy g)) (bS (cV G g.2.2.2) E (I7 g)))))))))) (cG (I7 d) 13 (Gy d) (λB E=>K (lG (aR (dY d.1) bL (aR bL bL (aR bL bL
 (aR E8 bL (aR bL bL (aR bL E8 (aY B)))))))) d.2.2.2.1 E))))))
def UH(N:Nat)(cb:Nat)(s t:Sl)(d:Nat)(m:MH)(h:PH)(K:bu):Prop:=
  Ir (gP cb (dN s::bT (dN t) (↑d:Int))) m h N (λv f e=>DQ (dN s::bK (dN t) (cZ v)) e (λc p g=>dZ (fR c p g) 2 (Ir (gP cb (dN s::bT (dN t) 1)) f e N (λj n o=>K (cZ j) n o)) (K (cZ v) f e)))
theorem UX:Yy zeroV zeroV=true:=by simp[Yy]
theorem B0:Fi 0 eT eT=true:=by simp[Fi,Xu,Yy]
theorem V0{cols params:bt}{x:Int}(h:cols[i]? =some x):kindOf cols params ⟨1,i,zeroV⟩=x:=by
 have d:=(List.getElem?_eq_some_iff.1 h).1;have e:kindOf cols params ⟨1,i,zeroV⟩=pL cols ⟨1,i,zeroV⟩:=rfl;have c:=UX;rw[e];simp only[pL,c,Bool.not_true,Bool.or_false];rw[if_neg (by simp;omega)];simp[getD_eq_getElem?_getD,h]
theorem VZ{cols params:bt}{x:Int}(h:params[i]? =some x):kindOf cols params ⟨2,i,zeroV⟩=x:=by
 have d:=(List.getElem?_eq_some_iff.1 h).1;have e:kindOf cols params ⟨2,i,zeroV⟩=pL params ⟨2,i,zeroV⟩:=rfl;have c:=UX;rw[e];simp only[pL,c,Bool.not_true,Bool.or_false];rw[if_neg (by simp;omega)];simp[getD_eq_getElem?_getD,h]
theorem Tz{cols params:bt}{c:Int}{v:VV}(f:K7 v)(g:YT c v):Vo cols params c ⟨3,0,v⟩:=⟨f,λh=>by
 obtain⟨j,d⟩:=g h;have e:kindOf cols params ⟨3,0,v⟩=if((0:Int) !=0|| !lY v)then 0 else v.kind:=rfl
 rw[e,if_neg,d];simp only[lY,j,d];rcases h with rfl|rfl|rfl<;>decide⟩
theorem Xn:br 107 Vn:=by
 refine hJ func107 ?_;rintro V m h K ⟨cb,s,t,e,d,c,rfl,W,R,S,Z,l2,T⟩;refine⟨aNQ cb s t e m h,rfl,aE L3 (aE HJ aH),QX cb s t e m h K,bi,?_⟩;dsimp only[QX,push_cast];have E:=R.slen;have F:=S.slen;refine⟨λ⟨i,g⟩=>i<=d.length/\g.length<=i/\∀o∈g,Vo d c e o,λ⟨i,_⟩=>d.length-i,⟨(0,[]),⟨aD,bj,bj⟩,MT⟩,?_⟩;rintro⟨i,g⟩ ⟨U,y,f⟩;dsimp only;refine aF (λj=>?_) (λz=>?_)
 .obtain⟨x,A⟩:=eF E j;obtain⟨G,H,I,J⟩:=R.at' A;refine⟨G,H,I,aD,j,x,.imm J,aC (λL=>⟨by simp;omega,by simp;omega,(i+1,g++[⟨1,i,zeroV⟩]),⟨aD,by simp;omega,?_⟩,by show d.length-(i+1)<d.length-i;omega,?_⟩) (λ_=>⟨(i+1,g),⟨aD,by show g.length<=i+1;omega,f⟩,by show d.length-(i+1)<d.length-i;omega,MT⟩)⟩
  .intro o u;rcases mem_append.1 u with n|n
   .exact f o n
   .simp at n;subst n;exact⟨qX,λ_=>by rw[V0 (bo A)];simpa using L⟩
  .rw[map_append];exact MT
 refine⟨λ⟨i,g⟩=>i<=c.length/\g.length<=1000+i/\∀o∈g,Vo d c e o,λ⟨i,_⟩=>c.length-i,⟨(0,g),⟨aD,aD,f⟩,MT⟩,?_⟩;clear U y f z;rintro⟨i,g⟩ ⟨U,y,f⟩;dsimp only;refine aF (λj=>?_) (λz=>?_)
 .obtain⟨x,A⟩:=eF F j;obtain⟨G,H,I,J⟩:=S.at' A;refine⟨G,H,I,aD,j,x,.imm J,aC (λL=>⟨by simp;omega,by simp;omega,(i+1,g++[⟨2,i,zeroV⟩]),⟨aD,by simp;omega,?_⟩,by show c.length-(i+1)<c.length-i;omega,?_⟩) (λ_=>⟨(i+1,g),⟨aD,by show g.length<=1000+(i+1);omega,f⟩,by show c.length-(i+1)<c.length-i;omega,MT⟩)⟩
  .intro o u;rcases mem_append.1 u with n|n
   .exact f o n
   .simp at n;subst n;exact⟨qX,λ_=>by rw[VZ (bo A)];simpa using L⟩
  .rw[map_append];exact MT
 .refine⟨cb,_,rfl,W,λk m' X n u B=>aF (λM=>?_) (λM=>⟨cb,e,rfl,B,λv O Y P Q C=>T ⟨3,0,v⟩ O (Tz Y P) (u.trans Q) C⟩)⟩;have D:k.toNat<g.length:=by simp at M;omega
  exact⟨X,M,_,by rw[getElem?_map,getElem?_eq_getElem D];rfl,g[k.toNat],rfl,T _ m' (f _ (getElem_mem D)) u B⟩
theorem NJ{h:PH}{v:PV}(c:v.args=⟨none,0,0⟩):eH h (.mk v.op v.cmp v.left v.right []) v:=eH.mk (by rw[c];exact .nil _ _ _ _)
structure a0J(cols params:bt)(kd:Int)(p:PV):Prop where
 args_:p.args=⟨none,0,0⟩
 op_:p.op=3
 cmp_:1<=p.cmp/\p.cmp<=6
 left_:Vo cols params kd p.left
 right_:Vo cols params kd p.right
 kind_:Lc cols->KOk kd
theorem a5J{k:Int}(h:KOk k):k≠0:=by rcases h with rfl|rfl|rfl<;>decide
theorem a0J.pw{cols params:bt}{f:Int}{p:PV}(x:a0J cols params f p)(d:Nat):PW cols params d (.mk p.op p.cmp p.left p.right []):=by
 refine⟨⟨x.left_.val,x.right_.val,trivial⟩,λg=>?_,OD.leaf d⟩;have c:=x.kind_ g;have j:=x.left_.kind c;have n:=x.right_.kind c;have o:=a5J c;have e:=x.cmp_;rw[x.op_];simp[iX,j,n,o,e.1,e.2]
theorem bCQ{cols params:bt}{d:Nat}(x:PW cols params d p):PW cols params (d+1) (.mk 6 0 eT eT [p]):=
 ⟨⟨qX,qX,x.vals,trivial⟩,λf=>by
  have e:=B0;simp[iX,vV,e,x.valid f],OD.node (λq c=>by simp at c;subst c;exact x.siz) bj⟩
theorem bCX{cols params:bt}{d:Nat}{op:Int}{ps:cq}(f:op=4\/op=5)(x:∀p∈ps,PW cols params d p)(g:ps.length<=3):PW cols params (d+1) (.mk op 0 eT eT ps):=
 ⟨⟨qX,qX,OH.2 λp c=>(x p c).vals⟩,λj=>by
  have e:=B0;have n:vV cols params ps=true:=by rw[E7,all_eq_true];exactλp c=>(x p c).valid j
  rcases f with rfl|rfl<;>simp[iX,e,n],OD.node (λq o=>(x q o).siz) g⟩
theorem f56_all:∀N,br 56 (aRZ N)
 |0=>by
  refine eV (fn:=Tryz.f56) (c:=cL Tryz.f56) func56 rfl bk ?_;rintro a2 m h K ⟨cb,s,t,f,d,g,rfl,_,_,_,_,_,hN,_⟩;omega
 |N+1=>by
  refine hJ func56 ?_;rintro a2 m h K ⟨cb,s,t,f,d,g,rfl,hc,P,ht,l1,l2,hN,hd,hK⟩;refine⟨f56_ctx N cb s t g h,rfl,aE L3 (aE Dc (aE Xn (aE HJ (aE (f56_all N) aH)))),ap N cb s t g m h K,bi,?_⟩;dsimp only[ap,push_cast];have a8:=P.slen;refine⟨cb,9,rfl,hc,λk C O Q y z=>?_⟩;refine⟨λ⟨k,_,A⟩=>0<=k/\k<=8/\bM m A cb/\bC A h cb,aC (λ_=>⟨cb,2,rfl,aD,aD,z,λr F D E=>⟨(k,r,F),⟨O,aD,y.trans D,E⟩,MT⟩⟩) (λ_=>⟨(k,false,C),⟨O,aD,y,z⟩,MT⟩),?_⟩;clear O Q y z k C;rintro⟨k,b,C⟩ ⟨O,Q,y,z⟩;dsimp only;refine aC (λ_=>⟨cb,2,rfl,z,λj F T j1 D E=>?_⟩) (λ_=>?_)
  .refine hK ⟨IntKind.i64.wrap (1+j),0,eT,eT,⟨none,0,0⟩⟩ _ F h (.refl _) (NJ rfl) ⟨⟨qX,qX,trivial⟩,λ_=>?_,OD.leaf _⟩ (y.trans D) E;have hj:j=0\/j=1:=by omega
   have e1:IntKind.i64.wrap 1=1:=bk
   have e2:IntKind.i64.wrap 2=2:=bk
   rcases hj with rfl|rfl
   .simp[iX,e1,B0]
   .simp[iX,e2,B0]
  refine⟨λ⟨k,b,A⟩=>0<=k/\k<=8/\(b=false->6<=k/\1<=g)/\bM m A cb/\bC A h cb,aF (λ_=>⟨(k,true,C),⟨O,Q,λe=>(by cases e),y,z⟩,MT⟩) (λhk=>⟨(k,_,C),⟨O,Q,λe=>?_,y,z⟩,MT⟩),?_⟩
  .simp at e;exact⟨aD,aD⟩
  clear O Q y z k C;rintro⟨k,b,C⟩ ⟨O,Q,kb,y,z⟩;dsimp only;refine aC (λ_=>?_) (λhb=>?_)
  .refine⟨λ⟨H,A⟩=>(Lc f->KOk H)/\bM m A cb/\bC A h cb,aF (λa7=>⟨cb,s.len,rfl,z,λj F T j1 D E=>?_⟩) (λ_=>⟨(4,C),⟨λ_=>.inr (.inl rfl),y,z⟩,MT⟩),?_⟩
   .obtain⟨b1,a3,e1,r1⟩:=P.inb (n:=j) T aD
    have hm:f.getD j.toNat 0∈f:=by
     have:j.toNat<f.length:=by omega
     rw[getD_eq_getElem?_getD,getElem?_eq_getElem this];exact getElem_mem this
    exact⟨b1,a3,e1,T,aD,_,.imm r1,(_,F),⟨λU=>U _ hm,y.trans D,E⟩,MT⟩
   clear y z C;rintro⟨H,C⟩ ⟨V,y,z⟩;dsimp only;refine⟨λ⟨p,H,A⟩=>a0J f d H p/\bM m A cb/\bC A h cb,⟨cb,6,rfl,z,λj F T j1 D E=>⟨cb,s,t,H,f,d,rfl,E,P,ht,l1,l2,λo m3 ho W X=>⟨cb,H,rfl,X,λv m4 hv a4 o4 c4=>⟨(⟨3,IntKind.i64.wrap (1+j),o,⟨3,0,v⟩,⟨none,0,0⟩⟩,H,m4),⟨⟨rfl,rfl,?_,ho,Tz hv a4,V⟩,((y.trans D).trans W).trans o4,c4⟩,MT⟩⟩⟩⟩,?_⟩
   .show 1<=IntKind.i64.wrap (1+j)/\IntKind.i64.wrap (1+j)<=6;rw[dT aD aD];omega
   clear y z C V H;rintro⟨p,H,C⟩ ⟨pw,y,z⟩;dsimp only;refine⟨λ⟨p,A⟩=>a0J f d H p/\bM m A cb/\bC A h cb,⟨cb,3,rfl,aD,aD,z,λr F D E=>aC (λ_=>⟨cb,s,t,H,f,d,rfl,E,P,ht,l1,l2,λo m3 ho W X=>⟨(⟨p.op,p.cmp,p.left,o,p.args⟩,m3),⟨⟨pw.args_,pw.op_,pw.cmp_,pw.left_,ho,pw.kind_⟩,(y.trans D).trans W,X⟩,MT⟩⟩) (λ_=>⟨(p,F),⟨pw,y.trans D,E⟩,MT⟩)⟩,?_⟩;clear pw y z C p;rintro⟨p,C⟩ ⟨pw,y,z⟩;dsimp only;refine⟨λ⟨p,A⟩=>a0J f d H p/\bM m A cb/\bC A h cb,⟨cb,6,rfl,aD,aD,z,λr F D E=>aC (λ_=>⟨(⟨p.op,p.cmp,p.right,p.left,p.args⟩,F),⟨⟨pw.args_,pw.op_,pw.cmp_,pw.right_,pw.left_,pw.kind_⟩,y.trans D,E⟩,MT⟩) (λ_=>⟨(p,F),⟨pw,y.trans D,E⟩,MT⟩)⟩,?_⟩;clear pw y z C p;rintro⟨p,C⟩ ⟨pw,y,z⟩;exact hK p _ C h (.refl _) (NJ pw.args_) (pw.pw g) y z
  have a5:=kb hb;have hw:IntKind.i64.wrap ((g:Int)-1)=((g-1:Nat):Int):=by rw[dT aD aD];omega
  rw[hw];have Y:g=g-1+1:=by omega
  refine aC (λ_=>⟨cb,s,t,f,d,g-1,rfl,z,P,ht,l1,l2,aD,aD,λv p F h2 G hr hp D E Z h3 J L=>?_⟩) (λa'=>⟨cb,3,rfl,z,λj F T j1 D E=>?_⟩)
  .refine hK ⟨6,0,eT,eT,Z⟩ (.mk 6 0 eT eT [p]) F h3 (G.trans J) (eH.mk (v:=⟨6,0,eT,eT,Z⟩) ⟨⟨[v],L,rfl,λi x M=>?_⟩,bj⟩) (by rw[Y];exact bCQ hp) (y.trans D) (E.mono J)
   match i,M with
   |0,M=>simp at M;subst M;exact⟨v,rfl,hr.mono J⟩
   |_+1,M=>simp at M
  refine⟨λ⟨op,n,R,A,M⟩=>(op=4\/op=5)/\ -1<=n/\n<=2/\(R.length:Int)<=2-n/\PH.le h M/\bM m A cb/\bC A M cb/\∃ps:cq,ps.length=R.length/\(∀q∈ps,PW f d (g-1) q)/\∀(i:Nat) q,ps[i]? =some q->∃u,R[i]? =some u/\eH M q u,λ⟨_,n,_,_,_⟩=>(n+1).toNat,⟨(_,j,[],F,h),⟨?_,aD,aD,by simp;omega,.refl _,y.trans D,E,[],rfl,bj,λi q I=>by simp at I⟩,MT⟩,?_⟩
  .have a':k≠6:=bo a'
   have a6:k=7\/k=8:=by omega
   rcases a6 with rfl|rfl
   .exact .inl bk
   .exact .inr bk
  rintro⟨op,n,R,A,M⟩ ⟨a0,n0,n1,ul,G,ox,cx,ps,pl,pw,a1⟩;dsimp only;refine aF (λhn=>⟨cb,s,t,f,d,g-1,rfl,cx,P.mono G,ht.mono G,l1,l2,aD,aD,λv p m3 h3 B hr hp W X=>⟨by simp;omega,by simp;omega,(op,n-1,R++[v],m3,h3),⟨a0,by show-1<=n-1;omega,by show n-1<=2;omega,by simp;omega,G.trans B,ox.trans W,X,ps++[p],by simp[pl],?_,?_⟩,?_,?_⟩⟩) (λhn Z h3 B L=>?_)
  .intro q I;rcases mem_append.1 I with S|S
   .exact pw q S
   .simp at S;subst S;exact hp
  .intro i q I;by_cases hi:i<ps.length
   .rw[getElem?_append_left hi]at I;obtain⟨u,S,h2⟩:=a1 i q I;exact⟨u,by rw[getElem?_append_left aD];exact S,h2.mono B⟩
   .rw[getElem?_append_right aD]at I;have hl:=(List.getElem?_eq_some_iff.1 I).1;simp at hl;have:i=ps.length:=by omega
    subst this;simp at I;subst I;exact⟨v,by rw[getElem?_append_right aD,pl];simp,hr⟩
  .show(n-1+1).toNat<(n+1).toNat;omega
  .rw[map_append,dT aD aD];exact MT
  .exact hK ⟨op,0,eT,eT,Z⟩ (.mk op 0 eT eT ps) A h3 (G.trans B) (eH.mk (v:=⟨op,0,eT,eT,Z⟩) ⟨⟨R,L,pl,λi q I=>(a1 i q I).imp λu hu=>⟨hu.1,hu.2.mono B⟩⟩,aD⟩) (by rw[Y];exact bCX a0 pw aD) ox (cx.mono B)
theorem U3(h:Lc l):l.all eD=true:=all_eq_true.2 λk c=>by
 rcases h k c with e|e|e<;>subst e<;>rfl
theorem Ya{cols params:bt}{d:Nat}(x:PW cols params d p)(e:d<=2)(c:Lc cols)(f:Lc params):fR cols params p=0:=by
 have j:=Nu p 0;have o:=x.siz.n;have g:=LS p 8 (by have:=x.siz.d;omega)
 have t:gF d<=13:=by match d,e with
  |0,_=>decide
  |1,_=>decide
  |2,_=>decide
 unfold fR;rw[U3 c,U3 f,if_neg bj,g,if_neg (by simp;omega),x.valid c];rfl
theorem GP:br 18 BJ:=by
 refine hJ func18 ?_;rintro G m h K ⟨cb,s,t,e,c,f,rfl,H,n,o,z,A,I,B⟩;refine⟨cW [(56,aRZ 1001),(57,sO)] [] [] [] false,rfl,aE (f56_all 1001) (aE ab aH),UH 1001 cb s t f m h K,bi,?_⟩;dsimp only[UH,push_cast];refine⟨cb,s,t,e,c,f,rfl,H,n,o,z,A,aD,I,λv p J L d C D E F=>⟨s,t,v,e,c,p,rfl,n.mono d,o.mono d,C,aC (λ_=>⟨cb,s,t,e,c,1,rfl,F,n.mono d,o.mono d,z,A,aD,aD,λM O P Q g u j R S=>B M O P Q (d.trans g) u ⟨j.vals,λ_ x y=>Ya j bk x y⟩ (E.trans R) S⟩) (λ_=>B v p J L d C ⟨D.vals,λT x y=>Ya D T x y⟩ E F)⟩⟩
def bW:Sl:=⟨none,0,0⟩
def YZ:Vc.Spec:=λc m h K=>∃n k,c=[U7 n,cI k]/\K (.val (.agg ⟨(nP.mk n k).enc⟩)) m h
def aUQ:Vc.Spec:=λc m h K=>∃t,c=[cI t]/\K (aQ ⟨1,t,gT,bW,bW,bW,bW,0,bW⟩) m h
def bqZ(v:QV)(g o:Sl)(k:Int):QV:=⟨v.op,v.table,v.where_,v.columns,v.on,g,o,k,v.args⟩
def buX:Vc.Spec:=λd m h K=>∃cb v s c,d=[cP cb,aQ (bqZ v bW bW v.limit),cS s]/\bC m h cb/\Ints h s c/\c.length<=1000/\
 ∀g o k gr od m' h',PH.le h h'->Ints h' g gr->jD h' o od->gr.length<=c.length->od.length<=c.length->0<=k->k<=3->bM m m' cb->bC m' h' cb->K (aQ (bqZ v g o k)) m' h'
noncomputable def bgJ(cb:Nat)(v:QV)(s:Sl)(h:PH):Ctx:=
 cW [(30,Lb),(36,Rs)] [(2,{A:=Nat×bt×ca×MH,st:=λ⟨i,gr,od,m⟩=>bY 37 40 [(0,pv cb),(4,.at (.ptr 4 0)),(6,.at (.ptr 6 0)),(9,iv s.len),(10,iv i)] [(4,.cells 35 ((v.enc.take 17).map .val++[.lst 19,.lst 30,.val (.int .i64 v.limit),.val (.slice v.args.a v.args.len v.args.cap)])),(6,.cells 35 (CD.enc.map .val)),(19,.lst 3 1 (gr.map eI)),(30,.lst 93 2 (od.map BU))] m h})] [] [] false
def aBX(n:ByteArray)(k:Int)(m:MH)(h:PH)(K:bu):Prop:=
  K (lG (nA (Value.string n) (dY k))) m h
noncomputable abbrev AI(a:Int):bw:=DD (dY 1) (dY a) (Ja iT)
attribute [push_cast] AI
def aCQ(t:Int)(m:MH)(h:PH)(K:bu):Prop:=
  K (lG (AI t)) m h
abbrev Gc(a:QV):Prop:=eQ (oQ 35 (fF (iI a.op) (lC a) (An a a.on (At.lst 19) (At.lst 30) (mN (iI a.limit) (oM a.args)))))
abbrev jF:Prop:=eQ (oQ 35 zQ)
noncomputable abbrev uT(a:Nat×bt×ca×MH):List bw:=oE a.2.1
noncomputable abbrev tJ(a:Nat×bt×ca×MH):List bw:=List.map BU a.2.2.1
abbrev Is(a:Nat×bt×ca×MH->Prop)(b:Nat×bt×ca×MH->Nat)(c:Nat×bt×ca×MH)(d:Nat)(e:Sl)(g:Prop)(i j:(Nat×bt×ca×MH)->Prop)(k:MH)(l:PH):Prop:=∃(x:Nat×bt×ca×MH),aA (a x) (b x<b c) (aA (cQ d) (eP 4) (aA (eP 6) (bI e) (aA (fU (bG c.1 1)=bP x.1) g (aA jF (i x) (aA (j x) (k=x.2.2.2) (bD l l))))))
abbrev AD(a b:List bw):Prop:=cH 3 1 a=cH 3 1 b
attribute [push_cast] Gc jF uT tJ Is AD
def Uv(cb:Nat)(v:QV)(s:Sl)(m:MH)(h:PH)(K:bu):Prop:=
  ∃(I:Nat×bt×ca×MH->Prop)(o:Nat×bt×ca×MH->Nat),(∃(x:Nat×bt×ca×MH),aA (I x) (cQ cb) (aA (eP 4) (eP 6) (aA (bI s) (bF x.1) (aA (Gc v) jF (mA (rJ (uT x)) (tY 93 2 (tJ x)) (m=x.2.2.2) h h)))))/\∀(x:Nat×bt×ca×MH),I x->bA (↑x.1:Int) (aG s) (oP cb 3 x.2.2.2 h (λc r=>∀(f:MH),bM x.2.2.2 f c->bC f h c->branch r (jZ (uT x) 8 (oP cb 3 f h (λj t=>∀(e:MH),bM f e j->bC e h j->branch t (oP cb 2 e h (λn u=>∀(g:MH),bM e g n->bC g h n->jZ (tJ x) 16 (Is I o x cb s (Gc v) (λd=>rK (uT x) (↑x.1:Int) (uT d)) (λd=>cH 93 2 (fK (tJ x) (nA (dY (↑x.1:Int))
 (Value.bool u)))=cH 93 2 (tJ d)) g h))) (Is I o x cb s (Gc v) (λd=>rK (uT x) (↑x.1:Int) (uT d)) (λd=>cH 93 2 (tJ x)=cH 93 2 (tJ d)) e h)))) (oP cb 3 f h (λj t=>∀(e:MH),bM f e j->bC e h j->branch t (oP cb 2 e h (λn u=>∀(g:MH),bM e g n->bC g h n->jZ (tJ x) 16 (Is I o x cb s (Gc v) (λd=>AD (uT x) (uT d)) (λd=>cH 93 2 (fK (tJ x) (nA (dY (↑x.1:Int)) (Value.bool u)))=cH 93 2 (tJ d)) g h))) (Is I o x cb s (Gc v) (λd=>AD (uT x) (uT d)) (λd=>cH 93 2 (tJ x)=cH 93 2 (tJ d)) e h))))) (kO cb 4 x.2.2.2 h (λk f=>cG h 1 (uT x) (λy z=>cG z 2 (tJ x) (λA B=>K (uN v v (aR (jW
 (pJ v)) (kC (gG v)) (aR (kD (gG v)) (Co v) (aR (kJ (gG v)) (jW (gG v)) (aR (pI v) (pK v) (aR (gU v.on) (gU y) (aR (gU A) (dY k) (aY v.args)))))))) f B))))
theorem ZZ:br 73 YZ:=by
 refine hJ func73 ?_;rintro c m h K ⟨n,k,rfl,d⟩;refine⟨cW [] [] [] [] false,rfl,aH,aBX n k m h K,bi,?_⟩;exact d
theorem PZ:br 31 aUQ:=by
 refine hJ func31 ?_;rintro c m h K ⟨t,rfl,d⟩;refine⟨cW [] [] [] [] false,rfl,aH,aCQ t m h K,bi,?_⟩;exact d
theorem aaX:br 34 buX:=by
 refine hJ func34 ?_;rintro I m h K ⟨cb,v,s,c,rfl,J,L,X,M⟩;refine⟨bgJ cb v s h,rfl,aE L3 (aE Dc aH),Uv cb v s m h K,bi,?_⟩;dsimp only[Uv,push_cast];have O:=L.slen;refine⟨λ⟨i,gr,od,E⟩=>i<=c.length/\gr.length<=i/\od.length<=i/\bM m E cb/\bC E h cb,λ⟨i,_,_,_⟩=>c.length-i,⟨(0,[],[],m),⟨aD,bj,bj,.refl _ _,J⟩,MT⟩,?_⟩;rintro⟨i,gr,od,Y⟩ ⟨Z,hg,ho,n,F⟩;dsimp only;refine aF (λP=>?_) (λQ=>?_)
 .have fin:∀(f:bt)(g:ca) m',f.length<=i+1->g.length<=i+1->bM m m' cb->bC m' h cb->(i+1<=c.length/\f.length<=i+1/\g.length<=i+1/\bM m m' cb/\bC m' h cb):=λf g m' G A R S=>⟨aD,G,A,R,S⟩
  refine⟨cb,3,rfl,aD,aD,F,λr H j z=>aC (λ_=>⟨by simp;omega,by simp;omega,cb,3,rfl,aD,aD,z,λB o t u=>aC (λ_=>⟨cb,2,rfl,aD,aD,u,λx y C D=>⟨by simp;omega,by simp;omega,(i+1,gr++[(i:Int)],od++[((i:Int),x)],y),fin (gr++[(i:Int)]) (od++[((i:Int),x)]) y (by simp;omega) (by simp;omega) (((n.trans j).trans t).trans C) D,by show c.length-(i+1)<c.length-i;omega,?_⟩⟩) (λ_=>⟨(i+1,gr++[(i:Int)],od,o),fin (gr++[(i:Int)]) od o (by simp;omega) aD ((n.trans j).trans t) u,by show c.length-(i+1)<c.length-i;omega,?_⟩)⟩)
   (λ_=>⟨cb,3,rfl,aD,aD,z,λB o t u=>aC (λ_=>⟨cb,2,rfl,aD,aD,u,λx y C D=>⟨by simp;omega,by simp;omega,(i+1,gr,od++[((i:Int),x)],y),fin gr (od++[((i:Int),x)]) y aD (by simp;omega) (((n.trans j).trans t).trans C) D,by show c.length-(i+1)<c.length-i;omega,?_⟩⟩) (λ_=>⟨(i+1,gr,od,o),fin gr od o aD aD ((n.trans j).trans t) u,by show c.length-(i+1)<c.length-i;omega,MT⟩)⟩)⟩
  .simp only[map_append];exact MT
  .simp only[map_append];exact MT
  .simp only[map_append];exact MT
 .refine⟨cb,4,rfl,F,λk H T k1 j z U G e V W A d B=>?_⟩;exact M U W k gr od H A (e.trans d) ⟨V.mono d,aD⟩ ⟨B,aD⟩ aD aD T aD (n.trans j) (z.mono (e.trans d))
def aWQ:Vc.Spec:=λc m h K=>∃cb s t a b,c=[cP cb,cS s,cS t]/\bC m h cb/\Ints h s a/\Ints h t b/\a.length<=1000/\b.length<=1000/\
 ∀o on m' h',PH.le h h'->iD h' o on->on.length<=10->bM m m' cb->bC m' h' cb->K (cS o) m' h'
noncomputable def bhX(cb:Nat)(s t:Sl)(h:PH):Ctx:=
 cW [(30,Lb)] [(3,{A:=Int×bz×MH,st:=λ⟨n,on,m⟩=>bY 77 80 [(0,pv cb),(1,sv s),(2,sv t),(7,.at (.lst 75)),(8,iv n)] [(75,.lst 91 2 (on.map pY))] m h}),
  (8,{A:=Int×Nat×bz×(Int×Int)×Bool×MH,st:=λ⟨n,i,on,p,f,m⟩=>bY 77 80 [(0,pv cb),(1,sv s),(2,sv t),(7,.at (.lst 75)),(8,iv n),(9,.at (.ptr 9 0)),(10,bv f),(49,.at (.lst 75)),(50,iv on.length),(51,iv i)] [(9,.cells 91 [.val (.int .i64 p.1),.val (.int .i64 p.2)]),(75,.lst 91 2 (on.map pY))] m h})] [] [] false
noncomputable abbrev Er(a:bz):List bw:=List.map pY a
noncomputable abbrev AN(a:Int×bz×MH):List bw:=Er a.2.1
noncomputable abbrev D0(a:Int×Nat×bz×(Int×Int)×Bool×MH):Bool:=a.2.2.2.2.1
noncomputable abbrev AM(a:Int×Nat×bz×(Int×Int)×Bool×MH):Nat:=a.2.2.1.length
noncomputable abbrev Bs(a:Int×Nat×bz×(Int×Int)×Bool×MH):Int×Int:=a.2.2.2.1
noncomputable abbrev tH(a:Int×Nat×bz×(Int×Int)×Bool×MH):List bw:=Er a.2.2.1
noncomputable abbrev yQ(a:Int×Nat×bz×(Int×Int)×Bool×MH):Nat->Option Obj:=a.2.2.2.2.2
abbrev Mn(a:dh->Prop)(b:dh->Nat)(c d:Nat)(e g:Sl)(i:Int×Nat×bz×(Int×Int)×Bool×MH)(j:dh->Int×Nat×bz×(Int×Int)×Bool×MH)(k:dh->Prop):Prop:=∃(x:Int×Nat×bz×(Int×Int)×Bool×MH),aA (a x) (b x<c) (aA (cQ d) (aJ e) (aA (aJ g) (eL 75) (aA (dA i.1 (j x).1) (eP 9) (k x))))
attribute [push_cast] Er AN D0 AM Bs tH yQ Mn
def Ux(cb:Nat)(s t:Sl)(m:MH)(h:PH)(K:bu):Prop:=
  kO cb 3 m h (λk F=>∃(I:Int×bz×MH->Prop)(n:Int×bz×MH->Nat),(∃(x:Int×bz×MH),aA (I x) (cQ cb) (aA (aJ s) (aJ t) (aA (eL 75) (dA k x.1) (aA (tY 91 2 (AN x)) (F=x.2.2) (bD h h)))))/\∀(x:Int×bz×MH),I x->gM x.1 0 (gM (aG s) 0 (gM (aG t) 0 (kO cb (aG s) x.2.2 h (λu G=>kO cb (aG t) G h (λz A=>aA (bZ 0) ((0:Int)<2) (aW (λb o=>aI (aX s.a b o) (0<=u) (u<aG s) (∃(y:Int),aI (aU A h b (gC o u 1) (bJ y)) ((0:Int)<=1) ((1:Int)<2) (aW (λC D=>aI (aX t.a C D) (0<=z) (z<aG t) (∃(E:Int),aU A h C (gC D z 1) (bJ E)/\∃(I1:Int×Nat×bz×(Int×Int)×Bool×MH->Prop)(f:Int×Nat×bz×
 (Int×Int)×Bool×MH->Nat),(∃(d:Int×Nat×bz×(Int×Int)×Bool×MH),aA (I1 d) (cQ cb) (aA (aJ s) (aJ t) (aA (eL 75) (dA x.1 d.1) (aA (eP 9) (i7 (y==E) (D0 d)) (aA (eL 75) (cJ (AN x).length (AM d)) (aA (bF d.2.1) (DN (mN (iI u) (iI z)) (uQ (Bs d))) (aI (cH 91 2 (AN x)=cH 91 2 (tH d)) (A=yQ d) (h=h) True)))))))/\∀(d:Int×Nat×bz×(Int×Int)×Bool×MH),I1 d->bA (↑d.2.1:Int) (↑(AM d):Int) (qK (↑d.2.1:Int) (tH d) (λe=>oA (tH d) (↑d.2.1:Int) e/\∃(B:Int×Int),fB (rL 2 e (tC B)) (D0 d) (aA (bZ 0) AE (aA (bZ 0) AE (dC B.1 (Bs d).1 (aA (bZ 1) AF (aA (bZ 1) AF (Mn (λc=>I1 c) (λc=>
 f c) (f d) cb s t d (λc=>c) (λc=>aA (i7 (B.2 !=(Bs d).2) (D0 c)) (eL 75) (aA (cJ (AM d) (AM c)) (fU (bG d.2.1 1)=bP c.2.1) (aA (DN (uQ (Bs d)) (uQ (Bs c))) (cH 91 2 (tH d)=cH 91 2 (tH c)) (aA (yQ d=yQ c) (h=h) True))))))) (Mn (λc=>I1 c) (λc=>f c) (f d) cb s t d (λc=>c) (λc=>aA (CK (D0 c)) (eL 75) (aA (cJ (AM d) (AM c)) (fU (bG d.2.1 1)=bP c.2.1) (aA (DN (uQ (Bs d)) (uQ (Bs c))) (cH 91 2 (tH d)=cH 91 2 (tH c)) (aA (yQ d=yQ c) (h=h) True)))))))) (Mn (λc=>I1 c) (λc=>f c) (f d) cb s t d (λc=>c) (λc=>aA (CK (D0 c)) (eL 75) (aA (cJ (AM d) (AM c)) (fU (bG
 d.2.1 1)=bP c.2.1) (aA (DN (uQ (Bs d)) (uQ (Bs c))) (cH 91 2 (tH d)=cH 91 2 (tH c)) (aA (yQ d=yQ c) (h=h) True))))))) (branch (D0 d) (jZ (tH d) 16 (∃(c:Int×bz×MH),aA (I c) (n c<n x) (aA (cQ cb) (aJ s) (aA (aJ t) (eL 75) (aA (dA (iE (d.1-1)) c.1) (cH 91 2 (fK (tH d) (tC (Bs d)))=cH 91 2 (AN c)) (bS (yQ d=c.2.2) h h)))))) (∃(c:Int×bz×MH),aA (I c) (n c<n x) (aA (cQ cb) (aJ s) (aA (aJ t) (eL 75) (aA (dA (iE (d.1-1)) c.1) (cH 91 2 (tH d)=cH 91 2 (AN c)) (bS (yQ d=c.2.2) h h))))))))))))))) (cG h 2 (AN x) (λg j=>K (dN g) x.2.2 j))) (cG h 2 (AN x) (λg j=>K (dN g) x.2.2 j))) (cG
 h 2 (AN x) (λg j=>K (dN g) x.2.2 j)))
theorem aaJ:br 32 aWQ:=by
 refine hJ func32 ?_;rintro L m h K ⟨cb,s,t,a,b,rfl,M,C,D,l1,l2,O⟩;refine⟨bhX cb s t h,rfl,aE L3 aH,Ux cb s t m h K,bi,?_⟩;dsimp only[Ux,push_cast];have P:=C.slen;have Q:=D.slen;refine⟨cb,3,rfl,M,λk g E R d j=>⟨λ⟨n,on,A⟩=>0<=n/\n<=2/\(on.length:Int)<=2-n/\bM m A cb/\bC A h cb,λ⟨n,_,_⟩=>n.toNat,⟨(k,[],g),⟨E,by show k<=2;omega,by simp;omega,d,j⟩,MT⟩,?_⟩⟩;clear E R d j g;rintro⟨n,on,g⟩ ⟨n0,n1,S,d,j⟩;dsimp only;have out:∀(e:Sl)(h':PH),PH.le h h'->dK h' e 2 (on.map pY)->K (.val (.slice e.a e.len e.cap)) g h':=λe h' o u=>O e on g h' o ⟨u,aD⟩ aD d (j.mono o);refine aF (λhn=>aF (λhp=>aF (λhq=>?_) (λ_=>out)) (λ_=>out)) (λ_=>out);refine⟨cb,s.len,rfl,j,λx m2 F x1 G T=>⟨cb,t.len,rfl,T,λy c H y1 I J=>?_⟩⟩;obtain⟨U,V,W,X⟩:=C.inb (n:=x) F aD;obtain⟨Y,Z,e2,r2⟩:=D.inb (n:=y) H aD;refine⟨aD,aD,U,V,W,F,aD,_,.imm X,aD,aD,Y,Z,e2,H,aD,_,.imm r2,?_⟩;refine⟨λ⟨n',i,B,p,f,A⟩=>n'=n/\B=on/\A=c/\i<=on.length,λ⟨_,i,_,_,_,_⟩=>on.length-i,⟨(n,0,on,(x,y),a.getD x.toNat 0==b.getD y.toNat 0,c),⟨rfl,rfl,rfl,aD⟩,?_⟩,?_⟩
 .rw[length_map];exact MT
 rintro⟨n,i,on,p,f,c⟩ ⟨rfl,rfl,rfl,hi⟩;dsimp only;refine aF (λa'=>?_) (λa0=>?_)
 .have hl:i<on.length:=by omega
  have z:(on.map pY)[i]? =some (pY on[i]):=by rw[getElem?_map,getElem?_eq_getElem hl];rfl
  refine⟨aD,by rw[length_map];omega,_,z,on[i],rfl,aC (λ_=>⟨aD,aD,aD,aD,aC (λ_=>⟨aD,aD,aD,aD,(n,i+1,on,p,_,c),⟨rfl,rfl,rfl,by show i+1<=on.length;omega⟩,by show on.length-(i+1)<on.length-i;omega,MT⟩) (λ_=>⟨(n,i+1,on,p,_,c),⟨rfl,rfl,rfl,by show i+1<=on.length;omega⟩,by show on.length-(i+1)<on.length-i;omega,MT⟩)⟩) (λ_=>⟨(n,i+1,on,p,_,c),⟨rfl,rfl,rfl,by show i+1<=on.length;omega⟩,by show on.length-(i+1)<on.length-i;omega,MT⟩)⟩
 .have hw:IntKind.i64.wrap (n-1)=n-1:=dT aD aD;rw[hw];refine aC (λ_=>⟨by rw[length_map];omega,by rw[length_map];omega,(n-1,on++[p],c),⟨by show 0<=n-1;omega,by show n-1<=2;omega,by simp;omega,(d.trans G).trans I,J⟩,by show(n-1).toNat<n.toNat;omega,?_⟩) (λ_=>⟨(n-1,on,c),⟨by show 0<=n-1;omega,by show n-1<=2;omega,by show(on.length:Int)<=2-(n-1);omega,(d.trans G).trans I,J⟩,by show(n-1).toNat<n.toNat;omega,MT⟩);rw[map_append];exact MT
def bQZ:Vc.Spec:=λd m h K=>∃s e,∃c:Nat,d=[cS s,cI c]/\dK h s 1 (bE e)/\s.len<=s.cap/\c<=1000/\∀cb m' h',PH.le h h'->m cb=none->bM m m' cb->bC m' h' cb->K (cP cb) m' h'
def Ym(s:Sl)(c:Nat)(m:MH)(h:PH)(K:bu):Prop:=
  aA (bZ (ite ((↑c:Int)<aG s) (↑c:Int) (aG s))) (ite ((↑c:Int)<aG s) (↑c:Int) (aG s)<=(↑s.cap:Int)) (∃(y:List bw),aA (eW 1 y) (sM m h (Sl.mk s.a (ite ((↑c:Int)<aG s) (↑c:Int) (aG s)).toNat s.cap) 1 y) (aA (iF y.length 1) (oL y.length) (cG h 1 y (λf d=>∀(b:Nat)(e:MH),fC m d b->gO m e b (nA (gU f) bL) 78->K (cT b) e d))))
theorem H8(l:cn):eW 1 (bE l):=by
 constructor
 .intro e c;obtain⟨x,_,rfl⟩:=mem_map.1 c;rfl
 .intro e c u d;obtain⟨x,_,rfl⟩:=mem_map.1 c;simp at d;subst d;rfl
theorem dK.cut{s:Sl}(r:dK h s sz xs)(n:Nat)(f:n<=xs.length):dK h ⟨s.a,n,s.cap⟩ sz (xs.take n):=by
 refine⟨by simp;omega,?_,by have g:=r.len;have j:=r.cap;show n<=s.cap;omega⟩;rcases r.row with e|⟨b,o,d,k⟩
 .left;rw[e];simp
 .right;refine⟨b,o,d,λi e c=>?_⟩;rw[getElem?_take]at c;split at c
  .exact k i e c
  .cases c
theorem aAJ:br 7 bQZ:=by
 refine hJ func7 ?_;rintro t m h K ⟨s,g,c,rfl,n,z,A,u⟩;refine⟨uC [] [] [] [] [78] [] false,rfl,aH,Ym s c m h K,bi,?_⟩;have B:s.len=g.length:=by have:=n.len;simpa[bE]using this
 dsimp only[Ym,push_cast];have d:(if(c:Int)<(s.len:Int)then(c:Int)else(s.len:Int))=((min c s.len:Nat):Int):=by split<;>omega
 rw[d];have e:=dK.cut n (min c s.len) (by simp[bE];omega);refine⟨aD,aD,bE (g.take (min c s.len)),H8 _,.imm ?_,by simp[bE];omega,by simp[bE];omega,λx h' j f b m' y o=>?_⟩
 .rw[show bE (g.take (min c s.len))=(bE g).take (min c s.len)by simp[bE,map_take]];exact e
 .exact u b m' h' j y.m_ ⟨o.other⟩ ⟨_,⟨⟨x,_,0,o.at_,f,aD,by simp;omega,rfl⟩⟩⟩
def bwQ:Vc.Spec:=λc m h K=>∃n:Nat,c=[.val (.slice none 0 0),cI n]/\n<=1000/\K (.lst 3 1 []) m h
noncomputable def aNX(c:Sl)(m:MH)(h:PH):Ctx:=
 cW [(157,bwQ)] [(3,{A:=Nat×Nat,st:=λ⟨i,n⟩=>bY 36 37 [(0,sv c),(3,iv n),(9,sv c),(10,iv c.len),(11,iv i)] [] m h}),
  (11,{A:=Nat×bt,st:=λ⟨i,l⟩=>bY 36 37 [(6,.at (.lst 24)),(25,sv c),(26,iv c.len),(27,iv i)] [(24,.lst 3 1 (l.map eI))] m h})] [] [] false
abbrev Hz(a:Int):Prop:=a<=140737488355328
noncomputable abbrev wC(a:Int)(b:bw):List bw:=replicate a.toNat b
attribute [push_cast] Hz wC
def Qo(n:Nat)(m:MH)(h:PH)(K:bu):Prop:=
  gM (iE ((↑n:Int)-iE ((0:Int)-0))) 0 (aA (bZ 0) (bZ 0) (aA (0<iE ((↑n:Int)-0)) (Hz (iE ((↑n:Int)-0)*8)) (aI (Hz (iE ((↑n:Int)-0))) ((0:Int)<=0) (bZ (qF (wC (iE ((↑n:Int)-0)) (kL bL)))) (K (CV.lst 3 1 []) m h)))) (K (CV.lst 3 1 []) m h)
abbrev Gx(a:(Nat×Nat->Prop)->(Nat×Nat)->Prop)(b:(Nat×Nat->Prop)->(Nat×Nat->Nat)->(Nat×Nat)->Prop):Prop:=∃(x:Nat×Nat->Prop)(d:Nat×Nat->Nat),(∃(c:Nat×Nat),a x c)/\∀(c:Nat×Nat),b x d c
noncomputable abbrev Eb(a:Nat):ct:=bT CZ (↑a:Int)
attribute [push_cast] Gx Eb
def QY(d:Sl)(m:MH)(h:PH)(K:bu):Prop:=
  Gx (λI x=>aA (I x) (aJ d) (aA (bF x.2) (aJ d) (aA (bI d) (bF x.1) (aA (m=m) (h=h) True)))) (λI g x=>I x->bA (↑x.1:Int) (aG d) (aW (λb o=>aI (aX d.a b o) (0<=(↑x.1:Int)) ((↑x.1:Int)<aG d) (∃(y:Sl),aU m h b (bN o x.1 1) (aY y)/\bA (bG x.2 (aG y)) 0 False (∃(c:Nat×Nat),aA (I c) (g c<g x) (aA (aJ d) (fU (bG x.2 (aG y))=bP c.2) (aA (aJ d) (bI d) (aA (fU (bG x.1 1)=bP c.1) (m=m) (bD h h)))))))) (∃(n:Nat),aA (Eb x.2=Eb n) (lR n) (IT (λI1 c=>aA (I1 c) (eL 24) (aA (aJ d) (bI d) (aA (bF c.1) (rJ (lM c)) (aA (m=m) (h=h) True)))) (λI1 j c=>I1 c->bA (↑c.1:Int) (aG d) (aW (λb o=>aI (aX d.a b o) (0<=(↑c.1:Int)) ((↑c.1:Int)<
 aG d) (∃(y:Sl),aU m h b (bN o c.1 1) (aY y)/\∃(e:List bw),aA (eW 1 e) (dK h (Sl.mk y.a y.len y.cap) 1 e) (aA (tS (lM c) e 8) (oS (lM c) e) (∃(f:Nat×bt),aA (I1 f) (j f<j c) (aA (eL 24) (aJ d) (aA (bI d) (fU (bG c.1 1)=bP f.1) (aA (AD (lM c++e) (lM f)) (m=m) (bD h h))))))))) (sW h (lM c) K m)))))
theorem WT:br 157 bwQ:=by
 refine hJ func157 ?_;rintro d m h K ⟨n,rfl,f,c⟩;refine⟨cW [] [] [] [] true,rfl,aH,Qo n m h K,bi,?_⟩;dsimp only[Qo,push_cast];have e:IntKind.i64.wrap ((n:Int)-0)=n:=by rw[dT aD aD];omega
 have g:IntKind.i64.wrap ((n:Int)-IntKind.i64.wrap (0-0))=n:=by rw[show IntKind.i64.wrap (0-0)=0 from by rw[dT aD aD];rfl,e]
 exact aF (λj=>⟨aD,aD,aD,aD,aD,aD,aD,c⟩) (λ_=>c)
def xP(ks:List bt):Nat:=(ks.map List.length).sum
theorem Lm{k:bt}(c:ks[i]? =some k):xP (ks.take (i+1))=xP (ks.take i)+k.length:=by
 unfold xP;rw[take_add_one,c];simp
theorem JR{ks:List bt}(h:∀k∈ks,k.length<=12):∀i,xP (ks.take i)<=12*i
 |0=>by simp[xP]
 |i+1=>by
  have c:=JR h i;cases e:ks[i]? with
  |none=>rw[take_add_one,e];simp[xP]at c⊢;omega
  |some k=>rw[Lm e];have:=h k (mem_of_getElem? e);omega
theorem Oo:br 106 JO:=by
 refine hJ func106 ?_;rintro F m h K ⟨C,ks,rfl,y,L,d,G⟩;refine⟨aNX C m h,rfl,aE WT aH,QY C m h K,bi,?_⟩;dsimp only[QY,push_cast];have t:=bV.slen y;refine⟨λ⟨i,n⟩=>i<=ks.length/\n=xP (ks.take i),λ⟨i,_⟩=>ks.length-i,⟨(0,0),⟨aD,by simp[xP]⟩,MT⟩,?_⟩;rintro⟨i,n⟩ ⟨D,rfl⟩;dsimp only;have H:=JR d i;refine aF (λc=>?_) (λu=>?_)
 .obtain⟨k,f⟩:=eF t c;obtain⟨b,o,j,z,r,g⟩:=bV.at y f;have I:=g.slen;have x:=d k (mem_of_getElem? f)
  have J:IntKind.i64.wrap ((xP (ks.take i):Int)+(j.len:Int))=((xP (ks.take (i+1)):Nat):Int):=by
   rw[Lm f,dT aD aD];omega
  refine⟨b,o,z,aD,c,j,.imm r,?_⟩;rw[J];exact aF (λE=>by omega) (λ_=>⟨(i+1,xP (ks.take (i+1))),⟨aD,rfl⟩,by show ks.length-(i+1)<ks.length-i;omega,MT⟩)
 .refine⟨xP (ks.take i),rfl,aD,?_⟩;refine⟨λ⟨i,l⟩=>i<=ks.length/\l=(ks.take i).flatten,λ⟨i,_⟩=>ks.length-i,⟨(0,[]),⟨aD,bj⟩,MT⟩,?_⟩;clear H u D;rintro⟨i,l⟩ ⟨D,rfl⟩;dsimp only;have A:(ks.take i).flatten.length<=12*i:=by have:=JR d i;simpa[xP,length_flatten]using this
  refine aF (λc=>?_) (λu j h' B e=>G j h' B ⟨?_,?_⟩)
  .obtain⟨k,f⟩:=eF t c;obtain⟨b,o,j,z,r,g⟩:=bV.at y f;have x:=d k (mem_of_getElem? f);refine⟨b,o,z,aD,c,j,.imm r,k.map eI,BX k,g.row,?_,?_,(i+1,(ks.take (i+1)).flatten),⟨aD,rfl⟩,by show ks.length-(i+1)<ks.length-i;omega,?_⟩
   .rw[length_map,length_map];omega
   .rw[length_map,length_map];omega
   .rw[take_add_one,f,Option.toList_some,flatten_append,map_append,flatten_cons,flatten_nil,append_nil];exact MT
  .rw[take_of_length_le aD]at e;exact e
  .rw[take_of_length_le aD]at A;omega
theorem ZX:∀N,br 77 (Bc N):=Yo Oo
mutual
def uX:Query->Nat->Int->Bool×Int
 |.mk _ _ _ _ _ _ _ _ args,k,n=>if 24<n+1\/k=0 then(false,0)else EJ args (k-1) (n+1)
def EJ:cg->Nat->Int->Bool×Int
 |[],_,n=>(true,n)
 |q::qs,k,n=>match uX q k n with|(false,_)=>(false,0)|(true,c)=>EJ qs k c
end
mutual
def szQ:Query->Int
 |.mk _ _ _ _ _ _ _ _ args=>1+HY args
def HY:cg->Int
 |[]=>0
 |p::ps=>szQ p+HY ps
end
mutual
theorem RD:∀p:Query,1<=szQ p
 |.mk _ _ _ _ _ _ _ _ args=>by have:=E9 args;simp only[szQ];omega
theorem E9:∀ps:cg,0<=HY ps
 |[]=>by simp[HY]
 |p::ps=>by have:=RD p;have:=E9 ps;simp only[HY];omega
end
mutual
theorem Pv:∀(p:Query)(n:Int),n<=24->(n+szQ p<=24->pC p n=n+szQ p)/\(24<n+szQ p->pC p n=25)
 |.mk _ _ _ _ _ _ _ _ args,n,h=>by
  obtain⟨c,d⟩:=Nr args (n+1) aD;simp only[pC,szQ];exact⟨λe=>by rw[c aD];omega,λe=>d aD⟩
theorem Nr:∀(ps:cg)(n:Int),n<=25->(n+HY ps<=24->kK ps n=n+HY ps)/\(24<n+HY ps->kK ps n=25)
 |[],n,h=>by
  simp only[kK,HY];omega
 |p::ps,n,h=>by
  have t:=RD p;have u:=E9 ps;simp only[kK,HY];by_cases d:n<=24
  .rw[if_pos d];have g:=Pv p n d;have j:=(Dw p n d).2;have c:=Nr ps _ j;by_cases o:n+szQ p<=24
   .have f:=g.1 o;rw[f]at c⊢
    exact⟨λe=>by rw[c.1 aD];omega,λe=>c.2 aD⟩
   .have f:=g.2 aD;rw[f]at c⊢
    exact⟨λe=>by omega,λe=>c.2 aD⟩
  .rw[if_neg d];omega
end
mutual
theorem Rz:∀(p:Query)(k:Nat)(n:Int),n<=24->((uX p k n).1=true↔n+szQ p<=24/\rZ p k=false)/\((uX p k n).1=true->(uX p k n).2=n+szQ p)
 |.mk _ _ _ _ _ _ _ _ args,k,n,h=>by
  have j:=E9 args;simp only[uX,szQ];by_cases c:24<n+1\/k=0
  .rw[if_pos c];refine⟨⟨λe=>(by cases e),λe=>?_⟩,λe=>(by cases e)⟩;rcases c with c|c
   .omega
   .subst c;simp[rZ]at e
  .rw[if_neg c];obtain⟨d,rfl⟩:∃d,k=d+1:=⟨k-1,aD⟩
   obtain⟨f,g⟩:=SS args d (n+1) aD;simp only[rZ,Nat.add_sub_cancel];refine⟨⟨λe=>?_,λe=>f.2 ⟨aD,e.2⟩⟩,λe=>by have:=g e;omega⟩;have:=f.1 e;exact⟨aD,this.2⟩
theorem SS:∀(ps:cg)(k:Nat)(n:Int),n<=24->((EJ ps k n).1=true↔n+HY ps<=24/\Ae ps k=false)/\((EJ ps k n).1=true->(EJ ps k n).2=n+HY ps)
 |[],k,n,h=>by simp[EJ,HY,Ae,h]
 |p::ps,k,n,h=>by
  obtain⟨c,d⟩:=Rz p k n h;have t:=E9 ps;simp only[EJ,HY,Ae];cases e:uX p k n with
  |mk r g=>
   rw[e]at c d;cases r with
   |false=>
    refine⟨⟨λe=>(by cases e),λe=>?_⟩,λe=>(by cases e)⟩;have:=c.2 ⟨aD,(Bool.or_eq_false_iff.1 e.2).1⟩;cases this
   |true=>
    have j:=d rfl;have c:=c.1 rfl;simp only at j;obtain⟨f,o⟩:=SS ps k g aD;refine⟨⟨λe=>?_,λe=>?_⟩,λe=>by have:=o e;simp only;omega⟩
    .have:=f.1 e;exact⟨aD,by rw[c.2,this.2];rfl⟩
    .exact f.2 ⟨aD,(Bool.or_eq_false_iff.1 e.2).2⟩
end
theorem Pe(q:Query):(uX q 8 0).1=uY q:=by
 have d:=(Rz q 8 0 aD).1;have c:=Pv q 0 aD;rw[Bool.eq_iff_iff,d];simp only[uY,Bool.and_eq_true,decide_eq_true_eq,Bool.not_eq_true'];refine and_congr_left λ_=>⟨λe=>?_,λe=>?_⟩
 .rw[c.1 aD];omega
 .by_cases f:0+szQ q<=24
  .exact f
  .rw[c.2 aD]at e;omega
def Ib:Code->Option (Code×Code)
 |.rangeFunc _ _ a b=>some (a,b)
 |.seq x y=>match Ib x with|some p=>some p|none=>Ib y
 |.block _ c=>Ib c
 |_=>none
noncomputable def rfA:Code:=match Ib (cL Tryz.f39)with|some p=>p.1|none=>.skip
noncomputable def rfB:Code:=match Ib (cL Tryz.f39)with|some p=>p.2|none=>.skip
structure LR where
 fn:FuncId
 tmps:Array Value
 bn:Nat
 b6:Nat
 b7:Nat
 D:Nat
noncomputable def pR(R:LR)(st:LoopState)(c:Option Code):Loop:={state:=st,pending:=c,fn:=R.fn,tmps:=R.tmps,params:= #[37,38],assign:=rfA,body:=rfB,defers:=R.D}
def Hg:Obj:=.cells #[.slice none 0 0] 30 (0,0)
def FK(n:Int):Obj:=.cells #[.int .i64 n] 44 (0,0)
structure yC(m:MH)(l:Nat)(R:LR)(n:Int):Prop where
 loop:m l=some (.loop (pR R .ready none))
 n_:m R.bn=some (sJ n)
 k_:m R.b6=some Hg
 e_:m R.b7=some (FK 0)
 size:R.tmps.size=53
 t11:R.tmps[11]? =some (.pointer (some ⟨R.bn,0,none⟩))
 t6:R.tmps[6]? =some (.pointer (some ⟨R.b6,0,none⟩))
 t7:R.tmps[7]? =some (.pointer (some ⟨R.b7,0,none⟩))
structure zX(m m':MH)(l:Nat)(R:LR):Prop where
 loop:m' l=some (.loop (pR R .done (some .ret)))
 k_:m' R.b6=some Hg
 e_:m' R.b7=some (FK 2)
 n_:∃x,m' R.bn=some x
 other:∀b,b≠l->b≠R.bn->b≠R.b6->b≠R.b7->m' b=m b
theorem yC.ne{l:Nat}{R:LR}{n:Int}(x:yC m l R n):l≠R.bn/\l≠R.b6/\l≠R.b7/\R.b6≠R.bn/\R.b7≠R.bn/\R.b6≠R.b7:=by
 have c:=x.loop;have g:=x.n_;have d:=x.k_;have f:=x.e_;refine⟨λe=>?_,λe=>?_,λe=>?_,λe=>?_,λe=>?_,λe=>?_⟩
 .rw[e,g]at c;cases c
 .rw[e,d]at c;cases c
 .rw[e,f]at c;cases c
 .rw[e,g]at d;cases d
 .rw[e,g]at f;cases f
 .rw[e,f]at d;cases d
theorem yC.next{l:Nat}{R:LR}{n d:Int}(x:yC m l R n)(c:iV m m' R.bn (sJ d)):yC m' l R d:=by
 obtain⟨e,j,o,f,g,t⟩:=x.ne;exact⟨by rw[c.other l e];exact x.loop,c.at_,by rw[c.other _ f];exact x.k_,by rw[c.other _ g];exact x.e_,x.size,x.t11,x.t6,x.t7⟩
theorem zX.from{c:MH}{l:Nat}{R:LR}{e:Int}(f:iV m c R.bn (sJ e))(h:zX c m' l R):zX m m' l R:=
 ⟨h.loop,h.k_,h.e_,h.n_,λb g d j n=>(h.other b g d j n).trans (f.other b d)⟩
def yv(l:Nat):CV:=.val (.func (.yield l) #[] #[])
def YS:Vc.Spec:=λd m h K=>∃l c v R n,d=[yv l,cI c,aQ v]/\yC m l R n/\0<=n/\n<=24/\
 (∀m',(24<n+1\/8<c)->zX m m' l R->K (cB false) m' h)/\(∀m',¬(24<n+1\/8<c)->iV m m' R.bn (sJ (n+1))->K (cB true) m' h)
def XH(N:Nat):Vc.Spec:=λc m h K=>∃v q,∃k l:Nat,∃R n,c=[aQ v,cI (9-k),yv l]/\eO h q v/\SizeOf.sizeOf q<N/\k<=9/\yC m l R n/\0<=n/\n<=24/\
 (∀m',(uX q k n).1=false->zX m m' l R->K (cB false) m' h)/\(∀m',(uX q k n).1=true->iV m m' R.bn (sJ (uX q k n).2)->K (cB true) m' h)
def XC(b:Nat):CV:=.val (.pointer (some ⟨b,0,none⟩))
def bPX:Vc.Spec:=λc m h K=>∃v q l d R,c=[yv l,XC d]/\m d=some (.cells ⟨v.enc⟩ 35 (0,0))/\eO h q v/\yC m l R 0/\
 (∀m',(uX q 8 0).1=false->zX m m' l R->K (.tup []) m' h)/\(∀m',(uX q 8 0).1=true->iV m m' R.bn (sJ (uX q 8 0).2)->K (.tup []) m' h)
def Rm:Vc.Spec:=λc m h K=>∃v,c=[aQ v]/\∀b m',fC m h b->iV m m' b (.cells ⟨v.enc⟩ 35 (0,0))->K (.val (.func (.func 140) #[] #[.pointer (some ⟨b,0,none⟩)])) m' h
noncomputable def aJX(N:Nat)(v:QV)(k l:Nat)(h:PH):Ctx:=
 {cW [(141,XH N)] [(4,{A:=Nat×MH,st:=λ⟨i,m⟩=>bY 28 31 [(1,iv (9-k)),(2,vv (.func (.yield l) #[] #[])),(15,sv v.args),(16,iv v.args.len),(17,iv i)] [] m h})] [] [] false with yield:=some YS}
noncomputable abbrev D1(a:Nat):CV:=CV.val (Value.func (Fn.yield a) xL xL)
abbrev zK(a:Prop):Prop:=a->False
attribute [push_cast] D1 zK
def QB(N:Nat)(v:QV)(k l:Nat)(m:MH)(h:PH)(K:bu):Prop:=
  Oz Proofs.Tryz.prog YS/\∃(j:Nat)(t:Int)(B:QV)(R:LR)(n:Int),aA (D1 l::bK (eG (sT k)) (cC v)=D1 j::bK (eG t) (cC B)) (yC m j R n) (aA (bZ n) (n<=24) ((∀(d:MH),24<n+1\/8<t->zX m d j R->K bB d h)/\∀(d:MH),zK (24<n+1\/8<t)->gO m d R.bn (bJ (n+1)) 3->∃(I:Nat×MH->Prop)(z:Nat×MH->Nat),(∃(x:Nat×MH),aA (I x) (dO (sT k)) (aA (eQ (SV.at (At.val (Value.func (Fn.yield l) xL xL)))) (aJ v.args) (aA (bI v.args) (bF x.1) (aA (d=x.2) (h=h) True))))/\∀(x:Nat×MH),I x->bA (↑x.1:Int) (aG v.args) (aW (λb o=>aI (aX v.args.a b o) (0<=(↑x.1:Int)) ((↑x.1:Int)<aG v.args) (∃(y:QV),aU x.2 h b (bN o x.1 21) y.enc/\vG (λA q=>aW (λe u=>∃(R1:LR)(c
 :Int),aA (cC y::bK (eG (iE (sT k+1))) (D1 l)=cC A::bK (eG (sT e)) (D1 u)) (eO h q A) (aA (Ao q N) (e<=9) (aA (yC x.2 u R1 c) (bZ c) (aA (c<=24) (∀(f:MH),(uX q e c).1=false->zX x.2 f u R1->K bB f h) (∀(f:MH),C4 (uX q e c).1->gO x.2 f R1.bn (bJ (uX q e c).2) 3->∃(g:Nat×MH),aA (I g) (z g<z x) (aA (dO (sT k)) (eQ (SV.at (At.val (Value.func (Fn.yield l) xL xL)))) (aA (aJ v.args) (bI v.args) (aA (fU (bG x.1 1)=bP g.1) (f=g.2) (bD h h))))))))))))) (fJ K x.2 h)))
abbrev wE(a:bu)(b:MH)(c:PH):Prop:=a (CV.tup []) b c
attribute [push_cast] wE
def afJ(N:Nat)(l e:Nat)(m:MH)(h:PH)(K:bu):Prop:=
  ∃(y:QV),aU m h e 0 y.enc/\vG (λv q=>aW (λk d=>∃(R:LR)(n:Int),aA (cC y::bK (eG 1) (D1 l)=cC v::bK (eG (sT k)) (D1 d)) (eO h q v) (aA (Ao q N) (k<=9) (aA (yC m d R n) (bZ n) (aA (n<=24) (∀(c:MH),(uX q k n).1=false->zX m c d R->wE K c h) (∀(c:MH),C4 (uX q k n).1->gO m c R.bn (bJ (uX q k n).2) 3->wE K c h))))))
noncomputable abbrev AZ(a:Nat):bw:=kL (vQp a 0)
attribute [push_cast] AZ
def aBQ(v:QV)(m:MH)(h:PH)(K:bu):Prop:=
  ∀(b:Nat)(c:MH),fC m h b->gO m c b v.enc 35->K (Bu 140 (Array.mk (AZ b))) c h
theorem UO(T:Oz Tryz.prog YS):∀N,br 141 (XH N)
 |0=>by
  refine eV (fn:=Tryz.f141) (c:=cL Tryz.f141) func141 rfl bk ?_;rintro G m h K ⟨v,q,k,l,R,n,rfl,_,V,_⟩;omega
 |N+1=>by
  refine hJ func141 ?_;rintro G m h K ⟨v,q,k,l,R,n,rfl,W,V,hk,U,X,Y,H,I⟩;refine⟨aJX N v k l h,rfl,aE (UO T N) aH,QB N v k l m h K,bi,?_⟩;dsimp only[QB,push_cast];have d:=W.args;have A:=d.slen;have hl:=d.len;refine⟨T,l,9-k,v,R,n,rfl,U,X,Y,λm' J y=>H m' ?_ y,λm' J Z=>?_⟩
  .cases q;simp only[uX];rw[if_pos aD]
  have J:¬(24<n+1\/8<9-(k:Int)):=J;have L:iV m m' R.bn (sJ (n+1)):=Z;have hv:uX q k n=EJ q.args (k-1) (n+1):=by cases q;simp only[uX,Query.args];rw[if_neg aD]
  rw[hv]at H I;refine⟨λ⟨i,E⟩=>∃g,i<=q.args.length/\0<=g/\g<=24/\iV m E R.bn (sJ g)/\EJ (q.args.drop i) (k-1) g=EJ q.args (k-1) (n+1),λ⟨i,_⟩=>q.args.length-i,⟨(0,m'),⟨n+1,aD,aD,aD,L,bj⟩,MT⟩,?_⟩;rintro⟨i,E⟩ ⟨g,hi,M,B,j,z⟩;dsimp only;refine aF (λC=>?_) (λa'=>?_)
  .obtain⟨p,O⟩:=eF A C;obtain⟨b,o,u,ea,P,Q⟩:=d.at O;have hd:=drop_cons O;rw[hd,EJ]at z;refine⟨b,o,ea,aD,C,u,.imm P,u,p,k-1,l,R,g,?_,Q,?_,aD,U.next j,M,B,λF t y=>?_,λF t S=>?_⟩
   .rw[dT aD aD,show(9-((k-1:Nat):Int))=9-(k:Int)+1 by omega]
   .have:=zZ (mem_of_getElem? O);omega
   .refine H F ?_ (y.from j);rw[<-z];cases e:uX p (k-1) g with
    |mk r x=>rw[e]at t;simp only at t;subst t;rfl
   .have f:iV E F R.bn (sJ (uX p (k-1) g).2):=S;have y:=Rz p (k-1) g B;have a0:=y.1.1 t;have D:=y.2 t;have a1:=RD p;cases e:uX p (k-1) g with
    |mk r x=>
     rw[e]at t z D f;simp only at t D f;subst t;exact⟨(i+1,F),⟨x,aD,aD,aD,j.trans f,z⟩,by show q.args.length-(i+1)<q.args.length-i;omega,MT⟩
  .rw[drop_of_length_le aD,EJ]at z;rw[<-z]at I;exact I E rfl j
theorem W5(c:Oz Tryz.prog YS):br 140 bPX:=by
 refine hJ func140 ?_;rintro d m h K ⟨v,q,l,e,R,rfl,f,g,j,n,o⟩;refine⟨cW [(141,XH (SizeOf.sizeOf q+1))] [] [] [] false,rfl,aE (UO c _) aH,afJ (SizeOf.sizeOf q+1) l e m h K,bi,?_⟩;exact⟨v,.of_m f rfl,v,q,8,l,R,0,rfl,g,aD,aD,j,aD,aD,n,o⟩
theorem ZY:br 76 Rm:=by
 refine hJ func76 ?_;rintro c m h K ⟨v,rfl,d⟩;refine⟨cW [] [] [] [] false,rfl,aH,aBQ v m h K,bi,?_⟩;exact d
end Go.Ps
