/-
  Part 4 of a proof that a law of the given program returns true: a condition generator that is proved sound, and contracts of functions. No condition of its own. Own work, joined by a program (pack2.py).
-/
import Derived.Test.YtileehgdfcknkaaGreatDoorFc
set_option linter.unusedVariables false
set_option linter.unusedSimpArgs false
namespace Go.Ps
open Go Go.Vc Go.Proofs
variable{K:CV->MH->PH->Prop}{m:MH}{h:PH}{s:nS}{ps:List Int}{cb:Nat}{sc:bJ}{v:QV}{q:Query}{p:Pred}{l:List Int}{i:Nat}{N:Nat}{m':MH}{h':PH}{co:List Int}{gr:List Int}{od:List (Int×Bool)}{w:Pred}{ta:Int}{li:Int}{xs:List (List Value)}{sz:Nat}{k:Nat}{ks:List (List Int)}{rs:List Int}{r:Sl}{a:List Int}{b:Nat}
def fv(f:Nat):CV:=.val (.func (.func f) #[] #[])
def Ml:Vc.Spec:=λcvs m h K=>∃op,cvs=[cI op]/\
 branch (op==1) (K (fv 139) m h) (branch (op==2) (K (fv 140) m h) (branch (op==3) (K (fv 141) m h) (branch (op==4) (K (fv 142) m h) (branch (op==5) (K (fv 143) m h) (branch (op==6) (K (fv 144) m h) (branch (op==7) (K (fv 144) m h) (branch (op==8) (K (fv 144) m h) (branch (op==9) (K (fv 145) m h) (branch (op==10) (K (fv 146) m h) (K (.val .nilFunc) m h))))))))))
noncomputable def Xy(N:Nat)(sc:bJ)(p:Sl)(v:QV)(m:MH):Ctx:=
 dL [(81,BB N),(116,Ml),(139,vS (· =1)),(140,vS (· =2)),(141,vS (· =3)),(142,vS (· =4)),(143,vS (· =5)),(144,vS (λop=>op=6\/op=7\/op=8)),(145,vS (· =9)),(146,vS (· =10))] [(3,{A:=Nat×List Sl×PH,st:=λ⟨i,ss,h⟩=>cD 62 65 [(1,sv p),(3,.at (.ptr 3 0)),(5,.at (.ptr 5 0)),(8,.at (.ptr 8 0)),(21,sv v.args),(22,iv v.args.len),(23,iv i)] [(3,.cells 43 (sc.enc.map .val)),(5,.cells 38 (v.enc.map .val)),(8,.cells 152 ((sc.enc++eS p++v.enc).map .val++[.lst 41])),(41,.lst 33 1 (ss.map eS))] m h})] [] [] false
noncomputable abbrev Ir:List Value:=iO Value.nilFunc
attribute [push_cast] Ir
def GV(op:Int)(m:MH)(h:PH)(K:CV->MH->PH->Prop):Prop:=
  ∀(b:Nat)(m1:MH),aM (cC m h b) (bI m m1 b (aJ Value.nilFunc Value.nilFunc (aJ Value.nilFunc Value.nilFunc (aJ Value.nilFunc Value.nilFunc (aJ Value.nilFunc Value.nilFunc (aJ Value.nilFunc Value.nilFunc Ir))))) 183) (gK (λc E=>aA (uO m1 b (eR c E 0)) (11<=c.size) (∀(m2:MH),bI m1 m2 b (aJ Value.nilFunc (kM 139) (aJ (kM 140) (kM 141) (aJ (kM 142) (kM 143) (aJ (kM 144) (kM 144) (aJ (kM 144) (kM 145) (eO (kM 146) 11 c)))))) E->aZ op 0 (K (CV.val Value.nilFunc) m2 h) (fU op 11 (K (CV.val Value.nilFunc) m2 h) (aA (cA op) (op<11) (∃(y:Option Nat),aL m2 h b (fQ 0 op 1) (iO (Wi y))/\K (CV.val (Wi y)) m2 h))))))
abbrev rO(a:Nat×List Sl×PH)(b:bJ)(c:Sl)(d:QV)(e:Sl->List Value)(g:NV->List CV)(i:Query->Prop)(j:PH->(List Int×Int)->Prop):Prop:=bZ (λx x1=>bE (kJ a) x1 (aX x1 x 1 (rI a)) (∃(x2:NV),AS (λx3 x4 x5 x6=>aA (jW (lF (aJ (pI b) (pH b) (aJ (dT c) (dO d.op) (aJ (lX d) (lW d) (aJ (dO (lY d)) (jS (gC d)) (e x))))))=g x2) (qL x1 x3 x4 x5 x6 x2) (aA (mW x3) (i x5) (∀(x7:List Int×Int),fin x7=vR x3 x4 x5 x6->j x1 x7)))))
noncomputable abbrev rU(a:QV)(b:List Value):List Value:=aJ (sP (gC a)) (dO (nL (gC a))) (aJ (nF (gC a)) (lH (gC a)) (aJ (jS (eX a)) (sP (eX a)) (aJ (dO (nL (eX a))) (nF (eX a)) b)))
abbrev rK(a:PH)(b:List Int×Int)(c:CV->MH->PH->Prop)(d:MH):Prop:=bZ (λx x1=>bE a x1 (Ints x1 x b.1) (cT (b.2 !=0) (dG c b.2 d x1) (decide (aG x>12)) (dG c 2 d x1) (c (CV.tup (cJ (dN x) 0)) d x1)))
attribute [push_cast] rO rU rK
def O3(N:Nat)(sc:bJ)(p:Sl)(v:QV)(m:MH)(h:PH)(K:CV->MH->PH->Prop):Prop:=
  ∃(I:Nat×List Sl×PH->Prop)(m1:Nat×List Sl×PH->Nat),(∃(x:Nat×List Sl×PH),aA (I x) (aI p) (aA (eP 3) fH (aA fI (aI v.args) (aA (bL v.args) (bD x.1) (aA (bP sc) (fB v) (aA (Ip sc (dU (xW p) (fP v.op) (Io v (pJ (At.lst 41))))) (Option.some (Own.lst 33 1 [])=Option.some (Own.lst 33 1 (rI x))) (dQ m m h (kJ x))))))))/\∀(x:Nat×List Sl×PH),I x->aZ (↑x.1:Int) (aG v.args) (aR (λb o=>aA (aT v.args.a b o) (0<=(↑x.1:Int)) ((↑x.1:Int)<aG v.args/\∃(y:QV),aL m (kJ x) b (bA o x.1 21) y.enc/\E4 sc p y (kJ x) (λv1 s p1 q=>aA (cN (kJ x) q v1) (p9 q N) (bZ (λs1 h1=>bE (kJ x) h1 (Ints h1 s1 (bO s p1 q).1) (eA (bO s p1 q).2 0 (K (CV.tup (bK Cz (CV.val (dO (bO s p1 q).2)))) m h1) (nO
 (rI x) 24 (∃(x1:Nat×List Sl×PH),aA (I x1) (m1 x1<m1 x) (aA (aI p) (eP 3) (aA fH fI (aA (aI v.args) (bL v.args) (aA (fN (bG x.1 1)=bV x1.1) (bP sc) (aA (fB v) (Ip sc (dU (xW p) (fP v.op) (Io v (pJ (At.lst 41))))) (cO (Option.some (Own.lst 33 1 (jC (rI x) s1))=Option.some (Own.lst 33 1 (rI x1))) m m h1 (kJ x1)))))))))))))))) (jM v.op (λo=>cT (o==1) (rO x sc p v (λs=>rU v (aJ (lH (eX v)) (nC v) (aJ (nD v) (dT v.on) (aJ (qH v) (qI v) (aJ (dO v.limit) (tD v) (aU s)))))) (λn=>iG n (fA n (eY n))) (λq=>q.op=1) (λh1 r=>rK h1 r K m)) (o==2) (rO x sc p v (λs=>rU v (aJ (lH (eX v)) (nC v) (aJ (nD v) (dT v.on) (aJ (qH v) (qI v) (aJ (dO v.limit) (tD v)
 (aU s)))))) (λn=>iG n (fA n (eY n))) (λq=>q.op=2) (λh1 r=>rK h1 r K m)) (cT (o==3) (rO x sc p v (λs=>rU v (aJ (lH (eX v)) (nC v) (aJ (nD v) (dT v.on) (aJ (qH v) (qI v) (aJ (dO v.limit) (tD v) (aU s)))))) (λn=>iG n (fA n (eY n))) (λq=>q.op=3) (λh1 r=>rK h1 r K m)) (o==4) (rO x sc p v (λs=>rU v (aJ (lH (eX v)) (nC v) (aJ (nD v) (dT v.on) (aJ (qH v) (qI v) (aJ (dO v.limit) (tD v) (aU s)))))) (λn=>iG n (fA n (eY n))) (λq=>q.op=4) (λh1 r=>rK h1 r K m)) (cT (o==5) (rO x sc p v (λs=>rU v (aJ (lH (eX v)) (nC v) (aJ (nD v) (dT v.on) (aJ (qH v) (qI v) (aJ (dO v.limit) (tD v) (aU s)))))) (λn=>iG n (fA n
 (eY n))) (λq=>q.op=5) (λh1 r=>rK h1 r K m)) (o==6) (rO x sc p v (λs=>rU v (aJ (lH (eX v)) (nC v) (aJ (nD v) (dT v.on) (aJ (qH v) (qI v) (aJ (dO v.limit) (tD v) (aU s)))))) (λn=>iG n (fA n (eY n))) (λq=>q.op=6\/q.op=7\/q.op=8) (λh1 r=>rK h1 r K m)) (cT (o==7) (rO x sc p v (λs=>rU v (aJ (lH (eX v)) (nC v) (aJ (nD v) (dT v.on) (aJ (qH v) (qI v) (aJ (dO v.limit) (tD v) (aU s)))))) (λn=>iG n (fA n (eY n))) (λq=>q.op=6\/q.op=7\/q.op=8) (λh1 r=>rK h1 r K m)) (o==8) (rO x sc p v (λs=>rU v (aJ (lH (eX v)) (nC v) (aJ (nD v) (dT v.on) (aJ (qH v) (qI v) (aJ (dO v.limit) (tD v) (aU s)))))) (λn=>iG n (fA n (eY n)))
 (λq=>q.op=6\/q.op=7\/q.op=8) (λh1 r=>rK h1 r K m)) (cT (o==9) (rO x sc p v (λs=>rU v (aJ (lH (eX v)) (nC v) (aJ (nD v) (dT v.on) (aJ (qH v) (qI v) (aJ (dO v.limit) (tD v) (aU s)))))) (λn=>iG n (fA n (eY n))) (λq=>q.op=9) (λh1 r=>rK h1 r K m)) (o==10) (rO x sc p v (λs=>rU v (aJ (lH (eX v)) (nC v) (aJ (nD v) (dT v.on) (aJ (qH v) (qI v) (aJ (dO v.limit) (tD v) (aU s)))))) (λn=>iG n (fA n (eY n))) (λq=>q.op=10) (λh1 r=>rK h1 r K m)) (dG K 100 m (kJ x))))))))
theorem RI:Sound Tryz.prog 116 Ml:=by
 refine Fu Tryz.func116 ?_;rintro cvs m h K ⟨op,rfl,hK⟩;refine⟨uW [] [] [] [] [183] [] false,rfl,aF,GV op m h (kD h K),by kernel_rfl,?_⟩;show GV op m h (kD h K);dsimp only[GV,push_cast];intro b m1 hb hm1;refine⟨_,_,⟨hm1.at_⟩,by decide,λm2 hm2=>?_⟩;have hsub:Sub m m2:=((Sub.refl m).upd hb.m_ hm1.other).upd hb.m_ hm2.other;have e:=hm2.at_
 have none_:∀k,¬(1<=op/\op<=10)->op=k->K (.val .nilFunc) m h:=λk hn _=>by
  have:(op==1)=false/\(op==2)=false/\(op==3)=false/\(op==4)=false/\(op==5)=false/\(op==6)=false/\(op==7)=false/\(op==8)=false/\(op==9)=false/\(op==10)=false:=by
   simp only[beq_eq_false_iff_ne];omega
  obtain⟨e1,e2,e3,e4,e5,e6,e7,e8,e9,e10⟩:=this;rw[e1,e2,e3,e4,e5,e6,e7,e8,e9,e10]at hK;exact hK
 refine aE (λh1=>.sub hsub (none_ _ aC rfl)) (λh1=>aE (λh2=>.sub hsub (none_ _ aC rfl)) (λh2=>⟨aC,aC,?_⟩));have:op=0\/op=1\/op=2\/op=3\/op=4\/op=5\/op=6\/op=7\/op=8\/op=9\/op=10:=by omega
 rcases this with rfl|rfl|rfl|rfl|rfl|rfl|rfl|rfl|rfl|rfl|rfl
 .exact⟨none,.lent _ _ _ e rfl,.sub hsub (none_ 0 aC rfl)⟩
 .exact⟨some 139,.lent _ _ _ e rfl,.sub hsub hK⟩
 .exact⟨some 140,.lent _ _ _ e rfl,.sub hsub hK⟩
 .exact⟨some 141,.lent _ _ _ e rfl,.sub hsub hK⟩
 .exact⟨some 142,.lent _ _ _ e rfl,.sub hsub hK⟩
 .exact⟨some 143,.lent _ _ _ e rfl,.sub hsub hK⟩
 .exact⟨some 144,.lent _ _ _ e rfl,.sub hsub hK⟩
 .exact⟨some 144,.lent _ _ _ e rfl,.sub hsub hK⟩
 .exact⟨some 144,.lent _ _ _ e rfl,.sub hsub hK⟩
 .exact⟨some 145,.lent _ _ _ e rfl,.sub hsub hK⟩
 .exact⟨some 146,.lent _ _ _ e rfl,.sub hsub hK⟩
theorem Rt:Sound Tryz.prog 139 (vS (· =1)):=by
 refine iB Tryz.func139 ?_;rintro cvs m h K ⟨n,s,ps,q,ks,rfl,hn,h8,hop,hT⟩;obtain⟨op,ta,w,co,on,gr,od,li,args⟩:=q;refine⟨dL [(177,zH),(72,uZ)] [] [] [] false,rfl,(aD qK (aD Lj aF)),Dz n m h K,by kernel_rfl,?_⟩;dsimp only[Dz,push_cast];cases (show op=1 from hop);exact Ya hn h8 ⟨hT⟩
theorem Rs:Sound Tryz.prog 140 (vS (· =2)):=by
 refine iB Tryz.func140 ?_;rintro cvs m h K ⟨n,s,ps,q,ks,rfl,hn,h8,hop,hT⟩;obtain⟨op,ta,w,co,on,gr,od,li,args⟩:=q;refine⟨dL [(177,zH),(113,qM)] [] [] [] false,rfl,(aD qK (aD J1 aF)),Dy n m h K,by kernel_rfl,?_⟩;dsimp only[Dy,push_cast];cases (show op=2 from hop);exact X8 hn ⟨hT⟩
theorem Rr:Sound Tryz.prog 141 (vS (· =3)):=by
 refine iB Tryz.func141 ?_;rintro cvs m h K ⟨n,s,ps,q,ks,rfl,hn,h8,hop,hT⟩;obtain⟨op,ta,w,co,on,gr,od,li,args⟩:=q;refine⟨V0 n m h,rfl,(aD qK aF),Dx n m h K,by kernel_rfl,?_⟩;dsimp only[Dx,push_cast];cases (show op=3 from hop);exact X7 hn ⟨hT⟩
theorem Rq(h101:Sound Tryz.prog 179 IJ):Sound Tryz.prog 142 (vS (· =4)):=by
 refine iB Tryz.func142 ?_;rintro cvs m h K ⟨n,s,ps,q,ks,rfl,hn,h8,hop,hT⟩;obtain⟨op,ta,w,co,on,gr,od,li,args⟩:=q;refine⟨dL [(178,Kn),(179,IJ)] [] [] [] false,rfl,(aD JX (aD h101 aF)),Dw n m h K,by kernel_rfl,?_⟩;dsimp only[Dw,push_cast];cases (show op=4 from hop);exact X6 hn ⟨hT⟩
theorem Rp:Sound Tryz.prog 143 (vS (· =5)):=by
 refine iB Tryz.func143 ?_;rintro cvs m h K ⟨n,s,ps,q,ks,rfl,hn,h8,hop,hT⟩;obtain⟨op,ta,w,co,on,gr,od,li,args⟩:=q;refine⟨dL [(178,Kn)] [] [] [] false,rfl,(aD JX aF),Dv n m h K,by kernel_rfl,?_⟩;dsimp only[Dv,push_cast];cases (show op=5 from hop);exact X5 hn ⟨hT⟩
theorem Ro:Sound Tryz.prog 144 (vS (λop=>op=6\/op=7\/op=8)):=by
 refine iB Tryz.func144 ?_;rintro cvs m h K ⟨n,s,ps,q,ks,rfl,hn,h8,hop,hT⟩;obtain⟨op,ta,w,co,on,gr,od,li,args⟩:=q;refine⟨dL [(177,zH),(180,Ax)] [] [] [] false,rfl,(aD qK (aD Eg aF)),GR n m h K,by kernel_rfl,?_⟩;exact X4 hop hn ⟨hT⟩
theorem Rn:Sound Tryz.prog 145 (vS (· =9)):=by
 refine iB Tryz.func145 ?_;rintro cvs m h K ⟨n,s,ps,q,ks,rfl,hn,h8,hop,hT⟩;obtain⟨op,ta,w,co,on,gr,od,li,args⟩:=q;refine⟨dL [(177,zH),(181,Kj),(182,Kk)] [] [] [] false,rfl,(aD qK (aD JW (aD JV aF))),Du n m h K,by kernel_rfl,?_⟩;dsimp only[Du,push_cast];cases (show op=9 from hop);exact X3 hn ⟨hT⟩
theorem Rm:Sound Tryz.prog 146 (vS (· =10)):=by
 refine iB Tryz.func146 ?_;rintro cvs m h K ⟨n,s,ps,q,ks,rfl,hn,h8,hop,hT⟩;obtain⟨op,ta,w,co,on,gr,od,li,args⟩:=q;refine⟨dL [(177,zH),(180,Ax),(181,Kj),(182,Kk)] [] [] [] false,rfl,(aD qK (aD Eg (aD JW (aD JV aF)))),Dt n m h K,by kernel_rfl,?_⟩;dsimp only[Dt,push_cast];cases (show op=10 from hop);exact X2 hn ⟨hT⟩
theorem SQ(h101:Sound Tryz.prog 179 IJ):∀N,Sound Tryz.prog 81 (BB N)
 |0=>by
  refine eG (fn:=Tryz.f81) (c:=dJ Tryz.f81) Tryz.func81 rfl (by decide) ?_;rintro cvs m h K ⟨sc,p,v,s,ps,q,rfl,_,_,_,_,hN,_⟩;omega
 |N+1=>by
  refine iB Tryz.func81 ?_;rintro cvs m h K ⟨sc,p,v,s,ps,q,rfl,hs,h8,hp,hq,hN,hK⟩;refine⟨Xy N sc p v m,rfl,(aD (SQ h101 N) (aD RI (aD Rt (aD Rs (aD Rr (aD (Rq h101) (aD Rp (aD Ro (aD Rn (aD Rm aF)))))))))),O3 N sc p v m h K,by kernel_rfl,?_⟩;dsimp only[O3,push_cast];have hlt:=@B3 q;have hqr:=hq;obtain⟨op,ta,w,co,on,gr,od,li,args⟩:=q;have x:=hq.parts;have e0:=x.op_;have hl:=x.args_.slen;have hlen:=x.args_.len;simp only[Query.args]at hlt;simp only[bO]at hK;refine⟨λ⟨i,ss,hx⟩=>i<=args.length/\PH.le h hx/\∃ks,Slices hx ss ks/\(args.take i).map (bO s ps)=ks.map (λk=>(k,0)),λ⟨i,_,_⟩=>args.length-i,⟨(0,[],h),⟨aC,.refl _,[],⟨rfl,λj s k h1=>by simp at h1⟩,by simp⟩,MT⟩,?_⟩;rintro⟨i,ss,hx⟩ ⟨hi,hle,ks,hS,hks⟩;have hkl:ks.length=i:=by have:=congrArg List.length hks;simp at this;omega
  have hsl:ss.length=i:=by rw[hS.1,hkl]
  dsimp only;refine aE (λhlt2=>?_) (λhge=>?_)
  .obtain⟨q',hq'⟩:=fD hl hlt2;obtain⟨b1,o1,u,ea1,r1,hru⟩:=(x.args_.mono hle).at hq';refine⟨b1,o1,ea1,aC,hlt2,u,.imm r1,sc,p,u,s,ps,q',rfl,hs.mono hle,h8,hp.mono hle,hru,?_,λsl h' hle' hi'=>aB (λh1=>?_) (λh1=>?_)⟩
   .have:=hlt (List.mem_of_getElem? hq');omega
   .have he:(bO s ps q').2≠0:=by simpa using h1
    rw[Ci he hks hq' rfl]at hK;exact hK.err (hle.trans hle') (if_neg he)
   .have he:(bO s ps q').2=0:=by simpa using h1
    refine⟨by simp;omega,by simp;omega,(i+1,ss++[sl],h'),⟨aC,hle.trans hle',ks++[(bO s ps q').1],(hS.mono hle').snoc hi',?_⟩,by show args.length-(i+1)<args.length-i;omega,?_⟩
    .rw[fO hq',hks,List.map_append];simp only[List.map_cons,List.map_nil];rw[<-he]
    .rw[List.map_append];exact MT
  .rw[List.take_of_length_le aC]at hks;rw[xO hks]at hK;simp only[if_true]at hK;have hK:KR K m h (vR s ps (.mk op ta w co on gr od li args) ks):=hK
   have hrep:∀(sl:Sl)(h':PH),PH.le hx h'->aX h' sl 1 (ss.map eS)->qL h' s ps (.mk op ta w co on gr od li args) ks ⟨sc,p,v,sl⟩:=λsl h' hle' hrow=>by
    refine⟨(hs.mono hle).mono hle',(hp.mono hle).mono hle',(hqr.mono hle).mono hle',⟨⟨ss,hrow,hS.1.symm,λj k hk=>?_⟩,aC⟩,λk hk=>?_⟩
    .have hj:j<ss.length:=by rw[hS.1];exact(List.getElem?_eq_some_iff.1 hk).1
     exact⟨ss[j],List.getElem?_eq_getElem hj,(hS.2 j _ _ (List.getElem?_eq_getElem hj) hk).mono hle'⟩
    .obtain⟨j,hj⟩:=List.mem_iff_getElem?.1 hk;have:=Gp hks j
     rwa [List.getD_eq_getElem?_getD,hj]at this
   have tail:∀(h':PH),PH.le hx h'->∀r,fin r=vR s ps (.mk op ta w co on gr od li args) ks->∀(sl:Sl)(h'':PH),PH.le h' h''->Ints h'' sl r.1->
    branch (r.2 !=0) (K (.tup [.val (.slice none 0 0),.val (.int .i64 r.2)]) m h'') (branch (decide ((sl.len:Int)>12)) (K (.tup [.val (.slice none 0 0),.val (.int .i64 2)]) m h'') (K (.tup [.val (.slice sl.a sl.len sl.cap),.val (.int .i64 0)]) m h'')):=by
    intro h' hle' r hr sl h'' hle2 hi';have hl3:PH.le h h'':=(hle.trans hle').trans hle2;rw[<-hr]at hK;have hsl:=hi'.slen;refine aB (λd1=>?_) (λd1=>aE (λd2=>?_) (λd2=>?_))
    .have d1:r.2≠0:=by simpa using d1
     exact hK.err hl3 (by unfold fin;rw[if_neg d1])
    .have d1:r.2=0:=by simpa using d1
     exact hK.big (l:=r.1) hl3 (by unfold fin;rw[if_pos d1]) aC
    .have d1:r.2=0:=by simpa using d1
     exact hK.ok (l:=r.1) hl3 (by unfold fin;rw[if_pos d1]) aC hi'.row
   refine⟨v.op,rfl,?_⟩;rw[e0];refine aB (λc1 sl h' hle' hrow=>⟨⟨sc,p,v,sl⟩,s,ps,_,ks,by rw[<-e0],hrep sl h' hle' hrow,h8,beq_iff_eq.1 c1,tail h' hle'⟩) (λc1=>?_);refine aB (λc2 sl h' hle' hrow=>⟨⟨sc,p,v,sl⟩,s,ps,_,ks,by rw[<-e0],hrep sl h' hle' hrow,h8,beq_iff_eq.1 c2,tail h' hle'⟩) (λc2=>?_);refine aB (λc3 sl h' hle' hrow=>⟨⟨sc,p,v,sl⟩,s,ps,_,ks,by rw[<-e0],hrep sl h' hle' hrow,h8,beq_iff_eq.1 c3,tail h' hle'⟩) (λc3=>?_);refine aB (λc4 sl h' hle' hrow=>⟨⟨sc,p,v,sl⟩,s,ps,_,ks,by rw[<-e0],hrep sl h' hle' hrow,h8,beq_iff_eq.1 c4,tail h' hle'⟩) (λc4=>?_);refine aB (λc5 sl h' hle' hrow=>⟨⟨sc,p,v,sl⟩,s,ps,_,ks,by rw[<-e0],hrep sl h' hle' hrow,h8,beq_iff_eq.1 c5,tail h' hle'⟩) (λc5=>?_);refine aB (λc6 sl h' hle' hrow=>⟨⟨sc,p,v,sl⟩,s,ps,_,ks,by rw[<-e0],hrep sl h' hle' hrow,h8,.inl (beq_iff_eq.1 c6),tail h' hle'⟩) (λc6=>?_);refine aB (λc7 sl h' hle' hrow=>⟨⟨sc,p,v,sl⟩,s,ps,_,ks,by rw[<-e0],hrep sl h' hle' hrow,h8,.inr (.inl (beq_iff_eq.1 c7)),tail h' hle'⟩) (λc7=>?_);refine aB (λc8 sl h' hle' hrow=>⟨⟨sc,p,v,sl⟩,s,ps,_,ks,by rw[<-e0],hrep sl h' hle' hrow,h8,.inr (.inr (beq_iff_eq.1 c8)),tail h' hle'⟩) (λc8=>?_);refine aB (λc9 sl h' hle' hrow=>⟨⟨sc,p,v,sl⟩,s,ps,_,ks,by rw[<-e0],hrep sl h' hle' hrow,h8,beq_iff_eq.1 c9,tail h' hle'⟩) (λc9=>?_);refine aB (λc10 sl h' hle' hrow=>⟨⟨sc,p,v,sl⟩,s,ps,_,ks,by rw[<-e0],hrep sl h' hle' hrow,h8,beq_iff_eq.1 c10,tail h' hle'⟩) (λc10=>hK.err hle ?_);refine sH λe=>?_;have:arity op= -1:=by simp only[arity];simp only[*,Bool.or_false,Bool.false_or,Bool.or_true,Bool.true_or,Bool.and_true,Bool.true_and,Bool.and_false,Bool.false_and,Bool.not_true,Bool.not_false,Bool.false_eq_true,if_true,if_false, ↓reduceIte]
   have:=e.1;simp only[Query.op]at this;omega
def fF:PV:=⟨0,0,dK,dK,⟨none,0,0⟩⟩
def cF(h:PH)(s:Sl)(l:List VV):Prop:=bU h 3 VV.enc Eq s l
theorem cF.mono{s:Sl}{l:List VV}(x:cF h s l)(le:PH.le h h'):cF h' s l:=bU.mono x le λ_ _ e=>e
def zK:QV:=⟨0,0,fF,⟨none,0,0⟩,⟨none,0,0⟩,⟨none,0,0⟩,⟨none,0,0⟩,0,⟨none,0,0⟩⟩
theorem Vf(l:List QV):dW 21 (l.map QV.enc):=by
 constructor
 .intro e he;obtain⟨x,_,rfl⟩:=List.mem_map.1 he;rfl
 .intro e he u hu;obtain⟨x,_,rfl⟩:=List.mem_map.1 he;simp[QV.enc]at hu;rcases hu with rfl|rfl|rfl|rfl|rfl|rfl|rfl|rfl|rfl|rfl|rfl|rfl|rfl|rfl|rfl|rfl|rfl|rfl|rfl|rfl|rfl<;>rfl
mutual
def UQ:Pred->Nat
 |.mk _ _ _ _ args=>1+FM args
def FM:List Pred->Nat
 |[]=>0
 |p::ps=>UQ p+FM ps
end
mutual
def RV:Pred->Nat
 |.mk _ _ _ _ args=>1+HD args
def HD:List Pred->Nat
 |[]=>0
 |p::ps=>max (RV p) (HD ps)
end
mutual
theorem Jl:∀(p:Pred)(n:Int),lQ p n<=n+UQ p
 |.mk _ _ _ _ args,n=>by
  have:=Hp args (n+1);simp only[lQ,UQ];omega
theorem Hp:∀(ps:List Pred)(n:Int),iY ps n<=n+FM ps
 |[],n=>by simp[iY,FM]
 |p::ps,n=>by
  have h1:=Jl p n;have h2:=Hp ps (lQ p n);simp only[iY,FM];split<;>omega
end
mutual
theorem HG:∀(p:Pred)(n:Nat),RV p<=n->kC p n=false
 |.mk _ _ _ _ args,0,h=>by simp only[RV]at h;omega
 |.mk _ _ _ _ args,n+1,h=>by
  simp only[RV]at h;simp only[kC];exact FJ args n aC
theorem FJ:∀(ps:List Pred)(n:Nat),HD ps<=n->pN ps n=false
 |[],_,_=>rfl
 |p::ps,n,h=>by
  simp only[HD]at h;simp only[pN,HG p n aC,FJ ps n aC,Bool.or_false]
end
def gF:Nat->Nat
 |0=>1
 |d+1=>1+3*gF d
structure Ki(d:Nat)(p:Pred):Prop where
 n:UQ p<=gF d
 d:RV p<=d+1
theorem Y3:∀d,1<=gF d
 |0=>Nat.le_refl _
 |d+1=>by rw[gF];omega
theorem Ki.leaf(d:Nat){op cmp:Int}{a b:OV}:Ki d (.mk op cmp a b []):=⟨by simp[UQ,FM,Y3],by simp[RV,HD]⟩
theorem Ki.node{d:Nat}{op cmp:Int}{a b:OV}{ps:List Pred}(h:∀p∈ps,Ki d p)(hl:ps.length<=3):Ki (d+1) (.mk op cmp a b ps):=by
 have h1:∀l:List Pred,(∀p∈l,Ki d p)->FM l<=l.length*gF d/\HD l<=d+1:=λl=>by
  induction l with
  |nil=>intro _;simp[FM,HD]
  |cons p l ih=>
   intro hp;have h2:=ih λx hx=>hp x (List.mem_cons_of_mem _ hx);have h3:=hp p (List.mem_cons_self ..);have:=h3.n;have:=h3.d;simp only[FM,HD,List.length_cons,Nat.add_mul,Nat.one_mul];omega
 have h2:=h1 ps h;have h3:ps.length*gF d<=3*gF d:=Nat.mul_le_mul_right _ hl;exact⟨by simp only[UQ,gF];omega,by simp only[RV];omega⟩
mutual
def sK:Query->Nat
 |.mk _ _ _ _ _ _ _ _ args=>1+oA args
def oA:List Query->Nat
 |[]=>0
 |q::qs=>sK q+oA qs
end
mutual
def Bw:Query->Nat
 |.mk _ _ _ _ _ _ _ _ args=>1+uV args
def uV:List Query->Nat
 |[]=>0
 |q::qs=>max (Bw q) (uV qs)
end
mutual
def lZ(c:Nat):Query->Nat
 |.mk op _ _ _ _ _ _ _ args=>if op=1 then c else if op=4 then u7 c args else vO c args
def vO(c:Nat):List Query->Nat
 |[]=>0
 |q::qs=>lZ c q+vO c qs
def u7(c:Nat):List Query->Nat
 |[]=>1
 |q::qs=>lZ c q*u7 c qs
end
mutual
theorem D2:∀(p:Query)(n:Int),nT p n<=n+sK p/\(nT p n<=24->nT p n=n+sK p)
 |.mk _ _ _ _ _ _ _ _ args,n=>by
  have:=Ho args (n+1);simp only[nT,sK];omega
theorem Ho:∀(ps:List Query)(n:Int),kT ps n<=n+oA ps/\(kT ps n<=24->kT ps n=n+oA ps)
 |[],n=>by simp[kT,oA]
 |p::ps,n=>by
  have h1:=D2 p n;have h2:=Ho ps (nT p n);simp only[kT,oA];split<;>omega
end
mutual
theorem HF:∀(p:Query)(n:Nat),Bw p<=n->lM p n=false
 |.mk _ _ _ _ _ _ _ _ args,0,h=>by simp only[Bw]at h;omega
 |.mk _ _ _ _ _ _ _ _ args,n+1,h=>by
  simp only[Bw]at h;simp only[lM];exact FH args n aC
theorem FH:∀(ps:List Query)(n:Nat),uV ps<=n->sI ps n=false
 |[],_,_=>rfl
 |p::ps,n,h=>by
  simp only[uV]at h;simp only[sI,HF p n aC,FH ps n aC,Bool.or_false]
end
theorem EA(h1:sK q<=24)(h2:Bw q<=8):kZ q=true:=by
 have:=(D2 q 0).1;simp only[kZ,Bool.and_eq_true,decide_eq_true_eq,HF q 8 h2,Bool.not_false,and_true];omega
theorem KN(h:kZ q=true):sK q<=24:=by
 simp only[kZ,Bool.and_eq_true,decide_eq_true_eq]at h;have:=(D2 q 0).2 h.1;omega
def gN:Nat->Nat
 |0=>3
 |d+1=>2+2*gN d
def gD:Nat->Nat
 |0=>3
 |d+1=>2+gD d
def gB:Nat->Nat
 |0=>4
 |d+1=>gB d*gB d
structure nH(n d b:Nat)(q:Query):Prop where
 n:sK q<=n
 d:Bw q<=d
 b:lZ 4 q<=b
def KI(d:Nat)(q:Query):Prop:=nH (gN d) (gD d) (gB d) q
def xV:Nat->Query->Prop
 |0,q=>nH 1 1 4 q
 |d+1,q=>nH (1+2*gN d) (1+gD d) (gB d*gB d) q
theorem nH.mono{n d n' d' b':Nat}(x:nH n d b q)(h1:n<=n')(h2:d<=d')(h3:b<=b'):nH n' d' b' q:=⟨Nat.le_trans x.n h1,Nat.le_trans x.d h2,Nat.le_trans x.b h3⟩
theorem y9:∀d,3<=gN d/\3<=gD d/\4<=gB d
 |0=>by decide
 |d+1=>by
  obtain⟨h1,h2,h3⟩:=y9 d;have:4*4<=gB d*gB d:=Nat.mul_le_mul h3 h3;simp only[gN,gD,gB];omega
theorem xV.arg:∀{d:Nat}{q:Query},xV d q->KI d q
 |0,_,x=>nH.mono x (by decide) (by decide) (by decide)
 |d+1,_,x=>nH.mono x (by simp only[gN];omega) (by simp only[gD];omega) (by simp only[gB];omega)
theorem nH.one{n d:Nat}(x:nH n d b q)(hb:4<=b){op:Int}{on:List (Int×Int)}:nH (n+1) (d+1) b (.mk op ta w co on gr od li [q]):=by
 obtain⟨h1,h2,h3⟩:=x;refine⟨by simp only[sK,oA];omega,by simp only[Bw,uV];omega,?_⟩;simp only[lZ,u7,vO];split
 .exact hb
 .split<;>omega
theorem nH.two{n d n' d' b':Nat}{p:Query}(x:nH n d b q)(y:nH n' d' b' p)(hb:4<=b)(hb':4<=b'){op:Int}{on:List (Int×Int)}:nH (1+n+n') (1+max d d') (b*b') (.mk op ta w co on gr od li [q,p]):=by
 obtain⟨h1,h2,h3⟩:=x;obtain⟨h4,h5,h6⟩:=y;have e1:b*4<=b*b':=Nat.mul_le_mul_left _ hb';have e2:4*b'<=b*b':=Nat.mul_le_mul_right _ hb;have e3:lZ 4 q*lZ 4 p<=b*b':=Nat.mul_le_mul h3 h6;refine⟨by simp only[sK,oA];omega,by simp only[Bw,uV];omega,?_⟩;simp only[lZ,u7,vO];split
 .omega
 .split
  .simpa using e3
  .omega
theorem nH.scan{on:List (Int×Int)}:nH 1 1 4 (.mk 1 ta w co on gr od li []):=⟨by simp[sK,oA],by simp[Bw,uV],by simp[lZ]⟩
theorem xV.node{d:Nat}{op:Int}{on:List (Int×Int)}{args:List Query}(h:∀a∈args,KI d a)(hl:args.length<=2):xV (d+1) (.mk op ta w co on gr od li args):=by
 have h4:=(y9 d).2.2;have e1:gB d*4<=gB d*gB d:=Nat.mul_le_mul_left _ h4
 match args,h,hl with
 |[],_,_=>exact⟨by simp only[sK,oA];omega,by simp only[Bw,uV];omega,by simp only[lZ,u7,vO];split;omega;split<;>omega⟩
 |[q],h,_=>exact nH.mono (nH.one (h q (by simp)) h4) (by have:=(y9 d).1;omega) aC aC
 |[q,p],h,_=>exact nH.mono (nH.two (h q (by simp)) (h p (by simp)) h4 h4) aC aC (Nat.le_refl _)
theorem xV.filter{d:Nat}(x:xV d q){op:Int}{on:List (Int×Int)}:KI d (.mk op ta w co on gr od li [q]):=by
 cases d with
 |zero=>exact nH.mono (nH.one x (by decide)) (by decide) (by decide) (by decide)
 |succ d=>
  have h4:=(y9 d).2.2;have e1:gB d*4<=gB d*gB d:=Nat.mul_le_mul_left _ h4;exact nH.mono (nH.one x aC) (by simp only[gN];omega) (by simp only[gD];omega) (by simp only[gB];omega)
theorem KI.three(d:Nat)(x:nH 3 3 4 q):KI d q:=nH.mono x (y9 d).1 (y9 d).2.1 (y9 d).2.2
theorem xV.mono{q:Query}:∀{d e:Nat},xV d q->d<=e->xV e q
 |d,0,x,h=>by have:d=0:=by omega
              subst this;exact x
 |d,e+1,x,h=>by
  by_cases h1:d=e+1
  .subst h1;exact x
  .have y:=xV.arg (x.mono (e:=e) aC);have h4:=(y9 e).2.2;have e1:gB e*1<=gB e*gB e:=Nat.mul_le_mul_left _ aC;exact nH.mono y aC aC aC
abbrev iC(a:MH)(b:PH)(c d:Nat)(e:Sl->Prop):Prop:=∃(x:Sl),aL a b c d (aU x)/\e x
noncomputable abbrev BF(a:Int):Value:=Value.int IntKind.u8 a
abbrev jO(a:Prop):Prop:=a->False
attribute [push_cast] iC BF jO
def PB(cb:Nat)(n:Int)(m:MH)(h:PH)(K:CV->MH->PH->Prop):Prop:=
  tT m h cb 1 (λy=>iC m h cb 0 (λy1=>fU y (aG y1) (K (eD 0) m h) (aZ n 1 (K (eD 0) m h) (tT m h cb 1 (λy2=>oJ m cb 1 (cL (dX (y2+1))) (λm1=>iC m1 h cb 0 (λy3=>∃(y4:Int),aL m1 h cb 1 (cL y4)/\aR (λb o=>aA (aT y3.a b o) (0<=dX (y4-1)) (dX (y4-1)<aG y3/\∃(y5:UInt8),aA (aL m1 h b (fQ o (dX (y4-1)) 1) (iO (BF (sC y5)))) (jO (n=0)) (K (eD (Int.tmod (dX (sC y5)) n)) m1 h))))))))))
theorem Za(cb:Nat)(n:Int)(m:MH)(h:PH)(K:CV->MH->PH->Prop):PB cb n m h K=(Am (ctx [] [] [] [] false) Tryz.f15 (dJ Tryz.f15) (entry 40 [.val (.pointer (some ⟨cb,0,none⟩)),.val (.int .i64 n)] m h) K):=by kernel_rfl
def Yp:Vc.Spec:=λcvs m h K=>∃(cb:Nat)(n:Int)(r:List UInt8),cvs=[.val (.pointer (some ⟨cb,0,none⟩)),.val (.int .i64 n)]/\Sf m h cb r/\
 ∀m',bB m m' cb->Sf m' h cb (PX n r).2->K (.val (.int .i64 (PX n r).1)) m' h
theorem K9:Sound Tryz.prog 15 Yp:=by
 refine eG (fn:=Tryz.f15) (c:=dJ Tryz.f15) Tryz.func15 rfl (by decide) ?_;rintro cvs m h K ⟨cb,n,r,rfl,⟨s,cs,k,hm,hrow,hk,hlen,rfl⟩,hK⟩;refine⟨ctx [] [] [] [] false,rfl,aF,?_⟩;show Am (ctx [] [] [] [] false) Tryz.f15 (dJ Tryz.f15) (entry 40 [.val (.pointer (some ⟨cb,0,none⟩)),.val (.int .i64 n)] m h) K;rw[<-Za];dsimp only[PB,push_cast];have hsl:s.len=cs.length:=by have:=hrow.len;simpa[bH]using this
 refine⟨k,.of_m hm rfl,s,.of_m hm rfl,aE (λhge=>?_) (λhlt=>aE (λhn=>?_) (λhn=>?_))⟩
 .have hd:cs.drop k=[]:=by simp;omega
  rw[hd]at hK;exact hK m ⟨λ_ _=>rfl⟩ ⟨s,cs,k,hm,hrow,hk,hlen,by rw[hd];rfl⟩
 .have hk':k<cs.length:=by omega
  have hd:cs.drop k=cs[k]::cs.drop (k+1):=List.drop_eq_getElem_cons hk';rw[hd]at hK;simp only[PX,if_pos hn]at hK;refine hK m ⟨λ_ _=>rfl⟩ ⟨s,cs,k,hm,hrow,hk,hlen,hd.symm⟩
 .have hk':k<cs.length:=by omega
  have hd:cs.drop k=cs[k]::cs.drop (k+1):=List.drop_eq_getElem_cons hk';rw[hd]at hK;simp only[PX,if_neg hn]at hK;have hw:IntKind.i64.wrap ((k:Int)+1)=((k+1:Nat):Int):=by rw[eC]<;>omega
  have hw2:IntKind.i64.wrap (((k+1:Nat):Int)-1)=(k:Int):=by rw[eC]<;>omega
  refine⟨k,.of_m hm rfl,_,_,⟨hm⟩,by simp,λm' hu=>?_⟩;have hm':=hu.at_;rw[hw]at hm';simp only[splice]at hm';obtain hnil|⟨b,o,ha,hrd⟩:=hrow.row
  .exfalso;have:=congrArg List.length hnil;simp[bH]at this;subst this;simp at hk'
  refine⟨s,.of_m hm' rfl,((k+1:Nat):Int),.of_m hm' rfl,b,o,ha,?_⟩;rw[hw2];refine⟨aC,aC,cs[k],.imm ?_,aC,?_⟩
  .have:=hrd k [.int .u8 cs[k].toNat] (by simp[bH,hk']);simpa using this
  .have hlt:cs[k].toNat<256:=cs[k].toNat_lt;rw[eC aC aC,Int.tmod_eq_emod_of_nonneg aC];refine hK m' ⟨hu.other⟩ ⟨s,cs,k+1,hm',hrow,aC,hlen,rfl⟩
def aK(m:MH)(h:PH)(cb:Nat):Prop:=∃r,Sf m h cb r
theorem aK.mono(x:aK m h cb)(le:PH.le h h'):aK m h' cb:=by
 obtain⟨r,s,cs,k,h1,h2,h3⟩:=x;exact⟨r,s,cs,k,h1,h2.mono le,h3⟩
theorem bB.refl(m:MH)(cb:Nat):bB m m cb:=⟨λ_ _=>rfl⟩
theorem bB.trans{m'':MH}(a:bB m m' cb)(b:bB m' m'' cb):bB m m'' cb:=⟨λc hc=>(b.other c hc).trans (a.other c hc)⟩
def NG(n:Int):Prop:= -9223372036854775808<=n/\n<=9223372036854775807
structure HS(v:VV):Prop where
 int_:NG v.int
 text_:v.text.size<=64
def Yo(k:Int):Prop:=k=3\/k=4\/k=5
def Tq(k:Int)(v:VV):Prop:=Yo k->jL v=true/\v.kind=k
def FX:Vc.Spec:=λcvs m h K=>∃cb n,cvs=[cP cb,cI n]/\aK m h cb/\∀k m',0<=k->(k<n\/k=0)->bB m m' cb->aK m' h cb->K (cI k) m' h
def Ku:Vc.Spec:=λcvs m h K=>∃cb n,cvs=[cP cb,cI n]/\0<=n/\n<=1000/\aK m h cb/\∀r m',bB m m' cb->aK m' h cb->K (cB r) m' h
def Tl:Vc.Spec:=λcvs m h K=>∃cb,cvs=[cP cb]/\aK m h cb/\∀k m',NG k->bB m m' cb->aK m' h cb->K (cI k) m' h
def Yx:Vc.Spec:=λcvs m h K=>∃cb,cvs=[cP cb]/\aK m h cb/\∀t m',t.size<=64->bB m m' cb->aK m' h cb->K (Nl t) m' h
def Nx:Vc.Spec:=λcvs m h K=>∃cb kind,cvs=[cP cb,cI kind]/\aK m h cb/\∀v m',HS v->Tq kind v->bB m m' cb->aK m' h cb->K (aV v) m' h
theorem Gs:Sound Tryz.prog 15 FX:=by
 refine⟨K9.1,λcvs vs m h w K hS hp=>K9.2 cvs vs m h w K ?_ hp⟩;obtain⟨cb,n,rfl,⟨r,hr⟩,hK⟩:=hS;refine⟨cb,n,r,rfl,hr,λm' ho hc=>hK _ m' ?_ ?_ ho ⟨_,hc⟩⟩
 .cases r with
  |nil=>simp[PX]
  |cons b r=>
   simp only[PX];split
   .simp
   .exact Int.emod_nonneg _ aC
 .cases r with
  |nil=>simp[PX]
  |cons b r=>
   simp only[PX];split
   .simp
   .exact .inl (Int.emod_lt_of_pos _ aC)
noncomputable def Wc(h:PH):Ctx:=
 dL [(15,FX)] [(18,{A:=Nat×ByteArray×MH,st:=λ⟨i,t,m⟩=>cD 37 38 [(3,vv (.string t)),(4,iv i)] [] m h}),(23,{A:=Nat×ByteArray×MH,st:=λ⟨i,t,m⟩=>cD 37 38 [(3,vv (.string t)),(5,iv i)] [] m h})] [] [] false
abbrev fZ(a:Nat)(b:Int)(c:Nat->Option Obj)(d:Nat->Nat->Option Value)(e:Int->MH->Prop):Prop:=∃(x:Nat)(x1:Int),aA (cJ (Bx a 0) b=cJ (Bx x 0) x1) (aK c d x) (∀(x2:Int)(x3:MH),aM (cA x2) (x2<x1\/x2=0) (aM (bB c x3 x) (aK x3 d x) (e x2 x3)))
attribute [push_cast] fZ
def Pz(cb:Nat)(n:Int)(m:MH)(h:PH)(K:CV->MH->PH->Prop):Prop:=
  fZ cb n m h (λk m1=>K (By (k==dX (n-1))) m1 h)
def L4(cb:Nat)(m:MH)(h:PH)(K:CV->MH->PH->Prop):Prop:=
  fZ cb 12 m h (λk m1=>cT (k==9) (K (eD (Int.negSucc 0)) m1 h) (k==10) (K (eD 9223372036854775807) m1 h) (dH k 11 (K (eD (Int.negSucc 9223372036854775807)) m1 h) (jO ((4:Int)=0)/\K (eD (Int.tmod k 4)) m1 h)))
noncomputable abbrev fL(a:Nat)(b:List UInt8):List UInt8:=OfNat.ofNat a::b
noncomputable abbrev qD(a:Nat):List UInt8:=fL a []
attribute [push_cast] fL qD
def L3(cb:Nat)(m:MH)(h:PH)(K:CV->MH->PH->Prop):Prop:=
  fZ cb 10 m h (λk m1=>cT (k==0) (K (iU (ByteArray.mk (Array.mk (qD 97)))) m1 h) (k==1) (K (iU (ByteArray.mk (Array.mk (qD 97)))) m1 h) (cT (k==2) (K (iU (ByteArray.mk (Array.mk (qD 97)))) m1 h) (k==3) (K (iU (ByteArray.mk (Array.mk (qD 98)))) m1 h) (cT (k==4) (K (iU (ByteArray.mk (Array.mk (qD 98)))) m1 h) (k==5) (K (CV.val Sj) m1 h) (cT (k==6) (K (iU (ByteArray.mk (Array.mk (fL 97 (fL 0 []))))) m1 h) (k==7) (K (iU (ByteArray.mk (Array.mk (qD 255)))) m1 h) (dH k 8 (∃(I:Nat×ByteArray×MH->Prop)(m2:Nat×ByteArray×MH->Nat),(∃(x:Nat×ByteArray×MH),aA (I x) (SV.at Ns=SV.at (Nt x.2.1)) (aA (bD x.1) (m1=x.2.2) (cQ h h)))/\∀(x:Nat×ByteArray×MH),I x->aZ (↑x.1:Int) 64 (x.2.1.size<9223372036854775807/\∃(x1:Nat×ByteArray×MH),aA (I
 x1) (m2 x1<m2 x) (aA (SV.at (Nt (x.2.1++ByteArray.mk (Array.mk (qD 255))))=SV.at (Nt x1.2.1)) (fN (bG x.1 1)=bV x1.1) (dQ x.2.2 x1.2.2 h h))) (K (iU x.2.1) x.2.2 h)) (∃(I:Nat×ByteArray×MH->Prop)(m2:Nat×ByteArray×MH->Nat),(∃(x:Nat×ByteArray×MH),aA (I x) (SV.at Ns=SV.at (Nt x.2.1)) (aA (bD x.1) (m1=x.2.2) (cQ h h)))/\∀(x:Nat×ByteArray×MH),I x->aZ (↑x.1:Int) 64 (x.2.1.size<9223372036854775807/\∃(x1:Nat×ByteArray×MH),aA (I x1) (m2 x1<m2 x) (aA (SV.at (Nt (x.2.1++ByteArray.mk (Array.mk (qD 98))))=SV.at (Nt x1.2.1)) (fN (bG x.1 1)=bV x1.1) (dQ x.2.2 x1.2.2 h h))) (K (iU x.2.1) x.2.2 h)))))))
abbrev jG(a:MH)(b:PH)(c:Nat)(d:Prop):Prop:=aK a b c->d
attribute [push_cast] jG
def O5(cb:Nat)(kind:Int)(m:MH)(h:PH)(K:CV->MH->PH->Prop):Prop:=
  cT (kind==3) (fZ cb 2 m h (λk m1=>K (lF (aJ (dO kind) (dO k) xH)) m1 h)) (kind==4) (∃(c:Nat),aA (jW (iL cb)=jW (iL c)) (aK m h c) (∀(k:Int)(m1:MH),aM (NG k) (bB m m1 c) (jG m1 h c (K (lF (aJ (dO kind) (dO k) xH)) m1 h)))) (∃(c:Nat),aA (jW (iL cb)=jW (iL c)) (aK m h c) (∀(t:ByteArray)(m1:MH),aM (t.size<=64) (bB m m1 c) (jG m1 h c (K (lF (aJ (dO 5) bC (iO (Value.string t)))) m1 h))))
theorem Y9{n:Int}(hc:aK m h cb)(hK:∀r m',bB m m' cb->aK m' h cb->K (cB r) m' h):Pz cb n m h K:=
 ⟨cb,n,rfl,hc,λ_ m' _ _ ho hc'=>hK _ m' ho hc'⟩
theorem D3:B8 ⟨#[]⟩=true:=by simp[B8,ByteArray.toList_eq]
theorem YS{k:Int}(h0:0<=k)(h1:k<2\/k=0):jL ⟨3,k,⟨#[]⟩⟩=true:=by
 have:k=0\/k=1:=by omega
 rcases this with rfl|rfl<;>simp[jL,D3]
theorem U5(k:Int):jL ⟨4,k,⟨#[]⟩⟩=true:=by simp[jL,D3]
theorem YR{t:ByteArray}(h:t.size<=64):jL ⟨5,0,t⟩=true:=by
 simp[jL];omega
theorem wY:Sound Tryz.prog 16 Ku:=by
 refine iB Tryz.func16 ?_;rintro cvs m h K ⟨cb,n,rfl,_,_,hc,hK⟩;refine⟨dL [(15,FX)] [] [] [] false,rfl,aD Gs aF,Pz cb n m h K,by kernel_rfl,?_⟩;exact Y9 hc hK
theorem RO:Sound Tryz.prog 108 Tl:=by
 refine iB Tryz.func108 ?_;rintro cvs m h K ⟨cb,rfl,hc,hK⟩;refine⟨dL [(15,FX)] [] [] [] false,rfl,aD Gs aF,L4 cb m h K,by kernel_rfl,?_⟩;dsimp only[L4,push_cast];refine⟨cb,12,rfl,hc,λk m' h0 h1 ho hc'=>aB (λ_=>hK _ m' ⟨aC,aC⟩ ho hc') (λ_=>aB (λ_=>hK _ m' ⟨aC,aC⟩ ho hc') (λ_=>aB (λ_=>hK _ m' ⟨aC,aC⟩ ho hc') (λ_=>⟨aC,hK _ m' ?_ ho hc'⟩)))⟩;rw[Int.tmod_eq_emod_of_nonneg h0];exact⟨aC,aC⟩
theorem RN:Sound Tryz.prog 109 Yx:=by
 refine iB Tryz.func109 ?_;rintro cvs m h K ⟨cb,rfl,hc,hK⟩;refine⟨Wc h,rfl,aD Gs aF,L3 cb m h K,by kernel_rfl,?_⟩;dsimp only[L3,push_cast];refine⟨cb,10,rfl,hc,λk m' h0 h1 ho hc'=>?_⟩;refine aB (λ_=>hK _ m' (by decide) ho hc') (λ_=>aB (λ_=>hK _ m' (by decide) ho hc') (λ_=>aB (λ_=>hK _ m' (by decide) ho hc') (λ_=>aB (λ_=>hK _ m' (by decide) ho hc') (λ_=>aB (λ_=>hK _ m' (by decide) ho hc') (λ_=>aB (λ_=>hK _ m' (by decide) ho hc') (λ_=>aB (λ_=>hK _ m' (by decide) ho hc') (λ_=>aB (λ_=>hK _ m' (by decide) ho hc') (λ_=>aB (λ_=>?_) (λ_=>?_)))))))))
 all_goals
  refine⟨λ⟨i,t,mx⟩=>mx=m'/\i<=64/\t.size=i,λ⟨i,_,_⟩=>64-i,⟨(0,⟨#[]⟩,m'),⟨rfl,aC,rfl⟩,MT⟩,?_⟩;rintro⟨i,t,m'⟩ ⟨rfl,hi,ht⟩;dsimp only;refine aE (λhlt=>⟨?_,(i+1,_,m'),⟨rfl,aC,?_⟩,by show 64-(i+1)<64-i;omega,MT⟩) (λhge=>hK t m' aC ho hc')
  .rw[ht];show i+1<=_;omega
  .rw[ByteArray.size_append,ht];rfl
theorem Gw:Sound Tryz.prog 77 Nx:=by
 refine iB Tryz.func77 ?_;rintro cvs m h K ⟨cb,kind,rfl,hc,hK⟩;refine⟨dL [(15,FX),(108,Tl),(109,Yx)] [] [] [] false,rfl,aD Gs (aD RO (aD RN aF)),O5 cb kind m h K,by kernel_rfl,?_⟩;dsimp only[O5,push_cast];refine aB (λe=>⟨cb,2,rfl,hc,λk m' h0 h1 ho hc'=>hK ⟨kind,k,⟨#[]⟩⟩ m' ⟨⟨by show-9223372036854775808<=k;omega,by show k<=9223372036854775807;omega⟩,by show(ByteArray.mk #[]).size<=64;decide⟩ (λ_=>?_) ho hc'⟩) (λe1=>aB (λe=>⟨cb,rfl,hc,λk m' hk ho hc'=>hK ⟨kind,k,⟨#[]⟩⟩ m' ⟨hk,by show(ByteArray.mk #[]).size<=64;decide⟩ (λ_=>?_) ho hc'⟩) (λe2=>⟨cb,rfl,hc,λt m' ht ho hc'=>hK ⟨5,0,t⟩ m' ⟨⟨by simp,by simp⟩,ht⟩ (λhk=>?_) ho hc'⟩))
 .have e:kind=3:=by simpa using e
  subst e;exact⟨YS h0 h1,rfl⟩
 .have e:kind=4:=by simpa using e
  subst e;exact⟨U5 k,rfl⟩
 .have e1:kind≠3:=by simpa using e1
  have e2:kind≠4:=by simpa using e2
  exact⟨YR ht,by rcases hk with hk|hk|hk;exact absurd hk e1;exact absurd hk e2;exact hk.symm⟩
mutual
def FV:Pred->Prop
 |.mk _ _ l r args=>HS l.value/\HS r.value/\Km args
def Km:List Pred->Prop
 |[]=>True
 |p::ps=>FV p/\Km ps
end
theorem Kl:∀{l:List Pred},Km l↔∀p∈l,FV p
 |[]=>by simp[Km]
 |p::ps=>by simp[Km,Kl (l:=ps)]
theorem mU:HS zeroV:=⟨⟨by decide,by decide⟩,by decide⟩
structure P7(cols params:List Int)(kind:Int)(o:OV):Prop where
 val:HS o.value
 kind:Yo kind->kindOf cols params o=kind
def FZ(l:List Int):Prop:=∀k∈l,Yo k
structure PW(cols params:List Int)(d:Nat)(p:Pred):Prop where
 vals:FV p
 valid:FZ cols->iS cols params p=true
 siz:Ki d p
def P6:Vc.Spec:=λcvs m h K=>∃cb s t kind cols params,cvs=[cP cb,cS s,cS t,cI kind]/\aK m h cb/\Ints h s cols/\Ints h t params/\cols.length<=1000/\params.length<=1000/\∀o m',P7 cols params kind o->bB m m' cb->aK m' h cb->K (aO o) m' h
def KP(K:CV->MH->PH->Prop)(m:MH)(h:PH)(cb:Nat)(R:Pred->Prop):Prop:=∀v p m' h',PH.le h h'->dZ h' p v->R p->bB m m' cb->aK m' h' cb->K (aP v) m' h'
def Ws(N:Nat):Vc.Spec:=λcvs m h K=>∃cb s t cols params,∃deep:Nat,cvs=[cP cb,cS s,cS t,cI deep]/\aK m h cb/\Ints h s cols/\Ints h t params/\cols.length<=1000/\params.length<=1000/\deep<N/\deep<=1000/\KP K m h cb (PW cols params deep)
structure sM(cols params:List Int)(d:Nat)(p:Pred):Prop where
 vals:FV p
 valid:d<=2->FZ cols->FZ params->gI cols params p=0
def xU:Vc.Spec:=λcvs m h K=>∃cb s t cols params,∃deep:Nat,cvs=[cP cb,cS s,cS t,cI deep]/\aK m h cb/\Ints h s cols/\Ints h t params/\cols.length<=1000/\params.length<=1000/\deep<=1000/\KP K m h cb (sM cols params deep)
def pv(b:Nat):SV:=vv (.pointer (some ⟨b,0,none⟩))
noncomputable def Xq(cb:Nat)(s t:Sl)(kind:Int)(m:MH)(h:PH):Ctx:=
 dL [(15,FX),(77,Nx)] [(3,{A:=Nat×List OV,st:=λ⟨i,os⟩=>cD 64 68 [(0,pv cb),(2,sv t),(3,iv kind),(8,.at (.ptr 8 0)),(9,.at (.lst 29)),(15,sv s),(16,iv s.len),(17,iv i)] [(8,.cells 29 (dK.enc.map .val)),(29,.lst 29 5 (os.map OV.enc))] m h}),
  (9,{A:=Nat×List OV,st:=λ⟨i,os⟩=>cD 64 68 [(0,pv cb),(3,iv kind),(8,.at (.ptr 8 0)),(9,.at (.lst 29)),(31,sv t),(32,iv t.len),(33,iv i)] [(8,.cells 29 (dK.enc.map .val)),(29,.lst 29 5 (os.map OV.enc))] m h})] [] [] false
noncomputable def XD(N:Nat)(cb:Nat)(s t:Sl)(deep:Nat)(h0:PH):Ctx:=
 dL [(15,FX),(16,Ku),(96,P6),(77,Nx),(68,Ws N)] [(18,{A:=Int×Int×List PV×MH×PH,st:=λ⟨op,n,us,m,h⟩=>cD 107 111 [(0,pv cb),(1,sv s),(2,sv t),(3,iv deep),(8,.at (.ptr 8 0)),(12,.at (.ptr 12 0)),(13,iv n)] [(8,.cells 32 (fF.enc.map .val)),(12,.cells 32 (((⟨op,0,dK,dK,⟨none,0,0⟩⟩:PV).enc.take 12).map .val++[.lst 104])),(104,.lst 32 13 (us.map PV.enc))] m h})] [(3,{A:=Int×Bool×MH,st:=λ⟨k,b,m⟩=>cD 107 111 [(0,pv cb),(1,sv s),(2,sv t),(3,iv deep),(8,.at (.ptr 8 0)),(9,iv k),(16,bv b)] [(8,.cells 32 (fF.enc.map .val))] m h0}),
  (5,{A:=Int×Bool×MH,st:=λ⟨k,b,m⟩=>cD 107 111 [(0,pv cb),(1,sv s),(2,sv t),(3,iv deep),(8,.at (.ptr 8 0)),(9,iv k),(27,bv b)] [(8,.cells 32 (fF.enc.map .val))] m h0}),
  (8,{A:=Int×MH,st:=λ⟨k,m⟩=>cD 107 111 [(0,pv cb),(1,sv s),(2,sv t),(8,.at (.ptr 8 0)),(10,iv k)] [(8,.cells 32 (fF.enc.map .val))] m h0}),
  (9,{A:=PV×Int×MH,st:=λ⟨p,k,m⟩=>cD 107 111 [(0,pv cb),(1,sv s),(2,sv t),(8,.at (.ptr 8 0)),(10,iv k),(11,.at (.ptr 11 0))] [(8,.cells 32 (fF.enc.map .val)),(11,.cells 32 (p.enc.map .val))] m h0}),
  (11,{A:=PV×MH,st:=λ⟨p,m⟩=>cD 107 111 [(0,pv cb),(8,.at (.ptr 8 0)),(11,.at (.ptr 11 0))] [(8,.cells 32 (fF.enc.map .val)),(11,.cells 32 (p.enc.map .val))] m h0}),
  (13,{A:=PV×MH,st:=λ⟨p,m⟩=>cD 107 111 [(8,.at (.ptr 8 0)),(11,.at (.ptr 11 0))] [(8,.cells 32 (fF.enc.map .val)),(11,.cells 32 (p.enc.map .val))] m h0})] [] false
noncomputable abbrev zX(a:Int)(b:List At):List At:=dU (fP a) (fP 0) (dU (fP 0) (fP 0) b)
abbrev AW:Prop:=eQ (oQ 29 (zX 0 (pJ Ns)))
noncomputable abbrev nA(a:Nat×List OV):List (List Value):=List.map OV.enc a.2
abbrev Fc(a b:Nat×List OV):Prop:=fN (bG a.1 1)=bV b.1
abbrev A8(a:Nat)(b:Int)(c:Nat->Option Obj)(d:Nat->Nat->Option Value)(e:VV->MH->Prop):Prop:=∃(x:Nat)(x1:Int),aA (cJ (Bx a 0) b=cJ (Bx x 0) x1) (aK c d x) (∀(x2:VV)(x3:MH),aM (HS x2) (Tq x1 x2) (aM (bB c x3 x) (aK x3 d x) (e x2 x3)))
attribute [push_cast] zX AW nA Fc A8
def OR(cb:Nat)(s t:Sl)(kind:Int)(m:MH)(h:PH)(K:CV->MH->PH->Prop):Prop:=
  ∃(I:Nat×List OV->Prop)(m1:Nat×List OV->Nat),(∃(x:Nat×List OV),aA (I x) (cV cb) (aA (aI t) (eQ (fN kind)) (aA fI (eL 29) (aA (aI s) (bL s) (aA (bD x.1) AW (aA (Option.some (Own.lst 29 5 [])=Option.some (Own.lst 29 5 (nA x))) (m=m) (cQ h h)))))))/\∀(x:Nat×List OV),I x->aZ (↑x.1:Int) (aG s) (aR (λb o=>aA (aT s.a b o) (0<=(↑x.1:Int)) ((↑x.1:Int)<aG s/\∃(y:Int),aL m h b (bA o x.1 1) (cL y)/\dH y kind (nO (nA x) 48 (∃(x1:Nat×List OV),aA (I x1) (m1 x1<m1 x) (aA (cV cb) (aI t) (aA (eQ (fN kind)) fI (aA (eL 29) (aI s) (aA (bL s) (Fc x x1) (aA AW (Option.some (Own.lst 29 5 (nA x++fE (aJ (dO 1) (dO (↑x.1:Int)) (aJ bC bC xH))))=Option.some (Own.lst 29 5 (nA x1))) (dQ m m h
 h)))))))) (∃(x1:Nat×List OV),aA (I x1) (m1 x1<m1 x) (aA (cV cb) (aI t) (aA (eQ (fN kind)) fI (aA (eL 29) (aI s) (aA (bL s) (Fc x x1) (aA AW (Option.some (Own.lst 29 5 (nA x))=Option.some (Own.lst 29 5 (nA x1))) (dQ m m h h)))))))))) (∃(I1:Nat×List OV->Prop)(m2:Nat×List OV->Nat),(∃(x1:Nat×List OV),aA (I1 x1) (cV cb) (aA (eQ (fN kind)) fI (aA (eL 29) (aI t) (aA (bL t) (bD x1.1) (aA AW (Option.some (Own.lst 29 5 (nA x))=Option.some (Own.lst 29 5 (nA x1))) (aA (m=m) (h=h) True))))))/\∀(x1:Nat×List OV),I1 x1->aZ (↑x1.1:Int) (aG t) (aR (λb o=>aA (aT t.a b o) (0<=(↑x1.1:Int)) ((↑x1.1:Int)<aG t/\∃(y:Int),aL m h b (bA o x1.1 1) (cL y)/\dH y kind (nO (nA x1) 48 (∃(x2:Nat×List OV),aA (I1 x2)
 (m2 x2<m2 x1) (aA (cV cb) (eQ (fN kind)) (aA fI (eL 29) (aA (aI t) (bL t) (aA (Fc x1 x2) AW (aA (Option.some (Own.lst 29 5 (nA x1++fE (aJ (dO 2) (dO (↑x1.1:Int)) (aJ bC bC xH))))=Option.some (Own.lst 29 5 (nA x2))) (m=m) (cQ h h)))))))) (∃(x2:Nat×List OV),aA (I1 x2) (m2 x2<m2 x1) (aA (cV cb) (eQ (fN kind)) (aA fI (eL 29) (aA (aI t) (bL t) (aA (Fc x1 x2) AW (aA (Option.some (Own.lst 29 5 (nA x1))=Option.some (Own.lst 29 5 (nA x2))) (m=m) (cQ h h)))))))))) (fZ cb (bG (nA x1).length 1) m h (λk m3=>aZ k (kL (nA x1)) (aA (cA k) (k<kL (nA x1)) (∃(e:List Value),uK (nA x1) k.toNat e/\∃(y:OV),Di 5 0 e y.enc/\K (lF y.enc) m3 h)) (A8 cb kind m3 h (λv m4=>K (lF (aJ (dO 3) bC
 (aJ (dO v.kind) (dO v.int) (iO (Value.string v.text))))) m4 h)))))
abbrev kA(a:Nat)(b:Int)(c:Nat->Option Obj)(d:Nat->Nat->Option Value)(e:Nat->Bool->Prop):Prop:=∃(x:Nat)(x1:Int),aA (cJ (Bx a 0) b=cJ (Bx x 0) x1) (cA x1) (aA (x1<=1000) (aK c d x) (∀(x2:Bool),e x x2))
abbrev rZ:Prop:=eQ (oQ 32 zP)
abbrev ET(a:Int×Bool×MH->Prop)(b:Nat)(c d:Sl)(e:Nat)(g:Int)(i:(Int×Bool×MH)->Prop)(j:Nat->Option Obj)(k:PH):Prop:=∃(x:Int×Bool×MH),aA (a x) (cV b) (aA (aI c) (aI d) (aA (eQ (bV e)) fI (aA (cG g x.1) (i x) (cO rZ j x.2.2 k k))))
abbrev mL(a:Nat):Prop:=a<=1000
abbrev jI(a:List Int):Prop:=mL a.length
noncomputable abbrev Df(a:OV):At:=Nt a.value.text
abbrev zW(a:PV->Pred->Prop):Prop:=∀(x:PV)(x1:Pred),a x x1
abbrev eT(a:MH->PH->Prop):Prop:=∀(x:MH)(x1:PH),a x x1
abbrev EU(a:List CV)(b:MH)(c:PH)(d:Nat)(e:PV->MH->PH->Prop):Prop:=∃(x:Nat),iN (λx1 x2=>nK (λx3 x4=>∃(x5:Nat),aA (a=Bx x 0::dN x1::hX x2 (↑x5:Int)) (aK b c x) (aA (Ints c x1 x3) (Ints c x2 x4) (aA (jI x3) (jI x4) (aA (x5<d) (mL x5) (zW (λx6 x7=>eT (λx8 x9=>bE c x9 (dZ x9 x7 x6) (aM (PW x3 x4 x5 x7) (bB b x8 x) (jG x8 x9 x (e x6 x8 x9)))))))))))
noncomputable abbrev De(a:Int×Int×List PV×MH×PH):List (List Value):=List.map PV.enc a.2.2.1
abbrev cH(a:Nat->Option Obj)(b:MH×PH):Prop:=a=b.1
noncomputable abbrev yU(a:Int×Int×List PV×MH×PH):MH×PH:=a.2.2.2
abbrev eJ(a:PH)(b:MH×PH):Prop:=a=b.2
abbrev j3(a:Nat->Nat->Option Value)(b:MH×PH):Prop:=eJ a b/\True
abbrev jE(a:Nat->Option Obj)(b:MH×PH)(c:PH):Prop:=aA (cH a b) (eJ c b) True
attribute [push_cast] kA rZ ET mL jI Df zW eT EU De cH yU eJ j3 jE
def O9(N:Nat)(cb:Nat)(s t:Sl)(deep:Nat)(m:MH)(h:PH)(K:CV->MH->PH->Prop):Prop:=
  fZ cb 9 m h (λk m1=>∃(I:Int×Bool×MH->Prop),dH k 0 (kA cb 2 m1 h (λc r=>∀(m2:MH),aM (bB m1 m2 c) (aK m2 h c) (ET I cb s t deep k (λx=>gR r x.2.1) m2 h))) (ET I cb s t deep k (λx=>AQ x.2.1) m1 h)/\∀(x:Int×Bool×MH),fT (I x) x.2.1 (fZ cb 2 x.2.2 h (λk1 m2=>K (lF (aJ (dO (dX (1+k1))) bC (aJ bC bC (aJ bC bC (aJ Sj bC (aJ bC bC (aJ bC Sj iD))))))) m2 h)) (∃(I1:Int×Bool×MH->Prop),aZ x.1 6 (ET I1 cb s t deep x.1 (λx1=>vC x1.2.1) x.2.2 h) (ET I1 cb s t deep x.1 (λx1=>gR (decide ((↑deep:Int)<1)) x1.2.1) x.2.2 h)/\∀(x1:Int×Bool×MH),I1 x1->cT x1.2.1 (∃(I2:Int×MH->Prop),eF (aG s) 0 (fZ cb (aG s) x1.2.2 h (λk1 m2=>aR (λb o=>aA (aT s.a b o) (0<=k1) (k1<
 aG s/\∃(y:Int),aL m2 h b (fQ o k1 1) (cL y)/\∃(x2:Int×MH),aA (I2 x2) (cV cb) (aA (aI s) (aI t) (aA fI (cG y x2.1) (aA rZ (m2=x2.2) (cQ h h)))))))) (∃(x2:Int×MH),aA (I2 x2) (cV cb) (aA (aI s) (aI t) (aA fI (cG 4 x2.1) (aA rZ (x1.2.2=x2.2) (cQ h h)))))/\∀(x2:Int×MH),I2 x2->∃(I3:PV×Int×MH->Prop),fZ cb 6 x2.2 h (λk1 m2=>∃(c:Nat),iN (λs1 t1=>∃(k2:Int),nK (λc1 p=>aA (Bx cb 0::dN s::hX t x2.1=Bx c 0::dN s1::hX t1 k2) (aK m2 h c) (aA (Ints h s1 c1) (Ints h t1 p) (aA (jI c1) (jI p) (∀(o:OV)(m3:MH),aM (P7 c1 p k2 o) (bB m2 m3 c) (jG m3 h c (A8 cb x2.1 m3 h (λv m4=>∃(x3:PV×Int×MH),aA (I3 x3) (cV cb) (aA (aI s) (aI t) (aA fI (cG x2.1 x3.2.1)
 (aA (eP 11) rZ (cO (oQ 32 (dU (fP 3) (fP (dX (1+k1))) (dU (fP o.kind) (fP o.index) (dU (fP (nL o)) (fP o.value.int) (dU (Df o) (fP 3) (dU (fP 0) (fP v.kind) (dU (fP v.int) (Nt v.text) (pJ CB)))))))=tC x3.1) m4 x3.2.2 h h)))))))))))))/\∀(x3:PV×Int×MH),I3 x3->∃(I4:PV×MH->Prop),kA cb 3 x3.2.2 h (λc r=>∀(m2:MH),aM (bB x3.2.2 m2 c) (aK m2 h c) (branch r (∃(c1:Nat),iN (λs1 t1=>∃(k1:Int),nK (λc2 p=>aA (Bx cb 0::dN s::hX t x3.2.1=Bx c1 0::dN s1::hX t1 k1) (aK m2 h c1) (aA (Ints h s1 c2) (Ints h t1 p) (aA (jI c2) (jI p) (∀(o:OV)(m3:MH),aM (P7 c2 p k1 o) (bB m2 m3 c1) (jG m3 h c1 (∃(x4:PV×MH),aA (I4 x4) (cV cb) (aA (eP 8) (eP 11) (aA rZ (oQ 32 (dU (fP x3.1.op) (fP x3.1.cmp) (dU (fP
 x3.1.left.kind) (fP x3.1.left.index) (dU (fP (nL x3.1.left)) (fP x3.1.left.value.int) (dU (Df x3.1.left) (fP o.kind) (dU (fP o.index) (fP (nL o)) (dU (fP o.value.int) (Df o) (qJ x3.1.args)))))))=tC x4.1) (aA (m3=x4.2) (h=h) True))))))))))) (∃(x4:PV×MH),aA (I4 x4) (cV cb) (aA (eP 8) (eP 11) (aA rZ (tC x3.1=tC x4.1) (aA (m2=x4.2) (h=h) True))))))/\∀(x4:PV×MH),I4 x4->∃(I5:PV×MH->Prop),kA cb 6 x4.2 h (λc r=>∀(m2:MH),aM (bB x4.2 m2 c) (aK m2 h c) (branch r (∃(x5:PV×MH),aA (I5 x5) fI (aA (eP 11) rZ (cO (oQ 32 (dU (fP x4.1.op) (fP x4.1.cmp) (dU (fP x4.1.right.kind) (fP x4.1.right.index) (dU (fP (nL x4.1.right)) (fP x4.1.right.value.int) (dU (Df x4.1.right) (fP x4.1.left.kind) (dU (fP x4.1.left.index) (fP (nL
 x4.1.left)) (dU (fP x4.1.left.value.int) (Df x4.1.left) (qJ x4.1.args)))))))=tC x5.1) m2 x5.2 h h))) (∃(x5:PV×MH),aA (I5 x5) fI (aA (eP 11) rZ (cO (tC x4.1=tC x5.1) m2 x5.2 h h)))))/\∀(x5:PV×MH),I5 x5->K (cW x5.1) x5.2 h) (x1.1==6) (EU (Bx cb 0::dN s::hX t (dX ((↑deep:Int)-1))) x1.2.2 h N (λv m2 h1=>bZ (λs1 h2=>bE h1 h2 (aX h2 s1 13 (fE v.enc)) (K (lF (aJ (dO 6) bC (aJ bC bC (aJ bC bC (aJ Sj bC (aJ bC bC (aJ bC Sj (aU s1)))))))) m2 h2)))) (fZ cb 3 x1.2.2 h (λk1 m2=>∃(I2:Int×Int×List PV×MH×PH->Prop)(m3:Int×Int×List PV×MH×PH->Nat),(∃(x2:Int×Int×List PV×MH×PH),aA (I2 x2) (cV cb) (aA (aI s) (aI t) (aA (eQ (bV deep)) fI (aA (eP 12) (cG k1 x2.2.1) (aA rZ (oQ
 32 (zX (dX (dX (4+x1.1)-7)) (dU (fP 0) (fP 0) (dU Ns (fP 0) (dU (fP 0) (fP 0) (dU (fP 0) Ns (pJ (At.lst 104)))))))=oQ 32 (zX x2.1 (dU (fP 0) (fP 0) (dU Ns (fP 0) (dU (fP 0) (fP 0) (dU (fP 0) Ns (pJ (At.lst 104)))))))) (aA (Option.some (Own.lst 32 13 [])=Option.some (Own.lst 32 13 (De x2))) (cH m2 (yU x2)) (j3 h (yU x2))))))))/\∀(x2:Int×Int×List PV×MH×PH),I2 x2->fU x2.2.1 0 (EU (Bx cb 0::dN s::hX t (dX ((↑deep:Int)-1))) (yU x2).1 (yU x2).2 N (λv m4 h1=>nO (De x2) 136 (∃(x3:Int×Int×List PV×MH×PH),aA (I2 x3) (m3 x3<m3 x2) (aA (cV cb) (aI s) (aA (aI t) (eQ (bV deep)) (aA fI (eP 12) (aA (cG (dX (x2.2.1-1)) x3.2.1) rZ (aA (oQ 32 (zX x2.1 (dU (fP 0) (fP 0) (dU Ns (fP 0) (dU
 (fP 0) (fP 0) (dU (fP 0) Ns (pJ (At.lst 104)))))))=oQ 32 (zX x3.1 (dU (fP 0) (fP 0) (dU Ns (fP 0) (dU (fP 0) (fP 0) (dU (fP 0) Ns (pJ (At.lst 104)))))))) (Option.some (Own.lst 32 13 (De x2++fE v.enc))=Option.some (Own.lst 32 13 (De x3))) (jE m4 (yU x3) h1))))))))) (bZ (λs1 h1=>bE (yU x2).2 h1 (aX h1 s1 13 (De x2)) (K (lF (aJ (dO x2.1) bC (aJ bC bC (aJ bC bC (aJ Sj bC (aJ bC bC (aJ bC Sj (aU s1)))))))) (yU x2).1 h1)))))))
def Po(N:Nat)(cb:Nat)(s t:Sl)(deep:Nat)(m:MH)(h:PH)(K:CV->MH->PH->Prop):Prop:=
  EU (Bx cb 0::dN s::hX t (↑deep:Int)) m h N (λv m1 h1=>CU (dN s::bK (dN t) (cW v)) h1 (λc p p1=>dH (gI c p p1) 2 (EU (Bx cb 0::dN s::hX t 1) m1 h1 N (λv1 m2 h2=>K (cW v1) m2 h2)) (K (cW v) m1 h1)))
theorem PL:UL zeroV zeroV=true:=by simp[UL]
theorem yC:MK 0 dK dK=true:=by simp[MK,UM,UL]
theorem Qv{cols params:List Int}{x:Int}(h:cols[i]? =some x):kindOf cols params ⟨1,i,zeroV⟩=x:=by
 have hl:=(List.getElem?_eq_some_iff.1 h).1;have e:kindOf cols params ⟨1,i,zeroV⟩=pE cols ⟨1,i,zeroV⟩:=rfl;have e2:=PL;rw[e];simp only[pE,e2,Bool.not_true,Bool.or_false];rw[if_neg (by simp;omega)];simp[List.getD_eq_getElem?_getD,h]
theorem Qu{cols params:List Int}{x:Int}(h:params[i]? =some x):kindOf cols params ⟨2,i,zeroV⟩=x:=by
 have hl:=(List.getElem?_eq_some_iff.1 h).1;have e:kindOf cols params ⟨2,i,zeroV⟩=pE params ⟨2,i,zeroV⟩:=rfl;have e2:=PL;rw[e];simp only[pE,e2,Bool.not_true,Bool.or_false];rw[if_neg (by simp;omega)];simp[List.getD_eq_getElem?_getD,h]
theorem Oq{cols params:List Int}{kind:Int}{v:VV}(hv:HS v)(hk:Tq kind v):P7 cols params kind ⟨3,0,v⟩:=⟨hv,λh=>by
 obtain⟨h1,h2⟩:=hk h;have e:kindOf cols params ⟨3,0,v⟩=if((0:Int) !=0|| !lG v)then 0 else v.kind:=rfl
 rw[e,if_neg,h2];simp only[lG,h1,h2];rcases h with rfl|rfl|rfl<;>decide⟩
theorem T4:Sound Tryz.prog 96 P6:=by
 refine iB Tryz.func96 ?_;rintro cvs m h K ⟨cb,s,t,kind,cols,params,rfl,hc,hs,ht,l1,l2,hK⟩;refine⟨Xq cb s t kind m h,rfl,aD Gs (aD Gw aF),OR cb s t kind m h K,by kernel_rfl,?_⟩;dsimp only[OR,push_cast];have hsl:=hs.slen;have htl:=ht.slen;refine⟨λ⟨i,os⟩=>i<=cols.length/\os.length<=i/\∀o∈os,P7 cols params kind o,λ⟨i,_⟩=>cols.length-i,⟨(0,[]),⟨aC,by simp,by simp⟩,MT⟩,?_⟩;rintro⟨i,os⟩ ⟨hi,hol,hos⟩;dsimp only;refine aE (λhlt=>?_) (λhge=>?_)
 .obtain⟨x,hx⟩:=fD hsl hlt;obtain⟨b1,o1,e1,r1⟩:=hs.at' hx;refine⟨b1,o1,e1,aC,hlt,x,.imm r1,aB (λek=>⟨by simp;omega,by simp;omega,(i+1,os++[⟨1,i,zeroV⟩]),⟨aC,by simp;omega,?_⟩,by show cols.length-(i+1)<cols.length-i;omega,?_⟩) (λ_=>⟨(i+1,os),⟨aC,by show os.length<=i+1;omega,hos⟩,by show cols.length-(i+1)<cols.length-i;omega,MT⟩)⟩
  .intro o ho;rcases List.mem_append.1 ho with h1|h1
   .exact hos o h1
   .simp at h1;subst h1;exact⟨mU,λ_=>by rw[Qv (by simpa using hx)];simpa using ek⟩
  .rw[List.map_append];exact MT
 refine⟨λ⟨i,os⟩=>i<=params.length/\os.length<=1000+i/\∀o∈os,P7 cols params kind o,λ⟨i,_⟩=>params.length-i,⟨(0,os),⟨aC,aC,hos⟩,MT⟩,?_⟩;clear hi hol hos hge;rintro⟨i,os⟩ ⟨hi,hol,hos⟩;dsimp only;refine aE (λhlt=>?_) (λhge=>?_)
 .obtain⟨x,hx⟩:=fD htl hlt;obtain⟨b1,o1,e1,r1⟩:=ht.at' hx;refine⟨b1,o1,e1,aC,hlt,x,.imm r1,aB (λek=>⟨by simp;omega,by simp;omega,(i+1,os++[⟨2,i,zeroV⟩]),⟨aC,by simp;omega,?_⟩,by show params.length-(i+1)<params.length-i;omega,?_⟩) (λ_=>⟨(i+1,os),⟨aC,by show os.length<=1000+(i+1);omega,hos⟩,by show params.length-(i+1)<params.length-i;omega,MT⟩)⟩
  .intro o ho;rcases List.mem_append.1 ho with h1|h1
   .exact hos o h1
   .simp at h1;subst h1;exact⟨mU,λ_=>by rw[Qu (by simpa using hx)];simpa using ek⟩
  .rw[List.map_append];exact MT
 .refine⟨cb,_,rfl,hc,λk m' h0 h1 ho hc'=>aE (λhk=>?_) (λhk=>⟨cb,kind,rfl,hc',λv m'' hv hkw ho' hc''=>hK ⟨3,0,v⟩ m'' (Oq hv hkw) (ho.trans ho') hc''⟩)⟩;have hk':k.toNat<os.length:=by simp at hk;omega
  exact⟨h0,hk,_,by rw[List.getElem?_map,List.getElem?_eq_getElem hk'];rfl,os[k.toNat],rfl,hK _ m' (hos _ (List.getElem_mem hk')) ho hc'⟩
theorem JA{h:PH}{v:PV}(ha:v.args=⟨none,0,0⟩):dZ h (.mk v.op v.cmp v.left v.right []) v:=dZ.mk (by rw[ha];exact .nil _ _ _ _)
structure WS(cols params:List Int)(kd:Int)(p:PV):Prop where
 args_:p.args=⟨none,0,0⟩
 op_:p.op=3
 cmp_:1<=p.cmp/\p.cmp<=6
 left_:P7 cols params kd p.left
 right_:P7 cols params kd p.right
 kind_:FZ cols->Yo kd
theorem Xc{k:Int}(h:Yo k):k≠0:=by rcases h with rfl|rfl|rfl<;>decide
theorem WS.pw{cols params:List Int}{kd:Int}{p:PV}(x:WS cols params kd p)(d:Nat):PW cols params d (.mk p.op p.cmp p.left p.right []):=by
 refine⟨⟨x.left_.val,x.right_.val,trivial⟩,λhc=>?_,Ki.leaf d⟩;have hk:=x.kind_ hc;have h1:=x.left_.kind hk;have h2:=x.right_.kind hk;have h3:=Xc hk;have h4:=x.cmp_;rw[x.op_];simp[iS,h1,h2,h3,h4.1,h4.2]
theorem YX{cols params:List Int}{d:Nat}(x:PW cols params d p):PW cols params (d+1) (.mk 6 0 dK dK [p]):=
 ⟨⟨mU,mU,x.vals,trivial⟩,λhc=>by
  have e:=yC;simp[iS,Az,e,x.valid hc],Ki.node (λq hq=>by simp at hq;subst hq;exact x.siz) (by simp)⟩
theorem YY{cols params:List Int}{d:Nat}{op:Int}{ps:List Pred}(ho:op=4\/op=5)(x:∀p∈ps,PW cols params d p)(hl:ps.length<=3):PW cols params (d+1) (.mk op 0 dK dK ps):=
 ⟨⟨mU,mU,Kl.2 λp hp=>(x p hp).vals⟩,λhc=>by
  have e:=yC;have e2:Az cols params ps=true:=by rw[BU,List.all_eq_true];exactλp hp=>(x p hp).valid hc
  rcases ho with rfl|rfl<;>simp[iS,e,e2],Ki.node (λq hq=>(x q hq).siz) hl⟩
theorem SR:∀N,Sound Tryz.prog 68 (Ws N)
 |0=>by
  refine eG (fn:=Tryz.f68) (c:=dJ Tryz.f68) Tryz.func68 rfl (by decide) ?_;rintro cvs m h K ⟨cb,s,t,cols,params,deep,rfl,_,_,_,_,_,hN,_⟩;omega
 |N+1=>by
  refine iB Tryz.func68 ?_;rintro cvs m h K ⟨cb,s,t,cols,params,deep,rfl,hc,hs,ht,l1,l2,hN,hd,hK⟩;refine⟨XD N cb s t deep h,rfl,aD Gs (aD wY (aD T4 (aD Gw (aD (SR N) aF)))),O9 N cb s t deep m h K,by kernel_rfl,?_⟩;dsimp only[O9,push_cast];have hsl:=hs.slen;refine⟨cb,9,rfl,hc,λk m1 k0 k1 o1 c1=>?_⟩;refine⟨λ⟨k,_,mx⟩=>0<=k/\k<=8/\bB m mx cb/\aK mx h cb,aB (λ_=>⟨cb,2,rfl,aC,aC,c1,λr m2 o2 c2=>⟨(k,r,m2),⟨k0,aC,o1.trans o2,c2⟩,MT⟩⟩) (λ_=>⟨(k,false,m1),⟨k0,aC,o1,c1⟩,MT⟩),?_⟩;clear k0 k1 o1 c1 k m1;rintro⟨k,b,m1⟩ ⟨k0,k1,o1,c1⟩;dsimp only;refine aB (λ_=>⟨cb,2,rfl,c1,λj m2 j0 j1 o2 c2=>?_⟩) (λ_=>?_)
  .refine hK ⟨IntKind.i64.wrap (1+j),0,dK,dK,⟨none,0,0⟩⟩ _ m2 h (.refl _) (JA rfl) ⟨⟨mU,mU,trivial⟩,λ_=>?_,Ki.leaf _⟩ (o1.trans o2) c2;have hj:j=0\/j=1:=by omega
   have e1:IntKind.i64.wrap 1=1:=by decide
   have e2:IntKind.i64.wrap 2=2:=by decide
   rcases hj with rfl|rfl
   .simp[iS,e1,yC]
   .simp[iS,e2,yC]
  refine⟨λ⟨k,b,mx⟩=>0<=k/\k<=8/\(b=false->6<=k/\1<=deep)/\bB m mx cb/\aK mx h cb,aE (λ_=>⟨(k,true,m1),⟨k0,k1,λe=>(by cases e),o1,c1⟩,MT⟩) (λhk=>⟨(k,_,m1),⟨k0,k1,λe=>?_,o1,c1⟩,MT⟩),?_⟩
  .simp at e;exact⟨aC,aC⟩
  clear k0 k1 o1 c1 k m1;rintro⟨k,b,m1⟩ ⟨k0,k1,kb,o1,c1⟩;dsimp only;refine aB (λ_=>?_) (λhb=>?_)
  .refine⟨λ⟨kd,mx⟩=>(FZ cols->Yo kd)/\bB m mx cb/\aK mx h cb,aE (λhpos=>⟨cb,s.len,rfl,c1,λj m2 j0 j1 o2 c2=>?_⟩) (λ_=>⟨(4,m1),⟨λ_=>.inr (.inl rfl),o1,c1⟩,MT⟩),?_⟩
   .obtain⟨b1,off,e1,r1⟩:=hs.inb (n:=j) j0 aC
    have hm:cols.getD j.toNat 0∈cols:=by
     have:j.toNat<cols.length:=by omega
     rw[List.getD_eq_getElem?_getD,List.getElem?_eq_getElem this];exact List.getElem_mem this
    exact⟨b1,off,e1,j0,aC,_,.imm r1,(_,m2),⟨λhcol=>hcol _ hm,o1.trans o2,c2⟩,MT⟩
   clear o1 c1 m1;rintro⟨kd,m1⟩ ⟨hkd,o1,c1⟩;dsimp only;refine⟨λ⟨p,kd,mx⟩=>WS cols params kd p/\bB m mx cb/\aK mx h cb,⟨cb,6,rfl,c1,λj m2 j0 j1 o2 c2=>⟨cb,s,t,kd,cols,params,rfl,c2,hs,ht,l1,l2,λo m3 ho o3 c3=>⟨cb,kd,rfl,c3,λv m4 hv hkw o4 c4=>⟨(⟨3,IntKind.i64.wrap (1+j),o,⟨3,0,v⟩,⟨none,0,0⟩⟩,kd,m4),⟨⟨rfl,rfl,?_,ho,Oq hv hkw,hkd⟩,((o1.trans o2).trans o3).trans o4,c4⟩,MT⟩⟩⟩⟩,?_⟩
   .show 1<=IntKind.i64.wrap (1+j)/\IntKind.i64.wrap (1+j)<=6;rw[eC aC aC];omega
   clear o1 c1 m1 hkd kd;rintro⟨p,kd,m1⟩ ⟨pw,o1,c1⟩;dsimp only;refine⟨λ⟨p,mx⟩=>WS cols params kd p/\bB m mx cb/\aK mx h cb,⟨cb,3,rfl,aC,aC,c1,λr m2 o2 c2=>aB (λ_=>⟨cb,s,t,kd,cols,params,rfl,c2,hs,ht,l1,l2,λo m3 ho o3 c3=>⟨(⟨p.op,p.cmp,p.left,o,p.args⟩,m3),⟨⟨pw.args_,pw.op_,pw.cmp_,pw.left_,ho,pw.kind_⟩,(o1.trans o2).trans o3,c3⟩,MT⟩⟩) (λ_=>⟨(p,m2),⟨pw,o1.trans o2,c2⟩,MT⟩)⟩,?_⟩;clear pw o1 c1 m1 p;rintro⟨p,m1⟩ ⟨pw,o1,c1⟩;dsimp only;refine⟨λ⟨p,mx⟩=>WS cols params kd p/\bB m mx cb/\aK mx h cb,⟨cb,6,rfl,aC,aC,c1,λr m2 o2 c2=>aB (λ_=>⟨(⟨p.op,p.cmp,p.right,p.left,p.args⟩,m2),⟨⟨pw.args_,pw.op_,pw.cmp_,pw.right_,pw.left_,pw.kind_⟩,o1.trans o2,c2⟩,MT⟩) (λ_=>⟨(p,m2),⟨pw,o1.trans o2,c2⟩,MT⟩)⟩,?_⟩;clear pw o1 c1 m1 p;rintro⟨p,m1⟩ ⟨pw,o1,c1⟩;exact hK p _ m1 h (.refl _) (JA pw.args_) (pw.pw deep) o1 c1
  have hdeep:=kb hb;have hw:IntKind.i64.wrap ((deep:Int)-1)=((deep-1:Nat):Int):=by rw[eC aC aC];omega
  rw[hw];have hdd:deep=deep-1+1:=by omega
  refine aB (λ_=>⟨cb,s,t,cols,params,deep-1,rfl,c1,hs,ht,l1,l2,aC,aC,λv p m2 h2 hle hr hp o2 c2 sl h3 hle2 hrow=>?_⟩) (λhk6=>⟨cb,3,rfl,c1,λj m2 j0 j1 o2 c2=>?_⟩)
  .refine hK ⟨6,0,dK,dK,sl⟩ (.mk 6 0 dK dK [p]) m2 h3 (hle.trans hle2) (dZ.mk (v:=⟨6,0,dK,dK,sl⟩) ⟨⟨[v],hrow,rfl,λi x hx=>?_⟩,by simp⟩) (by rw[hdd];exact YX hp) (o1.trans o2) (c2.mono hle2)
   match i,hx with
   |0,hx=>simp at hx;subst hx;exact⟨v,rfl,hr.mono hle2⟩
   |_+1,hx=>simp at hx
  refine⟨λ⟨op,n,us,mx,hx⟩=>(op=4\/op=5)/\ -1<=n/\n<=2/\(us.length:Int)<=2-n/\PH.le h hx/\bB m mx cb/\aK mx hx cb/\∃ps:List Pred,ps.length=us.length/\(∀q∈ps,PW cols params (deep-1) q)/\∀(i:Nat) q,ps[i]? =some q->∃u,us[i]? =some u/\dZ hx q u,λ⟨_,n,_,_,_⟩=>(n+1).toNat,⟨(_,j,[],m2,h),⟨?_,aC,aC,by simp;omega,.refl _,o1.trans o2,c2,[],rfl,by simp,λi q hq=>by simp at hq⟩,MT⟩,?_⟩
  .have hk6:k≠6:=by simpa using hk6
   have hk7:k=7\/k=8:=by omega
   rcases hk7 with rfl|rfl
   .exact .inl (by decide)
   .exact .inr (by decide)
  rintro⟨op,n,us,mx,hx⟩ ⟨hop,n0,n1,ul,hle,ox,cx,ps,pl,pw,hps⟩;dsimp only;refine aE (λhn=>⟨cb,s,t,cols,params,deep-1,rfl,cx,hs.mono hle,ht.mono hle,l1,l2,aC,aC,λv p m3 h3 hle3 hr hp o3 c3=>⟨by simp;omega,by simp;omega,(op,n-1,us++[v],m3,h3),⟨hop,by show-1<=n-1;omega,by show n-1<=2;omega,by simp;omega,hle.trans hle3,ox.trans o3,c3,ps++[p],by simp[pl],?_,?_⟩,?_,?_⟩⟩) (λhn sl h3 hle3 hrow=>?_)
  .intro q hq;rcases List.mem_append.1 hq with h1|h1
   .exact pw q h1
   .simp at h1;subst h1;exact hp
  .intro i q hq;by_cases hi:i<ps.length
   .rw[List.getElem?_append_left hi]at hq;obtain⟨u,h1,h2⟩:=hps i q hq;exact⟨u,by rw[List.getElem?_append_left aC];exact h1,h2.mono hle3⟩
   .rw[List.getElem?_append_right aC]at hq;have hl:=(List.getElem?_eq_some_iff.1 hq).1;simp at hl;have:i=ps.length:=by omega
    subst this;simp at hq;subst hq;exact⟨v,by rw[List.getElem?_append_right aC,pl];simp,hr⟩
  .show(n-1+1).toNat<(n+1).toNat;omega
  .rw[List.map_append,eC aC aC];exact MT
  .exact hK ⟨op,0,dK,dK,sl⟩ (.mk op 0 dK dK ps) mx h3 (hle.trans hle3) (dZ.mk (v:=⟨op,0,dK,dK,sl⟩) ⟨⟨us,hrow,pl,λi q hq=>(hps i q hq).imp λu hu=>⟨hu.1,hu.2.mono hle3⟩⟩,aC⟩) (by rw[hdd];exact YY hop pw aC) ox (cx.mono hle3)
theorem PR(h:FZ l):l.all dM=true:=List.all_eq_true.2 λk hk=>by
 rcases h k hk with e|e|e<;>subst e<;>rfl
theorem Sy{cols params:List Int}{d:Nat}(x:PW cols params d p)(hd:d<=2)(hc:FZ cols)(hp:FZ params):gI cols params p=0:=by
 have h1:=Jl p 0;have h2:=x.siz.n;have h3:=HG p 8 (by have:=x.siz.d;omega)
 have h4:gF d<=13:=by match d,hd with
  |0,_=>decide
  |1,_=>decide
  |2,_=>decide
 unfold gI;rw[PR hc,PR hp,if_neg (by simp),h3,if_neg (by simp;omega),x.valid hc];rfl
theorem Dq:Sound Tryz.prog 30 xU:=by
 refine iB Tryz.func30 ?_;rintro cvs m h K ⟨cb,s,t,cols,params,deep,rfl,hc,hs,ht,l1,l2,hd,hK⟩;refine⟨dL [(68,Ws 1001),(69,qM)] [] [] [] false,rfl,aD (SR 1001) (aD Gz aF),Po 1001 cb s t deep m h K,by kernel_rfl,?_⟩;dsimp only[Po,push_cast];refine⟨cb,s,t,cols,params,deep,rfl,hc,hs,ht,l1,l2,aC,hd,λv p m2 h2 hle hr hp o2 c2=>⟨s,t,v,cols,params,p,rfl,hs.mono hle,ht.mono hle,hr,aB (λ_=>⟨cb,s,t,cols,params,1,rfl,c2,hs.mono hle,ht.mono hle,l1,l2,aC,aC,λv3 p3 m3 h3 hle3 hr3 hp3 o3 c3=>hK v3 p3 m3 h3 (hle.trans hle3) hr3 ⟨hp3.vals,λ_ k1 k2=>Sy hp3 (by decide) k1 k2⟩ (o2.trans o3) c3⟩) (λ_=>hK v p m2 h2 hle hr ⟨hp.vals,λk0 k1 k2=>Sy hp k0 k1 k2⟩ o2 c2)⟩⟩
def bM:Sl:=⟨none,0,0⟩
def Tv:Vc.Spec:=λcvs m h K=>∃n k,cvs=[Nl n,cI k]/\K (.val (.agg ⟨(mC.mk n k).enc⟩)) m h
def WA:Vc.Spec:=λcvs m h K=>∃t,cvs=[cI t]/\K (aQ ⟨1,t,fF,bM,bM,bM,bM,0,bM⟩) m h
def Yt(v:QV)(g o:Sl)(k:Int):QV:=⟨v.op,v.table,v.where_,v.columns,v.on,g,o,k,v.args⟩
def YA:Vc.Spec:=λcvs m h K=>∃cb v s kinds,cvs=[cP cb,aQ (Yt v bM bM v.limit),cS s]/\aK m h cb/\Ints h s kinds/\kinds.length<=1000/\
 ∀g o k gr od m' h',PH.le h h'->Ints h' g gr->iI h' o od->gr.length<=kinds.length->od.length<=kinds.length->0<=k->k<=3->bB m m' cb->aK m' h' cb->K (aQ (Yt v g o k)) m' h'
noncomputable def XO(cb:Nat)(v:QV)(s:Sl)(h:PH):Ctx:=
 dL [(15,FX),(16,Ku)] [(2,{A:=Nat×List Int×List (Int×Bool)×MH,st:=λ⟨i,gr,od,m⟩=>cD 37 40 [(0,pv cb),(4,.at (.ptr 4 0)),(6,.at (.ptr 6 0)),(9,iv s.len),(10,iv i)] [(4,.cells 38 ((v.enc.take 17).map .val++[.lst 19,.lst 30,.val (.int .i64 v.limit),.val (.slice v.args.a v.args.len v.args.cap)])),(6,.cells 38 (zK.enc.map .val)),(19,.lst 3 1 (gr.map eI)),(30,.lst 72 2 (od.map CK))] m h})] [] [] false
def Vx(n:ByteArray)(k:Int)(m:MH)(h:PH)(K:CV->MH->PH->Prop):Prop:=
  K (lF (gL (Value.string n) (dO k))) m h
def VA(t:Int)(m:MH)(h:PH)(K:CV->MH->PH->Prop):Prop:=
  K (lF (wK (dO 1) (dO t))) m h
abbrev CW(a:QV):Prop:=eQ (oQ 38 (dU (fP a.op) (fP a.table) (AN a a.on (dU (At.lst 19) (At.lst 30) (rJ a.limit (xW a.args))))))
abbrev hP:Prop:=eQ (oQ 38 zQ)
noncomputable abbrev oS(a:Nat×List Int×List (Int×Bool)×MH):List (List Value):=List.map CK a.2.2.1
abbrev EV(a:Nat×List Int×List (Int×Bool)×MH->Prop)(b:Nat×List Int×List (Int×Bool)×MH->Nat)(c:Nat×List Int×List (Int×Bool)×MH)(d:Nat)(e:Sl)(g:Prop)(i j:(Nat×List Int×List (Int×Bool)×MH)->Prop)(k:MH)(l:PH):Prop:=∃(x:Nat×List Int×List (Int×Bool)×MH),aA (a x) (b x<b c) (aA (cV d) (eP 4) (aA (eP 6) (bL e) (aA (fN (bG c.1 1)=bV x.1) g (aA hP (i x) (aA (j x) (k=x.2.2.2) (cQ l l))))))
abbrev CQ(a b:List Int):Prop:=Option.some (Own.lst 3 1 (jF a))=Option.some (Own.lst 3 1 (List.map eI b))
attribute [push_cast] CW hP oS EV CQ
def Pk(cb:Nat)(v:QV)(s:Sl)(m:MH)(h:PH)(K:CV->MH->PH->Prop):Prop:=
  ∃(I:Nat×List Int×List (Int×Bool)×MH->Prop)(m1:Nat×List Int×List (Int×Bool)×MH->Nat),(∃(x:Nat×List Int×List (Int×Bool)×MH),aA (I x) (cV cb) (aA (eP 4) (eP 6) (aA (bL s) (bD x.1) (aA (CW v) hP (aA (rL x.2.1) (Option.some (Own.lst 72 2 [])=Option.some (Own.lst 72 2 (oS x))) (aA (m=x.2.2.2) (h=h) True))))))/\∀(x:Nat×List Int×List (Int×Bool)×MH),I x->aZ (↑x.1:Int) (aG s) (kA cb 3 x.2.2.2 h (λc r=>∀(m2:MH),aM (bB x.2.2.2 m2 c) (aK m2 h c) (branch r (nO (jF x.2.1) 8 (kA cb 3 m2 h (λc1 r1=>∀(m3:MH),aM (bB m2 m3 c1) (aK m3 h c1) (branch r1 (kA cb 2 m3 h (λc2 r2=>∀(m4:MH),aM (bB m3 m4 c2) (aK m4 h c2) (nO (oS x) 16 (EV I m1 x cb s (CW v) (λx1=>rM x.2.1 (↑x.1:Int) x1.2.1) (fun
 x1=>Option.some (Own.lst 72 2 (oS x++fE (gL (dO (↑x.1:Int)) (Value.bool r2))))=Option.some (Own.lst 72 2 (oS x1))) m4 h)))) (EV I m1 x cb s (CW v) (λx1=>rM x.2.1 (↑x.1:Int) x1.2.1) (λx1=>Option.some (Own.lst 72 2 (oS x))=Option.some (Own.lst 72 2 (oS x1))) m3 h))))) (kA cb 3 m2 h (λc1 r1=>∀(m3:MH),aM (bB m2 m3 c1) (aK m3 h c1) (branch r1 (kA cb 2 m3 h (λc2 r2=>∀(m4:MH),aM (bB m3 m4 c2) (aK m4 h c2) (nO (oS x) 16 (EV I m1 x cb s (CW v) (λx1=>CQ x.2.1 x1.2.1) (λx1=>Option.some (Own.lst 72 2 (oS x++fE (gL (dO (↑x.1:Int)) (Value.bool r2))))=Option.some (Own.lst 72 2 (oS x1))) m4 h)))) (EV I m1 x cb s (CW v) (λx1=>CQ x.2.1 x1.2.1) (λx1=>Option.some (Own.lst 72 2 (oS x))=Option.some (Own.lst
 72 2 (oS x1))) m3 h))))))) (fZ cb 4 x.2.2.2 h (λk m2=>bZ (λs1 h1=>bE h h1 (aX h1 s1 1 (jF x.2.1)) (bZ (λs2 h2=>bE h1 h2 (aX h2 s2 2 (oS x)) (K (E0 v v (aJ (lH (gC v)) (jS (eX v)) (aJ (sP (eX v)) (dO (nL (eX v))) (aJ (nF (eX v)) (lH (eX v)) (aJ (nC v) (nD v) (aJ (dT v.on) (dT s1) (aJ (dT s2) (dO k) (aU v.args)))))))) m2 h2))))))
theorem Ug:Sound Tryz.prog 76 Tv:=by
 refine iB Tryz.func76 ?_;rintro cvs m h K ⟨n,k,rfl,hK⟩;refine⟨dL [] [] [] [] false,rfl,aF,Vx n k m h K,by kernel_rfl,?_⟩;exact hK
theorem Ln:Sound Tryz.prog 40 WA:=by
 refine iB Tryz.func40 ?_;rintro cvs m h K ⟨t,rfl,hK⟩;refine⟨dL [] [] [] [] false,rfl,aF,VA t m h K,by kernel_rfl,?_⟩;exact hK
theorem Ul:Sound Tryz.prog 42 YA:=by
 refine iB Tryz.func42 ?_;rintro cvs m h K ⟨cb,v,s,kinds,rfl,hc,hs,hl,hK⟩;refine⟨XO cb v s h,rfl,aD Gs (aD wY aF),Pk cb v s m h K,by kernel_rfl,?_⟩;dsimp only[Pk,push_cast];have hsl:=hs.slen;refine⟨λ⟨i,gr,od,mx⟩=>i<=kinds.length/\gr.length<=i/\od.length<=i/\bB m mx cb/\aK mx h cb,λ⟨i,_,_,_⟩=>kinds.length-i,⟨(0,[],[],m),⟨aC,by simp,by simp,.refl _ _,hc⟩,MT⟩,?_⟩;rintro⟨i,gr,od,m1⟩ ⟨hi,hg,ho,o1,c1⟩;dsimp only;refine aE (λhlt=>?_) (λhge=>?_)
 .have fin:∀(gr':List Int)(od':List (Int×Bool)) m',gr'.length<=i+1->od'.length<=i+1->bB m m' cb->aK m' h cb->(i+1<=kinds.length/\gr'.length<=i+1/\od'.length<=i+1/\bB m m' cb/\aK m' h cb):=λgr' od' m' h1 h2 h3 h4=>⟨aC,h1,h2,h3,h4⟩
  refine⟨cb,3,rfl,aC,aC,c1,λr m2 o2 c2=>aB (λ_=>⟨by simp;omega,by simp;omega,cb,3,rfl,aC,aC,c2,λr2 m3 o3 c3=>aB (λ_=>⟨cb,2,rfl,aC,aC,c3,λr3 m4 o4 c4=>⟨by simp;omega,by simp;omega,(i+1,gr++[(i:Int)],od++[((i:Int),r3)],m4),fin (gr++[(i:Int)]) (od++[((i:Int),r3)]) m4 (by simp;omega) (by simp;omega) (((o1.trans o2).trans o3).trans o4) c4,by show kinds.length-(i+1)<kinds.length-i;omega,?_⟩⟩) (λ_=>⟨(i+1,gr++[(i:Int)],od,m3),fin (gr++[(i:Int)]) od m3 (by simp;omega) aC ((o1.trans o2).trans o3) c3,by show kinds.length-(i+1)<kinds.length-i;omega,?_⟩)⟩)
   (λ_=>⟨cb,3,rfl,aC,aC,c2,λr2 m3 o3 c3=>aB (λ_=>⟨cb,2,rfl,aC,aC,c3,λr3 m4 o4 c4=>⟨by simp;omega,by simp;omega,(i+1,gr,od++[((i:Int),r3)],m4),fin gr (od++[((i:Int),r3)]) m4 aC (by simp;omega) (((o1.trans o2).trans o3).trans o4) c4,by show kinds.length-(i+1)<kinds.length-i;omega,?_⟩⟩) (λ_=>⟨(i+1,gr,od,m3),fin gr od m3 aC aC ((o1.trans o2).trans o3) c3,by show kinds.length-(i+1)<kinds.length-i;omega,MT⟩)⟩)⟩
  .simp only[List.map_append];exact MT
  .simp only[List.map_append];exact MT
  .simp only[List.map_append];exact MT
 .refine⟨cb,4,rfl,c1,λk m2 k0 k1 o2 c2 s1 h1 hle1 r1 s2 h2 hle2 r2=>?_⟩;exact hK s1 s2 k gr od m2 h2 (hle1.trans hle2) ⟨r1.mono hle2,aC⟩ ⟨r2,aC⟩ aC aC k0 aC (o1.trans o2) (c2.mono (hle1.trans hle2))
def WH:Vc.Spec:=λcvs m h K=>∃cb s t a b,cvs=[cP cb,cS s,cS t]/\aK m h cb/\Ints h s a/\Ints h t b/\a.length<=1000/\b.length<=1000/\
 ∀o on m' h',PH.le h h'->lI h' o on->on.length<=10->bB m m' cb->aK m' h' cb->K (cS o) m' h'
noncomputable def XP(cb:Nat)(s t:Sl)(h:PH):Ctx:=
 dL [(15,FX)] [(3,{A:=Int×List (Int×Int)×MH,st:=λ⟨n,on,m⟩=>cD 77 80 [(0,pv cb),(1,sv s),(2,sv t),(7,.at (.lst 75)),(8,iv n)] [(75,.lst 69 2 (on.map tP))] m h}),
  (8,{A:=Int×Nat×List (Int×Int)×(Int×Int)×Bool×MH,st:=λ⟨n,i,on,p,f,m⟩=>cD 77 80 [(0,pv cb),(1,sv s),(2,sv t),(7,.at (.lst 75)),(8,iv n),(9,.at (.ptr 9 0)),(10,bv f),(49,.at (.lst 75)),(50,iv on.length),(51,iv i)] [(9,.cells 69 [.val (.int .i64 p.1),.val (.int .i64 p.2)]),(75,.lst 69 2 (on.map tP))] m h})] [] [] false
noncomputable abbrev wC(a:Int×List (Int×Int)×MH):List (List Value):=List.map tP a.2.1
noncomputable abbrev Be(a:Int×Nat×List (Int×Int)×(Int×Int)×Bool×MH):Bool:=a.2.2.2.2.1
noncomputable abbrev wB(a:Int×Nat×List (Int×Int)×(Int×Int)×Bool×MH):Nat:=a.2.2.1.length
noncomputable abbrev xF(a:Int×Nat×List (Int×Int)×(Int×Int)×Bool×MH):Int×Int:=a.2.2.2.1
noncomputable abbrev oR(a:Int×Nat×List (Int×Int)×(Int×Int)×Bool×MH):List (List Value):=List.map tP a.2.2.1
noncomputable abbrev uA(a:Int×Nat×List (Int×Int)×(Int×Int)×Bool×MH):Nat->Option Obj:=a.2.2.2.2.2
abbrev H9(a:(Int×Nat×List (Int×Int)×(Int×Int)×Bool×MH)->Prop)(b:(Int×Nat×List (Int×Int)×(Int×Int)×Bool×MH)->Nat)(c d:Nat)(e g:Sl)(i:Int×Nat×List (Int×Int)×(Int×Int)×Bool×MH)(j:(Int×Nat×List (Int×Int)×(Int×Int)×Bool×MH)->Int×Nat×List (Int×Int)×(Int×Int)×Bool×MH)(k:(Int×Nat×List (Int×Int)×(Int×Int)×Bool×MH)->Prop):Prop:=∃(x:Int×Nat×List (Int×Int)×(Int×Int)×Bool×MH),aA (a x) (b x<c) (aA (cV d) (aI e) (aA (aI g) (eL 75) (aA (cG i.1 (j x).1) (eP 9) (k x))))
abbrev yG(a:Nat->Nat->Option Value)(b:Nat)(c:List (List Value))(d:CV->MH->PH->Prop)(e:Nat->Option Obj):Prop:=bZ (λx x1=>bE a x1 (aX x1 x b c) (d (dN x) e x1))
attribute [push_cast] wC Be wB xF oR uA H9 yG
def Pl(cb:Nat)(s t:Sl)(m:MH)(h:PH)(K:CV->MH->PH->Prop):Prop:=
  fZ cb 3 m h (λk m1=>∃(I:Int×List (Int×Int)×MH->Prop)(m2:Int×List (Int×Int)×MH->Nat),(∃(x:Int×List (Int×Int)×MH),aA (I x) (cV cb) (aA (aI s) (aI t) (aA (eL 75) (cG k x.1) (aA (Option.some (Own.lst 69 2 [])=Option.some (Own.lst 69 2 (wC x))) (m1=x.2.2) (cQ h h)))))/\∀(x:Int×List (Int×Int)×MH),I x->eF x.1 0 (eF (aG s) 0 (eF (aG t) 0 (fZ cb (aG s) x.2.2 h (λk1 m3=>fZ cb (aG t) m3 h (λk2 m4=>aA (cA 0) ((0:Int)<2) (aR (λb o=>aA (aT s.a b o) (0<=k1) (k1<aG s/\∃(y:Int),aA (aL m4 h b (fQ o k1 1) (cL y)) ((0:Int)<=1) ((1:Int)<2/\aR (λb1 o1=>aA (aT t.a b1 o1) (0<=k2) (k2<aG t/\∃(y1:Int),aL m4 h b1 (fQ o1 k2 1) (cL y1)/\∃(I1:Int×Nat×List (Int×Int)×(Int×Int)×Bool
 ×MH->Prop)(m5:Int×Nat×List (Int×Int)×(Int×Int)×Bool×MH->Nat),(∃(x1:Int×Nat×List (Int×Int)×(Int×Int)×Bool×MH),aA (I1 x1) (cV cb) (aA (aI s) (aI t) (aA (eL 75) (cG x.1 x1.1) (aA (eP 9) (gR (y==y1) (Be x1)) (aA (eL 75) (bY (wC x).length (wB x1)) (aA (bD x1.2.1) (A4 (rJ k1 (fP k2)) (pR (xF x1))) (cO (Option.some (Own.lst 69 2 (wC x))=Option.some (Own.lst 69 2 (oR x1))) m4 (uA x1) h h)))))))/\∀(x1:Int×Nat×List (Int×Int)×(Int×Int)×Bool×MH),I1 x1->aZ (↑x1.2.1:Int) (↑(wB x1):Int) (aA (cA (↑x1.2.1:Int)) ((↑x1.2.1:Int)<kL (oR x1)) (∃(e:List Value),uK (oR x1) (rA x1.2.1) e/\∃(y2:Int×Int),Di 2 0 e (uB y2)/\branch (Be x1) (aA (cA 0) ((0:Int)<2) (aA (cA 0)
 ((0:Int)<2) (eA y2.1 (xF x1).1 (aA (cA 1) ((1:Int)<2) (aA (cA 1) ((1:Int)<2) (H9 (λx2=>I1 x2) (λx2=>m5 x2) (m5 x1) cb s t x1 (λx2=>x2) (λx2=>aA (gR (y2.2 !=(xF x1).2) (Be x2)) (eL 75) (aA (bY (wB x1) (wB x2)) (fN (bG x1.2.1 1)=bV x2.2.1) (aA (A4 (pR (xF x1)) (pR (xF x2))) (Option.some (Own.lst 69 2 (oR x1))=Option.some (Own.lst 69 2 (oR x2))) (aA (uA x1=uA x2) (h=h) True))))))) (H9 (λx2=>I1 x2) (λx2=>m5 x2) (m5 x1) cb s t x1 (λx2=>x2) (λx2=>aA (AQ (Be x2)) (eL 75) (aA (bY (wB x1) (wB x2)) (fN (bG x1.2.1 1)=bV x2.2.1) (aA (A4 (pR (xF x1)) (pR (xF x2))) (Option.some (Own.lst 69 2 (oR x1))=Option.some (Own.lst 69 2 (oR x2))) (aA (uA x1=
 uA x2) (h=h) True)))))))) (H9 (λx2=>I1 x2) (λx2=>m5 x2) (m5 x1) cb s t x1 (λx2=>x2) (λx2=>aA (AQ (Be x2)) (eL 75) (aA (bY (wB x1) (wB x2)) (fN (bG x1.2.1 1)=bV x2.2.1) (aA (A4 (pR (xF x1)) (pR (xF x2))) (Option.some (Own.lst 69 2 (oR x1))=Option.some (Own.lst 69 2 (oR x2))) (aA (uA x1=uA x2) (h=h) True))))))) (branch (Be x1) (nO (oR x1) 16 (∃(x2:Int×List (Int×Int)×MH),aA (I x2) (m2 x2<m2 x) (aA (cV cb) (aI s) (aA (aI t) (eL 75) (aA (cG (dX (x1.1-1)) x2.1) (Option.some (Own.lst 69 2 (oR x1++fE (uB (xF x1))))=Option.some (Own.lst 69 2 (wC x2))) (dQ (uA x1) x2.2.2 h h)))))) (∃(x2:Int×List (Int×Int)×MH),aA (I x2) (m2 x2<m2 x) (aA (cV cb) (aI s) (aA (aI t) (eL
 75) (aA (cG (dX (x1.1-1)) x2.1) (Option.some (Own.lst 69 2 (oR x1))=Option.some (Own.lst 69 2 (wC x2))) (dQ (uA x1) x2.2.2 h h))))))))))))))) (yG h 2 (wC x) K x.2.2)) (yG h 2 (wC x) K x.2.2)) (yG h 2 (wC x) K x.2.2))
theorem Um:Sound Tryz.prog 41 WH:=by
 refine iB Tryz.func41 ?_;rintro cvs m h K ⟨cb,s,t,a,b,rfl,hc,hs,ht,l1,l2,hK⟩;refine⟨XP cb s t h,rfl,aD Gs aF,Pl cb s t m h K,by kernel_rfl,?_⟩;dsimp only[Pl,push_cast];have hsl:=hs.slen;have htl:=ht.slen;refine⟨cb,3,rfl,hc,λk m1 k0 k1 o1 c1=>⟨λ⟨n,on,mx⟩=>0<=n/\n<=2/\(on.length:Int)<=2-n/\bB m mx cb/\aK mx h cb,λ⟨n,_,_⟩=>n.toNat,⟨(k,[],m1),⟨k0,by show k<=2;omega,by simp;omega,o1,c1⟩,MT⟩,?_⟩⟩;clear k0 k1 o1 c1 m1;rintro⟨n,on,m1⟩ ⟨n0,n1,hon,o1,c1⟩;dsimp only;have out:∀(sl:Sl)(h':PH),PH.le h h'->aX h' sl 2 (on.map tP)->K (.val (.slice sl.a sl.len sl.cap)) m1 h':=λsl h' hle hrow=>hK sl on m1 h' hle ⟨hrow,aC⟩ aC o1 (c1.mono hle);refine aE (λhn=>aE (λhp=>aE (λhq=>?_) (λ_=>out)) (λ_=>out)) (λ_=>out);refine⟨cb,s.len,rfl,c1,λx m2 x0 x1 o2 c2=>⟨cb,t.len,rfl,c2,λy m3 y0 y1 o3 c3=>?_⟩⟩;obtain⟨b1,f1,e1,r1⟩:=hs.inb (n:=x) x0 aC;obtain⟨b2,f2,e2,r2⟩:=ht.inb (n:=y) y0 aC;refine⟨aC,aC,b1,f1,e1,x0,aC,_,.imm r1,aC,aC,b2,f2,e2,y0,aC,_,.imm r2,?_⟩;refine⟨λ⟨n',i,on',p,f,mx⟩=>n'=n/\on'=on/\mx=m3/\i<=on.length,λ⟨_,i,_,_,_,_⟩=>on.length-i,⟨(n,0,on,(x,y),a.getD x.toNat 0==b.getD y.toNat 0,m3),⟨rfl,rfl,rfl,aC⟩,?_⟩,?_⟩
 .rw[List.length_map];exact MT
 rintro⟨n,i,on,p,f,m3⟩ ⟨rfl,rfl,rfl,hi⟩;dsimp only;refine aE (λhlt=>?_) (λhge=>?_)
 .have hl:i<on.length:=by omega
  have hget:(on.map tP)[i]? =some (tP on[i]):=by rw[List.getElem?_map,List.getElem?_eq_getElem hl];rfl
  refine⟨aC,by rw[List.length_map];omega,_,hget,on[i],rfl,aB (λ_=>⟨aC,aC,aC,aC,aB (λ_=>⟨aC,aC,aC,aC,(n,i+1,on,p,_,m3),⟨rfl,rfl,rfl,by show i+1<=on.length;omega⟩,by show on.length-(i+1)<on.length-i;omega,MT⟩) (λ_=>⟨(n,i+1,on,p,_,m3),⟨rfl,rfl,rfl,by show i+1<=on.length;omega⟩,by show on.length-(i+1)<on.length-i;omega,MT⟩)⟩) (λ_=>⟨(n,i+1,on,p,_,m3),⟨rfl,rfl,rfl,by show i+1<=on.length;omega⟩,by show on.length-(i+1)<on.length-i;omega,MT⟩)⟩
 .have hw:IntKind.i64.wrap (n-1)=n-1:=eC aC aC;rw[hw];refine aB (λ_=>⟨by rw[List.length_map];omega,by rw[List.length_map];omega,(n-1,on++[p],m3),⟨by show 0<=n-1;omega,by show n-1<=2;omega,by simp;omega,(o1.trans o2).trans o3,c3⟩,by show(n-1).toNat<n.toNat;omega,?_⟩) (λ_=>⟨(n-1,on,m3),⟨by show 0<=n-1;omega,by show n-1<=2;omega,by show(on.length:Int)<=2-(n-1);omega,(o1.trans o2).trans o3,c3⟩,by show(n-1).toNat<n.toNat;omega,MT⟩);rw[List.map_append];exact MT
def Zx:Vc.Spec:=λcvs m h K=>∃s cs,∃most:Nat,cvs=[cS s,cI most]/\aX h s 1 (bH cs)/\s.len<=s.cap/\most<=1000/\∀cb m' h',PH.le h h'->m cb=none->bB m m' cb->aK m' h' cb->K (cP cb) m' h'
abbrev zY(a b:Prop)(c:(List (List Value))->Prop):Prop:=aA a b (∃(x:List (List Value)),c x)
attribute [push_cast] zY
def PF(s:Sl)(most:Nat)(m:MH)(h:PH)(K:CV->MH->PH->Prop):Prop:=
  zY (cA (ite ((↑most:Int)<aG s) (↑most:Int) (aG s))) (ite ((↑most:Int)<aG s) (↑most:Int) (aG s)<=(↑s.cap:Int)) (λy=>aA (dW 1 y) (nR m h (Sl.mk s.a (ite ((↑most:Int)<aG s) (↑most:Int) (aG s)).toNat s.cap) 1 y) (aA (gM (y.length*1)) (gM y.length) (bZ (λs1 h1=>bE h h1 (aX h1 s1 1 y) (∀(b:Nat)(m1:MH),aM (cC m h1 b) (bI m m1 b (gL (dT s1) bC) 82) (K (iL b) m1 h1))))))
theorem EC(l:List UInt8):dW 1 (bH l):=by
 constructor
 .intro e he;obtain⟨x,_,rfl⟩:=List.mem_map.1 he;rfl
 .intro e he u hu;obtain⟨x,_,rfl⟩:=List.mem_map.1 he;simp at hu;subst hu;rfl
theorem aX.cut{s:Sl}(r:aX h s sz xs)(n:Nat)(hn:n<=xs.length):aX h ⟨s.a,n,s.cap⟩ sz (xs.take n):=by
 refine⟨by simp;omega,?_,by have h1:=r.len;have h2:=r.cap;show n<=s.cap;omega⟩;rcases r.row with e|⟨b,o,ha,k⟩
 .left;rw[e];simp
 .right;refine⟨b,o,ha,λi e hi=>?_⟩;rw[List.getElem?_take]at hi;split at hi
  .exact k i e hi
  .cases hi
theorem UH:Sound Tryz.prog 11 Zx:=by
 refine iB Tryz.func11 ?_;rintro cvs m h K ⟨s,cs,most,rfl,hr,hc,hm,hK⟩;refine⟨uW [] [] [] [] [82] [] false,rfl,aF,PF s most m h K,by kernel_rfl,?_⟩;have hl:s.len=cs.length:=by have:=hr.len;simpa[bH]using this
 dsimp only[PF,push_cast];have hmin:(if(most:Int)<(s.len:Int)then(most:Int)else(s.len:Int))=((min most s.len:Nat):Int):=by split<;>omega
 rw[hmin];have hcut:=aX.cut hr (min most s.len) (by simp[bH];omega);refine⟨aC,aC,bH (cs.take (min most s.len)),EC _,.imm ?_,by simp[bH];omega,by simp[bH];omega,λs' h' hle hrow b m' hb hu=>?_⟩
 .rw[show bH (cs.take (min most s.len))=(bH cs).take (min most s.len)by simp[bH,List.map_take]];exact hcut
 .exact hK b m' h' hle hb.m_ ⟨hu.other⟩ ⟨_,⟨⟨s',_,0,hu.at_,hrow,aC,by simp;omega,rfl⟩⟩⟩
def YG:Vc.Spec:=λcvs m h K=>∃n:Nat,cvs=[.val (.slice none 0 0),cI n]/\n<=1000/\K (.lst 3 1 []) m h
noncomputable def VR(ss:Sl)(m:MH)(h:PH):Ctx:=
 dL [(205,YG)] [(3,{A:=Nat×Nat,st:=λ⟨i,n⟩=>cD 36 37 [(0,sv ss),(3,iv n),(9,sv ss),(10,iv ss.len),(11,iv i)] [] m h}),
  (11,{A:=Nat×List Int,st:=λ⟨i,l⟩=>cD 36 37 [(6,.at (.lst 24)),(25,sv ss),(26,iv ss.len),(27,iv i)] [(24,.lst 3 1 (l.map eI))] m h})] [] [] false
abbrev Jn(a:Int):Prop:=a<=140737488355328
attribute [push_cast] Jn
def LC(n:Nat)(m:MH)(h:PH)(K:CV->MH->PH->Prop):Prop:=
  eF (dX ((↑n:Int)-dX ((0:Int)-0))) 0 (aA (cA 0) (cA 0) (aA (0<dX ((↑n:Int)-0)) (Jn (dX ((↑n:Int)-0)*8)) (aA (Jn (dX ((↑n:Int)-0))) ((0:Int)<=0) (cA (kL (List.replicate (dX ((↑n:Int)-0)).toNat (iO bC)))/\K (CV.lst 3 1 []) m h)))) (K (CV.lst 3 1 []) m h)
def LN(ss:Sl)(m:MH)(h:PH)(K:CV->MH->PH->Prop):Prop:=
  ∃(I:Nat×Nat->Prop)(m1:Nat×Nat->Nat),(∃(x:Nat×Nat),aA (I x) (aI ss) (aA (bD x.2) (aI ss) (aA (bL ss) (bD x.1) (aA (m=m) (h=h) True))))/\∀(x:Nat×Nat),I x->aZ (↑x.1:Int) (aG ss) (aR (λb o=>aA (aT ss.a b o) (0<=(↑x.1:Int)) ((↑x.1:Int)<aG ss/\∃(y:Sl),aL m h b (bA o x.1 1) (aU y)/\aZ (bG x.2 (aG y)) 0 False (∃(x1:Nat×Nat),aA (I x1) (m1 x1<m1 x) (aA (aI ss) (fN (bG x.2 (aG y))=bV x1.2) (aA (aI ss) (bL ss) (aA (fN (bG x.1 1)=bV x1.1) (m=m) (cQ h h)))))))) (∃(n:Nat),aA (cJ Cz (↑x.2:Int)=cJ Cz (↑n:Int)) (mL n) (∃(I1:Nat×List Int->Prop)(m2:Nat×List Int->Nat),(∃(x1:Nat×List Int),aA (I1 x1) (eL 24) (aA (aI ss) (bL ss) (aA (bD x1.1) (rL x1.2) (aA (m=m) (h=h) True))))
 /\∀(x1:Nat×List Int),I1 x1->aZ (↑x1.1:Int) (aG ss) (aR (λb o=>aA (aT ss.a b o) (0<=(↑x1.1:Int)) ((↑x1.1:Int)<aG ss/\∃(y:Sl),aL m h b (bA o x1.1 1) (aU y)/\∃(y1:List (List Value)),aA (dW 1 y1) (aX h (cZ y) 1 y1) (aA (rE (jF x1.2) y1 8) (rF (jF x1.2) y1) (∃(x2:Nat×List Int),aA (I1 x2) (m2 x2<m2 x1) (aA (eL 24) (aI ss) (aA (bL ss) (fN (bG x1.1 1)=bV x2.1) (aA (Option.some (Own.lst 3 1 (jF x1.2++y1))=Option.some (Own.lst 3 1 (List.map eI x2.2))) (m=m) (cQ h h))))))))) (EZ h x1.2 K m)))
theorem QZ:Sound Tryz.prog 205 YG:=by
 refine iB Tryz.func205 ?_;rintro cvs m h K ⟨n,rfl,hn,hK⟩;refine⟨dL [] [] [] [] true,rfl,aF,LC n m h K,by kernel_rfl,?_⟩;dsimp only[LC,push_cast];have h0:IntKind.i64.wrap ((n:Int)-0)=n:=by rw[eC aC aC];omega
 have h1:IntKind.i64.wrap ((n:Int)-IntKind.i64.wrap (0-0))=n:=by rw[show IntKind.i64.wrap (0-0)=0 from by rw[eC aC aC];rfl,h0]
 exact aE (λhp=>⟨aC,aC,aC,aC,aC,aC,aC,hK⟩) (λ_=>hK)
def sS(ks:List (List Int)):Nat:=(ks.map List.length).sum
theorem Hg{k:List Int}(hk:ks[i]? =some k):sS (ks.take (i+1))=sS (ks.take i)+k.length:=by
 unfold sS;rw[List.take_add_one,hk];simp
theorem F2{ks:List (List Int)}(h:∀k∈ks,k.length<=12):∀i,sS (ks.take i)<=12*i
 |0=>by simp[sS]
 |i+1=>by
  have ih:=F2 h i;cases e:ks[i]? with
  |none=>rw[List.take_add_one,e];simp[sS]at ih⊢;omega
  |some k=>rw[Hg e];have:=h k (List.mem_of_getElem? e);omega
theorem Q7:Sound Tryz.prog 179 IJ:=by
 refine iB Tryz.func179 ?_;rintro cvs m h K ⟨ss,ks,rfl,hs,hl,h12,hK⟩;refine⟨VR ss m h,rfl,aD QZ aF,LN ss m h K,by kernel_rfl,?_⟩;dsimp only[LN,push_cast];have hsl:=bU.slen hs;refine⟨λ⟨i,n⟩=>i<=ks.length/\n=sS (ks.take i),λ⟨i,_⟩=>ks.length-i,⟨(0,0),⟨aC,by simp[sS]⟩,MT⟩,?_⟩;rintro⟨i,n⟩ ⟨hi,rfl⟩;dsimp only;have hb:=F2 h12 i;refine aE (λhlt=>?_) (λhge=>?_)
 .obtain⟨k,hk⟩:=fD hsl hlt;obtain⟨b,o,sl,ea,r,hki⟩:=bU.at hs hk;have hkl:=hki.slen;have hk12:=h12 k (List.mem_of_getElem? hk)
  have hw:IntKind.i64.wrap ((sS (ks.take i):Int)+(sl.len:Int))=((sS (ks.take (i+1)):Nat):Int):=by
   rw[Hg hk,eC aC aC];omega
  refine⟨b,o,ea,aC,hlt,sl,.imm r,?_⟩;rw[hw];exact aE (λhneg=>by omega) (λ_=>⟨(i+1,sS (ks.take (i+1))),⟨aC,rfl⟩,by show ks.length-(i+1)<ks.length-i;omega,MT⟩)
 .refine⟨sS (ks.take i),rfl,aC,?_⟩;refine⟨λ⟨i,l⟩=>i<=ks.length/\l=(ks.take i).flatten,λ⟨i,_⟩=>ks.length-i,⟨(0,[]),⟨aC,by simp⟩,MT⟩,?_⟩;clear hb hge hi;rintro⟨i,l⟩ ⟨hi,rfl⟩;dsimp only;have hfl:(ks.take i).flatten.length<=12*i:=by have:=F2 h12 i;simpa[sS,List.length_flatten]using this
  refine aE (λhlt=>?_) (λhge sl h' hle hrow=>hK sl h' hle ⟨?_,?_⟩)
  .obtain⟨k,hk⟩:=fD hsl hlt;obtain⟨b,o,sl,ea,r,hki⟩:=bU.at hs hk;have hk12:=h12 k (List.mem_of_getElem? hk);refine⟨b,o,ea,aC,hlt,sl,.imm r,k.map eI,B0 k,hki.row,?_,?_,(i+1,(ks.take (i+1)).flatten),⟨aC,rfl⟩,by show ks.length-(i+1)<ks.length-i;omega,?_⟩
   .rw[List.length_map,List.length_map];omega
   .rw[List.length_map,List.length_map];omega
   .rw[List.take_add_one,hk,Option.toList_some,List.flatten_append,List.map_append,List.flatten_cons,List.flatten_nil,List.append_nil];exact MT
  .rw[List.take_of_length_le aC]at hrow;exact hrow
  .rw[List.take_of_length_le aC]at hfl;omega
theorem Uf:∀N,Sound Tryz.prog 81 (BB N):=SQ Q7
def O4(v:QV)(m:MH)(h:PH)(K:CV->MH->PH->Prop):Prop:=
  ∀(b:Nat)(m1:MH),aM (cC m h b) (bI m m1 b v.enc 38) (K (CV.val (Cd 114 (Array.mk (iO (TF b 0))))) m1 h)
end Go.Ps
