/-
  Part 4 of a proof that a law of the given program returns true: a condition generator that is proved sound, and contracts of functions. No condition of its own. Own work, joined by a program (pack2.py).
-/
import Derived.Test.YtileehgdfcknkaaGreatDoorPc
set_option linter.unusedVariables false
set_option linter.unusedSimpArgs false
namespace Go.Ps
open Go Go.Vc Go.Proofs
variable{K:CV->MH->PH->Prop}{m:MH}{h:PH}{s:nY}{ps:List Int}{cb:Nat}{sc:bX}{v:QV}{q:Query}{p:Pred}{l:List Int}{i:Nat}{N:Nat}{m':MH}{h':PH}{co:List Int}{gr:List Int}{od:List (Int×Bool)}{w:Pred}{ta:Int}{li:Int}{xs:List (List Value)}{sz:Nat}{k:Nat}{ks:List (List Int)}{rs:List Int}{r:Sl}{a:List Int}{b:Nat}
def fv(f:Nat):CV:=.val (.func (.func f) #[] #[])
def L1:Vc.Spec:=λcvs m h K=>∃op,cvs=[cI op]/\
 branch (op==1) (K (fv 139) m h) (branch (op==2) (K (fv 140) m h) (branch (op==3) (K (fv 141) m h) (branch (op==4) (K (fv 142) m h) (branch (op==5) (K (fv 143) m h) (branch (op==6) (K (fv 144) m h) (branch (op==7) (K (fv 144) m h) (branch (op==8) (K (fv 144) m h) (branch (op==9) (K (fv 145) m h) (branch (op==10) (K (fv 146) m h) (K (.val .nilFunc) m h))))))))))
noncomputable def Xj(N:Nat)(sc:bX)(p:Sl)(v:QV)(m:MH):Ctx:=
 dN [(81,Bn N),(116,L1),(139,vA (· =1)),(140,vA (· =2)),(141,vA (· =3)),(142,vA (· =4)),(143,vA (· =5)),(144,vA (λop=>op=6\/op=7\/op=8)),(145,vA (· =9)),(146,vA (· =10))] [(3,{A:=Nat×List Sl×PH,st:=λ⟨i,ss,h⟩=>cJ 62 65 [(1,sv p),(3,.at (.ptr 3 0)),(5,.at (.ptr 5 0)),(8,.at (.ptr 8 0)),(21,sv v.args),(22,iv v.args.len),(23,iv i)] [(3,.cells 43 (sc.enc.map .val)),(5,.cells 38 (v.enc.map .val)),(8,.cells 152 ((sc.enc++eS p++v.enc).map .val++[.lst 41])),(41,.lst 33 1 (ss.map eS))] m h})] [] [] false
noncomputable abbrev H6:List Value:=iC Value.nilFunc
attribute [push_cast] H6
def GF(op:Int)(m:MH)(h:PH)(K:CV->MH->PH->Prop):Prop:=
  ∀(b:Nat)(m1:MH),aU (cE m h b) (bH m m1 b (aL Value.nilFunc Value.nilFunc (aL Value.nilFunc Value.nilFunc (aL Value.nilFunc Value.nilFunc (aL Value.nilFunc Value.nilFunc (aL Value.nilFunc Value.nilFunc H6))))) 183) (gJ (λc E=>aA (tY m1 b (eW c E 0)) (11<=c.size) (∀(m2:MH),bH m1 m2 b (aL Value.nilFunc (iP 139) (aL (iP 140) (iP 141) (aL (iP 142) (iP 143) (aL (iP 144) (iP 144) (aL (iP 144) (iP 145) (eU (iP 146) 11 c)))))) E->bA op 0 (K (CV.val Value.nilFunc) m2 h) (fW op 11 (K (CV.val Value.nilFunc) m2 h) (aA (cD op) (op<11) (∃(y:Option Nat),aM m2 h b (fR 0 op 1) (iC (V7 y))/\K (CV.val (V7 y)) m2 h))))))
abbrev rA(a:Nat×List Sl×PH)(b:bX)(c:Sl)(d:QV)(e:Sl->List Value)(g:NV->List CV)(i:Query->Prop)(j:PH->(List Int×Int)->Prop):Prop:=bM (kE a) 1 (qV a) (λx x1=>∃(x2:NV),Az (λx3 x4 x5 x6=>aA (kF (aL (rZ b) (rY b) (aL (dT c) (dY d.op) (aL (mF d) (mE d) (aL (dY (mH d)) (kP (iE d)) (e x)))))=g x2) (qC x1 x3 x4 x5 x6 x2) (aA (mS x3) (i x5) (∀(x7:List Int×Int),fin x7=u9 x3 x4 x5 x6->j x1 x7))))
noncomputable abbrev rE(a:QV)(b:List Value):List Value:=aL (wW (iE a)) (dY (oY (iE a))) (aL (p9 (iE a)) (lB (iE a)) (aL (kP (fD a)) (wW (fD a)) (aL (dY (oY (fD a))) (p9 (fD a)) b)))
abbrev qX(a:PH)(b:List Int×Int)(c:CV->MH->PH->Prop)(d:MH):Prop:=lC (λx x1=>dK a x1 (Ints x1 x b.1) (cW (b.2 !=0) (c (CV.tup (bD lU b.2)) d x1) (decide (aG x>12)) (c (CV.tup (bD lU 2)) d x1) (c (CV.tup (bD (pD x) 0)) d x1)))
attribute [push_cast] rA rE qX
def OM(N:Nat)(sc:bX)(p:Sl)(v:QV)(m:MH)(h:PH)(K:CV->MH->PH->Prop):Prop:=
  ∃(I:Nat×List Sl×PH->Prop)(m1:Nat×List Sl×PH->Nat),(∃(x:Nat×List Sl×PH),aA (I x) (aJ p) (aA (eP 3) eM (aA eE (aJ v.args) (aA (bJ v.args) (bE x.1) (aA (bR sc) (fG v) (aA (H4 sc (Bl p) v v.on (oK (At.lst 41))) (qW 33 1 (cR 33 1 (qV x))) (cA (m=m) h (kE x))))))))/\∀(x:Nat×List Sl×PH),I x->bA (↑x.1:Int) (aG v.args) (aW (λb o=>aH (aX v.args.a b o) (0<=(↑x.1:Int)) ((↑x.1:Int)<aG v.args) (∃(y:QV),aM m (kE x) b (bL o x.1 21) y.enc/\EL sc p y (kE x) (λv1 s p1 q=>aA (cT (kE x) q v1) (pV q N) (lC (λs1 h1=>dK (kE x) h1 (Ints h1 s1 (bO s p1 q).1) (eA (bO s p1 q).2 0 (K (CV.tup (dZ lU (CV.val (dY (bO s p1 q).2)))) m h1) (pR (qV x) 24 (∃(x1:Nat×List Sl×PH),aA (I x1) (m1
 x1<m1 x) (aA (aJ p) (eP 3) (aA eM eE (aA (aJ v.args) (bJ v.args) (aA (fY (aT ((↑x.1:Int)+1))=bZ x1.1) (bR sc) (aA (fG v) (H4 sc (Bl p) v v.on (oK (At.lst 41))) (aH (cR 33 1 (eB (qV x) (aR s1))=cR 33 1 (qV x1)) (m=m) (h1=kE x1) True))))))))))))))) (jM v.op (λo=>cW (o==1) (rA x sc p v (λs=>rE v (aL (lB (fD v)) (mZ v) (aL (nA v) (dT v.on) (aL (p7 v) (p8 v) (aL (dY v.limit) (sN v) (aR s)))))) (λn=>iG n (fF n (fE n))) (λq=>q.op=1) (λh1 r=>qX h1 r K m)) (o==2) (rA x sc p v (λs=>rE v (aL (lB (fD v)) (mZ v) (aL (nA v) (dT v.on) (aL (p7 v) (p8 v) (aL (dY v.limit) (sN v) (aR s)))))) (λn=>iG n (fF n (fE n))) (λq=>q.op=2) (fun
 h1 r=>qX h1 r K m)) (cW (o==3) (rA x sc p v (λs=>rE v (aL (lB (fD v)) (mZ v) (aL (nA v) (dT v.on) (aL (p7 v) (p8 v) (aL (dY v.limit) (sN v) (aR s)))))) (λn=>iG n (fF n (fE n))) (λq=>q.op=3) (λh1 r=>qX h1 r K m)) (o==4) (rA x sc p v (λs=>rE v (aL (lB (fD v)) (mZ v) (aL (nA v) (dT v.on) (aL (p7 v) (p8 v) (aL (dY v.limit) (sN v) (aR s)))))) (λn=>iG n (fF n (fE n))) (λq=>q.op=4) (λh1 r=>qX h1 r K m)) (cW (o==5) (rA x sc p v (λs=>rE v (aL (lB (fD v)) (mZ v) (aL (nA v) (dT v.on) (aL (p7 v) (p8 v) (aL (dY v.limit) (sN v) (aR s)))))) (λn=>iG n (fF n (fE n))) (λq=>q.op=5) (λh1 r=>qX h1 r K m)) (o==6) (rA x sc
 p v (λs=>rE v (aL (lB (fD v)) (mZ v) (aL (nA v) (dT v.on) (aL (p7 v) (p8 v) (aL (dY v.limit) (sN v) (aR s)))))) (λn=>iG n (fF n (fE n))) (λq=>q.op=6\/q.op=7\/q.op=8) (λh1 r=>qX h1 r K m)) (cW (o==7) (rA x sc p v (λs=>rE v (aL (lB (fD v)) (mZ v) (aL (nA v) (dT v.on) (aL (p7 v) (p8 v) (aL (dY v.limit) (sN v) (aR s)))))) (λn=>iG n (fF n (fE n))) (λq=>q.op=6\/q.op=7\/q.op=8) (λh1 r=>qX h1 r K m)) (o==8) (rA x sc p v (λs=>rE v (aL (lB (fD v)) (mZ v) (aL (nA v) (dT v.on) (aL (p7 v) (p8 v) (aL (dY v.limit) (sN v) (aR s)))))) (λn=>iG n (fF n (fE n))) (λq=>q.op=6\/q.op=7\/q.op=8) (λh1 r=>qX h1 r K m)) (cW (o==
 9) (rA x sc p v (λs=>rE v (aL (lB (fD v)) (mZ v) (aL (nA v) (dT v.on) (aL (p7 v) (p8 v) (aL (dY v.limit) (sN v) (aR s)))))) (λn=>iG n (fF n (fE n))) (λq=>q.op=9) (λh1 r=>qX h1 r K m)) (o==10) (rA x sc p v (λs=>rE v (aL (lB (fD v)) (mZ v) (aL (nA v) (dT v.on) (aL (p7 v) (p8 v) (aL (dY v.limit) (sN v) (aR s)))))) (λn=>iG n (fF n (fE n))) (λq=>q.op=10) (λh1 r=>qX h1 r K m)) (K (CV.tup (bD lU 100)) m (kE x))))))))
theorem Rx:Sound Tryz.prog 116 L1:=by
 refine Fg Tryz.func116 ?_;rintro cvs m h K ⟨op,rfl,hK⟩;refine⟨uJ [] [] [] [] [183] [] false,rfl,aF,GF op m h (j9 h K),by kernel_rfl,?_⟩;show GF op m h (j9 h K);dsimp only[GF,push_cast];intro b m1 hb hm1;refine⟨_,_,⟨hm1.at_⟩,by decide,λm2 hm2=>?_⟩;have hsub:Sub m m2:=((Sub.refl m).upd hb.m_ hm1.other).upd hb.m_ hm2.other;have e:=hm2.at_
 have none_:∀k,¬(1<=op/\op<=10)->op=k->K (.val .nilFunc) m h:=λk hn _=>by
  have:(op==1)=false/\(op==2)=false/\(op==3)=false/\(op==4)=false/\(op==5)=false/\(op==6)=false/\(op==7)=false/\(op==8)=false/\(op==9)=false/\(op==10)=false:=by
   simp only[beq_eq_false_iff_ne];omega
  obtain⟨e1,e2,e3,e4,e5,e6,e7,e8,e9,e10⟩:=this;rw[e1,e2,e3,e4,e5,e6,e7,e8,e9,e10]at hK;exact hK
 refine aE (λh1=>.sub hsub (none_ _ aC rfl)) (λh1=>aE (λh2=>.sub hsub (none_ _ aC rfl)) (λh2=>⟨aC,aC,?_⟩));have:op=0\/op=1\/op=2\/op=3\/op=4\/op=5\/op=6\/op=7\/op=8\/op=9\/op=10:=by omega
 rcases this with rfl|rfl|rfl|rfl|rfl|rfl|rfl|rfl|rfl|rfl|rfl
 .exact⟨none,.lent _ _ _ e rfl,.sub hsub (none_ 0 aC rfl)⟩
 .exact⟨some 139,.lent _ _ _ e rfl,.sub hsub hK⟩
 .exact⟨some 140,.lent _ _ _ e rfl,.sub hsub hK⟩
 .exact⟨some 141,.lent _ _ _ e rfl,.sub hsub hK⟩
 .exact⟨some 142,.lent _ _ _ e rfl,.sub hsub hK⟩
 .exact⟨some 143,.lent _ _ _ e rfl,.sub hsub hK⟩
 .exact⟨some 144,.lent _ _ _ e rfl,.sub hsub hK⟩
 .exact⟨some 144,.lent _ _ _ e rfl,.sub hsub hK⟩
 .exact⟨some 144,.lent _ _ _ e rfl,.sub hsub hK⟩
 .exact⟨some 145,.lent _ _ _ e rfl,.sub hsub hK⟩
 .exact⟨some 146,.lent _ _ _ e rfl,.sub hsub hK⟩
theorem Ri:Sound Tryz.prog 139 (vA (· =1)):=by
 refine hX Tryz.func139 ?_;rintro cvs m h K ⟨n,s,ps,q,ks,rfl,hn,h8,hop,hT⟩;obtain⟨op,ta,w,co,on,gr,od,li,args⟩:=q;refine⟨dN [(177,yV),(72,uM)] [] [] [] false,rfl,(aD qA (aD KY aF)),Dk n m h K,by kernel_rfl,?_⟩;dsimp only[Dk,push_cast];cases (show op=1 from hop);exact XV hn h8 ⟨hT⟩
theorem Rh:Sound Tryz.prog 140 (vA (· =2)):=by
 refine hX Tryz.func140 ?_;rintro cvs m h K ⟨n,s,ps,q,ks,rfl,hn,h8,hop,hT⟩;obtain⟨op,ta,w,co,on,gr,od,li,args⟩:=q;refine⟨dN [(177,yV),(113,qD)] [] [] [] false,rfl,(aD qA (aD JH aF)),Dj n m h K,by kernel_rfl,?_⟩;dsimp only[Dj,push_cast];cases (show op=2 from hop);exact XT hn ⟨hT⟩
theorem Rg:Sound Tryz.prog 141 (vA (· =3)):=by
 refine hX Tryz.func141 ?_;rintro cvs m h K ⟨n,s,ps,q,ks,rfl,hn,h8,hop,hT⟩;obtain⟨op,ta,w,co,on,gr,od,li,args⟩:=q;refine⟨VO n m h,rfl,(aD qA aF),Di n m h K,by kernel_rfl,?_⟩;dsimp only[Di,push_cast];cases (show op=3 from hop);exact XS hn ⟨hT⟩
theorem Rf(h101:Sound Tryz.prog 179 Iq):Sound Tryz.prog 142 (vA (· =4)):=by
 refine hX Tryz.func142 ?_;rintro cvs m h K ⟨n,s,ps,q,ks,rfl,hn,h8,hop,hT⟩;obtain⟨op,ta,w,co,on,gr,od,li,args⟩:=q;refine⟨dN [(178,J4),(179,Iq)] [] [] [] false,rfl,(aD JD (aD h101 aF)),Dh n m h K,by kernel_rfl,?_⟩;dsimp only[Dh,push_cast];cases (show op=4 from hop);exact XR hn ⟨hT⟩
theorem Re:Sound Tryz.prog 143 (vA (· =5)):=by
 refine hX Tryz.func143 ?_;rintro cvs m h K ⟨n,s,ps,q,ks,rfl,hn,h8,hop,hT⟩;obtain⟨op,ta,w,co,on,gr,od,li,args⟩:=q;refine⟨dN [(178,J4)] [] [] [] false,rfl,(aD JD aF),Dg n m h K,by kernel_rfl,?_⟩;dsimp only[Dg,push_cast];cases (show op=5 from hop);exact XQ hn ⟨hT⟩
theorem Rc:Sound Tryz.prog 144 (vA (λop=>op=6\/op=7\/op=8)):=by
 refine hX Tryz.func144 ?_;rintro cvs m h K ⟨n,s,ps,q,ks,rfl,hn,h8,hop,hT⟩;obtain⟨op,ta,w,co,on,gr,od,li,args⟩:=q;refine⟨dN [(177,yV),(180,Ad)] [] [] [] false,rfl,(aD qA (aD D2 aF)),GB n m h K,by kernel_rfl,?_⟩;exact XP hop hn ⟨hT⟩
theorem Rb:Sound Tryz.prog 145 (vA (· =9)):=by
 refine hX Tryz.func145 ?_;rintro cvs m h K ⟨n,s,ps,q,ks,rfl,hn,h8,hop,hT⟩;obtain⟨op,ta,w,co,on,gr,od,li,args⟩:=q;refine⟨dN [(177,yV),(181,J0),(182,J1)] [] [] [] false,rfl,(aD qA (aD JC (aD JB aF))),Df n m h K,by kernel_rfl,?_⟩;dsimp only[Df,push_cast];cases (show op=9 from hop);exact XO hn ⟨hT⟩
theorem Ra:Sound Tryz.prog 146 (vA (· =10)):=by
 refine hX Tryz.func146 ?_;rintro cvs m h K ⟨n,s,ps,q,ks,rfl,hn,h8,hop,hT⟩;obtain⟨op,ta,w,co,on,gr,od,li,args⟩:=q;refine⟨dN [(177,yV),(180,Ad),(181,J0),(182,J1)] [] [] [] false,rfl,(aD qA (aD D2 (aD JC (aD JB aF)))),De n m h K,by kernel_rfl,?_⟩;dsimp only[De,push_cast];cases (show op=10 from hop);exact XN hn ⟨hT⟩
theorem SE(h101:Sound Tryz.prog 179 Iq):∀N,Sound Tryz.prog 81 (Bn N)
 |0=>by
  refine eG (fn:=Tryz.f81) (c:=dG Tryz.f81) Tryz.func81 rfl (by decide) ?_;rintro cvs m h K ⟨sc,p,v,s,ps,q,rfl,_,_,_,_,hN,_⟩;omega
 |N+1=>by
  refine hX Tryz.func81 ?_;rintro cvs m h K ⟨sc,p,v,s,ps,q,rfl,hs,h8,hp,hq,hN,hK⟩;refine⟨Xj N sc p v m,rfl,(aD (SE h101 N) (aD Rx (aD Ri (aD Rh (aD Rg (aD (Rf h101) (aD Re (aD Rc (aD Rb (aD Ra aF)))))))))),OM N sc p v m h K,by kernel_rfl,?_⟩;dsimp only[OM,push_cast];have hlt:=@BM q;have hqr:=hq;obtain⟨op,ta,w,co,on,gr,od,li,args⟩:=q;have x:=hq.parts;have e0:=x.op_;have hl:=x.args_.slen;have hlen:=x.args_.len;simp only[Query.args]at hlt;simp only[bO]at hK;refine⟨λ⟨i,ss,hx⟩=>i<=args.length/\PH.le h hx/\∃ks,Slices hx ss ks/\(args.take i).map (bO s ps)=ks.map (λk=>(k,0)),λ⟨i,_,_⟩=>args.length-i,⟨(0,[],h),⟨aC,.refl _,[],⟨rfl,λj s k h1=>by simp at h1⟩,by simp⟩,MT⟩,?_⟩;rintro⟨i,ss,hx⟩ ⟨hi,hle,ks,hS,hks⟩;have hkl:ks.length=i:=by have:=congrArg List.length hks;simp at this;omega
  have hsl:ss.length=i:=by rw[hS.1,hkl]
  dsimp only;refine aE (λhlt2=>?_) (λhge=>?_)
  .obtain⟨q',hq'⟩:=fJ hl hlt2;obtain⟨b1,o1,u,ea1,r1,hru⟩:=(x.args_.mono hle).at hq';refine⟨b1,o1,ea1,aC,hlt2,u,.imm r1,sc,p,u,s,ps,q',rfl,hs.mono hle,h8,hp.mono hle,hru,?_,λsl h' hle' hi'=>aB (λh1=>?_) (λh1=>?_)⟩
   .have:=hlt (List.mem_of_getElem? hq');omega
   .have he:(bO s ps q').2≠0:=by simpa using h1
    rw[B9 he hks hq' rfl]at hK;exact hK.err (hle.trans hle') (if_neg he)
   .have he:(bO s ps q').2=0:=by simpa using h1
    refine⟨by simp;omega,by simp;omega,(i+1,ss++[sl],h'),⟨aC,hle.trans hle',ks++[(bO s ps q').1],(hS.mono hle').snoc hi',?_⟩,by show args.length-(i+1)<args.length-i;omega,?_⟩
    .rw[fP hq',hks,List.map_append];simp only[List.map_cons,List.map_nil];rw[<-he]
    .rw[List.map_append];exact MT
  .rw[List.take_of_length_le aC]at hks;rw[xB hks]at hK;simp only[if_true]at hK;have hK:KR K m h (u9 s ps (.mk op ta w co on gr od li args) ks):=hK
   have hrep:∀(sl:Sl)(h':PH),PH.le hx h'->cN h' sl 1 (ss.map eS)->qC h' s ps (.mk op ta w co on gr od li args) ks ⟨sc,p,v,sl⟩:=λsl h' hle' hrow=>by
    refine⟨(hs.mono hle).mono hle',(hp.mono hle).mono hle',(hqr.mono hle).mono hle',⟨⟨ss,hrow,hS.1.symm,λj k hk=>?_⟩,aC⟩,λk hk=>?_⟩
    .have hj:j<ss.length:=by rw[hS.1];exact(List.getElem?_eq_some_iff.1 hk).1
     exact⟨ss[j],List.getElem?_eq_getElem hj,(hS.2 j _ _ (List.getElem?_eq_getElem hj) hk).mono hle'⟩
    .obtain⟨j,hj⟩:=List.mem_iff_getElem?.1 hk;have:=F8 hks j
     rwa [List.getD_eq_getElem?_getD,hj]at this
   have tail:∀(h':PH),PH.le hx h'->∀r,fin r=u9 s ps (.mk op ta w co on gr od li args) ks->∀(sl:Sl)(h'':PH),PH.le h' h''->Ints h'' sl r.1->
    branch (r.2 !=0) (K (.tup [.val (.slice none 0 0),.val (.int .i64 r.2)]) m h'') (branch (decide ((sl.len:Int)>12)) (K (.tup [.val (.slice none 0 0),.val (.int .i64 2)]) m h'') (K (.tup [.val (.slice sl.a sl.len sl.cap),.val (.int .i64 0)]) m h'')):=by
    intro h' hle' r hr sl h'' hle2 hi';have hl3:PH.le h h'':=(hle.trans hle').trans hle2;rw[<-hr]at hK;have hsl:=hi'.slen;refine aB (λd1=>?_) (λd1=>aE (λd2=>?_) (λd2=>?_))
    .have d1:r.2≠0:=by simpa using d1
     exact hK.err hl3 (by unfold fin;rw[if_neg d1])
    .have d1:r.2=0:=by simpa using d1
     exact hK.big (l:=r.1) hl3 (by unfold fin;rw[if_pos d1]) aC
    .have d1:r.2=0:=by simpa using d1
     exact hK.ok (l:=r.1) hl3 (by unfold fin;rw[if_pos d1]) aC hi'.row
   refine⟨v.op,rfl,?_⟩;rw[e0];refine aB (λc1 sl h' hle' hrow=>⟨⟨sc,p,v,sl⟩,s,ps,_,ks,by rw[<-e0],hrep sl h' hle' hrow,h8,beq_iff_eq.1 c1,tail h' hle'⟩) (λc1=>?_);refine aB (λc2 sl h' hle' hrow=>⟨⟨sc,p,v,sl⟩,s,ps,_,ks,by rw[<-e0],hrep sl h' hle' hrow,h8,beq_iff_eq.1 c2,tail h' hle'⟩) (λc2=>?_);refine aB (λc3 sl h' hle' hrow=>⟨⟨sc,p,v,sl⟩,s,ps,_,ks,by rw[<-e0],hrep sl h' hle' hrow,h8,beq_iff_eq.1 c3,tail h' hle'⟩) (λc3=>?_);refine aB (λc4 sl h' hle' hrow=>⟨⟨sc,p,v,sl⟩,s,ps,_,ks,by rw[<-e0],hrep sl h' hle' hrow,h8,beq_iff_eq.1 c4,tail h' hle'⟩) (λc4=>?_);refine aB (λc5 sl h' hle' hrow=>⟨⟨sc,p,v,sl⟩,s,ps,_,ks,by rw[<-e0],hrep sl h' hle' hrow,h8,beq_iff_eq.1 c5,tail h' hle'⟩) (λc5=>?_);refine aB (λc6 sl h' hle' hrow=>⟨⟨sc,p,v,sl⟩,s,ps,_,ks,by rw[<-e0],hrep sl h' hle' hrow,h8,.inl (beq_iff_eq.1 c6),tail h' hle'⟩) (λc6=>?_);refine aB (λc7 sl h' hle' hrow=>⟨⟨sc,p,v,sl⟩,s,ps,_,ks,by rw[<-e0],hrep sl h' hle' hrow,h8,.inr (.inl (beq_iff_eq.1 c7)),tail h' hle'⟩) (λc7=>?_);refine aB (λc8 sl h' hle' hrow=>⟨⟨sc,p,v,sl⟩,s,ps,_,ks,by rw[<-e0],hrep sl h' hle' hrow,h8,.inr (.inr (beq_iff_eq.1 c8)),tail h' hle'⟩) (λc8=>?_);refine aB (λc9 sl h' hle' hrow=>⟨⟨sc,p,v,sl⟩,s,ps,_,ks,by rw[<-e0],hrep sl h' hle' hrow,h8,beq_iff_eq.1 c9,tail h' hle'⟩) (λc9=>?_);refine aB (λc10 sl h' hle' hrow=>⟨⟨sc,p,v,sl⟩,s,ps,_,ks,by rw[<-e0],hrep sl h' hle' hrow,h8,beq_iff_eq.1 c10,tail h' hle'⟩) (λc10=>hK.err hle ?_);refine rP λe=>?_;have:arity op= -1:=by simp only[arity];simp only[*,Bool.or_false,Bool.false_or,Bool.or_true,Bool.true_or,Bool.and_true,Bool.true_and,Bool.and_false,Bool.false_and,Bool.not_true,Bool.not_false,Bool.false_eq_true,if_true,if_false, ↓reduceIte]
   have:=e.1;simp only[Query.op]at this;omega
def fT:PV:=⟨0,0,dH,dH,⟨none,0,0⟩⟩
def cK(h:PH)(s:Sl)(l:List VV):Prop:=bY h 3 VV.enc Eq s l
theorem cK.mono{s:Sl}{l:List VV}(x:cK h s l)(le:PH.le h h'):cK h' s l:=bY.mono x le λ_ _ e=>e
def yX:QV:=⟨0,0,fT,⟨none,0,0⟩,⟨none,0,0⟩,⟨none,0,0⟩,⟨none,0,0⟩,0,⟨none,0,0⟩⟩
theorem U0(l:List QV):dU 21 (l.map QV.enc):=by
 constructor
 .intro e he;obtain⟨x,_,rfl⟩:=List.mem_map.1 he;rfl
 .intro e he u hu;obtain⟨x,_,rfl⟩:=List.mem_map.1 he;simp[QV.enc]at hu;rcases hu with rfl|rfl|rfl|rfl|rfl|rfl|rfl|rfl|rfl|rfl|rfl|rfl|rfl|rfl|rfl|rfl|rfl|rfl|rfl|rfl|rfl<;>rfl
mutual
def UD:Pred->Nat
 |.mk _ _ _ _ args=>1+Fx args
def Fx:List Pred->Nat
 |[]=>0
 |p::ps=>UD p+Fx ps
end
mutual
def RJ:Pred->Nat
 |.mk _ _ _ _ args=>1+Hm args
def Hm:List Pred->Nat
 |[]=>0
 |p::ps=>max (RJ p) (Hm ps)
end
mutual
theorem IW:∀(p:Pred)(n:Int),lK p n<=n+UD p
 |.mk _ _ _ _ args,n=>by
  have:=G8 args (n+1);simp only[lK,UD];omega
theorem G8:∀(ps:List Pred)(n:Int),iY ps n<=n+Fx ps
 |[],n=>by simp[iY,Fx]
 |p::ps,n=>by
  have h1:=IW p n;have h2:=G8 ps (lK p n);simp only[iY,Fx];split<;>omega
end
mutual
theorem Hp:∀(p:Pred)(n:Nat),RJ p<=n->j8 p n=false
 |.mk _ _ _ _ args,0,h=>by simp only[RJ]at h;omega
 |.mk _ _ _ _ args,n+1,h=>by
  simp only[RJ]at h;simp only[j8];exact Fu args n aC
theorem Fu:∀(ps:List Pred)(n:Nat),Hm ps<=n->pC ps n=false
 |[],_,_=>rfl
 |p::ps,n,h=>by
  simp only[Hm]at h;simp only[pC,Hp p n aC,Fu ps n aC,Bool.or_false]
end
def gF:Nat->Nat
 |0=>1
 |d+1=>1+3*gF d
structure JZ(d:Nat)(p:Pred):Prop where
 n:UD p<=gF d
 d:RJ p<=d+1
theorem YP:∀d,1<=gF d
 |0=>Nat.le_refl _
 |d+1=>by rw[gF];omega
theorem JZ.leaf(d:Nat){op cmp:Int}{a b:OV}:JZ d (.mk op cmp a b []):=⟨by simp[UD,Fx,YP],by simp[RJ,Hm]⟩
theorem JZ.node{d:Nat}{op cmp:Int}{a b:OV}{ps:List Pred}(h:∀p∈ps,JZ d p)(hl:ps.length<=3):JZ (d+1) (.mk op cmp a b ps):=by
 have h1:∀l:List Pred,(∀p∈l,JZ d p)->Fx l<=l.length*gF d/\Hm l<=d+1:=λl=>by
  induction l with
  |nil=>intro _;simp[Fx,Hm]
  |cons p l ih=>
   intro hp;have h2:=ih λx hx=>hp x (List.mem_cons_of_mem _ hx);have h3:=hp p (List.mem_cons_self ..);have:=h3.n;have:=h3.d;simp only[Fx,Hm,List.length_cons,Nat.add_mul,Nat.one_mul];omega
 have h2:=h1 ps h;have h3:ps.length*gF d<=3*gF d:=Nat.mul_le_mul_right _ hl;exact⟨by simp only[UD,gF];omega,by simp only[RJ];omega⟩
mutual
def rT:Query->Nat
 |.mk _ _ _ _ _ _ _ _ args=>1+nR args
def nR:List Query->Nat
 |[]=>0
 |q::qs=>rT q+nR qs
end
mutual
def Bj:Query->Nat
 |.mk _ _ _ _ _ _ _ _ args=>1+uI args
def uI:List Query->Nat
 |[]=>0
 |q::qs=>max (Bj q) (uI qs)
end
mutual
def lV(c:Nat):Query->Nat
 |.mk op _ _ _ _ _ _ _ args=>if op=1 then c else if op=4 then uO c args else wQ c args
def wQ(c:Nat):List Query->Nat
 |[]=>0
 |q::qs=>lV c q+wQ c qs
def uO(c:Nat):List Query->Nat
 |[]=>1
 |q::qs=>lV c q*uO c qs
end
mutual
theorem DP:∀(p:Query)(n:Int),nL p n<=n+rT p/\(nL p n<=24->nL p n=n+rT p)
 |.mk _ _ _ _ _ _ _ _ args,n=>by
  have:=G7 args (n+1);simp only[nL,rT];omega
theorem G7:∀(ps:List Query)(n:Int),kO ps n<=n+nR ps/\(kO ps n<=24->kO ps n=n+nR ps)
 |[],n=>by simp[kO,nR]
 |p::ps,n=>by
  have h1:=DP p n;have h2:=G7 ps (nL p n);simp only[kO,nR];split<;>omega
end
mutual
theorem Ho:∀(p:Query)(n:Nat),Bj p<=n->lH p n=false
 |.mk _ _ _ _ _ _ _ _ args,0,h=>by simp only[Bj]at h;omega
 |.mk _ _ _ _ _ _ _ _ args,n+1,h=>by
  simp only[Bj]at h;simp only[lH];exact Fs args n aC
theorem Fs:∀(ps:List Query)(n:Nat),uI ps<=n->rQ ps n=false
 |[],_,_=>rfl
 |p::ps,n,h=>by
  simp only[uI]at h;simp only[rQ,Ho p n aC,Fs ps n aC,Bool.or_false]
end
theorem El(h1:rT q<=24)(h2:Bj q<=8):jZ q=true:=by
 have:=(DP q 0).1;simp only[jZ,Bool.and_eq_true,decide_eq_true_eq,Ho q 8 h2,Bool.not_false,and_true];omega
theorem Ku(h:jZ q=true):rT q<=24:=by
 simp only[jZ,Bool.and_eq_true,decide_eq_true_eq]at h;have:=(DP q 0).2 h.1;omega
def gN:Nat->Nat
 |0=>3
 |d+1=>2+2*gN d
def gD:Nat->Nat
 |0=>3
 |d+1=>2+gD d
def gB:Nat->Nat
 |0=>4
 |d+1=>gB d*gB d
structure nD(n d b:Nat)(q:Query):Prop where
 n:rT q<=n
 d:Bj q<=d
 b:lV 4 q<=b
def Kp(d:Nat)(q:Query):Prop:=nD (gN d) (gD d) (gB d) q
def xI:Nat->Query->Prop
 |0,q=>nD 1 1 4 q
 |d+1,q=>nD (1+2*gN d) (1+gD d) (gB d*gB d) q
theorem nD.mono{n d n' d' b':Nat}(x:nD n d b q)(h1:n<=n')(h2:d<=d')(h3:b<=b'):nD n' d' b' q:=⟨Nat.le_trans x.n h1,Nat.le_trans x.d h2,Nat.le_trans x.b h3⟩
theorem yN:∀d,3<=gN d/\3<=gD d/\4<=gB d
 |0=>by decide
 |d+1=>by
  obtain⟨h1,h2,h3⟩:=yN d;have:4*4<=gB d*gB d:=Nat.mul_le_mul h3 h3;simp only[gN,gD,gB];omega
theorem xI.arg:∀{d:Nat}{q:Query},xI d q->Kp d q
 |0,_,x=>nD.mono x (by decide) (by decide) (by decide)
 |d+1,_,x=>nD.mono x (by simp only[gN];omega) (by simp only[gD];omega) (by simp only[gB];omega)
theorem nD.one{n d:Nat}(x:nD n d b q)(hb:4<=b){op:Int}{on:List (Int×Int)}:nD (n+1) (d+1) b (.mk op ta w co on gr od li [q]):=by
 obtain⟨h1,h2,h3⟩:=x;refine⟨by simp only[rT,nR];omega,by simp only[Bj,uI];omega,?_⟩;simp only[lV,uO,wQ];split
 .exact hb
 .split<;>omega
theorem nD.two{n d n' d' b':Nat}{p:Query}(x:nD n d b q)(y:nD n' d' b' p)(hb:4<=b)(hb':4<=b'){op:Int}{on:List (Int×Int)}:nD (1+n+n') (1+max d d') (b*b') (.mk op ta w co on gr od li [q,p]):=by
 obtain⟨h1,h2,h3⟩:=x;obtain⟨h4,h5,h6⟩:=y;have e1:b*4<=b*b':=Nat.mul_le_mul_left _ hb';have e2:4*b'<=b*b':=Nat.mul_le_mul_right _ hb;have e3:lV 4 q*lV 4 p<=b*b':=Nat.mul_le_mul h3 h6;refine⟨by simp only[rT,nR];omega,by simp only[Bj,uI];omega,?_⟩;simp only[lV,uO,wQ];split
 .omega
 .split
  .simpa using e3
  .omega
theorem nD.scan{on:List (Int×Int)}:nD 1 1 4 (.mk 1 ta w co on gr od li []):=⟨by simp[rT,nR],by simp[Bj,uI],by simp[lV]⟩
theorem xI.node{d:Nat}{op:Int}{on:List (Int×Int)}{args:List Query}(h:∀a∈args,Kp d a)(hl:args.length<=2):xI (d+1) (.mk op ta w co on gr od li args):=by
 have h4:=(yN d).2.2;have e1:gB d*4<=gB d*gB d:=Nat.mul_le_mul_left _ h4
 match args,h,hl with
 |[],_,_=>exact⟨by simp only[rT,nR];omega,by simp only[Bj,uI];omega,by simp only[lV,uO,wQ];split;omega;split<;>omega⟩
 |[q],h,_=>exact nD.mono (nD.one (h q (by simp)) h4) (by have:=(yN d).1;omega) aC aC
 |[q,p],h,_=>exact nD.mono (nD.two (h q (by simp)) (h p (by simp)) h4 h4) aC aC (Nat.le_refl _)
theorem xI.filter{d:Nat}(x:xI d q){op:Int}{on:List (Int×Int)}:Kp d (.mk op ta w co on gr od li [q]):=by
 cases d with
 |zero=>exact nD.mono (nD.one x (by decide)) (by decide) (by decide) (by decide)
 |succ d=>
  have h4:=(yN d).2.2;have e1:gB d*4<=gB d*gB d:=Nat.mul_le_mul_left _ h4;exact nD.mono (nD.one x aC) (by simp only[gN];omega) (by simp only[gD];omega) (by simp only[gB];omega)
theorem Kp.three(d:Nat)(x:nD 3 3 4 q):Kp d q:=nD.mono x (yN d).1 (yN d).2.1 (yN d).2.2
theorem xI.mono{q:Query}:∀{d e:Nat},xI d q->d<=e->xI e q
 |d,0,x,h=>by have:d=0:=by omega
              subst this;exact x
 |d,e+1,x,h=>by
  by_cases h1:d=e+1
  .subst h1;exact x
  .have y:=xI.arg (x.mono (e:=e) aC);have h4:=(yN e).2.2;have e1:gB e*1<=gB e*gB e:=Nat.mul_le_mul_left _ aC;exact nD.mono y aC aC aC
abbrev iB(a:MH)(b:PH)(c d:Nat)(e:Sl->Prop):Prop:=∃(x:Sl),aM a b c d (aR x)/\e x
noncomputable abbrev Bq(a:Int):Value:=Value.int IntKind.u8 a
abbrev jP(a:Prop):Prop:=a->False
attribute [push_cast] iB Bq jP
def Pk(cb:Nat)(n:Int)(m:MH)(h:PH)(K:CV->MH->PH->Prop):Prop:=
  tD m h cb 1 (λy=>iB m h cb 0 (λy1=>fW y (aG y1) (K (eK 0) m h) (bA n 1 (K (eK 0) m h) (tD m h cb 1 (λy2=>oD m cb 1 (bN (aT (y2+1))) (λm1=>iB m1 h cb 0 (λy3=>∃(y4:Int),aM m1 h cb 1 (bN y4)/\aW (λb o=>aH (aX y3.a b o) (0<=mG y4) (mG y4<aG y3) (∃(y5:UInt8),aA (aM m1 h b (fR o (mG y4) 1) (iC (Bq (wU y5)))) (jP (n=0)) (K (eK (Int.tmod (aT (wU y5)) n)) m1 h))))))))))
theorem YX(cb:Nat)(n:Int)(m:MH)(h:PH)(K:CV->MH->PH->Prop):Pk cb n m h K=(zX (ctx [] [] [] [] false) Tryz.f15 (dG Tryz.f15) (entry 40 [.val (.pointer (some ⟨cb,0,none⟩)),.val (.int .i64 n)] m h) K):=by kernel_rfl
def X9:Vc.Spec:=λcvs m h K=>∃(cb:Nat)(n:Int)(r:List UInt8),cvs=[.val (.pointer (some ⟨cb,0,none⟩)),.val (.int .i64 n)]/\R4 m h cb r/\
 ∀m',bB m m' cb->R4 m' h cb (PD n r).2->K (.val (.int .i64 (PD n r).1)) m' h
theorem KM:Sound Tryz.prog 15 X9:=by
 refine eG (fn:=Tryz.f15) (c:=dG Tryz.f15) Tryz.func15 rfl (by decide) ?_;rintro cvs m h K ⟨cb,n,r,rfl,⟨s,cs,k,hm,hrow,hk,hlen,rfl⟩,hK⟩;refine⟨ctx [] [] [] [] false,rfl,aF,?_⟩;show zX (ctx [] [] [] [] false) Tryz.f15 (dG Tryz.f15) (entry 40 [.val (.pointer (some ⟨cb,0,none⟩)),.val (.int .i64 n)] m h) K;rw[<-YX];dsimp only[Pk,push_cast];have hsl:s.len=cs.length:=by have:=hrow.len;simpa[bG]using this
 refine⟨k,.of_m hm rfl,s,.of_m hm rfl,aE (λhge=>?_) (λhlt=>aE (λhn=>?_) (λhn=>?_))⟩
 .have hd:cs.drop k=[]:=by simp;omega
  rw[hd]at hK;exact hK m ⟨λ_ _=>rfl⟩ ⟨s,cs,k,hm,hrow,hk,hlen,by rw[hd];rfl⟩
 .have hk':k<cs.length:=by omega
  have hd:cs.drop k=cs[k]::cs.drop (k+1):=List.drop_eq_getElem_cons hk';rw[hd]at hK;simp only[PD,if_pos hn]at hK;refine hK m ⟨λ_ _=>rfl⟩ ⟨s,cs,k,hm,hrow,hk,hlen,hd.symm⟩
 .have hk':k<cs.length:=by omega
  have hd:cs.drop k=cs[k]::cs.drop (k+1):=List.drop_eq_getElem_cons hk';rw[hd]at hK;simp only[PD,if_neg hn]at hK;have hw:IntKind.i64.wrap ((k:Int)+1)=((k+1:Nat):Int):=by rw[dJ]<;>omega
  have hw2:IntKind.i64.wrap (((k+1:Nat):Int)-1)=(k:Int):=by rw[dJ]<;>omega
  refine⟨k,.of_m hm rfl,_,_,⟨hm⟩,by simp,λm' hu=>?_⟩;have hm':=hu.at_;rw[hw]at hm';simp only[splice]at hm';obtain hnil|⟨b,o,ha,hrd⟩:=hrow.row
  .exfalso;have:=congrArg List.length hnil;simp[bG]at this;subst this;simp at hk'
  refine⟨s,.of_m hm' rfl,((k+1:Nat):Int),.of_m hm' rfl,b,o,ha,?_⟩;rw[hw2];refine⟨aC,aC,cs[k],.imm ?_,aC,?_⟩
  .have:=hrd k [.int .u8 cs[k].toNat] (by simp[bG,hk']);simpa using this
  .have hlt:cs[k].toNat<256:=cs[k].toNat_lt;rw[dJ aC aC,Int.tmod_eq_emod_of_nonneg aC];refine hK m' ⟨hu.other⟩ ⟨s,cs,k+1,hm',hrow,aC,hlen,rfl⟩
def aK(m:MH)(h:PH)(cb:Nat):Prop:=∃r,R4 m h cb r
theorem aK.mono(x:aK m h cb)(le:PH.le h h'):aK m h' cb:=by
 obtain⟨r,s,cs,k,h1,h2,h3⟩:=x;exact⟨r,s,cs,k,h1,h2.mono le,h3⟩
theorem bB.refl(m:MH)(cb:Nat):bB m m cb:=⟨λ_ _=>rfl⟩
theorem bB.trans{m'':MH}(a:bB m m' cb)(b:bB m' m'' cb):bB m m'' cb:=⟨λc hc=>(b.other c hc).trans (a.other c hc)⟩
def Np(n:Int):Prop:= -9223372036854775808<=n/\n<=9223372036854775807
structure HB(v:VV):Prop where
 int_:Np v.int
 text_:v.text.size<=64
def X8(k:Int):Prop:=k=3\/k=4\/k=5
def Tf(k:Int)(v:VV):Prop:=X8 k->jL v=true/\v.kind=k
def FH:Vc.Spec:=λcvs m h K=>∃cb n,cvs=[cP cb,cI n]/\aK m h cb/\∀k m',0<=k->(k<n\/k=0)->bB m m' cb->aK m' h cb->K (cI k) m' h
def Kb:Vc.Spec:=λcvs m h K=>∃cb n,cvs=[cP cb,cI n]/\0<=n/\n<=1000/\aK m h cb/\∀r m',bB m m' cb->aK m' h cb->K (cB r) m' h
def Ta:Vc.Spec:=λcvs m h K=>∃cb,cvs=[cP cb]/\aK m h cb/\∀k m',Np k->bB m m' cb->aK m' h cb->K (cI k) m' h
def Yi:Vc.Spec:=λcvs m h K=>∃cb,cvs=[cP cb]/\aK m h cb/\∀t m',t.size<=64->bB m m' cb->aK m' h cb->K (M5 t) m' h
def Ng:Vc.Spec:=λcvs m h K=>∃cb kind,cvs=[cP cb,cI kind]/\aK m h cb/\∀v m',HB v->Tf kind v->bB m m' cb->aK m' h cb->K (aV v) m' h
theorem Gb:Sound Tryz.prog 15 FH:=by
 refine⟨KM.1,λcvs vs m h w K hS hp=>KM.2 cvs vs m h w K ?_ hp⟩;obtain⟨cb,n,rfl,⟨r,hr⟩,hK⟩:=hS;refine⟨cb,n,r,rfl,hr,λm' ho hc=>hK _ m' ?_ ?_ ho ⟨_,hc⟩⟩
 .cases r with
  |nil=>simp[PD]
  |cons b r=>
   simp only[PD];split
   .simp
   .exact Int.emod_nonneg _ aC
 .cases r with
  |nil=>simp[PD]
  |cons b r=>
   simp only[PD];split
   .simp
   .exact .inl (Int.emod_lt_of_pos _ aC)
noncomputable def V1(h:PH):Ctx:=
 dN [(15,FH)] [(18,{A:=Nat×ByteArray×MH,st:=λ⟨i,t,m⟩=>cJ 37 38 [(3,vv (.string t)),(4,iv i)] [] m h}),(23,{A:=Nat×ByteArray×MH,st:=λ⟨i,t,m⟩=>cJ 37 38 [(3,vv (.string t)),(5,iv i)] [] m h})] [] [] false
abbrev gZ(a:Nat)(b:Int)(c:MH)(d:PH)(e:Int->MH->Prop):Prop:=∃(x:Nat)(x1:Int),aA (bD (qB a 0) b=bD (qB x 0) x1) (aK c d x) (∀(x2:Int)(x3:MH),aU (cD x2) (x2<x1\/x2=0) (aU (bB c x3 x) (aK x3 d x) (e x2 x3)))
attribute [push_cast] gZ
def Ph(cb:Nat)(n:Int)(m:MH)(h:PH)(K:CV->MH->PH->Prop):Prop:=
  gZ cb n m h (λk m1=>K (Ag (k==mG n)) m1 h)
def LJ(cb:Nat)(m:MH)(h:PH)(K:CV->MH->PH->Prop):Prop:=
  gZ cb 12 m h (λk m1=>cW (k==9) (K (eK (Int.negSucc 0)) m1 h) (k==10) (K (eK 9223372036854775807) m1 h) (dL k 11 (K (eK (Int.negSucc 9223372036854775807)) m1 h) (jP ((4:Int)=0)/\K (eK (Int.tmod k 4)) m1 h)))
noncomputable abbrev fM(a:Nat)(b:List UInt8):List UInt8:=OfNat.ofNat a::b
noncomputable abbrev pZ(a:Nat):List UInt8:=fM a []
attribute [push_cast] fM pZ
def LI(cb:Nat)(m:MH)(h:PH)(K:CV->MH->PH->Prop):Prop:=
  gZ cb 10 m h (λk m1=>cW (k==0) (K (iT (ByteArray.mk (Array.mk (pZ 97)))) m1 h) (k==1) (K (iT (ByteArray.mk (Array.mk (pZ 97)))) m1 h) (cW (k==2) (K (iT (ByteArray.mk (Array.mk (pZ 97)))) m1 h) (k==3) (K (iT (ByteArray.mk (Array.mk (pZ 98)))) m1 h) (cW (k==4) (K (iT (ByteArray.mk (Array.mk (pZ 98)))) m1 h) (k==5) (K (CV.val R8) m1 h) (cW (k==6) (K (iT (ByteArray.mk (Array.mk (fM 97 (fM 0 []))))) m1 h) (k==7) (K (iT (ByteArray.mk (Array.mk (pZ 255)))) m1 h) (dL k 8 (∃(I:Nat×ByteArray×MH->Prop)(m2:Nat×ByteArray×MH->Nat),(∃(x:Nat×ByteArray×MH),aA (I x) (SV.at PL=SV.at (Nb x.2.1)) (aA (bE x.1) (m1=x.2.2) (bT h h)))/\∀(x:Nat×ByteArray×MH),I x->bA (↑x.1:Int) 64 (x.2.1.size<9223372036854775807/\∃(x1:Nat×ByteArray×MH),aA (I
 x1) (m2 x1<m2 x) (aA (SV.at (Nb (x.2.1++ByteArray.mk (Array.mk (pZ 255))))=SV.at (Nb x1.2.1)) (fY (aT ((↑x.1:Int)+1))=bZ x1.1) (cA (x.2.2=x1.2.2) h h))) (K (iT x.2.1) x.2.2 h)) (∃(I:Nat×ByteArray×MH->Prop)(m2:Nat×ByteArray×MH->Nat),(∃(x:Nat×ByteArray×MH),aA (I x) (SV.at PL=SV.at (Nb x.2.1)) (aA (bE x.1) (m1=x.2.2) (bT h h)))/\∀(x:Nat×ByteArray×MH),I x->bA (↑x.1:Int) 64 (x.2.1.size<9223372036854775807/\∃(x1:Nat×ByteArray×MH),aA (I x1) (m2 x1<m2 x) (aA (SV.at (Nb (x.2.1++ByteArray.mk (Array.mk (pZ 98))))=SV.at (Nb x1.2.1)) (fY (aT ((↑x.1:Int)+1))=bZ x1.1) (cA (x.2.2=x1.2.2) h h))) (K (iT x.2.1) x.2.2 h)))))))
noncomputable abbrev vI(a:Nat):List CV:=oB (qB a 0)
abbrev jQ(a:MH)(b:PH)(c:Nat)(d:Prop):Prop:=aK a b c->d
attribute [push_cast] vI jQ
def OO(cb:Nat)(kind:Int)(m:MH)(h:PH)(K:CV->MH->PH->Prop):Prop:=
  cW (kind==3) (gZ cb 2 m h (λk m1=>K (jI (aL (dY kind) (dY k) wY)) m1 h)) (kind==4) (∃(c:Nat),aA (vI cb=vI c) (aK m h c) (∀(k:Int)(m1:MH),aU (Np k) (bB m m1 c) (jQ m1 h c (K (jI (aL (dY kind) (dY k) wY)) m1 h)))) (∃(c:Nat),aA (vI cb=vI c) (aK m h c) (∀(t:ByteArray)(m1:MH),aU (t.size<=64) (bB m m1 c) (jQ m1 h c (K (jI (aL (dY 5) bC (iC (Value.string t)))) m1 h))))
theorem YW{n:Int}(hc:aK m h cb)(hK:∀r m',bB m m' cb->aK m' h cb->K (cB r) m' h):Ph cb n m h K:=
 ⟨cb,n,rfl,hc,λ_ m' _ _ ho hc'=>hK _ m' ho hc'⟩
theorem DQ:BR ⟨#[]⟩=true:=by simp[BR,ByteArray.toList_eq]
theorem YD{k:Int}(h0:0<=k)(h1:k<2\/k=0):jL ⟨3,k,⟨#[]⟩⟩=true:=by
 have:k=0\/k=1:=by omega
 rcases this with rfl|rfl<;>simp[jL,DQ]
theorem UR(k:Int):jL ⟨4,k,⟨#[]⟩⟩=true:=by simp[jL,DQ]
theorem YC{t:ByteArray}(h:t.size<=64):jL ⟨5,0,t⟩=true:=by
 simp[jL];omega
theorem wL:Sound Tryz.prog 16 Kb:=by
 refine hX Tryz.func16 ?_;rintro cvs m h K ⟨cb,n,rfl,_,_,hc,hK⟩;refine⟨dN [(15,FH)] [] [] [] false,rfl,aD Gb aF,Ph cb n m h K,by kernel_rfl,?_⟩;exact YW hc hK
theorem RC:Sound Tryz.prog 108 Ta:=by
 refine hX Tryz.func108 ?_;rintro cvs m h K ⟨cb,rfl,hc,hK⟩;refine⟨dN [(15,FH)] [] [] [] false,rfl,aD Gb aF,LJ cb m h K,by kernel_rfl,?_⟩;dsimp only[LJ,push_cast];refine⟨cb,12,rfl,hc,λk m' h0 h1 ho hc'=>aB (λ_=>hK _ m' ⟨aC,aC⟩ ho hc') (λ_=>aB (λ_=>hK _ m' ⟨aC,aC⟩ ho hc') (λ_=>aB (λ_=>hK _ m' ⟨aC,aC⟩ ho hc') (λ_=>⟨aC,hK _ m' ?_ ho hc'⟩)))⟩;rw[Int.tmod_eq_emod_of_nonneg h0];exact⟨aC,aC⟩
theorem RB:Sound Tryz.prog 109 Yi:=by
 refine hX Tryz.func109 ?_;rintro cvs m h K ⟨cb,rfl,hc,hK⟩;refine⟨V1 h,rfl,aD Gb aF,LI cb m h K,by kernel_rfl,?_⟩;dsimp only[LI,push_cast];refine⟨cb,10,rfl,hc,λk m' h0 h1 ho hc'=>?_⟩;refine aB (λ_=>hK _ m' (by decide) ho hc') (λ_=>aB (λ_=>hK _ m' (by decide) ho hc') (λ_=>aB (λ_=>hK _ m' (by decide) ho hc') (λ_=>aB (λ_=>hK _ m' (by decide) ho hc') (λ_=>aB (λ_=>hK _ m' (by decide) ho hc') (λ_=>aB (λ_=>hK _ m' (by decide) ho hc') (λ_=>aB (λ_=>hK _ m' (by decide) ho hc') (λ_=>aB (λ_=>hK _ m' (by decide) ho hc') (λ_=>aB (λ_=>?_) (λ_=>?_)))))))))
 all_goals
  refine⟨λ⟨i,t,mx⟩=>mx=m'/\i<=64/\t.size=i,λ⟨i,_,_⟩=>64-i,⟨(0,⟨#[]⟩,m'),⟨rfl,aC,rfl⟩,MT⟩,?_⟩;rintro⟨i,t,m'⟩ ⟨rfl,hi,ht⟩;dsimp only;refine aE (λhlt=>⟨?_,(i+1,_,m'),⟨rfl,aC,?_⟩,by show 64-(i+1)<64-i;omega,MT⟩) (λhge=>hK t m' aC ho hc')
  .rw[ht];show i+1<=_;omega
  .rw[ByteArray.size_append,ht];rfl
theorem Gf:Sound Tryz.prog 77 Ng:=by
 refine hX Tryz.func77 ?_;rintro cvs m h K ⟨cb,kind,rfl,hc,hK⟩;refine⟨dN [(15,FH),(108,Ta),(109,Yi)] [] [] [] false,rfl,aD Gb (aD RC (aD RB aF)),OO cb kind m h K,by kernel_rfl,?_⟩;dsimp only[OO,push_cast];refine aB (λe=>⟨cb,2,rfl,hc,λk m' h0 h1 ho hc'=>hK ⟨kind,k,⟨#[]⟩⟩ m' ⟨⟨by show-9223372036854775808<=k;omega,by show k<=9223372036854775807;omega⟩,by show(ByteArray.mk #[]).size<=64;decide⟩ (λ_=>?_) ho hc'⟩) (λe1=>aB (λe=>⟨cb,rfl,hc,λk m' hk ho hc'=>hK ⟨kind,k,⟨#[]⟩⟩ m' ⟨hk,by show(ByteArray.mk #[]).size<=64;decide⟩ (λ_=>?_) ho hc'⟩) (λe2=>⟨cb,rfl,hc,λt m' ht ho hc'=>hK ⟨5,0,t⟩ m' ⟨⟨by simp,by simp⟩,ht⟩ (λhk=>?_) ho hc'⟩))
 .have e:kind=3:=by simpa using e
  subst e;exact⟨YD h0 h1,rfl⟩
 .have e:kind=4:=by simpa using e
  subst e;exact⟨UR k,rfl⟩
 .have e1:kind≠3:=by simpa using e1
  have e2:kind≠4:=by simpa using e2
  exact⟨YC ht,by rcases hk with hk|hk|hk;exact absurd hk e1;exact absurd hk e2;exact hk.symm⟩
mutual
def FG:Pred->Prop
 |.mk _ _ l r args=>HB l.value/\HB r.value/\J3 args
def J3:List Pred->Prop
 |[]=>True
 |p::ps=>FG p/\J3 ps
end
theorem J2:∀{l:List Pred},J3 l↔∀p∈l,FG p
 |[]=>by simp[J3]
 |p::ps=>by simp[J3,J2 (l:=ps)]
theorem mQ:HB zeroV:=⟨⟨by decide,by decide⟩,by decide⟩
structure PO(cols params:List Int)(kind:Int)(o:OV):Prop where
 val:HB o.value
 kind:X8 kind->kindOf cols params o=kind
def FJ(l:List Int):Prop:=∀k∈l,X8 k
structure PW(cols params:List Int)(d:Nat)(p:Pred):Prop where
 vals:FG p
 valid:FJ cols->iS cols params p=true
 siz:JZ d p
def PN:Vc.Spec:=λcvs m h K=>∃cb s t kind cols params,cvs=[cP cb,cS s,cS t,cI kind]/\aK m h cb/\Ints h s cols/\Ints h t params/\cols.length<=1000/\params.length<=1000/\∀o m',PO cols params kind o->bB m m' cb->aK m' h cb->K (aO o) m' h
def KP(K:CV->MH->PH->Prop)(m:MH)(h:PH)(cb:Nat)(R:Pred->Prop):Prop:=∀v p m' h',PH.le h h'->eH h' p v->R p->bB m m' cb->aK m' h' cb->K (aP v) m' h'
def Wh(N:Nat):Vc.Spec:=λcvs m h K=>∃cb s t cols params,∃deep:Nat,cvs=[cP cb,cS s,cS t,cI deep]/\aK m h cb/\Ints h s cols/\Ints h t params/\cols.length<=1000/\params.length<=1000/\deep<N/\deep<=1000/\KP K m h cb (PW cols params deep)
structure u0(cols params:List Int)(d:Nat)(p:Pred):Prop where
 vals:FG p
 valid:d<=2->FJ cols->FJ params->hZ cols params p=0
def xH:Vc.Spec:=λcvs m h K=>∃cb s t cols params,∃deep:Nat,cvs=[cP cb,cS s,cS t,cI deep]/\aK m h cb/\Ints h s cols/\Ints h t params/\cols.length<=1000/\params.length<=1000/\deep<=1000/\KP K m h cb (u0 cols params deep)
def pv(b:Nat):SV:=vv (.pointer (some ⟨b,0,none⟩))
noncomputable def Xb(cb:Nat)(s t:Sl)(kind:Int)(m:MH)(h:PH):Ctx:=
 dN [(15,FH),(77,Ng)] [(3,{A:=Nat×List OV,st:=λ⟨i,os⟩=>cJ 64 68 [(0,pv cb),(2,sv t),(3,iv kind),(8,.at (.ptr 8 0)),(9,.at (.lst 29)),(15,sv s),(16,iv s.len),(17,iv i)] [(8,.cells 29 (dH.enc.map .val)),(29,.lst 29 5 (os.map OV.enc))] m h}),
  (9,{A:=Nat×List OV,st:=λ⟨i,os⟩=>cJ 64 68 [(0,pv cb),(3,iv kind),(8,.at (.ptr 8 0)),(9,.at (.lst 29)),(31,sv t),(32,iv t.len),(33,iv i)] [(8,.cells 29 (dH.enc.map .val)),(29,.lst 29 5 (os.map OV.enc))] m h})] [] [] false
noncomputable def Xo(N:Nat)(cb:Nat)(s t:Sl)(deep:Nat)(h0:PH):Ctx:=
 dN [(15,FH),(16,Kb),(96,PN),(77,Ng),(68,Wh N)] [(18,{A:=Int×Int×List PV×MH×PH,st:=λ⟨op,n,us,m,h⟩=>cJ 107 111 [(0,pv cb),(1,sv s),(2,sv t),(3,iv deep),(8,.at (.ptr 8 0)),(12,.at (.ptr 12 0)),(13,iv n)] [(8,.cells 32 (fT.enc.map .val)),(12,.cells 32 (((⟨op,0,dH,dH,⟨none,0,0⟩⟩:PV).enc.take 12).map .val++[.lst 104])),(104,.lst 32 13 (us.map PV.enc))] m h})] [(3,{A:=Int×Bool×MH,st:=λ⟨k,b,m⟩=>cJ 107 111 [(0,pv cb),(1,sv s),(2,sv t),(3,iv deep),(8,.at (.ptr 8 0)),(9,iv k),(16,bv b)] [(8,.cells 32 (fT.enc.map .val))] m h0}),
  (5,{A:=Int×Bool×MH,st:=λ⟨k,b,m⟩=>cJ 107 111 [(0,pv cb),(1,sv s),(2,sv t),(3,iv deep),(8,.at (.ptr 8 0)),(9,iv k),(27,bv b)] [(8,.cells 32 (fT.enc.map .val))] m h0}),
  (8,{A:=Int×MH,st:=λ⟨k,m⟩=>cJ 107 111 [(0,pv cb),(1,sv s),(2,sv t),(8,.at (.ptr 8 0)),(10,iv k)] [(8,.cells 32 (fT.enc.map .val))] m h0}),
  (9,{A:=PV×Int×MH,st:=λ⟨p,k,m⟩=>cJ 107 111 [(0,pv cb),(1,sv s),(2,sv t),(8,.at (.ptr 8 0)),(10,iv k),(11,.at (.ptr 11 0))] [(8,.cells 32 (fT.enc.map .val)),(11,.cells 32 (p.enc.map .val))] m h0}),
  (11,{A:=PV×MH,st:=λ⟨p,m⟩=>cJ 107 111 [(0,pv cb),(8,.at (.ptr 8 0)),(11,.at (.ptr 11 0))] [(8,.cells 32 (fT.enc.map .val)),(11,.cells 32 (p.enc.map .val))] m h0}),
  (13,{A:=PV×MH,st:=λ⟨p,m⟩=>cJ 107 111 [(8,.at (.ptr 8 0)),(11,.at (.ptr 11 0))] [(8,.cells 32 (fT.enc.map .val)),(11,.cells 32 (p.enc.map .val))] m h0})] [] false
noncomputable abbrev dQ(a b:Int)(c:List At):List At:=lT (mO a) (mO b) c
abbrev AF:Prop:=eQ (oQ 29 (dQ 0 0 (dQ 0 0 (oK PL))))
noncomputable abbrev mW(a:Nat×List OV):List (List Value):=List.map OV.enc a.2
abbrev ET(a b:Nat×List OV):Prop:=fY (aT ((↑a.1:Int)+1))=bZ b.1
abbrev AP(a:Nat)(b:Int)(c:Nat->Option Obj)(d:Nat->Nat->Option Value)(e:VV->MH->Prop):Prop:=∃(x:Nat)(x1:Int),aA (bD (qB a 0) b=bD (qB x 0) x1) (aK c d x) (∀(x2:VV)(x3:MH),aU (HB x2) (Tf x1 x2) (aU (bB c x3 x) (aK x3 d x) (e x2 x3)))
attribute [push_cast] dQ AF mW ET AP
def OB(cb:Nat)(s t:Sl)(kind:Int)(m:MH)(h:PH)(K:CV->MH->PH->Prop):Prop:=
  ∃(I:Nat×List OV->Prop)(m1:Nat×List OV->Nat),(∃(x:Nat×List OV),aA (I x) (cX cb) (aA (aJ t) (eQ (fY kind)) (aA eE (eL 29) (aA (aJ s) (bJ s) (aA (bE x.1) AF (aA (qW 29 5 (cR 29 5 (mW x))) (m=m) (bT h h)))))))/\∀(x:Nat×List OV),I x->bA (↑x.1:Int) (aG s) (aW (λb o=>aH (aX s.a b o) (0<=(↑x.1:Int)) ((↑x.1:Int)<aG s) (∃(y:Int),aM m h b (bL o x.1 1) (bN y)/\dL y kind (pR (mW x) 48 (∃(x1:Nat×List OV),aA (I x1) (m1 x1<m1 x) (aA (cX cb) (aJ t) (aA (eQ (fY kind)) eE (aA (eL 29) (aJ s) (aA (bJ s) (ET x x1) (aA AF (cR 29 5 (eB (mW x) (aL (dY 1) (dY (↑x.1:Int)) (aL bC bC wY)))=cR 29 5 (mW x1)) (cA (m=m) h h)))))))) (∃(x1:Nat×List OV),aA (I x1) (m1 x1<m1 x)
 (aA (cX cb) (aJ t) (aA (eQ (fY kind)) eE (aA (eL 29) (aJ s) (aA (bJ s) (ET x x1) (aA AF (cR 29 5 (mW x)=cR 29 5 (mW x1)) (cA (m=m) h h)))))))))) (∃(I1:Nat×List OV->Prop)(m2:Nat×List OV->Nat),(∃(x1:Nat×List OV),aA (I1 x1) (cX cb) (aA (eQ (fY kind)) eE (aA (eL 29) (aJ t) (aA (bJ t) (bE x1.1) (pJ AF (cR 29 5 (mW x)=cR 29 5 (mW x1)) (m=m) h h)))))/\∀(x1:Nat×List OV),I1 x1->bA (↑x1.1:Int) (aG t) (aW (λb o=>aH (aX t.a b o) (0<=(↑x1.1:Int)) ((↑x1.1:Int)<aG t) (∃(y:Int),aM m h b (bL o x1.1 1) (bN y)/\dL y kind (pR (mW x1) 48 (∃(x2:Nat×List OV),aA (I1 x2) (m2 x2<m2 x1) (aA (cX cb) (eQ (fY kind)) (aA eE (eL 29) (aA (aJ t) (bJ t) (aA (ET x1 x2) AF (aA
 (cR 29 5 (eB (mW x1) (aL (dY 2) (dY (↑x1.1:Int)) (aL bC bC wY)))=cR 29 5 (mW x2)) (m=m) (bT h h)))))))) (∃(x2:Nat×List OV),aA (I1 x2) (m2 x2<m2 x1) (aA (cX cb) (eQ (fY kind)) (aA eE (eL 29) (aA (aJ t) (bJ t) (aA (ET x1 x2) AF (aA (cR 29 5 (mW x1)=cR 29 5 (mW x2)) (m=m) (bT h h)))))))))) (gZ cb (aT ((↑(mW x1).length:Int)+1)) m h (λk m3=>bA k (iL (mW x1)) (aA (cD k) (k<iL (mW x1)) (∃(e:List Value),rK (mW x1) k.toNat e/\∃(y:OV),AJ 5 e y.enc/\K (jI y.enc) m3 h)) (AP cb kind m3 h (λv m4=>K (jI (aL (dY 3) bC (aL (dY v.kind) (dY v.int) (iC (Value.string v.text))))) m4 h)))))
abbrev j6(a:Nat)(b:Int)(c:Nat->Option Obj)(d:Nat->Nat->Option Value)(e:Nat->Bool->Prop):Prop:=∃(x:Nat)(x1:Int),aA (bD (qB a 0) b=bD (qB x 0) x1) (cD x1) (aA (x1<=1000) (aK c d x) (∀(x2:Bool),e x x2))
abbrev rI:Prop:=eQ (oQ 32 zP)
abbrev EE(a:Int×Bool×MH->Prop)(b:Nat)(c d:Sl)(e:Nat)(g:Int)(i:(Int×Bool×MH)->Prop)(j:Nat->Option Obj)(k:PH):Prop:=∃(x:Int×Bool×MH),aA (a x) (cX b) (aA (aJ c) (aJ d) (aA (eQ (bZ e)) eE (aA (cM g x.1) (i x) (aH rI (j=x.2.2) (k=k) True))))
abbrev jG(a:Nat):Prop:=a<=1000
abbrev fI(a:List Int):Prop:=jG a.length
noncomputable abbrev C2(a:OV):At:=Nb a.value.text
abbrev wA(a:Sl->Sl->(List Int)->(List Int)->Nat->Prop):Prop:=iZ (λx x1=>uC (λx2 x3=>∃(x4:Nat),a x x1 x2 x3 x4))
abbrev AB(a:PV->Pred->Prop):Prop:=∀(x:PV)(x1:Pred),a x x1
abbrev fC(a:MH->PH->Prop):Prop:=∀(x:MH)(x1:PH),a x x1
abbrev EF(a:List CV)(b:MH)(c:PH)(d:Nat)(e:PV->MH->PH->Prop):Prop:=∃(x:Nat),wA (λx1 x2 x3 x4 x5=>aA (a=qB x 0::cH x1 (fL x2 (↑x5:Int))) (aK b c x) (aA (Ints c x1 x3) (Ints c x2 x4) (aA (fI x3) (fI x4) (aA (x5<d) (jG x5) (AB (λx6 x7=>fC (λx8 x9=>dK c x9 (eH x9 x7 x6) (aU (PW x3 x4 x5 x7) (bB b x8 x) (jQ x8 x9 x (e x6 x8 x9))))))))))
noncomputable abbrev C0(a:Int×Int×List PV×MH×PH):List (List Value):=List.map PV.enc a.2.2.1
abbrev bK(a:Nat->Option Obj)(b:MH×PH):Prop:=a=b.1
noncomputable abbrev E4(a:Int×Int×List PV×MH×PH):Nat->Nat->Option Value:=a.2.2.2.2
attribute [push_cast] j6 rI EE jG fI C2 wA AB fC EF C0 bK E4
def OS(N:Nat)(cb:Nat)(s t:Sl)(deep:Nat)(m:MH)(h:PH)(K:CV->MH->PH->Prop):Prop:=
  gZ cb 9 m h (λk m1=>∃(I:Int×Bool×MH->Prop),dL k 0 (j6 cb 2 m1 h (λc r=>∀(m2:MH),aU (bB m1 m2 c) (aK m2 h c) (EE I cb s t deep k (λx=>gP r x.2.1) m2 h))) (EE I cb s t deep k (λx=>Ay x.2.1) m1 h)/\∀(x:Int×Bool×MH),gQ (I x) x.2.1 (gZ cb 2 x.2.2 h (λk1 m2=>K (jI (aL (dY (aT (1+k1))) bC (aL bC bC (aL bC bC (aL R8 bC (aL bC bC (aL bC R8 iD))))))) m2 h)) (∃(I1:Int×Bool×MH->Prop),bA x.1 6 (EE I1 cb s t deep x.1 (λx1=>uS x1.2.1) x.2.2 h) (EE I1 cb s t deep x.1 (λx1=>gP (decide ((↑deep:Int)<1)) x1.2.1) x.2.2 h)/\∀(x1:Int×Bool×MH),I1 x1->cW x1.2.1 (∃(I2:Int×MH->Prop),dV (aG s) 0 (gZ cb (aG s) x1.2.2 h (λk1 m2=>aW (λb o=>aH (aX s.a b o) (0<=k1) (k1<
 aG s) (∃(y:Int),aM m2 h b (fR o k1 1) (bN y)/\∃(x2:Int×MH),aA (I2 x2) (cX cb) (aA (aJ s) (aJ t) (aA eE (cM y x2.1) (aA rI (m2=x2.2) (bT h h)))))))) (∃(x2:Int×MH),aA (I2 x2) (cX cb) (aA (aJ s) (aJ t) (aA eE (cM 4 x2.1) (aA rI (x1.2.2=x2.2) (bT h h)))))/\∀(x2:Int×MH),I2 x2->∃(I3:PV×Int×MH->Prop),gZ cb 6 x2.2 h (λk1 m2=>∃(c:Nat),iZ (λs1 t1=>∃(k2:Int),uC (λc1 p=>aA (qB cb 0::cH s (fL t x2.1)=qB c 0::cH s1 (fL t1 k2)) (aK m2 h c) (aA (Ints h s1 c1) (Ints h t1 p) (aA (fI c1) (fI p) (∀(o:OV)(m3:MH),aU (PO c1 p k2 o) (bB m2 m3 c) (jQ m3 h c (AP cb x2.1 m3 h (λv m4=>∃(x3:PV×Int×MH),aA (I3 x3) (cX cb) (aA (aJ s) (aJ t) (aA eE (cM x2.1 x3.2.1)
 (aA (eP 11) rI (aH (oQ 32 (dQ 3 (aT (1+k1)) (dQ o.kind o.index (dQ (oY o) o.value.int (lT (C2 o) (mO 3) (dQ 0 v.kind (lT (mO v.int) (Nb v.text) (oK JU)))))))=oL 32 x3.1.enc) (m4=x3.2.2) (h=h) True)))))))))))))/\∀(x3:PV×Int×MH),I3 x3->∃(I4:PV×MH->Prop),j6 cb 3 x3.2.2 h (λc r=>∀(m2:MH),aU (bB x3.2.2 m2 c) (aK m2 h c) (branch r (∃(c1:Nat),iZ (λs1 t1=>∃(k1:Int),uC (λc2 p=>aA (qB cb 0::cH s (fL t x3.2.1)=qB c1 0::cH s1 (fL t1 k1)) (aK m2 h c1) (aA (Ints h s1 c2) (Ints h t1 p) (aA (fI c2) (fI p) (∀(o:OV)(m3:MH),aU (PO c2 p k1 o) (bB m2 m3 c1) (jQ m3 h c1 (∃(x4:PV×MH),aA (I4 x4) (cX cb) (aA eE (eP 11) (aA rI (oQ 32 (dQ x3.1.op x3.1.cmp (dQ x3.1.left.kind x3.1.left.index
 (dQ (oY x3.1.left) x3.1.left.value.int (lT (C2 x3.1.left) (mO o.kind) (dQ o.index (oY o) (lT (mO o.value.int) (C2 o) (pW x3.1.args)))))))=oL 32 x4.1.enc) (aA (m3=x4.2) (h=h) True))))))))))) (∃(x4:PV×MH),aA (I4 x4) (cX cb) (aA eE (eP 11) (aA rI (oL 32 x3.1.enc=oL 32 x4.1.enc) (aA (m2=x4.2) (h=h) True))))))/\∀(x4:PV×MH),I4 x4->∃(I5:PV×MH->Prop),j6 cb 6 x4.2 h (λc r=>∀(m2:MH),aU (bB x4.2 m2 c) (aK m2 h c) (branch r (∃(x5:PV×MH),aA (I5 x5) eE (aA (eP 11) rI (aH (oQ 32 (dQ x4.1.op x4.1.cmp (dQ x4.1.right.kind x4.1.right.index (dQ (oY x4.1.right) x4.1.right.value.int (lT (C2 x4.1.right) (mO x4.1.left.kind) (dQ x4.1.left.index (oY x4.1.left) (lT (mO x4.1.left.value.int) (C2 x4.1.left) (pW x4.1.args)))))))=
 oL 32 x5.1.enc) (m2=x5.2) (h=h) True))) (∃(x5:PV×MH),aA (I5 x5) eE (aA (eP 11) rI (aH (oL 32 x4.1.enc=oL 32 x5.1.enc) (m2=x5.2) (h=h) True)))))/\∀(x5:PV×MH),I5 x5->K (jI x5.1.enc) x5.2 h) (x1.1==6) (EF (qB cb 0::cH s (fL t (aT ((↑deep:Int)-1)))) x1.2.2 h N (λv m2 h1=>bM h1 13 (eX v.enc) (λs1 h2=>K (jI (aL (dY 6) bC (aL bC bC (aL bC bC (aL R8 bC (aL bC bC (aL bC R8 (aR s1)))))))) m2 h2))) (gZ cb 3 x1.2.2 h (λk1 m2=>∃(I2:Int×Int×List PV×MH×PH->Prop)(m3:Int×Int×List PV×MH×PH->Nat),(∃(x2:Int×Int×List PV×MH×PH),aA (I2 x2) (cX cb) (aA (aJ s) (aJ t) (aA (eQ (bZ deep)) eE (aA (eP 12) (cM k1 x2.2.1) (aA rI (oQ 32 (dQ (aT (aT (4+x1.1)-7)) 0 (dQ 0 0 (dQ 0 0
 (lT PL (mO 0) (dQ 0 0 (lT (mO 0) PL (oK (At.lst 104))))))))=oQ 32 (dQ x2.1 0 (dQ 0 0 (dQ 0 0 (lT PL (mO 0) (dQ 0 0 (lT (mO 0) PL (oK (At.lst 104))))))))) (aA (qW 32 13 (cR 32 13 (C0 x2))) (bK m2 x2.2.2.2) (bT h (E4 x2))))))))/\∀(x2:Int×Int×List PV×MH×PH),I2 x2->fW x2.2.1 0 (EF (qB cb 0::cH s (fL t (aT ((↑deep:Int)-1)))) x2.2.2.2.1 (E4 x2) N (λv m4 h1=>pR (C0 x2) 136 (∃(x3:Int×Int×List PV×MH×PH),aA (I2 x3) (m3 x3<m3 x2) (aA (cX cb) (aJ s) (aA (aJ t) (eQ (bZ deep)) (aA eE (eP 12) (aA (cM (mG x2.2.1) x3.2.1) rI (aA (oQ 32 (dQ x2.1 0 (dQ 0 0 (dQ 0 0 (lT PL (mO 0) (dQ 0 0 (lT (mO 0) PL (oK (At.lst 104))))))))=oQ 32 (dQ x3.1 0 (dQ 0 0 (dQ 0 0 (lT PL (mO 0) (dQ
 0 0 (lT (mO 0) PL (oK (At.lst 104))))))))) (cR 32 13 (eB (C0 x2) v.enc)=cR 32 13 (C0 x3)) (cA (bK m4 x3.2.2.2) h1 (E4 x3)))))))))) (bM (E4 x2) 13 (C0 x2) (λs1 h1=>K (jI (aL (dY x2.1) bC (aL bC bC (aL bC bC (aL R8 bC (aL bC bC (aL bC R8 (aR s1)))))))) x2.2.2.2.1 h1))))))
def O7(N:Nat)(cb:Nat)(s t:Sl)(deep:Nat)(m:MH)(h:PH)(K:CV->MH->PH->Prop):Prop:=
  EF (qB cb 0::cH s (fL t (↑deep:Int))) m h N (λv m1 h1=>CI (cH s (fK t (jI v.enc))) h1 (λc p p1=>dL (hZ c p p1) 2 (EF (qB cb 0::cH s (fL t 1)) m1 h1 N (λv1 m2 h2=>K (jI v1.enc) m2 h2)) (K (jI v.enc) m1 h1)))
theorem Pu:Uy zeroV zeroV=true:=by simp[Uy]
theorem xO:Mu 0 dH dH=true:=by simp[Mu,Uz,Uy]
theorem Qk{cols params:List Int}{x:Int}(h:cols[i]? =some x):kindOf cols params ⟨1,i,zeroV⟩=x:=by
 have hl:=(List.getElem?_eq_some_iff.1 h).1;have e:kindOf cols params ⟨1,i,zeroV⟩=oV cols ⟨1,i,zeroV⟩:=rfl;have e2:=Pu;rw[e];simp only[oV,e2,Bool.not_true,Bool.or_false];rw[if_neg (by simp;omega)];simp[List.getD_eq_getElem?_getD,h]
theorem Qj{cols params:List Int}{x:Int}(h:params[i]? =some x):kindOf cols params ⟨2,i,zeroV⟩=x:=by
 have hl:=(List.getElem?_eq_some_iff.1 h).1;have e:kindOf cols params ⟨2,i,zeroV⟩=oV params ⟨2,i,zeroV⟩:=rfl;have e2:=Pu;rw[e];simp only[oV,e2,Bool.not_true,Bool.or_false];rw[if_neg (by simp;omega)];simp[List.getD_eq_getElem?_getD,h]
theorem Oa{cols params:List Int}{kind:Int}{v:VV}(hv:HB v)(hk:Tf kind v):PO cols params kind ⟨3,0,v⟩:=⟨hv,λh=>by
 obtain⟨h1,h2⟩:=hk h;have e:kindOf cols params ⟨3,0,v⟩=if((0:Int) !=0|| !lA v)then 0 else v.kind:=rfl
 rw[e,if_neg,h2];simp only[lA,h1,h2];rcases h with rfl|rfl|rfl<;>decide⟩
theorem TR:Sound Tryz.prog 96 PN:=by
 refine hX Tryz.func96 ?_;rintro cvs m h K ⟨cb,s,t,kind,cols,params,rfl,hc,hs,ht,l1,l2,hK⟩;refine⟨Xb cb s t kind m h,rfl,aD Gb (aD Gf aF),OB cb s t kind m h K,by kernel_rfl,?_⟩;dsimp only[OB,push_cast];have hsl:=hs.slen;have htl:=ht.slen;refine⟨λ⟨i,os⟩=>i<=cols.length/\os.length<=i/\∀o∈os,PO cols params kind o,λ⟨i,_⟩=>cols.length-i,⟨(0,[]),⟨aC,by simp,by simp⟩,MT⟩,?_⟩;rintro⟨i,os⟩ ⟨hi,hol,hos⟩;dsimp only;refine aE (λhlt=>?_) (λhge=>?_)
 .obtain⟨x,hx⟩:=fJ hsl hlt;obtain⟨b1,o1,e1,r1⟩:=hs.at' hx;refine⟨b1,o1,e1,aC,hlt,x,.imm r1,aB (λek=>⟨by simp;omega,by simp;omega,(i+1,os++[⟨1,i,zeroV⟩]),⟨aC,by simp;omega,?_⟩,by show cols.length-(i+1)<cols.length-i;omega,?_⟩) (λ_=>⟨(i+1,os),⟨aC,by show os.length<=i+1;omega,hos⟩,by show cols.length-(i+1)<cols.length-i;omega,MT⟩)⟩
  .intro o ho;rcases List.mem_append.1 ho with h1|h1
   .exact hos o h1
   .simp at h1;subst h1;exact⟨mQ,λ_=>by rw[Qk (by simpa using hx)];simpa using ek⟩
  .rw[List.map_append];exact MT
 refine⟨λ⟨i,os⟩=>i<=params.length/\os.length<=1000+i/\∀o∈os,PO cols params kind o,λ⟨i,_⟩=>params.length-i,⟨(0,os),⟨aC,aC,hos⟩,MT⟩,?_⟩;clear hi hol hos hge;rintro⟨i,os⟩ ⟨hi,hol,hos⟩;dsimp only;refine aE (λhlt=>?_) (λhge=>?_)
 .obtain⟨x,hx⟩:=fJ htl hlt;obtain⟨b1,o1,e1,r1⟩:=ht.at' hx;refine⟨b1,o1,e1,aC,hlt,x,.imm r1,aB (λek=>⟨by simp;omega,by simp;omega,(i+1,os++[⟨2,i,zeroV⟩]),⟨aC,by simp;omega,?_⟩,by show params.length-(i+1)<params.length-i;omega,?_⟩) (λ_=>⟨(i+1,os),⟨aC,by show os.length<=1000+(i+1);omega,hos⟩,by show params.length-(i+1)<params.length-i;omega,MT⟩)⟩
  .intro o ho;rcases List.mem_append.1 ho with h1|h1
   .exact hos o h1
   .simp at h1;subst h1;exact⟨mQ,λ_=>by rw[Qj (by simpa using hx)];simpa using ek⟩
  .rw[List.map_append];exact MT
 .refine⟨cb,_,rfl,hc,λk m' h0 h1 ho hc'=>aE (λhk=>?_) (λhk=>⟨cb,kind,rfl,hc',λv m'' hv hkw ho' hc''=>hK ⟨3,0,v⟩ m'' (Oa hv hkw) (ho.trans ho') hc''⟩)⟩;have hk':k.toNat<os.length:=by simp at hk;omega
  exact⟨h0,hk,_,by rw[List.getElem?_map,List.getElem?_eq_getElem hk'];rfl,os[k.toNat],rfl,hK _ m' (hos _ (List.getElem_mem hk')) ho hc'⟩
theorem Jf{h:PH}{v:PV}(ha:v.args=⟨none,0,0⟩):eH h (.mk v.op v.cmp v.left v.right []) v:=eH.mk (by rw[ha];exact .nil _ _ _ _)
structure WG(cols params:List Int)(kd:Int)(p:PV):Prop where
 args_:p.args=⟨none,0,0⟩
 op_:p.op=3
 cmp_:1<=p.cmp/\p.cmp<=6
 left_:PO cols params kd p.left
 right_:PO cols params kd p.right
 kind_:FJ cols->X8 kd
theorem W0{k:Int}(h:X8 k):k≠0:=by rcases h with rfl|rfl|rfl<;>decide
theorem WG.pw{cols params:List Int}{kd:Int}{p:PV}(x:WG cols params kd p)(d:Nat):PW cols params d (.mk p.op p.cmp p.left p.right []):=by
 refine⟨⟨x.left_.val,x.right_.val,trivial⟩,λhc=>?_,JZ.leaf d⟩;have hk:=x.kind_ hc;have h1:=x.left_.kind hk;have h2:=x.right_.kind hk;have h3:=W0 hk;have h4:=x.cmp_;rw[x.op_];simp[iS,h1,h2,h3,h4.1,h4.2]
theorem YJ{cols params:List Int}{d:Nat}(x:PW cols params d p):PW cols params (d+1) (.mk 6 0 dH dH [p]):=
 ⟨⟨mQ,mQ,x.vals,trivial⟩,λhc=>by
  have e:=xO;simp[iS,Ah,e,x.valid hc],JZ.node (λq hq=>by simp at hq;subst hq;exact x.siz) (by simp)⟩
theorem YK{cols params:List Int}{d:Nat}{op:Int}{ps:List Pred}(ho:op=4\/op=5)(x:∀p∈ps,PW cols params d p)(hl:ps.length<=3):PW cols params (d+1) (.mk op 0 dH dH ps):=
 ⟨⟨mQ,mQ,J2.2 λp hp=>(x p hp).vals⟩,λhc=>by
  have e:=xO;have e2:Ah cols params ps=true:=by rw[BH,List.all_eq_true];exactλp hp=>(x p hp).valid hc
  rcases ho with rfl|rfl<;>simp[iS,e,e2],JZ.node (λq hq=>(x q hq).siz) hl⟩
theorem SF:∀N,Sound Tryz.prog 68 (Wh N)
 |0=>by
  refine eG (fn:=Tryz.f68) (c:=dG Tryz.f68) Tryz.func68 rfl (by decide) ?_;rintro cvs m h K ⟨cb,s,t,cols,params,deep,rfl,_,_,_,_,_,hN,_⟩;omega
 |N+1=>by
  refine hX Tryz.func68 ?_;rintro cvs m h K ⟨cb,s,t,cols,params,deep,rfl,hc,hs,ht,l1,l2,hN,hd,hK⟩;refine⟨Xo N cb s t deep h,rfl,aD Gb (aD wL (aD TR (aD Gf (aD (SF N) aF)))),OS N cb s t deep m h K,by kernel_rfl,?_⟩;dsimp only[OS,push_cast];have hsl:=hs.slen;refine⟨cb,9,rfl,hc,λk m1 k0 k1 o1 c1=>?_⟩;refine⟨λ⟨k,_,mx⟩=>0<=k/\k<=8/\bB m mx cb/\aK mx h cb,aB (λ_=>⟨cb,2,rfl,aC,aC,c1,λr m2 o2 c2=>⟨(k,r,m2),⟨k0,aC,o1.trans o2,c2⟩,MT⟩⟩) (λ_=>⟨(k,false,m1),⟨k0,aC,o1,c1⟩,MT⟩),?_⟩;clear k0 k1 o1 c1 k m1;rintro⟨k,b,m1⟩ ⟨k0,k1,o1,c1⟩;dsimp only;refine aB (λ_=>⟨cb,2,rfl,c1,λj m2 j0 j1 o2 c2=>?_⟩) (λ_=>?_)
  .refine hK ⟨IntKind.i64.wrap (1+j),0,dH,dH,⟨none,0,0⟩⟩ _ m2 h (.refl _) (Jf rfl) ⟨⟨mQ,mQ,trivial⟩,λ_=>?_,JZ.leaf _⟩ (o1.trans o2) c2;have hj:j=0\/j=1:=by omega
   have e1:IntKind.i64.wrap 1=1:=by decide
   have e2:IntKind.i64.wrap 2=2:=by decide
   rcases hj with rfl|rfl
   .simp[iS,e1,xO]
   .simp[iS,e2,xO]
  refine⟨λ⟨k,b,mx⟩=>0<=k/\k<=8/\(b=false->6<=k/\1<=deep)/\bB m mx cb/\aK mx h cb,aE (λ_=>⟨(k,true,m1),⟨k0,k1,λe=>(by cases e),o1,c1⟩,MT⟩) (λhk=>⟨(k,_,m1),⟨k0,k1,λe=>?_,o1,c1⟩,MT⟩),?_⟩
  .simp at e;exact⟨aC,aC⟩
  clear k0 k1 o1 c1 k m1;rintro⟨k,b,m1⟩ ⟨k0,k1,kb,o1,c1⟩;dsimp only;refine aB (λ_=>?_) (λhb=>?_)
  .refine⟨λ⟨kd,mx⟩=>(FJ cols->X8 kd)/\bB m mx cb/\aK mx h cb,aE (λhpos=>⟨cb,s.len,rfl,c1,λj m2 j0 j1 o2 c2=>?_⟩) (λ_=>⟨(4,m1),⟨λ_=>.inr (.inl rfl),o1,c1⟩,MT⟩),?_⟩
   .obtain⟨b1,off,e1,r1⟩:=hs.inb (n:=j) j0 aC
    have hm:cols.getD j.toNat 0∈cols:=by
     have:j.toNat<cols.length:=by omega
     rw[List.getD_eq_getElem?_getD,List.getElem?_eq_getElem this];exact List.getElem_mem this
    exact⟨b1,off,e1,j0,aC,_,.imm r1,(_,m2),⟨λhcol=>hcol _ hm,o1.trans o2,c2⟩,MT⟩
   clear o1 c1 m1;rintro⟨kd,m1⟩ ⟨hkd,o1,c1⟩;dsimp only;refine⟨λ⟨p,kd,mx⟩=>WG cols params kd p/\bB m mx cb/\aK mx h cb,⟨cb,6,rfl,c1,λj m2 j0 j1 o2 c2=>⟨cb,s,t,kd,cols,params,rfl,c2,hs,ht,l1,l2,λo m3 ho o3 c3=>⟨cb,kd,rfl,c3,λv m4 hv hkw o4 c4=>⟨(⟨3,IntKind.i64.wrap (1+j),o,⟨3,0,v⟩,⟨none,0,0⟩⟩,kd,m4),⟨⟨rfl,rfl,?_,ho,Oa hv hkw,hkd⟩,((o1.trans o2).trans o3).trans o4,c4⟩,MT⟩⟩⟩⟩,?_⟩
   .show 1<=IntKind.i64.wrap (1+j)/\IntKind.i64.wrap (1+j)<=6;rw[dJ aC aC];omega
   clear o1 c1 m1 hkd kd;rintro⟨p,kd,m1⟩ ⟨pw,o1,c1⟩;dsimp only;refine⟨λ⟨p,mx⟩=>WG cols params kd p/\bB m mx cb/\aK mx h cb,⟨cb,3,rfl,aC,aC,c1,λr m2 o2 c2=>aB (λ_=>⟨cb,s,t,kd,cols,params,rfl,c2,hs,ht,l1,l2,λo m3 ho o3 c3=>⟨(⟨p.op,p.cmp,p.left,o,p.args⟩,m3),⟨⟨pw.args_,pw.op_,pw.cmp_,pw.left_,ho,pw.kind_⟩,(o1.trans o2).trans o3,c3⟩,MT⟩⟩) (λ_=>⟨(p,m2),⟨pw,o1.trans o2,c2⟩,MT⟩)⟩,?_⟩;clear pw o1 c1 m1 p;rintro⟨p,m1⟩ ⟨pw,o1,c1⟩;dsimp only;refine⟨λ⟨p,mx⟩=>WG cols params kd p/\bB m mx cb/\aK mx h cb,⟨cb,6,rfl,aC,aC,c1,λr m2 o2 c2=>aB (λ_=>⟨(⟨p.op,p.cmp,p.right,p.left,p.args⟩,m2),⟨⟨pw.args_,pw.op_,pw.cmp_,pw.right_,pw.left_,pw.kind_⟩,o1.trans o2,c2⟩,MT⟩) (λ_=>⟨(p,m2),⟨pw,o1.trans o2,c2⟩,MT⟩)⟩,?_⟩;clear pw o1 c1 m1 p;rintro⟨p,m1⟩ ⟨pw,o1,c1⟩;exact hK p _ m1 h (.refl _) (Jf pw.args_) (pw.pw deep) o1 c1
  have hdeep:=kb hb;have hw:IntKind.i64.wrap ((deep:Int)-1)=((deep-1:Nat):Int):=by rw[dJ aC aC];omega
  rw[hw];have hdd:deep=deep-1+1:=by omega
  refine aB (λ_=>⟨cb,s,t,cols,params,deep-1,rfl,c1,hs,ht,l1,l2,aC,aC,λv p m2 h2 hle hr hp o2 c2 sl h3 hle2 hrow=>?_⟩) (λhk6=>⟨cb,3,rfl,c1,λj m2 j0 j1 o2 c2=>?_⟩)
  .refine hK ⟨6,0,dH,dH,sl⟩ (.mk 6 0 dH dH [p]) m2 h3 (hle.trans hle2) (eH.mk (v:=⟨6,0,dH,dH,sl⟩) ⟨⟨[v],hrow,rfl,λi x hx=>?_⟩,by simp⟩) (by rw[hdd];exact YJ hp) (o1.trans o2) (c2.mono hle2)
   match i,hx with
   |0,hx=>simp at hx;subst hx;exact⟨v,rfl,hr.mono hle2⟩
   |_+1,hx=>simp at hx
  refine⟨λ⟨op,n,us,mx,hx⟩=>(op=4\/op=5)/\ -1<=n/\n<=2/\(us.length:Int)<=2-n/\PH.le h hx/\bB m mx cb/\aK mx hx cb/\∃ps:List Pred,ps.length=us.length/\(∀q∈ps,PW cols params (deep-1) q)/\∀(i:Nat) q,ps[i]? =some q->∃u,us[i]? =some u/\eH hx q u,λ⟨_,n,_,_,_⟩=>(n+1).toNat,⟨(_,j,[],m2,h),⟨?_,aC,aC,by simp;omega,.refl _,o1.trans o2,c2,[],rfl,by simp,λi q hq=>by simp at hq⟩,MT⟩,?_⟩
  .have hk6:k≠6:=by simpa using hk6
   have hk7:k=7\/k=8:=by omega
   rcases hk7 with rfl|rfl
   .exact .inl (by decide)
   .exact .inr (by decide)
  rintro⟨op,n,us,mx,hx⟩ ⟨hop,n0,n1,ul,hle,ox,cx,ps,pl,pw,hps⟩;dsimp only;refine aE (λhn=>⟨cb,s,t,cols,params,deep-1,rfl,cx,hs.mono hle,ht.mono hle,l1,l2,aC,aC,λv p m3 h3 hle3 hr hp o3 c3=>⟨by simp;omega,by simp;omega,(op,n-1,us++[v],m3,h3),⟨hop,by show-1<=n-1;omega,by show n-1<=2;omega,by simp;omega,hle.trans hle3,ox.trans o3,c3,ps++[p],by simp[pl],?_,?_⟩,?_,?_⟩⟩) (λhn sl h3 hle3 hrow=>?_)
  .intro q hq;rcases List.mem_append.1 hq with h1|h1
   .exact pw q h1
   .simp at h1;subst h1;exact hp
  .intro i q hq;by_cases hi:i<ps.length
   .rw[List.getElem?_append_left hi]at hq;obtain⟨u,h1,h2⟩:=hps i q hq;exact⟨u,by rw[List.getElem?_append_left aC];exact h1,h2.mono hle3⟩
   .rw[List.getElem?_append_right aC]at hq;have hl:=(List.getElem?_eq_some_iff.1 hq).1;simp at hl;have:i=ps.length:=by omega
    subst this;simp at hq;subst hq;exact⟨v,by rw[List.getElem?_append_right aC,pl];simp,hr⟩
  .show(n-1+1).toNat<(n+1).toNat;omega
  .rw[List.map_append,dJ aC aC];exact MT
  .exact hK ⟨op,0,dH,dH,sl⟩ (.mk op 0 dH dH ps) mx h3 (hle.trans hle3) (eH.mk (v:=⟨op,0,dH,dH,sl⟩) ⟨⟨us,hrow,pl,λi q hq=>(hps i q hq).imp λu hu=>⟨hu.1,hu.2.mono hle3⟩⟩,aC⟩) (by rw[hdd];exact YK hop pw aC) ox (cx.mono hle3)
theorem Pz(h:FJ l):l.all dO=true:=List.all_eq_true.2 λk hk=>by
 rcases h k hk with e|e|e<;>subst e<;>rfl
theorem Si{cols params:List Int}{d:Nat}(x:PW cols params d p)(hd:d<=2)(hc:FJ cols)(hp:FJ params):hZ cols params p=0:=by
 have h1:=IW p 0;have h2:=x.siz.n;have h3:=Hp p 8 (by have:=x.siz.d;omega)
 have h4:gF d<=13:=by match d,hd with
  |0,_=>decide
  |1,_=>decide
  |2,_=>decide
 unfold hZ;rw[Pz hc,Pz hp,if_neg (by simp),h3,if_neg (by simp;omega),x.valid hc];rfl
theorem Db:Sound Tryz.prog 30 xH:=by
 refine hX Tryz.func30 ?_;rintro cvs m h K ⟨cb,s,t,cols,params,deep,rfl,hc,hs,ht,l1,l2,hd,hK⟩;refine⟨dN [(68,Wh 1001),(69,qD)] [] [] [] false,rfl,aD (SF 1001) (aD Gi aF),O7 1001 cb s t deep m h K,by kernel_rfl,?_⟩;dsimp only[O7,push_cast];refine⟨cb,s,t,cols,params,deep,rfl,hc,hs,ht,l1,l2,aC,hd,λv p m2 h2 hle hr hp o2 c2=>⟨s,t,v,cols,params,p,rfl,hs.mono hle,ht.mono hle,hr,aB (λ_=>⟨cb,s,t,cols,params,1,rfl,c2,hs.mono hle,ht.mono hle,l1,l2,aC,aC,λv3 p3 m3 h3 hle3 hr3 hp3 o3 c3=>hK v3 p3 m3 h3 (hle.trans hle3) hr3 ⟨hp3.vals,λ_ k1 k2=>Si hp3 (by decide) k1 k2⟩ (o2.trans o3) c3⟩) (λ_=>hK v p m2 h2 hle hr ⟨hp.vals,λk0 k1 k2=>Si hp k0 k1 k2⟩ o2 c2)⟩⟩
def bU:Sl:=⟨none,0,0⟩
def Tk:Vc.Spec:=λcvs m h K=>∃n k,cvs=[M5 n,cI k]/\K (.val (.agg ⟨(lS.mk n k).enc⟩)) m h
def Wp:Vc.Spec:=λcvs m h K=>∃t,cvs=[cI t]/\K (aQ ⟨1,t,fT,bU,bU,bU,bU,0,bU⟩) m h
def Ye(v:QV)(g o:Sl)(k:Int):QV:=⟨v.op,v.table,v.where_,v.columns,v.on,g,o,k,v.args⟩
def Yl:Vc.Spec:=λcvs m h K=>∃cb v s kinds,cvs=[cP cb,aQ (Ye v bU bU v.limit),cS s]/\aK m h cb/\Ints h s kinds/\kinds.length<=1000/\
 ∀g o k gr od m' h',PH.le h h'->Ints h' g gr->iH h' o od->gr.length<=kinds.length->od.length<=kinds.length->0<=k->k<=3->bB m m' cb->aK m' h' cb->K (aQ (Ye v g o k)) m' h'
noncomputable def Xz(cb:Nat)(v:QV)(s:Sl)(h:PH):Ctx:=
 dN [(15,FH),(16,Kb)] [(2,{A:=Nat×List Int×List (Int×Bool)×MH,st:=λ⟨i,gr,od,m⟩=>cJ 37 40 [(0,pv cb),(4,.at (.ptr 4 0)),(6,.at (.ptr 6 0)),(9,iv s.len),(10,iv i)] [(4,.cells 38 ((v.enc.take 17).map .val++[.lst 19,.lst 30,.val (.int .i64 v.limit),.val (.slice v.args.a v.args.len v.args.cap)])),(6,.cells 38 (yX.enc.map .val)),(19,.lst 3 1 (gr.map eI)),(30,.lst 72 2 (od.map Cz))] m h})] [] [] false
def Vm(n:ByteArray)(k:Int)(m:MH)(h:PH)(K:CV->MH->PH->Prop):Prop:=
  K (jI (nP n k)) m h
def Vp(t:Int)(m:MH)(h:PH)(K:CV->MH->PH->Prop):Prop:=
  K (jI (vX (dY 1) (dY t))) m h
noncomputable abbrev C5(a:QV)(b:Sl):List At:=uD (mO a.limit) (Bl b)
abbrev CJ(a:QV):Prop:=eQ (oQ 38 (dQ a.op a.table (pQ a.where_ (lT (B0 a) (Bl a.on) (lT (At.lst 19) (At.lst 30) (C5 a a.args))))))
abbrev hP:Prop:=eQ (oQ 38 zQ)
noncomputable abbrev sI(a:Nat×List Int×List (Int×Bool)×MH):List (List Value):=List.map Cz a.2.2.1
abbrev EG(a:Nat×List Int×List (Int×Bool)×MH->Prop)(b:Nat×List Int×List (Int×Bool)×MH->Nat)(c:Nat×List Int×List (Int×Bool)×MH)(d:Nat)(e:Sl)(g:Prop)(i j:(Nat×List Int×List (Int×Bool)×MH)->Prop)(k:MH)(l:PH):Prop:=∃(x:Nat×List Int×List (Int×Bool)×MH),aA (a x) (b x<b c) (aA (cX d) (eP 4) (aA (eP 6) (bJ e) (aA (fY (aT ((↑c.1:Int)+1))=bZ x.1) g (aA hP (i x) (aA (j x) (k=x.2.2.2) (bT l l))))))
attribute [push_cast] C5 CJ hP sI EG
def O3(cb:Nat)(v:QV)(s:Sl)(m:MH)(h:PH)(K:CV->MH->PH->Prop):Prop:=
  ∃(I:Nat×List Int×List (Int×Bool)×MH->Prop)(m1:Nat×List Int×List (Int×Bool)×MH->Nat),(∃(x:Nat×List Int×List (Int×Bool)×MH),aA (I x) (cX cb) (aA (eP 4) (eP 6) (aA (bJ s) (bE x.1) (aA (CJ v) hP (pJ (nG x.2.1) (qW 72 2 (cR 72 2 (sI x))) (m=x.2.2.2) h h)))))/\∀(x:Nat×List Int×List (Int×Bool)×MH),I x->bA (↑x.1:Int) (aG s) (j6 cb 3 x.2.2.2 h (λc r=>∀(m2:MH),aU (bB x.2.2.2 m2 c) (aK m2 h c) (branch r (pR (eF x.2.1) 8 (j6 cb 3 m2 h (λc1 r1=>∀(m3:MH),aU (bB m2 m3 c1) (aK m3 h c1) (branch r1 (j6 cb 2 m3 h (λc2 r2=>∀(m4:MH),aU (bB m3 m4 c2) (aK m4 h c2) (pR (sI x) 16 (EG I m1 x cb s (CJ v) (λx1=>nH x.2.1 (↑x.1:Int) x1.2.1) (λx1=>cR 72 2 (eB (sI x) (jJ (dY
 (↑x.1:Int)) (Value.bool r2)))=cR 72 2 (sI x1)) m4 h)))) (EG I m1 x cb s (CJ v) (λx1=>nH x.2.1 (↑x.1:Int) x1.2.1) (λx1=>cR 72 2 (sI x)=cR 72 2 (sI x1)) m3 h))))) (j6 cb 3 m2 h (λc1 r1=>∀(m3:MH),aU (bB m2 m3 c1) (aK m3 h c1) (branch r1 (j6 cb 2 m3 h (λc2 r2=>∀(m4:MH),aU (bB m3 m4 c2) (aK m4 h c2) (pR (sI x) 16 (EG I m1 x cb s (CJ v) (λx1=>mY x.2.1=mY x1.2.1) (λx1=>cR 72 2 (eB (sI x) (jJ (dY (↑x.1:Int)) (Value.bool r2)))=cR 72 2 (sI x1)) m4 h)))) (EG I m1 x cb s (CJ v) (λx1=>mY x.2.1=mY x1.2.1) (λx1=>cR 72 2 (sI x)=cR 72 2 (sI x1)) m3 h))))))) (gZ cb 4 x.2.2.2 h (λk m2=>bM h 1 (eF x.2.1) (λs1 h1=>bM h1 2 (sI x) (λs2 h2=>K (jI (CN v v (aL
 (lB (iE v)) (kP (fD v)) (aL (wW (fD v)) (dY (oY (fD v))) (aL (p9 (fD v)) (lB (fD v)) (aL (mZ v) (nA v) (aL (dT v.on) (dT s1) (aL (dT s2) (dY k) (aR v.args))))))))) m2 h2))))
theorem T2:Sound Tryz.prog 76 Tk:=by
 refine hX Tryz.func76 ?_;rintro cvs m h K ⟨n,k,rfl,hK⟩;refine⟨dN [] [] [] [] false,rfl,aF,Vm n k m h K,by kernel_rfl,?_⟩;exact hK
theorem K3:Sound Tryz.prog 40 Wp:=by
 refine hX Tryz.func40 ?_;rintro cvs m h K ⟨t,rfl,hK⟩;refine⟨dN [] [] [] [] false,rfl,aF,Vp t m h K,by kernel_rfl,?_⟩;exact hK
theorem T8:Sound Tryz.prog 42 Yl:=by
 refine hX Tryz.func42 ?_;rintro cvs m h K ⟨cb,v,s,kinds,rfl,hc,hs,hl,hK⟩;refine⟨Xz cb v s h,rfl,aD Gb (aD wL aF),O3 cb v s m h K,by kernel_rfl,?_⟩;dsimp only[O3,push_cast];have hsl:=hs.slen;refine⟨λ⟨i,gr,od,mx⟩=>i<=kinds.length/\gr.length<=i/\od.length<=i/\bB m mx cb/\aK mx h cb,λ⟨i,_,_,_⟩=>kinds.length-i,⟨(0,[],[],m),⟨aC,by simp,by simp,.refl _ _,hc⟩,MT⟩,?_⟩;rintro⟨i,gr,od,m1⟩ ⟨hi,hg,ho,o1,c1⟩;dsimp only;refine aE (λhlt=>?_) (λhge=>?_)
 .have fin:∀(gr':List Int)(od':List (Int×Bool)) m',gr'.length<=i+1->od'.length<=i+1->bB m m' cb->aK m' h cb->(i+1<=kinds.length/\gr'.length<=i+1/\od'.length<=i+1/\bB m m' cb/\aK m' h cb):=λgr' od' m' h1 h2 h3 h4=>⟨aC,h1,h2,h3,h4⟩
  refine⟨cb,3,rfl,aC,aC,c1,λr m2 o2 c2=>aB (λ_=>⟨by simp;omega,by simp;omega,cb,3,rfl,aC,aC,c2,λr2 m3 o3 c3=>aB (λ_=>⟨cb,2,rfl,aC,aC,c3,λr3 m4 o4 c4=>⟨by simp;omega,by simp;omega,(i+1,gr++[(i:Int)],od++[((i:Int),r3)],m4),fin (gr++[(i:Int)]) (od++[((i:Int),r3)]) m4 (by simp;omega) (by simp;omega) (((o1.trans o2).trans o3).trans o4) c4,by show kinds.length-(i+1)<kinds.length-i;omega,?_⟩⟩) (λ_=>⟨(i+1,gr++[(i:Int)],od,m3),fin (gr++[(i:Int)]) od m3 (by simp;omega) aC ((o1.trans o2).trans o3) c3,by show kinds.length-(i+1)<kinds.length-i;omega,?_⟩)⟩)
   (λ_=>⟨cb,3,rfl,aC,aC,c2,λr2 m3 o3 c3=>aB (λ_=>⟨cb,2,rfl,aC,aC,c3,λr3 m4 o4 c4=>⟨by simp;omega,by simp;omega,(i+1,gr,od++[((i:Int),r3)],m4),fin gr (od++[((i:Int),r3)]) m4 aC (by simp;omega) (((o1.trans o2).trans o3).trans o4) c4,by show kinds.length-(i+1)<kinds.length-i;omega,?_⟩⟩) (λ_=>⟨(i+1,gr,od,m3),fin gr od m3 aC aC ((o1.trans o2).trans o3) c3,by show kinds.length-(i+1)<kinds.length-i;omega,MT⟩)⟩)⟩
  .simp only[List.map_append];exact MT
  .simp only[List.map_append];exact MT
  .simp only[List.map_append];exact MT
 .refine⟨cb,4,rfl,c1,λk m2 k0 k1 o2 c2 s1 h1 hle1 r1 s2 h2 hle2 r2=>?_⟩;exact hK s1 s2 k gr od m2 h2 (hle1.trans hle2) ⟨r1.mono hle2,aC⟩ ⟨r2,aC⟩ aC aC k0 aC (o1.trans o2) (c2.mono (hle1.trans hle2))
def Wv:Vc.Spec:=λcvs m h K=>∃cb s t a b,cvs=[cP cb,cS s,cS t]/\aK m h cb/\Ints h s a/\Ints h t b/\a.length<=1000/\b.length<=1000/\
 ∀o on m' h',PH.le h h'->lD h' o on->on.length<=10->bB m m' cb->aK m' h' cb->K (cS o) m' h'
noncomputable def XA(cb:Nat)(s t:Sl)(h:PH):Ctx:=
 dN [(15,FH)] [(3,{A:=Int×List (Int×Int)×MH,st:=λ⟨n,on,m⟩=>cJ 77 80 [(0,pv cb),(1,sv s),(2,sv t),(7,.at (.lst 75)),(8,iv n)] [(75,.lst 69 2 (on.map sY))] m h}),
  (8,{A:=Int×Nat×List (Int×Int)×(Int×Int)×Bool×MH,st:=λ⟨n,i,on,p,f,m⟩=>cJ 77 80 [(0,pv cb),(1,sv s),(2,sv t),(7,.at (.lst 75)),(8,iv n),(9,.at (.ptr 9 0)),(10,bv f),(49,.at (.lst 75)),(50,iv on.length),(51,iv i)] [(9,.cells 69 [.val (.int .i64 p.1),.val (.int .i64 p.2)]),(75,.lst 69 2 (on.map sY))] m h})] [] [] false
noncomputable abbrev vO(a:Int×List (Int×Int)×MH):List (List Value):=List.map sY a.2.1
noncomputable abbrev AV(a:Int×Nat×List (Int×Int)×(Int×Int)×Bool×MH):Bool:=a.2.2.2.2.1
noncomputable abbrev vN(a:Int×Nat×List (Int×Int)×(Int×Int)×Bool×MH):Nat:=a.2.2.1.length
noncomputable abbrev wV(a:Int×Nat×List (Int×Int)×(Int×Int)×Bool×MH):Int×Int:=a.2.2.2.1
noncomputable abbrev oG(a:Int×Nat×List (Int×Int)×(Int×Int)×Bool×MH):List (List Value):=List.map sY a.2.2.1
noncomputable abbrev tK(a:Int×Nat×List (Int×Int)×(Int×Int)×Bool×MH):Nat->Option Obj:=a.2.2.2.2.2
abbrev HQ(a:(Int×Nat×List (Int×Int)×(Int×Int)×Bool×MH)->Prop)(b:(Int×Nat×List (Int×Int)×(Int×Int)×Bool×MH)->Nat)(c d:Nat)(e g:Sl)(i:Int×Nat×List (Int×Int)×(Int×Int)×Bool×MH)(j:(Int×Nat×List (Int×Int)×(Int×Int)×Bool×MH)->Int×Nat×List (Int×Int)×(Int×Int)×Bool×MH)(k:(Int×Nat×List (Int×Int)×(Int×Int)×Bool×MH)->Prop):Prop:=∃(x:Int×Nat×List (Int×Int)×(Int×Int)×Bool×MH),aA (a x) (b x<c) (aA (cX d) (aJ e) (aA (aJ g) (eL 75) (aA (cM i.1 (j x).1) (eP 9) (k x))))
attribute [push_cast] vO AV vN wV oG tK HQ
def O4(cb:Nat)(s t:Sl)(m:MH)(h:PH)(K:CV->MH->PH->Prop):Prop:=
  gZ cb 3 m h (λk m1=>∃(I:Int×List (Int×Int)×MH->Prop)(m2:Int×List (Int×Int)×MH->Nat),(∃(x:Int×List (Int×Int)×MH),aA (I x) (cX cb) (aA (aJ s) (aJ t) (aA (eL 75) (cM k x.1) (aA (qW 69 2 (cR 69 2 (vO x))) (m1=x.2.2) (bT h h)))))/\∀(x:Int×List (Int×Int)×MH),I x->dV x.1 0 (dV (aG s) 0 (dV (aG t) 0 (gZ cb (aG s) x.2.2 h (λk1 m3=>gZ cb (aG t) m3 h (λk2 m4=>aA (cD 0) ((0:Int)<2) (aW (λb o=>aH (aX s.a b o) (0<=k1) (k1<aG s) (∃(y:Int),aH (aM m4 h b (fR o k1 1) (bN y)) ((0:Int)<=1) ((1:Int)<2) (aW (λb1 o1=>aH (aX t.a b1 o1) (0<=k2) (k2<aG t) (∃(y1:Int),aM m4 h b1 (fR o1 k2 1) (bN y1)/\∃(I1:Int×Nat×List (Int×Int)×(Int×Int)×Bool×MH->Prop)(m5:Int×Nat×
 List (Int×Int)×(Int×Int)×Bool×MH->Nat),(∃(x1:Int×Nat×List (Int×Int)×(Int×Int)×Bool×MH),aA (I1 x1) (cX cb) (aA (aJ s) (aJ t) (aA (eL 75) (cM x.1 x1.1) (aA (eP 9) (gP (y==y1) (AV x1)) (aA (eL 75) (cF (vO x).length (vN x1)) (aA (bE x1.2.1) (AM (uD (mO k1) (mO k2)) (pH (wV x1))) (aH (cR 69 2 (vO x)=cR 69 2 (oG x1)) (m4=tK x1) (h=h) True)))))))/\∀(x1:Int×Nat×List (Int×Int)×(Int×Int)×Bool×MH),I1 x1->bA (↑x1.2.1:Int) (↑(vN x1):Int) (aA (cD (↑x1.2.1:Int)) ((↑x1.2.1:Int)<iL (oG x1)) (∃(e:List Value),rK (oG x1) (sJ x1.2.1) e/\∃(y2:Int×Int),AJ 2 e (tL y2)/\branch (AV x1) (aA (cD 0) ((0:Int)<2) (aA (cD 0) ((0:Int)<2) (eA y2.1 (wV x1).1 (aA
 (cD 1) ((1:Int)<2) (aA (cD 1) ((1:Int)<2) (HQ (λx2=>I1 x2) (λx2=>m5 x2) (m5 x1) cb s t x1 (λx2=>x2) (λx2=>aA (gP (y2.2 !=(wV x1).2) (AV x2)) (eL 75) (aA (cF (vN x1) (vN x2)) (fY (aT ((↑x1.2.1:Int)+1))=bZ x2.2.1) (aA (AM (pH (wV x1)) (pH (wV x2))) (cR 69 2 (oG x1)=cR 69 2 (oG x2)) (aA (tK x1=tK x2) (h=h) True))))))) (HQ (λx2=>I1 x2) (λx2=>m5 x2) (m5 x1) cb s t x1 (λx2=>x2) (λx2=>aA (Ay (AV x2)) (eL 75) (aA (cF (vN x1) (vN x2)) (fY (aT ((↑x1.2.1:Int)+1))=bZ x2.2.1) (aA (AM (pH (wV x1)) (pH (wV x2))) (cR 69 2 (oG x1)=cR 69 2 (oG x2)) (aA (tK x1=tK x2) (h=h) True)))))))) (HQ (λx2=>I1 x2) (λx2=>m5 x2) (m5 x1) cb s
 t x1 (λx2=>x2) (λx2=>aA (Ay (AV x2)) (eL 75) (aA (cF (vN x1) (vN x2)) (fY (aT ((↑x1.2.1:Int)+1))=bZ x2.2.1) (aA (AM (pH (wV x1)) (pH (wV x2))) (cR 69 2 (oG x1)=cR 69 2 (oG x2)) (aA (tK x1=tK x2) (h=h) True))))))) (branch (AV x1) (pR (oG x1) 16 (∃(x2:Int×List (Int×Int)×MH),aA (I x2) (m2 x2<m2 x) (aA (cX cb) (aJ s) (aA (aJ t) (eL 75) (aA (cM (mG x1.1) x2.1) (cR 69 2 (eB (oG x1) (tL (wV x1)))=cR 69 2 (vO x2)) (cA (tK x1=x2.2.2) h h)))))) (∃(x2:Int×List (Int×Int)×MH),aA (I x2) (m2 x2<m2 x) (aA (cX cb) (aJ s) (aA (aJ t) (eL 75) (aA (cM (mG x1.1) x2.1) (cR 69 2 (oG x1)=cR 69 2 (vO x2)) (cA (tK x1=x2.2.2) h h)))))))))))))))
 (bM h 2 (vO x) (λs1 h1=>K (pD s1) x.2.2 h1))) (bM h 2 (vO x) (λs1 h1=>K (pD s1) x.2.2 h1))) (bM h 2 (vO x) (λs1 h1=>K (pD s1) x.2.2 h1)))
theorem T9:Sound Tryz.prog 41 Wv:=by
 refine hX Tryz.func41 ?_;rintro cvs m h K ⟨cb,s,t,a,b,rfl,hc,hs,ht,l1,l2,hK⟩;refine⟨XA cb s t h,rfl,aD Gb aF,O4 cb s t m h K,by kernel_rfl,?_⟩;dsimp only[O4,push_cast];have hsl:=hs.slen;have htl:=ht.slen;refine⟨cb,3,rfl,hc,λk m1 k0 k1 o1 c1=>⟨λ⟨n,on,mx⟩=>0<=n/\n<=2/\(on.length:Int)<=2-n/\bB m mx cb/\aK mx h cb,λ⟨n,_,_⟩=>n.toNat,⟨(k,[],m1),⟨k0,by show k<=2;omega,by simp;omega,o1,c1⟩,MT⟩,?_⟩⟩;clear k0 k1 o1 c1 m1;rintro⟨n,on,m1⟩ ⟨n0,n1,hon,o1,c1⟩;dsimp only;have out:∀(sl:Sl)(h':PH),PH.le h h'->cN h' sl 2 (on.map sY)->K (.val (.slice sl.a sl.len sl.cap)) m1 h':=λsl h' hle hrow=>hK sl on m1 h' hle ⟨hrow,aC⟩ aC o1 (c1.mono hle);refine aE (λhn=>aE (λhp=>aE (λhq=>?_) (λ_=>out)) (λ_=>out)) (λ_=>out);refine⟨cb,s.len,rfl,c1,λx m2 x0 x1 o2 c2=>⟨cb,t.len,rfl,c2,λy m3 y0 y1 o3 c3=>?_⟩⟩;obtain⟨b1,f1,e1,r1⟩:=hs.inb (n:=x) x0 aC;obtain⟨b2,f2,e2,r2⟩:=ht.inb (n:=y) y0 aC;refine⟨aC,aC,b1,f1,e1,x0,aC,_,.imm r1,aC,aC,b2,f2,e2,y0,aC,_,.imm r2,?_⟩;refine⟨λ⟨n',i,on',p,f,mx⟩=>n'=n/\on'=on/\mx=m3/\i<=on.length,λ⟨_,i,_,_,_,_⟩=>on.length-i,⟨(n,0,on,(x,y),a.getD x.toNat 0==b.getD y.toNat 0,m3),⟨rfl,rfl,rfl,aC⟩,?_⟩,?_⟩
 .rw[List.length_map];exact MT
 rintro⟨n,i,on,p,f,m3⟩ ⟨rfl,rfl,rfl,hi⟩;dsimp only;refine aE (λhlt=>?_) (λhge=>?_)
 .have hl:i<on.length:=by omega
  have hget:(on.map sY)[i]? =some (sY on[i]):=by rw[List.getElem?_map,List.getElem?_eq_getElem hl];rfl
  refine⟨aC,by rw[List.length_map];omega,_,hget,on[i],rfl,aB (λ_=>⟨aC,aC,aC,aC,aB (λ_=>⟨aC,aC,aC,aC,(n,i+1,on,p,_,m3),⟨rfl,rfl,rfl,by show i+1<=on.length;omega⟩,by show on.length-(i+1)<on.length-i;omega,MT⟩) (λ_=>⟨(n,i+1,on,p,_,m3),⟨rfl,rfl,rfl,by show i+1<=on.length;omega⟩,by show on.length-(i+1)<on.length-i;omega,MT⟩)⟩) (λ_=>⟨(n,i+1,on,p,_,m3),⟨rfl,rfl,rfl,by show i+1<=on.length;omega⟩,by show on.length-(i+1)<on.length-i;omega,MT⟩)⟩
 .have hw:IntKind.i64.wrap (n-1)=n-1:=dJ aC aC;rw[hw];refine aB (λ_=>⟨by rw[List.length_map];omega,by rw[List.length_map];omega,(n-1,on++[p],m3),⟨by show 0<=n-1;omega,by show n-1<=2;omega,by simp;omega,(o1.trans o2).trans o3,c3⟩,by show(n-1).toNat<n.toNat;omega,?_⟩) (λ_=>⟨(n-1,on,m3),⟨by show 0<=n-1;omega,by show n-1<=2;omega,by show(on.length:Int)<=2-(n-1);omega,(o1.trans o2).trans o3,c3⟩,by show(n-1).toNat<n.toNat;omega,MT⟩);rw[List.map_append];exact MT
def Zi:Vc.Spec:=λcvs m h K=>∃s cs,∃most:Nat,cvs=[cS s,cI most]/\cN h s 1 (bG cs)/\s.len<=s.cap/\most<=1000/\∀cb m' h',PH.le h h'->m cb=none->bB m m' cb->aK m' h' cb->K (cP cb) m' h'
abbrev zC(a b:Prop)(c:(List (List Value))->Prop):Prop:=aA a b (∃(x:List (List Value)),c x)
attribute [push_cast] zC
def Po(s:Sl)(most:Nat)(m:MH)(h:PH)(K:CV->MH->PH->Prop):Prop:=
  zC (cD (ite ((↑most:Int)<aG s) (↑most:Int) (aG s))) (ite ((↑most:Int)<aG s) (↑most:Int) (aG s)<=(↑s.cap:Int)) (λy=>aA (dU 1 y) (nJ m h (Sl.mk s.a (ite ((↑most:Int)<aG s) (↑most:Int) (aG s)).toNat s.cap) 1 y) (aA (gK (y.length*1)) (gK y.length) (bM h 1 y (λs1 h1=>∀(b:Nat)(m1:MH),aU (cE m h1 b) (bH m m1 b (jJ (dT s1) bC) 82) (K (qB b 0) m1 h1)))))
theorem En(l:List UInt8):dU 1 (bG l):=by
 constructor
 .intro e he;obtain⟨x,_,rfl⟩:=List.mem_map.1 he;rfl
 .intro e he u hu;obtain⟨x,_,rfl⟩:=List.mem_map.1 he;simp at hu;subst hu;rfl
theorem cN.cut{s:Sl}(r:cN h s sz xs)(n:Nat)(hn:n<=xs.length):cN h ⟨s.a,n,s.cap⟩ sz (xs.take n):=by
 refine⟨by simp;omega,?_,by have h1:=r.len;have h2:=r.cap;show n<=s.cap;omega⟩;rcases r.row with e|⟨b,o,ha,k⟩
 .left;rw[e];simp
 .right;refine⟨b,o,ha,λi e hi=>?_⟩;rw[List.getElem?_take]at hi;split at hi
  .exact k i e hi
  .cases hi
theorem Uu:Sound Tryz.prog 11 Zi:=by
 refine hX Tryz.func11 ?_;rintro cvs m h K ⟨s,cs,most,rfl,hr,hc,hm,hK⟩;refine⟨uJ [] [] [] [] [82] [] false,rfl,aF,Po s most m h K,by kernel_rfl,?_⟩;have hl:s.len=cs.length:=by have:=hr.len;simpa[bG]using this
 dsimp only[Po,push_cast];have hmin:(if(most:Int)<(s.len:Int)then(most:Int)else(s.len:Int))=((min most s.len:Nat):Int):=by split<;>omega
 rw[hmin];have hcut:=cN.cut hr (min most s.len) (by simp[bG];omega);refine⟨aC,aC,bG (cs.take (min most s.len)),En _,.imm ?_,by simp[bG];omega,by simp[bG];omega,λs' h' hle hrow b m' hb hu=>?_⟩
 .rw[show bG (cs.take (min most s.len))=(bG cs).take (min most s.len)by simp[bG,List.map_take]];exact hcut
 .exact hK b m' h' hle hb.m_ ⟨hu.other⟩ ⟨_,⟨⟨s',_,0,hu.at_,hrow,aC,by simp;omega,rfl⟩⟩⟩
def Yr:Vc.Spec:=λcvs m h K=>∃n:Nat,cvs=[.val (.slice none 0 0),cI n]/\n<=1000/\K (.lst 3 1 []) m h
noncomputable def VG(ss:Sl)(m:MH)(h:PH):Ctx:=
 dN [(205,Yr)] [(3,{A:=Nat×Nat,st:=λ⟨i,n⟩=>cJ 36 37 [(0,sv ss),(3,iv n),(9,sv ss),(10,iv ss.len),(11,iv i)] [] m h}),
  (11,{A:=Nat×List Int,st:=λ⟨i,l⟩=>cJ 36 37 [(6,.at (.lst 24)),(25,sv ss),(26,iv ss.len),(27,iv i)] [(24,.lst 3 1 (l.map eI))] m h})] [] [] false
abbrev IY(a:Int):Prop:=a<=140737488355328
attribute [push_cast] IY
def Li(n:Nat)(m:MH)(h:PH)(K:CV->MH->PH->Prop):Prop:=
  dV (aT ((↑n:Int)-aT ((0:Int)-0))) 0 (aA (cD 0) (cD 0) (aA (0<aT ((↑n:Int)-0)) (IY (aT ((↑n:Int)-0)*8)) (aH (IY (aT ((↑n:Int)-0))) ((0:Int)<=0) (cD (iL (List.replicate (aT ((↑n:Int)-0)).toNat (iC bC)))) (K (CV.lst 3 1 []) m h)))) (K (CV.lst 3 1 []) m h)
def Ls(ss:Sl)(m:MH)(h:PH)(K:CV->MH->PH->Prop):Prop:=
  ∃(I:Nat×Nat->Prop)(m1:Nat×Nat->Nat),(∃(x:Nat×Nat),aA (I x) (aJ ss) (aA (bE x.2) (aJ ss) (aA (bJ ss) (bE x.1) (aA (m=m) (h=h) True))))/\∀(x:Nat×Nat),I x->bA (↑x.1:Int) (aG ss) (aW (λb o=>aH (aX ss.a b o) (0<=(↑x.1:Int)) ((↑x.1:Int)<aG ss) (∃(y:Sl),aM m h b (bL o x.1 1) (aR y)/\bA (aT ((↑x.2:Int)+aG y)) 0 False (∃(x1:Nat×Nat),aA (I x1) (m1 x1<m1 x) (aA (aJ ss) (fY (aT ((↑x.2:Int)+aG y))=bZ x1.2) (aA (aJ ss) (bJ ss) (aA (fY (aT ((↑x.1:Int)+1))=bZ x1.1) (m=m) (bT h h)))))))) (∃(n:Nat),aA (bD lU (↑x.2:Int)=bD lU (↑n:Int)) (jG n) (∃(I1:Nat×List Int->Prop)(m2:Nat×List Int->Nat),(∃(x1:Nat×List Int),aA (I1 x1) (eL 24) (aA (aJ ss) (bJ ss) (aA (bE x1.1) (nG
 x1.2) (aA (m=m) (h=h) True))))/\∀(x1:Nat×List Int),I1 x1->bA (↑x1.1:Int) (aG ss) (aW (λb o=>aH (aX ss.a b o) (0<=(↑x1.1:Int)) ((↑x1.1:Int)<aG ss) (∃(y:Sl),aM m h b (bL o x1.1 1) (aR y)/\∃(y1:List (List Value)),aA (dU 1 y1) (cN h (dA y) 1 y1) (aA (qS (eF x1.2) y1 8) (qT (eF x1.2) y1) (∃(x2:Nat×List Int),aA (I1 x2) (m2 x2<m2 x1) (aA (eL 24) (aJ ss) (aA (bJ ss) (fY (aT ((↑x1.1:Int)+1))=bZ x2.1) (aA (cR 3 1 (eF x1.2++y1)=mY x2.2) (m=m) (bT h h))))))))) (bM h 1 (eF x1.2) (λs h1=>K (pD s) m h1))))
theorem QL:Sound Tryz.prog 205 Yr:=by
 refine hX Tryz.func205 ?_;rintro cvs m h K ⟨n,rfl,hn,hK⟩;refine⟨dN [] [] [] [] true,rfl,aF,Li n m h K,by kernel_rfl,?_⟩;dsimp only[Li,push_cast];have h0:IntKind.i64.wrap ((n:Int)-0)=n:=by rw[dJ aC aC];omega
 have h1:IntKind.i64.wrap ((n:Int)-IntKind.i64.wrap (0-0))=n:=by rw[show IntKind.i64.wrap (0-0)=0 from by rw[dJ aC aC];rfl,h0]
 exact aE (λhp=>⟨aC,aC,aC,aC,aC,aC,aC,hK⟩) (λ_=>hK)
def sC(ks:List (List Int)):Nat:=(ks.map List.length).sum
theorem G0{k:List Int}(hk:ks[i]? =some k):sC (ks.take (i+1))=sC (ks.take i)+k.length:=by
 unfold sC;rw[List.take_add_one,hk];simp
theorem FM{ks:List (List Int)}(h:∀k∈ks,k.length<=12):∀i,sC (ks.take i)<=12*i
 |0=>by simp[sC]
 |i+1=>by
  have ih:=FM h i;cases e:ks[i]? with
  |none=>rw[List.take_add_one,e];simp[sC]at ih⊢;omega
  |some k=>rw[G0 e];have:=h k (List.mem_of_getElem? e);omega
theorem QU:Sound Tryz.prog 179 Iq:=by
 refine hX Tryz.func179 ?_;rintro cvs m h K ⟨ss,ks,rfl,hs,hl,h12,hK⟩;refine⟨VG ss m h,rfl,aD QL aF,Ls ss m h K,by kernel_rfl,?_⟩;dsimp only[Ls,push_cast];have hsl:=bY.slen hs;refine⟨λ⟨i,n⟩=>i<=ks.length/\n=sC (ks.take i),λ⟨i,_⟩=>ks.length-i,⟨(0,0),⟨aC,by simp[sC]⟩,MT⟩,?_⟩;rintro⟨i,n⟩ ⟨hi,rfl⟩;dsimp only;have hb:=FM h12 i;refine aE (λhlt=>?_) (λhge=>?_)
 .obtain⟨k,hk⟩:=fJ hsl hlt;obtain⟨b,o,sl,ea,r,hki⟩:=bY.at hs hk;have hkl:=hki.slen;have hk12:=h12 k (List.mem_of_getElem? hk)
  have hw:IntKind.i64.wrap ((sC (ks.take i):Int)+(sl.len:Int))=((sC (ks.take (i+1)):Nat):Int):=by
   rw[G0 hk,dJ aC aC];omega
  refine⟨b,o,ea,aC,hlt,sl,.imm r,?_⟩;rw[hw];exact aE (λhneg=>by omega) (λ_=>⟨(i+1,sC (ks.take (i+1))),⟨aC,rfl⟩,by show ks.length-(i+1)<ks.length-i;omega,MT⟩)
 .refine⟨sC (ks.take i),rfl,aC,?_⟩;refine⟨λ⟨i,l⟩=>i<=ks.length/\l=(ks.take i).flatten,λ⟨i,_⟩=>ks.length-i,⟨(0,[]),⟨aC,by simp⟩,MT⟩,?_⟩;clear hb hge hi;rintro⟨i,l⟩ ⟨hi,rfl⟩;dsimp only;have hfl:(ks.take i).flatten.length<=12*i:=by have:=FM h12 i;simpa[sC,List.length_flatten]using this
  refine aE (λhlt=>?_) (λhge sl h' hle hrow=>hK sl h' hle ⟨?_,?_⟩)
  .obtain⟨k,hk⟩:=fJ hsl hlt;obtain⟨b,o,sl,ea,r,hki⟩:=bY.at hs hk;have hk12:=h12 k (List.mem_of_getElem? hk);refine⟨b,o,ea,aC,hlt,sl,.imm r,k.map eI,BL k,hki.row,?_,?_,(i+1,(ks.take (i+1)).flatten),⟨aC,rfl⟩,by show ks.length-(i+1)<ks.length-i;omega,?_⟩
   .rw[List.length_map,List.length_map];omega
   .rw[List.length_map,List.length_map];omega
   .rw[List.take_add_one,hk,Option.toList_some,List.flatten_append,List.map_append,List.flatten_cons,List.flatten_nil,List.append_nil];exact MT
  .rw[List.take_of_length_le aC]at hrow;exact hrow
  .rw[List.take_of_length_le aC]at hfl;omega
theorem T1:∀N,Sound Tryz.prog 81 (Bn N):=SE QU
def ON(v:QV)(m:MH)(h:PH)(K:CV->MH->PH->Prop):Prop:=
  ∀(b:Nat)(m1:MH),aU (cE m h b) (bH m m1 b v.enc 38) (K (CV.val (w9 114 (Array.mk (iC (PY b 0))))) m1 h)
end Go.Ps
