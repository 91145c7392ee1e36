/-
  Part 4 of a proof that a law of the given program returns true: a condition generator that is proved sound, and contracts of functions. No condition of its own. Own work, joined by a program (pack2.py).
-/
import Derived.Test.YtileehgdfcknkaaGreatDoorSc
set_option linter.unusedVariables false
set_option linter.unusedSimpArgs false
namespace Go.Ps
open Go Go.Vc Go.Proofs
variable{K:CV->MH->PH->Prop}{m:MH}{h:PH}{s:oF}{ps:List Int}{cb:Nat}{sc:cH}{v:QV}{q:Query}{p:Pred}{l:List Int}{i:Nat}{N:Nat}{m':MH}{h':PH}{co:List Int}{gr:List Int}{od:List (Int×Bool)}{w:Pred}{ta:Int}{li:Int}{xs:List (List Value)}{sz:Nat}{k:Nat}{ks:List (List Int)}{rs:List Int}{r:Sl}{a:List Int}{b:Nat}
def fv(f:Nat):CV:=.val (.func (.func f) #[] #[])
def LL:Vc.Spec:=λcvs m h K=>∃op,cvs=[cI op]/\
 branch (op==1) (K (fv 139) m h) (branch (op==2) (K (fv 140) m h) (branch (op==3) (K (fv 141) m h) (branch (op==4) (K (fv 142) m h) (branch (op==5) (K (fv 143) m h) (branch (op==6) (K (fv 144) m h) (branch (op==7) (K (fv 144) m h) (branch (op==8) (K (fv 144) m h) (branch (op==9) (K (fv 145) m h) (branch (op==10) (K (fv 146) m h) (K (.val .nilFunc) m h))))))))))
noncomputable def WU(N:Nat)(sc:cH)(p:Sl)(v:QV)(m:MH):Ctx:=
 dL [(81,Ba N),(116,LL),(139,u0 (· =1)),(140,u0 (· =2)),(141,u0 (· =3)),(142,u0 (· =4)),(143,u0 (· =5)),(144,u0 (λop=>op=6\/op=7\/op=8)),(145,u0 (· =9)),(146,u0 (· =10))] [(3,{A:=Nat×List Sl×PH,st:=λ⟨i,ss,h⟩=>cD 62 65 [(1,sv p),(3,.at (.ptr 3 0)),(5,.at (.ptr 5 0)),(8,.at (.ptr 8 0)),(21,sv v.args),(22,iv v.args.len),(23,iv i)] [(3,.cells 43 (sc.enc.map .val)),(5,.cells 38 (v.enc.map .val)),(8,.cells 152 ((sc.enc++eS p++v.enc).map .val++[.lst 41])),(41,.lst 33 1 (ss.map eS))] m h})] [] [] false
noncomputable abbrev HT:List Value:=iE Value.nilFunc
attribute [push_cast] HT
def Gp(op:Int)(m:MH)(h:PH)(K:CV->MH->PH->Prop):Prop:=
  ∀(b:Nat)(m1:MH),aT (cG m h b) (bG m m1 b (aR Value.nilFunc Value.nilFunc (aR Value.nilFunc Value.nilFunc (aR Value.nilFunc Value.nilFunc (aR Value.nilFunc Value.nilFunc (aR Value.nilFunc Value.nilFunc HT))))) 183) (gQ (λc E=>aA (tX m1 b (fA c E 0)) (11<=c.size) (∀(m2:MH),bG m1 m2 b (aR Value.nilFunc (iQ 139) (aR (iQ 140) (iQ 141) (aR (iQ 142) (iQ 143) (aR (iQ 144) (iQ 144) (aR (iQ 144) (iQ 145) (eY (iQ 146) 11 c)))))) E->aW op 0 (K (CV.val Value.nilFunc) m2 h) (gA op 11 (K (CV.val Value.nilFunc) m2 h) (aA (cF op) (op<11) (∃(y:Option Nat),aM m2 h b (fR 0 op 1) (iE (VN y))/\K (CV.val (VN y)) m2 h))))))
abbrev qT(a:Nat×List Sl×PH)(b:cH)(c:Sl)(d:QV)(e:Sl->List Value)(g:NV->CV)(i:Query->Prop)(j:PH->(List Int×Int)->Prop):Prop:=bX (kB a) 1 (oL a) (λx x1=>∃(x2:NV),Ap (λx3 x4 x5 x6=>aA (vC (mM (aR (rV b) (rU b) (aR (dV c) (eH d.op) (aR (mF d) (mE d) (aR (eH (mH d)) (kM (iF d)) (e x))))))=vC (g x2)) (uT x1 x3 x4 x5 x6 x2) (aA (nD x3) (i x5) (∀(x7:List Int×Int),fin x7=uZ x3 x4 x5 x6->j x1 x7))))
noncomputable abbrev qY(a:QV)(b:List Value):List Value:=aR (wK (iF a)) (eH (oV (iF a))) (aR (pX (iF a)) (lA (iF a)) (aR (kM (fG a)) (wK (fG a)) (aR (eH (oV (fG a))) (pX (fG a)) b)))
abbrev qP(a:PH)(b:List Int×Int)(c:CV->MH->PH->Prop)(d:MH):Prop:=∀(x:Sl)(x1:PH),cY a x1 (Ints x1 x b.1) (cV (b.2 !=0) (c (CV.tup (aZ lN b.2)) d x1) (decide (aG x>12)) (c (CV.tup (aZ lN 2)) d x1) (c (CV.tup (aZ (lR x) 0)) d x1))
attribute [push_cast] qT qY qP
def Oq(N:Nat)(sc:cH)(p:Sl)(v:QV)(m:MH)(h:PH)(K:CV->MH->PH->Prop):Prop:=
  ∃(I:Nat×List Sl×PH->Prop)(m1:Nat×List Sl×PH->Nat),(∃(x:Nat×List Sl×PH),aA (I x) (aJ p) (aA (eP 3) eT (aA fI (aJ v.args) (aA (uJ v) (bA x.1) (aA (bM sc) (dP v) (aA (HR sc (tU p) v v.on (jH (At.lst 41))) (Option.some (Own.lst 33 1 [])=Option.some (Own.lst 33 1 (oL x))) (bW (m=m) h (kB x))))))))/\∀(x:Nat×List Sl×PH),I x->aW (↑x.1:Int) (aG v.args) (bD (λb o=>aH (bE v.args.a b o) (0<=(↑x.1:Int)) ((↑x.1:Int)<aG v.args) (∃(y:QV),aM m (kB x) b (bI o x.1 21) y.enc/\Et sc p y (kB x) (λv1 s p1 q=>aA (dC (kB x) q v1) (oK q N) (∀(s1:Sl)(h1:PH),cY (kB x) h1 (Ints h1 s1 (bY s p1 q).1) (eE (bY s p1 q).2 0 (K (CV.tup (cR lN (CV.val (eH (bY s p1 q).2)))) m h1) (aA (j8 (oL x)) (eF
 (oL x)) (∃(x1:Nat×List Sl×PH),aA (I x1) (m1 x1<m1 x) (aA (aJ p) (eP 3) (aA eT fI (aA (aJ v.args) (uJ v) (aA (fU (bF x.1 1)=bT x1.1) (bM sc) (aA (dP v) (HR sc (tU p) v v.on (jH (At.lst 41))) (aH (Option.some (Own.lst 33 1 (oL x++cQ (aL s1)))=Option.some (Own.lst 33 1 (oL x1))) (m=m) (h1=kB x1) True)))))))))))))) (sX v.op (λo=>cV (o==1) (qT x sc p v (λs=>qY v (aR (lA (fG v)) (mV v) (aR (mW v) (dV v.on) (aR (pV v) (pW v) (aR (eH v.limit) (sG v) (aL s)))))) (λn=>iG n (fJ n (fH n))) (λq=>q.op=1) (λh1 r=>qP h1 r K m)) (o==2) (qT x sc p v (λs=>qY v (aR (lA (fG v)) (mV v) (aR (mW v) (dV v.on) (aR (pV v) (pW v) (aR (eH v.limit) (sG v) (aL
 s)))))) (λn=>iG n (fJ n (fH n))) (λq=>q.op=2) (λh1 r=>qP h1 r K m)) (cV (o==3) (qT x sc p v (λs=>qY v (aR (lA (fG v)) (mV v) (aR (mW v) (dV v.on) (aR (pV v) (pW v) (aR (eH v.limit) (sG v) (aL s)))))) (λn=>iG n (fJ n (fH n))) (λq=>q.op=3) (λh1 r=>qP h1 r K m)) (o==4) (qT x sc p v (λs=>qY v (aR (lA (fG v)) (mV v) (aR (mW v) (dV v.on) (aR (pV v) (pW v) (aR (eH v.limit) (sG v) (aL s)))))) (λn=>iG n (fJ n (fH n))) (λq=>q.op=4) (λh1 r=>qP h1 r K m)) (cV (o==5) (qT x sc p v (λs=>qY v (aR (lA (fG v)) (mV v) (aR (mW v) (dV v.on) (aR (pV v) (pW v) (aR (eH v.limit) (sG v) (aL s)))))) (λn=>iG n (fJ n (fH
 n))) (λq=>q.op=5) (λh1 r=>qP h1 r K m)) (o==6) (qT x sc p v (λs=>qY v (aR (lA (fG v)) (mV v) (aR (mW v) (dV v.on) (aR (pV v) (pW v) (aR (eH v.limit) (sG v) (aL s)))))) (λn=>iG n (fJ n (fH n))) (λq=>q.op=6\/q.op=7\/q.op=8) (λh1 r=>qP h1 r K m)) (cV (o==7) (qT x sc p v (λs=>qY v (aR (lA (fG v)) (mV v) (aR (mW v) (dV v.on) (aR (pV v) (pW v) (aR (eH v.limit) (sG v) (aL s)))))) (λn=>iG n (fJ n (fH n))) (λq=>q.op=6\/q.op=7\/q.op=8) (λh1 r=>qP h1 r K m)) (o==8) (qT x sc p v (λs=>qY v (aR (lA (fG v)) (mV v) (aR (mW v) (dV v.on) (aR (pV v) (pW v) (aR (eH v.limit) (sG v) (aL s)))))) (λn=>iG n (fJ n (fH n))) (λq
 =>q.op=6\/q.op=7\/q.op=8) (λh1 r=>qP h1 r K m)) (cV (o==9) (qT x sc p v (λs=>qY v (aR (lA (fG v)) (mV v) (aR (mW v) (dV v.on) (aR (pV v) (pW v) (aR (eH v.limit) (sG v) (aL s)))))) (λn=>iG n (fJ n (fH n))) (λq=>q.op=9) (λh1 r=>qP h1 r K m)) (o==10) (qT x sc p v (λs=>qY v (aR (lA (fG v)) (mV v) (aR (mW v) (dV v.on) (aR (pV v) (pW v) (aR (eH v.limit) (sG v) (aL s)))))) (λn=>iG n (fJ n (fH n))) (λq=>q.op=10) (λh1 r=>qP h1 r K m)) (K (CV.tup (aZ lN 100)) m (kB x))))))))
theorem Re:Sound Tryz.prog 116 LL:=by
 refine EX Tryz.func116 ?_;rintro cvs m h K ⟨op,rfl,hK⟩;refine⟨uF [] [] [] [] [183] [] false,rfl,aF,Gp op m h (j4 h K),by kernel_rfl,?_⟩;show Gp op m h (j4 h K);dsimp only[Gp,push_cast];intro b m1 hb hm1;refine⟨_,_,⟨hm1.at_⟩,by decide,λm2 hm2=>?_⟩;have hsub:Sub m m2:=((Sub.refl m).upd hb.m_ hm1.other).upd hb.m_ hm2.other;have e:=hm2.at_
 have none_:∀k,¬(1<=op/\op<=10)->op=k->K (.val .nilFunc) m h:=λk hn _=>by
  have:(op==1)=false/\(op==2)=false/\(op==3)=false/\(op==4)=false/\(op==5)=false/\(op==6)=false/\(op==7)=false/\(op==8)=false/\(op==9)=false/\(op==10)=false:=by
   simp only[beq_eq_false_iff_ne];omega
  obtain⟨e1,e2,e3,e4,e5,e6,e7,e8,e9,e10⟩:=this;rw[e1,e2,e3,e4,e5,e6,e7,e8,e9,e10]at hK;exact hK
 refine aE (λh1=>.sub hsub (none_ _ aC rfl)) (λh1=>aE (λh2=>.sub hsub (none_ _ aC rfl)) (λh2=>⟨aC,aC,?_⟩));have:op=0\/op=1\/op=2\/op=3\/op=4\/op=5\/op=6\/op=7\/op=8\/op=9\/op=10:=by omega
 rcases this with rfl|rfl|rfl|rfl|rfl|rfl|rfl|rfl|rfl|rfl|rfl
 .exact⟨none,.lent _ _ _ e rfl,.sub hsub (none_ 0 aC rfl)⟩
 .exact⟨some 139,.lent _ _ _ e rfl,.sub hsub hK⟩
 .exact⟨some 140,.lent _ _ _ e rfl,.sub hsub hK⟩
 .exact⟨some 141,.lent _ _ _ e rfl,.sub hsub hK⟩
 .exact⟨some 142,.lent _ _ _ e rfl,.sub hsub hK⟩
 .exact⟨some 143,.lent _ _ _ e rfl,.sub hsub hK⟩
 .exact⟨some 144,.lent _ _ _ e rfl,.sub hsub hK⟩
 .exact⟨some 144,.lent _ _ _ e rfl,.sub hsub hK⟩
 .exact⟨some 144,.lent _ _ _ e rfl,.sub hsub hK⟩
 .exact⟨some 145,.lent _ _ _ e rfl,.sub hsub hK⟩
 .exact⟨some 146,.lent _ _ _ e rfl,.sub hsub hK⟩
theorem QY:Sound Tryz.prog 139 (u0 (· =1)):=by
 refine gZ Tryz.func139 ?_;rintro cvs m h K ⟨n,s,ps,q,ks,rfl,hn,h8,hop,hT⟩;obtain⟨op,ta,w,co,on,gr,od,li,args⟩:=q;refine⟨dL [(177,yL),(72,rR)] [] [] [] false,rfl,(aD pY (aD F0 aF)),C4 n m h K,by kernel_rfl,?_⟩;dsimp only[C4,push_cast];cases (show op=1 from hop);exact XB hn h8 ⟨hT⟩
theorem QX:Sound Tryz.prog 140 (u0 (· =2)):=by
 refine gZ Tryz.func140 ?_;rintro cvs m h K ⟨n,s,ps,q,ks,rfl,hn,h8,hop,hT⟩;obtain⟨op,ta,w,co,on,gr,od,li,args⟩:=q;refine⟨dL [(177,yL),(113,pZ)] [] [] [] false,rfl,(aD pY (aD Jy aF)),C3 n m h K,by kernel_rfl,?_⟩;dsimp only[C3,push_cast];cases (show op=2 from hop);exact Xz hn ⟨hT⟩
theorem QU:Sound Tryz.prog 141 (u0 (· =3)):=by
 refine gZ Tryz.func141 ?_;rintro cvs m h K ⟨n,s,ps,q,ks,rfl,hn,h8,hop,hT⟩;obtain⟨op,ta,w,co,on,gr,od,li,args⟩:=q;refine⟨Vu n m h,rfl,(aD pY aF),C2 n m h K,by kernel_rfl,?_⟩;dsimp only[C2,push_cast];cases (show op=3 from hop);exact Xy hn ⟨hT⟩
theorem QT(h101:Sound Tryz.prog 179 Ic):Sound Tryz.prog 142 (u0 (· =4)):=by
 refine gZ Tryz.func142 ?_;rintro cvs m h K ⟨n,s,ps,q,ks,rfl,hn,h8,hop,hT⟩;obtain⟨op,ta,w,co,on,gr,od,li,args⟩:=q;refine⟨dL [(178,JU),(179,Ic)] [] [] [] false,rfl,(aD Ju (aD h101 aF)),C1 n m h K,by kernel_rfl,?_⟩;dsimp only[C1,push_cast];cases (show op=4 from hop);exact Xx hn ⟨hT⟩
theorem QS:Sound Tryz.prog 143 (u0 (· =5)):=by
 refine gZ Tryz.func143 ?_;rintro cvs m h K ⟨n,s,ps,q,ks,rfl,hn,h8,hop,hT⟩;obtain⟨op,ta,w,co,on,gr,od,li,args⟩:=q;refine⟨dL [(178,JU)] [] [] [] false,rfl,(aD Ju aF),C0 n m h K,by kernel_rfl,?_⟩;dsimp only[C0,push_cast];cases (show op=5 from hop);exact Xw hn ⟨hT⟩
theorem QR:Sound Tryz.prog 144 (u0 (λop=>op=6\/op=7\/op=8)):=by
 refine gZ Tryz.func144 ?_;rintro cvs m h K ⟨n,s,ps,q,ks,rfl,hn,h8,hop,hT⟩;obtain⟨op,ta,w,co,on,gr,od,li,args⟩:=q;refine⟨dL [(177,yL),(180,zY)] [] [] [] false,rfl,(aD pY (aD DJ aF)),Gl n m h K,by kernel_rfl,?_⟩;exact Xv hop hn ⟨hT⟩
theorem QQ:Sound Tryz.prog 145 (u0 (· =9)):=by
 refine gZ Tryz.func145 ?_;rintro cvs m h K ⟨n,s,ps,q,ks,rfl,hn,h8,hop,hT⟩;obtain⟨op,ta,w,co,on,gr,od,li,args⟩:=q;refine⟨dL [(177,yL),(181,JQ),(182,JR)] [] [] [] false,rfl,(aD pY (aD Jt (aD Js aF))),CZ n m h K,by kernel_rfl,?_⟩;dsimp only[CZ,push_cast];cases (show op=9 from hop);exact Xu hn ⟨hT⟩
theorem QP:Sound Tryz.prog 146 (u0 (· =10)):=by
 refine gZ Tryz.func146 ?_;rintro cvs m h K ⟨n,s,ps,q,ks,rfl,hn,h8,hop,hT⟩;obtain⟨op,ta,w,co,on,gr,od,li,args⟩:=q;refine⟨dL [(177,yL),(180,zY),(181,JQ),(182,JR)] [] [] [] false,rfl,(aD pY (aD DJ (aD Jt (aD Js aF)))),CY n m h K,by kernel_rfl,?_⟩;dsimp only[CY,push_cast];cases (show op=10 from hop);exact Xt hn ⟨hT⟩
theorem Sh(h101:Sound Tryz.prog 179 Ic):∀N,Sound Tryz.prog 81 (Ba N)
 |0=>by
  refine eD (fn:=Tryz.f81) (c:=dM Tryz.f81) Tryz.func81 rfl (by decide) ?_;rintro cvs m h K ⟨sc,p,v,s,ps,q,rfl,_,_,_,_,hN,_⟩;omega
 |N+1=>by
  refine gZ Tryz.func81 ?_;rintro cvs m h K ⟨sc,p,v,s,ps,q,rfl,hs,h8,hp,hq,hN,hK⟩;refine⟨WU N sc p v m,rfl,(aD (Sh h101 N) (aD Re (aD QY (aD QX (aD QU (aD (QT h101) (aD QS (aD QR (aD QQ (aD QP aF)))))))))),Oq N sc p v m h K,by kernel_rfl,?_⟩;dsimp only[Oq,push_cast];have hlt:=@By q;have hqr:=hq;obtain⟨op,ta,w,co,on,gr,od,li,args⟩:=q;have x:=hq.parts;have e0:=x.op_;have hl:=x.args_.slen;have hlen:=x.args_.len;simp only[Query.args]at hlt;simp only[bY]at hK;refine⟨λ⟨i,ss,hx⟩=>i<=args.length/\PH.le h hx/\∃ks,Slices hx ss ks/\(args.take i).map (bY s ps)=ks.map (λk=>(k,0)),λ⟨i,_,_⟩=>args.length-i,⟨(0,[],h),⟨aC,.refl _,[],⟨rfl,λj s k h1=>by simp at h1⟩,by simp⟩,MT⟩,?_⟩;rintro⟨i,ss,hx⟩ ⟨hi,hle,ks,hS,hks⟩;have hkl:ks.length=i:=by have:=congrArg List.length hks;simp at this;omega
  have hsl:ss.length=i:=by rw[hS.1,hkl]
  dsimp only;refine aE (λhlt2=>?_) (λhge=>?_)
  .obtain⟨q',hq'⟩:=eW hl hlt2;obtain⟨b1,o1,u,ea1,r1,hru⟩:=(x.args_.mono hle).at hq';refine⟨b1,o1,ea1,aC,hlt2,u,.imm r1,sc,p,u,s,ps,q',rfl,hs.mono hle,h8,hp.mono hle,hru,?_,λsl h' hle' hi'=>aB (λh1=>?_) (λh1=>?_)⟩
   .have:=hlt (List.mem_of_getElem? hq');omega
   .have he:(bY s ps q').2≠0:=by simpa using h1
    rw[BN he hks hq' rfl]at hK;exact hK.err (hle.trans hle') (if_neg he)
   .have he:(bY s ps q').2=0:=by simpa using h1
    refine⟨by simp;omega,by simp;omega,(i+1,ss++[sl],h'),⟨aC,hle.trans hle',ks++[(bY s ps q').1],(hS.mono hle').snoc hi',?_⟩,by show args.length-(i+1)<args.length-i;omega,?_⟩
    .rw[fT hq',hks,List.map_append];simp only[List.map_cons,List.map_nil];rw[<-he]
    .rw[List.map_append];exact MT
  .rw[List.take_of_length_le aC]at hks;rw[AX hks]at hK;simp only[if_true]at hK;have hK:KR K m h (uZ s ps (.mk op ta w co on gr od li args) ks):=hK
   have hrep:∀(sl:Sl)(h':PH),PH.le hx h'->cN h' sl 1 (ss.map eS)->uT h' s ps (.mk op ta w co on gr od li args) ks ⟨sc,p,v,sl⟩:=λsl h' hle' hrow=>by
    refine⟨(hs.mono hle).mono hle',(hp.mono hle).mono hle',(hqr.mono hle).mono hle',⟨⟨ss,hrow,hS.1.symm,λj k hk=>?_⟩,aC⟩,λk hk=>?_⟩
    .have hj:j<ss.length:=by rw[hS.1];exact(List.getElem?_eq_some_iff.1 hk).1
     exact⟨ss[j],List.getElem?_eq_getElem hj,(hS.2 j _ _ (List.getElem?_eq_getElem hj) hk).mono hle'⟩
    .obtain⟨j,hj⟩:=List.mem_iff_getElem?.1 hk;have:=FQ hks j
     rwa [List.getD_eq_getElem?_getD,hj]at this
   have tail:∀(h':PH),PH.le hx h'->∀r,fin r=uZ s ps (.mk op ta w co on gr od li args) ks->∀(sl:Sl)(h'':PH),PH.le h' h''->Ints h'' sl r.1->
    branch (r.2 !=0) (K (.tup [.val (.slice none 0 0),.val (.int .i64 r.2)]) m h'') (branch (decide ((sl.len:Int)>12)) (K (.tup [.val (.slice none 0 0),.val (.int .i64 2)]) m h'') (K (.tup [.val (.slice sl.a sl.len sl.cap),.val (.int .i64 0)]) m h'')):=by
    intro h' hle' r hr sl h'' hle2 hi';have hl3:PH.le h h'':=(hle.trans hle').trans hle2;rw[<-hr]at hK;have hsl:=hi'.slen;refine aB (λd1=>?_) (λd1=>aE (λd2=>?_) (λd2=>?_))
    .have d1:r.2≠0:=by simpa using d1
     exact hK.err hl3 (by unfold fin;rw[if_neg d1])
    .have d1:r.2=0:=by simpa using d1
     exact hK.big (l:=r.1) hl3 (by unfold fin;rw[if_pos d1]) aC
    .have d1:r.2=0:=by simpa using d1
     exact hK.ok (l:=r.1) hl3 (by unfold fin;rw[if_pos d1]) aC hi'.row
   refine⟨v.op,rfl,?_⟩;rw[e0];refine aB (λc1 sl h' hle' hrow=>⟨⟨sc,p,v,sl⟩,s,ps,_,ks,by rw[<-e0],hrep sl h' hle' hrow,h8,beq_iff_eq.1 c1,tail h' hle'⟩) (λc1=>?_);refine aB (λc2 sl h' hle' hrow=>⟨⟨sc,p,v,sl⟩,s,ps,_,ks,by rw[<-e0],hrep sl h' hle' hrow,h8,beq_iff_eq.1 c2,tail h' hle'⟩) (λc2=>?_);refine aB (λc3 sl h' hle' hrow=>⟨⟨sc,p,v,sl⟩,s,ps,_,ks,by rw[<-e0],hrep sl h' hle' hrow,h8,beq_iff_eq.1 c3,tail h' hle'⟩) (λc3=>?_);refine aB (λc4 sl h' hle' hrow=>⟨⟨sc,p,v,sl⟩,s,ps,_,ks,by rw[<-e0],hrep sl h' hle' hrow,h8,beq_iff_eq.1 c4,tail h' hle'⟩) (λc4=>?_);refine aB (λc5 sl h' hle' hrow=>⟨⟨sc,p,v,sl⟩,s,ps,_,ks,by rw[<-e0],hrep sl h' hle' hrow,h8,beq_iff_eq.1 c5,tail h' hle'⟩) (λc5=>?_);refine aB (λc6 sl h' hle' hrow=>⟨⟨sc,p,v,sl⟩,s,ps,_,ks,by rw[<-e0],hrep sl h' hle' hrow,h8,.inl (beq_iff_eq.1 c6),tail h' hle'⟩) (λc6=>?_);refine aB (λc7 sl h' hle' hrow=>⟨⟨sc,p,v,sl⟩,s,ps,_,ks,by rw[<-e0],hrep sl h' hle' hrow,h8,.inr (.inl (beq_iff_eq.1 c7)),tail h' hle'⟩) (λc7=>?_);refine aB (λc8 sl h' hle' hrow=>⟨⟨sc,p,v,sl⟩,s,ps,_,ks,by rw[<-e0],hrep sl h' hle' hrow,h8,.inr (.inr (beq_iff_eq.1 c8)),tail h' hle'⟩) (λc8=>?_);refine aB (λc9 sl h' hle' hrow=>⟨⟨sc,p,v,sl⟩,s,ps,_,ks,by rw[<-e0],hrep sl h' hle' hrow,h8,beq_iff_eq.1 c9,tail h' hle'⟩) (λc9=>?_);refine aB (λc10 sl h' hle' hrow=>⟨⟨sc,p,v,sl⟩,s,ps,_,ks,by rw[<-e0],hrep sl h' hle' hrow,h8,beq_iff_eq.1 c10,tail h' hle'⟩) (λc10=>hK.err hle ?_);refine rL λe=>?_;have:arity op= -1:=by simp only[arity];simp only[*,Bool.or_false,Bool.false_or,Bool.or_true,Bool.true_or,Bool.and_true,Bool.true_and,Bool.and_false,Bool.false_and,Bool.not_true,Bool.not_false,Bool.false_eq_true,if_true,if_false, ↓reduceIte]
   have:=e.1;simp only[Query.op]at this;omega
def hP:PV:=⟨0,0,dN,dN,⟨none,0,0⟩⟩
def cA(h:PH)(s:Sl)(l:List VV):Prop:=bL h 3 VV.enc Eq s l
theorem cA.mono{s:Sl}{l:List VV}(x:cA h s l)(le:PH.le h h'):cA h' s l:=bL.mono x le λ_ _ e=>e
def yN:QV:=⟨0,0,hP,⟨none,0,0⟩,⟨none,0,0⟩,⟨none,0,0⟩,⟨none,0,0⟩,0,⟨none,0,0⟩⟩
theorem UK(l:List QV):iN 21 (l.map QV.enc):=by
 constructor
 .intro e he;obtain⟨x,_,rfl⟩:=List.mem_map.1 he;rfl
 .intro e he u hu;obtain⟨x,_,rfl⟩:=List.mem_map.1 he;simp[QV.enc]at hu;rcases hu with rfl|rfl|rfl|rfl|rfl|rfl|rfl|rfl|rfl|rfl|rfl|rfl|rfl|rfl|rfl|rfl|rfl|rfl|rfl|rfl|rfl<;>rfl
mutual
def Un:Pred->Nat
 |.mk _ _ _ _ args=>1+Ff args
def Ff:List Pred->Nat
 |[]=>0
 |p::ps=>Un p+Ff ps
end
mutual
def Rq:Pred->Nat
 |.mk _ _ _ _ args=>1+Ha args
def Ha:List Pred->Nat
 |[]=>0
 |p::ps=>max (Rq p) (Ha ps)
end
mutual
theorem IL:∀(p:Pred)(n:Int),lH p n<=n+Un p
 |.mk _ _ _ _ args,n=>by
  have:=GW args (n+1);simp only[lH,Un];omega
theorem GW:∀(ps:List Pred)(n:Int),jB ps n<=n+Ff ps
 |[],n=>by simp[jB,Ff]
 |p::ps,n=>by
  have h1:=IL p n;have h2:=GW ps (lH p n);simp only[jB,Ff];split<;>omega
end
mutual
theorem Hc:∀(p:Pred)(n:Nat),Rq p<=n->j3 p n=false
 |.mk _ _ _ _ args,0,h=>by simp only[Rq]at h;omega
 |.mk _ _ _ _ args,n+1,h=>by
  simp only[Rq]at h;simp only[j3];exact Fb args n aC
theorem Fb:∀(ps:List Pred)(n:Nat),Ha ps<=n->pA ps n=false
 |[],_,_=>rfl
 |p::ps,n,h=>by
  simp only[Ha]at h;simp only[pA,Hc p n aC,Fb ps n aC,Bool.or_false]
end
def gF:Nat->Nat
 |0=>1
 |d+1=>1+3*gF d
structure JP(d:Nat)(p:Pred):Prop where
 n:Un p<=gF d
 d:Rq p<=d+1
theorem Yt:∀d,1<=gF d
 |0=>Nat.le_refl _
 |d+1=>by rw[gF];omega
theorem JP.leaf(d:Nat){op cmp:Int}{a b:OV}:JP d (.mk op cmp a b []):=⟨by simp[Un,Ff,Yt],by simp[Rq,Ha]⟩
theorem JP.node{d:Nat}{op cmp:Int}{a b:OV}{ps:List Pred}(h:∀p∈ps,JP d p)(hl:ps.length<=3):JP (d+1) (.mk op cmp a b ps):=by
 have h1:∀l:List Pred,(∀p∈l,JP d p)->Ff l<=l.length*gF d/\Ha l<=d+1:=λl=>by
  induction l with
  |nil=>intro _;simp[Ff,Ha]
  |cons p l ih=>
   intro hp;have h2:=ih λx hx=>hp x (List.mem_cons_of_mem _ hx);have h3:=hp p (List.mem_cons_self ..);have:=h3.n;have:=h3.d;simp only[Ff,Ha,List.length_cons,Nat.add_mul,Nat.one_mul];omega
 have h2:=h1 ps h;have h3:ps.length*gF d<=3*gF d:=Nat.mul_le_mul_right _ hl;exact⟨by simp only[Un,gF];omega,by simp only[Rq];omega⟩
mutual
def pB:Query->Nat
 |.mk _ _ _ _ _ _ _ _ args=>1+rN args
def rN:List Query->Nat
 |[]=>0
 |q::qs=>pB q+rN qs
end
mutual
def JF:Query->Nat
 |.mk _ _ _ _ _ _ _ _ args=>1+BY args
def BY:List Query->Nat
 |[]=>0
 |q::qs=>max (JF q) (BY qs)
end
mutual
def lO(c:Nat):Query->Nat
 |.mk op _ _ _ _ _ _ _ args=>if op=1 then c else if op=4 then uI c args else zC c args
def zC(c:Nat):List Query->Nat
 |[]=>0
 |q::qs=>lO c q+zC c qs
def uI(c:Nat):List Query->Nat
 |[]=>1
 |q::qs=>lO c q*uI c qs
end
mutual
theorem IJ:∀(p:Query)(n:Int),nE p n<=n+pB p/\(nE p n<=24->nE p n=n+pB p)
 |.mk _ _ _ _ _ _ _ _ args,n=>by
  have:=GV args (n+1);simp only[nE,pB];omega
theorem GV:∀(ps:List Query)(n:Int),kL ps n<=n+rN ps/\(kL ps n<=24->kL ps n=n+rN ps)
 |[],n=>by simp[kL,rN]
 |p::ps,n=>by
  have h1:=IJ p n;have h2:=GV ps (nE p n);simp only[kL,rN];split<;>omega
end
theorem Cg(h:lF q=true):pB q<=24:=by
 simp only[lF,Bool.and_eq_true,decide_eq_true_eq]at h;have:=(IJ q 0).2 h.1;omega
def gN:Nat->Nat
 |0=>3
 |d+1=>2+2*gN d
def gD:Nat->Nat
 |0=>3
 |d+1=>2+gD d
def gB:Nat->Nat
 |0=>4
 |d+1=>gB d*gB d
structure mY(n d b:Nat)(q:Query):Prop where
 n:pB q<=n
 d:JF q<=d
 b:lO 4 q<=b
def Kg(d:Nat)(q:Query):Prop:=mY (gN d) (gD d) (gB d) q
def wV:Nat->Query->Prop
 |0,q=>mY 1 1 4 q
 |d+1,q=>mY (1+2*gN d) (1+gD d) (gB d*gB d) q
theorem mY.mono{n d n' d' b':Nat}(x:mY n d b q)(h1:n<=n')(h2:d<=d')(h3:b<=b'):mY n' d' b' q:=⟨Nat.le_trans x.n h1,Nat.le_trans x.d h2,Nat.le_trans x.b h3⟩
theorem yC:∀d,3<=gN d/\3<=gD d/\4<=gB d
 |0=>by decide
 |d+1=>by
  obtain⟨h1,h2,h3⟩:=yC d;have:4*4<=gB d*gB d:=Nat.mul_le_mul h3 h3;simp only[gN,gD,gB];omega
theorem wV.arg:∀{d:Nat}{q:Query},wV d q->Kg d q
 |0,_,x=>mY.mono x (by decide) (by decide) (by decide)
 |d+1,_,x=>mY.mono x (by simp only[gN];omega) (by simp only[gD];omega) (by simp only[gB];omega)
theorem mY.one{n d:Nat}(x:mY n d b q)(hb:4<=b){op:Int}{on:List (Int×Int)}:mY (n+1) (d+1) b (.mk op ta w co on gr od li [q]):=by
 obtain⟨h1,h2,h3⟩:=x;refine⟨by simp only[pB,rN];omega,by simp only[JF,BY];omega,?_⟩;simp only[lO,uI,zC];split
 .exact hb
 .split<;>omega
theorem mY.two{n d n' d' b':Nat}{p:Query}(x:mY n d b q)(y:mY n' d' b' p)(hb:4<=b)(hb':4<=b'){op:Int}{on:List (Int×Int)}:mY (1+n+n') (1+max d d') (b*b') (.mk op ta w co on gr od li [q,p]):=by
 obtain⟨h1,h2,h3⟩:=x;obtain⟨h4,h5,h6⟩:=y;have e1:b*4<=b*b':=Nat.mul_le_mul_left _ hb';have e2:4*b'<=b*b':=Nat.mul_le_mul_right _ hb;have e3:lO 4 q*lO 4 p<=b*b':=Nat.mul_le_mul h3 h6;refine⟨by simp only[pB,rN];omega,by simp only[JF,BY];omega,?_⟩;simp only[lO,uI,zC];split
 .omega
 .split
  .simpa using e3
  .omega
theorem mY.scan{on:List (Int×Int)}:mY 1 1 4 (.mk 1 ta w co on gr od li []):=⟨by simp[pB,rN],by simp[JF,BY],by simp[lO]⟩
theorem wV.node{d:Nat}{op:Int}{on:List (Int×Int)}{args:List Query}(h:∀a∈args,Kg d a)(hl:args.length<=2):wV (d+1) (.mk op ta w co on gr od li args):=by
 have h4:=(yC d).2.2;have e1:gB d*4<=gB d*gB d:=Nat.mul_le_mul_left _ h4
 match args,h,hl with
 |[],_,_=>exact⟨by simp only[pB,rN];omega,by simp only[JF,BY];omega,by simp only[lO,uI,zC];split;omega;split<;>omega⟩
 |[q],h,_=>exact mY.mono (mY.one (h q (by simp)) h4) (by have:=(yC d).1;omega) aC aC
 |[q,p],h,_=>exact mY.mono (mY.two (h q (by simp)) (h p (by simp)) h4 h4) aC aC (Nat.le_refl _)
theorem wV.filter{d:Nat}(x:wV d q){op:Int}{on:List (Int×Int)}:Kg d (.mk op ta w co on gr od li [q]):=by
 cases d with
 |zero=>exact mY.mono (mY.one x (by decide)) (by decide) (by decide) (by decide)
 |succ d=>
  have h4:=(yC d).2.2;have e1:gB d*4<=gB d*gB d:=Nat.mul_le_mul_left _ h4;exact mY.mono (mY.one x aC) (by simp only[gN];omega) (by simp only[gD];omega) (by simp only[gB];omega)
theorem Kg.three(d:Nat)(x:mY 3 3 4 q):Kg d q:=mY.mono x (yC d).1 (yC d).2.1 (yC d).2.2
theorem wV.mono{q:Query}:∀{d e:Nat},wV d q->d<=e->wV e q
 |d,0,x,h=>by have:d=0:=by omega
              subst this;exact x
 |d,e+1,x,h=>by
  by_cases h1:d=e+1
  .subst h1;exact x
  .have y:=wV.arg (x.mono (e:=e) aC);have h4:=(yC e).2.2;have e1:gB e*1<=gB e*gB e:=Nat.mul_le_mul_left _ aC;exact mY.mono y aC aC aC
abbrev iD(a:MH)(b:PH)(c d:Nat)(e:Sl->Prop):Prop:=∃(x:Sl),aM a b c d (aL x)/\e x
noncomputable abbrev Bd(a:Int):Value:=Value.int IntKind.u8 a
abbrev jL(a:Prop):Prop:=a->False
attribute [push_cast] iD Bd jL
def O3(cb:Nat)(n:Int)(m:MH)(h:PH)(K:CV->MH->PH->Prop):Prop:=
  sW m h cb 1 (λy=>iD m h cb 0 (λy1=>gA y (aG y1) (K (eZ 0) m h) (aW n 1 (K (eZ 0) m h) (sW m h cb 1 (λy2=>nS m cb 1 (bV (eC (y2+1))) (λm1=>iD m1 h cb 0 (λy3=>∃(y4:Int),aM m1 h cb 1 (bV y4)/\bD (λb o=>aH (bE y3.a b o) (0<=eC (y4-1)) (eC (y4-1)<aG y3) (∃(y5:UInt8),aA (aM m1 h b (fR o (eC (y4-1)) 1) (iE (Bd (wH y5)))) (jL (n=0)) (K (eZ (Int.tmod (eC (wH y5)) n)) m1 h))))))))))
theorem YB(cb:Nat)(n:Int)(m:MH)(h:PH)(K:CV->MH->PH->Prop):O3 cb n m h K=(zM (ctx [] [] [] [] false) Tryz.f15 (dM Tryz.f15) (entry 40 [.val (.pointer (some ⟨cb,0,none⟩)),.val (.int .i64 n)] m h) K):=by kernel_rfl
def XO:Vc.Spec:=λcvs m h K=>∃(cb:Nat)(n:Int)(r:List UInt8),cvs=[.val (.pointer (some ⟨cb,0,none⟩)),.val (.int .i64 n)]/\RM m h cb r/\
 ∀m',bC m m' cb->RM m' h cb (Pl n r).2->K (.val (.int .i64 (Pl n r).1)) m' h
theorem KA:Sound Tryz.prog 15 XO:=by
 refine eD (fn:=Tryz.f15) (c:=dM Tryz.f15) Tryz.func15 rfl (by decide) ?_;rintro cvs m h K ⟨cb,n,r,rfl,⟨s,cs,k,hm,hrow,hk,hlen,rfl⟩,hK⟩;refine⟨ctx [] [] [] [] false,rfl,aF,?_⟩;show zM (ctx [] [] [] [] false) Tryz.f15 (dM Tryz.f15) (entry 40 [.val (.pointer (some ⟨cb,0,none⟩)),.val (.int .i64 n)] m h) K;rw[<-YB];dsimp only[O3,push_cast];have hsl:s.len=cs.length:=by have:=hrow.len;simpa[aY]using this
 refine⟨k,.of_m hm rfl,s,.of_m hm rfl,aE (λhge=>?_) (λhlt=>aE (λhn=>?_) (λhn=>?_))⟩
 .have hd:cs.drop k=[]:=by simp;omega
  rw[hd]at hK;exact hK m ⟨λ_ _=>rfl⟩ ⟨s,cs,k,hm,hrow,hk,hlen,by rw[hd];rfl⟩
 .have hk':k<cs.length:=by omega
  have hd:cs.drop k=cs[k]::cs.drop (k+1):=List.drop_eq_getElem_cons hk';rw[hd]at hK;simp only[Pl,if_pos hn]at hK;refine hK m ⟨λ_ _=>rfl⟩ ⟨s,cs,k,hm,hrow,hk,hlen,hd.symm⟩
 .have hk':k<cs.length:=by omega
  have hd:cs.drop k=cs[k]::cs.drop (k+1):=List.drop_eq_getElem_cons hk';rw[hd]at hK;simp only[Pl,if_neg hn]at hK;have hw:IntKind.i64.wrap ((k:Int)+1)=((k+1:Nat):Int):=by rw[eG]<;>omega
  have hw2:IntKind.i64.wrap (((k+1:Nat):Int)-1)=(k:Int):=by rw[eG]<;>omega
  refine⟨k,.of_m hm rfl,_,_,⟨hm⟩,by simp,λm' hu=>?_⟩;have hm':=hu.at_;rw[hw]at hm';simp only[splice]at hm';obtain hnil|⟨b,o,ha,hrd⟩:=hrow.row
  .exfalso;have:=congrArg List.length hnil;simp[aY]at this;subst this;simp at hk'
  refine⟨s,.of_m hm' rfl,((k+1:Nat):Int),.of_m hm' rfl,b,o,ha,?_⟩;rw[hw2];refine⟨aC,aC,cs[k],.imm ?_,aC,?_⟩
  .have:=hrd k [.int .u8 cs[k].toNat] (by simp[aY,hk']);simpa using this
  .have hlt:cs[k].toNat<256:=cs[k].toNat_lt;rw[eG aC aC,Int.tmod_eq_emod_of_nonneg aC];refine hK m' ⟨hu.other⟩ ⟨s,cs,k+1,hm',hrow,aC,hlen,rfl⟩
def aK(m:MH)(h:PH)(cb:Nat):Prop:=∃r,RM m h cb r
theorem aK.mono(x:aK m h cb)(le:PH.le h h'):aK m h' cb:=by
 obtain⟨r,s,cs,k,h1,h2,h3⟩:=x;exact⟨r,s,cs,k,h1,h2.mono le,h3⟩
theorem bC.refl(m:MH)(cb:Nat):bC m m cb:=⟨λ_ _=>rfl⟩
theorem bC.trans{m'':MH}(a:bC m m' cb)(b:bC m' m'' cb):bC m m'' cb:=⟨λc hc=>(b.other c hc).trans (a.other c hc)⟩
def M7(n:Int):Prop:= -9223372036854775808<=n/\n<=9223372036854775807
structure Hn(v:VV):Prop where
 int_:M7 v.int
 text_:v.text.size<=64
def XN(k:Int):Prop:=k=3\/k=4\/k=5
def SP(k:Int)(v:VV):Prop:=XN k->gK v=true/\v.kind=k
def Fo:Vc.Spec:=λcvs m h K=>∃cb n,cvs=[cP cb,cI n]/\aK m h cb/\∀k m',0<=k->(k<n\/k=0)->bC m m' cb->aK m' h cb->K (cI k) m' h
def J1:Vc.Spec:=λcvs m h K=>∃cb n,cvs=[cP cb,cI n]/\0<=n/\n<=1000/\aK m h cb/\∀r m',bC m m' cb->aK m' h cb->K (cB r) m' h
def SJ:Vc.Spec:=λcvs m h K=>∃cb,cvs=[cP cb]/\aK m h cb/\∀k m',M7 k->bC m m' cb->aK m' h cb->K (cI k) m' h
def XX:Vc.Spec:=λcvs m h K=>∃cb,cvs=[cP cb]/\aK m h cb/\∀t m',t.size<=64->bC m m' cb->aK m' h cb->K (MN t) m' h
def MY:Vc.Spec:=λcvs m h K=>∃cb kind,cvs=[cP cb,cI kind]/\aK m h cb/\∀v m',Hn v->SP kind v->bC m m' cb->aK m' h cb->K (aV v) m' h
theorem FV:Sound Tryz.prog 15 Fo:=by
 refine⟨KA.1,λcvs vs m h w K hS hp=>KA.2 cvs vs m h w K ?_ hp⟩;obtain⟨cb,n,rfl,⟨r,hr⟩,hK⟩:=hS;refine⟨cb,n,r,rfl,hr,λm' ho hc=>hK _ m' ?_ ?_ ho ⟨_,hc⟩⟩
 .cases r with
  |nil=>simp[Pl]
  |cons b r=>
   simp only[Pl];split
   .simp
   .exact Int.emod_nonneg _ aC
 .cases r with
  |nil=>simp[Pl]
  |cons b r=>
   simp only[Pl];split
   .simp
   .exact .inl (Int.emod_lt_of_pos _ aC)
noncomputable def VH(h:PH):Ctx:=
 dL [(15,Fo)] [(18,{A:=Nat×ByteArray×MH,st:=λ⟨i,t,m⟩=>cD 37 38 [(3,vv (.string t)),(4,iv i)] [] m h}),(23,{A:=Nat×ByteArray×MH,st:=λ⟨i,t,m⟩=>cD 37 38 [(3,vv (.string t)),(5,iv i)] [] m h})] [] [] false
abbrev iV(a:Nat)(b:Int)(c:Nat->Option Obj)(d:Nat->Nat->Option Value)(e:Int->MH->Prop):Prop:=∃(x:Nat)(x1:Int),aA (aZ (oC a 0) b=aZ (oC x 0) x1) (aK c d x) (∀(x2:Int)(x3:MH),aT (cF x2) (x2<x1\/x2=0) (aT (bC c x3 x) (aK x3 d x) (e x2 x3)))
attribute [push_cast] iV
def O1(cb:Nat)(n:Int)(m:MH)(h:PH)(K:CV->MH->PH->Prop):Prop:=
  iV cb n m h (λk m1=>K (z7 (k==eC (n-1))) m1 h)
def Lt(cb:Nat)(m:MH)(h:PH)(K:CV->MH->PH->Prop):Prop:=
  iV cb 12 m h (λk m1=>cV (k==9) (K (eZ (Int.negSucc 0)) m1 h) (k==10) (K (eZ 9223372036854775807) m1 h) (dK k 11 (K (eZ (Int.negSucc 9223372036854775807)) m1 h) (jL ((4:Int)=0)/\K (eZ (Int.tmod k 4)) m1 h)))
noncomputable abbrev fO(a:Nat)(b:List UInt8):List UInt8:=OfNat.ofNat a::b
noncomputable abbrev pT(a:Nat):List UInt8:=fO a []
attribute [push_cast] fO pT
def Ls(cb:Nat)(m:MH)(h:PH)(K:CV->MH->PH->Prop):Prop:=
  iV cb 10 m h (λk m1=>cV (k==0) (K (iY (ByteArray.mk (Array.mk (pT 97)))) m1 h) (k==1) (K (iY (ByteArray.mk (Array.mk (pT 97)))) m1 h) (cV (k==2) (K (iY (ByteArray.mk (Array.mk (pT 97)))) m1 h) (k==3) (K (iY (ByteArray.mk (Array.mk (pT 98)))) m1 h) (cV (k==4) (K (iY (ByteArray.mk (Array.mk (pT 98)))) m1 h) (k==5) (K (CV.val RQ) m1 h) (cV (k==6) (K (iY (ByteArray.mk (Array.mk (fO 97 (fO 0 []))))) m1 h) (k==7) (K (iY (ByteArray.mk (Array.mk (pT 255)))) m1 h) (dK k 8 (∃(I:Nat×ByteArray×MH->Prop)(m2:Nat×ByteArray×MH->Nat),(∃(x:Nat×ByteArray×MH),aA (I x) (SV.at Pt=SV.at (MU x.2.1)) (aA (bA x.1) (m1=x.2.2) (bN h h)))/\∀(x:Nat×ByteArray×MH),I x->aW (↑x.1:Int) 64 (x.2.1.size<9223372036854775807/\∃(x1:Nat×ByteArray×MH),aA (I
 x1) (m2 x1<m2 x) (aA (SV.at (MU (x.2.1++ByteArray.mk (Array.mk (pT 255))))=SV.at (MU x1.2.1)) (fU (bF x.1 1)=bT x1.1) (bW (x.2.2=x1.2.2) h h))) (K (iY x.2.1) x.2.2 h)) (∃(I:Nat×ByteArray×MH->Prop)(m2:Nat×ByteArray×MH->Nat),(∃(x:Nat×ByteArray×MH),aA (I x) (SV.at Pt=SV.at (MU x.2.1)) (aA (bA x.1) (m1=x.2.2) (bN h h)))/\∀(x:Nat×ByteArray×MH),I x->aW (↑x.1:Int) 64 (x.2.1.size<9223372036854775807/\∃(x1:Nat×ByteArray×MH),aA (I x1) (m2 x1<m2 x) (aA (SV.at (MU (x.2.1++ByteArray.mk (Array.mk (pT 98))))=SV.at (MU x1.2.1)) (fU (bF x.1 1)=bT x1.1) (bW (x.2.2=x1.2.2) h h))) (K (iY x.2.1) x.2.2 h)))))))
abbrev jX(a:MH)(b:PH)(c:Nat)(d:Prop):Prop:=aK a b c->d
attribute [push_cast] jX
def Ou(cb:Nat)(kind:Int)(m:MH)(h:PH)(K:CV->MH->PH->Prop):Prop:=
  cV (kind==3) (iV cb 2 m h (λk m1=>K (mM (aR (eH kind) (eH k) wL)) m1 h)) (kind==4) (∃(c:Nat),aA (eA (oC cb 0) (oC c 0)) (aK m h c) (∀(k:Int)(m1:MH),aT (M7 k) (bC m m1 c) (jX m1 h c (K (mM (aR (eH kind) (eH k) wL)) m1 h)))) (∃(c:Nat),aA (eA (oC cb 0) (oC c 0)) (aK m h c) (∀(t:ByteArray)(m1:MH),aT (t.size<=64) (bC m m1 c) (jX m1 h c (K (mM (aR (eH 5) bU (iE (Value.string t)))) m1 h))))
theorem YA{n:Int}(hc:aK m h cb)(hK:∀r m',bC m m' cb->aK m' h cb->K (cB r) m' h):O1 cb n m h K:=
 ⟨cb,n,rfl,hc,λ_ m' _ _ ho hc'=>hK _ m' ho hc'⟩
theorem Dy:BC ⟨#[]⟩=true:=by simp[BC,ByteArray.toList_eq]
theorem Yk{k:Int}(h0:0<=k)(h1:k<2\/k=0):gK ⟨3,k,⟨#[]⟩⟩=true:=by
 have:k=0\/k=1:=by omega
 rcases this with rfl|rfl<;>simp[gK,Dy]
theorem UB(k:Int):gK ⟨4,k,⟨#[]⟩⟩=true:=by simp[gK,Dy]
theorem Yj{t:ByteArray}(h:t.size<=64):gK ⟨5,0,t⟩=true:=by
 simp[gK];omega
theorem v8:Sound Tryz.prog 16 J1:=by
 refine gZ Tryz.func16 ?_;rintro cvs m h K ⟨cb,n,rfl,_,_,hc,hK⟩;refine⟨dL [(15,Fo)] [] [] [] false,rfl,aD FV aF,O1 cb n m h K,by kernel_rfl,?_⟩;exact YA hc hK
theorem Rj:Sound Tryz.prog 108 SJ:=by
 refine gZ Tryz.func108 ?_;rintro cvs m h K ⟨cb,rfl,hc,hK⟩;refine⟨dL [(15,Fo)] [] [] [] false,rfl,aD FV aF,Lt cb m h K,by kernel_rfl,?_⟩;dsimp only[Lt,push_cast];refine⟨cb,12,rfl,hc,λk m' h0 h1 ho hc'=>aB (λ_=>hK _ m' ⟨aC,aC⟩ ho hc') (λ_=>aB (λ_=>hK _ m' ⟨aC,aC⟩ ho hc') (λ_=>aB (λ_=>hK _ m' ⟨aC,aC⟩ ho hc') (λ_=>⟨aC,hK _ m' ?_ ho hc'⟩)))⟩;rw[Int.tmod_eq_emod_of_nonneg h0];exact⟨aC,aC⟩
theorem Ri:Sound Tryz.prog 109 XX:=by
 refine gZ Tryz.func109 ?_;rintro cvs m h K ⟨cb,rfl,hc,hK⟩;refine⟨VH h,rfl,aD FV aF,Ls cb m h K,by kernel_rfl,?_⟩;dsimp only[Ls,push_cast];refine⟨cb,10,rfl,hc,λk m' h0 h1 ho hc'=>?_⟩;refine aB (λ_=>hK _ m' (by decide) ho hc') (λ_=>aB (λ_=>hK _ m' (by decide) ho hc') (λ_=>aB (λ_=>hK _ m' (by decide) ho hc') (λ_=>aB (λ_=>hK _ m' (by decide) ho hc') (λ_=>aB (λ_=>hK _ m' (by decide) ho hc') (λ_=>aB (λ_=>hK _ m' (by decide) ho hc') (λ_=>aB (λ_=>hK _ m' (by decide) ho hc') (λ_=>aB (λ_=>hK _ m' (by decide) ho hc') (λ_=>aB (λ_=>?_) (λ_=>?_)))))))))
 all_goals
  refine⟨λ⟨i,t,mx⟩=>mx=m'/\i<=64/\t.size=i,λ⟨i,_,_⟩=>64-i,⟨(0,⟨#[]⟩,m'),⟨rfl,aC,rfl⟩,MT⟩,?_⟩;rintro⟨i,t,m'⟩ ⟨rfl,hi,ht⟩;dsimp only;refine aE (λhlt=>⟨?_,(i+1,_,m'),⟨rfl,aC,?_⟩,by show 64-(i+1)<64-i;omega,MT⟩) (λhge=>hK t m' aC ho hc')
  .rw[ht];show i+1<=_;omega
  .rw[ByteArray.size_append,ht];rfl
theorem FZ:Sound Tryz.prog 77 MY:=by
 refine gZ Tryz.func77 ?_;rintro cvs m h K ⟨cb,kind,rfl,hc,hK⟩;refine⟨dL [(15,Fo),(108,SJ),(109,XX)] [] [] [] false,rfl,aD FV (aD Rj (aD Ri aF)),Ou cb kind m h K,by kernel_rfl,?_⟩;dsimp only[Ou,push_cast];refine aB (λe=>⟨cb,2,rfl,hc,λk m' h0 h1 ho hc'=>hK ⟨kind,k,⟨#[]⟩⟩ m' ⟨⟨by show-9223372036854775808<=k;omega,by show k<=9223372036854775807;omega⟩,by show(ByteArray.mk #[]).size<=64;decide⟩ (λ_=>?_) ho hc'⟩) (λe1=>aB (λe=>⟨cb,rfl,hc,λk m' hk ho hc'=>hK ⟨kind,k,⟨#[]⟩⟩ m' ⟨hk,by show(ByteArray.mk #[]).size<=64;decide⟩ (λ_=>?_) ho hc'⟩) (λe2=>⟨cb,rfl,hc,λt m' ht ho hc'=>hK ⟨5,0,t⟩ m' ⟨⟨by simp,by simp⟩,ht⟩ (λhk=>?_) ho hc'⟩))
 .have e:kind=3:=by simpa using e
  subst e;exact⟨Yk h0 h1,rfl⟩
 .have e:kind=4:=by simpa using e
  subst e;exact⟨UB k,rfl⟩
 .have e1:kind≠3:=by simpa using e1
  have e2:kind≠4:=by simpa using e2
  exact⟨Yj ht,by rcases hk with hk|hk|hk;exact absurd hk e1;exact absurd hk e2;exact hk.symm⟩
mutual
def Fm:Pred->Prop
 |.mk _ _ l r args=>Hn l.value/\Hn r.value/\JT args
def JT:List Pred->Prop
 |[]=>True
 |p::ps=>Fm p/\JT ps
end
theorem JS:∀{l:List Pred},JT l↔∀p∈l,Fm p
 |[]=>by simp[JT]
 |p::ps=>by simp[JT,JS (l:=ps)]
theorem mP:Hn zeroV:=⟨⟨by decide,by decide⟩,by decide⟩
structure Pw(cols params:List Int)(kind:Int)(o:OV):Prop where
 val:Hn o.value
 kind:XN kind->kindOf cols params o=kind
def Hq(l:List Int):Prop:=∀k∈l,XN k
structure PW(cols params:List Int)(d:Nat)(p:Pred):Prop where
 vals:Fm p
 valid:Hq cols->iU cols params p=true
 siz:JP d p
def Pv:Vc.Spec:=λcvs m h K=>∃cb s t kind cols params,cvs=[cP cb,cS s,cS t,cI kind]/\aK m h cb/\Ints h s cols/\Ints h t params/\cols.length<=1000/\params.length<=1000/\∀o m',Pw cols params kind o->bC m m' cb->aK m' h cb->K (aO o) m' h
def KP(K:CV->MH->PH->Prop)(m:MH)(h:PH)(cb:Nat)(R:Pred->Prop):Prop:=∀v p m' h',PH.le h h'->eN h' p v->R p->bC m m' cb->aK m' h' cb->K (aP v) m' h'
def VY(N:Nat):Vc.Spec:=λcvs m h K=>∃cb s t cols params,∃deep:Nat,cvs=[cP cb,cS s,cS t,cI deep]/\aK m h cb/\Ints h s cols/\Ints h t params/\cols.length<=1000/\params.length<=1000/\deep<N/\deep<=1000/\KP K m h cb (PW cols params deep)
structure uV(cols params:List Int)(d:Nat)(p:Pred):Prop where
 vals:Fm p
 valid:d<=2->Hq cols->Hq params->iC cols params p=0
def wU:Vc.Spec:=λcvs m h K=>∃cb s t cols params,∃deep:Nat,cvs=[cP cb,cS s,cS t,cI deep]/\aK m h cb/\Ints h s cols/\Ints h t params/\cols.length<=1000/\params.length<=1000/\deep<=1000/\KP K m h cb (uV cols params deep)
def pv(b:Nat):SV:=vv (.pointer (some ⟨b,0,none⟩))
noncomputable def WL(cb:Nat)(s t:Sl)(kind:Int)(m:MH)(h:PH):Ctx:=
 dL [(15,Fo),(77,MY)] [(3,{A:=Nat×List OV,st:=λ⟨i,os⟩=>cD 64 68 [(0,pv cb),(2,sv t),(3,iv kind),(8,.at (.ptr 8 0)),(9,.at (.lst 29)),(15,sv s),(16,iv s.len),(17,iv i)] [(8,.cells 29 (dN.enc.map .val)),(29,.lst 29 5 (os.map OV.enc))] m h}),
  (9,{A:=Nat×List OV,st:=λ⟨i,os⟩=>cD 64 68 [(0,pv cb),(3,iv kind),(8,.at (.ptr 8 0)),(9,.at (.lst 29)),(31,sv t),(32,iv t.len),(33,iv i)] [(8,.cells 29 (dN.enc.map .val)),(29,.lst 29 5 (os.map OV.enc))] m h})] [] [] false
noncomputable def W2(N:Nat)(cb:Nat)(s t:Sl)(deep:Nat)(h0:PH):Ctx:=
 dL [(15,Fo),(16,J1),(96,Pv),(77,MY),(68,VY N)] [(18,{A:=Int×Int×List PV×MH×PH,st:=λ⟨op,n,us,m,h⟩=>cD 107 111 [(0,pv cb),(1,sv s),(2,sv t),(3,iv deep),(8,.at (.ptr 8 0)),(12,.at (.ptr 12 0)),(13,iv n)] [(8,.cells 32 (hP.enc.map .val)),(12,.cells 32 (((⟨op,0,dN,dN,⟨none,0,0⟩⟩:PV).enc.take 12).map .val++[.lst 104])),(104,.lst 32 13 (us.map PV.enc))] m h})] [(3,{A:=Int×Bool×MH,st:=λ⟨k,b,m⟩=>cD 107 111 [(0,pv cb),(1,sv s),(2,sv t),(3,iv deep),(8,.at (.ptr 8 0)),(9,iv k),(16,bv b)] [(8,.cells 32 (hP.enc.map .val))] m h0}),
  (5,{A:=Int×Bool×MH,st:=λ⟨k,b,m⟩=>cD 107 111 [(0,pv cb),(1,sv s),(2,sv t),(3,iv deep),(8,.at (.ptr 8 0)),(9,iv k),(27,bv b)] [(8,.cells 32 (hP.enc.map .val))] m h0}),
  (8,{A:=Int×MH,st:=λ⟨k,m⟩=>cD 107 111 [(0,pv cb),(1,sv s),(2,sv t),(8,.at (.ptr 8 0)),(10,iv k)] [(8,.cells 32 (hP.enc.map .val))] m h0}),
  (9,{A:=PV×Int×MH,st:=λ⟨p,k,m⟩=>cD 107 111 [(0,pv cb),(1,sv s),(2,sv t),(8,.at (.ptr 8 0)),(10,iv k),(11,.at (.ptr 11 0))] [(8,.cells 32 (hP.enc.map .val)),(11,.cells 32 (p.enc.map .val))] m h0}),
  (11,{A:=PV×MH,st:=λ⟨p,m⟩=>cD 107 111 [(0,pv cb),(8,.at (.ptr 8 0)),(11,.at (.ptr 11 0))] [(8,.cells 32 (hP.enc.map .val)),(11,.cells 32 (p.enc.map .val))] m h0}),
  (13,{A:=PV×MH,st:=λ⟨p,m⟩=>cD 107 111 [(8,.at (.ptr 8 0)),(11,.at (.ptr 11 0))] [(8,.cells 32 (hP.enc.map .val)),(11,.cells 32 (p.enc.map .val))] m h0})] [] false
noncomputable abbrev dX(a b:Int)(c:List At):List At:=lS (lT a) (lT b) c
abbrev Av:Prop:=eQ (oQ 29 (dX 0 0 (dX 0 0 (jH Pt))))
noncomputable abbrev lK(a:Nat×List OV):List (List Value):=List.map OV.enc a.2
abbrev EA(a b:Nat×List OV):Prop:=fU (bF a.1 1)=bT b.1
abbrev AF(a:Nat)(b:Int)(c:Nat->Option Obj)(d:Nat->Nat->Option Value)(e:VV->MH->Prop):Prop:=∃(x:Nat)(x1:Int),aA (aZ (oC a 0) b=aZ (oC x 0) x1) (aK c d x) (∀(x2:VV)(x3:MH),aT (Hn x2) (SP x1 x2) (aT (bC c x3 x) (aK x3 d x) (e x2 x3)))
attribute [push_cast] dX Av lK EA AF
def Od(cb:Nat)(s t:Sl)(kind:Int)(m:MH)(h:PH)(K:CV->MH->PH->Prop):Prop:=
  ∃(I:Nat×List OV->Prop)(m1:Nat×List OV->Nat),(∃(x:Nat×List OV),aA (I x) (cW cb) (aA (aJ t) (eQ (fU kind)) (aA fI (eL 29) (aA (aJ s) (bK s) (aA (bA x.1) Av (aA (Option.some (Own.lst 29 5 [])=Option.some (Own.lst 29 5 (lK x))) (m=m) (bN h h)))))))/\∀(x:Nat×List OV),I x->aW (↑x.1:Int) (aG s) (bD (λb o=>aH (bE s.a b o) (0<=(↑x.1:Int)) ((↑x.1:Int)<aG s) (∃(y:Int),aM m h b (bI o x.1 1) (bV y)/\dK y kind (aA (iA (kZ (lK x) 1*48)) (eF (lK x)) (∃(x1:Nat×List OV),aA (I x1) (m1 x1<m1 x) (aA (cW cb) (aJ t) (aA (eQ (fU kind)) fI (aA (eL 29) (aJ s) (aA (bK s) (EA x x1) (aA Av (Option.some (Own.lst 29 5 (lK x++cQ (aR (eH 1) (eH (↑x.1:Int)) (aR bU bU wL))))=Option.some
 (Own.lst 29 5 (lK x1))) (bW (m=m) h h)))))))) (∃(x1:Nat×List OV),aA (I x1) (m1 x1<m1 x) (aA (cW cb) (aJ t) (aA (eQ (fU kind)) fI (aA (eL 29) (aJ s) (aA (bK s) (EA x x1) (aA Av (Option.some (Own.lst 29 5 (lK x))=Option.some (Own.lst 29 5 (lK x1))) (bW (m=m) h h)))))))))) (∃(I1:Nat×List OV->Prop)(m2:Nat×List OV->Nat),(∃(x1:Nat×List OV),aA (I1 x1) (cW cb) (aA (eQ (fU kind)) fI (aA (eL 29) (aJ t) (aA (bK t) (bA x1.1) (aA Av (Option.some (Own.lst 29 5 (lK x))=Option.some (Own.lst 29 5 (lK x1))) (aA (m=m) (h=h) True))))))/\∀(x1:Nat×List OV),I1 x1->aW (↑x1.1:Int) (aG t) (bD (λb o=>aH (bE t.a b o) (0<=(↑x1.1:Int)) ((↑x1.1:Int)<aG t) (∃(y:Int),aM m h b (bI o x1.1 1) (bV y)/\dK y kind (aA
 (iA (kZ (lK x1) 1*48)) (eF (lK x1)) (∃(x2:Nat×List OV),aA (I1 x2) (m2 x2<m2 x1) (aA (cW cb) (eQ (fU kind)) (aA fI (eL 29) (aA (aJ t) (bK t) (aA (EA x1 x2) Av (aA (Option.some (Own.lst 29 5 (lK x1++cQ (aR (eH 2) (eH (↑x1.1:Int)) (aR bU bU wL))))=Option.some (Own.lst 29 5 (lK x2))) (m=m) (bN h h)))))))) (∃(x2:Nat×List OV),aA (I1 x2) (m2 x2<m2 x1) (aA (cW cb) (eQ (fU kind)) (aA fI (eL 29) (aA (aJ t) (bK t) (aA (EA x1 x2) Av (aA (Option.some (Own.lst 29 5 (lK x1))=Option.some (Own.lst 29 5 (lK x2))) (m=m) (bN h h)))))))))) (iV cb (bF (lK x1).length 1) m h (λk m3=>aW k (jW (lK x1)) (aA (cF k) (k<jW (lK x1)) (∃(e:List Value),tP (lK x1) k.toNat e/\∃(y:OV),List.take 5
 (List.drop 0 e)=y.enc/\K (mM y.enc) m3 h)) (AF cb kind m3 h (λv m4=>K (mM (aR (eH 3) bU (aR (eH v.kind) (eH v.int) (iE (Value.string v.text))))) m4 h)))))
abbrev mR(a:Nat)(b:Int)(c:Nat->Option Obj)(d:Nat->Nat->Option Value)(e:Nat->Bool->Prop):Prop:=∃(x:Nat)(x1:Int),aA (aZ (oC a 0) b=aZ (oC x 0) x1) (cF x1) (aA (x1<=1000) (aK c d x) (∀(x2:Bool),e x x2))
abbrev rE:Prop:=eQ (oQ 32 zP)
abbrev El(a:Int×Bool×MH->Prop)(b:Nat)(c d:Sl)(e:Nat)(g:Int)(i:(Int×Bool×MH)->Prop)(j:Nat->Option Obj)(k:PH):Prop:=∃(x:Int×Bool×MH),aA (a x) (cW b) (aA (aJ c) (aJ d) (aA (eQ (bT e)) fI (aA (cL g x.1) (i x) (aH rE (j=x.2.2) (k=k) True))))
abbrev mG(a:Nat):Prop:=a<=1000
abbrev fS(a:List Int):Prop:=mG a.length
noncomputable abbrev CK(a:OV):At:=MU a.value.text
abbrev vS(a:Sl->Sl->(List Int)->(List Int)->Nat->Prop):Prop:=jV (λx x1=>uW (λx2 x3=>∃(x4:Nat),a x x1 x2 x3 x4))
abbrev Ar(a:PV->Pred->Prop):Prop:=∀(x:PV)(x1:Pred),a x x1
abbrev fM(a:MH->PH->Prop):Prop:=∀(x:MH)(x1:PH),a x x1
abbrev Em(a:List CV)(b:MH)(c:PH)(d:Nat)(e:PV->MH->PH->Prop):Prop:=∃(x:Nat),vS (λx1 x2 x3 x4 x5=>aA (a=oC x 0::cK x1 (fC x2 (↑x5:Int))) (aK b c x) (aA (Ints c x1 x3) (Ints c x2 x4) (aA (fS x3) (fS x4) (aA (x5<d) (mG x5) (Ar (λx6 x7=>fM (λx8 x9=>cY c x9 (eN x9 x7 x6) (aT (PW x3 x4 x5 x7) (bC b x8 x) (jX x8 x9 x (e x6 x8 x9))))))))))
noncomputable abbrev AK(a:Int×Int×List PV×MH×PH):List (List Value):=List.map PV.enc a.2.2.1
abbrev bH(a:Nat->Option Obj)(b:MH×PH):Prop:=a=b.1
noncomputable abbrev EN(a:Int×Int×List PV×MH×PH):Nat->Nat->Option Value:=a.2.2.2.2
attribute [push_cast] mR rE El mG fS CK vS Ar fM Em AK bH EN
def OA(N:Nat)(cb:Nat)(s t:Sl)(deep:Nat)(m:MH)(h:PH)(K:CV->MH->PH->Prop):Prop:=
  iV cb 9 m h (λk m1=>∃(I:Int×Bool×MH->Prop),dK k 0 (mR cb 2 m1 h (λc r=>∀(m2:MH),aT (bC m1 m2 c) (aK m2 h c) (El I cb s t deep k (λx=>gT r x.2.1) m2 h))) (El I cb s t deep k (λx=>An x.2.1) m1 h)/\∀(x:Int×Bool×MH),gG (I x) x.2.1 (iV cb 2 x.2.2 h (λk1 m2=>K (mM (aR (eH (eC (1+k1))) bU (aR bU bU (aR bU bU (aR RQ bU (aR bU bU (aR bU RQ hX))))))) m2 h)) (∃(I1:Int×Bool×MH->Prop),aW x.1 6 (El I1 cb s t deep x.1 (λx1=>uL x1.2.1) x.2.2 h) (El I1 cb s t deep x.1 (λx1=>gT (decide ((↑deep:Int)<1)) x1.2.1) x.2.2 h)/\∀(x1:Int×Bool×MH),I1 x1->cV x1.2.1 (∃(I2:Int×MH->Prop),eM (aG s) 0 (iV cb (aG s) x1.2.2 h (λk1 m2=>bD (λb o=>aH (bE s.a b o) (0<=k1) (k1<
 aG s) (∃(y:Int),aM m2 h b (fR o k1 1) (bV y)/\∃(x2:Int×MH),aA (I2 x2) (cW cb) (aA (aJ s) (aJ t) (aA fI (cL y x2.1) (aA rE (m2=x2.2) (bN h h)))))))) (∃(x2:Int×MH),aA (I2 x2) (cW cb) (aA (aJ s) (aJ t) (aA fI (cL 4 x2.1) (aA rE (x1.2.2=x2.2) (bN h h)))))/\∀(x2:Int×MH),I2 x2->∃(I3:PV×Int×MH->Prop),iV cb 6 x2.2 h (λk1 m2=>∃(c:Nat),jV (λs1 t1=>∃(k2:Int),uW (λc1 p=>aA (oC cb 0::cK s (fC t x2.1)=oC c 0::cK s1 (fC t1 k2)) (aK m2 h c) (aA (Ints h s1 c1) (Ints h t1 p) (aA (fS c1) (fS p) (∀(o:OV)(m3:MH),aT (Pw c1 p k2 o) (bC m2 m3 c) (jX m3 h c (AF cb x2.1 m3 h (λv m4=>∃(x3:PV×Int×MH),aA (I3 x3) (cW cb) (aA (aJ s) (aJ t) (aA fI (cL x2.1 x3.2.1)
 (aA (eP 11) rE (aH (oQ 32 (dX 3 (eC (1+k1)) (dX o.kind o.index (dX (oV o) o.value.int (lS (CK o) (lT 3) (dX 0 v.kind (lS (lT v.int) (MU v.text) (jH JM)))))))=oB 32 x3.1.enc) (m4=x3.2.2) (h=h) True)))))))))))))/\∀(x3:PV×Int×MH),I3 x3->∃(I4:PV×MH->Prop),mR cb 3 x3.2.2 h (λc r=>∀(m2:MH),aT (bC x3.2.2 m2 c) (aK m2 h c) (branch r (∃(c1:Nat),jV (λs1 t1=>∃(k1:Int),uW (λc2 p=>aA (oC cb 0::cK s (fC t x3.2.1)=oC c1 0::cK s1 (fC t1 k1)) (aK m2 h c1) (aA (Ints h s1 c2) (Ints h t1 p) (aA (fS c2) (fS p) (∀(o:OV)(m3:MH),aT (Pw c2 p k1 o) (bC m2 m3 c1) (jX m3 h c1 (∃(x4:PV×MH),aA (I4 x4) (cW cb) (aA fI (eP 11) (aA rE (oQ 32 (dX x3.1.op x3.1.cmp (dX x3.1.left.kind x3.1.left.index (dX
 (oV x3.1.left) x3.1.left.value.int (lS (CK x3.1.left) (lT o.kind) (dX o.index (oV o) (lS (lT o.value.int) (CK o) (jH (tU x3.1.args))))))))=oB 32 x4.1.enc) (aA (m3=x4.2) (h=h) True))))))))))) (∃(x4:PV×MH),aA (I4 x4) (cW cb) (aA fI (eP 11) (aA rE (oB 32 x3.1.enc=oB 32 x4.1.enc) (aA (m2=x4.2) (h=h) True))))))/\∀(x4:PV×MH),I4 x4->∃(I5:PV×MH->Prop),mR cb 6 x4.2 h (λc r=>∀(m2:MH),aT (bC x4.2 m2 c) (aK m2 h c) (branch r (∃(x5:PV×MH),aA (I5 x5) fI (aA (eP 11) rE (aH (oQ 32 (dX x4.1.op x4.1.cmp (dX x4.1.right.kind x4.1.right.index (dX (oV x4.1.right) x4.1.right.value.int (lS (CK x4.1.right) (lT x4.1.left.kind) (dX x4.1.left.index (oV x4.1.left) (lS (lT x4.1.left.value.int) (CK x4.1.left) (jH (tU x4.1.args))))))))=
 oB 32 x5.1.enc) (m2=x5.2) (h=h) True))) (∃(x5:PV×MH),aA (I5 x5) fI (aA (eP 11) rE (aH (oB 32 x4.1.enc=oB 32 x5.1.enc) (m2=x5.2) (h=h) True)))))/\∀(x5:PV×MH),I5 x5->K (dO x5.1) x5.2 h) (x1.1==6) (Em (oC cb 0::cK s (fC t (eC ((↑deep:Int)-1)))) x1.2.2 h N (λv m2 h1=>bX h1 13 (cQ v.enc) (λs1 h2=>K (mM (aR (eH 6) bU (aR bU bU (aR bU bU (aR RQ bU (aR bU bU (aR bU RQ (aL s1)))))))) m2 h2))) (iV cb 3 x1.2.2 h (λk1 m2=>∃(I2:Int×Int×List PV×MH×PH->Prop)(m3:Int×Int×List PV×MH×PH->Nat),(∃(x2:Int×Int×List PV×MH×PH),aA (I2 x2) (cW cb) (aA (aJ s) (aJ t) (aA (eQ (bT deep)) fI (aA (eP 12) (cL k1 x2.2.1) (aA rE (oQ 32 (dX (eC (eC (4+x1.1)-7)) 0 (dX 0 0 (dX 0 0
 (lS Pt (lT 0) (dX 0 0 (lS (lT 0) Pt (jH (At.lst 104))))))))=oQ 32 (dX x2.1 0 (dX 0 0 (dX 0 0 (lS Pt (lT 0) (dX 0 0 (lS (lT 0) Pt (jH (At.lst 104))))))))) (aA (Option.some (Own.lst 32 13 [])=Option.some (Own.lst 32 13 (AK x2))) (bH m2 x2.2.2.2) (bN h (EN x2))))))))/\∀(x2:Int×Int×List PV×MH×PH),I2 x2->gA x2.2.1 0 (Em (oC cb 0::cK s (fC t (eC ((↑deep:Int)-1)))) x2.2.2.2.1 (EN x2) N (λv m4 h1=>aA (iA (kZ (AK x2) 1*136)) (eF (AK x2)) (∃(x3:Int×Int×List PV×MH×PH),aA (I2 x3) (m3 x3<m3 x2) (aA (cW cb) (aJ s) (aA (aJ t) (eQ (bT deep)) (aA fI (eP 12) (aA (cL (eC (x2.2.1-1)) x3.2.1) rE (aA (oQ 32 (dX x2.1 0 (dX 0 0 (dX 0 0 (lS Pt (lT 0) (dX 0 0 (lS (lT 0) Pt (jH (At.lst
 104))))))))=oQ 32 (dX x3.1 0 (dX 0 0 (dX 0 0 (lS Pt (lT 0) (dX 0 0 (lS (lT 0) Pt (jH (At.lst 104))))))))) (Option.some (Own.lst 32 13 (AK x2++cQ v.enc))=Option.some (Own.lst 32 13 (AK x3))) (bW (bH m4 x3.2.2.2) h1 (EN x3)))))))))) (bX (EN x2) 13 (AK x2) (λs1 h1=>K (mM (aR (eH x2.1) bU (aR bU bU (aR bU bU (aR RQ bU (aR bU bU (aR bU RQ (aL s1)))))))) x2.2.2.2.1 h1))))))
def OQ(N:Nat)(cb:Nat)(s t:Sl)(deep:Nat)(m:MH)(h:PH)(K:CV->MH->PH->Prop):Prop:=
  Em (oC cb 0::cK s (fC t (↑deep:Int))) m h N (λv m1 h1=>Cq (cK s (fF t (dO v))) h1 (λc p p1=>dK (iC c p p1) 2 (Em (oC cb 0::cK s (fC t 1)) m1 h1 N (λv1 m2 h2=>K (dO v1) m2 h2)) (K (dO v) m1 h1)))
theorem Pb:Ui zeroV zeroV=true:=by simp[Ui]
theorem xA:Mc 0 dN dN=true:=by simp[Mc,Uj,Ui]
theorem P1{cols params:List Int}{x:Int}(h:cols[i]? =some x):kindOf cols params ⟨1,i,zeroV⟩=x:=by
 have hl:=(List.getElem?_eq_some_iff.1 h).1;have e:kindOf cols params ⟨1,i,zeroV⟩=oR cols ⟨1,i,zeroV⟩:=rfl;have e2:=Pb;rw[e];simp only[oR,e2,Bool.not_true,Bool.or_false];rw[if_neg (by simp;omega)];simp[List.getD_eq_getElem?_getD,h]
theorem P0{cols params:List Int}{x:Int}(h:params[i]? =some x):kindOf cols params ⟨2,i,zeroV⟩=x:=by
 have hl:=(List.getElem?_eq_some_iff.1 h).1;have e:kindOf cols params ⟨2,i,zeroV⟩=oR params ⟨2,i,zeroV⟩:=rfl;have e2:=Pb;rw[e];simp only[oR,e2,Bool.not_true,Bool.or_false];rw[if_neg (by simp;omega)];simp[List.getD_eq_getElem?_getD,h]
theorem NQ{cols params:List Int}{kind:Int}{v:VV}(hv:Hn v)(hk:SP kind v):Pw cols params kind ⟨3,0,v⟩:=⟨hv,λh=>by
 obtain⟨h1,h2⟩:=hk h;have e:kindOf cols params ⟨3,0,v⟩=if((0:Int) !=0|| !kY v)then 0 else v.kind:=rfl
 rw[e,if_neg,h2];simp only[kY,h1,h2];rcases h with rfl|rfl|rfl<;>decide⟩
theorem Tx:Sound Tryz.prog 96 Pv:=by
 refine gZ Tryz.func96 ?_;rintro cvs m h K ⟨cb,s,t,kind,cols,params,rfl,hc,hs,ht,l1,l2,hK⟩;refine⟨WL cb s t kind m h,rfl,aD FV (aD FZ aF),Od cb s t kind m h K,by kernel_rfl,?_⟩;dsimp only[Od,push_cast];have hsl:=hs.slen;have htl:=ht.slen;refine⟨λ⟨i,os⟩=>i<=cols.length/\os.length<=i/\∀o∈os,Pw cols params kind o,λ⟨i,_⟩=>cols.length-i,⟨(0,[]),⟨aC,by simp,by simp⟩,MT⟩,?_⟩;rintro⟨i,os⟩ ⟨hi,hol,hos⟩;dsimp only;refine aE (λhlt=>?_) (λhge=>?_)
 .obtain⟨x,hx⟩:=eW hsl hlt;obtain⟨b1,o1,e1,r1⟩:=hs.at' hx;refine⟨b1,o1,e1,aC,hlt,x,.imm r1,aB (λek=>⟨by simp;omega,by simp;omega,(i+1,os++[⟨1,i,zeroV⟩]),⟨aC,by simp;omega,?_⟩,by show cols.length-(i+1)<cols.length-i;omega,?_⟩) (λ_=>⟨(i+1,os),⟨aC,by show os.length<=i+1;omega,hos⟩,by show cols.length-(i+1)<cols.length-i;omega,MT⟩)⟩
  .intro o ho;rcases List.mem_append.1 ho with h1|h1
   .exact hos o h1
   .simp at h1;subst h1;exact⟨mP,λ_=>by rw[P1 (by simpa using hx)];simpa using ek⟩
  .rw[List.map_append];exact MT
 refine⟨λ⟨i,os⟩=>i<=params.length/\os.length<=1000+i/\∀o∈os,Pw cols params kind o,λ⟨i,_⟩=>params.length-i,⟨(0,os),⟨aC,aC,hos⟩,MT⟩,?_⟩;clear hi hol hos hge;rintro⟨i,os⟩ ⟨hi,hol,hos⟩;dsimp only;refine aE (λhlt=>?_) (λhge=>?_)
 .obtain⟨x,hx⟩:=eW htl hlt;obtain⟨b1,o1,e1,r1⟩:=ht.at' hx;refine⟨b1,o1,e1,aC,hlt,x,.imm r1,aB (λek=>⟨by simp;omega,by simp;omega,(i+1,os++[⟨2,i,zeroV⟩]),⟨aC,by simp;omega,?_⟩,by show params.length-(i+1)<params.length-i;omega,?_⟩) (λ_=>⟨(i+1,os),⟨aC,by show os.length<=1000+(i+1);omega,hos⟩,by show params.length-(i+1)<params.length-i;omega,MT⟩)⟩
  .intro o ho;rcases List.mem_append.1 ho with h1|h1
   .exact hos o h1
   .simp at h1;subst h1;exact⟨mP,λ_=>by rw[P0 (by simpa using hx)];simpa using ek⟩
  .rw[List.map_append];exact MT
 .refine⟨cb,_,rfl,hc,λk m' h0 h1 ho hc'=>aE (λhk=>?_) (λhk=>⟨cb,kind,rfl,hc',λv m'' hv hkw ho' hc''=>hK ⟨3,0,v⟩ m'' (NQ hv hkw) (ho.trans ho') hc''⟩)⟩;have hk':k.toNat<os.length:=by simp at hk;omega
  exact⟨h0,hk,_,by rw[List.getElem?_map,List.getElem?_eq_getElem hk'];rfl,os[k.toNat],rfl,hK _ m' (hos _ (List.getElem_mem hk')) ho hc'⟩
theorem I6{h:PH}{v:PV}(ha:v.args=⟨none,0,0⟩):eN h (.mk v.op v.cmp v.left v.right []) v:=eN.mk (by rw[ha];exact .nil _ _ _ _)
structure Wm(cols params:List Int)(kd:Int)(p:PV):Prop where
 args_:p.args=⟨none,0,0⟩
 op_:p.op=3
 cmp_:1<=p.cmp/\p.cmp<=6
 left_:Pw cols params kd p.left
 right_:Pw cols params kd p.right
 kind_:Hq cols->XN kd
theorem WA{k:Int}(h:XN k):k≠0:=by rcases h with rfl|rfl|rfl<;>decide
theorem Wm.pw{cols params:List Int}{kd:Int}{p:PV}(x:Wm cols params kd p)(d:Nat):PW cols params d (.mk p.op p.cmp p.left p.right []):=by
 refine⟨⟨x.left_.val,x.right_.val,trivial⟩,λhc=>?_,JP.leaf d⟩;have hk:=x.kind_ hc;have h1:=x.left_.kind hk;have h2:=x.right_.kind hk;have h3:=WA hk;have h4:=x.cmp_;rw[x.op_];simp[iU,h1,h2,h3,h4.1,h4.2]
theorem Yo{cols params:List Int}{d:Nat}(x:PW cols params d p):PW cols params (d+1) (.mk 6 0 dN dN [p]):=
 ⟨⟨mP,mP,x.vals,trivial⟩,λhc=>by
  have e:=xA;simp[iU,z8,e,x.valid hc],JP.node (λq hq=>by simp at hq;subst hq;exact x.siz) (by simp)⟩
theorem Yp{cols params:List Int}{d:Nat}{op:Int}{ps:List Pred}(ho:op=4\/op=5)(x:∀p∈ps,PW cols params d p)(hl:ps.length<=3):PW cols params (d+1) (.mk op 0 dN dN ps):=
 ⟨⟨mP,mP,JS.2 λp hp=>(x p hp).vals⟩,λhc=>by
  have e:=xA;have e2:z8 cols params ps=true:=by rw[Bs,List.all_eq_true];exactλp hp=>(x p hp).valid hc
  rcases ho with rfl|rfl<;>simp[iU,e,e2],JP.node (λq hq=>(x q hq).siz) hl⟩
theorem Sj:∀N,Sound Tryz.prog 68 (VY N)
 |0=>by
  refine eD (fn:=Tryz.f68) (c:=dM Tryz.f68) Tryz.func68 rfl (by decide) ?_;rintro cvs m h K ⟨cb,s,t,cols,params,deep,rfl,_,_,_,_,_,hN,_⟩;omega
 |N+1=>by
  refine gZ Tryz.func68 ?_;rintro cvs m h K ⟨cb,s,t,cols,params,deep,rfl,hc,hs,ht,l1,l2,hN,hd,hK⟩;refine⟨W2 N cb s t deep h,rfl,aD FV (aD v8 (aD Tx (aD FZ (aD (Sj N) aF)))),OA N cb s t deep m h K,by kernel_rfl,?_⟩;dsimp only[OA,push_cast];have hsl:=hs.slen;refine⟨cb,9,rfl,hc,λk m1 k0 k1 o1 c1=>?_⟩;refine⟨λ⟨k,_,mx⟩=>0<=k/\k<=8/\bC m mx cb/\aK mx h cb,aB (λ_=>⟨cb,2,rfl,aC,aC,c1,λr m2 o2 c2=>⟨(k,r,m2),⟨k0,aC,o1.trans o2,c2⟩,MT⟩⟩) (λ_=>⟨(k,false,m1),⟨k0,aC,o1,c1⟩,MT⟩),?_⟩;clear k0 k1 o1 c1 k m1;rintro⟨k,b,m1⟩ ⟨k0,k1,o1,c1⟩;dsimp only;refine aB (λ_=>⟨cb,2,rfl,c1,λj m2 j0 j1 o2 c2=>?_⟩) (λ_=>?_)
  .refine hK ⟨IntKind.i64.wrap (1+j),0,dN,dN,⟨none,0,0⟩⟩ _ m2 h (.refl _) (I6 rfl) ⟨⟨mP,mP,trivial⟩,λ_=>?_,JP.leaf _⟩ (o1.trans o2) c2;have hj:j=0\/j=1:=by omega
   have e1:IntKind.i64.wrap 1=1:=by decide
   have e2:IntKind.i64.wrap 2=2:=by decide
   rcases hj with rfl|rfl
   .simp[iU,e1,xA]
   .simp[iU,e2,xA]
  refine⟨λ⟨k,b,mx⟩=>0<=k/\k<=8/\(b=false->6<=k/\1<=deep)/\bC m mx cb/\aK mx h cb,aE (λ_=>⟨(k,true,m1),⟨k0,k1,λe=>(by cases e),o1,c1⟩,MT⟩) (λhk=>⟨(k,_,m1),⟨k0,k1,λe=>?_,o1,c1⟩,MT⟩),?_⟩
  .simp at e;exact⟨aC,aC⟩
  clear k0 k1 o1 c1 k m1;rintro⟨k,b,m1⟩ ⟨k0,k1,kb,o1,c1⟩;dsimp only;refine aB (λ_=>?_) (λhb=>?_)
  .refine⟨λ⟨kd,mx⟩=>(Hq cols->XN kd)/\bC m mx cb/\aK mx h cb,aE (λhpos=>⟨cb,s.len,rfl,c1,λj m2 j0 j1 o2 c2=>?_⟩) (λ_=>⟨(4,m1),⟨λ_=>.inr (.inl rfl),o1,c1⟩,MT⟩),?_⟩
   .obtain⟨b1,off,e1,r1⟩:=hs.inb (n:=j) j0 aC
    have hm:cols.getD j.toNat 0∈cols:=by
     have:j.toNat<cols.length:=by omega
     rw[List.getD_eq_getElem?_getD,List.getElem?_eq_getElem this];exact List.getElem_mem this
    exact⟨b1,off,e1,j0,aC,_,.imm r1,(_,m2),⟨λhcol=>hcol _ hm,o1.trans o2,c2⟩,MT⟩
   clear o1 c1 m1;rintro⟨kd,m1⟩ ⟨hkd,o1,c1⟩;dsimp only;refine⟨λ⟨p,kd,mx⟩=>Wm cols params kd p/\bC m mx cb/\aK mx h cb,⟨cb,6,rfl,c1,λj m2 j0 j1 o2 c2=>⟨cb,s,t,kd,cols,params,rfl,c2,hs,ht,l1,l2,λo m3 ho o3 c3=>⟨cb,kd,rfl,c3,λv m4 hv hkw o4 c4=>⟨(⟨3,IntKind.i64.wrap (1+j),o,⟨3,0,v⟩,⟨none,0,0⟩⟩,kd,m4),⟨⟨rfl,rfl,?_,ho,NQ hv hkw,hkd⟩,((o1.trans o2).trans o3).trans o4,c4⟩,MT⟩⟩⟩⟩,?_⟩
   .show 1<=IntKind.i64.wrap (1+j)/\IntKind.i64.wrap (1+j)<=6;rw[eG aC aC];omega
   clear o1 c1 m1 hkd kd;rintro⟨p,kd,m1⟩ ⟨pw,o1,c1⟩;dsimp only;refine⟨λ⟨p,mx⟩=>Wm cols params kd p/\bC m mx cb/\aK mx h cb,⟨cb,3,rfl,aC,aC,c1,λr m2 o2 c2=>aB (λ_=>⟨cb,s,t,kd,cols,params,rfl,c2,hs,ht,l1,l2,λo m3 ho o3 c3=>⟨(⟨p.op,p.cmp,p.left,o,p.args⟩,m3),⟨⟨pw.args_,pw.op_,pw.cmp_,pw.left_,ho,pw.kind_⟩,(o1.trans o2).trans o3,c3⟩,MT⟩⟩) (λ_=>⟨(p,m2),⟨pw,o1.trans o2,c2⟩,MT⟩)⟩,?_⟩;clear pw o1 c1 m1 p;rintro⟨p,m1⟩ ⟨pw,o1,c1⟩;dsimp only;refine⟨λ⟨p,mx⟩=>Wm cols params kd p/\bC m mx cb/\aK mx h cb,⟨cb,6,rfl,aC,aC,c1,λr m2 o2 c2=>aB (λ_=>⟨(⟨p.op,p.cmp,p.right,p.left,p.args⟩,m2),⟨⟨pw.args_,pw.op_,pw.cmp_,pw.right_,pw.left_,pw.kind_⟩,o1.trans o2,c2⟩,MT⟩) (λ_=>⟨(p,m2),⟨pw,o1.trans o2,c2⟩,MT⟩)⟩,?_⟩;clear pw o1 c1 m1 p;rintro⟨p,m1⟩ ⟨pw,o1,c1⟩;exact hK p _ m1 h (.refl _) (I6 pw.args_) (pw.pw deep) o1 c1
  have hdeep:=kb hb;have hw:IntKind.i64.wrap ((deep:Int)-1)=((deep-1:Nat):Int):=by rw[eG aC aC];omega
  rw[hw];have hdd:deep=deep-1+1:=by omega
  refine aB (λ_=>⟨cb,s,t,cols,params,deep-1,rfl,c1,hs,ht,l1,l2,aC,aC,λv p m2 h2 hle hr hp o2 c2 sl h3 hle2 hrow=>?_⟩) (λhk6=>⟨cb,3,rfl,c1,λj m2 j0 j1 o2 c2=>?_⟩)
  .refine hK ⟨6,0,dN,dN,sl⟩ (.mk 6 0 dN dN [p]) m2 h3 (hle.trans hle2) (eN.mk (v:=⟨6,0,dN,dN,sl⟩) ⟨⟨[v],hrow,rfl,λi x hx=>?_⟩,by simp⟩) (by rw[hdd];exact Yo hp) (o1.trans o2) (c2.mono hle2)
   match i,hx with
   |0,hx=>simp at hx;subst hx;exact⟨v,rfl,hr.mono hle2⟩
   |_+1,hx=>simp at hx
  refine⟨λ⟨op,n,us,mx,hx⟩=>(op=4\/op=5)/\ -1<=n/\n<=2/\(us.length:Int)<=2-n/\PH.le h hx/\bC m mx cb/\aK mx hx cb/\∃ps:List Pred,ps.length=us.length/\(∀q∈ps,PW cols params (deep-1) q)/\∀(i:Nat) q,ps[i]? =some q->∃u,us[i]? =some u/\eN hx q u,λ⟨_,n,_,_,_⟩=>(n+1).toNat,⟨(_,j,[],m2,h),⟨?_,aC,aC,by simp;omega,.refl _,o1.trans o2,c2,[],rfl,by simp,λi q hq=>by simp at hq⟩,MT⟩,?_⟩
  .have hk6:k≠6:=by simpa using hk6
   have hk7:k=7\/k=8:=by omega
   rcases hk7 with rfl|rfl
   .exact .inl (by decide)
   .exact .inr (by decide)
  rintro⟨op,n,us,mx,hx⟩ ⟨hop,n0,n1,ul,hle,ox,cx,ps,pl,pw,hps⟩;dsimp only;refine aE (λhn=>⟨cb,s,t,cols,params,deep-1,rfl,cx,hs.mono hle,ht.mono hle,l1,l2,aC,aC,λv p m3 h3 hle3 hr hp o3 c3=>⟨by simp;omega,by simp;omega,(op,n-1,us++[v],m3,h3),⟨hop,by show-1<=n-1;omega,by show n-1<=2;omega,by simp;omega,hle.trans hle3,ox.trans o3,c3,ps++[p],by simp[pl],?_,?_⟩,?_,?_⟩⟩) (λhn sl h3 hle3 hrow=>?_)
  .intro q hq;rcases List.mem_append.1 hq with h1|h1
   .exact pw q h1
   .simp at h1;subst h1;exact hp
  .intro i q hq;by_cases hi:i<ps.length
   .rw[List.getElem?_append_left hi]at hq;obtain⟨u,h1,h2⟩:=hps i q hq;exact⟨u,by rw[List.getElem?_append_left aC];exact h1,h2.mono hle3⟩
   .rw[List.getElem?_append_right aC]at hq;have hl:=(List.getElem?_eq_some_iff.1 hq).1;simp at hl;have:i=ps.length:=by omega
    subst this;simp at hq;subst hq;exact⟨v,by rw[List.getElem?_append_right aC,pl];simp,hr⟩
  .show(n-1+1).toNat<(n+1).toNat;omega
  .rw[List.map_append,eG aC aC];exact MT
  .exact hK ⟨op,0,dN,dN,sl⟩ (.mk op 0 dN dN ps) mx h3 (hle.trans hle3) (eN.mk (v:=⟨op,0,dN,dN,sl⟩) ⟨⟨us,hrow,pl,λi q hq=>(hps i q hq).imp λu hu=>⟨hu.1,hu.2.mono hle3⟩⟩,aC⟩) (by rw[hdd];exact Yp hop pw aC) ox (cx.mono hle3)
theorem Pg(h:Hq l):l.all dR=true:=List.all_eq_true.2 λk hk=>by
 rcases h k hk with e|e|e<;>subst e<;>rfl
theorem RY{cols params:List Int}{d:Nat}(x:PW cols params d p)(hd:d<=2)(hc:Hq cols)(hp:Hq params):iC cols params p=0:=by
 have h1:=IL p 0;have h2:=x.siz.n;have h3:=Hc p 8 (by have:=x.siz.d;omega)
 have h4:gF d<=13:=by match d,hd with
  |0,_=>decide
  |1,_=>decide
  |2,_=>decide
 unfold iC;rw[Pg hc,Pg hp,if_neg (by simp),h3,if_neg (by simp;omega),x.valid hc];rfl
theorem CU:Sound Tryz.prog 30 wU:=by
 refine gZ Tryz.func30 ?_;rintro cvs m h K ⟨cb,s,t,cols,params,deep,rfl,hc,hs,ht,l1,l2,hd,hK⟩;refine⟨dL [(68,VY 1001),(69,pZ)] [] [] [] false,rfl,aD (Sj 1001) (aD F2 aF),OQ 1001 cb s t deep m h K,by kernel_rfl,?_⟩;dsimp only[OQ,push_cast];refine⟨cb,s,t,cols,params,deep,rfl,hc,hs,ht,l1,l2,aC,hd,λv p m2 h2 hle hr hp o2 c2=>⟨s,t,v,cols,params,p,rfl,hs.mono hle,ht.mono hle,hr,aB (λ_=>⟨cb,s,t,cols,params,1,rfl,c2,hs.mono hle,ht.mono hle,l1,l2,aC,aC,λv3 p3 m3 h3 hle3 hr3 hp3 o3 c3=>hK v3 p3 m3 h3 (hle.trans hle3) hr3 ⟨hp3.vals,λ_ k1 k2=>RY hp3 (by decide) k1 k2⟩ (o2.trans o3) c3⟩) (λ_=>hK v p m2 h2 hle hr ⟨hp.vals,λk0 k1 k2=>RY hp k0 k1 k2⟩ o2 c2)⟩⟩
def cE:Sl:=⟨none,0,0⟩
def SY:Vc.Spec:=λcvs m h K=>∃n k,cvs=[MN n,cI k]/\K (.val (.agg ⟨(lQ.mk n k).enc⟩)) m h
def V7:Vc.Spec:=λcvs m h K=>∃t,cvs=[cI t]/\K (aQ ⟨1,t,hP,cE,cE,cE,cE,0,cE⟩) m h
def XS(v:QV)(g o:Sl)(k:Int):QV:=⟨v.op,v.table,v.where_,v.columns,v.on,g,o,k,v.args⟩
def X0:Vc.Spec:=λcvs m h K=>∃cb v s kinds,cvs=[cP cb,aQ (XS v cE cE v.limit),cS s]/\aK m h cb/\Ints h s kinds/\kinds.length<=1000/\
 ∀g o k gr od m' h',PH.le h h'->Ints h' g gr->iJ h' o od->gr.length<=kinds.length->od.length<=kinds.length->0<=k->k<=3->bC m m' cb->aK m' h' cb->K (aQ (XS v g o k)) m' h'
noncomputable def Xd(cb:Nat)(v:QV)(s:Sl)(h:PH):Ctx:=
 dL [(15,Fo),(16,J1)] [(2,{A:=Nat×List Int×List (Int×Bool)×MH,st:=λ⟨i,gr,od,m⟩=>cD 37 40 [(0,pv cb),(4,.at (.ptr 4 0)),(6,.at (.ptr 6 0)),(9,iv s.len),(10,iv i)] [(4,.cells 38 ((v.enc.take 17).map .val++[.lst 19,.lst 30,.val (.int .i64 v.limit),.val (.slice v.args.a v.args.len v.args.cap)])),(6,.cells 38 (yN.enc.map .val)),(19,.lst 3 1 (gr.map eI)),(30,.lst 72 2 (od.map Cf))] m h})] [] [] false
def U2(n:ByteArray)(k:Int)(m:MH)(h:PH)(K:CV->MH->PH->Prop):Prop:=
  K (mM (nI n k)) m h
def U5(t:Int)(m:MH)(h:PH)(K:CV->MH->PH->Prop):Prop:=
  K (mM (vP (eH 1) (eH t))) m h
abbrev Cr(a:QV):Prop:=eQ (oQ 38 (dX a.op a.table (pQ a.where_ (lS (BG a) (tU a.on) (lS (At.lst 19) (At.lst 30) (oW (lT a.limit) (tU a.args)))))))
abbrev hU:Prop:=eQ (oQ 38 zQ)
noncomputable abbrev pH(a:Nat×List Int×List (Int×Bool)×MH):List (List Value):=List.map Cf a.2.2.1
abbrev En(a:Nat×List Int×List (Int×Bool)×MH->Prop)(b:Nat×List Int×List (Int×Bool)×MH->Nat)(c:Nat×List Int×List (Int×Bool)×MH)(d:Nat)(e:Sl)(g:Prop)(i j:(Nat×List Int×List (Int×Bool)×MH)->Prop)(k:MH)(l:PH):Prop:=∃(x:Nat×List Int×List (Int×Bool)×MH),aA (a x) (b x<b c) (aA (cW d) (eP 4) (aA (eP 6) (bK e) (aA (fU (bF c.1 1)=bT x.1) g (aA hU (i x) (aA (j x) (k=x.2.2.2) (bN l l))))))
attribute [push_cast] Cr hU pH En
def OK(cb:Nat)(v:QV)(s:Sl)(m:MH)(h:PH)(K:CV->MH->PH->Prop):Prop:=
  ∃(I:Nat×List Int×List (Int×Bool)×MH->Prop)(m1:Nat×List Int×List (Int×Bool)×MH->Nat),(∃(x:Nat×List Int×List (Int×Bool)×MH),aA (I x) (cW cb) (aA (eP 4) (eP 6) (aA (bK s) (bA x.1) (aA (Cr v) hU (aA (pD x.2.1) (Option.some (Own.lst 72 2 [])=Option.some (Own.lst 72 2 (pH x))) (aA (m=x.2.2.2) (h=h) True))))))/\∀(x:Nat×List Int×List (Int×Bool)×MH),I x->aW (↑x.1:Int) (aG s) (mR cb 3 x.2.2.2 h (λc r=>∀(m2:MH),aT (bC x.2.2.2 m2 c) (aK m2 h c) (branch r (aA (xC x.2.1) (eF (fK x.2.1)) (mR cb 3 m2 h (λc1 r1=>∀(m3:MH),aT (bC m2 m3 c1) (aK m3 h c1) (branch r1 (mR cb 2 m3 h (λc2 r2=>∀(m4:MH),aT (bC m3 m4 c2) (aK m4 h c2) (aA (iA (kZ (pH x) 1*16)) (eF (pH x)) (En I m1 x cb s (Cr
 v) (λx1=>qZ x.2.1 (↑x.1:Int) x1.2.1) (λx1=>Option.some (Own.lst 72 2 (pH x++cQ (jI (eH (↑x.1:Int)) (Value.bool r2))))=Option.some (Own.lst 72 2 (pH x1))) m4 h)))) (En I m1 x cb s (Cr v) (λx1=>qZ x.2.1 (↑x.1:Int) x1.2.1) (λx1=>Option.some (Own.lst 72 2 (pH x))=Option.some (Own.lst 72 2 (pH x1))) m3 h))))) (mR cb 3 m2 h (λc1 r1=>∀(m3:MH),aT (bC m2 m3 c1) (aK m3 h c1) (branch r1 (mR cb 2 m3 h (λc2 r2=>∀(m4:MH),aT (bC m3 m4 c2) (aK m4 h c2) (aA (iA (kZ (pH x) 1*16)) (eF (pH x)) (En I m1 x cb s (Cr v) (λx1=>rF (fK x.2.1) x1.2.1) (λx1=>Option.some (Own.lst 72 2 (pH x++cQ (jI (eH (↑x.1:Int)) (Value.bool r2))))=Option.some (Own.lst 72 2 (pH x1))) m4 h)))) (En I m1 x cb s (Cr v) (λx1=>
 rF (fK x.2.1) x1.2.1) (λx1=>Option.some (Own.lst 72 2 (pH x))=Option.some (Own.lst 72 2 (pH x1))) m3 h))))))) (iV cb 4 x.2.2.2 h (λk m2=>bX h 1 (fK x.2.1) (λs1 h1=>bX h1 2 (pH x) (λs2 h2=>K (mM (Cv v v (aR (lA (iF v)) (kM (fG v)) (aR (wK (fG v)) (eH (oV (fG v))) (aR (pX (fG v)) (lA (fG v)) (aR (mV v) (mW v) (aR (dV v.on) (dV s1) (aR (dV s2) (eH k) (aL v.args))))))))) m2 h2))))
theorem TI:Sound Tryz.prog 76 SY:=by
 refine gZ Tryz.func76 ?_;rintro cvs m h K ⟨n,k,rfl,hK⟩;refine⟨dL [] [] [] [] false,rfl,aF,U2 n k m h K,by kernel_rfl,?_⟩;exact hK
theorem KL:Sound Tryz.prog 40 V7:=by
 refine gZ Tryz.func40 ?_;rintro cvs m h K ⟨t,rfl,hK⟩;refine⟨dL [] [] [] [] false,rfl,aF,U5 t m h K,by kernel_rfl,?_⟩;exact hK
theorem TP:Sound Tryz.prog 42 X0:=by
 refine gZ Tryz.func42 ?_;rintro cvs m h K ⟨cb,v,s,kinds,rfl,hc,hs,hl,hK⟩;refine⟨Xd cb v s h,rfl,aD FV (aD v8 aF),OK cb v s m h K,by kernel_rfl,?_⟩;dsimp only[OK,push_cast];have hsl:=hs.slen;refine⟨λ⟨i,gr,od,mx⟩=>i<=kinds.length/\gr.length<=i/\od.length<=i/\bC m mx cb/\aK mx h cb,λ⟨i,_,_,_⟩=>kinds.length-i,⟨(0,[],[],m),⟨aC,by simp,by simp,.refl _ _,hc⟩,MT⟩,?_⟩;rintro⟨i,gr,od,m1⟩ ⟨hi,hg,ho,o1,c1⟩;dsimp only;refine aE (λhlt=>?_) (λhge=>?_)
 .have fin:∀(gr':List Int)(od':List (Int×Bool)) m',gr'.length<=i+1->od'.length<=i+1->bC m m' cb->aK m' h cb->(i+1<=kinds.length/\gr'.length<=i+1/\od'.length<=i+1/\bC m m' cb/\aK m' h cb):=λgr' od' m' h1 h2 h3 h4=>⟨aC,h1,h2,h3,h4⟩
  refine⟨cb,3,rfl,aC,aC,c1,λr m2 o2 c2=>aB (λ_=>⟨by simp;omega,by simp;omega,cb,3,rfl,aC,aC,c2,λr2 m3 o3 c3=>aB (λ_=>⟨cb,2,rfl,aC,aC,c3,λr3 m4 o4 c4=>⟨by simp;omega,by simp;omega,(i+1,gr++[(i:Int)],od++[((i:Int),r3)],m4),fin (gr++[(i:Int)]) (od++[((i:Int),r3)]) m4 (by simp;omega) (by simp;omega) (((o1.trans o2).trans o3).trans o4) c4,by show kinds.length-(i+1)<kinds.length-i;omega,?_⟩⟩) (λ_=>⟨(i+1,gr++[(i:Int)],od,m3),fin (gr++[(i:Int)]) od m3 (by simp;omega) aC ((o1.trans o2).trans o3) c3,by show kinds.length-(i+1)<kinds.length-i;omega,?_⟩)⟩)
   (λ_=>⟨cb,3,rfl,aC,aC,c2,λr2 m3 o3 c3=>aB (λ_=>⟨cb,2,rfl,aC,aC,c3,λr3 m4 o4 c4=>⟨by simp;omega,by simp;omega,(i+1,gr,od++[((i:Int),r3)],m4),fin gr (od++[((i:Int),r3)]) m4 aC (by simp;omega) (((o1.trans o2).trans o3).trans o4) c4,by show kinds.length-(i+1)<kinds.length-i;omega,?_⟩⟩) (λ_=>⟨(i+1,gr,od,m3),fin gr od m3 aC aC ((o1.trans o2).trans o3) c3,by show kinds.length-(i+1)<kinds.length-i;omega,MT⟩)⟩)⟩
  .simp only[List.map_append];exact MT
  .simp only[List.map_append];exact MT
  .simp only[List.map_append];exact MT
 .refine⟨cb,4,rfl,c1,λk m2 k0 k1 o2 c2 s1 h1 hle1 r1 s2 h2 hle2 r2=>?_⟩;exact hK s1 s2 k gr od m2 h2 (hle1.trans hle2) ⟨r1.mono hle2,aC⟩ ⟨r2,aC⟩ aC aC k0 aC (o1.trans o2) (c2.mono (hle1.trans hle2))
def Wc:Vc.Spec:=λcvs m h K=>∃cb s t a b,cvs=[cP cb,cS s,cS t]/\aK m h cb/\Ints h s a/\Ints h t b/\a.length<=1000/\b.length<=1000/\
 ∀o on m' h',PH.le h h'->lB h' o on->on.length<=10->bC m m' cb->aK m' h' cb->K (cS o) m' h'
noncomputable def Xe(cb:Nat)(s t:Sl)(h:PH):Ctx:=
 dL [(15,Fo)] [(3,{A:=Int×List (Int×Int)×MH,st:=λ⟨n,on,m⟩=>cD 77 80 [(0,pv cb),(1,sv s),(2,sv t),(7,.at (.lst 75)),(8,iv n)] [(75,.lst 69 2 (on.map sS))] m h}),
  (8,{A:=Int×Nat×List (Int×Int)×(Int×Int)×Bool×MH,st:=λ⟨n,i,on,p,f,m⟩=>cD 77 80 [(0,pv cb),(1,sv s),(2,sv t),(7,.at (.lst 75)),(8,iv n),(9,.at (.ptr 9 0)),(10,bv f),(49,.at (.lst 75)),(50,iv on.length),(51,iv i)] [(9,.cells 69 [.val (.int .i64 p.1),.val (.int .i64 p.2)]),(75,.lst 69 2 (on.map sS))] m h})] [] [] false
noncomputable abbrev vH(a:Int×List (Int×Int)×MH):List (List Value):=List.map sS a.2.1
noncomputable abbrev AL(a:Int×Nat×List (Int×Int)×(Int×Int)×Bool×MH):Bool:=a.2.2.2.2.1
noncomputable abbrev vG(a:Int×Nat×List (Int×Int)×(Int×Int)×Bool×MH):Nat:=a.2.2.1.length
noncomputable abbrev wJ(a:Int×Nat×List (Int×Int)×(Int×Int)×Bool×MH):Int×Int:=a.2.2.2.1
noncomputable abbrev nB(a:Int×Nat×List (Int×Int)×(Int×Int)×Bool×MH):List (List Value):=List.map sS a.2.2.1
noncomputable abbrev tE(a:Int×Nat×List (Int×Int)×(Int×Int)×Bool×MH):Nat->Option Obj:=a.2.2.2.2.2
abbrev HD(a:(Int×Nat×List (Int×Int)×(Int×Int)×Bool×MH)->Prop)(b:(Int×Nat×List (Int×Int)×(Int×Int)×Bool×MH)->Nat)(c d:Nat)(e g:Sl)(i:Int×Nat×List (Int×Int)×(Int×Int)×Bool×MH)(j:(Int×Nat×List (Int×Int)×(Int×Int)×Bool×MH)->Int×Nat×List (Int×Int)×(Int×Int)×Bool×MH)(k:(Int×Nat×List (Int×Int)×(Int×Int)×Bool×MH)->Prop):Prop:=∃(x:Int×Nat×List (Int×Int)×(Int×Int)×Bool×MH),aA (a x) (b x<c) (aA (cW d) (aJ e) (aA (aJ g) (eL 75) (aA (cL i.1 (j x).1) (eP 9) (k x))))
attribute [push_cast] vH AL vG wJ nB tE HD
def OL(cb:Nat)(s t:Sl)(m:MH)(h:PH)(K:CV->MH->PH->Prop):Prop:=
  iV cb 3 m h (λk m1=>∃(I:Int×List (Int×Int)×MH->Prop)(m2:Int×List (Int×Int)×MH->Nat),(∃(x:Int×List (Int×Int)×MH),aA (I x) (cW cb) (aA (aJ s) (aJ t) (aA (eL 75) (cL k x.1) (aA (Option.some (Own.lst 69 2 [])=Option.some (Own.lst 69 2 (vH x))) (m1=x.2.2) (bN h h)))))/\∀(x:Int×List (Int×Int)×MH),I x->eM x.1 0 (eM (aG s) 0 (eM (aG t) 0 (iV cb (aG s) x.2.2 h (λk1 m3=>iV cb (aG t) m3 h (λk2 m4=>aA (cF 0) ((0:Int)<2) (bD (λb o=>aH (bE s.a b o) (0<=k1) (k1<aG s) (∃(y:Int),aH (aM m4 h b (fR o k1 1) (bV y)) ((0:Int)<=1) ((1:Int)<2) (bD (λb1 o1=>aH (bE t.a b1 o1) (0<=k2) (k2<aG t) (∃(y1:Int),aM m4 h b1 (fR o1 k2 1) (bV y1)/\∃(I1:Int×Nat×List (Int×Int)×(Int×Int)×Bool
 ×MH->Prop)(m5:Int×Nat×List (Int×Int)×(Int×Int)×Bool×MH->Nat),(∃(x1:Int×Nat×List (Int×Int)×(Int×Int)×Bool×MH),aA (I1 x1) (cW cb) (aA (aJ s) (aJ t) (aA (eL 75) (cL x.1 x1.1) (aA (eP 9) (gT (y==y1) (AL x1)) (aA (eL 75) (cC (vH x).length (vG x1)) (aA (bA x1.2.1) (AB (oW (lT k1) (lT k2)) (pE (wJ x1))) (aH (Option.some (Own.lst 69 2 (vH x))=Option.some (Own.lst 69 2 (nB x1))) (m4=tE x1) (h=h) True)))))))/\∀(x1:Int×Nat×List (Int×Int)×(Int×Int)×Bool×MH),I1 x1->aW (↑x1.2.1:Int) (↑(vG x1):Int) (aA (cF (↑x1.2.1:Int)) ((↑x1.2.1:Int)<jW (nB x1)) (∃(e:List Value),tP (nB x1) (pM x1.2.1) e/\∃(y2:Int×Int),gU (List.take 2 (List.drop 0 e)=tF y2) (AL x1) (aA (cF 0) ((0:
 Int)<2) (aA (cF 0) ((0:Int)<2) (eE y2.1 (wJ x1).1 (aA (cF 1) ((1:Int)<2) (aA (cF 1) ((1:Int)<2) (HD (λx2=>I1 x2) (λx2=>m5 x2) (m5 x1) cb s t x1 (λx2=>x2) (λx2=>aA (gT (y2.2 !=(wJ x1).2) (AL x2)) (eL 75) (aA (cC (vG x1) (vG x2)) (fU (bF x1.2.1 1)=bT x2.2.1) (aA (AB (pE (wJ x1)) (pE (wJ x2))) (Option.some (Own.lst 69 2 (nB x1))=Option.some (Own.lst 69 2 (nB x2))) (aA (tE x1=tE x2) (h=h) True))))))) (HD (λx2=>I1 x2) (λx2=>m5 x2) (m5 x1) cb s t x1 (λx2=>x2) (λx2=>aA (An (AL x2)) (eL 75) (aA (cC (vG x1) (vG x2)) (fU (bF x1.2.1 1)=bT x2.2.1) (aA (AB (pE (wJ x1)) (pE (wJ x2))) (Option.some (Own.lst 69 2 (nB x1))=Option.some (Own.lst 69 2 (nB
 x2))) (aA (tE x1=tE x2) (h=h) True)))))))) (HD (λx2=>I1 x2) (λx2=>m5 x2) (m5 x1) cb s t x1 (λx2=>x2) (λx2=>aA (An (AL x2)) (eL 75) (aA (cC (vG x1) (vG x2)) (fU (bF x1.2.1 1)=bT x2.2.1) (aA (AB (pE (wJ x1)) (pE (wJ x2))) (Option.some (Own.lst 69 2 (nB x1))=Option.some (Own.lst 69 2 (nB x2))) (aA (tE x1=tE x2) (h=h) True))))))) (branch (AL x1) (aA (iA (kZ (nB x1) 1*16)) (eF (nB x1)) (∃(x2:Int×List (Int×Int)×MH),aA (I x2) (m2 x2<m2 x) (aA (cW cb) (aJ s) (aA (aJ t) (eL 75) (aA (cL (eC (x1.1-1)) x2.1) (Option.some (Own.lst 69 2 (nB x1++cQ (tF (wJ x1))))=Option.some (Own.lst 69 2 (vH x2))) (bW (tE x1=x2.2.2) h h)))))) (∃(x2:Int×List (Int×Int)×MH),aA (I
 x2) (m2 x2<m2 x) (aA (cW cb) (aJ s) (aA (aJ t) (eL 75) (aA (cL (eC (x1.1-1)) x2.1) (Option.some (Own.lst 69 2 (nB x1))=Option.some (Own.lst 69 2 (vH x2))) (bW (tE x1=x2.2.2) h h))))))))))))))) (bX h 2 (vH x) (λs1 h1=>K (lR s1) x.2.2 h1))) (bX h 2 (vH x) (λs1 h1=>K (lR s1) x.2.2 h1))) (bX h 2 (vH x) (λs1 h1=>K (lR s1) x.2.2 h1)))
theorem TQ:Sound Tryz.prog 41 Wc:=by
 refine gZ Tryz.func41 ?_;rintro cvs m h K ⟨cb,s,t,a,b,rfl,hc,hs,ht,l1,l2,hK⟩;refine⟨Xe cb s t h,rfl,aD FV aF,OL cb s t m h K,by kernel_rfl,?_⟩;dsimp only[OL,push_cast];have hsl:=hs.slen;have htl:=ht.slen;refine⟨cb,3,rfl,hc,λk m1 k0 k1 o1 c1=>⟨λ⟨n,on,mx⟩=>0<=n/\n<=2/\(on.length:Int)<=2-n/\bC m mx cb/\aK mx h cb,λ⟨n,_,_⟩=>n.toNat,⟨(k,[],m1),⟨k0,by show k<=2;omega,by simp;omega,o1,c1⟩,MT⟩,?_⟩⟩;clear k0 k1 o1 c1 m1;rintro⟨n,on,m1⟩ ⟨n0,n1,hon,o1,c1⟩;dsimp only;have out:∀(sl:Sl)(h':PH),PH.le h h'->cN h' sl 2 (on.map sS)->K (.val (.slice sl.a sl.len sl.cap)) m1 h':=λsl h' hle hrow=>hK sl on m1 h' hle ⟨hrow,aC⟩ aC o1 (c1.mono hle);refine aE (λhn=>aE (λhp=>aE (λhq=>?_) (λ_=>out)) (λ_=>out)) (λ_=>out);refine⟨cb,s.len,rfl,c1,λx m2 x0 x1 o2 c2=>⟨cb,t.len,rfl,c2,λy m3 y0 y1 o3 c3=>?_⟩⟩;obtain⟨b1,f1,e1,r1⟩:=hs.inb (n:=x) x0 aC;obtain⟨b2,f2,e2,r2⟩:=ht.inb (n:=y) y0 aC;refine⟨aC,aC,b1,f1,e1,x0,aC,_,.imm r1,aC,aC,b2,f2,e2,y0,aC,_,.imm r2,?_⟩;refine⟨λ⟨n',i,on',p,f,mx⟩=>n'=n/\on'=on/\mx=m3/\i<=on.length,λ⟨_,i,_,_,_,_⟩=>on.length-i,⟨(n,0,on,(x,y),a.getD x.toNat 0==b.getD y.toNat 0,m3),⟨rfl,rfl,rfl,aC⟩,?_⟩,?_⟩
 .rw[List.length_map];exact MT
 rintro⟨n,i,on,p,f,m3⟩ ⟨rfl,rfl,rfl,hi⟩;dsimp only;refine aE (λhlt=>?_) (λhge=>?_)
 .have hl:i<on.length:=by omega
  have hget:(on.map sS)[i]? =some (sS on[i]):=by rw[List.getElem?_map,List.getElem?_eq_getElem hl];rfl
  refine⟨aC,by rw[List.length_map];omega,_,hget,on[i],rfl,aB (λ_=>⟨aC,aC,aC,aC,aB (λ_=>⟨aC,aC,aC,aC,(n,i+1,on,p,_,m3),⟨rfl,rfl,rfl,by show i+1<=on.length;omega⟩,by show on.length-(i+1)<on.length-i;omega,MT⟩) (λ_=>⟨(n,i+1,on,p,_,m3),⟨rfl,rfl,rfl,by show i+1<=on.length;omega⟩,by show on.length-(i+1)<on.length-i;omega,MT⟩)⟩) (λ_=>⟨(n,i+1,on,p,_,m3),⟨rfl,rfl,rfl,by show i+1<=on.length;omega⟩,by show on.length-(i+1)<on.length-i;omega,MT⟩)⟩
 .have hw:IntKind.i64.wrap (n-1)=n-1:=eG aC aC;rw[hw];refine aB (λ_=>⟨by rw[List.length_map];omega,by rw[List.length_map];omega,(n-1,on++[p],m3),⟨by show 0<=n-1;omega,by show n-1<=2;omega,by simp;omega,(o1.trans o2).trans o3,c3⟩,by show(n-1).toNat<n.toNat;omega,?_⟩) (λ_=>⟨(n-1,on,m3),⟨by show 0<=n-1;omega,by show n-1<=2;omega,by show(on.length:Int)<=2-(n-1);omega,(o1.trans o2).trans o3,c3⟩,by show(n-1).toNat<n.toNat;omega,MT⟩);rw[List.map_append];exact MT
def YY:Vc.Spec:=λcvs m h K=>∃s cs,∃most:Nat,cvs=[cS s,cI most]/\cN h s 1 (aY cs)/\s.len<=s.cap/\most<=1000/\∀cb m' h',PH.le h h'->m cb=none->bC m m' cb->aK m' h' cb->K (cP cb) m' h'
abbrev yU(a b:Prop)(c:(List (List Value))->Prop):Prop:=aA a b (∃(x:List (List Value)),c x)
attribute [push_cast] yU
def O7(s:Sl)(most:Nat)(m:MH)(h:PH)(K:CV->MH->PH->Prop):Prop:=
  yU (cF (ite ((↑most:Int)<aG s) (↑most:Int) (aG s))) (ite ((↑most:Int)<aG s) (↑most:Int) (aG s)<=(↑s.cap:Int)) (λy=>lZ 1 y (oE m h (Sl.mk s.a (ite ((↑most:Int)<aG s) (↑most:Int) (aG s)).toNat s.cap) 1 y) (iA (y.length*1)) y.length (bX h 1 y (λs1 h1=>∀(b:Nat)(m1:MH),aT (cG m h1 b) (bG m m1 b (jI (dV s1) bU) 82) (K (oC b 0) m1 h1))))
theorem D6(l:List UInt8):iN 1 (aY l):=by
 constructor
 .intro e he;obtain⟨x,_,rfl⟩:=List.mem_map.1 he;rfl
 .intro e he u hu;obtain⟨x,_,rfl⟩:=List.mem_map.1 he;simp at hu;subst hu;rfl
theorem cN.cut{s:Sl}(r:cN h s sz xs)(n:Nat)(hn:n<=xs.length):cN h ⟨s.a,n,s.cap⟩ sz (xs.take n):=by
 refine⟨by simp;omega,?_,by have h1:=r.len;have h2:=r.cap;show n<=s.cap;omega⟩;rcases r.row with e|⟨b,o,ha,k⟩
 .left;rw[e];simp
 .right;refine⟨b,o,ha,λi e hi=>?_⟩;rw[List.getElem?_take]at hi;split at hi
  .exact k i e hi
  .cases hi
theorem Ue:Sound Tryz.prog 11 YY:=by
 refine gZ Tryz.func11 ?_;rintro cvs m h K ⟨s,cs,most,rfl,hr,hc,hm,hK⟩;refine⟨uF [] [] [] [] [82] [] false,rfl,aF,O7 s most m h K,by kernel_rfl,?_⟩;have hl:s.len=cs.length:=by have:=hr.len;simpa[aY]using this
 dsimp only[O7,push_cast];have hmin:(if(most:Int)<(s.len:Int)then(most:Int)else(s.len:Int))=((min most s.len:Nat):Int):=by split<;>omega
 rw[hmin];have hcut:=cN.cut hr (min most s.len) (by simp[aY];omega);refine⟨aC,aC,aY (cs.take (min most s.len)),D6 _,.imm ?_,by simp[aY];omega,by simp[aY];omega,λs' h' hle hrow b m' hb hu=>?_⟩
 .rw[show aY (cs.take (min most s.len))=(aY cs).take (min most s.len)by simp[aY,List.map_take]];exact hcut
 .exact hK b m' h' hle hb.m_ ⟨hu.other⟩ ⟨_,⟨⟨s',_,0,hu.at_,hrow,aC,by simp;omega,rfl⟩⟩⟩
def X7:Vc.Spec:=λcvs m h K=>∃n:Nat,cvs=[.val (.slice none 0 0),cI n]/\n<=1000/\K (.lst 3 1 []) m h
noncomputable def Vm(ss:Sl)(m:MH)(h:PH):Ctx:=
 dL [(205,X7)] [(3,{A:=Nat×Nat,st:=λ⟨i,n⟩=>cD 36 37 [(0,sv ss),(3,iv n),(9,sv ss),(10,iv ss.len),(11,iv i)] [] m h}),
  (11,{A:=Nat×List Int,st:=λ⟨i,l⟩=>cD 36 37 [(6,.at (.lst 24)),(25,sv ss),(26,iv ss.len),(27,iv i)] [(24,.lst 3 1 (l.map eI))] m h})] [] [] false
abbrev IN(a:Int):Prop:=a<=140737488355328
attribute [push_cast] IN
def K2(n:Nat)(m:MH)(h:PH)(K:CV->MH->PH->Prop):Prop:=
  eM (eC ((↑n:Int)-eC ((0:Int)-0))) 0 (aA (cF 0) (cF 0) (aA (0<eC ((↑n:Int)-0)) (IN (eC ((↑n:Int)-0)*8)) (aH (IN (eC ((↑n:Int)-0))) ((0:Int)<=0) (cF (jW (List.replicate (eC ((↑n:Int)-0)).toNat (iE bU)))) (K (CV.lst 3 1 []) m h)))) (K (CV.lst 3 1 []) m h)
def Lc(ss:Sl)(m:MH)(h:PH)(K:CV->MH->PH->Prop):Prop:=
  ∃(I:Nat×Nat->Prop)(m1:Nat×Nat->Nat),(∃(x:Nat×Nat),aA (I x) (aJ ss) (aA (bA x.2) (aJ ss) (aA (bK ss) (bA x.1) (aA (m=m) (h=h) True))))/\∀(x:Nat×Nat),I x->aW (↑x.1:Int) (aG ss) (dG ss.a (↑x.1:Int) ss (λb o y=>aM m h b (bI o x.1 1) (aL y)/\aW (bF x.2 (aG y)) 0 False (∃(x1:Nat×Nat),aA (I x1) (m1 x1<m1 x) (aA (aJ ss) (fU (bF x.2 (aG y))=bT x1.2) (aA (aJ ss) (bK ss) (aA (fU (bF x.1 1)=bT x1.1) (m=m) (bN h h))))))) (∃(n:Nat),aA (aZ lN (↑x.2:Int)=aZ lN (↑n:Int)) (mG n) (∃(I1:Nat×List Int->Prop)(m2:Nat×List Int->Nat),(∃(x1:Nat×List Int),aA (I1 x1) (eL 24) (aA (aJ ss) (bK ss) (aA (bA x1.1) (pD x1.2) (aA (m=m) (h=h) True))))/\∀(x1:Nat×List Int),I1 x1->aW (↑x1.1:Int)
 (aG ss) (dG ss.a (↑x1.1:Int) ss (λb o y=>aM m h b (bI o x1.1 1) (aL y)/\∃(y1:List (List Value)),lZ 1 y1 (cN h (cZ y) 1 y1) (pO (fK x1.2) y1 8) (pP (fK x1.2) y1) (∃(x2:Nat×List Int),aA (I1 x2) (m2 x2<m2 x1) (aA (eL 24) (aJ ss) (aA (bK ss) (fU (bF x1.1 1)=bT x2.1) (aA (rF (fK x1.2++y1) x2.2) (m=m) (bN h h))))))) (bX h 1 (fK x1.2) (λs h1=>K (lR s) m h1))))
theorem Qq:Sound Tryz.prog 205 X7:=by
 refine gZ Tryz.func205 ?_;rintro cvs m h K ⟨n,rfl,hn,hK⟩;refine⟨dL [] [] [] [] true,rfl,aF,K2 n m h K,by kernel_rfl,?_⟩;dsimp only[K2,push_cast];have h0:IntKind.i64.wrap ((n:Int)-0)=n:=by rw[eG aC aC];omega
 have h1:IntKind.i64.wrap ((n:Int)-IntKind.i64.wrap (0-0))=n:=by rw[show IntKind.i64.wrap (0-0)=0 from by rw[eG aC aC];rfl,h0]
 exact aE (λhp=>⟨aC,aC,aC,aC,aC,aC,aC,hK⟩) (λ_=>hK)
def rY(ks:List (List Int)):Nat:=(ks.map List.length).sum
theorem GN{k:List Int}(hk:ks[i]? =some k):rY (ks.take (i+1))=rY (ks.take i)+k.length:=by
 unfold rY;rw[List.take_add_one,hk];simp
theorem Fu{ks:List (List Int)}(h:∀k∈ks,k.length<=12):∀i,rY (ks.take i)<=12*i
 |0=>by simp[rY]
 |i+1=>by
  have ih:=Fu h i;cases e:ks[i]? with
  |none=>rw[List.take_add_one,e];simp[rY]at ih⊢;omega
  |some k=>rw[GN e];have:=h k (List.mem_of_getElem? e);omega
theorem Qy:Sound Tryz.prog 179 Ic:=by
 refine gZ Tryz.func179 ?_;rintro cvs m h K ⟨ss,ks,rfl,hs,hl,h12,hK⟩;refine⟨Vm ss m h,rfl,aD Qq aF,Lc ss m h K,by kernel_rfl,?_⟩;dsimp only[Lc,push_cast];have hsl:=bL.slen hs;refine⟨λ⟨i,n⟩=>i<=ks.length/\n=rY (ks.take i),λ⟨i,_⟩=>ks.length-i,⟨(0,0),⟨aC,by simp[rY]⟩,MT⟩,?_⟩;rintro⟨i,n⟩ ⟨hi,rfl⟩;dsimp only;have hb:=Fu h12 i;refine aE (λhlt=>?_) (λhge=>?_)
 .obtain⟨k,hk⟩:=eW hsl hlt;obtain⟨b,o,sl,ea,r,hki⟩:=bL.at hs hk;have hkl:=hki.slen;have hk12:=h12 k (List.mem_of_getElem? hk)
  have hw:IntKind.i64.wrap ((rY (ks.take i):Int)+(sl.len:Int))=((rY (ks.take (i+1)):Nat):Int):=by
   rw[GN hk,eG aC aC];omega
  refine⟨b,o,ea,aC,hlt,sl,.imm r,?_⟩;rw[hw];exact aE (λhneg=>by omega) (λ_=>⟨(i+1,rY (ks.take (i+1))),⟨aC,rfl⟩,by show ks.length-(i+1)<ks.length-i;omega,MT⟩)
 .refine⟨rY (ks.take i),rfl,aC,?_⟩;refine⟨λ⟨i,l⟩=>i<=ks.length/\l=(ks.take i).flatten,λ⟨i,_⟩=>ks.length-i,⟨(0,[]),⟨aC,by simp⟩,MT⟩,?_⟩;clear hb hge hi;rintro⟨i,l⟩ ⟨hi,rfl⟩;dsimp only;have hfl:(ks.take i).flatten.length<=12*i:=by have:=Fu h12 i;simpa[rY,List.length_flatten]using this
  refine aE (λhlt=>?_) (λhge sl h' hle hrow=>hK sl h' hle ⟨?_,?_⟩)
  .obtain⟨k,hk⟩:=eW hsl hlt;obtain⟨b,o,sl,ea,r,hki⟩:=bL.at hs hk;have hk12:=h12 k (List.mem_of_getElem? hk);refine⟨b,o,ea,aC,hlt,sl,.imm r,k.map eI,wZ k,hki.row,?_,?_,(i+1,(ks.take (i+1)).flatten),⟨aC,rfl⟩,by show ks.length-(i+1)<ks.length-i;omega,?_⟩
   .rw[List.length_map,List.length_map];omega
   .rw[List.length_map,List.length_map];omega
   .rw[List.take_add_one,hk,Option.toList_some,List.flatten_append,List.map_append,List.flatten_cons,List.flatten_nil,List.append_nil];exact MT
  .rw[List.take_of_length_le aC]at hrow;exact hrow
  .rw[List.take_of_length_le aC]at hfl;omega
theorem TH:∀N,Sound Tryz.prog 81 (Ba N):=Sh Qy
def Ot(v:QV)(m:MH)(h:PH)(K:CV->MH->PH->Prop):Prop:=
  ∀(b:Nat)(m1:MH),aT (cG m h b) (bG m m1 b v.enc 38) (K (CV.val (wN 114 (Array.mk (iE (PD b 0))))) m1 h)
end Go.Ps
