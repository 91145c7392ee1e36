/-
  Part 4 of a proof that a law of the given program returns true: a condition generator that is proved sound, and contracts of functions. No condition of its own. Own work, joined by a program (pack2.py).
-/
import Derived.Test.YtileehgdfcknkaaGreatDoorGc
set_option linter.unusedVariables false
set_option linter.unusedSimpArgs false
namespace Go.Ps
open Go Go.Vc Go.Proofs
variable{K:CV->MH->PH->Prop}{m:MH}{h:PH}{s:nY}{ps:List Int}{cb:Nat}{sc:bR}{v:QV}{q:Query}{p:Pred}{l:List Int}{i:Nat}{N:Nat}{m':MH}{h':PH}{co:List Int}{gr:List Int}{od:List (Int×Bool)}{w:Pred}{ta:Int}{li:Int}{xs:List (List Value)}{sz:Nat}{k:Nat}{ks:List (List Int)}{rs:List Int}{r:Sl}{a:List Int}{b:Nat}
def fv(f:Nat):CV:=.val (.func (.func f) #[] #[])
def LZ:Vc.Spec:=λcvs m h K=>∃op,cvs=[cI op]/\
 branch (op==1) (K (fv 139) m h) (branch (op==2) (K (fv 140) m h) (branch (op==3) (K (fv 141) m h) (branch (op==4) (K (fv 142) m h) (branch (op==5) (K (fv 143) m h) (branch (op==6) (K (fv 144) m h) (branch (op==7) (K (fv 144) m h) (branch (op==8) (K (fv 144) m h) (branch (op==9) (K (fv 145) m h) (branch (op==10) (K (fv 146) m h) (K (.val .nilFunc) m h))))))))))
noncomputable def Xl(N:Nat)(sc:bR)(p:Sl)(v:QV)(m:MH):Ctx:=
 dL [(81,Bm N),(116,LZ),(139,vF (· =1)),(140,vF (· =2)),(141,vF (· =3)),(142,vF (· =4)),(143,vF (· =5)),(144,vF (λop=>op=6\/op=7\/op=8)),(145,vF (· =9)),(146,vF (· =10))] [(3,{A:=Nat×List Sl×PH,st:=λ⟨i,ss,h⟩=>cD 62 65 [(1,sv p),(3,.at (.ptr 3 0)),(5,.at (.ptr 5 0)),(8,.at (.ptr 8 0)),(21,sv v.args),(22,iv v.args.len),(23,iv i)] [(3,.cells 43 (sc.enc.map .val)),(5,.cells 38 (v.enc.map .val)),(8,.cells 152 ((sc.enc++eS p++v.enc).map .val++[.lst 41])),(41,.lst 33 1 (ss.map eS))] m h})] [] [] false
noncomputable abbrev H6:List Value:=iR Value.nilFunc
attribute [push_cast] H6
def GB(op:Int)(m:MH)(h:PH)(K:CV->MH->PH->Prop):Prop:=
  ∀(b:Nat)(m1:MH),aR (cH m h b) (bC m m1 b (aT Value.nilFunc Value.nilFunc (aT Value.nilFunc Value.nilFunc (aT Value.nilFunc Value.nilFunc (aT Value.nilFunc Value.nilFunc (aT Value.nilFunc Value.nilFunc H6))))) 183) (fD (λc E=>aA (pH m1 b (dY c E 0)) (11<=c.size) (∀(m2:MH),bC m1 m2 b (aT Value.nilFunc (jA 139) (aT (jA 140) (jA 141) (aT (jA 142) (jA 143) (aT (jA 144) (jA 144) (aT (jA 144) (jA 145) (fF (jA 146) 11 c)))))) E->aW op 0 (K (CV.val Value.nilFunc) m2 h) (gK op 11 (K (CV.val Value.nilFunc) m2 h) (aA (cG op) (op<11) (∃(y:Option Nat),aL m2 h b (fJ 0 op 1) (iR (Wa y))/\K (CV.val (Wa y)) m2 h))))))
abbrev rC(a:Nat×List Sl×PH)(b:bR)(c:Sl)(d:QV)(e:Sl->List Value)(g:NV->CV)(i:Query->Prop)(j:PH->(List Int×Int)->Prop):Prop:=bV (kN a) 1 (uT a) (λx x1=>∃(x2:NV),AF (λx3 x4 x5 x6=>aA (vL (jK (aT (sA b) (rZ b) (aT (eC c) (eN d.op) (aT (mN d) (mL d) (aT (eN (mP d)) (kW (iT d)) (e x))))))=vL (g x2)) (u7 x1 x3 x4 x5 x6 x2) (aA (nK x3) (i x5) (∀(x7:List Int×Int),fin x7=vE x3 x4 x5 x6->j x1 x7))))
noncomputable abbrev rG(a:QV)(b:List Value):List Value:=aT (wU (iT a)) (eN (o9 (iT a))) (aT (qB (iT a)) (lJ (iT a)) (aT (kW (fN a)) (wU (fN a)) (aT (eN (o9 (fN a))) (qB (fN a)) b)))
abbrev qY(a:PH)(b:List Int×Int)(c:CV->MH->PH->Prop)(d:MH):Prop:=∀(x:Sl)(x1:PH),dE a x1 (Ints x1 x b.1) (dA (b.2 !=0) (dK c b.2 d x1) (decide (aG x>12)) (dK c 2 d x1) (c (CV.tup (cJ (lY x) 0)) d x1))
attribute [push_cast] rC rG qY
def OI(N:Nat)(sc:bR)(p:Sl)(v:QV)(m:MH)(h:PH)(K:CV->MH->PH->Prop):Prop:=
  ∃(I:Nat×List Sl×PH->Prop)(m1:Nat×List Sl×PH->Nat),(∃(x:Nat×List Sl×PH),aA (I x) (aJ p) (aA (eP 3) eE (aA fQ (aJ v.args) (aA (qT v) (aZ x.1) (aA (bL sc) (dQ v) (aA (H4 sc (uC p) v v.on (jR (At.lst 41))) (mM 33 1 (Ex x)) (bT (m=m) h (kN x))))))))/\∀(x:Nat×List Sl×PH),I x->aW (↑x.1:Int) (aG v.args) (bD (λb o=>aH (bE v.args.a b o) (0<=(↑x.1:Int)) ((↑x.1:Int)<aG v.args) (∃(y:QV),aL m (kN x) b (bF o x.1 21) y.enc/\EF sc p y (kN x) (λv1 s p1 q=>aA (dD (kN x) q v1) (nP q N) (∀(s1:Sl)(h1:PH),dE (kN x) h1 (Ints h1 s1 (bZ s p1 q).1) (eR (bZ s p1 q).2 0 (K (CV.tup (bK Dm (CV.val (eN (bZ s p1 q).2)))) m h1) (aA (iG (uT x)) (dN (uT x)) (∃(x1:Nat×List Sl×PH),aA
 (I x1) (m1 x1<m1 x) (aA (aJ p) (eP 3) (aA eE fQ (aA (aJ v.args) (qT v) (aA (fV (bB x.1 1)=bM x1.1) (bL sc) (aA (dQ v) (H4 sc (uC p) v v.on (jR (At.lst 41))) (aH (cM 33 1 (eT (uT x) (aK s1))=Ex x1) (m=m) (h1=kN x1) True)))))))))))))) (tE v.op (λo=>dA (o==1) (rC x sc p v (λs=>rG v (aT (lJ (fN v)) (nB v) (aT (nC v) (eC v.on) (aT (p9 v) (qA v) (aT (eN v.limit) (sM v) (aK s)))))) (λn=>iU n (fR n (fP n))) (λq=>q.op=1) (λh1 r=>qY h1 r K m)) (o==2) (rC x sc p v (λs=>rG v (aT (lJ (fN v)) (nB v) (aT (nC v) (eC v.on) (aT (p9 v) (qA v) (aT (eN v.limit) (sM v) (aK s)))))) (λn=>iU n (fR n (fP n))) (λq=>q.op=2) (λh1 r=>qY h1
 r K m)) (dA (o==3) (rC x sc p v (λs=>rG v (aT (lJ (fN v)) (nB v) (aT (nC v) (eC v.on) (aT (p9 v) (qA v) (aT (eN v.limit) (sM v) (aK s)))))) (λn=>iU n (fR n (fP n))) (λq=>q.op=3) (λh1 r=>qY h1 r K m)) (o==4) (rC x sc p v (λs=>rG v (aT (lJ (fN v)) (nB v) (aT (nC v) (eC v.on) (aT (p9 v) (qA v) (aT (eN v.limit) (sM v) (aK s)))))) (λn=>iU n (fR n (fP n))) (λq=>q.op=4) (λh1 r=>qY h1 r K m)) (dA (o==5) (rC x sc p v (λs=>rG v (aT (lJ (fN v)) (nB v) (aT (nC v) (eC v.on) (aT (p9 v) (qA v) (aT (eN v.limit) (sM v) (aK s)))))) (λn=>iU n (fR n (fP n))) (λq=>q.op=5) (λh1 r=>qY h1 r K m)) (o==6) (rC x sc p v (λs=>
 rG v (aT (lJ (fN v)) (nB v) (aT (nC v) (eC v.on) (aT (p9 v) (qA v) (aT (eN v.limit) (sM v) (aK s)))))) (λn=>iU n (fR n (fP n))) (λq=>q.op=6\/q.op=7\/q.op=8) (λh1 r=>qY h1 r K m)) (dA (o==7) (rC x sc p v (λs=>rG v (aT (lJ (fN v)) (nB v) (aT (nC v) (eC v.on) (aT (p9 v) (qA v) (aT (eN v.limit) (sM v) (aK s)))))) (λn=>iU n (fR n (fP n))) (λq=>q.op=6\/q.op=7\/q.op=8) (λh1 r=>qY h1 r K m)) (o==8) (rC x sc p v (λs=>rG v (aT (lJ (fN v)) (nB v) (aT (nC v) (eC v.on) (aT (p9 v) (qA v) (aT (eN v.limit) (sM v) (aK s)))))) (λn=>iU n (fR n (fP n))) (λq=>q.op=6\/q.op=7\/q.op=8) (λh1 r=>qY h1 r K m)) (dA (o==9) (rC x
 sc p v (λs=>rG v (aT (lJ (fN v)) (nB v) (aT (nC v) (eC v.on) (aT (p9 v) (qA v) (aT (eN v.limit) (sM v) (aK s)))))) (λn=>iU n (fR n (fP n))) (λq=>q.op=9) (λh1 r=>qY h1 r K m)) (o==10) (rC x sc p v (λs=>rG v (aT (lJ (fN v)) (nB v) (aT (nC v) (eC v.on) (aT (p9 v) (qA v) (aT (eN v.limit) (sM v) (aK s)))))) (λn=>iU n (fR n (fP n))) (λq=>q.op=10) (λh1 r=>qY h1 r K m)) (dK K 100 m (kN x))))))))
theorem Ry:Sound Tryz.prog 116 LZ:=by
 refine Fa Tryz.func116 ?_;rintro cvs m h K ⟨op,rfl,hK⟩;refine⟨uM [] [] [] [] [183] [] false,rfl,aF,GB op m h (kG h K),by kernel_rfl,?_⟩;show GB op m h (kG h K);dsimp only[GB,push_cast];intro b m1 hb hm1;refine⟨_,_,⟨hm1.at_⟩,by decide,λm2 hm2=>?_⟩;have hsub:Sub m m2:=((Sub.refl m).upd hb.m_ hm1.other).upd hb.m_ hm2.other;have e:=hm2.at_
 have none_:∀k,¬(1<=op/\op<=10)->op=k->K (.val .nilFunc) m h:=λk hn _=>by
  have:(op==1)=false/\(op==2)=false/\(op==3)=false/\(op==4)=false/\(op==5)=false/\(op==6)=false/\(op==7)=false/\(op==8)=false/\(op==9)=false/\(op==10)=false:=by
   simp only[beq_eq_false_iff_ne];omega
  obtain⟨e1,e2,e3,e4,e5,e6,e7,e8,e9,e10⟩:=this;rw[e1,e2,e3,e4,e5,e6,e7,e8,e9,e10]at hK;exact hK
 refine aE (λh1=>.sub hsub (none_ _ aC rfl)) (λh1=>aE (λh2=>.sub hsub (none_ _ aC rfl)) (λh2=>⟨aC,aC,?_⟩));have:op=0\/op=1\/op=2\/op=3\/op=4\/op=5\/op=6\/op=7\/op=8\/op=9\/op=10:=by omega
 rcases this with rfl|rfl|rfl|rfl|rfl|rfl|rfl|rfl|rfl|rfl|rfl
 .exact⟨none,.lent _ _ _ e rfl,.sub hsub (none_ 0 aC rfl)⟩
 .exact⟨some 139,.lent _ _ _ e rfl,.sub hsub hK⟩
 .exact⟨some 140,.lent _ _ _ e rfl,.sub hsub hK⟩
 .exact⟨some 141,.lent _ _ _ e rfl,.sub hsub hK⟩
 .exact⟨some 142,.lent _ _ _ e rfl,.sub hsub hK⟩
 .exact⟨some 143,.lent _ _ _ e rfl,.sub hsub hK⟩
 .exact⟨some 144,.lent _ _ _ e rfl,.sub hsub hK⟩
 .exact⟨some 144,.lent _ _ _ e rfl,.sub hsub hK⟩
 .exact⟨some 144,.lent _ _ _ e rfl,.sub hsub hK⟩
 .exact⟨some 145,.lent _ _ _ e rfl,.sub hsub hK⟩
 .exact⟨some 146,.lent _ _ _ e rfl,.sub hsub hK⟩
theorem Rj:Sound Tryz.prog 139 (vF (· =1)):=by
 refine iB Tryz.func139 ?_;rintro cvs m h K ⟨n,s,ps,q,ks,rfl,hn,h8,hop,hT⟩;obtain⟨op,ta,w,co,on,gr,od,li,args⟩:=q;refine⟨dL [(177,yZ),(72,rX)] [] [] [] false,rfl,(aD qC (aD Gc aF)),De n m h K,by kernel_rfl,?_⟩;dsimp only[De,push_cast];cases (show op=1 from hop);exact X4 hn h8 ⟨hT⟩
theorem Ri:Sound Tryz.prog 140 (vF (· =2)):=by
 refine iB Tryz.func140 ?_;rintro cvs m h K ⟨n,s,ps,q,ks,rfl,hn,h8,hop,hT⟩;obtain⟨op,ta,w,co,on,gr,od,li,args⟩:=q;refine⟨dL [(177,yZ),(113,qD)] [] [] [] false,rfl,(aD qC (aD JJ aF)),Dd n m h K,by kernel_rfl,?_⟩;dsimp only[Dd,push_cast];cases (show op=2 from hop);exact X2 hn ⟨hT⟩
theorem Rh:Sound Tryz.prog 141 (vF (· =3)):=by
 refine iB Tryz.func141 ?_;rintro cvs m h K ⟨n,s,ps,q,ks,rfl,hn,h8,hop,hT⟩;obtain⟨op,ta,w,co,on,gr,od,li,args⟩:=q;refine⟨VR n m h,rfl,(aD qC aF),Dc n m h K,by kernel_rfl,?_⟩;dsimp only[Dc,push_cast];cases (show op=3 from hop);exact X1 hn ⟨hT⟩
theorem Rg(h101:Sound Tryz.prog 179 Ir):Sound Tryz.prog 142 (vF (· =4)):=by
 refine iB Tryz.func142 ?_;rintro cvs m h K ⟨n,s,ps,q,ks,rfl,hn,h8,hop,hT⟩;obtain⟨op,ta,w,co,on,gr,od,li,args⟩:=q;refine⟨dL [(178,J4),(179,Ir)] [] [] [] false,rfl,(aD JF (aD h101 aF)),Db n m h K,by kernel_rfl,?_⟩;dsimp only[Db,push_cast];cases (show op=4 from hop);exact X0 hn ⟨hT⟩
theorem Rf:Sound Tryz.prog 143 (vF (· =5)):=by
 refine iB Tryz.func143 ?_;rintro cvs m h K ⟨n,s,ps,q,ks,rfl,hn,h8,hop,hT⟩;obtain⟨op,ta,w,co,on,gr,od,li,args⟩:=q;refine⟨dL [(178,J4)] [] [] [] false,rfl,(aD JF aF),Da n m h K,by kernel_rfl,?_⟩;dsimp only[Da,push_cast];cases (show op=5 from hop);exact XZ hn ⟨hT⟩
theorem Re:Sound Tryz.prog 144 (vF (λop=>op=6\/op=7\/op=8)):=by
 refine iB Tryz.func144 ?_;rintro cvs m h K ⟨n,s,ps,q,ks,rfl,hn,h8,hop,hT⟩;obtain⟨op,ta,w,co,on,gr,od,li,args⟩:=q;refine⟨dL [(177,yZ),(180,Ak)] [] [] [] false,rfl,(aD qC (aD DV aF)),Gy n m h K,by kernel_rfl,?_⟩;exact XY hop hn ⟨hT⟩
theorem Rc:Sound Tryz.prog 145 (vF (· =9)):=by
 refine iB Tryz.func145 ?_;rintro cvs m h K ⟨n,s,ps,q,ks,rfl,hn,h8,hop,hT⟩;obtain⟨op,ta,w,co,on,gr,od,li,args⟩:=q;refine⟨dL [(177,yZ),(181,J0),(182,J1)] [] [] [] false,rfl,(aD qC (aD JE (aD JD aF))),C9 n m h K,by kernel_rfl,?_⟩;dsimp only[C9,push_cast];cases (show op=9 from hop);exact XX hn ⟨hT⟩
theorem Rb:Sound Tryz.prog 146 (vF (· =10)):=by
 refine iB Tryz.func146 ?_;rintro cvs m h K ⟨n,s,ps,q,ks,rfl,hn,h8,hop,hT⟩;obtain⟨op,ta,w,co,on,gr,od,li,args⟩:=q;refine⟨dL [(177,yZ),(180,Ak),(181,J0),(182,J1)] [] [] [] false,rfl,(aD qC (aD DV (aD JE (aD JD aF)))),C8 n m h K,by kernel_rfl,?_⟩;dsimp only[C8,push_cast];cases (show op=10 from hop);exact XW hn ⟨hT⟩
theorem SC(h101:Sound Tryz.prog 179 Ir):∀N,Sound Tryz.prog 81 (Bm N)
 |0=>by
  refine eJ (fn:=Tryz.f81) (c:=dO Tryz.f81) Tryz.func81 rfl (by decide) ?_;rintro cvs m h K ⟨sc,p,v,s,ps,q,rfl,_,_,_,_,hN,_⟩;omega
 |N+1=>by
  refine iB Tryz.func81 ?_;rintro cvs m h K ⟨sc,p,v,s,ps,q,rfl,hs,h8,hp,hq,hN,hK⟩;refine⟨Xl N sc p v m,rfl,(aD (SC h101 N) (aD Ry (aD Rj (aD Ri (aD Rh (aD (Rg h101) (aD Rf (aD Re (aD Rc (aD Rb aF)))))))))),OI N sc p v m h K,by kernel_rfl,?_⟩;dsimp only[OI,push_cast];have hlt:=@BK q;have hqr:=hq;obtain⟨op,ta,w,co,on,gr,od,li,args⟩:=q;have x:=hq.parts;have e0:=x.op_;have hl:=x.args_.slen;have hlen:=x.args_.len;simp only[Query.args]at hlt;simp only[bZ]at hK;refine⟨λ⟨i,ss,hx⟩=>i<=args.length/\PH.le h hx/\∃ks,Slices hx ss ks/\(args.take i).map (bZ s ps)=ks.map (λk=>(k,0)),λ⟨i,_,_⟩=>args.length-i,⟨(0,[],h),⟨aC,.refl _,[],⟨rfl,λj s k h1=>by simp at h1⟩,by simp⟩,MT⟩,?_⟩;rintro⟨i,ss,hx⟩ ⟨hi,hle,ks,hS,hks⟩;have hkl:ks.length=i:=by have:=congrArg List.length hks;simp at this;omega
  have hsl:ss.length=i:=by rw[hS.1,hkl]
  dsimp only;refine aE (λhlt2=>?_) (λhge=>?_)
  .obtain⟨q',hq'⟩:=eY hl hlt2;obtain⟨b1,o1,u,ea1,r1,hru⟩:=(x.args_.mono hle).at hq';refine⟨b1,o1,ea1,aC,hlt2,u,.imm r1,sc,p,u,s,ps,q',rfl,hs.mono hle,h8,hp.mono hle,hru,?_,λsl h' hle' hi'=>aB (λh1=>?_) (λh1=>?_)⟩
   .have:=hlt (List.mem_of_getElem? hq');omega
   .have he:(bZ s ps q').2≠0:=by simpa using h1
    rw[BY he hks hq' rfl]at hK;exact hK.err (hle.trans hle') (if_neg he)
   .have he:(bZ s ps q').2=0:=by simpa using h1
    refine⟨by simp;omega,by simp;omega,(i+1,ss++[sl],h'),⟨aC,hle.trans hle',ks++[(bZ s ps q').1],(hS.mono hle').snoc hi',?_⟩,by show args.length-(i+1)<args.length-i;omega,?_⟩
    .rw[gG hq',hks,List.map_append];simp only[List.map_cons,List.map_nil];rw[<-he]
    .rw[List.map_append];exact MT
  .rw[List.take_of_length_le aC]at hks;rw[A9 hks]at hK;simp only[if_true]at hK;have hK:KR K m h (vE s ps (.mk op ta w co on gr od li args) ks):=hK
   have hrep:∀(sl:Sl)(h':PH),PH.le hx h'->cR h' sl 1 (ss.map eS)->u7 h' s ps (.mk op ta w co on gr od li args) ks ⟨sc,p,v,sl⟩:=λsl h' hle' hrow=>by
    refine⟨(hs.mono hle).mono hle',(hp.mono hle).mono hle',(hqr.mono hle).mono hle',⟨⟨ss,hrow,hS.1.symm,λj k hk=>?_⟩,aC⟩,λk hk=>?_⟩
    .have hj:j<ss.length:=by rw[hS.1];exact(List.getElem?_eq_some_iff.1 hk).1
     exact⟨ss[j],List.getElem?_eq_getElem hj,(hS.2 j _ _ (List.getElem?_eq_getElem hj) hk).mono hle'⟩
    .obtain⟨j,hj⟩:=List.mem_iff_getElem?.1 hk;have:=F4 hks j
     rwa [List.getD_eq_getElem?_getD,hj]at this
   have tail:∀(h':PH),PH.le hx h'->∀r,fin r=vE s ps (.mk op ta w co on gr od li args) ks->∀(sl:Sl)(h'':PH),PH.le h' h''->Ints h'' sl r.1->
    branch (r.2 !=0) (K (.tup [.val (.slice none 0 0),.val (.int .i64 r.2)]) m h'') (branch (decide ((sl.len:Int)>12)) (K (.tup [.val (.slice none 0 0),.val (.int .i64 2)]) m h'') (K (.tup [.val (.slice sl.a sl.len sl.cap),.val (.int .i64 0)]) m h'')):=by
    intro h' hle' r hr sl h'' hle2 hi';have hl3:PH.le h h'':=(hle.trans hle').trans hle2;rw[<-hr]at hK;have hsl:=hi'.slen;refine aB (λd1=>?_) (λd1=>aE (λd2=>?_) (λd2=>?_))
    .have d1:r.2≠0:=by simpa using d1
     exact hK.err hl3 (by unfold fin;rw[if_neg d1])
    .have d1:r.2=0:=by simpa using d1
     exact hK.big (l:=r.1) hl3 (by unfold fin;rw[if_pos d1]) aC
    .have d1:r.2=0:=by simpa using d1
     exact hK.ok (l:=r.1) hl3 (by unfold fin;rw[if_pos d1]) aC hi'.row
   refine⟨v.op,rfl,?_⟩;rw[e0];refine aB (λc1 sl h' hle' hrow=>⟨⟨sc,p,v,sl⟩,s,ps,_,ks,by rw[<-e0],hrep sl h' hle' hrow,h8,beq_iff_eq.1 c1,tail h' hle'⟩) (λc1=>?_);refine aB (λc2 sl h' hle' hrow=>⟨⟨sc,p,v,sl⟩,s,ps,_,ks,by rw[<-e0],hrep sl h' hle' hrow,h8,beq_iff_eq.1 c2,tail h' hle'⟩) (λc2=>?_);refine aB (λc3 sl h' hle' hrow=>⟨⟨sc,p,v,sl⟩,s,ps,_,ks,by rw[<-e0],hrep sl h' hle' hrow,h8,beq_iff_eq.1 c3,tail h' hle'⟩) (λc3=>?_);refine aB (λc4 sl h' hle' hrow=>⟨⟨sc,p,v,sl⟩,s,ps,_,ks,by rw[<-e0],hrep sl h' hle' hrow,h8,beq_iff_eq.1 c4,tail h' hle'⟩) (λc4=>?_);refine aB (λc5 sl h' hle' hrow=>⟨⟨sc,p,v,sl⟩,s,ps,_,ks,by rw[<-e0],hrep sl h' hle' hrow,h8,beq_iff_eq.1 c5,tail h' hle'⟩) (λc5=>?_);refine aB (λc6 sl h' hle' hrow=>⟨⟨sc,p,v,sl⟩,s,ps,_,ks,by rw[<-e0],hrep sl h' hle' hrow,h8,.inl (beq_iff_eq.1 c6),tail h' hle'⟩) (λc6=>?_);refine aB (λc7 sl h' hle' hrow=>⟨⟨sc,p,v,sl⟩,s,ps,_,ks,by rw[<-e0],hrep sl h' hle' hrow,h8,.inr (.inl (beq_iff_eq.1 c7)),tail h' hle'⟩) (λc7=>?_);refine aB (λc8 sl h' hle' hrow=>⟨⟨sc,p,v,sl⟩,s,ps,_,ks,by rw[<-e0],hrep sl h' hle' hrow,h8,.inr (.inr (beq_iff_eq.1 c8)),tail h' hle'⟩) (λc8=>?_);refine aB (λc9 sl h' hle' hrow=>⟨⟨sc,p,v,sl⟩,s,ps,_,ks,by rw[<-e0],hrep sl h' hle' hrow,h8,beq_iff_eq.1 c9,tail h' hle'⟩) (λc9=>?_);refine aB (λc10 sl h' hle' hrow=>⟨⟨sc,p,v,sl⟩,s,ps,_,ks,by rw[<-e0],hrep sl h' hle' hrow,h8,beq_iff_eq.1 c10,tail h' hle'⟩) (λc10=>hK.err hle ?_);refine rR λe=>?_;have:arity op= -1:=by simp only[arity];simp only[*,Bool.or_false,Bool.false_or,Bool.or_true,Bool.true_or,Bool.and_true,Bool.true_and,Bool.and_false,Bool.false_and,Bool.not_true,Bool.not_false,Bool.false_eq_true,if_true,if_false, ↓reduceIte]
   have:=e.1;simp only[Query.op]at this;omega
def iF:PV:=⟨0,0,dW,dW,⟨none,0,0⟩⟩
def cC(h:PH)(s:Sl)(l:List VV):Prop:=bH h 3 VV.enc Eq s l
theorem cC.mono{s:Sl}{l:List VV}(x:cC h s l)(le:PH.le h h'):cC h' s l:=bH.mono x le λ_ _ e=>e
def y9:QV:=⟨0,0,iF,⟨none,0,0⟩,⟨none,0,0⟩,⟨none,0,0⟩,⟨none,0,0⟩,0,⟨none,0,0⟩⟩
theorem U7(l:List QV):eG 21 (l.map QV.enc):=by
 constructor
 .intro e he;obtain⟨x,_,rfl⟩:=List.mem_map.1 he;rfl
 .intro e he u hu;obtain⟨x,_,rfl⟩:=List.mem_map.1 he;simp[QV.enc]at hu;rcases hu with rfl|rfl|rfl|rfl|rfl|rfl|rfl|rfl|rfl|rfl|rfl|rfl|rfl|rfl|rfl|rfl|rfl|rfl|rfl|rfl|rfl<;>rfl
mutual
def UK:Pred->Nat
 |.mk _ _ _ _ args=>1+Fq args
def Fq:List Pred->Nat
 |[]=>0
 |p::ps=>UK p+Fq ps
end
mutual
def RL:Pred->Nat
 |.mk _ _ _ _ args=>1+Hk args
def Hk:List Pred->Nat
 |[]=>0
 |p::ps=>max (RL p) (Hk ps)
end
mutual
theorem IY:∀(p:Pred)(n:Int),lR p n<=n+UK p
 |.mk _ _ _ _ args,n=>by
  have:=G6 args (n+1);simp only[lR,UK];omega
theorem G6:∀(ps:List Pred)(n:Int),jL ps n<=n+Fq ps
 |[],n=>by simp[jL,Fq]
 |p::ps,n=>by
  have h1:=IY p n;have h2:=G6 ps (lR p n);simp only[jL,Fq];split<;>omega
end
mutual
theorem Hm:∀(p:Pred)(n:Nat),RL p<=n->kF p n=false
 |.mk _ _ _ _ args,0,h=>by simp only[RL]at h;omega
 |.mk _ _ _ _ args,n+1,h=>by
  simp only[RL]at h;simp only[kF];exact Fm args n aC
theorem Fm:∀(ps:List Pred)(n:Nat),Hk ps<=n->pF ps n=false
 |[],_,_=>rfl
 |p::ps,n,h=>by
  simp only[Hk]at h;simp only[pF,Hm p n aC,Fm ps n aC,Bool.or_false]
end
def gF:Nat->Nat
 |0=>1
 |d+1=>1+3*gF d
structure JZ(d:Nat)(p:Pred):Prop where
 n:UK p<=gF d
 d:RL p<=d+1
theorem YZ:∀d,1<=gF d
 |0=>Nat.le_refl _
 |d+1=>by rw[gF];omega
theorem JZ.leaf(d:Nat){op cmp:Int}{a b:OV}:JZ d (.mk op cmp a b []):=⟨by simp[UK,Fq,YZ],by simp[RL,Hk]⟩
theorem JZ.node{d:Nat}{op cmp:Int}{a b:OV}{ps:List Pred}(h:∀p∈ps,JZ d p)(hl:ps.length<=3):JZ (d+1) (.mk op cmp a b ps):=by
 have h1:∀l:List Pred,(∀p∈l,JZ d p)->Fq l<=l.length*gF d/\Hk l<=d+1:=λl=>by
  induction l with
  |nil=>intro _;simp[Fq,Hk]
  |cons p l ih=>
   intro hp;have h2:=ih λx hx=>hp x (List.mem_cons_of_mem _ hx);have h3:=hp p (List.mem_cons_self ..);have:=h3.n;have:=h3.d;simp only[Fq,Hk,List.length_cons,Nat.add_mul,Nat.one_mul];omega
 have h2:=h1 ps h;have h3:ps.length*gF d<=3*gF d:=Nat.mul_le_mul_right _ hl;exact⟨by simp only[UK,gF];omega,by simp only[RL];omega⟩
mutual
def pG:Query->Nat
 |.mk _ _ _ _ _ _ _ _ args=>1+rU args
def rU:List Query->Nat
 |[]=>0
 |q::qs=>pG q+rU qs
end
mutual
def JP:Query->Nat
 |.mk _ _ _ _ _ _ _ _ args=>1+Cc args
def Cc:List Query->Nat
 |[]=>0
 |q::qs=>max (JP q) (Cc qs)
end
mutual
def lL(c:Nat):Query->Nat
 |.mk op _ _ _ _ _ _ _ args=>if op=1 then c else if op=4 then uQ c args else zT c args
def zT(c:Nat):List Query->Nat
 |[]=>0
 |q::qs=>lL c q+zT c qs
def uQ(c:Nat):List Query->Nat
 |[]=>1
 |q::qs=>lL c q*uQ c qs
end
mutual
theorem IW:∀(p:Query)(n:Int),nL p n<=n+pG p/\(nL p n<=24->nL p n=n+pG p)
 |.mk _ _ _ _ _ _ _ _ args,n=>by
  have:=G5 args (n+1);simp only[nL,pG];omega
theorem G5:∀(ps:List Query)(n:Int),kV ps n<=n+rU ps/\(kV ps n<=24->kV ps n=n+rU ps)
 |[],n=>by simp[kV,rU]
 |p::ps,n=>by
  have h1:=IW p n;have h2:=G5 ps (nL p n);simp only[kV,rU];split<;>omega
end
theorem Ct(h:mX q=true):pG q<=24:=by
 simp only[mX,Bool.and_eq_true,decide_eq_true_eq]at h;have:=(IW q 0).2 h.1;omega
def gN:Nat->Nat
 |0=>3
 |d+1=>2+2*gN d
def gD:Nat->Nat
 |0=>3
 |d+1=>2+gD d
def gB:Nat->Nat
 |0=>4
 |d+1=>gB d*gB d
structure nE(n d b:Nat)(q:Query):Prop where
 n:pG q<=n
 d:JP q<=d
 b:lL 4 q<=b
def Ks(d:Nat)(q:Query):Prop:=nE (gN d) (gD d) (gB d) q
def xF:Nat->Query->Prop
 |0,q=>nE 1 1 4 q
 |d+1,q=>nE (1+2*gN d) (1+gD d) (gB d*gB d) q
theorem nE.mono{n d n' d' b':Nat}(x:nE n d b q)(h1:n<=n')(h2:d<=d')(h3:b<=b'):nE n' d' b' q:=⟨Nat.le_trans x.n h1,Nat.le_trans x.d h2,Nat.le_trans x.b h3⟩
theorem yR:∀d,3<=gN d/\3<=gD d/\4<=gB d
 |0=>by decide
 |d+1=>by
  obtain⟨h1,h2,h3⟩:=yR d;have:4*4<=gB d*gB d:=Nat.mul_le_mul h3 h3;simp only[gN,gD,gB];omega
theorem xF.arg:∀{d:Nat}{q:Query},xF d q->Ks d q
 |0,_,x=>nE.mono x (by decide) (by decide) (by decide)
 |d+1,_,x=>nE.mono x (by simp only[gN];omega) (by simp only[gD];omega) (by simp only[gB];omega)
theorem nE.one{n d:Nat}(x:nE n d b q)(hb:4<=b){op:Int}{on:List (Int×Int)}:nE (n+1) (d+1) b (.mk op ta w co on gr od li [q]):=by
 obtain⟨h1,h2,h3⟩:=x;refine⟨by simp only[pG,rU];omega,by simp only[JP,Cc];omega,?_⟩;simp only[lL,uQ,zT];split
 .exact hb
 .split<;>omega
theorem nE.two{n d n' d' b':Nat}{p:Query}(x:nE n d b q)(y:nE n' d' b' p)(hb:4<=b)(hb':4<=b'){op:Int}{on:List (Int×Int)}:nE (1+n+n') (1+max d d') (b*b') (.mk op ta w co on gr od li [q,p]):=by
 obtain⟨h1,h2,h3⟩:=x;obtain⟨h4,h5,h6⟩:=y;have e1:b*4<=b*b':=Nat.mul_le_mul_left _ hb';have e2:4*b'<=b*b':=Nat.mul_le_mul_right _ hb;have e3:lL 4 q*lL 4 p<=b*b':=Nat.mul_le_mul h3 h6;refine⟨by simp only[pG,rU];omega,by simp only[JP,Cc];omega,?_⟩;simp only[lL,uQ,zT];split
 .omega
 .split
  .simpa using e3
  .omega
theorem nE.scan{on:List (Int×Int)}:nE 1 1 4 (.mk 1 ta w co on gr od li []):=⟨by simp[pG,rU],by simp[JP,Cc],by simp[lL]⟩
theorem xF.node{d:Nat}{op:Int}{on:List (Int×Int)}{args:List Query}(h:∀a∈args,Ks d a)(hl:args.length<=2):xF (d+1) (.mk op ta w co on gr od li args):=by
 have h4:=(yR d).2.2;have e1:gB d*4<=gB d*gB d:=Nat.mul_le_mul_left _ h4
 match args,h,hl with
 |[],_,_=>exact⟨by simp only[pG,rU];omega,by simp only[JP,Cc];omega,by simp only[lL,uQ,zT];split;omega;split<;>omega⟩
 |[q],h,_=>exact nE.mono (nE.one (h q (by simp)) h4) (by have:=(yR d).1;omega) aC aC
 |[q,p],h,_=>exact nE.mono (nE.two (h q (by simp)) (h p (by simp)) h4 h4) aC aC (Nat.le_refl _)
theorem xF.filter{d:Nat}(x:xF d q){op:Int}{on:List (Int×Int)}:Ks d (.mk op ta w co on gr od li [q]):=by
 cases d with
 |zero=>exact nE.mono (nE.one x (by decide)) (by decide) (by decide) (by decide)
 |succ d=>
  have h4:=(yR d).2.2;have e1:gB d*4<=gB d*gB d:=Nat.mul_le_mul_left _ h4;exact nE.mono (nE.one x aC) (by simp only[gN];omega) (by simp only[gD];omega) (by simp only[gB];omega)
theorem Ks.three(d:Nat)(x:nE 3 3 4 q):Ks d q:=nE.mono x (yR d).1 (yR d).2.1 (yR d).2.2
theorem xF.mono{q:Query}:∀{d e:Nat},xF d q->d<=e->xF e q
 |d,0,x,h=>by have:d=0:=by omega
              subst this;exact x
 |d,e+1,x,h=>by
  by_cases h1:d=e+1
  .subst h1;exact x
  .have y:=xF.arg (x.mono (e:=e) aC);have h4:=(yR e).2.2;have e1:gB e*1<=gB e*gB e:=Nat.mul_le_mul_left _ aC;exact nE.mono y aC aC aC
abbrev iQ(a:MH)(b:PH)(c d:Nat)(e:Sl->Prop):Prop:=∃(x:Sl),aL a b c d (aK x)/\e x
noncomputable abbrev Bp(a:Int):Value:=Value.int IntKind.u8 a
abbrev jO(a:Prop):Prop:=a->False
attribute [push_cast] iQ Bp jO
def Pn(cb:Nat)(n:Int)(m:MH)(h:PH)(K:CV->MH->PH->Prop):Prop:=
  tD m h cb 1 (λy=>iQ m h cb 0 (λy1=>gK y (aG y1) (K (fH 0) m h) (aW n 1 (K (fH 0) m h) (tD m h cb 1 (λy2=>fD (λc E=>aA (pH m cb (dY c E 0)) (dU 1 c) (∀(m1:MH),bC m m1 cb (splice c.toList 1 (bW (iN (y2+1)))) E->iQ m1 h cb 0 (λy3=>∃(y4:Int),aL m1 h cb 1 (bW y4)/\bD (λb o=>aH (bE y3.a b o) (0<=iN (y4-1)) (iN (y4-1)<aG y3) (∃(y5:UInt8),aA (aL m1 h b (fJ o (iN (y4-1)) 1) (iR (Bp (wR y5)))) (jO (n=0)) (K (fH (Int.tmod (iN (wR y5)) n)) m1 h)))))))))))
theorem Y6(cb:Nat)(n:Int)(m:MH)(h:PH)(K:CV->MH->PH->Prop):Pn cb n m h K=(Ab (ctx [] [] [] [] false) Tryz.f15 (dO Tryz.f15) (entry 40 [.val (.pointer (some ⟨cb,0,none⟩)),.val (.int .i64 n)] m h) K):=by kernel_rfl
def Yj:Vc.Spec:=λcvs m h K=>∃(cb:Nat)(n:Int)(r:List UInt8),cvs=[.val (.pointer (some ⟨cb,0,none⟩)),.val (.int .i64 n)]/\R5 m h cb r/\
 ∀m',bA m m' cb->R5 m' h cb (PG n r).2->K (.val (.int .i64 (PG n r).1)) m' h
theorem KM:Sound Tryz.prog 15 Yj:=by
 refine eJ (fn:=Tryz.f15) (c:=dO Tryz.f15) Tryz.func15 rfl (by decide) ?_;rintro cvs m h K ⟨cb,n,r,rfl,⟨s,cs,k,hm,hrow,hk,hlen,rfl⟩,hK⟩;refine⟨ctx [] [] [] [] false,rfl,aF,?_⟩;show Ab (ctx [] [] [] [] false) Tryz.f15 (dO Tryz.f15) (entry 40 [.val (.pointer (some ⟨cb,0,none⟩)),.val (.int .i64 n)] m h) K;rw[<-Y6];dsimp only[Pn,push_cast];have hsl:s.len=cs.length:=by have:=hrow.len;simpa[aY]using this
 refine⟨k,.of_m hm rfl,s,.of_m hm rfl,aE (λhge=>?_) (λhlt=>aE (λhn=>?_) (λhn=>?_))⟩
 .have hd:cs.drop k=[]:=by simp;omega
  rw[hd]at hK;exact hK m ⟨λ_ _=>rfl⟩ ⟨s,cs,k,hm,hrow,hk,hlen,by rw[hd];rfl⟩
 .have hk':k<cs.length:=by omega
  have hd:cs.drop k=cs[k]::cs.drop (k+1):=List.drop_eq_getElem_cons hk';rw[hd]at hK;simp only[PG,if_pos hn]at hK;refine hK m ⟨λ_ _=>rfl⟩ ⟨s,cs,k,hm,hrow,hk,hlen,hd.symm⟩
 .have hk':k<cs.length:=by omega
  have hd:cs.drop k=cs[k]::cs.drop (k+1):=List.drop_eq_getElem_cons hk';rw[hd]at hK;simp only[PG,if_neg hn]at hK;have hw:IntKind.i64.wrap ((k:Int)+1)=((k+1:Nat):Int):=by rw[eB]<;>omega
  have hw2:IntKind.i64.wrap (((k+1:Nat):Int)-1)=(k:Int):=by rw[eB]<;>omega
  refine⟨k,.of_m hm rfl,_,_,⟨hm⟩,by simp,λm' hu=>?_⟩;have hm':=hu.at_;rw[hw]at hm';simp only[splice]at hm';obtain hnil|⟨b,o,ha,hrd⟩:=hrow.row
  .exfalso;have:=congrArg List.length hnil;simp[aY]at this;subst this;simp at hk'
  refine⟨s,.of_m hm' rfl,((k+1:Nat):Int),.of_m hm' rfl,b,o,ha,?_⟩;rw[hw2];refine⟨aC,aC,cs[k],.imm ?_,aC,?_⟩
  .have:=hrd k [.int .u8 cs[k].toNat] (by simp[aY,hk']);simpa using this
  .have hlt:cs[k].toNat<256:=cs[k].toNat_lt;rw[eB aC aC,Int.tmod_eq_emod_of_nonneg aC];refine hK m' ⟨hu.other⟩ ⟨s,cs,k+1,hm',hrow,aC,hlen,rfl⟩
def aM(m:MH)(h:PH)(cb:Nat):Prop:=∃r,R5 m h cb r
theorem aM.mono(x:aM m h cb)(le:PH.le h h'):aM m h' cb:=by
 obtain⟨r,s,cs,k,h1,h2,h3⟩:=x;exact⟨r,s,cs,k,h1,h2.mono le,h3⟩
theorem bA.refl(m:MH)(cb:Nat):bA m m cb:=⟨λ_ _=>rfl⟩
theorem bA.trans{m'':MH}(a:bA m m' cb)(b:bA m' m'' cb):bA m m'' cb:=⟨λc hc=>(b.other c hc).trans (a.other c hc)⟩
def Nl(n:Int):Prop:= -9223372036854775808<=n/\n<=9223372036854775807
structure Hx(v:VV):Prop where
 int_:Nl v.int
 text_:v.text.size<=64
def Yi(k:Int):Prop:=k=3\/k=4\/k=5
def Te(k:Int)(v:VV):Prop:=Yi k->gT v=true/\v.kind=k
def FB:Vc.Spec:=λcvs m h K=>∃cb n,cvs=[cP cb,cI n]/\aM m h cb/\∀k m',0<=k->(k<n\/k=0)->bA m m' cb->aM m' h cb->K (cI k) m' h
def Kb:Vc.Spec:=λcvs m h K=>∃cb n,cvs=[cP cb,cI n]/\0<=n/\n<=1000/\aM m h cb/\∀r m',bA m m' cb->aM m' h cb->K (cB r) m' h
def S8:Vc.Spec:=λcvs m h K=>∃cb,cvs=[cP cb]/\aM m h cb/\∀k m',Nl k->bA m m' cb->aM m' h cb->K (cI k) m' h
def Ys:Vc.Spec:=λcvs m h K=>∃cb,cvs=[cP cb]/\aM m h cb/\∀t m',t.size<=64->bA m m' cb->aM m' h cb->K (M0 t) m' h
def Nb:Vc.Spec:=λcvs m h K=>∃cb kind,cvs=[cP cb,cI kind]/\aM m h cb/\∀v m',Hx v->Te kind v->bA m m' cb->aM m' h cb->K (aV v) m' h
theorem F7:Sound Tryz.prog 15 FB:=by
 refine⟨KM.1,λcvs vs m h w K hS hp=>KM.2 cvs vs m h w K ?_ hp⟩;obtain⟨cb,n,rfl,⟨r,hr⟩,hK⟩:=hS;refine⟨cb,n,r,rfl,hr,λm' ho hc=>hK _ m' ?_ ?_ ho ⟨_,hc⟩⟩
 .cases r with
  |nil=>simp[PG]
  |cons b r=>
   simp only[PG];split
   .simp
   .exact Int.emod_nonneg _ aC
 .cases r with
  |nil=>simp[PG]
  |cons b r=>
   simp only[PG];split
   .simp
   .exact .inl (Int.emod_lt_of_pos _ aC)
noncomputable def V4(h:PH):Ctx:=
 dL [(15,FB)] [(18,{A:=Nat×ByteArray×MH,st:=λ⟨i,t,m⟩=>cD 37 38 [(3,vv (.string t)),(4,iv i)] [] m h}),(23,{A:=Nat×ByteArray×MH,st:=λ⟨i,t,m⟩=>cD 37 38 [(3,vv (.string t)),(5,iv i)] [] m h})] [] [] false
abbrev jF(a:Nat)(b:Int)(c:Nat->Option Obj)(d:Nat->Nat->Option Value)(e:Int->MH->Prop):Prop:=∃(x:Nat)(x1:Int),aA (cJ (qJ a 0) b=cJ (qJ x 0) x1) (aM c d x) (∀(x2:Int)(x3:MH),aR (cG x2) (x2<x1\/x2=0) (aR (bA c x3 x) (aM x3 d x) (e x2 x3)))
attribute [push_cast] jF
def Pl(cb:Nat)(n:Int)(m:MH)(h:PH)(K:CV->MH->PH->Prop):Prop:=
  jF cb n m h (λk m1=>K (zR (k==iN (n-1))) m1 h)
def LH(cb:Nat)(m:MH)(h:PH)(K:CV->MH->PH->Prop):Prop:=
  jF cb 12 m h (λk m1=>dA (k==9) (K (fH (Int.negSucc 0)) m1 h) (k==10) (K (fH 9223372036854775807) m1 h) (dR k 11 (K (fH (Int.negSucc 9223372036854775807)) m1 h) (jO ((4:Int)=0)/\K (fH (Int.tmod k 4)) m1 h)))
noncomputable abbrev fY(a:Nat)(b:List UInt8):List UInt8:=OfNat.ofNat a::b
noncomputable abbrev p8(a:Nat):List UInt8:=fY a []
attribute [push_cast] fY p8
def LG(cb:Nat)(m:MH)(h:PH)(K:CV->MH->PH->Prop):Prop:=
  jF cb 10 m h (λk m1=>dA (k==0) (K (jI (ByteArray.mk (Array.mk (p8 97)))) m1 h) (k==1) (K (jI (ByteArray.mk (Array.mk (p8 97)))) m1 h) (dA (k==2) (K (jI (ByteArray.mk (Array.mk (p8 97)))) m1 h) (k==3) (K (jI (ByteArray.mk (Array.mk (p8 98)))) m1 h) (dA (k==4) (K (jI (ByteArray.mk (Array.mk (p8 98)))) m1 h) (k==5) (K (CV.val R9) m1 h) (dA (k==6) (K (jI (ByteArray.mk (Array.mk (fY 97 (fY 0 []))))) m1 h) (k==7) (K (jI (ByteArray.mk (Array.mk (p8 255)))) m1 h) (dR k 8 (∃(I:Nat×ByteArray×MH->Prop)(m2:Nat×ByteArray×MH->Nat),(∃(x:Nat×ByteArray×MH),aA (I x) (SV.at PO=SV.at (M7 x.2.1)) (aA (aZ x.1) (m1=x.2.2) (bN h h)))/\∀(x:Nat×ByteArray×MH),I x->aW (↑x.1:Int) 64 (x.2.1.size<9223372036854775807/\∃(x1:Nat×ByteArray×MH),aA (I
 x1) (m2 x1<m2 x) (aA (SV.at (M7 (x.2.1++ByteArray.mk (Array.mk (p8 255))))=SV.at (M7 x1.2.1)) (fV (bB x.1 1)=bM x1.1) (bT (x.2.2=x1.2.2) h h))) (K (jI x.2.1) x.2.2 h)) (∃(I:Nat×ByteArray×MH->Prop)(m2:Nat×ByteArray×MH->Nat),(∃(x:Nat×ByteArray×MH),aA (I x) (SV.at PO=SV.at (M7 x.2.1)) (aA (aZ x.1) (m1=x.2.2) (bN h h)))/\∀(x:Nat×ByteArray×MH),I x->aW (↑x.1:Int) 64 (x.2.1.size<9223372036854775807/\∃(x1:Nat×ByteArray×MH),aA (I x1) (m2 x1<m2 x) (aA (SV.at (M7 (x.2.1++ByteArray.mk (Array.mk (p8 98))))=SV.at (M7 x1.2.1)) (fV (bB x.1 1)=bM x1.1) (bT (x.2.2=x1.2.2) h h))) (K (jI x.2.1) x.2.2 h)))))))
abbrev kA(a:MH)(b:PH)(c:Nat)(d:Prop):Prop:=aM a b c->d
attribute [push_cast] kA
def OK(cb:Nat)(kind:Int)(m:MH)(h:PH)(K:CV->MH->PH->Prop):Prop:=
  dA (kind==3) (jF cb 2 m h (λk m1=>K (jK (aT (eN kind) (eN k) wW)) m1 h)) (kind==4) (∃(c:Nat),aA (fT (qJ cb 0) (qJ c 0)) (aM m h c) (∀(k:Int)(m1:MH),aR (Nl k) (bA m m1 c) (kA m1 h c (K (jK (aT (eN kind) (eN k) wW)) m1 h)))) (∃(c:Nat),aA (fT (qJ cb 0) (qJ c 0)) (aM m h c) (∀(t:ByteArray)(m1:MH),aR (t.size<=64) (bA m m1 c) (kA m1 h c (K (jK (aT (eN 5) cO (iR (Value.string t)))) m1 h))))
theorem Y5{n:Int}(hc:aM m h cb)(hK:∀r m',bA m m' cb->aM m' h cb->K (cB r) m' h):Pl cb n m h K:=
 ⟨cb,n,rfl,hc,λ_ m' _ _ ho hc'=>hK _ m' ho hc'⟩
theorem DJ:BO ⟨#[]⟩=true:=by simp[BO,ByteArray.toList_eq]
theorem YQ{k:Int}(h0:0<=k)(h1:k<2\/k=0):gT ⟨3,k,⟨#[]⟩⟩=true:=by
 have:k=0\/k=1:=by omega
 rcases this with rfl|rfl<;>simp[gT,DJ]
theorem UZ(k:Int):gT ⟨4,k,⟨#[]⟩⟩=true:=by simp[gT,DJ]
theorem YP{t:ByteArray}(h:t.size<=64):gT ⟨5,0,t⟩=true:=by
 simp[gT];omega
theorem wI:Sound Tryz.prog 16 Kb:=by
 refine iB Tryz.func16 ?_;rintro cvs m h K ⟨cb,n,rfl,_,_,hc,hK⟩;refine⟨dL [(15,FB)] [] [] [] false,rfl,aD F7 aF,Pl cb n m h K,by kernel_rfl,?_⟩;exact Y5 hc hK
theorem RD:Sound Tryz.prog 108 S8:=by
 refine iB Tryz.func108 ?_;rintro cvs m h K ⟨cb,rfl,hc,hK⟩;refine⟨dL [(15,FB)] [] [] [] false,rfl,aD F7 aF,LH cb m h K,by kernel_rfl,?_⟩;dsimp only[LH,push_cast];refine⟨cb,12,rfl,hc,λk m' h0 h1 ho hc'=>aB (λ_=>hK _ m' ⟨aC,aC⟩ ho hc') (λ_=>aB (λ_=>hK _ m' ⟨aC,aC⟩ ho hc') (λ_=>aB (λ_=>hK _ m' ⟨aC,aC⟩ ho hc') (λ_=>⟨aC,hK _ m' ?_ ho hc'⟩)))⟩;rw[Int.tmod_eq_emod_of_nonneg h0];exact⟨aC,aC⟩
theorem RC:Sound Tryz.prog 109 Ys:=by
 refine iB Tryz.func109 ?_;rintro cvs m h K ⟨cb,rfl,hc,hK⟩;refine⟨V4 h,rfl,aD F7 aF,LG cb m h K,by kernel_rfl,?_⟩;dsimp only[LG,push_cast];refine⟨cb,10,rfl,hc,λk m' h0 h1 ho hc'=>?_⟩;refine aB (λ_=>hK _ m' (by decide) ho hc') (λ_=>aB (λ_=>hK _ m' (by decide) ho hc') (λ_=>aB (λ_=>hK _ m' (by decide) ho hc') (λ_=>aB (λ_=>hK _ m' (by decide) ho hc') (λ_=>aB (λ_=>hK _ m' (by decide) ho hc') (λ_=>aB (λ_=>hK _ m' (by decide) ho hc') (λ_=>aB (λ_=>hK _ m' (by decide) ho hc') (λ_=>aB (λ_=>hK _ m' (by decide) ho hc') (λ_=>aB (λ_=>?_) (λ_=>?_)))))))))
 all_goals
  refine⟨λ⟨i,t,mx⟩=>mx=m'/\i<=64/\t.size=i,λ⟨i,_,_⟩=>64-i,⟨(0,⟨#[]⟩,m'),⟨rfl,aC,rfl⟩,MT⟩,?_⟩;rintro⟨i,t,m'⟩ ⟨rfl,hi,ht⟩;dsimp only;refine aE (λhlt=>⟨?_,(i+1,_,m'),⟨rfl,aC,?_⟩,by show 64-(i+1)<64-i;omega,MT⟩) (λhge=>hK t m' aC ho hc')
  .rw[ht];show i+1<=_;omega
  .rw[ByteArray.size_append,ht];rfl
theorem Gb:Sound Tryz.prog 77 Nb:=by
 refine iB Tryz.func77 ?_;rintro cvs m h K ⟨cb,kind,rfl,hc,hK⟩;refine⟨dL [(15,FB),(108,S8),(109,Ys)] [] [] [] false,rfl,aD F7 (aD RD (aD RC aF)),OK cb kind m h K,by kernel_rfl,?_⟩;dsimp only[OK,push_cast];refine aB (λe=>⟨cb,2,rfl,hc,λk m' h0 h1 ho hc'=>hK ⟨kind,k,⟨#[]⟩⟩ m' ⟨⟨by show-9223372036854775808<=k;omega,by show k<=9223372036854775807;omega⟩,by show(ByteArray.mk #[]).size<=64;decide⟩ (λ_=>?_) ho hc'⟩) (λe1=>aB (λe=>⟨cb,rfl,hc,λk m' hk ho hc'=>hK ⟨kind,k,⟨#[]⟩⟩ m' ⟨hk,by show(ByteArray.mk #[]).size<=64;decide⟩ (λ_=>?_) ho hc'⟩) (λe2=>⟨cb,rfl,hc,λt m' ht ho hc'=>hK ⟨5,0,t⟩ m' ⟨⟨by simp,by simp⟩,ht⟩ (λhk=>?_) ho hc'⟩))
 .have e:kind=3:=by simpa using e
  subst e;exact⟨YQ h0 h1,rfl⟩
 .have e:kind=4:=by simpa using e
  subst e;exact⟨UZ k,rfl⟩
 .have e1:kind≠3:=by simpa using e1
  have e2:kind≠4:=by simpa using e2
  exact⟨YP ht,by rcases hk with hk|hk|hk;exact absurd hk e1;exact absurd hk e2;exact hk.symm⟩
mutual
def FA:Pred->Prop
 |.mk _ _ l r args=>Hx l.value/\Hx r.value/\J3 args
def J3:List Pred->Prop
 |[]=>True
 |p::ps=>FA p/\J3 ps
end
theorem J2:∀{l:List Pred},J3 l↔∀p∈l,FA p
 |[]=>by simp[J3]
 |p::ps=>by simp[J3,J2 (l:=ps)]
theorem mV:Hx zeroV:=⟨⟨by decide,by decide⟩,by decide⟩
structure PS(cols params:List Int)(kind:Int)(o:OV):Prop where
 val:Hx o.value
 kind:Yi kind->kindOf cols params o=kind
def HB(l:List Int):Prop:=∀k∈l,Yi k
structure PW(cols params:List Int)(d:Nat)(p:Pred):Prop where
 vals:FA p
 valid:HB cols->jE cols params p=true
 siz:JZ d p
def PR:Vc.Spec:=λcvs m h K=>∃cb s t kind cols params,cvs=[cP cb,cS s,cS t,cI kind]/\aM m h cb/\Ints h s cols/\Ints h t params/\cols.length<=1000/\params.length<=1000/\∀o m',PS cols params kind o->bA m m' cb->aM m' h cb->K (aO o) m' h
def KP(K:CV->MH->PH->Prop)(m:MH)(h:PH)(cb:Nat)(R:Pred->Prop):Prop:=∀v p m' h',PH.le h h'->fA h' p v->R p->bA m m' cb->aM m' h' cb->K (aP v) m' h'
def Wk(N:Nat):Vc.Spec:=λcvs m h K=>∃cb s t cols params,∃deep:Nat,cvs=[cP cb,cS s,cS t,cI deep]/\aM m h cb/\Ints h s cols/\Ints h t params/\cols.length<=1000/\params.length<=1000/\deep<N/\deep<=1000/\KP K m h cb (PW cols params deep)
structure vA(cols params:List Int)(d:Nat)(p:Pred):Prop where
 vals:FA p
 valid:d<=2->HB cols->HB params->iP cols params p=0
def xE:Vc.Spec:=λcvs m h K=>∃cb s t cols params,∃deep:Nat,cvs=[cP cb,cS s,cS t,cI deep]/\aM m h cb/\Ints h s cols/\Ints h t params/\cols.length<=1000/\params.length<=1000/\deep<=1000/\KP K m h cb (vA cols params deep)
def pv(b:Nat):SV:=vv (.pointer (some ⟨b,0,none⟩))
noncomputable def Xd(cb:Nat)(s t:Sl)(kind:Int)(m:MH)(h:PH):Ctx:=
 dL [(15,FB),(77,Nb)] [(3,{A:=Nat×List OV,st:=λ⟨i,os⟩=>cD 64 68 [(0,pv cb),(2,sv t),(3,iv kind),(8,.at (.ptr 8 0)),(9,.at (.lst 29)),(15,sv s),(16,iv s.len),(17,iv i)] [(8,.cells 29 (dW.enc.map .val)),(29,.lst 29 5 (os.map OV.enc))] m h}),
  (9,{A:=Nat×List OV,st:=λ⟨i,os⟩=>cD 64 68 [(0,pv cb),(3,iv kind),(8,.at (.ptr 8 0)),(9,.at (.lst 29)),(31,sv t),(32,iv t.len),(33,iv i)] [(8,.cells 29 (dW.enc.map .val)),(29,.lst 29 5 (os.map OV.enc))] m h})] [] [] false
noncomputable def Xs(N:Nat)(cb:Nat)(s t:Sl)(deep:Nat)(h0:PH):Ctx:=
 dL [(15,FB),(16,Kb),(96,PR),(77,Nb),(68,Wk N)] [(18,{A:=Int×Int×List PV×MH×PH,st:=λ⟨op,n,us,m,h⟩=>cD 107 111 [(0,pv cb),(1,sv s),(2,sv t),(3,iv deep),(8,.at (.ptr 8 0)),(12,.at (.ptr 12 0)),(13,iv n)] [(8,.cells 32 (iF.enc.map .val)),(12,.cells 32 (((⟨op,0,dW,dW,⟨none,0,0⟩⟩:PV).enc.take 12).map .val++[.lst 104])),(104,.lst 32 13 (us.map PV.enc))] m h})] [(3,{A:=Int×Bool×MH,st:=λ⟨k,b,m⟩=>cD 107 111 [(0,pv cb),(1,sv s),(2,sv t),(3,iv deep),(8,.at (.ptr 8 0)),(9,iv k),(16,bv b)] [(8,.cells 32 (iF.enc.map .val))] m h0}),
  (5,{A:=Int×Bool×MH,st:=λ⟨k,b,m⟩=>cD 107 111 [(0,pv cb),(1,sv s),(2,sv t),(3,iv deep),(8,.at (.ptr 8 0)),(9,iv k),(27,bv b)] [(8,.cells 32 (iF.enc.map .val))] m h0}),
  (8,{A:=Int×MH,st:=λ⟨k,m⟩=>cD 107 111 [(0,pv cb),(1,sv s),(2,sv t),(8,.at (.ptr 8 0)),(10,iv k)] [(8,.cells 32 (iF.enc.map .val))] m h0}),
  (9,{A:=PV×Int×MH,st:=λ⟨p,k,m⟩=>cD 107 111 [(0,pv cb),(1,sv s),(2,sv t),(8,.at (.ptr 8 0)),(10,iv k),(11,.at (.ptr 11 0))] [(8,.cells 32 (iF.enc.map .val)),(11,.cells 32 (p.enc.map .val))] m h0}),
  (11,{A:=PV×MH,st:=λ⟨p,m⟩=>cD 107 111 [(0,pv cb),(8,.at (.ptr 8 0)),(11,.at (.ptr 11 0))] [(8,.cells 32 (iF.enc.map .val)),(11,.cells 32 (p.enc.map .val))] m h0}),
  (13,{A:=PV×MH,st:=λ⟨p,m⟩=>cD 107 111 [(8,.at (.ptr 8 0)),(11,.at (.ptr 11 0))] [(8,.cells 32 (iF.enc.map .val)),(11,.cells 32 (p.enc.map .val))] m h0})] [] false
abbrev AK:Prop:=eQ (oQ 29 (eW (eZ 0) (eZ 0) (eW (eZ 0) (eZ 0) (jR PO))))
noncomputable abbrev lU(a:Nat×List OV):List (List Value):=List.map OV.enc a.2
abbrev EM(a b:Nat×List OV):Prop:=fV (bB a.1 1)=bM b.1
abbrev AU(a:Nat)(b:Int)(c:Nat->Option Obj)(d:Nat->Nat->Option Value)(e:VV->MH->Prop):Prop:=∃(x:Nat)(x1:Int),aA (cJ (qJ a 0) b=cJ (qJ x 0) x1) (aM c d x) (∀(x2:VV)(x3:MH),aR (Hx x2) (Te x1 x2) (aR (bA c x3 x) (aM x3 d x) (e x2 x3)))
attribute [push_cast] AK lU EM AU
def Ox(cb:Nat)(s t:Sl)(kind:Int)(m:MH)(h:PH)(K:CV->MH->PH->Prop):Prop:=
  ∃(I:Nat×List OV->Prop)(m1:Nat×List OV->Nat),(∃(x:Nat×List OV),aA (I x) (dG cb) (aA (aJ t) (eQ (fV kind)) (aA fQ (eL 29) (aA (aJ s) (bJ s) (aA (aZ x.1) AK (aA (mM 29 5 (cM 29 5 (lU x))) (m=m) (bN h h)))))))/\∀(x:Nat×List OV),I x->aW (↑x.1:Int) (aG s) (bD (λb o=>aH (bE s.a b o) (0<=(↑x.1:Int)) ((↑x.1:Int)<aG s) (∃(y:Int),aL m h b (bF o x.1 1) (bW y)/\dR y kind (aA (eO (lI (lU x) 1*48)) (dN (lU x)) (∃(x1:Nat×List OV),aA (I x1) (m1 x1<m1 x) (aA (dG cb) (aJ t) (aA (eQ (fV kind)) fQ (aA (eL 29) (aJ s) (aA (bJ s) (EM x x1) (aA AK (cM 29 5 (eT (lU x) (aT (eN 1) (eN (↑x.1:Int)) (aT cO cO wW)))=cM 29 5 (lU x1)) (bT (m=m) h h)))))))) (∃(x1:Nat×
 List OV),aA (I x1) (m1 x1<m1 x) (aA (dG cb) (aJ t) (aA (eQ (fV kind)) fQ (aA (eL 29) (aJ s) (aA (bJ s) (EM x x1) (aA AK (cM 29 5 (lU x)=cM 29 5 (lU x1)) (bT (m=m) h h)))))))))) (∃(I1:Nat×List OV->Prop)(m2:Nat×List OV->Nat),(∃(x1:Nat×List OV),aA (I1 x1) (dG cb) (aA (eQ (fV kind)) fQ (aA (eL 29) (aJ t) (aA (bJ t) (aZ x1.1) (aA AK (cM 29 5 (lU x)=cM 29 5 (lU x1)) (aA (m=m) (h=h) True))))))/\∀(x1:Nat×List OV),I1 x1->aW (↑x1.1:Int) (aG t) (bD (λb o=>aH (bE t.a b o) (0<=(↑x1.1:Int)) ((↑x1.1:Int)<aG t) (∃(y:Int),aL m h b (bF o x1.1 1) (bW y)/\dR y kind (aA (eO (lI (lU x1) 1*48)) (dN (lU x1)) (∃(x2:Nat×List OV),aA (I1 x2) (m2 x2<m2 x1) (aA (dG cb) (eQ (fV
 kind)) (aA fQ (eL 29) (aA (aJ t) (bJ t) (aA (EM x1 x2) AK (aA (cM 29 5 (eT (lU x1) (aT (eN 2) (eN (↑x1.1:Int)) (aT cO cO wW)))=cM 29 5 (lU x2)) (m=m) (bN h h)))))))) (∃(x2:Nat×List OV),aA (I1 x2) (m2 x2<m2 x1) (aA (dG cb) (eQ (fV kind)) (aA fQ (eL 29) (aA (aJ t) (bJ t) (aA (EM x1 x2) AK (aA (cM 29 5 (lU x1)=cM 29 5 (lU x2)) (m=m) (bN h h)))))))))) (jF cb (bB (lU x1).length 1) m h (λk m3=>aW k (j9 (lU x1)) (aA (cG k) (k<j9 (lU x1)) (∃(e:List Value),tX (lU x1) k.toNat e/\∃(y:OV),List.take 5 (List.drop 0 e)=y.enc/\K (jK y.enc) m3 h)) (AU cb kind m3 h (λv m4=>K (jK (aT (eN 3) cO (aT (eN v.kind) (eN v.int) (iR (Value.string v.text))))) m4 h)))))
abbrev mF(a:Nat)(b:Int)(c:Nat->Option Obj)(d:Nat->Nat->Option Value)(e:Nat->Bool->Prop):Prop:=∃(x:Nat)(x1:Int),aA (cJ (qJ a 0) b=cJ (qJ x 0) x1) (cG x1) (aA (x1<=1000) (aM c d x) (∀(x2:Bool),e x x2))
abbrev rL:Prop:=eQ (oQ 32 zP)
abbrev Ey(a:Int×Bool×MH->Prop)(b:Nat)(c d:Sl)(e:Nat)(g:Int)(i:(Int×Bool×MH)->Prop)(j:Nat->Option Obj)(k:PH):Prop:=∃(x:Int×Bool×MH),aA (a x) (dG b) (aA (aJ c) (aJ d) (aA (eQ (bM e)) fQ (aA (cL g x.1) (i x) (aH rL (j=x.2.2) (k=k) True))))
abbrev mO(a:Nat):Prop:=a<=1000
abbrev gE(a:List Int):Prop:=mO a.length
noncomputable abbrev CT(a:OV):At:=M7 a.value.text
abbrev v8(a:Sl->Sl->(List Int)->(List Int)->Nat->Prop):Prop:=j3 (λx x1=>vB (λx2 x3=>∃(x4:Nat),a x x1 x2 x3 x4))
noncomputable abbrev tC(a:Nat)(b c:Sl)(d:Nat):List CV:=qJ a 0::cW b (iK c (↑d:Int))
abbrev AH(a:PV->Pred->Prop):Prop:=∀(x:PV)(x1:Pred),a x x1
abbrev fU(a:MH->PH->Prop):Prop:=∀(x:MH)(x1:PH),a x x1
abbrev Ez(a:List CV)(b:MH)(c:PH)(d:Nat)(e:PV->MH->PH->Prop):Prop:=∃(x:Nat),v8 (λx1 x2 x3 x4 x5=>aA (a=tC x x1 x2 x5) (aM b c x) (aA (Ints c x1 x3) (Ints c x2 x4) (aA (gE x3) (gE x4) (aA (x5<d) (mO x5) (AH (λx6 x7=>fU (λx8 x9=>dE c x9 (fA x9 x7 x6) (aR (PW x3 x4 x5 x7) (bA b x8 x) (kA x8 x9 x (e x6 x8 x9))))))))))
noncomputable abbrev AZ(a:Int×Int×List PV×MH×PH):List (List Value):=List.map PV.enc a.2.2.1
abbrev bG(a:Nat->Option Obj)(b:MH×PH):Prop:=a=b.1
noncomputable abbrev EY(a:Int×Int×List PV×MH×PH):Nat->Nat->Option Value:=a.2.2.2.2
attribute [push_cast] mF rL Ey mO gE CT v8 tC AH fU Ez AZ bG EY
def OQ(N:Nat)(cb:Nat)(s t:Sl)(deep:Nat)(m:MH)(h:PH)(K:CV->MH->PH->Prop):Prop:=
  jF cb 9 m h (λk m1=>∃(I:Int×Bool×MH->Prop),dR k 0 (mF cb 2 m1 h (λc r=>∀(m2:MH),aR (bA m1 m2 c) (aM m2 h c) (Ey I cb s t deep k (λx=>hX r x.2.1) m2 h))) (Ey I cb s t deep k (λx=>AD x.2.1) m1 h)/\∀(x:Int×Bool×MH),gP (I x) x.2.1 (jF cb 2 x.2.2 h (λk1 m2=>K (jK (oO (eN (iN (1+k1))) R9 (aT cO cO (aT cO R9 iL)))) m2 h)) (∃(I1:Int×Bool×MH->Prop),aW x.1 6 (Ey I1 cb s t deep x.1 (λx1=>uU x1.2.1) x.2.2 h) (Ey I1 cb s t deep x.1 (λx1=>hX (decide ((↑deep:Int)<1)) x1.2.1) x.2.2 h)/\∀(x1:Int×Bool×MH),I1 x1->dA x1.2.1 (∃(I2:Int×MH->Prop),eX (aG s) 0 (jF cb (aG s) x1.2.2 h (λk1 m2=>bD (λb o=>aH (bE s.a b o) (0<=k1) (k1<aG s) (∃(y:Int),aL m2 h b (fJ o k1 1) (bW
 y)/\∃(x2:Int×MH),aA (I2 x2) (dG cb) (aA (aJ s) (aJ t) (aA fQ (cL y x2.1) (aA rL (m2=x2.2) (bN h h)))))))) (∃(x2:Int×MH),aA (I2 x2) (dG cb) (aA (aJ s) (aJ t) (aA fQ (cL 4 x2.1) (aA rL (x1.2.2=x2.2) (bN h h)))))/\∀(x2:Int×MH),I2 x2->∃(I3:PV×Int×MH->Prop),jF cb 6 x2.2 h (λk1 m2=>∃(c:Nat),j3 (λs1 t1=>∃(k2:Int),vB (λc1 p=>aA (qJ cb 0::cW s (iK t x2.1)=qJ c 0::cW s1 (iK t1 k2)) (aM m2 h c) (aA (Ints h s1 c1) (Ints h t1 p) (aA (gE c1) (gE p) (∀(o:OV)(m3:MH),aR (PS c1 p k2 o) (bA m2 m3 c) (kA m3 h c (AU cb x2.1 m3 h (λv m4=>∃(x3:PV×Int×MH),aA (I3 x3) (dG cb) (aA (aJ s) (aJ t) (aA fQ (cL x2.1 x3.2.1) (aA (eP 11) rL (aH (oQ 32 (eW (eZ 3) (eZ
 (iN (1+k1))) (eW (eZ o.kind) (eZ o.index) (eW (eZ (o9 o)) (eZ o.value.int) (eW (CT o) (eZ 3) (eW (eZ 0) (eZ v.kind) (eW (eZ v.int) (M7 v.text) (jR JW)))))))=xN 32 x3.1.enc) (m4=x3.2.2) (h=h) True)))))))))))))/\∀(x3:PV×Int×MH),I3 x3->∃(I4:PV×MH->Prop),mF cb 3 x3.2.2 h (λc r=>∀(m2:MH),aR (bA x3.2.2 m2 c) (aM m2 h c) (branch r (∃(c1:Nat),j3 (λs1 t1=>∃(k1:Int),vB (λc2 p=>aA (qJ cb 0::cW s (iK t x3.2.1)=qJ c1 0::cW s1 (iK t1 k1)) (aM m2 h c1) (aA (Ints h s1 c2) (Ints h t1 p) (aA (gE c2) (gE p) (∀(o:OV)(m3:MH),aR (PS c2 p k1 o) (bA m2 m3 c1) (kA m3 h c1 (∃(x4:PV×MH),aA (I4 x4) (dG cb) (aA fQ (eP 11) (aA rL (oQ 32 (eW (eZ x3.1.op) (eZ x3.1.cmp) (eW (eZ x3.1.left.kind) (eZ x3.1.left.index)
 (eW (eZ (o9 x3.1.left)) (eZ x3.1.left.value.int) (eW (CT x3.1.left) (eZ o.kind) (eW (eZ o.index) (eZ (o9 o)) (eW (eZ o.value.int) (CT o) (jR (uC x3.1.args))))))))=xN 32 x4.1.enc) (aA (m3=x4.2) (h=h) True))))))))))) (∃(x4:PV×MH),aA (I4 x4) (dG cb) (aA fQ (eP 11) (aA rL (xN 32 x3.1.enc=xN 32 x4.1.enc) (aA (m2=x4.2) (h=h) True))))))/\∀(x4:PV×MH),I4 x4->∃(I5:PV×MH->Prop),mF cb 6 x4.2 h (λc r=>∀(m2:MH),aR (bA x4.2 m2 c) (aM m2 h c) (branch r (∃(x5:PV×MH),aA (I5 x5) fQ (aA (eP 11) rL (aH (oQ 32 (eW (eZ x4.1.op) (eZ x4.1.cmp) (eW (eZ x4.1.right.kind) (eZ x4.1.right.index) (eW (eZ (o9 x4.1.right)) (eZ x4.1.right.value.int) (eW (CT x4.1.right) (eZ x4.1.left.kind) (eW (eZ x4.1.left.index) (eZ (o9 x4.1.left)) (eW (eZ
 x4.1.left.value.int) (CT x4.1.left) (jR (uC x4.1.args))))))))=xN 32 x5.1.enc) (m2=x5.2) (h=h) True))) (∃(x5:PV×MH),aA (I5 x5) fQ (aA (eP 11) rL (aH (xN 32 x4.1.enc=xN 32 x5.1.enc) (m2=x5.2) (h=h) True)))))/\∀(x5:PV×MH),I5 x5->K (dX x5.1) x5.2 h) (x1.1==6) (Ez (qJ cb 0::cW s (iK t (iN ((↑deep:Int)-1)))) x1.2.2 h N (λv m2 h1=>bV h1 13 (gM v.enc) (λs1 h2=>K (jK (oO (eN 6) R9 (aT cO cO (aT cO R9 (aK s1))))) m2 h2))) (jF cb 3 x1.2.2 h (λk1 m2=>∃(I2:Int×Int×List PV×MH×PH->Prop)(m3:Int×Int×List PV×MH×PH->Nat),(∃(x2:Int×Int×List PV×MH×PH),aA (I2 x2) (dG cb) (aA (aJ s) (aJ t) (aA (eQ (bM deep)) fQ (aA (eP 12) (cL k1 x2.2.1) (aA rL (oQ 32 (eW (eZ (iN (iN (4+x1.1)-7))) (eZ 0)
 (eW (eZ 0) (eZ 0) (eW (eZ 0) (eZ 0) (eW PO (eZ 0) (eW (eZ 0) (eZ 0) (eW (eZ 0) PO (jR (At.lst 104))))))))=oQ 32 (eW (eZ x2.1) (eZ 0) (eW (eZ 0) (eZ 0) (eW (eZ 0) (eZ 0) (eW PO (eZ 0) (eW (eZ 0) (eZ 0) (eW (eZ 0) PO (jR (At.lst 104))))))))) (aA (mM 32 13 (cM 32 13 (AZ x2))) (bG m2 x2.2.2.2) (bN h (EY x2))))))))/\∀(x2:Int×Int×List PV×MH×PH),I2 x2->gK x2.2.1 0 (Ez (qJ cb 0::cW s (iK t (iN ((↑deep:Int)-1)))) x2.2.2.2.1 (EY x2) N (λv m4 h1=>aA (eO (lI (AZ x2) 1*136)) (dN (AZ x2)) (∃(x3:Int×Int×List PV×MH×PH),aA (I2 x3) (m3 x3<m3 x2) (aA (dG cb) (aJ s) (aA (aJ t) (eQ (bM deep)) (aA fQ (eP 12) (aA (cL (iN (x2.2.1-1)) x3.2.1) rL (aA (oQ 32 (eW (eZ x2.1) (eZ 0) (eW (eZ 0) (eZ 0)
 (eW (eZ 0) (eZ 0) (eW PO (eZ 0) (eW (eZ 0) (eZ 0) (eW (eZ 0) PO (jR (At.lst 104))))))))=oQ 32 (eW (eZ x3.1) (eZ 0) (eW (eZ 0) (eZ 0) (eW (eZ 0) (eZ 0) (eW PO (eZ 0) (eW (eZ 0) (eZ 0) (eW (eZ 0) PO (jR (At.lst 104))))))))) (cM 32 13 (eT (AZ x2) v.enc)=cM 32 13 (AZ x3)) (bT (bG m4 x3.2.2.2) h1 (EY x3)))))))))) (bV (EY x2) 13 (AZ x2) (λs1 h1=>K (jK (oO (eN x2.1) R9 (aT cO cO (aT cO R9 (aK s1))))) x2.2.2.2.1 h1))))))
def Pa(N:Nat)(cb:Nat)(s t:Sl)(deep:Nat)(m:MH)(h:PH)(K:CV->MH->PH->Prop):Prop:=
  Ez (tC cb s t deep) m h N (λv m1 h1=>CC (cW s (gL t (dX v))) h1 (λc p p1=>dR (iP c p p1) 2 (Ez (qJ cb 0::cW s (iK t 1)) m1 h1 N (λv1 m2 h2=>K (dX v1) m2 h2)) (K (dX v) m1 h1)))
theorem Px:UF zeroV zeroV=true:=by simp[UF]
theorem xM:Mp 0 dW dW=true:=by simp[Mp,UG,UF]
theorem Qk{cols params:List Int}{x:Int}(h:cols[i]? =some x):kindOf cols params ⟨1,i,zeroV⟩=x:=by
 have hl:=(List.getElem?_eq_some_iff.1 h).1;have e:kindOf cols params ⟨1,i,zeroV⟩=oV cols ⟨1,i,zeroV⟩:=rfl;have e2:=Px;rw[e];simp only[oV,e2,Bool.not_true,Bool.or_false];rw[if_neg (by simp;omega)];simp[List.getD_eq_getElem?_getD,h]
theorem Qj{cols params:List Int}{x:Int}(h:params[i]? =some x):kindOf cols params ⟨2,i,zeroV⟩=x:=by
 have hl:=(List.getElem?_eq_some_iff.1 h).1;have e:kindOf cols params ⟨2,i,zeroV⟩=oV params ⟨2,i,zeroV⟩:=rfl;have e2:=Px;rw[e];simp only[oV,e2,Bool.not_true,Bool.or_false];rw[if_neg (by simp;omega)];simp[List.getD_eq_getElem?_getD,h]
theorem N5{cols params:List Int}{kind:Int}{v:VV}(hv:Hx v)(hk:Te kind v):PS cols params kind ⟨3,0,v⟩:=⟨hv,λh=>by
 obtain⟨h1,h2⟩:=hk h;have e:kindOf cols params ⟨3,0,v⟩=if((0:Int) !=0|| !lH v)then 0 else v.kind:=rfl
 rw[e,if_neg,h2];simp only[lH,h1,h2];rcases h with rfl|rfl|rfl<;>decide⟩
theorem TQ:Sound Tryz.prog 96 PR:=by
 refine iB Tryz.func96 ?_;rintro cvs m h K ⟨cb,s,t,kind,cols,params,rfl,hc,hs,ht,l1,l2,hK⟩;refine⟨Xd cb s t kind m h,rfl,aD F7 (aD Gb aF),Ox cb s t kind m h K,by kernel_rfl,?_⟩;dsimp only[Ox,push_cast];have hsl:=hs.slen;have htl:=ht.slen;refine⟨λ⟨i,os⟩=>i<=cols.length/\os.length<=i/\∀o∈os,PS cols params kind o,λ⟨i,_⟩=>cols.length-i,⟨(0,[]),⟨aC,by simp,by simp⟩,MT⟩,?_⟩;rintro⟨i,os⟩ ⟨hi,hol,hos⟩;dsimp only;refine aE (λhlt=>?_) (λhge=>?_)
 .obtain⟨x,hx⟩:=eY hsl hlt;obtain⟨b1,o1,e1,r1⟩:=hs.at' hx;refine⟨b1,o1,e1,aC,hlt,x,.imm r1,aB (λek=>⟨by simp;omega,by simp;omega,(i+1,os++[⟨1,i,zeroV⟩]),⟨aC,by simp;omega,?_⟩,by show cols.length-(i+1)<cols.length-i;omega,?_⟩) (λ_=>⟨(i+1,os),⟨aC,by show os.length<=i+1;omega,hos⟩,by show cols.length-(i+1)<cols.length-i;omega,MT⟩)⟩
  .intro o ho;rcases List.mem_append.1 ho with h1|h1
   .exact hos o h1
   .simp at h1;subst h1;exact⟨mV,λ_=>by rw[Qk (by simpa using hx)];simpa using ek⟩
  .rw[List.map_append];exact MT
 refine⟨λ⟨i,os⟩=>i<=params.length/\os.length<=1000+i/\∀o∈os,PS cols params kind o,λ⟨i,_⟩=>params.length-i,⟨(0,os),⟨aC,aC,hos⟩,MT⟩,?_⟩;clear hi hol hos hge;rintro⟨i,os⟩ ⟨hi,hol,hos⟩;dsimp only;refine aE (λhlt=>?_) (λhge=>?_)
 .obtain⟨x,hx⟩:=eY htl hlt;obtain⟨b1,o1,e1,r1⟩:=ht.at' hx;refine⟨b1,o1,e1,aC,hlt,x,.imm r1,aB (λek=>⟨by simp;omega,by simp;omega,(i+1,os++[⟨2,i,zeroV⟩]),⟨aC,by simp;omega,?_⟩,by show params.length-(i+1)<params.length-i;omega,?_⟩) (λ_=>⟨(i+1,os),⟨aC,by show os.length<=1000+(i+1);omega,hos⟩,by show params.length-(i+1)<params.length-i;omega,MT⟩)⟩
  .intro o ho;rcases List.mem_append.1 ho with h1|h1
   .exact hos o h1
   .simp at h1;subst h1;exact⟨mV,λ_=>by rw[Qj (by simpa using hx)];simpa using ek⟩
  .rw[List.map_append];exact MT
 .refine⟨cb,_,rfl,hc,λk m' h0 h1 ho hc'=>aE (λhk=>?_) (λhk=>⟨cb,kind,rfl,hc',λv m'' hv hkw ho' hc''=>hK ⟨3,0,v⟩ m'' (N5 hv hkw) (ho.trans ho') hc''⟩)⟩;have hk':k.toNat<os.length:=by simp at hk;omega
  exact⟨h0,hk,_,by rw[List.getElem?_map,List.getElem?_eq_getElem hk'];rfl,os[k.toNat],rfl,hK _ m' (hos _ (List.getElem_mem hk')) ho hc'⟩
theorem Ji{h:PH}{v:PV}(ha:v.args=⟨none,0,0⟩):fA h (.mk v.op v.cmp v.left v.right []) v:=fA.mk (by rw[ha];exact .nil _ _ _ _)
structure WL(cols params:List Int)(kd:Int)(p:PV):Prop where
 args_:p.args=⟨none,0,0⟩
 op_:p.op=3
 cmp_:1<=p.cmp/\p.cmp<=6
 left_:PS cols params kd p.left
 right_:PS cols params kd p.right
 kind_:HB cols->Yi kd
theorem W3{k:Int}(h:Yi k):k≠0:=by rcases h with rfl|rfl|rfl<;>decide
theorem WL.pw{cols params:List Int}{kd:Int}{p:PV}(x:WL cols params kd p)(d:Nat):PW cols params d (.mk p.op p.cmp p.left p.right []):=by
 refine⟨⟨x.left_.val,x.right_.val,trivial⟩,λhc=>?_,JZ.leaf d⟩;have hk:=x.kind_ hc;have h1:=x.left_.kind hk;have h2:=x.right_.kind hk;have h3:=W3 hk;have h4:=x.cmp_;rw[x.op_];simp[jE,h1,h2,h3,h4.1,h4.2]
theorem YV{cols params:List Int}{d:Nat}(x:PW cols params d p):PW cols params (d+1) (.mk 6 0 dW dW [p]):=
 ⟨⟨mV,mV,x.vals,trivial⟩,λhc=>by
  have e:=xM;simp[jE,An,e,x.valid hc],JZ.node (λq hq=>by simp at hq;subst hq;exact x.siz) (by simp)⟩
theorem YW{cols params:List Int}{d:Nat}{op:Int}{ps:List Pred}(ho:op=4\/op=5)(x:∀p∈ps,PW cols params d p)(hl:ps.length<=3):PW cols params (d+1) (.mk op 0 dW dW ps):=
 ⟨⟨mV,mV,J2.2 λp hp=>(x p hp).vals⟩,λhc=>by
  have e:=xM;have e2:An cols params ps=true:=by rw[BE,List.all_eq_true];exactλp hp=>(x p hp).valid hc
  rcases ho with rfl|rfl<;>simp[jE,e,e2],JZ.node (λq hq=>(x q hq).siz) hl⟩
theorem SE:∀N,Sound Tryz.prog 68 (Wk N)
 |0=>by
  refine eJ (fn:=Tryz.f68) (c:=dO Tryz.f68) Tryz.func68 rfl (by decide) ?_;rintro cvs m h K ⟨cb,s,t,cols,params,deep,rfl,_,_,_,_,_,hN,_⟩;omega
 |N+1=>by
  refine iB Tryz.func68 ?_;rintro cvs m h K ⟨cb,s,t,cols,params,deep,rfl,hc,hs,ht,l1,l2,hN,hd,hK⟩;refine⟨Xs N cb s t deep h,rfl,aD F7 (aD wI (aD TQ (aD Gb (aD (SE N) aF)))),OQ N cb s t deep m h K,by kernel_rfl,?_⟩;dsimp only[OQ,push_cast];have hsl:=hs.slen;refine⟨cb,9,rfl,hc,λk m1 k0 k1 o1 c1=>?_⟩;refine⟨λ⟨k,_,mx⟩=>0<=k/\k<=8/\bA m mx cb/\aM mx h cb,aB (λ_=>⟨cb,2,rfl,aC,aC,c1,λr m2 o2 c2=>⟨(k,r,m2),⟨k0,aC,o1.trans o2,c2⟩,MT⟩⟩) (λ_=>⟨(k,false,m1),⟨k0,aC,o1,c1⟩,MT⟩),?_⟩;clear k0 k1 o1 c1 k m1;rintro⟨k,b,m1⟩ ⟨k0,k1,o1,c1⟩;dsimp only;refine aB (λ_=>⟨cb,2,rfl,c1,λj m2 j0 j1 o2 c2=>?_⟩) (λ_=>?_)
  .refine hK ⟨IntKind.i64.wrap (1+j),0,dW,dW,⟨none,0,0⟩⟩ _ m2 h (.refl _) (Ji rfl) ⟨⟨mV,mV,trivial⟩,λ_=>?_,JZ.leaf _⟩ (o1.trans o2) c2;have hj:j=0\/j=1:=by omega
   have e1:IntKind.i64.wrap 1=1:=by decide
   have e2:IntKind.i64.wrap 2=2:=by decide
   rcases hj with rfl|rfl
   .simp[jE,e1,xM]
   .simp[jE,e2,xM]
  refine⟨λ⟨k,b,mx⟩=>0<=k/\k<=8/\(b=false->6<=k/\1<=deep)/\bA m mx cb/\aM mx h cb,aE (λ_=>⟨(k,true,m1),⟨k0,k1,λe=>(by cases e),o1,c1⟩,MT⟩) (λhk=>⟨(k,_,m1),⟨k0,k1,λe=>?_,o1,c1⟩,MT⟩),?_⟩
  .simp at e;exact⟨aC,aC⟩
  clear k0 k1 o1 c1 k m1;rintro⟨k,b,m1⟩ ⟨k0,k1,kb,o1,c1⟩;dsimp only;refine aB (λ_=>?_) (λhb=>?_)
  .refine⟨λ⟨kd,mx⟩=>(HB cols->Yi kd)/\bA m mx cb/\aM mx h cb,aE (λhpos=>⟨cb,s.len,rfl,c1,λj m2 j0 j1 o2 c2=>?_⟩) (λ_=>⟨(4,m1),⟨λ_=>.inr (.inl rfl),o1,c1⟩,MT⟩),?_⟩
   .obtain⟨b1,off,e1,r1⟩:=hs.inb (n:=j) j0 aC
    have hm:cols.getD j.toNat 0∈cols:=by
     have:j.toNat<cols.length:=by omega
     rw[List.getD_eq_getElem?_getD,List.getElem?_eq_getElem this];exact List.getElem_mem this
    exact⟨b1,off,e1,j0,aC,_,.imm r1,(_,m2),⟨λhcol=>hcol _ hm,o1.trans o2,c2⟩,MT⟩
   clear o1 c1 m1;rintro⟨kd,m1⟩ ⟨hkd,o1,c1⟩;dsimp only;refine⟨λ⟨p,kd,mx⟩=>WL cols params kd p/\bA m mx cb/\aM mx h cb,⟨cb,6,rfl,c1,λj m2 j0 j1 o2 c2=>⟨cb,s,t,kd,cols,params,rfl,c2,hs,ht,l1,l2,λo m3 ho o3 c3=>⟨cb,kd,rfl,c3,λv m4 hv hkw o4 c4=>⟨(⟨3,IntKind.i64.wrap (1+j),o,⟨3,0,v⟩,⟨none,0,0⟩⟩,kd,m4),⟨⟨rfl,rfl,?_,ho,N5 hv hkw,hkd⟩,((o1.trans o2).trans o3).trans o4,c4⟩,MT⟩⟩⟩⟩,?_⟩
   .show 1<=IntKind.i64.wrap (1+j)/\IntKind.i64.wrap (1+j)<=6;rw[eB aC aC];omega
   clear o1 c1 m1 hkd kd;rintro⟨p,kd,m1⟩ ⟨pw,o1,c1⟩;dsimp only;refine⟨λ⟨p,mx⟩=>WL cols params kd p/\bA m mx cb/\aM mx h cb,⟨cb,3,rfl,aC,aC,c1,λr m2 o2 c2=>aB (λ_=>⟨cb,s,t,kd,cols,params,rfl,c2,hs,ht,l1,l2,λo m3 ho o3 c3=>⟨(⟨p.op,p.cmp,p.left,o,p.args⟩,m3),⟨⟨pw.args_,pw.op_,pw.cmp_,pw.left_,ho,pw.kind_⟩,(o1.trans o2).trans o3,c3⟩,MT⟩⟩) (λ_=>⟨(p,m2),⟨pw,o1.trans o2,c2⟩,MT⟩)⟩,?_⟩;clear pw o1 c1 m1 p;rintro⟨p,m1⟩ ⟨pw,o1,c1⟩;dsimp only;refine⟨λ⟨p,mx⟩=>WL cols params kd p/\bA m mx cb/\aM mx h cb,⟨cb,6,rfl,aC,aC,c1,λr m2 o2 c2=>aB (λ_=>⟨(⟨p.op,p.cmp,p.right,p.left,p.args⟩,m2),⟨⟨pw.args_,pw.op_,pw.cmp_,pw.right_,pw.left_,pw.kind_⟩,o1.trans o2,c2⟩,MT⟩) (λ_=>⟨(p,m2),⟨pw,o1.trans o2,c2⟩,MT⟩)⟩,?_⟩;clear pw o1 c1 m1 p;rintro⟨p,m1⟩ ⟨pw,o1,c1⟩;exact hK p _ m1 h (.refl _) (Ji pw.args_) (pw.pw deep) o1 c1
  have hdeep:=kb hb;have hw:IntKind.i64.wrap ((deep:Int)-1)=((deep-1:Nat):Int):=by rw[eB aC aC];omega
  rw[hw];have hdd:deep=deep-1+1:=by omega
  refine aB (λ_=>⟨cb,s,t,cols,params,deep-1,rfl,c1,hs,ht,l1,l2,aC,aC,λv p m2 h2 hle hr hp o2 c2 sl h3 hle2 hrow=>?_⟩) (λhk6=>⟨cb,3,rfl,c1,λj m2 j0 j1 o2 c2=>?_⟩)
  .refine hK ⟨6,0,dW,dW,sl⟩ (.mk 6 0 dW dW [p]) m2 h3 (hle.trans hle2) (fA.mk (v:=⟨6,0,dW,dW,sl⟩) ⟨⟨[v],hrow,rfl,λi x hx=>?_⟩,by simp⟩) (by rw[hdd];exact YV hp) (o1.trans o2) (c2.mono hle2)
   match i,hx with
   |0,hx=>simp at hx;subst hx;exact⟨v,rfl,hr.mono hle2⟩
   |_+1,hx=>simp at hx
  refine⟨λ⟨op,n,us,mx,hx⟩=>(op=4\/op=5)/\ -1<=n/\n<=2/\(us.length:Int)<=2-n/\PH.le h hx/\bA m mx cb/\aM mx hx cb/\∃ps:List Pred,ps.length=us.length/\(∀q∈ps,PW cols params (deep-1) q)/\∀(i:Nat) q,ps[i]? =some q->∃u,us[i]? =some u/\fA hx q u,λ⟨_,n,_,_,_⟩=>(n+1).toNat,⟨(_,j,[],m2,h),⟨?_,aC,aC,by simp;omega,.refl _,o1.trans o2,c2,[],rfl,by simp,λi q hq=>by simp at hq⟩,MT⟩,?_⟩
  .have hk6:k≠6:=by simpa using hk6
   have hk7:k=7\/k=8:=by omega
   rcases hk7 with rfl|rfl
   .exact .inl (by decide)
   .exact .inr (by decide)
  rintro⟨op,n,us,mx,hx⟩ ⟨hop,n0,n1,ul,hle,ox,cx,ps,pl,pw,hps⟩;dsimp only;refine aE (λhn=>⟨cb,s,t,cols,params,deep-1,rfl,cx,hs.mono hle,ht.mono hle,l1,l2,aC,aC,λv p m3 h3 hle3 hr hp o3 c3=>⟨by simp;omega,by simp;omega,(op,n-1,us++[v],m3,h3),⟨hop,by show-1<=n-1;omega,by show n-1<=2;omega,by simp;omega,hle.trans hle3,ox.trans o3,c3,ps++[p],by simp[pl],?_,?_⟩,?_,?_⟩⟩) (λhn sl h3 hle3 hrow=>?_)
  .intro q hq;rcases List.mem_append.1 hq with h1|h1
   .exact pw q h1
   .simp at h1;subst h1;exact hp
  .intro i q hq;by_cases hi:i<ps.length
   .rw[List.getElem?_append_left hi]at hq;obtain⟨u,h1,h2⟩:=hps i q hq;exact⟨u,by rw[List.getElem?_append_left aC];exact h1,h2.mono hle3⟩
   .rw[List.getElem?_append_right aC]at hq;have hl:=(List.getElem?_eq_some_iff.1 hq).1;simp at hl;have:i=ps.length:=by omega
    subst this;simp at hq;subst hq;exact⟨v,by rw[List.getElem?_append_right aC,pl];simp,hr⟩
  .show(n-1+1).toNat<(n+1).toNat;omega
  .rw[List.map_append,eB aC aC];exact MT
  .exact hK ⟨op,0,dW,dW,sl⟩ (.mk op 0 dW dW ps) mx h3 (hle.trans hle3) (fA.mk (v:=⟨op,0,dW,dW,sl⟩) ⟨⟨us,hrow,pl,λi q hq=>(hps i q hq).imp λu hu=>⟨hu.1,hu.2.mono hle3⟩⟩,aC⟩) (by rw[hdd];exact YW hop pw aC) ox (cx.mono hle3)
theorem PC(h:HB l):l.all eA=true:=List.all_eq_true.2 λk hk=>by
 rcases h k hk with e|e|e<;>subst e<;>rfl
theorem Sh{cols params:List Int}{d:Nat}(x:PW cols params d p)(hd:d<=2)(hc:HB cols)(hp:HB params):iP cols params p=0:=by
 have h1:=IY p 0;have h2:=x.siz.n;have h3:=Hm p 8 (by have:=x.siz.d;omega)
 have h4:gF d<=13:=by match d,hd with
  |0,_=>decide
  |1,_=>decide
  |2,_=>decide
 unfold iP;rw[PC hc,PC hp,if_neg (by simp),h3,if_neg (by simp;omega),x.valid hc];rfl
theorem C5:Sound Tryz.prog 30 xE:=by
 refine iB Tryz.func30 ?_;rintro cvs m h K ⟨cb,s,t,cols,params,deep,rfl,hc,hs,ht,l1,l2,hd,hK⟩;refine⟨dL [(68,Wk 1001),(69,qD)] [] [] [] false,rfl,aD (SE 1001) (aD Ge aF),Pa 1001 cb s t deep m h K,by kernel_rfl,?_⟩;dsimp only[Pa,push_cast];refine⟨cb,s,t,cols,params,deep,rfl,hc,hs,ht,l1,l2,aC,hd,λv p m2 h2 hle hr hp o2 c2=>⟨s,t,v,cols,params,p,rfl,hs.mono hle,ht.mono hle,hr,aB (λ_=>⟨cb,s,t,cols,params,1,rfl,c2,hs.mono hle,ht.mono hle,l1,l2,aC,aC,λv3 p3 m3 h3 hle3 hr3 hp3 o3 c3=>hK v3 p3 m3 h3 (hle.trans hle3) hr3 ⟨hp3.vals,λ_ k1 k2=>Sh hp3 (by decide) k1 k2⟩ (o2.trans o3) c3⟩) (λ_=>hK v p m2 h2 hle hr ⟨hp.vals,λk0 k1 k2=>Sh hp k0 k1 k2⟩ o2 c2)⟩⟩
def cF:Sl:=⟨none,0,0⟩
def Tk:Vc.Spec:=λcvs m h K=>∃n k,cvs=[M0 n,cI k]/\K (.val (.agg ⟨(mA.mk n k).enc⟩)) m h
def Wu:Vc.Spec:=λcvs m h K=>∃t,cvs=[cI t]/\K (aQ ⟨1,t,iF,cF,cF,cF,cF,0,cF⟩) m h
def Yn(v:QV)(g o:Sl)(k:Int):QV:=⟨v.op,v.table,v.where_,v.columns,v.on,g,o,k,v.args⟩
def Yv:Vc.Spec:=λcvs m h K=>∃cb v s kinds,cvs=[cP cb,aQ (Yn v cF cF v.limit),cS s]/\aM m h cb/\Ints h s kinds/\kinds.length<=1000/\
 ∀g o k gr od m' h',PH.le h h'->Ints h' g gr->iW h' o od->gr.length<=kinds.length->od.length<=kinds.length->0<=k->k<=3->bA m m' cb->aM m' h' cb->K (aQ (Yn v g o k)) m' h'
noncomputable def XD(cb:Nat)(v:QV)(s:Sl)(h:PH):Ctx:=
 dL [(15,FB),(16,Kb)] [(2,{A:=Nat×List Int×List (Int×Bool)×MH,st:=λ⟨i,gr,od,m⟩=>cD 37 40 [(0,pv cb),(4,.at (.ptr 4 0)),(6,.at (.ptr 6 0)),(9,iv s.len),(10,iv i)] [(4,.cells 38 ((v.enc.take 17).map .val++[.lst 19,.lst 30,.val (.int .i64 v.limit),.val (.slice v.args.a v.args.len v.args.cap)])),(6,.cells 38 (y9.enc.map .val)),(19,.lst 3 1 (gr.map eI)),(30,.lst 72 2 (od.map Cs))] m h})] [] [] false
def Vp(n:ByteArray)(k:Int)(m:MH)(h:PH)(K:CV->MH->PH->Prop):Prop:=
  K (jK (nQ n k)) m h
def Vs(t:Int)(m:MH)(h:PH)(K:CV->MH->PH->Prop):Prop:=
  K (jK (vY (eN 1) (eN t))) m h
abbrev CD(a:QV):Prop:=eQ (oQ 38 (eW (eZ a.op) (eZ a.table) (pQ a.where_ (eW (BR a) (uC a.on) (eW (At.lst 19) (At.lst 30) (pA (eZ a.limit) (uC a.args)))))))
abbrev iH:Prop:=eQ (oQ 38 zQ)
noncomputable abbrev pO(a:Nat×List Int×List (Int×Bool)×MH):List (List Value):=List.map Cs a.2.2.1
abbrev EA(a:Nat×List Int×List (Int×Bool)×MH->Prop)(b:Nat×List Int×List (Int×Bool)×MH->Nat)(c:Nat×List Int×List (Int×Bool)×MH)(d:Nat)(e:Sl)(g:Prop)(i j:(Nat×List Int×List (Int×Bool)×MH)->Prop)(k:MH)(l:PH):Prop:=∃(x:Nat×List Int×List (Int×Bool)×MH),aA (a x) (b x<b c) (aA (dG d) (eP 4) (aA (eP 6) (bJ e) (aA (fV (bB c.1 1)=bM x.1) g (aA iH (i x) (aA (j x) (k=x.2.2.2) (bN l l))))))
abbrev AO(a b:List Int):Prop:=cM 3 1 (gU a)=DM b
attribute [push_cast] CD iH pO EA AO
def O1(cb:Nat)(v:QV)(s:Sl)(m:MH)(h:PH)(K:CV->MH->PH->Prop):Prop:=
  ∃(I:Nat×List Int×List (Int×Bool)×MH->Prop)(m1:Nat×List Int×List (Int×Bool)×MH->Nat),(∃(x:Nat×List Int×List (Int×Bool)×MH),aA (I x) (dG cb) (aA (eP 4) (eP 6) (aA (bJ s) (aZ x.1) (aA (CD v) iH (aA (pJ x.2.1) (mM 72 2 (cM 72 2 (pO x))) (aA (m=x.2.2.2) (h=h) True))))))/\∀(x:Nat×List Int×List (Int×Bool)×MH),I x->aW (↑x.1:Int) (aG s) (mF cb 3 x.2.2.2 h (λc r=>∀(m2:MH),aR (bA x.2.2.2 m2 c) (aM m2 h c) (branch r (aA (xP x.2.1) (dN (gU x.2.1)) (mF cb 3 m2 h (λc1 r1=>∀(m3:MH),aR (bA m2 m3 c1) (aM m3 h c1) (branch r1 (mF cb 2 m3 h (λc2 r2=>∀(m4:MH),aR (bA m3 m4 c2) (aM m4 h c2) (aA (eO (lI (pO x) 1*16)) (dN (pO x)) (EA I m1 x cb s (CD v) (λx1=>rA x.2.1 (↑x.1:
 Int) x1.2.1) (λx1=>cM 72 2 (eT (pO x) (jS (eN (↑x.1:Int)) (Value.bool r2)))=cM 72 2 (pO x1)) m4 h)))) (EA I m1 x cb s (CD v) (λx1=>rA x.2.1 (↑x.1:Int) x1.2.1) (λx1=>cM 72 2 (pO x)=cM 72 2 (pO x1)) m3 h))))) (mF cb 3 m2 h (λc1 r1=>∀(m3:MH),aR (bA m2 m3 c1) (aM m3 h c1) (branch r1 (mF cb 2 m3 h (λc2 r2=>∀(m4:MH),aR (bA m3 m4 c2) (aM m4 h c2) (aA (eO (lI (pO x) 1*16)) (dN (pO x)) (EA I m1 x cb s (CD v) (λx1=>AO x.2.1 x1.2.1) (λx1=>cM 72 2 (eT (pO x) (jS (eN (↑x.1:Int)) (Value.bool r2)))=cM 72 2 (pO x1)) m4 h)))) (EA I m1 x cb s (CD v) (λx1=>AO x.2.1 x1.2.1) (λx1=>cM 72 2 (pO x)=cM 72 2 (pO x1)) m3 h))))))) (jF cb 4 x.2.2.2 h (λk m2=>bV h 1
 (gU x.2.1) (λs1 h1=>bV h1 2 (pO x) (λs2 h2=>K (jK (CH v v (aT (lJ (iT v)) (kW (fN v)) (aT (wU (fN v)) (eN (o9 (fN v))) (aT (qB (fN v)) (lJ (fN v)) (aT (nB v) (nC v) (aT (eC v.on) (eC s1) (aT (eC s2) (eN k) (aK v.args))))))))) m2 h2))))
theorem T1:Sound Tryz.prog 76 Tk:=by
 refine iB Tryz.func76 ?_;rintro cvs m h K ⟨n,k,rfl,hK⟩;refine⟨dL [] [] [] [] false,rfl,aF,Vp n k m h K,by kernel_rfl,?_⟩;exact hK
theorem K1:Sound Tryz.prog 40 Wu:=by
 refine iB Tryz.func40 ?_;rintro cvs m h K ⟨t,rfl,hK⟩;refine⟨dL [] [] [] [] false,rfl,aF,Vs t m h K,by kernel_rfl,?_⟩;exact hK
theorem T9:Sound Tryz.prog 42 Yv:=by
 refine iB Tryz.func42 ?_;rintro cvs m h K ⟨cb,v,s,kinds,rfl,hc,hs,hl,hK⟩;refine⟨XD cb v s h,rfl,aD F7 (aD wI aF),O1 cb v s m h K,by kernel_rfl,?_⟩;dsimp only[O1,push_cast];have hsl:=hs.slen;refine⟨λ⟨i,gr,od,mx⟩=>i<=kinds.length/\gr.length<=i/\od.length<=i/\bA m mx cb/\aM mx h cb,λ⟨i,_,_,_⟩=>kinds.length-i,⟨(0,[],[],m),⟨aC,by simp,by simp,.refl _ _,hc⟩,MT⟩,?_⟩;rintro⟨i,gr,od,m1⟩ ⟨hi,hg,ho,o1,c1⟩;dsimp only;refine aE (λhlt=>?_) (λhge=>?_)
 .have fin:∀(gr':List Int)(od':List (Int×Bool)) m',gr'.length<=i+1->od'.length<=i+1->bA m m' cb->aM m' h cb->(i+1<=kinds.length/\gr'.length<=i+1/\od'.length<=i+1/\bA m m' cb/\aM m' h cb):=λgr' od' m' h1 h2 h3 h4=>⟨aC,h1,h2,h3,h4⟩
  refine⟨cb,3,rfl,aC,aC,c1,λr m2 o2 c2=>aB (λ_=>⟨by simp;omega,by simp;omega,cb,3,rfl,aC,aC,c2,λr2 m3 o3 c3=>aB (λ_=>⟨cb,2,rfl,aC,aC,c3,λr3 m4 o4 c4=>⟨by simp;omega,by simp;omega,(i+1,gr++[(i:Int)],od++[((i:Int),r3)],m4),fin (gr++[(i:Int)]) (od++[((i:Int),r3)]) m4 (by simp;omega) (by simp;omega) (((o1.trans o2).trans o3).trans o4) c4,by show kinds.length-(i+1)<kinds.length-i;omega,?_⟩⟩) (λ_=>⟨(i+1,gr++[(i:Int)],od,m3),fin (gr++[(i:Int)]) od m3 (by simp;omega) aC ((o1.trans o2).trans o3) c3,by show kinds.length-(i+1)<kinds.length-i;omega,?_⟩)⟩)
   (λ_=>⟨cb,3,rfl,aC,aC,c2,λr2 m3 o3 c3=>aB (λ_=>⟨cb,2,rfl,aC,aC,c3,λr3 m4 o4 c4=>⟨by simp;omega,by simp;omega,(i+1,gr,od++[((i:Int),r3)],m4),fin gr (od++[((i:Int),r3)]) m4 aC (by simp;omega) (((o1.trans o2).trans o3).trans o4) c4,by show kinds.length-(i+1)<kinds.length-i;omega,?_⟩⟩) (λ_=>⟨(i+1,gr,od,m3),fin gr od m3 aC aC ((o1.trans o2).trans o3) c3,by show kinds.length-(i+1)<kinds.length-i;omega,MT⟩)⟩)⟩
  .simp only[List.map_append];exact MT
  .simp only[List.map_append];exact MT
  .simp only[List.map_append];exact MT
 .refine⟨cb,4,rfl,c1,λk m2 k0 k1 o2 c2 s1 h1 hle1 r1 s2 h2 hle2 r2=>?_⟩;exact hK s1 s2 k gr od m2 h2 (hle1.trans hle2) ⟨r1.mono hle2,aC⟩ ⟨r2,aC⟩ aC aC k0 aC (o1.trans o2) (c2.mono (hle1.trans hle2))
def WA:Vc.Spec:=λcvs m h K=>∃cb s t a b,cvs=[cP cb,cS s,cS t]/\aM m h cb/\Ints h s a/\Ints h t b/\a.length<=1000/\b.length<=1000/\
 ∀o on m' h',PH.le h h'->lK h' o on->on.length<=10->bA m m' cb->aM m' h' cb->K (cS o) m' h'
noncomputable def XE(cb:Nat)(s t:Sl)(h:PH):Ctx:=
 dL [(15,FB)] [(3,{A:=Int×List (Int×Int)×MH,st:=λ⟨n,on,m⟩=>cD 77 80 [(0,pv cb),(1,sv s),(2,sv t),(7,.at (.lst 75)),(8,iv n)] [(75,.lst 69 2 (on.map sY))] m h}),
  (8,{A:=Int×Nat×List (Int×Int)×(Int×Int)×Bool×MH,st:=λ⟨n,i,on,p,f,m⟩=>cD 77 80 [(0,pv cb),(1,sv s),(2,sv t),(7,.at (.lst 75)),(8,iv n),(9,.at (.ptr 9 0)),(10,bv f),(49,.at (.lst 75)),(50,iv on.length),(51,iv i)] [(9,.cells 69 [.val (.int .i64 p.1),.val (.int .i64 p.2)]),(75,.lst 69 2 (on.map sY))] m h})] [] [] false
noncomputable abbrev vQ(a:Int×List (Int×Int)×MH):List (List Value):=List.map sY a.2.1
noncomputable abbrev A0(a:Int×Nat×List (Int×Int)×(Int×Int)×Bool×MH):Bool:=a.2.2.2.2.1
noncomputable abbrev vP(a:Int×Nat×List (Int×Int)×(Int×Int)×Bool×MH):Nat:=a.2.2.1.length
noncomputable abbrev wT(a:Int×Nat×List (Int×Int)×(Int×Int)×Bool×MH):Int×Int:=a.2.2.2.1
noncomputable abbrev nH(a:Int×Nat×List (Int×Int)×(Int×Int)×Bool×MH):List (List Value):=List.map sY a.2.2.1
noncomputable abbrev tL(a:Int×Nat×List (Int×Int)×(Int×Int)×Bool×MH):Nat->Option Obj:=a.2.2.2.2.2
abbrev HO(a:(Int×Nat×List (Int×Int)×(Int×Int)×Bool×MH)->Prop)(b:(Int×Nat×List (Int×Int)×(Int×Int)×Bool×MH)->Nat)(c d:Nat)(e g:Sl)(i:Int×Nat×List (Int×Int)×(Int×Int)×Bool×MH)(j:(Int×Nat×List (Int×Int)×(Int×Int)×Bool×MH)->Int×Nat×List (Int×Int)×(Int×Int)×Bool×MH)(k:(Int×Nat×List (Int×Int)×(Int×Int)×Bool×MH)->Prop):Prop:=∃(x:Int×Nat×List (Int×Int)×(Int×Int)×Bool×MH),aA (a x) (b x<c) (aA (dG d) (aJ e) (aA (aJ g) (eL 75) (aA (cL i.1 (j x).1) (eP 9) (k x))))
attribute [push_cast] vQ A0 vP wT nH tL HO
def O2(cb:Nat)(s t:Sl)(m:MH)(h:PH)(K:CV->MH->PH->Prop):Prop:=
  jF cb 3 m h (λk m1=>∃(I:Int×List (Int×Int)×MH->Prop)(m2:Int×List (Int×Int)×MH->Nat),(∃(x:Int×List (Int×Int)×MH),aA (I x) (dG cb) (aA (aJ s) (aJ t) (aA (eL 75) (cL k x.1) (aA (mM 69 2 (cM 69 2 (vQ x))) (m1=x.2.2) (bN h h)))))/\∀(x:Int×List (Int×Int)×MH),I x->eX x.1 0 (eX (aG s) 0 (eX (aG t) 0 (jF cb (aG s) x.2.2 h (λk1 m3=>jF cb (aG t) m3 h (λk2 m4=>aA (cG 0) ((0:Int)<2) (bD (λb o=>aH (bE s.a b o) (0<=k1) (k1<aG s) (∃(y:Int),aH (aL m4 h b (fJ o k1 1) (bW y)) ((0:Int)<=1) ((1:Int)<2) (bD (λb1 o1=>aH (bE t.a b1 o1) (0<=k2) (k2<aG t) (∃(y1:Int),aL m4 h b1 (fJ o1 k2 1) (bW y1)/\∃(I1:Int×Nat×List (Int×Int)×(Int×Int)×Bool×MH->Prop)(m5:Int×Nat×
 List (Int×Int)×(Int×Int)×Bool×MH->Nat),(∃(x1:Int×Nat×List (Int×Int)×(Int×Int)×Bool×MH),aA (I1 x1) (dG cb) (aA (aJ s) (aJ t) (aA (eL 75) (cL x.1 x1.1) (aA (eP 9) (hX (y==y1) (A0 x1)) (aA (eL 75) (bX (vQ x).length (vP x1)) (aA (aZ x1.2.1) (AR (pA (eZ k1) (eZ k2)) (pK (wT x1))) (aH (cM 69 2 (vQ x)=cM 69 2 (nH x1)) (m4=tL x1) (h=h) True)))))))/\∀(x1:Int×Nat×List (Int×Int)×(Int×Int)×Bool×MH),I1 x1->aW (↑x1.2.1:Int) (↑(vP x1):Int) (aA (cG (↑x1.2.1:Int)) ((↑x1.2.1:Int)<j9 (nH x1)) (∃(e:List Value),tX (nH x1) (pU x1.2.1) e/\∃(y2:Int×Int),hZ (List.take 2 (List.drop 0 e)=tM y2) (A0 x1) (aA (cG 0) ((0:Int)<2) (aA (cG 0) ((0:Int)<2) (eR y2.1 (wT
 x1).1 (aA (cG 1) ((1:Int)<2) (aA (cG 1) ((1:Int)<2) (HO (λx2=>I1 x2) (λx2=>m5 x2) (m5 x1) cb s t x1 (λx2=>x2) (λx2=>aA (hX (y2.2 !=(wT x1).2) (A0 x2)) (eL 75) (aA (bX (vP x1) (vP x2)) (fV (bB x1.2.1 1)=bM x2.2.1) (aA (AR (pK (wT x1)) (pK (wT x2))) (cM 69 2 (nH x1)=cM 69 2 (nH x2)) (aA (tL x1=tL x2) (h=h) True))))))) (HO (λx2=>I1 x2) (λx2=>m5 x2) (m5 x1) cb s t x1 (λx2=>x2) (λx2=>aA (AD (A0 x2)) (eL 75) (aA (bX (vP x1) (vP x2)) (fV (bB x1.2.1 1)=bM x2.2.1) (aA (AR (pK (wT x1)) (pK (wT x2))) (cM 69 2 (nH x1)=cM 69 2 (nH x2)) (aA (tL x1=tL x2) (h=h) True)))))))) (HO (λx2=>I1 x2) (λx2=>m5 x2) (m5 x1) cb s t x1 (λx2
 =>x2) (λx2=>aA (AD (A0 x2)) (eL 75) (aA (bX (vP x1) (vP x2)) (fV (bB x1.2.1 1)=bM x2.2.1) (aA (AR (pK (wT x1)) (pK (wT x2))) (cM 69 2 (nH x1)=cM 69 2 (nH x2)) (aA (tL x1=tL x2) (h=h) True))))))) (branch (A0 x1) (aA (eO (lI (nH x1) 1*16)) (dN (nH x1)) (∃(x2:Int×List (Int×Int)×MH),aA (I x2) (m2 x2<m2 x) (aA (dG cb) (aJ s) (aA (aJ t) (eL 75) (aA (cL (iN (x1.1-1)) x2.1) (cM 69 2 (eT (nH x1) (tM (wT x1)))=cM 69 2 (vQ x2)) (bT (tL x1=x2.2.2) h h)))))) (∃(x2:Int×List (Int×Int)×MH),aA (I x2) (m2 x2<m2 x) (aA (dG cb) (aJ s) (aA (aJ t) (eL 75) (aA (cL (iN (x1.1-1)) x2.1) (cM 69 2 (nH x1)=cM 69 2 (vQ x2)) (bT (tL x1=x2.2.2) h
 h))))))))))))))) (bV h 2 (vQ x) (λs1 h1=>K (lY s1) x.2.2 h1))) (bV h 2 (vQ x) (λs1 h1=>K (lY s1) x.2.2 h1))) (bV h 2 (vQ x) (λs1 h1=>K (lY s1) x.2.2 h1)))
theorem Ua:Sound Tryz.prog 41 WA:=by
 refine iB Tryz.func41 ?_;rintro cvs m h K ⟨cb,s,t,a,b,rfl,hc,hs,ht,l1,l2,hK⟩;refine⟨XE cb s t h,rfl,aD F7 aF,O2 cb s t m h K,by kernel_rfl,?_⟩;dsimp only[O2,push_cast];have hsl:=hs.slen;have htl:=ht.slen;refine⟨cb,3,rfl,hc,λk m1 k0 k1 o1 c1=>⟨λ⟨n,on,mx⟩=>0<=n/\n<=2/\(on.length:Int)<=2-n/\bA m mx cb/\aM mx h cb,λ⟨n,_,_⟩=>n.toNat,⟨(k,[],m1),⟨k0,by show k<=2;omega,by simp;omega,o1,c1⟩,MT⟩,?_⟩⟩;clear k0 k1 o1 c1 m1;rintro⟨n,on,m1⟩ ⟨n0,n1,hon,o1,c1⟩;dsimp only;have out:∀(sl:Sl)(h':PH),PH.le h h'->cR h' sl 2 (on.map sY)->K (.val (.slice sl.a sl.len sl.cap)) m1 h':=λsl h' hle hrow=>hK sl on m1 h' hle ⟨hrow,aC⟩ aC o1 (c1.mono hle);refine aE (λhn=>aE (λhp=>aE (λhq=>?_) (λ_=>out)) (λ_=>out)) (λ_=>out);refine⟨cb,s.len,rfl,c1,λx m2 x0 x1 o2 c2=>⟨cb,t.len,rfl,c2,λy m3 y0 y1 o3 c3=>?_⟩⟩;obtain⟨b1,f1,e1,r1⟩:=hs.inb (n:=x) x0 aC;obtain⟨b2,f2,e2,r2⟩:=ht.inb (n:=y) y0 aC;refine⟨aC,aC,b1,f1,e1,x0,aC,_,.imm r1,aC,aC,b2,f2,e2,y0,aC,_,.imm r2,?_⟩;refine⟨λ⟨n',i,on',p,f,mx⟩=>n'=n/\on'=on/\mx=m3/\i<=on.length,λ⟨_,i,_,_,_,_⟩=>on.length-i,⟨(n,0,on,(x,y),a.getD x.toNat 0==b.getD y.toNat 0,m3),⟨rfl,rfl,rfl,aC⟩,?_⟩,?_⟩
 .rw[List.length_map];exact MT
 rintro⟨n,i,on,p,f,m3⟩ ⟨rfl,rfl,rfl,hi⟩;dsimp only;refine aE (λhlt=>?_) (λhge=>?_)
 .have hl:i<on.length:=by omega
  have hget:(on.map sY)[i]? =some (sY on[i]):=by rw[List.getElem?_map,List.getElem?_eq_getElem hl];rfl
  refine⟨aC,by rw[List.length_map];omega,_,hget,on[i],rfl,aB (λ_=>⟨aC,aC,aC,aC,aB (λ_=>⟨aC,aC,aC,aC,(n,i+1,on,p,_,m3),⟨rfl,rfl,rfl,by show i+1<=on.length;omega⟩,by show on.length-(i+1)<on.length-i;omega,MT⟩) (λ_=>⟨(n,i+1,on,p,_,m3),⟨rfl,rfl,rfl,by show i+1<=on.length;omega⟩,by show on.length-(i+1)<on.length-i;omega,MT⟩)⟩) (λ_=>⟨(n,i+1,on,p,_,m3),⟨rfl,rfl,rfl,by show i+1<=on.length;omega⟩,by show on.length-(i+1)<on.length-i;omega,MT⟩)⟩
 .have hw:IntKind.i64.wrap (n-1)=n-1:=eB aC aC;rw[hw];refine aB (λ_=>⟨by rw[List.length_map];omega,by rw[List.length_map];omega,(n-1,on++[p],m3),⟨by show 0<=n-1;omega,by show n-1<=2;omega,by simp;omega,(o1.trans o2).trans o3,c3⟩,by show(n-1).toNat<n.toNat;omega,?_⟩) (λ_=>⟨(n-1,on,m3),⟨by show 0<=n-1;omega,by show n-1<=2;omega,by show(on.length:Int)<=2-(n-1);omega,(o1.trans o2).trans o3,c3⟩,by show(n-1).toNat<n.toNat;omega,MT⟩);rw[List.map_append];exact MT
def Zt:Vc.Spec:=λcvs m h K=>∃s cs,∃most:Nat,cvs=[cS s,cI most]/\cR h s 1 (aY cs)/\s.len<=s.cap/\most<=1000/\∀cb m' h',PH.le h h'->m cb=none->bA m m' cb->aM m' h' cb->K (cP cb) m' h'
abbrev zG(a b:Prop)(c:(List (List Value))->Prop):Prop:=aA a b (∃(x:List (List Value)),c x)
attribute [push_cast] zG
def Pr(s:Sl)(most:Nat)(m:MH)(h:PH)(K:CV->MH->PH->Prop):Prop:=
  zG (cG (ite ((↑most:Int)<aG s) (↑most:Int) (aG s))) (ite ((↑most:Int)<aG s) (↑most:Int) (aG s)<=(↑s.cap:Int)) (λy=>aA (eG 1 y) (oJ m h (Sl.mk s.a (ite ((↑most:Int)<aG s) (↑most:Int) (aG s)).toNat s.cap) 1 y) (aA (eO (y.length*1)) (eO y.length) (bV h 1 y (λs1 h1=>∀(b:Nat)(m1:MH),aR (cH m h1 b) (bC m m1 b (jS (eC s1) cO) 82) (K (qJ b 0) m1 h1)))))
theorem Eh(l:List UInt8):eG 1 (aY l):=by
 constructor
 .intro e he;obtain⟨x,_,rfl⟩:=List.mem_map.1 he;rfl
 .intro e he u hu;obtain⟨x,_,rfl⟩:=List.mem_map.1 he;simp at hu;subst hu;rfl
theorem cR.cut{s:Sl}(r:cR h s sz xs)(n:Nat)(hn:n<=xs.length):cR h ⟨s.a,n,s.cap⟩ sz (xs.take n):=by
 refine⟨by simp;omega,?_,by have h1:=r.len;have h2:=r.cap;show n<=s.cap;omega⟩;rcases r.row with e|⟨b,o,ha,k⟩
 .left;rw[e];simp
 .right;refine⟨b,o,ha,λi e hi=>?_⟩;rw[List.getElem?_take]at hi;split at hi
  .exact k i e hi
  .cases hi
theorem UA:Sound Tryz.prog 11 Zt:=by
 refine iB Tryz.func11 ?_;rintro cvs m h K ⟨s,cs,most,rfl,hr,hc,hm,hK⟩;refine⟨uM [] [] [] [] [82] [] false,rfl,aF,Pr s most m h K,by kernel_rfl,?_⟩;have hl:s.len=cs.length:=by have:=hr.len;simpa[aY]using this
 dsimp only[Pr,push_cast];have hmin:(if(most:Int)<(s.len:Int)then(most:Int)else(s.len:Int))=((min most s.len:Nat):Int):=by split<;>omega
 rw[hmin];have hcut:=cR.cut hr (min most s.len) (by simp[aY];omega);refine⟨aC,aC,aY (cs.take (min most s.len)),Eh _,.imm ?_,by simp[aY];omega,by simp[aY];omega,λs' h' hle hrow b m' hb hu=>?_⟩
 .rw[show aY (cs.take (min most s.len))=(aY cs).take (min most s.len)by simp[aY,List.map_take]];exact hcut
 .exact hK b m' h' hle hb.m_ ⟨hu.other⟩ ⟨_,⟨⟨s',_,0,hu.at_,hrow,aC,by simp;omega,rfl⟩⟩⟩
def YE:Vc.Spec:=λcvs m h K=>∃n:Nat,cvs=[.val (.slice none 0 0),cI n]/\n<=1000/\K (.lst 3 1 []) m h
noncomputable def VJ(ss:Sl)(m:MH)(h:PH):Ctx:=
 dL [(205,YE)] [(3,{A:=Nat×Nat,st:=λ⟨i,n⟩=>cD 36 37 [(0,sv ss),(3,iv n),(9,sv ss),(10,iv ss.len),(11,iv i)] [] m h}),
  (11,{A:=Nat×List Int,st:=λ⟨i,l⟩=>cD 36 37 [(6,.at (.lst 24)),(25,sv ss),(26,iv ss.len),(27,iv i)] [(24,.lst 3 1 (l.map eI))] m h})] [] [] false
abbrev I0(a:Int):Prop:=a<=140737488355328
attribute [push_cast] I0
def Lg(n:Nat)(m:MH)(h:PH)(K:CV->MH->PH->Prop):Prop:=
  eX (iN ((↑n:Int)-iN ((0:Int)-0))) 0 (aA (cG 0) (cG 0) (aA (0<iN ((↑n:Int)-0)) (I0 (iN ((↑n:Int)-0)*8)) (aH (I0 (iN ((↑n:Int)-0))) ((0:Int)<=0) (cG (j9 (List.replicate (iN ((↑n:Int)-0)).toNat (iR cO)))) (K (CV.lst 3 1 []) m h)))) (K (CV.lst 3 1 []) m h)
abbrev HX(a:(Nat×Nat->Prop)->(Nat×Nat)->Prop)(b:(Nat×Nat->Prop)->(Nat×Nat->Nat)->(Nat×Nat)->Prop):Prop:=∃(x:Nat×Nat->Prop)(x1:Nat×Nat->Nat),(∃(x2:Nat×Nat),a x x2)/\∀(x2:Nat×Nat),b x x1 x2
attribute [push_cast] HX
def Lq(ss:Sl)(m:MH)(h:PH)(K:CV->MH->PH->Prop):Prop:=
  HX (λI x=>aA (I x) (aJ ss) (aA (aZ x.2) (aJ ss) (aA (bJ ss) (aZ x.1) (aA (m=m) (h=h) True)))) (λI m1 x=>I x->aW (↑x.1:Int) (aG ss) (cZ ss.a (↑x.1:Int) ss (λb o y=>aL m h b (bF o x.1 1) (aK y)/\aW (bB x.2 (aG y)) 0 False (∃(x1:Nat×Nat),aA (I x1) (m1 x1<m1 x) (aA (aJ ss) (fV (bB x.2 (aG y))=bM x1.2) (aA (aJ ss) (bJ ss) (aA (fV (bB x.1 1)=bM x1.1) (m=m) (bN h h))))))) (∃(n:Nat),aA (cJ Dm (↑x.2:Int)=cJ Dm (↑n:Int)) (mO n) (∃(I1:Nat×List Int->Prop)(m2:Nat×List Int->Nat),(∃(x1:Nat×List Int),aA (I1 x1) (eL 24) (aA (aJ ss) (bJ ss) (aA (aZ x1.1) (pJ x1.2) (aA (m=m) (h=h) True))))/\∀(x1:Nat×List Int),I1 x1->aW (↑x1.1:Int) (aG ss) (cZ ss.a (↑x1.1:Int) ss (λb o y=>aL
 m h b (bF o x1.1 1) (aK y)/\∃(y1:List (List Value)),aA (eG 1 y1) (cR h (cV y) 1 y1) (aA (pX (gU x1.2) y1 8) (eO (pY (gU x1.2) y1)) (∃(x2:Nat×List Int),aA (I1 x2) (m2 x2<m2 x1) (aA (eL 24) (aJ ss) (aA (bJ ss) (fV (bB x1.1 1)=bM x2.1) (aA (cM 3 1 (gU x1.2++y1)=DM x2.2) (m=m) (bN h h)))))))) (bV h 1 (gU x1.2) (λs h1=>K (lY s) m h1)))))
theorem QN:Sound Tryz.prog 205 YE:=by
 refine iB Tryz.func205 ?_;rintro cvs m h K ⟨n,rfl,hn,hK⟩;refine⟨dL [] [] [] [] true,rfl,aF,Lg n m h K,by kernel_rfl,?_⟩;dsimp only[Lg,push_cast];have h0:IntKind.i64.wrap ((n:Int)-0)=n:=by rw[eB aC aC];omega
 have h1:IntKind.i64.wrap ((n:Int)-IntKind.i64.wrap (0-0))=n:=by rw[show IntKind.i64.wrap (0-0)=0 from by rw[eB aC aC];rfl,h0]
 exact aE (λhp=>⟨aC,aC,aC,aC,aC,aC,aC,hK⟩) (λ_=>hK)
def sE(ks:List (List Int)):Nat:=(ks.map List.length).sum
theorem GY{k:List Int}(hk:ks[i]? =some k):sE (ks.take (i+1))=sE (ks.take i)+k.length:=by
 unfold sE;rw[List.take_add_one,hk];simp
theorem FH{ks:List (List Int)}(h:∀k∈ks,k.length<=12):∀i,sE (ks.take i)<=12*i
 |0=>by simp[sE]
 |i+1=>by
  have ih:=FH h i;cases e:ks[i]? with
  |none=>rw[List.take_add_one,e];simp[sE]at ih⊢;omega
  |some k=>rw[GY e];have:=h k (List.mem_of_getElem? e);omega
theorem QX:Sound Tryz.prog 179 Ir:=by
 refine iB Tryz.func179 ?_;rintro cvs m h K ⟨ss,ks,rfl,hs,hl,h12,hK⟩;refine⟨VJ ss m h,rfl,aD QN aF,Lq ss m h K,by kernel_rfl,?_⟩;dsimp only[Lq,push_cast];have hsl:=bH.slen hs;refine⟨λ⟨i,n⟩=>i<=ks.length/\n=sE (ks.take i),λ⟨i,_⟩=>ks.length-i,⟨(0,0),⟨aC,by simp[sE]⟩,MT⟩,?_⟩;rintro⟨i,n⟩ ⟨hi,rfl⟩;dsimp only;have hb:=FH h12 i;refine aE (λhlt=>?_) (λhge=>?_)
 .obtain⟨k,hk⟩:=eY hsl hlt;obtain⟨b,o,sl,ea,r,hki⟩:=bH.at hs hk;have hkl:=hki.slen;have hk12:=h12 k (List.mem_of_getElem? hk)
  have hw:IntKind.i64.wrap ((sE (ks.take i):Int)+(sl.len:Int))=((sE (ks.take (i+1)):Nat):Int):=by
   rw[GY hk,eB aC aC];omega
  refine⟨b,o,ea,aC,hlt,sl,.imm r,?_⟩;rw[hw];exact aE (λhneg=>by omega) (λ_=>⟨(i+1,sE (ks.take (i+1))),⟨aC,rfl⟩,by show ks.length-(i+1)<ks.length-i;omega,MT⟩)
 .refine⟨sE (ks.take i),rfl,aC,?_⟩;refine⟨λ⟨i,l⟩=>i<=ks.length/\l=(ks.take i).flatten,λ⟨i,_⟩=>ks.length-i,⟨(0,[]),⟨aC,by simp⟩,MT⟩,?_⟩;clear hb hge hi;rintro⟨i,l⟩ ⟨hi,rfl⟩;dsimp only;have hfl:(ks.take i).flatten.length<=12*i:=by have:=FH h12 i;simpa[sE,List.length_flatten]using this
  refine aE (λhlt=>?_) (λhge sl h' hle hrow=>hK sl h' hle ⟨?_,?_⟩)
  .obtain⟨k,hk⟩:=eY hsl hlt;obtain⟨b,o,sl,ea,r,hki⟩:=bH.at hs hk;have hk12:=h12 k (List.mem_of_getElem? hk);refine⟨b,o,ea,aC,hlt,sl,.imm r,k.map eI,xJ k,hki.row,?_,?_,(i+1,(ks.take (i+1)).flatten),⟨aC,rfl⟩,by show ks.length-(i+1)<ks.length-i;omega,?_⟩
   .rw[List.length_map,List.length_map];omega
   .rw[List.length_map,List.length_map];omega
   .rw[List.take_add_one,hk,Option.toList_some,List.flatten_append,List.map_append,List.flatten_cons,List.flatten_nil,List.append_nil];exact MT
  .rw[List.take_of_length_le aC]at hrow;exact hrow
  .rw[List.take_of_length_le aC]at hfl;omega
theorem T0:∀N,Sound Tryz.prog 81 (Bm N):=SC QX
def OJ(v:QV)(m:MH)(h:PH)(K:CV->MH->PH->Prop):Prop:=
  ∀(b:Nat)(m1:MH),aR (cH m h b) (bC m m1 b v.enc 38) (K (CV.val (wY 114 (Array.mk (iR (P1 b 0))))) m1 h)
end Go.Ps
