/-
  Part 4 of a proof that a law of the given program returns true: a condition generator that is proved sound, and contracts of functions. No condition of its own. Own work, joined by a program (pack2.py).
-/
import Derived.Test.YtileehgdfcknkaaGreatDoorKc
set_option linter.unusedVariables false
set_option linter.unusedSimpArgs false
namespace Go.Ps
open Go Go.Vc Go.Proofs
variable{K:CV->MH->PH->Prop}{m:MH}{h:PH}{s:pV}{ps:List Int}{cb:Nat}{sc:bH}{v:QV}{q:Query}{p:Pred}{l:List Int}{i:Nat}{N:Nat}{m':MH}{h':PH}{co:List Int}{gr:List Int}{od:List (Int×Bool)}{w:Pred}{ta:Int}{li:Int}{xs:List (List Value)}{sz:Nat}{k:Nat}{ks:List (List Int)}{rs:List Int}{r:Sl}{a:List Int}{b:Nat}
def fv(f:Nat):CV:=.val (.func (.func f) #[] #[])
def Nq:Vc.Spec:=λcvs m h K=>∃op,cvs=[cI op]/\
 branch (op==1) (K (fv 139) m h) (branch (op==2) (K (fv 140) m h) (branch (op==3) (K (fv 141) m h) (branch (op==4) (K (fv 142) m h) (branch (op==5) (K (fv 143) m h) (branch (op==6) (K (fv 144) m h) (branch (op==7) (K (fv 144) m h) (branch (op==8) (K (fv 144) m h) (branch (op==9) (K (fv 145) m h) (branch (op==10) (K (fv 146) m h) (K (.val .nilFunc) m h))))))))))
noncomputable def YN(N:Nat)(sc:bH)(p:Sl)(v:QV)(m:MH):Ctx:=
 dN [(81,v7 N),(116,Nq),(139,xC (· =1)),(140,xC (· =2)),(141,xC (· =3)),(142,xC (· =4)),(143,xC (· =5)),(144,xC (λop=>op=6\/op=7\/op=8)),(145,xC (· =9)),(146,xC (· =10))] [(3,{A:=Nat×List Sl×PH,st:=λ⟨i,ss,h⟩=>cE 62 65 [(1,sv p),(3,.at (.ptr 3 0)),(5,.at (.ptr 5 0)),(8,.at (.ptr 8 0)),(21,sv v.args),(22,iv v.args.len),(23,iv i)] [(3,.cells 43 (sc.enc.map .val)),(5,.cells 38 (v.enc.map .val)),(8,.cells 152 ((sc.enc++eS p++v.enc).map .val++[.lst 41])),(41,.lst 33 1 (ss.map eS))] m h})] [] [] false
noncomputable abbrev Jp:List Value:=j6 Value.nilFunc
noncomputable abbrev lQ(a:Nat):Value:=Value.func (Fn.func a) rW rW
attribute [push_cast] Jp lQ
def HH(op:Int)(m:MH)(h:PH)(K:CV->MH->PH->Prop):Prop:=
  ∀(b:Nat)(m1:MH),bC (cM m h b) (bE m m1 b (aY Value.nilFunc Value.nilFunc (aY Value.nilFunc Value.nilFunc (aY Value.nilFunc Value.nilFunc (aY Value.nilFunc Value.nilFunc (aY Value.nilFunc Value.nilFunc Jp))))) 183) (eX (λc E=>aA (oX m1 b (dV c E 0)) (11<=c.size) (∀(m2:MH),bE m1 m2 b (aY Value.nilFunc (lQ 139) (aY (lQ 140) (lQ 141) (aY (lQ 142) (lQ 143) (aY (lQ 144) (lQ 144) (aY (lQ 144) (lQ 145) (eU (lQ 146) 11 c)))))) E->bD op 0 (K (CV.val Value.nilFunc) m2 h) (gQ op 11 (K (CV.val Value.nilFunc) m2 h) (aA (cN op) (op<11) (∃(y:Option Nat),aM m2 h b (fL 0 op 1) (j6 (XF y))/\K (CV.val (XF y)) m2 h))))))
abbrev sR(a:Nat×List Sl×PH)(b:bH)(c:Sl)(d:QV)(e:Sl->List Value)(g:NV->CV)(i:Query->Prop)(j:PH->(List Int×Int)->Prop):Prop:=aX (oH a) 1 (sM a) (λx x1=>∃(x2:NV),BA (λx3 x4 x5 x6=>aA (Kn (jM (aY (tW b) (tV b) (aY (eR c) (eW d.op) (aY (nI d) (nH d) (aY (eW (nJ d)) (iY (iW d)) (e x))))))=Kn (g x2)) (wY x1 x3 x4 x5 x6 x2) (aA (oY x3) (i x5) (∀(x7:List Int×Int),fin x7=xB x3 x4 x5 x6->j x1 x7))))
noncomputable abbrev sV(a:QV)(b:List Value):List Value:=aY (rQ (iW a)) (eW (qO (iW a))) (aY (rO (iW a)) (jI (iW a)) (aY (iY (fX a)) (rQ (fX a)) (aY (eW (qO (fX a))) (rO (fX a)) b)))
abbrev sP(a:PH)(b:List Int×Int)(c:CV->MH->PH->Prop)(d:MH):Prop:=kP (λx x1=>dZ a x1 (Ints x1 x b.1) (dH (b.2 !=0) (dM c b.2 d x1) (decide (aG x>12)) (dM c 2 d x1) (c (CV.tup (bU (kU x) 0)) d x1)))
attribute [push_cast] sR sV sP
def P9(N:Nat)(sc:bH)(p:Sl)(v:QV)(m:MH)(h:PH)(K:CV->MH->PH->Prop):Prop:=
  ∃(I:Nat×List Sl×PH->Prop)(m1:Nat×List Sl×PH->Nat),(∃(x:Nat×List Sl×PH),aA (I x) (aK p) (aA iE dU (aA gW (aK v.args) (aA (bK v.args) (bG x.1) (aA (cG sc) (eT v) (aA (Jn sc (gR (tZ p) (hX v.op) (hX v.table::vU v (wR v) (tZ v.on) (gR (hX v.limit) (tZ v.args) (mF (At.lst 41)))))) (uJ 33 1 (sM x)) (eH m m h (oH x))))))))/\∀(x:Nat×List Sl×PH),I x->bD (↑x.1:Int) (aG v.args) (aT (λb o=>aH (aU v.args.a b o) (0<=(↑x.1:Int)) ((↑x.1:Int)<aG v.args) (∃(y:QV),aM m (oH x) b (bB o x.1 21) y.enc/\DI sc p y (oH x) N (λs p1 q s1 h1=>fQ (cA s p1 q).2 0 (K (CV.tup (bI Dc (CV.val (eW (cA s p1 q).2)))) m h1) (nM (sM x) 24 (∃(x1:Nat×List Sl×PH),aA (I x1) (m1 x1<m1 x) (aA (aK p)
 iE (aA dU gW (aA (aK v.args) (bK v.args) (aA (gS (aW x.1 1)=bX x1.1) (cG sc) (aA (eT v) (Jn sc (gR (tZ p) (hX v.op) (hX v.table::vU v (wR v) (tZ v.on) (gR (hX v.limit) (tZ v.args) (mF (At.lst 41)))))) (dE (dJ 33 1 (kB (sM x) s1)=dJ 33 1 (sM x1)) m m h1 (oH x1))))))))))))) (vB v.op (λo=>dH (o==1) (sR x sc p v (λs=>sV v (aY (jI (fX v)) (oI v) (aY (oK v) (eR v.on) (aY (rM v) (rN v) (aY (eW v.limit) (uM v) (aR s)))))) (λn=>iZ n (gA n (fY n))) (λq=>q.op=1) (λh1 r=>sP h1 r K m)) (o==2) (sR x sc p v (λs=>sV v (aY (jI (fX v)) (oI v) (aY (oK v) (eR v.on) (aY (rM v) (rN v) (aY (eW v.limit) (uM v) (aR s)))))) (λn=>iZ n (gA n
 (fY n))) (λq=>q.op=2) (λh1 r=>sP h1 r K m)) (dH (o==3) (sR x sc p v (λs=>sV v (aY (jI (fX v)) (oI v) (aY (oK v) (eR v.on) (aY (rM v) (rN v) (aY (eW v.limit) (uM v) (aR s)))))) (λn=>iZ n (gA n (fY n))) (λq=>q.op=3) (λh1 r=>sP h1 r K m)) (o==4) (sR x sc p v (λs=>sV v (aY (jI (fX v)) (oI v) (aY (oK v) (eR v.on) (aY (rM v) (rN v) (aY (eW v.limit) (uM v) (aR s)))))) (λn=>iZ n (gA n (fY n))) (λq=>q.op=4) (λh1 r=>sP h1 r K m)) (dH (o==5) (sR x sc p v (λs=>sV v (aY (jI (fX v)) (oI v) (aY (oK v) (eR v.on) (aY (rM v) (rN v) (aY (eW v.limit) (uM v) (aR s)))))) (λn=>iZ n (gA n (fY n))) (λq=>q.op=5) (λh1 r=>
 sP h1 r K m)) (o==6) (sR x sc p v (λs=>sV v (aY (jI (fX v)) (oI v) (aY (oK v) (eR v.on) (aY (rM v) (rN v) (aY (eW v.limit) (uM v) (aR s)))))) (λn=>iZ n (gA n (fY n))) (λq=>q.op=6\/q.op=7\/q.op=8) (λh1 r=>sP h1 r K m)) (dH (o==7) (sR x sc p v (λs=>sV v (aY (jI (fX v)) (oI v) (aY (oK v) (eR v.on) (aY (rM v) (rN v) (aY (eW v.limit) (uM v) (aR s)))))) (λn=>iZ n (gA n (fY n))) (λq=>q.op=6\/q.op=7\/q.op=8) (λh1 r=>sP h1 r K m)) (o==8) (sR x sc p v (λs=>sV v (aY (jI (fX v)) (oI v) (aY (oK v) (eR v.on) (aY (rM v) (rN v) (aY (eW v.limit) (uM v) (aR s)))))) (λn=>iZ n (gA n (fY n))) (λq=>q.op=6\/q.op=7\/q.op=8)
 (λh1 r=>sP h1 r K m)) (dH (o==9) (sR x sc p v (λs=>sV v (aY (jI (fX v)) (oI v) (aY (oK v) (eR v.on) (aY (rM v) (rN v) (aY (eW v.limit) (uM v) (aR s)))))) (λn=>iZ n (gA n (fY n))) (λq=>q.op=9) (λh1 r=>sP h1 r K m)) (o==10) (sR x sc p v (λs=>sV v (aY (jI (fX v)) (oI v) (aY (oK v) (eR v.on) (aY (rM v) (rN v) (aY (eW v.limit) (uM v) (aR s)))))) (λn=>iZ n (gA n (fY n))) (λq=>q.op=10) (λh1 r=>sP h1 r K m)) (dM K 100 m (oH x))))))))
theorem S7:Sound Tryz.prog 116 Nq:=by
 refine Gm Tryz.func116 ?_;rintro cvs m h K ⟨op,rfl,hK⟩;refine⟨wH [] [] [] [] [183] [] false,rfl,aF,HH op m h (lE h K),by kernel_rfl,?_⟩;show HH op m h (lE h K);dsimp only[HH,push_cast];intro b m1 hb hm1;refine⟨_,_,⟨hm1.at_⟩,by decide,λm2 hm2=>?_⟩;have hsub:Sub m m2:=((Sub.refl m).upd hb.m_ hm1.other).upd hb.m_ hm2.other;have e:=hm2.at_
 have none_:∀k,¬(1<=op/\op<=10)->op=k->K (.val .nilFunc) m h:=λk hn _=>by
  have:(op==1)=false/\(op==2)=false/\(op==3)=false/\(op==4)=false/\(op==5)=false/\(op==6)=false/\(op==7)=false/\(op==8)=false/\(op==9)=false/\(op==10)=false:=by
   simp only[beq_eq_false_iff_ne];omega
  obtain⟨e1,e2,e3,e4,e5,e6,e7,e8,e9,e10⟩:=this;rw[e1,e2,e3,e4,e5,e6,e7,e8,e9,e10]at hK;exact hK
 refine aE (λh1=>.sub hsub (none_ _ aC rfl)) (λh1=>aE (λh2=>.sub hsub (none_ _ aC rfl)) (λh2=>⟨aC,aC,?_⟩));have:op=0\/op=1\/op=2\/op=3\/op=4\/op=5\/op=6\/op=7\/op=8\/op=9\/op=10:=by omega
 rcases this with rfl|rfl|rfl|rfl|rfl|rfl|rfl|rfl|rfl|rfl|rfl
 .exact⟨none,.lent _ _ _ e rfl,.sub hsub (none_ 0 aC rfl)⟩
 .exact⟨some 139,.lent _ _ _ e rfl,.sub hsub hK⟩
 .exact⟨some 140,.lent _ _ _ e rfl,.sub hsub hK⟩
 .exact⟨some 141,.lent _ _ _ e rfl,.sub hsub hK⟩
 .exact⟨some 142,.lent _ _ _ e rfl,.sub hsub hK⟩
 .exact⟨some 143,.lent _ _ _ e rfl,.sub hsub hK⟩
 .exact⟨some 144,.lent _ _ _ e rfl,.sub hsub hK⟩
 .exact⟨some 144,.lent _ _ _ e rfl,.sub hsub hK⟩
 .exact⟨some 144,.lent _ _ _ e rfl,.sub hsub hK⟩
 .exact⟨some 145,.lent _ _ _ e rfl,.sub hsub hK⟩
 .exact⟨some 146,.lent _ _ _ e rfl,.sub hsub hK⟩
theorem SL:Sound Tryz.prog 139 (xC (· =1)):=by
 refine iJ Tryz.func139 ?_;rintro cvs m h K ⟨n,s,ps,q,ks,rfl,hn,h8,hop,hT⟩;obtain⟨op,ta,w,co,on,gr,od,li,args⟩:=q;refine⟨dN [(177,AB),(72,wN)] [] [] [] false,rfl,(aD rR (aD Mm aF)),Ea n m h K,by kernel_rfl,?_⟩;dsimp only[Ea,push_cast];cases (show op=1 from hop);exact Zt hn h8 ⟨hT⟩
theorem SK:Sound Tryz.prog 140 (xC (· =2)):=by
 refine iJ Tryz.func140 ?_;rintro cvs m h K ⟨n,s,ps,q,ks,rfl,hn,h8,hop,hT⟩;obtain⟨op,ta,w,co,on,gr,od,li,args⟩:=q;refine⟨dN [(177,AB),(113,rT)] [] [] [] false,rfl,(aD rR (aD KX aF)),D9 n m h K,by kernel_rfl,?_⟩;dsimp only[D9,push_cast];cases (show op=2 from hop);exact Zr hn ⟨hT⟩
theorem SJ:Sound Tryz.prog 141 (xC (· =3)):=by
 refine iJ Tryz.func141 ?_;rintro cvs m h K ⟨n,s,ps,q,ks,rfl,hn,h8,hop,hT⟩;obtain⟨op,ta,w,co,on,gr,od,li,args⟩:=q;refine⟨Xm n m h,rfl,(aD rR aF),D8 n m h K,by kernel_rfl,?_⟩;dsimp only[D8,push_cast];cases (show op=3 from hop);exact Zq hn ⟨hT⟩
theorem SI(h101:Sound Tryz.prog 179 JJ):Sound Tryz.prog 142 (xC (· =4)):=by
 refine iJ Tryz.func142 ?_;rintro cvs m h K ⟨n,s,ps,q,ks,rfl,hn,h8,hop,hT⟩;obtain⟨op,ta,w,co,on,gr,od,li,args⟩:=q;refine⟨dN [(178,Ll),(179,JJ)] [] [] [] false,rfl,(aD KT (aD h101 aF)),D7 n m h K,by kernel_rfl,?_⟩;dsimp only[D7,push_cast];cases (show op=4 from hop);exact Zp hn ⟨hT⟩
theorem SH:Sound Tryz.prog 143 (xC (· =5)):=by
 refine iJ Tryz.func143 ?_;rintro cvs m h K ⟨n,s,ps,q,ks,rfl,hn,h8,hop,hT⟩;obtain⟨op,ta,w,co,on,gr,od,li,args⟩:=q;refine⟨dN [(178,Ll)] [] [] [] false,rfl,(aD KT aF),D6 n m h K,by kernel_rfl,?_⟩;dsimp only[D6,push_cast];cases (show op=5 from hop);exact Zo hn ⟨hT⟩
theorem SG:Sound Tryz.prog 144 (xC (λop=>op=6\/op=7\/op=8)):=by
 refine iJ Tryz.func144 ?_;rintro cvs m h K ⟨n,s,ps,q,ks,rfl,hn,h8,hop,hT⟩;obtain⟨op,ta,w,co,on,gr,od,li,args⟩:=q;refine⟨dN [(177,AB),(180,Bb)] [] [] [] false,rfl,(aD rR (aD EW aF)),HE n m h K,by kernel_rfl,?_⟩;exact Zn hop hn ⟨hT⟩
theorem SF:Sound Tryz.prog 145 (xC (· =9)):=by
 refine iJ Tryz.func145 ?_;rintro cvs m h K ⟨n,s,ps,q,ks,rfl,hn,h8,hop,hT⟩;obtain⟨op,ta,w,co,on,gr,od,li,args⟩:=q;refine⟨dN [(177,AB),(181,Lh),(182,Li)] [] [] [] false,rfl,(aD rR (aD KS (aD KO aF))),D5 n m h K,by kernel_rfl,?_⟩;dsimp only[D5,push_cast];cases (show op=9 from hop);exact Zm hn ⟨hT⟩
theorem SE:Sound Tryz.prog 146 (xC (· =10)):=by
 refine iJ Tryz.func146 ?_;rintro cvs m h K ⟨n,s,ps,q,ks,rfl,hn,h8,hop,hT⟩;obtain⟨op,ta,w,co,on,gr,od,li,args⟩:=q;refine⟨dN [(177,AB),(180,Bb),(181,Lh),(182,Li)] [] [] [] false,rfl,(aD rR (aD EW (aD KS (aD KO aF)))),D4 n m h K,by kernel_rfl,?_⟩;dsimp only[D4,push_cast];cases (show op=10 from hop);exact Zl hn ⟨hT⟩
theorem Uc(h101:Sound Tryz.prog 179 JJ):∀N,Sound Tryz.prog 81 (v7 N)
 |0=>by
  refine fA (fn:=Tryz.f81) (c:=cQ Tryz.f81) Tryz.func81 rfl (by decide) ?_;rintro cvs m h K ⟨sc,p,v,s,ps,q,rfl,_,_,_,_,hN,_⟩;omega
 |N+1=>by
  refine iJ Tryz.func81 ?_;rintro cvs m h K ⟨sc,p,v,s,ps,q,rfl,hs,h8,hp,hq,hN,hK⟩;refine⟨YN N sc p v m,rfl,(aD (Uc h101 N) (aD S7 (aD SL (aD SK (aD SJ (aD (SI h101) (aD SH (aD SG (aD SF (aD SE aF)))))))))),P9 N sc p v m h K,by kernel_rfl,?_⟩;dsimp only[P9,push_cast];have hlt:=@AY q;have hqr:=hq;obtain⟨op,ta,w,co,on,gr,od,li,args⟩:=q;have x:=hq.parts;have e0:=x.op_;have hl:=x.args_.slen;have hlen:=x.args_.len;simp only[Query.args]at hlt;simp only[cA]at hK;refine⟨λ⟨i,ss,hx⟩=>i<=args.length/\PH.le h hx/\∃ks,Slices hx ss ks/\(args.take i).map (cA s ps)=ks.map (λk=>(k,0)),λ⟨i,_,_⟩=>args.length-i,⟨(0,[],h),⟨aC,.refl _,[],⟨rfl,λj s k h1=>by simp at h1⟩,by simp⟩,MT⟩,?_⟩;rintro⟨i,ss,hx⟩ ⟨hi,hle,ks,hS,hks⟩;have hkl:ks.length=i:=by have:=congrArg List.length hks;simp at this;omega
  have hsl:ss.length=i:=by rw[hS.1,hkl]
  dsimp only;refine aE (λhlt2=>?_) (λhge=>?_)
  .obtain⟨q',hq'⟩:=fI hl hlt2;obtain⟨b1,o1,u,ea1,r1,hru⟩:=(x.args_.mono hle).at hq';refine⟨b1,o1,ea1,aC,hlt2,u,.imm r1,sc,p,u,s,ps,q',rfl,hs.mono hle,h8,hp.mono hle,hru,?_,λsl h' hle' hi'=>aB (λh1=>?_) (λh1=>?_)⟩
   .have:=hlt (List.mem_of_getElem? hq');omega
   .have he:(cA s ps q').2≠0:=by simpa using h1
    rw[CU he hks hq' rfl]at hK;exact hK.err (hle.trans hle') (if_neg he)
   .have he:(cA s ps q').2=0:=by simpa using h1
    refine⟨by simp;omega,by simp;omega,(i+1,ss++[sl],h'),⟨aC,hle.trans hle',ks++[(cA s ps q').1],(hS.mono hle').snoc hi',?_⟩,by show args.length-(i+1)<args.length-i;omega,?_⟩
    .rw[gO hq',hks,List.map_append];simp only[List.map_cons,List.map_nil];rw[<-he]
    .rw[List.map_append];exact MT
  .rw[List.take_of_length_le aC]at hks;rw[zG hks]at hK;simp only[if_true]at hK;have hK:KR K m h (xB s ps (.mk op ta w co on gr od li args) ks):=hK
   have hrep:∀(sl:Sl)(h':PH),PH.le hx h'->cW h' sl 1 (ss.map eS)->wY h' s ps (.mk op ta w co on gr od li args) ks ⟨sc,p,v,sl⟩:=λsl h' hle' hrow=>by
    refine⟨(hs.mono hle).mono hle',(hp.mono hle).mono hle',(hqr.mono hle).mono hle',⟨⟨ss,hrow,hS.1.symm,λj k hk=>?_⟩,aC⟩,λk hk=>?_⟩
    .have hj:j<ss.length:=by rw[hS.1];exact(List.getElem?_eq_some_iff.1 hk).1
     exact⟨ss[j],List.getElem?_eq_getElem hj,(hS.2 j _ _ (List.getElem?_eq_getElem hj) hk).mono hle'⟩
    .obtain⟨j,hj⟩:=List.mem_iff_getElem?.1 hk;have:=Hc hks j
     rwa [List.getD_eq_getElem?_getD,hj]at this
   have tail:∀(h':PH),PH.le hx h'->∀r,fin r=xB s ps (.mk op ta w co on gr od li args) ks->∀(sl:Sl)(h'':PH),PH.le h' h''->Ints h'' sl r.1->
    branch (r.2 !=0) (K (.tup [.val (.slice none 0 0),.val (.int .i64 r.2)]) m h'') (branch (decide ((sl.len:Int)>12)) (K (.tup [.val (.slice none 0 0),.val (.int .i64 2)]) m h'') (K (.tup [.val (.slice sl.a sl.len sl.cap),.val (.int .i64 0)]) m h'')):=by
    intro h' hle' r hr sl h'' hle2 hi';have hl3:PH.le h h'':=(hle.trans hle').trans hle2;rw[<-hr]at hK;have hsl:=hi'.slen;refine aB (λd1=>?_) (λd1=>aE (λd2=>?_) (λd2=>?_))
    .have d1:r.2≠0:=by simpa using d1
     exact hK.err hl3 (by unfold fin;rw[if_neg d1])
    .have d1:r.2=0:=by simpa using d1
     exact hK.big (l:=r.1) hl3 (by unfold fin;rw[if_pos d1]) aC
    .have d1:r.2=0:=by simpa using d1
     exact hK.ok (l:=r.1) hl3 (by unfold fin;rw[if_pos d1]) aC hi'.row
   refine⟨v.op,rfl,?_⟩;rw[e0];refine aB (λc1 sl h' hle' hrow=>⟨⟨sc,p,v,sl⟩,s,ps,_,ks,by rw[<-e0],hrep sl h' hle' hrow,h8,beq_iff_eq.1 c1,tail h' hle'⟩) (λc1=>?_);refine aB (λc2 sl h' hle' hrow=>⟨⟨sc,p,v,sl⟩,s,ps,_,ks,by rw[<-e0],hrep sl h' hle' hrow,h8,beq_iff_eq.1 c2,tail h' hle'⟩) (λc2=>?_);refine aB (λc3 sl h' hle' hrow=>⟨⟨sc,p,v,sl⟩,s,ps,_,ks,by rw[<-e0],hrep sl h' hle' hrow,h8,beq_iff_eq.1 c3,tail h' hle'⟩) (λc3=>?_);refine aB (λc4 sl h' hle' hrow=>⟨⟨sc,p,v,sl⟩,s,ps,_,ks,by rw[<-e0],hrep sl h' hle' hrow,h8,beq_iff_eq.1 c4,tail h' hle'⟩) (λc4=>?_);refine aB (λc5 sl h' hle' hrow=>⟨⟨sc,p,v,sl⟩,s,ps,_,ks,by rw[<-e0],hrep sl h' hle' hrow,h8,beq_iff_eq.1 c5,tail h' hle'⟩) (λc5=>?_);refine aB (λc6 sl h' hle' hrow=>⟨⟨sc,p,v,sl⟩,s,ps,_,ks,by rw[<-e0],hrep sl h' hle' hrow,h8,.inl (beq_iff_eq.1 c6),tail h' hle'⟩) (λc6=>?_);refine aB (λc7 sl h' hle' hrow=>⟨⟨sc,p,v,sl⟩,s,ps,_,ks,by rw[<-e0],hrep sl h' hle' hrow,h8,.inr (.inl (beq_iff_eq.1 c7)),tail h' hle'⟩) (λc7=>?_);refine aB (λc8 sl h' hle' hrow=>⟨⟨sc,p,v,sl⟩,s,ps,_,ks,by rw[<-e0],hrep sl h' hle' hrow,h8,.inr (.inr (beq_iff_eq.1 c8)),tail h' hle'⟩) (λc8=>?_);refine aB (λc9 sl h' hle' hrow=>⟨⟨sc,p,v,sl⟩,s,ps,_,ks,by rw[<-e0],hrep sl h' hle' hrow,h8,beq_iff_eq.1 c9,tail h' hle'⟩) (λc9=>?_);refine aB (λc10 sl h' hle' hrow=>⟨⟨sc,p,v,sl⟩,s,ps,_,ks,by rw[<-e0],hrep sl h' hle' hrow,h8,beq_iff_eq.1 c10,tail h' hle'⟩) (λc10=>hK.err hle ?_);refine tM λe=>?_;have:arity op= -1:=by simp only[arity];simp only[*,Bool.or_false,Bool.false_or,Bool.or_true,Bool.true_or,Bool.and_true,Bool.true_and,Bool.and_false,Bool.false_and,Bool.not_true,Bool.not_false,Bool.false_eq_true,if_true,if_false, ↓reduceIte]
   have:=e.1;simp only[Query.op]at this;omega
def gT:PV:=⟨0,0,eM,eM,⟨none,0,0⟩⟩
def cR(h:PH)(s:Sl)(l:List VV):Prop:=bV h 3 VV.enc Eq s l
theorem cR.mono{s:Sl}{l:List VV}(x:cR h s l)(le:PH.le h h'):cR h' s l:=bV.mono x le λ_ _ e=>e
def AE:QV:=⟨0,0,gT,⟨none,0,0⟩,⟨none,0,0⟩,⟨none,0,0⟩,⟨none,0,0⟩,0,⟨none,0,0⟩⟩
theorem Wz(l:List QV):eV 21 (l.map QV.enc):=by
 constructor
 .intro e he;obtain⟨x,_,rfl⟩:=List.mem_map.1 he;rfl
 .intro e he u hu;obtain⟨x,_,rfl⟩:=List.mem_map.1 he;simp[QV.enc]at hu;rcases hu with rfl|rfl|rfl|rfl|rfl|rfl|rfl|rfl|rfl|rfl|rfl|rfl|rfl|rfl|rfl|rfl|rfl|rfl|rfl|rfl|rfl<;>rfl
mutual
def Wd:Pred->Nat
 |.mk _ _ _ _ args=>1+GB args
def GB:List Pred->Nat
 |[]=>0
 |p::ps=>Wd p+GB ps
end
mutual
def Tk:Pred->Nat
 |.mk _ _ _ _ args=>1+Iy args
def Iy:List Pred->Nat
 |[]=>0
 |p::ps=>max (Tk p) (Iy ps)
end
mutual
theorem Ki:∀(p:Pred)(n:Int),mQ p n<=n+Wd p
 |.mk _ _ _ _ args,n=>by
  have:=Ig args (n+1);simp only[mQ,Wd];omega
theorem Ig:∀(ps:List Pred)(n:Int),j7 ps n<=n+GB ps
 |[],n=>by simp[j7,GB]
 |p::ps,n=>by
  have h1:=Ki p n;have h2:=Ig ps (mQ p n);simp only[j7,GB];split<;>omega
end
mutual
theorem IB:∀(p:Pred)(n:Nat),Tk p<=n->lD p n=false
 |.mk _ _ _ _ args,0,h=>by simp only[Tk]at h;omega
 |.mk _ _ _ _ args,n+1,h=>by
  simp only[Tk]at h;simp only[lD];exact Gy args n aC
theorem Gy:∀(ps:List Pred)(n:Nat),Iy ps<=n->qU ps n=false
 |[],_,_=>rfl
 |p::ps,n,h=>by
  simp only[Iy]at h;simp only[qU,IB p n aC,Gy ps n aC,Bool.or_false]
end
def gF:Nat->Nat
 |0=>1
 |d+1=>1+3*gF d
structure Lg(d:Nat)(p:Pred):Prop where
 n:Wd p<=gF d
 d:Tk p<=d+1
theorem adZ:∀d,1<=gF d
 |0=>Nat.le_refl _
 |d+1=>by rw[gF];omega
theorem Lg.leaf(d:Nat){op cmp:Int}{a b:OV}:Lg d (.mk op cmp a b []):=⟨by simp[Wd,GB,adZ],by simp[Tk,Iy]⟩
theorem Lg.node{d:Nat}{op cmp:Int}{a b:OV}{ps:List Pred}(h:∀p∈ps,Lg d p)(hl:ps.length<=3):Lg (d+1) (.mk op cmp a b ps):=by
 have h1:∀l:List Pred,(∀p∈l,Lg d p)->GB l<=l.length*gF d/\Iy l<=d+1:=λl=>by
  induction l with
  |nil=>intro _;simp[GB,Iy]
  |cons p l ih=>
   intro hp;have h2:=ih λx hx=>hp x (List.mem_cons_of_mem _ hx);have h3:=hp p (List.mem_cons_self ..);have:=h3.n;have:=h3.d;simp only[GB,Iy,List.length_cons,Nat.add_mul,Nat.one_mul];omega
 have h2:=h1 ps h;have h3:ps.length*gF d<=3*gF d:=Nat.mul_le_mul_right _ hl;exact⟨by simp only[Wd,gF];omega,by simp only[Tk];omega⟩
mutual
def tO:Query->Nat
 |.mk _ _ _ _ _ _ _ _ args=>1+qV args
def qV:List Query->Nat
 |[]=>0
 |q::qs=>tO q+qV qs
end
mutual
def Cu:Query->Nat
 |.mk _ _ _ _ _ _ _ _ args=>1+zK args
def zK:List Query->Nat
 |[]=>0
 |q::qs=>max (Cu q) (zK qs)
end
mutual
def nA(c:Nat):Query->Nat
 |.mk op _ _ _ _ _ _ _ args=>if op=1 then c else if op=4 then wP c args else yV c args
def yV(c:Nat):List Query->Nat
 |[]=>0
 |q::qs=>nA c q+yV c qs
def wP(c:Nat):List Query->Nat
 |[]=>1
 |q::qs=>nA c q*wP c qs
end
mutual
theorem EH:∀(p:Query)(n:Int),mP p n<=n+tO p/\(mP p n<=24->mP p n=n+tO p)
 |.mk _ _ _ _ _ _ _ _ args,n=>by
  have:=Ie args (n+1);simp only[mP,tO];omega
theorem Ie:∀(ps:List Query)(n:Int),jR ps n<=n+qV ps/\(jR ps n<=24->jR ps n=n+qV ps)
 |[],n=>by simp[jR,qV]
 |p::ps,n=>by
  have h1:=EH p n;have h2:=Ie ps (mP p n);simp only[jR,qV];split<;>omega
end
mutual
theorem IA:∀(p:Query)(n:Nat),Cu p<=n->kN p n=false
 |.mk _ _ _ _ _ _ _ _ args,0,h=>by simp only[Cu]at h;omega
 |.mk _ _ _ _ _ _ _ _ args,n+1,h=>by
  simp only[Cu]at h;simp only[kN];exact Gw args n aC
theorem Gw:∀(ps:List Query)(n:Nat),zK ps<=n->nW ps n=false
 |[],_,_=>rfl
 |p::ps,n,h=>by
  simp only[zK]at h;simp only[nW,IA p n aC,Gw ps n aC,Bool.or_false]
end
theorem JT(h1:tO q<=24)(h2:Cu q<=8):j9 q=true:=by
 have:=(EH q 0).1;simp only[j9,Bool.and_eq_true,decide_eq_true_eq,IA q 8 h2,Bool.not_false,and_true];omega
theorem GP(h:j9 q=true):tO q<=24:=by
 simp only[j9,Bool.and_eq_true,decide_eq_true_eq]at h;have:=(EH q 0).2 h.1;omega
def gN:Nat->Nat
 |0=>3
 |d+1=>2+2*gN d
def gD:Nat->Nat
 |0=>3
 |d+1=>2+gD d
def gB:Nat->Nat
 |0=>4
 |d+1=>gB d*gB d
structure oO(n d b:Nat)(q:Query):Prop where
 n:tO q<=n
 d:Cu q<=d
 b:nA 4 q<=b
def LK(d:Nat)(q:Query):Prop:=oO (gN d) (gD d) (gB d) q
def zN:Nat->Query->Prop
 |0,q=>oO 1 1 4 q
 |d+1,q=>oO (1+2*gN d) (1+gD d) (gB d*gB d) q
theorem oO.mono{n d n' d' b':Nat}(x:oO n d b q)(h1:n<=n')(h2:d<=d')(h3:b<=b'):oO n' d' b' q:=⟨Nat.le_trans x.n h1,Nat.le_trans x.d h2,Nat.le_trans x.b h3⟩
theorem Av:∀d,3<=gN d/\3<=gD d/\4<=gB d
 |0=>by decide
 |d+1=>by
  obtain⟨h1,h2,h3⟩:=Av d;have:4*4<=gB d*gB d:=Nat.mul_le_mul h3 h3;simp only[gN,gD,gB];omega
theorem zN.arg:∀{d:Nat}{q:Query},zN d q->LK d q
 |0,_,x=>oO.mono x (by decide) (by decide) (by decide)
 |d+1,_,x=>oO.mono x (by simp only[gN];omega) (by simp only[gD];omega) (by simp only[gB];omega)
theorem oO.one{n d:Nat}(x:oO n d b q)(hb:4<=b){op:Int}{on:List (Int×Int)}:oO (n+1) (d+1) b (.mk op ta w co on gr od li [q]):=by
 obtain⟨h1,h2,h3⟩:=x;refine⟨by simp only[tO,qV];omega,by simp only[Cu,zK];omega,?_⟩;simp only[nA,wP,yV];split
 .exact hb
 .split<;>omega
theorem oO.two{n d n' d' b':Nat}{p:Query}(x:oO n d b q)(y:oO n' d' b' p)(hb:4<=b)(hb':4<=b'){op:Int}{on:List (Int×Int)}:oO (1+n+n') (1+max d d') (b*b') (.mk op ta w co on gr od li [q,p]):=by
 obtain⟨h1,h2,h3⟩:=x;obtain⟨h4,h5,h6⟩:=y;have e1:b*4<=b*b':=Nat.mul_le_mul_left _ hb';have e2:4*b'<=b*b':=Nat.mul_le_mul_right _ hb;have e3:nA 4 q*nA 4 p<=b*b':=Nat.mul_le_mul h3 h6;refine⟨by simp only[tO,qV];omega,by simp only[Cu,zK];omega,?_⟩;simp only[nA,wP,yV];split
 .omega
 .split
  .simpa using e3
  .omega
theorem oO.scan{on:List (Int×Int)}:oO 1 1 4 (.mk 1 ta w co on gr od li []):=⟨by simp[tO,qV],by simp[Cu,zK],by simp[nA]⟩
theorem zN.node{d:Nat}{op:Int}{on:List (Int×Int)}{args:List Query}(h:∀a∈args,LK d a)(hl:args.length<=2):zN (d+1) (.mk op ta w co on gr od li args):=by
 have h4:=(Av d).2.2;have e1:gB d*4<=gB d*gB d:=Nat.mul_le_mul_left _ h4
 match args,h,hl with
 |[],_,_=>exact⟨by simp only[tO,qV];omega,by simp only[Cu,zK];omega,by simp only[nA,wP,yV];split;omega;split<;>omega⟩
 |[q],h,_=>exact oO.mono (oO.one (h q (by simp)) h4) (by have:=(Av d).1;omega) aC aC
 |[q,p],h,_=>exact oO.mono (oO.two (h q (by simp)) (h p (by simp)) h4 h4) aC aC (Nat.le_refl _)
theorem zN.filter{d:Nat}(x:zN d q){op:Int}{on:List (Int×Int)}:LK d (.mk op ta w co on gr od li [q]):=by
 cases d with
 |zero=>exact oO.mono (oO.one x (by decide)) (by decide) (by decide) (by decide)
 |succ d=>
  have h4:=(Av d).2.2;have e1:gB d*4<=gB d*gB d:=Nat.mul_le_mul_left _ h4;exact oO.mono (oO.one x aC) (by simp only[gN];omega) (by simp only[gD];omega) (by simp only[gB];omega)
theorem LK.three(d:Nat)(x:oO 3 3 4 q):LK d q:=oO.mono x (Av d).1 (Av d).2.1 (Av d).2.2
theorem zN.mono{q:Query}:∀{d e:Nat},zN d q->d<=e->zN e q
 |d,0,x,h=>by have:d=0:=by omega
              subst this;exact x
 |d,e+1,x,h=>by
  by_cases h1:d=e+1
  .subst h1;exact x
  .have y:=zN.arg (x.mono (e:=e) aC);have h4:=(Av e).2.2;have e1:gB e*1<=gB e*gB e:=Nat.mul_le_mul_left _ aC;exact oO.mono y aC aC aC
noncomputable abbrev wU(a:Int):Value:=Value.int IntKind.u8 a
abbrev jU(a:Prop):Prop:=a->False
attribute [push_cast] wU jU
def QK(cb:Nat)(n:Int)(m:MH)(h:PH)(K:CV->MH->PH->Prop):Prop:=
  lA m h cb 1 (λy=>∃(y1:Sl),aM m h cb 0 (aR y1)/\gQ y (aG y1) (K (fK 0) m h) (bD n 1 (K (fK 0) m h) (lA m h cb 1 (λy2=>eX (λc E=>aA (oX m cb (dV c E 0)) (1<c.size) (∀(m1:MH),bE m m1 cb (splice c.toList 1 (cK (eB (y2+1)))) E->∃(y3:Sl),aM m1 h cb 0 (aR y3)/\lA m1 h cb 1 (λy4=>aT (λb o=>aH (aU y3.a b o) (0<=eB (y4-1)) (eB (y4-1)<aG y3) (∃(y5:UInt8),aA (aM m1 h b (fL o (eB (y4-1)) 1) (j6 (wU (tH y5)))) (jU (n=0)) (K (fK (Int.tmod (eB (tH y5)) n)) m1 h))))))))))
theorem afZ(cb:Nat)(n:Int)(m:MH)(h:PH)(K:CV->MH->PH->Prop):QK cb n m h K=(zJ (ctx [] [] [] [] false) Tryz.f15 (cQ Tryz.f15) (entry 40 [.val (.pointer (some ⟨cb,0,none⟩)),.val (.int .i64 n)] m h) K):=by kernel_rfl
def ZI:Vc.Spec:=λcvs m h K=>∃(cb:Nat)(n:Int)(r:List UInt8),cvs=[.val (.pointer (some ⟨cb,0,none⟩)),.val (.int .i64 n)]/\TH m h cb r/\
 ∀m',aL m m' cb->TH m' h cb (Q6 n r).2->K (.val (.int .i64 (Q6 n r).1)) m' h
theorem Md:Sound Tryz.prog 15 ZI:=by
 refine fA (fn:=Tryz.f15) (c:=cQ Tryz.f15) Tryz.func15 rfl (by decide) ?_;rintro cvs m h K ⟨cb,n,r,rfl,⟨s,cs,k,hm,hrow,hk,hlen,rfl⟩,hK⟩;refine⟨ctx [] [] [] [] false,rfl,aF,?_⟩;show zJ (ctx [] [] [] [] false) Tryz.f15 (cQ Tryz.f15) (entry 40 [.val (.pointer (some ⟨cb,0,none⟩)),.val (.int .i64 n)] m h) K;rw[<-afZ];dsimp only[QK,push_cast];have hsl:s.len=cs.length:=by have:=hrow.len;simpa[bM]using this
 refine⟨k,.of_m hm rfl,s,.of_m hm rfl,aE (λhge=>?_) (λhlt=>aE (λhn=>?_) (λhn=>?_))⟩
 .have hd:cs.drop k=[]:=by simp;omega
  rw[hd]at hK;exact hK m ⟨λ_ _=>rfl⟩ ⟨s,cs,k,hm,hrow,hk,hlen,by rw[hd];rfl⟩
 .have hk':k<cs.length:=by omega
  have hd:cs.drop k=cs[k]::cs.drop (k+1):=List.drop_eq_getElem_cons hk';rw[hd]at hK;simp only[Q6,if_pos hn]at hK;refine hK m ⟨λ_ _=>rfl⟩ ⟨s,cs,k,hm,hrow,hk,hlen,hd.symm⟩
 .have hk':k<cs.length:=by omega
  have hd:cs.drop k=cs[k]::cs.drop (k+1):=List.drop_eq_getElem_cons hk';rw[hd]at hK;simp only[Q6,if_neg hn]at hK;have hw:IntKind.i64.wrap ((k:Int)+1)=((k+1:Nat):Int):=by rw[dX]<;>omega
  have hw2:IntKind.i64.wrap (((k+1:Nat):Int)-1)=(k:Int):=by rw[dX]<;>omega
  refine⟨k,.of_m hm rfl,_,_,⟨hm⟩,by simp,λm' hu=>?_⟩;have hm':=hu.at_;rw[hw]at hm';simp only[splice]at hm';obtain hnil|⟨b,o,ha,hrd⟩:=hrow.row
  .exfalso;have:=congrArg List.length hnil;simp[bM]at this;subst this;simp at hk'
  refine⟨s,.of_m hm' rfl,((k+1:Nat):Int),.of_m hm' rfl,b,o,ha,?_⟩;rw[hw2];refine⟨aC,aC,cs[k],.imm ?_,aC,?_⟩
  .have:=hrd k [.int .u8 cs[k].toNat] (by simp[bM,hk']);simpa using this
  .have hlt:cs[k].toNat<256:=cs[k].toNat_lt;rw[dX aC aC,Int.tmod_eq_emod_of_nonneg aC];refine hK m' ⟨hu.other⟩ ⟨s,cs,k+1,hm',hrow,aC,hlen,rfl⟩
def aJ(m:MH)(h:PH)(cb:Nat):Prop:=∃r,TH m h cb r
theorem aJ.mono(x:aJ m h cb)(le:PH.le h h'):aJ m h' cb:=by
 obtain⟨r,s,cs,k,h1,h2,h3⟩:=x;exact⟨r,s,cs,k,h1,h2.mono le,h3⟩
theorem aL.refl(m:MH)(cb:Nat):aL m m cb:=⟨λ_ _=>rfl⟩
theorem aL.trans{m'':MH}(a:aL m m' cb)(b:aL m' m'' cb):aL m m'' cb:=⟨λc hc=>(b.other c hc).trans (a.other c hc)⟩
def OJ(n:Int):Prop:= -9223372036854775808<=n/\n<=9223372036854775807
structure IL(v:VV):Prop where
 int_:OJ v.int
 text_:v.text.size<=64
def ZH(k:Int):Prop:=k=3\/k=4\/k=5
def UJ(k:Int)(v:VV):Prop:=ZH k->kG v=true/\v.kind=k
def E9:Vc.Spec:=λcvs m h K=>∃cb n,cvs=[cP cb,cI n]/\aJ m h cb/\∀k m',0<=k->(k<n\/k=0)->aL m m' cb->aJ m' h cb->K (cI k) m' h
def Ls:Vc.Spec:=λcvs m h K=>∃cb n,cvs=[cP cb,cI n]/\0<=n/\n<=1000/\aJ m h cb/\∀r m',aL m m' cb->aJ m' h cb->K (cB r) m' h
def UE:Vc.Spec:=λcvs m h K=>∃cb,cvs=[cP cb]/\aJ m h cb/\∀k m',OJ k->aL m m' cb->aJ m' h cb->K (cI k) m' h
def ZS:Vc.Spec:=λcvs m h K=>∃cb,cvs=[cP cb]/\aJ m h cb/\∀t m',t.size<=64->aL m m' cb->aJ m' h cb->K (Ot t) m' h
def OD:Vc.Spec:=λcvs m h K=>∃cb kind,cvs=[cP cb,cI kind]/\aJ m h cb/\∀v m',IL v->UJ kind v->aL m m' cb->aJ m' h cb->K (aV v) m' h
theorem Gi:Sound Tryz.prog 15 E9:=by
 refine⟨Md.1,λcvs vs m h w K hS hp=>Md.2 cvs vs m h w K ?_ hp⟩;obtain⟨cb,n,rfl,⟨r,hr⟩,hK⟩:=hS;refine⟨cb,n,r,rfl,hr,λm' ho hc=>hK _ m' ?_ ?_ ho ⟨_,hc⟩⟩
 .cases r with
  |nil=>simp[Q6]
  |cons b r=>
   simp only[Q6];split
   .simp
   .exact Int.emod_nonneg _ aC
 .cases r with
  |nil=>simp[Q6]
  |cons b r=>
   simp only[Q6];split
   .simp
   .exact .inl (Int.emod_lt_of_pos _ aC)
noncomputable def Xz(h:PH):Ctx:=
 dN [(15,E9)] [(18,{A:=Nat×ByteArray×MH,st:=λ⟨i,t,m⟩=>cE 37 38 [(3,vv (.string t)),(4,iv i)] [] m h}),(23,{A:=Nat×ByteArray×MH,st:=λ⟨i,t,m⟩=>cE 37 38 [(3,vv (.string t)),(5,iv i)] [] m h})] [] [] false
abbrev L4(a:Nat->Int->Prop):Prop:=∃(x:Nat)(x1:Int),a x x1
abbrev bZ(a:Nat)(b:Int)(c:MH)(d:PH)(e:Int)(g:Nat->Int->MH->Prop):Prop:=L4 (λx x1=>aA (bU (rX a 0) b=bU (rX x 0) x1) (aJ c d x) (∀(x2:Int)(x3:MH),bC (e<=x2) (x2<x1\/x2=e) (g x x2 x3)))
attribute [push_cast] L4 bZ
def QI(cb:Nat)(n:Int)(m:MH)(h:PH)(K:CV->MH->PH->Prop):Prop:=
  bZ cb n m h 0 (λc k m1=>bC (aL m m1 c) (aJ m1 h c) (K (A7 (k==eB (n-1))) m1 h))
def M6(cb:Nat)(m:MH)(h:PH)(K:CV->MH->PH->Prop):Prop:=
  bZ cb 12 m h 0 (λc k m1=>bC (aL m m1 c) (aJ m1 h c) (dH (k==9) (K (fK (Int.negSucc 0)) m1 h) (k==10) (K (fK 9223372036854775807) m1 h) (eJ k 11 (K (fK (Int.negSucc 9223372036854775807)) m1 h) (jU ((4:Int)=0)/\K (fK (Int.tmod k 4)) m1 h))))
noncomputable abbrev eK(a:Nat)(b:List UInt8):List UInt8:=OfNat.ofNat a::b
noncomputable abbrev rK(a:Nat):List UInt8:=eK a []
attribute [push_cast] eK rK
def M5(cb:Nat)(m:MH)(h:PH)(K:CV->MH->PH->Prop):Prop:=
  bZ cb 10 m h 0 (λc k m1=>bC (aL m m1 c) (aJ m1 h c) (dH (k==0) (K (jW (ByteArray.mk (Array.mk (rK 97)))) m1 h) (k==1) (K (jW (ByteArray.mk (Array.mk (rK 97)))) m1 h) (dH (k==2) (K (jW (ByteArray.mk (Array.mk (rK 97)))) m1 h) (k==3) (K (jW (ByteArray.mk (Array.mk (rK 98)))) m1 h) (dH (k==4) (K (jW (ByteArray.mk (Array.mk (rK 98)))) m1 h) (k==5) (K (CV.val TL) m1 h) (dH (k==6) (K (jW (ByteArray.mk (Array.mk (eK 97 (eK 0 []))))) m1 h) (k==7) (K (jW (ByteArray.mk (Array.mk (rK 255)))) m1 h) (eJ k 8 (∃(I:Nat×ByteArray×MH->Prop)(m2:Nat×ByteArray×MH->Nat),(∃(x:Nat×ByteArray×MH),aA (I x) (SV.at ZC=SV.at (Oz x.2.1)) (aA (bG x.1) (m1=x.2.2) (dC h h)))/\∀(x:Nat×ByteArray×MH),I x->bD (↑x.1:Int) 64 (x.2.1.size<
 9223372036854775807/\∃(x1:Nat×ByteArray×MH),aA (I x1) (m2 x1<m2 x) (aA (SV.at (Oz (x.2.1++ByteArray.mk (Array.mk (rK 255))))=SV.at (Oz x1.2.1)) (gS (aW x.1 1)=bX x1.1) (eH x.2.2 x1.2.2 h h))) (K (jW x.2.1) x.2.2 h)) (∃(I:Nat×ByteArray×MH->Prop)(m2:Nat×ByteArray×MH->Nat),(∃(x:Nat×ByteArray×MH),aA (I x) (SV.at ZC=SV.at (Oz x.2.1)) (aA (bG x.1) (m1=x.2.2) (dC h h)))/\∀(x:Nat×ByteArray×MH),I x->bD (↑x.1:Int) 64 (x.2.1.size<9223372036854775807/\∃(x1:Nat×ByteArray×MH),aA (I x1) (m2 x1<m2 x) (aA (SV.at (Oz (x.2.1++ByteArray.mk (Array.mk (rK 98))))=SV.at (Oz x1.2.1)) (gS (aW x.1 1)=bX x1.1) (eH x.2.2 x1.2.2 h h))) (K (jW x.2.1) x.2.2 h))))))))
abbrev jG(a:MH)(b:PH)(c:Nat)(d:Prop):Prop:=aJ a b c->d
attribute [push_cast] jG
def Qa(cb:Nat)(kind:Int)(m:MH)(h:PH)(K:CV->MH->PH->Prop):Prop:=
  dH (kind==3) (bZ cb 2 m h 0 (λc k m1=>bC (aL m m1 c) (aJ m1 h c) (K (jM (aY (eW kind) (eW k) zC)) m1 h))) (kind==4) (∃(c:Nat),aA (fH (rX cb 0) (rX c 0)) (aJ m h c) (∀(k:Int)(m1:MH),bC (OJ k) (aL m m1 c) (jG m1 h c (K (jM (aY (eW kind) (eW k) zC)) m1 h)))) (∃(c:Nat),aA (fH (rX cb 0) (rX c 0)) (aJ m h c) (∀(t:ByteArray)(m1:MH),bC (t.size<=64) (aL m m1 c) (jG m1 h c (K (jM (aY (eW 5) dA (j6 (Value.string t)))) m1 h))))
theorem afX{n:Int}(hc:aJ m h cb)(hK:∀r m',aL m m' cb->aJ m' h cb->K (cB r) m' h):QI cb n m h K:=
 ⟨cb,n,rfl,hc,λ_ m' _ _ ho hc'=>hK _ m' ho hc'⟩
theorem EI:CM ⟨#[]⟩=true:=by simp[CM,ByteArray.toList_eq]
theorem abX{k:Int}(h0:0<=k)(h1:k<2\/k=0):kG ⟨3,k,⟨#[]⟩⟩=true:=by
 have:k=0\/k=1:=by omega
 rcases this with rfl|rfl<;>simp[kG,EI]
theorem Ws(k:Int):kG ⟨4,k,⟨#[]⟩⟩=true:=by simp[kG,EI]
theorem abQ{t:ByteArray}(h:t.size<=64):kG ⟨5,0,t⟩=true:=by
 simp[kG];omega
theorem yP:Sound Tryz.prog 16 Ls:=by
 refine iJ Tryz.func16 ?_;rintro cvs m h K ⟨cb,n,rfl,_,_,hc,hK⟩;refine⟨dN [(15,E9)] [] [] [] false,rfl,aD Gi aF,QI cb n m h K,by kernel_rfl,?_⟩;exact afX hc hK
theorem Td:Sound Tryz.prog 108 UE:=by
 refine iJ Tryz.func108 ?_;rintro cvs m h K ⟨cb,rfl,hc,hK⟩;refine⟨dN [(15,E9)] [] [] [] false,rfl,aD Gi aF,M6 cb m h K,by kernel_rfl,?_⟩;dsimp only[M6,push_cast];refine⟨cb,12,rfl,hc,λk m' h0 h1 ho hc'=>aB (λ_=>hK _ m' ⟨aC,aC⟩ ho hc') (λ_=>aB (λ_=>hK _ m' ⟨aC,aC⟩ ho hc') (λ_=>aB (λ_=>hK _ m' ⟨aC,aC⟩ ho hc') (λ_=>⟨aC,hK _ m' ?_ ho hc'⟩)))⟩;rw[Int.tmod_eq_emod_of_nonneg h0];exact⟨aC,aC⟩
theorem Tc:Sound Tryz.prog 109 ZS:=by
 refine iJ Tryz.func109 ?_;rintro cvs m h K ⟨cb,rfl,hc,hK⟩;refine⟨Xz h,rfl,aD Gi aF,M5 cb m h K,by kernel_rfl,?_⟩;dsimp only[M5,push_cast];refine⟨cb,10,rfl,hc,λk m' h0 h1 ho hc'=>?_⟩;refine aB (λ_=>hK _ m' (by decide) ho hc') (λ_=>aB (λ_=>hK _ m' (by decide) ho hc') (λ_=>aB (λ_=>hK _ m' (by decide) ho hc') (λ_=>aB (λ_=>hK _ m' (by decide) ho hc') (λ_=>aB (λ_=>hK _ m' (by decide) ho hc') (λ_=>aB (λ_=>hK _ m' (by decide) ho hc') (λ_=>aB (λ_=>hK _ m' (by decide) ho hc') (λ_=>aB (λ_=>hK _ m' (by decide) ho hc') (λ_=>aB (λ_=>?_) (λ_=>?_)))))))))
 all_goals
  refine⟨λ⟨i,t,mx⟩=>mx=m'/\i<=64/\t.size=i,λ⟨i,_,_⟩=>64-i,⟨(0,⟨#[]⟩,m'),⟨rfl,aC,rfl⟩,MT⟩,?_⟩;rintro⟨i,t,m'⟩ ⟨rfl,hi,ht⟩;dsimp only;refine aE (λhlt=>⟨?_,(i+1,_,m'),⟨rfl,aC,?_⟩,by show 64-(i+1)<64-i;omega,MT⟩) (λhge=>hK t m' aC ho hc')
  .rw[ht];show i+1<=_;omega
  .rw[ByteArray.size_append,ht];rfl
theorem Hj:Sound Tryz.prog 77 OD:=by
 refine iJ Tryz.func77 ?_;rintro cvs m h K ⟨cb,kind,rfl,hc,hK⟩;refine⟨dN [(15,E9),(108,UE),(109,ZS)] [] [] [] false,rfl,aD Gi (aD Td (aD Tc aF)),Qa cb kind m h K,by kernel_rfl,?_⟩;dsimp only[Qa,push_cast];refine aB (λe=>⟨cb,2,rfl,hc,λk m' h0 h1 ho hc'=>hK ⟨kind,k,⟨#[]⟩⟩ m' ⟨⟨by show-9223372036854775808<=k;omega,by show k<=9223372036854775807;omega⟩,by show(ByteArray.mk #[]).size<=64;decide⟩ (λ_=>?_) ho hc'⟩) (λe1=>aB (λe=>⟨cb,rfl,hc,λk m' hk ho hc'=>hK ⟨kind,k,⟨#[]⟩⟩ m' ⟨hk,by show(ByteArray.mk #[]).size<=64;decide⟩ (λ_=>?_) ho hc'⟩) (λe2=>⟨cb,rfl,hc,λt m' ht ho hc'=>hK ⟨5,0,t⟩ m' ⟨⟨by simp,by simp⟩,ht⟩ (λhk=>?_) ho hc'⟩))
 .have e:kind=3:=by simpa using e
  subst e;exact⟨abX h0 h1,rfl⟩
 .have e:kind=4:=by simpa using e
  subst e;exact⟨Ws k,rfl⟩
 .have e1:kind≠3:=by simpa using e1
  have e2:kind≠4:=by simpa using e2
  exact⟨abQ ht,by rcases hk with hk|hk|hk;exact absurd hk e1;exact absurd hk e2;exact hk.symm⟩
mutual
def GJ:Pred->Prop
 |.mk _ _ l r args=>IL l.value/\IL r.value/\Lk args
def Lk:List Pred->Prop
 |[]=>True
 |p::ps=>GJ p/\Lk ps
end
theorem Lj:∀{l:List Pred},Lk l↔∀p∈l,GJ p
 |[]=>by simp[Lk]
 |p::ps=>by simp[Lk,Lj (l:=ps)]
theorem nZ:IL zeroV:=⟨⟨by decide,by decide⟩,by decide⟩
structure Rg(cols params:List Int)(kind:Int)(o:OV):Prop where
 val:IL o.value
 kind:ZH kind->kindOf cols params o=kind
def HZ(l:List Int):Prop:=∀k∈l,ZH k
structure PW(cols params:List Int)(d:Nat)(p:Pred):Prop where
 vals:GJ p
 valid:HZ cols->jT cols params p=true
 siz:Lg d p
def Rf:Vc.Spec:=λcvs m h K=>∃cb s t kind cols params,cvs=[cP cb,cS s,cS t,cI kind]/\aJ m h cb/\Ints h s cols/\Ints h t params/\cols.length<=1000/\params.length<=1000/\∀o m',Rg cols params kind o->aL m m' cb->aJ m' h cb->K (aO o) m' h
def KP(K:CV->MH->PH->Prop)(m:MH)(h:PH)(cb:Nat)(R:Pred->Prop):Prop:=∀v p m' h',PH.le h h'->fF h' p v->R p->aL m m' cb->aJ m' h' cb->K (aP v) m' h'
def XO(N:Nat):Vc.Spec:=λcvs m h K=>∃cb s t cols params,∃deep:Nat,cvs=[cP cb,cS s,cS t,cI deep]/\aJ m h cb/\Ints h s cols/\Ints h t params/\cols.length<=1000/\params.length<=1000/\deep<N/\deep<=1000/\KP K m h cb (PW cols params deep)
structure wZ(cols params:List Int)(d:Nat)(p:Pred):Prop where
 vals:GJ p
 valid:d<=2->HZ cols->HZ params->iS cols params p=0
def Cj:Vc.Spec:=λcvs m h K=>∃cb s t cols params,∃deep:Nat,cvs=[cP cb,cS s,cS t,cI deep]/\aJ m h cb/\Ints h s cols/\Ints h t params/\cols.length<=1000/\params.length<=1000/\deep<=1000/\KP K m h cb (wZ cols params deep)
def pv(b:Nat):SV:=vv (.pointer (some ⟨b,0,none⟩))
noncomputable def YF(cb:Nat)(s t:Sl)(kind:Int)(m:MH)(h:PH):Ctx:=
 dN [(15,E9),(77,OD)] [(3,{A:=Nat×List OV,st:=λ⟨i,os⟩=>cE 64 68 [(0,pv cb),(2,sv t),(3,iv kind),(8,.at (.ptr 8 0)),(9,.at (.lst 29)),(15,sv s),(16,iv s.len),(17,iv i)] [(8,.cells 29 (eM.enc.map .val)),(29,.lst 29 5 (os.map OV.enc))] m h}),
  (9,{A:=Nat×List OV,st:=λ⟨i,os⟩=>cE 64 68 [(0,pv cb),(3,iv kind),(8,.at (.ptr 8 0)),(9,.at (.lst 29)),(31,sv t),(32,iv t.len),(33,iv i)] [(8,.cells 29 (eM.enc.map .val)),(29,.lst 29 5 (os.map OV.enc))] m h})] [] [] false
noncomputable def YT(N:Nat)(cb:Nat)(s t:Sl)(deep:Nat)(h0:PH):Ctx:=
 dN [(15,E9),(16,Ls),(96,Rf),(77,OD),(68,XO N)] [(18,{A:=Int×Int×List PV×MH×PH,st:=λ⟨op,n,us,m,h⟩=>cE 107 111 [(0,pv cb),(1,sv s),(2,sv t),(3,iv deep),(8,.at (.ptr 8 0)),(12,.at (.ptr 12 0)),(13,iv n)] [(8,.cells 32 (gT.enc.map .val)),(12,.cells 32 (((⟨op,0,eM,eM,⟨none,0,0⟩⟩:PV).enc.take 12).map .val++[.lst 104])),(104,.lst 32 13 (us.map PV.enc))] m h})] [(3,{A:=Int×Bool×MH,st:=λ⟨k,b,m⟩=>cE 107 111 [(0,pv cb),(1,sv s),(2,sv t),(3,iv deep),(8,.at (.ptr 8 0)),(9,iv k),(16,bv b)] [(8,.cells 32 (gT.enc.map .val))] m h0}),
  (5,{A:=Int×Bool×MH,st:=λ⟨k,b,m⟩=>cE 107 111 [(0,pv cb),(1,sv s),(2,sv t),(3,iv deep),(8,.at (.ptr 8 0)),(9,iv k),(27,bv b)] [(8,.cells 32 (gT.enc.map .val))] m h0}),
  (8,{A:=Int×MH,st:=λ⟨k,m⟩=>cE 107 111 [(0,pv cb),(1,sv s),(2,sv t),(8,.at (.ptr 8 0)),(10,iv k)] [(8,.cells 32 (gT.enc.map .val))] m h0}),
  (9,{A:=PV×Int×MH,st:=λ⟨p,k,m⟩=>cE 107 111 [(0,pv cb),(1,sv s),(2,sv t),(8,.at (.ptr 8 0)),(10,iv k),(11,.at (.ptr 11 0))] [(8,.cells 32 (gT.enc.map .val)),(11,.cells 32 (p.enc.map .val))] m h0}),
  (11,{A:=PV×MH,st:=λ⟨p,m⟩=>cE 107 111 [(0,pv cb),(8,.at (.ptr 8 0)),(11,.at (.ptr 11 0))] [(8,.cells 32 (gT.enc.map .val)),(11,.cells 32 (p.enc.map .val))] m h0}),
  (13,{A:=PV×MH,st:=λ⟨p,m⟩=>cE 107 111 [(8,.at (.ptr 8 0)),(11,.at (.ptr 11 0))] [(8,.cells 32 (gT.enc.map .val)),(11,.cells 32 (p.enc.map .val))] m h0})] [] false
noncomputable abbrev AM(a:Int)(b:List At):List At:=gR (hX a) (hX 0) (gR (hX 0) (hX 0) b)
abbrev BG:Prop:=eQ (oQ 29 (AM 0 (mF ZC)))
noncomputable abbrev oE(a:Nat×List OV):List (List Value):=List.map OV.enc a.2
abbrev FZ(a b:Nat×List OV):Prop:=gS (aW a.1 1)=bX b.1
abbrev BO(a:Nat)(b:Int)(c:Nat->Option Obj)(d:Nat->Nat->Option Value)(e:VV->MH->Prop):Prop:=L4 (λx x1=>aA (bU (rX a 0) b=bU (rX x 0) x1) (aJ c d x) (∀(x2:VV)(x3:MH),bC (IL x2) (UJ x1 x2) (bC (aL c x3 x) (aJ x3 d x) (e x2 x3))))
attribute [push_cast] AM BG oE FZ BO
def PY(cb:Nat)(s t:Sl)(kind:Int)(m:MH)(h:PH)(K:CV->MH->PH->Prop):Prop:=
  ∃(I:Nat×List OV->Prop)(m1:Nat×List OV->Nat),(∃(x:Nat×List OV),aA (I x) (cV cb) (aA (aK t) (kW kind) (aA gW (eL 29) (aA (aK s) (bK s) (aA (bG x.1) BG (aA (uJ 29 5 (oE x)) (m=m) (dC h h)))))))/\∀(x:Nat×List OV),I x->bD (↑x.1:Int) (aG s) (aT (λb o=>aH (aU s.a b o) (0<=(↑x.1:Int)) ((↑x.1:Int)<aG s) (∃(y:Int),aM m h b (bB o x.1 1) (cK y)/\eJ y kind (nM (oE x) 48 (∃(x1:Nat×List OV),aA (I x1) (m1 x1<m1 x) (aA (cV cb) (aK t) (aA (kW kind) gW (aA (eL 29) (aK s) (aA (bK s) (FZ x x1) (aA BG (dJ 29 5 (oE x++bL (aY (eW 1) (eW (↑x.1:Int)) (aY dA dA zC)))=dJ 29 5 (oE x1)) (eH m m h h)))))))) (∃(x1:Nat×List OV),aA (I x1) (m1 x1<m1 x) (aA (cV cb)
 (aK t) (aA (kW kind) gW (aA (eL 29) (aK s) (aA (bK s) (FZ x x1) (aA BG (dJ 29 5 (oE x)=dJ 29 5 (oE x1)) (eH m m h h)))))))))) (∃(I1:Nat×List OV->Prop)(m2:Nat×List OV->Nat),(∃(x1:Nat×List OV),aA (I1 x1) (cV cb) (aA (kW kind) gW (aA (eL 29) (aK t) (aA (bK t) (bG x1.1) (aA BG (dJ 29 5 (oE x)=dJ 29 5 (oE x1)) (aA (m=m) (h=h) True))))))/\∀(x1:Nat×List OV),I1 x1->bD (↑x1.1:Int) (aG t) (aT (λb o=>aH (aU t.a b o) (0<=(↑x1.1:Int)) ((↑x1.1:Int)<aG t) (∃(y:Int),aM m h b (bB o x1.1 1) (cK y)/\eJ y kind (nM (oE x1) 48 (∃(x2:Nat×List OV),aA (I1 x2) (m2 x2<m2 x1) (aA (cV cb) (kW kind) (aA gW (eL 29) (aA (aK t) (bK t) (aA (FZ x1 x2) BG (aA (dJ 29 5
 (oE x1++bL (aY (eW 2) (eW (↑x1.1:Int)) (aY dA dA zC)))=dJ 29 5 (oE x2)) (m=m) (dC h h)))))))) (∃(x2:Nat×List OV),aA (I1 x2) (m2 x2<m2 x1) (aA (cV cb) (kW kind) (aA gW (eL 29) (aA (aK t) (bK t) (aA (FZ x1 x2) BG (aA (dJ 29 5 (oE x1)=dJ 29 5 (oE x2)) (m=m) (dC h h)))))))))) (bZ cb (aW (oE x1).length 1) m h 0 (λc k m3=>bC (aL m m3 c) (aJ m3 h c) (bD k (kJ (oE x1)) (aA (cN k) (k<kJ (oE x1)) (∃(e:List Value),tG (oE x1) k.toNat e/\∃(y:OV),Dv 5 e y.enc/\K (jM y.enc) m3 h)) (BO cb kind m3 h (λv m4=>K (jM (aY (eW 3) dA (aY (eW v.kind) (eW v.int) (j6 (Value.string v.text))))) m4 h))))))
abbrev fZ(a:Nat)(b:Int)(c:MH)(d:PH)(e:Bool->MH->Prop):Prop:=L4 (λx x1=>aA (bU (rX a 0) b=bU (rX x 0) x1) (cN x1) (aA (x1<=1000) (aJ c d x) (∀(x2:Bool)(x3:MH),bC (aL c x3 x) (aJ x3 d x) (e x2 x3))))
abbrev tD:Prop:=eQ (oQ 32 zP)
abbrev FJ(a:Int×Bool×MH->Prop)(b:Nat)(c d:Sl)(e:Nat)(g:Int)(i:(Int×Bool×MH)->Prop)(j:Nat->Option Obj)(k:PH):Prop:=∃(x:Int×Bool×MH),aA (a x) (cV b) (aA (aK c) (aK d) (aA (eQ (bX e)) gW (aA (cZ g x.1) (i x) (dE tD j x.2.2 k k))))
abbrev mX(a:Nat):Prop:=a<=1000
abbrev gL(a:List Int):Prop:=mX a.length
noncomputable abbrev DS(a:OV):At:=Oz a.value.text
abbrev yF(a:Sl->Sl->(List Int)->(List Int)->Nat->Prop):Prop:=kV (λx x1=>qK (λx2 x3=>∃(x4:Nat),a x x1 x2 x3 x4))
noncomputable abbrev vA(a:Nat)(b c:Sl)(d:Nat):List CV:=rX a 0::dP b (bU (kU c) (↑d:Int))
abbrev BD(a:PV->Pred->Prop):Prop:=∀(x:PV)(x1:Pred),a x x1
abbrev eA(a:MH->PH->Prop):Prop:=∀(x:MH)(x1:PH),a x x1
abbrev FK(a:List CV)(b:MH)(c:PH)(d:Nat)(e:PV->MH->PH->Prop):Prop:=∃(x:Nat),yF (λx1 x2 x3 x4 x5=>aA (a=vA x x1 x2 x5) (aJ b c x) (aA (Ints c x1 x3) (Ints c x2 x4) (aA (gL x3) (gL x4) (aA (x5<d) (mX x5) (BD (λx6 x7=>eA (λx8 x9=>dZ c x9 (fF x9 x7 x6) (bC (PW x3 x4 x5 x7) (aL b x8 x) (jG x8 x9 x (e x6 x8 x9))))))))))
noncomputable abbrev EP(a:Int)(b:List At):List At:=gR ZC (hX a) (gR (hX a) (hX a) (gR (hX a) ZC b))
noncomputable abbrev DR(a:Int×Int×List PV×MH×PH):List (List Value):=List.map PV.enc a.2.2.1
abbrev cO(a:Nat->Option Obj)(b:MH×PH):Prop:=a=b.1
noncomputable abbrev yH(a:Int×Int×List PV×MH×PH):MH×PH:=a.2.2.2
abbrev dO(a:Nat->Nat->Option Value)(b:MH×PH):Prop:=a=b.2
abbrev kI(a:Nat->Nat->Option Value)(b:MH×PH):Prop:=dO a b/\True
attribute [push_cast] fZ tD FJ mX gL DS yF vA BD eA FK EP DR cO yH dO kI
def Qe(N:Nat)(cb:Nat)(s t:Sl)(deep:Nat)(m:MH)(h:PH)(K:CV->MH->PH->Prop):Prop:=
  bZ cb 9 m h 0 (λc k m1=>bC (aL m m1 c) (aJ m1 h c) (∃(I:Int×Bool×MH->Prop),eJ k 0 (fZ cb 2 m1 h (λr m2=>FJ I cb s t deep k (λx=>gH r x.2.1) m2 h)) (FJ I cb s t deep k (λx=>AH x.2.1) m1 h)/\∀(x:Int×Bool×MH),gU (I x) x.2.1 (bZ cb 2 x.2.2 h 0 (λc1 k1 m2=>bC (aL x.2.2 m2 c1) (aJ m2 h c1) (K (jM (oZ (eW (eB (1+k1))) TL (aY dA dA (aY dA TL iQ)))) m2 h))) (∃(I1:Int×Bool×MH->Prop),bD x.1 6 (FJ I1 cb s t deep x.1 (λx1=>uK x1.2.1) x.2.2 h) (FJ I1 cb s t deep x.1 (λx1=>gH (decide ((↑deep:Int)<1)) x1.2.1) x.2.2 h)/\∀(x1:Int×Bool×MH),I1 x1->dH x1.2.1 (∃(I2:Int×MH->Prop),fC (aG s) 0 (bZ cb (aG s) x1.2.2 h 0 (λc1 k1 m2=>bC (aL x1.2.2 m2 c1) (aJ m2 h c1) (aT (λb o=>aH
 (aU s.a b o) (0<=k1) (k1<aG s) (∃(y:Int),aM m2 h b (fL o k1 1) (cK y)/\∃(x2:Int×MH),aA (I2 x2) (cV cb) (aA (aK s) (aK t) (aA gW (cZ y x2.1) (aA tD (m2=x2.2) (dC h h))))))))) (∃(x2:Int×MH),aA (I2 x2) (cV cb) (aA (aK s) (aK t) (aA gW (cZ 4 x2.1) (aA tD (x1.2.2=x2.2) (dC h h)))))/\∀(x2:Int×MH),I2 x2->∃(I3:PV×Int×MH->Prop),bZ cb 6 x2.2 h 0 (λc1 k1 m2=>bC (aL x2.2 m2 c1) (aJ m2 h c1) (∃(c2:Nat),kV (λs1 t1=>∃(k2:Int),qK (λc3 p=>aA (rX cb 0::dP s (bU (kU t) x2.1)=rX c2 0::dP s1 (bU (kU t1) k2)) (aJ m2 h c2) (aA (Ints h s1 c3) (Ints h t1 p) (aA (gL c3) (gL p) (∀(o:OV)(m3:MH),bC (Rg c3 p k2 o) (aL m2 m3 c2) (jG m3 h c2 (BO cb x2.1 m3 h (λv m4=>∃(x3:PV×
 Int×MH),aA (I3 x3) (cV cb) (aA (aK s) (aK t) (aA gW (cZ x2.1 x3.2.1) (aA (eP 11) tD (dE (oQ 32 (gR (hX 3) (hX (eB (1+k1))) (gR (hX o.kind) (hX o.index) (gR (hX (qO o)) (hX o.value.int) (gR (DS o) (hX 3) (gR (hX 0) (hX v.kind) (gR (hX v.int) (Oz v.text) (mF OA)))))))=tB 32 x3.1.enc) m4 x3.2.2 h h))))))))))))))/\∀(x3:PV×Int×MH),I3 x3->∃(I4:PV×MH->Prop),fZ cb 3 x3.2.2 h (λr m2=>branch r (∃(c1:Nat),kV (λs1 t1=>∃(k1:Int),qK (λc2 p=>aA (rX cb 0::dP s (bU (kU t) x3.2.1)=rX c1 0::dP s1 (bU (kU t1) k1)) (aJ m2 h c1) (aA (Ints h s1 c2) (Ints h t1 p) (aA (gL c2) (gL p) (∀(o:OV)(m3:MH),bC (Rg c2 p k1 o) (aL m2 m3 c1) (jG m3 h c1 (∃(x4:PV×MH),aA (I4 x4) (cV cb) (aA gW (eP 11) (aA tD
 (oQ 32 (gR (hX x3.1.op) (hX x3.1.cmp) (gR (hX x3.1.left.kind) (hX x3.1.left.index) (gR (hX (qO x3.1.left)) (hX x3.1.left.value.int) (gR (DS x3.1.left) (hX o.kind) (gR (hX o.index) (hX (qO o)) (gR (hX o.value.int) (DS o) (w8 x3.1.args)))))))=tB 32 x4.1.enc) (aA (m3=x4.2) (h=h) True))))))))))) (∃(x4:PV×MH),aA (I4 x4) (cV cb) (aA gW (eP 11) (aA tD (tB 32 x3.1.enc=tB 32 x4.1.enc) (aA (m2=x4.2) (h=h) True)))))/\∀(x4:PV×MH),I4 x4->∃(I5:PV×MH->Prop),fZ cb 6 x4.2 h (λr m2=>branch r (∃(x5:PV×MH),aA (I5 x5) gW (aA (eP 11) tD (dE (oQ 32 (gR (hX x4.1.op) (hX x4.1.cmp) (gR (hX x4.1.right.kind) (hX x4.1.right.index) (gR (hX (qO x4.1.right)) (hX x4.1.right.value.int) (gR (DS x4.1.right) (hX x4.1.left.kind) (gR (hX x4.1.left.index) (hX
 (qO x4.1.left)) (gR (hX x4.1.left.value.int) (DS x4.1.left) (w8 x4.1.args)))))))=tB 32 x5.1.enc) m2 x5.2 h h))) (∃(x5:PV×MH),aA (I5 x5) gW (aA (eP 11) tD (dE (tB 32 x4.1.enc=tB 32 x5.1.enc) m2 x5.2 h h))))/\∀(x5:PV×MH),I5 x5->K (eN x5.1) x5.2 h) (x1.1==6) (FK (rX cb 0::dP s (bU (kU t) (eB ((↑deep:Int)-1)))) x1.2.2 h N (λv m2 h1=>aX h1 13 (bL v.enc) (λs1 h2=>K (jM (oZ (eW 6) TL (aY dA dA (aY dA TL (aR s1))))) m2 h2))) (bZ cb 3 x1.2.2 h 0 (λc1 k1 m2=>bC (aL x1.2.2 m2 c1) (aJ m2 h c1) (∃(I2:Int×Int×List PV×MH×PH->Prop)(m3:Int×Int×List PV×MH×PH->Nat),(∃(x2:Int×Int×List PV×MH×PH),aA (I2 x2) (cV cb) (aA (aK s) (aK t) (aA (eQ (bX deep)) gW (aA (eP 12) (cZ k1 x2.2.1) (aA tD (oQ
 32 (AM (eB (eB (4+x1.1)-7)) (gR (hX 0) (hX 0) (EP 0 (mF (At.lst 104)))))=oQ 32 (AM x2.1 (gR (hX 0) (hX 0) (EP 0 (mF (At.lst 104)))))) (aA (uJ 32 13 (DR x2)) (cO m2 (yH x2)) (kI h (yH x2))))))))/\∀(x2:Int×Int×List PV×MH×PH),I2 x2->gQ x2.2.1 0 (FK (rX cb 0::dP s (bU (kU t) (eB ((↑deep:Int)-1)))) (yH x2).1 (yH x2).2 N (λv m4 h1=>nM (DR x2) 136 (∃(x3:Int×Int×List PV×MH×PH),aA (I2 x3) (m3 x3<m3 x2) (aA (cV cb) (aK s) (aA (aK t) (eQ (bX deep)) (aA gW (eP 12) (aA (cZ (eB (x2.2.1-1)) x3.2.1) tD (aA (oQ 32 (AM x2.1 (gR (hX 0) (hX 0) (EP 0 (mF (At.lst 104)))))=oQ 32 (AM x3.1 (gR (hX 0) (hX 0) (EP 0 (mF (At.lst 104)))))) (dJ 32 13 (DR x2++bL v.enc)=dJ 32 13
 (DR x3)) (aA (cO m4 (yH x3)) (dO h1 (yH x3)) True))))))))) (aX (yH x2).2 13 (DR x2) (λs1 h1=>K (jM (oZ (eW x2.1) TL (aY dA dA (aY dA TL (aR s1))))) (yH x2).1 h1))))))))
def Qw(N:Nat)(cb:Nat)(s t:Sl)(deep:Nat)(m:MH)(h:PH)(K:CV->MH->PH->Prop):Prop:=
  FK (vA cb s t deep) m h N (λv m1 h1=>DB (dP s (fW t (eN v))) h1 (λc p p1=>eJ (iS c p p1) 2 (FK (rX cb 0::dP s (bU (kU t) 1)) m1 h1 N (λv1 m2 h2=>K (eN v1) m2 h2)) (K (eN v) m1 h1)))
theorem QX:Up zeroV zeroV=true:=by simp[Up]
theorem zX:NU 0 eM eM=true:=by simp[NU,V9,Up]
theorem RM{cols params:List Int}{x:Int}(h:cols[i]? =some x):kindOf cols params ⟨1,i,zeroV⟩=x:=by
 have hl:=(List.getElem?_eq_some_iff.1 h).1;have e:kindOf cols params ⟨1,i,zeroV⟩=qL cols ⟨1,i,zeroV⟩:=rfl;have e2:=QX;rw[e];simp only[qL,e2,Bool.not_true,Bool.or_false];rw[if_neg (by simp;omega)];simp[List.getD_eq_getElem?_getD,h]
theorem RL{cols params:List Int}{x:Int}(h:params[i]? =some x):kindOf cols params ⟨2,i,zeroV⟩=x:=by
 have hl:=(List.getElem?_eq_some_iff.1 h).1;have e:kindOf cols params ⟨2,i,zeroV⟩=qL params ⟨2,i,zeroV⟩:=rfl;have e2:=QX;rw[e];simp only[qL,e2,Bool.not_true,Bool.or_false];rw[if_neg (by simp;omega)];simp[List.getD_eq_getElem?_getD,h]
theorem Pu{cols params:List Int}{kind:Int}{v:VV}(hv:IL v)(hk:UJ kind v):Rg cols params kind ⟨3,0,v⟩:=⟨hv,λh=>by
 obtain⟨h1,h2⟩:=hk h;have e:kindOf cols params ⟨3,0,v⟩=if((0:Int) !=0|| !mE v)then 0 else v.kind:=rfl
 rw[e,if_neg,h2];simp only[mE,h1,h2];rcases h with rfl|rfl|rfl<;>decide⟩
theorem Vk:Sound Tryz.prog 96 Rf:=by
 refine iJ Tryz.func96 ?_;rintro cvs m h K ⟨cb,s,t,kind,cols,params,rfl,hc,hs,ht,l1,l2,hK⟩;refine⟨YF cb s t kind m h,rfl,aD Gi (aD Hj aF),PY cb s t kind m h K,by kernel_rfl,?_⟩;dsimp only[PY,push_cast];have hsl:=hs.slen;have htl:=ht.slen;refine⟨λ⟨i,os⟩=>i<=cols.length/\os.length<=i/\∀o∈os,Rg cols params kind o,λ⟨i,_⟩=>cols.length-i,⟨(0,[]),⟨aC,by simp,by simp⟩,MT⟩,?_⟩;rintro⟨i,os⟩ ⟨hi,hol,hos⟩;dsimp only;refine aE (λhlt=>?_) (λhge=>?_)
 .obtain⟨x,hx⟩:=fI hsl hlt;obtain⟨b1,o1,e1,r1⟩:=hs.at' hx;refine⟨b1,o1,e1,aC,hlt,x,.imm r1,aB (λek=>⟨by simp;omega,by simp;omega,(i+1,os++[⟨1,i,zeroV⟩]),⟨aC,by simp;omega,?_⟩,by show cols.length-(i+1)<cols.length-i;omega,?_⟩) (λ_=>⟨(i+1,os),⟨aC,by show os.length<=i+1;omega,hos⟩,by show cols.length-(i+1)<cols.length-i;omega,MT⟩)⟩
  .intro o ho;rcases List.mem_append.1 ho with h1|h1
   .exact hos o h1
   .simp at h1;subst h1;exact⟨nZ,λ_=>by rw[RM (by simpa using hx)];simpa using ek⟩
  .rw[List.map_append];exact MT
 refine⟨λ⟨i,os⟩=>i<=params.length/\os.length<=1000+i/\∀o∈os,Rg cols params kind o,λ⟨i,_⟩=>params.length-i,⟨(0,os),⟨aC,aC,hos⟩,MT⟩,?_⟩;clear hi hol hos hge;rintro⟨i,os⟩ ⟨hi,hol,hos⟩;dsimp only;refine aE (λhlt=>?_) (λhge=>?_)
 .obtain⟨x,hx⟩:=fI htl hlt;obtain⟨b1,o1,e1,r1⟩:=ht.at' hx;refine⟨b1,o1,e1,aC,hlt,x,.imm r1,aB (λek=>⟨by simp;omega,by simp;omega,(i+1,os++[⟨2,i,zeroV⟩]),⟨aC,by simp;omega,?_⟩,by show params.length-(i+1)<params.length-i;omega,?_⟩) (λ_=>⟨(i+1,os),⟨aC,by show os.length<=1000+(i+1);omega,hos⟩,by show params.length-(i+1)<params.length-i;omega,MT⟩)⟩
  .intro o ho;rcases List.mem_append.1 ho with h1|h1
   .exact hos o h1
   .simp at h1;subst h1;exact⟨nZ,λ_=>by rw[RL (by simpa using hx)];simpa using ek⟩
  .rw[List.map_append];exact MT
 .refine⟨cb,_,rfl,hc,λk m' h0 h1 ho hc'=>aE (λhk=>?_) (λhk=>⟨cb,kind,rfl,hc',λv m'' hv hkw ho' hc''=>hK ⟨3,0,v⟩ m'' (Pu hv hkw) (ho.trans ho') hc''⟩)⟩;have hk':k.toNat<os.length:=by simp at hk;omega
  exact⟨h0,hk,_,by rw[List.getElem?_map,List.getElem?_eq_getElem hk'];rfl,os[k.toNat],rfl,hK _ m' (hos _ (List.getElem_mem hk')) ho hc'⟩
theorem Ks{h:PH}{v:PV}(ha:v.args=⟨none,0,0⟩):fF h (.mk v.op v.cmp v.left v.right []) v:=fF.mk (by rw[ha];exact .nil _ _ _ _)
structure Yc(cols params:List Int)(kd:Int)(p:PV):Prop where
 args_:p.args=⟨none,0,0⟩
 op_:p.op=3
 cmp_:1<=p.cmp/\p.cmp<=6
 left_:Rg cols params kd p.left
 right_:Rg cols params kd p.right
 kind_:HZ cols->ZH kd
theorem Yu{k:Int}(h:ZH k):k≠0:=by rcases h with rfl|rfl|rfl<;>decide
theorem Yc.pw{cols params:List Int}{kd:Int}{p:PV}(x:Yc cols params kd p)(d:Nat):PW cols params d (.mk p.op p.cmp p.left p.right []):=by
 refine⟨⟨x.left_.val,x.right_.val,trivial⟩,λhc=>?_,Lg.leaf d⟩;have hk:=x.kind_ hc;have h1:=x.left_.kind hk;have h2:=x.right_.kind hk;have h3:=Yu hk;have h4:=x.cmp_;rw[x.op_];simp[jT,h1,h2,h3,h4.1,h4.2]
theorem acX{cols params:List Int}{d:Nat}(x:PW cols params d p):PW cols params (d+1) (.mk 6 0 eM eM [p]):=
 ⟨⟨nZ,nZ,x.vals,trivial⟩,λhc=>by
  have e:=zX;simp[jT,Bf,e,x.valid hc],Lg.node (λq hq=>by simp at hq;subst hq;exact x.siz) (by simp)⟩
theorem acZ{cols params:List Int}{d:Nat}{op:Int}{ps:List Pred}(ho:op=4\/op=5)(x:∀p∈ps,PW cols params d p)(hl:ps.length<=3):PW cols params (d+1) (.mk op 0 eM eM ps):=
 ⟨⟨nZ,nZ,Lj.2 λp hp=>(x p hp).vals⟩,λhc=>by
  have e:=zX;have e2:Bf cols params ps=true:=by rw[CB,List.all_eq_true];exactλp hp=>(x p hp).valid hc
  rcases ho with rfl|rfl<;>simp[jT,e,e2],Lg.node (λq hq=>(x q hq).siz) hl⟩
theorem Ue:∀N,Sound Tryz.prog 68 (XO N)
 |0=>by
  refine fA (fn:=Tryz.f68) (c:=cQ Tryz.f68) Tryz.func68 rfl (by decide) ?_;rintro cvs m h K ⟨cb,s,t,cols,params,deep,rfl,_,_,_,_,_,hN,_⟩;omega
 |N+1=>by
  refine iJ Tryz.func68 ?_;rintro cvs m h K ⟨cb,s,t,cols,params,deep,rfl,hc,hs,ht,l1,l2,hN,hd,hK⟩;refine⟨YT N cb s t deep h,rfl,aD Gi (aD yP (aD Vk (aD Hj (aD (Ue N) aF)))),Qe N cb s t deep m h K,by kernel_rfl,?_⟩;dsimp only[Qe,push_cast];have hsl:=hs.slen;refine⟨cb,9,rfl,hc,λk m1 k0 k1 o1 c1=>?_⟩;refine⟨λ⟨k,_,mx⟩=>0<=k/\k<=8/\aL m mx cb/\aJ mx h cb,aB (λ_=>⟨cb,2,rfl,aC,aC,c1,λr m2 o2 c2=>⟨(k,r,m2),⟨k0,aC,o1.trans o2,c2⟩,MT⟩⟩) (λ_=>⟨(k,false,m1),⟨k0,aC,o1,c1⟩,MT⟩),?_⟩;clear k0 k1 o1 c1 k m1;rintro⟨k,b,m1⟩ ⟨k0,k1,o1,c1⟩;dsimp only;refine aB (λ_=>⟨cb,2,rfl,c1,λj m2 j0 j1 o2 c2=>?_⟩) (λ_=>?_)
  .refine hK ⟨IntKind.i64.wrap (1+j),0,eM,eM,⟨none,0,0⟩⟩ _ m2 h (.refl _) (Ks rfl) ⟨⟨nZ,nZ,trivial⟩,λ_=>?_,Lg.leaf _⟩ (o1.trans o2) c2;have hj:j=0\/j=1:=by omega
   have e1:IntKind.i64.wrap 1=1:=by decide
   have e2:IntKind.i64.wrap 2=2:=by decide
   rcases hj with rfl|rfl
   .simp[jT,e1,zX]
   .simp[jT,e2,zX]
  refine⟨λ⟨k,b,mx⟩=>0<=k/\k<=8/\(b=false->6<=k/\1<=deep)/\aL m mx cb/\aJ mx h cb,aE (λ_=>⟨(k,true,m1),⟨k0,k1,λe=>(by cases e),o1,c1⟩,MT⟩) (λhk=>⟨(k,_,m1),⟨k0,k1,λe=>?_,o1,c1⟩,MT⟩),?_⟩
  .simp at e;exact⟨aC,aC⟩
  clear k0 k1 o1 c1 k m1;rintro⟨k,b,m1⟩ ⟨k0,k1,kb,o1,c1⟩;dsimp only;refine aB (λ_=>?_) (λhb=>?_)
  .refine⟨λ⟨kd,mx⟩=>(HZ cols->ZH kd)/\aL m mx cb/\aJ mx h cb,aE (λhpos=>⟨cb,s.len,rfl,c1,λj m2 j0 j1 o2 c2=>?_⟩) (λ_=>⟨(4,m1),⟨λ_=>.inr (.inl rfl),o1,c1⟩,MT⟩),?_⟩
   .obtain⟨b1,off,e1,r1⟩:=hs.inb (n:=j) j0 aC
    have hm:cols.getD j.toNat 0∈cols:=by
     have:j.toNat<cols.length:=by omega
     rw[List.getD_eq_getElem?_getD,List.getElem?_eq_getElem this];exact List.getElem_mem this
    exact⟨b1,off,e1,j0,aC,_,.imm r1,(_,m2),⟨λhcol=>hcol _ hm,o1.trans o2,c2⟩,MT⟩
   clear o1 c1 m1;rintro⟨kd,m1⟩ ⟨hkd,o1,c1⟩;dsimp only;refine⟨λ⟨p,kd,mx⟩=>Yc cols params kd p/\aL m mx cb/\aJ mx h cb,⟨cb,6,rfl,c1,λj m2 j0 j1 o2 c2=>⟨cb,s,t,kd,cols,params,rfl,c2,hs,ht,l1,l2,λo m3 ho o3 c3=>⟨cb,kd,rfl,c3,λv m4 hv hkw o4 c4=>⟨(⟨3,IntKind.i64.wrap (1+j),o,⟨3,0,v⟩,⟨none,0,0⟩⟩,kd,m4),⟨⟨rfl,rfl,?_,ho,Pu hv hkw,hkd⟩,((o1.trans o2).trans o3).trans o4,c4⟩,MT⟩⟩⟩⟩,?_⟩
   .show 1<=IntKind.i64.wrap (1+j)/\IntKind.i64.wrap (1+j)<=6;rw[dX aC aC];omega
   clear o1 c1 m1 hkd kd;rintro⟨p,kd,m1⟩ ⟨pw,o1,c1⟩;dsimp only;refine⟨λ⟨p,mx⟩=>Yc cols params kd p/\aL m mx cb/\aJ mx h cb,⟨cb,3,rfl,aC,aC,c1,λr m2 o2 c2=>aB (λ_=>⟨cb,s,t,kd,cols,params,rfl,c2,hs,ht,l1,l2,λo m3 ho o3 c3=>⟨(⟨p.op,p.cmp,p.left,o,p.args⟩,m3),⟨⟨pw.args_,pw.op_,pw.cmp_,pw.left_,ho,pw.kind_⟩,(o1.trans o2).trans o3,c3⟩,MT⟩⟩) (λ_=>⟨(p,m2),⟨pw,o1.trans o2,c2⟩,MT⟩)⟩,?_⟩;clear pw o1 c1 m1 p;rintro⟨p,m1⟩ ⟨pw,o1,c1⟩;dsimp only;refine⟨λ⟨p,mx⟩=>Yc cols params kd p/\aL m mx cb/\aJ mx h cb,⟨cb,6,rfl,aC,aC,c1,λr m2 o2 c2=>aB (λ_=>⟨(⟨p.op,p.cmp,p.right,p.left,p.args⟩,m2),⟨⟨pw.args_,pw.op_,pw.cmp_,pw.right_,pw.left_,pw.kind_⟩,o1.trans o2,c2⟩,MT⟩) (λ_=>⟨(p,m2),⟨pw,o1.trans o2,c2⟩,MT⟩)⟩,?_⟩;clear pw o1 c1 m1 p;rintro⟨p,m1⟩ ⟨pw,o1,c1⟩;exact hK p _ m1 h (.refl _) (Ks pw.args_) (pw.pw deep) o1 c1
  have hdeep:=kb hb;have hw:IntKind.i64.wrap ((deep:Int)-1)=((deep-1:Nat):Int):=by rw[dX aC aC];omega
  rw[hw];have hdd:deep=deep-1+1:=by omega
  refine aB (λ_=>⟨cb,s,t,cols,params,deep-1,rfl,c1,hs,ht,l1,l2,aC,aC,λv p m2 h2 hle hr hp o2 c2 sl h3 hle2 hrow=>?_⟩) (λhk6=>⟨cb,3,rfl,c1,λj m2 j0 j1 o2 c2=>?_⟩)
  .refine hK ⟨6,0,eM,eM,sl⟩ (.mk 6 0 eM eM [p]) m2 h3 (hle.trans hle2) (fF.mk (v:=⟨6,0,eM,eM,sl⟩) ⟨⟨[v],hrow,rfl,λi x hx=>?_⟩,by simp⟩) (by rw[hdd];exact acX hp) (o1.trans o2) (c2.mono hle2)
   match i,hx with
   |0,hx=>simp at hx;subst hx;exact⟨v,rfl,hr.mono hle2⟩
   |_+1,hx=>simp at hx
  refine⟨λ⟨op,n,us,mx,hx⟩=>(op=4\/op=5)/\ -1<=n/\n<=2/\(us.length:Int)<=2-n/\PH.le h hx/\aL m mx cb/\aJ mx hx cb/\∃ps:List Pred,ps.length=us.length/\(∀q∈ps,PW cols params (deep-1) q)/\∀(i:Nat) q,ps[i]? =some q->∃u,us[i]? =some u/\fF hx q u,λ⟨_,n,_,_,_⟩=>(n+1).toNat,⟨(_,j,[],m2,h),⟨?_,aC,aC,by simp;omega,.refl _,o1.trans o2,c2,[],rfl,by simp,λi q hq=>by simp at hq⟩,MT⟩,?_⟩
  .have hk6:k≠6:=by simpa using hk6
   have hk7:k=7\/k=8:=by omega
   rcases hk7 with rfl|rfl
   .exact .inl (by decide)
   .exact .inr (by decide)
  rintro⟨op,n,us,mx,hx⟩ ⟨hop,n0,n1,ul,hle,ox,cx,ps,pl,pw,hps⟩;dsimp only;refine aE (λhn=>⟨cb,s,t,cols,params,deep-1,rfl,cx,hs.mono hle,ht.mono hle,l1,l2,aC,aC,λv p m3 h3 hle3 hr hp o3 c3=>⟨by simp;omega,by simp;omega,(op,n-1,us++[v],m3,h3),⟨hop,by show-1<=n-1;omega,by show n-1<=2;omega,by simp;omega,hle.trans hle3,ox.trans o3,c3,ps++[p],by simp[pl],?_,?_⟩,?_,?_⟩⟩) (λhn sl h3 hle3 hrow=>?_)
  .intro q hq;rcases List.mem_append.1 hq with h1|h1
   .exact pw q h1
   .simp at h1;subst h1;exact hp
  .intro i q hq;by_cases hi:i<ps.length
   .rw[List.getElem?_append_left hi]at hq;obtain⟨u,h1,h2⟩:=hps i q hq;exact⟨u,by rw[List.getElem?_append_left aC];exact h1,h2.mono hle3⟩
   .rw[List.getElem?_append_right aC]at hq;have hl:=(List.getElem?_eq_some_iff.1 hq).1;simp at hl;have:i=ps.length:=by omega
    subst this;simp at hq;subst hq;exact⟨v,by rw[List.getElem?_append_right aC,pl];simp,hr⟩
  .show(n-1+1).toNat<(n+1).toNat;omega
  .rw[List.map_append,dX aC aC];exact MT
  .exact hK ⟨op,0,eM,eM,sl⟩ (.mk op 0 eM eM ps) mx h3 (hle.trans hle3) (fF.mk (v:=⟨op,0,eM,eM,sl⟩) ⟨⟨us,hrow,pl,λi q hq=>(hps i q hq).imp λu hu=>⟨hu.1,hu.2.mono hle3⟩⟩,aC⟩) (by rw[hdd];exact acZ hop pw aC) ox (cx.mono hle3)
theorem Q3(h:HZ l):l.all cT=true:=List.all_eq_true.2 λk hk=>by
 rcases h k hk with e|e|e<;>subst e<;>rfl
theorem TU{cols params:List Int}{d:Nat}(x:PW cols params d p)(hd:d<=2)(hc:HZ cols)(hp:HZ params):iS cols params p=0:=by
 have h1:=Ki p 0;have h2:=x.siz.n;have h3:=IB p 8 (by have:=x.siz.d;omega)
 have h4:gF d<=13:=by match d,hd with
  |0,_=>decide
  |1,_=>decide
  |2,_=>decide
 unfold iS;rw[Q3 hc,Q3 hp,if_neg (by simp),h3,if_neg (by simp;omega),x.valid hc];rfl
theorem Hp:Sound Tryz.prog 30 Cj:=by
 refine iJ Tryz.func30 ?_;rintro cvs m h K ⟨cb,s,t,cols,params,deep,rfl,hc,hs,ht,l1,l2,hd,hK⟩;refine⟨dN [(68,XO 1001),(69,rT)] [] [] [] false,rfl,aD (Ue 1001) (aD Hm aF),Qw 1001 cb s t deep m h K,by kernel_rfl,?_⟩;dsimp only[Qw,push_cast];refine⟨cb,s,t,cols,params,deep,rfl,hc,hs,ht,l1,l2,aC,hd,λv p m2 h2 hle hr hp o2 c2=>⟨s,t,v,cols,params,p,rfl,hs.mono hle,ht.mono hle,hr,aB (λ_=>⟨cb,s,t,cols,params,1,rfl,c2,hs.mono hle,ht.mono hle,l1,l2,aC,aC,λv3 p3 m3 h3 hle3 hr3 hp3 o3 c3=>hK v3 p3 m3 h3 (hle.trans hle3) hr3 ⟨hp3.vals,λ_ k1 k2=>TU hp3 (by decide) k1 k2⟩ (o2.trans o3) c3⟩) (λ_=>hK v p m2 h2 hle hr ⟨hp.vals,λk0 k1 k2=>TU hp k0 k1 k2⟩ o2 c2)⟩⟩
def cJ:Sl:=⟨none,0,0⟩
def UP:Vc.Spec:=λcvs m h K=>∃n k,cvs=[Ot n,cI k]/\K (.val (.agg ⟨(mZ.mk n k).enc⟩)) m h
def XW:Vc.Spec:=λcvs m h K=>∃t,cvs=[cI t]/\K (aQ ⟨1,t,gT,cJ,cJ,cJ,cJ,0,cJ⟩) m h
def ZM(v:QV)(g o:Sl)(k:Int):QV:=⟨v.op,v.table,v.where_,v.columns,v.on,g,o,k,v.args⟩
def ZX:Vc.Spec:=λcvs m h K=>∃cb v s kinds,cvs=[cP cb,aQ (ZM v cJ cJ v.limit),cS s]/\aJ m h cb/\Ints h s kinds/\kinds.length<=1000/\
 ∀g o k gr od m' h',PH.le h h'->Ints h' g gr->jC h' o od->gr.length<=kinds.length->od.length<=kinds.length->0<=k->k<=3->aL m m' cb->aJ m' h' cb->K (aQ (ZM v g o k)) m' h'
noncomputable def Y4(cb:Nat)(v:QV)(s:Sl)(h:PH):Ctx:=
 dN [(15,E9),(16,Ls)] [(2,{A:=Nat×List Int×List (Int×Bool)×MH,st:=λ⟨i,gr,od,m⟩=>cE 37 40 [(0,pv cb),(4,.at (.ptr 4 0)),(6,.at (.ptr 6 0)),(9,iv s.len),(10,iv i)] [(4,.cells 38 ((v.enc.take 17).map .val++[.lst 19,.lst 30,.val (.int .i64 v.limit),.val (.slice v.args.a v.args.len v.args.cap)])),(6,.cells 38 (AE.enc.map .val)),(19,.lst 3 1 (gr.map eI)),(30,.lst 72 2 (od.map Dm))] m h})] [] [] false
def WT(n:ByteArray)(k:Int)(m:MH)(h:PH)(K:CV->MH->PH->Prop):Prop:=
  K (jM (pG n k)) m h
def WX(t:Int)(m:MH)(h:PH)(K:CV->MH->PH->Prop):Prop:=
  K (jM (xX (eW 1) (eW t))) m h
abbrev DC(a:QV):Prop:=eQ (oQ 38 (gR (hX a.op) (hX a.table) (pQ a.where_ (gR (wR a) (tZ a.on) (gR (At.lst 19) (At.lst 30) (tX a.limit (tZ a.args)))))))
abbrev lZ:Prop:=eQ (oQ 38 zQ)
noncomputable abbrev p9(a:Nat×List Int×List (Int×Bool)×MH):List (List Value):=List.map Dm a.2.2.1
abbrev FL(a:Nat×List Int×List (Int×Bool)×MH->Prop)(b:Nat×List Int×List (Int×Bool)×MH->Nat)(c:Nat×List Int×List (Int×Bool)×MH)(d:Nat)(e:Sl)(g:Prop)(i j:(Nat×List Int×List (Int×Bool)×MH)->Prop)(k:MH)(l:PH):Prop:=∃(x:Nat×List Int×List (Int×Bool)×MH),aA (a x) (b x<b c) (aA (cV d) (eP 4) (aA (eP 6) (bK e) (aA (gS (aW c.1 1)=bX x.1) g (aA lZ (i x) (aA (j x) (k=x.2.2.2) (dC l l))))))
abbrev vQ(a b:List Int):Prop:=G4 a=G4 b
attribute [push_cast] DC lZ p9 FL vQ
def Qo(cb:Nat)(v:QV)(s:Sl)(m:MH)(h:PH)(K:CV->MH->PH->Prop):Prop:=
  ∃(I:Nat×List Int×List (Int×Bool)×MH->Prop)(m1:Nat×List Int×List (Int×Bool)×MH->Nat),(∃(x:Nat×List Int×List (Int×Bool)×MH),aA (I x) (cV cb) (aA (eP 4) (eP 6) (aA (bK s) (bG x.1) (aA (DC v) lZ (aA (qY x.2.1) (uJ 72 2 (p9 x)) (aA (m=x.2.2.2) (h=h) True))))))/\∀(x:Nat×List Int×List (Int×Bool)×MH),I x->bD (↑x.1:Int) (aG s) (fZ cb 3 x.2.2.2 h (λr m2=>branch r (nM (gZ x.2.1) 8 (fZ cb 3 m2 h (λr1 m3=>branch r1 (fZ cb 2 m3 h (λr2 m4=>nM (p9 x) 16 (FL I m1 x cb s (DC v) (λx1=>qZ x.2.1 (↑x.1:Int) x1.2.1) (λx1=>dJ 72 2 (p9 x++bL (bW (↑x.1:Int) r2))=dJ 72 2 (p9 x1)) m4 h))) (FL I m1 x cb s (DC v) (λx1=>qZ x.2.1 (↑x.1:Int) x1.2.1) (λx1=>dJ 72 2 (p9 x)=
 dJ 72 2 (p9 x1)) m3 h)))) (fZ cb 3 m2 h (λr1 m3=>branch r1 (fZ cb 2 m3 h (λr2 m4=>nM (p9 x) 16 (FL I m1 x cb s (DC v) (λx1=>vQ x.2.1 x1.2.1) (λx1=>dJ 72 2 (p9 x++bL (bW (↑x.1:Int) r2))=dJ 72 2 (p9 x1)) m4 h))) (FL I m1 x cb s (DC v) (λx1=>vQ x.2.1 x1.2.1) (λx1=>dJ 72 2 (p9 x)=dJ 72 2 (p9 x1)) m3 h))))) (bZ cb 4 x.2.2.2 h 0 (λc k m2=>bC (aL x.2.2.2 m2 c) (aJ m2 h c) (aX h 1 (gZ x.2.1) (λs1 h1=>aX h1 2 (p9 x) (λs2 h2=>K (jM (DH v v (aY (jI (iW v)) (iY (fX v)) (aY (rQ (fX v)) (eW (qO (fX v))) (aY (rO (fX v)) (jI (fX v)) (aY (oI v) (oK v) (aY (eR v.on) (eR s1) (aY (eR s2) (eW k) (aR v.args))))))))) m2 h2)))))
theorem Vv:Sound Tryz.prog 76 UP:=by
 refine iJ Tryz.func76 ?_;rintro cvs m h K ⟨n,k,rfl,hK⟩;refine⟨dN [] [] [] [] false,rfl,aF,WT n k m h K,by kernel_rfl,?_⟩;exact hK
theorem Mp:Sound Tryz.prog 40 XW:=by
 refine iJ Tryz.func40 ?_;rintro cvs m h K ⟨t,rfl,hK⟩;refine⟨dN [] [] [] [] false,rfl,aF,WX t m h K,by kernel_rfl,?_⟩;exact hK
theorem VA:Sound Tryz.prog 42 ZX:=by
 refine iJ Tryz.func42 ?_;rintro cvs m h K ⟨cb,v,s,kinds,rfl,hc,hs,hl,hK⟩;refine⟨Y4 cb v s h,rfl,aD Gi (aD yP aF),Qo cb v s m h K,by kernel_rfl,?_⟩;dsimp only[Qo,push_cast];have hsl:=hs.slen;refine⟨λ⟨i,gr,od,mx⟩=>i<=kinds.length/\gr.length<=i/\od.length<=i/\aL m mx cb/\aJ mx h cb,λ⟨i,_,_,_⟩=>kinds.length-i,⟨(0,[],[],m),⟨aC,by simp,by simp,.refl _ _,hc⟩,MT⟩,?_⟩;rintro⟨i,gr,od,m1⟩ ⟨hi,hg,ho,o1,c1⟩;dsimp only;refine aE (λhlt=>?_) (λhge=>?_)
 .have fin:∀(gr':List Int)(od':List (Int×Bool)) m',gr'.length<=i+1->od'.length<=i+1->aL m m' cb->aJ m' h cb->(i+1<=kinds.length/\gr'.length<=i+1/\od'.length<=i+1/\aL m m' cb/\aJ m' h cb):=λgr' od' m' h1 h2 h3 h4=>⟨aC,h1,h2,h3,h4⟩
  refine⟨cb,3,rfl,aC,aC,c1,λr m2 o2 c2=>aB (λ_=>⟨by simp;omega,by simp;omega,cb,3,rfl,aC,aC,c2,λr2 m3 o3 c3=>aB (λ_=>⟨cb,2,rfl,aC,aC,c3,λr3 m4 o4 c4=>⟨by simp;omega,by simp;omega,(i+1,gr++[(i:Int)],od++[((i:Int),r3)],m4),fin (gr++[(i:Int)]) (od++[((i:Int),r3)]) m4 (by simp;omega) (by simp;omega) (((o1.trans o2).trans o3).trans o4) c4,by show kinds.length-(i+1)<kinds.length-i;omega,?_⟩⟩) (λ_=>⟨(i+1,gr++[(i:Int)],od,m3),fin (gr++[(i:Int)]) od m3 (by simp;omega) aC ((o1.trans o2).trans o3) c3,by show kinds.length-(i+1)<kinds.length-i;omega,?_⟩)⟩)
   (λ_=>⟨cb,3,rfl,aC,aC,c2,λr2 m3 o3 c3=>aB (λ_=>⟨cb,2,rfl,aC,aC,c3,λr3 m4 o4 c4=>⟨by simp;omega,by simp;omega,(i+1,gr,od++[((i:Int),r3)],m4),fin gr (od++[((i:Int),r3)]) m4 aC (by simp;omega) (((o1.trans o2).trans o3).trans o4) c4,by show kinds.length-(i+1)<kinds.length-i;omega,?_⟩⟩) (λ_=>⟨(i+1,gr,od,m3),fin gr od m3 aC aC ((o1.trans o2).trans o3) c3,by show kinds.length-(i+1)<kinds.length-i;omega,MT⟩)⟩)⟩
  .simp only[List.map_append];exact MT
  .simp only[List.map_append];exact MT
  .simp only[List.map_append];exact MT
 .refine⟨cb,4,rfl,c1,λk m2 k0 k1 o2 c2 s1 h1 hle1 r1 s2 h2 hle2 r2=>?_⟩;exact hK s1 s2 k gr od m2 h2 (hle1.trans hle2) ⟨r1.mono hle2,aC⟩ ⟨r2,aC⟩ aC aC k0 aC (o1.trans o2) (c2.mono (hle1.trans hle2))
def X1:Vc.Spec:=λcvs m h K=>∃cb s t a b,cvs=[cP cb,cS s,cS t]/\aJ m h cb/\Ints h s a/\Ints h t b/\a.length<=1000/\b.length<=1000/\
 ∀o on m' h',PH.le h h'->mG h' o on->on.length<=10->aL m m' cb->aJ m' h' cb->K (cS o) m' h'
noncomputable def Y5(cb:Nat)(s t:Sl)(h:PH):Ctx:=
 dN [(15,E9)] [(3,{A:=Int×List (Int×Int)×MH,st:=λ⟨n,on,m⟩=>cE 77 80 [(0,pv cb),(1,sv s),(2,sv t),(7,.at (.lst 75)),(8,iv n)] [(75,.lst 69 2 (on.map u0))] m h}),
  (8,{A:=Int×Nat×List (Int×Int)×(Int×Int)×Bool×MH,st:=λ⟨n,i,on,p,f,m⟩=>cE 77 80 [(0,pv cb),(1,sv s),(2,sv t),(7,.at (.lst 75)),(8,iv n),(9,.at (.ptr 9 0)),(10,bv f),(49,.at (.lst 75)),(50,iv on.length),(51,iv i)] [(9,.cells 69 [.val (.int .i64 p.1),.val (.int .i64 p.2)]),(75,.lst 69 2 (on.map u0))] m h})] [] [] false
noncomputable abbrev xO(a:Int×List (Int×Int)×MH):List (List Value):=List.map u0 a.2.1
noncomputable abbrev BV(a:Int×Nat×List (Int×Int)×(Int×Int)×Bool×MH):Bool:=a.2.2.2.2.1
noncomputable abbrev xN(a:Int×Nat×List (Int×Int)×(Int×Int)×Bool×MH):Nat:=a.2.2.1.length
noncomputable abbrev y8(a:Int×Nat×List (Int×Int)×(Int×Int)×Bool×MH):Int×Int:=a.2.2.2.1
noncomputable abbrev p8(a:Int×Nat×List (Int×Int)×(Int×Int)×Bool×MH):List (List Value):=List.map u0 a.2.2.1
noncomputable abbrev vI(a:Int×Nat×List (Int×Int)×(Int×Int)×Bool×MH):Nat->Option Obj:=a.2.2.2.2.2
abbrev I7(a:(Int×Nat×List (Int×Int)×(Int×Int)×Bool×MH)->Prop)(b:(Int×Nat×List (Int×Int)×(Int×Int)×Bool×MH)->Nat)(c d:Nat)(e g:Sl)(i:Int×Nat×List (Int×Int)×(Int×Int)×Bool×MH)(j:(Int×Nat×List (Int×Int)×(Int×Int)×Bool×MH)->Int×Nat×List (Int×Int)×(Int×Int)×Bool×MH)(k:(Int×Nat×List (Int×Int)×(Int×Int)×Bool×MH)->Prop):Prop:=∃(x:Int×Nat×List (Int×Int)×(Int×Int)×Bool×MH),aA (a x) (b x<c) (aA (cV d) (aK e) (aA (aK g) (eL 75) (aA (cZ i.1 (j x).1) (eP 9) (k x))))
attribute [push_cast] xO BV xN y8 p8 vI I7
def Qp(cb:Nat)(s t:Sl)(m:MH)(h:PH)(K:CV->MH->PH->Prop):Prop:=
  bZ cb 3 m h 0 (λc k m1=>bC (aL m m1 c) (aJ m1 h c) (∃(I:Int×List (Int×Int)×MH->Prop)(m2:Int×List (Int×Int)×MH->Nat),(∃(x:Int×List (Int×Int)×MH),aA (I x) (cV cb) (aA (aK s) (aK t) (aA (eL 75) (cZ k x.1) (aA (uJ 69 2 (xO x)) (m1=x.2.2) (dC h h)))))/\∀(x:Int×List (Int×Int)×MH),I x->fC x.1 0 (fC (aG s) 0 (fC (aG t) 0 (bZ cb (aG s) x.2.2 h 0 (λc1 k1 m3=>bC (aL x.2.2 m3 c1) (aJ m3 h c1) (bZ cb (aG t) m3 h 0 (λc2 k2 m4=>bC (aL m3 m4 c2) (aJ m4 h c2) (aA (cN 0) ((0:Int)<2) (aT (λb o=>aH (aU s.a b o) (0<=k1) (k1<aG s) (∃(y:Int),aH (aM m4 h b (fL o k1 1) (cK y)) ((0:Int)<=1) ((1:Int)<2) (aT (λb1 o1=>aH (aU t.a b1 o1) (0<=k2) (k2<aG t) (∃(y1:Int),aM m4 h b1
 (fL o1 k2 1) (cK y1)/\∃(I1:Int×Nat×List (Int×Int)×(Int×Int)×Bool×MH->Prop)(m5:Int×Nat×List (Int×Int)×(Int×Int)×Bool×MH->Nat),(∃(x1:Int×Nat×List (Int×Int)×(Int×Int)×Bool×MH),aA (I1 x1) (cV cb) (aA (aK s) (aK t) (aA (eL 75) (cZ x.1 x1.1) (aA (eP 9) (gH (y==y1) (BV x1)) (aA (eL 75) (bY (xO x).length (xN x1)) (aA (bG x1.2.1) (BM (tX k1 (hX k2)) (rB (y8 x1))) (dE (dJ 69 2 (xO x)=dJ 69 2 (p8 x1)) m4 (vI x1) h h)))))))/\∀(x1:Int×Nat×List (Int×Int)×(Int×Int)×Bool×MH),I1 x1->bD (↑x1.2.1:Int) (↑(xN x1):Int) (aA (cN (↑x1.2.1:Int)) ((↑x1.2.1:Int)<kJ (p8 x1)) (∃(e:List Value),tG (p8 x1) (qG x1.2.1) e/\∃(y2:Int×Int),hP (Dv 2 e (vJ y2)) (BV
 x1) (aA (cN 0) ((0:Int)<2) (aA (cN 0) ((0:Int)<2) (fQ y2.1 (y8 x1).1 (aA (cN 1) ((1:Int)<2) (aA (cN 1) ((1:Int)<2) (I7 (λx2=>I1 x2) (λx2=>m5 x2) (m5 x1) cb s t x1 (λx2=>x2) (λx2=>aA (gH (y2.2 !=(y8 x1).2) (BV x2)) (eL 75) (aA (bY (xN x1) (xN x2)) (gS (aW x1.2.1 1)=bX x2.2.1) (aA (BM (rB (y8 x1)) (rB (y8 x2))) (dJ 69 2 (p8 x1)=dJ 69 2 (p8 x2)) (aA (vI x1=vI x2) (h=h) True))))))) (I7 (λx2=>I1 x2) (λx2=>m5 x2) (m5 x1) cb s t x1 (λx2=>x2) (λx2=>aA (AH (BV x2)) (eL 75) (aA (bY (xN x1) (xN x2)) (gS (aW x1.2.1 1)=bX x2.2.1) (aA (BM (rB (y8 x1)) (rB (y8 x2))) (dJ 69 2 (p8 x1)=dJ 69 2 (p8 x2)) (aA (vI x1=vI x2)
 (h=h) True)))))))) (I7 (λx2=>I1 x2) (λx2=>m5 x2) (m5 x1) cb s t x1 (λx2=>x2) (λx2=>aA (AH (BV x2)) (eL 75) (aA (bY (xN x1) (xN x2)) (gS (aW x1.2.1 1)=bX x2.2.1) (aA (BM (rB (y8 x1)) (rB (y8 x2))) (dJ 69 2 (p8 x1)=dJ 69 2 (p8 x2)) (aA (vI x1=vI x2) (h=h) True))))))) (branch (BV x1) (nM (p8 x1) 16 (∃(x2:Int×List (Int×Int)×MH),aA (I x2) (m2 x2<m2 x) (aA (cV cb) (aK s) (aA (aK t) (eL 75) (aA (cZ (eB (x1.1-1)) x2.1) (dJ 69 2 (p8 x1++bL (vJ (y8 x1)))=dJ 69 2 (xO x2)) (eH (vI x1) x2.2.2 h h)))))) (∃(x2:Int×List (Int×Int)×MH),aA (I x2) (m2 x2<m2 x) (aA (cV cb) (aK s) (aA (aK t) (eL 75) (aA (cZ (eB (x1.1-1)) x2.1) (dJ 69 2 (p8 x1)=
 dJ 69 2 (xO x2)) (eH (vI x1) x2.2.2 h h))))))))))))))))) (aX h 2 (xO x) (λs1 h1=>K (kU s1) x.2.2 h1))) (aX h 2 (xO x) (λs1 h1=>K (kU s1) x.2.2 h1))) (aX h 2 (xO x) (λs1 h1=>K (kU s1) x.2.2 h1))))
theorem VB:Sound Tryz.prog 41 X1:=by
 refine iJ Tryz.func41 ?_;rintro cvs m h K ⟨cb,s,t,a,b,rfl,hc,hs,ht,l1,l2,hK⟩;refine⟨Y5 cb s t h,rfl,aD Gi aF,Qp cb s t m h K,by kernel_rfl,?_⟩;dsimp only[Qp,push_cast];have hsl:=hs.slen;have htl:=ht.slen;refine⟨cb,3,rfl,hc,λk m1 k0 k1 o1 c1=>⟨λ⟨n,on,mx⟩=>0<=n/\n<=2/\(on.length:Int)<=2-n/\aL m mx cb/\aJ mx h cb,λ⟨n,_,_⟩=>n.toNat,⟨(k,[],m1),⟨k0,by show k<=2;omega,by simp;omega,o1,c1⟩,MT⟩,?_⟩⟩;clear k0 k1 o1 c1 m1;rintro⟨n,on,m1⟩ ⟨n0,n1,hon,o1,c1⟩;dsimp only;have out:∀(sl:Sl)(h':PH),PH.le h h'->cW h' sl 2 (on.map u0)->K (.val (.slice sl.a sl.len sl.cap)) m1 h':=λsl h' hle hrow=>hK sl on m1 h' hle ⟨hrow,aC⟩ aC o1 (c1.mono hle);refine aE (λhn=>aE (λhp=>aE (λhq=>?_) (λ_=>out)) (λ_=>out)) (λ_=>out);refine⟨cb,s.len,rfl,c1,λx m2 x0 x1 o2 c2=>⟨cb,t.len,rfl,c2,λy m3 y0 y1 o3 c3=>?_⟩⟩;obtain⟨b1,f1,e1,r1⟩:=hs.inb (n:=x) x0 aC;obtain⟨b2,f2,e2,r2⟩:=ht.inb (n:=y) y0 aC;refine⟨aC,aC,b1,f1,e1,x0,aC,_,.imm r1,aC,aC,b2,f2,e2,y0,aC,_,.imm r2,?_⟩;refine⟨λ⟨n',i,on',p,f,mx⟩=>n'=n/\on'=on/\mx=m3/\i<=on.length,λ⟨_,i,_,_,_,_⟩=>on.length-i,⟨(n,0,on,(x,y),a.getD x.toNat 0==b.getD y.toNat 0,m3),⟨rfl,rfl,rfl,aC⟩,?_⟩,?_⟩
 .rw[List.length_map];exact MT
 rintro⟨n,i,on,p,f,m3⟩ ⟨rfl,rfl,rfl,hi⟩;dsimp only;refine aE (λhlt=>?_) (λhge=>?_)
 .have hl:i<on.length:=by omega
  have hget:(on.map u0)[i]? =some (u0 on[i]):=by rw[List.getElem?_map,List.getElem?_eq_getElem hl];rfl
  refine⟨aC,by rw[List.length_map];omega,_,hget,on[i],rfl,aB (λ_=>⟨aC,aC,aC,aC,aB (λ_=>⟨aC,aC,aC,aC,(n,i+1,on,p,_,m3),⟨rfl,rfl,rfl,by show i+1<=on.length;omega⟩,by show on.length-(i+1)<on.length-i;omega,MT⟩) (λ_=>⟨(n,i+1,on,p,_,m3),⟨rfl,rfl,rfl,by show i+1<=on.length;omega⟩,by show on.length-(i+1)<on.length-i;omega,MT⟩)⟩) (λ_=>⟨(n,i+1,on,p,_,m3),⟨rfl,rfl,rfl,by show i+1<=on.length;omega⟩,by show on.length-(i+1)<on.length-i;omega,MT⟩)⟩
 .have hw:IntKind.i64.wrap (n-1)=n-1:=dX aC aC;rw[hw];refine aB (λ_=>⟨by rw[List.length_map];omega,by rw[List.length_map];omega,(n-1,on++[p],m3),⟨by show 0<=n-1;omega,by show n-1<=2;omega,by simp;omega,(o1.trans o2).trans o3,c3⟩,by show(n-1).toNat<n.toNat;omega,?_⟩) (λ_=>⟨(n-1,on,m3),⟨by show 0<=n-1;omega,by show n-1<=2;omega,by show(on.length:Int)<=2-(n-1);omega,(o1.trans o2).trans o3,c3⟩,by show(n-1).toNat<n.toNat;omega,MT⟩);rw[List.map_append];exact MT
def alX:Vc.Spec:=λcvs m h K=>∃s cs,∃most:Nat,cvs=[cS s,cI most]/\cW h s 1 (bM cs)/\s.len<=s.cap/\most<=1000/\∀cb m' h',PH.le h h'->m cb=none->aL m m' cb->aJ m' h' cb->K (cP cb) m' h'
abbrev AJ(a b:Prop)(c:(List (List Value))->Prop):Prop:=aA a b (∃(x:List (List Value)),c x)
attribute [push_cast] AJ
def QP(s:Sl)(most:Nat)(m:MH)(h:PH)(K:CV->MH->PH->Prop):Prop:=
  AJ (cN (ite ((↑most:Int)<aG s) (↑most:Int) (aG s))) (ite ((↑most:Int)<aG s) (↑most:Int) (aG s)<=(↑s.cap:Int)) (λy=>aA (eV 1 y) (oW m h (Sl.mk s.a (ite ((↑most:Int)<aG s) (↑most:Int) (aG s)).toNat s.cap) 1 y) (aA (iB (y.length*1)) (iB y.length) (aX h 1 y (λs1 h1=>∀(b:Nat)(m1:MH),bC (cM m h1 b) (bE m m1 b (kX (eR s1) dA) 82) (K (rX b 0) m1 h1)))))
theorem Fs(l:List UInt8):eV 1 (bM l):=by
 constructor
 .intro e he;obtain⟨x,_,rfl⟩:=List.mem_map.1 he;rfl
 .intro e he u hu;obtain⟨x,_,rfl⟩:=List.mem_map.1 he;simp at hu;subst hu;rfl
theorem cW.cut{s:Sl}(r:cW h s sz xs)(n:Nat)(hn:n<=xs.length):cW h ⟨s.a,n,s.cap⟩ sz (xs.take n):=by
 refine⟨by simp;omega,?_,by have h1:=r.len;have h2:=r.cap;show n<=s.cap;omega⟩;rcases r.row with e|⟨b,o,ha,k⟩
 .left;rw[e];simp
 .right;refine⟨b,o,ha,λi e hi=>?_⟩;rw[List.getElem?_take]at hi;split at hi
  .exact k i e hi
  .cases hi
theorem V4:Sound Tryz.prog 11 alX:=by
 refine iJ Tryz.func11 ?_;rintro cvs m h K ⟨s,cs,most,rfl,hr,hc,hm,hK⟩;refine⟨wH [] [] [] [] [82] [] false,rfl,aF,QP s most m h K,by kernel_rfl,?_⟩;have hl:s.len=cs.length:=by have:=hr.len;simpa[bM]using this
 dsimp only[QP,push_cast];have hmin:(if(most:Int)<(s.len:Int)then(most:Int)else(s.len:Int))=((min most s.len:Nat):Int):=by split<;>omega
 rw[hmin];have hcut:=cW.cut hr (min most s.len) (by simp[bM];omega);refine⟨aC,aC,bM (cs.take (min most s.len)),Fs _,.imm ?_,by simp[bM];omega,by simp[bM];omega,λs' h' hle hrow b m' hb hu=>?_⟩
 .rw[show bM (cs.take (min most s.len))=(bM cs).take (min most s.len)by simp[bM,List.map_take]];exact hcut
 .exact hK b m' h' hle hb.m_ ⟨hu.other⟩ ⟨_,⟨⟨s',_,0,hu.at_,hrow,aC,by simp;omega,rfl⟩⟩⟩
def Z3:Vc.Spec:=λcvs m h K=>∃n:Nat,cvs=[.val (.slice none 0 0),cI n]/\n<=1000/\K (.lst 3 1 []) m h
noncomputable def Xe(ss:Sl)(m:MH)(h:PH):Ctx:=
 dN [(205,Z3)] [(3,{A:=Nat×Nat,st:=λ⟨i,n⟩=>cE 36 37 [(0,sv ss),(3,iv n),(9,sv ss),(10,iv ss.len),(11,iv i)] [] m h}),
  (11,{A:=Nat×List Int,st:=λ⟨i,l⟩=>cE 36 37 [(6,.at (.lst 24)),(25,sv ss),(26,iv ss.len),(27,iv i)] [(24,.lst 3 1 (l.map eI))] m h})] [] [] false
abbrev Ga(a:Int):Prop:=a<=140737488355328
attribute [push_cast] Ga
def MB(n:Nat)(m:MH)(h:PH)(K:CV->MH->PH->Prop):Prop:=
  fC (eB ((↑n:Int)-eB ((0:Int)-0))) 0 (aA (cN 0) (cN 0) (aA (0<eB ((↑n:Int)-0)) (Ga (eB ((↑n:Int)-0)*8)) (aH (Ga (eB ((↑n:Int)-0))) ((0:Int)<=0) (cN (kJ (List.replicate (eB ((↑n:Int)-0)).toNat (j6 dA)))) (K (CV.lst 3 1 []) m h)))) (K (CV.lst 3 1 []) m h)
abbrev Jj(a:(Nat×Nat->Prop)->(Nat×Nat)->Prop)(b:(Nat×Nat->Prop)->(Nat×Nat->Nat)->(Nat×Nat)->Prop):Prop:=∃(x:Nat×Nat->Prop)(x1:Nat×Nat->Nat),(∃(x2:Nat×Nat),a x x2)/\∀(x2:Nat×Nat),b x x1 x2
attribute [push_cast] Jj
def MN(ss:Sl)(m:MH)(h:PH)(K:CV->MH->PH->Prop):Prop:=
  Jj (λI x=>aA (I x) (aK ss) (aA (bG x.2) (aK ss) (aA (bK ss) (bG x.1) (aA (m=m) (h=h) True)))) (λI m1 x=>I x->bD (↑x.1:Int) (aG ss) (aT (λb o=>aH (aU ss.a b o) (0<=(↑x.1:Int)) ((↑x.1:Int)<aG ss) (∃(y:Sl),aM m h b (bB o x.1 1) (aR y)/\bD (aW x.2 (aG y)) 0 False (∃(x1:Nat×Nat),aA (I x1) (m1 x1<m1 x) (aA (aK ss) (gS (aW x.2 (aG y))=bX x1.2) (aA (aK ss) (bK ss) (aA (gS (aW x.1 1)=bX x1.1) (m=m) (dC h h)))))))) (∃(n:Nat),aA (bU Dc (↑x.2:Int)=bU Dc (↑n:Int)) (mX n) (∃(I1:Nat×List Int->Prop)(m2:Nat×List Int->Nat),(∃(x1:Nat×List Int),aA (I1 x1) (eL 24) (aA (aK ss) (bK ss) (aA (bG x1.1) (qY x1.2) (aA (m=m) (h=h) True))))/\∀(x1:Nat×List Int),I1 x1->bD (↑x1.1:
 Int) (aG ss) (aT (λb o=>aH (aU ss.a b o) (0<=(↑x1.1:Int)) ((↑x1.1:Int)<aG ss) (∃(y:Sl),aM m h b (bB o x1.1 1) (aR y)/\∃(y1:List (List Value)),aA (eV 1 y1) (cW h (dR y) 1 y1) (aA (sJ (gZ x1.2) y1 8) (sK (gZ x1.2) y1) (∃(x2:Nat×List Int),aA (I1 x2) (m2 x2<m2 x1) (aA (eL 24) (aK ss) (aA (bK ss) (gS (aW x1.1 1)=bX x2.1) (aA (dJ 3 1 (gZ x1.2++y1)=G4 x2.2) (m=m) (dC h h))))))))) (aX h 1 (gZ x1.2) (λs h1=>K (kU s) m h1)))))
theorem Sf:Sound Tryz.prog 205 Z3:=by
 refine iJ Tryz.func205 ?_;rintro cvs m h K ⟨n,rfl,hn,hK⟩;refine⟨dN [] [] [] [] true,rfl,aF,MB n m h K,by kernel_rfl,?_⟩;dsimp only[MB,push_cast];have h0:IntKind.i64.wrap ((n:Int)-0)=n:=by rw[dX aC aC];omega
 have h1:IntKind.i64.wrap ((n:Int)-IntKind.i64.wrap (0-0))=n:=by rw[show IntKind.i64.wrap (0-0)=0 from by rw[dX aC aC];rfl,h0]
 exact aE (λhp=>⟨aC,aC,aC,aC,aC,aC,aC,hK⟩) (λ_=>hK)
def uB(ks:List (List Int)):Nat:=(ks.map List.length).sum
theorem H6{k:List Int}(hk:ks[i]? =some k):uB (ks.take (i+1))=uB (ks.take i)+k.length:=by
 unfold uB;rw[List.take_add_one,hk];simp
theorem GN{ks:List (List Int)}(h:∀k∈ks,k.length<=12):∀i,uB (ks.take i)<=12*i
 |0=>by simp[uB]
 |i+1=>by
  have ih:=GN h i;cases e:ks[i]? with
  |none=>rw[List.take_add_one,e];simp[uB]at ih⊢;omega
  |some k=>rw[H6 e];have:=h k (List.mem_of_getElem? e);omega
theorem Sp:Sound Tryz.prog 179 JJ:=by
 refine iJ Tryz.func179 ?_;rintro cvs m h K ⟨ss,ks,rfl,hs,hl,h12,hK⟩;refine⟨Xe ss m h,rfl,aD Sf aF,MN ss m h K,by kernel_rfl,?_⟩;dsimp only[MN,push_cast];have hsl:=bV.slen hs;refine⟨λ⟨i,n⟩=>i<=ks.length/\n=uB (ks.take i),λ⟨i,_⟩=>ks.length-i,⟨(0,0),⟨aC,by simp[uB]⟩,MT⟩,?_⟩;rintro⟨i,n⟩ ⟨hi,rfl⟩;dsimp only;have hb:=GN h12 i;refine aE (λhlt=>?_) (λhge=>?_)
 .obtain⟨k,hk⟩:=fI hsl hlt;obtain⟨b,o,sl,ea,r,hki⟩:=bV.at hs hk;have hkl:=hki.slen;have hk12:=h12 k (List.mem_of_getElem? hk)
  have hw:IntKind.i64.wrap ((uB (ks.take i):Int)+(sl.len:Int))=((uB (ks.take (i+1)):Nat):Int):=by
   rw[H6 hk,dX aC aC];omega
  refine⟨b,o,ea,aC,hlt,sl,.imm r,?_⟩;rw[hw];exact aE (λhneg=>by omega) (λ_=>⟨(i+1,uB (ks.take (i+1))),⟨aC,rfl⟩,by show ks.length-(i+1)<ks.length-i;omega,MT⟩)
 .refine⟨uB (ks.take i),rfl,aC,?_⟩;refine⟨λ⟨i,l⟩=>i<=ks.length/\l=(ks.take i).flatten,λ⟨i,_⟩=>ks.length-i,⟨(0,[]),⟨aC,by simp⟩,MT⟩,?_⟩;clear hb hge hi;rintro⟨i,l⟩ ⟨hi,rfl⟩;dsimp only;have hfl:(ks.take i).flatten.length<=12*i:=by have:=GN h12 i;simpa[uB,List.length_flatten]using this
  refine aE (λhlt=>?_) (λhge sl h' hle hrow=>hK sl h' hle ⟨?_,?_⟩)
  .obtain⟨k,hk⟩:=fI hsl hlt;obtain⟨b,o,sl,ea,r,hki⟩:=bV.at hs hk;have hk12:=h12 k (List.mem_of_getElem? hk);refine⟨b,o,ea,aC,hlt,sl,.imm r,k.map eI,CH k,hki.row,?_,?_,(i+1,(ks.take (i+1)).flatten),⟨aC,rfl⟩,by show ks.length-(i+1)<ks.length-i;omega,?_⟩
   .rw[List.length_map,List.length_map];omega
   .rw[List.length_map,List.length_map];omega
   .rw[List.take_add_one,hk,Option.toList_some,List.flatten_append,List.map_append,List.flatten_cons,List.flatten_nil,List.append_nil];exact MT
  .rw[List.take_of_length_le aC]at hrow;exact hrow
  .rw[List.take_of_length_le aC]at hfl;omega
theorem Ml:∀N,Sound Tryz.prog 81 (v7 N):=Uc Sp
mutual
def rG:Query->Nat->Int->Bool×Int
 |.mk _ _ _ _ _ _ _ _ args,k,n=>if 24<n+1\/k=0 then(false,0)else Cm args (k-1) (n+1)
def Cm:List Query->Nat->Int->Bool×Int
 |[],_,n=>(true,n)
 |q::qs,k,n=>match rG q k n with|(false,_)=>(false,0)|(true,n')=>Cm qs k n'
end
mutual
def Wl:Query->Int
 |.mk _ _ _ _ _ _ _ _ args=>1+Fh args
def Fh:List Query->Int
 |[]=>0
 |p::ps=>Wl p+Fh ps
end
mutual
theorem NH:∀p:Query,1<=Wl p
 |.mk _ _ _ _ _ _ _ _ args=>by have:=CC args;simp only[Wl];omega
theorem CC:∀ps:List Query,0<=Fh ps
 |[]=>by simp[Fh]
 |p::ps=>by have:=NH p;have:=CC ps;simp only[Fh];omega
end
mutual
theorem L1:∀(p:Query)(n:Int),n<=24->(n+Wl p<=24->mP p n=n+Wl p)/\(24<n+Wl p->mP p n=25)
 |.mk _ _ _ _ _ _ _ _ args,n,h=>by
  obtain⟨h1,h2⟩:=Kg args (n+1) aC;simp only[mP,Wl];exact⟨λe=>by rw[h1 aC];omega,λe=>h2 aC⟩
theorem Kg:∀(ps:List Query)(n:Int),n<=25->(n+Fh ps<=24->jR ps n=n+Fh ps)/\(24<n+Fh ps->jR ps n=25)
 |[],n,h=>by
  simp only[jR,Fh];omega
 |p::ps,n,h=>by
  have h1:=NH p;have h2:=CC ps;simp only[jR,Fh];by_cases h3:n<=24
  .rw[if_pos h3];have h4:=L1 p n h3;have h5:=(Bs p n h3).2;have h6:=Kg ps _ h5;by_cases h7:n+Wl p<=24
   .have h8:=h4.1 h7;rw[h8]at h6⊢
    exact⟨λe=>by rw[h6.1 aC];omega,λe=>h6.2 aC⟩
   .have h8:=h4.2 aC;rw[h8]at h6⊢
    exact⟨λe=>by omega,λe=>h6.2 aC⟩
  .rw[if_neg h3];omega
end
mutual
theorem NA:∀(p:Query)(k:Nat)(n:Int),n<=24->((rG p k n).1=true↔n+Wl p<=24/\kN p k=false)/\((rG p k n).1=true->(rG p k n).2=n+Wl p)
 |.mk _ _ _ _ _ _ _ _ args,k,n,h=>by
  have hp:=CC args;simp only[rG,Wl];by_cases h0:24<n+1\/k=0
  .rw[if_pos h0];refine⟨⟨λe=>(by cases e),λe=>?_⟩,λe=>(by cases e)⟩;rcases h0 with h0|h0
   .omega
   .subst h0;simp[kN]at e
  .rw[if_neg h0];obtain⟨k',rfl⟩:∃k',k=k'+1:=⟨k-1,aC⟩
   obtain⟨h1,h2⟩:=OY args k' (n+1) aC;simp only[kN,Nat.add_sub_cancel];refine⟨⟨λe=>?_,λe=>h1.2 ⟨aC,e.2⟩⟩,λe=>by have:=h2 e;omega⟩;have:=h1.1 e;exact⟨aC,this.2⟩
theorem OY:∀(ps:List Query)(k:Nat)(n:Int),n<=24->((Cm ps k n).1=true↔n+Fh ps<=24/\nW ps k=false)/\((Cm ps k n).1=true->(Cm ps k n).2=n+Fh ps)
 |[],k,n,h=>by simp[Cm,Fh,nW,h]
 |p::ps,k,n,h=>by
  obtain⟨h1,h2⟩:=NA p k n h;have hp:=CC ps;simp only[Cm,Fh,nW];cases e:rG p k n with
  |mk r n'=>
   rw[e]at h1 h2;cases r with
   |false=>
    refine⟨⟨λe=>(by cases e),λe=>?_⟩,λe=>(by cases e)⟩;have:=h1.2 ⟨aC,(Bool.or_eq_false_iff.1 e.2).1⟩;cases this
   |true=>
    have h3:=h2 rfl;have h1:=h1.1 rfl;simp only at h3;obtain⟨h4,h5⟩:=OY ps k n' aC;refine⟨⟨λe=>?_,λe=>?_⟩,λe=>by have:=h5 e;simp only;omega⟩
    .have:=h4.1 e;exact⟨aC,by rw[h1.2,this.2];rfl⟩
    .exact h4.2 ⟨aC,(Bool.or_eq_false_iff.1 e.2).2⟩
end
theorem LN(q:Query):(rG q 8 0).1=j9 q:=by
 have h1:=(NA q 8 0 aC).1;have h2:=L1 q 0 aC;rw[Bool.eq_iff_iff,h1];simp only[j9,Bool.and_eq_true,decide_eq_true_eq,Bool.not_eq_true'];refine and_congr_left λ_=>⟨λe=>?_,λe=>?_⟩
 .rw[h2.1 aC];omega
 .by_cases h3:0+Wl q<=24
  .exact h3
  .rw[h2.2 aC]at e;omega
def Fw:Code->Option (Code×Code)
 |.rangeFunc _ _ a b=>some (a,b)
 |.seq x y=>match Fw x with|some p=>some p|none=>Fw y
 |.block _ c=>Fw c
 |_=>none
noncomputable def rfA:Code:=match Fw (cQ Tryz.f55)with|some p=>p.1|none=>.skip
noncomputable def rfB:Code:=match Fw (cQ Tryz.f55)with|some p=>p.2|none=>.skip
structure LR where
 fn:FuncId
 tmps:Array Value
 bn:Nat
 b6:Nat
 b7:Nat
 D:Nat
noncomputable def nB(R:LR)(st:LoopState)(pe:Option Code):Loop:={state:=st,pending:=pe,fn:=R.fn,tmps:=R.tmps,params:= #[37,38],assign:=rfA,body:=rfB,defers:=R.D}
def Ew:Obj:=.cells #[.slice none 0 0] 33 (0,0)
def Db(n:Int):Obj:=.cells #[.int .i64 n] 54 (0,0)
structure uV(m:MH)(l:Nat)(R:LR)(n:Int):Prop where
 loop:m l=some (.loop (nB R .ready none))
 n_:m R.bn=some (pL n)
 k_:m R.b6=some Ew
 e_:m R.b7=some (Db 0)
 size:R.tmps.size=53
 t11:R.tmps[11]? =some (.pointer (some ⟨R.bn,0,none⟩))
 t6:R.tmps[6]? =some (.pointer (some ⟨R.b6,0,none⟩))
 t7:R.tmps[7]? =some (.pointer (some ⟨R.b7,0,none⟩))
structure vZ(m m':MH)(l:Nat)(R:LR):Prop where
 loop:m' l=some (.loop (nB R .done (some .ret)))
 k_:m' R.b6=some Ew
 e_:m' R.b7=some (Db 2)
 n_:∃x,m' R.bn=some x
 other:∀b,b≠l->b≠R.bn->b≠R.b6->b≠R.b7->m' b=m b
theorem uV.ne{l:Nat}{R:LR}{n:Int}(x:uV m l R n):l≠R.bn/\l≠R.b6/\l≠R.b7/\R.b6≠R.bn/\R.b7≠R.bn/\R.b6≠R.b7:=by
 have h1:=x.loop;have h2:=x.n_;have h3:=x.k_;have h4:=x.e_;refine⟨λe=>?_,λe=>?_,λe=>?_,λe=>?_,λe=>?_,λe=>?_⟩
 .rw[e,h2]at h1;cases h1
 .rw[e,h3]at h1;cases h1
 .rw[e,h4]at h1;cases h1
 .rw[e,h2]at h3;cases h3
 .rw[e,h2]at h4;cases h4
 .rw[e,h4]at h3;cases h3
theorem uV.next{l:Nat}{R:LR}{n n':Int}(x:uV m l R n)(hu:fV m m' R.bn (pL n')):uV m' l R n':=by
 obtain⟨h1,h2,h3,h4,h5,h6⟩:=x.ne;exact⟨by rw[hu.other l h1];exact x.loop,hu.at_,by rw[hu.other _ h4];exact x.k_,by rw[hu.other _ h5];exact x.e_,x.size,x.t11,x.t6,x.t7⟩
theorem vZ.from{m1:MH}{l:Nat}{R:LR}{n':Int}(hu:fV m m1 R.bn (pL n'))(h:vZ m1 m' l R):vZ m m' l R:=
 ⟨h.loop,h.k_,h.e_,h.n_,λb h1 h2 h3 h4=>(h.other b h1 h2 h3 h4).trans (hu.other b h2)⟩
def yv(l:Nat):CV:=.val (.func (.yield l) #[] #[])
def YS:Vc.Spec:=λcvs m h K=>∃l level v R n,cvs=[yv l,cI level,aQ v]/\uV m l R n/\0<=n/\n<=24/\
 (∀m',(24<n+1\/8<level)->vZ m m' l R->K (cB false) m' h)/\(∀m',¬(24<n+1\/8<level)->fV m m' R.bn (pL (n+1))->K (cB true) m' h)
def Tw(N:Nat):Vc.Spec:=λcvs m h K=>∃v q,∃k l:Nat,∃R n,cvs=[aQ v,cI (9-k),yv l]/\dK h q v/\SizeOf.sizeOf q<N/\k<=9/\uV m l R n/\0<=n/\n<=24/\
 (∀m',(rG q k n).1=false->vZ m m' l R->K (cB false) m' h)/\(∀m',(rG q k n).1=true->fV m m' R.bn (pL (rG q k n).2)->K (cB true) m' h)
def Tr(b:Nat):CV:=.val (.pointer (some ⟨b,0,none⟩))
def akX:Vc.Spec:=λcvs m h K=>∃v q l bq R,cvs=[yv l,Tr bq]/\m bq=some (.cells ⟨v.enc⟩ 38 (0,0))/\dK h q v/\uV m l R 0/\
 (∀m',(rG q 8 0).1=false->vZ m m' l R->K (.tup []) m' h)/\(∀m',(rG q 8 0).1=true->fV m m' R.bn (pL (rG q 8 0).2)->K (.tup []) m' h)
def Ns:Vc.Spec:=λcvs m h K=>∃v,cvs=[aQ v]/\∀b m',cM m h b->fV m m' b (.cells ⟨v.enc⟩ 38 (0,0))->K (.val (.func (.func 114) #[] #[.pointer (some ⟨b,0,none⟩)])) m' h
noncomputable def Xv(N:Nat)(v:QV)(k l:Nat)(h:PH):Ctx:=
 {dN [(115,Tw N)] [(4,{A:=Nat×MH,st:=λ⟨i,m⟩=>cE 28 31 [(1,iv (9-k)),(2,vv (.func (.yield l) #[] #[])),(15,sv v.args),(16,iv v.args.len),(17,iv i)] [] m h})] [] [] false with yield:=some YS}
abbrev Jq(a:List CV->MH->PH->(CV->MH->PH->Prop)->Prop):Prop:=HU Proofs.Tryz.prog a
noncomputable abbrev An(a:Nat):CV:=CV.val (Value.func (Fn.yield a) rW rW)
abbrev B7(a:Nat):Prop:=eQ (F9 (Fn.yield a) rW)
noncomputable abbrev xT(a:QV)(b:Int)(c:Nat):List CV:=bT a.enc (bI (fK b) (An c))
attribute [push_cast] Jq An B7 xT
def M3(N:Nat)(v:QV)(k l:Nat)(m:MH)(h:PH)(K:CV->MH->PH->Prop):Prop:=
  Jq YS/\L4 (λl1 l2=>∃(v1:QV)(R:LR)(n:Int),aA (An l::bI (fK (pX k)) (bJ v)=An l1::bI (fK l2) (bJ v1)) (uV m l1 R n) (aA (cN n) (n<=24) ((∀(m1:MH),bC (24<n+1\/8<l2) (vZ m m1 l1 R) (K bA m1 h))/\∀(m1:MH),bC (jU (24<n+1\/8<l2)) (bE m m1 R.bn (cK (n+1)) 3) (∃(I:Nat×MH->Prop)(m2:Nat×MH->Nat),(∃(x:Nat×MH),aA (I x) (kW (pX k)) (aA (B7 l) (aK v.args) (aA (bK v.args) (bG x.1) (aA (m1=x.2) (h=h) True))))/\∀(x:Nat×MH),I x->bD (↑x.1:Int) (aG v.args) (aT (λb o=>aH (aU v.args.a b o) (0<=(↑x.1:Int)) ((↑x.1:Int)<aG v.args) (∃(y:QV),aM x.2 h b (bB o x.1 21) y.enc/\kK (λv2 q=>aT (λk1 l3=>∃(R1:LR)(n1:Int),aA (xT y (eB (pX k+1)) l=
 xT v2 (pX k1) l3) (dK h q v2) (aA (sN q N) (k1<=9) (aA (uV x.2 l3 R1 n1) (cN n1) (aA (n1<=24) (∀(m3:MH),bC ((rG q k1 n1).1=false) (vZ x.2 m3 l3 R1) (K bA m3 h)) (∀(m3:MH),bC (nD (rG q k1 n1).1) (bE x.2 m3 R1.bn (cK (rG q k1 n1).2) 3) (∃(x1:Nat×MH),aA (I x1) (m2 x1<m2 x) (aA (kW (pX k)) (B7 l) (aA (aK v.args) (bK v.args) (aA (gS (aW x.1 1)=bX x1.1) (m3=x1.2) (dC h h)))))))))))))) (K gE x.2 h)))))
abbrev BK(a:MH)(b:Nat->Nat->Option Value)(c:Nat)(d:QV->Prop):Prop:=∃(x:QV),aM a b c 0 x.enc/\d x
attribute [push_cast] BK
def V7(N:Nat)(l bq:Nat)(m:MH)(h:PH)(K:CV->MH->PH->Prop):Prop:=
  BK m h bq (λy=>kK (λv q=>aT (λk l1=>∃(R:LR)(n:Int),aA (xT y 1 l=xT v (pX k) l1) (dK h q v) (aA (sN q N) (k<=9) (aA (uV m l1 R n) (cN n) (aA (n<=24) (∀(m1:MH),bC ((rG q k n).1=false) (vZ m m1 l1 R) (K (CV.tup []) m1 h)) (∀(m1:MH),bC (nD (rG q k n).1) (bE m m1 R.bn (cK (rG q k n).2) 3) (K (CV.tup []) m1 h))))))))
noncomputable abbrev Bz(a:Nat):Array Value:=Array.mk (j6 (Yg a 0))
attribute [push_cast] Bz
def KE(v:QV)(m:MH)(h:PH)(K:CV->MH->PH->Prop):Prop:=
  ∀(b:Nat)(m1:MH),bC (cM m h b) (bE m m1 b v.enc 38) (K (CV.val (Value.func (Fn.func 114) rW (Bz b))) m1 h)
theorem QQ(hY:HU Tryz.prog YS):∀N,Sound Tryz.prog 115 (Tw N)
 |0=>by
  refine fA (fn:=Tryz.f115) (c:=cQ Tryz.f115) Tryz.func115 rfl (by decide) ?_;rintro cvs m h K ⟨v,q,k,l,R,n,rfl,_,hN,_⟩;omega
 |N+1=>by
  refine iJ Tryz.func115 ?_;rintro cvs m h K ⟨v,q,k,l,R,n,rfl,hq,hN,hk,hL,h0,h1,hf,ht⟩;refine⟨Xv N v k l h,rfl,aD (QQ hY N) aF,M3 N v k l m h K,by kernel_rfl,?_⟩;dsimp only[M3,push_cast];have hargs:=hq.args;have hlen:=hargs.slen;have hl:=hargs.len;refine⟨hY,l,9-k,v,R,n,rfl,hL,h0,h1,λm' hc hs=>hf m' ?_ hs,λm' hc hu=>?_⟩
  .cases q;simp only[rG];rw[if_pos aC]
  have hc:¬(24<n+1\/8<9-(k:Int)):=hc;have hu':fV m m' R.bn (pL (n+1)):=hu;have hv:rG q k n=Cm q.args (k-1) (n+1):=by cases q;simp only[rG,Query.args];rw[if_neg aC]
  rw[hv]at hf ht;refine⟨λ⟨i,mx⟩=>∃n',i<=q.args.length/\0<=n'/\n'<=24/\fV m mx R.bn (pL n')/\Cm (q.args.drop i) (k-1) n'=Cm q.args (k-1) (n+1),λ⟨i,_⟩=>q.args.length-i,⟨(0,m'),⟨n+1,aC,aC,aC,hu',by simp⟩,MT⟩,?_⟩;rintro⟨i,mx⟩ ⟨n',hi,hn0,hn1,hmx,he⟩;dsimp only;refine aE (λhlt=>?_) (λhge=>?_)
  .obtain⟨p,hp⟩:=fI hlen hlt;obtain⟨b,o,u,ea,hrd,hru⟩:=hargs.at hp;have hd:=drop_cons hp;rw[hd,Cm]at he;refine⟨b,o,ea,aC,hlt,u,.imm hrd,u,p,k-1,l,R,n',?_,hru,?_,aC,hL.next hmx,hn0,hn1,λm2 hx hs=>?_,λm2 hx hu2=>?_⟩
   .rw[dX aC aC,show(9-((k-1:Nat):Int))=9-(k:Int)+1 by omega]
   .have:=AY (List.mem_of_getElem? hp);omega
   .refine hf m2 ?_ (hs.from hmx);rw[<-he];cases e:rG p (k-1) n' with
    |mk r x=>rw[e]at hx;simp only at hx;subst hx;rfl
   .have hu2':fV mx m2 R.bn (pL (rG p (k-1) n').2):=hu2;have hs:=NA p (k-1) n' hn1;have hs1:=hs.1.1 hx;have hs2:=hs.2 hx;have hp1:=NH p;cases e:rG p (k-1) n' with
    |mk r x=>
     rw[e]at hx he hs2 hu2';simp only at hx hs2 hu2';subst hx;exact⟨(i+1,m2),⟨x,aC,aC,aC,hmx.trans hu2',he⟩,by show q.args.length-(i+1)<q.args.length-i;omega,MT⟩
  .rw[List.drop_of_length_le aC,Cm]at he;rw[<-he]at ht;exact ht mx rfl hmx
theorem S9(hY:HU Tryz.prog YS):Sound Tryz.prog 114 akX:=by
 refine iJ Tryz.func114 ?_;rintro cvs m h K ⟨v,q,l,bq,R,rfl,hb,hq,hL,hf,ht⟩;refine⟨dN [(115,Tw (SizeOf.sizeOf q+1))] [] [] [] false,rfl,aD (QQ hY _) aF,V7 (SizeOf.sizeOf q+1) l bq m h K,by kernel_rfl,?_⟩;exact⟨v,.of_m hb rfl,v,q,8,l,R,0,rfl,hq,aC,aC,hL,aC,aC,hf,ht⟩
theorem Vu:Sound Tryz.prog 80 Ns:=by
 refine iJ Tryz.func80 ?_;rintro cvs m h K ⟨v,rfl,hK⟩;refine⟨dN [] [] [] [] false,rfl,aF,KE v m h K,by kernel_rfl,?_⟩;exact hK
end Go.Ps
