/-
  Part 4 of a proof that a law of the given program returns true: a condition generator that is proved sound, and contracts of functions. No condition of its own. Own work, joined by a program (pack2.py).
-/
import Derived.Test.YtileehgdfcknkaaGreatDoorJc
set_option linter.unusedVariables false
set_option linter.unusedSimpArgs false
namespace Go.Ps
open Go Go.Vc Go.Proofs
variable{K:CV->MH->PH->Prop}{m:MH}{h:PH}{s:oS}{ps:List Int}{cb:Nat}{sc:aW}{v:QV}{q:Query}{p:Pred}{l:List Int}{i:Nat}{N:Nat}{m':MH}{h':PH}{co:List Int}{gr:List Int}{od:List (Int×Bool)}{w:Pred}{ta:Int}{li:Int}{xs:List (List Value)}{sz:Nat}{k:Nat}{ks:List (List Int)}{rs:List Int}{r:Sl}{a:List Int}{b:Nat}
def fv(f:Nat):CV:=.val (.func (.func f) #[] #[])
def MJ:Vc.Spec:=λcvs m h K=>∃op,cvs=[cI op]/\
 branch (op==1) (K (fv 139) m h) (branch (op==2) (K (fv 140) m h) (branch (op==3) (K (fv 141) m h) (branch (op==4) (K (fv 142) m h) (branch (op==5) (K (fv 143) m h) (branch (op==6) (K (fv 144) m h) (branch (op==7) (K (fv 144) m h) (branch (op==8) (K (fv 144) m h) (branch (op==9) (K (fv 145) m h) (branch (op==10) (K (fv 146) m h) (K (.val .nilFunc) m h))))))))))
noncomputable def XK(N:Nat)(sc:aW)(p:Sl)(v:QV)(m:MH):Ctx:=
 dM [(81,BN N),(116,MJ),(139,wF (· =1)),(140,wF (· =2)),(141,wF (· =3)),(142,wF (· =4)),(143,wF (· =5)),(144,wF (λop=>op=6\/op=7\/op=8)),(145,wF (· =9)),(146,wF (· =10))] [(3,{A:=Nat×List Sl×PH,st:=λ⟨i,ss,h⟩=>cE 62 65 [(1,sv p),(3,.at (.ptr 3 0)),(5,.at (.ptr 5 0)),(8,.at (.ptr 8 0)),(21,sv v.args),(22,iv v.args.len),(23,iv i)] [(3,.cells 43 (sc.enc.map .val)),(5,.cells 38 (v.enc.map .val)),(8,.cells 152 ((sc.enc++eS p++v.enc).map .val++[.lst 41])),(41,.lst 33 1 (ss.map eS))] m h})] [] [] false
noncomputable abbrev IX:List Value:=iP Value.nilFunc
attribute [push_cast] IX
def Hi(op:Int)(m:MH)(h:PH)(K:CV->MH->PH->Prop):Prop:=
  ∀(b:Nat)(m1:MH),bO (cF m h b) (bH m m1 b (aI Value.nilFunc Value.nilFunc (aI Value.nilFunc Value.nilFunc (aI Value.nilFunc Value.nilFunc (aI Value.nilFunc Value.nilFunc (aI Value.nilFunc Value.nilFunc IX))))) 183) (gL (λc E=>aA (vA m1 b (eU c E 0)) (11<=c.size) (∀(m2:MH),bH m1 m2 b (aI Value.nilFunc (kX 139) (aI (kX 140) (kX 141) (aI (kX 142) (kX 143) (aI (kX 144) (kX 144) (aI (kX 144) (kX 145) (eT (kX 146) 11 c)))))) E->bC op 0 (K (CV.val Value.nilFunc) m2 h) (fR op 11 (K (CV.val Value.nilFunc) m2 h) (aA (cD op) (op<11) (∃(y:Option Nat),aM m2 h b (fN 0 op 1) (iP (WA y))/\K (CV.val (WA y)) m2 h))))))
abbrev sM(a:Nat×List Sl×PH)(b:aW)(c:Sl)(d:QV)(e:Sl->List Value)(g:NV->List CV)(i:Query->Prop)(j:PH->(List Int×Int)->Prop):Prop:=cC (λx x1=>bJ (kW a) x1 (a8 x1 x 1 (sF a)) (∃(x2:NV),A3 (λx3 x4 x5 x6=>aA (kA (kN (aI (qL b) (qK b) (aI (dO c) (dK d.op) (aI (mQ d) (mP d) (aI (dK (mR d)) (fW (gE d)) (e x))))))=g x2) (rN x1 x3 x4 x5 x6 x2) (aA (oU x3) (i x5) (∀(x7:List Int×Int),fin x7=wE x3 x4 x5 x6->j x1 x7)))))
noncomputable abbrev sP(a:QV)(b:List Value):List Value:=aI (sA (gE a)) (dK (nM (gE a))) (aI (nH (gE a)) (lU (gE a)) (aI (fW (fA a)) (sA (fA a)) (aI (dK (nM (fA a))) (nH (fA a)) b)))
abbrev sG(a:PH)(b:List Int×Int)(c:CV->MH->PH->Prop)(d:MH):Prop:=cC (λx x1=>bJ a x1 (Ints x1 x b.1) (cR (b.2 !=0) (c (CV.tup (aY mW b.2)) d x1) (decide (aG x>12)) (c (CV.tup (aY mW 2)) d x1) (c (CV.tup (aY (cW x) 0)) d x1)))
attribute [push_cast] sM sP sG
def Pp(N:Nat)(sc:aW)(p:Sl)(v:QV)(m:MH)(h:PH)(K:CV->MH->PH->Prop):Prop:=
  ∃(I:Nat×List Sl×PH->Prop)(m1:Nat×List Sl×PH->Nat),(∃(x:Nat×List Sl×PH),aA (I x) (aJ p) (aA (eP 3) (eP 5) (aA (eP 8) (aJ v.args) (aA (bN v.args) (bD x.1) (aA (bV sc) (fD v) (aA (IU sc (fU (oT p) (jE v.op) (IT v (jG (At.lst 41))))) (rF 33 1 (sF x)) (dR m m h (kW x))))))))/\∀(x:Nat×List Sl×PH),I x->bC (↑x.1:Int) (aG v.args) (aU (λb o=>aA (aX v.args.a b o) (0<=(↑x.1:Int)) ((↑x.1:Int)<aG v.args/\∃(y:QV),aM m (kW x) b (bM o x.1 21) y.enc/\Fl sc p y (kW x) (λv1 s p1 q=>aA (dA (kW x) q v1) (rC q N) (cC (λs1 h1=>bJ (kW x) h1 (Ints h1 s1 (bY s p1 q).1) (dT (bY s p1 q).2 0 (K (CV.tup (aT mW (CV.val (dK (bY s p1 q).2)))) m h1) (oM (sF x) 24 (∃(x1:Nat×List Sl×PH),aA (I
 x1) (m1 x1<m1 x) (aA (aJ p) (eP 3) (aA fZ (eP 8) (aA (aJ v.args) (bN v.args) (aA (fM (bE x.1 1)=bX x1.1) (bV sc) (aA (fD v) (IU sc (fU (oT p) (jE v.op) (IT v (jG (At.lst 41))))) (cT (Option.some (Own.lst 33 1 (dU (sF x) (aR s1)))=Option.some (Own.lst 33 1 (sF x1))) m m h1 (kW x1)))))))))))))))) (jW v.op (λo=>cR (o==1) (sM x sc p v (λs=>sP v (aI (lU (fA v)) (oA v) (aI (oD v) (dO v.on) (aI (rK v) (rL v) (aI (dK v.limit) (tT v) (aR s)))))) (λn=>iG n (fC n (fB n))) (λq=>q.op=1) (λh1 r=>sG h1 r K m)) (o==2) (sM x sc p v (λs=>sP v (aI (lU (fA v)) (oA v) (aI (oD v) (dO v.on) (aI (rK v) (rL v) (aI (dK v.limit) (tT v) (aR s)))))) (λn=>iG n (fC n
 (fB n))) (λq=>q.op=2) (λh1 r=>sG h1 r K m)) (cR (o==3) (sM x sc p v (λs=>sP v (aI (lU (fA v)) (oA v) (aI (oD v) (dO v.on) (aI (rK v) (rL v) (aI (dK v.limit) (tT v) (aR s)))))) (λn=>iG n (fC n (fB n))) (λq=>q.op=3) (λh1 r=>sG h1 r K m)) (o==4) (sM x sc p v (λs=>sP v (aI (lU (fA v)) (oA v) (aI (oD v) (dO v.on) (aI (rK v) (rL v) (aI (dK v.limit) (tT v) (aR s)))))) (λn=>iG n (fC n (fB n))) (λq=>q.op=4) (λh1 r=>sG h1 r K m)) (cR (o==5) (sM x sc p v (λs=>sP v (aI (lU (fA v)) (oA v) (aI (oD v) (dO v.on) (aI (rK v) (rL v) (aI (dK v.limit) (tT v) (aR s)))))) (λn=>iG n (fC n (fB n))) (λq=>q.op=5) (λh1 r=>
 sG h1 r K m)) (o==6) (sM x sc p v (λs=>sP v (aI (lU (fA v)) (oA v) (aI (oD v) (dO v.on) (aI (rK v) (rL v) (aI (dK v.limit) (tT v) (aR s)))))) (λn=>iG n (fC n (fB n))) (λq=>q.op=6\/q.op=7\/q.op=8) (λh1 r=>sG h1 r K m)) (cR (o==7) (sM x sc p v (λs=>sP v (aI (lU (fA v)) (oA v) (aI (oD v) (dO v.on) (aI (rK v) (rL v) (aI (dK v.limit) (tT v) (aR s)))))) (λn=>iG n (fC n (fB n))) (λq=>q.op=6\/q.op=7\/q.op=8) (λh1 r=>sG h1 r K m)) (o==8) (sM x sc p v (λs=>sP v (aI (lU (fA v)) (oA v) (aI (oD v) (dO v.on) (aI (rK v) (rL v) (aI (dK v.limit) (tT v) (aR s)))))) (λn=>iG n (fC n (fB n))) (λq=>q.op=6\/q.op=7\/q.op=8)
 (λh1 r=>sG h1 r K m)) (cR (o==9) (sM x sc p v (λs=>sP v (aI (lU (fA v)) (oA v) (aI (oD v) (dO v.on) (aI (rK v) (rL v) (aI (dK v.limit) (tT v) (aR s)))))) (λn=>iG n (fC n (fB n))) (λq=>q.op=9) (λh1 r=>sG h1 r K m)) (o==10) (sM x sc p v (λs=>sP v (aI (lU (fA v)) (oA v) (aI (oD v) (dO v.on) (aI (rK v) (rL v) (aI (dK v.limit) (tT v) (aR s)))))) (λn=>iG n (fC n (fB n))) (λq=>q.op=10) (λh1 r=>sG h1 r K m)) (K (CV.tup (aY mW 100)) m (kW x))))))))
theorem R5:Sound Tryz.prog 116 MJ:=by
 refine FW Tryz.func116 ?_;rintro cvs m h K ⟨op,rfl,hK⟩;refine⟨vK [] [] [] [] [183] [] false,rfl,aF,Hi op m h (kO h K),by kernel_rfl,?_⟩;show Hi op m h (kO h K);dsimp only[Hi,push_cast];intro b m1 hb hm1;refine⟨_,_,⟨hm1.at_⟩,by decide,λm2 hm2=>?_⟩;have hsub:Sub m m2:=((Sub.refl m).upd hb.m_ hm1.other).upd hb.m_ hm2.other;have e:=hm2.at_
 have none_:∀k,¬(1<=op/\op<=10)->op=k->K (.val .nilFunc) m h:=λk hn _=>by
  have:(op==1)=false/\(op==2)=false/\(op==3)=false/\(op==4)=false/\(op==5)=false/\(op==6)=false/\(op==7)=false/\(op==8)=false/\(op==9)=false/\(op==10)=false:=by
   simp only[beq_eq_false_iff_ne];omega
  obtain⟨e1,e2,e3,e4,e5,e6,e7,e8,e9,e10⟩:=this;rw[e1,e2,e3,e4,e5,e6,e7,e8,e9,e10]at hK;exact hK
 refine aE (λh1=>.sub hsub (none_ _ aC rfl)) (λh1=>aE (λh2=>.sub hsub (none_ _ aC rfl)) (λh2=>⟨aC,aC,?_⟩));have:op=0\/op=1\/op=2\/op=3\/op=4\/op=5\/op=6\/op=7\/op=8\/op=9\/op=10:=by omega
 rcases this with rfl|rfl|rfl|rfl|rfl|rfl|rfl|rfl|rfl|rfl|rfl
 .exact⟨none,.lent _ _ _ e rfl,.sub hsub (none_ 0 aC rfl)⟩
 .exact⟨some 139,.lent _ _ _ e rfl,.sub hsub hK⟩
 .exact⟨some 140,.lent _ _ _ e rfl,.sub hsub hK⟩
 .exact⟨some 141,.lent _ _ _ e rfl,.sub hsub hK⟩
 .exact⟨some 142,.lent _ _ _ e rfl,.sub hsub hK⟩
 .exact⟨some 143,.lent _ _ _ e rfl,.sub hsub hK⟩
 .exact⟨some 144,.lent _ _ _ e rfl,.sub hsub hK⟩
 .exact⟨some 144,.lent _ _ _ e rfl,.sub hsub hK⟩
 .exact⟨some 144,.lent _ _ _ e rfl,.sub hsub hK⟩
 .exact⟨some 145,.lent _ _ _ e rfl,.sub hsub hK⟩
 .exact⟨some 146,.lent _ _ _ e rfl,.sub hsub hK⟩
theorem RQ:Sound Tryz.prog 139 (wF (· =1)):=by
 refine iB Tryz.func139 ?_;rintro cvs m h K ⟨n,s,ps,q,ks,rfl,hn,h8,hop,hT⟩;obtain⟨op,ta,w,co,on,gr,od,li,args⟩:=q;refine⟨dM [(177,zY),(72,vN)] [] [] [] false,rfl,(aD rM (aD LF aF)),DL n m h K,by kernel_rfl,?_⟩;dsimp only[DL,push_cast];cases (show op=1 from hop);exact Yn hn h8 ⟨hT⟩
theorem RP:Sound Tryz.prog 140 (wF (· =2)):=by
 refine iB Tryz.func140 ?_;rintro cvs m h K ⟨n,s,ps,q,ks,rfl,hn,h8,hop,hT⟩;obtain⟨op,ta,w,co,on,gr,od,li,args⟩:=q;refine⟨dM [(177,zY),(113,rO)] [] [] [] false,rfl,(aD rM (aD Km aF)),DK n m h K,by kernel_rfl,?_⟩;dsimp only[DK,push_cast];cases (show op=2 from hop);exact Yl hn ⟨hT⟩
theorem RO:Sound Tryz.prog 141 (wF (· =3)):=by
 refine iB Tryz.func141 ?_;rintro cvs m h K ⟨n,s,ps,q,ks,rfl,hn,h8,hop,hT⟩;obtain⟨op,ta,w,co,on,gr,od,li,args⟩:=q;refine⟨Wi n m h,rfl,(aD rM aF),DJ n m h K,by kernel_rfl,?_⟩;dsimp only[DJ,push_cast];cases (show op=3 from hop);exact Yk hn ⟨hT⟩
theorem RN(h101:Sound Tryz.prog 179 Jg):Sound Tryz.prog 142 (wF (· =4)):=by
 refine iB Tryz.func142 ?_;rintro cvs m h K ⟨n,s,ps,q,ks,rfl,hn,h8,hop,hT⟩;obtain⟨op,ta,w,co,on,gr,od,li,args⟩:=q;refine⟨dM [(178,KF),(179,Jg)] [] [] [] false,rfl,(aD Ki (aD h101 aF)),DI n m h K,by kernel_rfl,?_⟩;dsimp only[DI,push_cast];cases (show op=4 from hop);exact Yj hn ⟨hT⟩
theorem RM:Sound Tryz.prog 143 (wF (· =5)):=by
 refine iB Tryz.func143 ?_;rintro cvs m h K ⟨n,s,ps,q,ks,rfl,hn,h8,hop,hT⟩;obtain⟨op,ta,w,co,on,gr,od,li,args⟩:=q;refine⟨dM [(178,KF)] [] [] [] false,rfl,(aD Ki aF),DH n m h K,by kernel_rfl,?_⟩;dsimp only[DH,push_cast];cases (show op=5 from hop);exact Yi hn ⟨hT⟩
theorem RL:Sound Tryz.prog 144 (wF (λop=>op=6\/op=7\/op=8)):=by
 refine iB Tryz.func144 ?_;rintro cvs m h K ⟨n,s,ps,q,ks,rfl,hn,h8,hop,hT⟩;obtain⟨op,ta,w,co,on,gr,od,li,args⟩:=q;refine⟨dM [(177,zY),(180,AH)] [] [] [] false,rfl,(aD rM (aD Ev aF)),Hf n m h K,by kernel_rfl,?_⟩;exact Yh hop hn ⟨hT⟩
theorem RJ:Sound Tryz.prog 145 (wF (· =9)):=by
 refine iB Tryz.func145 ?_;rintro cvs m h K ⟨n,s,ps,q,ks,rfl,hn,h8,hop,hT⟩;obtain⟨op,ta,w,co,on,gr,od,li,args⟩:=q;refine⟨dM [(177,zY),(181,KB),(182,KC)] [] [] [] false,rfl,(aD rM (aD Kh (aD Kg aF))),DG n m h K,by kernel_rfl,?_⟩;dsimp only[DG,push_cast];cases (show op=9 from hop);exact Yg hn ⟨hT⟩
theorem RI:Sound Tryz.prog 146 (wF (· =10)):=by
 refine iB Tryz.func146 ?_;rintro cvs m h K ⟨n,s,ps,q,ks,rfl,hn,h8,hop,hT⟩;obtain⟨op,ta,w,co,on,gr,od,li,args⟩:=q;refine⟨dM [(177,zY),(180,AH),(181,KB),(182,KC)] [] [] [] false,rfl,(aD rM (aD Ev (aD Kh (aD Kg aF)))),DF n m h K,by kernel_rfl,?_⟩;dsimp only[DF,push_cast];cases (show op=10 from hop);exact Yf hn ⟨hT⟩
theorem Th(h101:Sound Tryz.prog 179 Jg):∀N,Sound Tryz.prog 81 (BN N)
 |0=>by
  refine eD (fn:=Tryz.f81) (c:=dJ Tryz.f81) Tryz.func81 rfl (by decide) ?_;rintro cvs m h K ⟨sc,p,v,s,ps,q,rfl,_,_,_,_,hN,_⟩;omega
 |N+1=>by
  refine iB Tryz.func81 ?_;rintro cvs m h K ⟨sc,p,v,s,ps,q,rfl,hs,h8,hp,hq,hN,hK⟩;refine⟨XK N sc p v m,rfl,(aD (Th h101 N) (aD R5 (aD RQ (aD RP (aD RO (aD (RN h101) (aD RM (aD RL (aD RJ (aD RI aF)))))))))),Pp N sc p v m h K,by kernel_rfl,?_⟩;dsimp only[Pp,push_cast];have hlt:=@Cd q;have hqr:=hq;obtain⟨op,ta,w,co,on,gr,od,li,args⟩:=q;have x:=hq.parts;have e0:=x.op_;have hl:=x.args_.slen;have hlen:=x.args_.len;simp only[Query.args]at hlt;simp only[bY]at hK;refine⟨λ⟨i,ss,hx⟩=>i<=args.length/\PH.le h hx/\∃ks,Slices hx ss ks/\(args.take i).map (bY s ps)=ks.map (λk=>(k,0)),λ⟨i,_,_⟩=>args.length-i,⟨(0,[],h),⟨aC,.refl _,[],⟨rfl,λj s k h1=>by simp at h1⟩,by simp⟩,MT⟩,?_⟩;rintro⟨i,ss,hx⟩ ⟨hi,hle,ks,hS,hks⟩;have hkl:ks.length=i:=by have:=congrArg List.length hks;simp at this;omega
  have hsl:ss.length=i:=by rw[hS.1,hkl]
  dsimp only;refine aE (λhlt2=>?_) (λhge=>?_)
  .obtain⟨q',hq'⟩:=fG hl hlt2;obtain⟨b1,o1,u,ea1,r1,hru⟩:=(x.args_.mono hle).at hq';refine⟨b1,o1,ea1,aC,hlt2,u,.imm r1,sc,p,u,s,ps,q',rfl,hs.mono hle,h8,hp.mono hle,hru,?_,λsl h' hle' hi'=>aB (λh1=>?_) (λh1=>?_)⟩
   .have:=hlt (List.mem_of_getElem? hq');omega
   .have he:(bY s ps q').2≠0:=by simpa using h1
    rw[Cu he hks hq' rfl]at hK;exact hK.err (hle.trans hle') (if_neg he)
   .have he:(bY s ps q').2=0:=by simpa using h1
    refine⟨by simp;omega,by simp;omega,(i+1,ss++[sl],h'),⟨aC,hle.trans hle',ks++[(bY s ps q').1],(hS.mono hle').snoc hi',?_⟩,by show args.length-(i+1)<args.length-i;omega,?_⟩
    .rw[fL hq',hks,List.map_append];simp only[List.map_cons,List.map_nil];rw[<-he]
    .rw[List.map_append];exact MT
  .rw[List.take_of_length_le aC]at hks;rw[yB hks]at hK;simp only[if_true]at hK;have hK:KR K m h (wE s ps (.mk op ta w co on gr od li args) ks):=hK
   have hrep:∀(sl:Sl)(h':PH),PH.le hx h'->a8 h' sl 1 (ss.map eS)->rN h' s ps (.mk op ta w co on gr od li args) ks ⟨sc,p,v,sl⟩:=λsl h' hle' hrow=>by
    refine⟨(hs.mono hle).mono hle',(hp.mono hle).mono hle',(hqr.mono hle).mono hle',⟨⟨ss,hrow,hS.1.symm,λj k hk=>?_⟩,aC⟩,λk hk=>?_⟩
    .have hj:j<ss.length:=by rw[hS.1];exact(List.getElem?_eq_some_iff.1 hk).1
     exact⟨ss[j],List.getElem?_eq_getElem hj,(hS.2 j _ _ (List.getElem?_eq_getElem hj) hk).mono hle'⟩
    .obtain⟨j,hj⟩:=List.mem_iff_getElem?.1 hk;have:=GN hks j
     rwa [List.getD_eq_getElem?_getD,hj]at this
   have tail:∀(h':PH),PH.le hx h'->∀r,fin r=wE s ps (.mk op ta w co on gr od li args) ks->∀(sl:Sl)(h'':PH),PH.le h' h''->Ints h'' sl r.1->
    branch (r.2 !=0) (K (.tup [.val (.slice none 0 0),.val (.int .i64 r.2)]) m h'') (branch (decide ((sl.len:Int)>12)) (K (.tup [.val (.slice none 0 0),.val (.int .i64 2)]) m h'') (K (.tup [.val (.slice sl.a sl.len sl.cap),.val (.int .i64 0)]) m h'')):=by
    intro h' hle' r hr sl h'' hle2 hi';have hl3:PH.le h h'':=(hle.trans hle').trans hle2;rw[<-hr]at hK;have hsl:=hi'.slen;refine aB (λd1=>?_) (λd1=>aE (λd2=>?_) (λd2=>?_))
    .have d1:r.2≠0:=by simpa using d1
     exact hK.err hl3 (by unfold fin;rw[if_neg d1])
    .have d1:r.2=0:=by simpa using d1
     exact hK.big (l:=r.1) hl3 (by unfold fin;rw[if_pos d1]) aC
    .have d1:r.2=0:=by simpa using d1
     exact hK.ok (l:=r.1) hl3 (by unfold fin;rw[if_pos d1]) aC hi'.row
   refine⟨v.op,rfl,?_⟩;rw[e0];refine aB (λc1 sl h' hle' hrow=>⟨⟨sc,p,v,sl⟩,s,ps,_,ks,by rw[<-e0],hrep sl h' hle' hrow,h8,beq_iff_eq.1 c1,tail h' hle'⟩) (λc1=>?_);refine aB (λc2 sl h' hle' hrow=>⟨⟨sc,p,v,sl⟩,s,ps,_,ks,by rw[<-e0],hrep sl h' hle' hrow,h8,beq_iff_eq.1 c2,tail h' hle'⟩) (λc2=>?_);refine aB (λc3 sl h' hle' hrow=>⟨⟨sc,p,v,sl⟩,s,ps,_,ks,by rw[<-e0],hrep sl h' hle' hrow,h8,beq_iff_eq.1 c3,tail h' hle'⟩) (λc3=>?_);refine aB (λc4 sl h' hle' hrow=>⟨⟨sc,p,v,sl⟩,s,ps,_,ks,by rw[<-e0],hrep sl h' hle' hrow,h8,beq_iff_eq.1 c4,tail h' hle'⟩) (λc4=>?_);refine aB (λc5 sl h' hle' hrow=>⟨⟨sc,p,v,sl⟩,s,ps,_,ks,by rw[<-e0],hrep sl h' hle' hrow,h8,beq_iff_eq.1 c5,tail h' hle'⟩) (λc5=>?_);refine aB (λc6 sl h' hle' hrow=>⟨⟨sc,p,v,sl⟩,s,ps,_,ks,by rw[<-e0],hrep sl h' hle' hrow,h8,.inl (beq_iff_eq.1 c6),tail h' hle'⟩) (λc6=>?_);refine aB (λc7 sl h' hle' hrow=>⟨⟨sc,p,v,sl⟩,s,ps,_,ks,by rw[<-e0],hrep sl h' hle' hrow,h8,.inr (.inl (beq_iff_eq.1 c7)),tail h' hle'⟩) (λc7=>?_);refine aB (λc8 sl h' hle' hrow=>⟨⟨sc,p,v,sl⟩,s,ps,_,ks,by rw[<-e0],hrep sl h' hle' hrow,h8,.inr (.inr (beq_iff_eq.1 c8)),tail h' hle'⟩) (λc8=>?_);refine aB (λc9 sl h' hle' hrow=>⟨⟨sc,p,v,sl⟩,s,ps,_,ks,by rw[<-e0],hrep sl h' hle' hrow,h8,beq_iff_eq.1 c9,tail h' hle'⟩) (λc9=>?_);refine aB (λc10 sl h' hle' hrow=>⟨⟨sc,p,v,sl⟩,s,ps,_,ks,by rw[<-e0],hrep sl h' hle' hrow,h8,beq_iff_eq.1 c10,tail h' hle'⟩) (λc10=>hK.err hle ?_);refine tC λe=>?_;have:arity op= -1:=by simp only[arity];simp only[*,Bool.or_false,Bool.false_or,Bool.or_true,Bool.true_or,Bool.and_true,Bool.true_and,Bool.and_false,Bool.false_and,Bool.not_true,Bool.not_false,Bool.false_eq_true,if_true,if_false, ↓reduceIte]
   have:=e.1;simp only[Query.op]at this;omega
def eV:PV:=⟨0,0,cM,cM,⟨none,0,0⟩⟩
def cL(h:PH)(s:Sl)(l:List VV):Prop:=bZ h 3 VV.enc Eq s l
theorem cL.mono{s:Sl}{l:List VV}(x:cL h s l)(le:PH.le h h'):cL h' s l:=bZ.mono x le λ_ _ e=>e
def z6:QV:=⟨0,0,eV,⟨none,0,0⟩,⟨none,0,0⟩,⟨none,0,0⟩,⟨none,0,0⟩,0,⟨none,0,0⟩⟩
theorem Vy(l:List QV):dY 21 (l.map QV.enc):=by
 constructor
 .intro e he;obtain⟨x,_,rfl⟩:=List.mem_map.1 he;rfl
 .intro e he u hu;obtain⟨x,_,rfl⟩:=List.mem_map.1 he;simp[QV.enc]at hu;rcases hu with rfl|rfl|rfl|rfl|rfl|rfl|rfl|rfl|rfl|rfl|rfl|rfl|rfl|rfl|rfl|rfl|rfl|rfl|rfl|rfl|rfl<;>rfl
mutual
def Vb:Pred->Nat
 |.mk _ _ _ _ args=>1+Gd args
def Gd:List Pred->Nat
 |[]=>0
 |p::ps=>Vb p+Gd ps
end
mutual
def Sh:Pred->Nat
 |.mk _ _ _ _ args=>1+H2 args
def H2:List Pred->Nat
 |[]=>0
 |p::ps=>max (Sh p) (H2 ps)
end
mutual
theorem Eh:∀(p:Pred)(n:Int),mH p n<=n+Vb p
 |.mk _ _ _ _ args,n=>by
  have:=HO args (n+1);simp only[mH,Vb];omega
theorem HO:∀(ps:List Pred)(n:Int),jF ps n<=n+Gd ps
 |[],n=>by simp[jF,Gd]
 |p::ps,n=>by
  have h1:=Eh p n;have h2:=HO ps (mH p n);simp only[jF,Gd];split<;>omega
end
mutual
theorem CL:∀(p:Pred)(n:Nat),Sh p<=n->kM p n=false
 |.mk _ _ _ _ args,0,h=>by simp only[Sh]at h;omega
 |.mk _ _ _ _ args,n+1,h=>by
  simp only[Sh]at h;simp only[kM];exact Ga args n aC
theorem Ga:∀(ps:List Pred)(n:Nat),H2 ps<=n->qP ps n=false
 |[],_,_=>rfl
 |p::ps,n,h=>by
  simp only[H2]at h;simp only[qP,CL p n aC,Ga ps n aC,Bool.or_false]
end
def gF:Nat->Nat
 |0=>1
 |d+1=>1+3*gF d
structure Gl(d:Nat)(p:Pred):Prop where
 n:Vb p<=gF d
 d:Sh p<=d+1
theorem Zg:∀d,1<=gF d
 |0=>Nat.le_refl _
 |d+1=>by rw[gF];omega
theorem Gl.leaf(d:Nat){op cmp:Int}{a b:OV}:Gl d (.mk op cmp a b []):=⟨by simp[Vb,Gd,Zg],by simp[Sh,H2]⟩
theorem Gl.node{d:Nat}{op cmp:Int}{a b:OV}{ps:List Pred}(h:∀p∈ps,Gl d p)(hl:ps.length<=3):Gl (d+1) (.mk op cmp a b ps):=by
 have h1:∀l:List Pred,(∀p∈l,Gl d p)->Gd l<=l.length*gF d/\H2 l<=d+1:=λl=>by
  induction l with
  |nil=>intro _;simp[Gd,H2]
  |cons p l ih=>
   intro hp;have h2:=ih λx hx=>hp x (List.mem_cons_of_mem _ hx);have h3:=hp p (List.mem_cons_self ..);have:=h3.n;have:=h3.d;simp only[Gd,H2,List.length_cons,Nat.add_mul,Nat.one_mul];omega
 have h2:=h1 ps h;have h3:ps.length*gF d<=3*gF d:=Nat.mul_le_mul_right _ hl;exact⟨by simp only[Vb,gF];omega,by simp only[Sh];omega⟩
mutual
def tZ:Query->Nat
 |.mk _ _ _ _ _ _ _ _ args=>1+qR args
def qR:List Query->Nat
 |[]=>0
 |q::qs=>tZ q+qR qs
end
mutual
def CK:Query->Nat
 |.mk _ _ _ _ _ _ _ _ args=>1+yE args
def yE:List Query->Nat
 |[]=>0
 |q::qs=>max (CK q) (yE qs)
end
mutual
def mU(c:Nat):Query->Nat
 |.mk op _ _ _ _ _ _ _ args=>if op=1 then c else if op=4 then tP c args else yO c args
def yO(c:Nat):List Query->Nat
 |[]=>0
 |q::qs=>mU c q+yO c qs
def tP(c:Nat):List Query->Nat
 |[]=>1
 |q::qs=>mU c q*tP c qs
end
mutual
theorem Eg:∀(p:Query)(n:Int),oW p n<=n+tZ p/\(oW p n<=24->oW p n=n+tZ p)
 |.mk _ _ _ _ _ _ _ _ args,n=>by
  have:=HN args (n+1);simp only[oW,tZ];omega
theorem HN:∀(ps:List Query)(n:Int),lE ps n<=n+qR ps/\(lE ps n<=24->lE ps n=n+qR ps)
 |[],n=>by simp[lE,qR]
 |p::ps,n=>by
  have h1:=Eg p n;have h2:=HN ps (oW p n);simp only[lE,qR];split<;>omega
end
mutual
theorem H4:∀(p:Query)(n:Nat),CK p<=n->mE p n=false
 |.mk _ _ _ _ _ _ _ _ args,0,h=>by simp only[CK]at h;omega
 |.mk _ _ _ _ _ _ _ _ args,n+1,h=>by
  simp only[CK]at h;simp only[mE];exact F8 args n aC
theorem F8:∀(ps:List Query)(n:Nat),yE ps<=n->tD ps n=false
 |[],_,_=>rfl
 |p::ps,n,h=>by
  simp only[yE]at h;simp only[tD,H4 p n aC,F8 ps n aC,Bool.or_false]
end
theorem Ov(h1:tZ q<=24)(h2:CK q<=8):iR q=true:=by
 have:=(Eg q 0).1;simp only[iR,Bool.and_eq_true,decide_eq_true_eq,H4 q 8 h2,Bool.not_false,and_true];omega
theorem Lb(h:iR q=true):tZ q<=24:=by
 simp only[iR,Bool.and_eq_true,decide_eq_true_eq]at h;have:=(Eg q 0).2 h.1;omega
def gN:Nat->Nat
 |0=>3
 |d+1=>2+2*gN d
def gD:Nat->Nat
 |0=>3
 |d+1=>2+gD d
def gB:Nat->Nat
 |0=>4
 |d+1=>gB d*gB d
structure oH(n d b:Nat)(q:Query):Prop where
 n:tZ q<=n
 d:CK q<=d
 b:mU 4 q<=b
def K6(d:Nat)(q:Query):Prop:=oH (gN d) (gD d) (gB d) q
def yK:Nat->Query->Prop
 |0,q=>oH 1 1 4 q
 |d+1,q=>oH (1+2*gN d) (1+gD d) (gB d*gB d) q
theorem oH.mono{n d n' d' b':Nat}(x:oH n d b q)(h1:n<=n')(h2:d<=d')(h3:b<=b'):oH n' d' b' q:=⟨Nat.le_trans x.n h1,Nat.le_trans x.d h2,Nat.le_trans x.b h3⟩
theorem zN:∀d,3<=gN d/\3<=gD d/\4<=gB d
 |0=>by decide
 |d+1=>by
  obtain⟨h1,h2,h3⟩:=zN d;have:4*4<=gB d*gB d:=Nat.mul_le_mul h3 h3;simp only[gN,gD,gB];omega
theorem yK.arg:∀{d:Nat}{q:Query},yK d q->K6 d q
 |0,_,x=>oH.mono x (by decide) (by decide) (by decide)
 |d+1,_,x=>oH.mono x (by simp only[gN];omega) (by simp only[gD];omega) (by simp only[gB];omega)
theorem oH.one{n d:Nat}(x:oH n d b q)(hb:4<=b){op:Int}{on:List (Int×Int)}:oH (n+1) (d+1) b (.mk op ta w co on gr od li [q]):=by
 obtain⟨h1,h2,h3⟩:=x;refine⟨by simp only[tZ,qR];omega,by simp only[CK,yE];omega,?_⟩;simp only[mU,tP,yO];split
 .exact hb
 .split<;>omega
theorem oH.two{n d n' d' b':Nat}{p:Query}(x:oH n d b q)(y:oH n' d' b' p)(hb:4<=b)(hb':4<=b'){op:Int}{on:List (Int×Int)}:oH (1+n+n') (1+max d d') (b*b') (.mk op ta w co on gr od li [q,p]):=by
 obtain⟨h1,h2,h3⟩:=x;obtain⟨h4,h5,h6⟩:=y;have e1:b*4<=b*b':=Nat.mul_le_mul_left _ hb';have e2:4*b'<=b*b':=Nat.mul_le_mul_right _ hb;have e3:mU 4 q*mU 4 p<=b*b':=Nat.mul_le_mul h3 h6;refine⟨by simp only[tZ,qR];omega,by simp only[CK,yE];omega,?_⟩;simp only[mU,tP,yO];split
 .omega
 .split
  .simpa using e3
  .omega
theorem oH.scan{on:List (Int×Int)}:oH 1 1 4 (.mk 1 ta w co on gr od li []):=⟨by simp[tZ,qR],by simp[CK,yE],by simp[mU]⟩
theorem yK.node{d:Nat}{op:Int}{on:List (Int×Int)}{args:List Query}(h:∀a∈args,K6 d a)(hl:args.length<=2):yK (d+1) (.mk op ta w co on gr od li args):=by
 have h4:=(zN d).2.2;have e1:gB d*4<=gB d*gB d:=Nat.mul_le_mul_left _ h4
 match args,h,hl with
 |[],_,_=>exact⟨by simp only[tZ,qR];omega,by simp only[CK,yE];omega,by simp only[mU,tP,yO];split;omega;split<;>omega⟩
 |[q],h,_=>exact oH.mono (oH.one (h q (by simp)) h4) (by have:=(zN d).1;omega) aC aC
 |[q,p],h,_=>exact oH.mono (oH.two (h q (by simp)) (h p (by simp)) h4 h4) aC aC (Nat.le_refl _)
theorem yK.filter{d:Nat}(x:yK d q){op:Int}{on:List (Int×Int)}:K6 d (.mk op ta w co on gr od li [q]):=by
 cases d with
 |zero=>exact oH.mono (oH.one x (by decide)) (by decide) (by decide) (by decide)
 |succ d=>
  have h4:=(zN d).2.2;have e1:gB d*4<=gB d*gB d:=Nat.mul_le_mul_left _ h4;exact oH.mono (oH.one x aC) (by simp only[gN];omega) (by simp only[gD];omega) (by simp only[gB];omega)
theorem K6.three(d:Nat)(x:oH 3 3 4 q):K6 d q:=oH.mono x (zN d).1 (zN d).2.1 (zN d).2.2
theorem yK.mono{q:Query}:∀{d e:Nat},yK d q->d<=e->yK e q
 |d,0,x,h=>by have:d=0:=by omega
              subst this;exact x
 |d,e+1,x,h=>by
  by_cases h1:d=e+1
  .subst h1;exact x
  .have y:=yK.arg (x.mono (e:=e) aC);have h4:=(zN e).2.2;have e1:gB e*1<=gB e*gB e:=Nat.mul_le_mul_left _ aC;exact oH.mono y aC aC aC
abbrev iD(a:MH)(b:PH)(c d:Nat)(e:Sl->Prop):Prop:=∃(x:Sl),aM a b c d (aR x)/\e x
noncomputable abbrev vX(a:Int):Value:=Value.int IntKind.u8 a
abbrev jZ(a:Prop):Prop:=a->False
attribute [push_cast] iD vX jZ
def P0(cb:Nat)(n:Int)(m:MH)(h:PH)(K:CV->MH->PH->Prop):Prop:=
  uJ m h cb 1 (λy=>iD m h cb 0 (λy1=>fR y (aG y1) (K (eH 0) m h) (bC n 1 (K (eH 0) m h) (uJ m h cb 1 (λy2=>pO m cb 1 (bT (dV (y2+1))) (λm1=>iD m1 h cb 0 (λy3=>∃(y4:Int),aM m1 h cb 1 (bT y4)/\aU (λb o=>aA (aX y3.a b o) (0<=dV (y4-1)) (dV (y4-1)<aG y3/\∃(y5:UInt8),aA (aM m1 h b (fN o (dV (y4-1)) 1) (iP (vX (sW y5)))) (jZ (n=0)) (K (eH (Int.tmod (dV (sW y5)) n)) m1 h))))))))))
theorem Zo(cb:Nat)(n:Int)(m:MH)(h:PH)(K:CV->MH->PH->Prop):P0 cb n m h K=(Aw (ctx [] [] [] [] false) Tryz.f15 (dJ Tryz.f15) (entry 40 [.val (.pointer (some ⟨cb,0,none⟩)),.val (.int .i64 n)] m h) K):=by kernel_rfl
def YD:Vc.Spec:=λcvs m h K=>∃(cb:Nat)(n:Int)(r:List UInt8),cvs=[.val (.pointer (some ⟨cb,0,none⟩)),.val (.int .i64 n)]/\SG m h cb r/\
 ∀m',bA m m' cb->SG m' h cb (Qh n r).2->K (.val (.int .i64 (Qh n r).1)) m' h
theorem Lu:Sound Tryz.prog 15 YD:=by
 refine eD (fn:=Tryz.f15) (c:=dJ Tryz.f15) Tryz.func15 rfl (by decide) ?_;rintro cvs m h K ⟨cb,n,r,rfl,⟨s,cs,k,hm,hrow,hk,hlen,rfl⟩,hK⟩;refine⟨ctx [] [] [] [] false,rfl,aF,?_⟩;show Aw (ctx [] [] [] [] false) Tryz.f15 (dJ Tryz.f15) (entry 40 [.val (.pointer (some ⟨cb,0,none⟩)),.val (.int .i64 n)] m h) K;rw[<-Zo];dsimp only[P0,push_cast];have hsl:s.len=cs.length:=by have:=hrow.len;simpa[bG]using this
 refine⟨k,.of_m hm rfl,s,.of_m hm rfl,aE (λhge=>?_) (λhlt=>aE (λhn=>?_) (λhn=>?_))⟩
 .have hd:cs.drop k=[]:=by simp;omega
  rw[hd]at hK;exact hK m ⟨λ_ _=>rfl⟩ ⟨s,cs,k,hm,hrow,hk,hlen,by rw[hd];rfl⟩
 .have hk':k<cs.length:=by omega
  have hd:cs.drop k=cs[k]::cs.drop (k+1):=List.drop_eq_getElem_cons hk';rw[hd]at hK;simp only[Qh,if_pos hn]at hK;refine hK m ⟨λ_ _=>rfl⟩ ⟨s,cs,k,hm,hrow,hk,hlen,hd.symm⟩
 .have hk':k<cs.length:=by omega
  have hd:cs.drop k=cs[k]::cs.drop (k+1):=List.drop_eq_getElem_cons hk';rw[hd]at hK;simp only[Qh,if_neg hn]at hK;have hw:IntKind.i64.wrap ((k:Int)+1)=((k+1:Nat):Int):=by rw[dW]<;>omega
  have hw2:IntKind.i64.wrap (((k+1:Nat):Int)-1)=(k:Int):=by rw[dW]<;>omega
  refine⟨k,.of_m hm rfl,_,_,⟨hm⟩,by simp,λm' hu=>?_⟩;have hm':=hu.at_;rw[hw]at hm';simp only[splice]at hm';obtain hnil|⟨b,o,ha,hrd⟩:=hrow.row
  .exfalso;have:=congrArg List.length hnil;simp[bG]at this;subst this;simp at hk'
  refine⟨s,.of_m hm' rfl,((k+1:Nat):Int),.of_m hm' rfl,b,o,ha,?_⟩;rw[hw2];refine⟨aC,aC,cs[k],.imm ?_,aC,?_⟩
  .have:=hrd k [.int .u8 cs[k].toNat] (by simp[bG,hk']);simpa using this
  .have hlt:cs[k].toNat<256:=cs[k].toNat_lt;rw[dW aC aC,Int.tmod_eq_emod_of_nonneg aC];refine hK m' ⟨hu.other⟩ ⟨s,cs,k+1,hm',hrow,aC,hlen,rfl⟩
def aL(m:MH)(h:PH)(cb:Nat):Prop:=∃r,SG m h cb r
theorem aL.mono(x:aL m h cb)(le:PH.le h h'):aL m h' cb:=by
 obtain⟨r,s,cs,k,h1,h2,h3⟩:=x;exact⟨r,s,cs,k,h1,h2.mono le,h3⟩
theorem bA.refl(m:MH)(cb:Nat):bA m m cb:=⟨λ_ _=>rfl⟩
theorem bA.trans{m'':MH}(a:bA m m' cb)(b:bA m' m'' cb):bA m m'' cb:=⟨λc hc=>(b.other c hc).trans (a.other c hc)⟩
def N2(n:Int):Prop:= -9223372036854775808<=n/\n<=9223372036854775807
structure Ij(v:VV):Prop where
 int_:N2 v.int
 text_:v.text.size<=64
def Vp(k:Int):Prop:=k=3\/k=4\/k=5
def TL(k:Int)(v:VV):Prop:=Vp k->jV v=true/\v.kind=k
def Gn:Vc.Spec:=λcvs m h K=>∃cb n,cvs=[cP cb,cI n]/\aL m h cb/\∀k m',0<=k->(k<n\/k=0)->bA m m' cb->aL m' h cb->K (cI k) m' h
def KN:Vc.Spec:=λcvs m h K=>∃cb n,cvs=[cP cb,cI n]/\0<=n/\n<=1000/\aL m h cb/\∀r m',bA m m' cb->aL m' h cb->K (cB r) m' h
def TG:Vc.Spec:=λcvs m h K=>∃cb,cvs=[cP cb]/\aL m h cb/\∀k m',N2 k->bA m m' cb->aL m' h cb->K (cI k) m' h
def YL:Vc.Spec:=λcvs m h K=>∃cb,cvs=[cP cb]/\aL m h cb/\∀t m',t.size<=64->bA m m' cb->aL m' h cb->K (NK t) m' h
def NU:Vc.Spec:=λcvs m h K=>∃cb kind,cvs=[cP cb,cI kind]/\aL m h cb/\∀v m',Ij v->TL kind v->bA m m' cb->aL m' h cb->K (aV v) m' h
theorem GQ:Sound Tryz.prog 15 Gn:=by
 refine⟨Lu.1,λcvs vs m h w K hS hp=>Lu.2 cvs vs m h w K ?_ hp⟩;obtain⟨cb,n,rfl,⟨r,hr⟩,hK⟩:=hS;refine⟨cb,n,r,rfl,hr,λm' ho hc=>hK _ m' ?_ ?_ ho ⟨_,hc⟩⟩
 .cases r with
  |nil=>simp[Qh]
  |cons b r=>
   simp only[Qh];split
   .simp
   .exact Int.emod_nonneg _ aC
 .cases r with
  |nil=>simp[Qh]
  |cons b r=>
   simp only[Qh];split
   .simp
   .exact .inl (Int.emod_lt_of_pos _ aC)
noncomputable def Wu(h:PH):Ctx:=
 dM [(15,Gn)] [(18,{A:=Nat×ByteArray×MH,st:=λ⟨i,t,m⟩=>cE 37 38 [(3,vv (.string t)),(4,iv i)] [] m h}),(23,{A:=Nat×ByteArray×MH,st:=λ⟨i,t,m⟩=>cE 37 38 [(3,vv (.string t)),(5,iv i)] [] m h})] [] [] false
abbrev iZ(a:Nat)(b:Int)(c:Nat->Option Obj)(d:Nat->Nat->Option Value)(e:Int->MH->Prop):Prop:=∃(x:Nat)(x1:Int),aA (aY (BK a 0) b=aY (BK x 0) x1) (aL c d x) (∀(x2:Int)(x3:MH),bO (cD x2) (x2<x1\/x2=0) (bO (bA c x3 x) (aL x3 d x) (e x2 x3)))
attribute [push_cast] iZ
def PY(cb:Nat)(n:Int)(m:MH)(h:PH)(K:CV->MH->PH->Prop):Prop:=
  iZ cb n m h (λk m1=>K (AB (k==dV (n-1))) m1 h)
def Mq(cb:Nat)(m:MH)(h:PH)(K:CV->MH->PH->Prop):Prop:=
  iZ cb 12 m h (λk m1=>cR (k==9) (K (eH (Int.negSucc 0)) m1 h) (k==10) (K (eH 9223372036854775807) m1 h) (dL k 11 (K (eH (Int.negSucc 9223372036854775807)) m1 h) (jZ ((4:Int)=0)/\K (eH (Int.tmod k 4)) m1 h)))
noncomputable abbrev dH(a:Nat)(b:List UInt8):List UInt8:=OfNat.ofNat a::b
noncomputable abbrev rG(a:Nat):List UInt8:=dH a []
attribute [push_cast] dH rG
def Mp(cb:Nat)(m:MH)(h:PH)(K:CV->MH->PH->Prop):Prop:=
  iZ cb 10 m h (λk m1=>cR (k==0) (K (jB (ByteArray.mk (Array.mk (rG 97)))) m1 h) (k==1) (K (jB (ByteArray.mk (Array.mk (rG 97)))) m1 h) (cR (k==2) (K (jB (ByteArray.mk (Array.mk (rG 97)))) m1 h) (k==3) (K (jB (ByteArray.mk (Array.mk (rG 98)))) m1 h) (cR (k==4) (K (jB (ByteArray.mk (Array.mk (rG 98)))) m1 h) (k==5) (K (CV.val HB) m1 h) (cR (k==6) (K (jB (ByteArray.mk (Array.mk (dH 97 (dH 0 []))))) m1 h) (k==7) (K (jB (ByteArray.mk (Array.mk (rG 255)))) m1 h) (dL k 8 (∃(I:Nat×ByteArray×MH->Prop)(m2:Nat×ByteArray×MH->Nat),(∃(x:Nat×ByteArray×MH),aA (I x) (SV.at Yy=SV.at (NQ x.2.1)) (aA (bD x.1) (m1=x.2.2) (cQ h h)))/\∀(x:Nat×ByteArray×MH),I x->bC (↑x.1:Int) 64 (x.2.1.size<9223372036854775807/\∃(x1:Nat×ByteArray×MH),aA
 (I x1) (m2 x1<m2 x) (aA (SV.at (NQ (x.2.1++ByteArray.mk (Array.mk (rG 255))))=SV.at (NQ x1.2.1)) (fM (bE x.1 1)=bX x1.1) (dR x.2.2 x1.2.2 h h))) (K (jB x.2.1) x.2.2 h)) (∃(I:Nat×ByteArray×MH->Prop)(m2:Nat×ByteArray×MH->Nat),(∃(x:Nat×ByteArray×MH),aA (I x) (SV.at Yy=SV.at (NQ x.2.1)) (aA (bD x.1) (m1=x.2.2) (cQ h h)))/\∀(x:Nat×ByteArray×MH),I x->bC (↑x.1:Int) 64 (x.2.1.size<9223372036854775807/\∃(x1:Nat×ByteArray×MH),aA (I x1) (m2 x1<m2 x) (aA (SV.at (NQ (x.2.1++ByteArray.mk (Array.mk (rG 98))))=SV.at (NQ x1.2.1)) (fM (bE x.1 1)=bX x1.1) (dR x.2.2 x1.2.2 h h))) (K (jB x.2.1) x.2.2 h)))))))
abbrev iO(a:MH)(b:PH)(c:Nat)(d:Prop):Prop:=aL a b c->d
attribute [push_cast] iO
def Pr(cb:Nat)(kind:Int)(m:MH)(h:PH)(K:CV->MH->PH->Prop):Prop:=
  cR (kind==3) (iZ cb 2 m h (λk m1=>K (kN (aI (dK kind) (dK k) xY)) m1 h)) (kind==4) (∃(c:Nat),aA (kA (fI cb)=kA (fI c)) (aL m h c) (∀(k:Int)(m1:MH),bO (N2 k) (bA m m1 c) (iO m1 h c (K (kN (aI (dK kind) (dK k) xY)) m1 h)))) (∃(c:Nat),aA (kA (fI cb)=kA (fI c)) (aL m h c) (∀(t:ByteArray)(m1:MH),bO (t.size<=64) (bA m m1 c) (iO m1 h c (K (kN (aI (dK 5) aK (iP (Value.string t)))) m1 h))))
theorem Zn{n:Int}(hc:aL m h cb)(hK:∀r m',bA m m' cb->aL m' h cb->K (cB r) m' h):PY cb n m h K:=
 ⟨cb,n,rfl,hc,λ_ m' _ _ ho hc'=>hK _ m' ho hc'⟩
theorem Ei:Ch ⟨#[]⟩=true:=by simp[Ch,ByteArray.toList_eq]
theorem Y6{k:Int}(h0:0<=k)(h1:k<2\/k=0):jV ⟨3,k,⟨#[]⟩⟩=true:=by
 have:k=0\/k=1:=by omega
 rcases this with rfl|rfl<;>simp[jV,Ei]
theorem Vr(k:Int):jV ⟨4,k,⟨#[]⟩⟩=true:=by simp[jV,Ei]
theorem Y5{t:ByteArray}(h:t.size<=64):jV ⟨5,0,t⟩=true:=by
 simp[jV];omega
theorem xL:Sound Tryz.prog 16 KN:=by
 refine iB Tryz.func16 ?_;rintro cvs m h K ⟨cb,n,rfl,_,_,hc,hK⟩;refine⟨dM [(15,Gn)] [] [] [] false,rfl,aD GQ aF,PY cb n m h K,by kernel_rfl,?_⟩;exact Zn hc hK
theorem Sa:Sound Tryz.prog 108 TG:=by
 refine iB Tryz.func108 ?_;rintro cvs m h K ⟨cb,rfl,hc,hK⟩;refine⟨dM [(15,Gn)] [] [] [] false,rfl,aD GQ aF,Mq cb m h K,by kernel_rfl,?_⟩;dsimp only[Mq,push_cast];refine⟨cb,12,rfl,hc,λk m' h0 h1 ho hc'=>aB (λ_=>hK _ m' ⟨aC,aC⟩ ho hc') (λ_=>aB (λ_=>hK _ m' ⟨aC,aC⟩ ho hc') (λ_=>aB (λ_=>hK _ m' ⟨aC,aC⟩ ho hc') (λ_=>⟨aC,hK _ m' ?_ ho hc'⟩)))⟩;rw[Int.tmod_eq_emod_of_nonneg h0];exact⟨aC,aC⟩
theorem R9:Sound Tryz.prog 109 YL:=by
 refine iB Tryz.func109 ?_;rintro cvs m h K ⟨cb,rfl,hc,hK⟩;refine⟨Wu h,rfl,aD GQ aF,Mp cb m h K,by kernel_rfl,?_⟩;dsimp only[Mp,push_cast];refine⟨cb,10,rfl,hc,λk m' h0 h1 ho hc'=>?_⟩;refine aB (λ_=>hK _ m' (by decide) ho hc') (λ_=>aB (λ_=>hK _ m' (by decide) ho hc') (λ_=>aB (λ_=>hK _ m' (by decide) ho hc') (λ_=>aB (λ_=>hK _ m' (by decide) ho hc') (λ_=>aB (λ_=>hK _ m' (by decide) ho hc') (λ_=>aB (λ_=>hK _ m' (by decide) ho hc') (λ_=>aB (λ_=>hK _ m' (by decide) ho hc') (λ_=>aB (λ_=>hK _ m' (by decide) ho hc') (λ_=>aB (λ_=>?_) (λ_=>?_)))))))))
 all_goals
  refine⟨λ⟨i,t,mx⟩=>mx=m'/\i<=64/\t.size=i,λ⟨i,_,_⟩=>64-i,⟨(0,⟨#[]⟩,m'),⟨rfl,aC,rfl⟩,MT⟩,?_⟩;rintro⟨i,t,m'⟩ ⟨rfl,hi,ht⟩;dsimp only;refine aE (λhlt=>⟨?_,(i+1,_,m'),⟨rfl,aC,?_⟩,by show 64-(i+1)<64-i;omega,MT⟩) (λhge=>hK t m' aC ho hc')
  .rw[ht];show i+1<=_;omega
  .rw[ByteArray.size_append,ht];rfl
theorem GV:Sound Tryz.prog 77 NU:=by
 refine iB Tryz.func77 ?_;rintro cvs m h K ⟨cb,kind,rfl,hc,hK⟩;refine⟨dM [(15,Gn),(108,TG),(109,YL)] [] [] [] false,rfl,aD GQ (aD Sa (aD R9 aF)),Pr cb kind m h K,by kernel_rfl,?_⟩;dsimp only[Pr,push_cast];refine aB (λe=>⟨cb,2,rfl,hc,λk m' h0 h1 ho hc'=>hK ⟨kind,k,⟨#[]⟩⟩ m' ⟨⟨by show-9223372036854775808<=k;omega,by show k<=9223372036854775807;omega⟩,by show(ByteArray.mk #[]).size<=64;decide⟩ (λ_=>?_) ho hc'⟩) (λe1=>aB (λe=>⟨cb,rfl,hc,λk m' hk ho hc'=>hK ⟨kind,k,⟨#[]⟩⟩ m' ⟨hk,by show(ByteArray.mk #[]).size<=64;decide⟩ (λ_=>?_) ho hc'⟩) (λe2=>⟨cb,rfl,hc,λt m' ht ho hc'=>hK ⟨5,0,t⟩ m' ⟨⟨by simp,by simp⟩,ht⟩ (λhk=>?_) ho hc'⟩))
 .have e:kind=3:=by simpa using e
  subst e;exact⟨Y6 h0 h1,rfl⟩
 .have e:kind=4:=by simpa using e
  subst e;exact⟨Vr k,rfl⟩
 .have e1:kind≠3:=by simpa using e1
  have e2:kind≠4:=by simpa using e2
  exact⟨Y5 ht,by rcases hk with hk|hk|hk;exact absurd hk e1;exact absurd hk e2;exact hk.symm⟩
mutual
def Gm:Pred->Prop
 |.mk _ _ l r args=>Ij l.value/\Ij r.value/\KE args
def KE:List Pred->Prop
 |[]=>True
 |p::ps=>Gm p/\KE ps
end
theorem KD:∀{l:List Pred},KE l↔∀p∈l,Gm p
 |[]=>by simp[KE]
 |p::ps=>by simp[KE,KD (l:=ps)]
theorem nS:Ij zeroV:=⟨⟨by decide,by decide⟩,by decide⟩
structure Qq(cols params:List Int)(kind:Int)(o:OV):Prop where
 val:Ij o.value
 kind:Vp kind->kindOf cols params o=kind
def DY(l:List Int):Prop:=∀k∈l,Vp k
structure PW(cols params:List Int)(d:Nat)(p:Pred):Prop where
 vals:Gm p
 valid:DY cols->gZ cols params p=true
 siz:Gl d p
def Qp:Vc.Spec:=λcvs m h K=>∃cb s t kind cols params,cvs=[cP cb,cS s,cS t,cI kind]/\aL m h cb/\Ints h s cols/\Ints h t params/\cols.length<=1000/\params.length<=1000/\∀o m',Qq cols params kind o->bA m m' cb->aL m' h cb->K (aO o) m' h
def KP(K:CV->MH->PH->Prop)(m:MH)(h:PH)(cb:Nat)(R:Pred->Prop):Prop:=∀v p m' h',PH.le h h'->eJ h' p v->R p->bA m m' cb->aL m' h' cb->K (aP v) m' h'
def WM(N:Nat):Vc.Spec:=λcvs m h K=>∃cb s t cols params,∃deep:Nat,cvs=[cP cb,cS s,cS t,cI deep]/\aL m h cb/\Ints h s cols/\Ints h t params/\cols.length<=1000/\params.length<=1000/\deep<N/\deep<=1000/\KP K m h cb (PW cols params deep)
structure wA(cols params:List Int)(d:Nat)(p:Pred):Prop where
 vals:Gm p
 valid:d<=2->DY cols->DY params->fX cols params p=0
def yI:Vc.Spec:=λcvs m h K=>∃cb s t cols params,∃deep:Nat,cvs=[cP cb,cS s,cS t,cI deep]/\aL m h cb/\Ints h s cols/\Ints h t params/\cols.length<=1000/\params.length<=1000/\deep<=1000/\KP K m h cb (wA cols params deep)
def pv(b:Nat):SV:=vv (.pointer (some ⟨b,0,none⟩))
noncomputable def XC(cb:Nat)(s t:Sl)(kind:Int)(m:MH)(h:PH):Ctx:=
 dM [(15,Gn),(77,NU)] [(3,{A:=Nat×List OV,st:=λ⟨i,os⟩=>cE 64 68 [(0,pv cb),(2,sv t),(3,iv kind),(8,.at (.ptr 8 0)),(9,.at (.lst 29)),(15,sv s),(16,iv s.len),(17,iv i)] [(8,.cells 29 (cM.enc.map .val)),(29,.lst 29 5 (os.map OV.enc))] m h}),
  (9,{A:=Nat×List OV,st:=λ⟨i,os⟩=>cE 64 68 [(0,pv cb),(3,iv kind),(8,.at (.ptr 8 0)),(9,.at (.lst 29)),(31,sv t),(32,iv t.len),(33,iv i)] [(8,.cells 29 (cM.enc.map .val)),(29,.lst 29 5 (os.map OV.enc))] m h})] [] [] false
noncomputable def XP(N:Nat)(cb:Nat)(s t:Sl)(deep:Nat)(h0:PH):Ctx:=
 dM [(15,Gn),(16,KN),(96,Qp),(77,NU),(68,WM N)] [(18,{A:=Int×Int×List PV×MH×PH,st:=λ⟨op,n,us,m,h⟩=>cE 107 111 [(0,pv cb),(1,sv s),(2,sv t),(3,iv deep),(8,.at (.ptr 8 0)),(12,.at (.ptr 12 0)),(13,iv n)] [(8,.cells 32 (eV.enc.map .val)),(12,.cells 32 (((⟨op,0,cM,cM,⟨none,0,0⟩⟩:PV).enc.take 12).map .val++[.lst 104])),(104,.lst 32 13 (us.map PV.enc))] m h})] [(3,{A:=Int×Bool×MH,st:=λ⟨k,b,m⟩=>cE 107 111 [(0,pv cb),(1,sv s),(2,sv t),(3,iv deep),(8,.at (.ptr 8 0)),(9,iv k),(16,bv b)] [(8,.cells 32 (eV.enc.map .val))] m h0}),
  (5,{A:=Int×Bool×MH,st:=λ⟨k,b,m⟩=>cE 107 111 [(0,pv cb),(1,sv s),(2,sv t),(3,iv deep),(8,.at (.ptr 8 0)),(9,iv k),(27,bv b)] [(8,.cells 32 (eV.enc.map .val))] m h0}),
  (8,{A:=Int×MH,st:=λ⟨k,m⟩=>cE 107 111 [(0,pv cb),(1,sv s),(2,sv t),(8,.at (.ptr 8 0)),(10,iv k)] [(8,.cells 32 (eV.enc.map .val))] m h0}),
  (9,{A:=PV×Int×MH,st:=λ⟨p,k,m⟩=>cE 107 111 [(0,pv cb),(1,sv s),(2,sv t),(8,.at (.ptr 8 0)),(10,iv k),(11,.at (.ptr 11 0))] [(8,.cells 32 (eV.enc.map .val)),(11,.cells 32 (p.enc.map .val))] m h0}),
  (11,{A:=PV×MH,st:=λ⟨p,m⟩=>cE 107 111 [(0,pv cb),(8,.at (.ptr 8 0)),(11,.at (.ptr 11 0))] [(8,.cells 32 (eV.enc.map .val)),(11,.cells 32 (p.enc.map .val))] m h0}),
  (13,{A:=PV×MH,st:=λ⟨p,m⟩=>cE 107 111 [(8,.at (.ptr 8 0)),(11,.at (.ptr 11 0))] [(8,.cells 32 (eV.enc.map .val)),(11,.cells 32 (p.enc.map .val))] m h0})] [] false
noncomputable abbrev tV(a:Int)(b:List At):List At:=fU (jE a) (jE 0) (fU (jE 0) (jE 0) b)
abbrev A9:Prop:=eQ (oQ 29 (tV 0 (jG Yy)))
noncomputable abbrev nZ(a:Nat×List OV):List (List Value):=List.map OV.enc a.2
abbrev Fv(a b:Nat×List OV):Prop:=fM (bE a.1 1)=bX b.1
abbrev Bi(a:Nat)(b:Int)(c:Nat->Option Obj)(d:Nat->Nat->Option Value)(e:VV->MH->Prop):Prop:=∃(x:Nat)(x1:Int),aA (aY (BK a 0) b=aY (BK x 0) x1) (aL c d x) (∀(x2:VV)(x3:MH),bO (Ij x2) (TL x1 x2) (bO (bA c x3 x) (aL x3 d x) (e x2 x3)))
attribute [push_cast] tV A9 nZ Fv Bi
def Pd(cb:Nat)(s t:Sl)(kind:Int)(m:MH)(h:PH)(K:CV->MH->PH->Prop):Prop:=
  ∃(I:Nat×List OV->Prop)(m1:Nat×List OV->Nat),(∃(x:Nat×List OV),aA (I x) (cX cb) (aA (aJ t) (eQ (fM kind)) (aA (eP 8) (eL 29) (aA (aJ s) (bN s) (aA (bD x.1) A9 (aA (rF 29 5 (nZ x)) (m=m) (cQ h h)))))))/\∀(x:Nat×List OV),I x->bC (↑x.1:Int) (aG s) (aU (λb o=>aA (aX s.a b o) (0<=(↑x.1:Int)) ((↑x.1:Int)<aG s/\∃(y:Int),aM m h b (bM o x.1 1) (bT y)/\dL y kind (oM (nZ x) 48 (∃(x1:Nat×List OV),aA (I x1) (m1 x1<m1 x) (aA (cX cb) (aJ t) (aA (eQ (fM kind)) (eP 8) (aA (eL 29) (aJ s) (aA (bN s) (Fv x x1) (aA A9 (Option.some (Own.lst 29 5 (dU (nZ x) (aI (dK 1) (dK (↑x.1:Int)) (aI aK aK xY))))=Option.some (Own.lst 29 5 (nZ x1))) (dR m m h h)))))))) (∃(x1:Nat×List OV),aA (I x1)
 (m1 x1<m1 x) (aA (cX cb) (aJ t) (aA (eQ (fM kind)) (eP 8) (aA (eL 29) (aJ s) (aA (bN s) (Fv x x1) (aA A9 (Option.some (Own.lst 29 5 (nZ x))=Option.some (Own.lst 29 5 (nZ x1))) (dR m m h h)))))))))) (∃(I1:Nat×List OV->Prop)(m2:Nat×List OV->Nat),(∃(x1:Nat×List OV),aA (I1 x1) (cX cb) (aA (eQ (fM kind)) (eP 8) (aA (eL 29) (aJ t) (aA (bN t) (bD x1.1) (aA A9 (Option.some (Own.lst 29 5 (nZ x))=Option.some (Own.lst 29 5 (nZ x1))) (aA (m=m) (h=h) True))))))/\∀(x1:Nat×List OV),I1 x1->bC (↑x1.1:Int) (aG t) (aU (λb o=>aA (aX t.a b o) (0<=(↑x1.1:Int)) ((↑x1.1:Int)<aG t/\∃(y:Int),aM m h b (bM o x1.1 1) (bT y)/\dL y kind (oM (nZ x1) 48 (∃(x2:Nat×List OV),aA (I1 x2) (m2 x2<m2 x1) (aA (cX cb) (eQ (fM
 kind)) (aA (eP 8) (eL 29) (aA (aJ t) (bN t) (aA (Fv x1 x2) A9 (aA (Option.some (Own.lst 29 5 (dU (nZ x1) (aI (dK 2) (dK (↑x1.1:Int)) (aI aK aK xY))))=Option.some (Own.lst 29 5 (nZ x2))) (m=m) (cQ h h)))))))) (∃(x2:Nat×List OV),aA (I1 x2) (m2 x2<m2 x1) (aA (cX cb) (eQ (fM kind)) (aA (eP 8) (eL 29) (aA (aJ t) (bN t) (aA (Fv x1 x2) A9 (aA (Option.some (Own.lst 29 5 (nZ x1))=Option.some (Own.lst 29 5 (nZ x2))) (m=m) (cQ h h)))))))))) (iZ cb (bE (nZ x1).length 1) m h (λk m3=>bC k (kE (nZ x1)) (aA (cD k) (k<kE (nZ x1)) (∃(e:List Value),uZ (nZ x1) k.toNat e/\∃(y:OV),Dw 5 0 e y.enc/\K (kN y.enc) m3 h)) (Bi cb kind m3 h (λv m4=>K (kN (aI (dK 3) aK (aI (dK v.kind) (dK v.int) (iP
 (Value.string v.text))))) m4 h)))))
abbrev j5(a:Nat)(b:Int)(c:Nat->Option Obj)(d:Nat->Nat->Option Value)(e:Nat->Bool->Prop):Prop:=∃(x:Nat)(x1:Int),aA (aY (BK a 0) b=aY (BK x 0) x1) (cD x1) (aA (x1<=1000) (aL c d x) (∀(x2:Bool),e x x2))
abbrev sU:Prop:=eQ (oQ 32 zP)
abbrev Fc(a:Int×Bool×MH->Prop)(b:Nat)(c d:Sl)(e:Nat)(g:Int)(i:(Int×Bool×MH)->Prop)(j:Nat->Option Obj)(k:PH):Prop:=∃(x:Int×Bool×MH),aA (a x) (cX b) (aA (aJ c) (aJ d) (aA (eQ (bX e)) (eP 8) (aA (cG g x.1) (i x) (cT sU j x.2.2 k k))))
abbrev j2(a:Nat):Prop:=a<=1000
abbrev fV(a:List Int):Prop:=j2 a.length
abbrev nC:Prop:=eP 11
noncomputable abbrev Dt(a:OV):At:=NQ a.value.text
abbrev w9(a:Sl->Sl->(List Int)->(List Int)->Nat->Prop):Prop:=jT (λx x1=>pF (λx2 x3=>∃(x4:Nat),a x x1 x2 x3 x4))
abbrev iA(a:MH->PH->Prop):Prop:=∀(x:MH)(x1:PH),a x x1
abbrev wZ(a:PH)(b:PV->Pred->MH->PH->Prop):Prop:=∀(x:PV)(x1:Pred),iA (λx2 x3=>bJ a x3 (eJ x3 x1 x) (b x x1 x2 x3))
abbrev Fe(a:List CV)(b:MH)(c:PH)(d:Nat)(e:PV->MH->PH->Prop):Prop:=∃(x:Nat),w9 (λx1 x2 x3 x4 x5=>aA (a=BK x 0::cW x1::aY (cW x2) (↑x5:Int)) (aL b c x) (aA (Ints c x1 x3) (Ints c x2 x4) (aA (fV x3) (fV x4) (aA (x5<d) (j2 x5) (wZ c (λx6 x7 x8 x9=>bO (PW x3 x4 x5 x7) (bA b x8 x) (iO x8 x9 x (e x6 x8 x9))))))))
noncomputable abbrev Bz(a:Int)(b:List At):List At:=fU Yy (jE a) (fU (jE a) (jE a) (fU (jE a) Yy b))
noncomputable abbrev Ds(a:Int×Int×List PV×MH×PH):List (List Value):=List.map PV.enc a.2.2.1
abbrev cK(a:MH)(b:MH×PH):Prop:=a=b.1
noncomputable abbrev xB(a:Int×Int×List PV×MH×PH):MH×PH:=a.2.2.2
abbrev bR(a:Nat->Nat->Option Value)(b:MH×PH):Prop:=a=b.2
abbrev jN(a:Nat->Nat->Option Value)(b:MH×PH):Prop:=bR a b/\True
attribute [push_cast] j5 sU Fc j2 fV nC Dt w9 iA wZ Fe Bz Ds cK xB bR jN
def Pw(N:Nat)(cb:Nat)(s t:Sl)(deep:Nat)(m:MH)(h:PH)(K:CV->MH->PH->Prop):Prop:=
  iZ cb 9 m h (λk m1=>∃(I:Int×Bool×MH->Prop),dL k 0 (j5 cb 2 m1 h (λc r=>∀(m2:MH),bO (bA m1 m2 c) (aL m2 h c) (Fc I cb s t deep k (λx=>gC r x.2.1) m2 h))) (Fc I cb s t deep k (λx=>xX x.2.1) m1 h)/\∀(x:Int×Bool×MH),hX (I x) x.2.1 (iZ cb 2 x.2.2 h (λk1 m2=>K (kN (aI (dK (dV (1+k1))) aK (aI aK aK (aI aK aK (aI HB aK (IN aK)))))) m2 h)) (∃(I1:Int×Bool×MH->Prop),bC x.1 6 (Fc I1 cb s t deep x.1 (λx1=>tR x1.2.1) x.2.2 h) (Fc I1 cb s t deep x.1 (λx1=>gC (decide ((↑deep:Int)<1)) x1.2.1) x.2.2 h)/\∀(x1:Int×Bool×MH),I1 x1->cR x1.2.1 (∃(I2:Int×MH->Prop),eB (aG s) 0 (iZ cb (aG s) x1.2.2 h (λk1 m2=>aU (λb o=>aA (aX s.a b o) (0<=k1) (k1<aG s/\∃(y:Int),aM
 m2 h b (fN o k1 1) (bT y)/\∃(x2:Int×MH),aA (I2 x2) (cX cb) (aA (aJ s) (aJ t) (aA (eP 8) (cG y x2.1) (aA sU (m2=x2.2) (cQ h h)))))))) (∃(x2:Int×MH),aA (I2 x2) (cX cb) (aA (aJ s) (aJ t) (aA (eP 8) (cG 4 x2.1) (aA sU (x1.2.2=x2.2) (cQ h h)))))/\∀(x2:Int×MH),I2 x2->∃(I3:PV×Int×MH->Prop),iZ cb 6 x2.2 h (λk1 m2=>∃(c:Nat),jT (λs1 t1=>∃(k2:Int),pF (λc1 p=>aA (BK cb 0::cW s::aY (cW t) x2.1=BK c 0::cW s1::aY (cW t1) k2) (aL m2 h c) (aA (Ints h s1 c1) (Ints h t1 p) (aA (fV c1) (fV p) (∀(o:OV)(m3:MH),bO (Qq c1 p k2 o) (bA m2 m3 c) (iO m3 h c (Bi cb x2.1 m3 h (λv m4=>∃(x3:PV×Int×MH),aA (I3 x3) (cX cb) (aA (aJ s) (aJ t) (aA (eP 8) (cG x2.1 x3.2.1) (aA nC sU
 (cT (oQ 32 (fU (jE 3) (jE (dV (1+k1))) (fU (jE o.kind) (jE o.index) (fU (jE (nM o)) (jE o.value.int) (fU (Dt o) (jE 3) (fU (jE 0) (jE v.kind) (fU (jE v.int) (NQ v.text) (jG Qx)))))))=qB 32 x3.1.enc) m4 x3.2.2 h h)))))))))))))/\∀(x3:PV×Int×MH),I3 x3->∃(I4:PV×MH->Prop),j5 cb 3 x3.2.2 h (λc r=>∀(m2:MH),bO (bA x3.2.2 m2 c) (aL m2 h c) (branch r (∃(c1:Nat),jT (λs1 t1=>∃(k1:Int),pF (λc2 p=>aA (BK cb 0::cW s::aY (cW t) x3.2.1=BK c1 0::cW s1::aY (cW t1) k1) (aL m2 h c1) (aA (Ints h s1 c2) (Ints h t1 p) (aA (fV c2) (fV p) (∀(o:OV)(m3:MH),bO (Qq c2 p k1 o) (bA m2 m3 c1) (iO m3 h c1 (∃(x4:PV×MH),aA (I4 x4) (cX cb) (aA (eP 8) (eP 11) (aA sU (oQ 32 (fU (jE x3.1.op) (jE x3.1.cmp) (fU (jE
 x3.1.left.kind) (jE x3.1.left.index) (fU (jE (nM x3.1.left)) (jE x3.1.left.value.int) (fU (Dt x3.1.left) (jE o.kind) (fU (jE o.index) (jE (nM o)) (fU (jE o.value.int) (Dt o) (jG (oT x3.1.args))))))))=qB 32 x4.1.enc) (aA (m3=x4.2) (h=h) True))))))))))) (∃(x4:PV×MH),aA (I4 x4) (cX cb) (aA (eP 8) (eP 11) (aA sU (qB 32 x3.1.enc=qB 32 x4.1.enc) (aA (m2=x4.2) (h=h) True))))))/\∀(x4:PV×MH),I4 x4->∃(I5:PV×MH->Prop),j5 cb 6 x4.2 h (λc r=>∀(m2:MH),bO (bA x4.2 m2 c) (aL m2 h c) (branch r (∃(x5:PV×MH),aA (I5 x5) (eP 8) (aA nC sU (cT (oQ 32 (fU (jE x4.1.op) (jE x4.1.cmp) (fU (jE x4.1.right.kind) (jE x4.1.right.index) (fU (jE (nM x4.1.right)) (jE x4.1.right.value.int) (fU (Dt x4.1.right) (jE x4.1.left.kind) (fU (jE x4.1.left.index)
 (jE (nM x4.1.left)) (fU (jE x4.1.left.value.int) (Dt x4.1.left) (jG (oT x4.1.args))))))))=qB 32 x5.1.enc) m2 x5.2 h h))) (∃(x5:PV×MH),aA (I5 x5) (eP 8) (aA nC sU (cT (qB 32 x4.1.enc=qB 32 x5.1.enc) m2 x5.2 h h)))))/\∀(x5:PV×MH),I5 x5->K (cY x5.1) x5.2 h) (x1.1==6) (Fe (BK cb 0::cW s::aY (cW t) (dV ((↑deep:Int)-1))) x1.2.2 h N (λv m2 h1=>cC (λs1 h2=>bJ h1 h2 (a8 h2 s1 13 (fO v.enc)) (K (kN (aI (dK 6) aK (aI aK aK (aI aK aK (aI HB aK (aI aK aK (aI aK HB (aR s1)))))))) m2 h2)))) (iZ cb 3 x1.2.2 h (λk1 m2=>∃(I2:Int×Int×List PV×MH×PH->Prop)(m3:Int×Int×List PV×MH×PH->Nat),(∃(x2:Int×Int×List PV×MH×PH),aA (I2 x2) (cX cb) (aA (aJ s) (aJ t) (aA (eQ (bX deep)) (eP 8) (aA (eP 12)
 (cG k1 x2.2.1) (aA sU (oQ 32 (tV (dV (dV (4+x1.1)-7)) (fU (jE 0) (jE 0) (Bz 0 (jG (At.lst 104)))))=oQ 32 (tV x2.1 (fU (jE 0) (jE 0) (Bz 0 (jG (At.lst 104)))))) (aA (rF 32 13 (Ds x2)) (cK m2 (xB x2)) (jN h (xB x2))))))))/\∀(x2:Int×Int×List PV×MH×PH),I2 x2->fR x2.2.1 0 (Fe (BK cb 0::cW s::aY (cW t) (dV ((↑deep:Int)-1))) (xB x2).1 (xB x2).2 N (λv m4 h1=>oM (Ds x2) 136 (∃(x3:Int×Int×List PV×MH×PH),aA (I2 x3) (m3 x3<m3 x2) (aA (cX cb) (aJ s) (aA (aJ t) (eQ (bX deep)) (aA (eP 8) (eP 12) (aA (cG (dV (x2.2.1-1)) x3.2.1) sU (aA (oQ 32 (tV x2.1 (fU (jE 0) (jE 0) (Bz 0 (jG (At.lst 104)))))=oQ 32 (tV x3.1 (fU (jE 0) (jE 0) (Bz 0 (jG (At.lst 104)))))) (Option.some
 (Own.lst 32 13 (dU (Ds x2) v.enc))=Option.some (Own.lst 32 13 (Ds x3))) (aA (cK m4 (xB x3)) (bR h1 (xB x3)) True))))))))) (cC (λs1 h1=>bJ (xB x2).2 h1 (a8 h1 s1 13 (Ds x2)) (K (kN (aI (dK x2.1) aK (aI aK aK (aI aK aK (aI HB aK (aI aK aK (aI aK HB (aR s1)))))))) (xB x2).1 h1)))))))
def PL(N:Nat)(cb:Nat)(s t:Sl)(deep:Nat)(m:MH)(h:PH)(K:CV->MH->PH->Prop):Prop:=
  Fe (BK cb 0::cW s::aY (cW t) (↑deep:Int)) m h N (λv m1 h1=>Da (cW s::aT (cW t) (cY v)) h1 (λc p p1=>dL (fX c p p1) 2 (Fe (BK cb 0::cW s::aY (cW t) 1) m1 h1 N (λv1 m2 h2=>K (cY v1) m2 h2)) (K (cY v) m1 h1)))
theorem F2:U5 zeroV zeroV=true:=by simp[U5]
theorem vE:Na 0 cM cM=true:=by simp[Na,U6,U5]
theorem QU{cols params:List Int}{x:Int}(h:cols[i]? =some x):kindOf cols params ⟨1,i,zeroV⟩=x:=by
 have hl:=(List.getElem?_eq_some_iff.1 h).1;have e:kindOf cols params ⟨1,i,zeroV⟩=oG cols ⟨1,i,zeroV⟩:=rfl;have e2:=F2;rw[e];simp only[oG,e2,Bool.not_true,Bool.or_false];rw[if_neg (by simp;omega)];simp[List.getD_eq_getElem?_getD,h]
theorem QT{cols params:List Int}{x:Int}(h:params[i]? =some x):kindOf cols params ⟨2,i,zeroV⟩=x:=by
 have hl:=(List.getElem?_eq_some_iff.1 h).1;have e:kindOf cols params ⟨2,i,zeroV⟩=oG params ⟨2,i,zeroV⟩:=rfl;have e2:=F2;rw[e];simp only[oG,e2,Bool.not_true,Bool.or_false];rw[if_neg (by simp;omega)];simp[List.getD_eq_getElem?_getD,h]
theorem OO{cols params:List Int}{kind:Int}{v:VV}(hv:Ij v)(hk:TL kind v):Qq cols params kind ⟨3,0,v⟩:=⟨hv,λh=>by
 obtain⟨h1,h2⟩:=hk h;have e:kindOf cols params ⟨3,0,v⟩=if((0:Int) !=0|| !kP v)then 0 else v.kind:=rfl
 rw[e,if_neg,h2];simp only[kP,h1,h2];rcases h with rfl|rfl|rfl<;>decide⟩
theorem Uo:Sound Tryz.prog 96 Qp:=by
 refine iB Tryz.func96 ?_;rintro cvs m h K ⟨cb,s,t,kind,cols,params,rfl,hc,hs,ht,l1,l2,hK⟩;refine⟨XC cb s t kind m h,rfl,aD GQ (aD GV aF),Pd cb s t kind m h K,by kernel_rfl,?_⟩;dsimp only[Pd,push_cast];have hsl:=hs.slen;have htl:=ht.slen;refine⟨λ⟨i,os⟩=>i<=cols.length/\os.length<=i/\∀o∈os,Qq cols params kind o,λ⟨i,_⟩=>cols.length-i,⟨(0,[]),⟨aC,by simp,by simp⟩,MT⟩,?_⟩;rintro⟨i,os⟩ ⟨hi,hol,hos⟩;dsimp only;refine aE (λhlt=>?_) (λhge=>?_)
 .obtain⟨x,hx⟩:=fG hsl hlt;obtain⟨b1,o1,e1,r1⟩:=hs.at' hx;refine⟨b1,o1,e1,aC,hlt,x,.imm r1,aB (λek=>⟨by simp;omega,by simp;omega,(i+1,os++[⟨1,i,zeroV⟩]),⟨aC,by simp;omega,?_⟩,by show cols.length-(i+1)<cols.length-i;omega,?_⟩) (λ_=>⟨(i+1,os),⟨aC,by show os.length<=i+1;omega,hos⟩,by show cols.length-(i+1)<cols.length-i;omega,MT⟩)⟩
  .intro o ho;rcases List.mem_append.1 ho with h1|h1
   .exact hos o h1
   .simp at h1;subst h1;exact⟨nS,λ_=>by rw[QU (by simpa using hx)];simpa using ek⟩
  .rw[List.map_append];exact MT
 refine⟨λ⟨i,os⟩=>i<=params.length/\os.length<=1000+i/\∀o∈os,Qq cols params kind o,λ⟨i,_⟩=>params.length-i,⟨(0,os),⟨aC,aC,hos⟩,MT⟩,?_⟩;clear hi hol hos hge;rintro⟨i,os⟩ ⟨hi,hol,hos⟩;dsimp only;refine aE (λhlt=>?_) (λhge=>?_)
 .obtain⟨x,hx⟩:=fG htl hlt;obtain⟨b1,o1,e1,r1⟩:=ht.at' hx;refine⟨b1,o1,e1,aC,hlt,x,.imm r1,aB (λek=>⟨by simp;omega,by simp;omega,(i+1,os++[⟨2,i,zeroV⟩]),⟨aC,by simp;omega,?_⟩,by show params.length-(i+1)<params.length-i;omega,?_⟩) (λ_=>⟨(i+1,os),⟨aC,by show os.length<=1000+(i+1);omega,hos⟩,by show params.length-(i+1)<params.length-i;omega,MT⟩)⟩
  .intro o ho;rcases List.mem_append.1 ho with h1|h1
   .exact hos o h1
   .simp at h1;subst h1;exact⟨nS,λ_=>by rw[QT (by simpa using hx)];simpa using ek⟩
  .rw[List.map_append];exact MT
 .refine⟨cb,_,rfl,hc,λk m' h0 h1 ho hc'=>aE (λhk=>?_) (λhk=>⟨cb,kind,rfl,hc',λv m'' hv hkw ho' hc''=>hK ⟨3,0,v⟩ m'' (OO hv hkw) (ho.trans ho') hc''⟩)⟩;have hk':k.toNat<os.length:=by simp at hk;omega
  exact⟨h0,hk,_,by rw[List.getElem?_map,List.getElem?_eq_getElem hk'];rfl,os[k.toNat],rfl,hK _ m' (hos _ (List.getElem_mem hk')) ho hc'⟩
theorem JU{h:PH}{v:PV}(ha:v.args=⟨none,0,0⟩):eJ h (.mk v.op v.cmp v.left v.right []) v:=eJ.mk (by rw[ha];exact .nil _ _ _ _)
structure Xd(cols params:List Int)(kd:Int)(p:PV):Prop where
 args_:p.args=⟨none,0,0⟩
 op_:p.op=3
 cmp_:1<=p.cmp/\p.cmp<=6
 left_:Qq cols params kd p.left
 right_:Qq cols params kd p.right
 kind_:DY cols->Vp kd
theorem Xs{k:Int}(h:Vp k):k≠0:=by rcases h with rfl|rfl|rfl<;>decide
theorem Xd.pw{cols params:List Int}{kd:Int}{p:PV}(x:Xd cols params kd p)(d:Nat):PW cols params d (.mk p.op p.cmp p.left p.right []):=by
 refine⟨⟨x.left_.val,x.right_.val,trivial⟩,λhc=>?_,Gl.leaf d⟩;have hk:=x.kind_ hc;have h1:=x.left_.kind hk;have h2:=x.right_.kind hk;have h3:=Xs hk;have h4:=x.cmp_;rw[x.op_];simp[gZ,h1,h2,h3,h4.1,h4.2]
theorem Zb{cols params:List Int}{d:Nat}(x:PW cols params d p):PW cols params (d+1) (.mk 6 0 cM cM [p]):=
 ⟨⟨nS,nS,x.vals,trivial⟩,λhc=>by
  have e:=vE;simp[gZ,AJ,e,x.valid hc],Gl.node (λq hq=>by simp at hq;subst hq;exact x.siz) (by simp)⟩
theorem Zc{cols params:List Int}{d:Nat}{op:Int}{ps:List Pred}(ho:op=4\/op=5)(x:∀p∈ps,PW cols params d p)(hl:ps.length<=3):PW cols params (d+1) (.mk op 0 cM cM ps):=
 ⟨⟨nS,nS,KD.2 λp hp=>(x p hp).vals⟩,λhc=>by
  have e:=vE;have e2:AJ cols params ps=true:=by rw[yM,List.all_eq_true];exactλp hp=>(x p hp).valid hc
  rcases ho with rfl|rfl<;>simp[gZ,e,e2],Gl.node (λq hq=>(x q hq).siz) hl⟩
theorem Tj:∀N,Sound Tryz.prog 68 (WM N)
 |0=>by
  refine eD (fn:=Tryz.f68) (c:=dJ Tryz.f68) Tryz.func68 rfl (by decide) ?_;rintro cvs m h K ⟨cb,s,t,cols,params,deep,rfl,_,_,_,_,_,hN,_⟩;omega
 |N+1=>by
  refine iB Tryz.func68 ?_;rintro cvs m h K ⟨cb,s,t,cols,params,deep,rfl,hc,hs,ht,l1,l2,hN,hd,hK⟩;refine⟨XP N cb s t deep h,rfl,aD GQ (aD xL (aD Uo (aD GV (aD (Tj N) aF)))),Pw N cb s t deep m h K,by kernel_rfl,?_⟩;dsimp only[Pw,push_cast];have hsl:=hs.slen;refine⟨cb,9,rfl,hc,λk m1 k0 k1 o1 c1=>?_⟩;refine⟨λ⟨k,_,mx⟩=>0<=k/\k<=8/\bA m mx cb/\aL mx h cb,aB (λ_=>⟨cb,2,rfl,aC,aC,c1,λr m2 o2 c2=>⟨(k,r,m2),⟨k0,aC,o1.trans o2,c2⟩,MT⟩⟩) (λ_=>⟨(k,false,m1),⟨k0,aC,o1,c1⟩,MT⟩),?_⟩;clear k0 k1 o1 c1 k m1;rintro⟨k,b,m1⟩ ⟨k0,k1,o1,c1⟩;dsimp only;refine aB (λ_=>⟨cb,2,rfl,c1,λj m2 j0 j1 o2 c2=>?_⟩) (λ_=>?_)
  .refine hK ⟨IntKind.i64.wrap (1+j),0,cM,cM,⟨none,0,0⟩⟩ _ m2 h (.refl _) (JU rfl) ⟨⟨nS,nS,trivial⟩,λ_=>?_,Gl.leaf _⟩ (o1.trans o2) c2;have hj:j=0\/j=1:=by omega
   have e1:IntKind.i64.wrap 1=1:=by decide
   have e2:IntKind.i64.wrap 2=2:=by decide
   rcases hj with rfl|rfl
   .simp[gZ,e1,vE]
   .simp[gZ,e2,vE]
  refine⟨λ⟨k,b,mx⟩=>0<=k/\k<=8/\(b=false->6<=k/\1<=deep)/\bA m mx cb/\aL mx h cb,aE (λ_=>⟨(k,true,m1),⟨k0,k1,λe=>(by cases e),o1,c1⟩,MT⟩) (λhk=>⟨(k,_,m1),⟨k0,k1,λe=>?_,o1,c1⟩,MT⟩),?_⟩
  .simp at e;exact⟨aC,aC⟩
  clear k0 k1 o1 c1 k m1;rintro⟨k,b,m1⟩ ⟨k0,k1,kb,o1,c1⟩;dsimp only;refine aB (λ_=>?_) (λhb=>?_)
  .refine⟨λ⟨kd,mx⟩=>(DY cols->Vp kd)/\bA m mx cb/\aL mx h cb,aE (λhpos=>⟨cb,s.len,rfl,c1,λj m2 j0 j1 o2 c2=>?_⟩) (λ_=>⟨(4,m1),⟨λ_=>.inr (.inl rfl),o1,c1⟩,MT⟩),?_⟩
   .obtain⟨b1,off,e1,r1⟩:=hs.inb (n:=j) j0 aC
    have hm:cols.getD j.toNat 0∈cols:=by
     have:j.toNat<cols.length:=by omega
     rw[List.getD_eq_getElem?_getD,List.getElem?_eq_getElem this];exact List.getElem_mem this
    exact⟨b1,off,e1,j0,aC,_,.imm r1,(_,m2),⟨λhcol=>hcol _ hm,o1.trans o2,c2⟩,MT⟩
   clear o1 c1 m1;rintro⟨kd,m1⟩ ⟨hkd,o1,c1⟩;dsimp only;refine⟨λ⟨p,kd,mx⟩=>Xd cols params kd p/\bA m mx cb/\aL mx h cb,⟨cb,6,rfl,c1,λj m2 j0 j1 o2 c2=>⟨cb,s,t,kd,cols,params,rfl,c2,hs,ht,l1,l2,λo m3 ho o3 c3=>⟨cb,kd,rfl,c3,λv m4 hv hkw o4 c4=>⟨(⟨3,IntKind.i64.wrap (1+j),o,⟨3,0,v⟩,⟨none,0,0⟩⟩,kd,m4),⟨⟨rfl,rfl,?_,ho,OO hv hkw,hkd⟩,((o1.trans o2).trans o3).trans o4,c4⟩,MT⟩⟩⟩⟩,?_⟩
   .show 1<=IntKind.i64.wrap (1+j)/\IntKind.i64.wrap (1+j)<=6;rw[dW aC aC];omega
   clear o1 c1 m1 hkd kd;rintro⟨p,kd,m1⟩ ⟨pw,o1,c1⟩;dsimp only;refine⟨λ⟨p,mx⟩=>Xd cols params kd p/\bA m mx cb/\aL mx h cb,⟨cb,3,rfl,aC,aC,c1,λr m2 o2 c2=>aB (λ_=>⟨cb,s,t,kd,cols,params,rfl,c2,hs,ht,l1,l2,λo m3 ho o3 c3=>⟨(⟨p.op,p.cmp,p.left,o,p.args⟩,m3),⟨⟨pw.args_,pw.op_,pw.cmp_,pw.left_,ho,pw.kind_⟩,(o1.trans o2).trans o3,c3⟩,MT⟩⟩) (λ_=>⟨(p,m2),⟨pw,o1.trans o2,c2⟩,MT⟩)⟩,?_⟩;clear pw o1 c1 m1 p;rintro⟨p,m1⟩ ⟨pw,o1,c1⟩;dsimp only;refine⟨λ⟨p,mx⟩=>Xd cols params kd p/\bA m mx cb/\aL mx h cb,⟨cb,6,rfl,aC,aC,c1,λr m2 o2 c2=>aB (λ_=>⟨(⟨p.op,p.cmp,p.right,p.left,p.args⟩,m2),⟨⟨pw.args_,pw.op_,pw.cmp_,pw.right_,pw.left_,pw.kind_⟩,o1.trans o2,c2⟩,MT⟩) (λ_=>⟨(p,m2),⟨pw,o1.trans o2,c2⟩,MT⟩)⟩,?_⟩;clear pw o1 c1 m1 p;rintro⟨p,m1⟩ ⟨pw,o1,c1⟩;exact hK p _ m1 h (.refl _) (JU pw.args_) (pw.pw deep) o1 c1
  have hdeep:=kb hb;have hw:IntKind.i64.wrap ((deep:Int)-1)=((deep-1:Nat):Int):=by rw[dW aC aC];omega
  rw[hw];have hdd:deep=deep-1+1:=by omega
  refine aB (λ_=>⟨cb,s,t,cols,params,deep-1,rfl,c1,hs,ht,l1,l2,aC,aC,λv p m2 h2 hle hr hp o2 c2 sl h3 hle2 hrow=>?_⟩) (λhk6=>⟨cb,3,rfl,c1,λj m2 j0 j1 o2 c2=>?_⟩)
  .refine hK ⟨6,0,cM,cM,sl⟩ (.mk 6 0 cM cM [p]) m2 h3 (hle.trans hle2) (eJ.mk (v:=⟨6,0,cM,cM,sl⟩) ⟨⟨[v],hrow,rfl,λi x hx=>?_⟩,by simp⟩) (by rw[hdd];exact Zb hp) (o1.trans o2) (c2.mono hle2)
   match i,hx with
   |0,hx=>simp at hx;subst hx;exact⟨v,rfl,hr.mono hle2⟩
   |_+1,hx=>simp at hx
  refine⟨λ⟨op,n,us,mx,hx⟩=>(op=4\/op=5)/\ -1<=n/\n<=2/\(us.length:Int)<=2-n/\PH.le h hx/\bA m mx cb/\aL mx hx cb/\∃ps:List Pred,ps.length=us.length/\(∀q∈ps,PW cols params (deep-1) q)/\∀(i:Nat) q,ps[i]? =some q->∃u,us[i]? =some u/\eJ hx q u,λ⟨_,n,_,_,_⟩=>(n+1).toNat,⟨(_,j,[],m2,h),⟨?_,aC,aC,by simp;omega,.refl _,o1.trans o2,c2,[],rfl,by simp,λi q hq=>by simp at hq⟩,MT⟩,?_⟩
  .have hk6:k≠6:=by simpa using hk6
   have hk7:k=7\/k=8:=by omega
   rcases hk7 with rfl|rfl
   .exact .inl (by decide)
   .exact .inr (by decide)
  rintro⟨op,n,us,mx,hx⟩ ⟨hop,n0,n1,ul,hle,ox,cx,ps,pl,pw,hps⟩;dsimp only;refine aE (λhn=>⟨cb,s,t,cols,params,deep-1,rfl,cx,hs.mono hle,ht.mono hle,l1,l2,aC,aC,λv p m3 h3 hle3 hr hp o3 c3=>⟨by simp;omega,by simp;omega,(op,n-1,us++[v],m3,h3),⟨hop,by show-1<=n-1;omega,by show n-1<=2;omega,by simp;omega,hle.trans hle3,ox.trans o3,c3,ps++[p],by simp[pl],?_,?_⟩,?_,?_⟩⟩) (λhn sl h3 hle3 hrow=>?_)
  .intro q hq;rcases List.mem_append.1 hq with h1|h1
   .exact pw q h1
   .simp at h1;subst h1;exact hp
  .intro i q hq;by_cases hi:i<ps.length
   .rw[List.getElem?_append_left hi]at hq;obtain⟨u,h1,h2⟩:=hps i q hq;exact⟨u,by rw[List.getElem?_append_left aC];exact h1,h2.mono hle3⟩
   .rw[List.getElem?_append_right aC]at hq;have hl:=(List.getElem?_eq_some_iff.1 hq).1;simp at hl;have:i=ps.length:=by omega
    subst this;simp at hq;subst hq;exact⟨v,by rw[List.getElem?_append_right aC,pl];simp,hr⟩
  .show(n-1+1).toNat<(n+1).toNat;omega
  .rw[List.map_append,dW aC aC];exact MT
  .exact hK ⟨op,0,cM,cM,sl⟩ (.mk op 0 cM cM ps) mx h3 (hle.trans hle3) (eJ.mk (v:=⟨op,0,cM,cM,sl⟩) ⟨⟨us,hrow,pl,λi q hq=>(hps i q hq).imp λu hu=>⟨hu.1,hu.2.mono hle3⟩⟩,aC⟩) (by rw[hdd];exact Zc hop pw aC) ox (cx.mono hle3)
theorem Qd(h:DY l):l.all cV=true:=List.all_eq_true.2 λk hk=>by
 rcases h k hk with e|e|e<;>subst e<;>rfl
theorem SU{cols params:List Int}{d:Nat}(x:PW cols params d p)(hd:d<=2)(hc:DY cols)(hp:DY params):fX cols params p=0:=by
 have h1:=Eh p 0;have h2:=x.siz.n;have h3:=CL p 8 (by have:=x.siz.d;omega)
 have h4:gF d<=13:=by match d,hd with
  |0,_=>decide
  |1,_=>decide
  |2,_=>decide
 unfold fX;rw[Qd hc,Qd hp,if_neg (by simp),h3,if_neg (by simp;omega),x.valid hc];rfl
theorem DC:Sound Tryz.prog 30 yI:=by
 refine iB Tryz.func30 ?_;rintro cvs m h K ⟨cb,s,t,cols,params,deep,rfl,hc,hs,ht,l1,l2,hd,hK⟩;refine⟨dM [(68,WM 1001),(69,rO)] [] [] [] false,rfl,aD (Tj 1001) (aD GY aF),PL 1001 cb s t deep m h K,by kernel_rfl,?_⟩;dsimp only[PL,push_cast];refine⟨cb,s,t,cols,params,deep,rfl,hc,hs,ht,l1,l2,aC,hd,λv p m2 h2 hle hr hp o2 c2=>⟨s,t,v,cols,params,p,rfl,hs.mono hle,ht.mono hle,hr,aB (λ_=>⟨cb,s,t,cols,params,1,rfl,c2,hs.mono hle,ht.mono hle,l1,l2,aC,aC,λv3 p3 m3 h3 hle3 hr3 hp3 o3 c3=>hK v3 p3 m3 h3 (hle.trans hle3) hr3 ⟨hp3.vals,λ_ k1 k2=>SU hp3 (by decide) k1 k2⟩ (o2.trans o3) c3⟩) (λ_=>hK v p m2 h2 hle hr ⟨hp.vals,λk0 k1 k2=>SU hp k0 k1 k2⟩ o2 c2)⟩⟩
def bF:Sl:=⟨none,0,0⟩
def TQ:Vc.Spec:=λcvs m h K=>∃n k,cvs=[NK n,cI k]/\K (.val (.agg ⟨(mT.mk n k).enc⟩)) m h
def WW:Vc.Spec:=λcvs m h K=>∃t,cvs=[cI t]/\K (aQ ⟨1,t,eV,bF,bF,bF,bF,0,bF⟩) m h
def YH(v:QV)(g o:Sl)(k:Int):QV:=⟨v.op,v.table,v.where_,v.columns,v.on,g,o,k,v.args⟩
def YO:Vc.Spec:=λcvs m h K=>∃cb v s kinds,cvs=[cP cb,aQ (YH v bF bF v.limit),cS s]/\aL m h cb/\Ints h s kinds/\kinds.length<=1000/\
 ∀g o k gr od m' h',PH.le h h'->Ints h' g gr->iJ h' o od->gr.length<=kinds.length->od.length<=kinds.length->0<=k->k<=3->bA m m' cb->aL m' h' cb->K (aQ (YH v g o k)) m' h'
noncomputable def X0(cb:Nat)(v:QV)(s:Sl)(h:PH):Ctx:=
 dM [(15,Gn),(16,KN)] [(2,{A:=Nat×List Int×List (Int×Bool)×MH,st:=λ⟨i,gr,od,m⟩=>cE 37 40 [(0,pv cb),(4,.at (.ptr 4 0)),(6,.at (.ptr 6 0)),(9,iv s.len),(10,iv i)] [(4,.cells 38 ((v.enc.take 17).map .val++[.lst 19,.lst 30,.val (.int .i64 v.limit),.val (.slice v.args.a v.args.len v.args.cap)])),(6,.cells 38 (z6.enc.map .val)),(19,.lst 3 1 (gr.map eI)),(30,.lst 72 2 (od.map CZ))] m h})] [] [] false
def VQ(n:ByteArray)(k:Int)(m:MH)(h:PH)(K:CV->MH->PH->Prop):Prop:=
  K (kN (gM (Value.string n) (dK k))) m h
noncomputable abbrev y8(a:Int):List Value:=Nk (dK 1) (dK a)
attribute [push_cast] y8
def VT(t:Int)(m:MH)(h:PH)(K:CV->MH->PH->Prop):Prop:=
  K (kN (y8 t)) m h
noncomputable abbrev zH(a:Int)(b:QV)(c:List At):List At:=fU (jE a) (jE b.table) c
abbrev Db(a:QV):Prop:=eQ (oQ 38 (zH a.op a (pQ a.where_ (fU (oT a.columns) (oT a.on) (fU (At.lst 19) (At.lst 30) (wB a.limit (oT a.args)))))))
abbrev hP:Prop:=eQ (oQ 38 zQ)
noncomputable abbrev pZ(a:Nat×List Int×List (Int×Bool)×MH):List (List Value):=List.map CZ a.2.2.1
abbrev Ff(a:Nat×List Int×List (Int×Bool)×MH->Prop)(b:Nat×List Int×List (Int×Bool)×MH->Nat)(c:Nat×List Int×List (Int×Bool)×MH)(d:Nat)(e:Sl)(g:Prop)(i j:(Nat×List Int×List (Int×Bool)×MH)->Prop)(k:MH)(l:PH):Prop:=∃(x:Nat×List Int×List (Int×Bool)×MH),aA (a x) (b x<b c) (aA (cX d) (eP 4) (aA (eP 6) (bN e) (aA (fM (bE c.1 1)=bX x.1) g (aA hP (i x) (aA (j x) (k=x.2.2.2) (cQ l l))))))
abbrev C5(a b:List Int):Prop:=Option.some (Own.lst 3 1 (jP a))=Option.some (Own.lst 3 1 (List.map eI b))
attribute [push_cast] zH Db hP pZ Ff C5
def PG(cb:Nat)(v:QV)(s:Sl)(m:MH)(h:PH)(K:CV->MH->PH->Prop):Prop:=
  ∃(I:Nat×List Int×List (Int×Bool)×MH->Prop)(m1:Nat×List Int×List (Int×Bool)×MH->Nat),(∃(x:Nat×List Int×List (Int×Bool)×MH),aA (I x) (cX cb) (aA (eP 4) (eP 6) (aA (bN s) (bD x.1) (aA (Db v) hP (aA (sI x.2.1) (rF 72 2 (pZ x)) (aA (m=x.2.2.2) (h=h) True))))))/\∀(x:Nat×List Int×List (Int×Bool)×MH),I x->bC (↑x.1:Int) (aG s) (j5 cb 3 x.2.2.2 h (λc r=>∀(m2:MH),bO (bA x.2.2.2 m2 c) (aL m2 h c) (branch r (oM (jP x.2.1) 8 (j5 cb 3 m2 h (λc1 r1=>∀(m3:MH),bO (bA m2 m3 c1) (aL m3 h c1) (branch r1 (j5 cb 2 m3 h (λc2 r2=>∀(m4:MH),bO (bA m3 m4 c2) (aL m4 h c2) (oM (pZ x) 16 (Ff I m1 x cb s (Db v) (λx1=>sJ x.2.1 (↑x.1:Int) x1.2.1) (λx1=>Option.some (Own.lst 72 2 (dU (pZ
 x) (gM (dK (↑x.1:Int)) (Value.bool r2))))=Option.some (Own.lst 72 2 (pZ x1))) m4 h)))) (Ff I m1 x cb s (Db v) (λx1=>sJ x.2.1 (↑x.1:Int) x1.2.1) (λx1=>Option.some (Own.lst 72 2 (pZ x))=Option.some (Own.lst 72 2 (pZ x1))) m3 h))))) (j5 cb 3 m2 h (λc1 r1=>∀(m3:MH),bO (bA m2 m3 c1) (aL m3 h c1) (branch r1 (j5 cb 2 m3 h (λc2 r2=>∀(m4:MH),bO (bA m3 m4 c2) (aL m4 h c2) (oM (pZ x) 16 (Ff I m1 x cb s (Db v) (λx1=>C5 x.2.1 x1.2.1) (λx1=>Option.some (Own.lst 72 2 (dU (pZ x) (gM (dK (↑x.1:Int)) (Value.bool r2))))=Option.some (Own.lst 72 2 (pZ x1))) m4 h)))) (Ff I m1 x cb s (Db v) (λx1=>C5 x.2.1 x1.2.1) (λx1=>Option.some (Own.lst 72 2 (pZ x))=Option.some (Own.lst 72 2 (pZ x1))) m3 h))))))) (iZ cb 4 x.2.2.2
 h (λk m2=>cC (λs1 h1=>bJ h h1 (a8 h1 s1 1 (jP x.2.1)) (cC (λs2 h2=>bJ h1 h2 (a8 h2 s2 2 (pZ x)) (K (Fk v v (aI (lU (gE v)) (fW (fA v)) (aI (sA (fA v)) (dK (nM (fA v))) (aI (nH (fA v)) (lU (fA v)) (aI (oA v) (oD v) (aI (dO v.on) (dO s1) (aI (dO s2) (dK k) (aR v.args)))))))) m2 h2))))))
theorem Uz:Sound Tryz.prog 76 TQ:=by
 refine iB Tryz.func76 ?_;rintro cvs m h K ⟨n,k,rfl,hK⟩;refine⟨dM [] [] [] [] false,rfl,aF,VQ n k m h K,by kernel_rfl,?_⟩;exact hK
theorem LJ:Sound Tryz.prog 40 WW:=by
 refine iB Tryz.func40 ?_;rintro cvs m h K ⟨t,rfl,hK⟩;refine⟨dM [] [] [] [] false,rfl,aF,VT t m h K,by kernel_rfl,?_⟩;exact hK
theorem UE:Sound Tryz.prog 42 YO:=by
 refine iB Tryz.func42 ?_;rintro cvs m h K ⟨cb,v,s,kinds,rfl,hc,hs,hl,hK⟩;refine⟨X0 cb v s h,rfl,aD GQ (aD xL aF),PG cb v s m h K,by kernel_rfl,?_⟩;dsimp only[PG,push_cast];have hsl:=hs.slen;refine⟨λ⟨i,gr,od,mx⟩=>i<=kinds.length/\gr.length<=i/\od.length<=i/\bA m mx cb/\aL mx h cb,λ⟨i,_,_,_⟩=>kinds.length-i,⟨(0,[],[],m),⟨aC,by simp,by simp,.refl _ _,hc⟩,MT⟩,?_⟩;rintro⟨i,gr,od,m1⟩ ⟨hi,hg,ho,o1,c1⟩;dsimp only;refine aE (λhlt=>?_) (λhge=>?_)
 .have fin:∀(gr':List Int)(od':List (Int×Bool)) m',gr'.length<=i+1->od'.length<=i+1->bA m m' cb->aL m' h cb->(i+1<=kinds.length/\gr'.length<=i+1/\od'.length<=i+1/\bA m m' cb/\aL m' h cb):=λgr' od' m' h1 h2 h3 h4=>⟨aC,h1,h2,h3,h4⟩
  refine⟨cb,3,rfl,aC,aC,c1,λr m2 o2 c2=>aB (λ_=>⟨by simp;omega,by simp;omega,cb,3,rfl,aC,aC,c2,λr2 m3 o3 c3=>aB (λ_=>⟨cb,2,rfl,aC,aC,c3,λr3 m4 o4 c4=>⟨by simp;omega,by simp;omega,(i+1,gr++[(i:Int)],od++[((i:Int),r3)],m4),fin (gr++[(i:Int)]) (od++[((i:Int),r3)]) m4 (by simp;omega) (by simp;omega) (((o1.trans o2).trans o3).trans o4) c4,by show kinds.length-(i+1)<kinds.length-i;omega,?_⟩⟩) (λ_=>⟨(i+1,gr++[(i:Int)],od,m3),fin (gr++[(i:Int)]) od m3 (by simp;omega) aC ((o1.trans o2).trans o3) c3,by show kinds.length-(i+1)<kinds.length-i;omega,?_⟩)⟩)
   (λ_=>⟨cb,3,rfl,aC,aC,c2,λr2 m3 o3 c3=>aB (λ_=>⟨cb,2,rfl,aC,aC,c3,λr3 m4 o4 c4=>⟨by simp;omega,by simp;omega,(i+1,gr,od++[((i:Int),r3)],m4),fin gr (od++[((i:Int),r3)]) m4 aC (by simp;omega) (((o1.trans o2).trans o3).trans o4) c4,by show kinds.length-(i+1)<kinds.length-i;omega,?_⟩⟩) (λ_=>⟨(i+1,gr,od,m3),fin gr od m3 aC aC ((o1.trans o2).trans o3) c3,by show kinds.length-(i+1)<kinds.length-i;omega,MT⟩)⟩)⟩
  .simp only[List.map_append];exact MT
  .simp only[List.map_append];exact MT
  .simp only[List.map_append];exact MT
 .refine⟨cb,4,rfl,c1,λk m2 k0 k1 o2 c2 s1 h1 hle1 r1 s2 h2 hle2 r2=>?_⟩;exact hK s1 s2 k gr od m2 h2 (hle1.trans hle2) ⟨r1.mono hle2,aC⟩ ⟨r2,aC⟩ aC aC k0 aC (o1.trans o2) (c2.mono (hle1.trans hle2))
def W3:Vc.Spec:=λcvs m h K=>∃cb s t a b,cvs=[cP cb,cS s,cS t]/\aL m h cb/\Ints h s a/\Ints h t b/\a.length<=1000/\b.length<=1000/\
 ∀o on m' h',PH.le h h'->lK h' o on->on.length<=10->bA m m' cb->aL m' h' cb->K (cS o) m' h'
noncomputable def X1(cb:Nat)(s t:Sl)(h:PH):Ctx:=
 dM [(15,Gn)] [(3,{A:=Int×List (Int×Int)×MH,st:=λ⟨n,on,m⟩=>cE 77 80 [(0,pv cb),(1,sv s),(2,sv t),(7,.at (.lst 75)),(8,iv n)] [(75,.lst 69 2 (on.map mX))] m h}),
  (8,{A:=Int×Nat×List (Int×Int)×(Int×Int)×Bool×MH,st:=λ⟨n,i,on,p,f,m⟩=>cE 77 80 [(0,pv cb),(1,sv s),(2,sv t),(7,.at (.lst 75)),(8,iv n),(9,.at (.ptr 9 0)),(10,bv f),(49,.at (.lst 75)),(50,iv on.length),(51,iv i)] [(9,.cells 69 [.val (.int .i64 p.1),.val (.int .i64 p.2)]),(75,.lst 69 2 (on.map mX))] m h})] [] [] false
noncomputable abbrev j3(a:List (Int×Int)):List (List Value):=List.map mX a
noncomputable abbrev Bq(a:Int×Nat×List (Int×Int)×(Int×Int)×Bool×MH):Bool:=a.2.2.2.2.1
noncomputable abbrev lR(a:Int×Nat×List (Int×Int)×(Int×Int)×Bool×MH):List (Int×Int):=a.2.2.1
noncomputable abbrev xV(a:Int×Nat×List (Int×Int)×(Int×Int)×Bool×MH):Int×Int:=a.2.2.2.1
abbrev kK(a b:List (Int×Int)):Prop:=Option.some (Own.lst 69 2 (j3 a))=Option.some (Own.lst 69 2 (j3 b))
noncomputable abbrev uP(a:Int×Nat×List (Int×Int)×(Int×Int)×Bool×MH):Nat->Option Obj:=a.2.2.2.2.2
abbrev IB(a:(Int×Nat×List (Int×Int)×(Int×Int)×Bool×MH)->Prop)(b:(Int×Nat×List (Int×Int)×(Int×Int)×Bool×MH)->Nat)(c d:Nat)(e g:Sl)(i:Int×Nat×List (Int×Int)×(Int×Int)×Bool×MH)(j:(Int×Nat×List (Int×Int)×(Int×Int)×Bool×MH)->Int×Nat×List (Int×Int)×(Int×Int)×Bool×MH)(k:(Int×Nat×List (Int×Int)×(Int×Int)×Bool×MH)->Prop):Prop:=∃(x:Int×Nat×List (Int×Int)×(Int×Int)×Bool×MH),aA (a x) (b x<c) (aA (cX d) (aJ e) (aA (aJ g) (eL 75) (aA (cG i.1 (j x).1) (eP 9) (k x))))
abbrev yS(a:Nat->Nat->Option Value)(b:Nat)(c:List (List Value))(d:CV->MH->PH->Prop)(e:Nat->Option Obj):Prop:=cC (λx x1=>bJ a x1 (a8 x1 x b c) (d (cW x) e x1))
attribute [push_cast] j3 Bq lR xV kK uP IB yS
def PI(cb:Nat)(s t:Sl)(m:MH)(h:PH)(K:CV->MH->PH->Prop):Prop:=
  iZ cb 3 m h (λk m1=>∃(I:Int×List (Int×Int)×MH->Prop)(m2:Int×List (Int×Int)×MH->Nat),(∃(x:Int×List (Int×Int)×MH),aA (I x) (cX cb) (aA (aJ s) (aJ t) (aA (eL 75) (cG k x.1) (aA (rF 69 2 (j3 x.2.1)) (m1=x.2.2) (cQ h h)))))/\∀(x:Int×List (Int×Int)×MH),I x->eB x.1 0 (eB (aG s) 0 (eB (aG t) 0 (iZ cb (aG s) x.2.2 h (λk1 m3=>iZ cb (aG t) m3 h (λk2 m4=>aA (cD 0) ((0:Int)<2) (aU (λb o=>aA (aX s.a b o) (0<=k1) (k1<aG s/\∃(y:Int),aA (aM m4 h b (fN o k1 1) (bT y)) ((0:Int)<=1) ((1:Int)<2/\aU (λb1 o1=>aA (aX t.a b1 o1) (0<=k2) (k2<aG t/\∃(y1:Int),aM m4 h b1 (fN o1 k2 1) (bT y1)/\∃(I1:Int×Nat×List (Int×Int)×(Int×Int)×Bool×MH->Prop)(m5:Int×Nat×List (Int×
 Int)×(Int×Int)×Bool×MH->Nat),(∃(x1:Int×Nat×List (Int×Int)×(Int×Int)×Bool×MH),aA (I1 x1) (cX cb) (aA (aJ s) (aJ t) (aA (eL 75) (cG x.1 x1.1) (aA (eP 9) (gC (y==y1) (Bq x1)) (aA (eL 75) (bP (j3 x.2.1).length (lR x1).length) (aA (bD x1.2.1) (Bf (wB k1 (jE k2)) (qU (xV x1))) (cT (kK x.2.1 (lR x1)) m4 (uP x1) h h)))))))/\∀(x1:Int×Nat×List (Int×Int)×(Int×Int)×Bool×MH),I1 x1->bC (↑x1.2.1:Int) (↑(lR x1).length:Int) (aA (cD (↑x1.2.1:Int)) ((↑x1.2.1:Int)<kE (j3 (lR x1))) (∃(e:List Value),uZ (j3 (lR x1)) (oP x1.2.1) e/\∃(y2:Int×Int),Dw 2 0 e (sT y2)/\branch (Bq x1) (aA (cD 0) ((0:Int)<2) (aA (cD 0) ((0:Int)<2) (dT y2.1 (xV x1).1 (aA (cD 1) ((1:
 Int)<2) (aA (cD 1) ((1:Int)<2) (IB (λx2=>I1 x2) (λx2=>m5 x2) (m5 x1) cb s t x1 (λx2=>x2) (λx2=>aA (gC (y2.2 !=(xV x1).2) (Bq x2)) (eL 75) (aA (bP (lR x1).length (lR x2).length) (fM (bE x1.2.1 1)=bX x2.2.1) (aA (Bf (qU (xV x1)) (qU (xV x2))) (kK (lR x1) (lR x2)) (aA (uP x1=uP x2) (h=h) True))))))) (IB (λx2=>I1 x2) (λx2=>m5 x2) (m5 x1) cb s t x1 (λx2=>x2) (λx2=>aA (xX (Bq x2)) (eL 75) (aA (bP (lR x1).length (lR x2).length) (fM (bE x1.2.1 1)=bX x2.2.1) (aA (Bf (qU (xV x1)) (qU (xV x2))) (kK (lR x1) (lR x2)) (aA (uP x1=uP x2) (h=h) True)))))))) (IB (λx2=>I1 x2) (λx2=>m5 x2) (m5 x1) cb s t x1 (λx2=>x2) (λx2=>aA (xX (Bq
 x2)) (eL 75) (aA (bP (lR x1).length (lR x2).length) (fM (bE x1.2.1 1)=bX x2.2.1) (aA (Bf (qU (xV x1)) (qU (xV x2))) (kK (lR x1) (lR x2)) (aA (uP x1=uP x2) (h=h) True))))))) (branch (Bq x1) (oM (j3 (lR x1)) 16 (∃(x2:Int×List (Int×Int)×MH),aA (I x2) (m2 x2<m2 x) (aA (cX cb) (aJ s) (aA (aJ t) (eL 75) (aA (cG (dV (x1.1-1)) x2.1) (Option.some (Own.lst 69 2 (dU (j3 (lR x1)) (sT (xV x1))))=Option.some (Own.lst 69 2 (j3 x2.2.1))) (dR (uP x1) x2.2.2 h h)))))) (∃(x2:Int×List (Int×Int)×MH),aA (I x2) (m2 x2<m2 x) (aA (cX cb) (aJ s) (aA (aJ t) (eL 75) (aA (cG (dV (x1.1-1)) x2.1) (kK (lR x1) x2.2.1) (dR (uP x1) x2.2.2 h h))))))))))))))) (yS h 2 (j3 x.2.1) K x.2.2))
 (yS h 2 (j3 x.2.1) K x.2.2)) (yS h 2 (j3 x.2.1) K x.2.2))
theorem UF:Sound Tryz.prog 41 W3:=by
 refine iB Tryz.func41 ?_;rintro cvs m h K ⟨cb,s,t,a,b,rfl,hc,hs,ht,l1,l2,hK⟩;refine⟨X1 cb s t h,rfl,aD GQ aF,PI cb s t m h K,by kernel_rfl,?_⟩;dsimp only[PI,push_cast];have hsl:=hs.slen;have htl:=ht.slen;refine⟨cb,3,rfl,hc,λk m1 k0 k1 o1 c1=>⟨λ⟨n,on,mx⟩=>0<=n/\n<=2/\(on.length:Int)<=2-n/\bA m mx cb/\aL mx h cb,λ⟨n,_,_⟩=>n.toNat,⟨(k,[],m1),⟨k0,by show k<=2;omega,by simp;omega,o1,c1⟩,MT⟩,?_⟩⟩;clear k0 k1 o1 c1 m1;rintro⟨n,on,m1⟩ ⟨n0,n1,hon,o1,c1⟩;dsimp only;have out:∀(sl:Sl)(h':PH),PH.le h h'->a8 h' sl 2 (on.map mX)->K (.val (.slice sl.a sl.len sl.cap)) m1 h':=λsl h' hle hrow=>hK sl on m1 h' hle ⟨hrow,aC⟩ aC o1 (c1.mono hle);refine aE (λhn=>aE (λhp=>aE (λhq=>?_) (λ_=>out)) (λ_=>out)) (λ_=>out);refine⟨cb,s.len,rfl,c1,λx m2 x0 x1 o2 c2=>⟨cb,t.len,rfl,c2,λy m3 y0 y1 o3 c3=>?_⟩⟩;obtain⟨b1,f1,e1,r1⟩:=hs.inb (n:=x) x0 aC;obtain⟨b2,f2,e2,r2⟩:=ht.inb (n:=y) y0 aC;refine⟨aC,aC,b1,f1,e1,x0,aC,_,.imm r1,aC,aC,b2,f2,e2,y0,aC,_,.imm r2,?_⟩;refine⟨λ⟨n',i,on',p,f,mx⟩=>n'=n/\on'=on/\mx=m3/\i<=on.length,λ⟨_,i,_,_,_,_⟩=>on.length-i,⟨(n,0,on,(x,y),a.getD x.toNat 0==b.getD y.toNat 0,m3),⟨rfl,rfl,rfl,aC⟩,?_⟩,?_⟩
 .rw[List.length_map];exact MT
 rintro⟨n,i,on,p,f,m3⟩ ⟨rfl,rfl,rfl,hi⟩;dsimp only;refine aE (λhlt=>?_) (λhge=>?_)
 .have hl:i<on.length:=by omega
  have hget:(on.map mX)[i]? =some (mX on[i]):=by rw[List.getElem?_map,List.getElem?_eq_getElem hl];rfl
  refine⟨aC,by rw[List.length_map];omega,_,hget,on[i],rfl,aB (λ_=>⟨aC,aC,aC,aC,aB (λ_=>⟨aC,aC,aC,aC,(n,i+1,on,p,_,m3),⟨rfl,rfl,rfl,by show i+1<=on.length;omega⟩,by show on.length-(i+1)<on.length-i;omega,MT⟩) (λ_=>⟨(n,i+1,on,p,_,m3),⟨rfl,rfl,rfl,by show i+1<=on.length;omega⟩,by show on.length-(i+1)<on.length-i;omega,MT⟩)⟩) (λ_=>⟨(n,i+1,on,p,_,m3),⟨rfl,rfl,rfl,by show i+1<=on.length;omega⟩,by show on.length-(i+1)<on.length-i;omega,MT⟩)⟩
 .have hw:IntKind.i64.wrap (n-1)=n-1:=dW aC aC;rw[hw];refine aB (λ_=>⟨by rw[List.length_map];omega,by rw[List.length_map];omega,(n-1,on++[p],m3),⟨by show 0<=n-1;omega,by show n-1<=2;omega,by simp;omega,(o1.trans o2).trans o3,c3⟩,by show(n-1).toNat<n.toNat;omega,?_⟩) (λ_=>⟨(n-1,on,m3),⟨by show 0<=n-1;omega,by show n-1<=2;omega,by show(on.length:Int)<=2-(n-1);omega,(o1.trans o2).trans o3,c3⟩,by show(n-1).toNat<n.toNat;omega,MT⟩);rw[List.map_append];exact MT
def ZJ:Vc.Spec:=λcvs m h K=>∃s cs,∃most:Nat,cvs=[cS s,cI most]/\a8 h s 1 (bG cs)/\s.len<=s.cap/\most<=1000/\∀cb m' h',PH.le h h'->m cb=none->bA m m' cb->aL m' h' cb->K (cP cb) m' h'
abbrev Ad(a b:Prop)(c:(List (List Value))->Prop):Prop:=aA a b (∃(x:List (List Value)),c x)
attribute [push_cast] Ad
def P4(s:Sl)(most:Nat)(m:MH)(h:PH)(K:CV->MH->PH->Prop):Prop:=
  Ad (cD (ite ((↑most:Int)<aG s) (↑most:Int) (aG s))) (ite ((↑most:Int)<aG s) (↑most:Int) (aG s)<=(↑s.cap:Int)) (λy=>aA (dY 1 y) (oR m h (Sl.mk s.a (ite ((↑most:Int)<aG s) (↑most:Int) (aG s)).toNat s.cap) 1 y) (aA (fY (y.length*1)) (fY y.length) (cC (λs1 h1=>bJ h h1 (a8 h1 s1 1 y) (∀(b:Nat)(m1:MH),bO (cF m h1 b) (bH m m1 b (gM (dO s1) aK) 82) (K (fI b) m1 h1))))))
theorem ES(l:List UInt8):dY 1 (bG l):=by
 constructor
 .intro e he;obtain⟨x,_,rfl⟩:=List.mem_map.1 he;rfl
 .intro e he u hu;obtain⟨x,_,rfl⟩:=List.mem_map.1 he;simp at hu;subst hu;rfl
theorem a8.cut{s:Sl}(r:a8 h s sz xs)(n:Nat)(hn:n<=xs.length):a8 h ⟨s.a,n,s.cap⟩ sz (xs.take n):=by
 refine⟨by simp;omega,?_,by have h1:=r.len;have h2:=r.cap;show n<=s.cap;omega⟩;rcases r.row with e|⟨b,o,ha,k⟩
 .left;rw[e];simp
 .right;refine⟨b,o,ha,λi e hi=>?_⟩;rw[List.getElem?_take]at hi;split at hi
  .exact k i e hi
  .cases hi
theorem U1:Sound Tryz.prog 11 ZJ:=by
 refine iB Tryz.func11 ?_;rintro cvs m h K ⟨s,cs,most,rfl,hr,hc,hm,hK⟩;refine⟨vK [] [] [] [] [82] [] false,rfl,aF,P4 s most m h K,by kernel_rfl,?_⟩;have hl:s.len=cs.length:=by have:=hr.len;simpa[bG]using this
 dsimp only[P4,push_cast];have hmin:(if(most:Int)<(s.len:Int)then(most:Int)else(s.len:Int))=((min most s.len:Nat):Int):=by split<;>omega
 rw[hmin];have hcut:=a8.cut hr (min most s.len) (by simp[bG];omega);refine⟨aC,aC,bG (cs.take (min most s.len)),ES _,.imm ?_,by simp[bG];omega,by simp[bG];omega,λs' h' hle hrow b m' hb hu=>?_⟩
 .rw[show bG (cs.take (min most s.len))=(bG cs).take (min most s.len)by simp[bG,List.map_take]];exact hcut
 .exact hK b m' h' hle hb.m_ ⟨hu.other⟩ ⟨_,⟨⟨s',_,0,hu.at_,hrow,aC,by simp;omega,rfl⟩⟩⟩
def YU:Vc.Spec:=λcvs m h K=>∃n:Nat,cvs=[.val (.slice none 0 0),cI n]/\n<=1000/\K (.lst 3 1 []) m h
noncomputable def Wa(ss:Sl)(m:MH)(h:PH):Ctx:=
 dM [(205,YU)] [(3,{A:=Nat×Nat,st:=λ⟨i,n⟩=>cE 36 37 [(0,sv ss),(3,iv n),(9,sv ss),(10,iv ss.len),(11,iv i)] [] m h}),
  (11,{A:=Nat×List Int,st:=λ⟨i,l⟩=>cE 36 37 [(6,.at (.lst 24)),(25,sv ss),(26,iv ss.len),(27,iv i)] [(24,.lst 3 1 (l.map eI))] m h})] [] [] false
abbrev FL(a:Int):Prop:=a<=140737488355328
attribute [push_cast] FL
def LY(n:Nat)(m:MH)(h:PH)(K:CV->MH->PH->Prop):Prop:=
  eB (dV ((↑n:Int)-dV ((0:Int)-0))) 0 (aA (cD 0) (cD 0) (aA (0<dV ((↑n:Int)-0)) (FL (dV ((↑n:Int)-0)*8)) (aA (FL (dV ((↑n:Int)-0))) ((0:Int)<=0) (cD (kE (List.replicate (dV ((↑n:Int)-0)).toNat (iP aK)))/\K (CV.lst 3 1 []) m h)))) (K (CV.lst 3 1 []) m h)
def Ma(ss:Sl)(m:MH)(h:PH)(K:CV->MH->PH->Prop):Prop:=
  ∃(I:Nat×Nat->Prop)(m1:Nat×Nat->Nat),(∃(x:Nat×Nat),aA (I x) (aJ ss) (aA (bD x.2) (aJ ss) (aA (bN ss) (bD x.1) (aA (m=m) (h=h) True))))/\∀(x:Nat×Nat),I x->bC (↑x.1:Int) (aG ss) (aU (λb o=>aA (aX ss.a b o) (0<=(↑x.1:Int)) ((↑x.1:Int)<aG ss/\∃(y:Sl),aM m h b (bM o x.1 1) (aR y)/\bC (bE x.2 (aG y)) 0 False (∃(x1:Nat×Nat),aA (I x1) (m1 x1<m1 x) (aA (aJ ss) (fM (bE x.2 (aG y))=bX x1.2) (aA (aJ ss) (bN ss) (aA (fM (bE x.1 1)=bX x1.1) (m=m) (cQ h h)))))))) (∃(n:Nat),aA (aY mW (↑x.2:Int)=aY mW (↑n:Int)) (j2 n) (∃(I1:Nat×List Int->Prop)(m2:Nat×List Int->Nat),(∃(x1:Nat×List Int),aA (I1 x1) (eL 24) (aA (aJ ss) (bN ss) (aA (bD x1.1) (sI x1.2) (aA (m=m) (h=h) True))))/\
 ∀(x1:Nat×List Int),I1 x1->bC (↑x1.1:Int) (aG ss) (aU (λb o=>aA (aX ss.a b o) (0<=(↑x1.1:Int)) ((↑x1.1:Int)<aG ss/\∃(y:Sl),aM m h b (bM o x1.1 1) (aR y)/\∃(y1:List (List Value)),aA (dY 1 y1) (a8 h (dC y) 1 y1) (aA (sC (jP x1.2) y1 8) (sD (jP x1.2) y1) (∃(x2:Nat×List Int),aA (I1 x2) (m2 x2<m2 x1) (aA (eL 24) (aJ ss) (aA (bN ss) (fM (bE x1.1 1)=bX x2.1) (aA (Option.some (Own.lst 3 1 (jP x1.2++y1))=Option.some (Own.lst 3 1 (List.map eI x2.2))) (m=m) (cQ h h))))))))) (Fj h x1.2 K m)))
theorem Rm:Sound Tryz.prog 205 YU:=by
 refine iB Tryz.func205 ?_;rintro cvs m h K ⟨n,rfl,hn,hK⟩;refine⟨dM [] [] [] [] true,rfl,aF,LY n m h K,by kernel_rfl,?_⟩;dsimp only[LY,push_cast];have h0:IntKind.i64.wrap ((n:Int)-0)=n:=by rw[dW aC aC];omega
 have h1:IntKind.i64.wrap ((n:Int)-IntKind.i64.wrap (0-0))=n:=by rw[show IntKind.i64.wrap (0-0)=0 from by rw[dW aC aC];rfl,h0]
 exact aE (λhp=>⟨aC,aC,aC,aC,aC,aC,aC,hK⟩) (λ_=>hK)
def tL(ks:List (List Int)):Nat:=(ks.map List.length).sum
theorem HE{k:List Int}(hk:ks[i]? =some k):tL (ks.take (i+1))=tL (ks.take i)+k.length:=by
 unfold tL;rw[List.take_add_one,hk];simp
theorem Gs{ks:List (List Int)}(h:∀k∈ks,k.length<=12):∀i,tL (ks.take i)<=12*i
 |0=>by simp[tL]
 |i+1=>by
  have ih:=Gs h i;cases e:ks[i]? with
  |none=>rw[List.take_add_one,e];simp[tL]at ih⊢;omega
  |some k=>rw[HE e];have:=h k (List.mem_of_getElem? e);omega
theorem Ru:Sound Tryz.prog 179 Jg:=by
 refine iB Tryz.func179 ?_;rintro cvs m h K ⟨ss,ks,rfl,hs,hl,h12,hK⟩;refine⟨Wa ss m h,rfl,aD Rm aF,Ma ss m h K,by kernel_rfl,?_⟩;dsimp only[Ma,push_cast];have hsl:=bZ.slen hs;refine⟨λ⟨i,n⟩=>i<=ks.length/\n=tL (ks.take i),λ⟨i,_⟩=>ks.length-i,⟨(0,0),⟨aC,by simp[tL]⟩,MT⟩,?_⟩;rintro⟨i,n⟩ ⟨hi,rfl⟩;dsimp only;have hb:=Gs h12 i;refine aE (λhlt=>?_) (λhge=>?_)
 .obtain⟨k,hk⟩:=fG hsl hlt;obtain⟨b,o,sl,ea,r,hki⟩:=bZ.at hs hk;have hkl:=hki.slen;have hk12:=h12 k (List.mem_of_getElem? hk)
  have hw:IntKind.i64.wrap ((tL (ks.take i):Int)+(sl.len:Int))=((tL (ks.take (i+1)):Nat):Int):=by
   rw[HE hk,dW aC aC];omega
  refine⟨b,o,ea,aC,hlt,sl,.imm r,?_⟩;rw[hw];exact aE (λhneg=>by omega) (λ_=>⟨(i+1,tL (ks.take (i+1))),⟨aC,rfl⟩,by show ks.length-(i+1)<ks.length-i;omega,MT⟩)
 .refine⟨tL (ks.take i),rfl,aC,?_⟩;refine⟨λ⟨i,l⟩=>i<=ks.length/\l=(ks.take i).flatten,λ⟨i,_⟩=>ks.length-i,⟨(0,[]),⟨aC,by simp⟩,MT⟩,?_⟩;clear hb hge hi;rintro⟨i,l⟩ ⟨hi,rfl⟩;dsimp only;have hfl:(ks.take i).flatten.length<=12*i:=by have:=Gs h12 i;simpa[tL,List.length_flatten]using this
  refine aE (λhlt=>?_) (λhge sl h' hle hrow=>hK sl h' hle ⟨?_,?_⟩)
  .obtain⟨k,hk⟩:=fG hsl hlt;obtain⟨b,o,sl,ea,r,hki⟩:=bZ.at hs hk;have hk12:=h12 k (List.mem_of_getElem? hk);refine⟨b,o,ea,aC,hlt,sl,.imm r,k.map eI,Cc k,hki.row,?_,?_,(i+1,(ks.take (i+1)).flatten),⟨aC,rfl⟩,by show ks.length-(i+1)<ks.length-i;omega,?_⟩
   .rw[List.length_map,List.length_map];omega
   .rw[List.length_map,List.length_map];omega
   .rw[List.take_add_one,hk,Option.toList_some,List.flatten_append,List.map_append,List.flatten_cons,List.flatten_nil,List.append_nil];exact MT
  .rw[List.take_of_length_le aC]at hrow;exact hrow
  .rw[List.take_of_length_le aC]at hfl;omega
theorem Uy:∀N,Sound Tryz.prog 81 (BN N):=Th Ru
def Pq(v:QV)(m:MH)(h:PH)(K:CV->MH->PH->Prop):Prop:=
  ∀(b:Nat)(m1:MH),bO (cF m h b) (bH m m1 b v.enc 38) (K (CV.val (Cp 114 (Array.mk (iP (T0 b 0))))) m1 h)
end Go.Ps
