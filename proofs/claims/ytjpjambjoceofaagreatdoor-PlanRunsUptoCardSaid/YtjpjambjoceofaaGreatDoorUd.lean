/- Own work. -/
import Derived.Test.YtjpjambjoceofaaGreatDoorUc
set_option linter.unusedVariables false
set_option linter.unusedSimpArgs false
namespace Go.Ps
open Go Go.Vc Go.Proofs List Tryz
variable{K:dk}{m:MH}{h:PH}{s:lL}{ps:dl}{cb:Nat}{sc:bX}{v:QV}{q:Query}{p:Pred}{l:dl}{i:Nat}{N:Nat}{m':MH}{h':PH}{co:dl}{gr:dl}{od:dr}{w:Pred}{ta:Int}{li:Int}{xs:List dj}{sz:Nat}{k:Nat}{ks:List dl}{rs:dl}{r:Sl}{a:dl}{b:Nat}
def bT(h:PH)(s:Sl)(l:dp):Prop:=bI h 3 VV.enc Eq s l
theorem bT.mono{s:Sl}{l:dp}(x:bT h s l)(le:PH.le h h'):bT h' s l:=bI.mono x le λ_ _ e=>e
def gX(ps:dp)(o:OV):OV:=if o.kind=2/\0<=o.index/\o.index<ps.length then⟨3,0,ps.getD o.index.toNat zeroV⟩else o
mutual
def GU(ps:dp):Pred->Pred
 |.mk op c l r args=>.mk op c (gX ps l) (gX ps r) (GS ps args)
def GS(ps:dp):dx->dx
 |[]=>[]
 |p::r=>GU ps p::GS ps r
end
theorem QG(ps:dp):∀l,GS ps l=l.map (GU ps)
 |[]=>by simp[GS]
 |p::r=>by simp[GS,QG ps r]
theorem a3J(o:OV):gX [] o=o:=by unfold gX;grind
mutual
theorem TP:∀p,GU [] p=p
 |.mk op c l r args=>by simp only[GU,a3J,QF args]
theorem QF:∀l,GS [] l=l
 |[]=>by simp[GS]
 |p::r=>by simp only[GS,TP p,QF r]
end
def Cd:QV:=⟨0,0,iJ,⟨none,0,0⟩,⟨none,0,0⟩,⟨none,0,0⟩,⟨none,0,0⟩,0,⟨none,0,0⟩⟩
def bPZ:Vc.Spec:=λc m h K=>∃o s ps,c=[aO o,cS s]/\bT h s ps/\K (aO (gX ps o)) m h
def ckJ(N:Nat):Vc.Spec:=λc m h K=>∃v s p ps,c=[aP v,cS s]/\dX h p v/\bT h s ps/\SizeOf.sizeOf p<N/\∀d h',PH.le h h'->dX h' (GU ps p) d->K (aP d) m h'
def clQ:Vc.Spec:=λc m h K=>∃v s p ps,c=[aP v,cS s]/\dX h p v/\bT h s ps/\∀d h',PH.le h h'->dX h' (GU ps p) d->K (aP d) m h'
def bNZ(N:Nat):Vc.Spec:=λc m h K=>∃v q,c=[aQ v]/\dZ h q v/\SizeOf.sizeOf q<N/\∀d h',PH.le h h'->dZ h' q d->K (aQ d) m h'
def alX:Vc.Spec:=λc m h K=>∃v q,c=[aQ v]/\dZ h q v/\∀d h',PH.le h h'->dZ h' q d->K (aQ d) m h'
noncomputable def bWX(N:Nat)(v:PV)(s:Sl)(m:MH)(h:PH):Ctx:=
 cT [(96,ckJ N),(171,bPZ)] [(3,{A:=Nat×OV×OV×en×PH,st:=λ⟨i,l,r,c,h⟩=>bO 40 42 [(1,sv s),(2,.at (.ptr 2 0)),(4,.at (.ptr 4 0)),(5,.at (.ptr 5 0)),(22,iv v.args.len),(23,iv i)] [(2,.cells 32 (v.enc.map .val)),(4,.cells 32 (iJ.enc.map .val)),(5,.cells 32 (([Value.int .i64 v.op,Value.int .i64 v.cmp]++l.enc++r.enc).map .val++[.lst 36])),(36,.lst 32 13 (c.map PV.enc))] m h})] [(2,{A:=OV×OV,st:=λ⟨l,r⟩=>bO 40 42 [(1,sv s),(2,.at (.ptr 2 0)),(4,.at (.ptr 4 0)),(5,.at (.ptr 5 0))] [(2,.cells 32 (v.enc.map .val)),(4,.cells 32 (iJ.enc.map .val)),(5,.cells 32 (([Value.int .i64 v.op,Value.int .i64 v.cmp]++l.enc++r.enc++[Value.slice none 0 0]).map .val))] m h})] [] false
noncomputable def b1Q(N:Nat)(v:QV)(co:dl)(on:dq)(gr:dl)(od:dr)(m:MH):Ctx:=
 cT [(96,clQ),(49,bNZ N)] [(9,{A:=Nat×PV×eh×PH,st:=λ⟨i,w,c,h⟩=>bO 46 47 [(1,.at (.ptr 1 0)),(2,.at (.ptr 2 0)),(3,.at (.ptr 3 0)),(29,iv v.args.len),(30,iv i)] [(1,.cells 38 (v.enc.map .val)),(2,.cells 38 (Cd.enc.map .val)),(3,.cells 38 (([Value.int .i64 v.op,Value.int .i64 v.table]++w.enc).map .val++[.lst 12,.lst 16,.lst 20,.lst 24,.val (.int .i64 v.limit),.lst 42])),(12,.lst 3 1 (co.map eI)),(16,.lst 101 2 (on.map tL)),(20,.lst 3 1 (gr.map eI)),(24,.lst 103 2 (od.map Ah)),(42,.lst 38 21 (c.map QV.enc))] m h})] [] [] false
def S6(o:OV)(s:Sl)(m:MH)(h:PH)(K:dk):Prop:=
  dD o.kind 2 (eK o.index 0 (aW o.index (aF s) (aJ (λb c=>aI (aK s.a b c) (0<=o.index) (o.index<aF s) (∃(y:VV),aR m h b (cC c o.index 3) y.enc/\K (gV (bC (fE 3) cF (bC (fE y.kind) (fE y.int) (AQ y.text)))) m h))) (K (gV o.enc) m h)) (K (gV o.enc) m h)) (K (gV o.enc) m h)
abbrev nB(a:Sl->dp->Prop):Prop:=∃(x:Sl)(c:dp),a x c
abbrev mA:Prop:=eQ (oQ 32 zP)
abbrev CW(a b:dz):Prop:=oQ 32 a=oQ 32 b
noncomputable abbrev BV:dz:=kM Q9
noncomputable abbrev xO(a:OV):At:=fL a.index
noncomputable abbrev sG(a b:Int)(c:OV)(d:dz):dz:=cH (fL a) (fL b) (cH (fL c.kind) (xO c) d)
noncomputable abbrev lD(a:OV):At:=UZ a.value.text
noncomputable abbrev rW(a:Nat×OV×OV×en×PH):OV:=a.2.1
noncomputable abbrev oO(a:Nat×OV×OV×en×PH):OV:=a.2.2.1
abbrev u9(a b:Nat)(c:List dj):Prop:=bW a b []=bW a b c
noncomputable abbrev ET(a:Nat×OV×OV×en×PH):List dj:=List.map PV.enc a.2.2.2.1
noncomputable abbrev C4(a:Nat×OV×OV×en×PH):Nat->Nat->Option Value:=a.2.2.2.2
abbrev H3(a:PV->Sl->Pred->dp->Prop):Prop:=∃(x:PV)(c:Sl)(d:Pred)(e:dp),a x c d e
abbrev Hr(a:PH)(b:Pred)(c:PV->PH->Prop):Prop:=∀(x:PV)(d:PH),dN a d (dX d b x) (c x d)
attribute [push_cast] nB mA CW BV xO sG lD rW oO u9 ET C4 H3 Hr
def Wr(N:Nat)(v:PV)(s:Sl)(m:MH)(h:PH)(K:dk):Prop:=
  ∃(I:OV×OV->Prop),((∃(o:OV),nB (λg p=>aI (iS (uE v) s=iS o.enc g) (bT h g p) (∃(e:OV),nB (λj d=>aA (iS (sZ v) s=iS e.enc j) (bT h j d) (∃(x:OV×OV),aA (I x) (aH s) (aA cW fI (aA dM (fM v) (aA mA (CW (cH (fL v.op) (fL v.cmp) (cH (At.val (qI (gX p o))) (At.val (qJ (gX p o))) (cH (At.val (j8 (gX p o))) (At.val (lY (gX p o))) (cH (At.val (kJ (gX p o))) (At.val (qI (gX d e))) (cH (At.val (qJ (gX d e))) (At.val (j8 (gX d e))) (cH (At.val (lY (gX d e))) (At.val (kJ (gX d e))) BV)))))) (sG v.op v.cmp x.1 (cH (fL (kU x.1)) (fL (p7 x.1)) (cH (lD x.1) (fL x.2.kind) (cH (xO x.2) (fL (kU x.2)) (cH (fL (p7 x.2)) (lD x.2) BV)))))) (bG m m
 h h))))))) (∃(e:OV),nB (λj d=>aA (iS (sZ v) s=iS e.enc j) (bT h j d) (∃(x:OV×OV),aA (I x) (aH s) (aA cW fI (aA dM (fM v) (aA mA (CW (cH (fL v.op) (fL v.cmp) (cH (At.val (qI (gX p o))) (At.val (qJ (gX p o))) (cH (At.val (j8 (gX p o))) (At.val (lY (gX p o))) (cH (At.val (kJ (gX p o))) (At.val (qI (gX d e))) (cH (At.val (qJ (gX d e))) (At.val (j8 (gX d e))) (cH (At.val (lY (gX d e))) (At.val (kJ (gX d e))) BV)))))) (sG v.op v.cmp x.1 (cH (fL (kU x.1)) (fL (p7 x.1)) (cH (lD x.1) (fL x.2.kind) (cH (xO x.2) (fL (kU x.2)) (cH (fL (p7 x.2)) (lD x.2) BV)))))) (bG m m h h)))))))))/\∃(o:OV),nB (λg p=>aA (iS (uE v) s=iS o.enc g) (bT h g p)
 (∃(e:OV),nB (λj d=>aA (iS (sZ v) s=iS e.enc j) (bT h j d) (∃(x:OV×OV),aA (I x) (aH s) (aA cW fI (aA dM (fM v) (aA mA (CW (cH (fL v.op) (fL v.cmp) (cH (At.val (qI (gX p o))) (At.val (qJ (gX p o))) (cH (At.val (j8 (gX p o))) (At.val (lY (gX p o))) (cH (At.val (kJ (gX p o))) (At.val (qI (gX d e))) (cH (At.val (qJ (gX d e))) (At.val (j8 (gX d e))) (cH (At.val (lY (gX d e))) (At.val (kJ (gX d e))) BV)))))) (sG v.op v.cmp x.1 (cH (fL (kU x.1)) (fL (p7 x.1)) (cH (lD x.1) (fL x.2.kind) (cH (xO x.2) (fL (kU x.2)) (cH (fL (p7 x.2)) (lD x.2) BV)))))) (bG m m h h)))))))))/\∀(x:OV×OV),I x->∃(I1:Nat×OV×OV×en×PH->Prop)(t:Nat×OV×OV×en×PH
 ->Nat),(∃(c:Nat×OV×OV×en×PH),aA (I1 c) (aH s) (aA cW fI (aA dM (pY v) (aA (aZ c.1) (fM v) (aA mA (CW (sG v.op v.cmp x.1 (cH (fL (kU x.1)) (fL (p7 x.1)) (cH (lD x.1) (fL x.2.kind) (cH (xO x.2) (fL (kU x.2)) (cH (fL (p7 x.2)) (lD x.2) (kM (At.lst 36))))))) (sG v.op v.cmp (rW c) (cH (fL (kU (rW c))) (fL (p7 (rW c))) (cH (lD (rW c)) (fL (oO c).kind) (cH (xO (oO c)) (fL (kU (oO c))) (cH (fL (p7 (oO c))) (lD (oO c)) (kM (At.lst 36)))))))) (aA (u9 32 13 (ET c)) (m=m) (bR h (C4 c))))))))/\∀(c:Nat×OV×OV×en×PH),I1 c->aW (↑c.1:Int) (aF v.args) (aJ (λb o=>aI (aK v.args.a b o) (0<=(↑c.1:Int)) ((↑c.1:Int)<aF v.args) (∃(y
 :PV),aR m (C4 c) b (bE o c.1 13) y.enc/\H3 (λu g p d=>aA (iS y.enc s=iS u.enc g) (dX (C4 c) p u) (aA (bT (C4 c) g d) (qP p N) (Hr (C4 c) (GU d p) (λz n=>aA (aR m n b (bE o c.1 13) y.enc) (bZ n b (bE o c.1 13) y.enc) (aA (j4 (nY (ET c) 1*136)) (zY (ET c)) (∃(f:Nat×OV×OV×en×PH),aA (I1 f) (t f<t c) (aA (aH s) cW (aA fI dM (aA (pY v) (eR (bF ((↑c.1:Int)+1))=bL f.1) (aA (fM v) mA (aA (CW (sG v.op v.cmp (rW c) (cH (fL (kU (rW c))) (fL (p7 (rW c))) (cH (lD (rW c)) (fL (oO c).kind) (cH (xO (oO c)) (fL (kU (oO c))) (cH (fL (p7 (oO c))) (lD (oO c)) (kM (At.lst 36))))))) (sG v.op v.cmp
 (rW f) (cH (fL (kU (rW f))) (fL (p7 (rW f))) (cH (lD (rW f)) (fL (oO f).kind) (cH (xO (oO f)) (fL (kU (oO f))) (cH (fL (p7 (oO f))) (lD (oO f)) (kM (At.lst 36)))))))) (bW 32 13 (eG (ET c) z.enc)=bW 32 13 (ET f)) (bG m m n (C4 f)))))))))))))))) (bU (C4 c) 13 (ET c) (λg n=>K (gV (bC (fE v.op) (fE v.cmp) (bC (qI (rW c)) (qJ (rW c)) (bC (j8 (rW c)) (lY (rW c)) (bC (kJ (rW c)) (qI (oO c)) (bC (qJ (oO c)) (j8 (oO c)) (bC (lY (oO c)) (kJ (oO c)) (aM g)))))))) m n))
abbrev jC:Prop:=eQ (oQ 38 zQ)
noncomputable abbrev JV(a:QV)(b:PV):dz:=cH (fL a.op) (zX a) (pQ b (cH (At.lst 12) (At.lst 16) (cH (At.lst 20) (At.lst 24) (iU (fL a.limit) (At.lst 42)))))
noncomputable abbrev oA(a:Nat×PV×eh×PH):PV:=a.2.1
noncomputable abbrev LV(a:dq):List dj:=List.map tL a
noncomputable abbrev Pv(a:dr):List dj:=List.map Ah a
noncomputable abbrev wJ(a:eh):List dj:=List.map QV.enc a
noncomputable abbrev EU(a:Nat×PV×eh×PH):List dj:=wJ a.2.2.1
abbrev KD(a:Nat->Nat->Option Value)(b:Query)(c:QV->PH->Prop):Prop:=∀(x:QV)(d:PH),dN a d (dZ d b x) (c x d)
noncomputable abbrev zL(a:PV):Value:=qI a.left
noncomputable abbrev zM(a:PV):Value:=qJ a.left
noncomputable abbrev xI(a:PV):Value:=lY a.left
noncomputable abbrev xJ(a:PV):Value:=kJ a.left
noncomputable abbrev xM(a:PV):Value:=qI a.right
noncomputable abbrev zR(a:PV):Value:=qJ a.right
noncomputable abbrev zS(a:PV):Value:=j8 a.right
noncomputable abbrev zT(a:PV):Value:=lY a.right
noncomputable abbrev zU(a:PV):Value:=kJ a.right
attribute [push_cast] jC JV oA LV Pv wJ EU KD zL zM xI xJ xM zR zS zT zU
def P6(N:Nat)(v:QV)(co:dl)(on:dq)(gr:dl)(od:dr)(m:MH)(h:PH)(K:dk):Prop:=
  H3 (λt s p u=>aI (nO (gV (B3 v)) iO=iS t.enc s) (dX h p t) (bT h s u) (Hr h (GU u p) (λB d=>∃(y:List dj),aA (cZ 1 y) (cE d (cX v.columns) 1 y) (aA (Ci y 8) (Cj y) (∃(e:List dj),aA (cZ 2 e) (cE d (cX v.on) 2 e) (aA (Ci e 16) (Cj e) (∃(f:List dj),aA (cZ 1 f) (cE d (cX v.group) 1 f) (aA (Ci f 8) (Cj f) (∃(g:List dj),aA (cZ 2 g) (cE d (cX v.order) 2 g) (aA (Ci g 16) (Cj g) (∃(I:Nat×PV×eh×PH->Prop)(z:Nat×PV×eh×PH->Nat),(∃(x:Nat×PV×eh×PH),aA (I x) dW (aA cW bJ (aA (uF v) (aZ x.1) (aA (dJ v) jC (aA (oQ 38 (JV v B)=oQ 38 (JV v (oA x))) (gU y co) (aA (bW 101 2 e=
 bW 101 2 (LV on)) (gU f gr) (aA (bW 103 2 g=bW 103 2 (Pv od)) (u9 38 21 (EU x)) (aA (m=m) (d=x.2.2.2) True))))))))/\∀(x:Nat×PV×eh×PH),I x->aW (↑x.1:Int) (aF v.args) (aJ (λb o=>aI (aK v.args.a b o) (0<=(↑x.1:Int)) ((↑x.1:Int)<aF v.args) (∃(n:QV),aR m x.2.2.2 b (bE o x.1 21) n.enc/\qR (λA q=>aI (gK n.enc=gK A.enc) (dZ x.2.2.2 q A) (sB q N) (KD x.2.2.2 q (λC j=>aA (aR m j b (bE o x.1 21) n.enc) (bZ j b (bE o x.1 21) n.enc) (aA (j4 (nY (EU x) 1*280)) (zY (EU x)) (∃(c:Nat×PV×eh×PH),aA (I c) (z c<z x) (aA dW cW (aA bJ (uF v) (aA (eR (bF ((↑x.1:Int)+1))=bL c.1) (dJ v) (aA jC (oQ 38 (JV v (oA x))=oQ 38 (JV v (oA
 c))) (aA (eQ (bW 3 1 (dT co))) (eQ (bW 101 2 (LV on))) (aA (eQ (bW 3 1 (dT gr))) (eQ (bW 103 2 (Pv od))) (aA (bW 38 21 (eG (EU x) C.enc)=bW 38 21 (EU c)) (m=m) (bR j c.2.2.2)))))))))))))))) (bU x.2.2.2 1 (dT co) (λD j=>bU j 2 (LV on) (λE F=>bU F 1 (dT gr) (λG H=>bU H 2 (Pv od) (λJ L=>bU L 21 (EU x) (λM O=>K (gV (bC (fE v.op) (fE v.table) (bC (fE (oA x).op) (fE (oA x).cmp) (bC (zL (oA x)) (zM (oA x)) (bC (fE (kU (oA x).left)) (xI (oA x)) (bC (xJ (oA x)) (xM (oA x)) (bC (zR (oA x)) (zS (oA x)) (bC (zT (oA x)) (zU (oA x)) (bC (iI (oA x).args) (iI D) (bC (iI E) (iI G) (bC (iI J) (fE v.limit) (aM
 M)))))))))))) m O)))))))))))))))))
theorem ZH:di 171 bPZ:=by
 refine fU func171 ?_;rintro n m h K ⟨o,s,ps,rfl,f,c⟩;refine⟨cT [] [] [] [] false,rfl,aG,S6 o s m h K,bu,?_⟩;dsimp only[S6,push_cast];have u:=bI.slen f;unfold gX at c;refine aB (λd=>aD (λg=>aD (λj=>?_) (λj=>?_)) (λg=>?_)) (λd=>?_)
 .have d:o.kind=2:=cg
  rw[if_pos ⟨d,g,aC⟩]at c
  have t:ps[o.index.toNat]? =some (ps.getD o.index.toNat zeroV):=by
   grind
  obtain⟨b,off,v,e,r,rfl⟩:=bI.at f t;exact⟨b,off,e,aC,j,_,.imm r,c⟩
 .rw[if_neg (λe=>by omega)]at c;exact c
 .rw[if_neg (λe=>by omega)]at c;exact c
 .have d:o.kind≠2:=cg
  rw[if_neg (λe=>d e.1)]at c;exact c
theorem RN{α β:Type}{ps:List α}{us:List β}{i:Nat}{R R':α->β->Prop}{q:α}{v:β}(e:i<=ps.length)(c:us.length=i)(f:ps[i]? =some q)(d:∀(j:Nat) x,(ps.take i)[j]? =some x->∃u,us[j]? =some u/\R x u)(g:∀x u,R x u->R' x u)(n:R' q v):
 ∀(j:Nat) x,(ps.take (i+1))[j]? =some x->∃u,(us++[v])[j]? =some u/\R' x u:=by
 grind
theorem aqJ:∀N,di 96 (ckJ N)
 |0=>by
  refine eA (fn:=Tryz.f96) (c:=cM Tryz.f96) func96 rfl bz ?_;rintro B m h K ⟨v,s,p,ps,rfl,_,_,P,_⟩;omega
 |N+1=>by
  refine fU func96 ?_;rintro B m h K ⟨v,s,p,ps,rfl,Q,C,P,J⟩;refine⟨bWX N v s m h,rfl,aE (aqJ N) (aE ZH aG),Wr N v s m h K,bu,?_⟩;dsimp only[Wr,push_cast];have g:=@uK p;obtain⟨op,R,l,r,D⟩:=p;obtain⟨rfl,rfl,rfl,rfl,E⟩:=Q.parts;have S:=E.slen;have L:=E.len;simp only[Pred.args]at g;simp only[GU,QG]at J;refine⟨λx=>x=(gX ps v.left,gX ps v.right),?_,?_⟩
  .repeat' (first|exact⟨(gX ps v.left,gX ps v.right),rfl,MT⟩|refine⟨v.left,s,ps,rfl,C,?_⟩|refine⟨v.right,s,ps,rfl,C,?_⟩|apply And.intro)
  rintro _ rfl;dsimp only;refine⟨λ⟨i,l,r,o,f⟩=>l=gX ps v.left/\r=gX ps v.right/\i<=D.length/\PH.le h f/\o.length=i/\∀(j:Nat) x,(D.take i)[j]? =some x->∃u,o[j]? =some u/\dX f (GU ps x) u,λ⟨i,_,_,_,_⟩=>D.length-i,⟨(0,gX ps v.left,gX ps v.right,[],h),⟨rfl,rfl,aC,.refl _,rfl,λj x f=>by simp at f⟩,MT⟩,?_⟩;rintro⟨i,_,_,o,f⟩ ⟨rfl,rfl,T,e,t,n⟩;dsimp only;refine aD (λz=>?_) (λU M h' d A=>J ⟨v.op,v.cmp,gX ps v.left,gX ps v.right,M⟩ h' (e.trans d) (dX.mk (v:=⟨v.op,v.cmp,gX ps v.left,gX ps v.right,M⟩) ⟨⟨o,A,ce,λj x f=>?_⟩,ce⟩))
  .obtain⟨q,O⟩:=dO S z;obtain⟨V,W,u,X,F,G⟩:=(E.mono e).at O;refine⟨V,W,X,aC,z,u,.imm F,u,s,q,ps,rfl,G,C.mono e,?_,λY h' d H=>⟨.imm (F.mono d),F.mono d,ce,ce,(i+1,gX ps v.left,gX ps v.right,o++[Y],h'),⟨rfl,rfl,aC,e.trans d,by simp[t],RN (R':=λx u=>dX h' (GU ps x) u) T t O n (λ_ _ I=>I.mono d) H⟩,aC,?_⟩⟩
   .grind
   .rw[cv];exact MT
  .rw[cu aC]at n;rw[getElem?_map,Option.map_eq_some_iff]at f;obtain⟨y,Z,rfl⟩:=f;obtain⟨u,h1,I⟩:=n j y Z;exact⟨u,h1,I.mono d⟩
theorem aOJ:di 96 clQ:=iQ aqJ λ_ _ _ _⟨v,s,p,ps,e,c,d,f⟩=>⟨SizeOf.sizeOf p+1,v,s,p,ps,e,c,d,aC,f⟩
theorem a8X(l:eh):cZ 21 (l.map QV.enc):=by
 constructor
 .intro e c;obtain⟨x,_,rfl⟩:=mem_map.1 c;rfl
 .intro e c u d;obtain⟨x,_,rfl⟩:=mem_map.1 c;simp[QV.enc]at d;rcases d with rfl|rfl|rfl|rfl|rfl|rfl|rfl|rfl|rfl|rfl|rfl|rfl|rfl|rfl|rfl|rfl|rfl|rfl|rfl|rfl|rfl<;>rfl
theorem cuX{op:Int}{on:dq}{args:ds}(x:nS h op ta w co on gr od li args v)(W:∀q∈args,SizeOf.sizeOf q<N)(X:∀H h',PH.le h h'->dZ h' (.mk op ta w co on gr od li args) H->K (aQ H) m h'):P6 N v co on gr od m h K:=by
 dsimp only[P6,push_cast];have Y:=x.args_.slen;have g:=x.args_.len;have Z:=x.columns_.len;have l2:=x.on_.len;have l3:=x.group_.len;have l4:=x.order_.len;refine⟨v.where_,⟨none,0,0⟩,w,[],rfl,x.where_,.nil _ _ _ _,λn M c O=>⟨_,qF co,(x.columns_.mono c).row,ce,ce,_,JG on,(x.on_.mono c).row,ce,ce,_,qF gr,(x.group_.mono c).row,ce,ce,_,JF od,(x.order_.mono c).row,ce,ce,?_⟩⟩;rw[TP]at O;refine⟨λ⟨i,w',o,t⟩=>w'=n/\i<=args.length/\PH.le M t/\o.length=i/\∀(j:Nat) q,(args.take i)[j]? =some q->∃u,o[j]? =some u/\dZ t q u,λ⟨i,_,_,_⟩=>args.length-i,⟨(0,n,[],M),⟨rfl,aC,.refl _,rfl,λj x t=>by simp at t⟩,MT⟩,?_⟩;rintro⟨i,n,o,t⟩ ⟨rfl,hi,e,y,f⟩;dsimp only;refine aD (λz=>?_) (λa'=>?_)
 .obtain⟨q,A⟩:=dO Y z;obtain⟨b1,o1,u,I,B,J⟩:=(x.args_.mono (c.trans e)).at A;refine⟨b1,o1,I,aC,z,u,.imm B,u,q,rfl,J,W q (cr A),λH h' d L=>⟨.imm (B.mono d),B.mono d,ce,ce,(i+1,n,o++[H],h'),⟨rfl,aC,e.trans d,by simp[y],RN (R':=dZ h') hi y A f (λ_ _ P=>P.mono d) L⟩,aC,?_⟩⟩;rw[cv];exact MT
 .rw[cu aC]at f;intro s1 P C B s2 h3 D r2 s3 h4 E r3 s4 h5 F r4 s5 h6 G r5;have Q:=G;have R:=F.trans Q;have S:=E.trans R;have T:=D.trans S;have U:=C.trans T;have V:=e.trans U
  exact X ⟨v.op,v.table,n,s1,s2,s3,s4,v.limit,s5⟩ h6 (c.trans V) (nS.rep ⟨x.op_,x.table_,O.mono V,⟨B.mono T,Z⟩,⟨r2.mono S,l2⟩,⟨r3.mono R,l3⟩,⟨r4.mono Q,l4⟩,x.limit_,⟨⟨o,r5,aC,λj q A=>by
   obtain⟨u,I,e2⟩:=f j q A;exact⟨u,I,e2.mono U⟩⟩,g⟩⟩)
theorem asX:∀N,di 49 (bNZ N)
 |0=>by
  refine eA (fn:=Tryz.f49) (c:=cM Tryz.f49) func49 rfl bz ?_;rintro e m h K ⟨v,q,rfl,_,g,_⟩;omega
 |N+1=>by
  refine fU func49 ?_;rintro e m h K ⟨v,q,rfl,f,g,j⟩;have d:=@vF q;obtain⟨op,ta,w,co,on,gr,od,li,args⟩:=q;refine⟨b1Q N v co on gr od m,rfl,aE aOJ (aE (asX N) aG),P6 N v co on gr od m h K,bu,?_⟩;exact cuX f.parts (λq f=>by have:=d (q:=q) f;omega) j
theorem Sc:di 49 alX:=iQ asX λ_ _ _ _⟨v,q,e,c,d⟩=>⟨SizeOf.sizeOf q+1,v,q,e,c,aC,d⟩
mutual
def a2Z:Pred->Nat
 |.mk _ _ _ _ args=>1+Lh args
def Lh:dx->Nat
 |[]=>0
 |p::ps=>a2Z p+Lh ps
end
mutual
def aeQ:Pred->Nat
 |.mk _ _ _ _ args=>1+Nr args
def Nr:dx->Nat
 |[]=>0
 |p::ps=>max (aeQ p) (Nr ps)
end
mutual
theorem Pl:∀(p:Pred)(n:Int),pR p n<=n+a2Z p
 |.mk _ _ _ _ args,n=>by
  have:=Ng args (n+1);simp only[pR,a2Z];omega
theorem Ng:∀(ps:dx)(n:Int),lO ps n<=n+Lh ps
 |[],n=>by simp[lO,Lh]
 |p::ps,n=>by
  have c:=Pl p n;have d:=Ng ps (pR p n);simp only[lO,Lh];omega
end
mutual
theorem Nt:∀(p:Pred)(n:Nat),aeQ p<=n->nG p n=false
 |.mk _ _ _ _ args,0,h=>by simp only[aeQ]at h;omega
 |.mk _ _ _ _ args,n+1,h=>by
  simp only[aeQ]at h;simp only[nG];exact Le args n aC
theorem Le:∀(ps:dx)(n:Nat),Nr ps<=n->vL ps n=false
 |[],_,_=>rfl
 |p::ps,n,h=>by
  simp only[Nr]at h;simp only[vL,Nt p n aC,Le ps n aC,Bool.or_false]
end
def gF:Nat->Nat
 |0=>1
 |d+1=>1+3*gF d
structure QR(d:Nat)(p:Pred):Prop where
 n:a2Z p<=gF d
 d:aeQ p<=d+1
theorem csX:∀d,1<=gF d
 |0=>Nat.le_refl _
 |d+1=>by rw[gF];omega
theorem QR.leaf(d:Nat){op c:Int}{a b:OV}:QR d (.mk op c a b []):=⟨by simp[a2Z,Lh,csX],by simp[aeQ,Nr]⟩
theorem QR.node{d:Nat}{op c:Int}{a b:OV}{ps:dx}(h:∀p∈ps,QR d p)(g:ps.length<=3):QR (d+1) (.mk op c a b ps):=by
 have j:∀l:dx,(∀p∈l,QR d p)->Lh l<=l.length*gF d/\Nr l<=d+1:=λl=>by
  induction l with
  |nil=>intro _;simp[Lh,Nr]
  |cons p l o=>
   intro f;have t:=o λx u=>f x (mem_cons_of_mem _ u);have e:=f p (mem_cons_self ..);have:=e.n;have:=e.d;simp only[Lh,Nr,de,Nat.add_mul,Nat.one_mul];omega
 have t:=j ps h;have e:ps.length*gF d<=3*gF d:=Nat.mul_le_mul_right _ g;exact⟨by simp only[a2Z,gF];omega,by simp only[aeQ];omega⟩
mutual
def US:Query->Nat
 |.mk _ _ _ _ _ _ _ _ args=>1+Qz args
def Qz:ds->Nat
 |[]=>0
 |q::qs=>US q+Qz qs
end
mutual
def a1Z:Query->Nat
 |.mk _ _ _ _ _ _ _ _ args=>1+TI args
def TI:ds->Nat
 |[]=>0
 |q::qs=>max (a1Z q) (TI qs)
end
mutual
def gW(c:Nat):Query->Nat
 |.mk op _ _ _ _ _ _ _ args=>if op=1 then c else if op=4 then zK c args else Bp c args
def Bp(c:Nat):ds->Nat
 |[]=>0
 |q::qs=>gW c q+Bp c qs
def zK(c:Nat):ds->Nat
 |[]=>1
 |q::qs=>gW c q*zK c qs
end
mutual
def FZ:Query->Nat
 |.mk _ _ _ _ _ _ _ _ args=>max 1 (Bg args)
def Bg:ds->Nat
 |[]=>0
 |q::qs=>FZ q+Bg qs
end
theorem Gz(q:Query):1<=FZ q:=by cases q;simp only[FZ];omega
theorem cqJ{a:Nat}(c:2<=a)(d:2<=b):a+b<=a*b:=by
 obtain⟨a,rfl⟩:=Nat.exists_eq_add_of_le c;obtain⟨b,rfl⟩:=Nat.exists_eq_add_of_le d;rw[Nat.add_mul,Nat.mul_add,Nat.mul_add];have:=Nat.zero_le (a*b);omega
mutual
theorem afZ{c:Nat}(e:2<=c):∀q:Query,gW c q<=c^FZ q
 |.mk op _ _ _ _ _ _ _ args=>by
  have f:=awX e args;have g:c^Bg args<=c^max 1 (Bg args):=Nat.pow_le_pow_right aC aC;have d:c^1<=c^max 1 (Bg args):=Nat.pow_le_pow_right aC aC;simp only[gW,FZ];rw[Nat.pow_one]at d;split
  .exact d
  .split
   .omega
   .omega
theorem awX{c:Nat}(g:2<=c):∀d:ds,Bp c d<=c^Bg d/\zK c d<=c^Bg d
 |[]=>by simp[Bp,zK,Bg]
 |q::d=>by
  have f:=afZ g q;have e:=awX g d;have j:c^1<=c^FZ q:=Nat.pow_le_pow_right aC (Gz q);rw[Nat.pow_one]at j;simp only[Bp,zK,Bg,Nat.pow_add];refine⟨?_,Nat.mul_le_mul f e.2⟩
  match d,e with
  |[],_=>simp[Bp,Bg];exact f
  |p::ps,e=>
   have n:c^1<=c^Bg (p::ps):=Nat.pow_le_pow_right aC (by have:=Gz p;simp only[Bg];omega);rw[Nat.pow_one]at n;exact dg (Nat.add_le_add f e.1) (cqJ aC aC)
end
def gN:Nat->Nat
 |0=>3
 |d+1=>2+2*gN d
def gD:Nat->Nat
 |0=>3
 |d+1=>2+gD d
def gB:Nat->Nat
 |0=>4
 |d+1=>gB d*gB d
structure pA(n d b:Nat)(q:Query):Prop where
 n:US q<=n
 d:a1Z q<=d
 b:4^FZ q<=b
def bEX:Query->ds|.mk _ _ _ _ _ _ _ _ args=>args
mutual
def jlQ:Query->Prop
 |.mk op _ _ _ _ _ _ _ args=>(op=4->∀b∈args.drop 1,bEX b=[])/\aMQ args
def aMQ:ds->Prop
 |[]=>True
 |q::qs=>jlQ q/\aMQ qs
end
theorem PE:∀{l:ds},aMQ l↔∀q∈l,jlQ q
 |[]=>by simp[aMQ]
 |q::l=>by simp[aMQ,PE (l:=l)]
theorem V6:∀{l:ds},l.length<=Bg l
 |[]=>by simp[Bg]
 |q::l=>by have:=Gz q;have:=V6 (l:=l);simp only[Bg,de];omega
mutual
theorem Ow:∀q:Query,FZ q<=1->jlQ q
 |.mk op _ _ _ _ _ _ _ args,h=>by
  simp only[FZ]at h;have d:=V6 (l:=args);refine⟨λ_ b c=>?_,Wa args aC⟩;rw[drop_eq_nil_of_le aC]at c;cases c
theorem Wa:∀l:ds,Bg l<=1->aMQ l
 |[],_=>trivial
 |q::l,h=>by
  simp only[Bg]at h;exact⟨Ow q aC,Wa l aC⟩
end
theorem pA.thin{n d:Nat}(x:pA n d 4 q):FZ q<=1:=Decidable.byContradiction λc=>by
 have e:4^FZ q<=4:=x.b;have f:4^2<=4^FZ q:=Nat.pow_le_pow_right bz aC;omega
theorem pA.leaf{d:Nat}:∀{q:Query},pA 1 d b q->bEX q=[]
 |.mk _ _ _ _ _ _ _ _ [],_=>rfl
 |.mk _ _ _ _ _ _ _ _ (a::l),x=>by
  have:=x.n;have c:1<=US a:=by cases a;simp only[US];omega
  simp only[US,Qz]at this;omega
structure NO(k:Nat)(q:Query):Prop extends pA (gN k) (gD k) (gB k) q where
 jl:k<=2->jlQ q
def Bm:Nat->Query->Prop
 |0,q=>pA 1 1 4 q
 |d+1,q=>pA (1+2*gN d) (1+gD d) (gB d*gB d) q/\(d<=1->jlQ q)
theorem pA.mono{n d c e f:Nat}(x:pA n d b q)(g:n<=c)(j:d<=e)(o:b<=f):pA c e f q:=⟨dg x.n g,dg x.d j,dg x.b o⟩
theorem FG:∀d,3<=gN d/\3<=gD d/\4<=gB d
 |0=>bz
 |d+1=>by
  obtain⟨e,f,c⟩:=FG d;have:4*4<=gB d*gB d:=Nat.mul_le_mul c c;simp only[gN,gD,gB];omega
theorem Bm.arg:∀{d:Nat}{q:Query},Bm d q->NO d q
 |0,_,x=>⟨pA.mono x bz bz bz,λ_=>Ow _ (pA.thin x)⟩
 |d+1,_,x=>⟨pA.mono x.1 (by simp only[gN];omega) (by simp only[gD];omega) (by simp only[gB];omega),λh=>x.2 aC⟩
theorem pA.one{n d b:Nat}{q:Query}(x:pA n d b q)(e:4<=b){op ta:Int}{w:Pred}{co:dl}{on:dq}{gr:dl}{od:dr}{li:Int}:pA (n+1) (d+1) b (.mk op ta w co on gr od li [q]):=by
 obtain⟨f,g,c⟩:=x;refine⟨by simp only[US,Qz];omega,by simp only[a1Z,TI];omega,?_⟩;have:=Gz q;simp only[FZ,Bg];rw[show max 1 (FZ q+0)=FZ q by omega];exact c
theorem pA.two{n d e f c:Nat}{p:Query}(x:pA n d b q)(y:pA e f c p)(u:4<=b)(g:4<=c){op:Int}{on:dq}:pA (1+n+e) (1+max d f) (b*c) (.mk op ta w co on gr od li [q,p]):=by
 obtain⟨z,A,j⟩:=x;obtain⟨B,C,o⟩:=y;have t:4^FZ q*4^FZ p<=b*c:=Nat.mul_le_mul j o;refine⟨by simp only[US,Qz];omega,by simp only[a1Z,TI];omega,?_⟩;have:=Gz q;simp only[FZ,Bg];rw[show max 1 (FZ q+(FZ p+0))=FZ q+FZ p by omega,Nat.pow_add];exact t
theorem pA.scan{on:dq}:pA 1 1 4 (.mk 1 ta w co on gr od li []):=⟨by simp[US,Qz],by simp[a1Z,TI],by simp[FZ,Bg]⟩
theorem Bm.node{d:Nat}{op:Int}{on:dq}{args:ds}(h:∀a∈args,NO d a)(f:args.length<=2)(e:d<=1->op=4->∀b∈args.drop 1,bEX b=[]):Bm (d+1) (.mk op ta w co on gr od li args):=by
 have c:=(FG d).2.2;have n:gB d*4<=gB d*gB d:=Nat.mul_le_mul_left _ c;refine⟨?_,λg=>⟨e g,PE.2 λa j=>(h a j).jl aC⟩⟩;clear e
 match args,h,f with
 |[],_,_=>exact⟨by simp only[US,Qz];omega,by simp only[a1Z,TI];omega,by simp only[FZ,Bg];show 4^1<=_;omega⟩
 |[q],h,_=>exact pA.mono (pA.one (h q bx).topA c) aC aC aC
 |[q,p],h,_=>exact pA.mono (pA.two (h q bx).topA (h p bx).topA c c) aC aC (Nat.le_refl _)
theorem Bm.filter{d:Nat}(x:Bm d q){op:Int}{on:dq}:NO d (.mk op ta w co on gr od li [q]):=by
 cases d with
 |zero=>
  have y:=pA.one (op:=op) (ta:=ta) (w:=w) (co:=co) (on:=on) (gr:=gr) (od:=od) (li:=li) x bz;exact⟨pA.mono y bz bz bz,λ_=>Ow _ (pA.thin y)⟩
 |succ d=>
  have c:=(FG d).2.2;have f:gB d*4<=gB d*gB d:=Nat.mul_le_mul_left _ c;exact⟨pA.mono (pA.one x.1 aC) (by simp only[gN];omega) (by simp only[gD];omega) (by simp only[gB];omega),λh=>⟨λ_ b e=>by simp at e,x.2 aC,trivial⟩⟩
theorem NO.three(d:Nat)(x:pA 3 3 4 q):NO d q:=⟨pA.mono x (FG d).1 (FG d).2.1 (FG d).2.2,λ_=>Ow _ x.thin⟩
theorem Bm.mono{q:Query}:∀{d e:Nat},Bm d q->d<=e->Bm e q
 |d,0,x,h=>cg
 |d,e+1,x,h=>by
  by_cases c:d=e+1
  .grind
  .have y:=Bm.arg (x.mono (e:=e) aC);have f:=(FG e).2.2;have g:gB e*1<=gB e*gB e:=Nat.mul_le_mul_left _ aC;exact⟨pA.mono y.topA aC aC aC,λh=>y.jl aC⟩
abbrev kZ(a:MH)(b:PH)(c d:Nat)(e:Sl->Prop):Prop:=∃(x:Sl),aR a b c d (aM x)/\e x
noncomputable abbrev zZ(a:Int):Value:=Value.int IntKind.u8 a
abbrev uW(a:Prop):Prop:=a->False
attribute [push_cast] kZ zZ uW
def Xh(cb:Nat)(n:Int)(m:MH)(h:PH)(K:dk):Prop:=
  xV m h cb 1 (λy=>kZ m h cb 0 (λj=>eK y (aF j) (K (fN 0) m h) (aW n 1 (K (fN 0) m h) (xV m h cb 1 (λt=>kS (λc E=>aA (Gc m cb (lF c E 0)) (nR 1 c) (∀(d:MH),oX m d cb c 1 (bQ (bF (t+1))) E->kZ d h cb 0 (λf=>xV d h cb 1 (λe=>aJ (λb o=>aI (aK f.a b o) (0<=kY e) (kY e<aF f) (∃(g:UInt8),aA (aR d h b (cC o (kY e) 1) (kH (zZ (yM g)))) (uW (n=0)) (K (fN (Int.tmod (bF (yM g)) n)) d h))))))))))))
theorem cvX(cb:Nat)(n:Int)(m:MH)(h:PH)(K:dk):Xh cb n m h K=(tB (ctx [] [] [] [] false) Tryz.f12 (cM Tryz.f12) (entry 40 [.val (.pointer (some ⟨cb,0,none⟩)),.val (.int .i64 n)] m h) K):=bu
def cdX:Vc.Spec:=λc m h K=>∃(cb:Nat)(n:Int)(r:dw),c=[.val (.pointer (some ⟨cb,0,none⟩)),.val (.int .i64 n)]/\alZ m h cb r/\
 ∀m',bK m m' cb->alZ m' h cb (Xz n r).2->K (.val (.int .i64 (Xz n r).1)) m' h
theorem R2:di 12 cdX:=by
 refine eA (fn:=Tryz.f12) (c:=cM Tryz.f12) func12 rfl bz ?_;rintro F m h K ⟨cb,n,r,rfl,⟨s,d,k,x,e,D,f,rfl⟩,t⟩;refine⟨ctx [] [] [] [] false,rfl,aG,?_⟩;show tB (ctx [] [] [] [] false) Tryz.f12 (cM Tryz.f12) (entry 40 [.val (.pointer (some ⟨cb,0,none⟩)),.val (.int .i64 n)] m h) K;rw[<-cvX];dsimp only[Xh,push_cast];have G:s.len=d.length:=by have:=e.len;simpa[bH]using this
 refine⟨k,.of_m x rfl,s,.of_m x rfl,aD (λH=>?_) (λz=>aD (λA=>?_) (λA=>?_))⟩
 .have u:d.drop k=[]:=ce
  rw[u]at t;exact t m ⟨λ_ _=>rfl⟩ ⟨s,d,k,x,e,D,f,by rw[u];rfl⟩
 .have j:k<d.length:=by omega
  have u:d.drop k=d[k]::d.drop (k+1):=drop_eq_getElem_cons j;rw[u]at t;simp only[Xz,if_pos A]at t;refine t m ⟨λ_ _=>rfl⟩ ⟨s,d,k,x,e,D,f,u.symm⟩
 .have j:k<d.length:=by omega
  have u:d.drop k=d[k]::d.drop (k+1):=drop_eq_getElem_cons j;rw[u]at t;simp only[Xz,if_neg A]at t;have I:IntKind.i64.wrap ((k:Int)+1)=((k+1:Nat):Int):=by rw[dL]<;>omega
  have B:IntKind.i64.wrap (((k+1:Nat):Int)-1)=(k:Int):=by rw[dL]<;>omega
  refine⟨k,.of_m x rfl,_,_,⟨x⟩,bx,λm' E=>?_⟩;have g:=E.at_;rw[I]at g;simp only[splice]at g;obtain y|⟨b,o,J,C⟩:=e.row
  .exfalso;have:=congrArg List.length y;simp[bH]at this
   grind
  refine⟨s,.of_m g rfl,((k+1:Nat):Int),.of_m g rfl,b,o,J,?_⟩;rw[B];refine⟨aC,aC,d[k],.imm ?_,aC,?_⟩
  .have:=C k [.int .u8 d[k].toNat] (by simp[bH,j])
   grind
  .have z:d[k].toNat<256:=d[k].toNat_lt;rw[dL aC aC,Int.tmod_eq_emod_of_nonneg aC];refine t m' ⟨E.other⟩ ⟨s,d,k+1,g,e,aC,f,rfl⟩
def aU(m:MH)(h:PH)(cb:Nat):Prop:=∃r,alZ m h cb r
theorem aU.mono(x:aU m h cb)(le:PH.le h h'):aU m h' cb:=by
 obtain⟨r,s,c,k,d,e,f⟩:=x;exact⟨r,s,c,k,d,e.mono le,f⟩
theorem bK.refl(m:MH)(cb:Nat):bK m m cb:=⟨λ_ _=>rfl⟩
theorem bK.trans{d:MH}(a:bK m m' cb)(b:bK m' d cb):bK m d cb:=⟨λc e=>(b.other c e).trans (a.other c e)⟩
def l8(n:Int):Prop:= -9223372036854775808<=n/\n<=9223372036854775807
structure NJ(v:VV):Prop where
 int_:l8 v.int
 text_:v.text.size<=64
def KOk(k:Int):Prop:=k=3\/k=4\/k=5
def aBJ(k:Int)(v:VV):Prop:=KOk k->jW v=true/\v.kind=k
def Ea:Vc.Spec:=λc m h K=>∃cb n,c=[cP cb,cI n]/\aU m h cb/\∀k m',0<=k->(k<n\/k=0)->bK m m' cb->aU m' h cb->K (cI k) m' h
def G6:Vc.Spec:=λc m h K=>∃cb n,c=[cP cb,cI n]/\0<=n/\n<=1000/\aU m h cb/\∀r m',bK m m' cb->aU m' h cb->K (cB r) m' h
def aAJ:Vc.Spec:=λc m h K=>∃cb,c=[cP cb]/\aU m h cb/\∀k m',l8 k->bK m m' cb->aU m' h cb->K (cI k) m' h
def cfJ:Vc.Spec:=λc m h K=>∃cb,c=[cP cb]/\aU m h cb/\∀t m',t.size<=64->bK m m' cb->aU m' h cb->K (Xy t) m' h
def MK:Vc.Spec:=λd m h K=>∃cb c,d=[cP cb,cI c]/\aU m h cb/\∀v m',NJ v->aBJ c v->bK m m' cb->aU m' h cb->K (aV v) m' h
theorem FD:di 12 Ea:=by
 refine⟨R2.1,λc d m h w K e f=>R2.2 c d m h w K ?_ f⟩;obtain⟨cb,n,rfl,⟨r,g⟩,j⟩:=e;refine⟨cb,n,r,rfl,g,λm' o t=>j _ m' ?_ ?_ o ⟨_,t⟩⟩
 .cases r with
  |nil=>simp[Xz]
  |cons b r=>
   simp only[Xz]
   grind
 .cases r with
  |nil=>simp[Xz]
  |cons b r=>
   simp only[Xz];split
   .simp
   .exact .inl (Int.emod_lt_of_pos _ aC)
noncomputable def bsQ(h:PH):Ctx:=
 cT [(12,Ea)] [(18,{A:=Nat×ByteArray×MH,st:=λ⟨i,t,m⟩=>bO 37 38 [(3,vv (.string t)),(4,iv i)] [] m h}),(23,{A:=Nat×ByteArray×MH,st:=λ⟨i,t,m⟩=>bO 37 38 [(3,vv (.string t)),(5,iv i)] [] m h})] [] [] false
abbrev RV(a:Nat->Int->Prop):Prop:=∃(x:Nat)(c:Int),a x c
abbrev lC(a b:MH)(c:Nat)(d:PH)(e:Prop):Prop:=bK a b c->aU b d c->e
abbrev eW(a:Nat)(b:Int)(c:Nat->Option Obj)(d:Nat->Nat->Option Value)(e:Int->MH->Prop):Prop:=RV (λx g=>aA (bD (uR a 0) b=bD (uR x 0) g) (aU c d x) (∀(f:Int)(j:MH),bY f->f<g\/f=0->lC c j x d (e f j)))
attribute [push_cast] RV lC eW
def Xf(cb:Nat)(n:Int)(m:MH)(h:PH)(K:dk):Prop:=
  eW cb n m h (λk c=>K (vD (k==kY n)) c h)
def S8(cb:Nat)(m:MH)(h:PH)(K:dk):Prop:=
  eW cb 12 m h (λk c=>cO (k==9) (K (fN (Int.negSucc 0)) c h) (k==10) (K (fN 9223372036854775807) c h) (dD k 11 (K (fN (Int.negSucc 9223372036854775807)) c h) (uW ((4:Int)=0)/\K (fN (Int.tmod k 4)) c h)))
noncomputable abbrev fQ(a:Nat)(b:dw):dw:=OfNat.ofNat a::b
noncomputable abbrev u7(a:Nat):dw:=fQ a []
noncomputable abbrev DJ(a b:Nat):dw:=fQ a (fQ b [])
attribute [push_cast] fQ u7 DJ
def S7(cb:Nat)(m:MH)(h:PH)(K:dk):Prop:=
  eW cb 10 m h (λk d=>cO (k==0) (K (jM (ByteArray.mk (Array.mk (u7 97)))) d h) (k==1) (K (jM (ByteArray.mk (Array.mk (u7 97)))) d h) (cO (k==2) (K (jM (ByteArray.mk (Array.mk (u7 97)))) d h) (k==3) (K (jM (ByteArray.mk (Array.mk (u7 98)))) d h) (cO (k==4) (K (jM (ByteArray.mk (Array.mk (u7 98)))) d h) (k==5) (K (CV.val MX) d h) (cO (k==6) (K (jM (ByteArray.mk (Array.mk (DJ 97 0)))) d h) (k==7) (K (jM (ByteArray.mk (Array.mk (u7 255)))) d h) (dD k 8 (∃(I:Nat×ByteArray×MH->Prop)(e:Nat×ByteArray×MH->Nat),(∃(x:Nat×ByteArray×MH),aA (I x) (SV.at OF=SV.at (UZ x.2.1)) (aA (aZ x.1) (d=x.2.2) (bR h h)))/\∀(x:Nat×ByteArray×MH),I x->aW (↑x.1:Int) 64 (x.2.1.size<9223372036854775807/\∃(c:Nat×ByteArray×MH),aA (I c) (e c
 <e x) (aA (SV.at (UZ (x.2.1++ByteArray.mk (Array.mk (u7 255))))=SV.at (UZ c.2.1)) (eR (bF ((↑x.1:Int)+1))=bL c.1) (bG x.2.2 c.2.2 h h))) (K (jM x.2.1) x.2.2 h)) (∃(I:Nat×ByteArray×MH->Prop)(e:Nat×ByteArray×MH->Nat),(∃(x:Nat×ByteArray×MH),aA (I x) (SV.at OF=SV.at (UZ x.2.1)) (aA (aZ x.1) (d=x.2.2) (bR h h)))/\∀(x:Nat×ByteArray×MH),I x->aW (↑x.1:Int) 64 (x.2.1.size<9223372036854775807/\∃(c:Nat×ByteArray×MH),aA (I c) (e c<e x) (aA (SV.at (UZ (x.2.1++ByteArray.mk (Array.mk (u7 98))))=SV.at (UZ c.2.1)) (eR (bF ((↑x.1:Int)+1))=bL c.1) (bG x.2.2 c.2.2 h h))) (K (jM x.2.1) x.2.2 h)))))))
noncomputable abbrev uD(a:Nat):eb:=w6 (uR a 0)
abbrev kI(a:MH)(b:PH)(c:Nat)(d:Prop):Prop:=aU a b c->d
attribute [push_cast] uD kI
def Ws(cb:Nat)(d:Int)(m:MH)(h:PH)(K:dk):Prop:=
  cO (d==3) (eW cb 2 m h (λk e=>K (gV (bC (fE d) (fE k) (kH MX))) e h)) (d==4) (∃(c:Nat),aA (uD cb=uD c) (aU m h c) (∀(k:Int)(e:MH),l8 k->bK m e c->kI e h c (K (gV (bC (fE d) (fE k) (kH MX))) e h))) (∃(c:Nat),aA (uD cb=uD c) (aU m h c) (∀(t:ByteArray)(e:MH),t.size<=64->bK m e c->kI e h c (K (gV (bC (fE 5) cF (AQ t))) e h)))
theorem cvQ{n:Int}(d:aU m h cb)(e:∀r m',bK m m' cb->aU m' h cb->K (cB r) m' h):Xf cb n m h K:=
 ⟨cb,n,rfl,d,λ_ m' _ _ f c=>e _ m' f c⟩
theorem I6:DI ⟨#[]⟩=true:=by simp[DI,ByteArray.toList_eq]
theorem cnX{k:Int}(c:0<=k)(d:k<2\/k=0):jW ⟨3,k,⟨#[]⟩⟩=true:=by
 have:k=0\/k=1:=by omega
 rcases this with rfl|rfl<;>simp[jW,I6]
theorem cnQ(k:Int):jW ⟨4,k,⟨#[]⟩⟩=true:=by simp[jW,I6]
theorem cmJ{t:ByteArray}(h:t.size<=64):jW ⟨5,0,t⟩=true:=by
 simp[jW];omega
theorem rP:di 13 G6:=by
 refine fU func13 ?_;rintro c m h K ⟨cb,n,rfl,_,_,d,e⟩;refine⟨cT [(12,Ea)] [] [] [] false,rfl,aE FD aG,Xf cb n m h K,bu,?_⟩;exact cvQ d e
theorem ZJ:di 169 aAJ:=by
 refine fU func169 ?_;rintro f m h K ⟨cb,rfl,g,d⟩;refine⟨cT [(12,Ea)] [] [] [] false,rfl,aE FD aG,S8 cb m h K,bu,?_⟩;dsimp only[S8,push_cast];refine⟨cb,12,rfl,g,λk m' j n e c=>aB (λ_=>d _ m' ⟨aC,aC⟩ e c) (λ_=>aB (λ_=>d _ m' ⟨aC,aC⟩ e c) (λ_=>aB (λ_=>d _ m' ⟨aC,aC⟩ e c) (λ_=>⟨aC,d _ m' ?_ e c⟩)))⟩;rw[Int.tmod_eq_emod_of_nonneg j];exact⟨aC,aC⟩
theorem ZI:di 170 cfJ:=by
 refine fU func170 ?_;rintro g m h K ⟨cb,rfl,j,d⟩;refine⟨bsQ h,rfl,aE FD aG,S7 cb m h K,bu,?_⟩;dsimp only[S7,push_cast];refine⟨cb,10,rfl,j,λk m' x y e c=>?_⟩;refine aB (λ_=>d _ m' bz e c) (λ_=>aB (λ_=>d _ m' bz e c) (λ_=>aB (λ_=>d _ m' bz e c) (λ_=>aB (λ_=>d _ m' bz e c) (λ_=>aB (λ_=>d _ m' bz e c) (λ_=>aB (λ_=>d _ m' bz e c) (λ_=>aB (λ_=>d _ m' bz e c) (λ_=>aB (λ_=>d _ m' bz e c) (λ_=>aB (λ_=>?_) (λ_=>?_)))))))))
 all_goals
  refine⟨λ⟨i,t,n⟩=>n=m'/\i<=64/\t.size=i,λ⟨i,_,_⟩=>64-i,⟨(0,⟨#[]⟩,m'),⟨rfl,aC,rfl⟩,MT⟩,?_⟩;rintro⟨i,t,m'⟩ ⟨rfl,z,f⟩;dsimp only;refine aD (λo=>⟨?_,(i+1,_,m'),⟨rfl,aC,?_⟩,cj,MT⟩) (λu=>d t m' aC e c)
  .rw[f];show i+1<=_;omega
  .rw[ByteArray.size_append,f];rfl
theorem D3:di 95 MK:=by
 refine fU func95 ?_;rintro y m h K ⟨cb,c,rfl,j,n⟩;refine⟨cT [(12,Ea),(169,aAJ),(170,cfJ)] [] [] [] false,rfl,aE FD (aE ZJ (aE ZI aG)),Ws cb c m h K,bu,?_⟩;dsimp only[Ws,push_cast];refine aB (λe=>⟨cb,2,rfl,j,λk m' z A g d=>n ⟨c,k,⟨#[]⟩⟩ m' ⟨⟨cg,cg⟩,by show(ByteArray.mk #[]).size<=64;decide⟩ (λ_=>?_) g d⟩) (λo=>aB (λe=>⟨cb,rfl,j,λk m' f g d=>n ⟨c,k,⟨#[]⟩⟩ m' ⟨f,by show(ByteArray.mk #[]).size<=64;decide⟩ (λ_=>?_) g d⟩) (λu=>⟨cb,rfl,j,λt m' x g d=>n ⟨5,0,t⟩ m' ⟨⟨bx,bx⟩,x⟩ (λf=>?_) g d⟩))
 .have e:c=3:=cm e
  subst e;exact⟨cnX z A,rfl⟩
 .have e:c=4:=cm e
  subst e;exact⟨cnQ k,rfl⟩
 .have o:c≠3:=cg
  have u:c≠4:=cg
  exact⟨cmJ x,by rcases f with f|f|f;exact absurd f o;exact absurd f u;exact f.symm⟩
mutual
def DD:Pred->Prop
 |.mk _ _ l r args=>NJ l.value/\NJ r.value/\FR args
def FR:dx->Prop
 |[]=>True
 |p::ps=>DD p/\FR ps
end
theorem QU:∀{l:dx},FR l↔∀p∈l,DD p
 |[]=>by simp[FR]
 |p::ps=>by simp[FR,QU (l:=ps)]
theorem rM:NJ zeroV:=⟨⟨bz,bz⟩,bz⟩
structure XR(cols params:dl)(kind:Int)(o:OV):Prop where
 val:NJ o.value
 kind:KOk kind->kindOf cols params o=kind
def NN(l:dl):Prop:=∀k∈l,KOk k
structure PW(cols params:dl)(d:Nat)(p:Pred):Prop where
 vals:DD p
 valid:NN cols->iP cols params p=true
 siz:QR d p
def XQ:Vc.Spec:=λf m h K=>∃cb s t e d c,f=[cP cb,cS s,cS t,cI e]/\aU m h cb/\Ints h s d/\Ints h t c/\d.length<=1000/\c.length<=1000/\∀o m',XR d c e o->bK m m' cb->aU m' h cb->K (aO o) m' h
def KP(K:dk)(m:MH)(h:PH)(cb:Nat)(R:Pred->Prop):Prop:=∀v p m' h',PH.le h h'->dX h' p v->R p->bK m m' cb->aU m' h' cb->K (aP v) m' h'
def bFZ(N:Nat):Vc.Spec:=λf m h K=>∃cb s t e c,∃d:Nat,f=[cP cb,cS s,cS t,cI d]/\aU m h cb/\Ints h s e/\Ints h t c/\e.length<=1000/\c.length<=1000/\d<N/\d<=1000/\KP K m h cb (PW e c d)
structure yZ(cols params:dl)(d:Nat)(p:Pred):Prop where
 vals:DD p
 valid:d<=2->NN cols->NN params->fH cols params p=0
def CE:Vc.Spec:=λf m h K=>∃cb s t d c,∃e:Nat,f=[cP cb,cS s,cS t,cI e]/\aU m h cb/\Ints h s d/\Ints h t c/\d.length<=1000/\c.length<=1000/\e<=1000/\KP K m h cb (yZ d c e)
def pv(b:Nat):SV:=vv (.pointer (some ⟨b,0,none⟩))
noncomputable def btQ(cb:Nat)(s t:Sl)(c:Int)(m:MH)(h:PH):Ctx:=
 cT [(12,Ea),(95,MK)] [(3,{A:=Nat×List OV,st:=λ⟨i,d⟩=>bO 64 68 [(0,pv cb),(2,sv t),(3,iv c),(8,.at (.ptr 8 0)),(9,.at (.lst 29)),(15,sv s),(16,iv s.len),(17,iv i)] [(8,.cells 29 (dG.enc.map .val)),(29,.lst 29 5 (d.map OV.enc))] m h}),
  (9,{A:=Nat×List OV,st:=λ⟨i,d⟩=>bO 64 68 [(0,pv cb),(3,iv c),(8,.at (.ptr 8 0)),(9,.at (.lst 29)),(31,sv t),(32,iv t.len),(33,iv i)] [(8,.cells 29 (dG.enc.map .val)),(29,.lst 29 5 (d.map OV.enc))] m h})] [] [] false
noncomputable def bWJ(N:Nat)(cb:Nat)(s t:Sl)(c:Nat)(d:PH):Ctx:=
 cT [(12,Ea),(13,G6),(165,XQ),(95,MK),(93,bFZ N)] [(18,{A:=Int×Int×en×MH×PH,st:=λ⟨op,n,e,m,h⟩=>bO 107 111 [(0,pv cb),(1,sv s),(2,sv t),(3,iv c),(8,.at (.ptr 8 0)),(12,.at (.ptr 12 0)),(13,iv n)] [(8,.cells 32 (iJ.enc.map .val)),(12,.cells 32 (((⟨op,0,dG,dG,⟨none,0,0⟩⟩:PV).enc.take 12).map .val++[.lst 104])),(104,.lst 32 13 (e.map PV.enc))] m h})] [(3,{A:=Int×Bool×MH,st:=λ⟨k,b,m⟩=>bO 107 111 [(0,pv cb),(1,sv s),(2,sv t),(3,iv c),(8,.at (.ptr 8 0)),(9,iv k),(16,bv b)] [(8,.cells 32 (iJ.enc.map .val))] m d}),
  (5,{A:=Int×Bool×MH,st:=λ⟨k,b,m⟩=>bO 107 111 [(0,pv cb),(1,sv s),(2,sv t),(3,iv c),(8,.at (.ptr 8 0)),(9,iv k),(27,bv b)] [(8,.cells 32 (iJ.enc.map .val))] m d}),
  (8,{A:=Int×MH,st:=λ⟨k,m⟩=>bO 107 111 [(0,pv cb),(1,sv s),(2,sv t),(8,.at (.ptr 8 0)),(10,iv k)] [(8,.cells 32 (iJ.enc.map .val))] m d}),
  (9,{A:=PV×Int×MH,st:=λ⟨p,k,m⟩=>bO 107 111 [(0,pv cb),(1,sv s),(2,sv t),(8,.at (.ptr 8 0)),(10,iv k),(11,.at (.ptr 11 0))] [(8,.cells 32 (iJ.enc.map .val)),(11,.cells 32 (p.enc.map .val))] m d}),
  (11,{A:=PV×MH,st:=λ⟨p,m⟩=>bO 107 111 [(0,pv cb),(8,.at (.ptr 8 0)),(11,.at (.ptr 11 0))] [(8,.cells 32 (iJ.enc.map .val)),(11,.cells 32 (p.enc.map .val))] m d}),
  (13,{A:=PV×MH,st:=λ⟨p,m⟩=>bO 107 111 [(8,.at (.ptr 8 0)),(11,.at (.ptr 11 0))] [(8,.cells 32 (iJ.enc.map .val)),(11,.cells 32 (p.enc.map .val))] m d})] [] false
noncomputable abbrev dV:At:=fL 0
abbrev EA:Prop:=eQ (oQ 29 (cH dV dV (cH (fL 0) dV (kM OF))))
noncomputable abbrev rV(a:Nat×List OV):List dj:=List.map OV.enc a.2
abbrev oT(a:Int)(b:List dj)(c:dj->Prop):Prop:=aA (bY a) (a<j7 b) (∃(x:dj),c x)
abbrev jZ(a:List dj)(b:Int)(c:dj):Prop:=DN a b.toNat c
abbrev HA(a:Nat)(b:Int)(c:Nat->Option Obj)(d:Nat->Nat->Option Value)(e:VV->MH->Prop):Prop:=RV (λx g=>aA (bD (uR a 0) b=bD (uR x 0) g) (aU c d x) (∀(f:VV)(j:MH),NJ f->aBJ g f->lC c j x d (e f j)))
attribute [push_cast] dV EA rV oT jZ HA
def Tc(cb:Nat)(s t:Sl)(d:Int)(m:MH)(h:PH)(K:dk):Prop:=
  ∃(I:Nat×List OV->Prop)(g:Nat×List OV->Nat),(∃(x:Nat×List OV),aA (I x) (dE cb) (aA (aH t) (iF d) (aA fF (eL 29) (aA (aH s) (aY s) (aA (aZ x.1) EA (aA (u9 29 5 (rV x)) (m=m) (bR h h)))))))/\∀(x:Nat×List OV),I x->aW (↑x.1:Int) (aF s) (aJ (λb o=>aI (aK s.a b o) (0<=(↑x.1:Int)) ((↑x.1:Int)<aF s) (∃(y:Int),aR m h b (bE o x.1 1) (bQ y)/\dD y d (iY (rV x) 48 (∃(c:Nat×List OV),aA (I c) (g c<g x) (aA (dE cb) (aH t) (aA (iF d) fF (aA (eL 29) (aH s) (aA (aY s) (eR (bF ((↑x.1:Int)+1))=bL c.1) (aA EA (bW 29 5 (eG (rV x) (bC (fE 1) (fE (↑x.1:Int)) (bC cF cF (kH MX))))=bW 29 5 (rV c)) (bG m m h h)))))))) (∃(c:Nat×List OV),aA (I c) (g c
 <g x) (aA (dE cb) (aH t) (aA (iF d) fF (aA (eL 29) (aH s) (aA (aY s) (eR (bF ((↑x.1:Int)+1))=bL c.1) (aA EA (bW 29 5 (rV x)=bW 29 5 (rV c)) (bG m m h h)))))))))) (∃(I1:Nat×List OV->Prop)(j:Nat×List OV->Nat),(∃(c:Nat×List OV),aA (I1 c) (dE cb) (aA (iF d) fF (aA (eL 29) (aH t) (aA (aY t) (aZ c.1) (aA EA (bW 29 5 (rV x)=bW 29 5 (rV c)) (aA (m=m) (h=h) True))))))/\∀(c:Nat×List OV),I1 c->aW (↑c.1:Int) (aF t) (aJ (λb o=>aI (aK t.a b o) (0<=(↑c.1:Int)) ((↑c.1:Int)<aF t) (∃(y:Int),aR m h b (bE o c.1 1) (bQ y)/\dD y d (iY (rV c) 48 (∃(f:Nat×List OV),aA (I1 f) (j f<j c) (aA (dE cb) (iF d) (aA fF (eL 29) (aA (aH t) (aY
 t) (aA (eR (bF ((↑c.1:Int)+1))=bL f.1) EA (aA (bW 29 5 (eG (rV c) (bC (fE 2) (fE (↑c.1:Int)) (bC cF cF (kH MX))))=bW 29 5 (rV f)) (m=m) (bR h h)))))))) (∃(f:Nat×List OV),aA (I1 f) (j f<j c) (aA (dE cb) (iF d) (aA fF (eL 29) (aA (aH t) (aY t) (aA (eR (bF ((↑c.1:Int)+1))=bL f.1) EA (aA (bW 29 5 (rV c)=bW 29 5 (rV f)) (m=m) (bR h h)))))))))) (eW cb (bF ((↑(rV c).length:Int)+1)) m h (λk n=>aW k (j7 (rV c)) (oT k (rV c) (λe=>jZ (rV c) k e/\∃(y:OV),List.take 5 (List.drop 0 e)=y.enc/\K (gV y.enc) n h)) (HA cb d n h (λv u=>K (gV (bC (fE 3) cF (bC (fE v.kind) (fE v.int) (AQ v.text)))) u h)))))
abbrev jT(a:Nat)(b:Int)(c:Nat->Option Obj)(d:Nat->Nat->Option Value)(e:Nat->Bool->MH->Prop):Prop:=RV (λx f=>aA (bD (uR a 0) b=bD (uR x 0) f) (bY f) (aA (f<=1000) (aU c d x) (∀(g:Bool)(j:MH),e x g j)))
abbrev JW(a:Int×Bool×MH->Prop)(b:Nat)(c d:Sl)(e:Nat)(g:Int)(i:(Int×Bool×MH)->Prop)(j:Nat->Option Obj)(k:PH):Prop:=∃(x:Int×Bool×MH),aA (a x) (dE b) (aA (aH c) (aH d) (aA (eQ (bL e)) fF (aA (dA g x.1) (i x) (bS mA j x.2.2 k k))))
abbrev uH(a:Nat->Sl->Sl->Prop):Prop:=∃(x:Nat),gQ (λc d=>a x c d)
abbrev nA(a:Nat):Prop:=a<=1000
abbrev eX(a:dl):Prop:=nA a.length
abbrev Ht(a:dz)(b:dj):Prop:=oQ 32 a=nK 32 b
abbrev iM(a:MH->PH->Prop):Prop:=∀(x:MH)(c:PH),a x c
abbrev yI(a:PH)(b:PV->Pred->MH->PH->Prop):Prop:=∀(x:PV)(d:Pred),iM (λe c=>dN a c (dX c d x) (b x d e c))
abbrev JX(a:eb)(b:MH)(c:PH)(d:Nat)(e:PV->MH->PH->Prop):Prop:=uH (λx o t=>mV (λg j=>∃(f:Nat),aA (a=uR x 0::cA o (fW t (↑f:Int))) (aU b c x) (aA (Ints c o g) (Ints c t j) (aA (eX g) (eX j) (aA (f<d) (nA f) (yI c (λy z n u=>PW g j f z->bK b n x->kI n u x (e y n u))))))))
noncomputable abbrev HV(a:Int×Int×en×MH×PH):List dj:=List.map PV.enc a.2.2.1
noncomputable abbrev Ol(a:Int×Int×en×MH×PH):Nat->Nat->Option Value:=a.2.2.2.2
attribute [push_cast] jT JW uH nA eX Ht iM yI JX HV Ol
def Wu(N:Nat)(cb:Nat)(s t:Sl)(e:Nat)(m:MH)(h:PH)(K:dk):Prop:=
  eW cb 9 m h (λk F=>∃(I:Int×Bool×MH->Prop),dD k 0 (jT cb 2 F h (λc r j=>lC F j c h (JW I cb s t e k (λx=>iL r x.2.1) j h))) (JW I cb s t e k (λx=>wH x.2.1) F h)/\∀(x:Int×Bool×MH),eT (I x) x.2.1 (eW cb 2 x.2.2 h (λn j=>K (gV (Kq (fE (bF (1+n))))) j h)) (∃(I1:Int×Bool×MH->Prop),aW x.1 6 (JW I1 cb s t e x.1 (λu=>xN u.2.1) x.2.2 h) (JW I1 cb s t e x.1 (λu=>iL (decide ((↑e:Int)<1)) u.2.1) x.2.2 h)/\∀(u:Int×Bool×MH),I1 u->cO u.2.1 (∃(I2:Int×MH->Prop),fA (aF s) 0 (eW cb (aF s) u.2.2 h (λn j=>aJ (λb o=>aI (aK s.a b o) (0<=n) (n<aF s) (∃(y:Int),aR j h b (cC o n 1) (bQ y)/\∃(d:Int×MH),aA (I2 d) (dE cb) (aA (aH s) (aH t)
 (aA fF (dA y d.1) (aA mA (j=d.2) (bR h h)))))))) (∃(d:Int×MH),aA (I2 d) (dE cb) (aA (aH s) (aH t) (aA fF (dA 4 d.1) (aA mA (u.2.2=d.2) (bR h h)))))/\∀(d:Int×MH),I2 d->∃(I3:PV×Int×MH->Prop),eW cb 6 d.2 h (λn j=>uH (λc B D=>∃(J:Int),mV (λC p=>aA (uR cb 0::cA s (fW t d.1)=uR c 0::cA B (fW D J)) (aU j h c) (aA (Ints h B C) (Ints h D p) (aA (eX C) (eX p) (∀(o:OV)(A:MH),XR C p J o->bK j A c->kI A h c (HA cb d.1 A h (λv G=>∃(f:PV×Int×MH),aA (I3 f) (dE cb) (aA (aH s) (aH t) (aA fF (dA d.1 f.2.1) (aA (eP 11) mA (bS (Ht (sG 3 (bF (1+n)) o (cH (fL (kU o)) (fL (p7 o)) (cH (lD o) (fL 3) (cH dV (fL
 v.kind) (cH (fL v.int) (UZ v.text) BV))))) f.1.enc) G f.2.2 h h))))))))))))/\∀(f:PV×Int×MH),I3 f->∃(I4:PV×MH->Prop),jT cb 3 f.2.2 h (λc r j=>lC f.2.2 j c h (branch r (uH (λC B D=>∃(n:Int),mV (λH p=>aA (uR cb 0::cA s (fW t f.2.1)=uR C 0::cA B (fW D n)) (aU j h C) (aA (Ints h B H) (Ints h D p) (aA (eX H) (eX p) (∀(o:OV)(A:MH),XR H p n o->bK j A C->kI A h C (∃(g:PV×MH),aA (I4 g) (dE cb) (aA fF (eP 11) (aA mA (Ht (sG f.1.op f.1.cmp f.1.left (cH (fL (kU f.1.left)) (fL (p7 f.1.left)) (cH (lD f.1.left) (fL o.kind) (cH (xO o) (fL (kU o)) (cH (fL (p7 o)) (lD o) (kM (jR f.1.args))))))) g.1.enc) (aA (A=g.2) (h=h) True)))))))))) (∃(g:PV×MH),aA
 (I4 g) (dE cb) (aA fF (eP 11) (aA mA (nK 32 f.1.enc=nK 32 g.1.enc) (aA (j=g.2) (h=h) True))))))/\∀(g:PV×MH),I4 g->∃(I5:PV×MH->Prop),jT cb 6 g.2 h (λc r j=>lC g.2 j c h (branch r (∃(z:PV×MH),aA (I5 z) fF (aA (eP 11) mA (bS (Ht (sG g.1.op g.1.cmp g.1.right (cH (fL (kU g.1.right)) (fL (p7 g.1.right)) (cH (lD g.1.right) (fL g.1.left.kind) (cH (xO g.1.left) (fL (kU g.1.left)) (cH (fL (p7 g.1.left)) (lD g.1.left) (kM (jR g.1.args))))))) z.1.enc) j z.2 h h))) (∃(z:PV×MH),aA (I5 z) fF (aA (eP 11) mA (bS (nK 32 g.1.enc=nK 32 z.1.enc) j z.2 h h)))))/\∀(z:PV×MH),I5 z->K (gV z.1.enc) z.2 h) (u.1==6) (JX (uR cb 0::cA s (fW t (bF ((↑e:Int)-1)))) u.2.2 h N (λv j
 E=>bU E 13 (gL v.enc) (λB L=>K (gV (bC (fE 6) cF (bC cF cF (bC cF cF (bC MX cF (bC cF cF (bC cF MX (aM B)))))))) j L))) (eW cb 3 u.2.2 h (λn j=>∃(I2:Int×Int×en×MH×PH->Prop)(A:Int×Int×en×MH×PH->Nat),(∃(d:Int×Int×en×MH×PH),aA (I2 d) (dE cb) (aA (aH s) (aH t) (aA (eQ (bL e)) fF (aA (eP 12) (dA n d.2.1) (aA mA (CW (cH (fL (bF (bF (4+u.1)-7))) dV (cH (fL 0) dV (cH dV dV (cH OF dV (cH dV dV (cH (fL 0) OF (kM (At.lst 104)))))))) (cH (fL d.1) dV (cH (fL 0) dV (cH dV dV (cH OF dV (cH dV dV (cH (fL 0) OF (kM (At.lst 104))))))))) (aA (u9 32 13 (HV d)) (j=d.2.2.2.1) (bR h d.2.2.2.2)))))))/\∀(d:
 Int×Int×en×MH×PH),I2 d->eK d.2.1 0 (JX (uR cb 0::cA s (fW t (bF ((↑e:Int)-1)))) d.2.2.2.1 (Ol d) N (λv G E=>iY (HV d) 136 (∃(f:Int×Int×en×MH×PH),aA (I2 f) (A f<A d) (aA (dE cb) (aH s) (aA (aH t) (eQ (bL e)) (aA fF (eP 12) (aA (dA (kY d.2.1) f.2.1) mA (aA (CW (cH (fL d.1) dV (cH (fL 0) dV (cH dV dV (cH OF dV (cH dV dV (cH (fL 0) OF (kM (At.lst 104)))))))) (cH (fL f.1) dV (cH (fL 0) dV (cH dV dV (cH OF dV (cH dV dV (cH (fL 0) OF (kM (At.lst 104))))))))) (bW 32 13 (eG (HV d) v.enc)=bW 32 13 (HV f)) (bG G f.2.2.2.1 E (Ol f)))))))))) (bU (Ol d) 13 (HV d) (λB E=>K (gV (bC (fE d.1) cF
 (bC cF cF (bC cF cF (bC MX cF (bC cF cF (bC cF MX (aM B)))))))) d.2.2.2.1 E))))))
def WH(N:Nat)(cb:Nat)(s t:Sl)(d:Nat)(m:MH)(h:PH)(K:dk):Prop:=
  JX (uR cb 0::cA s (fW t (↑d:Int))) m h N (λv f e=>EH (cA s (fP t (pZ v))) e (λc p g=>dD (fH c p g) 2 (JX (uR cb 0::cA s (fW t 1)) f e N (λj n o=>K (gV j.enc) n o)) (K (gV v.enc) f e)))
theorem Xl:X2 zeroV zeroV=true:=by simp[X2]
theorem CP:Ej 0 dG dG=true:=by simp[Ej,X3,X2]
theorem Yw{cols params:dl}{x:Int}(h:cols[i]? =some x):kindOf cols params ⟨1,i,zeroV⟩=x:=by
 have d:=(cn h);have e:kindOf cols params ⟨1,i,zeroV⟩=qB cols ⟨1,i,zeroV⟩:=rfl;have c:=Xl;rw[e];simp only[qB,c,Bool.not_true,Bool.or_false]
 grind
theorem Yv{cols params:dl}{x:Int}(h:params[i]? =some x):kindOf cols params ⟨2,i,zeroV⟩=x:=by
 have d:=(cn h);have e:kindOf cols params ⟨2,i,zeroV⟩=qB params ⟨2,i,zeroV⟩:=rfl;have c:=Xl;rw[e];simp only[qB,c,Bool.not_true,Bool.or_false]
 grind
theorem VU{cols params:dl}{c:Int}{v:VV}(f:NJ v)(g:aBJ c v):XR cols params c ⟨3,0,v⟩:=⟨f,λh=>by
 obtain⟨j,d⟩:=g h;have e:kindOf cols params ⟨3,0,v⟩=if((0:Int) !=0|| !jH v)then 0 else v.kind:=rfl
 rw[e,if_neg,d];simp only[jH,j,d];rcases h with rfl|rfl|rfl<;>decide⟩
theorem ZK:di 165 XQ:=by
 refine fU func165 ?_;rintro U m h K ⟨cb,s,t,d,e,c,rfl,V,P,Q,Z,l2,R⟩;refine⟨btQ cb s t d m h,rfl,aE FD (aE D3 aG),Tc cb s t d m h K,bu,?_⟩;dsimp only[Tc,push_cast];have E:=P.slen;have F:=Q.slen;refine⟨λ⟨i,f⟩=>i<=e.length/\f.length<=i/\∀o∈f,XR e c d o,λ⟨i,_⟩=>e.length-i,⟨(0,[]),⟨aC,bx,bx⟩,MT⟩,?_⟩;rintro⟨i,f⟩ ⟨S,y,g⟩;dsimp only;refine aD (λj=>?_) (λz=>?_)
 .obtain⟨x,A⟩:=dO E j;obtain⟨G,H,I,J⟩:=P.at' A;refine⟨G,H,I,aC,j,x,.imm J,aB (λW=>⟨ce,ce,(i+1,f++[⟨1,i,zeroV⟩]),⟨aC,ce,?_⟩,aC,?_⟩) (λ_=>⟨(i+1,f),⟨aC,cg,g⟩,aC,MT⟩)⟩
  .intro o u;rcases mem_append.1 u with n|n
   .grind
   .simp at n;subst n;exact⟨rM,λ_=>by rw[Yw (cm A)];grind⟩
  .rw[cv];exact MT
 refine⟨λ⟨i,f⟩=>i<=c.length/\f.length<=1000+i/\∀o∈f,XR e c d o,λ⟨i,_⟩=>c.length-i,⟨(0,f),⟨aC,aC,g⟩,MT⟩,?_⟩;clear S y g z;rintro⟨i,f⟩ ⟨S,y,g⟩;dsimp only;refine aD (λj=>?_) (λz=>?_)
 .obtain⟨x,A⟩:=dO F j;obtain⟨G,H,I,J⟩:=Q.at' A;refine⟨G,H,I,aC,j,x,.imm J,aB (λW=>⟨ce,ce,(i+1,f++[⟨2,i,zeroV⟩]),⟨aC,ce,?_⟩,aC,?_⟩) (λ_=>⟨(i+1,f),⟨aC,cg,g⟩,aC,MT⟩)⟩
  .intro o u;rcases mem_append.1 u with n|n
   .grind
   .simp at n;subst n;exact⟨rM,λ_=>by rw[Yv (cm A)];grind⟩
  .rw[cv];exact MT
 .refine⟨cb,_,rfl,V,λk m' X n u B=>aD (λT=>?_) (λT=>⟨cb,d,rfl,B,λv L Y M O C=>R ⟨3,0,v⟩ L (VU Y M) (u.trans O) C⟩)⟩;have D:k.toNat<f.length:=cg
  exact⟨X,T,_,by rw[getElem?_map,cq D];rfl,f[k.toNat],rfl,R _ m' (g _ (getElem_mem D)) u B⟩
theorem KT{h:PH}{v:PV}(c:v.args=⟨none,0,0⟩):dX h (.mk v.op v.cmp v.left v.right []) v:=dX.mk (by rw[c];exact .nil _ _ _ _)
structure bPQ(cols params:dl)(kd:Int)(p:PV):Prop where
 args_:p.args=⟨none,0,0⟩
 op_:p.op=3
 cmp_:1<=p.cmp/\p.cmp<=6
 left_:XR cols params kd p.left
 right_:XR cols params kd p.right
 kind_:NN cols->KOk kd
theorem bUX{k:Int}(h:KOk k):k≠0:=by rcases h with rfl|rfl|rfl<;>decide
theorem bPQ.pw{cols params:dl}{f:Int}{p:PV}(x:bPQ cols params f p)(d:Nat):PW cols params d (.mk p.op p.cmp p.left p.right []):=by
 refine⟨⟨x.left_.val,x.right_.val,trivial⟩,λg=>?_,QR.leaf d⟩;have c:=x.kind_ g;have j:=x.left_.kind c;have n:=x.right_.kind c;have o:=bUX c;have e:=x.cmp_;rw[x.op_];simp[iP,j,n,o,e.1,e.2]
theorem cpQ{cols params:dl}{d:Nat}(x:PW cols params d p):PW cols params (d+1) (.mk 6 0 dG dG [p]):=
 ⟨⟨rM,rM,x.vals,trivial⟩,λf=>by
  have e:=CP;simp[iP,w9,e,x.valid f],QR.node (λq c=>by simp at c;subst c;exact x.siz) bx⟩
theorem cpX{cols params:dl}{d:Nat}{op:Int}{ps:dx}(f:op=4\/op=5)(x:∀p∈ps,PW cols params d p)(g:ps.length<=3):PW cols params (d+1) (.mk op 0 dG dG ps):=
 ⟨⟨rM,rM,QU.2 λp c=>(x p c).vals⟩,λj=>by
  have e:=CP;have n:w9 cols params ps=true:=by rw[Gg,all_eq_true];exactλp c=>(x p c).valid j
  rcases f with rfl|rfl<;>simp[iP,e,n],QR.node (λq o=>(x q o).siz) g⟩
theorem arQ:∀N,di 93 (bFZ N)
 |0=>by
  refine eA (fn:=Tryz.f93) (c:=cM Tryz.f93) func93 rfl bz ?_;rintro a1 m h K ⟨cb,s,t,f,d,g,rfl,_,_,_,_,_,hN,_⟩;omega
 |N+1=>by
  refine fU func93 ?_;rintro a1 m h K ⟨cb,s,t,f,d,g,rfl,hc,O,ht,l1,l2,hN,hd,hK⟩;refine⟨bWJ N cb s t g h,rfl,aE FD (aE rP (aE ZK (aE D3 (aE (arQ N) aG)))),Wu N cb s t g m h K,bu,?_⟩;dsimp only[Wu,push_cast];have a7:=O.slen;refine⟨cb,9,rfl,hc,λk C M P y z=>?_⟩;refine⟨λ⟨k,_,A⟩=>0<=k/\k<=8/\bK m A cb/\aU A h cb,aB (λ_=>⟨cb,2,rfl,aC,aC,z,λr F D E=>⟨(k,r,F),⟨M,aC,y.trans D,E⟩,MT⟩⟩) (λ_=>⟨(k,false,C),⟨M,aC,y,z⟩,MT⟩),?_⟩;clear M P y z k C;rintro⟨k,b,C⟩ ⟨M,P,y,z⟩;dsimp only;refine aB (λ_=>⟨cb,2,rfl,z,λj F S j1 D E=>?_⟩) (λ_=>?_)
  .refine hK ⟨IntKind.i64.wrap (1+j),0,dG,dG,⟨none,0,0⟩⟩ _ F h (.refl _) (KT rfl) ⟨⟨rM,rM,trivial⟩,λ_=>?_,QR.leaf _⟩ (y.trans D) E;have hj:j=0\/j=1:=by omega
   have e1:IntKind.i64.wrap 1=1:=bz
   have e2:IntKind.i64.wrap 2=2:=bz
   rcases hj with rfl|rfl
   .simp[iP,e1,CP]
   .simp[iP,e2,CP]
  refine⟨λ⟨k,b,A⟩=>0<=k/\k<=8/\(b=false->6<=k/\1<=g)/\bK m A cb/\aU A h cb,aD (λ_=>⟨(k,true,C),⟨M,P,λe=>(by cases e),y,z⟩,MT⟩) (λhk=>⟨(k,_,C),⟨M,P,λe=>?_,y,z⟩,MT⟩),?_⟩
  .grind
  clear M P y z k C;rintro⟨k,b,C⟩ ⟨M,P,kb,y,z⟩;dsimp only;refine aB (λ_=>?_) (λhb=>?_)
  .refine⟨λ⟨H,A⟩=>(NN f->KOk H)/\bK m A cb/\aU A h cb,aD (λa6=>⟨cb,s.len,rfl,z,λj F S j1 D E=>?_⟩) (λ_=>⟨(4,C),⟨λ_=>.inr (.inl rfl),y,z⟩,MT⟩),?_⟩
   .obtain⟨b1,off,e1,r1⟩:=O.inb (n:=j) S aC
    have hm:f.getD j.toNat 0∈f:=by
     grind
    exact⟨b1,off,e1,S,aC,_,.imm r1,(_,F),⟨λT=>T _ hm,y.trans D,E⟩,MT⟩
   clear y z C;rintro⟨H,C⟩ ⟨U,y,z⟩;dsimp only;refine⟨λ⟨p,H,A⟩=>bPQ f d H p/\bK m A cb/\aU A h cb,⟨cb,6,rfl,z,λj F S j1 D E=>⟨cb,s,t,H,f,d,rfl,E,O,ht,l1,l2,λo m3 ho V W=>⟨cb,H,rfl,W,λv m4 hv a2 o4 c4=>⟨(⟨3,IntKind.i64.wrap (1+j),o,⟨3,0,v⟩,⟨none,0,0⟩⟩,H,m4),⟨⟨rfl,rfl,?_,ho,VU hv a2,U⟩,((y.trans D).trans V).trans o4,c4⟩,MT⟩⟩⟩⟩,?_⟩
   .show 1<=IntKind.i64.wrap (1+j)/\IntKind.i64.wrap (1+j)<=6;rw[dL aC aC];omega
   clear y z C U H;rintro⟨p,H,C⟩ ⟨pw,y,z⟩;dsimp only;refine⟨λ⟨p,A⟩=>bPQ f d H p/\bK m A cb/\aU A h cb,⟨cb,3,rfl,aC,aC,z,λr F D E=>aB (λ_=>⟨cb,s,t,H,f,d,rfl,E,O,ht,l1,l2,λo m3 ho V W=>⟨(⟨p.op,p.cmp,p.left,o,p.args⟩,m3),⟨⟨pw.args_,pw.op_,pw.cmp_,pw.left_,ho,pw.kind_⟩,(y.trans D).trans V,W⟩,MT⟩⟩) (λ_=>⟨(p,F),⟨pw,y.trans D,E⟩,MT⟩)⟩,?_⟩;clear pw y z C p;rintro⟨p,C⟩ ⟨pw,y,z⟩;dsimp only;refine⟨λ⟨p,A⟩=>bPQ f d H p/\bK m A cb/\aU A h cb,⟨cb,6,rfl,aC,aC,z,λr F D E=>aB (λ_=>⟨(⟨p.op,p.cmp,p.right,p.left,p.args⟩,F),⟨⟨pw.args_,pw.op_,pw.cmp_,pw.right_,pw.left_,pw.kind_⟩,y.trans D,E⟩,MT⟩) (λ_=>⟨(p,F),⟨pw,y.trans D,E⟩,MT⟩)⟩,?_⟩;clear pw y z C p;rintro⟨p,C⟩ ⟨pw,y,z⟩;exact hK p _ C h (.refl _) (KT pw.args_) (pw.pw g) y z
  have a3:=kb hb;have hw:IntKind.i64.wrap ((g:Int)-1)=((g-1:Nat):Int):=by rw[dL aC aC];omega
  rw[hw];have X:g=g-1+1:=by omega
  refine aB (λ_=>⟨cb,s,t,f,d,g-1,rfl,z,O,ht,l1,l2,aC,aC,λv p F h2 G hr hp D E Y Z I J=>?_⟩) (λa4=>⟨cb,3,rfl,z,λj F S j1 D E=>?_⟩)
  .refine hK ⟨6,0,dG,dG,Y⟩ (.mk 6 0 dG dG [p]) F Z (G.trans I) (dX.mk (v:=⟨6,0,dG,dG,Y⟩) ⟨⟨[v],J,rfl,λi x L=>?_⟩,bx⟩) (by rw[X];exact cpQ hp) (y.trans D) (E.mono I)
   match i,L with
   |0,L=>simp at L;subst L;exact⟨v,rfl,hr.mono I⟩
   |_+1,L=>simp at L
  refine⟨λ⟨op,n,Q,A,L⟩=>(op=4\/op=5)/\ -1<=n/\n<=2/\(Q.length:Int)<=2-n/\PH.le h L/\bK m A cb/\aU A L cb/\∃ps:dx,ps.length=Q.length/\(∀q∈ps,PW f d (g-1) q)/\∀(i:Nat) q,ps[i]? =some q->∃u,Q[i]? =some u/\dX L q u,λ⟨_,n,_,_,_⟩=>(n+1).toNat,⟨(_,j,[],F,h),⟨?_,aC,aC,ce,.refl _,y.trans D,E,[],rfl,bx,λi q R=>by simp at R⟩,MT⟩,?_⟩
  .have a4:k≠6:=cg
   have a5:k=7\/k=8:=by omega
   rcases a5 with rfl|rfl
   .exact .inl bz
   .exact .inr bz
  rintro⟨op,n,Q,A,L⟩ ⟨a',n0,n1,ul,G,ox,cx,ps,pl,pw,a0⟩;dsimp only;refine aD (λhn=>⟨cb,s,t,f,d,g-1,rfl,cx,O.mono G,ht.mono G,l1,l2,aC,aC,λv p m3 Z B hr hp V W=>⟨ce,ce,(op,n-1,Q++[v],m3,Z),⟨a',cg,cg,ce,G.trans B,ox.trans V,W,ps++[p],by simp[pl],?_,?_⟩,?_,?_⟩⟩) (λhn Y Z B J=>?_)
  .grind
  .intro i q R;by_cases hi:i<ps.length
   .rw[getElem?_append_left hi]at R;obtain⟨u,h1,h2⟩:=a0 i q R;exact⟨u,cg,h2.mono B⟩
   grind
  .grind
  .rw[cv,dL aC aC];exact MT
  .exact hK ⟨op,0,dG,dG,Y⟩ (.mk op 0 dG dG ps) A Z (G.trans B) (dX.mk (v:=⟨op,0,dG,dG,Y⟩) ⟨⟨Q,J,pl,λi q R=>(a0 i q R).imp λu hu=>⟨hu.1,hu.2.mono B⟩⟩,aC⟩) (by rw[X];exact cpX a' pw aC) ox (cx.mono B)
theorem Xt(h:NN l):l.all eH=true:=all_eq_true.2 λk c=>by
 rcases h k c with e|e|e<;>subst e<;>rfl
theorem anJ{cols params:dl}{d:Nat}(x:PW cols params d p)(e:d<=2)(c:NN cols)(f:NN params):fH cols params p=0:=by
 have j:=Pl p 0;have o:=x.siz.n;have g:=Nt p 8 (by have:=x.siz.d;omega)
 have t:gF d<=13:=by match d,e with
  |0,_=>decide
  |1,_=>decide
  |2,_=>decide
 unfold fH;rw[Xt c,Xt f,if_neg bx,g,if_neg ce,x.valid c];rfl
theorem Ij:di 44 CE:=by
 refine fU func44 ?_;rintro G m h K ⟨cb,s,t,e,c,f,rfl,H,n,o,z,A,I,B⟩;refine⟨cT [(93,bFZ 1001),(94,tH)] [] [] [] false,rfl,aE (arQ 1001) (aE L4 aG),WH 1001 cb s t f m h K,bu,?_⟩;dsimp only[WH,push_cast];refine⟨cb,s,t,e,c,f,rfl,H,n,o,z,A,aC,I,λv p J L d C D E F=>⟨s,t,v,e,c,p,rfl,n.mono d,o.mono d,C,aB (λ_=>⟨cb,s,t,e,c,1,rfl,F,n.mono d,o.mono d,z,A,aC,aC,λM O P Q g u j R S=>B M O P Q (d.trans g) u ⟨j.vals,λ_ x y=>anJ j bz x y⟩ (E.trans R) S⟩) (λ_=>B v p J L d C ⟨D.vals,λT x y=>anJ D T x y⟩ E F)⟩⟩
def cG:Sl:=⟨none,0,0⟩
def aDX:Vc.Spec:=λc m h K=>∃n k,c=[Xy n,cI k]/\K (.val (.agg ⟨(pB.mk n k).enc⟩)) m h
def bIX:Vc.Spec:=λc m h K=>∃t,c=[cI t]/\K (aQ ⟨1,t,iJ,cG,cG,cG,cG,0,cG⟩) m h
def ceJ(v:QV)(g o:Sl)(k:Int):QV:=⟨v.op,v.table,v.where_,v.columns,v.on,g,o,k,v.args⟩
def chQ:Vc.Spec:=λd m h K=>∃cb v s c,d=[cP cb,aQ (ceJ v cG cG v.limit),cS s]/\aU m h cb/\Ints h s c/\c.length<=1000/\
 ∀g o k gr od m' h',PH.le h h'->Ints h' g gr->iV h' o od->gr.length<=c.length->od.length<=c.length->0<=k->k<=3->bK m m' cb->aU m' h' cb->K (aQ (ceJ v g o k)) m' h'
noncomputable def b2Q(cb:Nat)(v:QV)(s:Sl)(h:PH):Ctx:=
 cT [(12,Ea),(13,G6)] [(2,{A:=Nat×dl×dr×MH,st:=λ⟨i,gr,od,m⟩=>bO 37 40 [(0,pv cb),(4,.at (.ptr 4 0)),(6,.at (.ptr 6 0)),(9,iv s.len),(10,iv i)] [(4,.cells 38 ((v.enc.take 17).map .val++[.lst 19,.lst 30,.val (.int .i64 v.limit),.val (.slice v.args.a v.args.len v.args.cap)])),(6,.cells 38 (Cd.enc.map .val)),(19,.lst 3 1 (gr.map eI)),(30,.lst 103 2 (od.map Ah))] m h})] [] [] false
noncomputable abbrev yN(a:ByteArray)(b:Int):dj:=nL (Value.string a) (fE b)
attribute [push_cast] yN
def bhQ(n:ByteArray)(k:Int)(m:MH)(h:PH)(K:dk):Prop:=
  K (gV (yN n k)) m h
noncomputable abbrev B4(a:Int)(b c:Value)(d:dj):dj:=bC (fE a) b (bC c cF (bC cF cF (bC cF cF d)))
noncomputable abbrev C6(a b:Int):dj:=B4 a (fE b) cF On
attribute [push_cast] B4 C6
def biX(t:Int)(m:MH)(h:PH)(K:dk):Prop:=
  K (gV (C6 1 t)) m h
abbrev gO:Prop:=eP 6
abbrev Hm(a:QV):Prop:=eQ (oQ 38 (cH (fL a.op) (zX a) (pQ a.where_ (cH (jR a.columns) (jR a.on) (cH (At.lst 19) (At.lst 30) (iU (fL a.limit) (jR a.args)))))))
noncomputable abbrev uC(a:Nat×dl×dr×MH):List dj:=Pv a.2.2.1
abbrev JY(a:Nat×dl×dr×MH->Prop)(b:Nat×dl×dr×MH->Nat)(c:Nat×dl×dr×MH)(d:Nat)(e:Sl)(g:Prop)(i j:(Nat×dl×dr×MH)->Prop)(k:MH)(l:PH):Prop:=∃(x:Nat×dl×dr×MH),aA (a x) (b x<b c) (aA (dE d) fI (aA gO (aY e) (aA (eR (bF ((↑c.1:Int)+1))=bL x.1) g (aA jC (i x) (aA (j x) (k=x.2.2.2) (bR l l))))))
attribute [push_cast] gO Hm uC JY
def WI(cb:Nat)(v:QV)(s:Sl)(m:MH)(h:PH)(K:dk):Prop:=
  ∃(I:Nat×dl×dr×MH->Prop)(j:Nat×dl×dr×MH->Nat),(∃(x:Nat×dl×dr×MH),aA (I x) (dE cb) (aA fI gO (aA (aY s) (aZ x.1) (aA (Hm v) jC (aA (xP x.2.1) (u9 103 2 (uC x)) (aA (m=x.2.2.2) (h=h) True))))))/\∀(x:Nat×dl×dr×MH),I x->aW (↑x.1:Int) (aF s) (jT cb 3 x.2.2.2 h (λc r f=>lC x.2.2.2 f c h (branch r (iY (dT x.2.1) 8 (jT cb 3 f h (λn o e=>lC f e n h (branch o (jT cb 2 e h (λt u g=>lC e g t h (iY (uC x) 16 (JY I j x cb s (Hm v) (λd=>gU (eG (dT x.2.1) (bQ (↑x.1:Int))) d.2.1) (λd=>bW 103 2 (eG (uC x) (nL (fE (↑x.1:Int)) (Value.bool u)))=bW 103 2 (uC d)) g h))))
 (JY I j x cb s (Hm v) (λd=>gU (eG (dT x.2.1) (bQ (↑x.1:Int))) d.2.1) (λd=>bW 103 2 (uC x)=bW 103 2 (uC d)) e h))))) (jT cb 3 f h (λn o e=>lC f e n h (branch o (jT cb 2 e h (λt u g=>lC e g t h (iY (uC x) 16 (JY I j x cb s (Hm v) (λd=>gU (dT x.2.1) d.2.1) (λd=>bW 103 2 (eG (uC x) (nL (fE (↑x.1:Int)) (Value.bool u)))=bW 103 2 (uC d)) g h)))) (JY I j x cb s (Hm v) (λd=>gU (dT x.2.1) d.2.1) (λd=>bW 103 2 (uC x)=bW 103 2 (uC d)) e h))))))) (eW cb 4 x.2.2.2 h (λk f=>bU h 1 (dT x.2.1) (λy z=>bU z 2 (uC x) (λA B=>K (gV (Hu v v v (bC (kJ (nJ v)) (qI (fX v)) (bC (qJ (fX v)) (j8 (fX v)) (bC
 (lY (fX v)) (kJ (fX v)) (bC (Ex v) (Fo v) (bC (iI v.on) (iI y) (bC (iI A) (fE k) (aM v.args))))))))) f B))))
theorem aPQ:di 92 aDX:=by
 refine fU func92 ?_;rintro c m h K ⟨n,k,rfl,d⟩;refine⟨cT [] [] [] [] false,rfl,aG,bhQ n k m h K,bu,?_⟩;exact d
theorem Se:di 40 bIX:=by
 refine fU func40 ?_;rintro c m h K ⟨t,rfl,d⟩;refine⟨cT [] [] [] [] false,rfl,aG,biX t m h K,bu,?_⟩;exact d
theorem aSQ:di 43 chQ:=by
 refine fU func43 ?_;rintro I m h K ⟨cb,v,s,c,rfl,J,L,X,M⟩;refine⟨b2Q cb v s h,rfl,aE FD (aE rP aG),WI cb v s m h K,bu,?_⟩;dsimp only[WI,push_cast];have O:=L.slen;refine⟨λ⟨i,gr,od,E⟩=>i<=c.length/\gr.length<=i/\od.length<=i/\bK m E cb/\aU E h cb,λ⟨i,_,_,_⟩=>c.length-i,⟨(0,[],[],m),⟨aC,bx,bx,.refl _ _,J⟩,MT⟩,?_⟩;rintro⟨i,gr,od,Y⟩ ⟨Z,hg,ho,n,F⟩;dsimp only;refine aD (λP=>?_) (λQ=>?_)
 .have fin:∀(f:dl)(g:dr) m',f.length<=i+1->g.length<=i+1->bK m m' cb->aU m' h cb->(i+1<=c.length/\f.length<=i+1/\g.length<=i+1/\bK m m' cb/\aU m' h cb):=λf g m' G A R S=>⟨aC,G,A,R,S⟩
  refine⟨cb,3,rfl,aC,aC,F,λr H j z=>aB (λ_=>⟨ce,ce,cb,3,rfl,aC,aC,z,λB o t u=>aB (λ_=>⟨cb,2,rfl,aC,aC,u,λx y C D=>⟨ce,ce,(i+1,gr++[(i:Int)],od++[((i:Int),x)],y),fin (gr++[(i:Int)]) (od++[((i:Int),x)]) y ce ce (((n.trans j).trans t).trans C) D,aC,?_⟩⟩) (λ_=>⟨(i+1,gr++[(i:Int)],od,o),fin (gr++[(i:Int)]) od o ce aC ((n.trans j).trans t) u,aC,?_⟩)⟩)
   (λ_=>⟨cb,3,rfl,aC,aC,z,λB o t u=>aB (λ_=>⟨cb,2,rfl,aC,aC,u,λx y C D=>⟨ce,ce,(i+1,gr,od++[((i:Int),x)],y),fin gr (od++[((i:Int),x)]) y aC ce (((n.trans j).trans t).trans C) D,aC,?_⟩⟩) (λ_=>⟨(i+1,gr,od,o),fin gr od o aC aC ((n.trans j).trans t) u,aC,MT⟩)⟩)⟩
  .simp only[cv];exact MT
  .simp only[cv];exact MT
  .simp only[cv];exact MT
 .refine⟨cb,4,rfl,F,λk H T k1 j z U G e V W A d B=>?_⟩;exact M U W k gr od H A (e.trans d) ⟨V.mono d,aC⟩ ⟨B,aC⟩ aC aC T aC (n.trans j) (z.mono (e.trans d))
def bKX:Vc.Spec:=λc m h K=>∃cb s t a b,c=[cP cb,cS s,cS t]/\aU m h cb/\Ints h s a/\Ints h t b/\a.length<=1000/\b.length<=1000/\
 ∀o on m' h',PH.le h h'->jA h' o on->on.length<=10->bK m m' cb->aU m' h' cb->K (cS o) m' h'
noncomputable def b2Z(cb:Nat)(s t:Sl)(h:PH):Ctx:=
 cT [(12,Ea)] [(3,{A:=Int×dq×MH,st:=λ⟨n,on,m⟩=>bO 77 80 [(0,pv cb),(1,sv s),(2,sv t),(7,.at (.lst 75)),(8,iv n)] [(75,.lst 101 2 (on.map tL))] m h}),
  (8,{A:=Int×Nat×dq×(Int×Int)×Bool×MH,st:=λ⟨n,i,on,p,f,m⟩=>bO 77 80 [(0,pv cb),(1,sv s),(2,sv t),(7,.at (.lst 75)),(8,iv n),(9,.at (.ptr 9 0)),(10,bv f),(49,.at (.lst 75)),(50,iv on.length),(51,iv i)] [(9,.cells 101 [.val (.int .i64 p.1),.val (.int .i64 p.2)]),(75,.lst 101 2 (on.map tL))] m h})] [] [] false
noncomputable abbrev BE(a:Int×dq×MH):List dj:=LV a.2.1
noncomputable abbrev EW(a:Int×Nat×dq×(Int×Int)×Bool×MH):Bool:=a.2.2.2.2.1
noncomputable abbrev BD(a:Int×Nat×dq×(Int×Int)×Bool×MH):Nat:=a.2.2.1.length
noncomputable abbrev yO(a:Int×Nat×dq×(Int×Int)×Bool×MH):Int×Int:=a.2.2.2.1
noncomputable abbrev tZ(a:Int×Nat×dq×(Int×Int)×Bool×MH):List dj:=LV a.2.2.1
noncomputable abbrev Av(a:Int×Nat×dq×(Int×Int)×Bool×MH):Nat->Option Obj:=a.2.2.2.2.2
abbrev N4(a:fa->Prop)(b:fa->Nat)(c d:Nat)(e g:Sl)(i:Int×Nat×dq×(Int×Int)×Bool×MH)(j:fa->Int×Nat×dq×(Int×Int)×Bool×MH)(k:fa->Prop):Prop:=∃(x:Int×Nat×dq×(Int×Int)×Bool×MH),aA (a x) (b x<c) (aA (dE d) (aH e) (aA (aH g) (eL 75) (aA (dA i.1 (j x).1) (eP 9) (k x))))
attribute [push_cast] BE EW BD yO tZ Av N4
def WK(cb:Nat)(s t:Sl)(m:MH)(h:PH)(K:dk):Prop:=
  eW cb 3 m h (λk F=>∃(I:Int×dq×MH->Prop)(n:Int×dq×MH->Nat),(∃(x:Int×dq×MH),aA (I x) (dE cb) (aA (aH s) (aH t) (aA (eL 75) (dA k x.1) (aA (u9 101 2 (BE x)) (F=x.2.2) (bR h h)))))/\∀(x:Int×dq×MH),I x->fA x.1 0 (fA (aF s) 0 (fA (aF t) 0 (eW cb (aF s) x.2.2 h (λu G=>eW cb (aF t) G h (λz A=>aA (bY 0) ((0:Int)<2) (aJ (λb o=>aI (aK s.a b o) (0<=u) (u<aF s) (∃(y:Int),aI (aR A h b (cC o u 1) (bQ y)) ((0:Int)<=1) ((1:Int)<2) (aJ (λC D=>aI (aK t.a C D) (0<=z) (z<aF t) (∃(E:Int),aR A h C (cC D z 1) (bQ E)/\∃(I1:Int×Nat×dq×(Int×Int)×Bool×MH->Prop)(f:Int×Nat×dq×
 (Int×Int)×Bool×MH->Nat),(∃(d:Int×Nat×dq×(Int×Int)×Bool×MH),aA (I1 d) (dE cb) (aA (aH s) (aH t) (aA (eL 75) (dA x.1 d.1) (aA (eP 9) (iL (y==E) (EW d)) (aA (eL 75) (bV (BE x).length (BD d)) (aA (aZ d.2.1) (EV (iU (fL u) (fL z)) (vT (yO d))) (bS (bW 101 2 (BE x)=bW 101 2 (tZ d)) A (Av d) h h)))))))/\∀(d:Int×Nat×dq×(Int×Int)×Bool×MH),I1 d->aW (↑d.2.1:Int) (↑(BD d):Int) (oT (↑d.2.1:Int) (tZ d) (λe=>jZ (tZ d) (↑d.2.1:Int) e/\∃(B:Int×Int),hZ (List.take 2 (List.drop 0 e)=oD B) (EW d) (aA (bY 0) ((0:Int)<2) (aA (bY 0) ((0:Int)<2) (cK B.1 (yO d).1 (aA (bY 1) ((1:Int)<2) (aA (bY 1) ((1:Int)<
 2) (N4 (λc=>I1 c) (λc=>f c) (f d) cb s t d (λc=>c) (λc=>aA (iL (B.2 !=(yO d).2) (EW c)) (eL 75) (aA (bV (BD d) (BD c)) (eR (bF ((↑d.2.1:Int)+1))=bL c.2.1) (aA (EV (vT (yO d)) (vT (yO c))) (bW 101 2 (tZ d)=bW 101 2 (tZ c)) (aA (Av d=Av c) (h=h) True))))))) (N4 (λc=>I1 c) (λc=>f c) (f d) cb s t d (λc=>c) (λc=>aA (wH (EW c)) (eL 75) (aA (bV (BD d) (BD c)) (eR (bF ((↑d.2.1:Int)+1))=bL c.2.1) (aA (EV (vT (yO d)) (vT (yO c))) (bW 101 2 (tZ d)=bW 101 2 (tZ c)) (aA (Av d=Av c) (h=h) True)))))))) (N4 (λc=>I1 c) (λc=>f c) (f d) cb s t d (λc=>c) (λc=>aA (wH
 (EW c)) (eL 75) (aA (bV (BD d) (BD c)) (eR (bF ((↑d.2.1:Int)+1))=bL c.2.1) (aA (EV (vT (yO d)) (vT (yO c))) (bW 101 2 (tZ d)=bW 101 2 (tZ c)) (aA (Av d=Av c) (h=h) True))))))) (branch (EW d) (iY (tZ d) 16 (∃(c:Int×dq×MH),aA (I c) (n c<n x) (aA (dE cb) (aH s) (aA (aH t) (eL 75) (aA (dA (kY d.1) c.1) (bW 101 2 (eG (tZ d) (oD (yO d)))=bW 101 2 (BE c)) (bG (Av d) c.2.2 h h)))))) (∃(c:Int×dq×MH),aA (I c) (n c<n x) (aA (dE cb) (aH s) (aA (aH t) (eL 75) (aA (dA (kY d.1) c.1) (bW 101 2 (tZ d)=bW 101 2 (BE c)) (bG (Av d) c.2.2 h h))))))))))))))) (bU h 2 (BE x) (λg j=>K (F9
 g) x.2.2 j))) (bU h 2 (BE x) (λg j=>K (F9 g) x.2.2 j))) (bU h 2 (BE x) (λg j=>K (F9 g) x.2.2 j)))
theorem aSZ:di 41 bKX:=by
 refine fU func41 ?_;rintro L m h K ⟨cb,s,t,a,b,rfl,M,C,D,l1,l2,O⟩;refine⟨b2Z cb s t h,rfl,aE FD aG,WK cb s t m h K,bu,?_⟩;dsimp only[WK,push_cast];have P:=C.slen;have Q:=D.slen;refine⟨cb,3,rfl,M,λk g E R d j=>⟨λ⟨n,on,A⟩=>0<=n/\n<=2/\(on.length:Int)<=2-n/\bK m A cb/\aU A h cb,λ⟨n,_,_⟩=>n.toNat,⟨(k,[],g),⟨E,aC,ce,d,j⟩,MT⟩,?_⟩⟩;clear E R d j g;rintro⟨n,on,g⟩ ⟨n0,n1,S,d,j⟩;dsimp only;have out:∀(e:Sl)(h':PH),PH.le h h'->cE h' e 2 (on.map tL)->K (.val (.slice e.a e.len e.cap)) g h':=λe h' o u=>O e on g h' o ⟨u,aC⟩ aC d (j.mono o);refine aD (λhn=>aD (λhp=>aD (λhq=>?_) (λ_=>out)) (λ_=>out)) (λ_=>out);refine⟨cb,s.len,rfl,j,λx m2 F x1 G T=>⟨cb,t.len,rfl,T,λy c H y1 I J=>?_⟩⟩;obtain⟨U,V,W,X⟩:=C.inb (n:=x) F aC;obtain⟨Y,Z,e2,r2⟩:=D.inb (n:=y) H aC;refine⟨aC,aC,U,V,W,F,aC,_,.imm X,aC,aC,Y,Z,e2,H,aC,_,.imm r2,?_⟩;refine⟨λ⟨n',i,B,p,f,A⟩=>n'=n/\B=on/\A=c/\i<=on.length,λ⟨_,i,_,_,_,_⟩=>on.length-i,⟨(n,0,on,(x,y),a.getD x.toNat 0==b.getD y.toNat 0,c),⟨rfl,rfl,rfl,aC⟩,?_⟩,?_⟩
 .rw[length_map];exact MT
 rintro⟨n,i,on,p,f,c⟩ ⟨rfl,rfl,rfl,hi⟩;dsimp only;refine aD (λa'=>?_) (λa0=>?_)
 .have hl:i<on.length:=by omega
  have z:(on.map tL)[i]? =some (tL on[i]):=cg
  refine⟨aC,cg,_,z,on[i],rfl,aB (λ_=>⟨aC,aC,aC,aC,aB (λ_=>⟨aC,aC,aC,aC,(n,i+1,on,p,_,c),⟨rfl,rfl,rfl,ck⟩,cj,MT⟩) (λ_=>⟨(n,i+1,on,p,_,c),⟨rfl,rfl,rfl,ck⟩,cj,MT⟩)⟩) (λ_=>⟨(n,i+1,on,p,_,c),⟨rfl,rfl,rfl,ck⟩,cj,MT⟩)⟩
 .have hw:IntKind.i64.wrap (n-1)=n-1:=dL aC aC;rw[hw];refine aB (λ_=>⟨cg,cg,(n-1,on++[p],c),⟨aC,aC,ce,(d.trans G).trans I,J⟩,aC,?_⟩) (λ_=>⟨(n-1,on,c),⟨aC,aC,cg,(d.trans G).trans I,J⟩,aC,MT⟩);rw[cv];exact MT
def cFZ:Vc.Spec:=λd m h K=>∃s e,∃c:Nat,d=[cS s,cI c]/\cE h s 1 (bH e)/\s.len<=s.cap/\c<=1000/\∀cb m' h',PH.le h h'->m cb=none->bK m m' cb->aU m' h' cb->K (cP cb) m' h'
abbrev Cr(a b:Prop)(c:(List dj)->Prop):Prop:=aA a b (∃(x:List dj),c x)
abbrev BU(a:Int)(b:Sl):Prop:=a<=(↑b.cap:Int)
attribute [push_cast] Cr BU
def arX(s:Sl)(c:Nat)(m:MH)(h:PH)(K:dk):Prop:=
  Cr (bY (ite ((↑c:Int)<aF s) (↑c:Int) (aF s))) (BU (ite ((↑c:Int)<aF s) (↑c:Int) (aF s)) s) (λy=>aA (cZ 1 y) (nC m h (Sl.mk s.a (ite ((↑c:Int)<aF s) (↑c:Int) (aF s)).toNat s.cap) 1 y) (aA (Ci y 1) (Cj y) (bU h 1 y (λf e=>mE m e (λb d=>gP m d b (nL (iI f) cF) 83) (λb d=>K (uR b 0) d e)))))
theorem JH(l:dw):cZ 1 (bH l):=by
 constructor
 .intro e c;obtain⟨x,_,rfl⟩:=mem_map.1 c;rfl
 .intro e c u d;obtain⟨x,_,rfl⟩:=mem_map.1 c;simp at d;subst d;rfl
theorem cE.cut{s:Sl}(r:cE h s sz xs)(n:Nat)(c:n<=xs.length):cE h ⟨s.a,n,s.cap⟩ sz (xs.take n):=by
 refine⟨ce,?_,by have d:=r.len;have f:=r.cap;grind⟩;rcases r.row with e|⟨b,o,g,k⟩
 .grind
 grind
theorem bhX:di 8 cFZ:=by
 refine fU func8 ?_;rintro t m h K ⟨s,g,c,rfl,n,z,A,u⟩;refine⟨rI [] [] [] [] [83] [] false,rfl,aG,arX s c m h K,bu,?_⟩;have B:s.len=g.length:=by have:=n.len;simpa[bH]using this
 dsimp only[arX,push_cast];have d:(if(c:Int)<(s.len:Int)then(c:Int)else(s.len:Int))=((min c s.len:Nat):Int):=by omega
 rw[d];have e:=cE.cut n (min c s.len) (by simp[bH];omega);refine⟨aC,aC,bH (g.take (min c s.len)),JH _,.imm ?_,by simp[bH];omega,by simp[bH];omega,λx h' j f b m' y o=>?_⟩
 .rw[show bH (g.take (min c s.len))=(bH g).take (min c s.len)by simp[bH,map_take]];exact e
 .exact u b m' h' j y.m_ ⟨o.other⟩ ⟨_,⟨⟨x,_,0,o.at_,f,aC,ce,rfl⟩⟩⟩
def ciQ:Vc.Spec:=λc m h K=>∃n:Nat,c=[.val (.slice none 0 0),cI n]/\n<=1000/\K (.lst 3 1 []) m h
noncomputable def btX(c:Sl)(m:MH)(h:PH):Ctx:=
 cT [(222,ciQ)] [(3,{A:=Nat×Nat,st:=λ⟨i,n⟩=>bO 36 37 [(0,sv c),(3,iv n),(9,sv c),(10,iv c.len),(11,iv i)] [] m h}),
  (11,{A:=Nat×dl,st:=λ⟨i,l⟩=>bO 36 37 [(6,.at (.lst 24)),(25,sv c),(26,iv c.len),(27,iv i)] [(24,.lst 3 1 (l.map eI))] m h})] [] [] false
abbrev Od(a:Nat)(b c:Int)(d:List dj)(e:Prop):Prop:=fA (bF ((↑a:Int)-bF (b-b))) 0 (aA (bY b) (bY 0) (aA (b<bF ((↑a:Int)-0)) (bF ((↑a:Int)-0)*c<=140737488355328) (aI (bF ((↑a:Int)-0)<=140737488355328) (0<=b) (bY (j7 d)) e))) e
noncomputable abbrev xH(a:Int)(b:dj):List dj:=replicate a.toNat b
attribute [push_cast] Od xH
def Sx(n:Nat)(m:MH)(h:PH)(K:dk):Prop:=
  Od n 0 8 (xH (bF ((↑n:Int)-0)) (kH cF)) (K (CV.lst 3 1 []) m h)
abbrev HN(a:(Nat×Nat->Prop)->(Nat×Nat)->Prop)(b:(Nat×Nat->Prop)->(Nat×Nat->Nat)->(Nat×Nat)->Prop):Prop:=∃(x:Nat×Nat->Prop)(d:Nat×Nat->Nat),(∃(c:Nat×Nat),a x c)/\∀(c:Nat×Nat),b x d c
abbrev Oe(a:Nat×Nat)(b:Sl)(c:Nat×Nat):Prop:=eR (bF ((↑a.2:Int)+aF b))=bL c.2
noncomputable abbrev E7(a:Nat):eb:=bD iO (↑a:Int)
attribute [push_cast] HN Oe E7
def Td(d:Sl)(m:MH)(h:PH)(K:dk):Prop:=
  HN (λI x=>aA (I x) (aH d) (aA (aZ x.2) (aH d) (aA (aY d) (aZ x.1) (aA (m=m) (h=h) True)))) (λI g x=>I x->aW (↑x.1:Int) (aF d) (aJ (λb o=>aI (aK d.a b o) (0<=(↑x.1:Int)) ((↑x.1:Int)<aF d) (∃(y:Sl),aR m h b (bE o x.1 1) (aM y)/\aW (bF ((↑x.2:Int)+aF y)) 0 False (∃(c:Nat×Nat),aA (I c) (g c<g x) (aA (aH d) (Oe x y c) (aA (aH d) (aY d) (aA (eR (bF ((↑x.1:Int)+1))=bL c.1) (m=m) (bR h h)))))))) (∃(n:Nat),aA (E7 x.2=E7 n) (nA n) (Oc (λI1 c=>aA (I1 c) (eL 24) (aA (aH d) (aY d) (aA (aZ c.1) (xP c.2) (aA (m=m) (h=h) True)))) (λI1 j c=>I1 c->aW (↑c.1:Int) (aF d) (aJ (λb o=>aI (aK d.a b o) (0<=(↑c.1:Int)) ((↑c.1:Int)<aF d)
 (∃(y:Sl),aR m h b (bE o c.1 1) (aM y)/\∃(e:List dj),aA (cZ 1 e) (cE h (cX y) 1 e) (aA (mI (dT c.2) e 8) (mC (dT c.2) e) (∃(f:Nat×dl),aA (I1 f) (j f<j c) (aA (eL 24) (aH d) (aA (aY d) (eR (bF ((↑c.1:Int)+1))=bL f.1) (aA (gU (dT c.2++e) f.2) (m=m) (bR h h))))))))) (nD h (dT c.2) K m)))))
theorem Zc:di 222 ciQ:=by
 refine fU func222 ?_;rintro d m h K ⟨n,rfl,f,c⟩;refine⟨cT [] [] [] [] true,rfl,aG,Sx n m h K,bu,?_⟩;dsimp only[Sx,push_cast];have e:IntKind.i64.wrap ((n:Int)-0)=n:=by rw[dL aC aC];omega
 have g:IntKind.i64.wrap ((n:Int)-IntKind.i64.wrap (0-0))=n:=by rw[show IntKind.i64.wrap (0-0)=0 from by rw[dL aC aC];rfl,e]
 exact aD (λj=>⟨aC,aC,aC,aC,aC,aC,aC,c⟩) (λ_=>c)
def Ba(ks:List dl):Nat:=(ks.map List.length).sum
theorem M1{k:dl}(c:ks[i]? =some k):Ba (ks.take (i+1))=Ba (ks.take i)+k.length:=by
 unfold Ba;rw[db,c];simp
theorem Lx{ks:List dl}(h:∀k∈ks,k.length<=12):∀i,Ba (ks.take i)<=12*i
 |0=>by simp[Ba]
 |i+1=>by
  have c:=Lx h i;cases e:ks[i]? with
  |none=>rw[db,e];grind
  |some k=>rw[M1 e];grind
theorem Qn:di 164 Lt:=by
 refine fU func164 ?_;rintro E m h K ⟨A,ks,rfl,x,L,d,F⟩;refine⟨btX A m h,rfl,aE Zc aG,Td A m h K,bu,?_⟩;dsimp only[Td,push_cast];have j:=bI.slen x;refine⟨λ⟨i,n⟩=>i<=ks.length/\n=Ba (ks.take i),λ⟨i,_⟩=>ks.length-i,⟨(0,0),⟨aC,by simp[Ba]⟩,MT⟩,?_⟩;rintro⟨i,n⟩ ⟨B,rfl⟩;dsimp only;have G:=Lx d i;refine aD (λc=>?_) (λt=>?_)
 .obtain⟨k,e⟩:=dO j c;obtain⟨b,o,g,y,r,f⟩:=bI.at x e;have H:=f.slen;have u:=d k (cr e)
  have I:IntKind.i64.wrap ((Ba (ks.take i):Int)+(g.len:Int))=((Ba (ks.take (i+1)):Nat):Int):=by
   rw[M1 e,dL aC aC];omega
  refine⟨b,o,y,aC,c,g,.imm r,?_⟩;rw[I];exact aD (λC=>by omega) (λ_=>⟨(i+1,Ba (ks.take (i+1))),⟨aC,rfl⟩,aC,MT⟩)
 .refine⟨Ba (ks.take i),rfl,aC,?_⟩;refine⟨λ⟨i,l⟩=>i<=ks.length/\l=(ks.take i).flatten,λ⟨i,_⟩=>ks.length-i,⟨(0,[]),⟨aC,bx⟩,MT⟩,?_⟩;clear G t B;rintro⟨i,l⟩ ⟨B,rfl⟩;dsimp only;have J:(ks.take i).flatten.length<=12*i:=by have:=Lx d i;simpa[Ba,length_flatten]using this
  refine aD (λc=>?_) (λt g h' z D=>F g h' z ⟨?_,?_⟩)
  .obtain⟨k,e⟩:=dO j c;obtain⟨b,o,g,y,r,f⟩:=bI.at x e;have u:=d k (cr e);refine⟨b,o,y,aC,c,g,.imm r,k.map eI,qF k,f.row,?_,?_,(i+1,(ks.take (i+1)).flatten),⟨aC,rfl⟩,aC,?_⟩
   .grind
   .grind
   .rw[db,e,Option.toList_some,flatten_append,cv,flatten_cons,flatten_nil,append_nil];exact MT
  .grind
  grind
theorem aOX:∀N,di 98 (B8 N):=aqZ Qn
mutual
def wY:Query->Nat->Int->Bool×Int
 |.mk _ _ _ _ _ _ _ _ args,k,n=>if 24<n+1\/k=0 then(false,0)else FW args (k-1) (n+1)
def FW:ds->Nat->Int->Bool×Int
 |[],_,n=>(true,n)
 |q::qs,k,n=>match wY q k n with|(false,_)=>(false,0)|(true,c)=>FW qs k c
end
mutual
def NQ:Query->Int
 |.mk _ _ _ _ _ _ _ _ args=>1+wZ args
def wZ:ds->Int
 |[]=>0
 |p::ps=>NQ p+wZ ps
end
mutual
theorem NP:∀p:Query,1<=NQ p
 |.mk _ _ _ _ _ _ _ _ args=>by have:=sR args;simp only[NQ];omega
theorem sR:∀ps:ds,0<=wZ ps
 |[]=>by simp[wZ]
 |p::ps=>by have:=NP p;have:=sR ps;simp only[wZ];omega
end
mutual
theorem RT:∀(p:Query)(n:Int),n<=24->(n+NQ p<=24->wD p n=n+NQ p)/\(24<n+NQ p->wD p n=25)
 |.mk _ _ _ _ _ _ _ _ args,n,h=>by
  obtain⟨c,d⟩:=Pj args (n+1) aC;simp only[wD,NQ];omega
theorem Pj:∀(ps:ds)(n:Int),n<=25->(n+wZ ps<=24->pD ps n=n+wZ ps)/\(24<n+wZ ps->pD ps n=25)
 |[],n,h=>by
  simp only[pD,wZ];omega
 |p::ps,n,h=>by
  have e:=NP p;have f:=sR ps;simp only[pD,wZ];by_cases c:n<=24
  .rw[if_pos c];have g:=RT p n c;have d:=(El p n c).2;have j:=Pj ps _ d;omega
  omega
end
mutual
theorem Jv:∀(p:Query)(k:Nat)(n:Int),n<=24->((wY p k n).1=true↔n+NQ p<=24/\oJ p k=false)/\((wY p k n).1=true->(wY p k n).2=n+NQ p)
 |.mk _ _ _ _ _ _ _ _ args,k,n,h=>by
  have f:=sR args;simp only[wY,NQ];by_cases c:24<n+1\/k=0
  .rw[if_pos c];refine⟨⟨λe=>(by cases e),λe=>?_⟩,λe=>(by cases e)⟩;rcases c with c|c
   .omega
   .subst c;simp[oJ]at e
  .rw[if_neg c];obtain⟨d,rfl⟩:∃d,k=d+1:=⟨k-1,aC⟩
   obtain⟨g,j⟩:=Vo args d (n+1) aC;simp only[oJ,Nat.add_sub_cancel]
   grind
theorem Vo:∀(ps:ds)(k:Nat)(n:Int),n<=24->((FW ps k n).1=true↔n+wZ ps<=24/\tC ps k=false)/\((FW ps k n).1=true->(FW ps k n).2=n+wZ ps)
 |[],k,n,h=>by simp[FW,wZ,tC,h]
 |p::ps,k,n,h=>by
  obtain⟨c,d⟩:=Jv p k n h;have j:=sR ps;simp only[FW,wZ,tC];cases e:wY p k n with
  |mk r f=>
   rw[e]at c d;cases r with
   |false=>
    grind
   |true=>
    have g:=d rfl;have c:=c.1 rfl;simp only at g;obtain⟨o,t⟩:=Vo ps k f aC
    grind
end
theorem G8(q:Query):(wY q 8 0).1=uT q:=by
 have c:=(Jv q 8 0 aC).1;have d:=RT q 0 aC;rw[Bool.eq_iff_iff,c];simp only[uT,cz,dc,Bool.not_eq_true']
 grind
def JK:Code->Option (Code×Code)
 |.rangeFunc _ _ a b=>some (a,b)
 |.seq x y=>match JK x with|some p=>some p|none=>JK y
 |.block _ c=>JK c
 |_=>none
noncomputable def rfA:Code:=match JK (cM Tryz.f57)with|some p=>p.1|none=>.skip
noncomputable def rfB:Code:=match JK (cM Tryz.f57)with|some p=>p.2|none=>.skip
structure LR where
 fn:FuncId
 tmps:Array Value
 bn:Nat
 b6:Nat
 b7:Nat
 D:Nat
noncomputable def qG(R:LR)(st:LoopState)(c:Option Code):Loop:={state:=st,pending:=c,fn:=R.fn,tmps:=R.tmps,params:= #[37,38],assign:=rfA,body:=rfB,defers:=R.D}
def IJ:Obj:=.cells #[.slice none 0 0] 33 (0,0)
def GR(n:Int):Obj:=.cells #[.int .i64 n] 54 (0,0)
structure Ae(m:MH)(l:Nat)(R:LR)(n:Int):Prop where
 loop:m l=some (.loop (qG R .ready none))
 n_:m R.bn=some (tD n)
 k_:m R.b6=some IJ
 e_:m R.b7=some (GR 0)
 size:R.tmps.size=53
 t11:R.tmps[11]? =some (.pointer (some ⟨R.bn,0,none⟩))
 t6:R.tmps[6]? =some (.pointer (some ⟨R.b6,0,none⟩))
 t7:R.tmps[7]? =some (.pointer (some ⟨R.b7,0,none⟩))
structure AY(m m':MH)(l:Nat)(R:LR):Prop where
 loop:m' l=some (.loop (qG R .done (some .ret)))
 k_:m' R.b6=some IJ
 e_:m' R.b7=some (GR 2)
 n_:∃x,m' R.bn=some x
 other:∀b,b≠l->b≠R.bn->b≠R.b6->b≠R.b7->m' b=m b
theorem Ae.ne{l:Nat}{R:LR}{n:Int}(x:Ae m l R n):l≠R.bn/\l≠R.b6/\l≠R.b7/\R.b6≠R.bn/\R.b7≠R.bn/\R.b6≠R.b7:=by
 have c:=x.loop;have g:=x.n_;have d:=x.k_;have f:=x.e_;refine⟨λe=>?_,λe=>?_,λe=>?_,λe=>?_,λe=>?_,λe=>?_⟩
 .rw[e,g]at c;cases c
 .rw[e,d]at c;cases c
 .rw[e,f]at c;cases c
 .rw[e,g]at d;cases d
 .rw[e,g]at f;cases f
 .rw[e,f]at d;cases d
theorem Ae.next{l:Nat}{R:LR}{n d:Int}(x:Ae m l R n)(c:iD m m' R.bn (tD d)):Ae m' l R d:=by
 obtain⟨e,j,o,f,g,t⟩:=x.ne;exact⟨by rw[c.other l e];exact x.loop,c.at_,by rw[c.other _ f];exact x.k_,by rw[c.other _ g];exact x.e_,x.size,x.t11,x.t6,x.t7⟩
theorem AY.from{c:MH}{l:Nat}{R:LR}{e:Int}(f:iD m c R.bn (tD e))(h:AY c m' l R):AY m m' l R:=
 ⟨h.loop,h.k_,h.e_,h.n_,λb g d j n=>(h.other b g d j n).trans (f.other b d)⟩
def yv(l:Nat):CV:=.val (.func (.yield l) #[] #[])
def YS:Vc.Spec:=λd m h K=>∃l c v R n,d=[yv l,cI c,aQ v]/\Ae m l R n/\0<=n/\n<=24/\
 (∀m',(24<n+1\/8<c)->AY m m' l R->K (cB false) m' h)/\(∀m',¬(24<n+1\/8<c)->iD m m' R.bn (tD (n+1))->K (cB true) m' h)
def ahX(N:Nat):Vc.Spec:=λc m h K=>∃v q,∃k l:Nat,∃R n,c=[aQ v,cI (9-k),yv l]/\dZ h q v/\SizeOf.sizeOf q<N/\k<=9/\Ae m l R n/\0<=n/\n<=24/\
 (∀m',(wY q k n).1=false->AY m m' l R->K (cB false) m' h)/\(∀m',(wY q k n).1=true->iD m m' R.bn (tD (wY q k n).2)->K (cB true) m' h)
def afX(b:Nat):CV:=.val (.pointer (some ⟨b,0,none⟩))
def cDX:Vc.Spec:=λc m h K=>∃v q l d R,c=[yv l,afX d]/\m d=some (.cells ⟨v.enc⟩ 38 (0,0))/\dZ h q v/\Ae m l R 0/\
 (∀m',(wY q 8 0).1=false->AY m m' l R->K (.tup []) m' h)/\(∀m',(wY q 8 0).1=true->iD m m' R.bn (tD (wY q 8 0).2)->K (.tup []) m' h)
def TX:Vc.Spec:=λc m h K=>∃v,c=[aQ v]/\∀b m',lZ m h b->iD m m' b (.cells ⟨v.enc⟩ 38 (0,0))->K (.val (.func (.func 172) #[] #[.pointer (some ⟨b,0,none⟩)])) m' h
noncomputable def brJ(N:Nat)(v:QV)(k l:Nat)(h:PH):Ctx:=
 {cT [(173,ahX N)] [(4,{A:=Nat×MH,st:=λ⟨i,m⟩=>bO 28 31 [(1,iv (9-k)),(2,vv (.func (.yield l) #[] #[])),(15,sv v.args),(16,iv v.args.len),(17,iv i)] [] m h})] [] [] false with yield:=some YS}
noncomputable abbrev EX(a:Nat):CV:=CV.val (Value.func (Fn.yield a) Cm Cm)
attribute [push_cast] EX
def S5(N:Nat)(v:QV)(k l:Nat)(m:MH)(h:PH)(K:dk):Prop:=
  QO Proofs.Tryz.prog YS/\RV (λj t=>∃(B:QV)(R:LR)(n:Int),aA (EX l::fO (tN k) (hX v)=EX j::fO t (hX B)) (Ae m j R n) (aA (bY n) (n<=24) ((∀(d:MH),24<n+1\/8<t->AY m d j R->K aX d h)/\∀(d:MH),uW (24<n+1\/8<t)->gP m d R.bn (bQ (n+1)) 3->∃(I:Nat×MH->Prop)(z:Nat×MH->Nat),(∃(x:Nat×MH),aA (I x) (iF (tN k)) (aA (eQ (SV.at (At.val (Value.func (Fn.yield l) Cm Cm)))) (aH v.args) (aA (uF v) (aZ x.1) (aA (d=x.2) (h=h) True))))/\∀(x:Nat×MH),I x->aW (↑x.1:Int) (aF v.args) (aJ (λb o=>aI (aK v.args.a b o) (0<=(↑x.1:Int)) ((↑x.1:Int)<aF v.args) (∃(y:QV),aR x.2 h b (bE o x.1 21) y.enc/\qR (λA q=>aJ (λe u=>∃(R1:LR)(c:Int),aA
 (cV y.enc (fO (bF (tN k+1)) (EX l))=cV A.enc (fO (tN e) (EX u))) (dZ h q A) (aA (sB q N) (e<=9) (aA (Ae x.2 u R1 c) (bY c) (aA (c<=24) (∀(f:MH),H8 (wY q e c).1->AY x.2 f u R1->K aX f h) (∀(f:MH),eZ (wY q e c).1->gP x.2 f R1.bn (bQ (wY q e c).2) 3->∃(g:Nat×MH),aA (I g) (z g<z x) (aA (iF (tN k)) (eQ (SV.at (At.val (Value.func (Fn.yield l) Cm Cm)))) (aA (aH v.args) (aY v.args) (aA (eR (bF ((↑x.1:Int)+1))=bL g.1) (f=g.2) (bR h h))))))))))))) (K dR x.2 h))))
def aYX(N:Nat)(l e:Nat)(m:MH)(h:PH)(K:dk):Prop:=
  ∃(y:QV),aR m h e 0 y.enc/\qR (λv q=>aJ (λk d=>∃(R:LR)(n:Int),aA (cV y.enc (fO 1 (EX l))=cV v.enc (fO (tN k) (EX d))) (dZ h q v) (aA (sB q N) (k<=9) (aA (Ae m d R n) (bY n) (aA (n<=24) (∀(c:MH),H8 (wY q k n).1->AY m c d R->K (CV.tup []) c h) (∀(c:MH),eZ (wY q k n).1->gP m c R.bn (bQ (wY q k n).2) 3->K (CV.tup []) c h))))))
noncomputable abbrev xQ(a:Nat):dj:=kH (vQp a 0)
attribute [push_cast] xQ
def bgJ(v:QV)(m:MH)(h:PH)(K:dk):Prop:=
  mE m h (λb c=>gP m c b v.enc 38) (λb c=>K (Cn 172 (Array.mk (xQ b))) c h)
theorem W7(T:QO Tryz.prog YS):∀N,di 173 (ahX N)
 |0=>by
  refine eA (fn:=Tryz.f173) (c:=cM Tryz.f173) func173 rfl bz ?_;rintro G m h K ⟨v,q,k,l,R,n,rfl,_,V,_⟩;omega
 |N+1=>by
  refine fU func173 ?_;rintro G m h K ⟨v,q,k,l,R,n,rfl,W,V,hk,U,X,Y,H,I⟩;refine⟨brJ N v k l h,rfl,aE (W7 T N) aG,S5 N v k l m h K,bu,?_⟩;dsimp only[S5,push_cast];have d:=W.args;have z:=d.slen;have hl:=d.len;refine⟨T,l,9-k,v,R,n,rfl,U,X,Y,λm' J t=>H m' ?_ t,λm' J Z=>?_⟩
  .cases q;simp only[wY];grind
  have J:¬(24<n+1\/8<9-(k:Int)):=J;have L:iD m m' R.bn (tD (n+1)):=Z;have hv:wY q k n=FW q.args (k-1) (n+1):=by cases q;simp only[wY,Query.args];grind
  rw[hv]at H I;refine⟨λ⟨i,E⟩=>∃g,i<=q.args.length/\0<=g/\g<=24/\iD m E R.bn (tD g)/\FW (q.args.drop i) (k-1) g=FW q.args (k-1) (n+1),λ⟨i,_⟩=>q.args.length-i,⟨(0,m'),⟨n+1,aC,aC,aC,L,bx⟩,MT⟩,?_⟩;rintro⟨i,E⟩ ⟨g,hi,M,A,j,B⟩;dsimp only;refine aD (λC=>?_) (λa'=>?_)
  .obtain⟨p,O⟩:=dO z C;obtain⟨b,o,u,ea,P,Q⟩:=d.at O;have hd:=drop_cons O;rw[hd,FW]at B;refine⟨b,o,ea,aC,C,u,.imm P,u,p,k-1,l,R,g,?_,Q,?_,aC,U.next j,M,A,λF y t=>?_,λF y S=>?_⟩
   .rw[dL aC aC,show(9-((k-1:Nat):Int))=9-(k:Int)+1 by omega]
   .have:=vF (cr O);omega
   .refine H F ?_ (t.from j)
    grind
   .have f:iD E F R.bn (tD (wY p (k-1) g).2):=S;have t:=Jv p (k-1) g A;have a0:=t.1.1 y;have D:=t.2 y;have a1:=NP p;cases e:wY p (k-1) g with
    |mk r x=>
     rw[e]at y B D f;simp only at y D f;subst y;exact⟨(i+1,F),⟨x,aC,aC,aC,j.trans f,B⟩,aC,MT⟩
  .rw[drop_of_length_le aC,FW]at B;rw[<-B]at I;exact I E rfl j
theorem ZG(c:QO Tryz.prog YS):di 172 cDX:=by
 refine fU func172 ?_;rintro d m h K ⟨v,q,l,e,R,rfl,f,g,j,n,o⟩;refine⟨cT [(173,ahX (SizeOf.sizeOf q+1))] [] [] [] false,rfl,aE (W7 c _) aG,aYX (SizeOf.sizeOf q+1) l e m h K,bu,?_⟩;exact⟨v,.of_m f rfl,v,q,8,l,R,0,rfl,g,aC,aC,j,aC,aC,n,o⟩
theorem aOZ:di 97 TX:=by
 refine fU func97 ?_;rintro c m h K ⟨v,rfl,d⟩;refine⟨cT [] [] [] [] false,rfl,aG,bgJ v m h K,bu,?_⟩;exact d
end Go.Ps
