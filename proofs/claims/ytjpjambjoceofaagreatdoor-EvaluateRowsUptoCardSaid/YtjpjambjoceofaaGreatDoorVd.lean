/- Own work. -/
import Derived.Test.YtjpjambjoceofaaGreatDoorVc
set_option linter.unusedVariables false
set_option linter.unusedSimpArgs false
namespace Go.Ps
open Go Go.Vc Go.Proofs List Tryz
variable{K:dk}{m:MH}{h:PH}{s:oL}{ps:dm}{cb:Nat}{sc:bW}{v:QV}{q:Query}{p:Pred}{l:dm}{i:Nat}{N:Nat}{m':MH}{h':PH}{co:dm}{gr:dm}{od:dr}{w:Pred}{ta:Int}{li:Int}{xs:List dj}{sz:Nat}{ks:List dm}{rs:dm}{r:Sl}{a:dm}{b:Nat}
def bI(h:PH)(s:Sl)(l:dn):Prop:=aZ h 3 VV.enc Eq s l
theorem bI.mono{s:Sl}{l:dn}(x:bI h s l)(le:PH.le h h'):bI h' s l:=aZ.mono x le λ_ _ e=>e
def gW(ps:dn)(o:OV):OV:=if o.kind=2/\0<=o.index/\o.index<ps.length then⟨3,0,ps.getD o.index.toNat zeroV⟩else o
mutual
def ED(ps:dn):Pred->Pred
 |.mk op c l r args=>.mk op c (gW ps l) (gW ps r) (FE ps args)
def FE(ps:dn):dx->dx
 |[]=>[]
 |p::r=>ED ps p::FE ps r
end
theorem OQ(ps:dn):∀l,FE ps l=l.map (ED ps)
 |[]=>by simp[FE]
 |p::r=>by simp[FE,OQ ps r]
theorem atZ(o:OV):gW [] o=o:=by unfold gW;grind
mutual
theorem K8:∀p,ED [] p=p
 |.mk op c l r args=>by simp only[ED,atZ,OP args]
theorem OP:∀l,FE [] l=l
 |[]=>by simp[FE]
 |p::r=>by simp only[FE,K8 p,OP r]
end
def oM:QV:=⟨0,0,hZ,⟨none,0,0⟩,⟨none,0,0⟩,⟨none,0,0⟩,⟨none,0,0⟩,0,⟨none,0,0⟩⟩
def bdJ:Vc.Spec:=λc m h K=>∃o s ps,c=[aO o,cS s]/\bI h s ps/\K (aO (gW ps o)) m h
def bIX(N:Nat):Vc.Spec:=λc m h K=>∃v s p ps,c=[aP v,cS s]/\eA h p v/\bI h s ps/\SizeOf.sizeOf p<N/\∀d h',PH.le h h'->eA h' (ED ps p) d->K (aP d) m h'
def beZ:Vc.Spec:=λc m h K=>∃v s p ps,c=[aP v,cS s]/\eA h p v/\bI h s ps/\∀d h',PH.le h h'->eA h' (ED ps p) d->K (aP d) m h'
def bbJ(N:Nat):Vc.Spec:=λc m h K=>∃v q,c=[aQ v]/\bR h q v/\SizeOf.sizeOf q<N/\∀d h',PH.le h h'->bR h' q d->K (aQ d) m h'
def bcX:Vc.Spec:=λc m h K=>∃v q,c=[aQ v]/\bR h q v/\∀d h',PH.le h h'->bR h' q d->K (aQ d) m h'
noncomputable def bmQ(N:Nat)(v:PV)(s:Sl)(m:MH)(h:PH):Ctx:=
 dG [(96,bIX N),(171,bdJ)] [(3,{A:=Nat×OV×OV×fc×PH,st:=λ⟨i,l,r,c,h⟩=>bK 40 42 [(1,sv s),(2,.at (.ptr 2 0)),(4,.at (.ptr 4 0)),(5,.at (.ptr 5 0)),(22,iv v.args.len),(23,iv i)] [(2,.cells 32 (v.enc.map .val)),(4,.cells 32 (hZ.enc.map .val)),(5,.cells 32 (([Value.int .i64 v.op,Value.int .i64 v.cmp]++l.enc++r.enc).map .val++[.lst 36])),(36,.lst 32 13 (c.map PV.enc))] m h})] [(2,{A:=OV×OV,st:=λ⟨l,r⟩=>bK 40 42 [(1,sv s),(2,.at (.ptr 2 0)),(4,.at (.ptr 4 0)),(5,.at (.ptr 5 0))] [(2,.cells 32 (v.enc.map .val)),(4,.cells 32 (hZ.enc.map .val)),(5,.cells 32 (([Value.int .i64 v.op,Value.int .i64 v.cmp]++l.enc++r.enc++[Value.slice none 0 0]).map .val))] m h})] [] false
noncomputable def bpJ(N:Nat)(v:QV)(co:dm)(on:dp)(gr:dm)(od:dr)(m:MH):Ctx:=
 dG [(96,beZ),(49,bbJ N)] [(9,{A:=Nat×PV×eu×PH,st:=λ⟨i,w,c,h⟩=>bK 46 47 [(1,.at (.ptr 1 0)),(2,.at (.ptr 2 0)),(3,.at (.ptr 3 0)),(29,iv v.args.len),(30,iv i)] [(1,.cells 38 (v.enc.map .val)),(2,.cells 38 (oM.enc.map .val)),(3,.cells 38 (([Value.int .i64 v.op,Value.int .i64 v.table]++w.enc).map .val++[.lst 12,.lst 16,.lst 20,.lst 24,.val (.int .i64 v.limit),.lst 42])),(12,.lst 3 1 (co.map eI)),(16,.lst 101 2 (on.map mJ)),(20,.lst 3 1 (gr.map eI)),(24,.lst 103 2 (od.map pO)),(42,.lst 38 21 (c.map QV.enc))] m h})] [] [] false
def Rf(o:OV)(s:Sl)(m:MH)(h:PH)(K:dk):Prop:=
  dJ o.kind 2 (fY o.index 0 (aR o.index (aH s) (bT (λb c=>aA (bX s.a b c) (0<=o.index) (o.index<aH s/\∃(y:VV),aK m h b (cF c o.index 3) y.enc/\K (pN (a8 (fB 3) eH (a8 (fB y.kind) (fB y.int) (yW y.text)))) m h))) (K (pN o.enc) m h)) (K (pN o.enc) m h)) (K (pN o.enc) m h)
abbrev pL(a:Sl->dn->Prop):Prop:=∃(x:Sl)(c:dn),a x c
abbrev uW(a:OV->Sl->dn->Prop):Prop:=∃(x:OV),pL (λc d=>a x c d)
noncomputable abbrev wK(a:OV)(b:Sl):ei:=bJ (pN a.enc) (fD b)
abbrev mP:Prop:=eQ (oQ 32 zP)
abbrev BP(a b:dz):Prop:=oQ 32 a=oQ 32 b
noncomputable abbrev p7(a b:Int)(c d:At)(e:dz):dz:=eO (iG a) (iG b) (eO c d e)
noncomputable abbrev DI(a b c d:Value)(e:dz):dz:=eO (At.val a) (At.val b) (eO (At.val c) (At.val d) e)
noncomputable abbrev AP:dz:=vH LV
noncomputable abbrev mU(a:OV):At:=iG a.index
noncomputable abbrev mR(a:OV):At:=Ta a.value.text
noncomputable abbrev nM(a:Nat×OV×OV×fc×PH):OV:=a.2.1
noncomputable abbrev nN(a:Nat×OV×OV×fc×PH):OV:=a.2.2.1
noncomputable abbrev DJ(a:Nat×OV×OV×fc×PH):List dj:=List.map PV.enc a.2.2.2.1
noncomputable abbrev BT(a:Nat×OV×OV×fc×PH):Nat->Nat->Option Value:=a.2.2.2.2
abbrev D3(a:PV->Sl->Pred->dn->Prop):Prop:=∃(x:PV)(c:Sl)(d:Pred)(e:dn),a x c d e
attribute [push_cast] pL uW wK mP BP p7 DI AP mU mR nM nN DJ BT D3
def UH(N:Nat)(v:PV)(s:Sl)(m:MH)(h:PH)(K:dk):Prop:=
  ∃(I:OV×OV->Prop),(uW (λo g p=>aA (wK v.left s=wK o g) (bI h g p) (uW (λe j d=>aA (wK v.right s=wK e j) (bI h j d) (∃(x:OV×OV),aA (I x) (aG s) (aA dX eV (aA dC (iU v) (aA mP (BP (p7 v.op v.cmp (At.val (qZ (gW p o))) (At.val (rA (gW p o))) (DI (kM (gW p o)) (lZ (gW p o)) (kZ (gW p o)) (qZ (gW d e)) (DI (rA (gW d e)) (kM (gW d e)) (lZ (gW d e)) (kZ (gW d e)) AP))) (eO (iG v.op) (iG v.cmp) (eO (iG x.1.kind) (mU x.1) (p7 (lG x.1) (rR x.1) (mR x.1) (iG x.2.kind) (eO (mU x.2) (iG (lG x.2)) (eO (iG (rR x.2)) (mR x.2) AP)))))) (bE (m=m) h h))))))/\uW (λe j d=>aA (wK v.right s=wK e j) (bI h j d) (∃(x:
 OV×OV),aA (I x) (aG s) (aA dX eV (aA dC (iU v) (aA mP (BP (p7 v.op v.cmp (At.val (qZ (gW p o))) (At.val (rA (gW p o))) (DI (kM (gW p o)) (lZ (gW p o)) (kZ (gW p o)) (qZ (gW d e)) (DI (rA (gW d e)) (kM (gW d e)) (lZ (gW d e)) (kZ (gW d e)) AP))) (eO (iG v.op) (iG v.cmp) (eO (iG x.1.kind) (mU x.1) (p7 (lG x.1) (rR x.1) (mR x.1) (iG x.2.kind) (eO (mU x.2) (iG (lG x.2)) (eO (iG (rR x.2)) (mR x.2) AP)))))) (bE (m=m) h h))))))))/\uW (λo g p=>aA (wK v.left s=wK o g) (bI h g p) (uW (λe j d=>aA (wK v.right s=wK e j) (bI h j d) (∃(x:OV×OV),aA (I x) (aG s) (aA dX eV (aA dC (iU v) (aA mP (BP (p7 v.op
 v.cmp (At.val (qZ (gW p o))) (At.val (rA (gW p o))) (DI (kM (gW p o)) (lZ (gW p o)) (kZ (gW p o)) (qZ (gW d e)) (DI (rA (gW d e)) (kM (gW d e)) (lZ (gW d e)) (kZ (gW d e)) AP))) (eO (iG v.op) (iG v.cmp) (eO (iG x.1.kind) (mU x.1) (p7 (lG x.1) (rR x.1) (mR x.1) (iG x.2.kind) (eO (mU x.2) (iG (lG x.2)) (eO (iG (rR x.2)) (mR x.2) AP)))))) (bE (m=m) h h)))))))))/\∀(x:OV×OV),I x->∃(I1:Nat×OV×OV×fc×PH->Prop)(t:Nat×OV×OV×fc×PH->Nat),(∃(c:Nat×OV×OV×fc×PH),aA (I1 c) (aG s) (aA dX eV (aA dC (rO v) (aA (aY c.1) (iU v) (aA mP (BP (eO (iG v.op) (iG v.cmp) (eO (iG x.1.kind) (mU x.1) (p7 (lG x.1) (rR x.1) (mR x.1) (iG
 x.2.kind) (eO (mU x.2) (iG (lG x.2)) (eO (iG (rR x.2)) (mR x.2) (vH (At.lst 36))))))) (eO (iG v.op) (iG v.cmp) (eO (iG (nM c).kind) (mU (nM c)) (p7 (lG (nM c)) (rR (nM c)) (mR (nM c)) (iG (nN c).kind) (eO (mU (nN c)) (iG (lG (nN c))) (eO (iG (rR (nN c))) (mR (nN c)) (vH (At.lst 36)))))))) (aA (kN 32 13 (cD 32 13 (DJ c))) (m=m) (bH h (BT c))))))))/\∀(c:Nat×OV×OV×fc×PH),I1 c->aR (↑c.1:Int) (aH v.args) (bT (λb o=>aA (bX v.args.a b o) (0<=(↑c.1:Int)) ((↑c.1:Int)<aH v.args/\∃(y:PV),aK m (BT c) b (bC o c.1 13) y.enc/\D3 (λu g p d=>aA (bJ (dM y) (fD s)=bJ (dM u) (fD g)) (eA (BT c) p u) (aA (bI (BT c) g d) (rU p
 N) (∀(z:PV)(n:PH),dD (BT c) n (eA n (ED d p) z) (aA (aK m n b (bC o c.1 13) y.enc) (bB n b (bC o c.1 13) y.enc) (aA (gS (jX (DJ c) 1*136)) (dH (DJ c)) (∃(f:Nat×OV×OV×fc×PH),aA (I1 f) (t f<t c) (aA (aG s) dX (aA eV dC (aA (rO v) (aU (aW c.1 1) f.1) (aA (iU v) mP (aA (BP (eO (iG v.op) (iG v.cmp) (eO (iG (nM c).kind) (mU (nM c)) (p7 (lG (nM c)) (rR (nM c)) (mR (nM c)) (iG (nN c).kind) (eO (mU (nN c)) (iG (lG (nN c))) (eO (iG (rR (nN c))) (mR (nN c)) (vH (At.lst 36))))))) (eO (iG v.op) (iG v.cmp) (eO (iG (nM f).kind) (mU (nM f)) (p7 (lG (nM f)) (rR (nM f)) (mR (nM f)) (iG (nN f).kind) (eO
 (mU (nN f)) (iG (lG (nN f))) (eO (iG (rR (nN f))) (mR (nN f)) (vH (At.lst 36)))))))) (cD 32 13 (dY (DJ c) z.enc)=cD 32 13 (DJ f)) (bE (m=m) n (BT f)))))))))))))))) (bU (BT c) 13 (DJ c) (λg n=>K (pN (a8 (fB v.op) (fB v.cmp) (a8 (qZ (nM c)) (rA (nM c)) (a8 (kM (nM c)) (lZ (nM c)) (a8 (kZ (nM c)) (qZ (nN c)) (a8 (rA (nN c)) (kM (nN c)) (a8 (lZ (nN c)) (kZ (nN c)) (aM g)))))))) m n))
abbrev fM:Prop:=eQ (oQ 38 zQ)
noncomputable abbrev It(a:QV)(b:PV):dz:=eO (iG a.op) (tF a) (pQ b (eO (At.lst 12) (At.lst 16) (eO (At.lst 20) (At.lst 24) (mO (xN a) (At.lst 42)))))
noncomputable abbrev nB(a:Nat×PV×eu×PH):PV:=a.2.1
abbrev uB(a:List dj)(b:dm):Prop:=cD 3 1 a=J7 b
noncomputable abbrev Kb(a:dp):List dj:=List.map mJ a
noncomputable abbrev NM(a:dr):List dj:=List.map pO a
noncomputable abbrev DK(a:Nat×PV×eu×PH):List dj:=List.map QV.enc a.2.2.1
noncomputable abbrev rF(a:PV):Value:=qZ a.left
noncomputable abbrev rG(a:PV):Value:=rA a.left
noncomputable abbrev qA(a:PV):Value:=lZ a.left
noncomputable abbrev uP(a:PV):Value:=kZ a.left
noncomputable abbrev z7(a:PV):Value:=qZ a.right
noncomputable abbrev Bm(a:PV):Value:=rA a.right
noncomputable abbrev Bn(a:PV):Value:=kM a.right
noncomputable abbrev Bo(a:PV):Value:=lZ a.right
noncomputable abbrev Bp(a:PV):Value:=kZ a.right
attribute [push_cast] fM It nB uB Kb NM DK rF rG qA uP z7 Bm Bn Bo Bp
def Og(N:Nat)(v:QV)(co:dm)(on:dp)(gr:dm)(od:dr)(m:MH)(h:PH)(K:dk):Prop:=
  D3 (λt s p u=>aA (bJ (dM v.where_) nK=bJ (dM t) (fD s)) (eA h p t) (bI h s u/\∀(z:PV)(c:PH),dD h c (eA c (ED u p) z) (∃(y:List dj),aA (cT 1 y) (bN c (bD v.columns) 1 y) (aA (wT y 8) (wU y) (∃(f:List dj),aA (cT 2 f) (bN c (bD v.on) 2 f) (aA (wT f 16) (wU f) (∃(g:List dj),aA (cT 1 g) (bN c (bD v.group) 1 g) (aA (wT g 8) (wU g) (∃(j:List dj),aA (cT 2 j) (bN c (bD v.order) 2 j) (aA (wT j 16) (wU j) (∃(I:Nat×PV×eu×PH->Prop)(A:Nat×PV×eu×PH->Nat),(∃(x:Nat×PV×eu×PH),aA (I x) eY (aA dX cA (aA (rP v) (aY x.1) (aA (cG v) fM (aA (oQ 38 (It v z)=oQ 38 (It v (nB x)))
 (uB y co) (aA (cD 101 2 f=cD 101 2 (Kb on)) (uB g gr) (aA (cD 103 2 j=cD 103 2 (NM od)) (kN 38 21 (cD 38 21 (DK x))) (aA (m=m) (c=x.2.2.2) True))))))))/\∀(x:Nat×PV×eu×PH),I x->aR (↑x.1:Int) (aH v.args) (bT (λb o=>aA (bX v.args.a b o) (0<=(↑x.1:Int)) ((↑x.1:Int)<aH v.args/\∃(n:QV),aK m x.2.2.2 b (bC o x.1 21) n.enc/\jD (λB q=>aA (uK n B) (bR x.2.2.2 q B) (lX q N/\∀(C:QV)(d:PH),dD x.2.2.2 d (bR d q C) (aA (aK m d b (bC o x.1 21) n.enc) (bB d b (bC o x.1 21) n.enc) (aA (gS (jX (DK x) 1*280)) (dH (DK x)) (∃(e:Nat×PV×eu×PH),aA (I e) (A e<A x) (aA eY dX (aA cA (rP v) (aA (aU (aW x.1 1) e.1) (cG v) (aA fM (oQ 38 (It v
 (nB x))=oQ 38 (It v (nB e))) (aA (eQ (J7 co)) (eQ (cD 101 2 (Kb on))) (aA (eQ (J7 gr)) (eQ (cD 103 2 (NM od))) (aA (cD 38 21 (dY (DK x) C.enc)=cD 38 21 (DK e)) (m=m) (bH d e.2.2.2)))))))))))))))) (bU x.2.2.2 1 (fH co) (λD d=>bU d 2 (Kb on) (λE F=>bU F 1 (fH gr) (λG H=>bU H 2 (NM od) (λJ L=>bU L 21 (DK x) (λM O=>K (pN (a8 (fB v.op) (fB v.table) (a8 (fB (nB x).op) (fB (nB x).cmp) (a8 (rF (nB x)) (rG (nB x)) (a8 (fB (lG (nB x).left)) (qA (nB x)) (a8 (uP (nB x)) (z7 (nB x)) (a8 (Bm (nB x)) (Bn (nB x)) (a8 (Bo (nB x)) (Bp (nB x)) (a8 (fF (nB x).args) (fF D) (a8 (fF E) (fF G) (a8 (fF J) (fB
 v.limit) (aM M)))))))))))) m O)))))))))))))))))
theorem X1:di 171 bdJ:=by
 refine gO func171 ?_;rintro n m h K ⟨o,s,ps,rfl,f,c⟩;refine⟨dG [] [] [] [] false,rfl,aF,Rf o s m h K,bu,?_⟩;dsimp only[Rf,push_cast];have u:=aZ.slen f;unfold gW at c;refine aB (λd=>aE (λg=>aE (λj=>?_) (λj=>?_)) (λg=>?_)) (λd=>?_)
 .have d:o.kind=2:=cg
  rw[if_pos ⟨d,g,aC⟩]at c
  have t:ps[o.index.toNat]? =some (ps.getD o.index.toNat zeroV):=by
   grind
  obtain⟨b,off,v,e,r,rfl⟩:=aZ.at f t;exact⟨b,off,e,aC,j,_,.imm r,c⟩
 .rw[if_neg (λe=>by omega)]at c;exact c
 .rw[if_neg (λe=>by omega)]at c;exact c
 .have d:o.kind≠2:=cg
  rw[if_neg (λe=>d e.1)]at c;exact c
theorem PO{α β:Type}{ps:List α}{us:List β}{i:Nat}{R R':α->β->Prop}{q:α}{v:β}(e:i<=ps.length)(c:us.length=i)(f:ps[i]? =some q)(d:∀(j:Nat) x,(ps.take i)[j]? =some x->∃u,us[j]? =some u/\R x u)(g:∀x u,R x u->R' x u)(n:R' q v):
 ∀(j:Nat) x,(ps.take (i+1))[j]? =some x->∃u,(us++[v])[j]? =some u/\R' x u:=by
 grind
theorem Zf:∀N,di 96 (bIX N)
 |0=>by
  refine eC (fn:=Tryz.f96) (c:=cL Tryz.f96) func96 rfl bz ?_;rintro B m h K ⟨v,s,p,ps,rfl,_,_,O,_⟩;omega
 |N+1=>by
  refine gO func96 ?_;rintro B m h K ⟨v,s,p,ps,rfl,P,C,O,I⟩;refine⟨bmQ N v s m h,rfl,aD (Zf N) (aD X1 aF),UH N v s m h K,bu,?_⟩;dsimp only[UH,push_cast];have g:=@xA p;obtain⟨op,Q,l,r,qs⟩:=p;obtain⟨rfl,rfl,rfl,rfl,D⟩:=P.parts;have R:=D.slen;have J:=D.len;simp only[Pred.args]at g;simp only[ED,OQ]at I;refine⟨λx=>x=(gW ps v.left,gW ps v.right),?_,?_⟩
  .repeat' (first|exact⟨(gW ps v.left,gW ps v.right),rfl,MT⟩|refine⟨v.left,s,ps,rfl,C,?_⟩|refine⟨v.right,s,ps,rfl,C,?_⟩|apply And.intro)
  rintro _ rfl;dsimp only;refine⟨λ⟨i,l,r,o,f⟩=>l=gW ps v.left/\r=gW ps v.right/\i<=qs.length/\PH.le h f/\o.length=i/\∀(j:Nat) x,(qs.take i)[j]? =some x->∃u,o[j]? =some u/\eA f (ED ps x) u,λ⟨i,_,_,_,_⟩=>qs.length-i,⟨(0,gW ps v.left,gW ps v.right,[],h),⟨rfl,rfl,aC,.refl _,rfl,λj x f=>by simp at f⟩,MT⟩,?_⟩;rintro⟨i,_,_,o,f⟩ ⟨rfl,rfl,S,e,t,n⟩;dsimp only;refine aE (λz=>?_) (λT L h' d A=>I ⟨v.op,v.cmp,gW ps v.left,gW ps v.right,L⟩ h' (e.trans d) (eA.mk (v:=⟨v.op,v.cmp,gW ps v.left,gW ps v.right,L⟩) ⟨⟨o,A,ce,λj x f=>?_⟩,ce⟩))
  .obtain⟨q,M⟩:=eN R z;obtain⟨U,V,u,W,E,F⟩:=(D.mono e).at M;refine⟨U,V,W,aC,z,u,.imm E,u,s,q,ps,rfl,F,C.mono e,?_,λX h' d G=>⟨.imm (E.mono d),E.mono d,ce,ce,(i+1,gW ps v.left,gW ps v.right,o++[X],h'),⟨rfl,rfl,aC,e.trans d,by simp[t],PO (R':=λx u=>eA h' (ED ps x) u) S t M n (λ_ _ H=>H.mono d) G⟩,aC,?_⟩⟩
   .grind
   .rw[cv];exact MT
  .rw[cu aC]at n;rw[getElem?_map,Option.map_eq_some_iff]at f;obtain⟨y,Y,rfl⟩:=f;obtain⟨u,Z,H⟩:=n j y Y;exact⟨u,Z,H.mono d⟩
theorem Qa:di 96 beZ:=jE Zf λ_ _ _ _⟨v,s,p,ps,e,c,d,f⟩=>⟨SizeOf.sizeOf p+1,v,s,p,ps,e,c,d,aC,f⟩
theorem No(l:eu):cT 21 (l.map QV.enc):=by
 constructor
 .intro e c;obtain⟨x,_,rfl⟩:=mem_map.1 c;rfl
 .intro e c u d;obtain⟨x,_,rfl⟩:=mem_map.1 c;simp[QV.enc]at d;rcases d with rfl|rfl|rfl|rfl|rfl|rfl|rfl|rfl|rfl|rfl|rfl|rfl|rfl|rfl|rfl|rfl|rfl|rfl|rfl|rfl|rfl<;>rfl
theorem bPJ{op:Int}{on:dp}{args:dt}(x:qD h op ta w co on gr od li args v)(W:∀q∈args,SizeOf.sizeOf q<N)(X:∀H h',PH.le h h'->bR h' (.mk op ta w co on gr od li args) H->K (aQ H) m h'):Og N v co on gr od m h K:=by
 dsimp only[Og,push_cast];have Y:=x.args_.slen;have g:=x.args_.len;have Z:=x.columns_.len;have l2:=x.on_.len;have l3:=x.group_.len;have l4:=x.order_.len;refine⟨v.where_,⟨none,0,0⟩,w,[],rfl,x.where_,.nil _ _ _ _,λn M c O=>⟨_,pH co,(x.columns_.mono c).row,ce,ce,_,H7 on,(x.on_.mono c).row,ce,ce,_,pH gr,(x.group_.mono c).row,ce,ce,_,H6 od,(x.order_.mono c).row,ce,ce,?_⟩⟩;rw[K8]at O;refine⟨λ⟨i,w',o,t⟩=>w'=n/\i<=args.length/\PH.le M t/\o.length=i/\∀(j:Nat) q,(args.take i)[j]? =some q->∃u,o[j]? =some u/\bR t q u,λ⟨i,_,_,_⟩=>args.length-i,⟨(0,n,[],M),⟨rfl,aC,.refl _,rfl,λj x t=>by simp at t⟩,MT⟩,?_⟩;rintro⟨i,n,o,t⟩ ⟨rfl,hi,e,y,f⟩;dsimp only;refine aE (λz=>?_) (λa'=>?_)
 .obtain⟨q,A⟩:=eN Y z;obtain⟨b1,o1,u,I,B,J⟩:=(x.args_.mono (c.trans e)).at A;refine⟨b1,o1,I,aC,z,u,.imm B,u,q,rfl,J,W q (cr A),λH h' d L=>⟨.imm (B.mono d),B.mono d,ce,ce,(i+1,n,o++[H],h'),⟨rfl,aC,e.trans d,by simp[y],PO (R':=bR h') hi y A f (λ_ _ P=>P.mono d) L⟩,aC,?_⟩⟩;rw[cv];exact MT
 .rw[cu aC]at f;intro s1 P C B s2 h3 D r2 s3 h4 E r3 s4 h5 F r4 s5 h6 G r5;have Q:=G;have R:=F.trans Q;have S:=E.trans R;have T:=D.trans S;have U:=C.trans T;have V:=e.trans U
  exact X ⟨v.op,v.table,n,s1,s2,s3,s4,v.limit,s5⟩ h6 (c.trans V) (qD.rep ⟨x.op_,x.table_,O.mono V,⟨B.mono T,Z⟩,⟨r2.mono S,l2⟩,⟨r3.mono R,l3⟩,⟨r4.mono Q,l4⟩,x.limit_,⟨⟨o,r5,aC,λj q A=>by
   obtain⟨u,I,e2⟩:=f j q A;exact⟨u,I,e2.mono U⟩⟩,g⟩⟩)
theorem Zk:∀N,di 49 (bbJ N)
 |0=>by
  refine eC (fn:=Tryz.f49) (c:=cL Tryz.f49) func49 rfl bz ?_;rintro e m h K ⟨v,q,rfl,_,g,_⟩;omega
 |N+1=>by
  refine gO func49 ?_;rintro e m h K ⟨v,q,rfl,f,g,j⟩;have d:=@tQ q;obtain⟨op,ta,w,co,on,gr,od,li,args⟩:=q;refine⟨bpJ N v co on gr od m,rfl,aD Qa (aD (Zk N) aF),Og N v co on gr od m h K,bu,?_⟩;exact bPJ f.parts (λq f=>by have:=d (q:=q) f;omega) j
theorem Qf:di 49 bcX:=jE Zk λ_ _ _ _⟨v,q,e,c,d⟩=>⟨SizeOf.sizeOf q+1,v,q,e,c,aC,d⟩
mutual
def asZ:Pred->Nat
 |.mk _ _ _ _ args=>1+JB args
def JB:dx->Nat
 |[]=>0
 |p::ps=>asZ p+JB ps
end
mutual
def Yo:Pred->Nat
 |.mk _ _ _ _ args=>1+LM args
def LM:dx->Nat
 |[]=>0
 |p::ps=>max (Yo p) (LM ps)
end
mutual
theorem NG:∀(p:Pred)(n:Int),oR p n<=n+asZ p
 |.mk _ _ _ _ args,n=>by
  have:=Lx args (n+1);simp only[oR,asZ];omega
theorem Lx:∀(ps:dx)(n:Int),lF ps n<=n+JB ps
 |[],n=>by simp[lF,JB]
 |p::ps,n=>by
  have c:=NG p n;have d:=Lx ps (oR p n);simp only[lF,JB];omega
end
mutual
theorem LO:∀(p:Pred)(n:Nat),Yo p<=n->mN p n=false
 |.mk _ _ _ _ args,0,h=>by simp only[Yo]at h;omega
 |.mk _ _ _ _ args,n+1,h=>by
  simp only[Yo]at h;simp only[mN];exact Jy args n aC
theorem Jy:∀(ps:dx)(n:Nat),LM ps<=n->tX ps n=false
 |[],_,_=>rfl
 |p::ps,n,h=>by
  simp only[LM]at h;simp only[tX,LO p n aC,Jy ps n aC,Bool.or_false]
end
def gF:Nat->Nat
 |0=>1
 |d+1=>1+3*gF d
structure OX(d:Nat)(p:Pred):Prop where
 n:asZ p<=gF d
 d:Yo p<=d+1
theorem bOQ:∀d,1<=gF d
 |0=>Nat.le_refl _
 |d+1=>by rw[gF];omega
theorem OX.leaf(d:Nat){op c:Int}{a b:OV}:OX d (.mk op c a b []):=⟨by simp[asZ,JB,bOQ],by simp[Yo,LM]⟩
theorem OX.node{d:Nat}{op c:Int}{a b:OV}{ps:dx}(h:∀p∈ps,OX d p)(g:ps.length<=3):OX (d+1) (.mk op c a b ps):=by
 have j:∀l:dx,(∀p∈l,OX d p)->JB l<=l.length*gF d/\LM l<=d+1:=λl=>by
  induction l with
  |nil=>intro _;simp[JB,LM]
  |cons p l o=>
   intro f;have t:=o λx u=>f x (mem_cons_of_mem _ u);have e:=f p (mem_cons_self ..);have:=e.n;have:=e.d;simp only[JB,LM,de,Nat.add_mul,Nat.one_mul];omega
 have t:=j ps h;have e:ps.length*gF d<=3*gF d:=Nat.mul_le_mul_right _ g;exact⟨by simp only[asZ,gF];omega,by simp only[Yo];omega⟩
mutual
def nW:Query->Nat
 |.mk _ _ _ _ _ _ _ _ args=>1+qH args
def qH:dt->Nat
 |[]=>0
 |q::qs=>nW q+qH qs
end
mutual
def Ej:Query->Nat
 |.mk _ _ _ _ _ _ _ _ args=>1+EA args
def EA:dt->Nat
 |[]=>0
 |q::qs=>max (Ej q) (EA qs)
end
mutual
def mI(c:Nat):Query->Nat
 |.mk op _ _ _ _ _ _ _ args=>if op=1 then c else if op=4 then uS c args else xC c args
def xC(c:Nat):dt->Nat
 |[]=>0
 |q::qs=>mI c q+xC c qs
def uS(c:Nat):dt->Nat
 |[]=>1
 |q::qs=>mI c q*uS c qs
end
mutual
theorem ND:∀(p:Query)(n:Int),oP p n<=n+nW p/\(oP p n<=24->oP p n=n+nW p)
 |.mk _ _ _ _ _ _ _ _ args,n=>by
  have:=Lw args (n+1);simp only[oP,nW];omega
theorem Lw:∀(ps:dt)(n:Int),kT ps n<=n+qH ps/\(kT ps n<=24->kT ps n=n+qH ps)
 |[],n=>by simp[kT,qH]
 |p::ps,n=>by
  have c:=ND p n;have d:=Lw ps (oP p n);simp only[kT,qH];omega
end
theorem FL(h:uQ q=true):nW q<=24:=by
 simp only[uQ,cz,dc]at h;have:=(ND q 0).2 h.1;omega
mutual
def yZ:Query->Nat
 |.mk _ _ _ _ _ _ _ _ args=>max 1 (vL args)
def vL:dt->Nat
 |[]=>0
 |q::qs=>yZ q+vL qs
end
theorem Fh(q:Query):1<=yZ q:=by cases q;simp only[yZ];omega
theorem bNQ{a:Nat}(c:2<=a)(d:2<=b):a+b<=a*b:=by
 obtain⟨a,rfl⟩:=Nat.exists_eq_add_of_le c;obtain⟨b,rfl⟩:=Nat.exists_eq_add_of_le d;rw[Nat.add_mul,Nat.mul_add,Nat.mul_add];have:=Nat.zero_le (a*b);omega
mutual
theorem a2Q{c:Nat}(e:2<=c):∀q:Query,mI c q<=c^yZ q
 |.mk op _ _ _ _ _ _ _ args=>by
  have f:=Zx e args;have g:c^vL args<=c^max 1 (vL args):=Nat.pow_le_pow_right aC aC;have d:c^1<=c^max 1 (vL args):=Nat.pow_le_pow_right aC aC;simp only[mI,yZ];rw[Nat.pow_one]at d;split
  .exact d
  .split
   .omega
   .omega
theorem Zx{c:Nat}(f:2<=c):∀qs:dt,xC c qs<=c^vL qs/\uS c qs<=c^vL qs
 |[]=>by simp[xC,uS,vL]
 |q::qs=>by
  have e:=a2Q f q;have d:=Zx f qs;have g:c^1<=c^yZ q:=Nat.pow_le_pow_right aC (Fh q);rw[Nat.pow_one]at g;simp only[xC,uS,vL,Nat.pow_add];refine⟨?_,Nat.mul_le_mul e d.2⟩
  match qs,d with
  |[],_=>simp[xC,vL];exact e
  |p::ps,d=>
   have j:c^1<=c^vL (p::ps):=Nat.pow_le_pow_right aC (by have:=Fh p;simp only[vL];omega);rw[Nat.pow_one]at j;exact dg (Nat.add_le_add e d.1) (bNQ aC aC)
end
def gN:Nat->Nat
 |0=>3
 |d+1=>2+2*gN d
def gD:Nat->Nat
 |0=>3
 |d+1=>2+gD d
def gB:Nat->Nat
 |0=>4
 |d+1=>gB d*gB d
structure rJ(n d b:Nat)(q:Query):Prop where
 n:nW q<=n
 d:Ej q<=d
 b:4^yZ q<=b
def Ts(d:Nat)(q:Query):Prop:=rJ (gN d) (gD d) (gB d) q
def BF:Nat->Query->Prop
 |0,q=>rJ 1 1 4 q
 |d+1,q=>rJ (1+2*gN d) (1+gD d) (gB d*gB d) q
theorem rJ.mono{n d c e f:Nat}(x:rJ n d b q)(g:n<=c)(j:d<=e)(o:b<=f):rJ c e f q:=⟨dg x.n g,dg x.d j,dg x.b o⟩
theorem Ec:∀d,3<=gN d/\3<=gD d/\4<=gB d
 |0=>bz
 |d+1=>by
  obtain⟨e,f,c⟩:=Ec d;have:4*4<=gB d*gB d:=Nat.mul_le_mul c c;simp only[gN,gD,gB];omega
theorem BF.arg:∀{d:Nat}{q:Query},BF d q->Ts d q
 |0,_,x=>rJ.mono x bz bz bz
 |d+1,_,x=>rJ.mono x (by simp only[gN];omega) (by simp only[gD];omega) (by simp only[gB];omega)
theorem rJ.one{n d:Nat}(x:rJ n d b q)(e:4<=b){op:Int}{on:dp}:rJ (n+1) (d+1) b (.mk op ta w co on gr od li [q]):=by
 obtain⟨f,g,c⟩:=x;refine⟨by simp only[nW,qH];omega,by simp only[Ej,EA];omega,?_⟩;have:=Fh q;simp only[yZ,vL];rw[show max 1 (yZ q+0)=yZ q by omega];exact c
theorem rJ.two{n d e f c:Nat}{p:Query}(x:rJ n d b q)(y:rJ e f c p)(u:4<=b)(g:4<=c){op:Int}{on:dp}:rJ (1+n+e) (1+max d f) (b*c) (.mk op ta w co on gr od li [q,p]):=by
 obtain⟨z,A,j⟩:=x;obtain⟨B,C,o⟩:=y;have t:4^yZ q*4^yZ p<=b*c:=Nat.mul_le_mul j o;refine⟨by simp only[nW,qH];omega,by simp only[Ej,EA];omega,?_⟩;have:=Fh q;simp only[yZ,vL];rw[show max 1 (yZ q+(yZ p+0))=yZ q+yZ p by omega,Nat.pow_add];exact t
theorem rJ.scan{on:dp}:rJ 1 1 4 (.mk 1 ta w co on gr od li []):=⟨by simp[nW,qH],by simp[Ej,EA],by simp[yZ,vL]⟩
theorem BF.node{d:Nat}{op:Int}{on:dp}{args:dt}(h:∀a∈args,Ts d a)(e:args.length<=2):BF (d+1) (.mk op ta w co on gr od li args):=by
 have c:=(Ec d).2.2;have f:gB d*4<=gB d*gB d:=Nat.mul_le_mul_left _ c
 match args,h,e with
 |[],_,_=>exact⟨by simp only[nW,qH];omega,by simp only[Ej,EA];omega,by simp only[yZ,vL];show 4^1<=_;omega⟩
 |[q],h,_=>exact rJ.mono (rJ.one (h q bx) c) aC aC aC
 |[q,p],h,_=>exact rJ.mono (rJ.two (h q bx) (h p bx) c c) aC aC (Nat.le_refl _)
theorem BF.filter{d:Nat}(x:BF d q){op:Int}{on:dp}:Ts d (.mk op ta w co on gr od li [q]):=by
 cases d with
 |zero=>exact rJ.mono (rJ.one x bz) bz bz bz
 |succ d=>
  have c:=(Ec d).2.2;have e:gB d*4<=gB d*gB d:=Nat.mul_le_mul_left _ c;exact rJ.mono (rJ.one x aC) (by simp only[gN];omega) (by simp only[gD];omega) (by simp only[gB];omega)
theorem Ts.three(d:Nat)(x:rJ 3 3 4 q):Ts d q:=rJ.mono x (Ec d).1 (Ec d).2.1 (Ec d).2.2
theorem BF.mono{q:Query}:∀{d e:Nat},BF d q->d<=e->BF e q
 |d,0,x,h=>cg
 |d,e+1,x,h=>by
  by_cases c:d=e+1
  .grind
  .have y:=BF.arg (x.mono (e:=e) aC);have f:=(Ec e).2.2;have g:gB e*1<=gB e*gB e:=Nat.mul_le_mul_left _ aC;exact rJ.mono y aC aC aC
abbrev kW(a:MH)(b:PH)(c d:Nat)(e:Sl->Prop):Prop:=∃(x:Sl),aK a b c d (aM x)/\e x
noncomputable abbrev Ag(a:Int):Value:=Value.int IntKind.u8 a
abbrev kF(a:Prop):Prop:=a->False
attribute [push_cast] kW Ag kF
def Vu(cb:Nat)(n:Int)(m:MH)(h:PH)(K:dk):Prop:=
  sP m h cb 1 (λy=>kW m h cb 0 (λj=>fY y (aH j) (K (fQ 0) m h) (aR n 1 (K (fQ 0) m h) (sP m h cb 1 (λt=>gE (λc E=>aA (sK m cb (fC c E 0)) (fE 1 c) (∀(d:MH),bL m d cb (nR c 1 (cO (iJ (t+1)))) E->kW d h cb 0 (λf=>sP d h cb 1 (λe=>bT (λb o=>aA (bX f.a b o) (0<=iJ (e-1)) (iJ (e-1)<aH f/\∃(g:UInt8),aA (aK d h b (cF o (iJ (e-1)) 1) (nT (Ag (wS g)))) (kF (n=0)) (K (fQ (Int.tmod (iJ (wS g)) n)) d h))))))))))))
theorem bQZ(cb:Nat)(n:Int)(m:MH)(h:PH)(K:dk):Vu cb n m h K=(Bx (ctx [] [] [] [] false) Tryz.f12 (cL Tryz.f12) (entry 40 [.val (.pointer (some ⟨cb,0,none⟩)),.val (.int .i64 n)] m h) K):=bu
def bBQ:Vc.Spec:=λc m h K=>∃(cb:Nat)(n:Int)(r:dw),c=[.val (.pointer (some ⟨cb,0,none⟩)),.val (.int .i64 n)]/\YL m h cb r/\
 ∀m',aL m m' cb->YL m' h cb (VL n r).2->K (.val (.int .i64 (VL n r).1)) m' h
theorem P5:di 12 bBQ:=by
 refine eC (fn:=Tryz.f12) (c:=cL Tryz.f12) func12 rfl bz ?_;rintro G m h K ⟨cb,n,r,rfl,⟨s,d,k,y,e,E,f,rfl⟩,t⟩;refine⟨ctx [] [] [] [] false,rfl,aF,?_⟩;show Bx (ctx [] [] [] [] false) Tryz.f12 (cL Tryz.f12) (entry 40 [.val (.pointer (some ⟨cb,0,none⟩)),.val (.int .i64 n)] m h) K;rw[<-bQZ];dsimp only[Vu,push_cast];have H:s.len=d.length:=by have:=e.len;simpa[bP]using this
 refine⟨k,.of_m y rfl,s,.of_m y rfl,aE (λI=>?_) (λA=>aE (λB=>?_) (λB=>?_))⟩
 .have u:d.drop k=[]:=ce
  rw[u]at t;exact t m ⟨λ_ _=>rfl⟩ ⟨s,d,k,y,e,E,f,by rw[u];rfl⟩
 .have j:k<d.length:=by omega
  have u:d.drop k=d[k]::d.drop (k+1):=drop_eq_getElem_cons j;rw[u]at t;simp only[VL,if_pos B]at t;refine t m ⟨λ_ _=>rfl⟩ ⟨s,d,k,y,e,E,f,u.symm⟩
 .have j:k<d.length:=by omega
  have u:d.drop k=d[k]::d.drop (k+1):=drop_eq_getElem_cons j;rw[u]at t;simp only[VL,if_neg B]at t;have J:IntKind.i64.wrap ((k:Int)+1)=((k+1:Nat):Int):=by rw[dR]<;>omega
  have C:IntKind.i64.wrap (((k+1:Nat):Int)-1)=(k:Int):=by rw[dR]<;>omega
  refine⟨k,.of_m y rfl,_,_,⟨y⟩,bx,λm' F=>?_⟩;have g:=F.at_;rw[J]at g;simp only[splice]at g;obtain z|⟨b,o,L,D⟩:=e.row
  .exfalso;have:=congrArg List.length z;simp[bP]at this
   grind
  refine⟨s,.of_m g rfl,((k+1:Nat):Int),.of_m g rfl,b,o,L,?_⟩;rw[C];refine⟨aC,aC,d[k],.imm ?_,aC,?_⟩
  .have:=D k [.int .u8 d[k].toNat] (by simp[bP,j])
   grind
  .have A:d[k].toNat<256:=d[k].toNat_lt;rw[dR aC aC,Int.tmod_eq_emod_of_nonneg aC];refine t m' ⟨F.other⟩ ⟨s,d,k+1,g,e,aC,f,rfl⟩
def aI(m:MH)(h:PH)(cb:Nat):Prop:=∃r,YL m h cb r
theorem aI.mono(x:aI m h cb)(le:PH.le h h'):aI m h' cb:=by
 obtain⟨r,s,c,k,d,e,f⟩:=x;exact⟨r,s,c,k,d,e.mono le,f⟩
theorem aL.refl(m:MH)(cb:Nat):aL m m cb:=⟨λ_ _=>rfl⟩
theorem aL.trans{d:MH}(a:aL m m' cb)(b:aL m' d cb):aL m d cb:=⟨λc e=>(b.other c e).trans (a.other c e)⟩
def nL(n:Int):Prop:= -9223372036854775808<=n/\n<=9223372036854775807
structure L7(v:VV):Prop where
 int_:nL v.int
 text_:v.text.size<=64
def KOk(k:Int):Prop:=k=3\/k=4\/k=5
def ZT(k:Int)(v:VV):Prop:=KOk k->jP v=true/\v.kind=k
def C2:Vc.Spec:=λc m h K=>∃cb n,c=[cP cb,cI n]/\aI m h cb/\∀k m',0<=k->(k<n\/k=0)->aL m m' cb->aI m' h cb->K (cI k) m' h
def G8:Vc.Spec:=λc m h K=>∃cb n,c=[cP cb,cI n]/\0<=n/\n<=1000/\aI m h cb/\∀r m',aL m m' cb->aI m' h cb->K (cB r) m' h
def ZN:Vc.Spec:=λc m h K=>∃cb,c=[cP cb]/\aI m h cb/\∀k m',nL k->aL m m' cb->aI m' h cb->K (cI k) m' h
def bDJ:Vc.Spec:=λc m h K=>∃cb,c=[cP cb]/\aI m h cb/\∀t m',t.size<=64->aL m m' cb->aI m' h cb->K (SZ t) m' h
def Lb:Vc.Spec:=λd m h K=>∃cb c,d=[cP cb,cI c]/\aI m h cb/\∀v m',L7 v->ZT c v->aL m m' cb->aI m' h cb->K (aV v) m' h
theorem D9:di 12 C2:=by
 refine⟨P5.1,λc d m h w K e f=>P5.2 c d m h w K ?_ f⟩;obtain⟨cb,n,rfl,⟨r,g⟩,j⟩:=e;refine⟨cb,n,r,rfl,g,λm' o t=>j _ m' ?_ ?_ o ⟨_,t⟩⟩
 .cases r with
  |nil=>simp[VL]
  |cons b r=>
   simp only[VL]
   grind
 .cases r with
  |nil=>simp[VL]
  |cons b r=>
   simp only[VL];split
   .simp
   .exact .inl (Int.emod_lt_of_pos _ aC)
noncomputable def aTX(h:PH):Ctx:=
 dG [(12,C2)] [(18,{A:=Nat×ByteArray×MH,st:=λ⟨i,t,m⟩=>bK 37 38 [(3,vv (.string t)),(4,iv i)] [] m h}),(23,{A:=Nat×ByteArray×MH,st:=λ⟨i,t,m⟩=>bK 37 38 [(3,vv (.string t)),(5,iv i)] [] m h})] [] [] false
abbrev PY(a:Nat->Int->Prop):Prop:=∃(x:Nat)(c:Int),a x c
abbrev fS(a:Nat)(b:Int)(c:MH)(d:PH)(e:Int->MH->Prop):Prop:=PY (λx j=>aA (bA (cQp a 0) b=bA (cQp x 0) j) (aI c d x) (∀(f:Int)(g:MH),aT (cC f) (f<j\/f=0) (aT (aL c g x) (aI g d x) (e f g))))
attribute [push_cast] PY fS
def Vt(cb:Nat)(n:Int)(m:MH)(h:PH)(K:dk):Prop:=
  fS cb n m h (λk c=>K (zU (k==iJ (n-1))) c h)
def Rh(cb:Nat)(m:MH)(h:PH)(K:dk):Prop:=
  fS cb 12 m h (λk c=>cH (k==9) (K (fQ (Int.negSucc 0)) c h) (k==10) (K (fQ 9223372036854775807) c h) (dJ k 11 (K (fQ (Int.negSucc 9223372036854775807)) c h) (kF ((4:Int)=0)/\K (fQ (Int.tmod k 4)) c h)))
noncomputable abbrev zZ(a:dw):CV:=qV (ByteArray.mk (Array.mk a))
noncomputable abbrev cQ(a:Nat)(b:dw):dw:=OfNat.ofNat a::b
noncomputable abbrev rV(a:Nat):dw:=cQ a []
attribute [push_cast] zZ cQ rV
def Rg(cb:Nat)(m:MH)(h:PH)(K:dk):Prop:=
  fS cb 10 m h (λk d=>cH (k==0) (K (zZ (rV 97)) d h) (k==1) (K (zZ (rV 97)) d h) (cH (k==2) (K (zZ (rV 97)) d h) (k==3) (K (zZ (rV 98)) d h) (cH (k==4) (K (zZ (rV 98)) d h) (k==5) (K (CV.val vQz) d h) (cH (k==6) (K (zZ (cQ 97 (cQ 0 []))) d h) (k==7) (K (zZ (rV 255)) d h) (dJ k 8 (∃(I:Nat×ByteArray×MH->Prop)(e:Nat×ByteArray×MH->Nat),(∃(x:Nat×ByteArray×MH),aA (I x) (SV.at aQz=SV.at (Ta x.2.1)) (aA (aY x.1) (d=x.2.2) (bH h h)))/\∀(x:Nat×ByteArray×MH),I x->aR (↑x.1:Int) 64 (x.2.1.size<9223372036854775807/\∃(c:Nat×ByteArray×MH),aA (I c) (e c<e x) (aA (SV.at (Ta (x.2.1++ByteArray.mk (Array.mk (rV 255))))=SV.at (Ta c.2.1)) (aU (aW x.1 1) c.1) (bE (x.2.2=c.2.2) h h))) (K (qV
 x.2.1) x.2.2 h)) (∃(I:Nat×ByteArray×MH->Prop)(e:Nat×ByteArray×MH->Nat),(∃(x:Nat×ByteArray×MH),aA (I x) (SV.at aQz=SV.at (Ta x.2.1)) (aA (aY x.1) (d=x.2.2) (bH h h)))/\∀(x:Nat×ByteArray×MH),I x->aR (↑x.1:Int) 64 (x.2.1.size<9223372036854775807/\∃(c:Nat×ByteArray×MH),aA (I c) (e c<e x) (aA (SV.at (Ta (x.2.1++ByteArray.mk (Array.mk (rV 98))))=SV.at (Ta c.2.1)) (aU (aW x.1 1) c.1) (bE (x.2.2=c.2.2) h h))) (K (qV x.2.1) x.2.2 h)))))))
noncomputable abbrev uH(a b:Int):dj:=a8 (fB a) (fB b) (nT vQz)
abbrev uD(a:Nat)(b:Nat->Option Obj)(c:Nat->Nat->Option Value)(d:Nat->Int->Prop):Prop:=∃(x:Nat),aA (iY (bY a) (bY x)) (aI b c x) (∀(e:Int),d x e)
abbrev j5(a:MH)(b:PH)(c:Nat)(d:Prop):Prop:=aI a b c->d
attribute [push_cast] uH uD j5
def UI(cb:Nat)(d:Int)(m:MH)(h:PH)(K:dk):Prop:=
  cH (d==3) (fS cb 2 m h (λk e=>K (pN (uH d k)) e h)) (d==4) (uD cb m h (λc k=>∀(e:MH),aT (nL k) (aL m e c) (j5 e h c (K (pN (uH d k)) e h)))) (∃(c:Nat),aA (iY (bY cb) (bY c)) (aI m h c) (∀(t:ByteArray)(e:MH),aT (t.size<=64) (aL m e c) (j5 e h c (K (pN (a8 (fB 5) eH (yW t))) e h))))
theorem bQX{n:Int}(d:aI m h cb)(e:∀r m',aL m m' cb->aI m' h cb->K (cB r) m' h):Vt cb n m h K:=
 ⟨cb,n,rfl,d,λ_ m' _ _ f c=>e _ m' f c⟩
theorem Hm:Cr ⟨#[]⟩=true:=by simp[Cr,ByteArray.toList_eq]
theorem bJX{k:Int}(c:0<=k)(d:k<2\/k=0):jP ⟨3,k,⟨#[]⟩⟩=true:=by
 have:k=0\/k=1:=by omega
 rcases this with rfl|rfl<;>simp[jP,Hm]
theorem avJ(k:Int):jP ⟨4,k,⟨#[]⟩⟩=true:=by simp[jP,Hm]
theorem bJQ{t:ByteArray}(h:t.size<=64):jP ⟨5,0,t⟩=true:=by
 simp[jP];omega
theorem sV:di 13 G8:=by
 refine gO func13 ?_;rintro c m h K ⟨cb,n,rfl,_,_,d,e⟩;refine⟨dG [(12,C2)] [] [] [] false,rfl,aD D9 aF,Vt cb n m h K,bu,?_⟩;exact bQX d e
theorem X3:di 169 ZN:=by
 refine gO func169 ?_;rintro f m h K ⟨cb,rfl,g,d⟩;refine⟨dG [(12,C2)] [] [] [] false,rfl,aD D9 aF,Rh cb m h K,bu,?_⟩;dsimp only[Rh,push_cast];refine⟨cb,12,rfl,g,λk m' j n e c=>aB (λ_=>d _ m' ⟨aC,aC⟩ e c) (λ_=>aB (λ_=>d _ m' ⟨aC,aC⟩ e c) (λ_=>aB (λ_=>d _ m' ⟨aC,aC⟩ e c) (λ_=>⟨aC,d _ m' ?_ e c⟩)))⟩;rw[Int.tmod_eq_emod_of_nonneg j];exact⟨aC,aC⟩
theorem X2:di 170 bDJ:=by
 refine gO func170 ?_;rintro g m h K ⟨cb,rfl,j,d⟩;refine⟨aTX h,rfl,aD D9 aF,Rg cb m h K,bu,?_⟩;dsimp only[Rg,push_cast];refine⟨cb,10,rfl,j,λk m' y z e c=>?_⟩;refine aB (λ_=>d _ m' bz e c) (λ_=>aB (λ_=>d _ m' bz e c) (λ_=>aB (λ_=>d _ m' bz e c) (λ_=>aB (λ_=>d _ m' bz e c) (λ_=>aB (λ_=>d _ m' bz e c) (λ_=>aB (λ_=>d _ m' bz e c) (λ_=>aB (λ_=>d _ m' bz e c) (λ_=>aB (λ_=>d _ m' bz e c) (λ_=>aB (λ_=>?_) (λ_=>?_)))))))))
 all_goals
  refine⟨λ⟨i,t,n⟩=>n=m'/\i<=64/\t.size=i,λ⟨i,_,_⟩=>64-i,⟨(0,⟨#[]⟩,m'),⟨rfl,aC,rfl⟩,MT⟩,?_⟩;rintro⟨i,t,m'⟩ ⟨rfl,A,f⟩;dsimp only;refine aE (λo=>⟨?_,(i+1,_,m'),⟨rfl,aC,?_⟩,cj,MT⟩) (λu=>d t m' aC e c)
  .rw[f];show i+1<=_;omega
  .rw[ByteArray.size_append,f];rfl
theorem CS:di 95 Lb:=by
 refine gO func95 ?_;rintro z m h K ⟨cb,c,rfl,j,n⟩;refine⟨dG [(12,C2),(169,ZN),(170,bDJ)] [] [] [] false,rfl,aD D9 (aD X3 (aD X2 aF)),UI cb c m h K,bu,?_⟩;dsimp only[UI,push_cast];refine aB (λe=>⟨cb,2,rfl,j,λk m' A B g d=>n ⟨c,k,⟨#[]⟩⟩ m' ⟨⟨cg,cg⟩,by show(ByteArray.mk #[]).size<=64;decide⟩ (λ_=>?_) g d⟩) (λo=>aB (λe=>⟨cb,rfl,j,λk m' f g d=>n ⟨c,k,⟨#[]⟩⟩ m' ⟨f,by show(ByteArray.mk #[]).size<=64;decide⟩ (λ_=>?_) g d⟩) (λu=>⟨cb,rfl,j,λt m' y g d=>n ⟨5,0,t⟩ m' ⟨⟨bx,bx⟩,y⟩ (λf=>?_) g d⟩))
 .have e:c=3:=cm e
  subst e;exact⟨bJX A B,rfl⟩
 .have e:c=4:=cm e
  subst e;exact⟨avJ k,rfl⟩
 .have o:c≠3:=cg
  have u:c≠4:=cg
  exact⟨bJQ y,by rcases f with f|f|f;exact absurd f o;exact absurd f u;exact f.symm⟩
mutual
def EG:Pred->Prop
 |.mk _ _ l r args=>L7 l.value/\L7 r.value/\Er args
def Er:dx->Prop
 |[]=>True
 |p::ps=>EG p/\Er ps
end
theorem O0:∀{l:dx},Er l↔∀p∈l,EG p
 |[]=>by simp[Er]
 |p::ps=>by simp[Er,O0 (l:=ps)]
theorem qL:L7 zeroV:=⟨⟨bz,bz⟩,bz⟩
structure VY(cols params:dm)(kind:Int)(o:OV):Prop where
 val:L7 o.value
 kind:KOk kind->kindOf cols params o=kind
def Ma(l:dm):Prop:=∀k∈l,KOk k
structure PW(cols params:dm)(d:Nat)(p:Pred):Prop where
 vals:EG p
 valid:Ma cols->jA cols params p=true
 siz:OX d p
def VX:Vc.Spec:=λf m h K=>∃cb s t e d c,f=[cP cb,cS s,cS t,cI e]/\aI m h cb/\Ints h s d/\Ints h t c/\d.length<=1000/\c.length<=1000/\∀o m',VY d c e o->aL m m' cb->aI m' h cb->K (aO o) m' h
def KP(K:dk)(m:MH)(h:PH)(cb:Nat)(R:Pred->Prop):Prop:=∀v p m' h',PH.le h h'->eA h' p v->R p->aL m m' cb->aI m' h' cb->K (aP v) m' h'
def a3Z(N:Nat):Vc.Spec:=λf m h K=>∃cb s t e c,∃d:Nat,f=[cP cb,cS s,cS t,cI d]/\aI m h cb/\Ints h s e/\Ints h t c/\e.length<=1000/\c.length<=1000/\d<N/\d<=1000/\KP K m h cb (PW e c d)
structure Ap(cols params:dm)(d:Nat)(p:Pred):Prop where
 vals:EG p
 valid:d<=2->Ma cols->Ma params->iL cols params p=0
def Ep:Vc.Spec:=λf m h K=>∃cb s t d c,∃e:Nat,f=[cP cb,cS s,cS t,cI e]/\aI m h cb/\Ints h s d/\Ints h t c/\d.length<=1000/\c.length<=1000/\e<=1000/\KP K m h cb (Ap d c e)
def pv(b:Nat):SV:=vv (.pointer (some ⟨b,0,none⟩))
noncomputable def aUX(cb:Nat)(s t:Sl)(c:Int)(m:MH)(h:PH):Ctx:=
 dG [(12,C2),(95,Lb)] [(3,{A:=Nat×List OV,st:=λ⟨i,d⟩=>bK 64 68 [(0,pv cb),(2,sv t),(3,iv c),(8,.at (.ptr 8 0)),(9,.at (.lst 29)),(15,sv s),(16,iv s.len),(17,iv i)] [(8,.cells 29 (dL.enc.map .val)),(29,.lst 29 5 (d.map OV.enc))] m h}),
  (9,{A:=Nat×List OV,st:=λ⟨i,d⟩=>bK 64 68 [(0,pv cb),(3,iv c),(8,.at (.ptr 8 0)),(9,.at (.lst 29)),(31,sv t),(32,iv t.len),(33,iv i)] [(8,.cells 29 (dL.enc.map .val)),(29,.lst 29 5 (d.map OV.enc))] m h})] [] [] false
noncomputable def bmZ(N:Nat)(cb:Nat)(s t:Sl)(c:Nat)(d:PH):Ctx:=
 dG [(12,C2),(13,G8),(165,VX),(95,Lb),(93,a3Z N)] [(18,{A:=Int×Int×fc×MH×PH,st:=λ⟨op,n,e,m,h⟩=>bK 107 111 [(0,pv cb),(1,sv s),(2,sv t),(3,iv c),(8,.at (.ptr 8 0)),(12,.at (.ptr 12 0)),(13,iv n)] [(8,.cells 32 (hZ.enc.map .val)),(12,.cells 32 (((⟨op,0,dL,dL,⟨none,0,0⟩⟩:PV).enc.take 12).map .val++[.lst 104])),(104,.lst 32 13 (e.map PV.enc))] m h})] [(3,{A:=Int×Bool×MH,st:=λ⟨k,b,m⟩=>bK 107 111 [(0,pv cb),(1,sv s),(2,sv t),(3,iv c),(8,.at (.ptr 8 0)),(9,iv k),(16,bv b)] [(8,.cells 32 (hZ.enc.map .val))] m d}),
  (5,{A:=Int×Bool×MH,st:=λ⟨k,b,m⟩=>bK 107 111 [(0,pv cb),(1,sv s),(2,sv t),(3,iv c),(8,.at (.ptr 8 0)),(9,iv k),(27,bv b)] [(8,.cells 32 (hZ.enc.map .val))] m d}),
  (8,{A:=Int×MH,st:=λ⟨k,m⟩=>bK 107 111 [(0,pv cb),(1,sv s),(2,sv t),(8,.at (.ptr 8 0)),(10,iv k)] [(8,.cells 32 (hZ.enc.map .val))] m d}),
  (9,{A:=PV×Int×MH,st:=λ⟨p,k,m⟩=>bK 107 111 [(0,pv cb),(1,sv s),(2,sv t),(8,.at (.ptr 8 0)),(10,iv k),(11,.at (.ptr 11 0))] [(8,.cells 32 (hZ.enc.map .val)),(11,.cells 32 (p.enc.map .val))] m d}),
  (11,{A:=PV×MH,st:=λ⟨p,m⟩=>bK 107 111 [(0,pv cb),(8,.at (.ptr 8 0)),(11,.at (.ptr 11 0))] [(8,.cells 32 (hZ.enc.map .val)),(11,.cells 32 (p.enc.map .val))] m d}),
  (13,{A:=PV×MH,st:=λ⟨p,m⟩=>bK 107 111 [(8,.at (.ptr 8 0)),(11,.at (.ptr 11 0))] [(8,.cells 32 (hZ.enc.map .val)),(11,.cells 32 (p.enc.map .val))] m d})] [] false
noncomputable abbrev pX:At:=iG 0
noncomputable abbrev Gu(a:At)(b:dz):dz:=eO a pX (eO (iG 0) pX b)
abbrev Dz:Prop:=eQ (oQ 29 (Gu pX (vH aQz)))
noncomputable abbrev oT(a:Nat×List OV):List dj:=List.map OV.enc a.2
abbrev BZ(a b:Int)(c:dj->Prop):Prop:=aA (cC a) (a<b) (∃(x:dj),c x)
abbrev F7(a:Nat)(b:Int)(c:Nat->Option Obj)(d:Nat->Nat->Option Value)(e:VV->MH->Prop):Prop:=PY (λx j=>aA (bA (cQp a 0) b=bA (cQp x 0) j) (aI c d x) (∀(f:VV)(g:MH),aT (L7 f) (ZT j f) (aT (aL c g x) (aI g d x) (e f g))))
attribute [push_cast] pX Gu Dz oT BZ F7
def Rl(cb:Nat)(s t:Sl)(d:Int)(m:MH)(h:PH)(K:dk):Prop:=
  ∃(I:Nat×List OV->Prop)(g:Nat×List OV->Nat),(∃(x:Nat×List OV),aA (I x) (dN cb) (aA (aG t) (jR d) (aA eZ (eL 29) (aA (aG s) (a7 s) (aA (aY x.1) Dz (aA (kN 29 5 (cD 29 5 (oT x))) (m=m) (bH h h)))))))/\∀(x:Nat×List OV),I x->aR (↑x.1:Int) (aH s) (eU s.a 0 (↑x.1:Int) s (λb o y=>aK m h b (bC o x.1 1) (cO y)/\dJ y d (aA (gS (jX (oT x) 1*48)) (dH (oT x)) (∃(c:Nat×List OV),aA (I c) (g c<g x) (aA (dN cb) (aG t) (aA (jR d) eZ (aA (eL 29) (aG s) (aA (a7 s) (aU (aW x.1 1) c.1) (aA Dz (cD 29 5 (dY (oT x) (a8 (fB 1) (fB (↑x.1:Int)) (a8 eH eH (nT vQz))))=cD 29 5 (oT c)) (bE (m=m) h h)))))))) (∃(c:Nat×List OV),aA (I c) (g c<g x) (aA
 (dN cb) (aG t) (aA (jR d) eZ (aA (eL 29) (aG s) (aA (a7 s) (aU (aW x.1 1) c.1) (aA Dz (cD 29 5 (oT x)=cD 29 5 (oT c)) (bE (m=m) h h))))))))) (∃(I1:Nat×List OV->Prop)(j:Nat×List OV->Nat),(∃(c:Nat×List OV),aA (I1 c) (dN cb) (aA (jR d) eZ (aA (eL 29) (aG t) (aA (a7 t) (aY c.1) (aA Dz (cD 29 5 (oT x)=cD 29 5 (oT c)) (aA (m=m) (h=h) True))))))/\∀(c:Nat×List OV),I1 c->aR (↑c.1:Int) (aH t) (eU t.a 0 (↑c.1:Int) t (λb o y=>aK m h b (bC o c.1 1) (cO y)/\dJ y d (aA (gS (jX (oT c) 1*48)) (dH (oT c)) (∃(f:Nat×List OV),aA (I1 f) (j f<j c) (aA (dN cb) (jR d) (aA eZ (eL 29) (aA (aG t) (a7 t) (aA (aU (aW c.1 1) f.1) Dz
 (aA (cD 29 5 (dY (oT c) (a8 (fB 2) (fB (↑c.1:Int)) (a8 eH eH (nT vQz))))=cD 29 5 (oT f)) (m=m) (bH h h)))))))) (∃(f:Nat×List OV),aA (I1 f) (j f<j c) (aA (dN cb) (jR d) (aA eZ (eL 29) (aA (aG t) (a7 t) (aA (aU (aW c.1 1) f.1) Dz (aA (cD 29 5 (oT c)=cD 29 5 (oT f)) (m=m) (bH h h))))))))) (fS cb (aW (oT c).length 1) m h (λk n=>aR k (jY (oT c)) (BZ k (jY (oT c)) (λe=>uN (oT c) k.toNat e/\∃(y:OV),Dx 5 e y.enc/\K (pN y.enc) n h)) (F7 cb d n h (λv u=>K (pN (a8 (fB 3) eH (a8 (fB v.kind) (fB v.int) (yW v.text)))) u h)))))
abbrev lT(a:Nat)(b:Int)(c:Nat->Option Obj)(d:Nat->Nat->Option Value)(e:Nat->Bool->Prop):Prop:=PY (λx f=>aA (bA (cQp a 0) b=bA (cQp x 0) f) (cC f) (aA (f<=1000) (aI c d x) (∀(g:Bool),e x g)))
abbrev Iu(a:Int×Bool×MH->Prop)(b:Nat)(c d:Sl)(e:Nat)(g:Int)(i:(Int×Bool×MH)->Prop)(j:Nat->Option Obj)(k:PH):Prop:=∃(x:Int×Bool×MH),aA (a x) (dN b) (aA (aG c) (aG d) (aA (eQ (vK e)) eZ (aA (dQ g x.1) (i x) (bG mP (j=x.2.2) (k=k)))))
noncomputable abbrev oA(a:Int):Int:=iJ (1+a)
abbrev nV(a:Nat):Prop:=a<=1000
abbrev iC(a:dm):Prop:=nV a.length
abbrev AV(a:Sl->Sl->dm->dm->Nat->Prop):Prop:=kQ (λx c=>tI (λd e=>∃(f:Nat),a x c d e f))
abbrev Dq(a:PV->Pred->Prop):Prop:=∀(x:PV)(c:Pred),a x c
abbrev Iv(a:ei)(b:Nat)(c:MH)(d:PH)(e:Nat)(g:dm->dm->Nat->PV->Pred->Prop):Prop:=AV (λx o j n f=>aA (a=bY b::fD x::bA (fD o) (↑f:Int)) (aI c d b) (aA (Ints d x j) (Ints d o n) (aA (iC j) (iC n) (aA (f<e) (nV f) (Dq (λt u=>g j n f t u))))))
abbrev gU(a:MH->PH->Prop):Prop:=∀(x:MH)(c:PH),a x c
noncomputable abbrev Gh(a b:Int)(c:dz):dz:=Gu (iG a) (eO pX pX (eO aQz pX (eO pX pX (eO (iG b) aQz c))))
noncomputable abbrev DL(a:Int×Int×fc×MH×PH):List dj:=List.map PV.enc a.2.2.1
abbrev cW(a:Nat->Option Obj)(b:MH×PH):Prop:=a=b.1
noncomputable abbrev Gp(a:Int×Int×fc×MH×PH):Nat->Nat->Option Value:=a.2.2.2.2
attribute [push_cast] lT Iu oA nV iC AV Dq Iv gU Gh DL cW Gp
def UK(N:Nat)(cb:Nat)(s t:Sl)(f:Nat)(m:MH)(h:PH)(K:dk):Prop:=
  fS cb 9 m h (λk J=>∃(I:Int×Bool×MH->Prop),dJ k 0 (lT cb 2 J h (λc r=>∀(g:MH),aT (aL J g c) (aI g h c) (Iu I cb s t f k (λx=>iW r x.2.1) g h))) (Iu I cb s t f k (λx=>xL x.2.1) J h)/\∀(x:Int×Bool×MH),hU (I x) x.2.1 (fS cb 2 x.2.2 h (λA g=>K (pN (DV (fB (oA A)) iA)) g h)) (∃(I1:Int×Bool×MH->Prop),aR x.1 6 (Iu I1 cb s t f x.1 (λu=>Ab u.2.1) x.2.2 h) (Iu I1 cb s t f x.1 (λu=>iW (decide ((↑f:Int)<1)) u.2.1) x.2.2 h)/\∀(u:Int×Bool×MH),I1 u->cH u.2.1 (∃(I2:Int×MH->Prop),eR (aH s) 0 (fS cb (aH s) u.2.2 h (λA g=>eU s.a 0 A s (λb o y=>aK g h b (cF o A 1) (cO y)/\∃(e:Int×MH),aA (I2 e) (dN cb) (aA (aG s) (aG t) (aA eZ
 (dQ y e.1) (aA mP (g=e.2) (bH h h))))))) (∃(e:Int×MH),aA (I2 e) (dN cb) (aA (aG s) (aG t) (aA eZ (dQ 4 e.1) (aA mP (u.2.2=e.2) (bH h h)))))/\∀(e:Int×MH),I2 e->∃(I3:PV×Int×MH->Prop),fS cb 6 e.2 h (λA g=>∃(c:Nat),kQ (λE F=>∃(M:Int),tI (λz p=>aA (bY cb::fD s::bA (fD t) e.1=bY c::fD E::bA (fD F) M) (aI g h c) (aA (Ints h E z) (Ints h F p) (aA (iC z) (iC p) (∀(o:OV)(D:MH),aT (VY z p M o) (aL g D c) (j5 D h c (F7 cb e.1 D h (λv G=>∃(j:PV×Int×MH),aA (I3 j) (dN cb) (aA (aG s) (aG t) (aA eZ (dQ e.1 j.2.1) (aA (eP 11) mP (bG (oQ 32 (eO (iG 3) (iG (oA A)) (eO (iG o.kind) (mU o) (p7 (lG o) (rR o) (mR o)
 (iG 3) (eO pX (iG v.kind) (eO (iG v.int) (Ta v.text) AP)))))=uZ j.1) (G=j.2.2) (h=h))))))))))))))/\∀(j:PV×Int×MH),I3 j->∃(I4:PV×MH->Prop),lT cb 3 j.2.2 h (λc r=>∀(g:MH),aT (aL j.2.2 g c) (aI g h c) (branch r (∃(z:Nat),kQ (λE F=>∃(A:Int),tI (λL p=>aA (bY cb::fD s::bA (fD t) j.2.1=bY z::fD E::bA (fD F) A) (aI g h z) (aA (Ints h E L) (Ints h F p) (aA (iC L) (iC p) (∀(o:OV)(D:MH),aT (VY L p A o) (aL g D z) (j5 D h z (∃(n:PV×MH),aA (I4 n) (dN cb) (aA eZ (eP 11) (aA mP (oQ 32 (eO (iG j.1.op) (iG j.1.cmp) (eO (iG j.1.left.kind) (mU j.1.left) (p7 (lG j.1.left) (rR j.1.left) (mR j.1.left) (iG o.kind) (eO (mU o) (iG (lG o)) (eO (iG
 (rR o)) (mR o) (lY j.1.args))))))=uZ n.1) (aA (D=n.2) (h=h) True))))))))))) (∃(n:PV×MH),aA (I4 n) (dN cb) (aA eZ (eP 11) (aA mP (uZ j.1=uZ n.1) (aA (g=n.2) (h=h) True))))))/\∀(n:PV×MH),I4 n->∃(I5:PV×MH->Prop),lT cb 6 n.2 h (λc r=>∀(g:MH),aT (aL n.2 g c) (aI g h c) (branch r (∃(B:PV×MH),aA (I5 B) eZ (aA (eP 11) mP (bG (oQ 32 (eO (iG n.1.op) (iG n.1.cmp) (eO (iG n.1.right.kind) (mU n.1.right) (p7 (lG n.1.right) (rR n.1.right) (mR n.1.right) (iG n.1.left.kind) (eO (mU n.1.left) (iG (lG n.1.left)) (eO (iG (rR n.1.left)) (mR n.1.left) (lY n.1.args))))))=uZ B.1) (g=B.2) (h=h)))) (∃(B:PV×MH),aA (I5 B) eZ (aA (eP 11) mP (bG (uZ n.1=uZ B.1)
 (g=B.2) (h=h))))))/\∀(B:PV×MH),I5 B->K (dM B.1) B.2 h) (u.1==6) (∃(c:Nat),Iv (bY cb::fD s::bA (fD t) (iJ ((↑f:Int)-1))) c u.2.2 h N (λz p d v H=>gU (λg C=>dD h C (eA C H v) (aT (PW z p d H) (aL u.2.2 g c) (j5 g C c (bU C 13 (iF v.enc) (λE O=>K (pN (DV (fB 6) (aM E))) g O))))))) (fS cb 3 u.2.2 h (λA g=>∃(I2:Int×Int×fc×MH×PH->Prop)(D:Int×Int×fc×MH×PH->Nat),(∃(e:Int×Int×fc×MH×PH),aA (I2 e) (dN cb) (aA (aG s) (aG t) (aA (eQ (vK f)) eZ (aA (eP 12) (dQ A e.2.1) (aA mP (BP (Gh (iJ (iJ (4+u.1)-7)) 0 (vH (At.lst 104))) (Gh e.1 0 (vH (At.lst 104)))) (aA (kN 32 13 (cD 32 13 (DL e))) (cW g e.2.2.2) (bH h (Gp
 e))))))))/\∀(e:Int×Int×fc×MH×PH),I2 e->fY e.2.1 0 (∃(c:Nat),Iv (bY cb::fD s::bA (fD t) (iJ ((↑f:Int)-1))) c e.2.2.2.1 (Gp e) N (λz p d v H=>gU (λG C=>dD (Gp e) C (eA C H v) (aT (PW z p d H) (aL e.2.2.2.1 G c) (j5 G C c (aA (gS (jX (DL e) 1*136)) (dH (DL e)) (∃(j:Int×Int×fc×MH×PH),aA (I2 j) (D j<D e) (aA (dN cb) (aG s) (aA (aG t) (eQ (vK f)) (aA eZ (eP 12) (aA (dQ (iJ (e.2.1-1)) j.2.1) mP (aA (BP (Gh e.1 0 (vH (At.lst 104))) (Gh j.1 0 (vH (At.lst 104)))) (cD 32 13 (dY (DL e) v.enc)=cD 32 13 (DL j)) (bE (cW G j.2.2.2) C (Gp j)))))))))))))) (bU (Gp e) 13 (DL e) (λE C=>K (pN (DV (fB e.1)
 (aM E))) e.2.2.2.1 C))))))
def UX(N:Nat)(cb:Nat)(s t:Sl)(f:Nat)(m:MH)(h:PH)(K:dk):Prop:=
  ∃(c:Nat),Iv (bY cb::fD s::bA (fD t) (↑f:Int)) c m h N (λA p d v u=>gU (λg e=>dD h e (eA e u v) (aT (PW A p d u) (aL m g c) (j5 g e c (F1 (fD s::dW t (dM v)) e (λB C D=>dJ (iL B C D) 2 (∃(n:Nat),Iv (bY cb::fD s::bA (fD t) 1) n g e N (λE F G y z=>gU (λo j=>dD e j (eA j z y) (aT (PW E F G z) (aL g o n) (j5 o j n (K (dM y) o j)))))) (K (dM v) g e)))))))
theorem Vz:Tv zeroV zeroV=true:=by simp[Tv]
theorem BL:EW 0 dL dL=true:=by simp[EW,Yn,Tv]
theorem Wz{cols params:dm}{x:Int}(h:cols[i]? =some x):kindOf cols params ⟨1,i,zeroV⟩=x:=by
 have d:=(cn h);have e:kindOf cols params ⟨1,i,zeroV⟩=pC cols ⟨1,i,zeroV⟩:=rfl;have c:=Vz;rw[e];simp only[pC,c,Bool.not_true,Bool.or_false]
 grind
theorem Wy{cols params:dm}{x:Int}(h:params[i]? =some x):kindOf cols params ⟨2,i,zeroV⟩=x:=by
 have d:=(cn h);have e:kindOf cols params ⟨2,i,zeroV⟩=pC params ⟨2,i,zeroV⟩:=rfl;have c:=Vz;rw[e];simp only[pC,c,Bool.not_true,Bool.or_false]
 grind
theorem Ub{cols params:dm}{c:Int}{v:VV}(f:L7 v)(g:ZT c v):VY cols params c ⟨3,0,v⟩:=⟨f,λh=>by
 obtain⟨j,d⟩:=g h;have e:kindOf cols params ⟨3,0,v⟩=if((0:Int) !=0|| !jF v)then 0 else v.kind:=rfl
 rw[e,if_neg,d];simp only[jF,j,d];rcases h with rfl|rfl|rfl<;>decide⟩
theorem X4:di 165 VX:=by
 refine gO func165 ?_;rintro U m h K ⟨cb,s,t,d,e,c,rfl,V,P,Q,Z,l2,R⟩;refine⟨aUX cb s t d m h,rfl,aD D9 (aD CS aF),Rl cb s t d m h K,bu,?_⟩;dsimp only[Rl,push_cast];have E:=P.slen;have F:=Q.slen;refine⟨λ⟨i,f⟩=>i<=e.length/\f.length<=i/\∀o∈f,VY e c d o,λ⟨i,_⟩=>e.length-i,⟨(0,[]),⟨aC,bx,bx⟩,MT⟩,?_⟩;rintro⟨i,f⟩ ⟨S,y,g⟩;dsimp only;refine aE (λj=>?_) (λz=>?_)
 .obtain⟨x,A⟩:=eN E j;obtain⟨G,H,I,J⟩:=P.at' A;refine⟨G,H,I,aC,j,x,.imm J,aB (λW=>⟨ce,ce,(i+1,f++[⟨1,i,zeroV⟩]),⟨aC,ce,?_⟩,aC,?_⟩) (λ_=>⟨(i+1,f),⟨aC,cg,g⟩,aC,MT⟩)⟩
  .intro o u;rcases mem_append.1 u with n|n
   .grind
   .simp at n;subst n;exact⟨qL,λ_=>by rw[Wz (cm A)];grind⟩
  .rw[cv];exact MT
 refine⟨λ⟨i,f⟩=>i<=c.length/\f.length<=1000+i/\∀o∈f,VY e c d o,λ⟨i,_⟩=>c.length-i,⟨(0,f),⟨aC,aC,g⟩,MT⟩,?_⟩;clear S y g z;rintro⟨i,f⟩ ⟨S,y,g⟩;dsimp only;refine aE (λj=>?_) (λz=>?_)
 .obtain⟨x,A⟩:=eN F j;obtain⟨G,H,I,J⟩:=Q.at' A;refine⟨G,H,I,aC,j,x,.imm J,aB (λW=>⟨ce,ce,(i+1,f++[⟨2,i,zeroV⟩]),⟨aC,ce,?_⟩,aC,?_⟩) (λ_=>⟨(i+1,f),⟨aC,cg,g⟩,aC,MT⟩)⟩
  .intro o u;rcases mem_append.1 u with n|n
   .grind
   .simp at n;subst n;exact⟨qL,λ_=>by rw[Wy (cm A)];grind⟩
  .rw[cv];exact MT
 .refine⟨cb,_,rfl,V,λk m' X n u B=>aE (λT=>?_) (λT=>⟨cb,d,rfl,B,λv L Y M O C=>R ⟨3,0,v⟩ L (Ub Y M) (u.trans O) C⟩)⟩;have D:k.toNat<f.length:=cg
  exact⟨X,T,_,by rw[getElem?_map,cq D];rfl,f[k.toNat],rfl,R _ m' (g _ (getElem_mem D)) u B⟩
theorem NW{h:PH}{v:PV}(c:v.args=⟨none,0,0⟩):eA h (.mk v.op v.cmp v.left v.right []) v:=eA.mk (by rw[c];exact .nil _ _ _ _)
structure bdQ(cols params:dm)(kd:Int)(p:PV):Prop where
 args_:p.args=⟨none,0,0⟩
 op_:p.op=3
 cmp_:1<=p.cmp/\p.cmp<=6
 left_:VY cols params kd p.left
 right_:VY cols params kd p.right
 kind_:Ma cols->KOk kd
theorem bjX{k:Int}(h:KOk k):k≠0:=by rcases h with rfl|rfl|rfl<;>decide
theorem bdQ.pw{cols params:dm}{f:Int}{p:PV}(x:bdQ cols params f p)(d:Nat):PW cols params d (.mk p.op p.cmp p.left p.right []):=by
 refine⟨⟨x.left_.val,x.right_.val,trivial⟩,λg=>?_,OX.leaf d⟩;have c:=x.kind_ g;have j:=x.left_.kind c;have n:=x.right_.kind c;have o:=bjX c;have e:=x.cmp_;rw[x.op_];simp[jA,j,n,o,e.1,e.2]
theorem bKJ{cols params:dm}{d:Nat}(x:PW cols params d p):PW cols params (d+1) (.mk 6 0 dL dL [p]):=
 ⟨⟨qL,qL,x.vals,trivial⟩,λf=>by
  have e:=BL;simp[jA,vP,e,x.valid f],OX.node (λq c=>by simp at c;subst c;exact x.siz) bx⟩
theorem bLQ{cols params:dm}{d:Nat}{op:Int}{ps:dx}(f:op=4\/op=5)(x:∀p∈ps,PW cols params d p)(g:ps.length<=3):PW cols params (d+1) (.mk op 0 dL dL ps):=
 ⟨⟨qL,qL,O0.2 λp c=>(x p c).vals⟩,λj=>by
  have e:=BL;have n:vP cols params ps=true:=by rw[EN,all_eq_true];exactλp c=>(x p c).valid j
  rcases f with rfl|rfl<;>simp[jA,e,n],OX.node (λq o=>(x q o).siz) g⟩
theorem Zg:∀N,di 93 (a3Z N)
 |0=>by
  refine eC (fn:=Tryz.f93) (c:=cL Tryz.f93) func93 rfl bz ?_;rintro a1 m h K ⟨cb,s,t,f,d,g,rfl,_,_,_,_,_,hN,_⟩;omega
 |N+1=>by
  refine gO func93 ?_;rintro a1 m h K ⟨cb,s,t,f,d,g,rfl,hc,O,ht,l1,l2,hN,hd,hK⟩;refine⟨bmZ N cb s t g h,rfl,aD D9 (aD sV (aD X4 (aD CS (aD (Zg N) aF)))),UK N cb s t g m h K,bu,?_⟩;dsimp only[UK,push_cast];have a9:=O.slen;refine⟨cb,9,rfl,hc,λk C M P y z=>?_⟩;refine⟨λ⟨k,_,A⟩=>0<=k/\k<=8/\aL m A cb/\aI A h cb,aB (λ_=>⟨cb,2,rfl,aC,aC,z,λr F D E=>⟨(k,r,F),⟨M,aC,y.trans D,E⟩,MT⟩⟩) (λ_=>⟨(k,false,C),⟨M,aC,y,z⟩,MT⟩),?_⟩;clear M P y z k C;rintro⟨k,b,C⟩ ⟨M,P,y,z⟩;dsimp only;refine aB (λ_=>⟨cb,2,rfl,z,λj F S j1 D E=>?_⟩) (λ_=>?_)
  .refine hK ⟨IntKind.i64.wrap (1+j),0,dL,dL,⟨none,0,0⟩⟩ _ F h (.refl _) (NW rfl) ⟨⟨qL,qL,trivial⟩,λ_=>?_,OX.leaf _⟩ (y.trans D) E;have hj:j=0\/j=1:=by omega
   have e1:IntKind.i64.wrap 1=1:=bz
   have e2:IntKind.i64.wrap 2=2:=bz
   rcases hj with rfl|rfl
   .simp[jA,e1,BL]
   .simp[jA,e2,BL]
  refine⟨λ⟨k,b,A⟩=>0<=k/\k<=8/\(b=false->6<=k/\1<=g)/\aL m A cb/\aI A h cb,aE (λ_=>⟨(k,true,C),⟨M,P,λe=>(by cases e),y,z⟩,MT⟩) (λhk=>⟨(k,_,C),⟨M,P,λe=>?_,y,z⟩,MT⟩),?_⟩
  .grind
  clear M P y z k C;rintro⟨k,b,C⟩ ⟨M,P,kb,y,z⟩;dsimp only;refine aB (λ_=>?_) (λhb=>?_)
  .refine⟨λ⟨H,A⟩=>(Ma f->KOk H)/\aL m A cb/\aI A h cb,aE (λa6=>⟨cb,s.len,rfl,z,λj F S j1 D E=>?_⟩) (λ_=>⟨(4,C),⟨λ_=>.inr (.inl rfl),y,z⟩,MT⟩),?_⟩
   .obtain⟨b1,off,e1,r1⟩:=O.inb (n:=j) S aC
    have hm:f.getD j.toNat 0∈f:=by
     grind
    exact⟨b1,off,e1,S,aC,_,.imm r1,(_,F),⟨λT=>T _ hm,y.trans D,E⟩,MT⟩
   clear y z C;rintro⟨H,C⟩ ⟨U,y,z⟩;dsimp only;refine⟨λ⟨p,H,A⟩=>bdQ f d H p/\aL m A cb/\aI A h cb,⟨cb,6,rfl,z,λj F S j1 D E=>⟨cb,s,t,H,f,d,rfl,E,O,ht,l1,l2,λo m3 ho V W=>⟨cb,H,rfl,W,λv m4 hv a2 o4 c4=>⟨(⟨3,IntKind.i64.wrap (1+j),o,⟨3,0,v⟩,⟨none,0,0⟩⟩,H,m4),⟨⟨rfl,rfl,?_,ho,Ub hv a2,U⟩,((y.trans D).trans V).trans o4,c4⟩,MT⟩⟩⟩⟩,?_⟩
   .show 1<=IntKind.i64.wrap (1+j)/\IntKind.i64.wrap (1+j)<=6;rw[dR aC aC];omega
   clear y z C U H;rintro⟨p,H,C⟩ ⟨pw,y,z⟩;dsimp only;refine⟨λ⟨p,A⟩=>bdQ f d H p/\aL m A cb/\aI A h cb,⟨cb,3,rfl,aC,aC,z,λr F D E=>aB (λ_=>⟨cb,s,t,H,f,d,rfl,E,O,ht,l1,l2,λo m3 ho V W=>⟨(⟨p.op,p.cmp,p.left,o,p.args⟩,m3),⟨⟨pw.args_,pw.op_,pw.cmp_,pw.left_,ho,pw.kind_⟩,(y.trans D).trans V,W⟩,MT⟩⟩) (λ_=>⟨(p,F),⟨pw,y.trans D,E⟩,MT⟩)⟩,?_⟩;clear pw y z C p;rintro⟨p,C⟩ ⟨pw,y,z⟩;dsimp only;refine⟨λ⟨p,A⟩=>bdQ f d H p/\aL m A cb/\aI A h cb,⟨cb,6,rfl,aC,aC,z,λr F D E=>aB (λ_=>⟨(⟨p.op,p.cmp,p.right,p.left,p.args⟩,F),⟨⟨pw.args_,pw.op_,pw.cmp_,pw.right_,pw.left_,pw.kind_⟩,y.trans D,E⟩,MT⟩) (λ_=>⟨(p,F),⟨pw,y.trans D,E⟩,MT⟩)⟩,?_⟩;clear pw y z C p;rintro⟨p,C⟩ ⟨pw,y,z⟩;exact hK p _ C h (.refl _) (NW pw.args_) (pw.pw g) y z
  have a3:=kb hb;have hw:IntKind.i64.wrap ((g:Int)-1)=((g-1:Nat):Int):=by rw[dR aC aC];omega
  rw[hw];have X:g=g-1+1:=by omega
  refine aB (λ_=>⟨cb,s,t,f,d,g-1,rfl,z,O,ht,l1,l2,aC,aC,λv p F h2 G hr hp D E Y Z I J=>?_⟩) (λa4=>⟨cb,3,rfl,z,λj F S j1 D E=>?_⟩)
  .refine hK ⟨6,0,dL,dL,Y⟩ (.mk 6 0 dL dL [p]) F Z (G.trans I) (eA.mk (v:=⟨6,0,dL,dL,Y⟩) ⟨⟨[v],J,rfl,λi x L=>?_⟩,bx⟩) (by rw[X];exact bKJ hp) (y.trans D) (E.mono I)
   match i,L with
   |0,L=>simp at L;subst L;exact⟨v,rfl,hr.mono I⟩
   |_+1,L=>simp at L
  refine⟨λ⟨op,n,Q,A,L⟩=>(op=4\/op=5)/\ -1<=n/\n<=2/\(Q.length:Int)<=2-n/\PH.le h L/\aL m A cb/\aI A L cb/\∃ps:dx,ps.length=Q.length/\(∀q∈ps,PW f d (g-1) q)/\∀(i:Nat) q,ps[i]? =some q->∃u,Q[i]? =some u/\eA L q u,λ⟨_,n,_,_,_⟩=>(n+1).toNat,⟨(_,j,[],F,h),⟨?_,aC,aC,ce,.refl _,y.trans D,E,[],rfl,bx,λi q R=>by simp at R⟩,MT⟩,?_⟩
  .have a4:k≠6:=cg
   have a5:k=7\/k=8:=by omega
   rcases a5 with rfl|rfl
   .exact .inl bz
   .exact .inr bz
  rintro⟨op,n,Q,A,L⟩ ⟨a',n0,n1,ul,G,ox,cx,ps,pl,pw,a0⟩;dsimp only;refine aE (λhn=>⟨cb,s,t,f,d,g-1,rfl,cx,O.mono G,ht.mono G,l1,l2,aC,aC,λv p m3 Z B hr hp V W=>⟨ce,ce,(op,n-1,Q++[v],m3,Z),⟨a',cg,cg,ce,G.trans B,ox.trans V,W,ps++[p],by simp[pl],?_,?_⟩,?_,?_⟩⟩) (λhn Y Z B J=>?_)
  .grind
  .intro i q R;by_cases hi:i<ps.length
   .rw[getElem?_append_left hi]at R;obtain⟨u,h1,h2⟩:=a0 i q R;exact⟨u,cg,h2.mono B⟩
   grind
  .grind
  .rw[cv,dR aC aC];exact MT
  .exact hK ⟨op,0,dL,dL,Y⟩ (.mk op 0 dL dL ps) A Z (G.trans B) (eA.mk (v:=⟨op,0,dL,dL,Y⟩) ⟨⟨Q,J,pl,λi q R=>(a0 i q R).imp λu hu=>⟨hu.1,hu.2.mono B⟩⟩,aC⟩) (by rw[X];exact bLQ a' pw aC) ox (cx.mono B)
theorem VH(h:Ma l):l.all eM=true:=all_eq_true.2 λk c=>by
 rcases h k c with e|e|e<;>subst e<;>rfl
theorem Y0{cols params:dm}{d:Nat}(x:PW cols params d p)(e:d<=2)(c:Ma cols)(f:Ma params):iL cols params p=0:=by
 have j:=NG p 0;have o:=x.siz.n;have g:=LO p 8 (by have:=x.siz.d;omega)
 have t:gF d<=13:=by match d,e with
  |0,_=>decide
  |1,_=>decide
  |2,_=>decide
 unfold iL;rw[VH c,VH f,if_neg bx,g,if_neg ce,x.valid c];rfl
theorem Kt:di 44 Ep:=by
 refine gO func44 ?_;rintro H m h K ⟨cb,s,t,e,c,f,rfl,I,n,o,A,B,J,C⟩;refine⟨dG [(93,a3Z 1001),(94,vC)] [] [] [] false,rfl,aD (Zg 1001) (aD Kn aF),UX 1001 cb s t f m h K,bu,?_⟩;dsimp only[UX,push_cast];refine⟨cb,s,t,e,c,f,rfl,I,n,o,A,B,aC,J,λv p L M d D E F G=>⟨s,t,v,e,c,p,rfl,n.mono d,o.mono d,D,aB (λ_=>⟨cb,s,t,e,c,1,rfl,G,n.mono d,o.mono d,A,B,aC,aC,λO P Q R g u j S T=>C O P Q R (d.trans g) u ⟨j.vals,λ_ y z=>Y0 j bz y z⟩ (F.trans S) T⟩) (λ_=>C v p L M d D ⟨E.vals,λU y z=>Y0 E U y z⟩ F G)⟩⟩
def cJ:Sl:=⟨none,0,0⟩
def Z0:Vc.Spec:=λc m h K=>∃n k,c=[SZ n,cI k]/\K (.val (.agg ⟨(pF.mk n k).enc⟩)) m h
def a6Q:Vc.Spec:=λc m h K=>∃t,c=[cI t]/\K (aQ ⟨1,t,hZ,cJ,cJ,cJ,cJ,0,cJ⟩) m h
def bCX(v:QV)(g o:Sl)(k:Int):QV:=⟨v.op,v.table,v.where_,v.columns,v.on,g,o,k,v.args⟩
def bEZ:Vc.Spec:=λd m h K=>∃cb v s c,d=[cP cb,aQ (bCX v cJ cJ v.limit),cS s]/\aI m h cb/\Ints h s c/\c.length<=1000/\
 ∀g o k gr od m' h',PH.le h h'->Ints h' g gr->jU h' o od->gr.length<=c.length->od.length<=c.length->0<=k->k<=3->aL m m' cb->aI m' h' cb->K (aQ (bCX v g o k)) m' h'
noncomputable def bqJ(cb:Nat)(v:QV)(s:Sl)(h:PH):Ctx:=
 dG [(12,C2),(13,G8)] [(2,{A:=Nat×dm×dr×MH,st:=λ⟨i,gr,od,m⟩=>bK 37 40 [(0,pv cb),(4,.at (.ptr 4 0)),(6,.at (.ptr 6 0)),(9,iv s.len),(10,iv i)] [(4,.cells 38 ((v.enc.take 17).map .val++[.lst 19,.lst 30,.val (.int .i64 v.limit),.val (.slice v.args.a v.args.len v.args.cap)])),(6,.cells 38 (oM.enc.map .val)),(19,.lst 3 1 (gr.map eI)),(30,.lst 103 2 (od.map pO))] m h})] [] [] false
def aGZ(n:ByteArray)(k:Int)(m:MH)(h:PH)(K:dk):Prop:=
  K (pN (kR (Value.string n) (fB k))) m h
def aIQ(t:Int)(m:MH)(h:PH)(K:dk):Prop:=
  K (pN (uG (fB 1) (fB t))) m h
abbrev F2(a:QV):Prop:=eQ (oQ 38 (eO (iG a.op) (tF a) (qU a (eO (rZ a) (xG a.on) (eO (At.lst 19) (At.lst 30) (mO (xN a) (xG a.args)))))))
noncomputable abbrev pY(a:Nat×dm×dr×MH):List dj:=NM a.2.2.1
abbrev Iw(a:Nat×dm×dr×MH->Prop)(b:Nat×dm×dr×MH->Nat)(c:Nat×dm×dr×MH)(d:Nat)(e:Sl)(g:Prop)(i j:(Nat×dm×dr×MH)->Prop)(k:MH)(l:PH):Prop:=∃(x:Nat×dm×dr×MH),aA (a x) (b x<b c) (aA (dN d) eV (aA (eP 6) (a7 e) (aA (aU (aW c.1 1) x.1) g (aA fM (i x) (aA (j x) (k=x.2.2.2) (bH l l))))))
attribute [push_cast] F2 pY Iw
def UY(cb:Nat)(v:QV)(s:Sl)(m:MH)(h:PH)(K:dk):Prop:=
  ∃(I:Nat×dm×dr×MH->Prop)(o:Nat×dm×dr×MH->Nat),(∃(x:Nat×dm×dr×MH),aA (I x) (dN cb) (aA eV (eP 6) (aA (a7 s) (aY x.1) (aA (F2 v) fM (aA (uA x.2.1) (kN 103 2 (cD 103 2 (pY x))) (aA (m=x.2.2.2) (h=h) True))))))/\∀(x:Nat×dm×dr×MH),I x->aR (↑x.1:Int) (aH s) (lT cb 3 x.2.2.2 h (λc r=>∀(f:MH),aT (aL x.2.2.2 f c) (aI f h c) (branch r (aA (gS (jX (fH x.2.1) 1*8)) (dH (fH x.2.1)) (lT cb 3 f h (λj t=>∀(e:MH),aT (aL f e j) (aI e h j) (branch t (lT cb 2 e h (λn u=>∀(g:MH),aT (aL e g n) (aI g h n) (aA (gS (jX (pY x) 1*16)) (dH (pY x)) (Iw I o x cb s (F2 v) (fun
 d=>v8 (fH x.2.1) (↑x.1:Int) d.2.1) (λd=>cD 103 2 (dY (pY x) (kR (fB (↑x.1:Int)) (Value.bool u)))=cD 103 2 (pY d)) g h)))) (Iw I o x cb s (F2 v) (λd=>v8 (fH x.2.1) (↑x.1:Int) d.2.1) (λd=>cD 103 2 (pY x)=cD 103 2 (pY d)) e h))))) (lT cb 3 f h (λj t=>∀(e:MH),aT (aL f e j) (aI e h j) (branch t (lT cb 2 e h (λn u=>∀(g:MH),aT (aL e g n) (aI g h n) (aA (gS (jX (pY x) 1*16)) (dH (pY x)) (Iw I o x cb s (F2 v) (λd=>uB (fH x.2.1) d.2.1) (λd=>cD 103 2 (dY (pY x) (kR (fB (↑x.1:Int)) (Value.bool u)))=cD 103 2 (pY d)) g h)))) (Iw I o x cb s (F2 v) (λd=>uB (fH x.2.1) d.2.1) (λd=>cD 103 2 (pY x)=cD 103
 2 (pY d)) e h))))))) (fS cb 4 x.2.2.2 h (λk f=>bU h 1 (fH x.2.1) (λy z=>bU z 2 (pY x) (λA B=>K (IA v v (a8 (kZ (mZ v)) (qZ (gV v)) (a8 (rA (gV v)) (kM (gV v)) (a8 (lZ (gV v)) (kZ (gV v)) (a8 (Fb v) (Fc v) (a8 (fF v.on) (fF y) (a8 (fF A) (fB k) (aM v.args)))))))) f B))))
theorem ahZ:di 92 Z0:=by
 refine gO func92 ?_;rintro c m h K ⟨n,k,rfl,d⟩;refine⟨dG [] [] [] [] false,rfl,aF,aGZ n k m h K,bu,?_⟩;exact d
theorem Qh:di 40 a6Q:=by
 refine gO func40 ?_;rintro c m h K ⟨t,rfl,d⟩;refine⟨dG [] [] [] [] false,rfl,aF,aIQ t m h K,bu,?_⟩;exact d
theorem akQ:di 43 bEZ:=by
 refine gO func43 ?_;rintro J m h K ⟨cb,v,s,c,rfl,L,M,Y,O⟩;refine⟨bqJ cb v s h,rfl,aD D9 (aD sV aF),UY cb v s m h K,bu,?_⟩;dsimp only[UY,push_cast];have P:=M.slen;refine⟨λ⟨i,gr,od,F⟩=>i<=c.length/\gr.length<=i/\od.length<=i/\aL m F cb/\aI F h cb,λ⟨i,_,_,_⟩=>c.length-i,⟨(0,[],[],m),⟨aC,bx,bx,.refl _ _,L⟩,MT⟩,?_⟩;rintro⟨i,gr,od,Z⟩ ⟨hi,hg,ho,n,G⟩;dsimp only;refine aE (λQ=>?_) (λR=>?_)
 .have fin:∀(f:dm)(g:dr) m',f.length<=i+1->g.length<=i+1->aL m m' cb->aI m' h cb->(i+1<=c.length/\f.length<=i+1/\g.length<=i+1/\aL m m' cb/\aI m' h cb):=λf g m' H B S T=>⟨aC,H,B,S,T⟩
  refine⟨cb,3,rfl,aC,aC,G,λr I j A=>aB (λ_=>⟨ce,ce,cb,3,rfl,aC,aC,A,λC o t u=>aB (λ_=>⟨cb,2,rfl,aC,aC,u,λy z D E=>⟨ce,ce,(i+1,gr++[(i:Int)],od++[((i:Int),y)],z),fin (gr++[(i:Int)]) (od++[((i:Int),y)]) z ce ce (((n.trans j).trans t).trans D) E,aC,?_⟩⟩) (λ_=>⟨(i+1,gr++[(i:Int)],od,o),fin (gr++[(i:Int)]) od o ce aC ((n.trans j).trans t) u,aC,?_⟩)⟩)
   (λ_=>⟨cb,3,rfl,aC,aC,A,λC o t u=>aB (λ_=>⟨cb,2,rfl,aC,aC,u,λy z D E=>⟨ce,ce,(i+1,gr,od++[((i:Int),y)],z),fin gr (od++[((i:Int),y)]) z aC ce (((n.trans j).trans t).trans D) E,aC,?_⟩⟩) (λ_=>⟨(i+1,gr,od,o),fin gr od o aC aC ((n.trans j).trans t) u,aC,MT⟩)⟩)⟩
  .simp only[cv];exact MT
  .simp only[cv];exact MT
  .simp only[cv];exact MT
 .refine⟨cb,4,rfl,G,λk I U k1 j A V H e W X B d C=>?_⟩;exact O V X k gr od I B (e.trans d) ⟨W.mono d,aC⟩ ⟨C,aC⟩ aC aC U aC (n.trans j) (A.mono (e.trans d))
def a7Z:Vc.Spec:=λc m h K=>∃cb s t a b,c=[cP cb,cS s,cS t]/\aI m h cb/\Ints h s a/\Ints h t b/\a.length<=1000/\b.length<=1000/\
 ∀o on m' h',PH.le h h'->lE h' o on->on.length<=10->aL m m' cb->aI m' h' cb->K (cS o) m' h'
noncomputable def brX(cb:Nat)(s t:Sl)(h:PH):Ctx:=
 dG [(12,C2)] [(3,{A:=Int×dp×MH,st:=λ⟨n,on,m⟩=>bK 77 80 [(0,pv cb),(1,sv s),(2,sv t),(7,.at (.lst 75)),(8,iv n)] [(75,.lst 101 2 (on.map mJ))] m h}),
  (8,{A:=Int×Nat×dp×(Int×Int)×Bool×MH,st:=λ⟨n,i,on,p,f,m⟩=>bK 77 80 [(0,pv cb),(1,sv s),(2,sv t),(7,.at (.lst 75)),(8,iv n),(9,.at (.ptr 9 0)),(10,bv f),(49,.at (.lst 75)),(50,iv on.length),(51,iv i)] [(9,.cells 101 [.val (.int .i64 p.1),.val (.int .i64 p.2)]),(75,.lst 101 2 (on.map mJ))] m h})] [] [] false
noncomputable abbrev AG(a:Int×dp×MH):List dj:=Kb a.2.1
noncomputable abbrev DN(a:Int×Nat×dp×(Int×Int)×Bool×MH):Bool:=a.2.2.2.2.1
noncomputable abbrev AF(a:Int×Nat×dp×(Int×Int)×Bool×MH):Nat:=a.2.2.1.length
noncomputable abbrev Bk(a:Int×Nat×dp×(Int×Int)×Bool×MH):Int×Int:=a.2.2.2.1
noncomputable abbrev rC(a:Int×Nat×dp×(Int×Int)×Bool×MH):List dj:=Kb a.2.2.1
noncomputable abbrev yN(a:Int×Nat×dp×(Int×Int)×Bool×MH):Nat->Option Obj:=a.2.2.2.2.2
abbrev Mo(a:ff->Prop)(b:ff->Nat)(c d:Nat)(e g:Sl)(i:Int×Nat×dp×(Int×Int)×Bool×MH)(j:ff->Int×Nat×dp×(Int×Int)×Bool×MH)(k:ff->Prop):Prop:=∃(x:Int×Nat×dp×(Int×Int)×Bool×MH),aA (a x) (b x<c) (aA (dN d) (aG e) (aA (aG g) (eL 75) (aA (dQ i.1 (j x).1) (eP 9) (k x))))
attribute [push_cast] AG DN AF Bk rC yN Mo
def U0(cb:Nat)(s t:Sl)(m:MH)(h:PH)(K:dk):Prop:=
  fS cb 3 m h (λk D=>∃(I:Int×dp×MH->Prop)(n:Int×dp×MH->Nat),(∃(x:Int×dp×MH),aA (I x) (dN cb) (aA (aG s) (aG t) (aA (eL 75) (dQ k x.1) (aA (kN 101 2 (cD 101 2 (AG x))) (D=x.2.2) (bH h h)))))/\∀(x:Int×dp×MH),I x->eR x.1 0 (eR (aH s) 0 (eR (aH t) 0 (fS cb (aH s) x.2.2 h (λu E=>fS cb (aH t) E h (λz A=>aA (cC 0) ((0:Int)<2) (eU s.a 0 u s (λb o y=>aA (aK A h b (cF o u 1) (cO y)) ((0:Int)<=1) ((1:Int)<2/\eU t.a 0 z t (λF G C=>aK A h F (cF G z 1) (cO C)/\∃(I1:Int×Nat×dp×(Int×Int)×Bool×MH->Prop)(f:Int×Nat×dp×(Int×Int)×Bool×MH->Nat),(∃(c:Int×Nat×dp×(Int×
 Int)×Bool×MH),aA (I1 c) (dN cb) (aA (aG s) (aG t) (aA (eL 75) (dQ x.1 c.1) (aA (eP 9) (iW (y==C) (DN c)) (aA (eL 75) (bO (AG x).length (AF c)) (aA (aY c.2.1) (DM (mO (iG u) (iG z)) (uE (Bk c))) (bG (cD 101 2 (AG x)=cD 101 2 (rC c)) (A=yN c) (h=h))))))))/\∀(c:Int×Nat×dp×(Int×Int)×Bool×MH),I1 c->aR (↑c.2.1:Int) (↑(AF c):Int) (BZ (↑c.2.1:Int) (jY (rC c)) (λe=>uN (rC c) (sU c.2.1) e/\∃(B:Int×Int),iX (Dx 2 e (wO B)) (DN c) (aA (cC 0) ((0:Int)<2) (aA (cC 0) ((0:Int)<2) (fW B.1 (Bk c).1 (aA (cC 1) ((1:Int)<2) (aA (cC 1) ((1:Int)<2) (Mo (λd=>I1 d) (λd=>f d) (f c) cb s t c (λd=>d)
 (λd=>aA (iW (B.2 !=(Bk c).2) (DN d)) (eL 75) (aA (bO (AF c) (AF d)) (aU (aW c.2.1 1) d.2.1) (aA (DM (uE (Bk c)) (uE (Bk d))) (cD 101 2 (rC c)=cD 101 2 (rC d)) (aA (yN c=yN d) (h=h) True))))))) (Mo (λd=>I1 d) (λd=>f d) (f c) cb s t c (λd=>d) (λd=>aA (xL (DN d)) (eL 75) (aA (bO (AF c) (AF d)) (aU (aW c.2.1 1) d.2.1) (aA (DM (uE (Bk c)) (uE (Bk d))) (cD 101 2 (rC c)=cD 101 2 (rC d)) (aA (yN c=yN d) (h=h) True)))))))) (Mo (λd=>I1 d) (λd=>f d) (f c) cb s t c (λd=>d) (λd=>aA (xL (DN d)) (eL 75) (aA (bO (AF c) (AF d)) (aU (aW c.2.1 1) d.2.1) (aA (DM (uE
 (Bk c)) (uE (Bk d))) (cD 101 2 (rC c)=cD 101 2 (rC d)) (aA (yN c=yN d) (h=h) True))))))) (branch (DN c) (aA (gS (jX (rC c) 1*16)) (dH (rC c)) (∃(d:Int×dp×MH),aA (I d) (n d<n x) (aA (dN cb) (aG s) (aA (aG t) (eL 75) (aA (dQ (iJ (c.1-1)) d.1) (cD 101 2 (dY (rC c) (wO (Bk c)))=cD 101 2 (AG d)) (bE (yN c=d.2.2) h h)))))) (∃(d:Int×dp×MH),aA (I d) (n d<n x) (aA (dN cb) (aG s) (aA (aG t) (eL 75) (aA (dQ (iJ (c.1-1)) d.1) (cD 101 2 (rC c)=cD 101 2 (AG d)) (bE (yN c=d.2.2) h h))))))))))))) (bU h 2 (AG x) (λg j=>K (fD g) x.2.2 j))) (bU h 2 (AG x) (λg j=>K (fD g) x.2.2 j))) (bU h 2
 (AG x) (λg j=>K (fD g) x.2.2 j)))
theorem akZ:di 41 a7Z:=by
 refine gO func41 ?_;rintro L m h K ⟨cb,s,t,a,b,rfl,M,C,D,l1,l2,O⟩;refine⟨brX cb s t h,rfl,aD D9 aF,U0 cb s t m h K,bu,?_⟩;dsimp only[U0,push_cast];have P:=C.slen;have Q:=D.slen;refine⟨cb,3,rfl,M,λk g E R d j=>⟨λ⟨n,on,A⟩=>0<=n/\n<=2/\(on.length:Int)<=2-n/\aL m A cb/\aI A h cb,λ⟨n,_,_⟩=>n.toNat,⟨(k,[],g),⟨E,aC,ce,d,j⟩,MT⟩,?_⟩⟩;clear E R d j g;rintro⟨n,on,g⟩ ⟨n0,n1,S,d,j⟩;dsimp only;have out:∀(e:Sl)(h':PH),PH.le h h'->bN h' e 2 (on.map mJ)->K (.val (.slice e.a e.len e.cap)) g h':=λe h' o u=>O e on g h' o ⟨u,aC⟩ aC d (j.mono o);refine aE (λhn=>aE (λhp=>aE (λhq=>?_) (λ_=>out)) (λ_=>out)) (λ_=>out);refine⟨cb,s.len,rfl,j,λx m2 F x1 G T=>⟨cb,t.len,rfl,T,λy c H y1 I J=>?_⟩⟩;obtain⟨U,V,W,X⟩:=C.inb (n:=x) F aC;obtain⟨Y,Z,e2,r2⟩:=D.inb (n:=y) H aC;refine⟨aC,aC,U,V,W,F,aC,_,.imm X,aC,aC,Y,Z,e2,H,aC,_,.imm r2,?_⟩;refine⟨λ⟨n',i,B,p,f,A⟩=>n'=n/\B=on/\A=c/\i<=on.length,λ⟨_,i,_,_,_,_⟩=>on.length-i,⟨(n,0,on,(x,y),a.getD x.toNat 0==b.getD y.toNat 0,c),⟨rfl,rfl,rfl,aC⟩,?_⟩,?_⟩
 .rw[length_map];exact MT
 rintro⟨n,i,on,p,f,c⟩ ⟨rfl,rfl,rfl,hi⟩;dsimp only;refine aE (λa'=>?_) (λa0=>?_)
 .have hl:i<on.length:=by omega
  have z:(on.map mJ)[i]? =some (mJ on[i]):=cg
  refine⟨aC,cg,_,z,on[i],rfl,aB (λ_=>⟨aC,aC,aC,aC,aB (λ_=>⟨aC,aC,aC,aC,(n,i+1,on,p,_,c),⟨rfl,rfl,rfl,ck⟩,cj,MT⟩) (λ_=>⟨(n,i+1,on,p,_,c),⟨rfl,rfl,rfl,ck⟩,cj,MT⟩)⟩) (λ_=>⟨(n,i+1,on,p,_,c),⟨rfl,rfl,rfl,ck⟩,cj,MT⟩)⟩
 .have hw:IntKind.i64.wrap (n-1)=n-1:=dR aC aC;rw[hw];refine aB (λ_=>⟨cg,cg,(n-1,on++[p],c),⟨aC,aC,ce,(d.trans G).trans I,J⟩,aC,?_⟩) (λ_=>⟨(n-1,on,c),⟨aC,aC,cg,(d.trans G).trans I,J⟩,aC,MT⟩);rw[cv];exact MT
def bYJ:Vc.Spec:=λd m h K=>∃s e,∃c:Nat,d=[cS s,cI c]/\bN h s 1 (bP e)/\s.len<=s.cap/\c<=1000/\∀cb m' h',PH.le h h'->m cb=none->aL m m' cb->aI m' h' cb->K (cP cb) m' h'
abbrev u9(a b:Prop)(c:(List dj)->Prop):Prop:=aA a b (∃(x:List dj),c x)
abbrev AR(a:Int)(b:Sl):Prop:=a<=(↑b.cap:Int)
attribute [push_cast] u9 AR
def Zh(s:Sl)(c:Nat)(m:MH)(h:PH)(K:dk):Prop:=
  u9 (cC (ite ((↑c:Int)<aH s) (↑c:Int) (aH s))) (AR (ite ((↑c:Int)<aH s) (↑c:Int) (aH s)) s) (λy=>aA (cT 1 y) (kS m h (Sl.mk s.a (ite ((↑c:Int)<aH s) (↑c:Int) (aH s)).toNat s.cap) 1 y) (aA (wT y 1) (wU y) (bU h 1 y (λf d=>∀(b:Nat)(e:MH),aT (dZ m d b) (bL m e b (kR (fF f) eH) 83) (K (bY b) e d)))))
theorem H8(l:dw):cT 1 (bP l):=by
 constructor
 .intro e c;obtain⟨x,_,rfl⟩:=mem_map.1 c;rfl
 .intro e c u d;obtain⟨x,_,rfl⟩:=mem_map.1 c;simp at d;subst d;rfl
theorem bN.cut{s:Sl}(r:bN h s sz xs)(n:Nat)(c:n<=xs.length):bN h ⟨s.a,n,s.cap⟩ sz (xs.take n):=by
 refine⟨ce,?_,by have d:=r.len;have f:=r.cap;grind⟩;rcases r.row with e|⟨b,o,g,k⟩
 .grind
 grind
theorem aGJ:di 8 bYJ:=by
 refine gO func8 ?_;rintro t m h K ⟨s,g,c,rfl,n,A,B,u⟩;refine⟨vM [] [] [] [] [83] [] false,rfl,aF,Zh s c m h K,bu,?_⟩;have C:s.len=g.length:=by have:=n.len;simpa[bP]using this
 dsimp only[Zh,push_cast];have d:(if(c:Int)<(s.len:Int)then(c:Int)else(s.len:Int))=((min c s.len:Nat):Int):=by omega
 rw[d];have e:=bN.cut n (min c s.len) (by simp[bP];omega);refine⟨aC,aC,bP (g.take (min c s.len)),H8 _,.imm ?_,by simp[bP];omega,by simp[bP];omega,λy h' j f b m' z o=>?_⟩
 .rw[show bP (g.take (min c s.len))=(bP g).take (min c s.len)by simp[bP,map_take]];exact e
 .exact u b m' h' j z.m_ ⟨o.other⟩ ⟨_,⟨⟨y,_,0,o.at_,f,aC,ce,rfl⟩⟩⟩
def bFJ:Vc.Spec:=λc m h K=>∃n:Nat,c=[.val (.slice none 0 0),cI n]/\n<=1000/\K (.lst 3 1 []) m h
noncomputable def aUZ(c:Sl)(m:MH)(h:PH):Ctx:=
 dG [(222,bFJ)] [(3,{A:=Nat×Nat,st:=λ⟨i,n⟩=>bK 36 37 [(0,sv c),(3,iv n),(9,sv c),(10,iv c.len),(11,iv i)] [] m h}),
  (11,{A:=Nat×dm,st:=λ⟨i,l⟩=>bK 36 37 [(6,.at (.lst 24)),(25,sv c),(26,iv c.len),(27,iv i)] [(24,.lst 3 1 (l.map eI))] m h})] [] [] false
abbrev Jf(a:Int):Prop:=a<=140737488355328
noncomputable abbrev B6(a:Int)(b:dj):List dj:=replicate a.toNat b
attribute [push_cast] Jf B6
def QF(n:Nat)(m:MH)(h:PH)(K:dk):Prop:=
  eR (iJ ((↑n:Int)-iJ ((0:Int)-0))) 0 (aA (cC 0) (cC 0) (aA (0<iJ ((↑n:Int)-0)) (Jf (iJ ((↑n:Int)-0)*8)) (aA (Jf (iJ ((↑n:Int)-0))) ((0:Int)<=0) (cC (jY (B6 (iJ ((↑n:Int)-0)) (nT eH)))/\K (CV.lst 3 1 []) m h)))) (K (CV.lst 3 1 []) m h)
abbrev Gj(a:(Nat×Nat->Prop)->(Nat×Nat)->Prop)(b:(Nat×Nat->Prop)->(Nat×Nat->Nat)->(Nat×Nat)->Prop):Prop:=∃(x:Nat×Nat->Prop)(d:Nat×Nat->Nat),(∃(c:Nat×Nat),a x c)/\∀(c:Nat×Nat),b x d c
attribute [push_cast] Gj
def Rm(d:Sl)(m:MH)(h:PH)(K:dk):Prop:=
  Gj (λI x=>aA (I x) (aG d) (aA (aY x.2) (aG d) (aA (a7 d) (aY x.1) (aA (m=m) (h=h) True)))) (λI g x=>I x->aR (↑x.1:Int) (aH d) (cK d.a (↑x.1:Int) d (λb o y=>aK m h b (bC o x.1 1) (aM y)/\aR (aW x.2 (aH y)) 0 False (∃(c:Nat×Nat),aA (I c) (g c<g x) (aA (aG d) (aU (aW x.2 (aH y)) c.2) (aA (aG d) (a7 d) (aA (aU (aW x.1 1) c.1) (m=m) (bH h h))))))) (∃(n:Nat),aA (mF nK x.2=mF nK n) (nV n) (∃(I1:Nat×dm->Prop)(j:Nat×dm->Nat),(∃(c:Nat×dm),aA (I1 c) (eL 24) (aA (aG d) (a7 d) (aA (aY c.1) (uA c.2) (aA (m=m) (h=h) True))))/\∀(c:Nat×dm),I1 c->aR (↑c.1:Int) (aH d) (cK d.a (↑c.1:Int) d (λb o y=>aK m h b (bC o c.1 1)
 (aM y)/\∃(e:List dj),aA (cT 1 e) (bN h (bD y) 1 e) (aA (kH (fH c.2) e 8) (kC (fH c.2) e) (∃(f:Nat×dm),aA (I1 f) (j f<j c) (aA (eL 24) (aG d) (aA (a7 d) (aU (aW c.1 1) f.1) (aA (uB (fH c.2++e) f.2) (m=m) (bH h h)))))))) (oB h (fH c.2) K m))))
theorem Xz:di 222 bFJ:=by
 refine gO func222 ?_;rintro d m h K ⟨n,rfl,f,c⟩;refine⟨dG [] [] [] [] true,rfl,aF,QF n m h K,bu,?_⟩;dsimp only[QF,push_cast];have e:IntKind.i64.wrap ((n:Int)-0)=n:=by rw[dR aC aC];omega
 have g:IntKind.i64.wrap ((n:Int)-IntKind.i64.wrap (0-0))=n:=by rw[show IntKind.i64.wrap (0-0)=0 from by rw[dR aC aC];rfl,e]
 exact aE (λj=>⟨aC,aC,aC,aC,aC,aC,aC,c⟩) (λ_=>c)
def zW(ks:List dm):Nat:=(ks.map List.length).sum
theorem Lp{k:dm}(c:ks[i]? =some k):zW (ks.take (i+1))=zW (ks.take i)+k.length:=by
 unfold zW;rw[db,c];simp
theorem JN{ks:List dm}(h:∀k∈ks,k.length<=12):∀i,zW (ks.take i)<=12*i
 |0=>by simp[zW]
 |i+1=>by
  have c:=JN h i;cases e:ks[i]? with
  |none=>rw[db,e];grind
  |some k=>rw[Lp e];grind
theorem X5:di 164 M7:=by
 refine gO func164 ?_;rintro F m h K ⟨B,ks,rfl,y,M,d,G⟩;refine⟨aUZ B m h,rfl,aD Xz aF,Rm B m h K,bu,?_⟩;dsimp only[Rm,push_cast];have j:=aZ.slen y;refine⟨λ⟨i,n⟩=>i<=ks.length/\n=zW (ks.take i),λ⟨i,_⟩=>ks.length-i,⟨(0,0),⟨aC,by simp[zW]⟩,MT⟩,?_⟩;rintro⟨i,n⟩ ⟨C,rfl⟩;dsimp only;have H:=JN d i;refine aE (λc=>?_) (λt=>?_)
 .obtain⟨k,e⟩:=eN j c;obtain⟨b,o,g,z,r,f⟩:=aZ.at y e;have I:=f.slen;have u:=d k (cr e)
  have J:IntKind.i64.wrap ((zW (ks.take i):Int)+(g.len:Int))=((zW (ks.take (i+1)):Nat):Int):=by
   rw[Lp e,dR aC aC];omega
  refine⟨b,o,z,aC,c,g,.imm r,?_⟩;rw[J];exact aE (λD=>by omega) (λ_=>⟨(i+1,zW (ks.take (i+1))),⟨aC,rfl⟩,aC,MT⟩)
 .refine⟨zW (ks.take i),rfl,aC,?_⟩;refine⟨λ⟨i,l⟩=>i<=ks.length/\l=(ks.take i).flatten,λ⟨i,_⟩=>ks.length-i,⟨(0,[]),⟨aC,bx⟩,MT⟩,?_⟩;clear H t C;rintro⟨i,l⟩ ⟨C,rfl⟩;dsimp only;have L:(ks.take i).flatten.length<=12*i:=by have:=JN d i;simpa[zW,length_flatten]using this
  refine aE (λc=>?_) (λt g h' A E=>G g h' A ⟨?_,?_⟩)
  .obtain⟨k,e⟩:=eN j c;obtain⟨b,o,g,z,r,f⟩:=aZ.at y e;have u:=d k (cr e);refine⟨b,o,z,aC,c,g,.imm r,k.map eI,pH k,f.row,?_,?_,(i+1,(ks.take (i+1)).flatten),⟨aC,rfl⟩,aC,?_⟩
   .grind
   .grind
   .rw[db,e,Option.toList_some,flatten_append,cv,flatten_cons,flatten_nil,append_nil];exact MT
  .grind
  grind
theorem ahQ:∀N,di 98 (A3 N):=Ze X5
mutual
def vJ:Query->Nat->Int->Bool×Int
 |.mk _ _ _ _ _ _ _ _ args,k,n=>if 24<n+1\/k=0 then(false,0)else Eu args (k-1) (n+1)
def Eu:dt->Nat->Int->Bool×Int
 |[],_,n=>(true,n)
 |q::qs,k,n=>match vJ q k n with|(false,_)=>(false,0)|(true,c)=>Eu qs k c
end
mutual
def szQ:Query->Int
 |.mk _ _ _ _ _ _ _ _ args=>1+HX args
def HX:dt->Int
 |[]=>0
 |p::ps=>szQ p+HX ps
end
mutual
theorem Sa:∀p:Query,1<=szQ p
 |.mk _ _ _ _ _ _ _ _ args=>by have:=EP args;simp only[szQ];omega
theorem EP:∀ps:dt,0<=HX ps
 |[]=>by simp[HX]
 |p::ps=>by have:=Sa p;have:=EP ps;simp only[HX];omega
end
mutual
theorem PU:∀(p:Query)(n:Int),n<=24->(n+szQ p<=24->oP p n=n+szQ p)/\(24<n+szQ p->oP p n=25)
 |.mk _ _ _ _ _ _ _ _ args,n,h=>by
  obtain⟨c,d⟩:=NC args (n+1) aC;simp only[oP,szQ];omega
theorem NC:∀(ps:dt)(n:Int),n<=25->(n+HX ps<=24->kT ps n=n+HX ps)/\(24<n+HX ps->kT ps n=25)
 |[],n,h=>by
  simp only[kT,HX];omega
 |p::ps,n,h=>by
  have e:=Sa p;have f:=EP ps;simp only[kT,HX];by_cases c:n<=24
  .rw[if_pos c];have g:=PU p n c;have d:=(Dg p n c).2;have j:=NC ps _ d;omega
  omega
end
mutual
theorem R5:∀(p:Query)(k:Nat)(n:Int),n<=24->((vJ p k n).1=true↔n+szQ p<=24/\nJ p k=false)/\((vJ p k n).1=true->(vJ p k n).2=n+szQ p)
 |.mk _ _ _ _ _ _ _ _ args,k,n,h=>by
  have f:=EP args;simp only[vJ,szQ];by_cases c:24<n+1\/k=0
  .rw[if_pos c];refine⟨⟨λe=>(by cases e),λe=>?_⟩,λe=>(by cases e)⟩;rcases c with c|c
   .omega
   .subst c;simp[nJ]at e
  .rw[if_neg c];obtain⟨d,rfl⟩:∃d,k=d+1:=⟨k-1,aC⟩
   obtain⟨g,j⟩:=TC args d (n+1) aC;simp only[nJ,Nat.add_sub_cancel]
   grind
theorem TC:∀(ps:dt)(k:Nat)(n:Int),n<=24->((Eu ps k n).1=true↔n+HX ps<=24/\tW ps k=false)/\((Eu ps k n).1=true->(Eu ps k n).2=n+HX ps)
 |[],k,n,h=>by simp[Eu,HX,tW,h]
 |p::ps,k,n,h=>by
  obtain⟨c,d⟩:=R5 p k n h;have j:=EP ps;simp only[Eu,HX,tW];cases e:vJ p k n with
  |mk r f=>
   rw[e]at c d;cases r with
   |false=>
    grind
   |true=>
    have g:=d rfl;have c:=c.1 rfl;simp only at g;obtain⟨o,t⟩:=TC ps k f aC
    grind
end
theorem Pv(q:Query):(vJ q 8 0).1=uQ q:=by
 have c:=(R5 q 8 0 aC).1;have d:=PU q 0 aC;rw[Bool.eq_iff_iff,c];simp only[uQ,cz,dc,Bool.not_eq_true']
 grind
def Ie:Code->Option (Code×Code)
 |.rangeFunc _ _ a b=>some (a,b)
 |.seq x y=>match Ie x with|some p=>some p|none=>Ie y
 |.block _ c=>Ie c
 |_=>none
noncomputable def rfA:Code:=match Ie (cL Tryz.f57)with|some p=>p.1|none=>.skip
noncomputable def rfB:Code:=match Ie (cL Tryz.f57)with|some p=>p.2|none=>.skip
structure LR where
 fn:FuncId
 tmps:Array Value
 bn:Nat
 b6:Nat
 b7:Nat
 D:Nat
noncomputable def pI(R:LR)(st:LoopState)(c:Option Code):Loop:={state:=st,pending:=c,fn:=R.fn,tmps:=R.tmps,params:= #[37,38],assign:=rfA,body:=rfB,defers:=R.D}
def G6:Obj:=.cells #[.slice none 0 0] 33 (0,0)
def FC(n:Int):Obj:=.cells #[.int .i64 n] 54 (0,0)
structure xX(m:MH)(l:Nat)(R:LR)(n:Int):Prop where
 loop:m l=some (.loop (pI R .ready none))
 n_:m R.bn=some (sC n)
 k_:m R.b6=some G6
 e_:m R.b7=some (FC 0)
 size:R.tmps.size=53
 t11:R.tmps[11]? =some (.pointer (some ⟨R.bn,0,none⟩))
 t6:R.tmps[6]? =some (.pointer (some ⟨R.b6,0,none⟩))
 t7:R.tmps[7]? =some (.pointer (some ⟨R.b7,0,none⟩))
structure zC(m m':MH)(l:Nat)(R:LR):Prop where
 loop:m' l=some (.loop (pI R .done (some .ret)))
 k_:m' R.b6=some G6
 e_:m' R.b7=some (FC 2)
 n_:∃x,m' R.bn=some x
 other:∀b,b≠l->b≠R.bn->b≠R.b6->b≠R.b7->m' b=m b
theorem xX.ne{l:Nat}{R:LR}{n:Int}(x:xX m l R n):l≠R.bn/\l≠R.b6/\l≠R.b7/\R.b6≠R.bn/\R.b7≠R.bn/\R.b6≠R.b7:=by
 have c:=x.loop;have g:=x.n_;have d:=x.k_;have f:=x.e_;refine⟨λe=>?_,λe=>?_,λe=>?_,λe=>?_,λe=>?_,λe=>?_⟩
 .rw[e,g]at c;cases c
 .rw[e,d]at c;cases c
 .rw[e,f]at c;cases c
 .rw[e,g]at d;cases d
 .rw[e,g]at f;cases f
 .rw[e,f]at d;cases d
theorem xX.next{l:Nat}{R:LR}{n d:Int}(x:xX m l R n)(c:gI m m' R.bn (sC d)):xX m' l R d:=by
 obtain⟨e,j,o,f,g,t⟩:=x.ne;exact⟨by rw[c.other l e];exact x.loop,c.at_,by rw[c.other _ f];exact x.k_,by rw[c.other _ g];exact x.e_,x.size,x.t11,x.t6,x.t7⟩
theorem zC.from{c:MH}{l:Nat}{R:LR}{e:Int}(f:gI m c R.bn (sC e))(h:zC c m' l R):zC m m' l R:=
 ⟨h.loop,h.k_,h.e_,h.n_,λb g d j n=>(h.other b g d j n).trans (f.other b d)⟩
def yv(l:Nat):CV:=.val (.func (.yield l) #[] #[])
def YS:Vc.Spec:=λd m h K=>∃l c v R n,d=[yv l,cI c,aQ v]/\xX m l R n/\0<=n/\n<=24/\
 (∀m',(24<n+1\/8<c)->zC m m' l R->K (cB false) m' h)/\(∀m',¬(24<n+1\/8<c)->gI m m' R.bn (sC (n+1))->K (cB true) m' h)
def YA(N:Nat):Vc.Spec:=λc m h K=>∃v q,∃k l:Nat,∃R n,c=[aQ v,cI (9-k),yv l]/\bR h q v/\SizeOf.sizeOf q<N/\k<=9/\xX m l R n/\0<=n/\n<=24/\
 (∀m',(vJ q k n).1=false->zC m m' l R->K (cB false) m' h)/\(∀m',(vJ q k n).1=true->gI m m' R.bn (sC (vJ q k n).2)->K (cB true) m' h)
def Yt(b:Nat):CV:=.val (.pointer (some ⟨b,0,none⟩))
def bWZ:Vc.Spec:=λc m h K=>∃v q l d R,c=[yv l,Yt d]/\m d=some (.cells ⟨v.enc⟩ 38 (0,0))/\bR h q v/\xX m l R 0/\
 (∀m',(vJ q 8 0).1=false->zC m m' l R->K (.tup []) m' h)/\(∀m',(vJ q 8 0).1=true->gI m m' R.bn (sC (vJ q 8 0).2)->K (.tup []) m' h)
def RX:Vc.Spec:=λc m h K=>∃v,c=[aQ v]/\∀b m',dZ m h b->gI m m' b (.cells ⟨v.enc⟩ 38 (0,0))->K (.val (.func (.func 172) #[] #[.pointer (some ⟨b,0,none⟩)])) m' h
noncomputable def aTQ(N:Nat)(v:QV)(k l:Nat)(h:PH):Ctx:=
 {dG [(173,YA N)] [(4,{A:=Nat×MH,st:=λ⟨i,m⟩=>bK 28 31 [(1,iv (9-k)),(2,vv (.func (.yield l) #[] #[])),(15,sv v.args),(16,iv v.args.len),(17,iv i)] [] m h})] [] [] false with yield:=some YS}
abbrev MQ(a:ei->MH->PH->dk->Prop):Prop:=La Proofs.Tryz.prog a
noncomputable abbrev B8(a:Nat):CV:=CV.val (Value.func (Fn.yield a) vG vG)
abbrev D2(a:Nat):Prop:=eQ (Je (Fn.yield a) vG)
noncomputable abbrev AK(a:QV)(b:Int)(c:Nat):ei:=dE a::bJ (fQ b) (B8 c)
attribute [push_cast] MQ B8 D2 AK
def Re(N:Nat)(v:QV)(k l:Nat)(m:MH)(h:PH)(K:dk):Prop:=
  MQ YS/\PY (λj t=>∃(B:QV)(R:LR)(n:Int),aA (B8 l::bJ (fQ (sO k)) (dE v)=B8 j::bJ (fQ t) (dE B)) (xX m j R n) (aA (cC n) (n<=24) ((∀(d:MH),aT (24<n+1\/8<t) (zC m d j R) (K aX d h))/\∀(d:MH),aT (kF (24<n+1\/8<t)) (bL m d R.bn (cO (n+1)) 3) (∃(I:Nat×MH->Prop)(z:Nat×MH->Nat),(∃(x:Nat×MH),aA (I x) (jR (sO k)) (aA (D2 l) (aG v.args) (aA (rP v) (aY x.1) (aA (d=x.2) (h=h) True))))/\∀(x:Nat×MH),I x->aR (↑x.1:Int) (aH v.args) (bT (λb o=>aA (bX v.args.a b o) (0<=(↑x.1:Int)) ((↑x.1:Int)<aH v.args/\∃(y:QV),aK x.2 h b (bC o x.1 21) y.enc/\jD (λA q=>bT (λe u=>∃(R1:LR)(c:Int),aA (AK y (iJ (sO k+1)) l=AK
 A (sO e) u) (bR h q A) (aA (lX q N) (e<=9) (aA (xX x.2 u R1 c) (cC c) (aA (c<=24) (∀(f:MH),aT (J6 (vJ q e c).1) (zC x.2 f u R1) (K aX f h)) (∀(f:MH),aT (gG (vJ q e c).1) (bL x.2 f R1.bn (cO (vJ q e c).2) 3) (∃(g:Nat×MH),aA (I g) (z g<z x) (aA (jR (sO k)) (D2 l) (aA (aG v.args) (a7 v.args) (aA (aU (aW x.1 1) g.1) (f=g.2) (bH h h)))))))))))))) (K eW x.2 h)))))
def aqQ(N:Nat)(l e:Nat)(m:MH)(h:PH)(K:dk):Prop:=
  ∃(y:QV),aK m h e 0 y.enc/\jD (λv q=>bT (λk d=>∃(R:LR)(n:Int),aA (AK y 1 l=AK v (sO k) d) (bR h q v) (aA (lX q N) (k<=9) (aA (xX m d R n) (cC n) (aA (n<=24) (∀(c:MH),aT (J6 (vJ q k n).1) (zC m c d R) (K (CV.tup []) c h)) (∀(c:MH),aT (gG (vJ q k n).1) (bL m c R.bn (cO (vJ q k n).2) 3) (K (CV.tup []) c h)))))))
noncomputable abbrev Dm(a:Nat):Array Value:=Array.mk (nT (vQp a 0))
attribute [push_cast] Dm
def Ob(v:QV)(m:MH)(h:PH)(K:dk):Prop:=
  ∀(b:Nat)(c:MH),aT (dZ m h b) (bL m c b v.enc 38) (K (CV.val (Value.func (Fn.func 172) vG (Dm b))) c h)
theorem Vj(T:La Tryz.prog YS):∀N,di 173 (YA N)
 |0=>by
  refine eC (fn:=Tryz.f173) (c:=cL Tryz.f173) func173 rfl bz ?_;rintro G m h K ⟨v,q,k,l,R,n,rfl,_,V,_⟩;omega
 |N+1=>by
  refine gO func173 ?_;rintro G m h K ⟨v,q,k,l,R,n,rfl,W,V,hk,U,X,Y,H,I⟩;refine⟨aTQ N v k l h,rfl,aD (Vj T N) aF,Re N v k l m h K,bu,?_⟩;dsimp only[Re,push_cast];have d:=W.args;have z:=d.slen;have hl:=d.len;refine⟨T,l,9-k,v,R,n,rfl,U,X,Y,λm' J t=>H m' ?_ t,λm' J Z=>?_⟩
  .cases q;simp only[vJ];grind
  have J:¬(24<n+1\/8<9-(k:Int)):=J;have L:gI m m' R.bn (sC (n+1)):=Z;have hv:vJ q k n=Eu q.args (k-1) (n+1):=by cases q;simp only[vJ,Query.args];grind
  rw[hv]at H I;refine⟨λ⟨i,E⟩=>∃g,i<=q.args.length/\0<=g/\g<=24/\gI m E R.bn (sC g)/\Eu (q.args.drop i) (k-1) g=Eu q.args (k-1) (n+1),λ⟨i,_⟩=>q.args.length-i,⟨(0,m'),⟨n+1,aC,aC,aC,L,bx⟩,MT⟩,?_⟩;rintro⟨i,E⟩ ⟨g,hi,M,A,j,B⟩;dsimp only;refine aE (λC=>?_) (λa'=>?_)
  .obtain⟨p,O⟩:=eN z C;obtain⟨b,o,u,ea,P,Q⟩:=d.at O;have hd:=drop_cons O;rw[hd,Eu]at B;refine⟨b,o,ea,aC,C,u,.imm P,u,p,k-1,l,R,g,?_,Q,?_,aC,U.next j,M,A,λF y t=>?_,λF y S=>?_⟩
   .rw[dR aC aC,show(9-((k-1:Nat):Int))=9-(k:Int)+1 by omega]
   .have:=tQ (cr O);omega
   .refine H F ?_ (t.from j)
    grind
   .have f:gI E F R.bn (sC (vJ p (k-1) g).2):=S;have t:=R5 p (k-1) g A;have a0:=t.1.1 y;have D:=t.2 y;have a1:=Sa p;cases e:vJ p (k-1) g with
    |mk r x=>
     rw[e]at y B D f;simp only at y D f;subst y;exact⟨(i+1,F),⟨x,aC,aC,aC,j.trans f,B⟩,aC,MT⟩
  .rw[drop_of_length_le aC,Eu]at B;rw[<-B]at I;exact I E rfl j
theorem X0(c:La Tryz.prog YS):di 172 bWZ:=by
 refine gO func172 ?_;rintro d m h K ⟨v,q,l,e,R,rfl,f,g,j,n,o⟩;refine⟨dG [(173,YA (SizeOf.sizeOf q+1))] [] [] [] false,rfl,aD (Vj c _) aF,aqQ (SizeOf.sizeOf q+1) l e m h K,bu,?_⟩;exact⟨v,.of_m f rfl,v,q,8,l,R,0,rfl,g,aC,aC,j,aC,aC,n,o⟩
theorem ahX:di 97 RX:=by
 refine gO func97 ?_;rintro c m h K ⟨v,rfl,d⟩;refine⟨dG [] [] [] [] false,rfl,aF,Ob v m h K,bu,?_⟩;exact d
end Go.Ps
