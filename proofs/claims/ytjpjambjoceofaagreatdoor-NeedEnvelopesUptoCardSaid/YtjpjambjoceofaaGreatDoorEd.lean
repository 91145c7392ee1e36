/- Own work. -/
import Derived.Test.YtjpjambjoceofaaGreatDoorEc
set_option linter.unusedVariables false
set_option linter.unusedSimpArgs false
namespace Go.Ps
open Go Go.Vc Go.Proofs List Tryz
variable{K:bz}{m:MH}{h:PH}{s:jE}{ps:ca}{cb:Nat}{sc:cE}{v:QV}{p:Pred}{l:ca}{i:Nat}{N:Nat}{m':MH}{h':PH}{co:ca}{gr:ca}{od:cg}{ta:Int}{li:Int}{xs:List bx}{sz:Nat}{ks:List ca}{rs:ca}{r:Sl}{a:ca}{b:Nat}
def cF(h:PH)(s:Sl)(l:cj):Prop:=bY h 3 VV.enc Eq s l
theorem cF.mono{s:Sl}{l:cj}(x:cF h s l)(le:PH.le h h'):cF h' s l:=bY.mono x le λ_ _ e=>e
def iE(ps:cj)(o:OV):OV:=if o.kind=2/\0<=o.index/\o.index<ps.length then⟨3,0,ps.getD o.index.toNat zeroV⟩else o
mutual
def D4(ps:cj):Pred->Pred
 |.mk op c l r args=>.mk op c (iE ps l) (iE ps r) (GI ps args)
def GI(ps:cj):cr->cr
 |[]=>[]
 |p::r=>D4 ps p::GI ps r
end
theorem Qo(ps:cj):∀l,GI ps l=l.map (D4 ps)
 |[]=>by simp[GI]
 |p::r=>by simp[GI,Qo ps r]
theorem aYJ(o:OV):iE [] o=o:=by unfold iE;grind
mutual
theorem H7:∀p,D4 [] p=p
 |.mk op c l r args=>by simp only[D4,aYJ,Qn args]
theorem Qn:∀l,GI [] l=l
 |[]=>by simp[GI]
 |p::r=>by simp only[GI,H7 p,Qn r]
end
def lH:QV:=⟨0,0,fT,⟨none,0,0⟩,⟨none,0,0⟩,⟨none,0,0⟩,⟨none,0,0⟩,0,⟨none,0,0⟩⟩
def bKJ:Vc.Spec:=λc m h K=>∃o s ps,c=[aO o,cS s]/\cF h s ps/\K (aO (iE ps o)) m h
def cjQ(N:Nat):Vc.Spec:=λc m h K=>∃v s p ps,c=[aP v,cS s]/\dD h p v/\cF h s ps/\SizeOf.sizeOf p<N/\∀d h',PH.le h h'->dD h' (D4 ps p) d->K (aP d) m h'
def aAZ:Vc.Spec:=λc m h K=>∃v s p ps,c=[aP v,cS s]/\dD h p v/\cF h s ps/\∀d h',PH.le h h'->dD h' (D4 ps p) d->K (aP d) m h'
def bJX(N:Nat):Vc.Spec:=λc m h K=>∃v q,c=[aQ v]/\bU h q v/\SizeOf.sizeOf q<N/\∀d h',PH.le h h'->bU h' q d->K (aQ d) m h'
def agQ:Vc.Spec:=λc m h K=>∃v q,c=[aQ v]/\bU h q v/\∀d h',PH.le h h'->bU h' q d->K (aQ d) m h'
noncomputable def bSX(N:Nat)(v:PV)(s:Sl)(m:MH)(h:PH):Ctx:=
 dA [(96,cjQ N),(171,bKJ)] [(3,{A:=Nat×OV×OV×dg×PH,st:=λ⟨i,l,r,c,h⟩=>bQ 40 42 [(1,sv s),(2,.at (.ptr 2 0)),(4,.at (.ptr 4 0)),(5,.at (.ptr 5 0)),(22,iv v.args.len),(23,iv i)] [(2,.cells 32 (v.enc.map .val)),(4,.cells 32 (fT.enc.map .val)),(5,.cells 32 (([Value.int .i64 v.op,Value.int .i64 v.cmp]++l.enc++r.enc).map .val++[.lst 36])),(36,.lst 32 13 (c.map PV.enc))] m h})] [(2,{A:=OV×OV,st:=λ⟨l,r⟩=>bQ 40 42 [(1,sv s),(2,.at (.ptr 2 0)),(4,.at (.ptr 4 0)),(5,.at (.ptr 5 0))] [(2,.cells 32 (v.enc.map .val)),(4,.cells 32 (fT.enc.map .val)),(5,.cells 32 (([Value.int .i64 v.op,Value.int .i64 v.cmp]++l.enc++r.enc++[Value.slice none 0 0]).map .val))] m h})] [] false
noncomputable def bXZ(N:Nat)(v:QV)(co:ca)(on:ce)(gr:ca)(od:cg)(m:MH):Ctx:=
 dA [(96,aAZ),(49,bJX N)] [(9,{A:=Nat×PV×db×PH,st:=λ⟨i,w,c,h⟩=>bQ 46 47 [(1,.at (.ptr 1 0)),(2,.at (.ptr 2 0)),(3,.at (.ptr 3 0)),(29,iv v.args.len),(30,iv i)] [(1,.cells 38 (v.enc.map .val)),(2,.cells 38 (lH.enc.map .val)),(3,.cells 38 (([Value.int .i64 v.op,Value.int .i64 v.table]++w.enc).map .val++[.lst 12,.lst 16,.lst 20,.lst 24,.val (.int .i64 v.limit),.lst 42])),(12,.lst 3 1 (co.map eI)),(16,.lst 101 2 (on.map kX)),(20,.lst 3 1 (gr.map eI)),(24,.lst 103 2 (od.map rN)),(42,.lst 38 21 (c.map QV.enc))] m h})] [] [] false
def SC(o:OV)(s:Sl)(m:MH)(h:PH)(K:bz):Prop:=
  eO o.kind 2 (gM o.index 0 (aZ o.index (aH s) (bJ (λb c=>aA (bM s.a b c) (0<=o.index) (o.index<aH s/\∃(y:VV),aU m h b (fU c o.index 3) y.enc/\K (lS (aM (eF 3) dE (aM (eF y.kind) (eF y.int) (oK (Value.string y.text))))) m h))) (K (kT o) m h)) (K (kT o) m h)) (K (kT o) m h)
abbrev rJ(a:Sl->cj->Prop):Prop:=∃(x:Sl)(c:cj),a x c
abbrev mN:Prop:=eQ (oQ 32 zP)
abbrev CP(a b:cw):Prop:=oQ 32 a=oQ 32 b
noncomputable abbrev tJ(a:OV):At:=gC a.index
noncomputable abbrev tE(a:OV):At:=gC (AY a)
noncomputable abbrev tF(a:OV):At:=UH (JH a)
noncomputable abbrev NZ(a:PV)(b:OV×OV):cw:=cO (gC a.op) (gC a.cmp) (cO (gC b.1.kind) (tJ b.1) (cO (tE b.1) (gC (xP b.1)) (cO (tF b.1) (gC b.2.kind) (cO (tJ b.2) (tE b.2) (cO (gC (xP b.2)) (tF b.2) (oD FU))))))
noncomputable abbrev Ck(a:Nat×OV×OV×dg×PH):OV:=a.2.2.1
noncomputable abbrev N0(a:PV)(b:Nat×OV×OV×dg×PH):cw:=cO (gC a.op) (gC a.cmp) (cO (gC b.2.1.kind) (tJ b.2.1) (cO (tE b.2.1) (gC (xP b.2.1)) (cO (tF b.2.1) (gC (Ck b).kind) (cO (tJ (Ck b)) (tE (Ck b)) (cO (gC (xP (Ck b))) (tF (Ck b)) (oD (At.lst 36)))))))
noncomputable abbrev EM(a:Nat×OV×OV×dg×PH):List bx:=List.map PV.enc a.2.2.2.1
noncomputable abbrev CW(a:Nat×OV×OV×dg×PH):Nat->Nat->Option Value:=a.2.2.2.2
abbrev BX(a:PV->Sl->Pred->cj->Prop):Prop:=∃(x:PV)(c:Sl)(d:Pred)(e:cj),a x c d e
abbrev Eo(a:PV->PH->Prop):Prop:=∀(x:PV)(c:PH),a x c
attribute [push_cast] rJ mN CP tJ tE tF NZ Ck N0 EM CW BX Eo
def Wc(N:Nat)(v:PV)(s:Sl)(m:MH)(h:PH)(K:bz):Prop:=
  ∃(I:OV×OV->Prop),((∃(o:OV),rJ (λf p=>aA (cV (kT v.left) (fJ s)=cV (kT o) (fJ f)) (cF h f p) ((∃(e:OV),rJ (λg d=>aA (cV (kT v.right) (fJ s)=cV (kT e) (fJ g)) (cF h g d) (∃(x:OV×OV),aA (I x) (aI s) (aA dQ i6 (aA dR (gS v) (aA mN (CP (cO (gC v.op) (gC v.cmp) (cO (At.val (kA (iE p o))) (At.val (qX (iE p o))) (cO (At.val (j7 (iE p o))) (At.val (rK (iE p o))) (cO (At.val (mX (iE p o))) (At.val (kA (iE d e))) (cO (At.val (qX (iE d e))) (At.val (j7 (iE d e))) (cO (At.val (rK (iE d e))) (At.val (mX (iE d e))) (oD FU))))))) (NZ v x)) (aA (m=m) (h=h) True)))))))/\∃(e:OV),rJ (λg d=>aA (cV (kT v.right) (fJ s)=cV (kT e) (fJ g)) (cF h g d)
 (∃(x:OV×OV),aA (I x) (aI s) (aA dQ i6 (aA dR (gS v) (aA mN (CP (cO (gC v.op) (gC v.cmp) (cO (At.val (kA (iE p o))) (At.val (qX (iE p o))) (cO (At.val (j7 (iE p o))) (At.val (rK (iE p o))) (cO (At.val (mX (iE p o))) (At.val (kA (iE d e))) (cO (At.val (qX (iE d e))) (At.val (j7 (iE d e))) (cO (At.val (rK (iE d e))) (At.val (mX (iE d e))) (oD FU))))))) (NZ v x)) (aA (m=m) (h=h) True)))))))))/\∃(o:OV),rJ (λf p=>aA (cV (kT v.left) (fJ s)=cV (kT o) (fJ f)) (cF h f p) (∃(e:OV),rJ (λg d=>aA (cV (kT v.right) (fJ s)=cV (kT e) (fJ g)) (cF h g d) (∃(x:OV×OV),aA (I x) (aI s) (aA dQ i6 (aA dR (gS v) (aA mN (CP (cO (gC v.op) (gC v.cmp) (cO
 (At.val (kA (iE p o))) (At.val (qX (iE p o))) (cO (At.val (j7 (iE p o))) (At.val (rK (iE p o))) (cO (At.val (mX (iE p o))) (At.val (kA (iE d e))) (cO (At.val (qX (iE d e))) (At.val (j7 (iE d e))) (cO (At.val (rK (iE d e))) (At.val (mX (iE d e))) (oD FU))))))) (NZ v x)) (aA (m=m) (h=h) True)))))))))/\∀(x:OV×OV),I x->∃(I1:Nat×OV×OV×dg×PH->Prop)(t:Nat×OV×OV×dg×PH->Nat),(∃(c:Nat×OV×OV×dg×PH),aA (I1 c) (aI s) (aA dQ i6 (aA dR (vQ v) (aA (bB c.1) (gS v) (aA mN (CP (cO (gC v.op) (gC v.cmp) (cO (gC x.1.kind) (tJ x.1) (cO (tE x.1) (gC (xP x.1)) (cO (tF x.1) (gC x.2.kind) (cO (tJ x.2) (tE x.2) (cO (gC (xP x.2)) (tF x.2) (oD (At.lst 36))))))))
 (N0 v c)) (aA (qZ 32 13 (EM c)) (m=m) (bN h (CW c))))))))/\∀(c:Nat×OV×OV×dg×PH),I1 c->aZ (↑c.1:Int) (aH v.args) (bJ (λb o=>aA (bM v.args.a b o) (0<=(↑c.1:Int)) ((↑c.1:Int)<aH v.args/\∃(y:PV),aU m (CW c) b (bK o c.1 13) y.enc/\BX (λu f p d=>aA (cV (cQ y) (fJ s)=cV (cQ u) (fJ f)) (dD (CW c) p u) (aA (cF (CW c) f d) (pS p N) (Eo (λz j=>cC (CW c) j (dD j (D4 d p) z) (aA (aU m j b (bK o c.1 13) y.enc) (bL j b (bK o c.1 13) y.enc) (aA (fC (iY (EM c) 1*136)) (jQ (EM c)) (∃(n:Nat×OV×OV×dg×PH),aA (I1 n) (t n<t c) (aA (aI s) dQ (aA i6 dR (aA (vQ v) (bD (fZ (bE c.1 1)) n.1) (aA (gS v) mN (aA
 (CP (N0 v c) (N0 v n)) (Option.some (Own.lst 32 13 (eN (EM c) z.enc))=Option.some (Own.lst 32 13 (EM n))) (aA (m=m) (j=CW n) True)))))))))))))))) (bO (CW c) 13 (EM c) (λf j=>K (lS (aM (eF v.op) (eF v.cmp) (aM (kA c.2.1) (qX c.2.1) (aM (j7 c.2.1) (rK c.2.1) (aM (mX c.2.1) (kA (Ck c)) (aM (qX (Ck c)) (j7 (Ck c)) (aM (rK (Ck c)) (mX (Ck c)) (bA f)))))))) m j))
abbrev Fc(a:Nat)(b:List bx)(c:Prop)(d:Nat)(e:(List bx)->Prop):Prop:=j6 a b c (fC (b.length*d)) (fC b.length) (∃(x:List bx),e x)
noncomputable abbrev Dd(a:QV):Sl:=iA a.columns.a a.columns
noncomputable abbrev HD(a:QV):Sl:=iA a.group.a a.group
noncomputable abbrev HE(a:QV):Sl:=iA a.order.a a.order
abbrev eG:Prop:=eQ (oQ 38 zQ)
abbrev Kl(a b:Prop)(c:Nat)(d:QV)(e:Prop):Prop:=aA a eM (aA dQ bV (aA b (bB c) (aA (dM d) eG e)))
abbrev yO(a b:cw):Prop:=oQ 38 a=oQ 38 b
noncomputable abbrev BF(a:QV)(b:PV)(c:At):cw:=cO (gC a.op) (pU a) (pQ b (cO (At.lst 12) (At.lst 16) (cO (At.lst 20) (At.lst 24) (lV (gC a.limit) c))))
noncomputable abbrev oW(a:Nat×PV×db×PH):PV:=a.2.1
abbrev BE(a b:List bx):Prop:=Option.some (Own.lst 101 2 a)=Option.some (Own.lst 101 2 b)
noncomputable abbrev xH(a:ce):List bx:=List.map kX a
noncomputable abbrev Gh(a:cg):List bx:=List.map rN a
noncomputable abbrev EN(a:Nat×PV×db×PH):List bx:=List.map QV.enc a.2.2.1
abbrev Hf(a:Nat->Nat->Option Value)(b:Query)(c:QV->PH->Prop):Prop:=∀(x:QV)(d:PH),cC a d (bU d b x) (c x d)
noncomputable abbrev sW(a:PV):Value:=kA a.left
noncomputable abbrev sX(a:PV):Value:=qX a.left
noncomputable abbrev rU(a:PV):Value:=rK a.left
noncomputable abbrev rV(a:PV):Value:=mX a.left
noncomputable abbrev rW(a:PV):Value:=kA a.right
noncomputable abbrev tA(a:PV):Value:=qX a.right
noncomputable abbrev tB(a:PV):Value:=j7 a.right
noncomputable abbrev tC(a:PV):Value:=rK a.right
noncomputable abbrev tD(a:PV):Value:=mX a.right
attribute [push_cast] Fc Dd HD HE eG Kl yO BF oW BE xH Gh EN Hf sW sX rU rV rW tA tB tC tD
def PM(N:Nat)(v:QV)(co:ca)(on:ce)(gr:ca)(od:cg)(m:MH)(h:PH)(K:bz):Prop:=
  BX (λt s p u=>aA (cV (yG v) j8=cV (cQ t) (fJ s)) (dD h p t) (cF h s u/\Eo (λz c=>cC h c (dD c (D4 u p) z) (∃(y:List bx),Fc 1 y (cD c (Dd v) 1 y) 8 (λj=>Fc 2 j (cD c (iA v.on.a v.on) 2 j) 16 (λn=>Fc 1 n (cD c (HD v) 1 n) 8 (λe=>j6 2 e (cD c (HE v) 2 e) (fC (e.length*16)) (fC e.length) (∃(I:Nat×PV×db×PH->Prop)(A:Nat×PV×db×PH->Nat),(∃(x:Nat×PV×db×PH),Kl (I x) (qV v) x.1 v (aA (yO (BF v z (At.lst 42)) (BF v (oW x) (At.lst 42))) (jV y co) (aA (BE j (xH on)) (jV n gr) (aA (Option.some (Own.lst 103 2 e)=Option.some (Own.lst 103 2 (Gh od))) (qZ 38 21 (EN x)) (aA (m=m) (c=x.2.2.2) True)))))/\∀(x:Nat×PV
 ×db×PH),I x->aZ (↑x.1:Int) (aH v.args) (bJ (λb o=>aA (bM v.args.a b o) (0<=(↑x.1:Int)) ((↑x.1:Int)<aH v.args/\∃(g:QV),aU m x.2.2.2 b (bK o x.1 21) g.enc/\mU (λB q=>aA (kG g=kG B) (bU x.2.2.2 q B) (vV q N/\Hf x.2.2.2 q (λC f=>aA (aU m f b (bK o x.1 21) g.enc) (bL f b (bK o x.1 21) g.enc) (aA (fC (iY (EN x) 1*280)) (jQ (EN x)) (∃(d:Nat×PV×db×PH),aA (I d) (A d<A x) (aA eM dQ (aA bV (qV v) (aA (bD (fZ (bE x.1 1)) d.1) (dM v) (aA eG (yO (BF v (oW x) (At.lst 42)) (BF v (oW d) (At.lst 42))) (aA (eQ (Option.some (Own.lst 3 1 (cZ co)))) (eQ (Option.some (Own.lst 101 2 (xH on)))) (aA (eQ (Option.some (Own.lst 3 1 (cZ gr)))) (eQ (Option.some (Own.lst
 103 2 (Gh od)))) (aA (Option.some (Own.lst 38 21 (eN (EN x) C.enc))=Option.some (Own.lst 38 21 (EN d))) (m=m) (bN f d.2.2.2)))))))))))))))) (bO x.2.2.2 1 (cZ co) (λD f=>bO f 2 (xH on) (λE F=>bO F 1 (cZ gr) (λG H=>bO H 2 (Gh od) (λJ L=>bO L 21 (EN x) (λM O=>K (lS (aM (eF v.op) (oN v) (aM (eF (oW x).op) (eF (oW x).cmp) (aM (sW (oW x)) (sX (oW x)) (aM (eF (AY (oW x).left)) (rU (oW x)) (aM (rV (oW x)) (rW (oW x)) (aM (tA (oW x)) (tB (oW x)) (aM (tC (oW x)) (tD (oW x)) (aM (fK (oW x).args) (fK D) (aM (fK E) (fK G) (aM (fK J) (Bh v) (bA M)))))))))))) m O))))))))))))))
theorem Zo:bu 171 bKJ:=by
 refine hU func171 ?_;rintro n m h K ⟨o,s,ps,rfl,f,c⟩;refine⟨dA [] [] [] [] false,rfl,aG,SC o s m h K,bd,?_⟩;dsimp only[SC,push_cast];have u:=bY.slen f;unfold iE at c;refine aC (λd=>aF (λg=>aF (λj=>?_) (λj=>?_)) (λg=>?_)) (λd=>?_)
 .have d:o.kind=2:=bk
  rw[if_pos ⟨d,g,aD⟩]at c
  have t:ps[o.index.toNat]? =some (ps.getD o.index.toNat zeroV):=by
   grind
  obtain⟨b,off,v,e,r,rfl⟩:=bY.at f t;exact⟨b,off,e,aD,j,_,.imm r,c⟩
 .rw[if_neg (λe=>by omega)]at c;exact c
 .rw[if_neg (λe=>by omega)]at c;exact c
 .have d:o.kind≠2:=bk
  rw[if_neg (λe=>d e.1)]at c;exact c
theorem Ru{α β:Type}{ps:List α}{us:List β}{i:Nat}{R R':α->β->Prop}{q:α}{v:β}(e:i<=ps.length)(c:us.length=i)(f:ps[i]? =some q)(d:∀(j:Nat) x,(ps.take i)[j]? =some x->∃u,us[j]? =some u/\R x u)(g:∀x u,R x u->R' x u)(n:R' q v):
 ∀(j:Nat) x,(ps.take (i+1))[j]? =some x->∃u,(us++[v])[j]? =some u/\R' x u:=by
 grind
theorem aoX:∀N,bu 96 (cjQ N)
 |0=>by
  refine dU (fn:=Tryz.f96) (c:=bW Tryz.f96) func96 rfl bg ?_;rintro B m h K ⟨v,s,p,ps,rfl,_,_,P,_⟩;omega
 |N+1=>by
  refine hU func96 ?_;rintro B m h K ⟨v,s,p,ps,rfl,Q,C,P,J⟩;refine⟨bSX N v s m h,rfl,aE (aoX N) (aE Zo aG),Wc N v s m h K,bd,?_⟩;dsimp only[Wc,push_cast];have g:=@wX p;obtain⟨op,R,l,r,D⟩:=p;obtain⟨rfl,rfl,rfl,rfl,E⟩:=Q.parts;have S:=E.slen;have L:=E.len;simp only[Pred.args]at g;simp only[D4,Qo]at J;refine⟨λx=>x=(iE ps v.left,iE ps v.right),?_,?_⟩
  .repeat' (first|exact⟨(iE ps v.left,iE ps v.right),rfl,MT⟩|refine⟨v.left,s,ps,rfl,C,?_⟩|refine⟨v.right,s,ps,rfl,C,?_⟩|apply And.intro)
  rintro _ rfl;dsimp only;refine⟨λ⟨i,l,r,o,f⟩=>l=iE ps v.left/\r=iE ps v.right/\i<=D.length/\PH.le h f/\o.length=i/\∀(j:Nat) x,(D.take i)[j]? =some x->∃u,o[j]? =some u/\dD f (D4 ps x) u,λ⟨i,_,_,_,_⟩=>D.length-i,⟨(0,iE ps v.left,iE ps v.right,[],h),⟨rfl,rfl,aD,.refl _,rfl,λj x f=>by simp at f⟩,MT⟩,?_⟩;rintro⟨i,_,_,o,f⟩ ⟨rfl,rfl,T,e,t,n⟩;dsimp only;refine aF (λz=>?_) (λU M h' d A=>J ⟨v.op,v.cmp,iE ps v.left,iE ps v.right,M⟩ h' (e.trans d) (dD.mk (v:=⟨v.op,v.cmp,iE ps v.left,iE ps v.right,M⟩) ⟨⟨o,A,bj,λj x f=>?_⟩,bj⟩))
  .obtain⟨q,O⟩:=eT S z;obtain⟨V,W,u,X,F,G⟩:=(E.mono e).at O;refine⟨V,W,X,aD,z,u,.imm F,u,s,q,ps,rfl,G,C.mono e,?_,λY h' d H=>⟨.imm (F.mono d),F.mono d,bj,bj,(i+1,iE ps v.left,iE ps v.right,o++[Y],h'),⟨rfl,rfl,aD,e.trans d,by simp[t],Ru (R':=λx u=>dD h' (D4 ps x) u) T t O n (λ_ _ I=>I.mono d) H⟩,aD,?_⟩⟩
   .grind
   .rw[map_append];exact MT
  .rw[take_of_length_le aD]at n;rw[getElem?_map,Option.map_eq_some_iff]at f;obtain⟨y,Z,rfl⟩:=f;obtain⟨u,h1,I⟩:=n j y Z;exact⟨u,h1,I.mono d⟩
theorem LX:bu 96 aAZ:=gW aoX λ_ _ _ _⟨v,s,p,ps,e,c,d,f⟩=>⟨SizeOf.sizeOf p+1,v,s,p,ps,e,c,d,aD,f⟩
theorem F7(l:db):jI 21 (l.map QV.enc):=by
 constructor
 .intro e c;obtain⟨x,_,rfl⟩:=mem_map.1 c;rfl
 .intro e c u d;obtain⟨x,_,rfl⟩:=mem_map.1 c;simp[QV.enc]at d;rcases d with rfl|rfl|rfl|rfl|rfl|rfl|rfl|rfl|rfl|rfl|rfl|rfl|rfl|rfl|rfl|rfl|rfl|rfl|rfl|rfl|rfl<;>rfl
theorem ctQ{op:Int}{w:Pred}{on:ce}{args:ci}(x:kW h op ta w co on gr od li args v)(W:∀q∈args,SizeOf.sizeOf q<N)(X:∀H h',PH.le h h'->bU h' (.mk op ta w co on gr od li args) H->K (aQ H) m h'):PM N v co on gr od m h K:=by
 dsimp only[PM,push_cast];have Y:=x.args_.slen;have g:=x.args_.len;have Z:=x.columns_.len;have l2:=x.on_.len;have l3:=x.group_.len;have l4:=x.order_.len;refine⟨v.where_,⟨none,0,0⟩,w,[],rfl,x.where_,.nil _ _ _ _,λn M c O=>⟨_,mW co,(x.columns_.mono c).row,bj,bj,_,BA on,(x.on_.mono c).row,bj,bj,_,mW gr,(x.group_.mono c).row,bj,bj,_,Bz od,(x.order_.mono c).row,bj,bj,?_⟩⟩;rw[H7]at O;refine⟨λ⟨i,w',o,t⟩=>w'=n/\i<=args.length/\PH.le M t/\o.length=i/\∀(j:Nat) q,(args.take i)[j]? =some q->∃u,o[j]? =some u/\bU t q u,λ⟨i,_,_,_⟩=>args.length-i,⟨(0,n,[],M),⟨rfl,aD,.refl _,rfl,λj x t=>by simp at t⟩,MT⟩,?_⟩;rintro⟨i,n,o,t⟩ ⟨rfl,hi,e,y,f⟩;dsimp only;refine aF (λz=>?_) (λa'=>?_)
 .obtain⟨q,A⟩:=eT Y z;obtain⟨b1,o1,u,I,B,J⟩:=(x.args_.mono (c.trans e)).at A;refine⟨b1,o1,I,aD,z,u,.imm B,u,q,rfl,J,W q (mem_of_getElem? A),λH h' d L=>⟨.imm (B.mono d),B.mono d,bj,bj,(i+1,n,o++[H],h'),⟨rfl,aD,e.trans d,by simp[y],Ru (R':=bU h') hi y A f (λ_ _ P=>P.mono d) L⟩,aD,?_⟩⟩;rw[map_append];exact MT
 .rw[take_of_length_le aD]at f;intro s1 P C B s2 h3 D r2 s3 h4 E r3 s4 h5 F r4 s5 h6 G r5;have Q:=G;have R:=F.trans Q;have S:=E.trans R;have T:=D.trans S;have U:=C.trans T;have V:=e.trans U
  exact X ⟨v.op,v.table,n,s1,s2,s3,s4,v.limit,s5⟩ h6 (c.trans V) (kW.rep ⟨x.op_,x.table_,O.mono V,⟨B.mono T,Z⟩,⟨r2.mono S,l2⟩,⟨r3.mono R,l3⟩,⟨r4.mono Q,l4⟩,x.limit_,⟨⟨o,r5,aD,λj q A=>by
   obtain⟨u,I,e2⟩:=f j q A;exact⟨u,I,e2.mono U⟩⟩,g⟩⟩)
theorem aqX:∀N,bu 49 (bJX N)
 |0=>by
  refine dU (fn:=Tryz.f49) (c:=bW Tryz.f49) func49 rfl bg ?_;rintro e m h K ⟨v,q,rfl,_,g,_⟩;omega
 |N+1=>by
  refine hU func49 ?_;rintro e m h K ⟨v,q,rfl,f,g,j⟩;have d:=@sL q;obtain⟨op,ta,w,co,on,gr,od,li,args⟩:=q;refine⟨bXZ N v co on gr od m,rfl,aE LX (aE (aqX N) aG),PM N v co on gr od m h K,bd,?_⟩;exact ctQ f.parts (λq f=>by have:=d (q:=q) f;omega) j
theorem L2:bu 49 agQ:=gW aqX λ_ _ _ _⟨v,q,e,c,d⟩=>⟨SizeOf.sizeOf q+1,v,q,e,c,aD,d⟩
mutual
def aXX:Pred->Nat
 |.mk _ _ _ _ args=>1+K8 args
def K8:cr->Nat
 |[]=>0
 |p::ps=>aXX p+K8 ps
end
mutual
def aaQ:Pred->Nat
 |.mk _ _ _ _ args=>1+Ns args
def Ns:cr->Nat
 |[]=>0
 |p::ps=>max (aaQ p) (Ns ps)
end
mutual
theorem O9:∀(p:Pred)(n:Int),qP p n<=n+aXX p
 |.mk _ _ _ _ args,n=>by
  have:=Na args (n+1);simp only[qP,aXX];omega
theorem Na:∀(ps:cr)(n:Int),lU ps n<=n+K8 ps
 |[],n=>by simp[lU,K8]
 |p::ps,n=>by
  have c:=O9 p n;have d:=Na ps (qP p n);simp only[lU,K8];omega
end
mutual
theorem Nu:∀(p:Pred)(n:Nat),aaQ p<=n->oA p n=false
 |.mk _ _ _ _ args,0,h=>by simp only[aaQ]at h;omega
 |.mk _ _ _ _ args,n+1,h=>by
  simp only[aaQ]at h;simp only[oA];exact K6 args n aD
theorem K6:∀(ps:cr)(n:Nat),Ns ps<=n->wN ps n=false
 |[],_,_=>rfl
 |p::ps,n,h=>by
  simp only[Ns]at h;simp only[wN,Nu p n aD,K6 ps n aD,Bool.or_false]
end
def gF:Nat->Nat
 |0=>1
 |d+1=>1+3*gF d
structure Qx(d:Nat)(p:Pred):Prop where
 n:aXX p<=gF d
 d:aaQ p<=d+1
theorem crQ:∀d,1<=gF d
 |0=>Nat.le_refl _
 |d+1=>by rw[gF];omega
theorem Qx.leaf(d:Nat){op c:Int}{a b:OV}:Qx d (.mk op c a b []):=⟨by simp[aXX,K8,crQ],by simp[aaQ,Ns]⟩
theorem Qx.node{d:Nat}{op c:Int}{a b:OV}{ps:cr}(h:∀p∈ps,Qx d p)(g:ps.length<=3):Qx (d+1) (.mk op c a b ps):=by
 have j:∀l:cr,(∀p∈l,Qx d p)->K8 l<=l.length*gF d/\Ns l<=d+1:=λl=>by
  induction l with
  |nil=>intro _;simp[K8,Ns]
  |cons p l o=>
   intro f;have t:=o λx u=>f x (mem_cons_of_mem _ u);have e:=f p (mem_cons_self ..);have:=e.n;have:=e.d;simp only[K8,Ns,length_cons,Nat.add_mul,Nat.one_mul];omega
 have t:=j ps h;have e:ps.length*gF d<=3*gF d:=Nat.mul_le_mul_right _ g;exact⟨by simp only[aXX,gF];omega,by simp only[aaQ];omega⟩
mutual
def sG:Query->Nat
 |.mk _ _ _ _ _ _ _ _ args=>1+lN args
def lN:ci->Nat
 |[]=>0
 |q::qs=>sG q+lN qs
end
mutual
def Qg:Query->Nat
 |.mk _ _ _ _ _ _ _ _ args=>1+GC args
def GC:ci->Nat
 |[]=>0
 |q::qs=>max (Qg q) (GC qs)
end
mutual
def fS(c:Nat):Query->Nat
 |.mk op _ _ _ _ _ _ _ args=>if op=1 then c else if op=4 then w8 c args else vM c args
def vM(c:Nat):ci->Nat
 |[]=>0
 |q::qs=>fS c q+vM c qs
def w8(c:Nat):ci->Nat
 |[]=>1
 |q::qs=>fS c q*w8 c qs
end
mutual
theorem O7:∀(p:Query)(n:Int),qO p n<=n+sG p/\(qO p n<=24->qO p n=n+sG p)
 |.mk _ _ _ _ _ _ _ _ args,n=>by
  have:=M9 args (n+1);simp only[qO,sG];omega
theorem M9:∀(ps:ci)(n:Int),lG ps n<=n+lN ps/\(lG ps n<=24->lG ps n=n+lN ps)
 |[],n=>by simp[lG,lN]
 |p::ps,n=>by
  have c:=O7 p n;have d:=M9 ps (qO p n);simp only[lG,lN];omega
end
theorem aCZ{q:Query}(h:nC q=true):sG q<=24:=by
 simp only[nC,Bool.and_eq_true,decide_eq_true_eq]at h;have:=(O7 q 0).2 h.1;omega
def gN:Nat->Nat
 |0=>3
 |d+1=>2+2*gN d
def gD:Nat->Nat
 |0=>3
 |d+1=>2+gD d
def gB:Nat->Nat
 |0=>4
 |d+1=>gB d*gB d
structure uE(n d b:Nat)(q:Query):Prop where
 n:sG q<=n
 d:Qg q<=d
 b:fS 4 q<=b
def UW(d:Nat)(q:Query):Prop:=uE (gN d) (gD d) (gB d) q
def DM:Nat->Query->Prop
 |0,q=>uE 1 1 4 q
 |d+1,q=>uE (1+2*gN d) (1+gD d) (gB d*gB d) q
theorem uE.mono{n d c e f:Nat}{q:Query}(x:uE n d b q)(g:n<=c)(j:d<=e)(o:b<=f):uE c e f q:=⟨Nat.le_trans x.n g,Nat.le_trans x.d j,Nat.le_trans x.b o⟩
theorem Fp:∀d,3<=gN d/\3<=gD d/\4<=gB d
 |0=>bg
 |d+1=>by
  obtain⟨e,f,c⟩:=Fp d;have:4*4<=gB d*gB d:=Nat.mul_le_mul c c;simp only[gN,gD,gB];omega
theorem DM.arg:∀{d:Nat}{q:Query},DM d q->UW d q
 |0,_,x=>uE.mono x bg bg bg
 |d+1,_,x=>uE.mono x (by simp only[gN];omega) (by simp only[gD];omega) (by simp only[gB];omega)
theorem uE.one{n d:Nat}{q:Query}(x:uE n d b q)(c:4<=b){op:Int}{w:Pred}{on:ce}:uE (n+1) (d+1) b (.mk op ta w co on gr od li [q]):=by
 obtain⟨e,f,g⟩:=x;refine⟨by simp only[sG,lN];omega,by simp only[Qg,GC];omega,?_⟩;simp only[fS,w8,vM]
 grind
theorem uE.two{n d f g c:Nat}{q p:Query}(x:uE n d b q)(y:uE f g c p)(j:4<=b)(e:4<=c){op:Int}{w:Pred}{on:ce}:uE (1+n+f) (1+max d g) (b*c) (.mk op ta w co on gr od li [q,p]):=by
 obtain⟨u,z,o⟩:=x;obtain⟨A,B,t⟩:=y;have C:b*4<=b*c:=Nat.mul_le_mul_left _ e;have D:4*c<=b*c:=Nat.mul_le_mul_right _ j;have E:fS 4 q*fS 4 p<=b*c:=Nat.mul_le_mul o t;refine⟨by simp only[sG,lN];omega,by simp only[Qg,GC];omega,?_⟩;simp only[fS,w8,vM]
 grind
theorem uE.scan{w:Pred}{on:ce}:uE 1 1 4 (.mk 1 ta w co on gr od li []):=⟨by simp[sG,lN],by simp[Qg,GC],by simp[fS]⟩
theorem DM.node{d:Nat}{op:Int}{w:Pred}{on:ce}{args:ci}(h:∀a∈args,UW d a)(e:args.length<=2):DM (d+1) (.mk op ta w co on gr od li args):=by
 have c:=(Fp d).2.2;have f:gB d*4<=gB d*gB d:=Nat.mul_le_mul_left _ c
 match args,h,e with
 |[],_,_=>exact⟨by simp only[sG,lN];omega,by simp only[Qg,GC];omega,by simp only[fS,w8,vM];grind⟩
 |[q],h,_=>exact uE.mono (uE.one (h q bf) c) aD aD aD
 |[q,p],h,_=>exact uE.mono (uE.two (h q bf) (h p bf) c c) aD aD (Nat.le_refl _)
theorem DM.filter{d:Nat}{q:Query}(x:DM d q){op:Int}{w:Pred}{on:ce}:UW d (.mk op ta w co on gr od li [q]):=by
 cases d with
 |zero=>exact uE.mono (uE.one x bg) bg bg bg
 |succ d=>
  have c:=(Fp d).2.2;have e:gB d*4<=gB d*gB d:=Nat.mul_le_mul_left _ c;exact uE.mono (uE.one x aD) (by simp only[gN];omega) (by simp only[gD];omega) (by simp only[gB];omega)
theorem UW.three(d:Nat){q:Query}(x:uE 3 3 4 q):UW d q:=uE.mono x (Fp d).1 (Fp d).2.1 (Fp d).2.2
theorem DM.mono{q:Query}:∀{d e:Nat},DM d q->d<=e->DM e q
 |d,0,x,h=>bk
 |d,e+1,x,h=>by
  by_cases c:d=e+1
  .grind
  .have y:=DM.arg (x.mono (e:=e) aD);have f:=(Fp e).2.2;have g:gB e*1<=gB e*gB e:=Nat.mul_le_mul_left _ aD;exact uE.mono y aD aD aD
abbrev tM(a:MH)(b:PH)(c d:Nat)(e:Sl->Prop):Prop:=∃(x:Sl),aU a b c d (bA x)/\e x
noncomputable abbrev Bn(a:Int):Value:=Value.int IntKind.u8 a
abbrev yF(a:Prop):Prop:=a->False
attribute [push_cast] tM Bn yF
def WY(cb:Nat)(n:Int)(m:MH)(h:PH)(K:bz):Prop:=
  ∃(y:Int),aU m h cb 1 (bG y)/\∃(f:Sl),aU m h cb 0 (bA f)/\gM y (aH f) (K (fX 0) m h) (aZ n 1 (K (fX 0) m h) (tN m h cb 1 (λt=>wD (λc E=>aA (Ib m cb (oU c E 0)) (1<c.size) (∀(d:MH),eA m d cb (w9 c 1 (bG (fH (t+1)))) E->tM d h cb 0 (λg=>tN d h cb 1 (λe=>bJ (λb o=>aA (bM g.a b o) (0<=fH (e-1)) (fH (e-1)<aH g/\∃(j:UInt8),aA (aU d h b (fU o (fH (e-1)) 1) (oK (Bn (yX j)))) (yF (n=0)) (K (fX (Int.tmod (fH (yX j)) n)) d h))))))))))
theorem cuZ(cb:Nat)(n:Int)(m:MH)(h:PH)(K:bz):WY cb n m h K=(uM (ctx [] [] [] [] false) Tryz.f12 (bW Tryz.f12) (entry 40 [.val (.pointer (some ⟨cb,0,none⟩)),.val (.int .i64 n)] m h) K):=bd
def b9J:Vc.Spec:=λc m h K=>∃(cb:Nat)(n:Int)(r:cu),c=[.val (.pointer (some ⟨cb,0,none⟩)),.val (.int .i64 n)]/\agZ m h cb r/\
 ∀m',bF m m' cb->agZ m' h cb (Xg n r).2->K (.val (.int .i64 (Xg n r).1)) m' h
theorem RL:bu 12 b9J:=by
 refine dU (fn:=Tryz.f12) (c:=bW Tryz.f12) func12 rfl bg ?_;rintro F m h K ⟨cb,n,r,rfl,⟨s,d,k,x,e,D,f,rfl⟩,t⟩;refine⟨ctx [] [] [] [] false,rfl,aG,?_⟩;show uM (ctx [] [] [] [] false) Tryz.f12 (bW Tryz.f12) (entry 40 [.val (.pointer (some ⟨cb,0,none⟩)),.val (.int .i64 n)] m h) K;rw[<-cuZ];dsimp only[WY,push_cast];have G:s.len=d.length:=by have:=e.len;simpa[bC]using this
 refine⟨k,.of_m x rfl,s,.of_m x rfl,aF (λH=>?_) (λz=>aF (λA=>?_) (λA=>?_))⟩
 .have u:d.drop k=[]:=bj
  rw[u]at t;exact t m ⟨λ_ _=>rfl⟩ ⟨s,d,k,x,e,D,f,by rw[u];rfl⟩
 .have j:k<d.length:=by omega
  have u:d.drop k=d[k]::d.drop (k+1):=drop_eq_getElem_cons j;rw[u]at t;simp only[Xg,if_pos A]at t;refine t m ⟨λ_ _=>rfl⟩ ⟨s,d,k,x,e,D,f,u.symm⟩
 .have j:k<d.length:=by omega
  have u:d.drop k=d[k]::d.drop (k+1):=drop_eq_getElem_cons j;rw[u]at t;simp only[Xg,if_neg A]at t;have I:IntKind.i64.wrap ((k:Int)+1)=((k+1:Nat):Int):=by rw[eH]<;>omega
  have B:IntKind.i64.wrap (((k+1:Nat):Int)-1)=(k:Int):=by rw[eH]<;>omega
  refine⟨k,.of_m x rfl,_,_,⟨x⟩,bf,λm' E=>?_⟩;have g:=E.at_;rw[I]at g;simp only[splice]at g;obtain y|⟨b,o,J,C⟩:=e.row
  .exfalso;have:=congrArg List.length y;simp[bC]at this
   grind
  refine⟨s,.of_m g rfl,((k+1:Nat):Int),.of_m g rfl,b,o,J,?_⟩;rw[B];refine⟨aD,aD,d[k],.imm ?_,aD,?_⟩
  .have:=C k [.int .u8 d[k].toNat] (by simp[bC,j])
   grind
  .have z:d[k].toNat<256:=d[k].toNat_lt;rw[eH aD aD,Int.tmod_eq_emod_of_nonneg aD];refine t m' ⟨E.other⟩ ⟨s,d,k+1,g,e,aD,f,rfl⟩
def aL(m:MH)(h:PH)(cb:Nat):Prop:=∃r,agZ m h cb r
theorem aL.mono(x:aL m h cb)(le:PH.le h h'):aL m h' cb:=by
 obtain⟨r,s,c,k,d,e,f⟩:=x;exact⟨r,s,c,k,d,e.mono le,f⟩
theorem bF.refl(m:MH)(cb:Nat):bF m m cb:=⟨λ_ _=>rfl⟩
theorem bF.trans{d:MH}(a:bF m m' cb)(b:bF m' d cb):bF m d cb:=⟨λc e=>(b.other c e).trans (a.other c e)⟩
def vZ(n:Int):Prop:= -9223372036854775808<=n/\n<=9223372036854775807
structure Re(v:VV):Prop where
 int_:vZ v.int
 text_:v.text.size<=64
def KOk(k:Int):Prop:=k=3\/k=4\/k=5
def Xy(k:Int)(v:VV):Prop:=KOk k->mK v=true/\v.kind=k
def Ic:Vc.Spec:=λc m h K=>∃cb n,c=[cP cb,cI n]/\aL m h cb/\∀k m',0<=k->(k<n\/k=0)->bF m m' cb->aL m' h cb->K (cI k) m' h
def QX:Vc.Spec:=λc m h K=>∃cb n,c=[cP cb,cI n]/\0<=n/\n<=1000/\aL m h cb/\∀r m',bF m m' cb->aL m' h cb->K (cB r) m' h
def awJ:Vc.Spec:=λc m h K=>∃cb,c=[cP cb]/\aL m h cb/\∀k m',vZ k->bF m m' cb->aL m' h cb->K (cI k) m' h
def cdZ:Vc.Spec:=λc m h K=>∃cb,c=[cP cb]/\aL m h cb/\∀t m',t.size<=64->bF m m' cb->aL m' h cb->K (Xf t) m' h
def UK:Vc.Spec:=λd m h K=>∃cb c,d=[cP cb,cI c]/\aL m h cb/\∀v m',Re v->Xy c v->bF m m' cb->aL m' h cb->K (aV v) m' h
theorem IL:bu 12 Ic:=by
 refine⟨RL.1,λc d m h w K e f=>RL.2 c d m h w K ?_ f⟩;obtain⟨cb,n,rfl,⟨r,g⟩,j⟩:=e;refine⟨cb,n,r,rfl,g,λm' o t=>j _ m' ?_ ?_ o ⟨_,t⟩⟩
 .cases r with
  |nil=>simp[Xg]
  |cons b r=>
   simp only[Xg]
   grind
 .cases r with
  |nil=>simp[Xg]
  |cons b r=>
   simp only[Xg];split
   .simp
   .exact .inl (Int.emod_lt_of_pos _ aD)
noncomputable def bmJ(h:PH):Ctx:=
 dA [(12,Ic)] [(18,{A:=Nat×ByteArray×MH,st:=λ⟨i,t,m⟩=>bQ 37 38 [(3,vv (.string t)),(4,iv i)] [] m h}),(23,{A:=Nat×ByteArray×MH,st:=λ⟨i,t,m⟩=>bQ 37 38 [(3,vv (.string t)),(5,iv i)] [] m h})] [] [] false
abbrev IK(a:Nat->Int->Prop):Prop:=∃(x:Nat)(c:Int),a x c
abbrev iZ(a:Nat)(b:Int)(c:Nat->Option Obj)(d:Nat->Nat->Option Value)(e:Int->MH->Prop):Prop:=IK (λx j=>aA (aW (iD a) b=aW (iD x) j) (aL c d x) (∀(f:Int)(g:MH),bZ f->f<j\/f=0->bF c g x->aL g d x->e f g))
attribute [push_cast] IK iZ
def WW(cb:Nat)(n:Int)(m:MH)(h:PH)(K:bz):Prop:=
  iZ cb n m h (λk c=>K (Bc (k==fH (n-1))) c h)
def SE(cb:Nat)(m:MH)(h:PH)(K:bz):Prop:=
  iZ cb 12 m h (λk c=>cW (k==9) (K (fX (Int.negSucc 0)) c h) (k==10) (K (fX 9223372036854775807) c h) (eO k 11 (K (fX (Int.negSucc 9223372036854775807)) c h) (yF ((4:Int)=0)/\K (fX (Int.tmod k 4)) c h)))
noncomputable abbrev fE(a:Nat)(b:cu):cu:=OfNat.ofNat a::b
noncomputable abbrev xE(a:Nat):cu:=fE a []
attribute [push_cast] fE xE
def SD(cb:Nat)(m:MH)(h:PH)(K:bz):Prop:=
  iZ cb 10 m h (λk d=>cW (k==0) (K (kL (ByteArray.mk (Array.mk (xE 97)))) d h) (k==1) (K (kL (ByteArray.mk (Array.mk (xE 97)))) d h) (cW (k==2) (K (kL (ByteArray.mk (Array.mk (xE 97)))) d h) (k==3) (K (kL (ByteArray.mk (Array.mk (xE 98)))) d h) (cW (k==4) (K (kL (ByteArray.mk (Array.mk (xE 98)))) d h) (k==5) (K (CV.val XH) d h) (cW (k==6) (K (kL (ByteArray.mk (Array.mk (fE 97 (fE 0 []))))) d h) (k==7) (K (kL (ByteArray.mk (Array.mk (xE 255)))) d h) (eO k 8 (∃(I:Nat×ByteArray×MH->Prop)(e:Nat×ByteArray×MH->Nat),(∃(x:Nat×ByteArray×MH),aA (I x) (SV.at aQz=SV.at (UH x.2.1)) (aA (bB x.1) (d=x.2.2) (bN h h)))/\∀(x:Nat×ByteArray×MH),I x->aZ (↑x.1:Int) 64 (x.2.1.size<9223372036854775807/\∃(c:Nat×ByteArray×MH),aA (I
 c) (e c<e x) (aA (SV.at (UH (x.2.1++ByteArray.mk (Array.mk (xE 255))))=SV.at (UH c.2.1)) (bD (fZ (bE x.1 1)) c.1) (aA (x.2.2=c.2.2) (h=h) True))) (K (kL x.2.1) x.2.2 h)) (∃(I:Nat×ByteArray×MH->Prop)(e:Nat×ByteArray×MH->Nat),(∃(x:Nat×ByteArray×MH),aA (I x) (SV.at aQz=SV.at (UH x.2.1)) (aA (bB x.1) (d=x.2.2) (bN h h)))/\∀(x:Nat×ByteArray×MH),I x->aZ (↑x.1:Int) 64 (x.2.1.size<9223372036854775807/\∃(c:Nat×ByteArray×MH),aA (I c) (e c<e x) (aA (SV.at (UH (x.2.1++ByteArray.mk (Array.mk (xE 98))))=SV.at (UH c.2.1)) (bD (fZ (bE x.1 1)) c.1) (aA (x.2.2=c.2.2) (h=h) True))) (K (kL x.2.1) x.2.2 h)))))))
abbrev wS(a:Nat)(b:Nat->Option Obj)(c:Nat->Nat->Option Value)(d:Nat->Int->Prop):Prop:=∃(x:Nat),aA (oB (iD a)=oB (iD x)) (aL b c x) (∀(e:Int),d x e)
attribute [push_cast] wS
def Wd(cb:Nat)(d:Int)(m:MH)(h:PH)(K:bz):Prop:=
  cW (d==3) (iZ cb 2 m h (λk e=>K (lS (aM (eF d) (eF k) (oK XH))) e h)) (d==4) (wS cb m h (λc k=>∀(e:MH),vZ k->bF m e c->aL e h c->K (lS (aM (eF d) (eF k) (oK XH))) e h)) (∃(c:Nat),aA (oB (iD cb)=oB (iD c)) (aL m h c) (∀(t:ByteArray)(e:MH),t.size<=64->bF m e c->aL e h c->K (lS (aM (eF 5) dE (oK (Value.string t)))) e h))
theorem cuX{n:Int}(d:aL m h cb)(e:∀r m',bF m m' cb->aL m' h cb->K (cB r) m' h):WW cb n m h K:=
 ⟨cb,n,rfl,d,λ_ m' _ _ f c=>e _ m' f c⟩
theorem Pa:Gd ⟨#[]⟩=true:=by simp[Gd,ByteArray.toList_eq]
theorem clX{k:Int}(c:0<=k)(d:k<2\/k=0):mK ⟨3,k,⟨#[]⟩⟩=true:=by
 have:k=0\/k=1:=by omega
 rcases this with rfl|rfl<;>simp[mK,Pa]
theorem a1X(k:Int):mK ⟨4,k,⟨#[]⟩⟩=true:=by simp[mK,Pa]
theorem clQ{t:ByteArray}(h:t.size<=64):mK ⟨5,0,t⟩=true:=by
 simp[mK];omega
theorem Cb:bu 13 QX:=by
 refine hU func13 ?_;rintro c m h K ⟨cb,n,rfl,_,_,d,e⟩;refine⟨dA [(12,Ic)] [] [] [] false,rfl,aE IL aG,WW cb n m h K,bd,?_⟩;exact cuX d e
theorem Zq:bu 169 awJ:=by
 refine hU func169 ?_;rintro f m h K ⟨cb,rfl,g,d⟩;refine⟨dA [(12,Ic)] [] [] [] false,rfl,aE IL aG,SE cb m h K,bd,?_⟩;dsimp only[SE,push_cast];refine⟨cb,12,rfl,g,λk m' j n e c=>aC (λ_=>d _ m' ⟨aD,aD⟩ e c) (λ_=>aC (λ_=>d _ m' ⟨aD,aD⟩ e c) (λ_=>aC (λ_=>d _ m' ⟨aD,aD⟩ e c) (λ_=>⟨aD,d _ m' ?_ e c⟩)))⟩;rw[Int.tmod_eq_emod_of_nonneg j];exact⟨aD,aD⟩
theorem Zp:bu 170 cdZ:=by
 refine hU func170 ?_;rintro g m h K ⟨cb,rfl,j,d⟩;refine⟨bmJ h,rfl,aE IL aG,SD cb m h K,bd,?_⟩;dsimp only[SD,push_cast];refine⟨cb,10,rfl,j,λk m' x y e c=>?_⟩;refine aC (λ_=>d _ m' bg e c) (λ_=>aC (λ_=>d _ m' bg e c) (λ_=>aC (λ_=>d _ m' bg e c) (λ_=>aC (λ_=>d _ m' bg e c) (λ_=>aC (λ_=>d _ m' bg e c) (λ_=>aC (λ_=>d _ m' bg e c) (λ_=>aC (λ_=>d _ m' bg e c) (λ_=>aC (λ_=>d _ m' bg e c) (λ_=>aC (λ_=>?_) (λ_=>?_)))))))))
 all_goals
  refine⟨λ⟨i,t,n⟩=>n=m'/\i<=64/\t.size=i,λ⟨i,_,_⟩=>64-i,⟨(0,⟨#[]⟩,m'),⟨rfl,aD,rfl⟩,MT⟩,?_⟩;rintro⟨i,t,m'⟩ ⟨rfl,z,f⟩;dsimp only;refine aF (λo=>⟨?_,(i+1,_,m'),⟨rfl,aD,?_⟩,bo,MT⟩) (λu=>d t m' aD e c)
  .rw[f];show i+1<=_;omega
  .rw[ByteArray.size_append,f];rfl
theorem LY:bu 95 UK:=by
 refine hU func95 ?_;rintro y m h K ⟨cb,c,rfl,j,n⟩;refine⟨dA [(12,Ic),(169,awJ),(170,cdZ)] [] [] [] false,rfl,aE IL (aE Zq (aE Zp aG)),Wd cb c m h K,bd,?_⟩;dsimp only[Wd,push_cast];refine aC (λe=>⟨cb,2,rfl,j,λk m' z A g d=>n ⟨c,k,⟨#[]⟩⟩ m' ⟨⟨bk,bk⟩,by show(ByteArray.mk #[]).size<=64;decide⟩ (λ_=>?_) g d⟩) (λo=>aC (λe=>⟨cb,rfl,j,λk m' f g d=>n ⟨c,k,⟨#[]⟩⟩ m' ⟨f,by show(ByteArray.mk #[]).size<=64;decide⟩ (λ_=>?_) g d⟩) (λu=>⟨cb,rfl,j,λt m' x g d=>n ⟨5,0,t⟩ m' ⟨⟨bf,bf⟩,x⟩ (λf=>?_) g d⟩))
 .have e:c=3:=bt e
  subst e;exact⟨clX z A,rfl⟩
 .have e:c=4:=bt e
  subst e;exact⟨a1X k,rfl⟩
 .have o:c≠3:=bk
  have u:c≠4:=bk
  exact⟨clQ x,by rcases f with f|f|f;exact absurd f o;exact absurd f u;exact f.symm⟩
mutual
def Dt:Pred->Prop
 |.mk _ _ l r args=>Re l.value/\Re r.value/\MG args
def MG:cr->Prop
 |[]=>True
 |p::ps=>Dt p/\MG ps
end
theorem QC:∀{l:cr},MG l↔∀p∈l,Dt p
 |[]=>by simp[MG]
 |p::ps=>by simp[MG,QC (l:=ps)]
theorem sQ:Re zeroV:=⟨⟨bg,bg⟩,bg⟩
structure Xw(cols params:ca)(kind:Int)(o:OV):Prop where
 val:Re o.value
 kind:KOk kind->kindOf cols params o=kind
def NK(l:ca):Prop:=∀k∈l,KOk k
structure PW(cols params:ca)(d:Nat)(p:Pred):Prop where
 vals:Dt p
 valid:NK cols->jP cols params p=true
 siz:Qx d p
def Xv:Vc.Spec:=λf m h K=>∃cb s t e d c,f=[cP cb,cS s,cS t,cI e]/\aL m h cb/\Ints h s d/\Ints h t c/\d.length<=1000/\c.length<=1000/\∀o m',Xw d c e o->bF m m' cb->aL m' h cb->K (aO o) m' h
def KP(K:bz)(m:MH)(h:PH)(cb:Nat)(R:Pred->Prop):Prop:=∀v p m' h',PH.le h h'->dD h' p v->R p->bF m m' cb->aL m' h' cb->K (aP v) m' h'
def bAX(N:Nat):Vc.Spec:=λe m h K=>∃cb s t d c,∃deep:Nat,e=[cP cb,cS s,cS t,cI deep]/\aL m h cb/\Ints h s d/\Ints h t c/\d.length<=1000/\c.length<=1000/\deep<N/\deep<=1000/\KP K m h cb (PW d c deep)
structure Br(cols params:ca)(d:Nat)(p:Pred):Prop where
 vals:Dt p
 valid:d<=2->NK cols->NK params->gH cols params p=0
def FC:Vc.Spec:=λe m h K=>∃cb s t d c,∃deep:Nat,e=[cP cb,cS s,cS t,cI deep]/\aL m h cb/\Ints h s d/\Ints h t c/\d.length<=1000/\c.length<=1000/\deep<=1000/\KP K m h cb (Br d c deep)
def pv(b:Nat):SV:=vv (.pointer (some ⟨b,0,none⟩))
noncomputable def bnJ(cb:Nat)(s t:Sl)(c:Int)(m:MH)(h:PH):Ctx:=
 dA [(12,Ic),(95,UK)] [(3,{A:=Nat×dt,st:=λ⟨i,d⟩=>bQ 64 68 [(0,pv cb),(2,sv t),(3,iv c),(8,.at (.ptr 8 0)),(9,.at (.lst 29)),(15,sv s),(16,iv s.len),(17,iv i)] [(8,.cells 29 (dH.enc.map .val)),(29,.lst 29 5 (d.map OV.enc))] m h}),
  (9,{A:=Nat×dt,st:=λ⟨i,d⟩=>bQ 64 68 [(0,pv cb),(3,iv c),(8,.at (.ptr 8 0)),(9,.at (.lst 29)),(31,sv t),(32,iv t.len),(33,iv i)] [(8,.cells 29 (dH.enc.map .val)),(29,.lst 29 5 (d.map OV.enc))] m h})] [] [] false
noncomputable def bSJ(N:Nat)(cb:Nat)(s t:Sl)(deep:Nat)(c:PH):Ctx:=
 dA [(12,Ic),(13,QX),(165,Xv),(95,UK),(93,bAX N)] [(18,{A:=Int×Int×dg×MH×PH,st:=λ⟨op,n,d,m,h⟩=>bQ 107 111 [(0,pv cb),(1,sv s),(2,sv t),(3,iv deep),(8,.at (.ptr 8 0)),(12,.at (.ptr 12 0)),(13,iv n)] [(8,.cells 32 (fT.enc.map .val)),(12,.cells 32 (((⟨op,0,dH,dH,⟨none,0,0⟩⟩:PV).enc.take 12).map .val++[.lst 104])),(104,.lst 32 13 (d.map PV.enc))] m h})] [(3,{A:=Int×Bool×MH,st:=λ⟨k,b,m⟩=>bQ 107 111 [(0,pv cb),(1,sv s),(2,sv t),(3,iv deep),(8,.at (.ptr 8 0)),(9,iv k),(16,bv b)] [(8,.cells 32 (fT.enc.map .val))] m c}),
  (5,{A:=Int×Bool×MH,st:=λ⟨k,b,m⟩=>bQ 107 111 [(0,pv cb),(1,sv s),(2,sv t),(3,iv deep),(8,.at (.ptr 8 0)),(9,iv k),(27,bv b)] [(8,.cells 32 (fT.enc.map .val))] m c}),
  (8,{A:=Int×MH,st:=λ⟨k,m⟩=>bQ 107 111 [(0,pv cb),(1,sv s),(2,sv t),(8,.at (.ptr 8 0)),(10,iv k)] [(8,.cells 32 (fT.enc.map .val))] m c}),
  (9,{A:=PV×Int×MH,st:=λ⟨p,k,m⟩=>bQ 107 111 [(0,pv cb),(1,sv s),(2,sv t),(8,.at (.ptr 8 0)),(10,iv k),(11,.at (.ptr 11 0))] [(8,.cells 32 (fT.enc.map .val)),(11,.cells 32 (p.enc.map .val))] m c}),
  (11,{A:=PV×MH,st:=λ⟨p,m⟩=>bQ 107 111 [(0,pv cb),(8,.at (.ptr 8 0)),(11,.at (.ptr 11 0))] [(8,.cells 32 (fT.enc.map .val)),(11,.cells 32 (p.enc.map .val))] m c}),
  (13,{A:=PV×MH,st:=λ⟨p,m⟩=>bQ 107 111 [(8,.at (.ptr 8 0)),(11,.at (.ptr 11 0))] [(8,.cells 32 (fT.enc.map .val)),(11,.cells 32 (p.enc.map .val))] m c})] [] false
noncomputable abbrev fD:At:=gC 0
abbrev Ex:Prop:=eQ (oQ 29 (cO fD fD (cO (gC 0) fD (oD aQz))))
noncomputable abbrev sU(a:Nat×dt):List bx:=List.map OV.enc a.2
abbrev J8(a b:Nat×dt):Prop:=bD (fZ (bE a.1 1)) b.1
abbrev nZ(a:Int)(b:Prop)(c:bx->Prop):Prop:=aA (bZ a) b (∃(x:bx),c x)
abbrev mQ(a:List bx)(b:Int)(c:bx):Prop:=a[b.toNat]? =Option.some c
attribute [push_cast] fD Ex sU J8 nZ mQ
def SI(cb:Nat)(s t:Sl)(f:Int)(m:MH)(h:PH)(K:bz):Prop:=
  ∃(I:Nat×dt->Prop)(j:Nat×dt->Nat),(∃(x:Nat×dt),aA (I x) (cR cb) (aA (aI t) (gY f) (aA eZ (eL 29) (aA (aI s) (bI s) (aA (bB x.1) Ex (aA (qZ 29 5 (sU x)) (m=m) (bN h h)))))))/\∀(x:Nat×dt),I x->aZ (↑x.1:Int) (aH s) (bJ (λb o=>aA (bM s.a b o) (0<=(↑x.1:Int)) ((↑x.1:Int)<aH s/\∃(y:Int),aU m h b (bK o x.1 1) (bG y)/\eO y f (nG (sU x) 48 (∃(d:Nat×dt),aA (I d) (j d<j x) (aA (cR cb) (aI t) (aA (gY f) eZ (aA (eL 29) (aI s) (aA (bI s) (J8 x d) (aA Ex (Option.some (Own.lst 29 5 (eN (sU x) (aM (eF 1) (eF (↑x.1:Int)) (aM dE dE (oK XH)))))=Option.some (Own.lst 29 5 (sU d))) (aA (m=m) (h=h) True)))))))) (∃(d:Nat×dt),aA
 (I d) (j d<j x) (aA (cR cb) (aI t) (aA (gY f) eZ (aA (eL 29) (aI s) (aA (bI s) (J8 x d) (aA Ex (Option.some (Own.lst 29 5 (sU x))=Option.some (Own.lst 29 5 (sU d))) (aA (m=m) (h=h) True)))))))))) (∃(I1:Nat×dt->Prop)(n:Nat×dt->Nat),(∃(d:Nat×dt),aA (I1 d) (cR cb) (aA (gY f) eZ (aA (eL 29) (aI t) (aA (bI t) (bB d.1) (tI Ex (Option.some (Own.lst 29 5 (sU x))=Option.some (Own.lst 29 5 (sU d))) (m=m) h h)))))/\∀(d:Nat×dt),I1 d->aZ (↑d.1:Int) (aH t) (bJ (λb o=>aA (bM t.a b o) (0<=(↑d.1:Int)) ((↑d.1:Int)<aH t/\∃(y:Int),aU m h b (bK o d.1 1) (bG y)/\eO y f (nG (sU d) 48 (∃(g:Nat×dt),aA (I1 g) (n g<n d) (aA (cR cb) (gY f)
 (aA eZ (eL 29) (aA (aI t) (bI t) (aA (J8 d g) Ex (aA (Option.some (Own.lst 29 5 (eN (sU d) (aM (eF 2) (eF (↑d.1:Int)) (aM dE dE (oK XH)))))=Option.some (Own.lst 29 5 (sU g))) (m=m) (bN h h)))))))) (∃(g:Nat×dt),aA (I1 g) (n g<n d) (aA (cR cb) (gY f) (aA eZ (eL 29) (aA (aI t) (bI t) (aA (J8 d g) Ex (aA (Option.some (Own.lst 29 5 (sU d))=Option.some (Own.lst 29 5 (sU g))) (m=m) (bN h h)))))))))) (iZ cb (bE (sU d).length 1) m h (λk u=>aZ k (jH (sU d)) (nZ k (k<jH (sU d)) (λe=>mQ (sU d) k e/\∃(y:OV),qB 5 e y.enc/\K (kT y) u h)) (IK (λc A=>aA (aW (iD cb) f=aW (iD c) A) (aL u h c) (∀(v:VV)(z:MH),Re v->Xy A v->bF u
 z c->aL z h c->K (lS (aM (eF 3) dE (aM (eF v.kind) (eF v.int) (oK (Value.string v.text))))) z h))))))
abbrev oV(a:Nat)(b:Int)(c:MH)(d:PH)(e:Nat->Nat)(g:Nat->Bool->Prop):Prop:=IK (λx f=>aA (aW (iD a) b=aW (iD x) f) (bZ f) (aA (f<=1000) (aL c d (e x)) (∀(j:Bool),g x j)))
abbrev JL(a:Int×Bool×MH->Prop)(b:Nat)(c d:Sl)(e:Nat)(g:Int)(i:(Int×Bool×MH)->Prop)(j:Nat->Option Obj)(k:PH):Prop:=∃(x:Int×Bool×MH),aA (a x) (cR b) (aA (aI c) (aI d) (aA (eQ (FP e)) eZ (aA (dW g x.1) (i x) (bP mN (j=x.2.2) (k=k)))))
noncomputable abbrev cT(a:Nat)(b:cz):cz:=iD a::b
abbrev mG(a:Nat):Prop:=a<=1000
abbrev fO(a:ca):Prop:=mG a.length
abbrev He(a:cw)(b:PV):Prop:=oQ 32 a=nL 32 b.enc
abbrev BZ(a:Nat->Sl->Sl->ca->ca->Nat->Prop):Prop:=∃(x:Nat)(c:Sl),rA (λd e f=>∃(g:Nat),a x c d e f g)
abbrev gA(a:MH->PH->Prop):Prop:=∀(x:MH)(c:PH),a x c
abbrev BY(a:PH)(b:PV->Pred->MH->PH->Prop):Prop:=∀(x:PV)(d:Pred),gA (λe c=>cC a c (dD c d x) (b x d e c))
abbrev JM(a:cz)(b:MH)(c:PH)(d:Nat)(e:PV->MH->PH->Prop):Prop:=BZ (λx o t g j f=>aA (a=cT x (fJ o::iO t (↑f:Int))) (aL b c x) (aA (Ints c o g) (Ints c t j) (aA (fO g) (fO j) (aA (f<d) (mG f) (BY c (λy z n u=>PW g j f z->bF b n x->aL n u x->e y n u))))))
noncomputable abbrev Hq(a b:Int)(c:At):cw:=cO (gC a) fD (cO (gC b) fD (cO fD fD (cO aQz fD (cO fD fD (cO (gC b) aQz (oD c))))))
noncomputable abbrev Hx(a:Int×Int×dg×MH×PH):List bx:=List.map PV.enc a.2.2.1
abbrev bH(a:Nat->Option Obj)(b:MH×PH):Prop:=a=b.1
noncomputable abbrev Ku(a:Int×Int×dg×MH×PH):Nat->Nat->Option Value:=a.2.2.2.2
attribute [push_cast] oV JL cT mG fO He BZ gA BY JM Hq Hx bH Ku
def Wf(N:Nat)(cb:Nat)(s t:Sl)(deep:Nat)(m:MH)(h:PH)(K:bz):Prop:=
  iZ cb 9 m h (λk G=>∃(I:Int×Bool×MH->Prop),eO k 0 (oV cb 2 G h (λc=>c) (λc r=>∀(e:MH),bF G e c->aL e h c->JL I cb s t deep k (λx=>lC r x.2.1) e h)) (JL I cb s t deep k (λx=>DA x.2.1) G h)/\∀(x:Int×Bool×MH),iU (I x) x.2.1 (iZ cb 2 x.2.2 h (λj e=>K (lS (Fb (eF (fH (1+j))) iS)) e h)) (∃(I1:Int×Bool×MH->Prop),aZ x.1 6 (JL I1 cb s t deep x.1 (λn=>zT n.2.1) x.2.2 h) (JL I1 cb s t deep x.1 (λn=>lC (decide ((↑deep:Int)<1)) n.2.1) x.2.2 h)/\∀(n:Int×Bool×MH),I1 n->cW n.2.1 (∃(I2:Int×MH->Prop),fA (aH s) 0 (iZ cb (aH s) n.2.2 h (λj e=>bJ (λb o=>aA (bM s.a b o) (0<=j) (j<aH s/\∃(y:Int),aU e h b (fU o j 1) (bG y)/\∃(d:Int×MH),aA
 (I2 d) (cR cb) (aA (aI s) (aI t) (aA eZ (dW y d.1) (aA mN (e=d.2) (bN h h)))))))) (∃(d:Int×MH),aA (I2 d) (cR cb) (aA (aI s) (aI t) (aA eZ (dW 4 d.1) (aA mN (n.2.2=d.2) (bN h h)))))/\∀(d:Int×MH),I2 d->∃(I3:PV×Int×MH->Prop),iZ cb 6 d.2 h (λj e=>∃(c:Nat),pW (λA D=>∃(H:Int),II (λB p=>aA (cT cb (fJ s::iO t d.1)=cT c (fJ A::iO D H)) (aL e h c) (aA (Ints h A B) (Ints h D p) (aA (fO B) (fO p) (∀(o:OV)(u:MH),Xw B p H o->bF e u c->aL u h c->IK (λC J=>aA (aW (iD cb) d.1=aW (iD C) J) (aL u h C) (∀(v:VV)(E:MH),Re v->Xy J v->bF u E C->aL E h C->∃(f:PV×Int×MH),aA (I3 f) (cR cb) (aA (aI s)
 (aI t) (aA eZ (dW d.1 f.2.1) (aA (eP 11) mN (bP (He (cO (gC 3) (gC (fH (1+j))) (cO (gC o.kind) (tJ o) (cO (tE o) (gC (xP o)) (cO (tF o) (gC 3) (cO fD (gC v.kind) (cO (gC v.int) (UH v.text) (oD FU))))))) f.1) (E=f.2.2) (h=h)))))))))))))/\∀(f:PV×Int×MH),I3 f->∃(I4:PV×MH->Prop),oV cb 3 f.2.2 h (λc=>c) (λc r=>∀(e:MH),bF f.2.2 e c->aL e h c->branch r (∃(B:Nat),pW (λA D=>∃(j:Int),II (λC p=>aA (cT cb (fJ s::iO t f.2.1)=cT B (fJ A::iO D j)) (aL e h B) (aA (Ints h A C) (Ints h D p) (aA (fO C) (fO p) (∀(o:OV)(u:MH),Xw C p j o->bF e u B->aL u h B->∃(g:PV×MH),aA (I4 g) (cR cb) (aA eZ (eP 11) (aA mN (He (cO (gC
 f.1.op) (gC f.1.cmp) (cO (gC f.1.left.kind) (tJ f.1.left) (cO (tE f.1.left) (gC (xP f.1.left)) (cO (tF f.1.left) (gC o.kind) (cO (tJ o) (tE o) (cO (gC (xP o)) (tF o) (oD (vK f.1.args)))))))) g.1) (aA (u=g.2) (h=h) True))))))))) (∃(g:PV×MH),aA (I4 g) (cR cb) (aA eZ (eP 11) (aA mN (nL 32 f.1.enc=nL 32 g.1.enc) (aA (e=g.2) (h=h) True)))))/\∀(g:PV×MH),I4 g->∃(I5:PV×MH->Prop),oV cb 6 g.2 h (λc=>c) (λc r=>∀(e:MH),bF g.2 e c->aL e h c->branch r (∃(z:PV×MH),aA (I5 z) eZ (aA (eP 11) mN (bP (He (cO (gC g.1.op) (gC g.1.cmp) (cO (gC g.1.right.kind) (tJ g.1.right) (cO (tE g.1.right) (gC (xP g.1.right)) (cO (tF g.1.right) (gC g.1.left.kind) (cO (tJ g.1.left) (tE
 g.1.left) (cO (gC (xP g.1.left)) (tF g.1.left) (oD (vK g.1.args)))))))) z.1) (e=z.2) (h=h)))) (∃(z:PV×MH),aA (I5 z) eZ (aA (eP 11) mN (bP (nL 32 g.1.enc=nL 32 z.1.enc) (e=z.2) (h=h)))))/\∀(z:PV×MH),I5 z->K (cQ z.1) z.2 h) (n.1==6) (JM (cT cb (fJ s::iO t (fH ((↑deep:Int)-1)))) n.2.2 h N (λv e F=>bO F 13 (kP v.enc) (λA L=>K (lS (Fb (eF 6) (bA A))) e L))) (iZ cb 3 n.2.2 h (λj e=>∃(I2:Int×Int×dg×MH×PH->Prop)(u:Int×Int×dg×MH×PH->Nat),(∃(d:Int×Int×dg×MH×PH),aA (I2 d) (cR cb) (aA (aI s) (aI t) (aA (eQ (FP deep)) eZ (aA (eP 12) (dW j d.2.1) (aA mN (CP (Hq (fH (fH (4+n.1)-7)) 0 (At.lst 104)) (Hq d.1 0 (At.lst 104))) (aA
 (qZ 32 13 (Hx d)) (bH e d.2.2.2) (bN h (Ku d))))))))/\∀(d:Int×Int×dg×MH×PH),I2 d->gM d.2.1 0 (JM (cT cb (fJ s::iO t (fH ((↑deep:Int)-1)))) d.2.2.2.1 (Ku d) N (λv E F=>nG (Hx d) 136 (∃(f:Int×Int×dg×MH×PH),aA (I2 f) (u f<u d) (aA (cR cb) (aI s) (aA (aI t) (eQ (FP deep)) (aA eZ (eP 12) (aA (dW (fH (d.2.1-1)) f.2.1) mN (aA (CP (Hq d.1 0 (At.lst 104)) (Hq f.1 0 (At.lst 104))) (Option.some (Own.lst 32 13 (eN (Hx d) v.enc))=Option.some (Own.lst 32 13 (Hx f))) (aA (bH E f.2.2.2) (F=Ku f) True))))))))) (bO (Ku d) 13 (Hx d) (λA F=>K (lS (Fb (eF d.1) (bA A))) d.2.2.2.1 F))))))
def Wu(N:Nat)(cb:Nat)(s t:Sl)(deep:Nat)(m:MH)(h:PH)(K:bz):Prop:=
  JM (cT cb (fJ s::iO t (↑deep:Int))) m h N (λv e d=>ED (fJ s::fF t (cQ v)) d (λc p f=>eO (gH c p f) 2 (JM (cT cb (fJ s::iO t 1)) e d N (λg j n=>K (cQ g) j n)) (K (cQ v) e d)))
theorem W4:eqV zeroV zeroV=true:=by simp[eqV]
theorem CL:F9 0 dH dH=true:=by simp[F9,Z8,eqV]
theorem Yc{cols params:ca}{x:Int}(h:cols[i]? =some x):kindOf cols params ⟨1,i,zeroV⟩=x:=by
 have d:=(List.getElem?_eq_some_iff.1 h).1;have e:kindOf cols params ⟨1,i,zeroV⟩=rC cols ⟨1,i,zeroV⟩:=rfl;have c:=W4;rw[e];simp only[rC,c,Bool.not_true,Bool.or_false]
 grind
theorem Yb{cols params:ca}{x:Int}(h:params[i]? =some x):kindOf cols params ⟨2,i,zeroV⟩=x:=by
 have d:=(List.getElem?_eq_some_iff.1 h).1;have e:kindOf cols params ⟨2,i,zeroV⟩=rC params ⟨2,i,zeroV⟩:=rfl;have c:=W4;rw[e];simp only[rC,c,Bool.not_true,Bool.or_false]
 grind
theorem VG{cols params:ca}{c:Int}{v:VV}(f:Re v)(g:Xy c v):Xw cols params c ⟨3,0,v⟩:=⟨f,λh=>by
 obtain⟨j,d⟩:=g h;have e:kindOf cols params ⟨3,0,v⟩=if((0:Int) !=0|| !oC v)then 0 else v.kind:=rfl
 rw[e,if_neg,d];simp only[oC,j,d];rcases h with rfl|rfl|rfl<;>decide⟩
theorem Zr:bu 165 Xv:=by
 refine hU func165 ?_;rintro U m h K ⟨cb,s,t,d,e,c,rfl,V,P,Q,Z,l2,R⟩;refine⟨bnJ cb s t d m h,rfl,aE IL (aE LY aG),SI cb s t d m h K,bd,?_⟩;dsimp only[SI,push_cast];have E:=P.slen;have F:=Q.slen;refine⟨λ⟨i,f⟩=>i<=e.length/\f.length<=i/\∀o∈f,Xw e c d o,λ⟨i,_⟩=>e.length-i,⟨(0,[]),⟨aD,bf,bf⟩,MT⟩,?_⟩;rintro⟨i,f⟩ ⟨S,y,g⟩;dsimp only;refine aF (λj=>?_) (λz=>?_)
 .obtain⟨x,A⟩:=eT E j;obtain⟨G,H,I,J⟩:=P.at' A;refine⟨G,H,I,aD,j,x,.imm J,aC (λW=>⟨bj,bj,(i+1,f++[⟨1,i,zeroV⟩]),⟨aD,bj,?_⟩,aD,?_⟩) (λ_=>⟨(i+1,f),⟨aD,bk,g⟩,aD,MT⟩)⟩
  .intro o u;rcases mem_append.1 u with n|n
   .grind
   .simp at n;subst n;exact⟨sQ,λ_=>by rw[Yc (bt A)];grind⟩
  .rw[map_append];exact MT
 refine⟨λ⟨i,f⟩=>i<=c.length/\f.length<=1000+i/\∀o∈f,Xw e c d o,λ⟨i,_⟩=>c.length-i,⟨(0,f),⟨aD,aD,g⟩,MT⟩,?_⟩;clear S y g z;rintro⟨i,f⟩ ⟨S,y,g⟩;dsimp only;refine aF (λj=>?_) (λz=>?_)
 .obtain⟨x,A⟩:=eT F j;obtain⟨G,H,I,J⟩:=Q.at' A;refine⟨G,H,I,aD,j,x,.imm J,aC (λW=>⟨bj,bj,(i+1,f++[⟨2,i,zeroV⟩]),⟨aD,bj,?_⟩,aD,?_⟩) (λ_=>⟨(i+1,f),⟨aD,bk,g⟩,aD,MT⟩)⟩
  .intro o u;rcases mem_append.1 u with n|n
   .grind
   .simp at n;subst n;exact⟨sQ,λ_=>by rw[Yb (bt A)];grind⟩
  .rw[map_append];exact MT
 .refine⟨cb,_,rfl,V,λk m' X n u B=>aF (λT=>?_) (λT=>⟨cb,d,rfl,B,λv L Y M O C=>R ⟨3,0,v⟩ L (VG Y M) (u.trans O) C⟩)⟩;have D:k.toNat<f.length:=bk
  exact⟨X,T,_,by rw[getElem?_map,getElem?_eq_getElem D];rfl,f[k.toNat],rfl,R _ m' (g _ (getElem_mem D)) u B⟩
theorem Pp{h:PH}{v:PV}(c:v.args=⟨none,0,0⟩):dD h (.mk v.op v.cmp v.left v.right []) v:=dD.mk (by rw[c];exact .nil _ _ _ _)
structure bKZ(cols params:ca)(kd:Int)(p:PV):Prop where
 args_:p.args=⟨none,0,0⟩
 op_:p.op=3
 cmp_:1<=p.cmp/\p.cmp<=6
 left_:Xw cols params kd p.left
 right_:Xw cols params kd p.right
 kind_:NK cols->KOk kd
theorem bQX{k:Int}(h:KOk k):k≠0:=by rcases h with rfl|rfl|rfl<;>decide
theorem bKZ.pw{cols params:ca}{f:Int}{p:PV}(x:bKZ cols params f p)(d:Nat):PW cols params d (.mk p.op p.cmp p.left p.right []):=by
 refine⟨⟨x.left_.val,x.right_.val,trivial⟩,λg=>?_,Qx.leaf d⟩;have c:=x.kind_ g;have j:=x.left_.kind c;have n:=x.right_.kind c;have o:=bQX c;have e:=x.cmp_;rw[x.op_];simp[jP,j,n,o,e.1,e.2]
theorem cmJ{cols params:ca}{d:Nat}(x:PW cols params d p):PW cols params (d+1) (.mk 6 0 dH dH [p]):=
 ⟨⟨sQ,sQ,x.vals,trivial⟩,λf=>by
  have e:=CL;simp[jP,xY,e,x.valid f],Qx.node (λq c=>by simp at c;subst c;exact x.siz) bf⟩
theorem cnQ{cols params:ca}{d:Nat}{op:Int}{ps:cr}(f:op=4\/op=5)(x:∀p∈ps,PW cols params d p)(g:ps.length<=3):PW cols params (d+1) (.mk op 0 dH dH ps):=
 ⟨⟨sQ,sQ,QC.2 λp c=>(x p c).vals⟩,λj=>by
  have e:=CL;have n:xY cols params ps=true:=by rw[FZ,all_eq_true];exactλp c=>(x p c).valid j
  rcases f with rfl|rfl<;>simp[jP,e,n],Qx.node (λq o=>(x q o).siz) g⟩
theorem aoZ:∀N,bu 93 (bAX N)
 |0=>by
  refine dU (fn:=Tryz.f93) (c:=bW Tryz.f93) func93 rfl bg ?_;rintro a0 m h K ⟨cb,s,t,f,d,deep,rfl,_,_,_,_,_,hN,_⟩;omega
 |N+1=>by
  refine hU func93 ?_;rintro a0 m h K ⟨cb,s,t,f,d,deep,rfl,hc,M,ht,l1,l2,hN,hd,hK⟩;refine⟨bSJ N cb s t deep h,rfl,aE IL (aE Cb (aE Zr (aE LY (aE (aoZ N) aG)))),Wf N cb s t deep m h K,bd,?_⟩;dsimp only[Wf,push_cast];have a6:=M.slen;refine⟨cb,9,rfl,hc,λk B L O g y=>?_⟩;refine⟨λ⟨k,_,z⟩=>0<=k/\k<=8/\bF m z cb/\aL z h cb,aC (λ_=>⟨cb,2,rfl,aD,aD,y,λr E C D=>⟨(k,r,E),⟨L,aD,g.trans C,D⟩,MT⟩⟩) (λ_=>⟨(k,false,B),⟨L,aD,g,y⟩,MT⟩),?_⟩;clear L O g y k B;rintro⟨k,b,B⟩ ⟨L,O,g,y⟩;dsimp only;refine aC (λ_=>⟨cb,2,rfl,y,λj E R j1 C D=>?_⟩) (λ_=>?_)
  .refine hK ⟨IntKind.i64.wrap (1+j),0,dH,dH,⟨none,0,0⟩⟩ _ E h (.refl _) (Pp rfl) ⟨⟨sQ,sQ,trivial⟩,λ_=>?_,Qx.leaf _⟩ (g.trans C) D;have hj:j=0\/j=1:=by omega
   have e1:IntKind.i64.wrap 1=1:=bg
   have e2:IntKind.i64.wrap 2=2:=bg
   rcases hj with rfl|rfl
   .simp[jP,e1,CL]
   .simp[jP,e2,CL]
  refine⟨λ⟨k,b,z⟩=>0<=k/\k<=8/\(b=false->6<=k/\1<=deep)/\bF m z cb/\aL z h cb,aF (λ_=>⟨(k,true,B),⟨L,O,λe=>(by cases e),g,y⟩,MT⟩) (λhk=>⟨(k,_,B),⟨L,O,λe=>?_,g,y⟩,MT⟩),?_⟩
  .grind
  clear L O g y k B;rintro⟨k,b,B⟩ ⟨L,O,kb,g,y⟩;dsimp only;refine aC (λ_=>?_) (λhb=>?_)
  .refine⟨λ⟨G,z⟩=>(NK f->KOk G)/\bF m z cb/\aL z h cb,aF (λa5=>⟨cb,s.len,rfl,y,λj E R j1 C D=>?_⟩) (λ_=>⟨(4,B),⟨λ_=>.inr (.inl rfl),g,y⟩,MT⟩),?_⟩
   .obtain⟨b1,off,e1,r1⟩:=M.inb (n:=j) R aD
    have hm:f.getD j.toNat 0∈f:=by
     grind
    exact⟨b1,off,e1,R,aD,_,.imm r1,(_,E),⟨λS=>S _ hm,g.trans C,D⟩,MT⟩
   clear g y B;rintro⟨G,B⟩ ⟨T,g,y⟩;dsimp only;refine⟨λ⟨p,G,z⟩=>bKZ f d G p/\bF m z cb/\aL z h cb,⟨cb,6,rfl,y,λj E R j1 C D=>⟨cb,s,t,G,f,d,rfl,D,M,ht,l1,l2,λo m3 ho U V=>⟨cb,G,rfl,V,λv m4 hv a1 o4 c4=>⟨(⟨3,IntKind.i64.wrap (1+j),o,⟨3,0,v⟩,⟨none,0,0⟩⟩,G,m4),⟨⟨rfl,rfl,?_,ho,VG hv a1,T⟩,((g.trans C).trans U).trans o4,c4⟩,MT⟩⟩⟩⟩,?_⟩
   .show 1<=IntKind.i64.wrap (1+j)/\IntKind.i64.wrap (1+j)<=6;rw[eH aD aD];omega
   clear g y B T G;rintro⟨p,G,B⟩ ⟨pw,g,y⟩;dsimp only;refine⟨λ⟨p,z⟩=>bKZ f d G p/\bF m z cb/\aL z h cb,⟨cb,3,rfl,aD,aD,y,λr E C D=>aC (λ_=>⟨cb,s,t,G,f,d,rfl,D,M,ht,l1,l2,λo m3 ho U V=>⟨(⟨p.op,p.cmp,p.left,o,p.args⟩,m3),⟨⟨pw.args_,pw.op_,pw.cmp_,pw.left_,ho,pw.kind_⟩,(g.trans C).trans U,V⟩,MT⟩⟩) (λ_=>⟨(p,E),⟨pw,g.trans C,D⟩,MT⟩)⟩,?_⟩;clear pw g y B p;rintro⟨p,B⟩ ⟨pw,g,y⟩;dsimp only;refine⟨λ⟨p,z⟩=>bKZ f d G p/\bF m z cb/\aL z h cb,⟨cb,6,rfl,aD,aD,y,λr E C D=>aC (λ_=>⟨(⟨p.op,p.cmp,p.right,p.left,p.args⟩,E),⟨⟨pw.args_,pw.op_,pw.cmp_,pw.right_,pw.left_,pw.kind_⟩,g.trans C,D⟩,MT⟩) (λ_=>⟨(p,E),⟨pw,g.trans C,D⟩,MT⟩)⟩,?_⟩;clear pw g y B p;rintro⟨p,B⟩ ⟨pw,g,y⟩;exact hK p _ B h (.refl _) (Pp pw.args_) (pw.pw deep) g y
  have a2:=kb hb;have hw:IntKind.i64.wrap ((deep:Int)-1)=((deep-1:Nat):Int):=by rw[eH aD aD];omega
  rw[hw];have W:deep=deep-1+1:=by omega
  refine aC (λ_=>⟨cb,s,t,f,d,deep-1,rfl,y,M,ht,l1,l2,aD,aD,λv p E h2 F hr hp C D X Y H I=>?_⟩) (λa3=>⟨cb,3,rfl,y,λj E R j1 C D=>?_⟩)
  .refine hK ⟨6,0,dH,dH,X⟩ (.mk 6 0 dH dH [p]) E Y (F.trans H) (dD.mk (v:=⟨6,0,dH,dH,X⟩) ⟨⟨[v],I,rfl,λi x J=>?_⟩,bf⟩) (by rw[W];exact cmJ hp) (g.trans C) (D.mono H)
   match i,J with
   |0,J=>simp at J;subst J;exact⟨v,rfl,hr.mono H⟩
   |_+1,J=>simp at J
  refine⟨λ⟨op,n,P,z,J⟩=>(op=4\/op=5)/\ -1<=n/\n<=2/\(P.length:Int)<=2-n/\PH.le h J/\bF m z cb/\aL z J cb/\∃ps:cr,ps.length=P.length/\(∀q∈ps,PW f d (deep-1) q)/\∀(i:Nat) q,ps[i]? =some q->∃u,P[i]? =some u/\dD J q u,λ⟨_,n,_,_,_⟩=>(n+1).toNat,⟨(_,j,[],E,h),⟨?_,aD,aD,bj,.refl _,g.trans C,D,[],rfl,bf,λi q Q=>by simp at Q⟩,MT⟩,?_⟩
  .have a3:k≠6:=bk
   have a4:k=7\/k=8:=by omega
   rcases a4 with rfl|rfl
   .exact .inl bg
   .exact .inr bg
  rintro⟨op,n,P,z,J⟩ ⟨Z,n0,n1,ul,F,ox,cx,ps,pl,pw,a'⟩;dsimp only;refine aF (λhn=>⟨cb,s,t,f,d,deep-1,rfl,cx,M.mono F,ht.mono F,l1,l2,aD,aD,λv p m3 Y A hr hp U V=>⟨bj,bj,(op,n-1,P++[v],m3,Y),⟨Z,bk,bk,bj,F.trans A,ox.trans U,V,ps++[p],by simp[pl],?_,?_⟩,?_,?_⟩⟩) (λhn X Y A I=>?_)
  .grind
  .intro i q Q;by_cases hi:i<ps.length
   .rw[getElem?_append_left hi]at Q;obtain⟨u,h1,h2⟩:=a' i q Q;exact⟨u,bk,h2.mono A⟩
   grind
  .grind
  .rw[map_append,eH aD aD];exact MT
  .exact hK ⟨op,0,dH,dH,X⟩ (.mk op 0 dH dH ps) z Y (F.trans A) (dD.mk (v:=⟨op,0,dH,dH,X⟩) ⟨⟨P,I,pl,λi q Q=>(a' i q Q).imp λu hu=>⟨hu.1,hu.2.mono A⟩⟩,aD⟩) (by rw[W];exact cnQ Z pw aD) ox (cx.mono A)
theorem Xa(h:NK l):l.all dJ=true:=all_eq_true.2 λk c=>by
 rcases h k c with e|e|e<;>subst e<;>rfl
theorem akZ{cols params:ca}{d:Nat}(x:PW cols params d p)(e:d<=2)(c:NK cols)(f:NK params):gH cols params p=0:=by
 have j:=O9 p 0;have o:=x.siz.n;have g:=Nu p 8 (by have:=x.siz.d;omega)
 have t:gF d<=13:=by match d,e with
  |0,_=>decide
  |1,_=>decide
  |2,_=>decide
 unfold gH;rw[Xa c,Xa f,if_neg bf,g,if_neg bj,x.valid c];rfl
theorem L5:bu 44 FC:=by
 refine hU func44 ?_;rintro F m h K ⟨cb,s,t,e,c,deep,rfl,G,j,n,y,z,H,A⟩;refine⟨dA [(93,bAX 1001),(94,uR)] [] [] [] false,rfl,aE (aoZ 1001) (aE LZ aG),Wu 1001 cb s t deep m h K,bd,?_⟩;dsimp only[Wu,push_cast];refine⟨cb,s,t,e,c,deep,rfl,G,j,n,y,z,aD,H,λv p I J d B C D E=>⟨s,t,v,e,c,p,rfl,j.mono d,n.mono d,B,aC (λ_=>⟨cb,s,t,e,c,1,rfl,E,j.mono d,n.mono d,y,z,aD,aD,λL M O P f o g Q R=>A L M O P (d.trans f) o ⟨g.vals,λ_ u x=>akZ g bg u x⟩ (D.trans Q) R⟩) (λ_=>A v p I J d B ⟨C.vals,λS u x=>akZ C S u x⟩ D E)⟩⟩
def bR:Sl:=⟨none,0,0⟩
def azZ:Vc.Spec:=λc m h K=>∃n k,c=[Xf n,cI k]/\K (.val (.agg ⟨(rF.mk n k).enc⟩)) m h
def bCJ:Vc.Spec:=λc m h K=>∃t,c=[cI t]/\K (aQ ⟨1,t,fT,bR,bR,bR,bR,0,bR⟩) m h
def cbQ(v:QV)(g o:Sl)(k:Int):QV:=⟨v.op,v.table,v.where_,v.columns,v.on,g,o,k,v.args⟩
def ceJ:Vc.Spec:=λd m h K=>∃cb v s c,d=[cP cb,aQ (cbQ v bR bR v.limit),cS s]/\aL m h cb/\Ints h s c/\c.length<=1000/\
 ∀g o k gr od m' h',PH.le h h'->Ints h' g gr->jT h' o od->gr.length<=c.length->od.length<=c.length->0<=k->k<=3->bF m m' cb->aL m' h' cb->K (aQ (cbQ v g o k)) m' h'
noncomputable def bYX(cb:Nat)(v:QV)(s:Sl)(h:PH):Ctx:=
 dA [(12,Ic),(13,QX)] [(2,{A:=Nat×ca×cg×MH,st:=λ⟨i,gr,od,m⟩=>bQ 37 40 [(0,pv cb),(4,.at (.ptr 4 0)),(6,.at (.ptr 6 0)),(9,iv s.len),(10,iv i)] [(4,.cells 38 ((v.enc.take 17).map .val++[.lst 19,.lst 30,.val (.int .i64 v.limit),.val (.slice v.args.a v.args.len v.args.cap)])),(6,.cells 38 (lH.enc.map .val)),(19,.lst 3 1 (gr.map eI)),(30,.lst 103 2 (od.map rN))] m h})] [] [] false
def beX(n:ByteArray)(k:Int)(m:MH)(h:PH)(K:bz):Prop:=
  K (lS (jK (Value.string n) (eF k))) m h
noncomputable abbrev BD(a:Int):bx:=vR (eF 1) (eF a) lF lF lF lF dE iS
attribute [push_cast] BD
def bfJ(t:Int)(m:MH)(h:PH)(K:bz):Prop:=
  K (lS (BD t)) m h
abbrev G5(a:QV):Prop:=eQ (oQ 38 (cO (gC a.op) (pU a) (tG a (uH a) a.on (At.lst 19) (At.lst 30) (lV (gC a.limit) (Bj a)))))
noncomputable abbrev vE(a:Nat×ca×cg×MH):List bx:=Gh a.2.2.1
abbrev JN(a:Nat×ca×cg×MH->Prop)(b:Nat×ca×cg×MH->Nat)(c:Nat×ca×cg×MH)(d:Nat)(e:Sl)(g:Prop)(i j:(Nat×ca×cg×MH)->Prop)(k:MH)(l:PH):Prop:=∃(x:Nat×ca×cg×MH),aA (a x) (b x<b c) (aA (cR d) i6 (aA (eP 6) (bI e) (aA (bD (fZ (bE c.1 1)) x.1) g (aA eG (i x) (aA (j x) (k=x.2.2.2) (bN l l))))))
attribute [push_cast] G5 vE JN
def Wv(cb:Nat)(v:QV)(s:Sl)(m:MH)(h:PH)(K:bz):Prop:=
  ∃(I:Nat×ca×cg×MH->Prop)(o:Nat×ca×cg×MH->Nat),(∃(x:Nat×ca×cg×MH),aA (I x) (cR cb) (aA i6 (eP 6) (aA (bI s) (bB x.1) (aA (G5 v) eG (tI (tL (cZ x.2.1)) (qZ 103 2 (vE x)) (m=x.2.2.2) h h)))))/\∀(x:Nat×ca×cg×MH),I x->aZ (↑x.1:Int) (aH s) (oV cb 3 x.2.2.2 h (λc=>c) (λc r=>∀(j:MH),bF x.2.2.2 j c->aL j h c->branch r (nG (cZ x.2.1) 8 (oV cb 3 j h (λf=>f) (λf t=>∀(e:MH),bF j e f->aL e h f->branch t (oV cb 2 e h (λg=>g) (λg u=>∀(n:MH),bF e n g->aL n h g->nG (vE x) 16 (JN I o x cb s (G5 v) (λd=>jV (eN (cZ x.2.1) (bG (↑x.1:Int))) d.2.1)
 (λd=>Option.some (Own.lst 103 2 (eN (vE x) (jK (eF (↑x.1:Int)) (Value.bool u))))=Option.some (Own.lst 103 2 (vE d))) n h))) (JN I o x cb s (G5 v) (λd=>jV (eN (cZ x.2.1) (bG (↑x.1:Int))) d.2.1) (λd=>Option.some (Own.lst 103 2 (vE x))=Option.some (Own.lst 103 2 (vE d))) e h)))) (oV cb 3 j h (λf=>f) (λf t=>∀(e:MH),bF j e f->aL e h f->branch t (oV cb 2 e h (λg=>g) (λg u=>∀(n:MH),bF e n g->aL n h g->nG (vE x) 16 (JN I o x cb s (G5 v) (λd=>jV (cZ x.2.1) d.2.1) (λd=>Option.some (Own.lst 103 2 (eN (vE x) (jK (eF (↑x.1:Int)) (Value.bool u))))=Option.some (Own.lst 103 2 (vE d))) n h))) (JN I o x cb s (G5 v) (λd=>jV (cZ x.2.1) d.2.1)
 (λd=>Option.some (Own.lst 103 2 (vE x))=Option.some (Own.lst 103 2 (vE d))) e h))))) (iZ cb 4 x.2.2.2 h (λk j=>bO h 1 (cZ x.2.1) (λy z=>bO z 2 (vE x) (λA B=>K (wQ v v (aM (mX (jW v)) (kA (fB v)) (aM (qX (fB v)) (j7 (fB v)) (aM (rK (fB v)) (mX (fB v)) (aM (Cn v) (Cq v) (aM (fK v.on) (fK y) (aM (fK A) (eF k) (bA v.args)))))))) j B))))
theorem aKJ:bu 92 azZ:=by
 refine hU func92 ?_;rintro c m h K ⟨n,k,rfl,d⟩;refine⟨dA [] [] [] [] false,rfl,aG,beX n k m h K,bd,?_⟩;exact d
theorem RZ:bu 40 bCJ:=by
 refine hU func40 ?_;rintro c m h K ⟨t,rfl,d⟩;refine⟨dA [] [] [] [] false,rfl,aG,bfJ t m h K,bd,?_⟩;exact d
theorem aNJ:bu 43 ceJ:=by
 refine hU func43 ?_;rintro I m h K ⟨cb,v,s,c,rfl,J,L,X,M⟩;refine⟨bYX cb v s h,rfl,aE IL (aE Cb aG),Wv cb v s m h K,bd,?_⟩;dsimp only[Wv,push_cast];have O:=L.slen;refine⟨λ⟨i,gr,od,E⟩=>i<=c.length/\gr.length<=i/\od.length<=i/\bF m E cb/\aL E h cb,λ⟨i,_,_,_⟩=>c.length-i,⟨(0,[],[],m),⟨aD,bf,bf,.refl _ _,J⟩,MT⟩,?_⟩;rintro⟨i,gr,od,Y⟩ ⟨Z,hg,ho,n,F⟩;dsimp only;refine aF (λP=>?_) (λQ=>?_)
 .have fin:∀(f:ca)(g:cg) m',f.length<=i+1->g.length<=i+1->bF m m' cb->aL m' h cb->(i+1<=c.length/\f.length<=i+1/\g.length<=i+1/\bF m m' cb/\aL m' h cb):=λf g m' G A R S=>⟨aD,G,A,R,S⟩
  refine⟨cb,3,rfl,aD,aD,F,λr H j z=>aC (λ_=>⟨bj,bj,cb,3,rfl,aD,aD,z,λB o t u=>aC (λ_=>⟨cb,2,rfl,aD,aD,u,λx y C D=>⟨bj,bj,(i+1,gr++[(i:Int)],od++[((i:Int),x)],y),fin (gr++[(i:Int)]) (od++[((i:Int),x)]) y bj bj (((n.trans j).trans t).trans C) D,aD,?_⟩⟩) (λ_=>⟨(i+1,gr++[(i:Int)],od,o),fin (gr++[(i:Int)]) od o bj aD ((n.trans j).trans t) u,aD,?_⟩)⟩)
   (λ_=>⟨cb,3,rfl,aD,aD,z,λB o t u=>aC (λ_=>⟨cb,2,rfl,aD,aD,u,λx y C D=>⟨bj,bj,(i+1,gr,od++[((i:Int),x)],y),fin gr (od++[((i:Int),x)]) y aD bj (((n.trans j).trans t).trans C) D,aD,?_⟩⟩) (λ_=>⟨(i+1,gr,od,o),fin gr od o aD aD ((n.trans j).trans t) u,aD,MT⟩)⟩)⟩
  .simp only[map_append];exact MT
  .simp only[map_append];exact MT
  .simp only[map_append];exact MT
 .refine⟨cb,4,rfl,F,λk H T k1 j z U G e V W A d B=>?_⟩;exact M U W k gr od H A (e.trans d) ⟨V.mono d,aD⟩ ⟨B,aD⟩ aD aD T aD (n.trans j) (z.mono (e.trans d))
def bEJ:Vc.Spec:=λc m h K=>∃cb s t a b,c=[cP cb,cS s,cS t]/\aL m h cb/\Ints h s a/\Ints h t b/\a.length<=1000/\b.length<=1000/\
 ∀o on m' h',PH.le h h'->iF h' o on->on.length<=10->bF m m' cb->aL m' h' cb->K (cS o) m' h'
noncomputable def bYJ(cb:Nat)(s t:Sl)(h:PH):Ctx:=
 dA [(12,Ic)] [(3,{A:=Int×ce×MH,st:=λ⟨n,on,m⟩=>bQ 77 80 [(0,pv cb),(1,sv s),(2,sv t),(7,.at (.lst 75)),(8,iv n)] [(75,.lst 101 2 (on.map kX))] m h}),
  (8,{A:=Int×Nat×ce×(Int×Int)×Bool×MH,st:=λ⟨n,i,on,p,f,m⟩=>bQ 77 80 [(0,pv cb),(1,sv s),(2,sv t),(7,.at (.lst 75)),(8,iv n),(9,.at (.ptr 9 0)),(10,bv f),(49,.at (.lst 75)),(50,iv on.length),(51,iv i)] [(9,.cells 101 [.val (.int .i64 p.1),.val (.int .i64 p.2)]),(75,.lst 101 2 (on.map kX))] m h})] [] [] false
noncomputable abbrev BI(a:Int×ce×MH):List bx:=xH a.2.1
noncomputable abbrev EP(a:Int×Nat×ce×(Int×Int)×Bool×MH):Bool:=a.2.2.2.2.1
noncomputable abbrev BH(a:Int×Nat×ce×(Int×Int)×Bool×MH):Nat:=a.2.2.1.length
noncomputable abbrev Cj(a:Int×Nat×ce×(Int×Int)×Bool×MH):Int×Int:=a.2.2.2.1
noncomputable abbrev vD(a:Int×Nat×ce×(Int×Int)×Bool×MH):List bx:=xH a.2.2.1
noncomputable abbrev Ao(a:Int×Nat×ce×(Int×Int)×Bool×MH):Nat->Option Obj:=a.2.2.2.2.2
abbrev N1(a:dm->Prop)(b:dm->Nat)(c d:Nat)(e g:Sl)(i:Int×Nat×ce×(Int×Int)×Bool×MH)(j:dm->Int×Nat×ce×(Int×Int)×Bool×MH)(k:dm->Prop):Prop:=∃(x:Int×Nat×ce×(Int×Int)×Bool×MH),aA (a x) (b x<c) (aA (cR d) (aI e) (aA (aI g) (eL 75) (aA (dW i.1 (j x).1) (eP 9) (k x))))
attribute [push_cast] BI EP BH Cj vD Ao N1
def Wx(cb:Nat)(s t:Sl)(m:MH)(h:PH)(K:bz):Prop:=
  iZ cb 3 m h (λk F=>∃(I:Int×ce×MH->Prop)(n:Int×ce×MH->Nat),(∃(x:Int×ce×MH),aA (I x) (cR cb) (aA (aI s) (aI t) (aA (eL 75) (dW k x.1) (aA (qZ 101 2 (BI x)) (F=x.2.2) (bN h h)))))/\∀(x:Int×ce×MH),I x->fA x.1 0 (fA (aH s) 0 (fA (aH t) 0 (iZ cb (aH s) x.2.2 h (λu G=>iZ cb (aH t) G h (λz A=>aA (bZ 0) ((0:Int)<2) (bJ (λb o=>aA (bM s.a b o) (0<=u) (u<aH s/\∃(y:Int),aA (aU A h b (fU o u 1) (bG y)) ((0:Int)<=1) ((1:Int)<2/\bJ (λC D=>aA (bM t.a C D) (0<=z) (z<aH t/\∃(E:Int),aU A h C (fU D z 1) (bG E)/\∃(I1:Int×Nat×ce×(Int×Int)×Bool×MH->Prop)(f:Int×Nat×ce
 ×(Int×Int)×Bool×MH->Nat),(∃(c:Int×Nat×ce×(Int×Int)×Bool×MH),aA (I1 c) (cR cb) (aA (aI s) (aI t) (aA (eL 75) (dW x.1 c.1) (aA (eP 9) (lC (y==E) (EP c)) (aA (eL 75) (cM (BI x).length (BH c)) (aA (bB c.2.1) (EO (lV (gC u) (gC z)) (wT (Cj c))) (bP (BE (BI x) (vD c)) (A=Ao c) (h=h))))))))/\∀(c:Int×Nat×ce×(Int×Int)×Bool×MH),I1 c->aZ (↑c.2.1:Int) (↑(BH c):Int) (nZ (↑c.2.1:Int) ((↑c.2.1:Int)<jH (vD c)) (λe=>mQ (vD c) (↑c.2.1:Int) e/\∃(B:Int×Int),qB 2 e (pB B)/\branch (EP c) (aA (bZ 0) ((0:Int)<2) (aA (bZ 0) ((0:Int)<2) (eC B.1 (Cj c).1 (aA (bZ 1) ((1:Int)<2) (aA (bZ 1) ((1:Int)<
 2) (N1 (λd=>I1 d) (λd=>f d) (f c) cb s t c (λd=>d) (λd=>aA (lC (B.2 !=(Cj c).2) (EP d)) (eL 75) (aA (cM (BH c) (BH d)) (bD (fZ (bE c.2.1 1)) d.2.1) (aA (EO (wT (Cj c)) (wT (Cj d))) (BE (vD c) (vD d)) (aA (Ao c=Ao d) (h=h) True))))))) (N1 (λd=>I1 d) (λd=>f d) (f c) cb s t c (λd=>d) (λd=>aA (DA (EP d)) (eL 75) (aA (cM (BH c) (BH d)) (bD (fZ (bE c.2.1 1)) d.2.1) (aA (EO (wT (Cj c)) (wT (Cj d))) (BE (vD c) (vD d)) (aA (Ao c=Ao d) (h=h) True)))))))) (N1 (λd=>I1 d) (λd=>f d) (f c) cb s t c (λd=>d) (λd=>aA (DA (EP d)) (eL 75) (aA (cM (BH c) (BH d))
 (bD (fZ (bE c.2.1 1)) d.2.1) (aA (EO (wT (Cj c)) (wT (Cj d))) (BE (vD c) (vD d)) (aA (Ao c=Ao d) (h=h) True))))))) (branch (EP c) (nG (vD c) 16 (∃(d:Int×ce×MH),aA (I d) (n d<n x) (aA (cR cb) (aI s) (aA (aI t) (eL 75) (aA (dW (fH (c.1-1)) d.1) (Option.some (Own.lst 101 2 (eN (vD c) (pB (Cj c))))=Option.some (Own.lst 101 2 (BI d))) (aA (Ao c=d.2.2) (h=h) True)))))) (∃(d:Int×ce×MH),aA (I d) (n d<n x) (aA (cR cb) (aI s) (aA (aI t) (eL 75) (aA (dW (fH (c.1-1)) d.1) (BE (vD c) (BI d)) (aA (Ao c=d.2.2) (h=h) True))))))))))))))) (bO h 2 (BI x) (λg j=>K (fJ g) x.2.2 j))) (bO h 2 (BI x) (λg j=>
 K (fJ g) x.2.2 j))) (bO h 2 (BI x) (λg j=>K (fJ g) x.2.2 j)))
theorem aOX:bu 41 bEJ:=by
 refine hU func41 ?_;rintro L m h K ⟨cb,s,t,a,b,rfl,M,C,D,l1,l2,O⟩;refine⟨bYJ cb s t h,rfl,aE IL aG,Wx cb s t m h K,bd,?_⟩;dsimp only[Wx,push_cast];have P:=C.slen;have Q:=D.slen;refine⟨cb,3,rfl,M,λk g E R d j=>⟨λ⟨n,on,A⟩=>0<=n/\n<=2/\(on.length:Int)<=2-n/\bF m A cb/\aL A h cb,λ⟨n,_,_⟩=>n.toNat,⟨(k,[],g),⟨E,aD,bj,d,j⟩,MT⟩,?_⟩⟩;clear E R d j g;rintro⟨n,on,g⟩ ⟨n0,n1,S,d,j⟩;dsimp only;have out:∀(e:Sl)(h':PH),PH.le h h'->cD h' e 2 (on.map kX)->K (.val (.slice e.a e.len e.cap)) g h':=λe h' o u=>O e on g h' o ⟨u,aD⟩ aD d (j.mono o);refine aF (λhn=>aF (λhp=>aF (λhq=>?_) (λ_=>out)) (λ_=>out)) (λ_=>out);refine⟨cb,s.len,rfl,j,λx m2 F x1 G T=>⟨cb,t.len,rfl,T,λy c H y1 I J=>?_⟩⟩;obtain⟨U,V,W,X⟩:=C.inb (n:=x) F aD;obtain⟨Y,Z,e2,r2⟩:=D.inb (n:=y) H aD;refine⟨aD,aD,U,V,W,F,aD,_,.imm X,aD,aD,Y,Z,e2,H,aD,_,.imm r2,?_⟩;refine⟨λ⟨n',i,B,p,f,A⟩=>n'=n/\B=on/\A=c/\i<=on.length,λ⟨_,i,_,_,_,_⟩=>on.length-i,⟨(n,0,on,(x,y),a.getD x.toNat 0==b.getD y.toNat 0,c),⟨rfl,rfl,rfl,aD⟩,?_⟩,?_⟩
 .rw[length_map];exact MT
 rintro⟨n,i,on,p,f,c⟩ ⟨rfl,rfl,rfl,hi⟩;dsimp only;refine aF (λa'=>?_) (λa0=>?_)
 .have hl:i<on.length:=by omega
  have z:(on.map kX)[i]? =some (kX on[i]):=bk
  refine⟨aD,bk,_,z,on[i],rfl,aC (λ_=>⟨aD,aD,aD,aD,aC (λ_=>⟨aD,aD,aD,aD,(n,i+1,on,p,_,c),⟨rfl,rfl,rfl,br⟩,bo,MT⟩) (λ_=>⟨(n,i+1,on,p,_,c),⟨rfl,rfl,rfl,br⟩,bo,MT⟩)⟩) (λ_=>⟨(n,i+1,on,p,_,c),⟨rfl,rfl,rfl,br⟩,bo,MT⟩)⟩
 .have hw:IntKind.i64.wrap (n-1)=n-1:=eH aD aD;rw[hw];refine aC (λ_=>⟨bk,bk,(n-1,on++[p],c),⟨aD,aD,bj,(d.trans G).trans I,J⟩,aD,?_⟩) (λ_=>⟨(n-1,on,c),⟨aD,aD,bk,(d.trans G).trans I,J⟩,aD,MT⟩);rw[map_append];exact MT
def cEZ:Vc.Spec:=λd m h K=>∃s e,∃c:Nat,d=[cS s,cI c]/\cD h s 1 (bC e)/\s.len<=s.cap/\c<=1000/\∀cb m' h',PH.le h h'->m cb=none->bF m m' cb->aL m' h' cb->K (cP cb) m' h'
abbrev EA(a b:Prop)(c:(List bx)->Prop):Prop:=aA a b (∃(x:List bx),c x)
attribute [push_cast] EA
def aoJ(s:Sl)(c:Nat)(m:MH)(h:PH)(K:bz):Prop:=
  EA (bZ (ite ((↑c:Int)<aH s) (↑c:Int) (aH s))) (ite ((↑c:Int)<aH s) (↑c:Int) (aH s)<=(↑s.cap:Int)) (λy=>j6 1 y (mJ m h (Sl.mk s.a (ite ((↑c:Int)<aH s) (↑c:Int) (aH s)).toNat s.cap) 1 y) (fC (y.length*1)) (fC y.length) (bO h 1 y (λf e=>jY m e (λb d=>eA m d b (jK (fK f) dE) 83) (λb d=>K (iD b) d e))))
theorem Ju(l:cu):jI 1 (bC l):=by
 constructor
 .intro e c;obtain⟨x,_,rfl⟩:=mem_map.1 c;rfl
 .intro e c u d;obtain⟨x,_,rfl⟩:=mem_map.1 c;simp at d;subst d;rfl
theorem cD.cut{s:Sl}(r:cD h s sz xs)(n:Nat)(c:n<=xs.length):cD h ⟨s.a,n,s.cap⟩ sz (xs.take n):=by
 refine⟨bj,?_,by have d:=r.len;have f:=r.cap;grind⟩;rcases r.row with e|⟨b,o,g,k⟩
 .grind
 grind
theorem beZ:bu 8 cEZ:=by
 refine hU func8 ?_;rintro t m h K ⟨s,g,c,rfl,n,z,A,u⟩;refine⟨sN [] [] [] [] [83] [] false,rfl,aG,aoJ s c m h K,bd,?_⟩;have B:s.len=g.length:=by have:=n.len;simpa[bC]using this
 dsimp only[aoJ,push_cast];have d:(if(c:Int)<(s.len:Int)then(c:Int)else(s.len:Int))=((min c s.len:Nat):Int):=by omega
 rw[d];have e:=cD.cut n (min c s.len) (by simp[bC];omega);refine⟨aD,aD,bC (g.take (min c s.len)),Ju _,.imm ?_,by simp[bC];omega,by simp[bC];omega,λx h' j f b m' y o=>?_⟩
 .rw[show bC (g.take (min c s.len))=(bC g).take (min c s.len)by simp[bC,map_take]];exact e
 .exact u b m' h' j y.m_ ⟨o.other⟩ ⟨_,⟨⟨x,_,0,o.at_,f,aD,bj,rfl⟩⟩⟩
def cgJ:Vc.Spec:=λc m h K=>∃n:Nat,c=[.val (.slice none 0 0),cI n]/\n<=1000/\K (.lst 3 1 []) m h
noncomputable def boQ(c:Sl)(m:MH)(h:PH):Ctx:=
 dA [(222,cgJ)] [(3,{A:=Nat×Nat,st:=λ⟨i,n⟩=>bQ 36 37 [(0,sv c),(3,iv n),(9,sv c),(10,iv c.len),(11,iv i)] [] m h}),
  (11,{A:=Nat×ca,st:=λ⟨i,l⟩=>bQ 36 37 [(6,.at (.lst 24)),(25,sv c),(26,iv c.len),(27,iv i)] [(24,.lst 3 1 (l.map eI))] m h})] [] [] false
abbrev N9(a:Nat)(b c:Int)(d:bx)(e:Prop):Prop:=fA (fH ((↑a:Int)-fH (b-b))) 0 (aA (bZ b) (bZ 0) (aA (b<fH ((↑a:Int)-0)) (fH ((↑a:Int)-0)*c<=140737488355328) (aA (fH ((↑a:Int)-0)<=140737488355328) (0<=b) (bZ (jH (replicate (fH ((↑a:Int)-0)).toNat d))/\e)))) e
noncomputable abbrev BM:bx:=oK dE
attribute [push_cast] N9 BM
def Sf(n:Nat)(m:MH)(h:PH)(K:bz):Prop:=
  N9 n 0 8 BM (K (CV.lst 3 1 []) m h)
abbrev Kg(a:(Nat×Nat->Prop)->(Nat×Nat)->Prop)(b:(Nat×Nat->Prop)->(Nat×Nat->Nat)->(Nat×Nat)->Prop):Prop:=∃(x:Nat×Nat->Prop)(d:Nat×Nat->Nat),(∃(c:Nat×Nat),a x c)/\∀(c:Nat×Nat),b x d c
noncomputable abbrev E3(a:Nat):cz:=aW j8 (↑a:Int)
abbrev IH(a:MH)(b:PH)(c d e g:Nat)(i:bx)(j:(List bx)->Prop):Prop:=aU a b c (bK d e g) i/\∃(x:List bx),j x
attribute [push_cast] Kg E3 IH
def SJ(d:Sl)(m:MH)(h:PH)(K:bz):Prop:=
  Kg (λI x=>aA (I x) (aI d) (aA (bB x.2) (aI d) (aA (bI d) (bB x.1) (aA (m=m) (h=h) True)))) (λI g x=>I x->aZ (↑x.1:Int) (aH d) (eK d.a (↑x.1:Int) d (λb o y=>aU m h b (bK o x.1 1) (bA y)/\aZ (bE x.2 (aH y)) 0 False (∃(c:Nat×Nat),aA (I c) (g c<g x) (aA (aI d) (bD (fZ (bE x.2 (aH y))) c.2) (aA (aI d) (bI d) (aA (bD (fZ (bE x.1 1)) c.1) (m=m) (bN h h))))))) (∃(n:Nat),aA (E3 x.2=E3 n) (mG n) (Kf (λI1 c=>aA (I1 c) (eL 24) (aA (aI d) (bI d) (aA (bB c.1) (tL (qG c)) (aA (m=m) (h=h) True)))) (λI1 j c=>I1 c->aZ (↑c.1:Int) (aH d) (eK d.a (↑c.1:Int) d (λb o y=>IH m h b o c.1 1 (bA y) (λe=>j6 1 e (cD h (iA y.a y) 1 e) (oL
 (qG c) e 8) (oF (qG c) e) (∃(f:Nat×ca),aA (I1 f) (j f<j c) (aA (eL 24) (aI d) (aA (bI d) (bD (fZ (bE c.1 1)) f.1) (aA (jV (qG c++e) f.2) (m=m) (bN h h)))))))) (bO h 1 (cZ c.2) (λs t=>K (fJ s) m t))))))
theorem YX:bu 222 cgJ:=by
 refine hU func222 ?_;rintro d m h K ⟨n,rfl,f,c⟩;refine⟨dA [] [] [] [] true,rfl,aG,Sf n m h K,bd,?_⟩;dsimp only[Sf,push_cast];have e:IntKind.i64.wrap ((n:Int)-0)=n:=by rw[eH aD aD];omega
 have g:IntKind.i64.wrap ((n:Int)-IntKind.i64.wrap (0-0))=n:=by rw[show IntKind.i64.wrap (0-0)=0 from by rw[eH aD aD];rfl,e]
 exact aF (λj=>⟨aD,aD,aD,aD,aD,aD,aD,c⟩) (λ_=>c)
def Bd(ks:List ca):Nat:=(ks.map List.length).sum
theorem MU{k:ca}(c:ks[i]? =some k):Bd (ks.take (i+1))=Bd (ks.take i)+k.length:=by
 unfold Bd;rw[take_add_one,c];simp
theorem Lo{ks:List ca}(h:∀k∈ks,k.length<=12):∀i,Bd (ks.take i)<=12*i
 |0=>by simp[Bd]
 |i+1=>by
  have c:=Lo h i;cases e:ks[i]? with
  |none=>rw[take_add_one,e];grind
  |some k=>rw[MU e];grind
theorem P7:bu 164 Ll:=by
 refine hU func164 ?_;rintro E m h K ⟨A,ks,rfl,x,L,d,F⟩;refine⟨boQ A m h,rfl,aE YX aG,SJ A m h K,bd,?_⟩;dsimp only[SJ,push_cast];have j:=bY.slen x;refine⟨λ⟨i,n⟩=>i<=ks.length/\n=Bd (ks.take i),λ⟨i,_⟩=>ks.length-i,⟨(0,0),⟨aD,by simp[Bd]⟩,MT⟩,?_⟩;rintro⟨i,n⟩ ⟨B,rfl⟩;dsimp only;have G:=Lo d i;refine aF (λc=>?_) (λt=>?_)
 .obtain⟨k,e⟩:=eT j c;obtain⟨b,o,g,y,r,f⟩:=bY.at x e;have H:=f.slen;have u:=d k (mem_of_getElem? e)
  have I:IntKind.i64.wrap ((Bd (ks.take i):Int)+(g.len:Int))=((Bd (ks.take (i+1)):Nat):Int):=by
   rw[MU e,eH aD aD];omega
  refine⟨b,o,y,aD,c,g,.imm r,?_⟩;rw[I];exact aF (λC=>by omega) (λ_=>⟨(i+1,Bd (ks.take (i+1))),⟨aD,rfl⟩,aD,MT⟩)
 .refine⟨Bd (ks.take i),rfl,aD,?_⟩;refine⟨λ⟨i,l⟩=>i<=ks.length/\l=(ks.take i).flatten,λ⟨i,_⟩=>ks.length-i,⟨(0,[]),⟨aD,bf⟩,MT⟩,?_⟩;clear G t B;rintro⟨i,l⟩ ⟨B,rfl⟩;dsimp only;have J:(ks.take i).flatten.length<=12*i:=by have:=Lo d i;simpa[Bd,length_flatten]using this
  refine aF (λc=>?_) (λt g h' z D=>F g h' z ⟨?_,?_⟩)
  .obtain⟨k,e⟩:=eT j c;obtain⟨b,o,g,y,r,f⟩:=bY.at x e;have u:=d k (mem_of_getElem? e);refine⟨b,o,y,aD,c,g,.imm r,k.map eI,mW k,f.row,?_,?_,(i+1,(ks.take (i+1)).flatten),⟨aD,rfl⟩,aD,?_⟩
   .grind
   .grind
   .rw[take_add_one,e,Option.toList_some,flatten_append,map_append,flatten_cons,flatten_nil,append_nil];exact MT
  .grind
  grind
theorem RP:∀N,bu 98 (AQ N):=aoQ P7
mutual
def xU:Query->Nat->Int->Bool×Int
 |.mk _ _ _ _ _ _ _ _ args,k,n=>if 24<n+1\/k=0 then(false,0)else FG args (k-1) (n+1)
def FG:ci->Nat->Int->Bool×Int
 |[],_,n=>(true,n)
 |q::qs,k,n=>match xU q k n with|(false,_)=>(false,0)|(true,c)=>FG qs k c
end
mutual
def szQ:Query->Int
 |.mk _ _ _ _ _ _ _ _ args=>1+Jk args
def Jk:ci->Int
 |[]=>0
 |p::ps=>szQ p+Jk ps
end
mutual
theorem TS:∀p:Query,1<=szQ p
 |.mk _ _ _ _ _ _ _ _ args=>by have:=F1 args;simp only[szQ];omega
theorem F1:∀ps:ci,0<=Jk ps
 |[]=>by simp[Jk]
 |p::ps=>by have:=TS p;have:=F1 ps;simp only[Jk];omega
end
mutual
theorem RC:∀(p:Query)(n:Int),n<=24->(n+szQ p<=24->qO p n=n+szQ p)/\(24<n+szQ p->qO p n=25)
 |.mk _ _ _ _ _ _ _ _ args,n,h=>by
  obtain⟨c,d⟩:=O6 args (n+1) aD;simp only[qO,szQ];omega
theorem O6:∀(ps:ci)(n:Int),n<=25->(n+Jk ps<=24->lG ps n=n+Jk ps)/\(24<n+Jk ps->lG ps n=25)
 |[],n,h=>by
  simp only[lG,Jk];omega
 |p::ps,n,h=>by
  have e:=TS p;have f:=F1 ps;simp only[lG,Jk];by_cases c:n<=24
  .rw[if_pos c];have g:=RC p n c;have d:=(Em p n c).2;have j:=O6 ps _ d;omega
  omega
end
mutual
theorem TO:∀(p:Query)(k:Nat)(n:Int),n<=24->((xU p k n).1=true↔n+szQ p<=24/\pI p k=false)/\((xU p k n).1=true->(xU p k n).2=n+szQ p)
 |.mk _ _ _ _ _ _ _ _ args,k,n,h=>by
  have f:=F1 args;simp only[xU,szQ];by_cases c:24<n+1\/k=0
  .rw[if_pos c];refine⟨⟨λe=>(by cases e),λe=>?_⟩,λe=>(by cases e)⟩;rcases c with c|c
   .omega
   .subst c;simp[pI]at e
  .rw[if_neg c];obtain⟨d,rfl⟩:∃d,k=d+1:=⟨k-1,aD⟩
   obtain⟨g,j⟩:=U4 args d (n+1) aD;simp only[pI,Nat.add_sub_cancel]
   grind
theorem U4:∀(ps:ci)(k:Nat)(n:Int),n<=24->((FG ps k n).1=true↔n+Jk ps<=24/\wM ps k=false)/\((FG ps k n).1=true->(FG ps k n).2=n+Jk ps)
 |[],k,n,h=>by simp[FG,Jk,wM,h]
 |p::ps,k,n,h=>by
  obtain⟨c,d⟩:=TO p k n h;have j:=F1 ps;simp only[FG,Jk,wM];cases e:xU p k n with
  |mk r f=>
   rw[e]at c d;cases r with
   |false=>
    grind
   |true=>
    have g:=d rfl;have c:=c.1 rfl;simp only at g;obtain⟨o,t⟩:=U4 ps k f aD
    grind
end
theorem Rj(q:Query):(xU q 8 0).1=nC q:=by
 have c:=(TO q 8 0 aD).1;have d:=RC q 0 aD;rw[Bool.eq_iff_iff,c];simp only[nC,Bool.and_eq_true,decide_eq_true_eq,Bool.not_eq_true']
 grind
def Jy:Code->Option (Code×Code)
 |.rangeFunc _ _ a b=>some (a,b)
 |.seq x y=>match Jy x with|some p=>some p|none=>Jy y
 |.block _ c=>Jy c
 |_=>none
noncomputable def rfA:Code:=match Jy (bW Tryz.f57)with|some p=>p.1|none=>.skip
noncomputable def rfB:Code:=match Jy (bW Tryz.f57)with|some p=>p.2|none=>.skip
structure LR where
 fn:FuncId
 tmps:Array Value
 bn:Nat
 b6:Nat
 b7:Nat
 D:Nat
noncomputable def rH(R:LR)(st:LoopState)(c:Option Code):Loop:={state:=st,pending:=c,fn:=R.fn,tmps:=R.tmps,params:= #[37,38],assign:=rfA,body:=rfB,defers:=R.D}
def Iq:Obj:=.cells #[.slice none 0 0] 33 (0,0)
def GG(n:Int):Obj:=.cells #[.int .i64 n] 54 (0,0)
structure Aa(m:MH)(l:Nat)(R:LR)(n:Int):Prop where
 loop:m l=some (.loop (rH R .ready none))
 n_:m R.bn=some (uN n)
 k_:m R.b6=some Iq
 e_:m R.b7=some (GG 0)
 size:R.tmps.size=53
 t11:R.tmps[11]? =some (.pointer (some ⟨R.bn,0,none⟩))
 t6:R.tmps[6]? =some (.pointer (some ⟨R.b6,0,none⟩))
 t7:R.tmps[7]? =some (.pointer (some ⟨R.b7,0,none⟩))
structure AP(m m':MH)(l:Nat)(R:LR):Prop where
 loop:m' l=some (.loop (rH R .done (some .ret)))
 k_:m' R.b6=some Iq
 e_:m' R.b7=some (GG 2)
 n_:∃x,m' R.bn=some x
 other:∀b,b≠l->b≠R.bn->b≠R.b6->b≠R.b7->m' b=m b
theorem Aa.ne{l:Nat}{R:LR}{n:Int}(x:Aa m l R n):l≠R.bn/\l≠R.b6/\l≠R.b7/\R.b6≠R.bn/\R.b7≠R.bn/\R.b6≠R.b7:=by
 have c:=x.loop;have g:=x.n_;have d:=x.k_;have f:=x.e_;refine⟨λe=>?_,λe=>?_,λe=>?_,λe=>?_,λe=>?_,λe=>?_⟩
 .rw[e,g]at c;cases c
 .rw[e,d]at c;cases c
 .rw[e,f]at c;cases c
 .rw[e,g]at d;cases d
 .rw[e,g]at f;cases f
 .rw[e,f]at d;cases d
theorem Aa.next{l:Nat}{R:LR}{n d:Int}(x:Aa m l R n)(c:iL m m' R.bn (uN d)):Aa m' l R d:=by
 obtain⟨e,j,o,f,g,t⟩:=x.ne;exact⟨by rw[c.other l e];exact x.loop,c.at_,by rw[c.other _ f];exact x.k_,by rw[c.other _ g];exact x.e_,x.size,x.t11,x.t6,x.t7⟩
theorem AP.from{c:MH}{l:Nat}{R:LR}{e:Int}(f:iL m c R.bn (uN e))(h:AP c m' l R):AP m m' l R:=
 ⟨h.loop,h.k_,h.e_,h.n_,λb g d j n=>(h.other b g d j n).trans (f.other b d)⟩
def yv(l:Nat):CV:=.val (.func (.yield l) #[] #[])
def YS:Vc.Spec:=λd m h K=>∃l c v R n,d=[yv l,cI c,aQ v]/\Aa m l R n/\0<=n/\n<=24/\
 (∀m',(24<n+1\/8<c)->AP m m' l R->K (cB false) m' h)/\(∀m',¬(24<n+1\/8<c)->iL m m' R.bn (uN (n+1))->K (cB true) m' h)
def acJ(N:Nat):Vc.Spec:=λc m h K=>∃v q,∃k l:Nat,∃R n,c=[aQ v,cI (9-k),yv l]/\bU h q v/\SizeOf.sizeOf q<N/\k<=9/\Aa m l R n/\0<=n/\n<=24/\
 (∀m',(xU q k n).1=false->AP m m' l R->K (cB false) m' h)/\(∀m',(xU q k n).1=true->iL m m' R.bn (uN (xU q k n).2)->K (cB true) m' h)
def abZ(b:Nat):CV:=.val (.pointer (some ⟨b,0,none⟩))
def cCX:Vc.Spec:=λc m h K=>∃v q l d R,c=[yv l,abZ d]/\m d=some (.cells ⟨v.enc⟩ 38 (0,0))/\bU h q v/\Aa m l R 0/\
 (∀m',(xU q 8 0).1=false->AP m m' l R->K (.tup []) m' h)/\(∀m',(xU q 8 0).1=true->iL m m' R.bn (uN (xU q 8 0).2)->K (.tup []) m' h)
def TC:Vc.Spec:=λc m h K=>∃v,c=[aQ v]/\∀b m',mH m h b->iL m m' b (.cells ⟨v.enc⟩ 38 (0,0))->K (.val (.func (.func 172) #[] #[.pointer (some ⟨b,0,none⟩)])) m' h
noncomputable def bmZ(N:Nat)(v:QV)(k l:Nat)(h:PH):Ctx:=
 {dA [(173,acJ N)] [(4,{A:=Nat×MH,st:=λ⟨i,m⟩=>bQ 28 31 [(1,iv (9-k)),(2,vv (.func (.yield l) #[] #[])),(15,sv v.args),(16,iv v.args.len),(17,iv i)] [] m h})] [] [] false with yield:=some YS}
noncomputable abbrev u9(a:Nat):CV:=CV.val (Value.func (Fn.yield a) wG wG)
abbrev Ka(a:Nat):Prop:=eQ (SV.at (At.val (Value.func (Fn.yield a) wG wG)))
attribute [push_cast] u9 Ka
def SB(N:Nat)(v:QV)(k l:Nat)(m:MH)(h:PH)(K:bz):Prop:=
  I7 Proofs.Tryz.prog YS/\IK (λj t=>∃(B:QV)(R:LR)(n:Int),aA (iN (u9 l) (uX k) (cN v)=iN (u9 j) t (cN B)) (Aa m j R n) (aA (bZ n) (n<=24) ((∀(d:MH),24<n+1\/8<t->AP m d j R->K aX d h)/\∀(d:MH),yF (24<n+1\/8<t)->eA m d R.bn (bG (n+1)) 3->∃(I:Nat×MH->Prop)(z:Nat×MH->Nat),(∃(x:Nat×MH),aA (I x) (gY (uX k)) (aA (Ka l) (aI v.args) (aA (qV v) (bB x.1) (aA (d=x.2) (h=h) True))))/\∀(x:Nat×MH),I x->aZ (↑x.1:Int) (aH v.args) (bJ (λb o=>aA (bM v.args.a b o) (0<=(↑x.1:Int)) ((↑x.1:Int)<aH v.args/\∃(y:QV),aU x.2 h b (bK o x.1 21) y.enc/\mU (λA q=>bJ (λe u=>∃(R1:LR)(c:Int),aA (iN (cN y) (fH (uX k+1)) (u9 l)
 =iN (cN A) (uX e) (u9 u)) (bU h q A) (aA (vV q N) (e<=9) (aA (Aa x.2 u R1 c) (bZ c) (aA (c<=24) (∀(f:MH),(xU q e c).1=false->AP x.2 f u R1->K aX f h) (∀(f:MH),fV (xU q e c).1->eA x.2 f R1.bn (bG (xU q e c).2) 3->∃(g:Nat×MH),aA (I g) (z g<z x) (aA (gY (uX k)) (Ka l) (aA (aI v.args) (bI v.args) (aA (bD (fZ (bE x.1 1)) g.1) (f=g.2) (bN h h))))))))))))) (gK K x.2 h))))
abbrev xD(a:bz)(b:MH)(c:PH):Prop:=a (CV.tup []) b c
attribute [push_cast] xD
def aUQ(N:Nat)(l e:Nat)(m:MH)(h:PH)(K:bz):Prop:=
  ∃(y:QV),aU m h e 0 y.enc/\mU (λv q=>bJ (λk d=>∃(R:LR)(n:Int),aA (iN (cN y) 1 (u9 l)=iN (cN v) (uX k) (u9 d)) (bU h q v) (aA (vV q N) (k<=9) (aA (Aa m d R n) (bZ n) (aA (n<=24) (∀(c:MH),(xU q k n).1=false->AP m c d R->xD K c h) (∀(c:MH),fV (xU q k n).1->eA m c R.bn (bG (xU q k n).2) 3->xD K c h))))))
noncomputable abbrev Aw(a:Nat):bx:=oK (vQp a 0)
attribute [push_cast] Aw
def PD(v:QV)(m:MH)(h:PH)(K:bz):Prop:=
  jY m h (λb c=>eA m c b v.enc 38) (λb c=>K (Cm 172 (Array.mk (Aw b))) c h)
theorem WN(T:I7 Tryz.prog YS):∀N,bu 173 (acJ N)
 |0=>by
  refine dU (fn:=Tryz.f173) (c:=bW Tryz.f173) func173 rfl bg ?_;rintro G m h K ⟨v,q,k,l,R,n,rfl,_,V,_⟩;omega
 |N+1=>by
  refine hU func173 ?_;rintro G m h K ⟨v,q,k,l,R,n,rfl,W,V,hk,U,X,Y,H,I⟩;refine⟨bmZ N v k l h,rfl,aE (WN T N) aG,SB N v k l m h K,bd,?_⟩;dsimp only[SB,push_cast];have d:=W.args;have z:=d.slen;have hl:=d.len;refine⟨T,l,9-k,v,R,n,rfl,U,X,Y,λm' J t=>H m' ?_ t,λm' J Z=>?_⟩
  .cases q;simp only[xU];grind
  have J:¬(24<n+1\/8<9-(k:Int)):=J;have L:iL m m' R.bn (uN (n+1)):=Z;have hv:xU q k n=FG q.args (k-1) (n+1):=by cases q;simp only[xU,Query.args];grind
  rw[hv]at H I;refine⟨λ⟨i,E⟩=>∃g,i<=q.args.length/\0<=g/\g<=24/\iL m E R.bn (uN g)/\FG (q.args.drop i) (k-1) g=FG q.args (k-1) (n+1),λ⟨i,_⟩=>q.args.length-i,⟨(0,m'),⟨n+1,aD,aD,aD,L,bf⟩,MT⟩,?_⟩;rintro⟨i,E⟩ ⟨g,hi,M,A,j,B⟩;dsimp only;refine aF (λC=>?_) (λa'=>?_)
  .obtain⟨p,O⟩:=eT z C;obtain⟨b,o,u,ea,P,Q⟩:=d.at O;have hd:=drop_cons O;rw[hd,FG]at B;refine⟨b,o,ea,aD,C,u,.imm P,u,p,k-1,l,R,g,?_,Q,?_,aD,U.next j,M,A,λF y t=>?_,λF y S=>?_⟩
   .rw[eH aD aD,show(9-((k-1:Nat):Int))=9-(k:Int)+1 by omega]
   .have:=sL (mem_of_getElem? O);omega
   .refine H F ?_ (t.from j)
    grind
   .have f:iL E F R.bn (uN (xU p (k-1) g).2):=S;have t:=TO p (k-1) g A;have a0:=t.1.1 y;have D:=t.2 y;have a1:=TS p;cases e:xU p (k-1) g with
    |mk r x=>
     rw[e]at y B D f;simp only at y D f;subst y;exact⟨(i+1,F),⟨x,aD,aD,aD,j.trans f,B⟩,aD,MT⟩
  .rw[drop_of_length_le aD,FG]at B;rw[<-B]at I;exact I E rfl j
theorem Zn(c:I7 Tryz.prog YS):bu 172 cCX:=by
 refine hU func172 ?_;rintro d m h K ⟨v,q,l,e,R,rfl,f,g,j,n,o⟩;refine⟨dA [(173,acJ (SizeOf.sizeOf q+1))] [] [] [] false,rfl,aE (WN c _) aG,aUQ (SizeOf.sizeOf q+1) l e m h K,bd,?_⟩;exact⟨v,.of_m f rfl,v,q,8,l,R,0,rfl,g,aD,aD,j,aD,aD,n,o⟩
theorem aKZ:bu 97 TC:=by
 refine hU func97 ?_;rintro c m h K ⟨v,rfl,d⟩;refine⟨dA [] [] [] [] false,rfl,aG,PD v m h K,bd,?_⟩;exact d
end Go.Ps
