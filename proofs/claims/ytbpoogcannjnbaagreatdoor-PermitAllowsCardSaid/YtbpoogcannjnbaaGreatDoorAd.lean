/- Own work. -/
import Derived.Test.YtbpoogcannjnbaaGreatDoorAc
noncomputable section
namespace Go.Ps
open Go Go.Vc Go.Proofs List Tryz
variable{K:tt}{m:MH}{h:PH}{s:kD}{ps:ti}{cb:Nat}{v:QV}{q:ae}{p:ao}{l:ti}{i N:Nat}{m':MH}{h':PH}{co gr:ti}{od:tp}{w:ao}{ta li:Int}{xs:List tm}{sz:Nat}{ks:List ti}{r:Sl}{a:ti}{b:Nat}
def bF h s l:=aU h 3 VV.ag Eq s l
theorem bF.mono{s l}(x:bF h s l)(le:PH.le h h'):bF h' s l:=aU.mono x le λ_ _ e=>e
def lE(ps:to)(o:OV):=if o.kind=2/\0<=o.index/\o.index<ps.length then⟨3,0,ps.getD o.index.toNat al⟩else o
mutual
def sW(ps:to):ao->ao
 |.mk op c l r args=>.mk op c (lE ps l) (lE ps r) (zL ps args)
def zL(ps:to):List ao->List ao
 |[]=>[]
 |p::r=>sW ps p::zL ps r
end
theorem LI(ps:to):∀l,zL ps l=l.map (sW ps)
 |[]=>by simp[zL]
 |p::r=>by simp[zL,LI ps r]
theorem cbJ o:lE [] o=o:=by unfold lE;grind
mutual
theorem KD:∀p,sW [] p=p
 |.mk op c l r args=>by simp only[sW,cbJ,TZ args]
theorem TZ:∀l,zL [] l=l
 |[]=>by simp[zL]
 |p::r=>by simp only[zL,KD p,TZ r]
end
def oJ:QV:=⟨0,0,iD,⟨none,0,0⟩,⟨none,0,0⟩,⟨none,0,0⟩,⟨none,0,0⟩,0,⟨none,0,0⟩⟩
def YV:AC:=λc m h K=>∃o s ps,c=[aO o,cS s]/\bF h s ps/\K (aO (lE ps o)) m h
def bKX(N:Nat):AC:=λc m h K=>∃v s p ps,c=[aP v,cS s]/\fV h p v/\bF h s ps/\SizeOf.sizeOf p<N/\∀d h',PH.le h h'->fV h' (sW ps p) d->K (aP d) m h'
def Un:AC:=λc m h K=>∃v s p ps,c=[aP v,cS s]/\fV h p v/\bF h s ps/\∀d h',PH.le h h'->fV h' (sW ps p) d->K (aP d) m h'
def cZQ(N:Nat):AC:=λc m h K=>∃v q,c=[aQ v]/\cQ h q v/\SizeOf.sizeOf q<N/\∀d h',PH.le h h'->cQ h' q d->K (aQ d) m h'
def cZZ:AC:=λc m h K=>∃v q,c=[aQ v]/\cQ h q v/\∀d h',PH.le h h'->cQ h' q d->K (aQ d) m h'
def cJZ(N:Nat)(v:PV)(s:Sl)(m:MH)(h:PH):=
 dD [(106,bKX N),(142,YV)] [(3,{A:=Nat×OV×OV×uo×PH,st:=λ⟨i,l,r,c,h⟩=>bO 40 42 [(1,sv s),SW 2,SW 4,SW 5,(22,iv v.args.len),(23,iv i)] [UV 2 63 v.ag,UV 4 63 iD.ag,(5,.cells 63 (([.int .i64 v.op,Value.int .i64 v.dy]++l.ag++r.ag).map .val++[.au 36])),(36,.au 63 13 (c.map PV.ag))] m h})] [(2,{A:=OV×OV,st:=λ⟨l,r⟩=>bO 40 42 [(1,sv s),SW 2,SW 4,SW 5] [UV 2 63 v.ag,UV 4 63 iD.ag,(5,.cells 63 (([.int .i64 v.op,Value.int .i64 v.dy]++l.ag++r.ag++[Value.slice none 0 0]).map .val))] m h})] [] false
def diJ(N:Nat)(v:QV)(co:ti)(on:tu)(gr:ti)(od:tp)(m:MH):=
 dD [(106,Un),(64,cZQ N)] [(9,{A:=Nat×PV×ud×PH,st:=λ⟨i,w,c,h⟩=>bO 46 47 [SW 1,SW 2,SW 3,(29,iv v.args.len),(30,iv i)] [UV 1 68 v.ag,UV 2 68 oJ.ag,(3,.cells 68 (([.int .i64 v.op,Value.int .i64 v.ah]++w.ag).map .val++[.au 12,.au 16,.au 20,.au 24,.val (.int .i64 v.bg),.au 42])),(12,.au 3 1 (co.map eI)),(16,.au 81 2 (on.map oY)),(20,.au 3 1 (gr.map eI)),(24,.au 138 2 (od.map wV)),(42,.au 68 21 (c.map QV.ag))] m h})] [] [] false
def Wo(o:OV)(s:Sl):ST:=λm h K=>dP o.kind 2 (iA o.index 0 (aX o.index (aF s) (ab s o.index 3 VV.ag m h (λy=>K (mX (bD 3 0 (bD y.kind y.int (Bv y.text)))) m h)) (K (mX o.ag) m h)) (K (mX o.ag) m h)) (K (mX o.ag) m h)
abbrev nZ(a:Sl->to->Prop):=∃x c,a x c
abbrev nK:=eQ (oQ 63 zP)
abbrev My(a:PV)(b:Sl)(c:PH)(d:OV×OV->Prop)(e:Nat)(g:OV->to->(OV×OV)->Prop)(i:MH):=∃x,nZ (λf j=>gO (CA a) b=gO x.ag f/\bF c f j/\∃n,d n/\aH b/\eP e/\eZ/\bY/\kZ a/\nK/\g x j n/\gM i i c c)
abbrev DD a b:=At.val (pW (lE a b).kind)
abbrev DE a b:=At.val (pW (lE a b).index)
abbrev DF a b:=At.val (pW (zW (lE a b)))
abbrev DG a b:=At.val (pW (AN (lE a b)))
abbrev DH a b:=At.val (.string (AO (lE a b)))
abbrev A8:=[Db]
abbrev BU(a:OV):=jX a.index
abbrev tN(a:PV)(b c:OV)(d:ue):=jX a.op::jX a.dy::jX b.kind::BU b::jX (zW b)::jX (AN b)::LV (AO b)::jX c.kind::d
abbrev xP(a:Nat×OV×OV×uo×PH):=a.2.1
abbrev Ax(a:Nat×OV×OV×uo×PH):=a.2.2.1
abbrev Hj a b:=BU (Ax a)::jX (zW (Ax a))::jX (AN (Ax a))::LV (AO (Ax a))::[At.au b]
abbrev wL a b c:=cE a b []=cE a b c
abbrev Ak(a:Nat×OV×OV×uo×PH):=List.map PV.ag a.2.2.2.1
abbrev yP(a:Nat×OV×OV×uo×PH):=a.2.2.2.2
abbrev NI(a:PV->Sl->ao->to->Prop):=∃x c d e,a x c d e
abbrev Du(a:uc)(b:PV->Sl->uc)(c:PH)(d:Nat)(e:ao->to->Prop):=NI (λx g f j=>a=b x g/\fV c f x/\bF c g j/\BT f d/\e f j)
abbrev JL(a:uc)(b:PH)(c:ao->to->PV->Prop):=NI (λx d e f=>a=gO x.ag d/\fV b e x/\bF b d f/\∀g,c e f g)
abbrev wS(a b c d:Prop)(e:(List tm)->Prop):=a/\b/\c/\d/\∃x,e x
abbrev gP:=eQ (oQ 68 zQ)
abbrev Dz a b:=oQ 68 a=oQ 68 b
abbrev Ds a b c:=jX a.op::pU a::pQ b (At.au 12::At.au 16::At.au 20::At.au 24::c)
abbrev rZ(a:QV):=jX a.bg
abbrev Cx(a:Nat×PV×ud×PH):=a.2.1
abbrev E5 a b:=cE 81 2 a=cE 81 2 b
abbrev G0 a:=List.map oY a
abbrev No a b:=cE 138 2 a=cE 138 2 b
abbrev Iy a:=List.map wV a
abbrev Hi(a:Nat×PV×ud×PH):=List.map QV.ag a.2.2.1
abbrev RP(a:Prop)(b c:Nat)(d:QV)(e g:Nat)(i:Prop):=a/\b<c/\gY/\gZ/\cR/\aY d.args/\fI (bA e 1)=bR g/\eJ d/\i
abbrev GU(a:PV):=pW a.right.kind
abbrev vO(a:PV)(b:tm):=fT a.right b
abbrev DA(a:List tm):=0+a.length
abbrev MI(a:Nat)(b:PH)(c:Addr)(d e g:Nat)(i:(List tm)->Prop):=∃x,dA a x/\bT b (Sl.mk (some c) d e) a x/\cJ (DA x*g)/\cJ (DA x)/\i x
abbrev FD(a:List tm):=[]++a
attribute [push_cast] nZ nK My DD DE DF DG DH A8 BU tN xP Ax Hj wL Ak yP NI Du JL wS gP Dz Ds rZ Cx E5 G0 No Iy Hi RP GU vO DA MI FD
def WU(N:Nat)(v:PV)(s:Sl):ST:=λm h K=>∃I,((∃o,nZ (λf p=>let A:=My v s h I 2 (λe d x=>oQ 63 (jX v.op::jX v.dy::DD p o::DE p o::DF p o::DG p o::DH p o::DD d e::DE d e::DF d e::DG d e::DH d e::A8)=oQ 63 (tN v x.1 x.2 (BU x.2::jX (zW x.2)::jX (AN x.2)::LV (AO x.2)::A8))) m;gO (An v) s=gO o.ag f/\bF h f p/\A/\A))/\∃o,nZ (λf p=>gO (An v) s=gO o.ag f/\bF h f p/\My v s h I 2 (λe d x=>oQ 63 (jX v.op::jX v.dy::DD p o::DE p o::DF p o::DG p o::DH p o::DD d e::DE d e::DF d e::DG d e::DH d e::A8)=oQ 63 (tN v x.1 x.2 (BU x.2::jX (zW x.2)::jX (AN x.2)::LV (AO x.2)::A8))) m))/\∀x,I x->∃(I1:Nat×OV×OV×uo×PH->Prop)(t:Nat×OV×OV×uo×PH->Nat),(∃c,I1 c/\aH s/\eP 2/\eZ/\bY/\tB v/\bB c.1/\kZ v/\nK/\oQ 63 (tN v x.1 x.2 (BU x.2::jX (zW x.2)::jX (AN x.2)::LV (AO x.2)::[At.au 36]))=oQ 63 (tN v (xP c) (Ax c) (Hj c 36))/\wL 63 13 (Ak c)/\m=m/\dC h (yP c))/\∀c,I1 c->aX c.1 (aF v.args) (aM (λb o=>aR v.args.a b o/\0<=(↑c.1:Int)/\c.1<aF v.args/\∃y:PV,aK m (yP c) b (bI o c.1 13) y.ag/\Du (gO y.ag s) (λn f=>gO n.ag f) (yP c) N (λp d=>∀n j,cO (yP c) j (fV j (sW d p) n) (aK m j b (bI o c.1 13) y.ag/\bJ j b (bI o c.1 13) y.ag/\cJ (fS (Ak c) 1*136)/\fA (Ak c)/\∃g,I1 g/\t g<t c/\aH s/\gZ/\eZ/\bY/\tB v/\fI (bA c.1 1)=bR g.1/\kZ v/\nK/\oQ 63 (tN v (xP c) (Ax c) (Hj c 36))=oQ 63 (tN v (xP g) (Ax g) (Hj g 36))/\cE 63 13 (hZ (Ak c) n.ag)=cE 63 13 (Ak g)/\eV (m=m) (j=yP g))))) (bN (yP c) 13 (Ak c) (λf j=>K (mX (bD v.op v.dy (bD (xP c).kind (xP c).index (bD (zW (xP c)) (AN (xP c)) (.string (AO (xP c))::pW (Ax c).kind::fT (Ax c) (aT f)))))) m j))
def Tm(N:Nat)(v:QV)(co:ti)(on:tu)(gr:ti)(od:tp):ST:=λm h K=>JL (nN (oK v.ap) EO) h (λp B t=>∀c,cO h c (fV c (sW B p) t) (∃y,wS (dA 1 y) (bT c (bK v.aa) 1 y) (zA y 8) (cJ y.length) (λf=>wS (dA 2 f) (bT c (bK v.on) 2 f) (zA f 16) (cJ f.length) (λg=>wS (dA 1 g) (bT c (bK v.be) 1 g) (zA g 8) (cJ g.length) (λj=>dA 2 j/\bT c (bK v.bh) 2 j/\zA j 16/\cJ j.length/\∃(I:Nat×PV×ud×PH->Prop)(u:Nat×PV×ud×PH->Nat),(∃x,I x/\gY/\eP 2/\cR/\rQ v/\bB x.1/\eJ v/\gP/\Dz (Ds v t [rZ v,At.au 42]) (Ds v (Cx x) [rZ v,At.au 42])/\tO y co/\E5 f (G0 on)/\tO g gr/\No j (Iy od)/\wL 68 21 (Hi x)/\m=m/\c=x.2.2.2/\True)/\∀x,I x->aX x.1 (aF v.args) (aM (λb o=>aR v.args.a b o/\0<=(↑x.1:Int)/\x.1<aF v.args/\∃n,aK m x.2.2.2 b (bI o x.1 21) n.ag/\mQ (λz q=>eO (i7 n) (i7 z)/\cQ x.2.2.2 q z/\pR q N/\∀A d,cO x.2.2.2 d (cQ d q A) (aK m d b (bI o x.1 21) n.ag/\bJ d b (bI o x.1 21) n.ag/\cJ (fS (Hi x) 1*280)/\fA (Hi x)/\∃e,RP (I e) (u e) (u x) v x.1 e.1 (gP/\Dz (Ds v (Cx x) [rZ v,At.au 42]) (Ds v (Cx e) [rZ v,At.au 42])/\eQ (cE 3 1 (gE co))/\eQ (cE 81 2 (G0 on))/\eQ (cE 3 1 (gE gr))/\eQ (cE 138 2 (Iy od))/\cE 68 21 (hZ (Hi x) A.ag)=cE 68 21 (Hi e)/\m=m/\dC d e.2.2.2))))) (bN x.2.2.2 1 (gE co) (λs d=>bN d 2 (G0 on) (λC D=>bN D 1 (gE gr) (λE F=>bN F 2 (Iy od) (λG H=>bN H 21 (Hi x) (λJ L=>K (mX (bD v.op v.ah (bD (Cx x).op (Cx x).dy (Bb (Cx x).left (GU (Cx x)) (vO (Cx x) (fW (Cx x).args::fW s::fW C::fW E::eW G v.bg (aT J))))))) m L)))))))))))
theorem a9J:uz 142 YV:=by
 refine gV func142 ?_;rintro n m h K⟨o,s,ps,rfl,f,c⟩;refine⟨WP [],rfl,aG,Wo o s,bt,?_⟩;dsimp only[Wo,push_cast];have u:=aU.e f;unfold lE at c;refine aB (λd=>aE (λg=>aE (λj=>?_) (λj=>?_)) (λg=>?_)) (λd=>?_)
 .have d:o.kind=2:=da
  rw[if_pos ⟨d,g,aC⟩]at c
  have t:ps[o.index.toNat]?=some (ps.getD o.index.toNat al):=by
   grind
  obtain⟨b,off,v,e,r,rfl⟩:=aU.at f t;exact⟨b,off,e,aC,j,_,.ay r,c⟩
 .rw[if_neg (λe=>by omega)]at c;exact c
 .rw[if_neg (λe=>by omega)]at c;exact c
 .have d:o.kind≠2:=da
  rw[if_neg (λe=>d e.1)]at c;exact c
theorem Gj{α:Type}{β}{ps:List α}{us i}{R R':α->β->Prop}{q v}(e:i<=ps.length)(c:us.length=i)(f:ps[i]?=some q)(d:∀(j:Nat) x,(ps.take i)[j]?=some x->∃u,us[j]?=some u/\R x u)(g:∀x u,R x u->R' x u)(n:R' q v):
 ∀(j:Nat) x,(ps.take (i+1))[j]?=some x->∃u,(us++[v])[j]?=some u/\R' x u:=by
 grind
theorem auZ:∀N,uz 106 (bKX N)
 |0=>by
  refine gV func106 ?_;rintro B m h K⟨v,s,p,ps,rfl,_,_,O,_⟩;omega
 |N+1=>by
  refine gV func106 ?_;rintro B m h K⟨v,s,p,ps,rfl,P,C,O,I⟩;refine⟨cJZ N v s m h,rfl,aD (auZ N) (aD a9J aG),WU N v s,bt,?_⟩;dsimp only[WU,push_cast];have g:=@Ar p;obtain⟨op,Q,l,r,qs⟩:=p;obtain⟨rfl,rfl,rfl,rfl,D⟩:=P.parts;have R:=D.e;have J:=D.len;simp only[ao.args]at g;simp only[sW,LI]at I;refine⟨λx=>x=(lE ps v.left,lE ps v.right),?_,?_⟩
  .repeat' (first|exact⟨(lE ps v.left,lE ps v.right),rfl,MT⟩|refine⟨v.left,s,ps,rfl,C,?_⟩|refine⟨v.right,s,ps,rfl,C,?_⟩|apply And.intro)
  rintro _ rfl;dsimp only;refine⟨λ⟨i,l,r,o,f⟩=>l=lE ps v.left/\r=lE ps v.right/\i<=qs.length/\PH.le h f/\o.length=i/\∀(j:Nat) x,(qs.take i)[j]?=some x->∃u,o[j]?=some u/\fV f (sW ps x) u,λ⟨i,_,_,_,_⟩=>qs.length-i,⟨(0,lE ps v.left,lE ps v.right,[],h),⟨rfl,rfl,aC,.refl _,rfl,λj x f=>by simp at f⟩,MT⟩,?_⟩;rintro⟨i,_,_,o,f⟩⟨rfl,rfl,S,e,t,n⟩;dsimp only;refine aE (λz=>?_) (λT L h' d A=>I ⟨v.op,v.dy,lE ps v.left,lE ps v.right,L⟩ h' (e.trans d) (fV.mk (v:=⟨v.op,v.dy,lE ps v.left,lE ps v.right,L⟩) ⟨⟨o,A,cv,λj x f=>?_⟩,cv⟩))
  .have⟨q,M⟩:=eF R z;have⟨U,V,u,W,E,F⟩:=(D.mono e).at M;refine⟨U,V,W,aC,z,u,.ay E,u,s,q,ps,rfl,F,C.mono e,?_,λX h' d G=>⟨.ay (E.mono d),E.mono d,cv,cv,(i+1,lE ps v.left,lE ps v.right,o++[X],h'),⟨rfl,rfl,aC,e.trans d,by simp[t],Gj (R':=λx u=>fV h' (sW ps x) u) S t M n (λ_ _ H=>H.mono d) G⟩,aC,?_⟩⟩
   .grind
   .rw[sn];exact MT
  .rw[sm aC]at n;rw[getElem?_map,Option.map_eq_some_iff]at f;obtain⟨y,Y,rfl⟩:=f;have⟨u,Z,H⟩:=n j y Y;exact⟨u,Z,H.mono d⟩
theorem HR:uz 106 Un:=jL auZ λ_ _ _ _⟨v,s,p,ps,e,c,d,f⟩=>⟨SizeOf.sizeOf p+1,v,s,p,ps,e,c,d,aC,f⟩
theorem Gh(l:ud):dA 21 (l.map QV.ag):=by
 constructor
 .intro e c;obtain⟨x,_,rfl⟩:=mem_map.1 c;rfl
 .intro e c u d;obtain⟨x,_,rfl⟩:=mem_map.1 c;simp[QV.ag]at d;rcases d with rfl|rfl|rfl|rfl|rfl|rfl|rfl|rfl|rfl|rfl|rfl|rfl|rfl|rfl|rfl|rfl|rfl|rfl|rfl|rfl|rfl<;>rfl
theorem dOZ{op on args}(x:pV h op ta w co on gr od li args v)(W:∀q∈args,SizeOf.sizeOf q<N)(X:∀H h',PH.le h h'->cQ h' (.mk op ta w co on gr od li args) H->K (aQ H) m h'):Tm N v co on gr od m h K:=by
 dsimp only[Tm,push_cast];have Y:=x.bf.e;have g:=x.bf.len;have Z:=x.aw.len;have l2:=x.ez.len;have l3:=x.az.len;have l4:=x.bd.len;refine⟨v.ap,⟨none,0,0⟩,w,[],rfl,x.ap,.nil _ _ _ _,λn M c O=>⟨_,lZ co,(x.aw.mono c).row,cv,cv,_,Dl on,(x.ez.mono c).row,cv,cv,_,lZ gr,(x.az.mono c).row,cv,cv,_,Dk od,(x.bd.mono c).row,cv,cv,?_⟩⟩;rw[KD]at O;refine⟨λ⟨i,w',o,t⟩=>w'=n/\i<=args.length/\PH.le M t/\o.length=i/\∀(j:Nat) q,(args.take i)[j]?=some q->∃u,o[j]?=some u/\cQ t q u,λ⟨i,_,_,_⟩=>args.length-i,⟨(0,n,[],M),⟨rfl,aC,.refl _,rfl,λj x t=>by simp at t⟩,MT⟩,?_⟩;rintro⟨i,n,o,t⟩⟨rfl,hi,e,y,f⟩;dsimp only;refine aE (λz=>?_) (λa'=>?_)
 .have⟨q,A⟩:=eF Y z;have⟨b1,o1,u,I,B,J⟩:=(x.bf.mono (c.trans e)).at A;refine⟨b1,o1,I,aC,z,u,.ay B,u,q,rfl,J,W q (si A),λH h' d L=>⟨.ay (B.mono d),B.mono d,cv,cv,(i+1,n,o++[H],h'),⟨rfl,aC,e.trans d,by simp[y],Gj (R':=cQ h') hi y A f (λ_ _ P=>P.mono d) L⟩,aC,?_⟩⟩;rw[sn];exact MT
 .rw[sm aC]at f;intro s1 P C B s2 h3 D r2 s3 h4 E r3 s4 h5 F r4 s5 h6 G r5;have Q:=G;have R:=F.trans Q;have S:=E.trans R;have T:=D.trans S;have U:=C.trans T;have V:=e.trans U
  exact X ⟨v.op,v.ah,n,s1,s2,s3,s4,v.bg,s5⟩ h6 (c.trans V) (pV.fm ⟨x.jp,x.dd,O.mono V,⟨B.mono T,Z⟩,⟨r2.mono S,l2⟩,⟨r3.mono R,l3⟩,⟨r4.mono Q,l4⟩,x.dm,⟨⟨o,r5,aC,λj q A=>by
   have⟨u,I,e2⟩:=f j q A;exact⟨u,I,e2.mono U⟩⟩,g⟩⟩)
theorem bvZ:∀N,uz 64 (cZQ N)
 |0=>by
  refine gV func64 ?_;rintro e m h K⟨v,q,rfl,_,g,_⟩;omega
 |N+1=>by
  refine gV func64 ?_;rintro e m h K⟨v,q,rfl,f,g,j⟩;have d:=@vV q;obtain⟨op,ta,w,co,on,gr,od,li,args⟩:=q;refine⟨diJ N v co on gr od m,rfl,aD HR (aD (bvZ N) aG),Tm N v co on gr od,bt,?_⟩;exact dOZ f.parts (λq f=>by have:=d (q:=q) f;omega) j
theorem Vp:uz 64 cZZ:=jL bvZ λ_ _ _ _⟨v,q,e,c,d⟩=>⟨SizeOf.sizeOf q+1,v,q,e,c,aC,d⟩
def bJZ:AC:=λc m h K=>∃s l,c=[cS s]/\an h s l/\∀d h',PH.le h h'->an h' d l->K (cS d) m h'
def bJQ:AC:=λc m h K=>∃s l,c=[cS s]/\l9 h s l/\∀d h',PH.le h h'->l9 h' d l->K (cS d) m h'
def bIJ:AC:=λc m h K=>∃s l,c=[cS s]/\lF h s l/\∀d h',PH.le h h'->lF h' d l->K (cS d) m h'
def bXJ(n c:Nat):ST:=λm h K=>K EO m h
theorem dfX n c m h K:bXJ n c m h K=(xS (WP []) Tryz.f78 (cZ Tryz.f78) (entry Tryz.f78.ntmps [.val (.slice none n c)] m h) K):=bt
def bXZ a n c:=λm h K=>MI 1 h a n c 8 (λy=>rH h (FD y) K m)
theorem dfQ a n c m h K:bXZ a n c m h K=(xS (WP []) Tryz.f78 (cZ Tryz.f78) (entry Tryz.f78.ntmps [.val (.slice (some a) n c)] m h) K):=bt
def bXQ(n c:Nat):ST:=λm h K=>K EO m h
theorem deJ n c m h K:bXQ n c m h K=(xS (WP []) Tryz.f79 (cZ Tryz.f79) (entry Tryz.f79.ntmps [.val (.slice none n c)] m h) K):=bt
def bWJ(a:Addr)(n c:Nat):ST:=λm h K=>MI 2 h a n c 16 (λy=>bN h 2 (FD y) (λs d=>K (tV s) m d))
theorem deZ a n c m h K:bWJ a n c m h K=(xS (WP []) Tryz.f79 (cZ Tryz.f79) (entry Tryz.f79.ntmps [.val (.slice (some a) n c)] m h) K):=bt
def bWX(n c:Nat):ST:=λm h K=>K EO m h
theorem deX n c m h K:bWX n c m h K=(xS (WP []) Tryz.f80 (cZ Tryz.f80) (entry Tryz.f80.ntmps [.val (.slice none n c)] m h) K):=bt
def bWQ(a:Addr)(n c:Nat):ST:=λm h K=>MI 2 h a n c 16 (λy=>bN h 2 (FD y) (λs d=>K (tV s) m d))
theorem deQ a n c m h K:bWQ a n c m h K=(xS (WP []) Tryz.f80 (cZ Tryz.f80) (entry Tryz.f80.ntmps [.val (.slice (some a) n c)] m h) K):=bt
theorem bYQ:uz 78 bJZ:=by
 refine eM (fn:=Tryz.f78) (c:=cZ Tryz.f78) func78 rfl bx ?_;rintro t m h K⟨⟨a,n,c⟩,l,rfl,g,o⟩;refine⟨WP [],rfl,aG,?_⟩;have d:=g.len;cases a with
 |none=>
  have e:=Su g.row;subst e;show xS _ _ _ (entry Tryz.f78.ntmps [.val (.slice none n c)] m h) K;rw[<-dfX n c m h K];exact o ⟨none,0,0⟩ h (.refl _) ⟨.nil _ _,bu⟩
 |some a=>
  show xS _ _ _ (entry Tryz.f78.ntmps [.val (.slice (some a) n c)] m h) K;rw[<-dfQ a n c m h K];exact⟨_,lZ l,g.row,cv,cv,λu h' j f=>o u h' j ⟨f,d⟩⟩
theorem bXX:uz 79 bJQ:=by
 refine eM (fn:=Tryz.f79) (c:=cZ Tryz.f79) func79 rfl bx ?_;rintro t m h K⟨⟨a,n,c⟩,l,rfl,g,o⟩;refine⟨WP [],rfl,aG,?_⟩;have d:=g.len;cases a with
 |none=>
  have e:=Su g.row;subst e;show xS _ _ _ (entry Tryz.f79.ntmps [.val (.slice none n c)] m h) K;rw[<-deJ n c m h K];exact o ⟨none,0,0⟩ h (.refl _) ⟨.nil _ _,bu⟩
 |some a=>
  show xS _ _ _ (entry Tryz.f79.ntmps [.val (.slice (some a) n c)] m h) K;rw[<-deZ a n c m h K];exact⟨_,Dl l,g.row,cv,cv,λu h' j f=>o u h' j ⟨f,d⟩⟩
theorem bWZ:uz 80 bIJ:=by
 refine eM (fn:=Tryz.f80) (c:=cZ Tryz.f80) func80 rfl bx ?_;rintro t m h K⟨⟨a,n,c⟩,l,rfl,g,o⟩;refine⟨WP [],rfl,aG,?_⟩;have d:=g.len;cases a with
 |none=>
  have e:=Su g.row;subst e;show xS _ _ _ (entry Tryz.f80.ntmps [.val (.slice none n c)] m h) K;rw[<-deX n c m h K];exact o ⟨none,0,0⟩ h (.refl _) ⟨.nil _ _,bu⟩
 |some a=>
  show xS _ _ _ (entry Tryz.f80.ntmps [.val (.slice (some a) n c)] m h) K;rw[<-deQ a n c m h K];exact⟨_,Dk l,g.row,cv,cv,λu h' j f=>o u h' j ⟨f,d⟩⟩
mutual
def eY(ps:to):ae->ae
 |.mk op ta w co on gr od li args=>.mk op ta (sW ps w) co on gr od li (zK ps args)
def zK(ps:to):List ae->List ae
 |[]=>[]
 |q::r=>eY ps q::zK ps r
end
theorem LH(ps:to):∀l,zK ps l=l.map (eY ps)
 |[]=>by simp[zK]
 |p::r=>by simp[zK,LH ps r]
def c1Z(N:Nat):AC:=λc m h K=>∃v s q ps,c=[aQ v,cS s]/\cQ h q v/\bF h s ps/\SizeOf.sizeOf q<N/\∀d h',PH.le h h'->cQ h' (eY ps q) d->K (aQ d) m h'
def c1J:AC:=λc m h K=>∃v s q ps,c=[aQ v,cS s]/\cQ h q v/\bF h s ps/\∀d h',PH.le h h'->cQ h' (eY ps q) d->K (aQ d) m h'
def dfZ(N:Nat)(v:PV)(s:Sl)(m:MH)(h:PH):=
 dD [(77,bKX N),(123,YV)] [(5,{A:=Nat×OV×OV×uo×PH,st:=λ⟨i,l,r,c,h⟩=>bO 37 39 ([(1,sv s),SW 4,SW 5]++WF 21 v.args i) [UV 4 63 iD.ag,(5,.cells 63 (([.int .i64 v.op,Value.int .i64 v.dy]++l.ag++r.ag).map .val++[.au 33])),(33,.au 63 13 (c.map PV.ag))] m h})] [(3,{A:=OV×OV,st:=λ⟨l,r⟩=>bO 37 39 [(1,sv s),SW 2,SW 4,SW 5] [UV 2 63 v.ag,UV 4 63 iD.ag,(5,.cells 63 (([.int .i64 v.op,Value.int .i64 v.dy]++l.ag++r.ag++[Value.slice v.args.a v.args.len v.args.cap]).map .val))] m h})] [] false
def dlX(N:Nat)(v:QV)(s:Sl)(m:MH):=
 dD [(77,Un),(78,bJZ),(79,bJQ),(80,bIJ),(41,c1Z N)] [(9,{A:=Nat×PV×Sl×Sl×Sl×Sl×ud×PH,st:=λ⟨i,w,c,o,g,d,e,h⟩=>bO 48 50 ([(1,sv s),SW 4,SW 5]++WF 32 v.args i) [UV 4 68 oJ.ag,(5,.cells 68 (([.int .i64 v.op,Value.int .i64 v.ah]++w.ag++[fW c,fW o,fW g,fW d,pW v.bg]).map .val++[.au 44])),(44,.au 68 21 (e.map QV.ag))] m h})] [] [] false
def WH(o:OV)(s:Sl):ST:=λm h K=>cM o.kind 2 (K (mX o.ag) m h) (aX o.index 0 (K (mX o.ag) m h) (iA o.index (aF s) (K (mX o.ag) m h) (ab s o.index 3 VV.ag m h (λy=>K (mX (bD 3 0 (bD y.kind y.int (Bv y.text)))) m h))))
def aeQ(N:Nat)(v:PV)(s:Sl):ST:=λm h K=>∃I,(∃o,nZ (λf p=>gO (An v) s=gO o.ag f/\bF h f p/\My v s h I 2 (λg e x=>oQ 63 (jX v.op::jX v.dy::DD p o::DE p o::DF p o::DG p o::DH p o::DD e g::DE e g::DF e g::DG e g::DH e g::zU v.args)=oQ 63 (tN v x.1 x.2 (BU x.2::jX (zW x.2)::jX (AN x.2)::LV (AO x.2)::zU v.args))) m))/\∀x,I x->∃(I1:Nat×OV×OV×uo×PH->Prop)(t:Nat×OV×OV×uo×PH->Nat),(∃c,I1 c/\aH s/\eP 4/\bY/\aH v.args/\tB v/\bB c.1/\nK/\mP (oQ 63 (tN v x.1 x.2 (BU x.2::jX (zW x.2)::jX (AN x.2)::LV (AO x.2)::[At.au 33]))=oQ 63 (tN v (xP c) (Ax c) (Hj c 33))) (wL 63 13 (Ak c)) (m=m) (h=yP c))/\∀c,I1 c->aX c.1 (aF v.args) (ab v.args c.1 13 PV.ag m (yP c) (λy=>Du (gO y.ag s) (λn f=>gO n.ag f) (yP c) N (λp e=>∀n j,cO (yP c) j (fV j (sW e p) n) (lJ (Ak c) 136 (∃d,I1 d/\t d<t c/\aH s/\eZ/\bY/\aH v.args/\tB v/\fI (bA c.1 1)=bR d.1/\nK/\oQ 63 (tN v (xP c) (Ax c) (Hj c 33))=oQ 63 (tN v (xP d) (Ax d) (Hj d 33))/\cE 63 13 (hZ
 (Ak c) n.ag)=cE 63 13 (Ak d)/\m=m/\dC j (yP d)))))) (bN (yP c) 13 (Ak c) (λf j=>K (mX (bD v.op v.dy (bD (xP c).kind (xP c).index (bD (zW (xP c)) (AN (xP c)) (.string (AO (xP c))::pW (Ax c).kind::fT (Ax c) (aT f)))))) m j))
abbrev RY(a:Sl->tu->Prop):=∃x c,a x c
abbrev Cy(a:Nat×PV×Sl×Sl×Sl×Sl×ud×PH):=a.2.1
abbrev Nc(a:Nat×PV×Sl×Sl×Sl×Sl×ud×PH):=a.2.2.2.2.1
abbrev Nd(a:Nat×PV×Sl×Sl×Sl×Sl×ud×PH):=a.2.2.2.2.2.1
abbrev JY(a:Nat×PV×Sl×Sl×Sl×Sl×ud×PH):=List.map QV.ag a.2.2.2.2.2.2.1
abbrev Fh(a:Nat×PV×Sl×Sl×Sl×Sl×ud×PH):=a.2.2.2.2.2.2.2
abbrev wN(a:Sl->ae->Prop):=∃x c,a x c
attribute [push_cast] RY Cy Nc Nd JY Fh wN
def ajQ(N:Nat)(v:QV)(s:Sl):ST:=λm h K=>JL (gO v.ap.ag s) h (λp O u=>∀e,cO h e (fV e (sW O p) u) (Dw v.aa e (λl=>jA (λz f=>cO e f (an f z l) (RY (λA B=>eO (tV v.on) (tV A)/\l9 f A B/\jA (λC g=>cO f g (l9 g C B) (Dw v.be g (λP=>jA (λD j=>cO g j (an j D P) (∃E F,eO (tV v.bh) (tV E)/\lF j E F/\jA (λG t=>cO j t (lF t G F) (∃(I:Nat×PV×Sl×Sl×Sl×Sl×ud×PH->Prop)(H:Nat×PV×Sl×Sl×Sl×Sl×ud×PH->Nat),(∃x,I x/\aH s/\eP 4/\bY/\aH v.args/\rQ v/\bB x.1/\gP/\mP (Dz (jX v.op::pU v::pQ u (rF z::rF C::rF D::rF G::[rZ v,At.au 44])) (jX v.op::pU v::pQ (Cy x) (rF x.2.2.1::rF x.2.2.2.1::rF (Nc x)::rF (Nd x)::[rZ v,At.au 44]))) (wL 68 21 (JY x)) (m=m) (t=Fh x))/\∀x,I x->aX x.1 (aF v.args) (ab v.args x.1 21 QV.ag m (Fh x) (λy=>∃J,wN (λn q=>∃L,j5 y s=j5 J n/\cQ (Fh x) q J/\bF (Fh x) n L/\pR q N/\∀M d,cO (Fh x) d (cQ d (eY L q) M) (lJ (JY x) 280 (∃c,I c/\H c<H x/\aH s/\eZ/\bY/\aH v.args/\rQ v/\fI (bA x.1 1)=bR c.1/\gP/\Dz (jX v.op::pU v::pQ (Cy x) (rF x.2.2.1::rF x.2.2.2.1::rF (Nc x)::rF (Nd x)::[rZ v,At.au 44])) (jX v.op::pU v::pQ (Cy c) (rF c.2.2.1::rF c.2.2.2.1::rF (Nc c)::rF (Nd c)::[rZ v,At.au 44]))/\cE 68 21 (hZ (JY x) M.ag)=cE 68 21 (JY c)/\m=m/\dC d (Fh c)))))) (bN (Fh x) 21 (JY x) (λn d=>K (mX (bD v.op v.ah (bD (Cy x).op (Cy x).dy (Bb (Cy x).left (GU (Cy x)) (vO (Cy x) (fW (Cy x).args::fW x.2.2.1::fW x.2.2.2.1::fW (Nc x)::eW (Nd x) v.bg (aT n))))))) m d)))))))))))))))
theorem bcX:uz 123 YV:=by
 refine gV func123 ?_;rintro g m h K⟨o,s,ps,rfl,f,c⟩;refine⟨WP [],rfl,aG,WH o s,bt,?_⟩;dsimp only[WH,push_cast];have u:=aU.e f;unfold lE at c;refine aB (λd=>?_) (λd=>aE (λj=>?_) (λj=>aE (λn=>?_) (λn=>?_)))
 .have d:o.kind≠2:=da
  rw[if_neg (λe=>d e.1)]at c;exact c
 .rw[if_neg (λe=>by omega)]at c;exact c
 .rw[if_neg (λe=>by omega)]at c;exact c
 .have d:o.kind=2:=da
  rw[if_pos ⟨d,aC,aC⟩]at c
  have t:ps[o.index.toNat]?=some (ps.getD o.index.toNat al):=by
   grind
  obtain⟨b,off,v,e,r,rfl⟩:=aU.at f t;exact⟨b,off,e,aC,aC,_,.ay r,c⟩
theorem buJ:∀N,uz 77 (bKX N)
 |0=>by
  refine gV func77 ?_;rintro B m h K⟨v,s,p,ps,rfl,_,_,L,_⟩;omega
 |N+1=>by
  refine gV func77 ?_;rintro B m h K⟨v,s,p,ps,rfl,M,O,L,G⟩;refine⟨dfZ N v s m h,rfl,aD (buJ N) (aD bcX aG),aeQ N v s,bt,?_⟩;dsimp only[aeQ,push_cast];have g:=@Ar p;obtain⟨op,P,l,r,qs⟩:=p;obtain⟨rfl,rfl,rfl,rfl,C⟩:=M.parts;have Q:=C.e;have H:=C.len;simp only[ao.args]at g;simp only[sW,LI]at G;refine⟨λx=>x=(lE ps v.left,lE ps v.right),?_,?_⟩
  .grind
  rintro _ rfl;dsimp only;refine⟨λ⟨i,l,r,o,f⟩=>l=lE ps v.left/\r=lE ps v.right/\i<=qs.length/\PH.le h f/\o.length=i/\∀(j:Nat) x,(qs.take i)[j]?=some x->∃u,o[j]?=some u/\fV f (sW ps x) u,λ⟨i,_,_,_,_⟩=>qs.length-i,⟨(0,lE ps v.left,lE ps v.right,[],h),⟨rfl,rfl,aC,.refl _,rfl,λj x f=>by simp at f⟩,MT⟩,?_⟩;rintro⟨i,_,_,o,f⟩⟨rfl,rfl,R,e,t,n⟩;dsimp only;refine aE (λz=>?_) (λS I h' d A=>G ⟨v.op,v.dy,lE ps v.left,lE ps v.right,I⟩ h' (e.trans d) (fV.mk (v:=⟨v.op,v.dy,lE ps v.left,lE ps v.right,I⟩) ⟨⟨o,A,cv,λj x f=>?_⟩,cv⟩))
  .have⟨q,J⟩:=eF Q z;have⟨T,U,u,V,W,D⟩:=(C.mono e).at J;refine⟨T,U,V,aC,z,u,.ay W,u,s,q,ps,rfl,D,O.mono e,?_,λX h' d E=>⟨cv,cv,(i+1,lE ps v.left,lE ps v.right,o++[X],h'),⟨rfl,rfl,aC,e.trans d,by simp[t],Gj (R':=λx u=>fV h' (sW ps x) u) R t J n (λ_ _ F=>F.mono d) E⟩,aC,?_⟩⟩
   .grind
   .rw[sn];exact MT
  .rw[sm aC]at n;rw[getElem?_map,Option.map_eq_some_iff]at f;obtain⟨y,Y,rfl⟩:=f;have⟨u,Z,F⟩:=n j y Y;exact⟨u,Z,F.mono d⟩
theorem bYX:uz 77 Un:=jL buJ λ_ _ _ _⟨v,s,p,ps,e,c,d,f⟩=>⟨SizeOf.sizeOf p+1,v,s,p,ps,e,c,d,aC,f⟩
theorem bwQ:∀N,uz 41 (c1Z N)
 |0=>by
  refine gV func41 ?_;rintro V m h K⟨v,s,q,ps,rfl,_,_,hN,_⟩;omega
 |N+1=>by
  refine gV func41 ?_;rintro V m h K⟨v,s,q,ps,rfl,D,hs,hN,hK⟩;refine⟨dlX N v s m,rfl,aD bYX (aD bYQ (aD bXX (aD bWZ (aD (bwQ N) aG)))),ajQ N v s,bt,?_⟩;dsimp only[ajQ,push_cast];have E:=@vV q;obtain⟨op,ta,w,co,on,gr,od,li,args⟩:=q;have x:=D.parts;have hl:=x.bf.e;have a':=x.bf.len;simp only[ae.args]at E;simp only[eY,LH]at hK;refine⟨v.ap,s,w,ps,rfl,x.ap,hs,λH h1 e hw=>⟨v.aa,co,rfl,x.aw.mono e,λI h2 f W=>⟨v.on,on,rfl,x.ez.mono (e.trans f),λJ h3 n r2=>⟨v.be,gr,rfl,x.az.mono (e.trans (f.trans n)),λM h4 t r3=>⟨v.bh,od,rfl,x.bd.mono (e.trans (f.trans (n.trans t))),λO h5 A r4=>?_⟩⟩⟩⟩⟩;have L:=e.trans (f.trans (n.trans (t.trans A)));refine⟨λ⟨i,w',c,o,g,d,P,Q⟩=>w'=H/\c=I/\o=J/\g=M/\d=O/\i<=args.length/\PH.le h5 Q/\P.length=i/\∀(j:Nat) q,(args.take i)[j]?=some q->∃u,P[j]?=some u/\cQ Q (eY ps q) u,λz=>args.length-z.1,⟨(0,H,I,J,M,O,[],h5),⟨rfl,rfl,rfl,rfl,rfl,aC,.refl _,rfl,λj x Q=>by simp at Q⟩,MT⟩,?_⟩;rintro⟨i,H,I,J,M,O,P,Q⟩⟨rfl,rfl,rfl,rfl,rfl,hi,B,R,F⟩;dsimp only;refine aE (λS=>?_) (λa1 sl h6 T U=>?_)
  .have⟨q,D⟩:=eF hl S;have⟨b1,o1,u,X,W,Y⟩:=(x.bf.mono (L.trans B)).at D;refine⟨b1,o1,X,aC,S,u,.ay W,u,s,q,ps,rfl,Y,hs.mono (L.trans B),?_,λv' h' C Z=>⟨cv,cv,(i+1,H,I,J,M,O,P++[v'],h'),⟨rfl,rfl,rfl,rfl,rfl,aC,B.trans C,by simp[R],Gj (R':=λx u=>cQ h' (eY ps x) u) hi R D F (λ_ _ h2=>h2.mono C) Z⟩,aC,?_⟩⟩
   .grind
   .rw[sn];exact MT
  .rw[sm aC]at F;have G:=B.trans T
   exact hK ⟨v.op,v.ah,H,I,J,M,O,v.bg,sl⟩ h6 (L.trans G) (pV.fm ⟨x.jp,x.dd,hw.mono (f.trans (n.trans (t.trans (A.trans G)))),W.mono (n.trans (t.trans (A.trans G))),r2.mono (t.trans (A.trans G)),r3.mono (A.trans G),r4.mono G,x.dm,⟨⟨P,U,cv,λj q D=>by
    rw[getElem?_map,Option.map_eq_some_iff]at D;obtain⟨y,hy,rfl⟩:=D;have⟨u,X,e2⟩:=F j y hy;exact⟨u,X,e2.mono T⟩⟩,cv⟩⟩)
theorem Vt:uz 41 c1J:=jL bwQ λ_ _ _ _⟨v,s,q,ps,e,c,d,f⟩=>⟨SizeOf.sizeOf q+1,v,s,q,ps,e,c,d,aC,f⟩
mutual
def caJ:ao->Nat
 |.mk _ _ _ _ args=>1+Oq args
def Oq:List ao->Nat
 |[]=>0
 |p::ps=>caJ p+Oq ps
end
mutual
def bfJ:ao->Nat
 |.mk _ _ _ _ args=>1+Q1 args
def Q1:List ao->Nat
 |[]=>0
 |p::ps=>max (bfJ p) (Q1 ps)
end
mutual
theorem SJ:∀(p:ao)(n:Int),qW p n<=n+caJ p
 |.mk _ _ _ _ args,n=>by
  have:=QC args (n+1)
  grind[qW,caJ]
theorem QC:∀(ps:List ao)(n:Int),mL ps n<=n+Oq ps
 |[],n=>by simp[mL,Oq]
 |p::ps,n=>by
  have c:=SJ p n;have d:=QC ps (qW p n)
  grind[mL,Oq]
end
mutual
theorem Q4:∀(p:ao)(n:Nat),bfJ p<=n->oH p n=false
 |.mk _ _ _ _ args,0,h=>by grind[bfJ]
 |.mk _ _ _ _ args,n+1,h=>by
  simp only[bfJ]at h;simp only[oH];exact Oj args n aC
theorem Oj:∀(ps:List ao)(n:Nat),Q1 ps<=n->uK ps n=false
 |[],_,_=>rfl
 |p::ps,n,h=>by
  simp only[Q1]at h;simp only[uK,Q4 p n aC,Oj ps n aC,Bool.or_false]
end
def gF:Nat->Nat
 |0=>1
 |d+1=>1+3*gF d
structure T6(d:Nat)(p:ao):Prop where
 n:caJ p<=gF d
 d:bfJ p<=d+1
theorem dMJ:∀d,1<=gF d
 |0=>Nat.le_refl _
 |d+1=>by rw[gF];omega
theorem T6.leaf d{op c a b}:T6 d (.mk op c a b []):=⟨by simp[caJ,Oq,dMJ],by simp[bfJ,Q1]⟩
theorem T6.node{d op c a b ps}(h:∀p∈ps,T6 d p)(g:ps.length<=3):T6 (d+1) (.mk op c a b ps):=by
 have j:∀l:List ao,(∀p∈l,T6 d p)->Oq l<=l.length*gF d/\Q1 l<=d+1:=λl=>by
  induction l with
  |nil=>grind[Oq,Q1]
  |cons p l o=>
   intro f;have t:=o λx u=>f x (mem_cons_of_mem _ u);have e:=f p (mem_cons_self ..);have:=e.n;have:=e.d;simp only[Oq,Q1,te,Nat.add_mul,Nat.one_mul];omega
 have t:=j ps h;have e:ps.length*gF d<=3*gF d:=Nat.mul_le_mul_right _ g;exact⟨by grind[caJ,gF],by grind[bfJ]⟩
mutual
def oU:ae->Nat
 |.mk _ _ _ _ _ _ _ _ args=>1+uL args
def uL:List ae->Nat
 |[]=>0
 |q::qs=>oU q+uL qs
end
mutual
def HV:ae->Nat
 |.mk _ _ _ _ _ _ _ _ args=>1+H8 args
def H8:List ae->Nat
 |[]=>0
 |q::qs=>max (HV q) (H8 qs)
end
mutual
def rE(c:Nat):ae->Nat
 |.mk op _ _ _ _ _ _ _ args=>if op=1 then c else if op=4 then Av c args else BF c args
def BF(c:Nat):List ae->Nat
 |[]=>0
 |q::qs=>rE c q+BF c qs
def Av(c:Nat):List ae->Nat
 |[]=>1
 |q::qs=>rE c q*Av c qs
end
mutual
theorem SH:∀(p:ae)(n:Int),qV p n<=n+oU p/\(qV p n<=24->qV p n=n+oU p)
 |.mk _ _ _ _ _ _ _ _ args,n=>by
  have:=Qz args (n+1)
  grind[qV,oU]
theorem Qz:∀(ps:List ae)(n:Int),mA ps n<=n+uL ps/\(mA ps n<=24->mA ps n=n+uL ps)
 |[],n=>by simp[mA,uL]
 |p::ps,n=>by
  have c:=SH p n;have d:=Qz ps (qV p n)
  grind[mA,uL]
end
theorem Jh(h:y9 q=true):oU q<=24:=by
 simp only[y9,su,s0]at h;have:=(SH q 0).2 h.1;omega
mutual
def Pa:ae->Nat
 |.mk _ _ _ _ _ _ _ _ args=>max 1 (D9 args)
def D9:List ae->Nat
 |[]=>0
 |q::qs=>Pa q+D9 qs
end
theorem SU q:1<=Pa q:=by cases q;grind[Pa]
theorem dLZ{a}(c:2<=a)(d:2<=b):a+b<=a*b:=by
 obtain⟨a,rfl⟩:=Nat.exists_eq_add_of_le c;obtain⟨b,rfl⟩:=Nat.exists_eq_add_of_le d;rw[Nat.add_mul,Nat.mul_add,Nat.mul_add];have:=Nat.zero_le (a*b);omega
mutual
theorem cNJ{c:Nat}(d:2<=c):∀q:ae,rE c q<=c^Pa q
 |.mk op _ _ _ _ _ _ _ args=>by
  have e:=bzZ d args;have f:c^D9 args<=c^max 1 (D9 args):=Nat.pow_le_pow_right aC aC;have g:c^1<=c^max 1 (D9 args):=Nat.pow_le_pow_right aC aC
  grind[rE,Pa]
theorem bzZ{c:Nat}(e:2<=c):∀qs:List ae,BF c qs<=c^D9 qs/\Av c qs<=c^D9 qs
 |[]=>by simp[BF,Av,D9]
 |q::qs=>by
  have f:=cNJ e q;have d:=bzZ e qs;have g:c^1<=c^Pa q:=Nat.pow_le_pow_right aC (SU q);rw[Nat.pow_one]at g;simp only[BF,Av,D9,Nat.pow_add];refine⟨?_,Nat.mul_le_mul f d.2⟩
  match qs,d with
  |[],_=>simp_all[BF,D9]
  |p::ps,d=>
   have j:c^1<=c^D9 (p::ps):=Nat.pow_le_pow_right aC (by grind[D9,SU]);rw[Nat.pow_one]at j;exact tf (Nat.add_le_add f d.1) (dLZ aC aC)
end
def gN:Nat->Nat
 |0=>3
 |d+1=>2+2*gN d
def gD:Nat->Nat
 |0=>3
 |d+1=>2+gD d
def gB:Nat->Nat
 |0=>4
 |d+1=>gB d*gB d
structure rV(n d b:Nat)(q:ae):Prop where
 n:oU q<=n
 d:HV q<=d
 b:4^Pa q<=b
def Qk d q:=rV (gN d) (gD d) (gB d) q
def Gd:Nat->ae->Prop
 |0,q=>rV 1 1 4 q
 |d+1,q=>rV (1+2*gN d) (1+gD d) (gB d*gB d) q
theorem rV.mono{n d c e f}(x:rV n d b q)(g:n<=c)(j:d<=e)(o:b<=f):rV c e f q:=⟨tf x.n g,tf x.d j,tf x.b o⟩
theorem HO:∀d,3<=gN d/\3<=gD d/\4<=gB d
 |0=>bx
 |d+1=>by
  have⟨e,f,c⟩:=HO d;have:4*4<=gB d*gB d:=Nat.mul_le_mul c c
  grind[gN,gD,gB]
theorem Gd.arg:∀{d:Nat}{q:ae},Gd d q->Qk d q
 |0,_,x=>rV.mono x bx bx bx
 |d+1,_,x=>rV.mono x (by grind[gN]) (by grind[gD]) (by grind[gB])
theorem rV.one{n d}(x:rV n d b q)(c:4<=b){op on}:rV (n+1) (d+1) b (.mk op ta w co on gr od li [q]):=by
 obtain⟨e,f,g⟩:=x;refine⟨by grind[oU,uL],by grind[HV,H8],?_⟩
 grind[Pa,D9,max,SU]
theorem rV.two{n d e f c p}(x:rV n d b q)(y:rV e f c p)(t:4<=b)(g:4<=c){op on}:rV (1+n+e) (1+max d f) (b*c) (.mk op ta w co on gr od li [q,p]):=by
 obtain⟨u,z,j⟩:=x;obtain⟨A,B,o⟩:=y;have C:4^Pa q*4^Pa p<=b*c:=Nat.mul_le_mul j o;refine⟨by grind[oU,uL],by grind[HV,H8],?_⟩
 grind[Pa,D9,max,SU,Nat.pow_add]
theorem rV.scan{on}:rV 1 1 4 (.mk 1 ta w co on gr od li []):=⟨by simp[oU,uL],by simp[HV,H8],by simp[Pa,D9]⟩
theorem Gd.node{d op on args}(h:∀a∈args,Qk d a)(e:args.length<=2):Gd (d+1) (.mk op ta w co on gr od li args):=by
 have c:=(HO d).2.2;have f:gB d*4<=gB d*gB d:=Nat.mul_le_mul_left _ c
 match args,h,e with
 |[],_,_=>exact⟨by grind[oU,uL],by grind[HV,H8],by grind[Pa,D9]⟩
 |[q],h,_=>exact rV.mono (rV.one (h q bu) c) aC aC aC
 |[q,p],h,_=>exact rV.mono (rV.two (h q bu) (h p bu) c c) aC aC (Nat.le_refl _)
theorem Gd.filter{d}(x:Gd d q){op on}:Qk d (.mk op ta w co on gr od li [q]):=by
 cases d with
 |zero=>exact rV.mono (rV.one x bx) bx bx bx
 |succ d=>
  have c:=(HO d).2.2;have e:gB d*4<=gB d*gB d:=Nat.mul_le_mul_left _ c;exact rV.mono (rV.one x aC) (by grind[gN]) (by grind[gD]) (by grind[gB])
theorem Qk.three d(x:rV 3 3 4 q):Qk d q:=rV.mono x (HO d).1 (HO d).2.1 (HO d).2.2
theorem Gd.mono{q:ae}:∀{d e:Nat},Gd d q->d<=e->Gd e q
 |d,0,x,h=>da
 |d,e+1,x,h=>by
  by_cases c:d=e+1
  .grind
  .have y:=Gd.arg (x.mono (e:=e) aC);have f:=(HO e).2.2;have g:gB e*1<=gB e*gB e:=Nat.mul_le_mul_left _ aC;exact rV.mono y aC aC aC
abbrev lI(a:Nat->Option Obj)(b:Nat->Nat->Option Value)(c d:Nat)(e:Sl->Prop):=∃x,aK a b c d (aT x)/\e x
abbrev C5(a:Int):Value:=.int IntKind.u8 a
abbrev jP a:=a->False
attribute [push_cast] lI C5 jP
def arZ(cb:Nat)(n:Int):ST:=λm h K=>wY m h cb 1 (λy=>lI m h cb 0 (λj=>iA y (aF j) (K (fD 0) m h) (aX n 1 (K (fD 0) m h) (wY m h cb 1 (λt=>am m cb 1 (bV (j6 t 1)) (λd=>lI d h cb 0 (λf=>wY d h cb 1 (λe=>ab f (jQ e 1) 1 (λg=>[C5 (Bt g)]) d h (λg=>jP (n=0)/\K (fD (Int.tmod (Uu (Bt g)) n)) d h)))))))))
theorem dPJ cb n m h K:arZ cb n m h K=(xS (jc [] [] [] [] false) Tryz.f13 (cZ Tryz.f13) (entry 40 [.val (.pointer (some ⟨cb,0,none⟩)),.val (.int .i64 n)] m h) K):=bt
def dyZ:AC:=λc m h K=>∃cb n r,c=[.val (.pointer (some ⟨cb,0,none⟩)),.val (.int .i64 n)]/\bmZ m h cb r/\
 ∀m',aZ m m' cb->bmZ m' h cb (azQ n r).2->K (.val (.int .i64 (azQ n r).1)) m' h
theorem U9:uz 13 dyZ:=by
 refine eM (fn:=Tryz.f13) (c:=cZ Tryz.f13) func13 rfl bx ?_;rintro F m h K⟨cb,n,r,rfl,⟨s,cs,k,u,d,D,e,rfl⟩,j⟩;refine⟨jc [] [] [] [] false,rfl,aG,?_⟩;show xS (jc [] [] [] [] false) Tryz.f13 (cZ Tryz.f13) (entry 40 [.val (.pointer (some ⟨cb,0,none⟩)),.val (.int .i64 n)] m h) K;rw[<-dPJ];dsimp only[arZ,push_cast];have G:s.len=cs.length:=by have:=d.len;simpa[dE]using this
 refine⟨k,.i u rfl,s,.i u rfl,aE (λH=>?_) (λz=>aE (λA=>?_) (λA=>?_))⟩
 .have t:cs.drop k=[]:=cv
  rw[t]at j;exact j m ⟨λ_ _=>rfl⟩ ⟨s,cs,k,u,d,D,e,by rw[t];rfl⟩
 .have g:k<cs.length:=by omega
  have t:cs.drop k=cs[k]::cs.drop (k+1):=drop_eq_getElem_cons g;rw[t]at j;simp only[azQ,if_pos A]at j;refine j m ⟨λ_ _=>rfl⟩ ⟨s,cs,k,u,d,D,e,t.symm⟩
 .have g:k<cs.length:=by omega
  have t:cs.drop k=cs[k]::cs.drop (k+1):=drop_eq_getElem_cons g;rw[t]at j;simp only[azQ,if_neg A]at j;have I:IntKind.i64.wrap ((k:Int)+1)=((k+1:Nat):Int):=by rw[dW]<;>omega
  have B:IntKind.i64.wrap (((k+1:Nat):Int)-1)=(k:Int):=by rw[dW]<;>omega
  refine⟨k,.i u rfl,_,_,⟨u⟩,bu,λm' E=>?_⟩;have f:=E.y;rw[I]at f;simp only[aq]at f;obtain y|⟨b,o,J,C⟩:=d.row
  .exfalso;have:=congrArg List.length y;simp[dE]at this
   grind
  refine⟨s,.i f rfl,((k+1:Nat):Int),.i f rfl,b,o,J,?_⟩;rw[B];refine⟨aC,aC,cs[k],.ay ?_,aC,?_⟩
  .have:=C k [.int .u8 cs[k].toNat] (by simp[dE,g])
   grind
  .have z:cs[k].toNat<256:=cs[k].toNat_lt;rw[dW aC aC,Int.tmod_eq_emod_of_nonneg aC];refine j m' ⟨E.ai⟩ ⟨s,cs,k+1,f,d,aC,e,rfl⟩
def aJ m h cb:=∃r,bmZ m h cb r
theorem aJ.mono(x:aJ m h cb)(le:PH.le h h'):aJ m h' cb:=by
 obtain⟨r,s,cs,k,c,d,e⟩:=x;exact⟨r,s,cs,k,c,d.mono le,e⟩
theorem aZ.refl m cb:aZ m m cb:=⟨λ_ _=>rfl⟩
theorem aZ.trans{d}(a:aZ m m' cb)(b:aZ m' d cb):aZ m d cb:=⟨λc e=>(b.ai c e).trans (a.ai c e)⟩
def KJ n:= -9223372036854775808<=n/\n<=9223372036854775807
structure LO(v:VV):Prop where
 int_:KJ v.int
 text_:v.text.size<=64
def KOk(k:Int):=k=3\/k=4\/k=5
def Ug k v:=KOk k->lU v=true/\v.kind=k
def ES:AC:=λc m h K=>∃cb n,c=[cP cb,cI n]/\aJ m h cb/\∀k m',0<=k->(k<n\/k=0)->aZ m m' cb->aJ m' h cb->K (cI k) m' h
def FZ:AC:=λc m h K=>∃cb n,c=[cP cb,cI n]/\0<=n/\n<=1000/\aJ m h cb/\∀r m',aZ m m' cb->aJ m' h cb->K (cB r) m' h
def bFX:AC:=λc m h K=>∃cb,c=[cP cb]/\aJ m h cb/\∀k m',KJ k->aZ m m' cb->aJ m' h cb->K (cI k) m' h
def dCZ:AC:=λc m h K=>∃cb,c=[cP cb]/\aJ m h cb/\∀t m',t.size<=64->aZ m m' cb->aJ m' h cb->K (Yr t) m' h
def Qd:AC:=λd m h K=>∃cb c,d=[cP cb,cI c]/\aJ m h cb/\∀v m',LO v->Ug c v->aZ m m' cb->aJ m' h cb->K (aV v) m' h
theorem EP:uz 13 ES:=by
 refine⟨U9.1,λc d m h w K e f=>U9.2 c d m h w K ?_ f⟩;obtain⟨cb,n,rfl,⟨r,g⟩,j⟩:=e;refine⟨cb,n,r,rfl,g,λm' o t=>j _ m' ?_ ?_ o ⟨_,t⟩⟩
 .cases r with
  |nil=>simp[azQ]
  |cons b r=>
   grind[azQ]
 .cases r with
  |nil=>simp[azQ]
  |cons b r=>
   simp only[azQ];split
   .simp
   .exact .inl (Int.emod_lt_of_pos _ aC)
def cJJ h:=
 dD [(13,ES)] [(18,{A:=Nat×ByteArray×MH,st:=λ⟨i,t,m⟩=>bO 37 38 [(3,vv (.string t)),(4,iv i)] [] m h}),(23,{A:=Nat×ByteArray×MH,st:=λ⟨i,t,m⟩=>bO 37 38 [(3,vv (.string t)),(5,iv i)] [] m h})] [] [] false
abbrev KT(a:Nat->Int->Prop):=∃x c,a x c
abbrev iN(a:Nat)(b:Int)(c:MH)(d:PH)(e:Int->MH->Prop):=KT (λx j=>dZ (mn a 0) b=dZ (mn x 0) j/\aJ c d x/\∀f g,dK f->(f<j\/f=0)->aZ c g x->aJ g d x->e f g)
abbrev dT(a:Nat)(b:ug):=OfNat.ofNat a::b
abbrev zF a:=dT a []
abbrev xC(a:Nat)(b:MH)(c:PH)(d:Nat->Int->Prop):=∃x,eO (jN a) (jN x)/\aJ b c x/\∀e,d x e
abbrev rD a b c d:=aJ a b c->d
attribute [push_cast] KT iN dT zF xC rD
def aoZ(cb:Nat)(n:Int):ST:=λm h K=>iN cb n m h (λk c=>K (AU (k==jQ n 1)) c h)
def WW(cb:Nat):ST:=λm h K=>iN cb 12 m h (λk c=>dJ (k==9) (K (fD (Int.negSucc 0)) c h) (k==10) (K (fD 9223372036854775807) c h) (dP k 11 (K (fD (Int.negSucc 9223372036854775807)) c h) (jP ((4:Int)=0)/\K (fD (Int.tmod k 4)) c h)))
def WV(cb:Nat):ST:=λm h K=>iN cb 10 m h (λk d=>let A:=K (iR (ByteArray.mk (.mk (zF 97)))) d h;let B:=K (iR (ByteArray.mk (.mk (zF 98)))) d h;dJ (k==0) A (k==1) A (dJ (k==2) A (k==3) B (dJ (k==4) B (k==5) (K (.val EN) d h) (dJ (k==6) (K (iR (ByteArray.mk (.mk (dT 97 (dT 0 []))))) d h) (k==7) (K (iR (ByteArray.mk (.mk (zF 255)))) d h) (dP k 8 (∃(I:Nat×ByteArray×MH->Prop)(e:Nat×ByteArray×MH->Nat),(∃x,I x/\SV.at mh=SV.at (LV x.2.1)/\bB x.1/\d=x.2.2/\dC h h)/\∀x,I x->aX x.1 64 (x.2.1.size<9223372036854775807/\∃c,I c/\e c<e x/\SV.at (LV (x.2.1++ByteArray.mk (.mk (zF 255))))=SV.at (LV c.2.1)/\fI (bA x.1 1)=bR c.1/\eV (x.2.2=c.2.2) (h=h)) (K (iR x.2.1) x.2.2 h)) (∃(I:Nat×ByteArray×MH->Prop)(e:Nat×ByteArray×MH->Nat),(∃x,I x/\SV.at mh=SV.at (LV x.2.1)/\bB x.1/\d=x.2.2/\dC h h)/\∀x,I x->aX x.1 64 (x.2.1.size<9223372036854775807/\∃c,I c/\e c<e x/\SV.at (LV (x.2.1++ByteArray.mk (.mk (zF 98))))=SV.at (LV c.2.1)/\fI (bA x.1 1)=bR c.1/\eV (x.2.2=c.2.2) (h=h)) (K (iR x.2.1) x.2.2 h)))))))
def agZ(cb:Nat)(d:Int):ST:=λm h K=>dJ (d==3) (iN cb 2 m h (λk e=>K (mX (bD d k wR)) e h)) (d==4) (xC cb m h (λc k=>∀e,KJ k->aZ m e c->rD e h c (K (mX (bD d k wR)) e h))) (∃c,eO (jN cb) (jN c)/\aJ m h c/\∀t e,t.size<=64->aZ m e c->rD e h c (K (mX (bD 5 0 (Bv t))) e h))
theorem dPX{n}(d:aJ m h cb)(e:∀r m',aZ m m' cb->aJ m' h cb->K (cB r) m' h):aoZ cb n m h K:=
 ⟨cb,n,rfl,d,λ_ m' _ _ f c=>e _ m' f c⟩
theorem Lj:Iw ⟨#[]⟩=true:=by simp[Iw,ByteArray.toList_eq]
theorem dJZ{k}(c:0<=k)(d:k<2\/k=0):lU ⟨3,k,⟨#[]⟩⟩=true:=by
 have:k=0\/k=1:=by omega
 rcases this with rfl|rfl<;>simp[lU,Lj]
theorem aGQ k:lU ⟨4,k,⟨#[]⟩⟩=true:=by simp[lU,Lj]
theorem dJX{t}(h:t.size<=64):lU ⟨5,0,t⟩=true:=by
 grind[lU]
theorem qR:uz 20 FZ:=by
 refine gV func20 ?_;rintro c m h K⟨cb,n,rfl,_,_,d,e⟩;refine⟨WP [(13,ES)],rfl,aD EP aG,aoZ cb n,bt,?_⟩;exact dPX d e
theorem bfQ:uz 104 bFX:=by
 refine gV func104 ?_;rintro f m h K⟨cb,rfl,g,d⟩;refine⟨WP [(13,ES)],rfl,aD EP aG,WW cb,bt,?_⟩;dsimp only[WW,push_cast];refine⟨cb,12,rfl,g,λk m' j n e c=>aB (λ_=>d _ m' ⟨aC,aC⟩ e c) (λ_=>aB (λ_=>d _ m' ⟨aC,aC⟩ e c) (λ_=>aB (λ_=>d _ m' ⟨aC,aC⟩ e c) (λ_=>⟨aC,d _ m' ?_ e c⟩)))⟩;rw[Int.tmod_eq_emod_of_nonneg j];exact⟨aC,aC⟩
theorem beJ:uz 105 dCZ:=by
 refine gV func105 ?_;rintro g m h K⟨cb,rfl,j,d⟩;refine⟨cJJ h,rfl,aD EP aG,WV cb,bt,?_⟩;dsimp only[WV,push_cast];refine⟨cb,10,rfl,j,λk m' y z e c=>?_⟩;refine aB (λ_=>d _ m' bx e c) (λ_=>aB (λ_=>d _ m' bx e c) (λ_=>aB (λ_=>d _ m' bx e c) (λ_=>aB (λ_=>d _ m' bx e c) (λ_=>aB (λ_=>d _ m' bx e c) (λ_=>aB (λ_=>d _ m' bx e c) (λ_=>aB (λ_=>d _ m' bx e c) (λ_=>aB (λ_=>d _ m' bx e c) (λ_=>aB (λ_=>?_) (λ_=>?_)))))))))
 all_goals
  refine⟨λ⟨i,t,n⟩=>n=m'/\i<=64/\t.size=i,λ⟨i,_,_⟩=>64-i,⟨(0,⟨#[]⟩,m'),⟨rfl,aC,rfl⟩,MT⟩,?_⟩;rintro⟨i,t,m'⟩⟨rfl,A,f⟩;dsimp only;refine aE (λo=>⟨?_,(i+1,_,m'),⟨rfl,aC,?_⟩,ge,MT⟩) (λu=>d t m' aC e c)
  .rw[f];show i+1<=_;omega
  .rw[ByteArray.size_append,f];rfl
theorem Gt:uz 62 Qd:=by
 refine gV func62 ?_;rintro z m h K⟨cb,c,rfl,j,n⟩;refine⟨WP [(13,ES),(104,bFX),(105,dCZ)],rfl,aD EP (aD bfQ (aD beJ aG)),agZ cb c,bt,?_⟩;dsimp only[agZ,push_cast];refine aB (λe=>⟨cb,2,rfl,j,λk m' A B g d=>n ⟨c,k,⟨#[]⟩⟩ m' ⟨⟨da,da⟩,by show(ByteArray.mk #[]).size<=64;decide⟩ (λ_=>?_) g d⟩) (λo=>aB (λe=>⟨cb,rfl,j,λk m' f g d=>n ⟨c,k,⟨#[]⟩⟩ m' ⟨f,by show(ByteArray.mk #[]).size<=64;decide⟩ (λ_=>?_) g d⟩) (λu=>⟨cb,rfl,j,λt m' y g d=>n ⟨5,0,t⟩ m' ⟨⟨bu,bu⟩,y⟩ (λf=>?_) g d⟩))
 .have e:c=3:=mp e
  subst e;exact⟨dJZ A B,rfl⟩
 .have e:c=4:=mp e
  subst e;exact⟨aGQ k,rfl⟩
 .have o:c≠3:=da
  have u:c≠4:=da
  exact⟨dJX y,by rcases f with f|f|f;exact absurd f o;exact absurd f u;exact f.symm⟩
mutual
def OD:ao->Prop
 |.mk _ _ l r args=>LO l.value/\LO r.value/\Uc args
def Uc:List ao->Prop
 |[]=>True
 |p::ps=>OD p/\Uc ps
end
theorem Ub:∀{l:List ao},Uc l↔∀p∈l,OD p
 |[]=>by simp[Uc]
 |p::ps=>by simp[Uc,Ub (l:=ps)]
theorem wC:LO al:=⟨⟨bx,bx⟩,bx⟩
structure aBJ(ak params:ti)(kind:Int)(o:OV):Prop where
 val:LO o.value
 kind:KOk kind->ca ak params o=kind
def OF(l:ti):=∀k∈l,KOk k
structure PW(ak params:ti)(d:Nat)(p:ao):Prop where
 fk:OD p
 valid:OF ak->mI ak params p=true
 nn:T6 d p
def aBZ:AC:=λf m h K=>∃cb s t e d c,f=[cP cb,cS s,cS t,cI e]/\aJ m h cb/\an h s d/\an h t c/\d.length<=1000/\c.length<=1000/\∀o m',aBJ d c e o->aZ m m' cb->aJ m' h cb->K (aO o) m' h
def KP(K:tt)(m:MH)(h:PH)(cb:Nat)(R:ao->Prop):=∀v p m' h',PH.le h h'->fV h' p v->R p->aZ m m' cb->aJ m' h' cb->K (aP v) m' h'
def cQZ N:=λf m h K=>∃cb s t e c,∃d:Nat,f=[cP cb,cS s,cS t,cI d]/\aJ m h cb/\an h s e/\an h t c/\e.length<=1000/\c.length<=1000/\d<N/\d<=1000/\KP K m h cb (PW e c d)
structure I8(ak params:ti)(d:Nat)(p:ao):Prop where
 fk:OD p
 valid:d<=2->OF ak->OF params->kE ak params p=0
def EL:=λf m h K=>∃cb s t d c,∃e:Nat,f=[cP cb,cS s,cS t,cI e]/\aJ m h cb/\an h s d/\an h t c/\d.length<=1000/\c.length<=1000/\e<=1000/\KP K m h cb (I8 d c e)
def pv b:=vv (.pointer (some ⟨b,0,none⟩))
def cFX cb s t c m h:=
 dD [(13,ES),(62,Qd)] [(3,{A:=Nat×List OV,st:=λ⟨i,d⟩=>bO 64 68 ([(0,pv cb),(2,sv t),(3,iv c),SW 8,(9,.at (.au 29))]++WF 15 s i) [UV 8 60 eU.ag,(29,.au 60 5 (d.map OV.ag))] m h}),
  (9,{A:=Nat×List OV,st:=λ⟨i,d⟩=>bO 64 68 ([(0,pv cb),(3,iv c),SW 8,(9,.at (.au 29))]++WF 31 t i) [UV 8 60 eU.ag,(29,.au 60 5 (d.map OV.ag))] m h})] [] [] false
def dbZ(N cb:Nat)(s t:Sl)(c:Nat)(d:PH):=
 dD [(13,ES),(20,FZ),(133,aBZ),(62,Qd),(94,cQZ N)] [(18,{A:=Int×Int×uo×MH×PH,st:=λ⟨op,n,e,m,h⟩=>bO 107 111 [(0,pv cb),(1,sv s),(2,sv t),(3,iv c),SW 8,SW 12,(13,iv n)] [UV 8 63 iD.ag,(12,.cells 63 (((⟨op,0,eU,eU,⟨none,0,0⟩⟩:PV).ag.take 12).map .val++[.au 104])),(104,.au 63 13 (e.map PV.ag))] m h})] [(3,{A:=Int×Bool×MH,st:=λ⟨k,b,m⟩=>bO 107 111 [(0,pv cb),(1,sv s),(2,sv t),(3,iv c),SW 8,(9,iv k),(16,bv b)] [UV 8 63 iD.ag] m d}),
  (5,{A:=Int×Bool×MH,st:=λ⟨k,b,m⟩=>bO 107 111 [(0,pv cb),(1,sv s),(2,sv t),(3,iv c),SW 8,(9,iv k),(27,bv b)] [UV 8 63 iD.ag] m d}),
  (8,{A:=Int×MH,st:=λ⟨k,m⟩=>bO 107 111 [(0,pv cb),(1,sv s),(2,sv t),SW 8,(10,iv k)] [UV 8 63 iD.ag] m d}),
  (9,{A:=PV×Int×MH,st:=λ⟨p,k,m⟩=>bO 107 111 [(0,pv cb),(1,sv s),(2,sv t),SW 8,(10,iv k),SW 11] [UV 8 63 iD.ag,UV 11 63 p.ag] m d}),
  (11,{A:=PV×MH,st:=λ⟨p,m⟩=>bO 107 111 [(0,pv cb),SW 8,SW 11] [UV 8 63 iD.ag,UV 11 63 p.ag] m d}),
  (13,{A:=PV×MH,st:=λ⟨p,m⟩=>bO 107 111 [SW 8,SW 11] [UV 8 63 iD.ag,UV 11 63 p.ag] m d})] [] false
abbrev fZ:=jX 0
abbrev G3:=eQ (oQ 60 (fZ::fZ::fZ::fZ::[mh]))
abbrev rN(a:Nat×List OV):=List.map OV.ag a.2
abbrev Nf(a b:Nat×List OV):=fI (bA a.1 1)=bR b.1
abbrev GW(a b:Prop)(c:tm->Prop):=a/\b/\∃x,c x
abbrev M1(a:Nat)(b:Int)(c:MH)(d:PH)(e:VV->MH->Prop):=KT (λx j=>dZ (mn a 0) b=dZ (mn x 0) j/\aJ c d x/\∀f g,LO f->Ug j f->aZ c g x->aJ g d x->e f g)
abbrev lD(a:Nat)(b:Int)(c:MH)(d:PH)(e:Nat->Bool->Prop):=KT (λx f=>dZ (mn a 0) b=dZ (mn x 0) f/\dK f/\f<=1000/\aJ c d x/\∀g,e x g)
abbrev Mz(a:Int×Bool×MH->Prop)(b:Nat)(c d:Sl)(e:Nat)(g:Int)(i:(Int×Bool×MH)->Prop)(j:Nat->Option Obj)(k:PH):=∃x,a x/\cK b/\aH c/\aH d/\qZ e/\eC/\cG g x.1/\i x/\bX nK j x.2.2 k k
abbrev eD a b:=mn a 0::b
abbrev qL a:=a<=1000
abbrev iW(a:ti):=qL a.length
abbrev nF:=eP 11
abbrev Bs(a:Sl->Sl->ti->ti->Nat->Prop):=lC (λx c=>C7 (λd e=>∃f,a x c d e f))
abbrev iK(a:MH->PH->Prop):=∀x c,a x c
abbrev MA(a:uc)(b:MH)(c:PH)(d:Nat)(e:PV->MH->PH->Prop):=∃x,Bs (λt u j n f=>a=eD x (bU t (fB u f))/\aJ b c x/\an c t j/\an c u n/\iW j/\iW n/\f<d/\qL f/\∀y z,iK (λo g=>cO c g (fV g z y) (PW j n f z->aZ b o x->rD o g x (e y o g))))
abbrev RV a b c:=jX a::fZ::fZ::fZ::fZ::fZ::b::fZ::c
abbrev Ng a:=RV a mh (fZ::fZ::fZ::mh::[At.au 104])
abbrev JZ(a:Int×Int×uo×MH×PH):=List.map PV.ag a.2.2.1
abbrev fX(a:MH)(b:MH×PH):=a=b.1
abbrev D1(a:Int×Int×uo×MH×PH):=a.2.2.2
abbrev dH(a:PH)(b:MH×PH):=a=b.2
abbrev fQ a b:=dH a b/\True
attribute [push_cast] fZ G3 rN Nf GW M1 lD Mz eD qL iW nF Bs iK MA RV Ng JZ fX D1 dH fQ
def Wy(cb:Nat)(s t:Sl)(d:Int):ST:=λm h K=>∃(I:Nat×List OV->Prop)(g:Nat×List OV->Nat),(∃x,I x/\cK cb/\aH t/\bM d/\eC/\eL 29/\aH s/\aY s/\bB x.1/\G3/\wL 60 5 (rN x)/\m=m/\dC h h)/\∀x,I x->aX x.1 (aF s) (ab s x.1 1 bV m h (λy=>dP y d (lJ (rN x) 48 (∃c,I c/\g c<g x/\cK cb/\aH t/\bM d/\eC/\eL 29/\aH s/\aY s/\Nf x c/\G3/\cE 60 5 (hZ (rN x) (wM 1 x.1 wR))=cE 60 5 (rN c)/\eV (m=m) (h=h))) (∃c,I c/\g c<g x/\cK cb/\aH t/\bM
 d/\eC/\eL 29/\aH s/\aY s/\Nf x c/\G3/\cE 60 5 (rN x)=cE 60 5 (rN c)/\eV (m=m) (h=h)))) (∃(I1:Nat×List OV->Prop)(j:Nat×List OV->Nat),(∃c,I1 c/\cK cb/\bM d/\eC/\eL 29/\aH t/\aY t/\bB c.1/\mP G3 (cE 60 5 (rN x)=cE 60 5 (rN c)) (m=m) (h=h))/\∀c,I1 c->aX c.1 (aF t) (ab t c.1 1 bV m h (λy=>dP y d (lJ (rN c) 48 (∃f,I1 f/\j f<j c/\cK cb/\bM d/\eC/\eL 29/\aH t/\aY t/\Nf c f/\G3/\cE 60 5 (hZ (rN c)
 (wM 2 c.1 wR))=cE 60 5 (rN f)/\m=m/\dC h h)) (∃f,I1 f/\j f<j c/\cK cb/\bM d/\eC/\eL 29/\aH t/\aY t/\Nf c f/\G3/\cE 60 5 (rN c)=cE 60 5 (rN f)/\m=m/\dC h h))) (iN cb (bA (rN c).length 1) m h (λk n=>aX k (nV (rN c)) (GW (dK k) (k<nV (rN c)) (λe=>yT (rN c) k.toNat e/\∃y:OV,List.take 5 (List.drop 0 e)=y.ag/\K (mX y.ag) n h)) (M1 cb d n h (λv u=>K (mX (bD 3 0 (bD v.kind v.int (Bv v.text)))) u h)))))
def abZ(N cb:Nat)(s t:Sl)(e:Nat):ST:=λm h K=>iN cb 9 m h (λk F=>∃I,dP k 0 (lD cb 2 F h (λc r=>∀f,aZ F f c->aJ f h c->Mz I cb s t e k (λx=>kJ r x.2.1) f h)) (Mz I cb s t e k (λx=>A7 x.2.1) F h)/\∀x,I x->branch x.2.1 (iN cb 2 x.2.2 h (λn f=>K (mX (wM (j6 1 n) 0 (bD 0 0 (EN::pN::bD 0 0 (pW 0::EN::kS))))) f h)) (∃I1,aX x.1 6 (Mz I1 cb s t e x.1 (λu=>C0 u.2.1) x.2.2 h) (Mz I1 cb s t e x.1 (λu=>kJ (decide ((↑e:Int)<1)) u.2.1) x.2.2 h)/\∀u,let M:=eD cb (bU s (fB t (jZ e)));I1 u->dJ u.2.1 (∃I2:Int×MH->Prop,eH (aF s) 0 (iN cb (aF s) u.2.2 h (λn f=>ab s n 1 bV f h (λy=>∃d,I2 d/\cK cb/\aH s/\aH t/\eC/\cG y d.1/\nK/\f=d.2/\dC h h))) (∃d,I2 d/\cK cb/\aH s/\aH t/\eC/\cG 4 d.1/\nK/\u.2.2=d.2/\dC h h)/\∀d,I2 d->∃I3:PV×Int×MH->Prop,iN cb 6 d.2 h (λn f=>∃c,lC (λB D=>∃J,C7 (λC p=>eD cb (bU s (fB t d.1))=eD c (bU B (fB D J))/\aJ f h c/\an h B C/\an h D p/\iW C/\iW p/\∀o A,aBJ C p J o->aZ f A c->rD A h c (M1 cb d.1 A h (λv G=>∃g,I3 g/\cK cb/\aH s/\aH t/\eC/\cG d.1 g.2.1/\nF/\nK/\bX (oQ 63 (jX 3::jX (j6 1 n)::jX o.kind::BU o::jX (zW o)::jX (AN o)::LV (AO o)::jX 3::fZ::jX v.kind::jX v.int::LV v.text::A8)=Ay g.1) G g.2.2 h h)))))/\∀g,I3 g->∃I4:PV×MH->Prop,lD cb 3 g.2.2 h (λc r=>∀f,aZ g.2.2 f c->aJ f h c->branch r (∃C,lC (λB D=>∃n,C7 (λH p=>eD cb (bU s (fB t g.2.1))=eD C (bU B (fB D n))/\aJ f h C/\an h B H/\an h D p/\iW H/\iW p/\∀o A,aBJ H p n o->aZ f A C->rD A h C (∃j,I4 j/\cK cb/\eP 8/\nF/\nK/\oQ 63 (tN g.1 g.1.left o (BU o::jX (zW o)::jX (AN o)::LV (AO o)::zU g.1.args))=Ay j.1/\A=j.2/\h=h/\True)))) (∃j,I4 j/\cK cb/\eP 8/\nF/\nK/\Ay g.1=Ay j.1/\f=j.2/\h=h/\True))/\∀j,I4 j->∃I5:PV×MH->Prop,lD cb 6 j.2 h (λc r=>∀f,aZ j.2 f c->aJ f h c->branch r (∃z,I5 z/\eC/\nF/\nK/\bX (oQ 63 (tN j.1 j.1.right j.1.left (BU j.1.left::jX (zW j.1.left)::jX (AN j.1.left)::LV (AO j.1.left)::zU j.1.args))=Ay z.1) f z.2 h h) (∃z,I5 z/\eC/\nF/\nK/\bX (Ay j.1=Ay z.1) f z.2 h h))/\∀z,I5 z->K (mX z.1.ag) z.2 h) (u.1==6) (MA M u.2.2 h N (λv f E=>bN E 13 [v.ag] (λB L=>K (mX (wM 6 0 (bD 0 0 (EN::pN::bD 0 0 (pW 0::EN::aT B))))) f L))) (iN cb 3 u.2.2 h (λn f=>∃(I2:Int×Int×uo×MH×PH->Prop)(A:Int×Int×uo×MH×PH->Nat),(∃d,I2 d/\cK cb/\aH s/\aH t/\qZ e/\eC/\eP 12/\cG n d.2.1/\nK/\oQ 63 (Ng (jQ (j6 4 u.1) 7))=oQ 63 (Ng d.1)/\wL 63 13 (JZ d)/\fX f (D1 d)/\fQ h (D1 d))/\∀d,I2 d->iA d.2.1 0 (MA M (D1 d).1 (D1 d).2 N (λv G E=>lJ (JZ d) 136 (∃g,I2 g/\A g<A d/\cK cb/\aH s/\aH t/\qZ e/\eC/\eP 12/\cG (jQ d.2.1 1) g.2.1/\nK/\oQ 63 (Ng d.1)=oQ 63 (Ng g.1)/\cE 63 13 (hZ (JZ d) v.ag)=cE 63 13 (JZ g)/\eV (fX G (D1 g)) (dH E (D1 g))))) (bN (D1 d).2 13 (JZ d) (λB E=>K (mX (wM d.1 0 (bD 0 0 (EN::pN::bD 0 0 (pW 0::EN::aT B))))) (D1 d).1 E))))))
def lv(N cb:Nat)(s t:Sl)(d:Nat):ST:=λm h K=>MA (eD cb (bU s (fB t d))) m h N (λv f e=>Jz (bU s (bL (tV t) v.ag)) e (λc p g=>dP (kE c p g) 2 (MA (eD cb (bU s (fB t 1))) f e N (λj n o=>K (mX j.ag) n o)) (K (mX v.ag) f e)))
theorem avX:R2 al al=true:=by simp[R2]
theorem E0:Li 0 eU eU=true:=by simp[Li,oe,R2]
theorem aLX{ak params x}(h:ak[i]?=some x):ca ak params ⟨1,i,al⟩=x:=by
 have c:=(sg h);have e:ca ak params ⟨1,i,al⟩=wU ak ⟨1,i,al⟩:=rfl;have d:=avX
 grind[wU]
theorem aLQ{ak params x}(h:params[i]?=some x):ca ak params ⟨2,i,al⟩=x:=by
 have c:=(sg h);have e:ca ak params ⟨2,i,al⟩=wU params ⟨2,i,al⟩:=rfl;have d:=avX
 grind[wU]
theorem ZH{ak params c v}(f:LO v)(g:Ug c v):aBJ ak params c ⟨3,0,v⟩:=⟨f,λh=>by
 have⟨j,d⟩:=g h;have e:ca ak params ⟨3,0,v⟩=if((0:Int) !=0|| !kF v)then 0 else v.kind:=rfl
 rw[e,if_neg,d];simp only[kF,j,d];rcases h with rfl|rfl|rfl<;>decide⟩
theorem bbQ:uz 133 aBZ:=by
 refine gV func133 ?_;rintro U m h K⟨cb,s,t,d,e,c,rfl,V,P,Q,Z,l2,R⟩;refine⟨cFX cb s t d m h,rfl,aD EP (aD Gt aG),Wy cb s t d,bt,?_⟩;dsimp only[Wy,push_cast];have D:=P.e;have E:=Q.e;refine⟨λ⟨i,f⟩=>i<=e.length/\f.length<=i/\∀o∈f,aBJ e c d o,λ⟨i,_⟩=>e.length-i,⟨(0,[]),⟨aC,bu,bu⟩,MT⟩,?_⟩;rintro⟨i,f⟩⟨S,y,g⟩;dsimp only;refine aE (λj=>?_) (λz=>?_)
 .have⟨x,F⟩:=eF D j;have⟨G,H,I,J⟩:=P.im F;refine⟨G,H,I,aC,j,x,.ay J,aB (λW=>⟨cv,cv,(i+1,f++[⟨1,i,al⟩]),⟨aC,cv,?_⟩,aC,?_⟩) (λ_=>⟨(i+1,f),⟨aC,da,g⟩,aC,MT⟩)⟩
  .intro o u;rcases mem_append.1 u with n|n
   .grind
   .simp at n;subst n;exact⟨wC,λ_=>by grind[aLX]⟩
  .rw[sn];exact MT
 refine⟨λ⟨i,f⟩=>i<=c.length/\f.length<=1000+i/\∀o∈f,aBJ e c d o,λ⟨i,_⟩=>c.length-i,⟨(0,f),⟨aC,aC,g⟩,MT⟩,?_⟩;clear S y g z;rintro⟨i,f⟩⟨S,y,g⟩;dsimp only;refine aE (λj=>?_) (λz=>?_)
 .have⟨x,F⟩:=eF E j;have⟨G,H,I,J⟩:=Q.im F;refine⟨G,H,I,aC,j,x,.ay J,aB (λW=>⟨cv,cv,(i+1,f++[⟨2,i,al⟩]),⟨aC,cv,?_⟩,aC,?_⟩) (λ_=>⟨(i+1,f),⟨aC,da,g⟩,aC,MT⟩)⟩
  .intro o u;rcases mem_append.1 u with n|n
   .grind
   .simp at n;subst n;exact⟨wC,λ_=>by grind[aLQ]⟩
  .rw[sn];exact MT
 .refine⟨cb,_,rfl,V,λk m' X n u A=>aE (λT=>?_) (λT=>⟨cb,d,rfl,A,λv L Y M O B=>R ⟨3,0,v⟩ L (ZH Y M) (u.trans O) B⟩)⟩;have C:k.toNat<f.length:=da
  exact⟨X,T,_,by rw[getElem?_map,sh C];rfl,f[k.toNat],rfl,R _ m' (g _ (getElem_mem C)) u A⟩
theorem S5{h v}(c:v.args=⟨none,0,0⟩):fV h (.mk v.op v.dy v.left v.right []) v:=fV.mk (by rw[c];exact .nil _ _ _ _)
structure c0X(ak params:ti)(kd:Int)(p:PV):Prop where
 bf:p.args=⟨none,0,0⟩
 jp:p.op=3
 cmp_:1<=p.dy/\p.dy<=6
 jj:aBJ ak params kd p.left
 mt:aBJ ak params kd p.right
 ie:OF ak->KOk kd
theorem c8Q{k}(h:KOk k):k≠0:=by rcases h with rfl|rfl|rfl<;>decide
theorem c0X.pw{ak params e p}(x:c0X ak params e p) d:PW ak params d (.mk p.op p.dy p.left p.right []):=by
 refine⟨⟨x.jj.val,x.mt.val,trivial⟩,λf=>?_,T6.leaf d⟩;have c:=x.ie f;have g:=x.jj.kind c;have j:=x.mt.kind c;have n:=c8Q c;have o:=x.cmp_;rw[x.jp]
 grind[mI]
theorem dKJ{ak params d}(x:PW ak params d p):PW ak params (d+1) (.mk 6 0 eU eU [p]):=
 ⟨⟨wC,wC,x.fk,trivial⟩,λf=>by
  have e:=E0;simp[mI,B7,e,x.valid f],T6.node (λq c=>by simp at c;subst c;exact x.nn) bu⟩
theorem dLQ{ak params d op ps}(f:op=4\/op=5)(x:∀p∈ps,PW ak params d p)(g:ps.length<=3):PW ak params (d+1) (.mk op 0 eU eU ps):=
 ⟨⟨wC,wC,Ub.2 λp c=>(x p c).fk⟩,λj=>by
  have e:=E0;have n:B7 ak params ps=true:=by rw[Il,all_eq_true];exactλp c=>(x p c).valid j
  rcases f with rfl|rfl<;>simp[mI,e,n],T6.node (λq o=>(x q o).nn) g⟩
theorem buX:∀N,uz 94 (cQZ N)
 |0=>by
  refine gV func94 ?_;rintro a' m h K⟨cb,s,t,f,d,g,rfl,_,_,_,_,_,hN,_⟩;omega
 |N+1=>by
  refine gV func94 ?_;rintro a' m h K⟨cb,s,t,f,d,g,rfl,hc,O,ht,l1,l2,hN,hd,hK⟩;refine⟨dbZ N cb s t g h,rfl,aD EP (aD qR (aD bbQ (aD Gt (aD (buX N) aG)))),abZ N cb s t g,bt,?_⟩;dsimp only[abZ,push_cast];have a6:=O.e;refine⟨cb,9,rfl,hc,λk C M P y z=>?_⟩;refine⟨λ⟨k,_,A⟩=>0<=k/\k<=8/\aZ m A cb/\aJ A h cb,aB (λ_=>⟨cb,2,rfl,aC,aC,z,λr F D E=>⟨(k,r,F),⟨M,aC,y.trans D,E⟩,MT⟩⟩) (λ_=>⟨(k,false,C),⟨M,aC,y,z⟩,MT⟩),?_⟩;clear M P y z k C;rintro⟨k,b,C⟩⟨M,P,y,z⟩;dsimp only;refine aB (λ_=>⟨cb,2,rfl,z,λj F S j1 D E=>?_⟩) (λ_=>?_)
  .refine hK ⟨IntKind.i64.wrap (1+j),0,eU,eU,⟨none,0,0⟩⟩ _ F h (.refl _) (S5 rfl) ⟨⟨wC,wC,trivial⟩,λ_=>?_,T6.leaf _⟩ (y.trans D) E;have hj:j=0\/j=1:=by omega
   have e1:IntKind.i64.wrap 1=1:=bx
   have e2:IntKind.i64.wrap 2=2:=bx
   rcases hj with rfl|rfl
   .grind[mI,E0]
   grind[mI,E0]
  refine⟨λ⟨k,b,A⟩=>0<=k/\k<=8/\(b=false->6<=k/\1<=g)/\aZ m A cb/\aJ A h cb,aE (λ_=>⟨(k,true,C),⟨M,P,λe=>(by cases e),y,z⟩,MT⟩) (λhk=>⟨(k,_,C),⟨M,P,λe=>?_,y,z⟩,MT⟩),?_⟩
  .grind
  clear M P y z k C;rintro⟨k,b,C⟩⟨M,P,kb,y,z⟩;dsimp only;refine aB (λ_=>?_) (λhb=>?_)
  .refine⟨λ⟨H,A⟩=>(OF f->KOk H)/\aZ m A cb/\aJ A h cb,aE (λa5=>⟨cb,s.len,rfl,z,λj F S j1 D E=>?_⟩) (λ_=>⟨(4,C),⟨λ_=>.inr (.inl rfl),y,z⟩,MT⟩),?_⟩
   .have⟨b1,off,e1,r1⟩:=O.nt (n:=j) S aC
    have hm:f.getD j.toNat 0∈f:=by
     grind
    exact⟨b1,off,e1,S,aC,_,.ay r1,(_,F),⟨λT=>T _ hm,y.trans D,E⟩,MT⟩
   clear y z C;rintro⟨H,C⟩⟨U,y,z⟩;dsimp only;refine⟨λ⟨p,H,A⟩=>c0X f d H p/\aZ m A cb/\aJ A h cb,⟨cb,6,rfl,z,λj F S j1 D E=>⟨cb,s,t,H,f,d,rfl,E,O,ht,l1,l2,λo m3 ho V W=>⟨cb,H,rfl,W,λv m4 hv a0 o4 c4=>⟨(⟨3,IntKind.i64.wrap (1+j),o,⟨3,0,v⟩,⟨none,0,0⟩⟩,H,m4),⟨⟨rfl,rfl,?_,ho,ZH hv a0,U⟩,((y.trans D).trans V).trans o4,c4⟩,MT⟩⟩⟩⟩,?_⟩
   .grind[dW]
   clear y z C U H;rintro⟨p,H,C⟩⟨pw,y,z⟩;dsimp only;refine⟨λ⟨p,A⟩=>c0X f d H p/\aZ m A cb/\aJ A h cb,⟨cb,3,rfl,aC,aC,z,λr F D E=>aB (λ_=>⟨cb,s,t,H,f,d,rfl,E,O,ht,l1,l2,λo m3 ho V W=>⟨(⟨p.op,p.dy,p.left,o,p.args⟩,m3),⟨⟨pw.bf,pw.jp,pw.cmp_,pw.jj,ho,pw.ie⟩,(y.trans D).trans V,W⟩,MT⟩⟩) (λ_=>⟨(p,F),⟨pw,y.trans D,E⟩,MT⟩)⟩,?_⟩;clear pw y z C p;rintro⟨p,C⟩⟨pw,y,z⟩;dsimp only;refine⟨λ⟨p,A⟩=>c0X f d H p/\aZ m A cb/\aJ A h cb,⟨cb,6,rfl,aC,aC,z,λr F D E=>aB (λ_=>⟨(⟨p.op,p.dy,p.right,p.left,p.args⟩,F),⟨⟨pw.bf,pw.jp,pw.cmp_,pw.mt,pw.jj,pw.ie⟩,y.trans D,E⟩,MT⟩) (λ_=>⟨(p,F),⟨pw,y.trans D,E⟩,MT⟩)⟩,?_⟩;clear pw y z C p;rintro⟨p,C⟩⟨pw,y,z⟩;exact hK p _ C h (.refl _) (S5 pw.bf) (pw.pw g) y z
  have a1:=kb hb;have hw:IntKind.i64.wrap ((g:Int)-1)=((g-1:Nat):Int):=by grind[dW]
  rw[hw];have a7:g=g-1+1:=by omega
  refine aB (λ_=>⟨cb,s,t,f,d,g-1,rfl,z,O,ht,l1,l2,aC,aC,λv p F h2 G hr hp D E X Y I J=>?_⟩) (λa2=>⟨cb,3,rfl,z,λj F S j1 D E=>?_⟩)
  .refine hK ⟨6,0,eU,eU,X⟩ (.mk 6 0 eU eU [p]) F Y (G.trans I) (fV.mk (v:=⟨6,0,eU,eU,X⟩) ⟨⟨[v],J,rfl,λi x L=>?_⟩,bu⟩) (by grind[dKJ]) (y.trans D) (E.mono I)
   match i,L with
   |0,L=>simp at L;subst L;exact⟨v,rfl,hr.mono I⟩
   |_+1,L=>simp at L
  refine⟨λ⟨op,n,Q,A,L⟩=>(op=4\/op=5)/\ -1<=n/\n<=2/\(Q.length:Int)<=2-n/\PH.le h L/\aZ m A cb/\aJ A L cb/\∃ps:List ao,ps.length=Q.length/\(∀q∈ps,PW f d (g-1) q)/\∀(i:Nat) q,ps[i]?=some q->∃u,Q[i]?=some u/\fV L q u,λ⟨_,n,_,_,_⟩=>(n+1).toNat,⟨(_,j,[],F,h),⟨?_,aC,aC,cv,.refl _,y.trans D,E,[],rfl,bu,λi q R=>by simp at R⟩,MT⟩,?_⟩
  .have a2:k≠6:=da
   have a3:k=7\/k=8:=by omega
   rcases a3 with rfl|rfl
   .exact .inl bx
   .exact .inr bx
  rintro⟨op,n,Q,A,L⟩⟨a4,n0,n1,ul,G,ox,cx,ps,pl,pw,Z⟩;dsimp only;refine aE (λhn=>⟨cb,s,t,f,d,g-1,rfl,cx,O.mono G,ht.mono G,l1,l2,aC,aC,λv p m3 Y B hr hp V W=>⟨cv,cv,(op,n-1,Q++[v],m3,Y),⟨a4,da,da,cv,G.trans B,ox.trans V,W,ps++[p],by simp[pl],?_,?_⟩,?_,?_⟩⟩) (λhn X Y B J=>?_)
  .grind
  .intro i q R;by_cases hi:i<ps.length
   .rw[getElem?_append_left hi]at R;have⟨u,h1,h2⟩:=Z i q R;exact⟨u,da,h2.mono B⟩
   grind
  .grind
  .rw[sn,dW aC aC];exact MT
  .exact hK ⟨op,0,eU,eU,X⟩ (.mk op 0 eU eU ps) A Y (G.trans B) (fV.mk (v:=⟨op,0,eU,eU,X⟩) ⟨⟨Q,J,pl,λi q R=>(Z i q R).imp λu hu=>⟨hu.1,hu.2.mono B⟩⟩,aC⟩) (by grind[dLQ]) ox (cx.mono B)
theorem axQ(h:OF l):l.all eA=true:=all_eq_true.2 λk c=>by
 rcases h k c with e|e|e<;>subst e<;>rfl
theorem bqQ{ak params d}(x:PW ak params d p)(e:d<=2)(c:OF ak)(f:OF params):kE ak params p=0:=by
 have j:=SJ p 0;have o:=x.nn.n;have g:=Q4 p 8 (by have:=x.nn.d;omega)
 have t:gF d<=13:=by match d,e with
  |0,_=>decide
  |1,_=>decide
  |2,_=>decide
 unfold kE;rw[axQ c,axQ f,if_neg bu,g,if_neg cv,x.valid c];rfl
theorem ip:uz 52 EL:=by
 refine gV func52 ?_;rintro H m h K⟨cb,s,t,e,c,f,rfl,I,n,o,A,B,J,C⟩;refine⟨WP [(94,cQZ 1001),(95,AH)],rfl,aD (buX 1001) (aD Ph aG),lv 1001 cb s t f,bt,?_⟩;dsimp only[lv,push_cast];refine⟨cb,s,t,e,c,f,rfl,I,n,o,A,B,aC,J,λv p L M d D E F G=>⟨s,t,v,e,c,p,rfl,n.mono d,o.mono d,D,aB (λ_=>⟨cb,s,t,e,c,1,rfl,G,n.mono d,o.mono d,A,B,aC,aC,λO P Q R g u j S T=>C O P Q R (d.trans g) u ⟨j.fk,λ_ y z=>bqQ j bx y z⟩ (F.trans S) T⟩) (λ_=>C v p L M d D ⟨E.fk,λU y z=>bqQ E U y z⟩ F G)⟩⟩
def bS:Sl:=⟨none,0,0⟩
def bIX:AC:=λc m h K=>∃n k,c=[Yr n,cI k]/\K (.val (.agg ⟨(oI.mk n k).ag⟩)) m h
def bDQ:AC:=λc m h K=>∃t,c=[cI t]/\K (aQ ⟨1,t,iD,bS,bS,bS,bS,0,bS⟩) m h
def dAX(v:QV)(g o:Sl)(k:Int):QV:=⟨v.op,v.ah,v.ap,v.aa,v.on,g,o,k,v.args⟩
def dDJ:AC:=λd m h K=>∃cb v s c,d=[cP cb,aQ (dAX v bS bS v.bg),cS s]/\aJ m h cb/\an h s c/\c.length<=1000/\
 ∀g o k gr od m' h',PH.le h h'->an h' g gr->lF h' o od->gr.length<=c.length->od.length<=c.length->0<=k->k<=3->aZ m m' cb->aJ m' h' cb->K (aQ (dAX v g o k)) m' h'
def dbQ(cb:Nat)(v:QV)(s:Sl)(h:PH):=
 dD [(13,ES),(20,FZ)] [(2,{A:=Nat×ti×tp×MH,st:=λ⟨i,gr,od,m⟩=>bO 37 40 [(0,pv cb),SW 4,SW 6,(9,iv s.len),(10,iv i)] [(4,.cells 68 ((v.ag.take 17).map .val++[.au 19,.au 30,.val (.int .i64 v.bg),.val (.slice v.args.a v.args.len v.args.cap)])),UV 6 68 oJ.ag,(19,.au 3 1 (gr.map eI)),(30,.au 138 2 (od.map wV))] m h})] [] [] false
def qy(n:ByteArray)(k:Int):ST:=λm h K=>K (mX (qH n k)) m h
def qx(t:Int):ST:=λm h K=>K (mX (yG 1 t)) m h
abbrev jW:=eP 6
abbrev j9 a b:=[a,rF b]
abbrev JA a:=eQ (oQ 68 (jX a.op::pU a::vD a (wP a::rF a.on::At.au 19::At.au 30::j9 (rZ a) a.args)))
abbrev yQ(a:Nat×ti×tp×MH):=Iy a.2.2.1
abbrev MB(a:Nat×ti×tp×MH->Prop)(b:Nat×ti×tp×MH->Nat)(c:Nat×ti×tp×MH)(d:Nat)(e:Sl)(g:Prop)(i j:(Nat×ti×tp×MH)->Prop)(k:MH)(l:PH):=∃x,a x/\b x<b c/\cK d/\eZ/\jW/\aY e/\fI (bA c.1 1)=bR x.1/\g/\gP/\i x/\j x/\k=x.2.2.2/\dC l l
abbrev DJ(a:Int×tu×MH):=G0 a.2.1
abbrev Hk(a:Int×Nat×tu×(Int×Int)×Bool×MH):=a.2.2.2.2.1
abbrev DI(a:Int×Nat×tu×(Int×Int)×Bool×MH):=a.2.2.1.length
abbrev J9(a:Int×Nat×tu×(Int×Int)×Bool×MH):=a.2.2.2.1
abbrev Fi a:=jX (J9 a).1
abbrev Fj a:=jX (J9 a).2
abbrev yN(a:Int×Nat×tu×(Int×Int)×Bool×MH):=G0 a.2.2.1
abbrev Ck(a:Int×Nat×tu×(Int×Int)×Bool×MH):=a.2.2.2.2.2
abbrev Rz(a:uq->Prop)(b:uq->Nat)(c d:Nat)(e g:Sl)(i:Int×Nat×tu×(Int×Int)×Bool×MH)(j:uq->Int×Nat×tu×(Int×Int)×Bool×MH)(k:uq->Prop):=∃x,a x/\b x<c/\cK d/\aH e/\aH g/\eL 75/\cG i.1 (j x).1/\eP 9/\k x
abbrev uF(a b:Prop)(c:(List tm)->Prop):=a/\b/\∃x,c x
abbrev xB(a:Int)(b:Sl):=a<=b.cap
abbrev NG(a:Int):=a<=140737488355328
abbrev DX(a:Int)(b:tm):=replicate a.toNat b
abbrev Nq(a:(Nat×Nat->Prop)->(Nat×Nat)->Prop)(b:(Nat×Nat->Prop)->(Nat×Nat->Nat)->(Nat×Nat)->Prop):=∃x d,(∃c,a x c)/\∀c,b x d c
attribute [push_cast] jW j9 JA yQ MB DJ Hk DI J9 Fi Fj yN Ck Rz uF xB NG DX Nq
def abQ(cb:Nat)(v:QV)(s:Sl):ST:=λm h K=>∃I o,(∃x,I x/\cK cb/\eP 4/\jW/\aY s/\bB x.1/\JA v/\gP/\mP (wX x.2.1) (wL 138 2 (yQ x)) (m=x.2.2.2) (h=h))/\∀x,I x->aX x.1 (aF s) (lD cb 3 x.2.2.2 h (λc r=>∀f,aZ x.2.2.2 f c->aJ f h c->branch r (lJ (gE x.2.1) 8 (lD cb 3 f h (λj t=>∀e,let C:=λd=>yM x.2.1 x.1 d.2.1;aZ f e j->aJ e h j->branch t (lD cb 2 e h (λn u=>∀g,aZ e g n->aJ g h n->lJ (yQ x) 16 (MB I o x cb s (JA v) C (λd=>cE 138 2 (hZ (yQ x) (BH x.1 (.bool u)))=cE 138 2 (yQ d)) g h))) (MB I o x cb s (JA v) C (λd=>No (yQ x) (yQ d)) e h)))) (lD cb 3 f h (λj t=>∀e,let D:=λd=>tO (gE x.2.1) d.2.1;aZ f e j->aJ e h j->branch t (lD cb 2 e h (λn u=>∀g,aZ e g n->aJ g h n->lJ (yQ x) 16 (MB I o x cb s (JA v) D (λd=>cE 138 2 (hZ (yQ x) (BH x.1 (.bool u)))=cE 138 2 (yQ d)) g h))) (MB I o x cb s (JA v) D (λd=>No (yQ x) (yQ d)) e h))))) (iN cb 4 x.2.2.2 h (λk f=>bN h 1 (gE x.2.1) (λy z=>bN z 2 (yQ x) (λA B=>K (mX (bD v.op v.ah (bD (fM v) (fN v) (Hr v (fW v.on::fW y::eW A k (aT v.args)))))) f B))))
theorem pi:uz 51 bIX:=by
 refine gV func51 ?_;rintro c m h K⟨n,k,rfl,d⟩;refine⟨WP [],rfl,aG,qy n k,bt,?_⟩;exact d
theorem jt:uz 53 bDQ:=by
 refine gV func53 ?_;rintro c m h K⟨t,rfl,d⟩;refine⟨WP [],rfl,aG,qx t,bt,?_⟩;exact d
theorem bTZ:uz 96 dDJ:=by
 refine gV func96 ?_;rintro J m h K⟨cb,v,s,c,rfl,L,M,Y,O⟩;refine⟨dbQ cb v s h,rfl,aD EP (aD qR aG),abQ cb v s,bt,?_⟩;dsimp only[abQ,push_cast];have P:=M.e;refine⟨λ⟨i,gr,od,F⟩=>i<=c.length/\gr.length<=i/\od.length<=i/\aZ m F cb/\aJ F h cb,λ⟨i,_,_,_⟩=>c.length-i,⟨(0,[],[],m),⟨aC,bu,bu,.refl _ _,L⟩,MT⟩,?_⟩;rintro⟨i,gr,od,Z⟩⟨hi,hg,ho,n,G⟩;dsimp only;refine aE (λQ=>?_) (λR=>?_)
 .have du:∀(f:ti)(g:tp) m',f.length<=i+1->g.length<=i+1->aZ m m' cb->aJ m' h cb->(i+1<=c.length/\f.length<=i+1/\g.length<=i+1/\aZ m m' cb/\aJ m' h cb):=λf g m' H B S T=>⟨aC,H,B,S,T⟩
  refine⟨cb,3,rfl,aC,aC,G,λr I j A=>aB (λ_=>⟨cv,cv,cb,3,rfl,aC,aC,A,λC o t u=>aB (λ_=>⟨cb,2,rfl,aC,aC,u,λy z D E=>⟨cv,cv,(i+1,gr++[(i:Int)],od++[((i:Int),y)],z),du (gr++[(i:Int)]) (od++[((i:Int),y)]) z cv cv (((n.trans j).trans t).trans D) E,aC,?_⟩⟩) (λ_=>⟨(i+1,gr++[(i:Int)],od,o),du (gr++[(i:Int)]) od o cv aC ((n.trans j).trans t) u,aC,?_⟩)⟩)
   (λ_=>⟨cb,3,rfl,aC,aC,A,λC o t u=>aB (λ_=>⟨cb,2,rfl,aC,aC,u,λy z D E=>⟨cv,cv,(i+1,gr,od++[((i:Int),y)],z),du gr (od++[((i:Int),y)]) z aC cv (((n.trans j).trans t).trans D) E,aC,?_⟩⟩) (λ_=>⟨(i+1,gr,od,o),du gr od o aC aC ((n.trans j).trans t) u,aC,MT⟩)⟩)⟩
  .simp only[sn];exact MT
  .simp only[sn];exact MT
  .simp only[sn];exact MT
 .refine⟨cb,4,rfl,G,λk I U k1 j A V H e W X B d C=>?_⟩;exact O V X k gr od I B (e.trans d) ⟨W.mono d,aC⟩ ⟨C,aC⟩ aC aC U aC (n.trans j) (A.mono (e.trans d))
def cUQ:AC:=λc m h K=>∃cb s t a b,c=[cP cb,cS s,cS t]/\aJ m h cb/\an h s a/\an h t b/\a.length<=1000/\b.length<=1000/\
 ∀o on m' h',PH.le h h'->l9 h' o on->on.length<=10->aZ m m' cb->aJ m' h' cb->K (cS o) m' h'
def nw cb s t h:=
 dD [(13,ES)] [(3,{A:=Int×tu×MH,st:=λ⟨n,on,m⟩=>bO 77 80 [(0,pv cb),(1,sv s),(2,sv t),(7,.at (.au 75)),(8,iv n)] [(75,.au 81 2 (on.map oY))] m h}),
  (8,{A:=Int×Nat×tu×(Int×Int)×Bool×MH,st:=λ⟨n,i,on,p,f,m⟩=>bO 77 80 [(0,pv cb),(1,sv s),(2,sv t),(7,.at (.au 75)),(8,iv n),SW 9,(10,bv f),(49,.at (.au 75)),(50,iv on.length),(51,iv i)] [(9,.cells 81 [.val (.int .i64 p.1),.val (.int .i64 p.2)]),(75,.au 81 2 (on.map oY))] m h})] [] [] false
def jl(cb:Nat)(s t:Sl):ST:=λm h K=>iN cb 3 m h (λk F=>∃(I:Int×tu×MH->Prop)(n:Int×tu×MH->Nat),(∃x,I x/\cK cb/\aH s/\aH t/\eL 75/\cG k x.1/\wL 81 2 (DJ x)/\F=x.2.2/\dC h h)/\∀x,let J:=bN h 2 (DJ x) (λg j=>K (tV g) x.2.2 j);I x->eH x.1 0 (eH (aF s) 0 (eH (aF t) 0 (iN cb (aF s) x.2.2 h (λu G=>iN cb (aF t) G h (λz A=>dK 0/\(0:Int)<2/\ab s u 1 bV A h (λy=>(0:Int)<=1/\(1:Int)<2/\ab t z 1 bV A h (λE=>∃(I1:Int×Nat×tu×(Int×Int)×Bool×MH->Prop)(f:Int×Nat×tu ×(Int×Int)×Bool×MH->Nat),(∃c,I1 c/\cK cb/\aH s/\aH t/\eL 75/\cG x.1 c.1/\eP 9/\kJ (y==E) (Hk c)/\eL 75/\bP (DJ x).length (DI c)/\bB c.2.1/\oQ 81 ([jX u,jX z])=oQ 81 ([Fi c,Fj c])/\bX (E5 (DJ x) (yN c)) A (Ck c) h h)/\∀c,I1 c->aX c.2.1 (↑(DI c):Int) (GW (vM c.2.1) (c.2.1<nV (yN c)) (λe=>yT (yN c) (tY c.2.1) e/\∃B,let H:=Rz (λd=>I1 d) (λd=>f d) (f c) cb s t c (λd=>d) (λd=>A7 (Hk d)/\eL 75/\bP (DI c) (DI d)/\fI (bA c.2.1 1)=bR d.2.1/\oQ 81 ([Fi c,Fj c])=oQ 81 ([Fi d,Fj d])/\E5 (yN c) (yN d)/\Ck c=Ck d/\h=h/\True);List.take 2 (List.drop 0 e)=Bk B/\branch (Hk c) (dK 0/\(0:Int)<2/\dK 0/\(0:Int)<2/\cM B.1 (J9 c).1 (dK 1/\(1:Int)<2/\dK 1/\(1:Int)<2/\Rz (λd=>I1 d) (λd=>f d) (f c) cb s t c (λd=>d) (λd=>kJ (B.2 !=(J9 c).2) (Hk d)/\eL 75/\bP (DI c) (DI d)/\fI (bA c.2.1 1)=bR d.2.1/\oQ 81 ([Fi c,Fj c])=oQ 81 ([Fi d,Fj d])/\E5 (yN c) (yN d)/\Ck c=Ck d/\h=h/\True)) H) H)) (branch (Hk c) (lJ (yN c) 16 (∃d,I d/\n d<n x/\cK cb/\aH s/\aH t/\eL 75/\cG (jQ c.1 1) d.1/\cE 81 2 (hZ (yN c) (Bk (J9 c)))=cE 81 2 (DJ d)/\gM (Ck c) d.2.2 h h)) (∃d,I d/\n d<n x/\cK cb/\aH s/\aH t/\eL 75/\cG (jQ c.1 1) d.1/\E5 (yN c) (DJ d)/\gM (Ck c) d.2.2 h h))))))) J) J) J)
theorem ph:uz 55 cUQ:=by
 refine gV func55 ?_;rintro L m h K⟨cb,s,t,a,b,rfl,M,C,D,l1,l2,O⟩;refine⟨nw cb s t h,rfl,aD EP aG,jl cb s t,bt,?_⟩;dsimp only[jl,push_cast];have P:=C.e;have Q:=D.e;refine⟨cb,3,rfl,M,λk g E R d j=>⟨λ⟨n,on,A⟩=>0<=n/\n<=2/\(on.length:Int)<=2-n/\aZ m A cb/\aJ A h cb,λ⟨n,_,_⟩=>n.toNat,⟨(k,[],g),⟨E,aC,cv,d,j⟩,MT⟩,?_⟩⟩;clear E R d j g;rintro⟨n,on,g⟩⟨n0,n1,S,d,j⟩;dsimp only;have en:∀(e:Sl)(h':PH),PH.le h h'->bT h' e 2 (on.map oY)->K (.val (.slice e.a e.len e.cap)) g h':=λe h' o u=>O e on g h' o ⟨u,aC⟩ aC d (j.mono o);refine aE (λhn=>aE (λhp=>aE (λhq=>?_) (λ_=>en)) (λ_=>en)) (λ_=>en);refine⟨cb,s.len,rfl,j,λx m2 F x1 G T=>⟨cb,t.len,rfl,T,λy c H y1 I J=>?_⟩⟩;have⟨U,V,W,X⟩:=C.nt (n:=x) F aC;have⟨Y,Z,e2,r2⟩:=D.nt (n:=y) H aC;refine⟨aC,aC,U,V,W,F,aC,_,.ay X,aC,aC,Y,Z,e2,H,aC,_,.ay r2,?_⟩;refine⟨λ⟨n',i,B,p,f,A⟩=>n'=n/\B=on/\A=c/\i<=on.length,λ⟨_,i,_,_,_,_⟩=>on.length-i,⟨(n,0,on,(x,y),a.getD x.toNat 0==b.getD y.toNat 0,c),⟨rfl,rfl,rfl,aC⟩,?_⟩,?_⟩
 .rw[length_map];exact MT
 rintro⟨n,i,on,p,f,c⟩⟨rfl,rfl,rfl,hi⟩;dsimp only;refine aE (λa'=>?_) (λa0=>?_)
 .have hl:i<on.length:=by omega
  have z:(on.map oY)[i]?=some (oY on[i]):=da
  refine⟨aC,da,_,z,on[i],rfl,aB (λ_=>⟨aC,aC,aC,aC,aB (λ_=>⟨aC,aC,aC,aC,(n,i+1,on,p,_,c),⟨rfl,rfl,rfl,gt⟩,ge,MT⟩) (λ_=>⟨(n,i+1,on,p,_,c),⟨rfl,rfl,rfl,gt⟩,ge,MT⟩)⟩) (λ_=>⟨(n,i+1,on,p,_,c),⟨rfl,rfl,rfl,gt⟩,ge,MT⟩)⟩
 .have hw:IntKind.i64.wrap (n-1)=n-1:=dW aC aC;rw[hw];refine aB (λ_=>⟨da,da,(n-1,on++[p],c),⟨aC,aC,cv,(d.trans G).trans I,J⟩,aC,?_⟩) (λ_=>⟨(n-1,on,c),⟨aC,aC,da,(d.trans G).trans I,J⟩,aC,MT⟩);rw[sn];exact MT
def dYJ:AC:=λd m h K=>∃s cs,∃c:Nat,d=[cS s,cI c]/\bT h s 1 (dE cs)/\s.len<=s.cap/\c<=1000/\∀cb m' h',PH.le h h'->m cb=none->aZ m m' cb->aJ m' h' cb->K (cP cb) m' h'
def buZ(s:Sl)(c:Nat):ST:=λm h K=>let A:=ite (c<aF s) ↑c (aF s);uF (dK A) (xB A s) (λy=>dA 1 y/\mH m h (Sl.mk s.a A.toNat s.cap) 1 y/\zA y 1/\cJ y.length/\bN h 1 y (λf d=>∀b e,eT m d b->cF m e b (Ep f 0) 88->K (jN b) e d))
theorem Mi l:dA 1 (dE l):=by
 constructor
 .intro e c;obtain⟨x,_,rfl⟩:=mem_map.1 c;rfl
 .intro e c u d;obtain⟨x,_,rfl⟩:=mem_map.1 c;simp at d;subst d;rfl
theorem bT.cut{s}(r:bT h s sz xs) n(c:n<=xs.length):bT h ⟨s.a,n,s.cap⟩ sz (xs.take n):=by
 refine⟨cv,?_,by have d:=r.len;have f:=r.cap;grind⟩;rcases r.row with e|⟨b,o,g,k⟩
 .grind
 grind
theorem cpJ:uz 7 dYJ:=by
 refine gV func7 ?_;rintro o m h K⟨s,cs,c,rfl,g,z,A,t⟩;refine⟨tH [] [] [] [] [88] [] false,rfl,aG,buZ s c,bt,?_⟩;have B:s.len=cs.length:=by have:=g.len;grind[dE]
 dsimp only[buZ,push_cast];have d:(if(c:Int)<(s.len:Int)then(c:Int)else(s.len:Int))=((min c s.len:Nat):Int):=by omega
 rw[d];have j:=bT.cut g (min c s.len) (by grind[dE]);refine⟨aC,aC,dE (cs.take (min c s.len)),Mi _,.ay ?_,by grind[dE],by grind[dE],λu h' f e b m' y n=>?_⟩
 .grind[dE,min,map_take]
 .exact t b m' h' f y.m_ ⟨n.ai⟩ ⟨_,⟨⟨u,_,0,n.y,e,aC,cv,rfl⟩⟩⟩
def dFJ:AC:=λc m h K=>∃n:Nat,c=[.val (.slice none 0 0),cI n]/\n<=1000/\K (.au 3 1 []) m h
def cxQ c m h:=
 dD [(218,dFJ)] [(3,{A:=Nat×Nat,st:=λ⟨i,n⟩=>bO 36 37 ([(0,sv c),(3,iv n)]++WF 9 c i) [] m h}),
  (11,{A:=Nat×ti,st:=λ⟨i,l⟩=>bO 36 37 ([(6,.at (.au 24))]++WF 25 c i) [(24,.au 3 1 (l.map eI))] m h})] [] [] false
def Px(n:Nat):ST:=λm h K=>eH (jQ n (jQ 0 0)) 0 (dK 0/\dK 0/\0<jQ n 0/\NG (jQ n 0*8)/\NG (jQ n 0)/\(0:Int)<=0/\dK (nV (DX (jQ n 0) (bV 0)))/\K (CV.au 3 1 []) m h) (K (CV.au 3 1 []) m h)
def V0 d:=λm h K=>Nq (λI x=>I x/\aH d/\bB x.2/\aH d/\aY d/\bB x.1/\m=m/\h=h/\True) (λI g x=>I x->aX x.1 (aF d) (ab d x.1 1 aT m h (λy=>aX (bA x.2 (aF y)) 0 False (∃c,I c/\g c<g x/\aH d/\fI (bA x.2 (aF y))=bR c.2/\aH d/\aY d/\fI (bA x.1 1)=bR c.1/\m=m/\dC h h))) (∃n:Nat,dZ EO x.2=dZ EO n/\qL n/\∃(I1:Nat×ti->Prop)(j:Nat×ti->Nat),(∃c,I1 c/\eL 24/\aH d/\aY d/\bB c.1/\wX c.2/\m=m/\h=h/\True)/\∀c,I1 c->aX c.1
 (aF d) (ab d c.1 1 aT m h (λy=>∃e,dA 1 e/\bT h (bK y) 1 e/\lK (gE c.2) e 8/\cJ (lL (gE c.2) e)/\∃f,I1 f/\j f<j c/\eL 24/\aH d/\aY d/\fI (bA c.1 1)=bR f.1/\tO (gE c.2++e) f.2/\m=m/\dC h h)) (rH h (gE c.2) K m)))
theorem aVQ:uz 218 dFJ:=by
 refine gV func218 ?_;rintro c m h K⟨n,rfl,d,e⟩;refine⟨dD [] [] [] [] true,rfl,aG,Px n,bt,?_⟩;dsimp only[Px,push_cast]
 grind[Px,dW,aE]
def CX(ks:List ti):=(ks.map List.length).sum
theorem Qr{k}(c:ks[i]?=some k):CX (ks.take (i+1))=CX (ks.take i)+k.length:=by
 grind[CX,sy]
theorem OK{ks:List ti}(h:∀k∈ks,k.length<=12):∀i,CX (ks.take i)<=12*i
 |0=>by simp[CX]
 |i+1=>by
  have c:=OK h i;cases e:ks[i]? with
  |none=>grind[sy]
  |some k=>rw[Qr e];grind
theorem aYJ:uz 193 R9:=by
 refine gV func193 ?_;rintro F m h K⟨B,ks,rfl,y,M,d,G⟩;refine⟨cxQ B m h,rfl,aD aVQ aG,V0 B,bt,?_⟩;dsimp only[V0,push_cast];have j:=aU.e y;refine⟨λ⟨i,n⟩=>i<=ks.length/\n=CX (ks.take i),λ⟨i,_⟩=>ks.length-i,⟨(0,0),⟨aC,by simp[CX]⟩,MT⟩,?_⟩;rintro⟨i,n⟩⟨C,rfl⟩;dsimp only;have H:=OK d i;refine aE (λc=>?_) (λt=>?_)
 .have⟨k,f⟩:=eF j c;have⟨b,o,g,z,r,e⟩:=aU.at y f;have I:=e.e;have u:=d k (si f)
  have J:IntKind.i64.wrap ((CX (ks.take i):Int)+(g.len:Int))=((CX (ks.take (i+1)):Nat):Int):=by
   grind[Qr,dW]
  refine⟨b,o,z,aC,c,g,.ay r,?_⟩;rw[J];exact aE (λD=>by omega) (λ_=>⟨(i+1,CX (ks.take (i+1))),⟨aC,rfl⟩,aC,MT⟩)
 .refine⟨CX (ks.take i),rfl,aC,?_⟩;refine⟨λ⟨i,l⟩=>i<=ks.length/\l=(ks.take i).flatten,λ⟨i,_⟩=>ks.length-i,⟨(0,[]),⟨aC,bu⟩,MT⟩,?_⟩;clear H t C;rintro⟨i,l⟩⟨C,rfl⟩;dsimp only;have L:(ks.take i).flatten.length<=12*i:=by grind[CX,OK,length_flatten]
  refine aE (λc=>?_) (λt g h' A E=>G g h' A ⟨?_,?_⟩)
  .have⟨k,f⟩:=eF j c;have⟨b,o,g,z,r,e⟩:=aU.at y f;have u:=d k (si f);refine⟨b,o,z,aC,c,g,.ay r,k.map eI,lZ k,e.row,?_,?_,(i+1,(ks.take (i+1)).flatten),⟨aC,rfl⟩,aC,?_⟩
   .grind
   .grind
   .rw[sy,f,Option.toList_some,flatten_append,sn,flatten_cons,flatten_nil,append_nil];exact MT
  .grind
  grind
theorem bdZ:∀N,uz 112 (Ef N):=auQ aYJ
mutual
def AS:ae->Nat->Int->Bool×Int
 |.mk _ _ _ _ _ _ _ _ args,k,n=>if 24<n+1\/k=0 then(false,0)else H3 args (k-1) (n+1)
def H3:List ae->Nat->Int->Bool×Int
 |[],_,n=>(true,n)
 |q::qs,k,n=>match AS q k n with|(false,_)=>(false,0)|(true,c)=>H3 qs k c
end
mutual
def szQ:ae->Int
 |.mk _ _ _ _ _ _ _ _ args=>1+L6 args
def L6:List ae->Int
 |[]=>0
 |p::ps=>szQ p+L6 ps
end
mutual
theorem XB:∀p:ae,1<=szQ p
 |.mk _ _ _ _ _ _ _ _ args=>by have:=Im args;grind[szQ]
theorem Im:∀ps:List ae,0<=L6 ps
 |[]=>by simp[L6]
 |p::ps=>by have:=XB p;have:=Im ps;grind[L6]
end
mutual
theorem UZ:∀(p:ae)(n:Int),n<=24->(n+szQ p<=24->qV p n=n+szQ p)/\(24<n+szQ p->qV p n=25)
 |.mk _ _ _ _ _ _ _ _ args,n,h=>by
  have⟨c,d⟩:=SG args (n+1) aC
  grind[qV,szQ]
theorem SG:∀(ps:List ae)(n:Int),n<=25->(n+L6 ps<=24->mA ps n=n+L6 ps)/\(24<n+L6 ps->mA ps n=25)
 |[],n,h=>by
  grind[mA,L6]
 |p::ps,n,h=>by
  have e:=XB p;have f:=Im ps;simp only[mA,L6];by_cases c:n<=24
  .rw[if_pos c];have g:=UZ p n c;have d:=(GQ p n c).2;have j:=SG ps _ d;omega
  omega
end
mutual
theorem Xu:∀(p:ae)(k:Nat)(n:Int),n<=24->((AS p k n).1=true↔n+szQ p<=24/\pC p k=false)/\((AS p k n).1=true->(AS p k n).2=n+szQ p)
 |.mk _ _ _ _ _ _ _ _ args,k,n,h=>by
  have e:=Im args;simp only[AS,szQ];by_cases d:24<n+1\/k=0
  .grind[pC]
  .rw[if_neg d];obtain⟨c,rfl⟩:∃c,k=c+1:=⟨k-1,aC⟩
   have⟨f,g⟩:=Y6 args c (n+1) aC
   grind[pC,Nat.add_sub_cancel]
theorem Y6:∀(ps:List ae)(k:Nat)(n:Int),n<=24->((H3 ps k n).1=true↔n+L6 ps<=24/\uJ ps k=false)/\((H3 ps k n).1=true->(H3 ps k n).2=n+L6 ps)
 |[],k,n,h=>by simp[H3,L6,uJ,h]
 |p::ps,k,n,h=>by
  have⟨c,d⟩:=Xu p k n h;have j:=Im ps;simp only[H3,L6,uJ];cases e:AS p k n with
  |mk r f=>
   rw[e]at c d;cases r with
   |false=>
    grind
   |true=>
    have g:=d rfl;have c:=c.1 rfl;simp only at g;have⟨o,t⟩:=Y6 ps k f aC
    grind
end
theorem UH q:(AS q 8 0).1=y9 q:=by
 have c:=(Xu q 8 0 aC).1;have d:=UZ q 0 aC
 grind[y9]
def Mn:Code->Option (Code×Code)
 |.rangeFunc _ _ a b=>some (a,b)
 |.seq x y=>match Mn x with|some p=>some p|none=>Mn y
 |.block _ c=>Mn c
 |_=>none
noncomputable def rfA:=match Mn (cZ Tryz.f68)with|some p=>p.1|none=>.skip
noncomputable def rfB:=match Mn (cZ Tryz.f68)with|some p=>p.2|none=>.skip
structure LR where
 fn:FuncId
 tmps:Array Value
 bn:Nat
 b6:Nat
 b7:Nat
 D:Nat
def uR(R:LR)(st:LoopState)(c:Option Code):Loop:={state:=st,pending:=c,fn:=R.fn,tmps:=R.tmps,params:=#[37,38],assign:=rfA,body:=rfB,defers:=R.D}
def K1:Obj:=.cells #[.slice none 0 0] 31 (0,0)
def IZ(n:Int):Obj:=.cells #[.int .i64 n] 47 (0,0)
structure B3(m:MH)(l:Nat)(R:LR)(n:Int):Prop where
 loop:m l=some (.loop (uR R .ready none))
 n_:m R.bn=some (xV n)
 k_:m R.b6=some K1
 e_:m R.b7=some (IZ 0)
 size:R.tmps.size=53
 t11:R.tmps[11]?=some (.pointer (some ⟨R.bn,0,none⟩))
 t6:R.tmps[6]?=some (.pointer (some ⟨R.b6,0,none⟩))
 t7:R.tmps[7]?=some (.pointer (some ⟨R.b7,0,none⟩))
structure CI(m m':MH)(l:Nat)(R:LR):Prop where
 loop:m' l=some (.loop (uR R .done (some .ret)))
 k_:m' R.b6=some K1
 e_:m' R.b7=some (IZ 2)
 n_:∃x,m' R.bn=some x
 ai:∀b,b≠l->b≠R.bn->b≠R.b6->b≠R.b7->m' b=m b
theorem B3.ne{l R n}(x:B3 m l R n):l≠R.bn/\l≠R.b6/\l≠R.b7/\R.b6≠R.bn/\R.b7≠R.bn/\R.b6≠R.b7:=by
 have c:=x.loop;have g:=x.n_;have d:=x.k_;have f:=x.e_;refine⟨λe=>?_,λe=>?_,λe=>?_,λe=>?_,λe=>?_,λe=>?_⟩
 .rw[e,g]at c;cases c
 .rw[e,d]at c;cases c
 .rw[e,f]at c;cases c
 .rw[e,g]at d;cases d
 .rw[e,g]at f;cases f
 .rw[e,f]at d;cases d
theorem B3.next{l R n d}(x:B3 m l R n)(c:iZ m m' R.bn (xV d)):B3 m' l R d:=by
 have⟨e,j,o,f,g,t⟩:=x.ne;exact⟨by rw[c.ai l e];exact x.loop,c.y,by rw[c.ai _ f];exact x.k_,by rw[c.ai _ g];exact x.e_,x.size,x.t11,x.t6,x.t7⟩
theorem CI.from{c l R e}(f:iZ m c R.bn (xV e))(h:CI c m' l R):CI m m' l R:=
 ⟨h.loop,h.k_,h.e_,h.n_,λb g d j n=>(h.ai b g d j n).trans (f.ai b d)⟩
def yv(l:Nat):CV:=.val (.func (.yield l) #[] #[])
def YS:AC:=λd m h K=>∃l c v R n,d=[yv l,cI c,aQ v]/\B3 m l R n/\0<=n/\n<=24/\
 (∀m',(24<n+1\/8<c)->CI m m' l R->K (cB false) m' h)/\(∀m',¬(24<n+1\/8<c)->iZ m m' R.bn (xV (n+1))->K (cB true) m' h)
def bkX(N:Nat):AC:=λc m h K=>∃v q,∃k l:Nat,∃R n,c=[aQ v,cI (9-k),yv l]/\cQ h q v/\SizeOf.sizeOf q<N/\k<=9/\B3 m l R n/\0<=n/\n<=24/\
 (∀m',(AS q k n).1=false->CI m m' l R->K (cB false) m' h)/\(∀m',(AS q k n).1=true->iZ m m' R.bn (xV (AS q k n).2)->K (cB true) m' h)
def biQ(b:Nat):CV:=.val (.pointer (some ⟨b,0,none⟩))
def dXQ:AC:=λc m h K=>∃v q l d R,c=[yv l,biQ d]/\m d=some (.cells ⟨v.ag⟩ 68 (0,0))/\cQ h q v/\B3 m l R 0/\
 (∀m',(AS q 8 0).1=false->CI m m' l R->K (.dg []) m' h)/\(∀m',(AS q 8 0).1=true->iZ m m' R.bn (xV (AS q 8 0).2)->K (.dg []) m' h)
def Xm:AC:=λc m h K=>∃v,c=[aQ v]/\∀b m',eT m h b->iZ m m' b (.cells ⟨v.ag⟩ 68 (0,0))->K (.val (.func (.func 147) #[] #[.pointer (some ⟨b,0,none⟩)])) m' h
def cCX(N:Nat)(v:QV)(k l:Nat)(h:PH):=
 {dD [(148,bkX N)] [(4,{A:=Nat×MH,st:=λ⟨i,m⟩=>bO 28 31 ([(1,iv (9-k)),(2,vv (.func (.yield l) #[] #[]))]++WF 15 v.args i) [] m h})] [] [] false with yield:=some YS}
abbrev RU a:=Qb Tryz.prog a
abbrev FB(a:Nat):CV:=.val (.func (Fn.yield a) yZ yZ)
abbrev HE a:=eQ (FE (Fn.yield a) yZ)
abbrev DM(a:QV)(b:Int)(c:Nat):=bE a.ag (nN (fD b) (FB c))
abbrev BP(a:tt)(b:Nat->Option Obj)(c:Nat->Nat->Option Value):=a (CV.dg []) b c
abbrev D7(a:Nat):Array Value:=.mk [py a 0]
attribute [push_cast] RU FB HE DM BP D7
def Wk(N:Nat)(v:QV)(k l:Nat):ST:=λm h K=>RU YS/\KT (λj t=>∃(B:QV)(R:_)(n:_),FB l::bL (fD (yF k)) v.ag=FB j::bL (fD t) B.ag/\B3 m j R n/\dK n/\n<=24/\(∀d,(24<n+1\/8<t)->CI m d j R->K bH d h)/\∀d,jP (24<n+1\/8<t)->cF m d R.bn (bV (n+1)) 3->∃(I:Nat×MH->Prop)(z:Nat×MH->Nat),(∃x,I x/\bM (yF k)/\HE l/\aH v.args/\rQ v/\bB x.1/\d=x.2/\h=h/\True)/\∀x,I x->aX x.1 (aF v.args) (ab v.args x.1 21 QV.ag x.2 h (λy=>mQ (λA q=>aM (λe u=>∃R1 c,DM y (j6 (yF k) 1) l=DM A
 (yF e) u/\cQ h q A/\pR q N/\e<=9/\B3 x.2 u R1 c/\dK c/\c<=24/\(∀f,J8 (AS q e c).1->CI x.2 f u R1->K bH f h)/\∀f,mZ (AS q e c).1->cF x.2 f R1.bn (bV (AS q e c).2) 3->∃g,I g/\z g<z x/\bM (yF k)/\HE l/\aH v.args/\aY v.args/\fI (bA x.1 1)=bR g.1/\f=g.2/\dC h h)))) (K eE x.2 h))
def b7J N l e:=λm h K=>∃y,aK m h e 0 y.ag/\mQ (λv q=>aM (λk d=>∃R n,DM y 1 l=DM v (yF k) d/\cQ h q v/\pR q N/\k<=9/\B3 m d R n/\dK n/\n<=24/\(∀c,J8 (AS q k n).1->CI m c d R->BP K c h)/\∀c,mZ (AS q k n).1->cF m c R.bn (bV (AS q k n).2) 3->BP K c h))
def PS(v:QV):ST:=λm h K=>∀b c,eT m h b->cF m c b v.ag 68->K (vB 147 (D7 b)) c h
theorem aqZ(T:Qb Tryz.prog YS):∀N,uz 148 (bkX N)
 |0=>by
  refine gV func148 ?_;rintro G m h K⟨v,q,k,l,R,n,rfl,_,V,_⟩;omega
 |N+1=>by
  refine gV func148 ?_;rintro G m h K⟨v,q,k,l,R,n,rfl,W,V,hk,U,X,Y,H,I⟩;refine⟨cCX N v k l h,rfl,aD (aqZ T N) aG,Wk N v k l,bt,?_⟩;dsimp only[Wk,push_cast];have d:=W.args;have z:=d.e;have hl:=d.len;refine⟨T,l,9-k,v,R,n,rfl,U,X,Y,λm' J t=>H m' ?_ t,λm' J Z=>?_⟩
  .cases q;grind[AS]
  have J:¬(24<n+1\/8<9-(k:Int)):=J;have L:iZ m m' R.bn (xV (n+1)):=Z;have hv:AS q k n=H3 q.args (k-1) (n+1):=by cases q;grind[AS,ae.args]
  rw[hv]at H I;refine⟨λ⟨i,E⟩=>∃g,i<=q.args.length/\0<=g/\g<=24/\iZ m E R.bn (xV g)/\H3 (q.args.drop i) (k-1) g=H3 q.args (k-1) (n+1),λ⟨i,_⟩=>q.args.length-i,⟨(0,m'),⟨n+1,aC,aC,aC,L,bu⟩,MT⟩,?_⟩;rintro⟨i,E⟩⟨g,hi,M,A,j,B⟩;dsimp only;refine aE (λC=>?_) (λa'=>?_)
  .have⟨p,O⟩:=eF z C;have⟨b,o,u,ea,P,Q⟩:=d.at O;have hd:=ci O;rw[hd,H3]at B;refine⟨b,o,ea,aC,C,u,.ay P,u,p,k-1,l,R,g,?_,Q,?_,aC,U.next j,M,A,λF y t=>?_,λF y S=>?_⟩
   .grind[dW]
   .have:=vV (si O);omega
   .refine H F ?_ (t.from j)
    grind
   .have f:iZ E F R.bn (xV (AS p (k-1) g).2):=S;have t:=Xu p (k-1) g A;have a0:=t.1.1 y;have D:=t.2 y;have a1:=XB p;cases e:AS p (k-1) g with
    |mk r x=>
     rw[e]at y B D f;simp only at y D f;subst y;exact⟨(i+1,F),⟨x,aC,aC,aC,j.trans f,B⟩,aC,MT⟩
  .rw[drop_of_length_le aC,H3]at B;rw[<-B]at I;exact I E rfl j
theorem a9Q(c:Qb Tryz.prog YS):uz 147 dXQ:=by
 refine gV func147 ?_;rintro d m h K⟨v,q,l,e,R,rfl,f,g,j,n,o⟩;refine⟨WP [(148,bkX (SizeOf.sizeOf q+1))],rfl,aD (aqZ c _) aG,b7J (SizeOf.sizeOf q+1) l e,bt,?_⟩;exact⟨v,.i f rfl,v,q,8,l,R,0,rfl,g,aC,aC,j,aC,aC,n,o⟩
theorem bdJ:uz 111 Xm:=by
 refine gV func111 ?_;rintro c m h K⟨v,rfl,d⟩;refine⟨WP [],rfl,aG,PS v,bt,?_⟩;exact d
end Go.Ps
